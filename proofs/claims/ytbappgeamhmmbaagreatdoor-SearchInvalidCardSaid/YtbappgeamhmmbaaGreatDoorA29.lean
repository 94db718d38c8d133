/- W09h -/
import Derived.Test.YtbappgeamhmmbaaGreatDoorA24
import Derived.Test.YtbappgeamhmmbaaGreatDoorA28
set_option linter.all false
set_option maxRecDepth 100000
set_option maxHeartbeats 0
namespace Go.Proofs.YtbappgeamhmmbaaGreatDoor
noncomputable section
open Go Go.TI Tryz
attribute [-simp] List.map_take List.map_drop List.map_append fj ez TI.d8 Bool.not_or Bool.not_and
attribute [simp] fh eG
def aeG(b:T):Prop:=∃(a:j1) (c:iw),b= .tuple [a.t,c.t]/\IY a.dI/\a.dI.length<=80
def JO:mW prog cx 32 (λi:jG×List iW=>[i.1.t,sl (i.2.map iW.t)]) (λi=>(∀o∈i.1.dC,o.iY.length<=10000001)/\i.2.length<=80) (λ_=>aeG):=by
 refine xN (tb:=⟨pt [(75,v7.ji),(77,DS.ji)],ht [(76,jr IFr TX Np)]⟩) iB gW (iP 1271 [(3,[(0,2),(2,8),(4,8)]),(4,[(4,5)])] func32) (λ_=>105) (λi v l=>by simp at l;exact aI (jG.inj l.1) (jt (λ_ _ l=>iW.inj l) l.2)) J nl9 ?_;rintro⟨k,C⟩ ⟨n,y⟩ aX z;simp only at n y;simp at z;obtain⟨s,u⟩:=z;obtain⟨_,⟨v,rfl,aN⟩,x⟩:=v7.use k n;obtain⟨_,⟨Q,rfl,S,G⟩,E⟩:=DS.use k n;cases v with
 |false=>
  simp[f32,s,u,x];exact⟨⟨⟨[],[],[],[],[],[]⟩,[]⟩,⟨⟨[],0,[],[]⟩,[],[],[]⟩,rfl,λe M=>by simp at M,J⟩
 |true=>
  simp[f32,s,u,x,E];generalize j:((hE.cons _).cons _).cons _=h;have P:gH 0 h:=by rw[<-j];exact⟨J,J,J⟩
  have aE:h.size=3:=by rw[<-j];rfl
  have W:h.get 0=some (Z 7 0 [k.t]):=by rw[<-j];simp
  have X:h.get 1=some (Z 7 0 [.agg [dw,dw,dw,dw,dw,dw,dw]]):=by rw[<-j];simp
  have ae:h.get 2=some (Z 7 0 [.agg [dw,D 0,dw,dw,dw,dw,dw]]):=by rw[<-j];simp
  clear j;refine lO NY J ⟨k,Q,C⟩ ⟨rfl,P,n,S,G,y⟩ ?_;rintro _ b ⟨A,d,V,rfl,m,w,f,F,hl⟩;have aA:=f.ok.sz;rw[aE]at w aA;have a0:=(f.get 0 B).trans W;have a1:=(f.get 1 B).trans X;have a2:=(f.get 2 B).trans ae;have sv:=λa (N:a<h.size)=>eQ (f.get a N);have T:=sv 0 B;have al:(0=b.size)=False:=dp;have an:(1=b.size)=False:=dp;have av:(2=b.size)=False:=dp;have O:=f.ok.low;have R:em h b b.size=true:=iV (kZ _ f.ok.sz);have okB:gH 0 (b.cons (Z 7 1 [d.t])):=gH.cons ⟨f.ok.hp,f.ok.low,aw _⟩ _;have q:∀a,(b.cons (Z 7 1 [d.t])).get a=if a=b.size then some (Z 7 1 [d.t])else b.get a:=λa=>dO ..;have r:=(q 1).trans ((ao B).trans a1);have p:∀c a,(dT (b.cons (Z 7 1 [d.t])) 1 c).get a=if a=1 then some c else if a=b.size then some (Z 7 1 [d.t])else b.get a:=λc a=>(dF r c a).trans (by rw[q]);have L:=λc=>(p c 2).trans ((ao B).trans ((ao B).trans a2));have G2:∀c g a,(dT (dT (b.cons (Z 7 1 [d.t])) 1 c) 2 g).get a=if a=2 then some g else if a=1 then some c else if a=b.size then some (Z 7 1 [d.t])else b.get a:=λc g a=>(dF (L c) g a).trans (by rw[p]);have U:∀c,em (b.cons (Z 7 1 [d.t])) (dT (b.cons (Z 7 1 [d.t])) 1 c) b.size=true:=λc=>mE r B c;have ap:(b.size=1)=False:=dp;have I:∀c g,TI.fz (dT (dT (b.cons (Z 7 1 [d.t])) 1 c) 2 g) V=some (sl (A.map dY.t)):=λc g=>(m.mono (h':=dT (dT (b.cons (Z 7 1 [d.t])) 1 c) 2 g) λa o=>by
   have⟨_,_,_,_,K,_⟩:=m.box o;have:=H.ej K;have:=w a o;rw[G2,ao B,ao B,ao B]).fz J
  simp[s,u,m.fg,m.cells,a0,a1,a2,T,al,an,av,ap,O,R,dN,p,G2,U,I,q,r,f.ok.hp];exact⟨⟨k.ew,A⟩,d,rfl,F,hl⟩
def Gu:mW prog cx 33 (λc:List Int=>[sl (c.map (T.int .u8))]) okB (λ_ l=>∃a:jG,l=a.t/\∀m∈a.dC,m.iY.length<=10000001):=by
 refine iS [(78,NQ.ji),(61,Ay.ji)] (iP 13 [] func33) (λ_=>105) (λn o b=>by simp at b;exact jt (λ_ _ b=>by simpa using b) b) ?_;rintro c g r d;simp at d;obtain⟨_,⟨k,rfl,i,j⟩,e⟩:=NQ.use c g;obtain⟨_,⟨a,p,q,rfl,h⟩,f⟩:=Ay.use k ⟨i,j⟩;simp[f33,d,e,f];exact⟨a,rfl,h⟩
def aex(b:T):Prop:=∃a:j1,b=a.t/\IY a.dI/\a.dI.length<=80
def DQ:mW prog cx 9 (λa:List Int×List Int=>[sl (a.1.map (T.int .u8)),sl (a.2.map (T.int .u8))]) (λa=>okB a.1/\okB a.2/\a.2.length<=80) (λ_=>aex):=by
 refine iS [(33,Gu.ji),(34,DX.ji),(32,JO.ji)] (iP 51 [] func9) (λ_=>105) (λa s b=>by simp at b;exact aI (jt (λ_ _ b=>by simpa using b) b.1) (jt (λ_ _ b=>by simpa using b) b.2)) ?_;rintro⟨i,h⟩ ⟨e,d,p⟩ v f;simp only at e d p;simp at f;obtain⟨n,o⟩:=f;obtain⟨_,⟨j,rfl,q⟩,k⟩:=Gu.use i e;obtain⟨_,⟨g,rfl,t⟩,l⟩:=DX.use h ⟨d,B⟩;obtain⟨_,⟨r,u,rfl,m,hl⟩,c⟩:=JO.use (j,g) ⟨q,dq⟩;simp only at c;simp[f9,n,o,k,l,c];exact⟨r,rfl,m,hl⟩
def aeB(c:T):Prop:=∃(a:List eJ) (b:Int),c= .tuple [sl (a.map eJ.t),D b]/\∀d∈a,kM d
def Py{d:fw}(ht:d.p 36=some sZ)(b:dR)(a:List dY)(c:Nat)(e:jE b=true)(f:IY a)(g:c<=a.length)(h:a.length<=1000):rl prog cx d 36 [j1.t ⟨b,a⟩,D c]=some (nP b (js b) (a.take c)).t:=gG ht LC (⟨b,a⟩,c) ⟨e,f,g,h⟩
def Qn{w:dR}{b:List dY}(g:o9 w b=true)(d:jE w=true)(i:IY b){e:Nat}(j:e<=16)(a:Nat):kM (wD w b e a):=by
 have⟨c,h,l⟩:=yN g;have⟨m,n,o,p,q,r⟩:=qF d;refine⟨Mw c h j a,d,?_,λf k=>i f (bw (br k)),KB B _ _ (vM c a) (uH 4 w),Xc (KL d) _ _ (vM c a) (Bu w w)⟩;have:=(tR w B).nP (w:=w) (b.take a);exact this.up dp 
def DT:mW prog cx 10 (λi:j1×Nat=>[i.1.t,D i.2]) (λi=>IY i.1.dI/\i.1.dI.length<=1000000/\1<=i.2/\i.2<=16) (λ_=>aeB):=by
 refine iS [(35,DY.ji),(36,sZ)] (iP 138478519 [(10,[(2,6),(6,8),(6,14),(6,17)])] func10) (λ_=>2000) (λi b g=>by simp at g;exact aI (j1.inj g.1) (by have:=g.2;omega)) ?_;rintro⟨⟨e,c⟩,a⟩ ⟨w,hl,W,L⟩ m K;simp only at w hl W L;simp at K;obtain⟨Q,h⟩:=K;obtain⟨_,⟨x,y,rfl,an⟩,T⟩:=DY.use ⟨e,c⟩ ⟨w,hl⟩;simp[f10,Q,h,T];refine dV (λM=>?_) (λM=>?_)
 ·simp;exact⟨[],12,rfl,J⟩
 have q:o9 e c=true:=an.1 (by simpa using M);have N:jE e=true:=by
  unfold o9 at q;simp only[az]at q;exact q.1.2
 have bn:c.length<=400:=(yN q).2.2;simp[h,show¬(a:Int)<1 by omega,show¬(16:Int)<a by omega];generalize F:(c.length+(a-1))/a=o;have bl:o<=c.length+16:=by rw[<-F];exact aO (Nat.div_le_self _ _) B
 refine fc o B (λn m g=>∃s d,d=n*a/\dM s≠some 0/\Gr g s 15 (((List.range n).map λj=>wD e c a (j*a)).map eJ.t)/\gH 1 g/\g.get 0=some (Z 7 0 [j1.t ⟨e,c⟩])/\dy m 1 (D a)/\dy m 2 (.ptr 0 0 0 0)/\dy m 8 s/\dy m 9 (D (d:Int))) ?_ ?_ B ?_
 ·rintro n m g V _ ⟨s,d,r,G,A,l,u,h,v,C,E⟩;have av:=l.ne (b:=0) B;have X:d<c.length:=by
   rw[r];have h:(n+1)*a<=o*a:=aV a V;have v:o*a<=c.length+(a-1):=by rw[<-F];exact Nat.div_mul_le_self _ _
   rw[bV]at h;omega
  have⟨aX,bi,P,x⟩:=A.mQ (cx:=cx) (f:=eJ.t) ⟨l.hp,l.low,aw _⟩ Wj rfl Wm rfl J (λ_=>rfl) (wD e c a d) dp;have S:=λ{aN:fw} (ht:aN.p 36=some sZ)=>Py ht e c d N w B B;have R:binop .add (D (d:Int)) (D (a:Int))=some (D ((d:Int)+a)):=ij B B;have⟨k,ap,bs⟩:∃k:Nat,min ((d:Int)+a) (c.length:Int)=k/\k=min (d+a) c.length:=⟨min (d+a) c.length,B,rfl⟩;have aA:d<=k:=B;have aE:k<=c.length:=B;have ae:(c.drop d).take (k-d)=(c.drop d).take a:=by
   rw[List.take_eq_take_iff];simp;omega
  have I:=P;unfold wD at I;simp[u,h,v,C,E,av,l.low,S,I,X,R,ap,aA,aE,ae];have hr:((List.range n).map λj=>wD e c a (j*a))++[wD e c a d]=(List.range (n+1)).map λj=>wD e c a (j*a):=by rw[List.range_succ,List.map_append,r];rfl
  rw[hr]at x;obtain⟨O,a7,a8,H⟩:=x;have z:=l.sz;rw[cz]at O;exact⟨aX,λk=>(a8 0 k).elim G B,O,⟨H.hp,H.low,by have:=H.sz;omega⟩,(a7 0 B G).trans u,rfl,by rw[r];simp[Int.add_mul]⟩
 ·rintro m g ⟨s,d,r,G,A,l,u,h,v,C,E⟩;have U:¬d<c.length:=by
   rw[r,<-F];have:=Nat.div_add_mod (c.length+(a-1)) a;have bk:=Nat.mod_lt (c.length+(a-1)) (show a>0 by omega);rw[Nat.mul_comm]at this;omega
  simp[u,h,v,C,E,U];refine⟨.tuple [sl (((List.range o).map λj=>wD e c a (j*a)).map eJ.t),D 0],⟨_,0,rfl,λx al=>?_⟩,l.hp,by rw[A.qA J];rfl⟩;obtain⟨j,_,rfl⟩:=List.mem_map.1 al;exact Qn q N w L _
 ·exact⟨dw,0,J,J,Gr.nil _ _,by exact⟨J,J,J⟩,by simp[h]⟩
end
noncomputable section
open Go Go.TI
structure mJ where
 program:List Int
 schedule:List Int
 DD:List Int
 size:Int
 ut:Int
 deriving DecidableEq,Inhabited
def mJ.cs(a:mJ):List T:=[sl (a.program.map (T.int .u8)),sl (a.schedule.map (T.int .u8)),sl (a.DD.map (T.int .u8)),.int .u8 a.size,.int .u8 a.ut]
def mJ.t(a:mJ):T:= .agg a.cs
@[simp]def mJ.ag (a:mJ):pU a.t [sl (a.program.map (T.int .u8)),sl (a.schedule.map (T.int .u8)),sl (a.DD.map (T.int .u8)),.int .u8 a.size,.int .u8 a.ut] 5:=Bj
@[simp]theorem mJ.fold (a0 a1 a2:List Int) (a3 a4:Int):T.agg [sl (a0.map (T.int .u8)),sl (a1.map (T.int .u8)),sl (a2.map (T.int .u8)),.int .u8 a3,.int .u8 a4]=mJ.t ⟨a0,a1,a2,a3,a4⟩:=rfl
@[simp]theorem mJ.eta (a:mJ):mJ.mk a.program a.schedule a.DD a.size a.ut=a:=rfl
def mJ.inj{a b:mJ}(c:a.t=b.t):a=b:=by
 rcases a with⟨_,_,_,_,_⟩;rcases b with⟨_,_,_,_,_⟩;simp[mJ.t,mJ.cs,TJ,-mJ.fold]at c;simp[c]
end
noncomputable section
open Go Go.TI Tryz
attribute [-simp] List.map_take List.map_drop List.map_append fj ez TI.d8 Bool.not_or Bool.not_and
attribute [simp] fh eG
def byV(a:Int):Prop:=0<=a/\a<256
structure PV(v:mJ):Prop where
 p:okB v.program
 q:okB v.schedule
 s:okB v.DD
 z:byV v.size
 w:byV v.ut
def NA:mW prog cx 4 (λc:mJ=>[c.t,D 8]) PV (λ_=>Sj):=by
 refine iS [(8,EJ.ji),(9,DQ.ji),(10,DT.ji)] (iP 17592186046583 [(3,[(9,10)])] func4) (λ_=>105) (λa b v=>by simp at v;exact mJ.inj v) ?_;rintro c f aA x;simp at x;obtain⟨g,h⟩:=x;have⟨ae,aN⟩:=f.z;have⟨X,aE⟩:=f.w;obtain⟨_,⟨H,rfl,M⟩,m⟩:=EJ.use (c.DD,(1+c.size% 8).toNat) ⟨f.s,dq⟩;obtain⟨_,⟨n,rfl,N⟩,r⟩:=EJ.use ([],0) ⟨⟨J,J⟩,J⟩;obtain⟨_,⟨W,rfl,K,hl⟩,eT⟩:=DQ.use (c.program,c.schedule.take (min c.schedule.length 80)) ⟨f.p,⟨by have:=f.q.1;simp;omega,λY V=>f.q.2 Y (br V)⟩,dp⟩;obtain⟨_,⟨d,e,rfl,U⟩,l⟩:=DT.use (W,(1+c.size% 8).toNat) ⟨K,dq,dq,dq⟩;simp only at eT l m r;rw[show(((1+c.size% 8).toNat:Nat):Int)=1+c.size% 8 by omega]at l m;have T:∀i:Int,0<=i->i<1000->IntKind.i64.wrap i=i:=λi ap av=>by rw[<-jv,jD B B]
 have u:c.size.tmod 8=c.size% 8:=Int.tmod_eq_emod_of_nonneg ae;have F: -9223372036854775808<=c.size:=B;have G:c.size<9223372036854775808:=B;have C:=Dc (k:= .i64) (a:=c.size) (show¬(8:Int)=0 by omega);have o:=T (1+c.size% 8) B B;simp[f4,g,h];refine dV (λS=>?_) (λS=>?_)
 ·simp[g,h,F,G,C,nG,u,o,m];exact⟨H,rfl,M⟩
 have⟨k,O,P⟩:∃k:Nat,min (c.schedule.length:Int) 80=k/\k=min c.schedule.length 80:=⟨_,B,rfl⟩;rw[<-P]at eT;simp[g,h,O,show k<=c.schedule.length by omega,eT,F,G,C,nG,u,o,l];refine dV (λy=>?_) (λy=>?_)
 ·have I:=λ{E:fw} (ht:E.p 8=some EJ.ji)=>(show rl prog cx E 8 [.fK,D 0]=some n.t from r ht);simp[g,h,I];exact⟨n,rfl,N⟩
 have Q:d≠ []:=by simpa using y
 have al:0<d.length:=by rcases d with _|_<;>simp at Q|-
 have L:c.ut.tmod (d.length:Int)=c.ut% (d.length:Int):=Int.tmod_eq_emod_of_nonneg X;have R:0<=c.ut% (d.length:Int):=Int.emod_nonneg _ B;have an:c.ut% (d.length:Int)<d.length:=Int.emod_lt_of_pos _ B;have⟨j,A⟩:∃j,d[(c.ut% (d.length:Int)).toNat]? =some j:=⟨_,ay B⟩;simp[g,h,show-9223372036854775808<=c.ut by omega,show c.ut<9223372036854775808 by omega,Dc (show¬(d.length:Int)=0 by omega),L,ee R,A];exact⟨j,rfl,U j (ax A)⟩
end
noncomputable section
open Go Go.TI Tryz
section
attribute [-simp] List.map_take List.map_drop List.map_append
@[simp]theorem PB (a:List T):dM (sl a)=none:=by cases a<;>rfl
def sv(a b:aa iI):Bool:=match a,b with|none,_=>true|some _,none=>false|some a,some b=>decide (a.ver=b.ver)
@[simp]def acr (a b:iI):sv (some a) (some b)=decide (a.ver=b.ver):=id rfl
@[simp]def acs (a:aa iI):sv none a=true:=id rfl
def kE(b c:H)(a:Nat):em b c a=sv (b.get a) (c.get a):=by
 unfold em sv;cases b.get a with
 |none=>rfl
 |some d=>cases c.get a<;>simp
def DH:ge:=⟨Int×Nat,λa=>[D a.1,D a.2],λa=>True,λa=> .bool (iR a.1 a.2),λa c b=>by simp at b;rw[b.1,show a.2=c.2 by omega]⟩
def Vl:DH.Ok prog cx 12:=by
 refine fR [] (iP 19 [] func12) (λf=>1) (by simp[DH]) ?_;rintro⟨e,g⟩ _ h a;simp[DH]at a|-;obtain⟨b,c⟩:=a;by_cases d:0<=e<;>simp[f12,b,c,d,iR]
def Up{c:fw}(ht:c.p 12=some DH)(a:Int)(b:Nat):rl prog cx c 12 [D a,D b]=some (.bool (iR a b)):=gG ht Vl (a,b) trivial
def Df:ge:=⟨dY,λa=>[a.t],λa=>True,λa=> .bool (vI a),λa c b=>by simp at b;rw[dY.inj b]⟩
def Q1:Df.Ok prog cx 81:=by
 refine fR [] (iP 7 [] func81) (λd=>1) (by simp[Df]) ?_;rintro(b:dY) _ e a;simp[Df]at a|-;by_cases c:b.kind=3<;>simp[f81,a,c,vI]
def Jd{b:fw}(ht:b.p 81=some Df)(a:dY):rl prog cx b 81 [a.t]=some (.bool (vI a)):=gG ht Q1 a trivial
def Vq:Df.Ok prog cx 178:=by
 refine fR [] (iP 7 [] func178) (λd=>1) (by simp[Df]) ?_;rintro(b:dY) _ e a;simp[Df]at a|-;by_cases c:b.kind=3<;>simp[f178,a,c,vI]
def Pz{b:fw}(ht:b.p 178=some Df)(a:dY):rl prog cx b 178 [a.t]=some (.bool (vI a)):=gG ht Vq a trivial
def xY:ge:=⟨Int,λa=>[D a],λa=>True,λa=> .bool (pN a),λa c b=>by simp at b;rw[b]⟩
def Nz:xY.Ok prog cx 179:=by
 refine fR [] (iP 29 [] func179) (λh=>1) (by simp[xY]) ?_;rintro(b:Int) _ i a;simp[xY]at a|-;by_cases c:b=6
 ·simp[f179,a,c,pN]
 by_cases d:b=8
 ·simp[f179,a,d,pN]
 by_cases e:b=10
 ·simp[f179,a,e,pN]
 by_cases f:b=17
 ·simp[f179,a,f,pN]
 by_cases g:b=21<;>simp[f179,a,c,d,e,f,g,pN]
def RN{b:fw}(ht:b.p 179=some xY)(a:Int):rl prog cx b 179 [D a]=some (.bool (pN a)):=gG ht Nz a trivial
def zp:ge:=⟨dY×dY,λa=>[a.1.t,a.2.t],λa=>True,λa=> .bool (ks a.1 a.2),λa c b=>by simp at b;rw[dY.inj b.1,dY.inj b.2]⟩
def Lu:zp.Ok prog cx 38:=by
 refine fR [(81,Df)] (iP 31 [] func38) (λa=>1) (by simp[zp]) ?_;rintro⟨a,e⟩ _ j f;simp[zp]at f|-;obtain⟨b,c⟩:=f;cases d:vI a with
 |false=>simp[f38,b,c,Jd,d,ks]
 |true=>
  cases g:vI e with
  |false=>simp[f38,b,c,Jd,d,g,ks]
  |true=>
   cases h:decide (a.obj=e.obj)<;>cases i:decide (a.kind=4)<;>simp[f38,b,c,Jd,d,g,h,i,ks]
def CR{c:fw}(ht:c.p 38=some zp)(a b:dY):rl prog cx c 38 [a.t,b.t]=some (.bool (ks a b)):=gG ht Lu (a,b) trivial
def rM:ge:=⟨fM×Int×Int,λa=>[a.1.t,D a.2.1,D a.2.2],λa=>iR a.2.1 a.1.w.dI.length=true/\iR a.2.2 a.1.w.dI.length=true,λa=> .bool (ks (ql a.1.w.dI a.2.1) (ql a.1.w.dI a.2.2)),λa c b=>by simp at b;rw[fM.inj b.1,b.2.1,b.2.2]⟩
def N8:rM.Ok prog cx 134:=by
 refine fR [(178,Df)] (iP 463 [(1,[(8,14),(10,14),(11,14)])] func134) (λb=>1) (by simp[rM]) ?_;rintro⟨m,p,q⟩ c t a;simp[rM]at c a|-;obtain⟨e,f,g⟩:=a;have⟨b,a,n⟩:=im c.1;have⟨d,h,o⟩:=im c.2;have i:=ee (ff.1 c.1).1;have j:=ee (ff.1 c.2).1;rw[show ql m.w.dI p=b by simp[ql,n],show ql m.w.dI q=d by simp[ql,o]];cases k:vI b with
 |false=>simp[f134,e,f,g,i,j,a,h,Pz,kE,k,ks]
 |true=>
  cases l:vI d with
  |false=>simp[f134,e,f,g,i,j,a,h,Pz,kE,k,l,ks]
  |true=>
   cases r:decide (b.obj=d.obj)<;>cases s:decide (b.kind=4)<;>simp[f134,e,f,g,i,j,a,h,Pz,kE,k,l,r,s,ks]
def Bf{d:fw}(ht:d.p 134=some rM)(a:fM)(b c:Int)(e:iR b a.w.dI.length=true)(f:iR c a.w.dI.length=true):rl prog cx d 134 [a.t,D b,D c]=some (.bool (ks (ql a.w.dI b) (ql a.w.dI c))):=gG ht N8 (a,b,c) ⟨e,f⟩
end
end
noncomputable section
open Go Go.TI Tryz
attribute [-simp] List.map_take List.map_drop List.map_append fj ez TI.d8 Bool.not_or Bool.not_and
attribute [simp] fh eG
section
attribute [-simp] size_cons
def rV{e:dR}{d:fa}{a:Int}(h:lY e d=true)(c:iR a e.dW.length=true):∃b,jM a=some a.toNat/\d.dW[a.toNat]? =some b/\ls d a=b:=by
 rw[<-(nL h).1]at c;have⟨b,f,g⟩:=im c;exact⟨b,ee (ff.1 c).1,f,by simp[ls,g]⟩
def Bc{d:dR}{e:fa}{b:Int}(g:lY d e=true)(h:iR b d.fV.length=true):∃a c,jM b=some b.toNat/\d.fV[b.toNat]? =some a/\jM a.j2=some a.j2.toNat/\e.dW[a.j2.toNat]? =some c/\qZ d e b=c:=by
 have⟨a,f,i⟩:=im h;have⟨c,j,k,l⟩:=rV g (qY g f);exact⟨a,c,ee (ff.1 h).1,f,j,k,by simp[qZ,i,l]⟩
def w8{e:dR}{d:fa}{a:Int}(h:lY e d=true)(c:iR a e.dC.length=true):∃b,jM a=some a.toNat/\d.dC[a.toNat]? =some b/\ow d a=b:=by
 rw[<-(nL h).2.2]at c;have⟨b,f,g⟩:=im c;exact⟨b,ee (ff.1 c).1,f,by simp[ow,g]⟩
def kM.at{b:eJ}(j:kM b){i:Int}(c:iR i b.dI.length=true):∃a:dY,b.dI[i.toNat]? =some a/\jM i=some i.toNat/\b.gx.e i=a/\iR a.dQ b.ew.dC.length=true/\ju b.ew a.kind a.obj=true:=by
 have⟨a,d,f,g,h⟩:=j.ok.e c;exact⟨a,d,ee (ff.1 c).1,f,g,h⟩
def kM.rd{w:eJ}(c:kM w){b:Int}(g:iR b w.dI.length=true):(∀d∈(w.gx.s b).dW,d.ed.length<=2000)/\(w.gx.s b).El:=by
 have e:=c.sm.nP (w:=w.ew) (w.dI.take b.toNat);rw[(c.ok.s g).1];exact⟨λd hl=>by have f:=e.r d hl;have h:=c.ok.len;simp at f;omega,e.a⟩
def IW(a:dZ)(b:H):fdW b 0 Qr a.t=some (.val a.fk.t b):=by
 unfold dZ.t dZ.cs fa.t fa.cs;simp[-fa.fold,-dZ.fold]
def vV:ge:=⟨eJ×Int×Int,λa=>[a.1.t,D a.2.1,D a.2.2],λa=>kM a.1/\iR a.2.1 a.1.dI.length=true/\iR a.2.2 a.1.dI.length=true,λa=> .bool (a.1.gx.rD a.2.1 a.2.2),λa c b=>by simp at b;rw[eJ.inj b.1,b.2.1,b.2.2]⟩
def Og:vV.Ok prog cx 37:=by
 refine fR [(39,lm),(80,De)] (iP 77371547675299043809952719 [(1,[(6,12),(8,12),(9,12)])] func37) (λ_=>10) (by simp[vV]) ?_;rintro⟨e,m,r⟩ ⟨h,n,x⟩ an u;simp only at h n x;simp[vV]at u|-;obtain⟨Q,t,R⟩:=u;have⟨V,N,O,P,ae,al⟩:=h.at n;have⟨b,K,L,M,Y,l⟩:=h.at x;have⟨A,k⟩:=h.ok.s n;have z:=(h.rd n).1;have v:=λ{U:fw} (ht:U.p 39=some lm)=>Ae ht xj e m h;generalize nP e.ew e.jA (e.dI.take m.toNat)=C at*
 rw[A]at z k;have a:=GX.rD.eq_1 e.gx m r;rw[M,P,A,show e.gx.w=e.ew from rfl]at a;generalize e.gx.rD m r=W at*
 simp[f37,Q,t,R,K,L,N,O,v,kE];refine dV (λo=>?_) (λo=>?_)
 ·simp at o;simp[a,o]
 have S:¬b.dQ=V.dQ:=by simpa using o
 rw[ao S]at a;simp[t,v,IW];have y:∀c:dP,C.fk.dW[b.obj.toNat]? =some c->c.ed.length<=1099511627776:=λc hl=>by have:=z c (ax hl);omega
 cases d:decide (b.kind=6)with
 |true=>
  have f:b.kind=6:=by simpa using d
  have⟨c,l1,l2,l3⟩:=rV k (kr l B);have hl:=y c l2;rw[aq (.inl f),l3]at a;simp[d,l1,l2,Pt,hl,a]
 |false=>
  cases g:decide (b.kind=10)with
  |true=>
   have f:b.kind=10:=by simpa using g
   have⟨c,l1,l2,l3⟩:=rV k (kr l B);have hl:=y c l2;rw[aq (.inr f),l3]at a;simp[d,g,l1,l2,Pt,hl,a]
  |false=>
   have T:¬(b.kind=6\/b.kind=10):=by simp at d g;omega
   rw[ao T]at a;cases i:decide (b.kind=8)with
   |true=>
    have f:b.kind=8:=by simpa using i
    have⟨c,l1,l2,l3⟩:=rV k (kr l B);rw[aq f,l3]at a;simp[d,g,i,l1,l2,a]
   |false=>
    rw[ao (by simpa using i)]at a;cases j:decide (b.kind=17)with
    |true=>
     have f:b.kind=17:=by simpa using j
     have⟨X,c,E,F,G,H,I⟩:=Bc k (mG l B);rw[aq f,I]at a;simp[d,g,i,j,E,F,G,H,a]
    |false=>
     rw[ao (by simpa using j)]at a;cases q:decide (b.kind=21)with
     |true=>
      rw[aq (by simpa using q)]at a;simp[d,g,i,j,q,a]
     |false=>
      rw[ao (by simpa using q)]at a;simp[d,g,i,j,q,a]
def Fm(d:GX){lo hi:Int}{a b:Nat}(c:dY->Bool)(e:lo=a)(f:hi=b):d.Uq lo hi c=((d.ev.drop a).take (b-a)).all c:=by
 unfold GX.Uq;rw[e,f,show((b:Int)-a).toNat=b-a by omega];rfl
def Em{d:dY->Bool}{c:List dY}{a b:Nat}{e:dY}(f:c[a]? =some e)(g:a<b):((c.drop a).take (b-a)).all d=(d e&&((c.drop (a+1)).take (b-(a+1))).all d):=by
 obtain⟨hl,rfl⟩:=List.getElem?_eq_some_iff.1 f;rw[aH hl,show b-a=(b-(a+1))+1 by omega,List.take_succ_cons,cq]
def kM.nat{c:eJ}{a:Int}(d:iR a c.dI.length=true):∃b:Nat,a=b/\b<c.dI.length:=by
 have:=ff.1 d;exact⟨a.toNat,B,this.2⟩
def x8:ge:=⟨eJ×jq,λe=>[e.1.t,e.2.t],λe=>kM e.1/\iR e.2.a e.1.dI.length=true/\iR e.2.b e.1.dI.length=true,λe=> .bool (decide (e.2.c=0)&&decide (e.2.d=0)&&decide (e.2.kA=[])&&e.1.gx.QC e.2.a e.2.b),λe g f=>by simp at f;rw[eJ.inj f.1,jq.inj f.2]⟩
def NJ:x8.Ok prog cx 13:=by
 refine fR [(38,zp)] (iP 127 [(1,[(7,14),(9,14),(10,14),(11,14)])] func13) (λ_=>10) (by simp[x8]) ?_;rintro⟨a,⟨A,f,g,q,z,C⟩⟩ ⟨c,n,o⟩ E l;simp only at n o;replace c:kM a:=c;simp[x8]at l|-;obtain⟨j,k⟩:=l;have⟨d,a1,a2,a3,a4,a5⟩:=c.at n;have⟨u,h,i,p,x,y⟩:=c.at o;have e:=GX.QC.eq_1 a.gx f g;rw[a3,p,show a.gx.w=a.ew from rfl]at e;generalize a.gx.QC f g=v at*
 cases b:ks d u with
 |false=>
  simp[f13,j,k,a1,a2,h,i,kE,CR,b,e]
 |true=>
  have r:d.kind=3\/d.kind=4:=by unfold ks vI at b;simp at b;exact b.1.1.1
  have m:iR d.obj a.ew.cells.length=true:=by unfold ju at a5;rw[ao B,aq r]at a5;exact a5
  have⟨q,s,t⟩:=im m;simp[f13,j,k,a1,a2,h,i,kE,CR,b,e,s,t,ee (ff.1 m).1]
  ac_rfl
def Ef(a:fa)(b:H):fdW b 3 KQ a.t=some (.val (sl (a.dC.map dE.t)) b):=by
 unfold fa.t fa.cs;simp[-fa.fold]
def yd:ge:=⟨eJ×jq,λe=>[e.1.t,e.2.t],λe=>kM e.1/\iR e.2.a e.1.dI.length=true/\iR e.2.b e.1.dI.length=true,λe=> .bool (decide (e.2.c=0)&&decide (e.2.d=0)&&decide (e.2.kA=[])&&e.1.gx.Qg e.2.a e.2.b),λe g f=>by simp at f;rw[eJ.inj f.1,jq.inj f.2]⟩
def NR:yd.Ok prog cx 14:=by
 refine fR [(39,lm)] (iP 309637306140417614782923263 [(1,[(7,14),(9,14),(10,14),(11,14)]),(9,[(3,7)])] func14) (λ_=>100) (by simp[yd]) ?_;rintro⟨e,⟨aE,a,b,c,d,I⟩⟩ ⟨j,A,G⟩ l Q;simp only at A G;replace j:kM e:=j;simp[yd]at Q|-;obtain⟨al,F⟩:=Q;have⟨L,a1,a2,a3,a4,a5⟩:=j.at A;have⟨C,N,bB,Y,ae,bC⟩:=j.at G;have⟨V,W⟩:=j.ok.s A;have av:=λ{bn:fw} (ht:bn.p 39=some lm)=>Ae ht xj e a j;generalize nP e.ew e.jA (e.dI.take a.toNat)=S at*
 rw[V]at W;have⟨z,bs,bu,bz⟩:=w8 W ae;have h:=GX.Qg.eq_1 e.gx a b;rw[a3,Y,V,bz]at h;generalize e.gx.Qg a b=X at*
 obtain⟨g,rfl,b6⟩:=kM.nat A;obtain⟨f,rfl,b8⟩:=kM.nat G;have cb:=j.ok.len;rw[cv]at a1 N;simp[f14,al,F,a1,N,kE];refine dV (λx=>?_) (λx=>?_)
 ·have:(decide (c=0)&&decide (d=0)&&decide (I=[])&&X)=false:=by
   rw[bX];intro q;rw[h]at q;simp only[az,bM,aL,bF,aZ]at q x;obtain⟨⟨⟨F,r⟩,u⟩,⟨⟨⟨⟨⟨⟨⟨bS,y⟩,v⟩,w⟩,an⟩,bT⟩,bH⟩,bN⟩⟩:=q;subst u;simp[F,r,v,w,an]at x;omega
  simp[this]
 simp only[bE,Bool.and_eq_false_iff,bP,aZ,aL]at x;obtain⟨⟨⟨⟨⟨⟨⟨aN,aX⟩,a7⟩,a8⟩,bi⟩,bk⟩,bl⟩,ce⟩:=x;have hl:I=[]:=by cases I<;>simp at a7|-
 have b7:f<g:=B;subst aN aX hl;have aA:=Fm e.gx (lo:=(f:Int)+1) (hi:=g) (a:=f+1) (b:=g) (λm=> !decide (m.dQ=C.dQ)) B rfl;rw[aA,show e.gx.ev=e.dI from rfl,aR (show(f:Int)<g by omega),aR bi,aR bk,aK bl,show(decide (L.kind=18)||decide (L.kind=19))=true by simpa using a8]at h;simp;generalize o:(((hE.cons _).cons _).cons _).cons _=n;have M:n.get 0=some (Z 15 0 [e.t]):=by rw[<-o];simp
 have E:n.get 1=some (Z 6 0 [jq.t ⟨aE,g,f,0,0,[]⟩]):=by rw[<-o];simp
 have O:n.get 2=some (Z 7 1 [L.t]):=by rw[<-o];simp
 have P:n.get 3=some (Z 7 1 [C.t]):=by rw[<-o];simp
 have U:Hp n:=by rw[<-o];simp
 clear o;have ap:binop .add (D (f:Int)) (D 1)=some (D ((f:Int)+1)):=ij B B;simp[E,ap];refine yU g (λk l q=>n=q/\f+1<=k/\((e.dI.drop k).take (g-k)).all (λm=> !decide (m.dQ=C.dQ))=((e.dI.drop (f+1)).take (g-(f+1))).all (λm=> !decide (m.dQ=C.dQ))/\dy l 2 (.ptr 0 0 0 0)/\dy l 3 (.ptr 1 0 0 0)/\dy l 5 (.ptr 2 0 0 0)/\dy l 6 (.ptr 3 0 0 0)/\dy l 7 (D k)) ?_ B (k:=f+1) B ?_
 ·rintro k l _ b9 ⟨rfl,ca,i,r,u,y,v,w⟩;by_cases H:k<g
  ·have T:k<e.dI.length:=B;have R:binop .add (D (k:Int)) (D 1)=some (D ((k:Int)+1)):=ij B B;rw[Em (ay T) H]at i;simp[M,E,O,P,r,u,y,v,w,H,T,R];generalize e.dI[k]=m at*
   refine dV (λK=>?_) (λK=>?_)
   ·rw[K]at i;rw[<-i]at h;simp[h,U]
   ·rw[K]at i;simp[r,u,y,v,w,R];exact⟨k+1,B,B,B,by simpa using i,J⟩
  ·rw[show g-k=0 by omega]at i;rw[<-i]at h;simp at h;simp[M,E,O,P,r,u,y,v,w,H,av,IW,Ef,bs,bu];exact⟨U,h.symm⟩
 ·simp
def sX:ge:=⟨eJ×jq,λe=>[e.1.t,e.2.t],λe=>kM e.1/\iR e.2.a e.1.dI.length=true/\iR e.2.b e.1.dI.length=true/\iR e.2.c e.1.dI.length=true/\iR e.2.d e.1.dI.length=true,λe=> .bool (decide (e.2.kA=[])&&e.1.gx.Jg e.2.a e.2.b e.2.c e.2.d),λe g f=>by simp at f;rw[eJ.inj f.1,jq.inj f.2]⟩
def Iu:sX.Ok prog cx 15:=by
 refine fR [(39,lm),(38,zp)] (iP 324518867979139826586741578400767 [(3,[(7,28),(9,28),(10,28),(11,28),(13,28),(15,28),(16,28),(17,28),(19,28),(21,28),(22,28),(23,28),(13,29),(15,29),(16,29),(17,29),(19,29),(21,29),(22,29),(23,29),(19,30),(21,30),(22,30),(23,30)]),(11,[(3,7)])] func15) (λ_=>100) (by simp[sX]) ?_;rintro⟨c,⟨bC,a,b,x,A,I⟩⟩ ⟨i,C,G,al,an⟩ m X;simp only at C G al an;replace i:kM c:=i;simp[sX]at X|-;obtain⟨Q,R⟩:=X;have⟨n,a1,a2,a3,a4,a5⟩:=i.at C;have⟨y,N,ce,aN,cp,cL⟩:=i.at G;have⟨u,aX,a7,a8,c1,c4⟩:=i.at al;have⟨v,bi,bk,bl,c6,c7⟩:=i.at an;have⟨aA,aE⟩:=i.ok.s C;have bz:=λ{b8:fw} (ht:b8.p 39=some lm)=>Ae ht xj c a i;generalize nP c.ew c.jA (c.dI.take a.toNat)=S at*
 rw[aA]at aE;have⟨z,b9,ca,cb⟩:=w8 aE a4;have f:=GX.Jg.eq_1 c.gx a b x A;rw[a3,aN,a8,bl,aA,cb]at f;generalize c.gx.Jg a b x A=L at*
 obtain⟨g,rfl,dd⟩:=kM.nat C;obtain⟨e,rfl,de⟩:=kM.nat G;have dm:=i.ok.len;rw[cv]at a1 N;simp[f15,Q,R];refine dV (λd=>?_) (λd=>?_)
 ·have:(decide (I=[])&&L)=false:=by
   rw[bX];intro h;rw[f]at h;simp only[az,bM,aL,bF,aZ]at h d;obtain⟨o,⟨⟨⟨⟨⟨⟨⟨⟨bu,q⟩,U⟩,V⟩,W⟩,l⟩,T⟩,bn⟩,bs⟩⟩:=h;subst o;simp at d;omega
  simp[this]
 simp only[bE,aZ]at d;obtain⟨⟨bH,dn⟩,ds⟩:=d;have hl:I=[]:=by cases I<;>simp at bH|-
 have c9:g<e:=B;subst hl;simp[Q,R,a1,N,aX,a7,bi,bk,kE,CR];refine dV (λd=>?_) (λd=>?_)
 ·have:L=false:=by
   rw[bX];intro h;rw[f]at h;simp only[az,bM,aL,bF,aZ]at h d;obtain⟨⟨⟨⟨⟨⟨⟨⟨bu,q⟩,U⟩,V⟩,W⟩,l⟩,T⟩,bn⟩,bs⟩:=h;simp[U,V,W,l,T]at d;omega
  simp[this]
 simp only[bE,bP,aZ,aL]at d;obtain⟨⟨⟨⟨bN,bS⟩,bT⟩,b6⟩,b7⟩:=d;have bB:=Fm c.gx (lo:=(g:Int)) (hi:=e) (a:=g) (b:=e) (GX.yG n.dQ) rfl rfl;rw[bB,show c.gx.ev=c.dI from rfl,aR (show(g:Int)<e by omega),aR (show x<=A by omega),aR bN,aR bS,aK bT,b6,b7]at f;simp;generalize w:(((((hE.cons _).cons _).cons _).cons _).cons _).cons _=r;have M:r.get 0=some (Z 15 0 [c.t]):=by rw[<-w];simp
 have O:r.get 1=some (Z 6 0 [jq.t ⟨bC,g,e,x,A,[]⟩]):=by rw[<-w];simp
 have P:r.get 2=some (Z 7 1 [n.t]):=by rw[<-w];simp
 have av:Hp r:=by rw[<-w];simp
 clear w;refine yU e (λk m h=>r=h/\g<=k/\((c.dI.drop k).take (e-k)).all (GX.yG n.dQ)=((c.dI.drop g).take (e-g)).all (GX.yG n.dQ)/\dy m 2 (.ptr 0 0 0 0)/\dy m 3 (.ptr 1 0 0 0)/\dy m 5 (.ptr 2 0 0 0)/\dy m 9 (D k)) ?_ B (k:=g) B ?_
 ·rintro k m _ di ⟨rfl,dk,j,F,o,q,l⟩;by_cases H:k<e
  ·have ap:k<c.dI.length:=B;have Y:binop .add (D (k:Int)) (D 1)=some (D ((k:Int)+1)):=ij B B;rw[Em (ay ap) H]at j;simp[M,O,P,F,o,q,l,H,ap,Y];generalize c.dI[k]=E at*
   have ae:GX.yG n.dQ E= !(decide (E.dQ=n.dQ)&&decide (E.kind=15)):=rfl;refine dV (λK=>?_) (λK=>?_)
   ·rw[ae,K]at j;rw[<-j]at f;simp at f;simp[f,av]
   ·rw[ae,K]at j;simp[F,o,q,l,Y];exact⟨k+1,B,B,B,by simpa using j,J⟩
  ·rw[show e-k=0 by omega]at j;rw[<-j]at f;simp at f;simp[M,O,P,F,o,q,l,H,bz,IW,Ef,b9,ca];exact⟨av,f.symm⟩
 ·simp
def RT{d:fw}(ht:d.p 37=some vV)(a:eJ)(c b:Int)(g:kM a)(e:iR c a.dI.length=true)(f:iR b a.dI.length=true):rl prog cx d 37 [a.t,D c,D b]=some (.bool (a.gx.rD c b)):=gG ht Og (a,c,b) ⟨g,e,f⟩
def yH(c:GX)(d:Int->Int->Bool)(a:List Int)(b:Nat):Bool:=
 !decide (a.getD b 0<a.getD 0 0)&&d (a.getD ((b+1)% a.length) 0) (a.getD b 0)&&(List.range b).all λf=> !decide ((c.e (a.getD b 0)).dQ=(c.e (a.getD f 0)).dQ)
def Hg{d:GX}{e:Int->Int->Bool}{b:List Int}(f:2<=b.length)(g:b.length<=4)(h:∀a<b.length,iR (b.getD a 0) d.ev.length=true)(i:∀a<b.length,yH d e b a=true):d.Ms e b=true:=by
 unfold GX.Ms;simp only[az,aL];refine⟨⟨⟨f,g⟩,List.all_eq_true.2 λk j=>?_⟩,List.all_eq_true.2 λa c=>i a (List.mem_range.1 c)⟩;obtain⟨a,c,rfl⟩:=List.mem_iff_getElem.1 j;have:=h a c;simpa[List.getD,c]using this
def nM{e:GX}{f:Int->Int->Bool}{a:List Int}(h:a.length<2\/4<a.length\/(∃b<a.length,iR (a.getD b 0) e.ev.length=false)\/∃b<a.length,yH e f a b=false):e.Ms f a=false:=by
 rw[bX];intro d;unfold GX.Ms at d;simp only[az,aL]at d;obtain⟨⟨⟨j,k⟩,g⟩,i⟩:=d;rcases h with h|h|⟨b,c,h⟩|⟨b,c,h⟩
 ·omega
 ·omega
 ·have:=List.all_eq_true.1 g (a.getD b 0) (by simp[List.getD,c]);rw[h]at this;simp at this
 ·have:=List.all_eq_true.1 i b (List.mem_range.2 c);unfold yH at h;rw[h]at this;simp at this
def JJ(a b:Nat)(d:b≠0)(c:a<9223372036854775808):binop .rem (D (a:Int)) (D (b:Int))=some (D ((a% b:Nat):Int)):=by
 rw[Dc B];rfl
def yg:ge:=⟨eJ×jq,λa=>[a.1.t,a.2.t],λa=>kM a.1/\a.2.kA.length<=1000000,λa=> .bool (a.1.gx.dead a.1.gx.rD a.2),λa c b=>by simp at b;rw[eJ.inj b.1,jq.inj b.2]⟩
def N3:yg.Ok prog cx 11:=by
 refine fR [(37,vV),(12,DH)] (iP 2596148777438049903812084076904959 [] func11) (λ_=>100) (by simp[yg]) ?_;rintro⟨d,⟨W,C,E,F,G,a⟩⟩ ⟨v,a8⟩ f Y;simp only at a8;replace v:kM d:=v;simp[yg]at Y|-;obtain⟨aA,T⟩:=Y;have o:d.gx.dead d.gx.rD ⟨W,C,E,F,G,a⟩=(decide (C=0)&&decide (E=0)&&decide (F=0)&&decide (G=0)&&d.gx.Ms d.gx.rD a):=rfl;generalize d.gx.dead d.gx.rD ⟨W,C,E,F,G,a⟩=ap at*
 simp[f11,aA,T];refine dV (λP=>?_) (λP=>?_)
 ·have:ap=false:=by
   rw[bX];intro h;rw[o]at h;simp only[az,aL]at h;obtain⟨⟨⟨⟨T,i⟩,j⟩,aE⟩,g⟩:=h;simp[T,i,j,aE]at P;rw[nM B]at g;simp at g
  simp[this]
 simp only[bE,bP,aZ,aL]at P;obtain⟨⟨⟨⟨⟨bi,bk⟩,bl⟩,bn⟩,bH⟩,bN⟩:=P;have aX:2<=a.length:=B;have a7:a.length<=4:=B;have bB:=v.ok.len;rw[bi,bk,bl,bn]at o;simp at o;simp;generalize K:(hE.cons _).cons _=s;have Q:s.get 0=some (Z 15 0 [d.t]):=by rw[<-K];simp
 have R:s.get 1=some (Z 6 0 [jq.t ⟨W,C,E,F,G,a⟩]):=by rw[<-K];simp
 have O:Hp s:=by rw[<-K];simp
 clear K;refine fc a.length B (λb f h=>s=h/\(∀c<b,iR (a.getD c 0) d.dI.length=true)/\dy f 2 (.ptr 0 0 0 0)/\dy f 3 (.ptr 1 0 0 0)/\dy f 5 (D a.length)/\dy f 6 (D b)) ?_ ?_ B ?_
 ·rintro b f _ n w ⟨rfl,M,i,j,g,H⟩;have u:a.getD b 0=a[b]:=by simp[List.getD,n]
  simp[Q,R,i,j,g,H,n,w,Up];refine dV (λl=>?_) (λl=>?_)
  ·rw[nM (.inr (.inr (.inl ⟨b,n,by rw[u];exact(by simpa using l:iR a[b] d.dI.length=false)⟩)))]at o;simp[o,O]
  ·simp[i,j,g,H,w];intro c r;rcases aM c b with h|h
   ·simpa using M c h
   ·rw[show c=b by omega];simpa[n]using l
 ·rintro f _ ⟨rfl,M,i,j,g,H⟩;simp[i,j,g,H];have L:∀c (r:c<a.length),iR a[c] d.dI.length=true:=λc r=>by simpa[List.getD,r]using M c r
  refine fc a.length B (λb f h=>s=h/\(∀c<b,yH d.gx d.gx.rD a c=true)/\dy f 2 (.ptr 0 0 0 0)/\dy f 3 (.ptr 1 0 0 0)/\dy f 5 (D a.length)/\dy f 7 (D b)) ?_ ?_ B ?_
  ·rintro b f _ n w ⟨rfl,U,i,j,g,q⟩;have u:∀c (r:c<a.length),a.getD c 0=a[c]:=λc r=>by simp[List.getD,r]
   have S:0<a.length:=B;have an:=JJ (b+1) a.length B B;have N:(b+1)% a.length<a.length:=Nat.mod_lt _ S;have z:yH d.gx d.gx.rD a b=(!decide (a[b]<a[0])&&d.gx.rD (a[(b+1)% a.length]'N) a[b]&&(List.range b).all λk=> !decide ((d.gx.e a[b]).dQ=(d.gx.e (a.getD k 0)).dQ)):=by unfold yH;rw[u _ n,u _ S,u _ N]
   generalize(b+1)% a.length=m at*
   have av:=λ{bs:fw} (ht:bs.p 37=some vV)=>RT ht d a[m] a[b] v (L m N) (L b n);have⟨x,a1,a2,a3,a4,a5⟩:=v.at (L b n);rw[a3]at z;simp at an;simp[Q,R,i,j,g,q,n,w,S,an,N,av];refine dV (λl=>?_) (λl=>?_)
   ·have:yH d.gx d.gx.rD a b=false:=by
     rw[z,bX];intro h;simp only[az,bF,aZ]at h;simp[h.1.2]at l;omega
    rw[nM (.inr (.inr (.inr ⟨b,n,this⟩)))]at o;simp[o,O]
   ·simp only[bE,bP,aZ]at l;rw[l.2,aK l.1]at z;simp[i,j,g,q];refine fc b B (λk f h=>s=h/\(∀c<k,decide (x.dQ=(d.gx.e (a.getD c 0)).dQ)=false)/\dy f 2 (.ptr 0 0 0 0)/\dy f 3 (.ptr 1 0 0 0)/\dy f 5 (D a.length)/\dy f 7 (D b)/\dy f 8 (D k)) ?_ ?_ B ?_
    ·rintro k f _ al ae ⟨rfl,V,i,j,g,q,I⟩;have A:k<a.length:=B;have⟨y,bu,bz,X,bS,bT⟩:=v.at (L k A);simp[Q,R,i,j,g,q,I,al,ae,A,n,a1,a2,bu,bz];have bC:(d.gx.e (a.getD k 0)).dQ=y.dQ:=by rw[u k A,X]
     refine dV (λl=>?_) (λl=>?_)
     ·have:yH d.gx d.gx.rD a b=false:=by
       rw[z];simp;exact⟨k,al,by simpa[A,X]using l⟩
      rw[nM (.inr (.inr (.inr ⟨b,n,this⟩)))]at o;simp[o,O]
     ·simp[i,j,g,q,I,ae];intro c r;rcases aM c k with h|h
      ·simpa using V c h
      ·rw[show c=k by omega];simp[A,X];simpa using l
    ·rintro f _ ⟨rfl,V,i,j,g,q,I⟩;simp[i,j,g,q,I,w];intro c r;rcases aM c b with h|h
     ·exact U c h
     ·rw[show c=b by omega,z];simp;intro k aN;simpa using V k aN
    ·simp[i,j,g,q]
  ·rintro f _ ⟨rfl,U,i,j,g,q⟩;rw[Hg aX a7 M U]at o;simp[i,j,g,q,o,O]
  ·simp[i,j,g]
 ·simp
def uQ:ge:=⟨eJ×jq,λa=>[a.1.t,a.2.t],λa=>kM a.1/\a.2.kA.length<=1000000,λa=> .bool (a.1.gx.vR a.2),λa c b=>by simp at b;rw[eJ.inj b.1,jq.inj b.2]⟩
def Lj:uQ.Ok prog cx 5:=by
 refine fR [(12,DH),(11,yg),(13,x8),(14,yd),(15,sX)] (iP 9302967882613055 [] func5) (λ_=>100) (by simp[uQ]) ?_;rintro⟨f,e⟩ ⟨k,w⟩ H v;simp only at w;replace k:kM f:=k;simp[uQ]at v|-;obtain⟨i,j⟩:=v;have g:=GX.vR.eq_1 f.gx e;simp only[show∀x,f.gx.AC x=iR x f.dI.length from λ_=>rfl]at g;generalize f.gx.vR e=G at*
 have C:∀{h:fw},h.p 11=some yg->rl prog cx h 11 [f.t,e.t]=some (.bool (f.gx.dead f.gx.rD e)):=λht=>gG ht N3 (f,e) ⟨k,w⟩;cases s:decide (e.kind=2)with
 |true=>
  rw[aq (by simpa using s)]at g;simp[f5,i,j,s,C,g]
 |false=>
  rw[ao (by simpa using s)]at g;simp[f5,i,j,s,Up];refine dV (λo=>?_) (λo=>?_)
  ·rw[ao (by intro m;simp only[az]at m;simp[m.1.1.1,m.1.1.2,m.1.2,m.2]at o)]at g;simp[g]
  simp only[bE,bP]at o;obtain⟨⟨⟨q,r⟩,y⟩,z⟩:=o;rw[aq (by rw[q,r,y,z];rfl)]at g;have F:∀{h:fw},h.p 13=some x8->rl prog cx h 13 [f.t,e.t]=some (.bool (decide (e.c=0)&&decide (e.d=0)&&decide (e.kA=[])&&f.gx.QC e.a e.b)):=λht=>gG ht NJ (f,e) ⟨k,q,r⟩;have E:∀{h:fw},h.p 14=some yd->rl prog cx h 14 [f.t,e.t]=some (.bool (decide (e.c=0)&&decide (e.d=0)&&decide (e.kA=[])&&f.gx.Qg e.a e.b)):=λht=>gG ht NR (f,e) ⟨k,q,r⟩;have A:∀{h:fw},h.p 15=some sX->rl prog cx h 15 [f.t,e.t]=some (.bool (decide (e.kA=[])&&f.gx.Jg e.a e.b e.c e.d)):=λht=>gG ht Iu (f,e) ⟨k,q,r,y,z⟩;cases l:decide (e.kind=1)with
  |true=>
   rw[aq (by simpa using l)]at g;simp[i,j,l,F,g]
  |false=>
   rw[ao (by simpa using l)]at g;cases n:decide (e.kind=3)with
   |true=>
    rw[aq (by simpa using n)]at g;simp[i,j,l,n,E,g]
   |false=>
    rw[ao (by simpa using n)]at g;cases u:decide (e.kind=4)with
    |true=>
     rw[aq (by simpa using u)]at g;simp[i,j,l,n,u,A,g]
    |false=>
     rw[ao (by simpa using u)]at g;simp[i,j,l,n,u,g]
def Pi{c:fw}(ht:c.p 5=some uQ)(b:eJ)(a:jq)(d:kM b)(hl:a.kA.length<=1000000):rl prog cx c 5 [b.t,a.t]=some (.bool (b.gx.vR a)):=gG ht Lj (b,a) ⟨d,hl⟩
def Lg:rK.Ok prog cx 137:=by
 refine fR [] (iP 19 [] func137) (λf=>1) (by simp[rK]) ?_;rintro⟨e,g⟩ _ h a;simp[rK]at a|-;obtain⟨b,c⟩:=a;by_cases d:0<=e<;>simp[f137,b,c,d,iR]
def yP{c:fw}(ht:c.p 137=some rK)(a:Int)(b:Nat):rl prog cx c 137 [D a,D b]=some (.bool (iR a b)):=gG ht Lg (a,b) trivial
def BK:ge:=⟨dR×fa,λa=>[a.1.t,a.2.t],λa=>lY a.1 a.2=true/\a.1.fV.length<=1000000,λa=> .bool true,λa b c=>rfl⟩
def QW:BK.Ok prog cx 136:=by
 refine fR [(137,rK)] (iP 35315368591455 [] func136) (λv=>1000005) (by simp[BK]) ?_;rintro⟨e,w⟩ ⟨j,r⟩ a l;simp only at j r;simp[BK]at l|-;obtain⟨o,p⟩:=l;have⟨l1,l2,l3⟩:=nL j;simp[f136,o,p,l1,l2,l3];refine fc e.fV.length B (λn a d=>gH 2 d/\d.get 0=some (Z 6 0 [e.t])/\dy a 2 (.ptr 0 0 0 0)/\dy a 33 (sl (e.fV.map iA.t))/\dy a 34 (D e.fV.length)/\dy a 35 (D n)) ?_ ?_ B ⟨by exact⟨J,J,J⟩,J⟩
 ·rintro n a d m q ⟨c,k,f,g,h,i⟩;have s:=qY j (ay m);have u:=c.ne (b:=0) B;simp[k,f,g,h,i,m,u,c.low,yP,s,q];exact c.cons _
 ·rintro a d ⟨c,k,f,g,h,i⟩;simp[f,g,h,i,c.hp]
def uY:ge:=⟨dR×Int×Int,λa=>[a.1.t,D a.2.1,D a.2.2],λa=>ju a.1 a.2.1 a.2.2=true,λa=> .bool true,λa b c=>rfl⟩
def LB:uY.Ok prog cx 138:=by
 refine fR [(137,rK)] (iP 606826398900554784047567 [] func138) (λl=>1) (by simp[uY]) ?_;rintro⟨k,a,j⟩ b m f;replace b:ju k a j=true:=b;simp[uY]at f|-;obtain⟨c,d,e⟩:=f;have hr:=qv b;have g:a=1\/a=2\/a=3\/a=4\/a=5\/a=6\/a=7\/a=8\/a=9\/a=10\/a=11\/a=12\/a=13\/a=14\/a=15\/a=16\/a=17\/a=18\/a=19\/a=20\/a=21\/a=22\/a=23:=B;rcases g with rfl|rfl|rfl|rfl|rfl|rfl|rfl|rfl|rfl|rfl|rfl|rfl|rfl|rfl|rfl|rfl|rfl|rfl|rfl|rfl|rfl|rfl|rfl
 case inr.inr.inr.inr.inr.inl|inr.inr.inr.inr.inr.inr.inl|inr.inr.inr.inr.inr.inr.inr.inl|inr.inr.inr.inr.inr.inr.inr.inr.inl|inr.inr.inr.inr.inr.inr.inr.inr.inr.inl|inr.inr.inr.inr.inr.inr.inr.inr.inr.inr.inl=>
  have hl:=kr b B;obtain⟨n,h,i⟩:=im hl;simp[ju,i]at b;simp[f138,c,d,e,yP,hl,h,b,ee (ff.1 hl).1]
 all_goals
  simp[ju]at b;simp[f138,c,d,e,yP,b]
def vS:ge:=⟨List Int×Int,λa=>[sl (a.1.map (T.int .i64)),D a.2],λa=>a.1.length<=1000000,λa=> D (sh a.1 a.2 0),λa c b=>by simp at b;rw[jt (λ_ _ b=>by simpa using b) b.1,b.2]⟩
def NW:vS.Ok prog cx 53:=by
 refine Bp (tb:=⟨pt [],ht []⟩) iB gW (iP 66483 [] func53) (λ_=>1000005) (by simp[vS]) nl9 ?_;rintro⟨e,k⟩ hl d l;replace hl:e.length<=1000000:=hl;simp[vS]at l|-;obtain⟨b,c⟩:=l;simp[f53,b,c];refine fc e.length B (λh d i=>i=hE/\sh (e.drop h) k h=sh e k 0/\dy d 0 (sl (e.map (T.int .i64)))/\dy d 1 (D k)/\dy d 7 (D e.length)/\dy d 8 (D h)) ?_ ?_ B (by simp[b,c])
 ·rintro h d i m n ⟨rfl,a,b,c,f,g⟩;rw[aH m]at a;simp only[sh]at a;simp[b,c,f,g,m];refine dV (λj=>?_) (λj=>?_)
  ·rw[aq (by simpa[eq_comm]using j)]at a;simp[b,c,f,g,<-a]
  ·rw[ao (by simpa[eq_comm]using j)]at a;simp[b,c,f,g,n,a]
 ·rintro d i ⟨rfl,a,b,c,f,g⟩;rw[cW]at a;simp only[sh]at a;simp[b,c,f,g,<-a]
def RS{c:fw}(ht:c.p 53=some vS)(a:List Int)(b:Int)(hl:a.length<=1000000):rl prog cx c 53 [sl (a.map (T.int .i64)),D b]=some (D (sh a b 0)):=gG ht NW (a,b) hl
def oI:ge:=⟨List Int×Int,λa=>[sl (a.1.map (T.int .i64)),D a.2],λa=>a.1.length<=1000000,λa=> .bool (decide (a.2∈a.1)),λa c b=>by simp at b;rw[jt (λ_ _ b=>by simpa using b) b.1,b.2]⟩
def It:oI.Ok prog cx 56:=by
 refine Bp (tb:=⟨pt [(53,vS)],ht []⟩) iB gW (iP 19 [] func56) (λe=>1) (by simp[oI]) nl9 ?_;rintro⟨d,g⟩ hl f a;replace hl:d.length<=1000000:=hl;simp[oI]at a|-;obtain⟨b,c⟩:=a;simp[f56,b,c,RS,hl,Ik]
def tO{c:fw}(ht:c.p 56=some oI)(a:List Int)(b:Int)(hl:a.length<=1000000):rl prog cx c 56 [sl (a.map (T.int .i64)),D b]=some (.bool (decide (b∈a))):=gG ht It (a,b) hl
structure EnG(w:dR)(s:fa)(t k o:Int):Prop where
 f:lY w s=true
 th:iR t w.dC.length=true
 n:ju w k o=true
 c:w.fV.length<=1000000
 r:∀l∈s.dW,l.ed.length<=1000000
structure EnF(w:dR)(s:fa)(t k o:Int):Prop where
 f:lY w s=true
 th:iR t w.dC.length=true
 n:ju w k o=true
 e:xL w s t k o=true
 c:w.fV.length<=1000000
 r:∀l∈s.dW,l.ed.length<=1000000
def Kd(a b:dR×fa×Int×Int×Int)(c:([a.1.t,a.2.1.t,D a.2.2.1,D a.2.2.2.1,D a.2.2.2.2]:List T)=[b.1.t,b.2.1.t,D b.2.2.1,D b.2.2.2.1,D b.2.2.2.2]):a=b:=by
 simp at c;exact aI (dR.inj c.1) (aI (fa.inj c.2.1) (aI c.2.2.1 (aI c.2.2.2.1 c.2.2.2.2)))
def x7:ge:=⟨dR×fa×Int×Int×Int,λa=>[a.1.t,a.2.1.t,D a.2.2.1,D a.2.2.2.1,D a.2.2.2.2],λa=>EnG a.1 a.2.1 a.2.2.1 a.2.2.2.1 a.2.2.2.2/\a.2.2.2.1≠1/\a.2.2.2.1≠17/\(ow a.2.1 a.2.2.1).iv=2,λa=> .bool (xL a.1 a.2.1 a.2.2.1 a.2.2.2.1 a.2.2.2.2),λa b c=>by rw[Kd a b c]⟩
def NI:x7.Ok prog cx 139:=by
 refine fR [(56,oI)] (iP 5868843906288553182383292937158044313155908148351 [] func139) (λA=>1) (by simp[x7]) ?_;rintro⟨I,G,z,a,y⟩ ⟨⟨i,ht,j,v,hr⟩,w,x,c⟩ H n;simp only at i ht j v hr w x c;simp[x7]at n|-;obtain⟨d,e,f,g,h⟩:=n;have F:=qv j;obtain⟨l1,l2,l3⟩:=nL i;have b:a=2\/a=3\/a=4\/a=5\/a=12\/a=13\/(a=6\/a=7\/a=8\/a=9\/a=10\/a=11)\/(a=14\/a=15)\/(a=16\/a=18\/a=19)\/(a=20\/a=21)\/(a=22\/a=23):=B;rcases b with rfl|rfl|rfl|rfl|rfl|rfl|b|b|b|b|b
 case inr.inr.inr.inr.inr.inr.inl=>
  obtain⟨k,a1,a2,a3⟩:=rV i (kr j B);have hl:=hr k (ax a2);rcases b with rfl|rfl|rfl|rfl|rfl|rfl<;>cases m:decide (k.iy=-1)<;>simp[f139,d,e,f,g,h,a1,a2,tO,hl,xL,c,a3,m]
 case inr.inr.inr.inr.inr.inr.inr.inl=>
  obtain⟨k,a1,a2,a3⟩:=w8 i ht;rw[a3]at c;rcases b with rfl|rfl<;>simp[f139,d,e,f,g,h,a1,a2,xL,a3,c]
 case inr.inr.inr.inr.inr.inr.inr.inr.inl=>
  obtain⟨C,k,o,p,q,r,s⟩:=Bc i (mG j B);rcases b with rfl|rfl|rfl<;>simp[f139,d,e,f,g,h,o,p,q,r,xL,c,s]
 case inr.inr.inr.inr.inr.inr.inr.inr.inr.inl=>
  obtain⟨k,a1,a2,a3⟩:=w8 i (we j B);rcases b with rfl|rfl<;>cases m:decide (y=z)<;>simp[f139,d,e,f,g,h,a1,a2,xL,c,a3,m]
 case inr.inr.inr.inr.inr.inr.inr.inr.inr.inr=>
  have l:=qx j B;rw[<-l2]at l;obtain⟨E,t,u⟩:=im l;rcases b with rfl|rfl<;>simp[f139,d,e,f,g,h,t,ee (ff.1 l).1,xL,c,CH,u]
 all_goals
  simp[f139,d,e,f,g,h,xL,c]
def oH:ge:=⟨dR×fa×Int×Int×Int,λa=>[a.1.t,a.2.1.t,D a.2.2.1,D a.2.2.2.1,D a.2.2.2.2],λa=>EnG a.1 a.2.1 a.2.2.1 a.2.2.2.1 a.2.2.2.2,λa=> .bool (xL a.1 a.2.1 a.2.2.1 a.2.2.2.1 a.2.2.2.2),λa b c=>by rw[Kd a b c]⟩
def Is:oH.Ok prog cx 91:=by
 refine fR [(136,BK),(137,rK),(138,uY),(139,x7)] (iP 4605278686335 [] func91) (λI=>1) (by simp[oH]) ?_;rintro⟨b,e,h,a,c⟩ j M q;replace j:EnG b e h a c:=j;have⟨n,ht,r,F,hr⟩:=id j;simp[oH]at q|-;obtain⟨C,E,l,m,i⟩:=q;have y:∀{d:fw},d.p 136=some BK->rl prog cx d 136 [b.t,e.t]=some (.bool true):=λht=>gG ht QW (b,e) ⟨n,F⟩;have z:∀{d:fw},d.p 138=some uY->rl prog cx d 138 [b.t,D a,D c]=some (.bool true):=λht=>gG ht LB (b,a,c) r;have⟨o,a1,a2,a3⟩:=w8 n ht;simp[f91,C,E,l,m,i,y,z,yP,ht,a1,a2];by_cases f:a=1
 ·subst f;simp[xL,a3]
 by_cases g:a=17
 ·subst g;have⟨K,L,s,u,v,w,x⟩:=Bc n (mG r B);cases G:decide (o.iv=4)<;>cases H:decide (o.cond=c)<;>simp[i,s,u,v,w,xL,a3,x,G,H]
 by_cases k:o.iv=2
 ·have A:∀{d:fw},d.p 139=some x7->rl prog cx d 139 [b.t,e.t,D h,D a,D c]=some (.bool (xL b e h a c)):=λht=>gG ht NI (b,e,h,a,c) ⟨j,f,g,by rw[a3];exact k⟩;simp[l,m,i,f,g,k,A]
 ·have:xL b e h a c=false:=by unfold xL;rw[ao f,ao g,a3,aq k]
  simp[l,m,i,f,g,k,this]
def L4{f:fw}(ht:f.p 91=some oH){e:dR}{c:fa}{d a b:Int}(g:EnG e c d a b):rl prog cx f 91 [e.t,c.t,D d,D a,D b]=some (.bool (xL e c d a b)):=gG ht Is (e,c,d,a,b) g
def L3{b:fw}(ht:b.p 91=some oH){w:dR}{s:fa}{t k o:Int}(a:EnF w s t k o):rl prog cx b 91 [w.t,s.t,D t,D k,D o]=some (.bool true):=by rw[L4 ht ⟨a.f,a.th,a.n,a.c,a.r⟩,a.e]
end
end
noncomputable section
open Go Go.TI Tryz
section
attribute [-simp] List.map_take List.map_drop List.map_append
def mr(c:Nat)(b:List Int):Bool:=b.all λa=>iR a c
def oZ:ge:=⟨fM×List Int,λa=>[a.1.t,sl (a.2.map (T.int .i64))],λa=>a.2.length<=1099511627776,λa=> .bool (mr a.1.w.dI.length a.2),λa c b=>by simp at b;rw[fM.inj b.1,jt J b.2]⟩
def Nx:oZ.Ok prog cx 85:=by
 refine fR [] (iP 4196311 [] func85) (λp=>p.2.length+1) (by simp[oZ]) ?_;rintro⟨e,b⟩ hl d n;simp[oZ]at hl n|-;obtain⟨q,r⟩:=n;simp[f85,q,r];refine fc b.length B (λc d k=>k=H.cons hE (Z 16 0 [e.t])/\dy d 2 (.ptr 0 0 0 0)/\dy d 7 (sl (b.map (T.int .i64)))/\dy d 8 (D b.length)/\dy d 9 (D c)/\mr e.w.dI.length (b.drop c)=mr e.w.dI.length b) ?_ ?_ B J
 ·rintro c d k j l ⟨rfl,f,g,h,i,a⟩;rw[aH j]at a;simp only[mr,cq]at a;by_cases m:b[c]<0
  ·have:iR b[c] e.w.dI.length=false:=by simp[iR];omega
   rw[this,Bool.false_and]at a;simp[f,g,h,i,j,l,m,mr,a.symm]
  ·by_cases o:(e.w.dI.length:Int)<=b[c]
   ·have:iR b[c] e.w.dI.length=false:=by simp[iR];omega
    rw[this,Bool.false_and]at a;simp[f,g,h,i,j,l,m,o,mr,a.symm]
   ·have:iR b[c] e.w.dI.length=true:=by simp[iR];omega
    rw[this,bD]at a;simp[f,g,h,i,j,l,m,o,mr,a]
 ·rintro d k ⟨rfl,f,g,h,i,a⟩;simp[mr]at a;simp[f,g,h,i,mr];exact a
def Fj{c:fw}(ht:c.p 85=some oZ)(b:fM)(a:List Int)(hl:a.length<=1099511627776):rl prog cx c 85 [b.t,sl (a.map (T.int .i64))]=some (.bool (mr b.w.dI.length a)):=gG ht Nx (b,a) hl
def rg{d:fw}(ht:d.p 85=some oZ)(a:fM)(b c:Int):rl prog cx d 85 [a.t,sl [D b,D c]]=some (.bool (iR b a.w.dI.length&&iR c a.w.dI.length)):=by
 have:=Fj ht a [b,c] J;simpa[mr]using this
def Ar(a:eJ)(b c:Int):Bool:=iR b a.dI.length&&iR c a.dI.length&&decide (b<c)&&ks (ql a.dI b) (ql a.dI c)&& !decide ((ql a.dI b).dQ=(ql a.dI c).dQ)&& !((vC a.ew.cells (ql a.dI b).obj).getD default).sK
def FB(b:eJ):Prop:=∀a∈b.dI,vI a=true->iR a.obj b.ew.cells.length=true
def zl:ge:=⟨fM×Int×Int,λa=>[a.1.t,D a.2.1,D a.2.2],λa=>FB a.1.w,λa=> .bool (Ar a.1.w a.2.1 a.2.2),λa c b=>by simp at b;rw[fM.inj b.1,b.2.1,b.2.2]⟩
def QO:zl.Ok prog cx 82:=by
 refine fR [(85,oZ),(134,rM)] (iP 67109327 [(3,[(8,14),(10,14),(11,14)])] func82) (λb=>1) (by simp[zl]) ?_;rintro⟨k,d,e⟩ r G c;simp[zl]at r c|-;obtain⟨h,i,j⟩:=c;cases f:(iR d k.w.dI.length&&iR e k.w.dI.length)with
 |false=>simp[f82,h,i,j,rg,f,Ar,gh]
 |true=>
  have a:=f;rw[az]at a;have⟨b,c,t⟩:=im a.1;have⟨l,v,x⟩:=im a.2;have A:=ee (ff.1 a.1).1;have C:=ee (ff.1 a.2).1;have n:ql k.w.dI d=b:=by simp[ql,t]
  have o:ql k.w.dI e=l:=by simp[ql,x]
  by_cases m:e<=d
  ·have:¬d<e:=B;simp[f82,h,i,j,rg,f,m,Ar,gh,this]
  ·have p:d<e:=B;cases g:ks b l with
   |false=>simp[f82,h,i,j,rg,f,m,Ar,gh,p,Bf,a.1,a.2,n,o,g]
   |true=>
    have u:vI b=true:=by unfold ks at g;simp at g;exact g.1.1.1
    have q:=r b (ax c) u;have⟨F,y,z⟩:=im q;have s:=ee (ff.1 q).1;cases E:decide (b.dQ=l.dQ)<;>
     simp[f82,h,i,j,rg,f,m,Ar,gh,p,Bf,a.1,a.2,n,o,g,E,A,C,c,v,y,z,s,kE]
def WH{d:fw}(ht:d.p 82=some zl)(a:fM)(b c:Int)(e:FB a.w):rl prog cx d 82 [a.t,D b,D c]=some (.bool (Ar a.w b c)):=gG ht QO (a,b,c) e
end
end
noncomputable section
open Go Go.TI Tryz
attribute [-simp] List.map_take List.map_drop List.map_append fj ez TI.d8 Bool.not_or Bool.not_and
attribute [simp] fh eG
section
attribute [-simp] size_cons
structure Aj(x:fM):Prop where
 w:kM x.w
 s:x.Bt=x.w.gx.st
def Aj.st{a:fM}(c:Aj a){e:Int}(d:iR e a.w.dI.length=true):∃b,a.Bt[e.toNat]? =some b/\a.w.gx.s e=b/\lY a.w.ew b=true/\(∀h∈b.dW,h.ed.length<=2000):=by
 have⟨f,i⟩:=c.w.ok.s d;have g:=c.w.ok.st (ff.1 d).2;refine⟨_,by rw[c.s];exact g,f,by rw[<-f];exact i,by rw[<-f];exact(c.w.rd d).1⟩
def sY:ge:=⟨fM×Int×Int,λa=>[a.1.t,D a.2.1,D a.2.2],λa=>Aj a.1/\iR a.2.1 a.1.w.dI.length=true/\iR a.2.2 a.1.w.dI.length=true,λa=> .bool (a.1.w.gx.vz a.2.1 a.2.2),λa c b=>by simp at b;rw[fM.inj b.1,b.2.1,b.2.2]⟩
def Lx:sY.Ok prog cx 135:=by
 refine fR [(179,xY),(56,oI)] (iP 36051629065113551 [(1,[(8,14),(10,14),(11,14)])] func135) (λ_=>10) (by simp[sY]) ?_;rintro⟨g,k,j⟩ ⟨q,v,F⟩ ap E;simp only at q v F;simp[sY]at E|-;obtain⟨A,h,C⟩:=E;have⟨x,Q,l,z,al,an⟩:=q.w.at v;have⟨c,N,O,P,ae,o⟩:=q.w.at F;have⟨H,s,V,t,W⟩:=q.st v;have a:=GX.rD.eq_1 g.w.gx k j;rw[P,z,V,show g.w.gx.w=g.w.ew from rfl]at a;have u:g.w.gx.vz k j=(pN x.kind&&g.w.gx.rD k j):=by rw[<-z];rfl
 generalize g.w.gx.vz k j=G at*
 generalize g.w.gx.rD k j=X at*
 simp[f135,A,h,C,N,O,Q,l,RN,kE];refine dV (λm=>?_) (λm=>?_)
 ·have:G=false:=by
   rw[u];cases S:pN x.kind with
   |false=>rfl
   |true=>
    rw[S]at m;have ht:c.dQ=x.dQ:=by simpa using m
    rw[aq ht]at a;rw[a];rfl
  simp[this]
 simp only[bE,bP,aZ]at m;obtain⟨R,T⟩:=m;rw[T,bD]at u;subst u;rw[ao R]at a;simp[A,h,C];have p:∀b:dP,b∈H.dW->b.ed.length<=1000000:=λb hl=>by have:=W b hl;omega
 cases d:decide (c.kind=6)with
 |true=>
  have e:c.kind=6:=by simpa using d
  have⟨b,l1,l2,l3⟩:=rV t (kr o B);have hl:=p b (ax l2);rw[aq (.inl e),l3]at a;simp[h,d,l1,l2,s,l,tO,hl,a]
 |false=>
  cases f:decide (c.kind=10)with
  |true=>
   have e:c.kind=10:=by simpa using f
   have⟨b,l1,l2,l3⟩:=rV t (kr o B);have hl:=p b (ax l2);rw[aq (.inr e),l3]at a;simp[h,d,f,l1,l2,s,l,tO,hl,a]
  |false=>
   have U:¬(c.kind=6\/c.kind=10):=by simp at d f;omega
   rw[ao U]at a;cases i:decide (c.kind=8)with
   |true=>
    have e:c.kind=8:=by simpa using i
    have⟨b,l1,l2,l3⟩:=rV t (kr o B);rw[aq e,l3]at a;have hl:=p b (ax l2);simp[h,d,f,i,l1,l2,s,l,tO,hl,a]
   |false=>
    rw[ao (by simpa using i)]at a;cases n:decide (c.kind=17)with
    |true=>
     have e:c.kind=17:=by simpa using n
     have⟨Y,b,I,K,L,y,M⟩:=Bc t (mG o B);rw[aq e,M]at a;have hl:=p b (ax y);simp[h,d,f,i,n,I,K,L,y,s,l,tO,hl,a]
    |false=>
     rw[ao (by simpa using n)]at a;cases r:decide (c.kind=21)with
     |true=>
      rw[aq (by simpa using r)]at a;simp[d,f,i,n,r,a]
     |false=>
      rw[ao (by simpa using r)]at a;simp[d,f,i,n,r,a]
def BH:ge:=⟨fM×Int×Int,λa=>[a.1.t,D a.2.1,D a.2.2],λa=>Aj a.1,λa=> .bool ((iR a.2.1 a.1.w.dI.length&&iR a.2.2 a.1.w.dI.length)&&a.1.w.gx.Qg a.2.1 a.2.2),λa c b=>by simp at b;rw[fM.inj b.1,b.2.1,b.2.2]⟩
def QR:BH.Ok prog cx 84:=by
 refine fR [(85,oZ)] (iP 1238093369775042453301102031 [(3,[(8,14),(10,14),(11,14)])] func84) (λ_=>100) (by simp[BH]) ?_;rintro⟨f,a,b⟩ q i M;replace q:Aj f:=q;simp[BH]at M|-;obtain⟨H,h,x⟩:=M;cases F:(iR a f.w.dI.length&&iR b f.w.dI.length)with
 |false=>simp[f84,H,h,x,rg,F,gh]
 |true=>
  have T:=F;rw[az]at T;obtain⟨I,N⟩:=T;have⟨K,a1,a2,a3,a4,a5⟩:=q.w.at I;have⟨G,L,bn,X,Y,bs⟩:=q.w.at N;have⟨S,U,aX,a7,b7⟩:=q.st I;have⟨V,bi,bk,bl⟩:=w8 a7 Y;have d:=GX.Qg.eq_1 f.w.gx a b;rw[a3,X,aX,bl]at d;generalize f.w.gx.Qg a b=W at*
  obtain⟨e,rfl,bN⟩:=kM.nat I;obtain⟨c,rfl,bT⟩:=kM.nat N;have b6:=q.w.ok.len;rw[cv]at a1 L U;by_cases bS:c<e;rotate_left
  ·rw[aK (show¬(c:Int)<e by omega)]at d;simp[f84,H,h,x,rg,F,gh,d,show e<=c by omega]
  have ap:=Fm f.w.gx (lo:=(c:Int)+1) (hi:=e) (a:=c+1) (b:=e) (λp=> !decide (p.dQ=G.dQ)) B rfl;rw[ap,show f.w.gx.ev=f.w.dI from rfl,aR (show(c:Int)<e by omega)]at d;have an:binop .add (D (c:Int)) (D 1)=some (D ((c:Int)+1)):=ij B B;have a8:jM ((c:Int)+1)=some (c+1):=by have:=ee (show(0:Int)<=((c+1:Nat):Int)by omega);simpa using this
  simp[f84,H,h,x,rg,F,gh,show¬e<=c by omega,a1,L,kE];refine dV (λu=>?_) (λu=>?_)
  ·have:W=false:=by
    rw[bX];intro g;rw[d]at g;simp only[az,bM,aL,bF,aZ]at g u;obtain⟨⟨⟨⟨⟨⟨⟨_,bB⟩,ae⟩,l⟩,m⟩,bC⟩,bu⟩,bz⟩:=g;simp[ae,l,m]at u;omega
   simp[this]
  simp only[bE,Bool.and_eq_false_iff,bP,aZ,aL]at u;obtain⟨⟨⟨av,aA⟩,aE⟩,aN⟩:=u;rw[aR aA,aR aE,aK aN,show(decide (K.kind=18)||decide (K.kind=19))=true by simpa using av]at d;simp[-List.length_take,-List.length_drop,h,x,an,a8,show c+1<=e by omega,show e<=f.w.dI.length by omega];have bH:((f.w.dI.drop (c+1)).take (e-(c+1))).length<=16:=dp;generalize(f.w.dI.drop (c+1)).take (e-(c+1))=o at*
  refine fc o.length B (λE i g=>gH 4 g/\g.get 0=some (Z 16 0 [f.t])/\g.get 2=some (Z 7 1 [K.t])/\g.get 3=some (Z 7 1 [G.t])/\((o.drop E).all λp=> !decide (p.dQ=G.dQ))=(o.all λp=> !decide (p.dQ=G.dQ))/\dy i 1 (D e)/\dy i 3 (.ptr 0 0 0 0)/\dy i 7 (.ptr 2 0 0 0)/\dy i 8 (.ptr 3 0 0 0)/\dy i 67 (sl (o.map dY.t))/\dy i 68 (D o.length)/\dy i 69 (D E)) ?_ ?_ B ?_
  ·rintro E i g O al ⟨j,v,r,s,k,h,y,l,m,z,A,C⟩;have P:=j.ne (b:=0) B;have Q:=j.ne (b:=2) B;have R:=j.ne (b:=3) B;rw[aH O,cq]at k;simp[v,r,s,h,y,l,m,z,A,C,P,Q,R,j.low,O];generalize o[E]=p at*
   refine dV (λn=>?_) (λn=>?_)
   ·rw[n]at k;rw[<-k]at d;simp at d;simp[d,j.hp]
   ·rw[n]at k;simp[h,y,l,m,z,A,C,al];exact⟨j.cons _,by simp[v,P],by simp[r,Q],by simp[s,R],by simpa using k⟩
  ·rintro i g ⟨j,v,r,s,k,h,y,l,m,z,A,C⟩;rw[cW]at k;rw[<-k]at d;simp at d;simp[v,r,s,h,y,l,m,z,A,C,U,bi,bk];refine dV (λn=>?_) (λn=>?_)
   ·rw[show decide (V.iv=3)=false by simpa using n]at d;simp at d;simp[d,j.hp]
   ·rw[show decide (V.iv=3)=true by simpa using n]at d;simp at d;simp[r,s,l,m,j.hp,d]
  ·simp[h]
def yi:ge:=⟨fM×Int×Int,λa=>[a.1.t,D a.2.1,D a.2.2],λa=>Aj a.1/\iR a.2.1 a.1.w.dI.length=true/\iR a.2.2 a.1.w.dI.length=true,λa=> .bool (a.1.w.gx.W8 a.2.1 a.2.2),λa c b=>by simp at b;rw[fM.inj b.1,b.2.1,b.2.2]⟩
def Oh:yi.Ok prog cx 86:=by
 refine fR [] (iP 18463641368405213903 [] func86) (λ_=>100) (by simp[yi]) ?_;rintro⟨g,a,b⟩ ⟨l,r,A⟩ h G;simp only at l r A;simp[yi]at G|-;obtain⟨F,x,z⟩:=G;have⟨i,a1,a2,a3,a4,a5⟩:=l.w.at r;have⟨y,E,al,M,an,ap⟩:=l.w.at A;have⟨S,K,T,U,a7⟩:=l.st r;have⟨W,X,Y,ae⟩:=w8 U a4;have d:=GX.W8.eq_1 g.w.gx a b;rw[a3,M,T,ae]at d;generalize g.w.gx.W8 a b=L at*
 obtain⟨c,rfl,aA⟩:=kM.nat r;obtain⟨e,rfl,aN⟩:=kM.nat A;have aX:=l.w.ok.len;rw[cv]at a1 E K;have P:=Fm g.w.gx (lo:=(c:Int)+1) (hi:=e) (a:=c+1) (b:=e) (GX.yG i.dQ) B rfl;rw[P,show g.w.gx.ev=g.w.dI from rfl]at d;have O:binop .add (D (c:Int)) (D 1)=some (D ((c:Int)+1)):=ij B B;have V:jM ((c:Int)+1)=some (c+1):=by have:=ee (show(0:Int)<=((c+1:Nat):Int)by omega);simpa using this
 by_cases aE:c<e;rotate_left
 ·rw[aK (show¬(c:Int)<e by omega)]at d;simp[f86,F,x,z,d,show e<=c by omega,a1]
 rw[aR (show(c:Int)<e by omega),bD]at d;simp[f86,F,x,z,show¬e<=c by omega,a1,E,K,X,Y];refine dV (λk=>?_) (λk=>?_)
 ·have:L=false:=by
   rw[d];cases Q:decide (y.dQ=i.dQ)<;>cases R:W.atomic<;>simp[Q,R]at k|-
  simp[this]
 simp only[bE,bP]at k;rw[k.1,k.2]at d;simp[-List.length_take,-List.length_drop,x,z,O,V,show c+1<=e by omega,show e<=g.w.dI.length by omega];have av:((g.w.dI.drop (c+1)).take (e-(c+1))).length<=16:=dp;generalize(g.w.dI.drop (c+1)).take (e-(c+1))=j at*
 refine fc j.length B (λs h v=>gH 1 v/\(j.drop s).all (GX.yG i.dQ)=j.all (GX.yG i.dQ)/\dy h 7 (D i.dQ)/\dy h 50 (sl (j.map dY.t))/\dy h 51 (D j.length)/\dy h 52 (D s)) ?_ ?_ B ?_
 ·rintro s h v I N ⟨m,f,q,n,o,p⟩;rw[aH I,cq]at f;simp[q,n,o,p,m.low,I];generalize j[s]=u at*
  have H:GX.yG i.dQ u= !(decide (u.dQ=i.dQ)&&decide (u.kind=15)):=rfl;refine dV (λC=>?_) (λC=>?_)
  ·rw[H,C]at f;rw[<-f]at d;simp at d;simp[d,m.hp]
  ·rw[H,C]at f;simp[q,n,o,p,N];exact⟨m.cons _,by simpa using f⟩
 ·rintro h v ⟨m,f,q,n,o,p⟩;rw[cW]at f;rw[<-f]at d;simp at d;simp[q,n,o,p,m.hp,d]
 ·simp
def uV:ge:=⟨fM×jq,λe=>[e.1.t,e.2.t],λe=>Aj e.1/\iR e.2.a e.1.w.dI.length=true/\iR e.2.b e.1.w.dI.length=true/\iR e.2.c e.1.w.dI.length=true/\iR e.2.d e.1.w.dI.length=true,λe=> .bool (e.1.w.gx.WP e.2.a e.2.b e.2.c e.2.d),λe g f=>by simp at f;rw[fM.inj f.1,jq.inj f.2]⟩
def Lw:uV.Ok prog cx 87:=by
 refine fR [(134,rM)] (iP 63 [] func87) (λ_=>100) (by simp[uV]) ?_;rintro⟨a,⟨H,b,c,d,f,I⟩⟩ ⟨g,h,q,i,j⟩ M o;simp only at g h q i j;simp[uV]at o|-;obtain⟨y,z⟩:=o;have⟨N,a1,a2,a3,a4,a5⟩:=g.w.at h;have⟨K,r,s,t,C,E⟩:=g.w.at i;have⟨L,u,v,x,F,G⟩:=g.w.at j;have n:=GX.WP.eq_1 a.w.gx b c d f;have l:=λ{k:fw} (ht:k.p 134=some rM)=>Bf ht a b d h i;have m:=λ{k:fw} (ht:k.p 134=some rM)=>Bf ht a f c j q;rw[show ql a.w.dI b=a.w.gx.e b from rfl,show ql a.w.dI d=a.w.gx.e d from rfl]at l;rw[show ql a.w.dI f=a.w.gx.e f from rfl,show ql a.w.dI c=a.w.gx.e c from rfl]at m;generalize a.w.gx.WP b c d f=A at*
 generalize ks (a.w.gx.e b) (a.w.gx.e d)=p1 at*
 generalize ks (a.w.gx.e f) (a.w.gx.e c)=p2 at*
 rw[a3,t,x]at n;simp[f87,y,z,a1,a2,r,s,u,v,l,m,n]
def yh:ge:=⟨fM×List Int,λa=>[a.1.t,sl (a.2.map (T.int .i64))],λa=>Aj a.1/\a.2.length<=1000000,λa=> .bool (a.1.w.gx.Ms a.1.w.gx.vz a.2),λa c b=>by simp at b;rw[fM.inj b.1,jt J b.2]⟩
def Pv{d:fw}(ht:d.p 135=some sY)(a:fM)(c b:Int)(g:Aj a)(e:iR c a.w.dI.length=true)(f:iR b a.w.dI.length=true):rl prog cx d 135 [a.t,D c,D b]=some (.bool (a.w.gx.vz c b)):=gG ht Lx (a,c,b) ⟨g,e,f⟩
def N6:yh.Ok prog cx 83:=by
 refine fR [(135,sY),(85,oZ)] (iP 2361217299907134620023 [] func83) (λ_=>100) (by simp[yh]) ?_;rintro⟨f,a⟩ ⟨E,bs⟩ g ae;simp only at E bs;simp[yh]at ae|-;obtain⟨Y,i⟩:=ae;have bS:=E.w.ok.len;have⟨F,s⟩:∃F,f.w.gx.Ms f.w.gx.vz a=F:=⟨_,rfl⟩;rw[s];simp[f83,Y,i,Fj,show a.length<=1099511627776 by omega];refine dV (λC=>?_) (λC=>?_)
 ·have:F=false:=by
   rw[<-s];simp only[bM,aL,bF]at C;rcases C with(h|h)|h
   ·exact nM B
   ·exact nM B
   ·unfold mr at h;rw[List.all_eq_false]at h;obtain⟨d,v,bz⟩:=h;obtain⟨b,aE,rfl⟩:=List.mem_iff_getElem.1 v;exact nM (.inr (.inr (.inl ⟨b,aE,by simp[List.getD,aE];exact(by simpa using bz:iR a[b] f.w.dI.length=false)⟩)))
  simp[this]
 simp only[bE,bP,aZ]at C;obtain⟨⟨bT,b6⟩,aX⟩:=C;have bl:2<=a.length:=B;have bn:a.length<=4:=B;have z:∀c (k:c<a.length),iR a[c] f.w.dI.length=true:=λc k=>by
  unfold mr at aX;exact List.all_eq_true.1 aX _ (aD k)
 have bu:∀c<a.length,iR (a.getD c 0) f.w.gx.ev.length=true:=λc k=>by simp[List.getD,k];exact z c k
 simp[Y,i];generalize R:H.cons _ _=M;have X:M.get 0=some (Z 16 0 [f.t]):=by rw[<-R];simp
 have W:Hp M:=by rw[<-R];simp
 clear R;refine fc a.length B (λb g h=>M=h/\(∀c<b,yH f.w.gx f.w.gx.vz a c=true)/\dy g 1 (sl (a.map (T.int .i64)))/\dy g 2 (.ptr 0 0 0 0)/\dy g 23 (sl (a.map (T.int .i64)))/\dy g 24 (D a.length)/\dy g 25 (D b)) ?_ ?_ B ?_
 ·rintro b g _ A al ⟨rfl,S,i,j,l,n,o⟩;have V:∀c (k:c<a.length),a.getD c 0=a[c]:=λc k=>by simp[List.getD,k]
  have P:0<a.length:=B;have aN:=JJ (b+1) a.length B B;have O:(b+1)% a.length<a.length:=Nat.mod_lt _ P;have u:yH f.w.gx f.w.gx.vz a b=(!decide (a[b]<a[0])&&f.w.gx.vz (a[(b+1)% a.length]'O) a[b]&&(List.range b).all λd=> !decide ((f.w.gx.e a[b]).dQ=(f.w.gx.e (a.getD d 0)).dQ)):=by unfold yH;rw[V _ A,V _ P,V _ O]
  generalize(b+1)% a.length=m at*
  have a8:=λ{bC:fw} (ht:bC.p 135=some sY)=>Pv ht f a[m] a[b] E (z m O) (z b A);have⟨x,a1,a2,a3,a4,a5⟩:=E.w.at (z b A);rw[a3]at u;simp at aN;have ap:yH f.w.gx f.w.gx.vz a b=false->F=false:=λh=>by rw[<-s];exact nM (.inr (.inr (.inr ⟨b,A,h⟩)))
  simp[X,i,j,l,n,o,A,al,P,aN,O,a8];refine dV (λq=>?_) (λq=>?_)
  ·have:yH f.w.gx f.w.gx.vz a b=false:=by
    rw[u,bX];intro h;simp only[az,bF,aZ]at h;simp[h.1.2]at q;omega
   simp[ap this,W]
  ·simp only[bE,bP,aZ]at q;rw[q.2,aK q.1]at u;simp[-List.length_take,i,j,show b<=a.length by omega];have⟨r,Q⟩:∃r,r=a.take b:=⟨_,rfl⟩;rw[<-Q];have bk:r.length=b:=by rw[Q];simp;omega
   have bB:∀d (v:d<r.length) (hl:d<a.length),r[d]=a[d]:=λd v hl=>by subst Q;exact List.getElem_take
   refine fc b B (λd g h=>M=h/\(∀c<d,decide (x.dQ=(f.w.gx.e (a.getD c 0)).dQ)=false)/\dy g 1 (sl (a.map (T.int .i64)))/\dy g 2 (.ptr 0 0 0 0)/\dy g 6 (D a[b])/\dy g 23 (sl (a.map (T.int .i64)))/\dy g 24 (D a.length)/\dy g 25 (D b)/\dy g 51 (sl (r.map (T.int .i64)))/\dy g 52 (D b)/\dy g 53 (D d)) ?_ ?_ B ?_
   ·rintro d g _ aA an ⟨rfl,U,i,j,L,l,n,o,G,I,K⟩;have N:d<a.length:=B;have⟨y,bH,bN,a7,b7,b8⟩:=E.w.at (z d N);have av:d<r.length:=B;have bi:=bB d av N;simp[X,i,j,L,l,n,o,G,I,K,aA,an,av,bi,a1,a2,bH,bN];refine dV (λq=>?_) (λq=>?_)
    ·have:yH f.w.gx f.w.gx.vz a b=false:=by
      rw[u];simp;exact⟨d,aA,by simpa[N,a7]using q⟩
     simp[ap this,W]
    ·simp[i,j,L,l,n,o,G,I,K,an];intro c k;rcases aM c d with h|h
     ·simpa using U c h
     ·rw[show c=d by omega];simp[N,a7];simpa using q
   ·rintro g _ ⟨rfl,U,i,j,L,l,n,o,G,I,K⟩;simp[i,j,L,l,n,o,G,I,K,al];intro c k;rcases aM c b with h|h
    ·exact S c h
    ·rw[show c=b by omega,u];simp;intro d v;simpa using U d v
   ·simp[i,j,l,n,o,bk]
 ·rintro g _ ⟨rfl,S,i,j,l,n,o⟩;rw[Hg bl bn bu S]at s;simp[i,j,l,n,o,s.symm,W]
 ·simp[i]
theorem kM.cells{a:eJ}(g:kM a):FB a:=λd h e=>by
 have⟨i,f⟩:=cH h;have hl:i<a.dI.length:=(List.getElem?_eq_some_iff.1 f).1;have⟨k,b,l,m,n,c⟩:=g.at (i:=i) (ff.2 ⟨B,by simpa using hl⟩);rw[cv,f]at b;simp only[ar]at b;subst b;have j:d.kind=3\/d.kind=4:=by unfold vI at e;simpa using e
 unfold ju at c;rw[ao B,aq j]at c;exact c
def Hq{f:fw}(ht:f.p 85=some oZ)(a:fM)(b c d e:Int):rl prog cx f 85 [a.t,sl [D b,D c,D d,D e]]=some (.bool (iR b a.w.dI.length&&iR c a.w.dI.length&&iR d a.w.dI.length&&iR e a.w.dI.length)):=by
 have:=Fj ht a [b,c,d,e] J;simpa[mr,Bool.and_assoc]using this
def M2{a:fM}(d:Aj a)(b c:Int):Ar a.w b c=((iR b a.w.dI.length&&iR c a.w.dI.length)&&a.w.gx.QC b c):=by
 unfold Ar GX.QC GX.e eJ.gx;cases iR b a.w.dI.length<;>cases iR c a.w.dI.length<;>simp
 ac_rfl
def x6:ge:=⟨fM×jq,λa=>[a.1.t,a.2.t],λa=>Aj a.1/\a.2.kA.length<=1000000,λa=> .bool (a.1.w.gx.vG a.2),λa c b=>by simp at b;rw[fM.inj b.1,jq.inj b.2]⟩
def ND:x6.Ok prog cx 41:=by
 refine fR [(82,zl),(83,yh),(84,BH),(85,oZ),(86,yi),(87,uV)] (iP 2417851783344448572752095 [] func41) (λ_=>100) (by simp[x6]) ?_;rintro⟨f,e⟩ ⟨j,v⟩ I u;simp only at j v;simp[x6]at u|-;obtain⟨l,m⟩:=u;have g:=GX.vG.eq_1 f.w.gx e;simp only[show∀x,f.w.gx.AC x=iR x f.w.dI.length from λ_=>rfl]at g;generalize f.w.gx.vG e=H at*
 cases i:decide (e.kind=1)with
 |true=>
  rw[aq (by simpa using i)]at g;have o:∀{h:fw},h.p 82=some zl->rl prog cx h 82 [f.t,D e.a,D e.b]=some (.bool ((iR e.a f.w.dI.length&&iR e.b f.w.dI.length)&&f.w.gx.QC e.a e.b)):=λht=>by rw[<-M2 j];exact WH ht f e.a e.b j.w.cells
  simp[f41,l,m,i,o,g]
  try ac_rfl
 |false=>
  rw[ao (by simpa using i)]at g;cases k:decide (e.kind=2)with
  |true=>
   rw[aq (by simpa using k)]at g;have o:∀{h:fw},h.p 83=some yh->rl prog cx h 83 [f.t,sl (e.kA.map (T.int .i64))]=some (.bool (f.w.gx.Ms f.w.gx.vz e.kA)):=λht=>gG ht N6 (f,e.kA) ⟨j,v⟩;simp[f41,l,m,i,k,o,g,GX.dead]
  |false=>
   rw[ao (by simpa using k)]at g;cases n:decide (e.kind=3)with
   |true=>
    rw[aq (by simpa using n)]at g;have o:∀{h:fw},h.p 84=some BH->rl prog cx h 84 [f.t,D e.a,D e.b]=some (.bool ((iR e.a f.w.dI.length&&iR e.b f.w.dI.length)&&f.w.gx.Qg e.a e.b)):=λht=>gG ht QR (f,e.a,e.b) j;simp[f41,l,m,i,k,n,o,g]
    try ac_rfl
   |false=>
    rw[ao (by simpa using n)]at g;cases q:decide (e.kind=4)with
    |false=>
     rw[ao (by simpa using q)]at g;simp[f41,l,m,i,k,n,q,g]
    |true=>
     rw[aq (by simpa using q)]at g;cases r:(iR e.a f.w.dI.length&&iR e.b f.w.dI.length&&iR e.c f.w.dI.length&&iR e.d f.w.dI.length)with
     |false=>
      rw[r]at g;cases s:decide (e.kA=[])<;>simp[f41,l,m,i,k,n,q,Hq,gh,r,g,s]
     |true=>
      rw[r]at g;have A:=r;simp only[az]at A;obtain⟨⟨⟨y,z⟩,F⟩,G⟩:=A;have C:∀{h:fw},h.p 86=some yi->rl prog cx h 86 [f.t,D e.a,D e.b]=some (.bool (f.w.gx.W8 e.a e.b)):=λht=>gG ht Oh (f,e.a,e.b) ⟨j,y,z⟩;have E:∀{h:fw},h.p 87=some uV->rl prog cx h 87 [f.t,e.t]=some (.bool (f.w.gx.WP e.a e.b e.c e.d)):=λht=>gG ht Lw (f,e) ⟨j,y,z,F,G⟩;cases s:decide (e.kA=[])<;>simp[f41,l,m,i,k,n,q,Hq,gh,r,C,E,g,s]
def RP{c:fw}(ht:c.p 41=some x6)(b:fM)(a:jq)(d:Aj b)(hl:a.kA.length<=1000000):rl prog cx c 41 [b.t,a.t]=some (.bool (b.w.gx.vG a)):=gG ht ND (b,a) ⟨d,hl⟩
structure Qj where
 (v:T) (es:List T)
def Au(e:Nat)(a:Qj)(c:List T)(b:H):Prop:=c=[a.v]/\b.jf a.v=some a.es/\(∀d∈a.es,d.cells.length=e)/\a.es.length<=1000000/\gH 0 b
def u4(f:Nat)(e:Qj)(g:List T)(b:H)(d:T)(c:H):Prop:=Gr c d f e.es/\Nb b c/\∀a,dM d=some a->b.size<=a
def xz{a bytes:Nat}{l:aj}(x:C2 prog cx l (.clone a bytes))(v:1<=bytes)(w:bytes<=1000):(jr Qj (Au a) (u4 a)).Ok prog cx l:=by
 intro i b ⟨⟨p,e⟩,y⟩;have n:∀h:Qj,Au a h i b->∃d c,yk (.clone a bytes) i b=some (d,c)/\u4 a h i b d c:=by
  rintro⟨p,e⟩ ⟨rfl,g,m,hl,o⟩;simp only at g m hl;show∃d c,(M (b.jf p) λe=>List.casesOn e (some (dw,b)) λ_ _=>b.ja a bytes [] e)=some (d,c)/\_;rw[g,dS];cases e with
  |nil=>exact⟨_,_,rfl,Gr.nil _ _,Nb.refl o,λr j=>by simp at j⟩
  |cons H G=>
   refine⟨_,_,oo m v (aO (Nat.mul_le_mul hl w) B),Gr.new (ep:=0) (ver:=0) (ex:=false) J,(Nb.refl o).cons _,λr j=>by simp at j;omega⟩
 have⟨d,c,k,E⟩:=n _ y;refine⟨d,c,λh g=>?_,λq A C s z u=>x _ _ _ _ k q A C s z u⟩;have⟨r2,F,f,t⟩:=n h g;rw[k]at f;simp only[ar,aB]at f;rw[f.1,f.2];exact t
def Oc:(jr Qj (Au 1) (u4 1)).Ok prog cx 51:=xz (rf (fn:=f51) (t:=25) (tb:=4) (te:=Eu) gW func51 dz dz dz dz dz dz dz) dt (bytes:=8) dt 
def Od:(jr Qj (Au 1) (u4 1)).Ok prog cx 50:=xz (rf (fn:=f50) (t:=36) (tb:=4) (te:=Zl) gW func50 dz dz dz dz dz dz dz) dt (bytes:=1) dt 
def Oa:(jr Qj (Au 3) (u4 3)).Ok prog cx 88:=xz (rf (fn:=f88) (t:=37) (tb:=4) (te:=Al) gW func88 dz dz dz dz dz dz dz) dt (bytes:=24) dt 
def LkG(f:H)(d:Nat->Prop)(e:T)(c:dP):Prop:=∃a,e= .agg [D c.iy,a]/\Gr f a 1 (gF c.ed)/\∀b,dM a=some b->d b
def LkD(b:List T):Prop:=∀(c d:Nat) (e f g h:T) (a:Nat),b[c]? =some (.agg [g,e])->b[d]? =some (.agg [h,f])->dM e=some a->dM f=some a->c=d
def T1(c:fa)(j:List T)(h:H)(i:T)(b:H):Prop:=∃d e f g,i=MG c d e f/\AW h.size b.size b d e f g c/\Nb h b/\ir (LkG b λa=>h.size<=a/\a<b.size/\dM d≠some a/\dM e≠some a/\dM f≠some a) g c.dW/\LkD g
structure ClO(S:fa)(h h':H)(i:Nat)(es:List T)(ver:Nat):Prop where
 nb:Nb h h'
 z:h.size+3<=h'.size
 b0:h'.get h.size=some (Z 4 0 [S.t])
 b1:h'.get (h.size+1)=some (Z 4 0 [.agg [dw,D 0,dw,dw]])
 b2:h'.get (h.size+1+1)=some ⟨2,0,ver,true,false,es⟩
 l:es.length=S.dW.length
 c:∀e∈es,∃x y,e= .agg [x,y]
 d:LkD es
 bd:∀(j:Nat) (o x:T) (c:Nat),es[j]? =some (.agg [o,x])->dM x=some c->c<h'.size
 a:ir (LkG h' λk=>h.size+3<=k/\k<h'.size) (es.take i) (S.dW.take i)
def Ob:(jr fa DJ T1).Ok prog cx 92:=by
 refine jn (tb:=⟨pt [],ht [(51,jr Qj (Au 1) (u4 1)),(50,jr Qj (Au 1) (u4 1)),(88,jr Qj (Au 3) (u4 3))]⟩) iB gW (iP 30783 [(5,[(3,6)])] func92) (λ_ _=>1000005) (λn a d dm=>by obtain⟨rfl,_⟩:=dm;simp[f92]) ?_;rintro f _ d ⟨rfl,ec,hl,eA,ht,hr⟩ A ce;simp at ce;have c4:=ec.hr;simp[f92,ce,show f.dW.length*32<=70368744177664 by omega];refine fc f.dW.length B (λn A i=>∃x ver,ClO f d i n x ver/\dy A 1 (.ptr d.size 0 0 0)/\dy A 2 (.ptr (d.size+1) 0 0 0)/\dy A 3 (.arr (d.size+1+1) 0 0 f.dW.length false)/\dy A 11 (sl (f.dW.map dP.t))/\dy A 12 (D f.dW.length)/\dy A 13 (D n)) ?_ ?_ B ?_
 ·rintro n A i bu di ⟨x,ver,⟨z,ds,an,bk,ap,aX,bT,b6,bs,bi⟩,O,S,U,P,Q,R⟩;have bB:gH 0 i:=⟨z.ok.hp,z.ok.low,aw _⟩;have eB:=hr f.dW[n] (aD bu);have dn:f.dW.take (n+1)=f.dW.take n++[f.dW[n]]:=aT bu;have⟨eu,ey,dk⟩:=bT x[n] (aD B);have eb:(d.size+1+1=i.size)=False:=dp;have ea:=bB.low;simp[O,S,U,P,Q,R,bu,an,bk,ap,aX,eb,ea];generalize f.dW[n]=y at*
  have b9:=bB.cons (Z 2 1 [y.t]);refine lO Oc J ⟨sl (gF y.ed),gF y.ed⟩ ⟨rfl,J,by simp[T.cells],dp,b9⟩ ?_;rintro r X ⟨M,v,bn⟩;simp only at M;have er:=v.ok.sz;simp at er;have bz:X.get (d.size+1+1)=some ⟨2,0,ver,true,false,x⟩:=(v.get (d.size+1+1) dp).trans (by rw[dO,ao B];exact ap);have eh:em (i.cons (Z 2 1 [y.t])) X (d.size+1+1)=true:=eQ (v.get _ dp);have eo:em (i.cons (Z 2 1 [y.t])) X i.size=true:=eQ (v.get _ J);simp[O,S,U,P,Q,R,M.fg,M.cells,ap,bz,eh,eo,bu,aX,dk,v.ok.low,dN,di];have bl:∀c,c<i.size->c≠d.size+1+1->(dT X (d.size+1+1) ⟨2,0,ver+1,true,false,x.set n (.agg [D y.iy,r])⟩).get c=i.get c:=λc e ae=>by
   rw[dF bz,ao ae];exact(v.get c dp).trans (by rw[dO,ao B])
  have et:=z.ok.sz;refine⟨x.set n (.agg [D y.iy,r]),ver+1,⟨⟨(⟨v.ok.hp,v.ok.low,aw _⟩:gH 0 X).put _ _|>.hp,(⟨v.ok.hp,v.ok.low,aw _⟩:gH 0 X).put _ _|>.low,dp⟩,λc e=>(bl c B B).trans (z.get c e)⟩,dp,(bl _ B B).trans an,(bl _ B B).trans bk,by rw[dF bz,aq rfl],by simpa using aX,λF I=>?_,?_,?_,?_⟩
  ·rcases bZ I with q|q
   ·exact bT F q
   ·exact⟨_,_,q⟩
  ·intro j k E g o c1 c h C l s;rw[bU]at h C;split at h<;>split at C
   ·omega
   ·split at h
    ·simp only[ar,T.agg.injEq,bI,and_true]at h;have:=bn c (by rw[h.2];exact l);have:=bs k _ _ c C s;simp at*;omega
    ·simp at h
   ·split at C
    ·simp only[ar,T.agg.injEq,bI,and_true]at C;have:=bn c (by rw[C.2];exact s);have:=bs j _ _ c h l;simp at*;omega
    ·simp at C
   ·exact b6 j k E g o c1 c h C l s
  ·intro j o E c h l;rw[bU]at h;rw[fI];split at h
   ·split at h
    ·simp only[ar,T.agg.injEq,bI,and_true]at h;have⟨_,_,_,_,s,_⟩:=M.box (b:=c) (by rw[h.2];exact l);exact H.ej s
    ·simp at h
   ·have:=bs j _ _ c h l;omega
  ·rw[dn,aT dp];refine ir.append ?_ (.cons ?_ .nil)
   ·rw[List.take_set_of_le (au _)];exact bi.imp λF m ⟨a8,av,aA,w⟩=>⟨a8,av,aA.mono λc e=>bl c (w c e).2 (by have:=(w c e).1;omega),λc e=>⟨(w c e).1,by have:=(w c e).2;simp;omega⟩⟩
   ·simp only[List.getElem_set_self];refine⟨r,rfl,(M.mono λc e=>by rw[dF bz,ao (by have:=bn c e;simp at this;omega)]),λc e=>⟨by have:=bn c e;simp at this;omega,?_⟩⟩;have⟨_,_,_,_,s,_⟩:=M.box e;have:=H.ej s;simpa using this
 ·rintro A i ⟨x,ver,⟨z,ds,an,bk,ap,aX,bT,b6,bs,bi⟩,O,S,U,P,Q,R⟩;have bB:gH 0 i:=⟨z.ok.hp,z.ok.low,aw _⟩;have bN:∀g c,(dT i d.size g).get c=if c=d.size then some g else i.get c:=λg c=>dF an g c;simp[O,S,U,P,Q,R,an,bN,dN];have⟨V,aE⟩:∃V,V=dT i d.size (Z 4 1 [.agg [.arr (d.size+1+1) 0 0 f.dW.length false,D f.tx,sl (f.done.map T.bool),sl (f.dC.map dE.t)]]):=⟨_,rfl⟩;have eC:V.size=i.size:=by rw[aE];simp
  have ef:gH 0 V:=by rw[aE];exact bB.put _ _
  have gA:∀c,c≠d.size->V.get c=i.get c:=λc e=>by rw[aE,bN,ao e]
  have dd:V.get d.size=some (Z 4 1 [.agg [.arr (d.size+1+1) 0 0 f.dW.length false,D f.tx,sl (f.done.map T.bool),sl (f.dC.map dE.t)]]):=by rw[aE,bN,aq rfl]
  rw[<-aE];refine iD Od J ⟨sl (f.done.map T.bool),f.done.map T.bool⟩ ⟨rfl,J,by intro F I;obtain⟨b,_,rfl⟩:=List.mem_map.1 I;rfl,dp,ef⟩ ?_;rintro L u ⟨G,al,c6⟩;simp only at G;have eD:=al.ok.sz;have cp:=(al.get d.size B).trans dd;have bS:∀g c,(dT u d.size g).get c=if c=d.size then some g else u.get c:=λg c=>dF cp g c;simp[O,S,U,P,Q,R,G.fg,G.cells,cp,bS,dN];have⟨W,aN⟩:∃W,W=dT u d.size (Z 4 2 [.agg [.arr (d.size+1+1) 0 0 f.dW.length false,D f.tx,L,sl (f.dC.map dE.t)]]):=⟨_,rfl⟩;have eE:W.size=u.size:=by rw[aN];simp
  have b9:gH 0 W:=by rw[aN];exact(⟨al.ok.hp,al.ok.low,aw _⟩:gH 0 u).put _ _
  have bH:∀c,c≠d.size->W.get c=u.get c:=λc e=>by rw[aN,bS,ao e]
  have de:W.get d.size=some (Z 4 2 [.agg [.arr (d.size+1+1) 0 0 f.dW.length false,D f.tx,L,sl (f.dC.map dE.t)]]):=by rw[aN,bS,aq rfl]
  rw[<-aN];refine iD Oa J ⟨sl (f.dC.map dE.t),f.dC.map dE.t⟩ ⟨rfl,J,by intro F I;obtain⟨b,_,rfl⟩:=List.mem_map.1 I;rfl,dp,b9⟩ ?_;rintro a7 p ⟨gT,K,c7⟩;simp only at gT;have eF:=K.ok.sz;have N5:gH 0 p:=⟨K.ok.hp,K.ok.low,aw _⟩;have cL:=(K.get d.size B).trans de;have dv:p.get (d.size+1)=_:=(K.get (d.size+1) B).trans ((bH _ B).trans ((al.get _ B).trans ((gA _ B).trans bk)));have cb:∀g c,(dT p d.size g).get c=if c=d.size then some g else p.get c:=λg c=>dF cL g c;have N:∀g E c,(dT (dT p d.size g) (d.size+1) E).get c=if c=d.size+1 then some E else if c=d.size then some g else p.get c:=λg E c=>by
   rw[mn (by simp[N5.hp]) dp,cb]
  simp[O,S,U,P,Q,R,G.fg,G.cells,gT.fg,gT.cells,cL,dv,cb,N,dN];rw[bA B,aJ]at bi;have bC:∀c,c<i.size->c≠d.size->p.get c=i.get c:=λc e ae=>(K.get c B).trans ((bH c ae).trans ((al.get c B).trans (gA c ae)));have c9:∀c,c<u.size->c≠d.size->p.get c=u.get c:=λc e ae=>(K.get c B).trans (bH c ae);have et:=z.ok.sz;have b7:∀c,dM L=some c->i.size<=c/\c<u.size:=λc e=>⟨by have:=c6 c e;omega,by have⟨_,_,_,_,s,_⟩:=G.box e;exact H.ej s⟩;have b8:∀c,dM a7=some c->u.size<=c/\c<p.size:=λc e=>⟨by have:=c7 c e;omega,by have⟨_,_,_,_,s,_⟩:=gT.box e;exact H.ej s⟩;have ca:ir (LkG (lM d (dT (dT p d.size (Z 4 3 [.agg [.arr (d.size+1+1) 0 0 f.dW.length false,D f.tx,L,a7]])) (d.size+1) (Z 4 1 [.agg [.arr (d.size+1+1) 0 0 f.dW.length false,D f.tx,L,a7]]))) λc=>d.size<=c/\c<p.size/\dM (.arr (d.size+1+1) 0 0 f.dW.length false)≠some c/\dM L≠some c/\dM a7≠some c) x f.dW:=bi.imp λF y ⟨a8,av,aA,w⟩=>⟨a8,av,aA.mono λc e=>by
   have:=w c e;rw[fO,N,ao B,ao B,bC _ B B],λc e=>by
   have:=w c e;exact⟨B,B,dp,λq=>by have:=b7 c q;omega,λq=>by have:=b8 c q;omega⟩⟩
  refine⟨.arr (d.size+1+1) 0 0 f.dW.length false,L,a7,x,rfl,⟨?_,G.mono λc e=>?_,gT.mono λc e=>?_,ca.imp λF y ⟨a8,av,aA,w⟩=>⟨a8,av,.inr aA,by simpa using w⟩,λc e=>?_⟩,⟨⟨?_,?_,?_⟩,λc e=>?_⟩,by simpa using ca,b6⟩
  ·rw[<-aX];exact Gr.new (ep:=0) (ver:=ver) (ex:=true) (by rw[fO,N,ao B,ao B,bC _ B B];exact ap)
  ·have:=b7 c e;rw[fO,N,ao B,ao B,c9 _ B B]
  ·have:=b8 c e;rw[fO,N,ao B,ao B]
  ·simp;rcases e with q|q|q
   ·simp at q;omega
   ·have:=b7 c q;omega
   ·have:=b8 c q;omega
  ·exact(((N5.put _ _).put _ _).out d).hp
  ·exact(((N5.put _ _).put _ _).out d).low
  ·simp;omega
  ·rw[fO,N,ao B,ao B,bC _ B B];exact z.get c e
 ·simp;refine⟨List.replicate f.dW.length (.agg [D 0,dw]),0,⟨(((Nb.refl c4).cons _).cons _).cons _|>.ok,λc e=>(((((Nb.refl c4).cons _).cons _).cons _).get c e).trans (gu d c)⟩,J,J,J,J,J,λF I=>⟨_,_,(bK I)⟩,?_,?_,.nil⟩
  ·intro j k E g o c1 c h _ l _;have:=bK (ax h);simp only[T.agg.injEq,bI,and_true]at this;rw[this.2]at l;simp at l
  ·intro j o E c h l;have:=bK (ax h);simp only[T.agg.injEq,bI,and_true]at this;rw[this.2]at l;simp at l
def vN:ge:=⟨dE×Int,λa=>[a.1.t,D a.2],λa=>True,λa=> .bool (decide (a.1.iv=3)&&decide (a.1.cond=a.2)),λa c b=>by simp at b;rw[dE.inj b.1,b.2]⟩
def Ny:vN.Ok prog cx 142:=by
 refine fR [] (iP 23 [] func142) (λd=>1) (by simp[vN]) ?_;rintro⟨f,e⟩ _ g a;simp[vN]at a|-;obtain⟨b,c⟩:=a;simp[f142,b,c]
def Ks{c:fw}(ht:c.p 142=some vN)(a:dE)(b:Int):rl prog cx c 142 [a.t,D b]=some (.bool (decide (a.iv=3)&&decide (a.cond=b))):=gG ht Ny (a,b) trivial
def KN(d:Int):∀(a c:List dE) (b:Nat),hU d (a++c) b=hU d a b++hU d c (b+a.length):=by
 intro a;induction a with
 |nil=>intro c b;rfl
 |cons f a e=>intro c b;simp only[cy,hU,e,aY];rw[show b+(a.length+1)=b+1+a.length by omega];split<;>rfl
def Bq(c:Int)(b:List dE){a:Nat}(d:a<b.length):hU c (b.take (a+1)) 0=hU c (b.take a) 0++(if b[a].iv=3/\b[a].cond=c then [(a:Int)]else []):=by
 rw[aT d,KN,List.length_take,cm B];simp[hU]
def lP(a:Int)(W:List Int):Int:=if a∈W then a else W.headD (-1)
structure HH where
 (S:fa) (c0 c2 c3:T) (c wk:Int)
structure Xe(h h':H)(c3:T)(l:List dE):Prop where
 g:Gr h' c3 3 (l.map dE.t)
 ok:gH h.size h'
 fr:∀c,c<h.size->dM c3≠some c->h'.get c=h.get c
def TT(a:HH)(d:List T)(b:H):Prop:=d=[MG a.S a.c0 a.c2 a.c3,D a.c,D a.wk]/\Gr b a.c3 3 (a.S.dC.map dE.t)/\gH 0 b/\a.S.dC.length<=1000000
def Nk(a:HH)(g:List T)(d:H)(f:T)(e:H):Prop:=∃b,f= D b/\b=lP a.wk (hU a.c a.S.dC 0)/\Xe d e a.c3 (if hU a.c a.S.dC 0=[]then a.S.dC else a.S.dC.modify b.toNat (ke 4))
def Ld{wk:Int}{W:List Int}{b:Nat}(d:∀c∈W,0<=c/\c<b):lP wk (W++[(b:Int)])=if lP wk W<0\/(b:Int)=wk then(b:Int)else lP wk W:=by
 unfold lP;by_cases a:wk∈W
 ·have:=d wk a;rw[aq (by simp[a]),aq a,ao B]
 ·rw[ao a];by_cases e:(b:Int)=wk
  ·subst e;rw[aq J,aq (.inr rfl)]
  ·rw[ao (by simp[a];omega)];cases W with
   |nil=>simp
   |cons c W=>have:=d c J;simp;intro f;omega
def NM:(jr HH TT Nk).Ok prog cx 97:=by
 refine jn (tb:=⟨pt [(142,vN)],ht []⟩) iB gW (iP 9126837199 [] func97) (λ_ _=>1000005) (λi a d bz=>by obtain⟨rfl,_⟩:=bz;simp[f97]) ?_;rintro⟨⟨L,bi,bT,b⟩,an,ap,O,c,wk⟩ _ d ⟨rfl,n,a8,hl⟩ h aA;simp only at n hl;simp[MG]at aA;obtain⟨bl,g,j⟩:=aA;have aX:=λg:H=>n.len (cx:=cx) g KQ _ rfl;rw[aG]at aX;have al:∀e,dM O=some e->e<d.size:=λe bu=>by obtain⟨_,_,_,_,bB,_⟩:=n.box bu;exact H.ej bB
 simp[f97,bl,g,j,aX];refine fc b.length B (λi h h'=>Nb d h'/\d.size<h'.size/\h'.get d.size=some (Z 4 0 [.agg [an,D bi,ap,O]])/\dy h 1 (D c)/\dy h 2 (D wk)/\dy h 3 (.ptr d.size 0 0 0)/\dy h 7 (D (lP wk (hU c (b.take i) 0)))/\dy h 11 O/\dy h 12 (D b.length)/\dy h 13 (D i)) ?_ ?_ B ?_
 ·rintro i h h' T aE ⟨f,bC,N,g,j,v,o,r,s,u⟩;have A:gH 0 h':=⟨f.ok.hp,f.ok.low,aw _⟩;obtain⟨e,P,Y,Q,bk,G,w,l,U⟩:=n.at (x:=b[i].t) (i:=i) (by simp[T]);rw[aG]at G U;subst G;have p:=(f.get e (H.ej w)).trans w;have bN:(e=h'.size)=False:=by have:=H.ej p;simp;omega
  have bH:=A.low;have X:=Bq c b T;simp[g,j,v,o,r,s,u,T,p,l,bN,bH,Ks];generalize b[i]=m at*
  have bn:∀x∈hU c (b.take i) 0,0<=x/\x<i:=λx l=>by
   obtain⟨z,E,I⟩:=sJ l;simp at I;omega
  have R:=Ld (wk:=wk) bn;have a7:=f.cons (Z 3 1 [m.t]);have ae:(h'.cons (Z 3 1 [m.t])).get d.size=some (Z 4 0 [.agg [an,D bi,ap,.arr e P 0 b.length false]]):=by rw[dO,ao B];exact N
  refine dV (λq=>?_) (λq=>?_)
  ·simp only[az,bM,aL]at q;rw[aq ⟨q.1.1,q.1.2⟩]at X;rw[aq q.2,<-X]at R;simp[g,j,v,r,s,u,aE];exact⟨a7,B,by simpa using ae,R.symm⟩
  ·simp[g,j,v,o,r,s,u,aE];refine⟨a7,B,by simpa using ae,?_⟩;rw[X];split
   ·rename_i aN;simp only[Bool.and_eq_false_iff,bE,aZ]at q;rw[R,ao];rcases q with(q|q)|q
    ·exact absurd aN.1 q
    ·exact absurd aN.2 q
    ·rintro(k|k)
     ·exact q.1 k
     ·exact q.2 k
   ·simp
 ·rintro h h' ⟨f,bC,N,g,j,v,o,r,s,u⟩;rw[aJ]at o;simp[g,j,v,o,r,s,u];have A:gH 0 h':=⟨f.ok.hp,f.ok.low,aw _⟩;refine dV (λq=>?_) (λq=>?_)
  ·have q:0<=lP wk (hU c b 0):=by simpa using q
   have y:lP wk (hU c b 0)∈hU c b 0:=by
    generalize hU c b 0=W at*
    unfold lP at*
    split
    ·assumption
    ·rename_i K;rw[ao K]at q;cases W with
     |nil=>simp at q
     |cons x W=>simp
   obtain⟨z,E,I⟩:=sJ y;have V:hU c b 0≠ []:=λk=>by rw[k]at y;simp at y
   obtain⟨m,ht⟩:∃m,b[z]? =some m:=⟨_,ay I⟩;obtain⟨e,P,Y,Q,bk,G,w,l,U⟩:=n.at (x:=m.t) (i:=z) (by simp[ht]);rw[aG]at G U;subst G;have p:=(f.get e (H.ej w)).trans w;simp at E;simp[g,j,v,o,r,s,u,N,E,p,l,I];refine⟨_,rfl,E.symm,?_⟩;simp only;rw[ao V,cv,nC ht];have bS:=H.ej w;refine⟨?_,⟨((A.put e _).out d).hp,((A.put e _).out d).low,dp⟩,λM F K=>?_⟩
   ·have av:=(n.mono (h':=h') λC S=>f.get C (al C S)).setAt rfl p z (ke 4 m).t (h':=lM d (dT h' e ⟨3,P,Y+1,Q,false,bk.set z (ke 4 m).t⟩)) (ver2:=Y+1) (ex2:=Q) (by rw[fO,dF p,aq rfl]);rw[<-bO]at av;exact av
   ·simp at K;rw[fO,dF p,ao B];exact f.get M F
  ·have q:¬0<=lP wk (hU c b 0):=by simpa using q
   have V:hU c b 0=[]:=by
    generalize bs:hU c b 0=W at*
    have y:∀x∈W,0<=x:=λx l=>by rw[<-bs]at l;obtain⟨z,E,I⟩:=sJ l;omega
    unfold lP at q;split at q
    ·rename_i K;exact absurd (y _ K) q
    ·cases W with
     |nil=>rfl
     |cons x W=>have:=y x J;simp at q;omega
   simp[o];refine⟨_,rfl,rfl,?_⟩;simp only;rw[aq V];exact⟨(n.mono (h':=h') λC S=>f.get C (al C S)).out d,⟨(A.out d).hp,(A.out d).low,dp⟩,λM F _=>(fO d h' M).trans (f.get M F)⟩
 ·simp;exact⟨⟨((Nb.refl a8.hr).cons _).ok,λc F=>(((Nb.refl a8.hr).cons _).get c F).trans (gu d c)⟩,g,j,by simp[lP,hU]⟩
def B3(b:Int)(a:dE):dE:=if a.iv=3/\a.cond=b then ke 4 a else a
def TU(a:HH)(d:List T)(b:H):Prop:=d=[MG a.S a.c0 a.c2 a.c3,D a.c]/\Gr b a.c3 3 (a.S.dC.map dE.t)/\gH 0 b/\a.S.dC.length<=1000000
def Nl(a:HH)(f:List T)(b:H)(e:T)(d:H):Prop:=e= D (hU a.c a.S.dC 0).length/\Xe b d a.c3 (a.S.dC.map (B3 a.c))
def Gg:(jr HH TU Nl).Ok prog cx 98:=by
 refine jn (tb:=⟨pt [(142,vN)],ht []⟩) iB gW (iP 270071 [] func98) (λ_ _=>1000005) (λi a d bn=>by obtain⟨rfl,_⟩:=bn;simp[f98]) ?_;rintro⟨⟨L,bH,bS,b⟩,aE,aN,w,e,b7⟩ _ d ⟨rfl,G,ap,hl⟩ m W;simp only at G hl;simp[MG]at W;obtain⟨a8,h⟩:=W;have an:=λh:H=>G.len (cx:=cx) h KQ _ rfl;rw[aG]at an;have U:∀f,dM w=some f->f<d.size:=λf I=>by obtain⟨_,_,_,_,bu,_⟩:=G.box I;exact H.ej bu
 simp[f98,a8,h,an];refine fc b.length B (λi m h'=>gH d.size h'/\d.size<h'.size/\h'.get d.size=some (Z 4 0 [.agg [aE,D bH,aN,w]])/\(∀c,c<d.size->dM w≠some c->h'.get c=d.get c)/\Gr h' w 3 (((b.take i).map (B3 e)++b.drop i).map dE.t)/\dy m 1 (D e)/\dy m 2 (.ptr d.size 0 0 0)/\dy m 5 (D (hU e (b.take i) 0).length)/\dy m 9 w/\dy m 10 (D b.length)/\dy m 11 (D i)) ?_ ?_ B ?_
 ·rintro i m h' n X ⟨v,S,N,F,r,h,A,s,C,y,z⟩;have bC:gH 0 h':=⟨v.hp,v.low,aw _⟩;have ae:((b.take i).map (B3 e)++b.drop i)[i]? =some b[i]:=by
   rw[cC dp];simp[cm (show i<=b.length by omega),n]
  obtain⟨f,aX,aA,V,bN,Y,P,al,bl⟩:=r.at (x:=b[i].t) (i:=i) (by simp[ae]);have bk:(((b.take i).map (B3 e)++b.drop i).map dE.t).length=b.length:=dp;rw[bk]at Y bl;subst Y;have bB:(f=h'.size)=False:=by have:=H.ej P;simp;omega
  have I:f<d.size:=U f rfl;have bz:=bC.low;have K:=Bq e b n;have bT:(hU e (b.take i) 0).length<=i:=by have:=Br e (b.take i) 0;simp at this;omega
  have bi:binop .add (D ((hU e (b.take i) 0).length:Int)) (D 1)=some (D (((hU e (b.take i) 0).length:Int)+1)):=ij B B;have R:(b.take (i+1)).map (B3 e)++b.drop (i+1)=((b.take i).map (B3 e)++b.drop i).set i (B3 e b[i]):=by
   rw[List.set_append_right _ _ dp,aT n,List.map_append,aH n];simp[cm (show i<=b.length by omega)];rw[aH n];rfl
  simp[h,A,s,C,y,z,n,P,al,bB,bz,Ks];have E:B3 e b[i]=if b[i].iv=3/\b[i].cond=e then ke 4 b[i]else b[i]:=rfl;generalize b[i]=l at*
  have av:=v.cons (Z 3 1 [l.t]);have q:∀c,c<h'.size->(h'.cons (Z 3 1 [l.t])).get c=h'.get c:=λc g=>by rw[dO,ao B]
  refine dV (λp=>?_) (λp=>?_)
  ·simp only[az,aL]at p;rw[aq p]at K E;have Q:=(q f B).trans P;have T:=(q d.size S).trans N;have b6:(f=d.size)=False:=dp;simp[h,A,s,C,y,z,T,Q,al,n,bi,X];have O:∀M c,(dT (h'.cons (Z 3 1 [l.t])) f M).get c=if c=f then some M else(h'.cons (Z 3 1 [l.t])).get c:=λM c=>dF Q M c;refine⟨av.put _ _,B,by rw[O,ao B];exact T,λc g u=>by rw[O,ao (λp=>u p.symm),q c B];exact F c g (by simpa using u),?_,by rw[K];simp⟩;have a7:=r.mono (h':=h'.cons (Z 3 1 [l.t])) λc g=>q c (by simp at g;omega);have:=a7.setAt rfl Q i (ke 4 l).t (h':=dT (h'.cons (Z 3 1 [l.t])) f ⟨3,aX,aA+1,V,false,bN.set i (ke 4 l).t⟩) (ver2:=aA+1) (ex2:=V) (by rw[O,aq rfl]);rw[<-bO,<-E,<-R]at this;rw[E]at this;exact this
  ·rw[ao (by simpa using p)]at K E;simp[h,A,s,C,y,z,X];refine⟨av,B,by simpa using(q d.size S).trans N,λc g u=>by rw[ao B];exact F c g (by simpa using u),?_,by rw[K];simp⟩;have bs:((b.take i).map (B3 e)++b.drop i).set i l=(b.take i).map (B3 e)++b.drop i:=by
    apply cN;intro j;rw[bU];split
    ·rename_i k;subst k;rw[ae];simp;omega
    ·rfl
   rw[E,bs]at R;have:=r.mono (h':=h'.cons (Z 3 1 [l.t])) λc g=>q c (by simp at g;omega);rw[<-R]at this;simpa using this
 ·rintro m h' ⟨v,S,N,F,r,h,A,s,C,y,z⟩;rw[aJ,cW,cj]at r;rw[aJ]at s;simp[h,A,s,C,y,z];exact⟨rfl,r.out d,⟨(v.out d).hp,(v.out d).low,dp⟩,λc g u=>(fO d h' c).trans (F c g u)⟩
 ·simp;exact⟨⟨ap.hr.hp,ap.hr.low,au _⟩|>λ(o:gH d.size (TI.hr d))=>o.cons _,λc g _ p=>by omega,(G.mono (h':=TI.hr d) λf _=>gu d f).mono λf I=>by rw[dO,ao (by have:=U f I;simp;omega)],h,by simp[hU]⟩
structure Uz(h h':H)(v:T)(l:List Int):Prop where
 g:Gr h' v 1 (gF l)
 ok:gH h.size h'
 fr:∀c,c<h.size->dM v≠some c->h'.get c=h.get c
def NP:mW prog cx 237 (λa:Int=>[D a]) (λ_=>True) (λ_ d=>d= .bool false):=by
 refine xN (tb:=⟨pt [],ht []⟩) iB gW (iP 5 [] func237) (λ_=>10) (λa e c=>by simpa using c) J nl9 ?_;rintro(a:Int) _ f b;simp at b;simp[f237,b]
def DG:ge:=⟨Int×Int,λa=>[D a.1,D a.2],λa=>True,λa=> .bool (decide (a.1<a.2)),λa c b=>by simp at b;rw[b.1,b.2]⟩
def Vj:DG.Ok prog cx 186:=by
 refine Bp (tb:=⟨pt [(237,NP.ji)],ht []⟩) iB gW (iP 19 [] func186) (λa=>1) (by simp[DG]) nl9 ?_;rintro⟨a,c⟩ _ h b;simp[DG]at b|-;obtain⟨f,g⟩:=b;obtain⟨_,rfl,d⟩:=NP.use a trivial;obtain⟨_,rfl,e⟩:=NP.use c trivial;simp[f186,f,g,d,e]
def Pq{c:fw}(ht:c.p 186=some DG)(a b:Int):rl prog cx c 186 [D a,D b]=some (.bool (decide (a<b))):=gG ht Vj (a,b) trivial
structure PX where
 (A:List Int) (t:Int) (v:T)
def TV(a:PX)(c:List T)(b:H):Prop:=c=[a.v,D 0,D ((a.A++[a.t]).length:Nat)]/\Gr b a.v 1 (gF (a.A++[a.t]))/\gH 0 b/\HJ a.A/\a.t∉a.A/\a.A.length<=10
def EG(a:PX)(d:List T)(b:H)(e:T)(c:H):Prop:=Uz b c a.v (lH a.A a.t)
def IK{d:Int}:∀{b a:List Int},(∀c∈b,c<d)->(∀c∈a,d<c)->lH (b++a) d=b++d::a:=by
 intro b;induction b with
 |nil=>
  intro a _ e;cases a with
  |nil=>rfl
  |cons f a=>have:=e f J;simp[lH];rw[ao B,ao B]
 |cons c b i=>intro a g e;have:=g c J;simp only[cy,lH];rw[aq this,i (λf h=>g f (by simp[h])) e]
def KT{b:List Int}{c:Int}{a:Nat}(d:a<b.length):((gF (b.take (a+1)++c::b.drop (a+1))).set (a+1) (D b[a])).set a (D c)=gF (b.take a++c::b.drop a):=by
 have e:(b.take a).length=a:=dp;rw[aT d,aH d];simp only[gF,List.map_append,aP,bY,cO,cy,List.nil_append];have f:(List.map (T.int .i64) (b.take a)).length=a:=by simpa using e
 rw[List.set_append_right _ _ B,List.set_append_right _ _ B,f];simp
def Lt:(jr PX TV EG).Ok prog cx 180:=by
 refine jn (tb:=⟨pt [(186,DG)],ht []⟩) iB gW (iP 1073746119 [] func180) (λ_ _=>100) (λi a e aX=>by obtain⟨rfl,_⟩:=aX;simp[f180]) ?_;rintro⟨b,f,q⟩ _ e ⟨rfl,an,L,S,ht,hl⟩ h aA;simp only at an S ht hl;simp at aA;obtain⟨l,m,n⟩:=aA;simp[f180,l,m,n];have bN:Gr (TI.hr e) q 1 (gF (b++[f])):=an.mono λo _=>gu e o;have bu:binop .add (D 0) (D 1)=some (D 1):=ij B B;simp[bu];refine yU (b.length+1) (λk h h'=>1<=k/\Uz e (lM e h') q (if k<=b.length then b++[f]else lH b f)/\gH e.size h'/\dy h 0 q/\dy h 1 (D 0)/\dy h 2 (D ((b.length:Int)+1))/\dy h 6 (D k)) ?_ B (k:=1) B ?_
 ·rintro k h h' cb ⟨ca,w,M,l,m,n,r⟩;have cL:gH 0 h':=⟨M.hp,M.low,aw _⟩;by_cases ce:k<b.length+1
  ·have T:binop .add (D (k:Int)) (D 1)=some (D ((k:Int)+1)):=ij B B;rw[aq B]at w;have R:Gr h' q 1 (gF (b++[f])):=w.g.mono λo _=>(fO e h' o).symm;have bS:binop .sub (D (k:Int)) (D 1)=some (D ((k-1:Nat):Int)):=by rw[kP B B];congr 2;omega
   simp[l,m,n,r,show(k:Int)<b.length+1 by omega];by_cases aN:k<b.length
   ·have⟨p1,O,P⟩:=(show oQ h' 1 q _ from .inr R).idx (te:=Eu) rfl rfl (i:=k) (x:= D b[k]) (by simp[List.getElem?_append,aN]) rfl;have⟨p2,bk,bl⟩:=(show oQ h' 1 q _ from .inr R).idx (te:=Eu) rfl rfl (i:=k-1) (x:= D b[k-1]) (by simp[List.getElem?_append,show k-1<b.length by omega]) rfl;have X:¬b[k]<b[k-1]:=by
     have:=List.pairwise_iff_getElem.1 S (k-1) k B aN B;omega
    refine yU 1 (λ_ h j=>h'=j/\dy h 0 q/\dy h 1 (D 0)/\dy h 2 (D ((b.length:Int)+1))/\dy h 6 (D k)/\dy h 7 (D k)) ?_ B (k:=0) B (by simp[l,m,n,r]);rintro _ h _ _ ⟨rfl,l,m,n,r,C⟩;simp[l,m,n,r,C,O,P,bk,bl,bS,Pq,X,show(0:Int)<k by omega,T];exact⟨k+1,B,B,B,by rw[aq B];exact w,M,J⟩
   ·have bB:k=b.length:=B;subst bB;have bz:=w.fr;refine yU b.length (λp h j=>∃s,s+p=b.length/\Gr j q 1 (gF (b.take s++f::b.drop s))/\gH e.size j/\(∀d,d<e.size->dM q≠some d->j.get d=e.get d)/\(∀x∈b.drop s,f<x)/\dy h 0 q/\dy h 1 (D 0)/\dy h 2 (D ((b.length:Int)+1))/\dy h 6 (D b.length)/\dy h 7 (D s)) ?_ B (k:=0) B ⟨b.length,B,by simpa using R,M,λd E v=>(fO e h' d).symm.trans (bz d E v),J,by simp[l,m,n,r]⟩;rintro p h j aX ⟨s,b9,K,t,al,aE,l,m,n,r,C⟩;have c1:gH 0 j:=⟨t.hp,t.low,aw _⟩;have fin:(∀x∈b.take s,x<f)->Uz e (lM e j) q (lH b f):=λhl=>by
     have I:=IK hl aE;rw[cF]at I;rw[I];exact⟨K.out e,⟨(t.out e).hp,(t.out e).low,by simp;exact t.sz⟩,λd E v=>(fO e j d).trans (al d E v)⟩
    cases s with
    |zero=>
     simp[l,m,n,r,C,T];exact⟨b.length+1,B,B,B,by rw[ao B];exact fin J,t,J⟩
    |succ c=>
     have G:c<b.length:=B;have bs:(gF (b.take (c+1)++f::b.drop (c+1))).length=b.length+1:=dp;have O:(b.take (c+1)++f::b.drop (c+1))[c+1]? =some f:=by rw[cC dp];simp[cm (show c+1<=b.length by omega)]
     have P:(b.take (c+1)++f::b.drop (c+1))[c]? =some b[c]:=by rw[cr dp];simp[G]
     have⟨o,Q,H,y,N,U,F,a8,bC⟩:=K.at (x:= D f) (i:=c+1) (by rw[aQ,O];rfl);have⟨bT,b6,c4,b7,c6,V,W,ae,X⟩:=K.at (x:= D b[c]) (i:=c) (by rw[aQ,P];rfl);rw[U]at V;simp at V;obtain⟨rfl,rfl⟩:=V;rw[F]at W;simp at W;obtain⟨rfl,rfl,rfl⟩:=W;rw[bs]at U bC X;subst U;have a7:binop .sub (D ((c:Int)+1)) (D 1)=some (D (c:Int)):=by rw[kP B B];congr 2;omega
     have bi:jM ((c:Int)+1)=some (c+1):=by have:=ee (show(0:Int)<=((c+1:Nat):Int)by omega);simpa using this
     by_cases Y:f<b[c]
     ·have A:∀u d,(dT j o u).get d=if d=o then some u else j.get d:=λu d=>dF F u d;have av:∀u z d,(dT (dT j o u) o z).get d=if d=o then some z else j.get d:=λu z d=>by
       rw[dF (x:=u) (by rw[A,aq rfl]),A];split<;>rfl
      have bH:∀x,(N.set (c+1) x)[c]? =some (D b[c]):=λx=>by rw[bU,ao B];exact ae
      simp[l,m,n,r,C,a7,bi,F,a8,ae,show c+1<b.length+1 by omega,show c<b.length+1 by omega,show(0:Int)<(c:Int)+1 by omega,Pq,Y,A,bH];have bn:=K.setAt rfl F (c+1) (D b[c]) (h':=dT j o ⟨1,Q,H+1,y,false,N.set (c+1) (D b[c])⟩) (ver2:=H+1) (ex2:=y) (by rw[A,aq rfl]);have ap:=bn.setAt rfl (by rw[A,aq rfl]) c (D f) (h':=dT (dT j o ⟨1,Q,H+1,y,false,N.set (c+1) (D b[c])⟩) o ⟨1,Q,H+1+1,y,false,(N.set (c+1) (D b[c])).set c (D f)⟩) (ver2:=H+1+1) (ex2:=y) (by rw[av,aq rfl]);rw[KT G]at ap;refine⟨p+1,B,B,c,B,ap,(t.put _ _).put _ _,λd E v=>by rw[av,ao (λI=>v I.symm)];exact al d E (by simpa using v),λx hx=>?_,rfl⟩;rw[aH G]at hx;rcases List.mem_cons.1 hx with rfl|hx
      ·exact Y
      ·exact aE x hx
     ·simp[l,m,n,r,C,a7,bi,F,a8,ae,show c+1<b.length+1 by omega,show c<b.length+1 by omega,show(0:Int)<(c:Int)+1 by omega,Pq,Y,T];refine⟨b.length+1,B,B,B,?_,t,J⟩;rw[ao B];refine fin λx hx=>?_;obtain⟨i,b8,rfl⟩:=List.mem_take_iff_getElem.1 hx;have cp:b[c]≠f:=λk=>ht (by rw[<-k];exact aD G);rcases aM i c with k|k
      ·have:=List.pairwise_iff_getElem.1 S i c B G k;omega
      ·have:i=c:=B;subst this;omega
  ·rw[ao B]at w;simp[l,m,n,r,show¬(k:Int)<b.length+1 by omega];exact w
 ·exact⟨B,by
   have:(if 1<=b.length then b++[f]else lH b f)=b++[f]:=by
    split
    ·rfl
    ·rw[show b=[]from aS B];rfl
   rw[this];exact⟨bN.out e,⟨(L.hr.out e).hp,(L.hr.out e).low,au _⟩,λd _ _=>(fO e _ d).trans (gu e d)⟩,⟨L.hr.hp,L.hr.low,au _⟩,by simp[l,m,n]⟩
def TR(a:PX×Int)(c:List T)(b:H):Prop:=c=[a.1.v,D 0,D ((a.1.A++[a.1.t]).length:Nat),D a.2]/\Gr b a.1.v 1 (gF (a.1.A++[a.1.t]))/\gH 0 b/\HJ a.1.A/\a.1.t∉a.1.A/\a.1.A.length<=10
def Ni(a:PX×Int)(d:List T)(b:H)(e:T)(c:H):Prop:=Uz b c a.1.v (lH a.1.A a.1.t)
def Uz.out{h c:H}{e:T}{d:List Int}(a:Uz (TI.hr h) c e d):Uz h (lM h c) e d:=⟨a.g.out h,⟨(a.ok.out h).hp,(a.ok.out h).low,by have:=a.ok.sz;simpa using this⟩,λb f i=>(fO h c b).trans ((a.fr b (by simpa using f) i).trans (gu h b))⟩
def aah:(jr (PX×Int) TR Ni).Ok prog cx 140:=by
 refine jn (tb:=⟨pt [],ht [(180,jr PX TV EG)]⟩) iB gW (iP 10384593871817177683247510831234831 [] func140) (λ_ _=>100) (λw u f p=>by obtain⟨rfl,_⟩:=p;simp[f140]) ?_;rintro⟨⟨a,l,g⟩,x⟩ _ f ⟨rfl,h,t,i,ht,hl⟩ e j;simp only at h i ht hl;simp at j;obtain⟨b,c,d,o⟩:=j;have r:binop .sub (D ((a.length:Int)+1)) (D 0)=some (D ((a.length:Int)+1)):=by rw[kP B B];simp
 have q:Gr (TI.hr f) g 1 (gF (a++[l])):=h.mono λm _=>gu f m;simp[f140,b,c,d,o];refine yU 1 (λ_ e n=>TI.hr f=n/\dy e 0 g/\dy e 1 (D 0)/\dy e 2 (D ((a.length:Int)+1))) ?_ B (k:=0) B (by simp[b,c,d]);rintro _ e _ _ ⟨rfl,b,c,d⟩;simp[b,c,d,r,show(a.length:Int)+1<=12 by omega];refine iD Lt J ⟨a,l,g⟩ ⟨J,q,t.hr,i,ht,hl⟩ ?_;rintro y v s;simp[b,c,d];exact s.out
def cv8(b:H)(a:Int)(c:0<=a)(d:a<256):Yw cx b 246 5 ty5 (.int .u64 a)=some (.val (.int .u8 a) b):=by
 refine Fc OT rfl ?_;rw[jv];unfold IntKind.wrap;simp[IntKind.bits,IntKind.signed];omega
def JS:mW prog cx 190 (λa:Nat=>[.int .u64 a]) (λa=>a<=11) (λ_=>D7):=by
 refine iS [] (iP 16661 [] func190) (λ_=>10) (λe f c=>by simp at c;omega) ?_;rintro(a:Nat) g h b;simp at b;have d:a=0\/a=1\/a=2\/a=3\/a=4\/a=5\/a=6\/a=7\/a=8\/a=9\/a=10\/a=11:=B;rcases d with rfl|rfl|rfl|rfl|rfl|rfl|rfl|rfl|rfl|rfl|rfl|rfl<;>simp at b<;>simp[f190,b,cv8,nG]
def PS{c:iH}{g h:Nat}{d:DL}(i b:Code)(e:Env)(f:H)(a:iq):W (jk cx c h g d (.cond (.const (Value.bool false)) i b) e f) a=W (jk cx c h g d b e f) a:=rfl
def T4:mW prog cx 141 (λa:Nat=>[.int .u64 a]) (λa=>a<=11) (λ_=>D7):=by
 refine iS [(190,JS.ji)] (iP 5 [] func141) (λ_=>10) (λf g d=>by simp at d;omega) ?_;rintro(a:Nat) e i b;simp at b;obtain⟨_,⟨h,rfl⟩,c⟩:=JS.use a e;simp[f141,b,c,PS]
def TQ(a:PX)(c:List T)(b:H):Prop:=c=[a.v]/\Gr b a.v 1 (gF (a.A++[a.t]))/\gH 0 b/\HJ a.A/\a.t∉a.A/\a.A.length<=10
def cvu(b:H)(a:Int)(c:0<=a)(d:a<256):Yw cx b 3 244 MC (D a)=some (.val (.int .u64 a) b):=by
 refine Fc Rt rfl ?_;rw[jv];unfold IntKind.wrap;simp[IntKind.bits,IntKind.signed];omega
def Vg:(jr PX TQ EG).Ok prog cx 93:=by
 refine jn (tb:=⟨pt [(141,T4.ji)],ht [(140,jr (PX×Int) TR Ni)]⟩) iB gW (iP 5 [] func93) (λ_ _=>100) (λs q c l=>by obtain⟨rfl,_⟩:=l;simp[f93]) ?_;rintro⟨a,h,i⟩ _ c ⟨rfl,b,p,e,ht,hl⟩ u f;simp only at b e ht hl;simp at f;have g:=λk:H=>b.len (cx:=cx) k qd _ rfl;simp at g;have m:Gr (TI.hr c) i 1 (gF (a++[h])):=b.mono λj _=>gu c j;obtain⟨_,⟨o,rfl⟩,d⟩:=T4.use (a.length+1) B;simp at d;simp[f93,f,g,cvu,show(a.length:Int)+1<256 by omega,show(0:Int)<=(a.length:Int)+1 by omega,d];refine iD aah J (⟨a,h,i⟩,o) ⟨J,m,p.hr,e,ht,hl⟩ ?_;rintro t r n;simp;exact Uz.out n
structure ICo where
 (l:List Int) (v:T)
def TZ(a:ICo)(c:List T)(b:H):Prop:=c=[a.v]/\Gr b a.v 1 (gF a.l)/\gH 0 b/\HJ a.l/\a.l.length<=1000
def Nr(c:ICo)(e:List T)(a:H)(d:T)(b:H):Prop:=d=c.v/\Nb a b
def Lv:(jr ICo TZ Nr).Ok prog cx 94:=by
 refine jn (tb:=⟨pt [],ht []⟩) iB gW (iP 17596514574653 [] func94) (λ_ _=>1005) (λi F a A=>by obtain⟨rfl,_⟩:=A;simp[f94]) ?_;rintro⟨b,f⟩ _ a ⟨rfl,h,E,m,hl⟩ g c;simp only at h m hl;simp at c;have e:=λw:H=>h.len (cx:=cx) w qd _ rfl;rw[aG]at e;have n:Gr (TI.hr a) f 1 (gF b):=h.mono λq _=>gu a q;have o:Nb a (lM a (TI.hr a)):=(Nb.refl E.hr).out;simp[f94,c,e];refine dV (λp=>?_) (λp=>?_)
 ·simp[c];exact⟨rfl,o⟩
 have K:2<=b.length:=by simp at p;omega
 simp;refine yU b.length (λk g v=>TI.hr a=v/\1<=k/\dy g 0 f/\dy g 3 (D k)) ?_ B (k:=1) B (by simp[c]);rintro k g _ I ⟨rfl,G,j,l⟩;by_cases d:k<b.length
 ·have y:binop .add (D (k:Int)) (D 1)=some (D ((k:Int)+1)):=ij B B;have C:binop .sub (D (k:Int)) (D 1)=some (D ((k-1:Nat):Int)):=by rw[kP B B];congr 2;omega
  have⟨p1,r,s⟩:=(show oQ (TI.hr a) 1 f _ from .inr n).idx (te:=Eu) rfl rfl (i:=k) (x:= D b[k]) (by simp[d]) rfl;have⟨p2,t,u⟩:=(show oQ (TI.hr a) 1 f _ from .inr n).idx (te:=Eu) rfl rfl (i:=k-1) (x:= D b[k-1]) (by simp[show k-1<b.length by omega]) rfl;have z:¬b[k]=b[k-1]:=by
   have:=List.pairwise_iff_getElem.1 m (k-1) k B d B;omega
  simp[j,l,e,d,C,r,s,t,u,z,y];exact⟨k+1,B,B,B,J⟩
 ·simp[j,l,e,d];exact⟨rfl,o⟩
structure Js where
 (P Q:List Int) (t:Int) (v:T) (b:Nat) (bx:iI)
def fnT(a:Js):T:= .func 96 [.ptr a.b 0 0 0]
def WW(c:H)(a:Js):Prop:=c.get a.b=some (Z 1 0 [D a.t])
def Nd(a:Js×Int)(d:List T)(c:H):Prop:=d=[D a.2,.ptr a.1.b 0 0 0]/\WW c a.1/\gH 0 c
def Ig(a:Js×Int)(e:List T)(b:H)(d:T)(c:H):Prop:=d= .bool (decide (a.2=a.1.t))/\Nb b c
def N1:(jr (Js×Int) Nd Ig).Ok prog cx 96:=by
 refine jn (tb:=⟨pt [],ht []⟩) iB gW (iP 11 [] func96) (λ_ _=>10) (λo m a h=>by obtain⟨rfl,_⟩:=h;simp[f96]) ?_;rintro⟨⟨k,l,j,p,b,n⟩,r⟩ _ a ⟨rfl,f,i⟩ q c;simp at c;obtain⟨d,e⟩:=c;have g:(TI.hr a).get b=some (Z 1 0 [D j]):=(gu a b).trans f;simp[f96,d,e,g];exact⟨rfl,(Nb.refl i.hr).out⟩
def TW(a:Js)(c:List T)(b:H):Prop:=c=[a.v,fnT a]/\WW b a/\gH 0 b/\Gr b a.v 1 (gF (a.P++a.t::a.Q))/\a.t∉a.P/\a.P.length+a.Q.length<=1000
def No(c:Js)(e:List T)(a:H)(d:T)(b:H):Prop:=d= D c.P.length/\Nb a b
def Gj:(jr Js TW No).Ok prog cx 99:=by
 refine jn (tb:=⟨pt [],ht [(96,jr (Js×Int) Nd Ig)]⟩) iB gW (iP 66483 [] func99) (λ_ _=>2000) (λi R p L=>by obtain⟨rfl,_⟩:=L;simp[f99]) ?_;rintro⟨a,f,j,l,o,A⟩ _ p ⟨rfl,u,P,m,ht,hl⟩ e t;simp only at m ht hl;simp[fnT]at t;obtain⟨d,b⟩:=t;have v:=λb:H=>m.len (cx:=cx) b qd _ rfl;simp at v;have z:∀c,dM l=some c->c<p.size:=λc s=>by have⟨_,_,_,_,O,_⟩:=m.box s;exact H.ej O
 simp[f99,d,b,v];refine yU a.length (λk e g=>Nb (TI.hr p) g/\dy e 0 l/\dy e 1 (.func 96 [.ptr o 0 0 0])/\dy e 7 (D ((a.length:Int)+((f.length:Int)+1)))/\dy e 8 (D k)) ?_ B (k:=0) B ⟨Nb.refl P.hr,by simp[d,b]⟩;rintro k e g T ⟨h,d,b,q,r⟩;have Q:gH 0 g:=⟨h.ok.hp,h.ok.low,aw _⟩;have y:=h.hr;have F:Gr g l 1 (gF (a++j::f)):=m.mono λc s=>y.get c (z c s);have G:binop .add (D (k:Int)) (D 1)=some (D ((k:Int)+1)):=ij B B;have⟨x,n⟩:∃x,(a++j::f)[k]? =some x:=⟨_,ay dp⟩;have⟨p1,C,E⟩:=(show oQ g 1 l _ from .inr F).idx (te:=Eu) rfl rfl (i:=k) (x:= D x) (by rw[aQ,n];rfl) rfl;simp[d,b,q,r,show(k:Int)<(a.length:Int)+((f.length:Int)+1)by omega,C,E];refine iD N1 J (⟨a,f,j,l,o,A⟩,x) ⟨rfl,(y.get o (H.ej u)).trans u,Q⟩ ?_;rintro _ S ⟨rfl,w⟩;simp;by_cases K:k<a.length
 ·have M:¬x=j:=by
   rw[cr K]at n;rintro rfl;exact ht (ax n)
  simp[d,b,q,r,M,G];exact⟨k+1,B,B,h.trans w,J⟩
 ·have I:k=a.length:=B;subst I;have N:x=j:=by simpa using n.symm
  simp[d,b,q,r,N];exact⟨rfl,(h.trans w).out⟩
def UR(f:H)(g j:Ty)(h:ab)(b d e a c:Nat)(k:iI)(i:g.u= .slice h)(ht:cx.ty h=some j)(m:f.get b=some k)(o:k.sz=j.size)(n:c<=a):Mn cx f g (.arr b d e a false) (some c) none none=some (.val (.arr b d (e+c) (a-c) false) f):=by
 unfold Mn;have l:jm cx f g.u (.arr b d e a false)=true:=by
  rw[i];unfold jm;simp only[ht,m,o,Nat.beq_refl]
 rw[l,il,show zI none none=true from rfl,il,show asSlice g.u (.arr b d e a false)= .arr b d e a false by rw[i];rfl];show val f (fQ (Nat.ble c a) (fQ (Nat.ble a a) (M (fU (Nat.add e c)) λq=>M (fU (Nat.sub a c)) λp=>some (T.arr b d q p false))))=_;simp[n]
def Ol{d:Nat}{b:Env}{c:H}(a:List ah)(e:af ab):iT (.call ⟨.builtin .clear,a.toArray,e⟩) cx d b c=M (fG (fq cx d b) a) λf=>kR .clear cx c e.toList f:=by
 show(M (py cx d b a) λa=>kR .clear cx c e.toList a)=_;rw[F8]
def WA{b:H}{c a g d:Nat}{f:Bool}{e:List T}(l:Hp b)(h:b.get c=some ⟨1,a,g,f,false,e⟩)(k:d<e.length):kR .clear cx b [25] [.arr c a d 1 false]=some (.val .undef (dT b c ⟨1,a,g+1,f,false,e.set d (D 0)⟩)):=by
 show CV cx b 25 (.arr c a d 1 false)=_;unfold CV pS;rw[kO,dS];simp only[show qd.u= .slice 3 from rfl,nN,dS];rw[h,dS];simp only[F2 l (H.ej h)];show fQ (Nat.beq a a) (fQ (Nat.beq 1 1) (M (kc e d [D 0]) λi=>M (fU g.succ) λm=>M (some (dT b c ⟨1,a,m,f,false,i⟩)) λj=>some (kC.val T.undef j)))=_;rw[sL,aq dp,Nat.beq_refl,il,show Nat.beq 1 1=true from rfl,il,dS,gX,dS,dS,List.set_eq_take_append_cons_drop,aq k];simp
def TY(a:Js)(d:List T)(c:H):Prop:=d=[a.v,fnT a]/\WW c a/\gH 0 c/\Gr c a.v 1 (gF (a.P++a.t::a.Q))/\a.t∉a.P/\a.t∉a.Q/\a.P.length+a.Q.length<=1000/\dM a.v≠some a.b
def Nq(b:Js)(f:List T)(c:H)(e:T)(d:H):Prop:=Gr d e 1 (gF (b.P++b.Q))/\dM e=dM b.v/\gH c.size d/\∀a,a<c.size->dM b.v≠some a->d.get a=c.get a
def OR{P b:List Int}{t:Int}{a:Nat}(d:a<b.length):(gF (P++b.take a++(t::b).drop a)).set (P.length+a) (D b[a])=gF (P++b.take (a+1)++(t::b).drop (a+1)):=by
 rw[<-bO,List.set_append_right _ _ dp];have c:(t::b).drop a=(t::b)[a]' dp::(t::b).drop (a+1):=aH dp;rw[c,show P.length+a-(P++b.take a).length=0 by simp;omega,cE,aT d];show gF _=gF _;congr 1;simp only[cO,cy,List.nil_append]
def EK:(jr Js TY Nq).Ok prog cx 95:=by
 refine jn (tb:=⟨pt [],ht [(96,jr (Js×Int) Nd Ig),(99,jr Js TW No)]⟩) iB gW (iP 537399539 [] func95) (λ_ _=>2000) (λi a h b6=>by obtain⟨rfl,_⟩:=b6;simp[f95]) ?_;rintro⟨P,c,t,K,A,av⟩ _ h ⟨rfl,W,cL,E,bi,bk,hl,an⟩ z aX;simp only at E bi bk hl an;simp[fnT]at aX;obtain⟨r,m⟩:=aX;have I:=λm:H=>E.len (cx:=cx) m qd _ rfl;simp at I;have bs:∀b,dM K=some b->b<h.size:=λb g=>by have⟨_,_,_,_,ce,_⟩:=E.box g;exact H.ej ce
 simp[f95,r,m];refine iD Gj J ⟨P,c,t,K,A,av⟩ ⟨rfl,(gu h A).trans W,cL.hr,E.mono λb _=>gu h b,bi,hl⟩ ?_;rintro _ dk ⟨rfl,cp⟩;have bB:binop .add (D (P.length:Int)) (D 1)=some (D ((P.length:Int)+1)):=ij B B;simp[r,m,show¬((P.length:Int)=-1)by omega,bB];have ap:=cp.hr;refine yU c.length (λd z h'=>gH h.size h'/\Gr h' K 1 (gF (P++c.take d++(t::c).drop d))/\(∀b,b<h.size->dM K≠some b->h'.get b=h.get b)/\dy z 0 K/\dy z 1 (.func 96 [.ptr A 0 0 0])/\dy z 5 (D ((P.length+d:Nat):Int))/\dy z 6 (D ((P.length+d+1:Nat):Int))) ?_ B (k:=0) B ⟨ap.ok,by simpa using E.mono λb g=>ap.get b (bs b g),λb g _=>ap.get b g,by simp[r,m]⟩;rintro d z h' dm ⟨w,F,U,r,m,L,M⟩;have bl:gH 0 h':=⟨w.hp,w.low,aw _⟩;have⟨i,a7⟩:∃i,i=P.length+d:=⟨_,rfl⟩;have⟨j,u⟩:∃j,j=P.length+(c.length+1):=⟨_,rfl⟩;have bS:(P.length:Int)+((c.length:Int)+1)=j:=B;rw[<-a7]at L M;rw[bS]at I;have V:(gF (P++c.take d++(t::c).drop d)).length=j:=dp;have bC:binop .add (D (i:Int)) (D 1)=some (D ((i:Int)+1)):=ij B B;have bH:binop .add (D ((i:Int)+1)) (D 1)=some (D ((i:Int)+1+1)):=ij B B;by_cases al:d<c.length
 ·have C:(P++c.take d++(t::c).drop d)[i+1]? =some c[d]:=by
   rw[cC dp,bJ];rw[show d+(i+1-(P++c.take d).length)=d+1 by simp;omega];simp[al]
  have⟨f,bu⟩:∃f,(P++c.take d++(t::c).drop d)[i]? =some f:=⟨_,ay dp⟩;have⟨e,n,y,s,p,o,l,O,N⟩:=F.at (x:= D c[d]) (i:=i+1) (by rw[aQ,C];rfl);have⟨c6,c9,dn,de,dv,X,Y,ca,a8⟩:=F.at (x:= D f) (i:=i) (by rw[aQ,bu];rfl);rw[o]at X;simp at X;obtain⟨rfl,rfl⟩:=X;rw[l]at Y;simp at Y;obtain⟨rfl,rfl,rfl⟩:=Y;rw[V]at o N a8;have aA:=OR (P:=P) (t:=t) al;rw[<-a7]at aA;generalize b8:c[d]=R at*
  have b9:¬R=t:=λk=>bk (by rw[<-k,<-b8];exact aD al);subst o;simp at an;have c4:jM ((i:Int)+1)=some (i+1):=by have:=ee (show(0:Int)<=((i+1:Nat):Int)by omega);simpa using this
  simp[r,m,L,M,I,show(i:Int)+1<j by omega,c4,l,O,N];refine iD N1 J (⟨P,c,t,.arr e n 0 j false,A,av⟩,R) ⟨rfl,(U A (H.ej W) (by simpa using an)).trans W,bl⟩ ?_;rintro _ G ⟨rfl,v⟩;have ae:=(v.get e (H.ej l)).trans l;have q:∀f b,(dT G e f).get b=if b=e then some f else G.get b:=λf b=>dF ae f b;simp[r,m,L,M,I,b9,ae,ca,a8,bC,bH];have Q:gH h.size G:=⟨v.ok.hp,v.ok.low,aO w.sz v.ok.sz⟩;have aN:=(F.mono (h':=G) λb g=>v.get b (by simp at g;have:=H.ej l;omega)).setAt rfl ae i (D R) (h':=dT G e ⟨1,n,y+1,s,false,p.set i (D R)⟩) (ver2:=y+1) (ex2:=s) (by rw[q,aq rfl]);rw[aA,cO]at aN;have eb:=w.sz;exact⟨d+1,B,B,Q.put _ _,aN,λb g u=>by rw[q,ao (λS=>u S.symm),v.get b B];exact U b g (by simpa using u),B⟩
 ·have bN:d=c.length:=B;subst bN;have⟨e,n,y,s,p,o,l,O,N⟩:=F.at (x:= D ((P++c.take c.length++(t::c).drop c.length)[i]' dp)) (i:=i) (by rw[aQ,ay dp];rfl);rw[V]at o N;have cb:i<p.length:=by
   rcases aM i p.length with k|k
   ·exact k
   ·rw[bL k]at O;simp at O
  have bz:p.take j=gF (P++c.take c.length++(t::c).drop c.length):=by
   rcases F with⟨rfl,_⟩|⟨c7,dd,ds,di,ea,C,T,aE⟩
   ·simp at o
   ·rw[o]at C;simp at C;obtain⟨rfl,rfl,_⟩:=C;rw[l]at T;simp at T;obtain⟨_,_,rfl⟩:=T;rw[V]at aE;exact aE
  subst o;have q:∀f b,(dT h' e f).get b=if b=e then some f else h'.get b:=λf b=>dF l f b;have bT:j-i=1:=B;have bn:=UR h' qd Eu _ e n 0 j i _ rfl nN l rfl B;rw[bT,cB]at bn;have c1:=JH (cx:=cx) (h:=dT h' e ⟨1,n,y+1,s,false,p.set i (D 0)⟩) qd Eu _ e n 0 j i false _ rfl nN (by rw[q,aq rfl]) rfl B;simp[r,m,L,M,I,show¬(i:Int)+1<j by omega,bn,Ol,WA bl.hp l cb,q,c1];have Q:=(w.put e ⟨1,n,y+1,s,false,p.set i (D 0)⟩).out h;refine⟨.inr ⟨e,n,y+1,s,p.set i (D 0),?_,by rw[fO,q,aq rfl],?_⟩,rfl,⟨Q.hp,Q.low,by simpa using w.sz⟩,λb g u=>by
   rw[fO,q,ao (λS=>u (by rw[S];rfl))];exact U b g u⟩
  ·simp;omega
  ·have b7:(gF (P++c)).length=i:=dp;rw[b7,List.take_set_of_le (au _)];have:=bG (List.take i) bz;rw[List.take_take,cm B]at this;rw[this,aJ];show List.take i (gF (P++c++(t::c).drop c.length))=gF (P++c);rw[gF,List.map_append,cP dp,bA dp]
