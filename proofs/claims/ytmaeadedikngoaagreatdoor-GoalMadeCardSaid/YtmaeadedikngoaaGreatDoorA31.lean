/- Texts W09h to W20h. -/
import Derived.Test.YtmaeadedikngoaaGreatDoorA29
import Derived.Test.YtmaeadedikngoaaGreatDoorA30
set_option linter.unusedVariables false
set_option linter.unusedSimpArgs false
set_option maxRecDepth 100000
set_option maxHeartbeats 8000000
namespace Go.Proofs.YtmaeadedikngoaaGreatDoor
noncomputable section
open Go Go.TI
attribute [-simp] List.map_take List.map_drop List.map_append fi ei dT Bool.not_or Bool.not_and
attribute [simp] fh ew
def ac1(b:T):Prop:=∃(a:jG) (c:gJ),b= .tuple [a.t,c.t]/\Pc a.dw/\a.dw.length<=60
theorem Jf:nZ Tryz.prog cx 42 (λi:jh×List iD=>[i.1.t,sl (i.2.map iD.t)]) (λi=>(∀o∈i.1.dp,o.iJ.length<=10000001)/\i.2.length<=60) (λ_=>ac1):=by
 refine jk (tb:=⟨pt [(74,u9.jl),(76,CH.jl)],ht [(75,jM IFr Sv Mq)]⟩) dX dU (iN 1271 [(3,[(0,2),(2,8),(4,8)]),(4,[(4,5)])] Tryz.func42) (λ_=>105) (λi r l=>by simp at l;exact aR (jh.inj l.1) (ja (λ_ _ l=>iD.inj l) l.2)) (by simp) (by simp[Tryz.f42]) ?_
 rintro⟨k,A⟩ ⟨n,x⟩ an y
 simp only at n x
 simp at y
 obtain⟨w,I⟩:=y
 obtain⟨_,⟨r,rfl,al⟩,u⟩:=u9.use k n
 obtain⟨_,⟨N,rfl,P,D⟩,B⟩:=CH.use k n
 cases r with
 |false=>
  simp[Tryz.f42,w,u]
  exact⟨⟨⟨[],[],[],[],[],[]⟩,[]⟩,⟨⟨[],0,[],[]⟩,[],[],[]⟩,rfl,λe J=>by simp at J,by simp⟩
 |true=>
  simp[Tryz.f42,w,I,u,B]
  generalize j:((hE.cons _).cons _).cons _=h
  have M:gh 0 h:=by rw[<-j];exact⟨by simp,by simp,by simp⟩
  have ae:h.size=3:=by rw[<-j];rfl
  have T:h.get 0=some ⟨7,0,0,true,false,[k.t]⟩:=by rw[<-j];simp
  have U:h.get 1=some ⟨7,0,0,true,false,[.agg [.dq [] false,.dq [] false,.dq [] false,.dq [] false,.dq [] false,.dq [] false,.dq [] false]]⟩:=by rw[<-j];simp
  have V:h.get 2=some ⟨7,0,0,true,false,[.agg [.dq [] false,.int .i64 0,.dq [] false,.dq [] false,.dq [] false,.dq [] false,.dq [] false]]⟩:=by rw[<-j];simp
  clear j
  refine kA MX (by simp) ⟨k,N,A⟩ ⟨rfl,M,n,P,D,x⟩ ?_
  rintro _ b ⟨z,d,S,rfl,m,s,f,C,hl⟩
  have Z:=f.ok.sz
  rw[ae]at s Z
  have a0:=(f.get 0 (by omega)).trans T
  have a1:=(f.get 1 (by omega)).trans U
  have a2:=(f.get 2 (by omega)).trans V
  have sv:=λa (K:a<h.size)=>ee (f.get a K)
  have Q:=sv 0 (by omega)
  have W:(0=b.size)=False:=by simp;omega
  have X:(1=b.size)=False:=by simp;omega
  have Y:(2=b.size)=False:=by simp;omega
  have L:=f.ok.low
  have O:dY h b b.size=true:=jq (mZ _ f.ok.sz)
  have okB:gh 0 (b.cons ⟨7,0,1,true,false,[d.t]⟩):=gh.cons ⟨f.ok.hp,f.ok.low,aw _⟩ _
  have q:∀a,(b.cons ⟨7,0,1,true,false,[d.t]⟩).get a=if a=b.size then some ⟨7,0,1,true,false,[d.t]⟩else b.get a:=λa=>dH ..
  have v:=(q 1).trans ((ao (by omega)).trans a1)
  have p:∀c a,(dI (b.cons ⟨7,0,1,true,false,[d.t]⟩) 1 c).get a=if a=1 then some c else if a=b.size then some ⟨7,0,1,true,false,[d.t]⟩else b.get a:=λc a=>(dy v c a).trans (by rw[q])
  have G:=λc=>(p c 2).trans ((ao (by omega)).trans ((ao (by omega)).trans a2))
  have G2:∀c g a,(dI (dI (b.cons ⟨7,0,1,true,false,[d.t]⟩) 1 c) 2 g).get a=if a=2 then some g else if a=1 then some c else if a=b.size then some ⟨7,0,1,true,false,[d.t]⟩else b.get a:=λc g a=>(dy (G c) g a).trans (by rw[p])
  have R:∀c,dY (b.cons ⟨7,0,1,true,false,[d.t]⟩) (dI (b.cons ⟨7,0,1,true,false,[d.t]⟩) 1 c) b.size=true:=λc=>mg v (by omega) c
  have ap:(b.size=1)=False:=by simp;omega
  have E:∀c g,TI.fz (dI (dI (b.cons ⟨7,0,1,true,false,[d.t]⟩) 1 c) 2 g) S=some (sl (z.map dN.t)):=λc g=>(m.mono (h':=dI (dI (b.cons ⟨7,0,1,true,false,[d.t]⟩) 1 c) 2 g) λa o=>by
   obtain⟨_,_,_,_,F,_⟩:=m.box o
   have:=H.dL F
   have:=s a o;rw[G2,ao (by omega),ao (by omega),ao (by omega)]).fz (by simp)
  simp[m.fT,m.cells,a0,a1,a2,Q,W,X,Y,L,O,dG,p,G2,R,E,q,f.ok.hp]
  exact⟨⟨k.d8,z⟩,d,rfl,C,hl⟩
theorem FE:nZ Tryz.prog cx 43 (λc:List Int=>[sl (c.map (T.int .u8))]) okB (λ_ l=>∃a:jh,l=a.t/\∀m∈a.dp,m.iJ.length<=10000001):=by
 refine jk (tb:=⟨pt [(77,MP.jl),(59,zd.jl)],ht []⟩) dX dU (iN 13 [] Tryz.func43) (λ_=>105) (λn o b=>by simp at b;exact ja (λ_ _ b=>by simpa using b) b) (by simp) (by simp[Tryz.f43]) ?_
 rintro c g r d
 simp at d
 obtain⟨_,⟨k,rfl,i,j⟩,e⟩:=MP.use c g
 obtain⟨_,⟨a,p,q,rfl,h⟩,f⟩:=zd.use k ⟨i,j⟩
 simp[Tryz.f43,d,e,f]
 exact⟨a,rfl,h⟩
def acR(b:T):Prop:=∃a:jG,b=a.t/\Pc a.dw/\a.dw.length<=60
theorem CF:nZ Tryz.prog cx 19 (λa:List Int×List Int=>[sl (a.1.map (T.int .u8)),sl (a.2.map (T.int .u8))]) (λa=>okB a.1/\okB a.2/\a.2.length<=60) (λ_=>acR):=by
 refine jk (tb:=⟨pt [(43,FE.jl),(44,CN.jl),(42,Jf.jl)],ht []⟩) dX dU (iN 51 [] Tryz.func19) (λ_=>105) (λa s b=>by simp at b;exact aR (ja (λ_ _ b=>by simpa using b) b.1) (ja (λ_ _ b=>by simpa using b) b.2)) (by simp) (by simp[Tryz.f19]) ?_
 rintro⟨i,h⟩ ⟨e,d,p⟩ v f
 simp only at e d p
 simp at f
 obtain⟨n,o⟩:=f
 obtain⟨_,⟨j,rfl,q⟩,k⟩:=FE.use i e
 obtain⟨_,⟨g,rfl,t⟩,l⟩:=CN.use h d
 obtain⟨_,⟨r,u,rfl,m,hl⟩,c⟩:=Jf.use (j,g) ⟨q,by simp only;omega⟩
 simp only at c
 simp[Tryz.f19,n,o,k,l,c]
 exact⟨r,rfl,m,hl⟩
end
noncomputable section
open Go Go.TI
attribute [-simp] List.map_take List.map_drop List.map_append fi ei dT Bool.not_or Bool.not_and
attribute [simp] fh ew
attribute [-simp] size_cons
theorem G0{c:dJ}{d:dW}{b:List dN}{a:Nat}(e:a<b.length):uh c d (b.drop a)=uh c (jO c d b[a]).1 (b.drop (a+1)):=by
 rw[aJ e];rfl
def qA:fK:=⟨jG×Nat,λa=>[a.1.t,.int .i64 a.2],λa=>jN a.1.d8=true/\Pc a.1.dw/\a.2<=a.1.dw.length/\a.1.dw.length<=1000,λa=>(uh a.1.d8 (jE a.1.d8) (a.1.dw.take a.2)).t,λa c b=>by
 simp at b;rw[jG.inj b.1,show a.2=c.2 by omega]⟩
structure jV(w:dZ):Prop where
 ok:ue w
 wb:jN w.d8=true
 sm:ui 1000 w.lY
 ev:Pc w.dw
 rdt:G6 4 w.lY.fW
def kE:fK:=⟨dZ×Int,λa=>[a.1.t,.int .i64 a.2],λa=>jV a.1,λa=>(uh a.1.d8 a.1.lY (a.1.dw.take a.2.toNat)).t,λa c b=>by
 simp at b;rw[dZ.inj b.1,b.2]⟩
theorem yM{c:eG}(ht:c.p 62=some kE)(e:kE.Ok Tryz.prog cx 62)(a:dZ)(b:Int)(d:jV a):rl Tryz.prog cx c 62 [a.t,.int .i64 b]=some (uh a.d8 a.lY (a.dw.take b.toNat)).t:=fR ht e (a,b) d
theorem KR:qA.Ok Tryz.prog cx 46:=by
 refine f8 (tb:=⟨pt [(41,qu),(66,nL)],ht []⟩) dX dU (iN 4215 [] Tryz.func46) (λ_=>2000) (by simp[qA]) (by simp[qA,Tryz.f46]) ?_
 rintro⟨⟨a,i⟩,k⟩ ⟨B,y,H,hl⟩ g x
 simp only at B y H hl
 simp[qA]at x|-
 obtain⟨E,j⟩:=x
 obtain⟨N,O,P,Q,R,S⟩:=rU B
 simp[Tryz.f46,E,GP,show a.dP.length<=1000000 by omega,show a.dR.length<=1000000 by omega,show a.dp.length<=1000000 by omega,show a.cells.length<=1000000 by omega]
 refine eQ k (by omega) (λe g d=>∃l f,ui e f/\uh a f ((i.take k).drop e)=uh a (jE a) (i.take k)/\gh 3 d/\d.get 0=some ⟨7,0,0,true,false,[jG.t ⟨a,i⟩]⟩/\d.get 1=some ⟨7,0,0,true,false,[.agg [.dq [] false,.int .i64 0,.dq [] false,.dq [] false,.dq [] false,.dq [] false,.dq [] false]]⟩/\d.get 2=some ⟨7,0,l,true,false,[f.t]⟩/\TI.dt g 1=some (.int .i64 k)/\TI.dt g 2=some (.ptr 0 0 0 0)/\TI.dt g 4=some (.ptr 1 0 0 0)/\TI.dt g 5=some (.ptr 2 0 0 0)/\TI.dt g 6=some (.int .i64 e)) ?_ ?_ (by omega) ?_
 ·rintro e g d G F ⟨l,f,u,h,c,m,n,o,j,w,q,r,s⟩
  have K:=c.ne (b:=0) (by omega)
  have L:=c.ne (b:=1) (by omega)
  have M:=c.ne (b:=2) (by omega)
  have A:e<i.length:=by omega
  have z:=y i[e] (aF A)
  rw[G0 (by simp;omega),List.getElem_take]at h
  have C:=λ{tb:eG} (ht:tb.p 66=some nL)=>EH ht a f i[e] (by omega) (u.up (by omega)) z.1 z.2
  simp[m,o,j,w,q,r,s,A,C,G,F]
  have J:2<d.size:=by have:=c.sz;omega
  refine⟨l+1,(jO a f i[e]).1,u.step a _,h,c.put _ _,?_,?_,?_⟩<;>rw[ph c.hp J]<;>simp[m,n]
 ·rintro g d ⟨l,f,u,h,c,m,n,o,j,w,q,r,s⟩
  rw[List.drop_eq_nil_of_le (by simp;omega)]at h
  have I:1<d.size:=by have:=c.sz;omega
  have D:∀v,(dI d 1 v).get 1=some v:=λv=>by rw[ph c.hp I];simp
  have h:f=_:=h
  rw[<-h]
  simp[j,q,r,s,o,n,D,c.hp]
 ·exact⟨1,jE a,wu a (by omega),by simp,by exact⟨by simp,by simp,by simp⟩,by simp[j]⟩
theorem wH:kE.Ok Tryz.prog cx 62:=by
 refine f8 (tb:=⟨pt [(66,nL)],ht []⟩) dX dU (iN 262263 [] Tryz.func62) (λ_=>2000) (by simp[kE]) (by simp[kE,Tryz.f62]) ?_
 rintro⟨f,l⟩ k h C
 replace k:jV f:=k
 simp[kE]at C|-
 obtain⟨I,j⟩:=C
 obtain⟨M,N,O,P,Q,R⟩:=rU k.wb
 have hl:=k.ok.len
 have G:=k.sm
 have E:=k.ev
 obtain⟨f,L,y,e⟩:=f
 simp[Tryz.f62,I]
 simp only at M N O P Q R hl G E
 generalize V:min l.toNat e.length=x
 refine eQ x (by omega) (λd h c=>∃v g,ui (1000+d) g/\uh f g ((e.take l.toNat).drop d)=uh f y (e.take l.toNat)/\gh 3 c/\c.get 0=some ⟨15,0,0,true,false,[dZ.t ⟨f,L,y,e⟩]⟩/\c.get 1=some ⟨7,0,0,true,false,[.agg [.dq [] false,.int .i64 0,.dq [] false,.dq [] false,.dq [] false,.dq [] false,.dq [] false]]⟩/\c.get 2=some ⟨7,0,v,true,false,[g.t]⟩/\TI.dt h 1=some (.int .i64 l)/\TI.dt h 2=some (.ptr 0 0 0 0)/\TI.dt h 4=some (.ptr 1 0 0 0)/\TI.dt h 5=some (.ptr 2 0 0 0)/\TI.dt h 6=some (.int .i64 d)) ?_ ?_ (by omega) ?_
 ·rintro d h c U J ⟨v,g,z,i,a,m,n,o,j,w,q,r,s⟩
  have W:=a.ne (b:=0) (by omega)
  have X:=a.ne (b:=1) (by omega)
  have Y:=a.ne (b:=2) (by omega)
  have F:d<e.length:=by omega
  have u:(d:Int)<l:=by omega
  have D:=E e[d] (aF F)
  rw[G0 (by simp;omega),List.getElem_take]at i
  have H:=λ{tb:eG} (ht:tb.p 66=some nL)=>EH ht f g e[d] (by omega) (z.up (by omega)) D.1 D.2
  simp[m,o,j,w,q,r,s,F,H,u,J]
  have T:2<c.size:=by have:=a.sz;omega
  refine⟨v+1,(jO f g e[d]).1,(z.step f _).up (by omega),i,a.put _ _,?_,?_,?_⟩<;>rw[ph a.hp T]<;>simp[m,n]
 ·rintro h c ⟨v,g,z,i,a,m,n,o,j,w,q,r,s⟩
  rw[List.drop_eq_nil_of_le (by simp;omega)]at i
  have S:1<c.size:=by have:=a.sz;omega
  have B:∀A,(dI c 1 A).get 1=some A:=λA=>by rw[ph a.hp S];simp
  have i:g=_:=i
  rw[<-i]
  by_cases u:(x:Int)<l
  ·have K:¬x<e.length:=by omega
   simp[j,w,q,r,s,m,o,n,u,K,B,a.hp]
  ·simp[j,q,r,s,o,n,u,B,a.hp]
 ·exact⟨1,y,G,by simp,by exact⟨by simp,by simp,by simp⟩,by simp[j]⟩
end
noncomputable section
open Go Go.TI
attribute [-simp] List.map_take List.map_drop List.map_append fi ei dT Bool.not_or Bool.not_and
attribute [simp] fh ew
def acU(c:T):Prop:=∃(a:List dZ) (b:Int),c= .tuple [sl (a.map dZ.t),.int .i64 b]/\∀d∈a,jV d
theorem Oq{d:eG}(ht:d.p 46=some qA)(b:dJ)(a:List dN)(c:Nat)(e:jN b=true)(f:Pc a)(g:c<=a.length)(h:a.length<=1000):rl Tryz.prog cx d 46 [jG.t ⟨b,a⟩,.int .i64 c]=some (uh b (jE b) (a.take c)).t:=fR ht KR (⟨b,a⟩,c) ⟨e,f,g,h⟩
theorem Pf{w:dJ}{b:List dN}(g:oL w b=true)(d:jN w=true)(i:Pc b){e:Nat}(j:e<=16)(a:Nat):jV (vM w b e a):=by
 obtain⟨c,h,l⟩:=xO g
 obtain⟨m,n,o,p,q,r⟩:=rU d
 refine⟨LC c h j a,d,?_,λf k=>i f (bE (bG k)),J0 (by omega) _ _ (x8 c a) (yU 4 w)⟩
 have:=(wu w (by omega)).uh (w:=w) (b.take a)
 exact this.up (by simp;omega)
theorem CI:nZ Tryz.prog cx 20 (λh:jG×Nat=>[h.1.t,.int .i64 h.2]) (λh=>Pc h.1.dw/\h.1.dw.length<=1000000/\1<=h.2/\h.2<=16) (λ_=>acU):=by
 refine jk (tb:=⟨pt [(45,CO.jl),(46,qA)],ht []⟩) dX dU (iN 138478519 [(10,[(2,6),(6,8),(6,14),(6,17)])] Tryz.func20) (λ_=>2000) (λh b g=>by simp at g;exact aR (jG.inj g.1) (by have:=g.2;omega)) (by simp) (by simp[Tryz.f20]) ?_
 rintro⟨⟨e,c⟩,a⟩ ⟨w,hl,T,I⟩ l H
 simp only at w hl T I
 simp at H
 obtain⟨N,k⟩:=H
 obtain⟨_,⟨x,y,rfl,X⟩,Q⟩:=CO.use ⟨e,c⟩ ⟨w,hl⟩
 simp[Tryz.f20,N,Q]
 refine dM (λJ=> ?_) (λJ=> ?_)
 ·simp
  exact⟨[],12,rfl,by simp⟩
 have q:oL e c=true:=X.1 (by simpa using J)
 have K:jN e=true:=by
  unfold oL at q;simp only[ay]at q;exact q.1.2
 have aN:c.length<=400:=(xO q).2.2
 simp[k,show¬(a:Int)<1 by omega,show¬(16:Int)<a by omega]
 generalize D:(c.length+(a-1))/a=o
 have aE:o<=c.length+16:=by rw[<-D];exact aS (Nat.div_le_self _ _) (by omega)
 refine eQ o (by omega) (λm l g=>∃s d,d=m*a/\dE s≠some 0/\Gr g s 15 (((List.range m).map λi=>vM e c a (i*a)).map dZ.t)/\gh 1 g/\g.get 0=some ⟨7,0,0,true,false,[jG.t ⟨e,c⟩]⟩/\TI.dt l 1=some (.int .i64 a)/\TI.dt l 2=some (.ptr 0 0 0 0)/\TI.dt l 8=some s/\TI.dt l 9=some (.int .i64 (d:Int))) ?_ ?_ (by omega) ?_
 ·rintro m l g S _ ⟨s,d,r,E,A,n,u,k,v,B,C⟩
  have a6:=n.ne (b:=0) (by omega)
  have U:d<c.length:=by
   rw[r]
   have k:(m+1)*a<=o*a:=aV a S
   have v:o*a<=c.length+(a-1):=by rw[<-D];exact Nat.div_mul_le_self _ _
   rw[bU]at k;omega
  obtain⟨al,av,M,x⟩:=A.nY (cx:=cx) (f:=dZ.t) ⟨n.hp,n.low,aw _⟩ UY rfl UZ rfl (by simp) (λ_=>rfl) (vM e c a d) (by simp;omega)
  have P:=λ{tb:eG} (ht:tb.p 46=some qA)=>Oq ht e c d K w (by omega) (by omega)
  have O:binop .add (.int .i64 (d:Int)) (.int .i64 (a:Int))=some (.int .i64 ((d:Int)+a)):=fQ (by omega) (by omega)
  obtain⟨j,Y,aX⟩:∃j:Nat,min ((d:Int)+a) (c.length:Int)=j/\j=min (d+a) c.length:=⟨min (d+a) c.length,by omega,rfl⟩
  have Z:d<=j:=by omega
  have ae:j<=c.length:=by omega
  have V:(c.drop d).take (j-d)=(c.drop d).take a:=by
   rw[List.take_eq_take_iff];simp;omega
  have G:=M
  unfold vM at G
  simp[u,k,v,B,C,P,G,U,O,Y,Z,ae,V]
  have hr:((List.range m).map λi=>vM e c a (i*a))++[vM e c a d]=(List.range (m+1)).map λi=>vM e c a (i*a):=by rw[List.range_succ,List.map_append,r];rfl
  rw[hr]at x
  obtain⟨L,an,ap,F⟩:=x
  have z:=n.sz
  rw[cG]at L
  exact⟨al,λj=>(ap 0 j).elim E (by omega),L,⟨F.hp,F.low,by have:=F.sz;omega⟩,(an 0 (by omega) E).trans u,rfl,by rw[r];simp[Int.add_mul]⟩
 ·rintro l g ⟨s,d,r,E,A,n,u,k,v,B,C⟩
  have R:¬d<c.length:=by
   rw[r,<-D]
   have:=Nat.div_add_mod (c.length+(a-1)) a
   have aA:=Nat.mod_lt (c.length+(a-1)) (show a>0 by omega)
   rw[Nat.mul_comm]at this;omega
  simp[u,v,B,C,R]
  refine⟨.tuple [sl (((List.range o).map λi=>vM e c a (i*a)).map dZ.t),.int .i64 0],⟨_,0,rfl,λx W=> ?_⟩,n.hp,by rw[A.pq (by simp)];rfl⟩
  obtain⟨i,_,rfl⟩:=List.mem_map.1 W;exact Pf q K w I _
 ·exact⟨.dq [] false,0,by simp,by simp,Gr.nil _ _,by exact⟨by simp,by simp,by simp⟩,by simp[k]⟩
def acQ(c:T):Prop:=∃(b:dZ) (a:Bool),c= .tuple [b.t,.bool a]/\(a=true->jV b)
theorem AV:nZ Tryz.prog cx 13 (λa:List Int×List Int×Int×Int=>[sl (a.1.map (T.int .u8)),sl (a.2.1.map (T.int .u8)),.int .u8 a.2.2.1,.int .u8 a.2.2.2]) (λa=>okB a.1/\okB a.2.1/\a.2.1.length<=60/\(0<=a.2.2.1/\a.2.2.1<256)/\0<=a.2.2.2/\a.2.2.2<256) (λ_=>acQ):=by
 refine jk (tb:=⟨pt [(19,CF.jl),(20,CI.jl)],ht []⟩) dX dU (iN 33556239 [] Tryz.func13) (λ_=>105) (λa E c=>by simp at c;exact aR (ja (λ_ _ c=>by simpa using c) c.1) (aR (ja (λ_ _ c=>by simpa using c) c.2.1) (aR c.2.2.1 c.2.2.2))) (by simp) (by simp[Tryz.f13]) ?_
 rintro⟨r,q,d,e⟩ ⟨k,i,j,o,p⟩ K l
 simp only at k i j o p
 simp at l
 obtain⟨v,w,x,y⟩:=l
 obtain⟨_,⟨D,rfl,s,hl⟩,eT⟩:=CF.use (r,q) ⟨k,i,j⟩
 obtain⟨_,⟨b,F,rfl,C⟩,h⟩:=CI.use (D,(d% 8+1).toNat) ⟨s,by simp only;omega,by simp only;omega,by simp only;omega⟩
 simp only at eT h
 rw[show(((d% 8+1).toNat:Nat):Int)=d% 8+1 by omega]at h
 have B:∀f:Int,0<=f->f<1000->IntKind.i64.wrap f=f:=λf I J=>by rw[<-ju,jB (by omega) (by omega)]
 have t:d.tmod 8=d% 8:=Int.tmod_eq_emod_of_nonneg o.1
 simp[Tryz.f13,v,w,x,eT,show-9223372036854775808<=d by omega,show d<9223372036854775808 by omega,E7 (show¬(8:Int)=0 by omega),oH,t,B (d% 8+1) (by omega) (by omega),h]
 refine dM (λm=> ?_) (λm=> ?_)
 ·simp
  exact⟨⟨⟨[],[],[],[],[],[]⟩,0,⟨⟨[],0,[],[]⟩,[],[],[]⟩,[]⟩,false,rfl,by simp⟩
 have z:b≠ []:=by simpa using m
 have G:0<b.length:=by rcases b with _|_<;>simp at z|-
 have u:e.tmod (b.length:Int)=e% (b.length:Int):=Int.tmod_eq_emod_of_nonneg p.1
 have A:0<=e% (b.length:Int):=Int.emod_nonneg _ (by omega)
 have H:e% (b.length:Int)<b.length:=Int.emod_lt_of_pos _ (by omega)
 obtain⟨g,n⟩:∃g,b[(e% (b.length:Int)).toNat]? =some g:=⟨_,aB (by omega)⟩
 simp[y,show-9223372036854775808<=e by omega,show e<9223372036854775808 by omega,E7 (show¬(b.length:Int)=0 by omega),u,dS A,n]
 exact⟨g,true,rfl,λ_=>C g (az n)⟩
end
noncomputable section
open Go Go.TI
attribute [-simp] List.map_take List.map_drop List.map_append
@[simp] theorem Ou (a:List T):dE (sl a)=none:=by cases a<;>rfl
def sv(a b:aa iE):Bool:=match a,b with|none,_=>true|some _,none=>false|some a,some b=>decide (a.ver=b.ver)
@[simp] theorem aaM (a b:iE):sv (some a) (some b)=decide (a.ver=b.ver):=id rfl
@[simp] theorem aaN (a:aa iE):sv none a=true:=id rfl
theorem ko(b c:H)(a:Nat):dY b c a=sv (b.get a) (c.get a):=by
 unfold dY sv
 cases b.get a with
 |none=>rfl
 |some d=>cases c.get a<;>simp
def AJ:fK:=⟨Int×Nat,λa=>[.int .i64 a.1,.int .i64 a.2],λa=>True,λa=> .bool (iI a.1 a.2),λa c b=>by simp at b;rw[b.1,show a.2=c.2 by omega]⟩
theorem T5:AJ.Ok Tryz.prog cx 31:=by
 refine f8 (tb:=⟨pt [],ht []⟩) dX dU (iN 19 [] Tryz.func31) (λf=>1) (by simp[AJ]) (by simp[AJ,Tryz.f31]) ?_
 rintro⟨e,g⟩ _ h a
 simp[AJ]at a|-
 obtain⟨b,c⟩:=a
 by_cases d:0<=e<;>simp[Tryz.f31,b,c,d,iI]
theorem S1{c:eG}(ht:c.p 31=some AJ)(a:Int)(b:Nat):rl Tryz.prog cx c 31 [.int .i64 a,.int .i64 b]=some (.bool (iI a b)):=fR ht T5 (a,b) trivial
def ym:fK:=⟨dN,λa=>[a.t],λa=>True,λa=> .bool (lq a),λa c b=>by simp at b;rw[dN.inj b]⟩
theorem PT:ym.Ok Tryz.prog cx 28:=by
 refine f8 (tb:=⟨pt [],ht []⟩) dX dU (iN 7 [] Tryz.func28) (λd=>1) (by simp[ym]) (by simp[ym,Tryz.f28]) ?_
 rintro(b:dN) _ e a
 simp[ym]at a|-
 by_cases c:b.kind=3<;>simp[Tryz.f28,a,c,lq]
theorem EI{b:eG}(ht:b.p 28=some ym)(a:dN):rl Tryz.prog cx b 28 [a.t]=some (.bool (lq a)):=fR ht PT a trivial
theorem Ua:ym.Ok Tryz.prog cx 131:=by
 refine f8 (tb:=⟨pt [],ht []⟩) dX dU (iN 7 [] Tryz.func131) (λd=>1) (by simp[ym]) (by simp[ym,Tryz.f131]) ?_
 rintro(b:dN) _ e a
 simp[ym]at a|-
 by_cases c:b.kind=3<;>simp[Tryz.f131,a,c,lq]
theorem Ot{b:eG}(ht:b.p 131=some ym)(a:dN):rl Tryz.prog cx b 131 [a.t]=some (.bool (lq a)):=fR ht Ua a trivial
def uT:fK:=⟨Int,λa=>[.int .i64 a],λa=>True,λa=> .bool (pw a),λa c b=>by simp at b;rw[b]⟩
theorem MB:uT.Ok Tryz.prog cx 88:=by
 refine f8 (tb:=⟨pt [],ht []⟩) dX dU (iN 29 [] Tryz.func88) (λh=>1) (by simp[uT]) (by simp[uT,Tryz.f88]) ?_
 rintro(b:Int) _ i a
 simp[uT]at a|-
 by_cases c:b=6
 ·simp[Tryz.f88,a,c,pw]
 by_cases d:b=8
 ·simp[Tryz.f88,a,d,pw]
 by_cases e:b=10
 ·simp[Tryz.f88,a,e,pw]
 by_cases f:b=17
 ·simp[Tryz.f88,a,f,pw]
 by_cases g:b=21<;>simp[Tryz.f88,a,c,d,e,f,g,pw]
theorem QF{b:eG}(ht:b.p 88=some uT)(a:Int):rl Tryz.prog cx b 88 [.int .i64 a]=some (.bool (pw a)):=fR ht MB a trivial
def wA:fK:=⟨dN×dN,λa=>[a.1.t,a.2.t],λa=>True,λa=> .bool (j7 a.1 a.2),λa c b=>by simp at b;rw[dN.inj b.1,dN.inj b.2]⟩
theorem KK:wA.Ok Tryz.prog cx 61:=by
 refine f8 (tb:=⟨pt [(28,ym)],ht []⟩) dX dU (iN 31 [] Tryz.func61) (λa=>1) (by simp[wA]) (by simp[wA,Tryz.f61]) ?_
 rintro⟨a,e⟩ _ j f
 simp[wA]at f|-
 obtain⟨b,c⟩:=f
 cases d:lq a with
 |false=>simp[Tryz.f61,b,c,EI,d,j7]
 |true=>
  cases g:lq e with
  |false=>simp[Tryz.f61,b,c,EI,d,g,j7]
  |true=>
   cases h:decide (a.obj=e.obj)<;>cases i:decide (a.kind=4)<;>simp[Tryz.f61,b,c,EI,d,g,h,i,j7]
theorem BO{c:eG}(ht:c.p 61=some wA)(a b:dN):rl Tryz.prog cx c 61 [a.t,b.t]=some (.bool (j7 a b)):=fR ht KK (a,b) trivial
def pV:fK:=⟨em×Int×Int,λa=>[a.1.t,.int .i64 a.2.1,.int .i64 a.2.2],λa=>iI a.2.1 a.1.w.dw.length=true/\iI a.2.2 a.1.w.dw.length=true,λa=> .bool (j7 (pG a.1.w.dw a.2.1) (pG a.1.w.dw a.2.2)),λa c b=>by simp at b;rw[em.inj b.1,b.2.1,b.2.2]⟩
theorem M8:pV.Ok Tryz.prog cx 87:=by
 refine f8 (tb:=⟨pt [(131,ym)],ht []⟩) dX dU (iN 463 [(1,[(8,14),(10,14),(11,14)])] Tryz.func87) (λb=>1) (by simp[pV]) (by simp[pV,Tryz.f87]) ?_
 rintro⟨m,p,q⟩ c t a
 simp[pV]at c a|-
 obtain⟨e,f,g⟩:=a
 obtain⟨b,a,n⟩:=ij c.1
 obtain⟨d,h,o⟩:=ij c.2
 have i:=dS (ed.1 c.1).1
 have j:=dS (ed.1 c.2).1
 rw[show pG m.w.dw p=b by simp[pG,n],show pG m.w.dw q=d by simp[pG,o]]
 cases k:lq b with
 |false=>simp[Tryz.f87,e,f,g,i,j,a,h,Ot,ko,k,j7]
 |true=>
  cases l:lq d with
  |false=>simp[Tryz.f87,e,f,g,i,j,a,h,Ot,ko,k,l,j7]
  |true=>
   cases r:decide (b.obj=d.obj)<;>cases s:decide (b.kind=4)<;>simp[Tryz.f87,e,f,g,i,j,a,h,Ot,ko,k,l,r,s,j7]
theorem Al{d:eG}(ht:d.p 87=some pV)(a:em)(b c:Int)(e:iI b a.w.dw.length=true)(f:iI c a.w.dw.length=true):rl Tryz.prog cx d 87 [a.t,.int .i64 b,.int .i64 c]=some (.bool (j7 (pG a.w.dw b) (pG a.w.dw c))):=fR ht M8 (a,b,c) ⟨e,f⟩
end
noncomputable section
open Go Go.TI
theorem yu{d:fw->Bool}{b c:fw}(a:c∈ig d b):c=b/\d b=true:=by
 unfold ig at a
 split at a
 ·simp at a;exact⟨a,by assumption⟩
 ·simp at a
theorem KW{e:GX}{c:fw}(h:c∈e.mV):
 (∃a b,c=gR a b/\e.vR c=true)\/(∃a f,c=gC f/\f∈e.yK a)\/(∃a b,c=gL a b/\e.vR c=true)\/(∃a b g i,c=gA a b g i/\e.vR c=true):=by
 unfold GX.mV at h
 simp only[List.mem_append]at h
 rcases h with((h|h)|h)|h
 ·rw[cC]at h;obtain⟨a,_,h⟩:=h
  rw[cC]at h;obtain⟨b,_,h⟩:=h
  obtain⟨rfl,d⟩:=yu h
  exact .inl ⟨a,b,rfl,d⟩
 ·rw[cC]at h;obtain⟨a,_,h⟩:=h
  rw[List.mem_map]at h;obtain⟨f,j,rfl⟩:=h
  exact .inr (.inl ⟨a,f,rfl,j⟩)
 ·rw[cC]at h;obtain⟨a,_,h⟩:=h
  rw[cC]at h;obtain⟨b,_,h⟩:=h
  obtain⟨rfl,d⟩:=yu h
  exact .inr (.inr (.inl ⟨a,b,rfl,d⟩))
 ·rw[cC]at h;obtain⟨a,_,h⟩:=h
  rw[cC]at h;obtain⟨b,_,h⟩:=h
  split at h
  ·rw[cC]at h;obtain⟨g,_,h⟩:=h
   rw[cC]at h;obtain⟨i,_,h⟩:=h
   obtain⟨rfl,d⟩:=yu h
   exact .inr (.inr (.inr ⟨a,b,g,i,rfl,d⟩))
  ·simp at h
theorem GX.H7{e:GX}{d:fw}(f:d∈e.mV):e.vR d=true:=by
 rcases KW f with⟨b,c,rfl,a⟩|⟨b,i,rfl,a⟩|⟨b,c,rfl,a⟩|⟨b,c,g,h,rfl,a⟩
 ·exact a
 ·exact(Jz _ _ _ a).1
 ·exact a
 ·exact a
def aaj(a:dZ):aa GX:=if a.dw.length<=16/\a.d8.dp.length<=4 then(Vz a.d8 a.lY.fW a.dw).map λb=>⟨a.d8,a.dw,b⟩else none
theorem ue.Vz{b:dZ}(a:ue b):aaj b=some b.gx:=by
 unfold aaj
 rw[aq ⟨a.len,a.oc⟩,OB _ _ a.run];rfl
end
noncomputable section
open Go Go.TI
attribute [-simp] List.map_take List.map_drop List.map_append fi ei dT Bool.not_or Bool.not_and
attribute [simp] fh ew
attribute [-simp] size_cons
theorem rC{e:dJ}{d:ej}{a:Int}(h:mW e d=true)(c:iI a e.dP.length=true):∃b,ke a=some a.toNat/\d.dP[a.toNat]? =some b/\lN d a=b:=by
 rw[<-(nq h).1]at c
 obtain⟨b,f,g⟩:=ij c
 exact⟨b,dS (ed.1 c).1,f,by simp[lN,g]⟩
theorem Ai{d:dJ}{e:ej}{b:Int}(g:mW d e=true)(h:iI b d.fP.length=true):∃a c,ke b=some b.toNat/\d.fP[b.toNat]? =some a/\ke a.kP=some a.kP.toNat/\e.dP[a.kP.toNat]? =some c/\qQ d e b=c:=by
 obtain⟨a,f,i⟩:=ij h
 obtain⟨c,j,k,l⟩:=rC g (qO g f)
 exact⟨a,c,dS (ed.1 h).1,f,j,k,by simp[qQ,i,l]⟩
theorem wq{e:dJ}{d:ej}{a:Int}(h:mW e d=true)(c:iI a e.dp.length=true):∃b,ke a=some a.toNat/\d.dp[a.toNat]? =some b/\oQ d a=b:=by
 rw[<-(nq h).2.2]at c
 obtain⟨b,f,g⟩:=ij c
 exact⟨b,dS (ed.1 c).1,f,by simp[oQ,g]⟩
theorem jV.at{b:dZ}(j:jV b){i:Int}(c:iI i b.dw.length=true):∃a:dN,b.dw[i.toNat]? =some a/\ke i=some i.toNat/\b.gx.e i=a/\iI a.dA b.d8.dp.length=true/\jn b.d8 a.kind a.obj=true:=by
 obtain⟨a,d,f,g,h⟩:=j.ok.e c
 exact⟨a,d,dS (ed.1 c).1,f,g,h⟩
theorem jV.rd{w:dZ}(c:jV w){b:Int}(g:iI b w.dw.length=true):(∀d∈(w.gx.s b).dP,d.dQ.length<=2000)/\(w.gx.s b).Dc:=by
 have e:=c.sm.uh (w:=w.d8) (w.dw.take b.toNat)
 rw[(c.ok.s g).1]
 exact⟨λd hl=>by have f:=e.r d hl;have h:=c.ok.len;simp at f;omega,e.a⟩
theorem In(a:dW)(b:H):fdW b 0 Pk a.t=some (.val a.fW.t b):=by
 unfold dW.t dW.cs ej.t ej.cs;simp[-ej.fold,-dW.fold]
def pX:fK:=⟨dZ×Int×Int,λa=>[a.1.t,.int .i64 a.2.1,.int .i64 a.2.2],λa=>jV a.1/\iI a.2.1 a.1.dw.length=true/\iI a.2.2 a.1.dw.length=true,λa=> .bool (a.1.gx.mM a.2.1 a.2.2),λa c b=>by simp at b;rw[dZ.inj b.1,b.2.1,b.2.2]⟩
theorem Nh:pX.Ok Tryz.prog cx 57:=by
 refine f8 (tb:=⟨pt [(62,kE),(56,zu)],ht []⟩) dX dU (iN 77371547675299043809952719 [(1,[(6,12),(8,12),(9,12)])] Tryz.func57) (λ_=>10) (by simp[pX]) (by simp[pX,Tryz.f57]) ?_
 rintro⟨d,l,q⟩ ⟨g,m,u⟩ X t
 simp only at g m u
 simp[pX]at t|-
 obtain⟨M,r,N⟩:=t
 obtain⟨R,J,K,L,V,W⟩:=g.at m
 obtain⟨b,G,H,I,U,k⟩:=g.at u
 obtain⟨z,j⟩:=g.ok.s m
 have y:=(g.rd m).1
 have O:=λ{tb:eG} (ht:tb.p 62=some kE)=>yM ht wH d l g
 generalize uh d.d8 d.lY (d.dw.take l.toNat)=A at*
 rw[z]at y j
 have a:=GX.mM.eq_1 d.gx l q
 rw[I,L,z,show d.gx.w=d.d8 from rfl]at a
 generalize d.gx.mM l q=S at*
 simp[Tryz.f57,M,r,N,G,H,J,K,ko]
 refine dM (λn=> ?_) (λn=> ?_)
 ·simp at n
  simp[a,n]
 have P:¬b.dA=R.dA:=by simpa using n
 rw[ao P]at a
 simp[r,O,In]
 have v:∀c:dF,A.fW.dP[b.obj.toNat]? =some c->c.dQ.length<=1099511627776:=λc hl=>by have:=y c (az hl);omega
 cases x:decide (b.kind=6)with
 |true=>
  have e:b.kind=6:=by simpa using x
  obtain⟨c,l1,l2,l3⟩:=rC j (kr k (by omega))
  have hl:=v c l2
  rw[aq (.inl e),l3]at a
  simp[l1,l2,Lg,hl,a]
 |false=>
  cases f:decide (b.kind=10)with
  |true=>
   have e:b.kind=10:=by simpa using f
   obtain⟨c,l1,l2,l3⟩:=rC j (kr k (by omega))
   have hl:=v c l2
   rw[aq (.inr e),l3]at a
   simp[f,l1,l2,Lg,hl,a]
  |false=>
   have Q:¬(b.kind=6\/b.kind=10):=by simp at x f;omega
   rw[ao Q]at a
   cases h:decide (b.kind=8)with
   |true=>
    have e:b.kind=8:=by simpa using h
    obtain⟨c,l1,l2,l3⟩:=rC j (kr k (by omega))
    rw[aq e,l3]at a
    simp[f,h,l1,l2,a]
   |false=>
    rw[ao (by simpa using h)]at a
    cases i:decide (b.kind=17)with
    |true=>
     have e:b.kind=17:=by simpa using i
     obtain⟨T,c,B,C,D,E,F⟩:=Ai j (nd k (by omega))
     rw[aq e,F]at a
     simp[f,h,i,B,C,D,E,a]
    |false=>
     rw[ao (by simpa using i)]at a
     cases o:decide (b.kind=21)with
     |true=>
      rw[aq (by simpa using o)]at a
      simp[f,h,i,o,a]
     |false=>
      rw[ao (by simpa using o)]at a
      simp[f,h,i,o,a]
theorem EK(d:GX){lo hi:Int}{a b:Nat}(c:dN->Bool)(e:lo=a)(f:hi=b):d.S2 lo hi c=((d.ev.drop a).take (b-a)).all c:=by
 unfold GX.S2;rw[e,f,show((b:Int)-a).toNat=b-a by omega];rfl
theorem Dd{d:dN->Bool}{c:List dN}{a b:Nat}{e:dN}(f:c[a]? =some e)(g:a<b):((c.drop a).take (b-a)).all d=(d e&&((c.drop (a+1)).take (b-(a+1))).all d):=by
 obtain⟨hl,rfl⟩:=List.getElem?_eq_some_iff.1 f
 rw[aJ hl,show b-a=(b-(a+1))+1 by omega,List.take_succ_cons,cA]
theorem jV.nat{c:dZ}{a:Int}(d:iI a c.dw.length=true):∃b:Nat,a=b/\b<c.dw.length:=by
 have:=ed.1 d
 exact⟨a.toNat,by omega,this.2⟩
def uV:fK:=⟨dZ×fw,λe=>[e.1.t,e.2.t],λe=>jV e.1/\iI e.2.a e.1.dw.length=true/\iI e.2.b e.1.dw.length=true,λe=> .bool (decide (e.2.c=0)&&decide (e.2.d=0)&&decide (e.2.jf=[])&&e.1.gx.O8 e.2.a e.2.b),λe g f=>by simp at f;rw[dZ.inj f.1,fw.inj f.2]⟩
theorem MJ:uV.Ok Tryz.prog cx 32:=by
 refine f8 (tb:=⟨pt [(61,wA)],ht []⟩) dX dU (iN 127 [(1,[(7,14),(9,14),(10,14),(11,14)])] Tryz.func32) (λ_=>10) (by simp[uV]) (by simp[uV,Tryz.f32]) ?_
 rintro⟨a,⟨A,f,g,q,z,B⟩⟩ ⟨c,n,o⟩ C l
 simp only at n o
 replace c:jV a:=c
 simp[uV]at l|-
 obtain⟨j,k⟩:=l
 obtain⟨d,a1,a2,a3,a4,a5⟩:=c.at n
 obtain⟨u,h,i,p,x,y⟩:=c.at o
 have e:=GX.O8.eq_1 a.gx f g
 rw[a3,p,show a.gx.w=a.d8 from rfl]at e
 generalize a.gx.O8 f g=v at*
 cases b:j7 d u with
 |false=>
  simp[Tryz.f32,j,k,a1,a2,h,i,ko,BO,b,e]
 |true=>
  have r:d.kind=3\/d.kind=4:=by unfold j7 lq at b;simp at b;exact b.1.1.1
  have m:iI d.obj a.d8.cells.length=true:=by unfold jn at a5;rw[ao (by omega),aq r]at a5;exact a5
  obtain⟨q,s,t⟩:=ij m
  simp[Tryz.f32,j,k,a1,a2,h,i,ko,BO,b,e,s,t,dS (ed.1 m).1]
  ac_rfl
theorem C6(a:ej)(b:H):fdW b 3 Kf a.t=some (.val (sl (a.dp.map dx.t)) b):=by
 unfold ej.t ej.cs;simp[-ej.fold]
def uW:fK:=⟨dZ×fw,λe=>[e.1.t,e.2.t],λe=>jV e.1/\iI e.2.a e.1.dw.length=true/\iI e.2.b e.1.dw.length=true,λe=> .bool (decide (e.2.c=0)&&decide (e.2.d=0)&&decide (e.2.jf=[])&&e.1.gx.Nv e.2.a e.2.b),λe g f=>by simp at f;rw[dZ.inj f.1,fw.inj f.2]⟩
theorem MQ:uW.Ok Tryz.prog cx 33:=by
 refine f8 (tb:=⟨pt [(62,kE)],ht []⟩) dX dU (iN 309637306140417614782923263 [(1,[(7,14),(9,14),(10,14),(11,14)]),(9,[(3,7)])] Tryz.func33) (λ_=>100) (by simp[uW]) (by simp[uW,Tryz.f33]) ?_
 rintro⟨c,⟨an,a,b,U,V,C⟩⟩ ⟨h,w,A⟩ i K
 simp only at w A
 replace h:jV c:=h
 simp[uW]at K|-
 obtain⟨W,J⟩:=K
 obtain⟨E,a1,a2,a3,a4,a5⟩:=h.at w
 obtain⟨x,G,bk,R,T,bn⟩:=h.at A
 obtain⟨N,O⟩:=h.ok.s w
 have ae:=λ{tb:eG} (ht:tb.p 62=some kE)=>yM ht wH c a h
 generalize uh c.d8 c.lY (c.dw.take a.toNat)=S at*
 rw[N]at O
 obtain⟨z,a7,a8,bi⟩:=wq O T
 have f:=GX.Nv.eq_1 c.gx a b
 rw[a3,R,N,bi]at f
 generalize c.gx.Nv a b=P at*
 obtain⟨e,rfl,bz⟩:=jV.nat w
 obtain⟨d,rfl,bN⟩:=jV.nat A
 have b6:=h.ok.len
 rw[cF]at a1 G
 simp[Tryz.f33,W,J,a1,G,ko]
 refine dM (λv=> ?_) (λv=> ?_)
 ·have:(decide (U=0)&&decide (V=0)&&decide (C=[])&&P)=false:=by
   rw[cd];intro n
   rw[f]at n
   simp only[ay,bR,aL,bP,bo]at n v
   obtain⟨⟨⟨J,o⟩,q⟩,⟨⟨⟨⟨⟨⟨⟨bu,y⟩,r⟩,u⟩,X⟩,bv⟩,bp⟩,bs⟩⟩:=n
   subst q
   simp[o,r,u,X]at v
   omega
  simp[this]
 simp only[bI,Bool.and_eq_false_iff,bS,bo,aL]at v
 obtain⟨⟨⟨⟨⟨⟨⟨ap,av⟩,aA⟩,aE⟩,aN⟩,aX⟩,a6⟩,b7⟩:=v
 have hl:C=[]:=by cases C<;>simp at aA|-
 have bB:d<e:=by omega
 subst ap av hl
 have al:=EK c.gx (lo:=(d:Int)+1) (hi:=e) (a:=d+1) (b:=e) (λj=> !decide (j.dA=x.dA)) (by omega) rfl
 rw[al,show c.gx.ev=c.dw from rfl,bw (show(d:Int)<e by omega),bw aN,bw aX,bg a6,show(decide (E.kind=18)||decide (E.kind=19))=true by simpa using aE]at f
 simp
 generalize m:(((hE.cons _).cons _).cons _).cons _=l
 have F:l.get 0=some ⟨15,0,0,true,false,[c.t]⟩:=by rw[<-m];simp
 have H:l.get 1=some ⟨6,0,0,true,false,[fw.t ⟨an,e,d,0,0,[]⟩]⟩:=by rw[<-m];simp
 have Q:l.get 2=some ⟨7,0,1,true,false,[E.t]⟩:=by rw[<-m];simp
 have I:l.get 3=some ⟨7,0,1,true,false,[x.t]⟩:=by rw[<-m];simp
 have M:Hp l:=by rw[<-m];simp
 clear m
 have Z:binop .add (.int .i64 (d:Int)) (.int .i64 1)=some (.int .i64 ((d:Int)+1)):=fQ (by omega) (by omega)
 simp[Z]
 refine mF e (λk i n=>l=n/\d+1<=k/\((c.dw.drop k).take (e-k)).all (λj=> !decide (j.dA=x.dA))=((c.dw.drop (d+1)).take (e-(d+1))).all (λj=> !decide (j.dA=x.dA))/\TI.dt i 2=some (.ptr 0 0 0 0)/\TI.dt i 3=some (.ptr 1 0 0 0)/\TI.dt i 5=some (.ptr 2 0 0 0)/\TI.dt i 6=some (.ptr 3 0 0 0)/\TI.dt i 7=some (.int .i64 k)) ?_ (by omega) (k:=d+1) (by omega) ?_
 ·rintro k i _ bT ⟨rfl,bX,g,o,q,y,r,u⟩
  by_cases B:k<e
  ·have L:k<c.dw.length:=by omega
   have Y:binop .add (.int .i64 (k:Int)) (.int .i64 1)=some (.int .i64 ((k:Int)+1)):=fQ (by omega) (by omega)
   rw[Dd (aB L) B]at g
   simp[F,H,I,o,q,r,u,B,L]
   generalize c.dw[k]=j at*
   refine dM (λD=> ?_) (λD=> ?_)
   ·rw[D]at g
    rw[<-g]at f
    simp[f,M]
   ·rw[D]at g
    simp[o,q,y,r,u,Y]
    exact⟨k+1,by omega,by omega,by omega,by simpa using g,by simp⟩
  ·rw[show e-k=0 by omega]at g
   rw[<-g]at f
   simp at f
   simp[F,H,Q,I,o,q,y,r,u,B,ae,In,C6,a7,a8]
   exact⟨M,f.symm⟩
 ·simp
def qg:fK:=⟨dZ×fw,λe=>[e.1.t,e.2.t],λe=>jV e.1/\iI e.2.a e.1.dw.length=true/\iI e.2.b e.1.dw.length=true/\iI e.2.c e.1.dw.length=true/\iI e.2.d e.1.dw.length=true,λe=> .bool (decide (e.2.jf=[])&&e.1.gx.GS e.2.a e.2.b e.2.c e.2.d),λe g f=>by simp at f;rw[dZ.inj f.1,fw.inj f.2]⟩
theorem HU:qg.Ok Tryz.prog cx 34:=by
 refine f8 (tb:=⟨pt [(62,kE),(61,wA)],ht []⟩) dX dU (iN 324518867979139826586741578400767 [(3,[(7,28),(9,28),(10,28),(11,28),(13,28),(15,28),(16,28),(17,28),(19,28),(21,28),(22,28),(23,28),(13,29),(15,29),(16,29),(17,29),(19,29),(21,29),(22,29),(23,29),(19,30),(21,30),(22,30),(23,30)]),(11,[(3,7)])] Tryz.func34) (λ_=>100) (by simp[qg]) (by simp[qg,Tryz.f34]) ?_
 rintro⟨c,⟨bp,a,b,x,A,G⟩⟩ ⟨i,B,E,T,U⟩ m Q
 simp only at B E T U
 replace i:jV c:=i
 simp[qg]at Q|-
 obtain⟨aE,aN⟩:=Q
 obtain⟨n,a1,a2,a3,a4,a5⟩:=i.at B
 obtain⟨y,K,b7,Z,b8,b9⟩:=i.at E
 obtain⟨u,ae,al,an,ca,cb⟩:=i.at T
 obtain⟨v,ap,av,aA,ce,cp⟩:=i.at U
 obtain⟨X,Y⟩:=i.ok.s B
 have bk:=λ{tb:eG} (ht:tb.p 62=some kE)=>yM ht wH c a i
 generalize uh c.d8 c.lY (c.dw.take a.toNat)=S at*
 rw[X]at Y
 obtain⟨z,bT,bX,b6⟩:=wq Y a4
 have f:=GX.GS.eq_1 c.gx a b x A
 rw[a3,Z,an,aA,X,b6]at f
 generalize c.gx.GS a b x A=I at*
 obtain⟨g,rfl,cX⟩:=jV.nat B
 obtain⟨e,rfl,c1⟩:=jV.nat E
 have c7:=i.ok.len
 rw[cF]at a1 K
 simp[Tryz.f34,aE,aN]
 refine dM (λd=> ?_) (λd=> ?_)
 ·have:(decide (G=[])&&I)=false:=by
   rw[cd];intro h
   rw[f]at h
   simp only[ay,bR,aL,bP,bo]at h d
   obtain⟨o,⟨⟨⟨⟨⟨⟨⟨⟨a7,q⟩,O⟩,P⟩,a8⟩,l⟩,N⟩,aX⟩,a6⟩⟩:=h
   subst o
   simp at d
   omega
  simp[this]
 simp only[bI,bo]at d
 obtain⟨⟨bs,c9⟩,dd⟩:=d
 have hl:G=[]:=by cases G<;>simp at bs|-
 have cL:g<e:=by omega
 subst hl
 simp[a1,K,ae,al,ap,av,ko,BO]
 refine dM (λd=> ?_) (λd=> ?_)
 ·have:I=false:=by
   rw[cd];intro h
   rw[f]at h
   simp only[ay,bR,aL,bP,bo]at h d
   obtain⟨⟨⟨⟨⟨⟨⟨⟨a7,q⟩,O⟩,P⟩,a8⟩,l⟩,N⟩,aX⟩,a6⟩:=h
   simp[O,P,l,N]at d
   omega
  simp[this]
 simp only[bI,bS,bo,aL]at d
 obtain⟨⟨⟨⟨bu,bv⟩,bz⟩,bB⟩,bN⟩:=d
 have bn:=EK c.gx (lo:=(g:Int)) (hi:=e) (a:=g) (b:=e) (GX.xH n.dA) rfl rfl
 rw[bn,show c.gx.ev=c.dw from rfl,bw (show(g:Int)<e by omega),bw (show x<=A by omega),bw bu,bw bv,bg bz,bB,bN]at f
 simp
 generalize w:(((((hE.cons _).cons _).cons _).cons _).cons _).cons _=r
 have J:r.get 0=some ⟨15,0,0,true,false,[c.t]⟩:=by rw[<-w];simp
 have L:r.get 1=some ⟨6,0,0,true,false,[fw.t ⟨bp,g,e,x,A,[]⟩]⟩:=by rw[<-w];simp
 have M:r.get 2=some ⟨7,0,1,true,false,[n.t]⟩:=by rw[<-w];simp
 have W:Hp r:=by rw[<-w];simp
 clear w
 refine mF e (λk m h=>r=h/\g<=k/\((c.dw.drop k).take (e-k)).all (GX.xH n.dA)=((c.dw.drop g).take (e-g)).all (GX.xH n.dA)/\TI.dt m 2=some (.ptr 0 0 0 0)/\TI.dt m 3=some (.ptr 1 0 0 0)/\TI.dt m 5=some (.ptr 2 0 0 0)/\TI.dt m 9=some (.int .i64 k)) ?_ (by omega) (k:=g) (by omega) ?_
 ·rintro k m _ c4 ⟨rfl,c6,j,D,o,q,l⟩
  by_cases F:k<e
  ·have V:k<c.dw.length:=by omega
   have bi:binop .add (.int .i64 (k:Int)) (.int .i64 1)=some (.int .i64 ((k:Int)+1)):=fQ (by omega) (by omega)
   rw[Dd (aB V) F]at j
   simp[J,L,M,D,o,q,l,F,V]
   generalize c.dw[k]=C at*
   have R:GX.xH n.dA C= !(decide (C.dA=n.dA)&&decide (C.kind=15)):=rfl
   refine dM (λH=> ?_) (λH=> ?_)
   ·rw[R,H]at j
    rw[<-j]at f
    simp at f
    simp[f,W]
   ·rw[R,H]at j
    simp[D,o,q,l,bi]
    exact⟨k+1,by omega,by omega,by omega,by simpa using j,by simp⟩
  ·rw[show e-k=0 by omega]at j
   rw[<-j]at f
   simp at f
   simp[J,L,M,D,o,q,l,F,bk,In,C6,bT,bX]
   exact⟨W,f.symm⟩
 ·simp
theorem JU{d:eG}(ht:d.p 57=some pX)(a:dZ)(c b:Int)(g:jV a)(e:iI c a.dw.length=true)(f:iI b a.dw.length=true):rl Tryz.prog cx d 57 [a.t,.int .i64 c,.int .i64 b]=some (.bool (a.gx.mM c b)):=fR ht Nh (a,c,b) ⟨g,e,f⟩
def xI(c:GX)(d:Int->Int->Bool)(a:List Int)(b:Nat):Bool:=
 !decide (a.getD b 0<a.getD 0 0)&&d (a.getD ((b+1)% a.length) 0) (a.getD b 0)&&(List.range b).all λf=> !decide ((c.e (a.getD b 0)).dA=(c.e (a.getD f 0)).dA)
theorem Gv{d:GX}{e:Int->Int->Bool}{b:List Int}(f:2<=b.length)(g:b.length<=4)(h:∀a<b.length,iI (b.getD a 0) d.ev.length=true)(i:∀a<b.length,xI d e b a=true):d.Eu e b=true:=by
 unfold GX.Eu
 simp only[ay,aL]
 refine⟨⟨⟨f,g⟩,List.all_eq_true.2 λk j=> ?_⟩,List.all_eq_true.2 λa c=>i a (List.mem_range.1 c)⟩
 obtain⟨a,c,rfl⟩:=List.mem_iff_getElem.1 j
 have:=h a c
 simpa[List.getD,c]using this
theorem nu{e:GX}{f:Int->Int->Bool}{a:List Int}(h:a.length<2\/4<a.length\/(∃b<a.length,iI (a.getD b 0) e.ev.length=false)\/∃b<a.length,xI e f a b=false):e.Eu f a=false:=by
 rw[cd];intro d
 unfold GX.Eu at d
 simp only[ay,aL]at d
 obtain⟨⟨⟨j,k⟩,g⟩,i⟩:=d
 rcases h with h|h|⟨b,c,h⟩|⟨b,c,h⟩
 ·omega
 ·omega
 ·have:=List.all_eq_true.1 g (a.getD b 0) (by simp[List.getD,c])
  rw[h]at this;simp at this
 ·have:=List.all_eq_true.1 i b (List.mem_range.2 c)
  unfold xI at h;rw[h]at this;simp at this
theorem I8(a b:Nat)(d:b≠0)(c:a<9223372036854775808):binop .rem (.int .i64 (a:Int)) (.int .i64 (b:Int))=some (.int .i64 ((a% b:Nat):Int)):=by
 rw[E7 (by omega)];rfl
def u0:fK:=⟨dZ×fw,λa=>[a.1.t,a.2.t],λa=>jV a.1/\a.2.jf.length<=1000000,λa=> .bool (a.1.gx.dead a.1.gx.mM a.2),λa c b=>by simp at b;rw[dZ.inj b.1,fw.inj b.2]⟩
theorem M3:u0.Ok Tryz.prog cx 30:=by
 refine f8 (tb:=⟨pt [(57,pX),(31,AJ)],ht []⟩) dX dU (iN 2596148777438049903812084076904959 [] Tryz.func30) (λ_=>100) (by simp[u0]) (by simp[u0,Tryz.f30]) ?_
 rintro⟨d,⟨S,z,A,B,C,a⟩⟩ ⟨u,aE⟩ f U
 simp only at aE
 replace u:jV d:=u
 simp[u0]at U|-
 obtain⟨ae,P⟩:=U
 have n:d.gx.dead d.gx.mM ⟨S,z,A,B,C,a⟩=(decide (z=0)&&decide (A=0)&&decide (B=0)&&decide (C=0)&&d.gx.Eu d.gx.mM a):=rfl
 generalize d.gx.dead d.gx.mM ⟨S,z,A,B,C,a⟩=Y at*
 simp[Tryz.f30,ae,P]
 refine dM (λL=> ?_) (λL=> ?_)
 ·have:Y=false:=by
   rw[cd];intro h
   rw[n]at h
   simp only[ay,aL]at h
   obtain⟨⟨⟨⟨P,i⟩,j⟩,al⟩,g⟩:=h
   simp[P,i,j,al]at L
   rw[nu (by omega)]at g;simp at g
  simp[this]
 simp only[bI,bS,bo,aL]at L
 obtain⟨⟨⟨⟨⟨aN,aX⟩,a6⟩,a7⟩,bp⟩,bs⟩:=L
 have av:2<=a.length:=by omega
 have aA:a.length<=4:=by omega
 have bk:=u.ok.len
 rw[aN,aX,a6,a7]at n
 simp at n
 simp
 generalize F:(hE.cons _).cons _=r
 have M:r.get 0=some ⟨15,0,0,true,false,[d.t]⟩:=by rw[<-F];simp
 have N:r.get 1=some ⟨6,0,0,true,false,[fw.t ⟨S,z,A,B,C,a⟩]⟩:=by rw[<-F];simp
 have K:Hp r:=by rw[<-F];simp
 clear F
 refine eQ a.length (by omega) (λb f h=>r=h/\(∀c<b,iI (a.getD c 0) d.dw.length=true)/\TI.dt f 2=some (.ptr 0 0 0 0)/\TI.dt f 3=some (.ptr 1 0 0 0)/\TI.dt f 5=some (.int .i64 a.length)/\TI.dt f 6=some (.int .i64 b)) ?_ ?_ (by omega) ?_
 ·rintro b f _ m G ⟨rfl,I,i,j,g,D⟩
  have s:a.getD b 0=a[b]:=by simp[List.getD,m]
  simp[M,N,i,j,g,D,m,S1]
  refine dM (λl=> ?_) (λl=> ?_)
  ·rw[nu (.inr (.inr (.inl ⟨b,m,by rw[s];exact(by simpa using l:iI a[b] d.dw.length=false)⟩)))]at n
   simp[n,K]
  ·simp[i,j,g,D,G]
   intro c q
   rcases aD c b with h|h
   ·simpa using I c h
   ·rw[show c=b by omega];simpa[m]using l
 ·rintro f _ ⟨rfl,I,i,j,g,D⟩
  simp[g,D]
  have H:∀c (q:c<a.length),iI a[c] d.dw.length=true:=λc q=>by simpa[List.getD,q]using I c q
  refine eQ a.length (by omega) (λb f h=>r=h/\(∀c<b,xI d.gx d.gx.mM a c=true)/\TI.dt f 2=some (.ptr 0 0 0 0)/\TI.dt f 3=some (.ptr 1 0 0 0)/\TI.dt f 5=some (.int .i64 a.length)/\TI.dt f 7=some (.int .i64 b)) ?_ ?_ (by omega) ?_
  ·rintro b f _ m G ⟨rfl,Q,i,j,g,o⟩
   have s:∀c (q:c<a.length),a.getD c 0=a[c]:=λc q=>by simp[List.getD,q]
   have O:0<a.length:=by omega
   have W:=I8 (b+1) a.length (by omega) (by omega)
   have J:(b+1)% a.length<a.length:=Nat.mod_lt _ O
   have v:xI d.gx d.gx.mM a b=(!decide (a[b]<a[0])&&d.gx.mM (a[(b+1)% a.length]'J) a[b]&&(List.range b).all λk=> !decide ((d.gx.e a[b]).dA=(d.gx.e (a.getD k 0)).dA)):=by unfold xI;rw[s _ m,s _ O,s _ J]
   generalize(b+1)% a.length=X at*
   have Z:=λ{tb:eG} (ht:tb.p 57=some pX)=>JU ht d a[X] a[b] u (H X J) (H b m)
   obtain⟨x,a1,a2,a3,a4,a5⟩:=u.at (H b m)
   rw[a3]at v
   simp at W
   simp[M,N,i,j,g,o,m,G,O,W,J,Z]
   refine dM (λl=> ?_) (λl=> ?_)
   ·have:xI d.gx d.gx.mM a b=false:=by
     rw[v,cd];intro h
     simp only[ay,bP,bo]at h
     simp[h.1.2]at l
     omega
    rw[nu (.inr (.inr (.inr ⟨b,m,this⟩)))]at n
    simp[n,K]
   ·simp only[bI,bS,bo]at l
    rw[l.2,bg l.1]at v
    simp
    refine eQ b (by omega) (λk f h=>r=h/\(∀c<k,decide (x.dA=(d.gx.e (a.getD c 0)).dA)=false)/\TI.dt f 2=some (.ptr 0 0 0 0)/\TI.dt f 3=some (.ptr 1 0 0 0)/\TI.dt f 5=some (.int .i64 a.length)/\TI.dt f 7=some (.int .i64 b)/\TI.dt f 8=some (.int .i64 k)) ?_ ?_ (by omega) ?_
    ·rintro k f _ V an ⟨rfl,R,i,j,g,o,E⟩
     have w:k<a.length:=by omega
     obtain⟨y,a8,bi,T,bu,bv⟩:=u.at (H k w)
     simp[M,N,i,j,o,E,V,w,m,a1,a2,a8,bi]
     have bn:(d.gx.e (a.getD k 0)).dA=y.dA:=by rw[s k w,T]
     refine dM (λl=> ?_) (λl=> ?_)
     ·have:xI d.gx d.gx.mM a b=false:=by
       rw[v];simp
       exact⟨k,V,by simpa[w,T]using l⟩
      rw[nu (.inr (.inr (.inr ⟨b,m,this⟩)))]at n
      simp[n,K]
     ·simp[i,j,g,o,E,an]
      intro c q
      rcases aD c k with h|h
      ·simpa using R c h
      ·rw[show c=k by omega];simp[w,T];simpa using l
    ·rintro f _ ⟨rfl,R,i,j,g,o,E⟩
     simp[i,j,g,o,E,G]
     intro c q
     rcases aD c b with h|h
     ·exact Q c h
     ·rw[show c=b by omega,v];simp;intro k ap;simpa using R k ap
    ·simp[i,j,g,o]
  ·rintro f _ ⟨rfl,Q,i,j,g,o⟩
   rw[Gv av aA I Q]at n
   simp[g,o,n,K]
  ·simp[i,j,g]
 ·simp
def nK:fK:=⟨dZ×fw,λa=>[a.1.t,a.2.t],λa=>jV a.1/\a.2.jf.length<=1000000,λa=> .bool (a.1.gx.vR a.2),λa c b=>by simp at b;rw[dZ.inj b.1,fw.inj b.2]⟩
theorem KA:nK.Ok Tryz.prog cx 15:=by
 refine f8 (tb:=⟨pt [(31,AJ),(30,u0),(32,uV),(33,uW),(34,qg)],ht []⟩) dX dU (iN 9302967882613055 [] Tryz.func15) (λ_=>100) (by simp[nK]) (by simp[nK,Tryz.f15]) ?_
 rintro⟨f,e⟩ ⟨h,v⟩ E u
 simp only at v
 replace h:jV f:=h
 simp[nK]at u|-
 obtain⟨r,s⟩:=u
 have g:=GX.vR.eq_1 f.gx e
 simp only[show∀w,f.gx.zg w=iI w f.dw.length from λ_=>rfl]at g
 generalize f.gx.vR e=D at*
 have A:∀{tb:eG},tb.p 30=some u0->rl Tryz.prog cx tb 30 [f.t,e.t]=some (.bool (f.gx.dead f.gx.mM e)):=λht=>fR ht M3 (f,e) ⟨h,v⟩
 cases o:decide (e.kind=2)with
 |true=>
  rw[aq (by simpa using o)]at g
  simp[Tryz.f15,r,s,o,A,g]
 |false=>
  rw[ao (by simpa using o)]at g
  simp[Tryz.f15,r,s,o,S1]
  refine dM (λl=> ?_) (λl=> ?_)
  ·rw[ao (by intro j;simp only[ay]at j;simp[j.1.1.1,j.1.1.2,j.1.2,j.2]at l)]at g
   simp[g]
  simp only[bI,bS]at l
  obtain⟨⟨⟨m,n⟩,x⟩,y⟩:=l
  rw[aq (by rw[m,n,x,y];rfl)]at g
  have C:∀{tb:eG},tb.p 32=some uV->rl Tryz.prog cx tb 32 [f.t,e.t]=some (.bool (decide (e.c=0)&&decide (e.d=0)&&decide (e.jf=[])&&f.gx.O8 e.a e.b)):=λht=>fR ht MJ (f,e) ⟨h,m,n⟩
  have B:∀{tb:eG},tb.p 33=some uW->rl Tryz.prog cx tb 33 [f.t,e.t]=some (.bool (decide (e.c=0)&&decide (e.d=0)&&decide (e.jf=[])&&f.gx.Nv e.a e.b)):=λht=>fR ht MQ (f,e) ⟨h,m,n⟩
  have z:∀{tb:eG},tb.p 34=some qg->rl Tryz.prog cx tb 34 [f.t,e.t]=some (.bool (decide (e.jf=[])&&f.gx.GS e.a e.b e.c e.d)):=λht=>fR ht HU (f,e) ⟨h,m,n,x,y⟩
  cases i:decide (e.kind=1)with
  |true=>
   rw[aq (by simpa using i)]at g
   simp[i,C,g]
  |false=>
   rw[ao (by simpa using i)]at g
   cases k:decide (e.kind=3)with
   |true=>
    rw[aq (by simpa using k)]at g
    simp[i,k,B,g]
   |false=>
    rw[ao (by simpa using k)]at g
    cases q:decide (e.kind=4)with
    |true=>
     rw[aq (by simpa using q)]at g
     simp[i,k,q,z,g]
    |false=>
     rw[ao (by simpa using q)]at g
     simp[i,k,q,g]
theorem GM{c:eG}(ht:c.p 15=some nK)(b:dZ)(a:fw)(d:jV b)(hl:a.jf.length<=1000000):rl Tryz.prog cx c 15 [b.t,a.t]=some (.bool (b.gx.vR a)):=fR ht KA (b,a) ⟨d,hl⟩
def gT(e:fw):T:= .agg [.int .i64 e.kind,.int .i64 e.a,.int .i64 e.b,.int .i64 e.c,.int .i64 e.d,.dq [] false]
structure IPt where
 (w:dZ) (g:fw) (v:T) (es:List T)
def So(a:IPt)(c:List T)(b:H):Prop:=c=[a.w.t,a.v,gT a.g]/\Gr b a.v 6 a.es/\gh 0 b/\jV a.w/\a.es.length<=1000000/\a.g.jf=[]
def Dw(a:IPt)(e:List T)(b:H)(d:T)(c:H):Prop:=Xt b a.v 6 (a.es++if a.w.gx.vR a.g=true then [gT a.g]else []) d c
theorem DA:(jM IPt So Dw).Ok Tryz.prog cx 26:=by
 refine iU (tb:=⟨pt [(15,nK)],ht []⟩) dX dU (iN 623 [] Tryz.func26) (λw f=>10) (λH w f D=>by obtain⟨rfl,_⟩:=D;simp[Tryz.f26]) ?_
 rintro⟨g,e,n,z⟩ _ f ⟨rfl,o,v,u,hl,k⟩ K s
 simp only at o u hl k
 simp[gT]at s
 obtain⟨A,q,B⟩:=s
 have C:T.agg [.int .i64 e.kind,.int .i64 e.a,.int .i64 e.b,.int .i64 e.c,.int .i64 e.d,.fg]=e.t:=by unfold fw.t fw.cs;rw[k];rfl
 have j:=λ{tb:eG} (ht:tb.p 15=some nK)=>GM ht g e u (by rw[k];simp)
 rw[<-C]at j
 generalize r:g.gx.vR e=F at j
 have h:Xt (TI.hr f) n 6 z n (((TI.hr f).cons ⟨15,0,0,true,false,[g.t]⟩).cons ⟨6,0,0,true,false,[gT e]⟩):=((Xt.refl (o.mono λy _=>fU f y) v.hr).cons _).cons _
 have m:gh 0 (((TI.hr f).cons ⟨15,0,0,true,false,[g.t]⟩).cons ⟨6,0,0,true,false,[gT e]⟩):=(v.hr.cons _).cons _
 obtain⟨J,G,i,x⟩:=h.1.uP (cx:=cx) m Iw rfl Iv rfl (by simp) (x:=gT e) rfl (by simp;omega)
 have E:=h.trans x
 unfold gT at i h m
 have I:=m.low
 change iu cx _ _ _ n (.arr (f.size+1+1) 0 0 1 false)=_ at i
 simp[Tryz.f26,A,B,j]
 refine dM (λl=> ?_) (λl=> ?_)
 ·subst l
  simp[q,i]
  unfold Dw
  simp only[r,aY]
  exact E.out
 ·subst l
  simp[q]
  unfold Dw
  simp only[r]
  simpa using h.out
abbrev yy(a:List Int):List T:=a.map (T.int .i64)
def G7(d c:H)(f b:T)(e:List Int):Prop:=Gr c b 1 (yy e)/\∀a,dE b=some a->d.size<=a/\a<c.size/\dE f≠some a
theorem Xt.nb{e f g:H}{j h:T}{i:Nat}{d:List T}(b:Xt e j i d h f)(a:Nb f g):Xt e j i d h g:=by
 have p:=b.2.2.2.sz
 refine⟨b.1.mono λk l=> ?_,λc m n=>(a.get c (by omega)).trans (b.2.1 c m n),b.2.2.1,a.ok.hp,a.ok.low,aS p a.ok.sz⟩
 obtain⟨_,_,_,_,o,_⟩:=b.1.box l
 exact a.get k (H.dL o)
theorem G7.nb{g f h:H}{k e:T}{i:List Int}(a:G7 g f k e i)(j:Nb f h):G7 g h k e i:=
 ⟨a.1.mono λd l=>j.get d (a.2 d l).2.1,λb c=>⟨(a.2 b c).1,bD (a.2 b c).2.1 j.ok.sz,(a.2 b c).2.2⟩⟩
theorem G7.xt{h g i:H}{l r2 f:T}{k:List Int}{o:Nat}{m:List T}(a:G7 h g l f k)(d:Xt g l o m r2 i):G7 h i r2 f k:=
 ⟨a.1.mono λe j=>d.2.1 e (a.2 e j).2.1 (a.2 e j).2.2,λb c=>⟨(a.2 b c).1,bD (a.2 b c).2.1 d.2.2.2.sz,λn=>(d.2.2.1 b n).elim (a.2 b c).2.2 (λp=>by have:=(a.2 b c).2.1;omega)⟩⟩
theorem G7.fin{a g f:H}{i e:T}{h:List Int}(b:G7 g f i e h)(j:a.size<=g.size):G7 a (kV a f) i e h:=⟨b.1.out a,λc d=>⟨aS j (b.2 c d).1,(b.2 c d).2.1,(b.2 c d).2.2⟩⟩
structure VJ where
 (w:dZ) (p:List Int) (pv v:T) (es:List T)
def Z0(a:VJ):List (List Int):=w7 a.w.gx.ev.length (λb=>a.w.gx.vR (gC b)) (λb c=> !decide (c∈b)&&a.w.gx.mM c (ks b)) (4-a.p.length) a.p
def Mg(a:VJ)(d:List T)(b:H):Prop:=d=[a.w.t,a.pv,a.v]/\Gr b a.pv 1 (yy a.p)/\Gr b a.v 1 a.es/\(∀c,dE a.pv=some c->dE a.v≠some c)/\gh 0 b/\jV a.w/\1<=a.p.length/\a.p.length<=4/\(∀e∈a.p,iI e a.w.dw.length=true)/\a.es.length+(Z0 a).length<=1000000
def HI(a:VJ)(f:List T)(b:H)(e:T)(c:H):Prop:=∃d,Xt b a.v 1 (a.es++d) e c/\gG (G7 b c e) d (Z0 a)
theorem YB(k:Nat):(jM VJ (λi S h=>Mg i S h/\5-i.p.length<k) HI).Ok Tryz.prog cx 27:=by
 refine tX (λi:VJ=>5-i.p.length) (λm eE=> ?_) k
 refine iU (tb:=⟨pt [(15,nK),(56,zu),(57,pX)],ht [(27,jM VJ (λi S h=>Mg i S h/\5-i.p.length<m) HI)]⟩) dX dU (iN 140738563147983 [(9,[(0,3),(3,5),(0,6)])] Tryz.func27) (λS h=>100) (λi S h ey=>by obtain⟨⟨rfl,_⟩,_⟩:=ey;simp[Tryz.f27]) ?_
 rintro⟨c,a,w,y,es⟩ _ h ⟨⟨rfl,M,Z,ce,bn,W,eA,eB,ae,a7⟩,er⟩ z bX
 simp only at M Z ce W eA eB ae a7 er
 simp at bX
 obtain⟨dv,s,D⟩:=bX
 have bB:∀{tb:eG},tb.p 15=some nK->rl Tryz.prog cx tb 15 [c.t,fw.t ⟨2,0,0,0,0,a⟩]=some (.bool (c.gx.vR (gC a))):=λht=>GM ht c (gC a) W (by simp[gC];omega)
 generalize N:(TI.hr h).cons ⟨15,0,0,true,false,[c.t]⟩=j
 have c1:gh h.size j:=by rw[<-N];exact(⟨bn.hr.hp,bn.hr.low,au _⟩:gh h.size (TI.hr h)).cons _
 have aA:j.size=h.size+1:=by rw[<-N];rfl
 have bz:j.get h.size=some ⟨15,0,0,true,false,[c.t]⟩:=by rw[<-N];simp
 have bT:∀o,o<h.size->j.get o=h.get o:=λo F=>by rw[<-N,dH,ao (by simp;omega)];exact fU h o
 have cp:∀b,dE w=some b->b<h.size:=λb u=>by obtain⟨_,_,_,_,A,_⟩:=M.box u;exact H.dL A
 have an:∀b,dE y=some b->b<h.size:=λb u=>by obtain⟨_,_,_,_,A,_⟩:=Z.box u;exact H.dL A
 have Y:Gr j w 1 (yy a):=M.mono λb u=>bT b (cp b u)
 have a6:Gr j y 1 es:=Z.mono λb u=>bT b (an b u)
 have ap:gh 0 j:=⟨c1.hp,c1.low,aw _⟩
 have dn:TI.fz j w=some (sl (yy a)):=Y.fz (by simp)
 have eR:TI.pq j w=some (sl (yy a)):=Y.pq (by simp)
 have eV:∀l:List T,l.length=a.length->a.length<=4->l.length*8<=70368744177664:=by intros;omega
 generalize eb:c.gx.vR (gC a)=V at bB
 simp[Tryz.f27,dv,s,N,M.fT,M.cells,dn,bz,bB]
 refine m6 (λz d=>∃r n,Xt j y 1 (es++n) r d/\gG (G7 j d r) n (if V=true then [a]else [])/\TI.dt z 1=some w/\TI.dt z 2=some r/\TI.dt z 3=some (.ptr h.size 0 0 0)) (λI=> ?_) (λI=> ?_) ?_
 ·obtain⟨aN,B,L,⟨eO,eP,gA⟩,Q,J,E⟩:=kj (cx:=cx) (sz:=1) ap (x:=w) (xs:=yy a) jQ rfl mJ jQ rfl rfl (by simp) Y.iy (by simp[T.cells]) (by simp;omega)
  have ds:Gr B y 1 es:=a6.mono λb u=>J b (by have:=an b u;omega)
  obtain⟨eN,d,e,x⟩:=ds.uP (cx:=cx) E NW rfl jQ rfl (by simp) (x:= .arr j.size aN 0 a.length false) rfl (by simp;omega)
  have eF:=E.low
  have e5:=ap.low
  simp at L gA
  rw[aA]at L Q
  rw[Q,aA]at e
  have cL:Nb j B:=⟨⟨E.hp,E.low,by omega⟩,J⟩
  have r1:G7 j B y (.arr j.size aN 0 a.length false) a:=by
   have g:=Gr.new (h:=B) (b:=j.size) (es:=yy a) gA
   rw[aH]at g
   exact⟨g,λo F=>by simp at F;subst F;exact⟨au _,by omega,λq=>by have:=an _ q;omega⟩⟩
  have c9:=(Xt.nb (Xt.refl a6 ap) cL).trans x
  have r2:=r1.xt x
  rw[aA]at c9 r2
  simp[s,D,aA,Q,L,e]
  exact⟨eN,_,c9,by rw[I];exact .cons r2 .nil,rfl⟩
 ·simp[s,D]
  exact⟨y,[],by simpa using Xt.refl a6 ap,by rw[I];exact .nil,rfl⟩
 rintro z d ⟨r,n,x,C,s,D,G⟩
 have c6:Xt (TI.hr h) y 1 es y j:=by rw[<-N];exact(Xt.refl (Z.mono λb _=>fU h b) bn.hr).cons _
 have bk:=λs:H=>M.len (cx:=cx) s m8 _ rfl
 rw[aH]at bk
 simp[s,bk]
 have O:Z0 ⟨c,a,w,y,es⟩=w7 c.dw.length (λa=>c.gx.vR (gC a)) (λa v=> !decide (v∈a)&&c.gx.mM v (ks a)) (4-a.length) a:=rfl
 rw[<-eb]at C
 refine dM (λI=> ?_) (λI=> ?_)
 ·simp[D]
  simp at I
  refine⟨n,(c6.trans x).out,?_⟩
  rw[O,show 4-a.length=0 by omega,w7]
  exact C.imp λ_ _ q=>q.fin (by omega)
 simp at I
 obtain⟨R,ea⟩:∃R,4-a.length=R+1:=⟨3-a.length,by omega⟩
 rw[ea,w7]at O
 obtain⟨p0,cb⟩:∃p0:Nat,a[0]? =some (p0:Int)/\p0<c.dw.length:=by
  have:=ed.1 (ae a[0] (aF (by omega)))
  exact⟨a[0].toNat,by rw[aB (by omega)];congr 1;omega,by omega⟩
 have e0:=W.ok.len
 have eo:(a.getD 0 0).toNat=p0:=by simp[List.getD,cb.1]
 rw[eo]at O
 have bi:a.length-1<a.length:=by omega
 have b9:ks a=a[a.length-1]:=by simp[ks,List.getD,bi]
 have et:iI (ks a) c.dw.length=true:=by rw[b9];exact ae _ (aF bi)
 have av:∀{r:T} {n:List T} {d:H},Xt j y 1 (es++n) r d->nz d 1 w (yy a):=λx=> .inr (Y.mono λb u=>x.2.1 b (by have:=cp b u;omega) (ce b u))
 obtain⟨e6,dd,de⟩:=(av x).idx (te:=Dj) rfl rfl (i:=0) (x:= .int .i64 p0) (by simp[cb.1]) rfl
 have ef:binop .add (.int .i64 (p0:Int)) (.int .i64 1)=some (.int .i64 ((p0:Int)+1)):=fQ (by omega) (by omega)
 have eC:binop .sub (.int .i64 (a.length:Int)) (.int .i64 1)=some (.int .i64 ((a.length-1:Nat):Int)):=by rw[kl (by omega) (by omega)];congr 2;omega
 generalize b8:(λ(v:Nat)=>if(!decide ((v:Int)∈a)&&c.gx.mM v (ks a))=true then w7 c.dw.length (λa=>c.gx.vR (gC a)) (λa v=> !decide (v∈a)&&c.gx.mM v (ks a)) R (a++[(v:Int)])else [])=f at O
 simp[s,dd,de,ef]
 refine mF c.dw.length (λk z d=>p0+1<=k/\∃r n,Xt j y 1 (es++n) r d/\gG (G7 j d r) n ((if c.gx.vR (gC a)=true then [a]else [])++(List.range' (p0+1) (k-(p0+1))).flatMap f)/\TI.dt z 1=some w/\TI.dt z 2=some r/\TI.dt z 3=some (.ptr h.size 0 0 0)/\TI.dt z 7=some (.int .i64 k)) ?_ (by omega) (k:=p0+1) (by omega) ?_
 ·rintro k z d eW ⟨eU,r,n,x,C,s,D,G,U⟩
  have bp:=(x.2.1 h.size (by omega) λq=>by have:=an _ q;omega).trans bz
  have cX:gh 0 d:=⟨x.2.2.2.hp,x.2.2.2.low,aw _⟩
  by_cases ca:k<c.dw.length
  ·have b6:binop .add (.int .i64 (k:Int)) (.int .i64 1)=some (.int .i64 ((k:Int)+1)):=fQ (by omega) (by omega)
   obtain⟨e7,di,dk⟩:=(av x).idx (te:=Dj) rfl rfl (i:=a.length-1) (x:= .int .i64 (ks a)) (by rw[b9];simp[bi]) rfl
   have aX:TI.pq d w=some (sl (yy a)):=(av x).pq (by simp) (by simp)
   have dm:=λ{tb:eG} (ht:tb.p 57=some pX)=>JU ht c k (ks a) W (ed.2 ⟨by omega,by omega⟩) et
   simp[s,G,U,bp,ca,bk,eC,di,dk,aX,dm,Lg,show a.length<=1099511627776 by omega]
   refine dM (λq=> ?_) (λq=> ?_)
   ·obtain⟨aN,B,L,⟨eO,eP,gA⟩,Q,J,E⟩:=kj (cx:=cx) (sz:=1) cX (x:=w) (xs:=yy a) jQ rfl mJ jQ rfl rfl (by simp) (av x).iy (by simp[T.cells]) (by simp;omega)
    have cL:Nb d B:=⟨⟨E.hp,E.low,by omega⟩,J⟩
    have aX:=Gr.new (h:=B) (b:=d.size) (es:=yy a) gA
    obtain⟨c4,bu,aE,P⟩:=aX.nY (cx:=cx) (f:=T.int .i64) E jQ rfl mJ rfl (by simp) (λx=>rfl) (k:Int) (by simp;omega)
    have eF:=E.low
    have e4:=cX.low
    simp at L aE
    rw[Q]at aE
    have al:h.size<d.size:=by have:=x.2.2.2.sz;omega
    have bN:∀o,o<d.size->bu.get o=d.get o:=λo F=>(P.2.1 o (by omega) (by simp;omega)).trans (J o F)
    have eI:dY (d.cons ⟨1,0,0,true,false,[]⟩) B h.size=true:=ee ((J _ al).trans (by rw[dH,ao (by omega)]))
    have eL:dY (d.cons ⟨1,0,0,true,false,[]⟩) B (d.size+1)=true:=jq (mZ _ (by simp))
    have eM:dY (B.cons ⟨1,0,0,true,false,[.int .i64 k]⟩) bu h.size=true:=ee ((bN _ al).trans (by rw[dH,ao (by omega)];exact(J _ al).symm))
    have X:Nb d bu:=⟨⟨P.2.2.2.hp,P.2.2.2.low,by have:=P.2.2.2.sz;omega⟩,bN⟩
    simp[s,D,G,U,bp,L,aE,Q,eI,eL,eM]
    have c7:=Xt.nb x X
    have a8:f k=w7 c.dw.length (λa=>c.gx.vR (gC a)) (λa v=> !decide (v∈a)&&c.gx.mM v (ks a)) R (a++[(k:Int)]):=by rw[<-b8];simp only;rw[aq q]
    have b7:Z0 ⟨c,a++[(k:Int)],c4,r,es++n⟩=f k:=by rw[a8];unfold Z0;simp only[aP,List.length_singleton];rw[show 4-(a.length+1)=R by omega];rfl
    have eD:fV (p0+1) c.dw.length=List.range' (p0+1) (k-(p0+1))++k::List.range' (k+1) (c.dw.length-(k+1)):=by
     unfold fV
     rw[show c.dw.length-(p0+1)=(k-(p0+1))+(c.dw.length-k)by omega,<-List.range'_append_1,show p0+1+(k-(p0+1))=k by omega,show c.dw.length-k=(c.dw.length-(k+1))+1 by omega,List.range'_succ]
    have eu:=C.length
    have eh:(es++n).length+(f k).length<=1000000:=by
     rw[O,eD]at a7
     simp only[aP,cM,aO]at a7 eu|-
     omega
    refine kA eE (by simp) ⟨c,a++[(k:Int)],c4,r,es++n⟩ ⟨⟨rfl,P.1,c7.1,λb u hr=> ?_,⟨X.ok.hp,X.ok.low,aw _⟩,W,by simp,by simp;omega,λK A=> ?_,by rw[b7];exact eh⟩,by simp;omega⟩ ?_
    ·obtain⟨_,_,_,_,A,_⟩:=x.1.box hr
     have:=H.dL A
     rcases P.2.2.1 b u with q|q
     ·simp at q;omega
     ·omega
    ·simp at A
     rcases A with A|rfl
     ·exact ae K A
     ·show iI (k:Int) c.dw.length=true
      exact ed.2 ⟨by omega,by omega⟩
    rintro r3 eS ⟨eH,bs,bv⟩
    rw[b7]at bv
    have e9:=bs.2.2.2.sz
    have eX:h.size+1<=d.size:=al
    have e8:=X.ok.sz
    simp[s,G,U,b6]
    refine⟨k+1,by omega,by omega,by omega,r3,n++eH,?_,?_,rfl,by simp⟩
    ·have:=c7.trans bs
     rw[aI]at this;exact this
    ·rw[show k+1-(p0+1)=(k-(p0+1))+1 by omega,List.range'_concat,show p0+1+1*(k-(p0+1))=k by omega,cM,<-aI]
     refine gG.append (C.imp λ_ _ K=>(K.nb X).xt bs) ?_
     simp only[aO,cg,bL]
     exact bv.imp λ_ _ K=>⟨K.1,λo F=>⟨by have:=(K.2 o F).1;omega,(K.2 o F).2⟩⟩
   ·simp[s,D,G,U,b6]
    have a8:f k=[]:=by rw[<-b8];simp only;rw[ao (by rw[q];simp)]
    refine⟨k+1,by omega,by omega,by omega,r,n,x,?_,rfl,by simp⟩
    rw[show k+1-(p0+1)=(k-(p0+1))+1 by omega,List.range'_concat,show p0+1+1*(k-(p0+1))=k by omega,cM]
    simpa[a8]using C
  ·simp[D,G,U,bp,ca]
   refine⟨n,(c6.trans x).out,?_⟩
   rw[O]
   unfold fV
   rw[show k=c.dw.length by omega]at C
   exact C.imp λ_ _ q=>q.fin (by omega)
 ·exact⟨by omega,r,n,x,by simpa using C,by simp[s,D,G]⟩
def ye:fK:=⟨fw,λa=>[a.t,a.t],λa=>a.jf.length<=1000000,λa=> .bool true,λb c d=>rfl⟩
theorem PF:ye.Ok Tryz.prog cx 17:=by
 refine f8 (tb:=⟨pt [(36,oo)],ht []⟩) dX dU (iN 31 [] Tryz.func17) (λ_=>10) (by simp[ye]) (by simp[ye,Tryz.f17]) ?_
 rintro(a:fw) hl f b
 simp[ye]at b hl|-
 obtain⟨d,e⟩:=b
 have c:=λ{tb:eG} (ht:tb.p 36=some oo)=>Le ht a.jf a.jf (by omega) (by omega)
 simp[Tryz.f17,d,e,c]
def yd:fK:=⟨List fw,λa=>[sl (a.map fw.t),sl (a.map fw.t)],λa=>a.length<=1000000/\∀b∈a,b.jf.length<=1000000,λb=> .bool true,λc d e=>rfl⟩
theorem PE:yd.Ok Tryz.prog cx 9:=by
 refine f8 (tb:=⟨pt [(17,ye)],ht []⟩) dX dU (iN 67126323 [] Tryz.func9) (λ_=>1000005) (by simp[yd]) (by simp[yd,Tryz.f9]) ?_
 rintro(b:List fw) ⟨hl,l⟩ c h
 simp[yd]at h|-
 obtain⟨a,d⟩:=h
 simp[Tryz.f9,a,d]
 refine eQ b.length (by omega) (λe c f=>f=hE/\TI.dt c 0=some (sl (b.map fw.t))/\TI.dt c 1=some (sl (b.map fw.t))/\TI.dt c 5=some (.int .i64 e)) ?_ ?_ (by omega) (by simp[a,d])
 ·rintro e c f i k ⟨rfl,a,d,g⟩
  have j:∀{tb:eG},tb.p 17=some ye->rl Tryz.prog cx tb 17 [b[e].t,b[e].t]=some (.bool true):=λht=>fR ht PF b[e] (l _ (aF i))
  simp[a,d,g,i,k,j]
 ·rintro c f ⟨rfl,a,d,g⟩
  simp[a,g]
theorem ji{a b:Nat}(c:a<b):fV a b=a::fV (a+1) b:=by
 unfold fV;rw[show b-a=(b-(a+1))+1 by omega,List.range'_succ]
theorem jL{a b:Nat}(c:b<=a):fV a b=[]:=by unfold fV;rw[show b-a=0 by omega];rfl
theorem Aw(a:Nat):List.range a=fV 0 a:=by unfold fV;rw[List.range_eq_range'];rfl
theorem lj{d i:Type}(b:Nat){f:d->List i}:∀{l:List d},(∀a∈l,(f a).length<=b)->(l.flatMap f).length<=l.length*b:=by
 intro l
 induction l with
 |nil=>intro _;simp
 |cons a l g=>
  intro c
  rw[aO,aP,aZ,bU]
  have j:=c a (by simp)
  have k:=g λh e=>c h (by simp[e])
  omega
theorem Ax(b a:Nat):(fV b a).length<=a:=by unfold fV;simp
theorem Et{n:Nat}(e:n<=16){ok:List Int->Bool}{go:List Int->Int->Bool}:∀(a:Nat) (b:List Int),(w7 n ok go a b).length<=17^a:=by
 intro a
 induction a with
 |zero=>intro b;unfold w7;split<;>simp
 |succ a g=>
  intro b
  unfold w7
  rw[aP]
  have h:(if ok b=true then [b]else []).length<=1:=by split<;>simp
  have i:=lj (17^a) (l:=fV ((b.getD 0 0).toNat+1) n) (f:=λ(c:Nat)=>if go b c=true then w7 n ok go a (b++[(c:Int)])else []) λm _=>by
   split
   ·exact g _
   ·simp
  have d:=Ax ((b.getD 0 0).toNat+1) n
  have j:=aV (17^a) (aS d e)
  have k:0<17^a:=Nat.pow_pos (by omega)
  rw[Nat.pow_succ];omega
theorem CY(b:fw->Bool)(a:fw):(ig b a).length<=1:=by unfold ig;split<;>simp
theorem yt(a:GX)(m:a.n<=16):a.mV.length<=100000+80000:=by
 unfold GX.mV
 simp only[aP]
 have two:∀h:Nat->Nat->fw,((List.range a.n).flatMap λ(b:Nat)=>(List.range a.n).flatMap λ(c:Nat)=>ig a.vR (h b c)).length<=256:=λh=>by
  have j:=lj 16 (l:=List.range a.n) (f:=λ(b:Nat)=>(List.range a.n).flatMap λ(c:Nat)=>ig a.vR (h b c)) λb _=>by
   have k:=lj 1 (l:=List.range a.n) (f:=λ(c:Nat)=>ig a.vR (h b c)) λc _=>CY _ _
   rw[dh]at k;omega
  rw[dh]at j;omega
 have j:=two gR
 have k:=two gL
 have p:((List.range a.n).flatMap λ(b:Nat)=>(a.yK b).map gC).length<=16*4913:=by
  have i:=lj 4913 (l:=List.range a.n) (f:=λ(b:Nat)=>(a.yK b).map gC) λb _=>by
   rw[aH];exact Et (show a.ev.length<=16 from m) 3 _
  rw[dh]at i;omega
 have q:((List.range a.n).flatMap λ(b:Nat)=>(fV (b+1) a.n).flatMap λ(c:Nat)=>if(a.e b).dA=(a.e c).dA/\lq (a.e b)=true/\lq (a.e c)=true then(List.range a.n).flatMap λ(d:Nat)=>(fV d a.n).flatMap λ(g:Nat)=>ig a.vR (gA b c d g)else []).length<=16*(16*256):=by
  have i:=lj (16*256) (l:=List.range a.n) (f:=λ(b:Nat)=>(fV (b+1) a.n).flatMap λ(c:Nat)=>if(a.e b).dA=(a.e c).dA/\lq (a.e b)=true/\lq (a.e c)=true then(List.range a.n).flatMap λ(d:Nat)=>(fV d a.n).flatMap λ(g:Nat)=>ig a.vR (gA b c d g)else []) λb _=>by
   have r:=lj 256 (l:=fV (b+1) a.n) (f:=λ(c:Nat)=>if(a.e b).dA=(a.e c).dA/\lq (a.e b)=true/\lq (a.e c)=true then(List.range a.n).flatMap λ(d:Nat)=>(fV d a.n).flatMap λ(g:Nat)=>ig a.vR (gA b c d g)else []) λc _=>by
    split
    ·have o:=lj 16 (l:=List.range a.n) (f:=λ(d:Nat)=>(fV d a.n).flatMap λ(g:Nat)=>ig a.vR (gA b c d g)) λd _=>by
      have s:=lj 1 (l:=fV d a.n) (f:=λ(g:Nat)=>ig a.vR (gA b c d g)) λg _=>CY _ _
      have:=Ax d a.n;omega
     rw[dh]at o;omega
    ·simp
   have:=Ax (b+1) a.n;omega
  rw[dh]at i;omega
 omega
structure An(w:dZ)(h:H)(v:T)(es:List T)(gs:List fw):Prop where
 g:Gr h v 6 es
 a:gG (FT h (λc=>1<=c/\c<h.size/\dE v≠some c) 4) es (gs.map fw.t)
 ok:gh 1 h
 b0:h.get 0=some ⟨15,0,0,true,false,[w.t]⟩
 v0:dE v≠some 0
theorem An.step{o:dZ}{m d:H}{n j:T}{g h:List T}{l gs2:List fw}(c:An o m n g l)(b:Xt m n 6 (g++h) j d)(p:gG (FT d (λf=>1<=f/\f<d.size/\dE j≠some f) 4) h (gs2.map fw.t)):An o d j (g++h) (l++gs2):=by
 have r:=c.ok.sz
 have s:=b.2.2.2.sz
 refine⟨b.1,?_,⟨b.2.2.2.hp,b.2.2.2.low,by omega⟩,(b.2.1 0 (by omega) c.v0).trans c.b0,λi=>(b.2.2.1 0 i).elim c.v0 (by omega)⟩
 rw[List.map_append]
 exact(c.a.imp λ_ _ q=>q.mono λk e=>⟨⟨e.1,by omega,λi=>(b.2.2.1 k i).elim e.2.2 (by omega)⟩,b.2.1 k e.2.1 e.2.2⟩).append p
theorem ZB{d:H}{b:Nat->Prop}{a:fw}(e:a.jf=[])(c:Nat):FT d b (c+2) (gT a) a.t:=by
 refine .inr (.inr ⟨_,_,rfl,.cons (fJ ..) (.cons (fJ ..) (.cons (fJ ..) (.cons (fJ ..) (.cons (fJ ..) (.cons (iL _ _ _ _) .nil))))),?_⟩)
 unfold fw.t fw.cs;rw[e];rfl
theorem An.put{b:dZ}{e f:H}{g h:T}{c:List T}{d:List fw}{a:fw}(j:An b e g c d)(i:a.jf=[])(x:Xt e g 6 (c++if b.gx.vR a=true then [gT a]else []) h f):∃vD,An b f h vD (d++ig b.gx.vR a):=by
 refine⟨_,j.step x ?_⟩
 unfold ig
 split
 ·exact .cons (ZB i 2) .nil
 ·exact .nil
theorem An.len{b:dZ}{g:H}{l:T}{c:List T}{d f:List fw}(k:An b g l c d)(j:b.dw.length<=16)(i:d++f=b.gx.mV):c.length<=1000000:=by
 have h:=k.a.length
 have e:=yt b.gx j
 rw[<-i]at e
 simp at h e;omega
def uX:fK:=⟨dZ,λa=>[a.t],λa=>jV a,λa=>sl (a.gx.mV.map fw.t),λc d b=>by simp at b;rw[dZ.inj b]⟩
end
end Go.Proofs.YtmaeadedikngoaaGreatDoor
