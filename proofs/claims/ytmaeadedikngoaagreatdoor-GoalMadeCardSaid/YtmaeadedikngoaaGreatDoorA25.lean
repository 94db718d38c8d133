/- Texts W08d to W16. -/
import Derived.Test.YtmaeadedikngoaaGreatDoorA22
set_option linter.unusedVariables false
set_option linter.unusedSimpArgs false
set_option maxRecDepth 100000
set_option maxHeartbeats 8000000
namespace Go.Proofs.YtmaeadedikngoaaGreatDoor
noncomputable section
open Go Go.TI
attribute [-simp] List.map_take List.map_drop List.map_append fi ei dT Bool.not_or Bool.not_and
attribute [simp] fh ew
def qv:fK:=⟨dJ,λa=>[a.t],λa=>a.dP.length<=1000000/\a.dR.length<=1000000/\a.dp.length<=1000000,λa=>(kF a).t,λc d b=>by simp at b;rw[dJ.inj b]⟩
def Pt(_:Unit):T:= .agg [.int .i64 (-1),.dq [] false]
theorem Ps{b:H}{V:Nat->Prop}(a:Nat):gG (FT b V 2) ((List.replicate a ()).map Pt) ((List.replicate a (⟨-1,[]⟩:dF)).map dF.t):=by
 induction a with
 |zero=>exact .nil
 |succ a c=>
  rw[cW,cW]
  exact .cons (.inr (.inr ⟨_,_,rfl,.cons (fJ ..) (.cons (iL ..) .nil),rfl⟩)) c
def Sy8(e:H)(Lk:List Unit)(a:List Bool)(Th:List dx):Prop:=∃f b c d,qY e 2 4 f [(b,some (2,Lk.map Pt)),(.int .i64 (-1),none),(c,some (1,a.map T.bool)),(d,some (3,Th.map dx.t))]
def Ay:iE:=⟨4,0,0,true,false,[.agg [.dq [] false,.int .i64 0,.dq [] false,.dq [] false]]⟩
theorem KD:qv.Ok Tryz.prog cx 73:=by
 refine f8 (tb:=⟨pt [],ht []⟩) dX dU (iN 9071038046463 [] Tryz.func73) (λ_=>1000005) (by simp[qv]) (by simp[qv,Tryz.f73]) ?_
 rintro(w:dJ) ⟨hl,U,ht⟩ b N
 simp[qv]at N|-
 simp[Tryz.f73,N]
 refine eQ w.dP.length (by omega) (λc b h=>Sy8 h (List.replicate c ()) [] []/\Lb 2 h 0 ⟨6,0,0,true,false,[w.t]⟩/\Lb 2 h 1 Ay/\TI.dt b 1=some (.ptr 0 0 0 0)/\TI.dt b 2=some (.ptr 1 0 0 0)/\TI.dt b 3=some (.ptr 2 0 0 0)/\TI.dt b 4=some (.int .i64 c)) ?_ ?_ (by omega) ?_
 ·rintro c b h A z ⟨⟨ver,s,u,v,a⟩,e,k,j,n,o,p⟩
  have m:=a.get
  simp at m
  obtain⟨L,C,r,i⟩:=(a.gr 0 rfl).nY (cx:=cx) (f:=Pt) a.ok NX rfl JG rfl (by simp) (λ_=>rfl) () (by simp;omega)
  obtain⟨q,J,x⟩:=a.app 0 rfl i
  obtain⟨g,l⟩:=x _ rfl
  simp only[<-List.replicate_succ']at l
  simp[-List.map_replicate]at q g l
  simp only[Pt]at r
  simp[j,n,o,p,A,e.get,m,r,q,dG,i.1.fT,i.1.cells,z]
  exact⟨⟨_,_,_,_,l⟩,e.step g,k.step g⟩
 ·rintro b h ⟨⟨ver,s,u,v,a⟩,e,k,j,n,o,p⟩
  simp[j,p,e.get]
  refine eQ w.dR.length (by omega) (λc b h=>Sy8 h (List.replicate w.dP.length ()) (List.replicate c false) []/\Lb 2 h 0 ⟨6,0,0,true,false,[w.t]⟩/\Lb 2 h 1 Ay/\TI.dt b 1=some (.ptr 0 0 0 0)/\TI.dt b 2=some (.ptr 1 0 0 0)/\TI.dt b 3=some (.ptr 2 0 0 0)/\TI.dt b 5=some (.int .i64 c)) ?_ ?_ (by omega) ⟨⟨_,_,_,_,a⟩,e,k,by simp[j,n,o]⟩
  ·rintro c b h A z ⟨⟨ver,s,u,v,a⟩,e,k,j,n,o,p⟩
   have m:=a.get
   simp at m
   obtain⟨L,C,r,i⟩:=(a.gr 2 rfl).nY (cx:=cx) (f:=T.bool) a.ok Ix rfl SZ rfl (by simp) (by simp) false (by simp;omega)
   obtain⟨q,J,x⟩:=a.app 2 rfl i
   obtain⟨g,l⟩:=x _ rfl
   simp only[<-List.replicate_succ']at l
   simp[-List.map_replicate]at q g l
   simp[j,n,o,p,A,e.get,m,r,q,dG,i.1.fT,i.1.cells,z]
   exact⟨⟨_,_,_,_,l⟩,e.step g,k.step g⟩
  ·rintro b h ⟨⟨ver,s,u,v,a⟩,e,k,j,n,o,p⟩
   simp[j,p,e.get]
   refine eQ w.dp.length (by omega) (λc b h=>Sy8 h (List.replicate w.dP.length ()) (List.replicate w.dR.length false) ((List.range c).map λc=>(⟨if c=0 then 1 else 0,0,false⟩:dx))/\Lb 2 h 0 ⟨6,0,0,true,false,[w.t]⟩/\Lb 2 h 1 Ay/\TI.dt b 1=some (.ptr 0 0 0 0)/\TI.dt b 2=some (.ptr 1 0 0 0)/\TI.dt b 3=some (.ptr 2 0 0 0)/\TI.dt b 6=some (.int .i64 c)) ?_ ?_ (by omega) ⟨⟨_,_,_,_,a⟩,e,k,by simp[j,n,o]⟩
   ·rintro c b h A z ⟨⟨ver,s,u,v,a⟩,e,k,j,n,o,p⟩
    have m:=a.get
    simp at m
    have W:(0=h.size)=False:=by have:=a.lt;simp;omega
    have O:(2=h.size)=False:=by have:=a.lt;simp;omega
    by_cases D:c=0
    ·subst D
     have Q:binop .add (.int .i64 0) (.int .i64 1)=some (.int .i64 1):=by simpa using z
     have y:=a.cons ⟨3,0,2,true,false,[dx.t ⟨1,0,false⟩]⟩
     have B:=Step.cons a.ok a.lt ⟨3,0,2,true,false,[dx.t ⟨1,0,false⟩]⟩
     have E:=e.step B
     have H:=k.step B
     obtain⟨L,C,r,i⟩:=(y.gr 3 rfl).nY (cx:=cx) (f:=dx.t) y.ok Ev rfl Ew rfl (by simp) (λ_=>rfl) (⟨1,0,false⟩:dx) (by simp)
     obtain⟨q,J,x⟩:=y.app 3 rfl i
     obtain⟨g,l⟩:=x _ rfl
     simp only[aU,cz,da,cR]at q g l
     rw[size_cons]at r
     simp[j,n,o,p,A,e.get,m,O,a.ok.low,r,q,dG,i.1.fT,i.1.cells,Q]
     exact⟨⟨_,_,_,_,l⟩,E.step g,H.step g⟩
    ·skip
     have y:=a.cons ⟨3,0,1,true,false,[dx.t ⟨0,0,false⟩]⟩
     have B:=Step.cons a.ok a.lt ⟨3,0,1,true,false,[dx.t ⟨0,0,false⟩]⟩
     have E:=e.step B
     have H:=k.step B
     obtain⟨L,C,r,i⟩:=(y.gr 3 rfl).nY (cx:=cx) (f:=dx.t) y.ok Ev rfl Ew rfl (by simp) (λ_=>rfl) (⟨0,0,false⟩:dx) (by simp;omega)
     obtain⟨q,J,x⟩:=y.app 3 rfl i
     obtain⟨g,l⟩:=x _ rfl
     simp only[aU,cz,da,cR]at q g l
     rw[size_cons]at r
     simp[j,n,o,p,D,A,e.get,m,O,a.ok.low,r,q,dG,i.1.fT,i.1.cells,z]
     have hr:(List.range (c+1)).map (λc=>(⟨if c=0 then 1 else 0,0,false⟩:dx))=(List.range c).map (λc=>(⟨if c=0 then 1 else 0,0,false⟩:dx))++[⟨0,0,false⟩]:=by
      rw[List.range_succ,List.map_append];simp[D]
     rw[hr]
     exact⟨⟨_,_,_,_,l⟩,E.step g,H.step g⟩
   ·rintro b h ⟨⟨ver,s,u,v,a⟩,e,k,j,n,o,p⟩
    have m:=a.get
    simp at m
    have G:=k.get
    unfold Ay at G
    have K:=a.uf k ⟨4,0,1,true,false,[.agg [s,.int .i64 (-1),u,v]]⟩
    have R:(dI h 1 ⟨4,0,1,true,false,[.agg [s,.int .i64 (-1),u,v]]⟩).get 1=_:=(dy G _ 1).trans (aq rfl)
    have P:=(K.gr 0 rfl).Gl (d:=2) (by omega) (Ps (V:=λ_=>True) w.dP.length)
    simp[j,n,o,p,e.get,m,G,dG,R,P,(K.gr 2 rfl).fz (by simp),(K.gr 3 rfl).fz (by simp),-List.map_replicate]
    exact⟨a.ok.hp,by unfold kF ej.t ej.cs;simp[List.map_const',-List.map_replicate]⟩
 ·obtain⟨S,M⟩:=qY.start (h:=((hE.cons ⟨6,0,0,true,false,[w.t]⟩).cons Ay).cons ⟨4,0,1,true,false,[.agg [.dq [] false,.int .i64 (-1),.dq [] false,.dq [] false]]⟩) (w:=2) (szw:=4) (ver:=1) (F:=[(.dq [] false,some (2,[])),(.int .i64 (-1),none),(.dq [] false,some (1,[])),(.dq [] false,some (3,[]))]) ⟨by simp,by simp,by simp⟩ (by simp[Ay]) (by simp)
  exact⟨⟨_,_,_,_,S⟩,⟨by simp,λI=>absurd (M 0 I) (by decide)⟩,⟨by simp[Ay],λI=>absurd (M 1 I) (by decide)⟩,by simp⟩
theorem GQ{b:eG}(ht:b.p 73=some qv)(a:dJ)(c:a.dP.length<=1000000)(d:a.dR.length<=1000000)(e:a.dp.length<=1000000):rl Tryz.prog cx b 73 [a.t]=some (kF a).t:=fR ht KD a ⟨c,d,e⟩
def aep(f:H)(a:ej)(b c:Nat)(d:List Int):Prop:=∃g e,qY f 4 7 g [(sl (a.dP.map dF.t),none),(.int .i64 a.tx,none),(sl (a.done.map T.bool),none),(sl (a.dp.map dx.t),none),(e,some (1,d.map (T.int .i64))),(.arr 2 0 0 b false,some (1,(List.replicate b 0).map (T.int .i64))),(.arr 3 0 0 c false,some (1,(List.replicate c 0).map (T.int .i64)))]
def tZ:iE:=⟨7,0,0,true,false,[.agg [.dq [] false,.int .i64 0,.dq [] false,.dq [] false,.dq [] false,.dq [] false,.dq [] false]]⟩
def qu:fK:=⟨dJ,λa=>[a.t],λa=>a.dP.length<=1000000/\a.dR.length<=1000000/\a.dp.length<=1000000/\a.cells.length<=1000000,λa=>(jE a).t,λc d b=>by simp at b;rw[dJ.inj b]⟩
theorem KC:qu.Ok Tryz.prog cx 41:=by
 refine f8 (tb:=⟨pt [(73,qv)],ht []⟩) dX dU (iN 1048607 [(1,[(1,3),(1,5),(1,7),(1,9),(1,11)])] Tryz.func41) (λ_=>1000005) (by simp[qu]) (by simp[qu,Tryz.f41]) ?_
 rintro(a:dJ) ⟨hl,q,ht,F⟩ h e
 simp[qu]at e|-
 have M:a.dR.length*8<=70368744177664:=by omega
 have N:a.dp.length*8<=70368744177664:=by omega
 simp[Tryz.f41,e,GQ,hl,q,ht,M,N]
 have R:(jE a).t=dW.t ⟨kF a,a.cells.map fN.lY,List.replicate a.dR.length 0,List.replicate a.dp.length 0⟩:=by
  unfold jE;simp only[List.map_const']
 rw[R]
 generalize kF a=b at*
 refine eQ a.cells.length (by omega) (λm h i=>∃j,aep i b a.dR.length a.dp.length j/\j.length=m/\j=(a.cells.take m).map fN.lY/\Lb 4 i 0 ⟨6,0,0,true,false,[a.t]⟩/\Lb 4 i 1 tZ/\TI.dt h 1=some (.ptr 0 0 0 0)/\TI.dt h 2=some (.ptr 1 0 0 0)/\TI.dt h 3=some (.ptr 4 0 0 0)/\TI.dt h 4=some (.int .i64 m)) ?_ ?_ (by omega) ?_
 ·rintro m h i G S ⟨j,⟨X,c,d⟩,Q,p,r,s,n,o,w,y⟩
  have l:=d.get
  simp at l
  obtain⟨ap,al,O,E⟩:=(d.gr 4 rfl).nY (cx:=cx) (f:=T.int .i64) d.ok oG rfl zl rfl (by simp) (λ_=>rfl) a.cells[m].lY (by simp;omega)
  obtain⟨u,an,B⟩:=d.app 4 rfl E
  obtain⟨D,K⟩:=B _ rfl
  simp only[aU,cz,da,cR]at u D K
  simp[n,o,w,y,G,r.get,l,O,u,dG,E.1.fT,E.1.cells,S]
  exact⟨_,⟨_,_,K⟩,by simp;omega,by rw[p,bj G,List.map_append];rfl,r.step D,s.step D⟩
 ·rintro h i ⟨j,⟨X,c,d⟩,Q,p,r,s,n,o,w,y⟩
  rw[aQ]at p
  subst p
  have l:=d.get
  simp at l
  have z:=s.get
  unfold tZ at z
  have C:=d.uf s ⟨7,0,1,true,false,[.agg [sl (b.dP.map dF.t),.int .i64 b.tx,sl (b.done.map T.bool),sl (b.dp.map dx.t),c,.arr 2 0 0 a.dR.length false,.arr 3 0 0 a.dp.length false]]⟩
  have P:(dI i 1 ⟨7,0,1,true,false,[.agg [sl (b.dP.map dF.t),.int .i64 b.tx,sl (b.done.map T.bool),sl (b.dp.map dx.t),c,.arr 2 0 0 a.dR.length false,.arr 3 0 0 a.dp.length false]]⟩).get 1=_:=(dy z _ 1).trans (aq rfl)
  have Y:=(C.gr 4 rfl).fz (by simp)
  have Z:=(C.gr 5 rfl).fz (by simp)
  have ae:=(C.gr 6 rfl).fz (by simp)
  simp[n,o,w,y,r.get,l,z,dG,P,Y,Z,ae,-List.map_replicate,-uH]
  exact⟨d.ok.hp,by unfold dW.t dW.cs;simp[-List.map_replicate]⟩
 ·have J:∀(g:Nat) (k:T×aa (Nat×List T)),([(sl (b.dP.map dF.t),none),(.int .i64 b.tx,none),(sl (b.done.map T.bool),none),(sl (b.dp.map dx.t),none),(.dq [] false,some (1,[])),(.arr 2 0 0 a.dR.length false,some (1,(List.replicate a.dR.length 0).map (T.int .i64))),(.arr 3 0 0 a.dp.length false,some (1,(List.replicate a.dp.length 0).map (T.int .i64)))]:List (T×aa (Nat×List T)))[g]? =some k->∀c,dE k.1=some c->c+3=g:=by
   intro g k e c F
   rcases g with _|_|_|_|_|_|_|g<;>simp at e<;>subst e<;>simp at F<;>omega
  refine⟨[],⟨1,.dq [] false,⟨by simp,by simp,by simp⟩,by simp,λf q=> ?_,λg W V k L e U c u B=>V ?_⟩,rfl,by simp,⟨by simp,?_⟩,⟨by simp[tZ],?_⟩,by simp⟩
  ·simp only[cv,df,or_false,cz]at q
   rcases q with rfl|rfl|rfl|rfl|rfl|rfl|rfl
   iterate 4 (show dE _=none;simp)
   ·exact⟨Gr.nil _ _,by decide⟩
   ·exact⟨.inr ⟨2,0,0,true,_,by simp,by simp;rfl,by simp⟩,show(1:Nat)≠7 by decide⟩
   ·exact⟨.inr ⟨3,0,0,true,_,by simp,by simp;rfl,by simp⟩,show(1:Nat)≠7 by decide⟩
  ·have n:=J g k e c u
   have o:=J W L U c B
   omega
  all_goals
   rintro(A|⟨x,I,v,H,A⟩)
   ·simp at A
   ·simp at I;subst I
    simp[d6,T.cells]at H
    rcases H with rfl|rfl|rfl|rfl|rfl|rfl|rfl<;>simp at A
theorem GP{b:eG}(ht:b.p 41=some qu)(a:dJ)(c:a.dP.length<=1000000)(d:a.dR.length<=1000000)(e:a.dp.length<=1000000)(f:a.cells.length<=1000000):rl Tryz.prog cx b 41 [a.t]=some (jE a).t:=fR ht KC a ⟨c,d,e,f⟩
def qx:fK:=⟨List dN×Nat×Int×List Int,λa=>[sl (a.1.map dN.t),.int .i64 a.2.1,.int .i64 a.2.2.1,sl (a.2.2.2.map (T.int .i64))],λa=>a.2.1<=a.1.length/\a.1.length<=1000000/\a.2.2.2.length<=1000000,λa=> .bool (ut (a.1.take a.2.1) a.2.2.1 a.2.2.2),λa c b=>by
 obtain⟨a1,a2,a3,a4⟩:=a
 obtain⟨h,i,j,k⟩:=c
 simp at b
 obtain⟨d,e,f,g⟩:=b
 rw[ja (λ_ _=>dN.inj) d,Int.ofNat.inj e,f,ja (λ_ _ b=>by simpa using b) g]⟩
def ScR(d e:Int)(b:List dN)(c f g:Nat)(h:T):Prop:=∃a:Bool,h= .bool a/\yW d e ((b.take c).drop f) g a=yW d e (b.take c) 0 false
theorem KF:qx.Ok Tryz.prog cx 78:=by
 refine f8 (tb:=⟨pt [],ht []⟩) dX dU (iN 576460753379335951 [] Tryz.func78) (λ_=>1000005) (by simp[qx]) (by simp[qx,Tryz.f78]) ?_
 rintro⟨b,l,v,m⟩ ⟨K,hl,M⟩ a A
 simp at K hl M
 simp[qx]at A|-
 obtain⟨f,c,g,d⟩:=A
 simp[Tryz.f78]
 refine eQ m.length (by omega) (λj a n=>n=hE/\TI.dt a 0=some (sl (b.map dN.t))/\TI.dt a 1=some (.int .i64 l)/\TI.dt a 2=some (.int .i64 v)/\TI.dt a 3=some (sl (m.map (T.int .i64)))/\TI.dt a 9=some (.int .i64 j)/\(m.take j).all (λE=>yW v E (b.take l) 0 false)=true) ?_ ?_ (by omega) (by simp[f,c,g,d])
 ·rintro j a n u G ⟨rfl,f,c,g,d,h,s⟩
  simp[d,h,u]
  refine eQ l (by omega) (λe a n=>n=hE/\TI.dt a 0=some (sl (b.map dN.t))/\TI.dt a 1=some (.int .i64 l)/\TI.dt a 2=some (.int .i64 v)/\TI.dt a 3=some (sl (m.map (T.int .i64)))/\TI.dt a 9=some (.int .i64 j)/\∃(k:Nat) (w:T),TI.dt a 10=some (.int .i64 k)/\TI.dt a 11=some w/\TI.dt a 12=some (.int .i64 e)/\k<=e/\ScR v m[j] b l e k w) ?_ ?_ (by omega) ⟨rfl,by simp[f],by simp[c],by simp[g],by simp[d],by simp[h],0,.bool false,by simp,by simp,by simp,au _,false,rfl,rfl⟩
  ·rintro e a n H B ⟨rfl,f,c,g,d,h,k,w,y,r,o,I,x,rfl,i⟩
   have C:e<b.length:=by omega
   have z:(b.take l).drop e=b[e]::(b.take l).drop (e+1):=by
    rw[aJ (by simp;omega)];simp
   rw[z,yW]at i
   simp[f,c,g,o,H,C]
   have J:b[e]? =some b[e]:=aB C
   have L:m[j]? =some m[j]:=aB u
   generalize b[e]=O at*
   generalize m[j]=E at*
   have F:binop .add (.int .i64 (k:Int)) (.int .i64 1)=some (.int .i64 ((k+1:Nat):Int)):=by rw[fQ (by omega) (by omega)];simp
   refine dM (λp=> ?_) (λp=> ?_)
   ·simp at p
    rw[ao p]at i
    simp[f,c,g,d,h,y,r,o,B]
    exact⟨k,rfl,by omega,x,rfl,i⟩
   ·simp at p
    rw[aq p]at i
    simp[f,c,g,d,h,y,r,o,J,L,F,B]
    exact⟨k+1,by simp,by omega,_,rfl,i⟩
  ·rintro a n ⟨rfl,f,c,g,d,h,k,w,y,r,o,I,x,rfl,i⟩
   have z:(b.take l).drop l=[]:=by simp
   rw[z,yW]at i
   simp[c,r,o]
   cases x with
   |false=>
    simp
    unfold ut
    rw[List.all_eq_false]
    exact⟨m[j],aF u,by rw[<-i];simp⟩
   |true=>
    simp[f,c,g,d,h,G]
    intro N D
    rw[bj u]at D
    rcases List.mem_append.1 D with q|q
    ·exact List.all_eq_true.1 s N q
    ·rw[List.mem_singleton.1 q];exact i.symm
 ·rintro a n ⟨rfl,f,c,g,d,h,s⟩
  rw[aQ]at s
  simp[d,h]
  unfold ut
  rw[s]
theorem Oc{e:eG}(ht:e.p 78=some qx)(a:List dN)(b:Nat)(d:Int)(c:List Int)(f:b<=a.length)(g:a.length<=1000000)(h:c.length<=1000000):rl Tryz.prog cx e 78 [sl (a.map dN.t),.int .i64 b,.int .i64 d,sl (c.map (T.int .i64))]=some (.bool (ut (a.take b) d c)):=fR ht KF (a,b,d,c) ⟨f,g,h⟩
end
noncomputable section
open Go Go.TI
attribute [-simp] List.map_take List.map_drop List.map_append
def CB:fK:=⟨Int×Nat,λa=>[.int .i64 a.1,.int .i64 a.2],λa=>True,λa=> .bool (iI a.1 a.2),λa c b=>by simp at b;rw[b.1,show a.2=c.2 by omega]⟩
theorem T6:CB.Ok Tryz.prog cx 103:=by
 refine f8 (tb:=⟨pt [],ht []⟩) dX dU (iN 19 [] Tryz.func103) (λf=>1) (by simp[CB]) (by simp[CB,Tryz.f103]) ?_
 rintro⟨e,g⟩ _ h a
 simp[CB]at a|-
 obtain⟨b,c⟩:=a
 by_cases d:0<=e<;>simp[Tryz.f103,b,c,d,iI]
theorem Oj{c:eG}(ht:c.p 103=some CB)(a:Int)(b:Nat):rl Tryz.prog cx c 103 [.int .i64 a,.int .i64 b]=some (.bool (iI a b)):=fR ht T6 (a,b) trivial
def uZ:fK:=⟨dJ×dW,λa=>[a.1.t,a.2.t],λa=>a.1.fP.length<=1099511627776,λa=> .bool (tO a.1 a.2),λa c b=>by simp at b;rw[dJ.inj b.1,dW.inj b.2]⟩
theorem MY:uZ.Ok Tryz.prog cx 68:=by
 refine f8 (tb:=⟨pt [(111,pU)],ht []⟩) dX dU (iN 31 [] Tryz.func68) (λi=>1) (by simp[uZ]) (by simp[uZ,Tryz.f68]) ?_
 rintro⟨b,a⟩ hl j e
 simp[uZ]at hl e|-
 obtain⟨c,d⟩:=e
 cases f:mW b a.fW with
 |false=>simp[Tryz.f68,c,d,tS,hl,f,tO]
 |true=>by_cases g:a.cells.length=b.cells.length<;>by_cases h:a.dR.length=b.dR.length<;>simp[Tryz.f68,c,d,tS,hl,f,g,h,tO,Int.natCast_inj]
theorem QM{c:eG}(ht:c.p 68=some uZ)(a:dJ)(b:dW)(hl:a.fP.length<=1099511627776):rl Tryz.prog cx c 68 [a.t,b.t]=some (.bool (tO a b)):=fR ht MY (a,b) hl
def sg:fK:=⟨List Int×Int,λa=>[sl (a.1.map (T.int .i64)),.int .i64 a.2],λa=>a.1.length<=1099511627776,λa=> .bool (wI a.2 none a.1),λa c b=>by simp at b;rw[ja (by simp) b.1,b.2]⟩
theorem KH:sg.Ok Tryz.prog cx 105:=by
 refine f8 (tb:=⟨pt [],ht []⟩) dX dU (iN 1099511628339 [] Tryz.func105) (λt=>t.1.length+1) (by simp[sg]) (by simp[sg,Tryz.f105]) ?_
 rintro⟨c,k⟩ hl j p
 simp[sg]at hl p|-
 obtain⟨d,g⟩:=p
 simp[Tryz.f105]
 refine eQ c.length (by omega) (λb j n=>n=hE/\TI.dt j 0=some (sl (c.map (T.int .i64)))/\TI.dt j 1=some (.int .i64 k)/\TI.dt j 5=some (.int .i64 b)/\wI k (if b=0 then none else c[b-1]?) (c.drop b)=wI k none c) ?_ ?_ (by omega) (by simp[d,g])
 ·rintro b j n i q ⟨rfl,d,g,h,a⟩
  rw[aJ i]at a
  simp only[wI]at a
  by_cases e:c[b]<1
  ·simp[e]at a
   simp[d,h,i,e,a]
  ·by_cases f:k<=c[b]
   ·simp[f]at a
    simp[d,g,h,i,e,f,a]
   ·by_cases r:b=0
    ·have l:¬0<b:=by omega
     rw[aq r]at a
     simp[e,f]at a
     simp[d,g,h,i,q,e,f,l]
     exact a
    ·have l:0<b:=by omega
     have o:b-1<c.length:=by omega
     have s:binop .sub (.int .i64 (b:Int)) (.int .i64 1)=some (.int .i64 ((b-1:Nat):Int)):=by rw[kl (by omega) (by omega),show(b:Int)-1=((b-1:Nat):Int)by omega]
     rw[ao r,aB o]at a
     by_cases m:c[b]<=c[b-1]
     ·simp[e,f,m]at a
      simp[d,g,h,i,o,e,f,m,s,a,l]
     ·simp[e,f,m]at a
      simp[d,g,h,i,o,q,e,f,m,s,l]
      exact a
 ·rintro j n ⟨rfl,d,g,h,a⟩
  simp[wI]at a
  simp[d,h,a]
theorem Oe{c:eG}(ht:c.p 105=some sg)(a:List Int)(b:Int)(hl:a.length<=1099511627776):rl Tryz.prog cx c 105 [sl (a.map (T.int .i64)),.int .i64 b]=some (.bool (wI b none a)):=fR ht KH (a,b) hl
def qt:fK:=⟨dW×dN,λa=>[a.1.t,a.2.t],λa=>a.1.fW.dp.length<=1099511627776/\(a.2.kind=3->iI a.2.obj a.1.cells.length=true)/\(a.2.kind=23->iI a.2.obj a.1.dR.length=true),λa=> .bool (m7 a.1 a.2),λa c b=>by simp at b;rw[dW.inj b.1,dN.inj b.2]⟩
theorem Kz:qt.Ok Tryz.prog cx 106:=by
 refine f8 (tb:=⟨pt [(153,sa),(56,zu)],ht []⟩) dX dU (iN 18889470444974887141823 [(17,[(1,6)])] Tryz.func106) (λv=>1) (by simp[qt]) (by simp[qt,Tryz.f106]) ?_
 rintro⟨i,a⟩ hl w j
 simp[qt]at hl j|-
 obtain⟨b,c⟩:=j
 obtain⟨hl,k,l⟩:=hl
 by_cases f:a.kind=3
 ·obtain⟨u,d,g⟩:=ij (k f)
  simp[Tryz.f106,b,c,f,m7,dS (ed.1 (k f)).1,d,g]
 ·by_cases e:a.kind=23
  ·obtain⟨u,d,g⟩:=ij (l e)
   simp[Tryz.f106,b,c,e,m7,dS (ed.1 (l e)).1,d,g]
  ·by_cases q:a.kind=5
   ·by_cases d:a.value=0<;>simp[Tryz.f106,b,c,q,m7,d]
   ·by_cases p:a.kind=4
    ·simp[Tryz.f106,b,c,p,m7]
    ·by_cases o:a.kind=22
     ·simp[Tryz.f106,b,c,o,m7]
     ·by_cases h:a.kind=18
      ·have r:=Kb a.obj i.fW.dp 0
       by_cases m:gu a.obj i.fW.dp 0=[]
       ·simp[Tryz.f106,b,c,h,m7,BM,hl,m]
       ·by_cases s:0<=a.value<;>by_cases t:a.value<i.fW.dp.length<;>
         simp[Tryz.f106,b,c,h,m7,BM,hl,m,s,t,Lg,aS r hl]
      ·by_cases n:a.kind=19
       ·simp[Tryz.f106,b,c,n,m7,BM,hl]
       ·simp[Tryz.f106,b,c,f,e,q,p,o,h,n,m7]
theorem Ob{c:eG}(ht:c.p 106=some qt)(b:dW)(a:dN)(hl:b.fW.dp.length<=1099511627776)(d:a.kind=3->iI a.obj b.cells.length=true)(e:a.kind=23->iI a.obj b.dR.length=true):rl Tryz.prog cx c 106 [b.t,a.t]=some (.bool (m7 b a)):=fR ht Kz (b,a) ⟨hl,d,e⟩
end
end Go.Proofs.YtmaeadedikngoaaGreatDoor
