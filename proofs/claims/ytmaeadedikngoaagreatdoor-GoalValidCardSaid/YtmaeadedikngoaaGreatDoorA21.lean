/- Texts W16d to W16d. -/
import Derived.Test.YtmaeadedikngoaaGreatDoorA20
set_option linter.unusedVariables false
set_option linter.unusedSimpArgs false
set_option linter.defProp false
set_option maxRecDepth 100000
set_option maxHeartbeats 8000000
namespace Go.Proofs.YtmaeadedikngoaaGreatDoor
noncomputable section
open Go Go.TI
attribute [-simp] List.map_take List.map_drop List.map_append fj eG dY Bool.not_or Bool.not_and
attribute [simp] fh eJ
attribute [-simp] size_cons
def kY:f7:=⟨dR×dW×dX,λa=>[a.1.t,a.2.1.t,a.2.2.t],λa=>a.1.fV.length<=1000000/\qn 100000 a.2.1/\a.2.2.mf.length<=1000000/\a.2.2.uz.length<=1000000,λa=> .tuple [(jw a.1 a.2.1 a.2.2).1.t,.bool (jw a.1 a.2.1 a.2.2).2],λa c b=>by
 simp at b;rw[dR.inj b.1,dW.inj b.2.1,dX.inj b.2.2]⟩
def kR{c:dR}{b:dW}{a:dX}(d:pj c b a=false):jw c b a=(rZ,false):=by unfold jw;rw[d];rfl
def Pm{g:fq}(ht:g.p 107=some r8)(b:dR)(a:fg)(e c d f:Int)(i:b.fV.length<=1099511627776)(k:My a)(j:jI b a e c d=true):rl Tryz.prog cx g 107 [b.t,a.t,dw e,dw c,dw d,dw f]=some (.tuple [(em b a e c d f).1.t,dw (em b a e c d f).2,.bool true]):=by
 have:=gF ht DS (b,a,e,c,d,f) ⟨i,k⟩;have h:r8.R (b,a,e,c,d,f)= .tuple [(em b a e c d f).1.t,dw (em b a e c d f).2,.bool true]:=by show xn _=_;unfold xn;rw[aq j]
 rw[h]at this;exact this
def Nq:kY.Ok Tryz.prog cx 66:=by
 refine gH (tb:=⟨pt [(68,tT),(103,DA),(104,nj),(105,sN),(106,qF),(107,r8)],ht []⟩) ei eg (iL 6434029281764525972148499167221040878727244754944919609542655 [(15,[(3,4),(3,6),(3,8),(7,8),(3,10),(7,10),(3,13),(7,13),(11,13)])] Tryz.func66) (λ_=>100) (by simp[kY]) (by simp[kY,Tryz.f66]) ?_;rintro⟨e,d,b⟩ ⟨fm,Y,fv,fA⟩ j eB;simp at fm Y fv fA;simp[kY]at eB|-;obtain⟨fe,fi,fl⟩:=eB;obtain⟨l1,l2,l3,l4,l5,l6⟩:=Y.l;have fL:d.fx.sm:=⟨dj,dj,dj,λf q=>by have:=Y.r f q;omega⟩;have eD:e.fV.length<=1099511627776:=dj;have fS:My d.fx:=⟨dj,dj,dj,λf q=>by have:=Y.r f q;omega,Y.a⟩;have h:pj e d b=(mQ e d&&iP b.dN e.dB.length&&(decide (1<=b.kind)&&decide (b.kind<=23))&&jI e d.fx b.dN b.kind b.obj&&rH e b&&J9 e b&&J4 b&&w7 (d.count.getD b.dN.toNat 0) none b.mf&&w7 (d.count.getD b.dN.toNat 0) none b.uz&&nh d b):=rfl;simp[Tryz.f66,fe,fi,fl,Fq,Pf,xj,eD,fL];have U:T.agg [sl [],dw 0,sl [],sl [],sl [],sl [],sl []]=rZ.t:=rfl;refine dU (λg=> ?_) (λg=> ?_)
 ·have:pj e d b=false:=by
   rw[h];simp only[bP,bL,aO]at g;rcases g with(((q|q)|q)|q)|q
   ·rw[q];simp
   ·rw[q];simp
   ·rw[aM (show¬1<=b.kind by omega)];simp
   ·rw[aM (show¬b.kind<=23 by omega)];simp
   ·rw[q];simp
  simp[kR this];exact U
 simp only[bI,bU,bj]at g;obtain⟨⟨⟨⟨er,et⟩,gB⟩,gE⟩,bz⟩:=g;rw[er,et,bz,aT (show 1<=b.kind by omega),aT (show b.kind<=23 by omega)]at h;simp only[bK]at h;have bB:=bz;unfold jI at bB;simp only[aB]at bB;obtain⟨⟨⟨gM,_⟩,o⟩,_⟩:=bB;have bH:=er;unfold mQ at bH;simp only[aB,aO]at bH;obtain⟨⟨⟨_,ey⟩,eA⟩,fb⟩:=bH;have aA:=et;rw[<-fb]at aA;obtain⟨z,W,gI⟩:=im aA;have gy:=ed (ff.1 aA).1;have fB:d.count.getD b.dN.toNat 0=z:=by simp[List.getD,W]
 rw[fB]at h;simp;generalize M:(((hE.cons _).cons _).cons _).cons _=w;have P:gu 0 w:=by rw[<-M];exact⟨dp,dp,dp⟩
 have eX:w.size=4:=by rw[<-M];rfl
 have a6:w.get 0=some (dy 6 0 [e.t]):=by rw[<-M];simp
 have bl:w.get 1=some (dy 7 0 [d.t]):=by rw[<-M];simp
 have I:w.get 2=some (dy 7 0 [b.t]):=by rw[<-M];simp
 have D:w.get 3=some (dy 7 0 [.agg [dx,dw 0,dx,dx,dx,dx,dx]]):=by rw[<-M];simp
 clear M;have V:∀y,(dQ w 3 y).get 3=some y:=λy=>(dE D y _).trans (aq rfl);refine lh (λj u=>w=u/\rH e b=true/\dz j 3 (.ptr 0 0 0 0)/\dz j 4 (.ptr 1 0 0 0)/\dz j 5 (.ptr 2 0 0 0)/\dz j 6 (.ptr 3 0 0 0)) (λg=> ?_) (λg=> ?_) ?_
 ·have X:b.kind=1\/b.kind=2:=by simpa using g
  simp[I];refine dU (λi=> ?_) (λi=> ?_)
  ·have:pj e d b=false:=by
    rw[h];unfold rH;rw[aq X,aM (by simpa using i)];simp
   simp[D,V,dP,kR this,P.hp];exact U
  ·simp;unfold rH;rw[aq X,aT (by simpa using i)]
 ·have X:¬(b.kind=1\/b.kind=2):=by simpa using g
  cases B:iP b.iO e.ik.length with
  |false=>
   have:pj e d b=false:=by
    rw[h];unfold rH;rw[ao X,ql B];simp
   simp[a6,I,Pf,B,D,V,dP,kR this,P.hp];exact U
  |true=>
   obtain⟨x,gd,eI⟩:=im B;simp[a6,I,Pf,B,gd,ed (ff.1 B).1];refine dU (λi=> ?_) (λi=> ?_)
   ·have:pj e d b=false:=by
     rw[h];unfold rH;rw[ao X,eI];simp only;rw[aM (by simpa using i)];simp
    simp[D,V,dP,kR this,P.hp];exact U
   ·simp;unfold rH;rw[ao X,eI];simp only;rw[aT (by simpa using i)]
 ·rintro j _ ⟨rfl,fE,L,E,v,A⟩;rw[fE,bK]at h;have gj:((decide (b.kind=3)||decide (b.kind=4))=false/\True/\True/\(b.kind=3\/b.kind=4->∃n,e.cells[b.obj.toNat]? =some n)/\∃x:fZ,x=x/\True)\/((decide (b.kind=3)||decide (b.kind=4))=true/\jT b.obj=some b.obj.toNat/\iP b.obj e.cells.length=true/\True/\∃n,e.cells[b.obj.toNat]? =some n/\sizeOf e b.obj=n.size):=by
   cases q:(decide (b.kind=3)||decide (b.kind=4))
   ·simp at q;exact .inl ⟨rfl,trivial,trivial,λk=>(k.elim q.1 q.2).elim,default,rfl,trivial⟩
   ·simp at q;have B:iP b.obj e.cells.length=true:=by
     unfold jy at o;rw[ao dj,aq q]at o;exact o
    obtain⟨n,fo,fs⟩:=im B;exact .inr ⟨rfl,ed (ff.1 B).1,B,trivial,n,fo,by simp[sizeOf,fs]⟩
  have a8:J9 e b=(decide (b.mf=[])||decide (b.kind=5)||((decide (b.kind=3)||decide (b.kind=4))&& !decide (sizeOf e b.obj=0))):=rfl;have b7:decide (0<b.mf.length)= !decide (b.mf=[]):=by cases b.mf<;>simp
  have b8:decide (0<b.uz.length)= !decide (b.uz=[]):=by cases b.uz<;>simp
  have b9:J4 b=(decide (b.uz=[])||decide (b.kind=4)||decide (b.kind=22)):=rfl;have e1:b.kind=3->iP b.obj d.cells.length=true:=λk=>by
   rw[ey];unfold jy at o;rw[ao dj,aq dj]at o;exact o
  have e0:b.kind=23->iP b.obj d.dT.length=true:=λk=>by
   rw[eA];exact qu o (.inr k)
  rcases gj with⟨cp,eL,gg,gi,e2,eM,c7⟩|⟨cp,eL,gg,gi,e2,eM,c7⟩
  all_goals
   simp[L,v,a6,I,cp,eL,eM];rw[cp]at a8;refine dU (λg=> ?_) (λg=> ?_)
   ·have:pj e d b=false:=by
     rw[h,a8];simp[b7]at g;simp[g,c7]
    simp[A,D,V,dP,kR this,P.hp];exact U
   have eE:J9 e b=true:=by
    rw[a8];cases Q:decide (b.mf=[])<;>cases s:decide (b.kind=5)<;>simp[b7,Q,s,c7]at g|-
    all_goals exact g
   rw[eE,bK]at h;simp[v,I];refine dU (λi=> ?_) (λi=> ?_)
   ·have:pj e d b=false:=by
     rw[h,b9];simp[b8]at i;simp[i]
    simp[A,D,V,dP,kR this,P.hp];exact U
   have eF:J4 b=true:=by
    rw[b9];cases Q:decide (b.uz=[])<;>cases s:decide (b.kind=4)<;>simp[b8,Q,s]at i|-
    all_goals exact i
   rw[eF,bK]at h;have e9:=λ{tb:fq} (ht:tb.p 106=some qF)=>O0 ht d b dj e1 e0;simp[E,v,bl,I,gy,W,O9,e9,show b.mf.length<=1099511627776 by omega,show b.uz.length<=1099511627776 by omega];refine dU (λbi=> ?_) (λbi=> ?_)
   ·have:pj e d b=false:=by
     rw[h];cases Q:w7 z none b.mf<;>cases s:w7 z none b.uz<;>cases di:nh d b<;>simp[Q,s,di]at bi|-
    simp[A,D,V,dP,kR this,P.hp];exact U
   have fC:pj e d b=true:=by
    rw[h];cases Q:w7 z none b.mf<;>cases s:w7 z none b.uz<;>cases di:nh d b<;>simp[Q,s,di]at bi|-
   clear g i bi h a8 b9 b7 b8 eE eF;have fY:jw e d b=(jO e d b,true):=by unfold jw;rw[aq fC]
   rw[fY];obtain⟨e6,aN,bn,⟨gP,gV,gA⟩,dv,Z,eR⟩:=lq (cx:=cx) (sz:=1) P (x:=sl (d.cells.map (T.int .i64))) (xs:=d.cells.map (T.int .i64)) og rfl yh og rfl rfl dp dp (by simp[T.cells]) dq;obtain⟨e7,aX,bs,⟨gQ,gZ,eu⟩,ea,O,okB⟩:=lq (cx:=cx) (sz:=1) eR (x:=sl (d.dT.map (T.int .i64))) (xs:=d.dT.map (T.int .i64)) og rfl yh og rfl rfl dp dp (by simp[T.cells]) dq;obtain⟨e8,S,bu,⟨gS,ha,gC⟩,eb,G,eS⟩:=lq (cx:=cx) (sz:=1) okB (x:=sl (d.count.map (T.int .i64))) (xs:=d.count.map (T.int .i64)) kG rfl nM kG rfl rfl dp dp (by simp[T.cells]) dq;replace dv:aN.size=5:=dj;replace ea:aX.size=6:=dj;replace eb:S.size=7:=dj;simp only[eX,dv,ea,aH]at bn bs bu gA eu gC;have eV:ew (w.cons (dy 1 0 [])) aN 1=true:=eZ ((Z 1 dj).trans (by rw[dM,ao dj]));have eW:ew (aN.cons (dy 1 0 [])) aX 1=true:=eZ ((O 1 dj).trans (by rw[dM,ao dj]));have gw:ew (aX.cons (dy 1 0 [])) S 1=true:=eZ ((G 1 dj).trans (by rw[dM,ao dj]));have ef:=(Z 1 dj).trans bl;have eh:=(O 1 dj).trans ef;have e3:=(G 1 dj).trans eh;have eP:∀m,5<=m->ew (w.cons (dy 1 0 [])) aN m=true:=λm eC=>iR (lf _ dq);have eN:∀m,6<=m->ew (aN.cons (dy 1 0 [])) aX m=true:=λm eC=>iR (lf _ dq);have eO:∀m,7<=m->ew (aX.cons (dy 1 0 [])) S m=true:=λm eC=>iR (lf _ dq);have gm:S.low<=7:=by have:=eS.low;omega
   simp[E,v,eX,dv,ea,eb,bl,bn,bs,bu,ef,eh,eV,eW,eP,eN,eO,gm];have gn:=(G 4 dj).trans ((O 4 dj).trans gA);have gp:=(G 5 dj).trans eu;have e4:=(G 0 dj).trans ((O 0 dj).trans ((Z 0 dj).trans a6));have eo:=(G 2 dj).trans ((O 2 dj).trans ((Z 2 dj).trans I));have e5:=(G 3 dj).trans ((O 3 dj).trans ((Z 3 dj).trans D));have bT:=λ{tb:fq} (ht:tb.p 107=some r8)=>Pm ht e d.fx b.dN b.kind b.obj (kO b) eD fS bz;have gz:=Y.c z (ax W);clear bn bs bu Z O G eV eW gw eP eN eO eR okB;generalize ap:S.cons _=an;have gv:gu 0 an:=by rw[<-ap];exact eS.cons _
   have ec:an.size=8:=by rw[<-ap];show S.size+1=8;omega
   have J:∀n,n<7->an.get n=S.get n:=λn q=>by rw[<-ap,dM,ao dj]
   have ce:=(J 0 dj).trans e4;have cL:=(J 1 dj).trans e3;have bk:=(J 2 dj).trans eo;have c1:=(J 3 dj).trans e5;have c4:=(J 4 dj).trans gn;have c6:=(J 5 dj).trans gp;have c9:=(J 6 dj).trans gC;have dd:an.get 7=some (dy 7 1 [.agg [dx,dw 0,dx,dx,.arr 4 e6 0 d.cells.length false,.arr 5 e7 0 d.dT.length false,.arr 6 e8 0 d.count.length false]]):=by rw[<-ap,dM,aq eb.symm]
   clear ap;simp[eo];refine lh (λj u=>an=u/\dz j 3 (.ptr 0 0 0 0)/\dz j 4 (.ptr 1 0 0 0)/\dz j 5 (.ptr 2 0 0 0)/\dz j 6 (.ptr 3 0 0 0)/\dz j 9 (.ptr 7 0 0 0)/\dz j 10 (dw (kO b))) (λg=> ?_) (λg=> ?_) ?_
   ·simp[L,E,v,A,bk];unfold kO;rw[aq (by simpa using g)]
   ·simp[L,E,v,A];unfold kO;rw[ao (by simpa using g)]
   rintro j _ ⟨rfl,L,E,v,A,bS,bN⟩;have de:binop .add (dw z) (dw 1)=some (dw (z+1)):=gY dj dj;have dn:=ed (ff.1 aA).1;have av:=(ff.1 aA).2;have eH:jO e d b=⟨(em e d.fx b.dN b.kind b.obj (kO b)).1,if b.kind=4 then d.cells.set b.obj.toNat b.value else d.cells,if b.kind=22 then d.dT.set b.obj.toNat b.value else d.dT,d.count.modify b.dN.toNat (· +1)⟩:=rfl;rw[nz W]at eH;have gk:(b.kind=4/\iP b.obj d.cells.length=true)\/(b.kind=22/\iP b.obj d.dT.length=true)\/(¬b.kind=4/\¬b.kind=22):=by
    by_cases q:b.kind=4
    ·refine .inl ⟨q,?_⟩;rw[ey];unfold jy at o;rw[ao dj,aq dj]at o;exact o
    ·by_cases s:b.kind=22
     ·refine .inr (.inl ⟨s,?_⟩);rw[eA];exact qu o (.inl s)
     ·exact .inr (.inr ⟨q,s⟩)
   have cb:=gv.hp;have a7:∀(f:List Int) (u:H),fw (wy u 11) (f.map (T.int .i64))=some (f.map (T.int .i64)):=λf u=>BD _ _ _ λ_=>rfl;have bC:∀(f:List Int) (u:H) (N:Nat) (R:Int),fw (wy u 11) ((f.map (T.int .i64)).set N (dw R))=some ((f.map (T.int .i64)).set N (dw R)):=λf u N R=>by rw[<-bR];exact a7 _ u
   have dk:∀(f:List Int),(f.map (T.int .i64)).take f.length=f.map (T.int .i64):=λf=>by rw[bF dp]
   have dm:∀(f:List Int) (N:Nat) (R:T),((f.map (T.int .i64)).set N R).take f.length=(f.map (T.int .i64)).set N R:=λf N R=>by rw[bF dp]
   have b6:d.count[b.dN.toNat]'av=z:=by rw[az av]at W;simpa using W
   have fin:∀(C F K:List Int),T.agg [sl ((em e d.fx b.dN b.kind b.obj (kO b)).1.dV.map dS.t),dw (em e d.fx b.dN b.kind b.obj (kO b)).1.tx,sl ((em e d.fx b.dN b.kind b.obj (kO b)).1.done.map T.bool),sl ((em e d.fx b.dN b.kind b.obj (kO b)).1.dB.map dD.t),sl (C.map (T.int .i64)),sl (F.map (T.int .i64)),sl (K.map (T.int .i64))]=dW.t ⟨(em e d.fx b.dN b.kind b.obj (kO b)).1,C,F,K⟩:=λ_ _ _=>rfl;rw[eH];rcases gk with⟨q,aE⟩|⟨q,aE⟩|⟨q,eU⟩
   ·have ds:=ed (ff.1 aE).1;have ca:=(ff.1 aE).2;have ae:decide (b.kind=22)=false:=aM dj;have al:decide (b.kind=4)=true:=aT q;rw[aq q,ao dj,<-fin];simp[L,E,v,A,bS,bN,ce,cL,bk,c1,c4,c6,c9,dd,bT,dP,md,cb,ec,dn,av,b6,de,uZ,fW,a7,al,ae,ds,ca,bC,dk,dm]
   ·have ds:=ed (ff.1 aE).1;have ca:=(ff.1 aE).2;have ae:decide (b.kind=22)=true:=aT q;have al:decide (b.kind=4)=false:=aM dj;rw[ao dj,aq q,<-fin];simp[L,E,v,A,bS,bN,ce,cL,bk,c1,c4,c6,c9,dd,bT,dP,md,cb,ec,dn,av,b6,de,uZ,fW,a7,al,ae,ds,ca,bC,dk,dm]
   ·have ae:decide (b.kind=22)=false:=aM eU;have al:decide (b.kind=4)=false:=aM q;rw[ao q,ao eU,<-fin];simp[L,E,v,A,bS,bN,ce,cL,bk,c1,c4,c6,c9,dd,bT,dP,md,cb,ec,dn,av,b6,de,uZ,fW,a7,al,ae,bC,dk,dm]
def yo{d:fq}(ht:d.p 66=some kY)(c:dR)(b:dW)(a:dX)(e:c.fV.length<=1000000)(f:qn 100000 b)(g:a.mf.length<=1000000)(h:a.uz.length<=1000000):rl Tryz.prog cx d 66 [c.t,b.t,a.t]=some (.tuple [(jw c b a).1.t,.bool (jw c b a).2]):=gF ht Nq (c,b,a) ⟨e,f,g,h⟩
end
end Go.Proofs.YtmaeadedikngoaaGreatDoor
