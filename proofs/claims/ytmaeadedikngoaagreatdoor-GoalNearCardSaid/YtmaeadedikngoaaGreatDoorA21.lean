/- Texts W16d to W16d. -/
import Derived.Test.YtmaeadedikngoaaGreatDoorA20
set_option linter.all false
set_option maxRecDepth 100000
set_option maxHeartbeats 8000000
namespace Go.Proofs.YtmaeadedikngoaaGreatDoor
noncomputable section
open Go Go.TI
attribute [-simp] List.map_take List.map_drop List.map_append fw eQ dZ Bool.not_or Bool.not_and
attribute [simp] fq eY
attribute [-simp] size_cons
def lj:gu:=⟨dU×d8×ed,λa=>[a.1.t,a.2.1.t,a.2.2.t],λa=>a.1.fZ.length<=1000000/\qt 100000 a.2.1/\a.2.2.mn.length<=1000000/\a.2.2.uF.length<=1000000,λa=> .tuple [(jA a.1 a.2.1 a.2.2).1.t,.bool (jA a.1 a.2.1 a.2.2).2],λa c b=>by
 simp at b;rw[dU.inj b.1,d8.inj b.2.1,ed.inj b.2.2]⟩
def kW{c:dU}{b:d8}{a:ed}(d:pw c b a=false):jA c b a=(sg,false):=by unfold jA;rw[d];rfl
def Pw{g:fy}(ht:g.p 107=some sk)(b:dU)(a:fk)(e c d f:Int)(i:b.fZ.length<=1099511627776)(k:MJ a)(j:jM b a e c d=true):rl Tryz.prog cx g 107 [b.t,a.t,dy e,dy c,dy d,dy f]=some (.tuple [(eG b a e c d f).1.t,dy (eG b a e c d f).2,.bool true]):=by
 have:=gU ht DB (b,a,e,c,d,f) ⟨i,k⟩;have h:sk.R (b,a,e,c,d,f)= .tuple [(eG b a e c d f).1.t,dy (eG b a e c d f).2,.bool true]:=by show xy _=_;unfold xy;rw[aq j]
 rw[h]at this;exact this
def ND:lj.Ok Tryz.prog cx 66:=by
 refine gX (tb:=⟨pt [(68,t8),(103,Dj),(104,nC),(105,sX),(106,qJ),(107,sk)],ht []⟩) ew ej (iQ 6434029281764525972148499167221040878727244754944919609542655 [(15,[(3,4),(3,6),(3,8),(7,8),(3,10),(7,10),(3,13),(7,13),(11,13)])] Tryz.func66) (λ_=>100) (by simp[lj]) (by simp[lj,Tryz.f66]) ?_;rintro⟨e,d,b⟩ ⟨fi,Y,fo,fs⟩ j ey;simp at fi Y fo fs;simp[lj]at ey|-;obtain⟨e9,fb,fe⟩:=ey;obtain⟨l1,l2,l3,l4,l5,l6⟩:=Y.l;have fC:d.fF.sm:=⟨dq,dq,dq,λf q=>by have:=Y.r f q;omega⟩;have eB:e.fZ.length<=1099511627776:=dq;have fE:MJ d.fF:=⟨dq,dq,dq,λf q=>by have:=Y.r f q;omega,Y.a⟩;have h:pw e d b=(mV e d&&iT b.dQ e.dE.length&&(decide (1<=b.kind)&&decide (b.kind<=23))&&jM e d.fF b.dQ b.kind b.obj&&rL e b&&Ki e b&&Kd b&&xg (d.count.getD b.dQ.toNat 0) none b.mn&&xg (d.count.getD b.dQ.toNat 0) none b.uF&&ny d b):=rfl;simp[Tryz.f66,e9,fb,fe,Fm,Pr,xv,eB,fC];have U:T.agg [sl [],dy 0,sl [],sl [],sl [],sl [],sl []]=sg.t:=rfl;refine dW (λg=> ?_) (λg=> ?_)
 ·have:pw e d b=false:=by
   rw[h];simp only[bP,bL,aO]at g;rcases g with(((q|q)|q)|q)|q
   ·rw[q];simp
   ·rw[q];simp
   ·rw[aM (show¬1<=b.kind by omega)];simp
   ·rw[aM (show¬b.kind<=23 by omega)];simp
   ·rw[q];simp
  simp[kW this];exact U
 simp only[bI,bU,bj]at g;obtain⟨⟨⟨⟨eh,eo⟩,gy⟩,gz⟩,bz⟩:=g;rw[eh,eo,bz,aT (show 1<=b.kind by omega),aT (show b.kind<=23 by omega)]at h;simp only[bK]at h;have bB:=bz;unfold jM at bB;simp only[aB]at bB;obtain⟨⟨⟨gE,_⟩,o⟩,_⟩:=bB;have bH:=eh;unfold mV at bH;simp only[aB,aO]at bH;obtain⟨⟨⟨_,et⟩,eu⟩,e8⟩:=bH;have aA:=eo;rw[<-e8]at aA;obtain⟨z,W,gB⟩:=iu aA;have gv:=ei (fj.1 aA).1;have fv:d.count.getD b.dQ.toNat 0=z:=by simp[List.getD,W]
 rw[fv]at h;simp;generalize M:(((hE.cons _).cons _).cons _).cons _=w;have P:gF 0 w:=by rw[<-M];exact⟨dt,dt,dt⟩
 have eV:w.size=4:=by rw[<-M];rfl
 have a6:w.get 0=some (dA 6 0 [e.t]):=by rw[<-M];simp
 have bl:w.get 1=some (dA 7 0 [d.t]):=by rw[<-M];simp
 have I:w.get 2=some (dA 7 0 [b.t]):=by rw[<-M];simp
 have D:w.get 3=some (dA 7 0 [.agg [dz,dy 0,dz,dz,dz,dz,dz]]):=by rw[<-M];simp
 clear M;have V:∀y,(dT w 3 y).get 3=some y:=λy=>(dI D y _).trans (aq rfl);refine kS (λj u=>w=u/\rL e b=true/\dB j 3 (.ptr 0 0 0 0)/\dB j 4 (.ptr 1 0 0 0)/\dB j 5 (.ptr 2 0 0 0)/\dB j 6 (.ptr 3 0 0 0)) (λg=> ?_) (λg=> ?_) ?_
 ·have X:b.kind=1\/b.kind=2:=by simpa using g
  simp[I];refine dW (λi=> ?_) (λi=> ?_)
  ·have:pw e d b=false:=by
    rw[h];unfold rL;rw[aq X,aM (by simpa using i)];simp
   simp[D,V,dS,kW this,P.hp];exact U
  ·simp;unfold rL;rw[aq X,aT (by simpa using i)]
 ·have X:¬(b.kind=1\/b.kind=2):=by simpa using g
  cases B:iT b.iS e.iq.length with
  |false=>
   have:pw e d b=false:=by
    rw[h];unfold rL;rw[ao X,qq B];simp
   simp[a6,I,Pr,B,D,V,dS,kW this,P.hp];exact U
  |true=>
   obtain⟨x,fS,eF⟩:=iu B;simp[a6,I,Pr,B,fS,ei (fj.1 B).1];refine dW (λi=> ?_) (λi=> ?_)
   ·have:pw e d b=false:=by
     rw[h];unfold rL;rw[ao X,eF];simp only;rw[aM (by simpa using i)];simp
    simp[D,V,dS,kW this,P.hp];exact U
   ·simp;unfold rL;rw[ao X,eF];simp only;rw[aT (by simpa using i)]
 ·rintro j _ ⟨rfl,fB,L,E,v,A⟩;rw[fB,bK]at h;have gg:((decide (b.kind=3)||decide (b.kind=4))=false/\True/\True/\(b.kind=3\/b.kind=4->∃n,e.cells[b.obj.toNat]? =some n)/\∃x:ge,x=x/\True)\/((decide (b.kind=3)||decide (b.kind=4))=true/\jX b.obj=some b.obj.toNat/\iT b.obj e.cells.length=true/\True/\∃n,e.cells[b.obj.toNat]? =some n/\sizeOf e b.obj=n.size):=by
   cases q:(decide (b.kind=3)||decide (b.kind=4))
   ·simp at q;exact .inl ⟨rfl,trivial,trivial,λk=>(k.elim q.1 q.2).elim,default,rfl,trivial⟩
   ·simp at q;have B:iT b.obj e.cells.length=true:=by
     unfold jD at o;rw[ao dq,aq q]at o;exact o
    obtain⟨n,fl,fm⟩:=iu B;exact .inr ⟨rfl,ei (fj.1 B).1,B,trivial,n,fl,by simp[sizeOf,fm]⟩
  have a8:Ki e b=(decide (b.mn=[])||decide (b.kind=5)||((decide (b.kind=3)||decide (b.kind=4))&& !decide (sizeOf e b.obj=0))):=rfl;have b7:decide (0<b.mn.length)= !decide (b.mn=[]):=by cases b.mn<;>simp
  have b8:decide (0<b.uF.length)= !decide (b.uF=[]):=by cases b.uF<;>simp
  have b9:Kd b=(decide (b.uF=[])||decide (b.kind=4)||decide (b.kind=22)):=rfl;have eX:b.kind=3->iT b.obj d.cells.length=true:=λk=>by
   rw[et];unfold jD at o;rw[ao dq,aq dq]at o;exact o
  have eW:b.kind=23->iT b.obj d.dX.length=true:=λk=>by
   rw[eu];exact qz o (.inr k)
  rcases gg with⟨cp,eH,fY,gd,e0,eI,c4⟩|⟨cp,eH,fY,gd,e0,eI,c4⟩
  all_goals
   simp[L,v,a6,I,cp,eH,eI];rw[cp]at a8;refine dW (λg=> ?_) (λg=> ?_)
   ·have:pw e d b=false:=by
     rw[h,a8];simp[b7]at g;simp[g,c4]
    simp[A,D,V,dS,kW this,P.hp];exact U
   have eC:Ki e b=true:=by
    rw[a8];cases Q:decide (b.mn=[])<;>cases s:decide (b.kind=5)<;>simp[b7,Q,s,c4]at g|-
    all_goals exact g
   rw[eC,bK]at h;simp[v,I];refine dW (λi=> ?_) (λi=> ?_)
   ·have:pw e d b=false:=by
     rw[h,b9];simp[b8]at i;simp[i]
    simp[A,D,V,dS,kW this,P.hp];exact U
   have eD:Kd b=true:=by
    rw[b9];cases Q:decide (b.uF=[])<;>cases s:decide (b.kind=4)<;>simp[b8,Q,s]at i|-
    all_goals exact i
   rw[eD,bK]at h;have e7:=λ{tb:fy} (ht:tb.p 106=some qJ)=>Pf ht d b dq eX eW;simp[E,v,bl,I,gv,W,Pk,e7,show b.mn.length<=1099511627776 by omega,show b.uF.length<=1099511627776 by omega];refine dW (λbi=> ?_) (λbi=> ?_)
   ·have:pw e d b=false:=by
     rw[h];cases Q:xg z none b.mn<;>cases s:xg z none b.uF<;>cases dd:ny d b<;>simp[Q,s,dd]at bi|-
    simp[A,D,V,dS,kW this,P.hp];exact U
   have fA:pw e d b=true:=by
    rw[h];cases Q:xg z none b.mn<;>cases s:xg z none b.uF<;>cases dd:ny d b<;>simp[Q,s,dd]at bi|-
   clear g i bi h a8 b9 b7 b8 eC eD;have fL:jA e d b=(jS e d b,true):=by unfold jA;rw[aq fA]
   rw[fL];obtain⟨e4,aN,bn,⟨gI,gQ,gA⟩,dn,Z,eO⟩:=lz (cx:=cx) (sz:=1) P (x:=sl (d.cells.map (T.int .i64))) (xs:=d.cells.map (T.int .i64)) oo rfl yp oo rfl rfl dt dt (by simp[T.cells]) du;obtain⟨e5,aX,bs,⟨gM,gS,er⟩,ds,O,okB⟩:=lz (cx:=cx) (sz:=1) eO (x:=sl (d.dX.map (T.int .i64))) (xs:=d.dX.map (T.int .i64)) oo rfl yp oo rfl rfl dt dt (by simp[T.cells]) du;obtain⟨e6,S,bu,⟨gP,gV,gC⟩,dv,G,eP⟩:=lz (cx:=cx) (sz:=1) okB (x:=sl (d.count.map (T.int .i64))) (xs:=d.count.map (T.int .i64)) kK rfl oq kK rfl rfl dt dt (by simp[T.cells]) du;replace dn:aN.size=5:=dq;replace ds:aX.size=6:=dq;replace dv:S.size=7:=dq;simp only[eV,dn,ds,aH]at bn bs bu gA er gC;have eS:eJ (w.cons (dA 1 0 [])) aN 1=true:=ff ((Z 1 dq).trans (by rw[dP,ao dq]));have eU:eJ (aN.cons (dA 1 0 [])) aX 1=true:=ff ((O 1 dq).trans (by rw[dP,ao dq]));have gp:eJ (aX.cons (dA 1 0 [])) S 1=true:=ff ((G 1 dq).trans (by rw[dP,ao dq]));have eb:=(Z 1 dq).trans bl;have ec:=(O 1 dq).trans eb;have e1:=(G 1 dq).trans ec;have eN:∀m,5<=m->eJ (w.cons (dA 1 0 [])) aN m=true:=λm eA=>iV (lm _ du);have eL:∀m,6<=m->eJ (aN.cons (dA 1 0 [])) aX m=true:=λm eA=>iV (lm _ du);have eM:∀m,7<=m->eJ (aX.cons (dA 1 0 [])) S m=true:=λm eA=>iV (lm _ du);have gj:S.low<=7:=by have:=eP.low;omega
   simp[E,v,eV,dn,ds,dv,bl,bn,bs,bu,eb,ec,eS,eU,eN,eL,eM,gj];have gk:=(G 4 dq).trans ((O 4 dq).trans gA);have gm:=(G 5 dq).trans er;have e2:=(G 0 dq).trans ((O 0 dq).trans ((Z 0 dq).trans a6));have ef:=(G 2 dq).trans ((O 2 dq).trans ((Z 2 dq).trans I));have e3:=(G 3 dq).trans ((O 3 dq).trans ((Z 3 dq).trans D));have bT:=λ{tb:fy} (ht:tb.p 107=some sk)=>Pw ht e d.fF b.dQ b.kind b.obj (kT b) eB fE bz;have gw:=Y.c z (ax W);clear bn bs bu Z O G eS eU gp eN eL eM eO okB;generalize ap:S.cons _=an;have gn:gF 0 an:=by rw[<-ap];exact eP.cons _
   have ea:an.size=8:=by rw[<-ap];show S.size+1=8;omega
   have J:∀n,n<7->an.get n=S.get n:=λn q=>by rw[<-ap,dP,ao dq]
   have ce:=(J 0 dq).trans e2;have cv:=(J 1 dq).trans e1;have bk:=(J 2 dq).trans ef;have cy:=(J 3 dq).trans e3;have cL:=(J 4 dq).trans gk;have c1:=(J 5 dq).trans gm;have c6:=(J 6 dq).trans gC;have c7:an.get 7=some (dA 7 1 [.agg [dz,dy 0,dz,dz,.arr 4 e4 0 d.cells.length false,.arr 5 e5 0 d.dX.length false,.arr 6 e6 0 d.count.length false]]):=by rw[<-ap,dP,aq dv.symm]
   clear ap;simp[ef];refine kS (λj u=>an=u/\dB j 3 (.ptr 0 0 0 0)/\dB j 4 (.ptr 1 0 0 0)/\dB j 5 (.ptr 2 0 0 0)/\dB j 6 (.ptr 3 0 0 0)/\dB j 9 (.ptr 7 0 0 0)/\dB j 10 (dy (kT b))) (λg=> ?_) (λg=> ?_) ?_
   ·simp[L,E,v,A,bk];unfold kT;rw[aq (by simpa using g)]
   ·simp[L,E,v,A];unfold kT;rw[ao (by simpa using g)]
   rintro j _ ⟨rfl,L,E,v,A,bS,bN⟩;have c9:binop .add (dy z) (dy 1)=some (dy (z+1)):=il dq dq;have dk:=ei (fj.1 aA).1;have av:=(fj.1 aA).2;have eE:jS e d b=⟨(eG e d.fF b.dQ b.kind b.obj (kT b)).1,if b.kind=4 then d.cells.set b.obj.toNat b.value else d.cells,if b.kind=22 then d.dX.set b.obj.toNat b.value else d.dX,d.count.modify b.dQ.toNat (· +1)⟩:=rfl;rw[nH W]at eE;have gi:(b.kind=4/\iT b.obj d.cells.length=true)\/(b.kind=22/\iT b.obj d.dX.length=true)\/(¬b.kind=4/\¬b.kind=22):=by
    by_cases q:b.kind=4
    ·refine .inl ⟨q,?_⟩;rw[et];unfold jD at o;rw[ao dq,aq dq]at o;exact o
    ·by_cases s:b.kind=22
     ·refine .inr (.inl ⟨s,?_⟩);rw[eu];exact qz o (.inl s)
     ·exact .inr (.inr ⟨q,s⟩)
   have cb:=gn.hp;have a7:∀(f:List Int) (u:H),fD (wG u 11) (f.map (T.int .i64))=some (f.map (T.int .i64)):=λf u=>BM _ _ _ λ_=>rfl;have bC:∀(f:List Int) (u:H) (N:Nat) (R:Int),fD (wG u 11) ((f.map (T.int .i64)).set N (dy R))=some ((f.map (T.int .i64)).set N (dy R)):=λf u N R=>by rw[<-bR];exact a7 _ u
   have de:∀(f:List Int),(f.map (T.int .i64)).take f.length=f.map (T.int .i64):=λf=>by rw[bF dt]
   have di:∀(f:List Int) (N:Nat) (R:T),((f.map (T.int .i64)).set N R).take f.length=(f.map (T.int .i64)).set N R:=λf N R=>by rw[bF dt]
   have b6:d.count[b.dQ.toNat]'av=z:=by rw[az av]at W;simpa using W
   have fin:∀(C F K:List Int),T.agg [sl ((eG e d.fF b.dQ b.kind b.obj (kT b)).1.dY.map dV.t),dy (eG e d.fF b.dQ b.kind b.obj (kT b)).1.tx,sl ((eG e d.fF b.dQ b.kind b.obj (kT b)).1.done.map T.bool),sl ((eG e d.fF b.dQ b.kind b.obj (kT b)).1.dE.map dG.t),sl (C.map (T.int .i64)),sl (F.map (T.int .i64)),sl (K.map (T.int .i64))]=d8.t ⟨(eG e d.fF b.dQ b.kind b.obj (kT b)).1,C,F,K⟩:=λ_ _ _=>rfl;rw[eE];rcases gi with⟨q,aE⟩|⟨q,aE⟩|⟨q,eR⟩
   ·have dm:=ei (fj.1 aE).1;have ca:=(fj.1 aE).2;have ae:decide (b.kind=22)=false:=aM dq;have al:decide (b.kind=4)=true:=aT q;rw[aq q,ao dq,<-fin];simp[L,E,v,A,bS,bN,ce,cv,bk,cy,cL,c1,c6,c7,bT,dS,lY,cb,ea,dk,av,b6,c9,vd,f7,a7,al,ae,dm,ca,bC,de,di]
   ·have dm:=ei (fj.1 aE).1;have ca:=(fj.1 aE).2;have ae:decide (b.kind=22)=true:=aT q;have al:decide (b.kind=4)=false:=aM dq;rw[ao dq,aq q,<-fin];simp[L,E,v,A,bS,bN,ce,cv,bk,cy,cL,c1,c6,c7,bT,dS,lY,cb,ea,dk,av,b6,c9,vd,f7,a7,al,ae,dm,ca,bC,de,di]
   ·have ae:decide (b.kind=22)=false:=aM eR;have al:decide (b.kind=4)=false:=aM q;rw[ao q,ao eR,<-fin];simp[L,E,v,A,bS,bN,ce,cv,bk,cy,cL,c1,c6,c7,bT,dS,lY,cb,ea,dk,av,b6,c9,vd,f7,a7,al,ae,bC,de,di]
def yx{d:fy}(ht:d.p 66=some lj)(c:dU)(b:d8)(a:ed)(e:c.fZ.length<=1000000)(f:qt 100000 b)(g:a.mn.length<=1000000)(h:a.uF.length<=1000000):rl Tryz.prog cx d 66 [c.t,b.t,a.t]=some (.tuple [(jA c b a).1.t,.bool (jA c b a).2]):=gU ht ND (c,b,a) ⟨e,f,g,h⟩
end
end Go.Proofs.YtmaeadedikngoaaGreatDoor
