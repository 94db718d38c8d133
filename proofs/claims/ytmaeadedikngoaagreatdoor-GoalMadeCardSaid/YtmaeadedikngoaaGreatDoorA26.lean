/- Texts W16d to W16d. -/
import Derived.Test.YtmaeadedikngoaaGreatDoorA24
import Derived.Test.YtmaeadedikngoaaGreatDoorA25
set_option linter.unusedVariables false
set_option linter.unusedSimpArgs false
set_option maxRecDepth 100000
set_option maxHeartbeats 8000000
namespace Go.Proofs.YtmaeadedikngoaaGreatDoor
noncomputable section
open Go Go.TI
attribute [-simp] List.map_take List.map_drop List.map_append fi ei dT Bool.not_or Bool.not_and
attribute [simp] fh ew
attribute [-simp] size_cons
def nL:fK:=⟨dJ×dW×dN,λa=>[a.1.t,a.2.1.t,a.2.2.t],λa=>a.1.fP.length<=1000000/\ui 100000 a.2.1/\a.2.2.mt.length<=1000000/\a.2.2.uI.length<=1000000,λa=> .tuple [(jO a.1 a.2.1 a.2.2).1.t,.bool (jO a.1 a.2.1 a.2.2).2],λa c b=>by
 simp at b;rw[dJ.inj b.1,dW.inj b.2.1,dN.inj b.2.2]⟩
theorem md{c:dJ}{b:dW}{a:dN}(d:qC c b a=false):jO c b a=(s7,false):=by unfold jO;rw[d];rfl
theorem On{g:eG}(ht:g.p 107=some rL)(b:dJ)(a:ej)(e c d f:Int)(i:b.fP.length<=1099511627776)(k:LO a)(j:jo b a e c d=true):rl Tryz.prog cx g 107 [b.t,a.t,.int .i64 e,.int .i64 c,.int .i64 d,.int .i64 f]=some (.tuple [(dV b a e c d f).1.t,.int .i64 (dV b a e c d f).2,.bool true]):=by
 have:=fR ht CQ (b,a,e,c,d,f) ⟨i,k⟩
 have h:rL.R (b,a,e,c,d,f)= .tuple [(dV b a e c d f).1.t,.int .i64 (dV b a e c d f).2,.bool true]:=by show wW _=_;unfold wW;rw[aq j]
 rw[h]at this;exact this
theorem MF:nL.Ok Tryz.prog cx 66:=by
 refine f8 (tb:=⟨pt [(68,uZ),(103,CB),(104,nc),(105,sg),(106,qt),(107,rL)],ht []⟩) dX dU (iN 6434029281764525972148499167221040878727244754944919609542655 [(15,[(3,4),(3,6),(3,8),(7,8),(3,10),(7,10),(3,13),(7,13),(11,13)])] Tryz.func66) (λ_=>100) (by simp[nL]) (by simp[nL,Tryz.f66]) ?_
 rintro⟨e,d,b⟩ ⟨fC,Y,fS,fX⟩ j eC
 simp at fC Y fS fX
 simp[nL]at eC|-
 obtain⟨fv,fA,fB⟩:=eC
 obtain⟨l1,l2,l3,l4,l5,l6⟩:=Y.l
 have gj:d.fW.sm:=⟨by omega,by omega,by omega,λf q=>by have:=Y.r f q;omega⟩
 have eE:e.fP.length<=1099511627776:=by omega
 have gk:LO d.fW:=⟨by omega,by omega,by omega,λf q=>by have:=Y.r f q;omega,Y.a⟩
 have h:qC e d b=(tO e d&&iI b.dA e.dp.length&&(decide (1<=b.kind)&&decide (b.kind<=23))&&jo e d.fW b.dA b.kind b.obj&&rk e b&&JB e b&&Jw b&&wI (d.count.getD b.dA.toNat 0) none b.mt&&wI (d.count.getD b.dA.toNat 0) none b.uI&&m7 d b):=rfl
 simp[Tryz.f66,fv,fA,fB,QM,Oj,wT,eE,gj]
 have U:T.agg [sl [],.int .i64 0,sl [],sl [],sl [],sl [],sl []]=s7.t:=rfl
 refine dM (λg=> ?_) (λg=> ?_)
 ·have:qC e d b=false:=by
   rw[h]
   simp only[bR,bP,aL]at g
   rcases g with(((q|q)|q)|q)|q
   ·rw[q];simp
   ·rw[q];simp
   ·rw[bg (show¬1<=b.kind by omega)];simp
   ·rw[bg (show¬b.kind<=23 by omega)];simp
   ·rw[q];simp
  simp[md this]
  exact U
 simp only[bI,bS,bo]at g
 obtain⟨⟨⟨⟨et,eu⟩,gS⟩,gV⟩,bv⟩:=g
 rw[et,eu,bv,bw (show 1<=b.kind by omega),bw (show b.kind<=23 by omega)]at h
 simp only[bM]at h
 have bz:=bv
 unfold jo at bz
 simp only[ay]at bz
 obtain⟨⟨⟨gZ,_⟩,o⟩,_⟩:=bz
 have bN:=et
 unfold tO at bN
 simp only[ay,aL]at bN
 obtain⟨⟨⟨_,eA⟩,eB⟩,fs⟩:=bN
 have aA:=eu
 rw[<-fs]at aA
 obtain⟨z,W,gX⟩:=ij aA
 have gP:=dS (ed.1 aA).1
 have fY:d.count.getD b.dA.toNat 0=z:=by simp[List.getD,W]
 rw[fY]at h
 simp
 generalize M:(((hE.cons _).cons _).cons _).cons _=w
 have P:gh 0 w:=by rw[<-M];exact⟨by simp,by simp,by simp⟩
 have e0:w.size=4:=by rw[<-M];rfl
 have a6:w.get 0=some ⟨6,0,0,true,false,[e.t]⟩:=by rw[<-M];simp
 have bn:w.get 1=some ⟨7,0,0,true,false,[d.t]⟩:=by rw[<-M];simp
 have I:w.get 2=some ⟨7,0,0,true,false,[b.t]⟩:=by rw[<-M];simp
 have D:w.get 3=some ⟨7,0,0,true,false,[.agg [.dq [] false,.int .i64 0,.dq [] false,.dq [] false,.dq [] false,.dq [] false,.dq [] false]]⟩:=by rw[<-M];simp
 clear M
 have V:∀y,(dI w 3 y).get 3=some y:=λy=>(dy D y _).trans (aq rfl)
 refine m6 (λj u=>w=u/\rk e b=true/\TI.dt j 3=some (.ptr 0 0 0 0)/\TI.dt j 4=some (.ptr 1 0 0 0)/\TI.dt j 5=some (.ptr 2 0 0 0)/\TI.dt j 6=some (.ptr 3 0 0 0)) (λg=> ?_) (λg=> ?_) ?_
 ·have X:b.kind=1\/b.kind=2:=by simpa using g
  simp[I]
  refine dM (λi=> ?_) (λi=> ?_)
  ·have:qC e d b=false:=by
    rw[h];unfold rk;rw[aq X,bg (by simpa using i)];simp
   simp[D,V,dG,md this,P.hp]
   exact U
  ·simp
   unfold rk;rw[aq X,bw (by simpa using i)]
 ·have X:¬(b.kind=1\/b.kind=2):=by simpa using g
  cases B:iI b.iF e.gW.length with
  |false=>
   have:qC e d b=false:=by
    rw[h];unfold rk;rw[ao X,rH B];simp
   simp[a6,I,Oj,B,D,V,dG,md this,P.hp]
   exact U
  |true=>
   obtain⟨x,gn,eL⟩:=ij B
   simp[a6,I,Oj,B,gn,dS (ed.1 B).1]
   refine dM (λi=> ?_) (λi=> ?_)
   ·have:qC e d b=false:=by
     rw[h];unfold rk;rw[ao X,eL];simp only;rw[bg (by simpa using i)];simp
    simp[D,V,dG,md this,P.hp]
    exact U
   ·simp
    unfold rk;rw[ao X,eL];simp only;rw[bw (by simpa using i)]
 ·rintro j _ ⟨rfl,gi,L,E,v,A⟩
  rw[gi,bM]at h
  have gw:((decide (b.kind=3)||decide (b.kind=4))=false/\True/\True/\(b.kind=3\/b.kind=4->∃n,e.cells[b.obj.toNat]? =some n)/\∃x:fN,x=x/\True)\/((decide (b.kind=3)||decide (b.kind=4))=true/\ke b.obj=some b.obj.toNat/\iI b.obj e.cells.length=true/\True/\∃n,e.cells[b.obj.toNat]? =some n/\sizeOf e b.obj=n.size):=by
   cases q:(decide (b.kind=3)||decide (b.kind=4))
   ·simp at q
    exact .inl ⟨rfl,trivial,trivial,λk=>(k.elim q.1 q.2).elim,default,rfl,trivial⟩
   ·simp at q
    have B:iI b.obj e.cells.length=true:=by
     unfold jn at o
     rw[ao (by omega),aq q]at o;exact o
    obtain⟨n,fE,fL⟩:=ij B
    exact .inr ⟨rfl,dS (ed.1 B).1,B,trivial,n,fE,by simp[sizeOf,fL]⟩
  have a8:JB e b=(decide (b.mt=[])||decide (b.kind=5)||((decide (b.kind=3)||decide (b.kind=4))&& !decide (sizeOf e b.obj=0))):=rfl
  have b8:decide (0<b.mt.length)= !decide (b.mt=[]):=by cases b.mt<;>simp
  have b9:decide (0<b.uI.length)= !decide (b.uI=[]):=by cases b.uI<;>simp
  have ca:Jw b=(decide (b.uI=[])||decide (b.kind=4)||decide (b.kind=22)):=rfl
  have e5:b.kind=3->iI b.obj d.cells.length=true:=λk=>by
   rw[eA];unfold jn at o;rw[ao (by omega),aq (by omega)]at o;exact o
  have e4:b.kind=23->iI b.obj d.dR.length=true:=λk=>by
   rw[eB];exact qh o (.inr k)
  rcases gw with⟨cL,eM,gp,gv,e6,eN,c7⟩|⟨cL,eM,gp,gv,e6,eN,c7⟩
  all_goals
   simp[L,v,a6,I,cL,eM,eN]
   rw[cL]at a8
   refine dM (λg=> ?_) (λg=> ?_)
   ·have:qC e d b=false:=by
     rw[h,a8]
     simp[b8]at g
     simp[g,c7]
    simp[A,D,V,dG,md this,P.hp]
    exact U
   have eF:JB e b=true:=by
    rw[a8]
    cases Q:decide (b.mt=[])<;>cases s:decide (b.kind=5)<;>simp[b8,Q,s,c7]at g|-
    all_goals exact g
   rw[eF,bM]at h
   simp[v,I]
   refine dM (λi=> ?_) (λi=> ?_)
   ·have:qC e d b=false:=by
     rw[h,ca]
     simp[b9]at i
     simp[i]
    simp[A,D,V,dG,md this,P.hp]
    exact U
   have eH:Jw b=true:=by
    rw[ca]
    cases Q:decide (b.uI=[])<;>cases s:decide (b.kind=4)<;>simp[b9,Q,s]at i|-
    all_goals exact i
   rw[eH,bM]at h
   have fo:=λ{tb:eG} (ht:tb.p 106=some qt)=>Ob ht d b (by omega) e5 e4
   simp[E,v,bn,I,gP,W,Oe,fo,show b.mt.length<=1099511627776 by omega,show b.uI.length<=1099511627776 by omega]
   refine dM (λbi=> ?_) (λbi=> ?_)
   ·have:qC e d b=false:=by
     rw[h]
     cases Q:wI z none b.mt<;>cases s:wI z none b.uI<;>cases di:m7 d b<;>simp[Q,s,di]at bi|-
    simp[A,D,V,dG,md this,P.hp]
    exact U
   have gg:qC e d b=true:=by
    rw[h]
    cases Q:wI z none b.mt<;>cases s:wI z none b.uI<;>cases di:m7 d b<;>simp[Q,s,di]at bi|-
   clear g i bi h a8 ca b8 b9 eF eH
   have gm:jO e d b=(mm e d b,true):=by unfold jO;rw[aq gg]
   rw[gm]
   obtain⟨fb,aN,bp,⟨ha,hd,gA⟩,dv,Z,eS⟩:=kj (cx:=cx) (sz:=1) P (x:=sl (d.cells.map (T.int .i64))) (xs:=d.cells.map (T.int .i64)) oG rfl zl oG rfl rfl (by simp) (by simp) (by simp[T.cells]) (by simp;omega)
   obtain⟨fe,aX,bs,⟨hb,hf,ey⟩,ea,O,okB⟩:=kj (cx:=cx) (sz:=1) eS (x:=sl (d.dR.map (T.int .i64))) (xs:=d.dR.map (T.int .i64)) oG rfl zl oG rfl rfl (by simp) (by simp) (by simp[T.cells]) (by simp;omega)
   obtain⟨fl,S,bu,⟨hc,hg,gC⟩,eb,G,eU⟩:=kj (cx:=cx) (sz:=1) okB (x:=sl (d.count.map (T.int .i64))) (xs:=d.count.map (T.int .i64)) jQ rfl mJ jQ rfl rfl (by simp) (by simp) (by simp[T.cells]) (by simp;omega)
   replace dv:aN.size=5:=by omega
   replace ea:aX.size=6:=by omega
   replace eb:S.size=7:=by omega
   simp only[e0,dv,ea,aH]at bp bs bu gA ey gC
   have eW:dY (w.cons ⟨1,0,0,true,false,[]⟩) aN 1=true:=ee ((Z 1 (by omega)).trans (by rw[dH,ao (by omega)]))
   have eX:dY (aN.cons ⟨1,0,0,true,false,[]⟩) aX 1=true:=ee ((O 1 (by omega)).trans (by rw[dH,ao (by omega)]))
   have gM:dY (aX.cons ⟨1,0,0,true,false,[]⟩) S 1=true:=ee ((G 1 (by omega)).trans (by rw[dH,ao (by omega)]))
   have eh:=(Z 1 (by omega)).trans bn
   have eo:=(O 1 (by omega)).trans eh
   have e7:=(G 1 (by omega)).trans eo
   have eR:∀m,5<=m->dY (w.cons ⟨1,0,0,true,false,[]⟩) aN m=true:=λm eD=>jq (mZ _ (by simp;omega))
   have eO:∀m,6<=m->dY (aN.cons ⟨1,0,0,true,false,[]⟩) aX m=true:=λm eD=>jq (mZ _ (by simp;omega))
   have eP:∀m,7<=m->dY (aX.cons ⟨1,0,0,true,false,[]⟩) S m=true:=λm eD=>jq (mZ _ (by simp;omega))
   have gz:S.low<=7:=by have:=eU.low;omega
   simp[E,v,e0,dv,ea,eb,bn,bp,bs,bu,eh,eo,eW,eX,eR,eO,eP,gz]
   have gB:=(G 4 (by omega)).trans ((O 4 (by omega)).trans gA)
   have gE:=(G 5 (by omega)).trans ey
   have e8:=(G 0 (by omega)).trans ((O 0 (by omega)).trans ((Z 0 (by omega)).trans a6))
   have er:=(G 2 (by omega)).trans ((O 2 (by omega)).trans ((Z 2 (by omega)).trans I))
   have e9:=(G 3 (by omega)).trans ((O 3 (by omega)).trans ((Z 3 (by omega)).trans D))
   have b6:=λ{tb:eG} (ht:tb.p 107=some rL)=>On ht e d.fW b.dA b.kind b.obj (kI b) eE gk bv
   have gQ:=Y.c z (az W)
   clear bp bs bu Z O G eW eX gM eR eO eP eS okB
   generalize ap:S.cons _=an
   have gI:gh 0 an:=by rw[<-ap];exact eU.cons _
   have ef:an.size=8:=by rw[<-ap];show S.size+1=8;omega
   have J:∀n,n<7->an.get n=S.get n:=λn q=>by rw[<-ap,dH,ao (by omega)]
   have cp:=(J 0 (by omega)).trans e8
   have cX:=(J 1 (by omega)).trans e7
   have bk:=(J 2 (by omega)).trans er
   have c1:=(J 3 (by omega)).trans e9
   have c4:=(J 4 (by omega)).trans gB
   have c6:=(J 5 (by omega)).trans gE
   have c9:=(J 6 (by omega)).trans gC
   have dd:an.get 7=some ⟨7,0,1,true,false,[.agg [.dq [] false,.int .i64 0,.dq [] false,.dq [] false,.arr 4 fb 0 d.cells.length false,.arr 5 fe 0 d.dR.length false,.arr 6 fl 0 d.count.length false]]⟩:=by rw[<-ap,dH,aq eb.symm]
   clear ap
   simp[er]
   refine m6 (λj u=>an=u/\TI.dt j 3=some (.ptr 0 0 0 0)/\TI.dt j 4=some (.ptr 1 0 0 0)/\TI.dt j 5=some (.ptr 2 0 0 0)/\TI.dt j 6=some (.ptr 3 0 0 0)/\TI.dt j 9=some (.ptr 7 0 0 0)/\TI.dt j 10=some (.int .i64 (kI b))) (λg=> ?_) (λg=> ?_) ?_
   ·simp[L,E,v,A,bk]
    unfold kI;rw[aq (by simpa using g)]
   ·simp[L,E,v,A]
    unfold kI;rw[ao (by simpa using g)]
   rintro j _ ⟨rfl,L,E,v,A,bX,bT⟩
   have de:binop .add (.int .i64 z) (.int .i64 1)=some (.int .i64 (z+1)):=fQ (by omega) (by omega)
   have dn:=dS (ed.1 aA).1
   have av:=(ed.1 aA).2
   have eI:mm e d b=⟨(dV e d.fW b.dA b.kind b.obj (kI b)).1,if b.kind=4 then d.cells.set b.obj.toNat b.value else d.cells,if b.kind=22 then d.dR.set b.obj.toNat b.value else d.dR,d.count.modify b.dA.toNat (· +1)⟩:=rfl
   rw[ng W]at eI
   have gy:(b.kind=4/\iI b.obj d.cells.length=true)\/(b.kind=22/\iI b.obj d.dR.length=true)\/(¬b.kind=4/\¬b.kind=22):=by
    by_cases q:b.kind=4
    ·refine .inl ⟨q,?_⟩
     rw[eA];unfold jn at o;rw[ao (by omega),aq (by omega)]at o;exact o
    ·by_cases s:b.kind=22
     ·refine .inr (.inl ⟨s,?_⟩)
      rw[eB];exact qh o (.inl s)
     ·exact .inr (.inr ⟨q,s⟩)
   have ce:=gI.hp
   have a7:∀(f:List Int) (u:H),eK (vC u 11) (f.map (T.int .i64))=some (f.map (T.int .i64)):=λf u=>A5 _ _ _ λ_=>rfl
   have bB:∀(f:List Int) (u:H) (N:Nat) (R:Int),eK (vC u 11) ((f.map (T.int .i64)).set N (.int .i64 R))=some ((f.map (T.int .i64)).set N (.int .i64 R)):=λf u N R=>by rw[<-bV];exact a7 _ u
   have dk:∀(f:List Int),(f.map (T.int .i64)).take f.length=f.map (T.int .i64):=λf=>by rw[bJ (by simp)]
   have dm:∀(f:List Int) (N:Nat) (R:T),((f.map (T.int .i64)).set N R).take f.length=(f.map (T.int .i64)).set N R:=λf N R=>by rw[bJ (by simp)]
   have b7:d.count[b.dA.toNat]'av=z:=by rw[aB av]at W;simpa using W
   have fin:∀(C F K:List Int),T.agg [sl ((dV e d.fW b.dA b.kind b.obj (kI b)).1.dP.map dF.t),.int .i64 (dV e d.fW b.dA b.kind b.obj (kI b)).1.tx,sl ((dV e d.fW b.dA b.kind b.obj (kI b)).1.done.map T.bool),sl ((dV e d.fW b.dA b.kind b.obj (kI b)).1.dp.map dx.t),sl (C.map (T.int .i64)),sl (F.map (T.int .i64)),sl (K.map (T.int .i64))]=dW.t ⟨(dV e d.fW b.dA b.kind b.obj (kI b)).1,C,F,K⟩:=λ_ _ _=>rfl
   rw[eI]
   rcases gy with⟨q,aE⟩|⟨q,aE⟩|⟨q,eV⟩
   ·have ds:=dS (ed.1 aE).1
    have cb:=(ed.1 aE).2
    have ae:decide (b.kind=22)=false:=bg (by omega)
    have al:decide (b.kind=4)=true:=bw q
    rw[aq q,ao (by omega),<-fin]
    simp[L,E,v,A,bX,bT,cp,cX,bk,c1,c4,c6,c9,dd,b6,dG,ph,ce,ef,dn,av,b7,de,uH,fH,a7,al,ae,ds,cb,bB,dk,dm]
   ·have ds:=dS (ed.1 aE).1
    have cb:=(ed.1 aE).2
    have ae:decide (b.kind=22)=true:=bw q
    have al:decide (b.kind=4)=false:=bg (by omega)
    rw[ao (by omega),aq q,<-fin]
    simp[L,E,v,A,bX,bT,cp,cX,bk,c1,c4,c6,c9,dd,b6,dG,ph,ce,ef,dn,av,b7,de,uH,fH,a7,al,ae,ds,cb,bB,dk,dm]
   ·have ae:decide (b.kind=22)=false:=bg eV
    have al:decide (b.kind=4)=false:=bg q
    rw[ao q,ao eV,<-fin]
    simp[L,E,v,A,bX,bT,cp,cX,bk,c1,c4,c6,c9,dd,b6,dG,ph,ce,ef,dn,av,b7,de,uH,fH,a7,al,ae,bB,dk,dm]
theorem EH{d:eG}(ht:d.p 66=some nL)(c:dJ)(b:dW)(a:dN)(e:c.fP.length<=1000000)(f:ui 100000 b)(g:a.mt.length<=1000000)(h:a.uI.length<=1000000):rl Tryz.prog cx d 66 [c.t,b.t,a.t]=some (.tuple [(jO c b a).1.t,.bool (jO c b a).2]):=fR ht MF (c,b,a) ⟨e,f,g,h⟩
end
end Go.Proofs.YtmaeadedikngoaaGreatDoor
