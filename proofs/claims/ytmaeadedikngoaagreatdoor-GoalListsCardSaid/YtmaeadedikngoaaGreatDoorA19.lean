/- Texts W16d to W16d. -/
import Derived.Test.YtmaeadedikngoaaGreatDoorA18
set_option linter.all false
set_option maxRecDepth 100000
set_option maxHeartbeats 8000000
namespace Go.Proofs.YtmaeadedikngoaaGreatDoor
noncomputable section
open Go Go.TI
attribute [-simp] List.map_take List.map_drop List.map_append fH fh ej Bool.not_or Bool.not_and
attribute [simp] fG fj
attribute [-simp] size_cons
def mI:iq:=⟨ee×eG×eK,λa=>[a.1.t,a.2.1.t,a.2.2.t],λa=>a.1.gW.length<=1000000/\sg 100000 a.2.1/\a.2.2.mG.length<=1000000/\a.2.2.vh.length<=1000000,λa=> .tuple [(jY a.1 a.2.1 a.2.2).1.t,.bool (jY a.1 a.2.1 a.2.2).2],λa c b=>by
 simp at b;rw[ee.inj b.1,eG.inj b.2.1,eK.inj b.2.2]⟩
def lx{c:ee}{b:eG}{a:eK}(d:p7 c b a=false):jY c b a=(ta,false):=by unfold jY;rw[d];rfl
def Qz{g:fN}(ht:g.p 107=some tj)(b:ee)(a:fK)(e c d f:Int)(i:b.gW.length<=1099511627776)(k:NK a)(j:jR b a e c d=true):rl Tryz.prog cx g 107 [b.t,a.t,dG e,dG c,dG d,dG f]=some (.tuple [(fg b a e c d f).1.t,dG (fg b a e c d f).2,.bool true]):=by
 have:=iv ht EA (b,a,e,c,d,f) ⟨i,k⟩;have h:tj.R (b,a,e,c,d,f)= .tuple [(fg b a e c d f).1.t,dG (fg b a e c d f).2,.bool true]:=by show x7 _=_;unfold x7;rw[aq j]
 rw[h]at this;exact this
def OK:mI.Ok Tryz.prog cx 66:=by
 refine iC (tb:=⟨pt [(68,uC),(103,Ek),(104,nZ),(105,tT),(106,rG),(107,tj)],ht []⟩) fc fa (je 6434029281764525972148499167221040878727244754944919609542655 [(15,[(3,4),(3,6),(3,8),(7,8),(3,10),(7,10),(3,13),(7,13),(11,13)])] Tryz.func66) (λ_=>100) (by simp[mI]) (by simp[mI,Tryz.f66]) ?_;rintro⟨e,d,b⟩ ⟨fs,Y,fB,fC⟩ j ey;simp at fs Y fB fC;simp[mI]at ey|-;obtain⟨fi,fl,fo⟩:=ey;obtain⟨l1,l2,l3,l4,l5,l6⟩:=Y.l;have fY:d.fO.sm:=⟨dB,dB,dB,λf q=>by have:=Y.r f q;omega⟩;have eB:e.gW.length<=1099511627776:=dB;have gd:NK d.fO:=⟨dB,dB,dB,λf q=>by have:=Y.r f q;omega,Y.a⟩;have h:p7 e d b=(nG e d&&jt b.dZ e.dM.length&&(decide (1<=b.kind)&&decide (b.kind<=23))&&jR e d.fO b.dZ b.kind b.obj&&sI e b&&Ld e b&&K7 b&&xL (d.count.getD b.dZ.toNat 0) none b.mG&&xL (d.count.getD b.dZ.toNat 0) none b.vh&&nW d b):=rfl;simp[Tryz.f66,fi,fl,fo,Gq,Qw,xY,eB,fY];have U:T.agg [sl [],dG 0,sl [],sl [],sl [],sl [],sl []]=ta.t:=rfl;refine em (λg=> ?_) (λg=> ?_)
 ·have:p7 e d b=false:=by
   rw[h];simp only[cm,ci,aJ]at g;rcases g with(((q|q)|q)|q)|q
   ·rw[q];simp
   ·rw[q];simp
   ·rw[aR (show¬1<=b.kind by omega)];simp
   ·rw[aR (show¬b.kind<=23 by omega)];simp
   ·rw[q];simp
  simp[lx this];exact U
 simp only[cr,cK,bU]at g;obtain⟨⟨⟨⟨eh,eo⟩,gI⟩,gM⟩,bz⟩:=g;rw[eh,eo,bz,bI (show 1<=b.kind by omega),bI (show b.kind<=23 by omega)]at h;simp only[bO]at h;have bB:=bz;unfold jR at bB;simp only[ay]at bB;obtain⟨⟨⟨gQ,_⟩,o⟩,_⟩:=bB;have bH:=eh;unfold nG at bH;simp only[ay,aJ]at bH;obtain⟨⟨⟨_,et⟩,eu⟩,fe⟩:=bH;have aA:=eo;rw[<-fe]at aA;obtain⟨z,W,gP⟩:=iK aA;have gB:=eQ (fw.1 aA).1;have fE:d.count.getD b.dZ.toNat 0=z:=by simp[List.getD,W]
 rw[fE]at h;simp;generalize M:(((hE.cons _).cons _).cons _).cons _=w;have P:ij 0 w:=by rw[<-M];exact⟨dC,dC,dC⟩
 have eV:w.size=4:=by rw[<-M];rfl
 have a6:w.get 0=some (dI 6 0 [e.t]):=by rw[<-M];simp
 have bn:w.get 1=some (dI 7 0 [d.t]):=by rw[<-M];simp
 have I:w.get 2=some (dI 7 0 [b.t]):=by rw[<-M];simp
 have D:w.get 3=some (dI 7 0 [.agg [dH,dG 0,dH,dH,dH,dH,dH]]):=by rw[<-M];simp
 clear M;have V:∀y,(d8 w 3 y).get 3=some y:=λy=>(dQ D y _).trans (aq rfl);refine lq (λj u=>w=u/\sI e b=true/\dJ j 3 (.ptr 0 0 0 0)/\dJ j 4 (.ptr 1 0 0 0)/\dJ j 5 (.ptr 2 0 0 0)/\dJ j 6 (.ptr 3 0 0 0)) (λg=> ?_) (λg=> ?_) ?_
 ·have X:b.kind=1\/b.kind=2:=by simpa using g
  simp[I];refine em (λi=> ?_) (λi=> ?_)
  ·have:p7 e d b=false:=by
    rw[h];unfold sI;rw[aq X,aR (by simpa using i)];simp
   simp[D,V,ed,lx this,P.hp];exact U
  ·simp;unfold sI;rw[aq X,bI (by simpa using i)]
 ·have X:¬(b.kind=1\/b.kind=2):=by simpa using g
  cases B:jt b.jg e.iH.length with
  |false=>
   have:p7 e d b=false:=by
    rw[h];unfold sI;rw[ao X,qX B];simp
   simp[a6,I,Qw,B,D,V,ed,lx this,P.hp];exact U
  |true=>
   obtain⟨x,gi,eF⟩:=iK B;simp[a6,I,Qw,B,gi,eQ (fw.1 B).1];refine em (λi=> ?_) (λi=> ?_)
   ·have:p7 e d b=false:=by
     rw[h];unfold sI;rw[ao X,eF];simp only;rw[aR (by simpa using i)];simp
    simp[D,V,ed,lx this,P.hp];exact U
   ·simp;unfold sI;rw[ao X,eF];simp only;rw[bI (by simpa using i)]
 ·rintro j _ ⟨rfl,fS,L,E,v,A⟩;rw[fS,bO]at h;have gm:((decide (b.kind=3)||decide (b.kind=4))=false/\True/\True/\(b.kind=3\/b.kind=4->∃n,e.cells[b.obj.toNat]? =some n)/\∃x:ig,x=x/\True)\/((decide (b.kind=3)||decide (b.kind=4))=true/\ka b.obj=some b.obj.toNat/\jt b.obj e.cells.length=true/\True/\∃n,e.cells[b.obj.toNat]? =some n/\sizeOf e b.obj=n.size):=by
   cases q:(decide (b.kind=3)||decide (b.kind=4))
   ·simp at q;exact .inl ⟨rfl,trivial,trivial,λk=>(k.elim q.1 q.2).elim,default,rfl,trivial⟩
   ·simp at q;have B:jt b.obj e.cells.length=true:=by
     unfold j1 at o;rw[ao dB,aq q]at o;exact o
    obtain⟨n,fv,fA⟩:=iK B;exact .inr ⟨rfl,eQ (fw.1 B).1,B,trivial,n,fv,by simp[sizeOf,fA]⟩
  have a8:Ld e b=(decide (b.mG=[])||decide (b.kind=5)||((decide (b.kind=3)||decide (b.kind=4))&& !decide (sizeOf e b.obj=0))):=rfl;have b7:decide (0<b.mG.length)= !decide (b.mG=[]):=by cases b.mG<;>simp
  have b8:decide (0<b.vh.length)= !decide (b.vh=[]):=by cases b.vh<;>simp
  have b9:K7 b=(decide (b.vh=[])||decide (b.kind=4)||decide (b.kind=22)):=rfl;have eX:b.kind=3->jt b.obj d.cells.length=true:=λk=>by
   rw[et];unfold j1 at o;rw[ao dB,aq dB]at o;exact o
  have eW:b.kind=23->jt b.obj d.ei.length=true:=λk=>by
   rw[eu];exact rj o (.inr k)
  rcases gm with⟨cp,eH,gj,gk,e0,eI,c4⟩|⟨cp,eH,gj,gk,e0,eI,c4⟩
  all_goals
   simp[L,v,a6,I,cp,eH,eI];rw[cp]at a8;refine em (λg=> ?_) (λg=> ?_)
   ·have:p7 e d b=false:=by
     rw[h,a8];simp[b7]at g;simp[g,c4]
    simp[A,D,V,ed,lx this,P.hp];exact U
   have eC:Ld e b=true:=by
    rw[a8];cases Q:decide (b.mG=[])<;>cases s:decide (b.kind=5)<;>simp[b7,Q,s,c4]at g|-
    all_goals exact g
   rw[eC,bO]at h;simp[v,I];refine em (λi=> ?_) (λi=> ?_)
   ·have:p7 e d b=false:=by
     rw[h,b9];simp[b8]at i;simp[i]
    simp[A,D,V,ed,lx this,P.hp];exact U
   have eD:K7 b=true:=by
    rw[b9];cases Q:decide (b.vh=[])<;>cases s:decide (b.kind=4)<;>simp[b8,Q,s]at i|-
    all_goals exact i
   rw[eD,bO]at h;have fb:=λ{tb:fN} (ht:tb.p 106=some rG)=>Qm ht d b dB eX eW;simp[E,v,bn,I,gB,W,Qp,fb,show b.mG.length<=1099511627776 by omega,show b.vh.length<=1099511627776 by omega];refine em (λbi=> ?_) (λbi=> ?_)
   ·have:p7 e d b=false:=by
     rw[h];cases Q:xL z none b.mG<;>cases s:xL z none b.vh<;>cases dd:nW d b<;>simp[Q,s,dd]at bi|-
    simp[A,D,V,ed,lx this,P.hp];exact U
   have fL:p7 e d b=true:=by
    rw[h];cases Q:xL z none b.mG<;>cases s:xL z none b.vh<;>cases dd:nW d b<;>simp[Q,s,dd]at bi|-
   clear g i bi h a8 b9 b7 b8 eC eD;have gg:jY e d b=(ke e d b,true):=by unfold jY;rw[aq fL]
   rw[gg];obtain⟨e7,aN,bp,⟨gS,gY,gA⟩,dn,Z,eO⟩:=lP (cx:=cx) (sz:=1) P (x:=sl (d.cells.map (T.int .i64))) (xs:=d.cells.map (T.int .i64)) oR rfl yT oR rfl rfl dC dC (by simp[T.cells]) dD;obtain⟨e8,aX,bs,⟨gV,gZ,er⟩,ds,O,okB⟩:=lP (cx:=cx) (sz:=1) eO (x:=sl (d.ei.map (T.int .i64))) (xs:=d.ei.map (T.int .i64)) oR rfl yT oR rfl rfl dC dC (by simp[T.cells]) dD;obtain⟨e9,S,bu,⟨gX,ha,gC⟩,dv,G,eP⟩:=lP (cx:=cx) (sz:=1) okB (x:=sl (d.count.map (T.int .i64))) (xs:=d.count.map (T.int .i64)) kz rfl mM kz rfl rfl dC dC (by simp[T.cells]) dD;replace dn:aN.size=5:=dB;replace ds:aX.size=6:=dB;replace dv:S.size=7:=dB;simp only[eV,dn,ds,aG]at bp bs bu gA er gC;have eS:ff (w.cons (dI 1 0 [])) aN 1=true:=fk ((Z 1 dB).trans (by rw[dW,ao dB]));have eU:ff (aN.cons (dI 1 0 [])) aX 1=true:=fk ((O 1 dB).trans (by rw[dW,ao dB]));have gz:ff (aX.cons (dI 1 0 [])) S 1=true:=fk ((G 1 dB).trans (by rw[dW,ao dB]));have eb:=(Z 1 dB).trans bn;have ec:=(O 1 dB).trans eb;have e4:=(G 1 dB).trans ec;have eN:∀m,5<=m->ff (w.cons (dI 1 0 [])) aN m=true:=λm eA=>jc (ll _ dD);have eL:∀m,6<=m->ff (aN.cons (dI 1 0 [])) aX m=true:=λm eA=>jc (ll _ dD);have eM:∀m,7<=m->ff (aX.cons (dI 1 0 [])) S m=true:=λm eA=>jc (ll _ dD);have gp:S.low<=7:=by have:=eP.low;omega
   simp[E,v,eV,dn,ds,dv,bn,bp,bs,bu,eb,ec,eS,eU,eN,eL,eM,gp];have gv:=(G 4 dB).trans ((O 4 dB).trans gA);have gw:=(G 5 dB).trans er;have e5:=(G 0 dB).trans ((O 0 dB).trans ((Z 0 dB).trans a6));have ef:=(G 2 dB).trans ((O 2 dB).trans ((Z 2 dB).trans I));have e6:=(G 3 dB).trans ((O 3 dB).trans ((Z 3 dB).trans D));have bT:=λ{tb:fN} (ht:tb.p 107=some tj)=>Qz ht e d.fO b.dZ b.kind b.obj (kX b) eB gd bz;have gE:=Y.c z (ax W);clear bp bs bu Z O G eS eU gz eN eL eM eO okB;generalize ap:S.cons _=an;have gy:ij 0 an:=by rw[<-ap];exact eP.cons _
   have ea:an.size=8:=by rw[<-ap];show S.size+1=8;omega
   have J:∀n,n<7->an.get n=S.get n:=λn q=>by rw[<-ap,dW,ao dB]
   have ce:=(J 0 dB).trans e5;have cy:=(J 1 dB).trans e4;have bk:=(J 2 dB).trans ef;have cL:=(J 3 dB).trans e6;have cX:=(J 4 dB).trans gv;have c1:=(J 5 dB).trans gw;have c6:=(J 6 dB).trans gC;have c7:an.get 7=some (dI 7 1 [.agg [dH,dG 0,dH,dH,.arr 4 e7 0 d.cells.length false,.arr 5 e8 0 d.ei.length false,.arr 6 e9 0 d.count.length false]]):=by rw[<-ap,dW,aq dv.symm]
   clear ap;simp[ef];refine lq (λj u=>an=u/\dJ j 3 (.ptr 0 0 0 0)/\dJ j 4 (.ptr 1 0 0 0)/\dJ j 5 (.ptr 2 0 0 0)/\dJ j 6 (.ptr 3 0 0 0)/\dJ j 9 (.ptr 7 0 0 0)/\dJ j 10 (dG (kX b))) (λg=> ?_) (λg=> ?_) ?_
   ·simp[L,E,v,A,bk];unfold kX;rw[aq (by simpa using g)]
   ·simp[L,E,v,A];unfold kX;rw[ao (by simpa using g)]
   rintro j _ ⟨rfl,L,E,v,A,bS,bN⟩;have c9:binop .add (dG z) (dG 1)=some (dG (z+1)):=iy dB dB;have dk:=eQ (fw.1 aA).1;have av:=(fw.1 aA).2;have eE:ke e d b=⟨(fg e d.fO b.dZ b.kind b.obj (kX b)).1,if b.kind=4 then d.cells.set b.obj.toNat b.value else d.cells,if b.kind=22 then d.ei.set b.obj.toNat b.value else d.ei,d.count.modify b.dZ.toNat (· +1)⟩:=rfl;rw[oe W]at eE;have gn:(b.kind=4/\jt b.obj d.cells.length=true)\/(b.kind=22/\jt b.obj d.ei.length=true)\/(¬b.kind=4/\¬b.kind=22):=by
    by_cases q:b.kind=4
    ·refine .inl ⟨q,?_⟩;rw[et];unfold j1 at o;rw[ao dB,aq dB]at o;exact o
    ·by_cases s:b.kind=22
     ·refine .inr (.inl ⟨s,?_⟩);rw[eu];exact rj o (.inl s)
     ·exact .inr (.inr ⟨q,s⟩)
   have cb:=gy.hp;have a7:∀(f:List Int) (u:H),fP (xh u 11) (f.map (T.int .i64))=some (f.map (T.int .i64)):=λf u=>Ci _ _ _ λ_=>rfl;have bC:∀(f:List Int) (u:H) (N:Nat) (R:Int),fP (xh u 11) ((f.map (T.int .i64)).set N (dG R))=some ((f.map (T.int .i64)).set N (dG R)):=λf u N R=>by rw[<-bW];exact a7 _ u
   have de:∀(f:List Int),(f.map (T.int .i64)).take f.length=f.map (T.int .i64):=λf=>by rw[bJ dC]
   have di:∀(f:List Int) (N:Nat) (R:T),((f.map (T.int .i64)).set N R).take f.length=(f.map (T.int .i64)).set N R:=λf N R=>by rw[bJ dC]
   have b6:d.count[b.dZ.toNat]'av=z:=by rw[aB av]at W;simpa using W
   have fin:∀(C F K:List Int),T.agg [sl ((fg e d.fO b.dZ b.kind b.obj (kX b)).1.ew.map eg.t),dG (fg e d.fO b.dZ b.kind b.obj (kX b)).1.tx,sl ((fg e d.fO b.dZ b.kind b.obj (kX b)).1.done.map T.bool),sl ((fg e d.fO b.dZ b.kind b.obj (kX b)).1.dM.map dP.t),sl (C.map (T.int .i64)),sl (F.map (T.int .i64)),sl (K.map (T.int .i64))]=eG.t ⟨(fg e d.fO b.dZ b.kind b.obj (kX b)).1,C,F,K⟩:=λ_ _ _=>rfl;rw[eE];rcases gn with⟨q,aE⟩|⟨q,aE⟩|⟨q,eR⟩
   ·have dm:=eQ (fw.1 aE).1;have ca:=(fw.1 aE).2;have ae:decide (b.kind=22)=false:=aR dB;have al:decide (b.kind=4)=true:=bI q;rw[aq q,ao dB,<-fin];simp[L,E,v,A,bS,bN,ce,cy,bk,cL,cX,c1,c6,c7,bT,ed,m6,cb,ea,dk,av,b6,c9,vZ,gH,a7,al,ae,dm,ca,bC,de,di]
   ·have dm:=eQ (fw.1 aE).1;have ca:=(fw.1 aE).2;have ae:decide (b.kind=22)=true:=bI q;have al:decide (b.kind=4)=false:=aR dB;rw[ao dB,aq q,<-fin];simp[L,E,v,A,bS,bN,ce,cy,bk,cL,cX,c1,c6,c7,bT,ed,m6,cb,ea,dk,av,b6,c9,vZ,gH,a7,al,ae,dm,ca,bC,de,di]
   ·have ae:decide (b.kind=22)=false:=aR eR;have al:decide (b.kind=4)=false:=aR q;rw[ao q,ao eR,<-fin];simp[L,E,v,A,bS,bN,ce,cy,bk,cL,cX,c1,c6,c7,bT,ed,m6,cb,ea,dk,av,b6,c9,vZ,gH,a7,al,ae,bC,de,di]
def Bt{d:fN}(ht:d.p 66=some mI)(c:ee)(b:eG)(a:eK)(e:c.gW.length<=1000000)(f:sg 100000 b)(g:a.mG.length<=1000000)(h:a.vh.length<=1000000):rl Tryz.prog cx d 66 [c.t,b.t,a.t]=some (.tuple [(jY c b a).1.t,.bool (jY c b a).2]):=iv ht OK (c,b,a) ⟨e,f,g,h⟩
end
end Go.Proofs.YtmaeadedikngoaaGreatDoor
