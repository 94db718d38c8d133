/- Texts W16d to W16d. -/
import Derived.Test.YtmaeadedikngoaaGreatDoorA18
set_option linter.all false
set_option maxRecDepth 100000
set_option maxHeartbeats 8000000
namespace Go.Proofs.YtmaeadedikngoaaGreatDoor
noncomputable section
open Go Go.TI
attribute [-simp] List.map_take List.map_drop List.map_append fG fg ei Bool.not_or Bool.not_and
attribute [simp] fF fh
attribute [-simp] size_cons
def lQ:hU:=⟨d8×ej×ez,λa=>[a.1.t,a.2.1.t,a.2.2.t],λa=>a.1.gW.length<=1000000/\rg 100000 a.2.1/\a.2.2.mN.length<=1000000/\a.2.2.vh.length<=1000000,λa=> .tuple [(jO a.1 a.2.1 a.2.2).1.t,.bool (jO a.1 a.2.1 a.2.2).2],λa c b=>by
 simp at b;rw[d8.inj b.1,ej.inj b.2.1,ez.inj b.2.2]⟩
def lI{c:d8}{b:ej}{a:ez}(d:qd c b a=false):jO c b a=(ta,false):=by unfold jO;rw[d];rfl
def QQ{g:fJ}(ht:g.p 107=some tj)(b:d8)(a:fH)(e c d f:Int)(i:b.gW.length<=1099511627776)(k:NW a)(j:jR b a e c d=true):rl Tryz.prog cx g 107 [b.t,a.t,dE e,dE c,dE d,dE f]=some (.tuple [(ff b a e c d f).1.t,dE (ff b a e c d f).2,.bool true]):=by
 have:=im ht EH (b,a,e,c,d,f) ⟨i,k⟩;have h:tj.R (b,a,e,c,d,f)= .tuple [(ff b a e c d f).1.t,dE (ff b a e c d f).2,.bool true]:=by show yc _=_;unfold yc;rw[aq j]
 rw[h]at this;exact this
def OV:lQ.Ok Tryz.prog cx 66:=by
 refine iv (tb:=⟨pt [(68,uC),(103,Er),(104,og),(105,tS),(106,rJ),(107,tj)],ht []⟩) fa eQ (iR 6434029281764525972148499167221040878727244754944919609542655 [(15,[(3,4),(3,6),(3,8),(7,8),(3,10),(7,10),(3,13),(7,13),(11,13)])] Tryz.func66) (λ_=>100) (by simp[lQ]) (by simp[lQ,Tryz.f66]) ?_;rintro⟨e,d,b⟩ ⟨fs,Y,fB,fC⟩ j ey;simp at fs Y fB fC;simp[lQ]at ey|-;obtain⟨fi,fl,fo⟩:=ey;obtain⟨l1,l2,l3,l4,l5,l6⟩:=Y.l;have fX:d.fM.sm:=⟨dz,dz,dz,λf q=>by have:=Y.r f q;omega⟩;have eB:e.gW.length<=1099511627776:=dz;have fY:NW d.fM:=⟨dz,dz,dz,λf q=>by have:=Y.r f q;omega,Y.a⟩;have h:qd e d b=(nJ e d&&je b.dT e.dK.length&&(decide (1<=b.kind)&&decide (b.kind<=23))&&jR e d.fM b.dT b.kind b.obj&&sJ e b&&Ls e b&&Lm b&&xO (d.count.getD b.dT.toNat 0) none b.mN&&xO (d.count.getD b.dT.toNat 0) none b.vh&&oc d b):=rfl;simp[Tryz.f66,fi,fl,fo,Gy,QN,x6,eB,fX];have U:T.agg [sl [],dE 0,sl [],sl [],sl [],sl [],sl []]=ta.t:=rfl;refine ee (λg=> ?_) (λg=> ?_)
 ·have:qd e d b=false:=by
   rw[h];simp only[bV,bR,aK]at g;rcases g with(((q|q)|q)|q)|q
   ·rw[q];simp
   ·rw[q];simp
   ·rw[aP (show¬1<=b.kind by omega)];simp
   ·rw[aP (show¬b.kind<=23 by omega)];simp
   ·rw[q];simp
  simp[lI this];exact U
 simp only[bM,bZ,bw]at g;obtain⟨⟨⟨⟨eh,eo⟩,gE⟩,gI⟩,bz⟩:=g;rw[eh,eo,bz,aY (show 1<=b.kind by omega),aY (show b.kind<=23 by omega)]at h;simp only[bP]at h;have bB:=bz;unfold jR at bB;simp only[aB]at bB;obtain⟨⟨⟨gP,_⟩,o⟩,_⟩:=bB;have bH:=eh;unfold nJ at bH;simp only[aB,aK]at bH;obtain⟨⟨⟨_,et⟩,eu⟩,fe⟩:=bH;have aA:=eo;rw[<-fe]at aA;obtain⟨z,W,gM⟩:=iI aA;have gz:=eK (fq.1 aA).1;have fE:d.count.getD b.dT.toNat 0=z:=by simp[List.getD,W]
 rw[fE]at h;simp;generalize M:(((hE.cons _).cons _).cons _).cons _=w;have P:ig 0 w:=by rw[<-M];exact⟨dA,dA,dA⟩
 have eV:w.size=4:=by rw[<-M];rfl
 have a6:w.get 0=some (dG 6 0 [e.t]):=by rw[<-M];simp
 have bn:w.get 1=some (dG 7 0 [d.t]):=by rw[<-M];simp
 have I:w.get 2=some (dG 7 0 [b.t]):=by rw[<-M];simp
 have D:w.get 3=some (dG 7 0 [.agg [dF,dE 0,dF,dF,dF,dF,dF]]):=by rw[<-M];simp
 clear M;have V:∀y,(dY w 3 y).get 3=some y:=λy=>(dP D y _).trans (aq rfl);refine ll (λj u=>w=u/\sJ e b=true/\dH j 3 (.ptr 0 0 0 0)/\dH j 4 (.ptr 1 0 0 0)/\dH j 5 (.ptr 2 0 0 0)/\dH j 6 (.ptr 3 0 0 0)) (λg=> ?_) (λg=> ?_) ?_
 ·have X:b.kind=1\/b.kind=2:=by simpa using g
  simp[I];refine ee (λi=> ?_) (λi=> ?_)
  ·have:qd e d b=false:=by
    rw[h];unfold sJ;rw[aq X,aP (by simpa using i)];simp
   simp[D,V,dZ,lI this,P.hp];exact U
  ·simp;unfold sJ;rw[aq X,aY (by simpa using i)]
 ·have X:¬(b.kind=1\/b.kind=2):=by simpa using g
  cases B:je b.jk e.iG.length with
  |false=>
   have:qd e d b=false:=by
    rw[h];unfold sJ;rw[ao X,rf B];simp
   simp[a6,I,QN,B,D,V,dZ,lI this,P.hp];exact U
  |true=>
   obtain⟨x,gg,eF⟩:=iI B;simp[a6,I,QN,B,gg,eK (fq.1 B).1];refine ee (λi=> ?_) (λi=> ?_)
   ·have:qd e d b=false:=by
     rw[h];unfold sJ;rw[ao X,eF];simp only;rw[aP (by simpa using i)];simp
    simp[D,V,dZ,lI this,P.hp];exact U
   ·simp;unfold sJ;rw[ao X,eF];simp only;rw[aY (by simpa using i)]
 ·rintro j _ ⟨rfl,fS,L,E,v,A⟩;rw[fS,bP]at h;have gk:((decide (b.kind=3)||decide (b.kind=4))=false/\True/\True/\(b.kind=3\/b.kind=4->∃n,e.cells[b.obj.toNat]? =some n)/\∃x:ij,x=x/\True)\/((decide (b.kind=3)||decide (b.kind=4))=true/\kj b.obj=some b.obj.toNat/\je b.obj e.cells.length=true/\True/\∃n,e.cells[b.obj.toNat]? =some n/\sizeOf e b.obj=n.size):=by
   cases q:(decide (b.kind=3)||decide (b.kind=4))
   ·simp at q;exact .inl ⟨rfl,trivial,trivial,λk=>(k.elim q.1 q.2).elim,default,rfl,trivial⟩
   ·simp at q;have B:je b.obj e.cells.length=true:=by
     unfold jQ at o;rw[ao dz,aq q]at o;exact o
    obtain⟨n,fv,fA⟩:=iI B;exact .inr ⟨rfl,eK (fq.1 B).1,B,trivial,n,fv,by simp[sizeOf,fA]⟩
  have a8:Ls e b=(decide (b.mN=[])||decide (b.kind=5)||((decide (b.kind=3)||decide (b.kind=4))&& !decide (sizeOf e b.obj=0))):=rfl;have b6:decide (0<b.mN.length)= !decide (b.mN=[]):=by cases b.mN<;>simp
  have b7:decide (0<b.vh.length)= !decide (b.vh=[]):=by cases b.vh<;>simp
  have b8:Lm b=(decide (b.vh=[])||decide (b.kind=4)||decide (b.kind=22)):=rfl;have eX:b.kind=3->je b.obj d.cells.length=true:=λk=>by
   rw[et];unfold jQ at o;rw[ao dz,aq dz]at o;exact o
  have eW:b.kind=23->je b.obj d.eg.length=true:=λk=>by
   rw[eu];exact rx o (.inr k)
  rcases gk with⟨ce,eH,gi,gj,e0,eI,c4⟩|⟨ce,eH,gi,gj,e0,eI,c4⟩
  all_goals
   simp[L,v,a6,I,ce,eH,eI];rw[ce]at a8;refine ee (λg=> ?_) (λg=> ?_)
   ·have:qd e d b=false:=by
     rw[h,a8];simp[b6]at g;simp[g,c4]
    simp[A,D,V,dZ,lI this,P.hp];exact U
   have eC:Ls e b=true:=by
    rw[a8];cases Q:decide (b.mN=[])<;>cases s:decide (b.kind=5)<;>simp[b6,Q,s,c4]at g|-
    all_goals exact g
   rw[eC,bP]at h;simp[v,I];refine ee (λi=> ?_) (λi=> ?_)
   ·have:qd e d b=false:=by
     rw[h,b8];simp[b7]at i;simp[i]
    simp[A,D,V,dZ,lI this,P.hp];exact U
   have eD:Lm b=true:=by
    rw[b8];cases Q:decide (b.vh=[])<;>cases s:decide (b.kind=4)<;>simp[b7,Q,s]at i|-
    all_goals exact i
   rw[eD,bP]at h;have fb:=λ{tb:fJ} (ht:tb.p 106=some rJ)=>QD ht d b dz eX eW;simp[E,v,bn,I,gz,W,QG,fb,show b.mN.length<=1099511627776 by omega,show b.vh.length<=1099511627776 by omega];refine ee (λbi=> ?_) (λbi=> ?_)
   ·have:qd e d b=false:=by
     rw[h];cases Q:xO z none b.mN<;>cases s:xO z none b.vh<;>cases dd:oc d b<;>simp[Q,s,dd]at bi|-
    simp[A,D,V,dZ,lI this,P.hp];exact U
   have fL:qd e d b=true:=by
    rw[h];cases Q:xO z none b.mN<;>cases s:xO z none b.vh<;>cases dd:oc d b<;>simp[Q,s,dd]at bi|-
   clear g i bi h a8 b8 b6 b7 eC eD;have gd:jO e d b=(j9 e d b,true):=by unfold jO;rw[aq fL]
   rw[gd];obtain⟨e7,aN,bp,⟨gQ,gX,gA⟩,dn,Z,eO⟩:=kQ (cx:=cx) (sz:=1) P (x:=sl (d.cells.map (T.int .i64))) (xs:=d.cells.map (T.int .i64)) o6 rfl yV o6 rfl rfl dA dA (by simp[T.cells]) dB;obtain⟨e8,aX,bs,⟨gS,gZ,er⟩,ds,O,okB⟩:=kQ (cx:=cx) (sz:=1) eO (x:=sl (d.eg.map (T.int .i64))) (xs:=d.eg.map (T.int .i64)) o6 rfl yV o6 rfl rfl dA dA (by simp[T.cells]) dB;obtain⟨e9,S,bu,⟨gV,ha,gC⟩,dv,G,eP⟩:=kQ (cx:=cx) (sz:=1) okB (x:=sl (d.count.map (T.int .i64))) (xs:=d.count.map (T.int .i64)) ko rfl nc ko rfl rfl dA dA (by simp[T.cells]) dB;replace dn:aN.size=5:=dz;replace ds:aX.size=6:=dz;replace dv:S.size=7:=dz;simp only[eV,dn,ds,aG]at bp bs bu gA er gC;have eS:fc (w.cons (dG 1 0 [])) aN 1=true:=fk ((Z 1 dz).trans (by rw[dV,ao dz]));have eU:fc (aN.cons (dG 1 0 [])) aX 1=true:=fk ((O 1 dz).trans (by rw[dV,ao dz]));have gy:fc (aX.cons (dG 1 0 [])) S 1=true:=fk ((G 1 dz).trans (by rw[dV,ao dz]));have eb:=(Z 1 dz).trans bn;have ec:=(O 1 dz).trans eb;have e4:=(G 1 dz).trans ec;have eN:∀m,5<=m->fc (w.cons (dG 1 0 [])) aN m=true:=λm eA=>jd (lz _ dB);have eL:∀m,6<=m->fc (aN.cons (dG 1 0 [])) aX m=true:=λm eA=>jd (lz _ dB);have eM:∀m,7<=m->fc (aX.cons (dG 1 0 [])) S m=true:=λm eA=>jd (lz _ dB);have gn:S.low<=7:=by have:=eP.low;omega
   simp[E,v,eV,dn,ds,dv,bn,bp,bs,bu,eb,ec,eS,eU,eN,eL,eM,gn];have gp:=(G 4 dz).trans ((O 4 dz).trans gA);have gv:=(G 5 dz).trans er;have e5:=(G 0 dz).trans ((O 0 dz).trans ((Z 0 dz).trans a6));have ef:=(G 2 dz).trans ((O 2 dz).trans ((Z 2 dz).trans I));have e6:=(G 3 dz).trans ((O 3 dz).trans ((Z 3 dz).trans D));have bT:=λ{tb:fJ} (ht:tb.p 107=some tj)=>QQ ht e d.fM b.dT b.kind b.obj (lq b) eB fY bz;have gB:=Y.c z (ax W);clear bp bs bu Z O G eS eU gy eN eL eM eO okB;generalize ap:S.cons _=an;have gw:ig 0 an:=by rw[<-ap];exact eP.cons _
   have ea:an.size=8:=by rw[<-ap];show S.size+1=8;omega
   have J:∀n,n<7->an.get n=S.get n:=λn q=>by rw[<-ap,dV,ao dz]
   have cb:=(J 0 dz).trans e5;have cp:=(J 1 dz).trans e4;have bk:=(J 2 dz).trans ef;have cL:=(J 3 dz).trans e6;have cX:=(J 4 dz).trans gp;have c1:=(J 5 dz).trans gv;have c6:=(J 6 dz).trans gC;have c7:an.get 7=some (dG 7 1 [.agg [dF,dE 0,dF,dF,.arr 4 e7 0 d.cells.length false,.arr 5 e8 0 d.eg.length false,.arr 6 e9 0 d.count.length false]]):=by rw[<-ap,dV,aq dv.symm]
   clear ap;simp[ef];refine ll (λj u=>an=u/\dH j 3 (.ptr 0 0 0 0)/\dH j 4 (.ptr 1 0 0 0)/\dH j 5 (.ptr 2 0 0 0)/\dH j 6 (.ptr 3 0 0 0)/\dH j 9 (.ptr 7 0 0 0)/\dH j 10 (dE (lq b))) (λg=> ?_) (λg=> ?_) ?_
   ·simp[L,E,v,A,bk];unfold lq;rw[aq (by simpa using g)]
   ·simp[L,E,v,A];unfold lq;rw[ao (by simpa using g)]
   rintro j _ ⟨rfl,L,E,v,A,bS,bN⟩;have c9:binop .add (dE z) (dE 1)=some (dE (z+1)):=ik dz dz;have dk:=eK (fq.1 aA).1;have av:=(fq.1 aA).2;have eE:j9 e d b=⟨(ff e d.fM b.dT b.kind b.obj (lq b)).1,if b.kind=4 then d.cells.set b.obj.toNat b.value else d.cells,if b.kind=22 then d.eg.set b.obj.toNat b.value else d.eg,d.count.modify b.dT.toNat (· +1)⟩:=rfl;rw[oq W]at eE;have gm:(b.kind=4/\je b.obj d.cells.length=true)\/(b.kind=22/\je b.obj d.eg.length=true)\/(¬b.kind=4/\¬b.kind=22):=by
    by_cases q:b.kind=4
    ·refine .inl ⟨q,?_⟩;rw[et];unfold jQ at o;rw[ao dz,aq dz]at o;exact o
    ·by_cases s:b.kind=22
     ·refine .inr (.inl ⟨s,?_⟩);rw[eu];exact rx o (.inl s)
     ·exact .inr (.inr ⟨q,s⟩)
   have ca:=gw.hp;have a7:∀(f:List Int) (u:H),fN (xi u 11) (f.map (T.int .i64))=some (f.map (T.int .i64)):=λf u=>Cu _ _ _ λ_=>rfl;have bC:∀(f:List Int) (u:H) (N:Nat) (R:Int),fN (xi u 11) ((f.map (T.int .i64)).set N (dE R))=some ((f.map (T.int .i64)).set N (dE R)):=λf u N R=>by rw[<-bY];exact a7 _ u
   have de:∀(f:List Int),(f.map (T.int .i64)).take f.length=f.map (T.int .i64):=λf=>by rw[bJ dA]
   have di:∀(f:List Int) (N:Nat) (R:T),((f.map (T.int .i64)).set N R).take f.length=(f.map (T.int .i64)).set N R:=λf N R=>by rw[bJ dA]
   have bX:d.count[b.dT.toNat]'av=z:=by rw[az av]at W;simpa using W
   have fin:∀(C F K:List Int),T.agg [sl ((ff e d.fM b.dT b.kind b.obj (lq b)).1.em.map ed.t),dE (ff e d.fM b.dT b.kind b.obj (lq b)).1.tx,sl ((ff e d.fM b.dT b.kind b.obj (lq b)).1.done.map T.bool),sl ((ff e d.fM b.dT b.kind b.obj (lq b)).1.dK.map dN.t),sl (C.map (T.int .i64)),sl (F.map (T.int .i64)),sl (K.map (T.int .i64))]=ej.t ⟨(ff e d.fM b.dT b.kind b.obj (lq b)).1,C,F,K⟩:=λ_ _ _=>rfl;rw[eE];rcases gm with⟨q,aE⟩|⟨q,aE⟩|⟨q,eR⟩
   ·have dm:=eK (fq.1 aE).1;have b9:=(fq.1 aE).2;have ae:decide (b.kind=22)=false:=aP dz;have al:decide (b.kind=4)=true:=aY q;rw[aq q,ao dz,<-fin];simp[L,E,v,A,bS,bN,cb,cp,bk,cL,cX,c1,c6,c7,bT,dZ,mM,ca,ea,dk,av,bX,c9,vX,gH,a7,al,ae,dm,b9,bC,de,di]
   ·have dm:=eK (fq.1 aE).1;have b9:=(fq.1 aE).2;have ae:decide (b.kind=22)=true:=aY q;have al:decide (b.kind=4)=false:=aP dz;rw[ao dz,aq q,<-fin];simp[L,E,v,A,bS,bN,cb,cp,bk,cL,cX,c1,c6,c7,bT,dZ,mM,ca,ea,dk,av,bX,c9,vX,gH,a7,al,ae,dm,b9,bC,de,di]
   ·have ae:decide (b.kind=22)=false:=aP eR;have al:decide (b.kind=4)=false:=aP q;rw[ao q,ao eR,<-fin];simp[L,E,v,A,bS,bN,cb,cp,bk,cL,cX,c1,c6,c7,bT,dZ,mM,ca,ea,dk,av,bX,c9,vX,gH,a7,al,ae,bC,de,di]
def za{d:fJ}(ht:d.p 66=some lQ)(c:d8)(b:ej)(a:ez)(e:c.gW.length<=1000000)(f:rg 100000 b)(g:a.mN.length<=1000000)(h:a.vh.length<=1000000):rl Tryz.prog cx d 66 [c.t,b.t,a.t]=some (.tuple [(jO c b a).1.t,.bool (jO c b a).2]):=im ht OV (c,b,a) ⟨e,f,g,h⟩
end
end Go.Proofs.YtmaeadedikngoaaGreatDoor
