/- W06d -/
import Derived.Test.YtbappgeamhmmbaaGreatDoorA14
set_option linter.all false
set_option maxRecDepth 100000
set_option maxHeartbeats 0
namespace Go.Proofs.YtbappgeamhmmbaaGreatDoor
noncomputable section
open Go Go.TI Tryz
section
attribute [-simp] List.map_take List.map_drop List.map_append
def BI:ge:=⟨List fD×Int,λa=>[sl (a.1.map fD.t),D a.2],λa=>a.1.length<=140737488355328,λa=> .bool (Cf a.1 (a.1.length+1) a.2),λa c b=>by
 simp at b;rw[jt (λ_ _=>fD.inj) b.1,b.2]⟩
def QS:BI.Ok prog cx 173:=by
 refine fR [(224,vP)] (iP 4362601011 [] func173) (λa=>a.1.length+2) (by simp[BI]) ?_;rintro⟨d,x⟩ hl l v;simp[BI]at hl v|-;obtain⟨f,g⟩:=v;simp[f173,f,g];refine fc (d.length+1) B (λj l q=>q=hE/\dy l 0 (sl (d.map fD.t))/\dy l 5 (D j)/\∃e:Int,dy l 1 (D e)/\Cf d (d.length+1-j) e=Cf d (d.length+1) x) ?_ ?_ B ?_
 ·rintro j l q C w ⟨rfl,f,h,e,g,c⟩;have i:(j:Int)<=d.length:=B;rw[show d.length+1-j=(d.length-j)+1 by omega,Cf]at c;by_cases n:e<0
  ·have:vC d e=none:=by unfold vC;rw[ao B]
   rw[this]at c;simp[f,g,h,i,n,<-c]
  ·by_cases p:(d.length:Int)<=e
   ·have:vC d e=none:=by unfold vC;rw[aq B];simp;omega
    rw[this]at c;simp[f,g,h,i,n,p,<-c]
   ·have A:iR e d.length=true:=by rw[ff];omega
    have⟨o,r,z⟩:=im A;rw[z]at c;simp only at c;have s:=ee (show 0<=e by omega);have y:=ij (a:=e) (b:=1) B B;cases m:vK o.op with
    |false=>
     rw[m,ao J]at c;simp[f,g,h,i,n,p,s,r,m,wv,<-c]
    |true=>
     rw[m,aq rfl]at c;cases k:decide (o.op=5)with
     |true=>
      rw[aL]at k;rw[IR,aq k]at c;have u:decide (o.op=5)=true:=by simpa using k
      simp[f,g,h,i,n,p,s,r,m,wv,u,w];exact c
     |false=>
      have u:decide (o.op=5)=false:=k;rw[aZ]at k;rw[IR,ao k]at c;simp[f,g,h,i,n,p,s,r,m,wv,u,w,y];exact c
 ·rintro l q ⟨rfl,f,h,e,g,c⟩;rw[Nat.sub_self,Cf]at c;have i:¬((d.length:Int)+1<=d.length):=B;simp[f,g,h,i,<-c]
 ·simp[f,g]
def WI{c:fw}(ht:c.p 173=some BI)(a:List fD)(b:Int)(hl:a.length<=140737488355328):rl prog cx c 173 [sl (a.map fD.t),D b]=some (.bool (Cf a (a.length+1) b)):=gG ht QS (a,b) hl
@[simp]def aeC:sl []=T.fK:=id rfl
@[simp]def Vy (c d:ah) (b:fW) (a:T):tc c d b.t a=true:=id rfl
def vw{a:fW}{b:List fW}(c:a.size=0):iM (a::b)=if a.index=0 then(iM b).map (a.name:: ·)else none:=by rw[iM,aq c]
def wU{a:fW}{b:List fW}(c:¬a.size=0)(d:a.size<1\/4<a.size\/(b.length+1:Int)<a.size):iM (a::b)=none:=by rw[iM,ao c,dif_pos d]
def wS{a:fW}{b:List fW}(c:¬a.size=0)(d:¬(a.size<1\/4<a.size\/(b.length+1:Int)<a.size)):iM (a::b)=if JI a (a::b)=true then(iM ((a::b).drop a.size.toNat)).map (a.name:: ·)else none:=by rw[iM,ao c,dif_neg d]
def Dw:∀(e:Nat) (c:List fW),c.length<=e->∀g,iM c=some g->g.length<=c.length:=by
 intro e;induction e with
 |zero=>
  intro c hl g a;have:c=[]:=aS B;subst this;rw[iM]at a;simp at a;subst a;simp
 |succ e k=>
  intro c hl g a;cases c with
  |nil=>rw[iM]at a;simp at a;subst a;simp
  |cons d f=>
   simp at hl;by_cases h:d.size=0
   ·rw[vw h]at a;split at a
    ·cases b:iM f with
     |none=>rw[b]at a;simp at a
     |some i=>rw[b]at a;simp at a;subst a;have:=k f hl i b;simp;omega
    ·simp at a
   ·by_cases j:d.size<1\/4<d.size\/(f.length+1:Int)<d.size
    ·rw[wU h j]at a;simp at a
    ·rw[wS h j]at a;split at a
     ·cases b:iM ((d::f).drop d.size.toNat)with
      |none=>rw[b]at a;simp at a
      |some i=>
       rw[b]at a;simp at a;subst a;have:=k _ dp i b;simp at this|-;omega
     ·simp at a
def wE{d f:Type}(c:d->f)(b:List d){a:Nat}(e:a<b.length):(b.take (a+1)).map c=(b.take a).map c++[c b[a]]:=by
 rw[aT e,List.map_append];rfl
def qO(a:dR):T:=match iM a.cells with|some b=> .tuple [sl ((qk a b).map T.str),.bool true]|none=> .tuple [.fK,.bool false]
def sU:ge:=⟨dR,λa=>[a.t],λa=>a.cells.length<=1000000/\a.dW.length<=1000000/\a.fV.length<=1000000/\a.dU.length<=1000000/\a.dC.length<=1000000,qO,λa c b=>by simp at b;rw[dR.inj b]⟩
def Ls:sU.Ok prog cx 121:=by
 refine fR [] (iP 332312079452150195464880550324504575 [] func121) (λa=>1000002) (by simp[sU]) ?_;rintro(e:dR) hl m bs;simp[sU]at hl bs|-;obtain⟨hl,l2,l3,l4,l5⟩:=hl;simp[f121,bs];have eE:=hl;have⟨h,P⟩:∃h,h=e.cells:=⟨_,rfl⟩;rw[<-P]at hl;refine yU h.length (λd m i=>gH 1 i/\i.get 0=some (Z 6 0 [e.t])/\dy m 1 (.ptr 0 0 0 0)/\dy m 5 (D d)/\∃y v,dy m 4 y/\rx i 0 y 1 (v.map T.str)/\v.length<=d/\(iM (h.drop d)).map (v++ ·)=iM h) ?_ (k:=0) B B ?_;rotate_left
 ·simp[bs]
  first|exact⟨[],rx.nil _ _ _,J,J⟩|exact⟨⟨J,J,J⟩,[],rx.nil _ _ _,J,J⟩
 rintro d m i eD ⟨o,g,j,r,y,v,l,z,eF,p⟩;have W:=o.ne (b:=0) B;by_cases Q:d<h.length
 ·have dv:(d:Int)<h.length:=B;have ap:(d:Int)<e.cells.length:=by rw[<-P];exact dv
  have b8:(e.cells.length:Int)=h.length:=by rw[P]
  have ds:h[d]? =some h[d]:=ay Q;have al:e.cells[d]? =some h[d]:=by rw[<-P];exact ds
  have bu:=aH Q;rw[bu]at p;generalize eC:h[d]=c at*
  obtain⟨q,E,n,G,w⟩:=c;have eb:=z.cons (Z 5 1 [fW.t ⟨q,E,n,G,w⟩]);have dm:(H.cons i (Z 5 1 [fW.t ⟨q,E,n,G,w⟩])).get i.size=some (Z 5 1 [fW.t ⟨q,E,n,G,w⟩]):=J;have dk:(H.cons i (Z 5 1 [fW.t ⟨q,E,n,G,w⟩])).get 0=some (Z 6 0 [e.t]):=by rw[dO,ao (by rw[W];simp)];exact g
  have⟨bn,c6,C,aE,F⟩:=eb.Jn (cx:=cx) pT rfl vn rfl J J q dp;rw[show(H.cons i (Z 5 1 [fW.t ⟨q,E,n,G,w⟩])).size=i.size+1 from rfl]at C;have I:=F.get _ _ dm J;have A:=F.get _ _ dk J;have aN:=F.ok 1 (o.cons _);have ea:i.size<c6.size:=by have:=F.size;simp[H.cons]at this;omega
  have dd:=ij (a:=d) (b:=1) B B;have bz:iM h=none->qO e= .tuple [.fK,.bool false]:=by intro i;unfold qO;rw[<-P,i]
  by_cases aX:n=0
  ·subst aX;rw[vw rfl]at p;simp only at p;by_cases bS:E=0
   ·subst bS;rw[aq rfl]at p;simp[g,j,r,l,W,ap,al,o.low,C,I,A,dd];refine⟨d+1,B,B,aN,J,v++[q],aE,dp,?_⟩;rw[<-p];cases iM (List.drop (d+1) h)<;>simp
   ·rw[ao bS]at p;have hr:=bz (by rw[<-p];rfl);simp[g,j,r,l,W,ap,al,o.low,C,I,A,bS,hr,aN.hp]
  ·have eH:(h.drop (d+1)).length+1=h.length-d:=by rw[List.length_drop];omega
   have ca:=kP (a:=e.cells.length) (b:=d) B B;by_cases cp:n<1\/4<n\/((h.drop (d+1)).length+1:Int)<n
   ·rw[wU aX cp]at p;have hr:=bz (by rw[<-p];rfl);by_cases p1:n<1
    ·simp[g,j,r,l,W,ap,al,o.low,C,I,A,aX,p1,hr,aN.hp]
    ·by_cases p2:4<n
     ·simp[g,j,r,l,W,ap,al,o.low,C,I,A,aX,p1,p2,hr,aN.hp]
     ·have p3:(e.cells.length:Int)-d<n:=B;simp[g,j,r,l,W,ap,al,o.low,C,I,A,aX,p1,p2,p3,hr,aN.hp,ca]
   ·rw[wS aX cp]at p;have p1:¬n<1:=B;have p2:¬4<n:=B;have p3:¬(e.cells.length:Int)-d<n:=B;have b9:JI ⟨q,E,n,G,w⟩ (⟨q,E,n,G,w⟩::List.drop (d+1) h)=allI (λk x=>decide (x=⟨q,k,n,false,w⟩)) 0 ((h.drop d).take n.toNat):=by rw[bu];rfl
    generalize JI ⟨q,E,n,G,w⟩ (⟨q,E,n,G,w⟩::List.drop (d+1) h)=R at*
    obtain⟨s,rfl⟩:∃s:Nat,n=s:=⟨n.toNat,B⟩;rw[cv]at b9 p;simp only at p;have eu:¬s=0:=B;simp[g,j,r,l,W,ap,al,o.low,C,I,A,eu,p1,p2,p3,ca];refine fc s B (λk m L=>gH 1 L/\i.size<L.size/\L.get 0=some (Z 6 0 [e.t])/\dy m 1 (.ptr 0 0 0 0)/\dy m 5 (D d)/\dy m 4 bn/\rx L 0 bn 1 ((v++[q]).map T.str)/\dy m 6 (.ptr i.size 0 0 0)/\dy m 7 (D k)/\
     (∃b6,L.get i.size=some (Z 5 b6 [fW.t ⟨q,E,s,G,w⟩]))/\allI (λk x=>decide (x=⟨q,k,s,false,w⟩)) k (((h.drop d).take s).drop k)=R) ?_ ?_ B ?_
    ·rintro k m L bl a8 ⟨u,ef,g,j,r,l,bB,M,N,⟨b6,K⟩,V⟩;have ae:(k:Int)<s:=B;have dn:d+k<h.length:=B;have av:=u.ne (b:=0) B;have aA:(i.size=L.size)=False:=dp;have O:=ij (a:=d) (b:=k) B B;have Y:jM ((d:Int)+k)=some (d+k):=by rw[ee B];congr 1
     have an:e.cells[d+k]? =some h[d+k]:=by rw[<-P];exact ay dn
     have de:((h.drop d).take s).drop k=h[d+k]::((h.drop d).take s).drop (k+1):=by
      rw[aH (by rw[List.length_take,List.length_drop];omega)];congr 1;rw[List.getElem_take,List.getElem_drop]
     rw[de,allI]at V;generalize h[d+k]=x at*
     obtain⟨bN,bH,bT,b7,bC⟩:=x;have bi:¬(⟨bN,bH,bT,b7,bC⟩:fW)=⟨q,k,s,false,w⟩->qO e= .tuple [.fK,.bool false]:=by
      intro di;rw[aK di,Bool.false_and]at V;rw[<-V,ao J]at p;exact bz (by rw[<-p];rfl)
     have ec:=u.cons (Z 5 1 [fW.t ⟨bN,bH,bT,b7,bC⟩]);by_cases S:bH=k
     ·by_cases X:bN=q
      ·by_cases a7:bT=s
       ·by_cases bk:bC=w
        ·cases b7 with
         |false=>
          subst S X a7 bk;rw[aR rfl,bD]at V;simp[g,j,r,l,M,N,av,aA,ae,K,O,Y,an,u.low,a8];exact⟨ec,B,bB.cons _,V⟩
         |true=>
          have hr:=bi J;simp[g,j,r,l,M,N,av,aA,ae,K,O,Y,an,u.low,S,X,a7,bk,hr,u.hp]
        ·have hr:=bi (by simp[bk]);simp[g,j,r,l,M,N,av,aA,ae,K,O,Y,an,u.low,S,X,a7,bk,hr,u.hp]
       ·have hr:=bi (by simp[a7]);simp[g,j,r,l,M,N,av,aA,ae,K,O,Y,an,u.low,S,X,a7,hr,u.hp]
      ·have hr:=bi (by simp[X]);simp[g,j,r,l,M,N,av,aA,ae,K,O,Y,an,u.low,S,X,hr,u.hp]
     ·have hr:=bi (by simp[S]);simp[g,j,r,l,M,N,av,aA,ae,K,O,Y,an,u.low,S,hr,u.hp]
    ·rintro m L ⟨u,ef,g,j,r,l,bB,M,N,⟨b6,K⟩,V⟩;have c9:R=true:=by rw[<-V,List.drop_eq_nil_of_le (by rw[List.length_take];omega)];rfl
     have O:=ij (a:=d) (b:=s) B B;rw[c9,aq rfl]at p;simp[g,j,r,l,M,N,K,O];refine⟨d+s,B,B,u,J,v++[q],bB,dp,?_⟩;rw[<-p,List.drop_drop.symm,bu];cases iM (List.drop s (_::List.drop (d+1) h))<;>simp
    ·simp[j,r,l];exact⟨aN,ea,A,aE,⟨_,I⟩,b9.symm⟩
 ·have:d=h.length:=B;subst this;have b8:(e.cells.length:Int)=h.length:=by rw[P]
  rw[cW,iM]at p;have eh:iM e.cells=some v:=by rw[<-P,<-p];simp
  have hr:qO e= .tuple [sl ((qk e v).map T.str),.bool true]:=by unfold qO;rw[eh]
  have eB:v.length<=1000000:=B;simp[g,j,r,l,b8];refine fc e.dW.length B (λk m i=>gH 1 i/\i.get 0=some (Z 6 0 [e.t])/\dy m 1 (.ptr 0 0 0 0)/\dy m 9 (D k)/\
   ∃y,dy m 4 y/\rx i 0 y 1 ((v++(e.dW.take k).map (·.name)).map T.str)) ?_ ?_ B ?_
  ·rintro k m i Q a8 ⟨o,g,j,U,y,l,z⟩;have bl:(k:Int)<e.dW.length:=B;have⟨bn,I,C,aE,F⟩:=z.Jn (cx:=cx) pT rfl vn rfl J J (e.dW[k]).name dp;have A:=F.get 0 _ g J;simp[g,j,U,l,bl,Q,o.low,C,a8];refine⟨F.ok 1 o,A,?_⟩;simpa[wE _ _ Q]using aE
  rotate_left
  ·simp[j,l];exact⟨o,g,by simpa using z⟩
  rintro m i ⟨o,g,j,U,y,l,z⟩;simp[g,j,U,l];rw[aJ]at z;refine fc e.fV.length B (λk m i=>gH 1 i/\i.get 0=some (Z 6 0 [e.t])/\dy m 1 (.ptr 0 0 0 0)/\dy m 10 (D k)/\
   ∃y,dy m 4 y/\rx i 0 y 1 ((v++e.dW.map (·.name)++(e.fV.take k).map (·.name)).map T.str)) ?_ ?_ B ?_
  ·rintro k m i Q a8 ⟨o,g,j,U,y,l,z⟩;have bl:(k:Int)<e.fV.length:=B;have⟨bn,I,C,aE,F⟩:=z.Jn (cx:=cx) pT rfl vn rfl J J (e.fV[k]).name dp;have A:=F.get 0 _ g J;simp[g,j,U,l,bl,Q,o.low,C,a8];refine⟨F.ok 1 o,A,?_⟩;simpa[wE _ _ Q]using aE
  rotate_left
  ·simp[j,g,l];exact⟨o,by simpa using z⟩
  rintro m i ⟨o,g,j,U,y,l,z⟩;rw[aJ]at z;have⟨eI,ey,c1,er,cb⟩:=z.Us (cx:=cx) pT rfl vn rfl J J e.dU dp;have cL:=cb.get 0 _ g J;have⟨eL,eA,c4,ce,eo⟩:=er.Us (cx:=cx) pT rfl vn rfl J J e.dC dp;have et:=eo.ok 1 (cb.ok 1 o);have c7:qk e v=v++e.dW.map (·.name)++e.fV.map (·.name)++e.dU++e.dC:=rfl;rw[<-c7]at ce;simp[g,j,U,l,c1,cL,c4,hr,ce.fzM (f:=T.str) J,et.hp]
def Po{b:fw}(ht:b.p 121=some sU)(a:dR)(hl:a.cells.length<=1000000/\a.dW.length<=1000000/\a.fV.length<=1000000/\a.dU.length<=1000000/\a.dC.length<=1000000):rl prog cx b 121 [a.t]=some (qO a):=gG ht Ls a hl
section
def xd:ge:=⟨dR,λa=>[a.t],λa=>True,λa=> .bool (jE a),λa c b=>by simp at b;rw[dR.inj b]⟩
def An{w:dR}:rG w=true↔(w.cells.length<=12/\w.dW.length<=4/\w.fV.length<=2/\w.dU.length<=2/\w.io.length<=60/\1<=w.dC.length/\w.dC.length<=4):=by
 unfold rG;simp;omega
def oz{w:dR}(a:¬(w.cells.length<=12/\w.dW.length<=4/\w.fV.length<=2/\w.dU.length<=2/\w.io.length<=60/\1<=w.dC.length/\w.dC.length<=4)):jE w=false:=by
 unfold jE;have:rG w=false:=by rw[bX];exact λk=>a (An.1 k)
 rw[this];rfl
def ox(w:dR)(k:Nat):Prop:=∃b a:Int,0<=b/\0<=a/\a<=k/\(k=0->b=0/\a=0)/\(∀d c,k=d+1->w.io[d]? =some c->b=c.dQ/\a=c.stmt+1)/\kY w.dC.length b a (w.io.drop k)=kY w.dC.length 0 0 w.io
def ox.zero(w:dR):ox w 0:=⟨0,0,J,J,J,J,J,J⟩
def ox.fin{w:dR}(a:ox w w.io.length):kY w.dC.length 0 0 w.io=true:=by
 obtain⟨c,d,_,_,_,_,_,b⟩:=a;rw[<-b,cW];rfl
section
variable {w:dR}{k:Nat}{s:ik}
theorem ox.cons(h:ox w k)(c:w.io[k]? =some s):∃a b:Int,0<=a/\0<=b/\b<=k/\(k=0->a=0/\b=0)/\(∀f d,k=f+1->w.io[f]? =some d->a=d.dQ/\b=d.stmt+1)/\(if s.dQ<a\/(w.dC.length:Int)<=s.dQ then false else
 if a<s.dQ then(if s.stmt=0 then kY w.dC.length s.dQ 1 (w.io.drop (k+1))else false)else(if s.stmt=b then kY w.dC.length a (b+1) (w.io.drop (k+1))else false))=kY w.dC.length 0 0 w.io:=by
 obtain⟨a,b,g,i,j,l,m,n⟩:=h;have e:k<w.io.length:=by
  rcases aM k w.io.length with h|h
  ·exact h
  ·rw[bL h]at c;simp at c
 have:w.io[k]=s:=by rw[ay e]at c;simpa using c
 refine⟨a,b,g,i,j,l,m,?_⟩;rw[<-n,aH e,this,kY]
def ox.bad(a:ox w k)(c:w.io[k]? =some s)(i:s.dQ<0\/(w.dC.length:Int)<=s.dQ):kY w.dC.length 0 0 w.io=false:=by
 have⟨j,l,d,e,f,g,h,b⟩:=a.cons c;rw[<-b,aq B]
def ox.next(n:ox w k)(j:w.io[k]? =some s)(o:0<=s.dQ)(x:s.dQ<w.dC.length)(p:(k=0/\s.stmt=0)\/∃b a,k=b+1/\w.io[b]? =some a/\((a.dQ=s.dQ/\s.stmt=a.stmt+1)\/(a.dQ<s.dQ/\s.stmt=0))):ox w (k+1):=by
 obtain⟨y,z,t0,A,C,u,r,c⟩:=n.cons j;have t:∀b a,k+1=b+1->w.io[b]? =some a->a=s:=by
  intro b a g h;have:b=k:=B;subst this;rw[j]at h;simpa using h.symm
 have fin:∀d:Int,d=s.stmt+1->0<=d->d<=k+1->kY w.dC.length s.dQ d (w.io.drop (k+1))=kY w.dC.length 0 0 w.io->ox w (k+1):=by
  intro d e f v m;exact⟨s.dQ,d,o,f,B,J,λb a g h=>by rw[t b a g h];exact⟨rfl,e⟩,m⟩
 rcases p with⟨rfl,l⟩|⟨b,a,rfl,g,q⟩
 ·obtain⟨rfl,rfl⟩:=u rfl;rw[ao B]at c;refine fin 1 B B B ?_;rw[<-c];by_cases i:0<s.dQ
  ·rw[aq i,aq l]
  ·rw[ao i,aq l];have:s.dQ=0:=B;rw[this];rfl
 ·obtain⟨rfl,rfl⟩:=r b a rfl g;rcases q with⟨e,f⟩|⟨e,f⟩
  ·rw[ao B,ao B,aq f]at c;refine fin (a.stmt+1+1) B B B ?_;rw[<-c,e]
  ·rw[ao B,aq e,aq f]at c;exact fin 1 B B B c
def ox.no(f:ox w k)(n:w.io[k]? =some s)(g:(k=0/\s.stmt≠0)\/∃b a,k=b+1/\w.io[b]? =some a/\((a.dQ=s.dQ/\s.stmt≠a.stmt+1)\/s.dQ<a.dQ\/(a.dQ≠s.dQ/\s.stmt≠0))):kY w.dC.length 0 0 w.io=false:=by
 have⟨p,q,t0,r,t,o,m,j⟩:=f.cons n;rw[<-j];rcases g with⟨rfl,e⟩|⟨b,a,rfl,h,l⟩
 ·obtain⟨rfl,rfl⟩:=o rfl;rw[ao e,ao e];simp
 ·obtain⟨rfl,rfl⟩:=m b a rfl h;rcases l with⟨c,d⟩|c|⟨c,d⟩
  ·rw[ao d,ao (show¬a.dQ<s.dQ by omega)];simp
  ·rw[aq (.inl c)]
  ·by_cases i:s.dQ<a.dQ
   ·rw[aq (.inl i)]
   ·rw[ao d,aq (show a.dQ<s.dQ by omega)];simp
def ox.rng(c:ox w k){b:Nat}{a:ik}(e:k=b+1)(d:w.io[b]? =some a):0<=a.stmt+1/\a.stmt+1<=k:=by
 obtain⟨l,m,t0,g,h,j,f,i⟩:=c;obtain⟨_,rfl⟩:=f b a e d;exact⟨g,h⟩
end
def Lf:xd.Ok prog cx 68:=by
 refine fR [(121,sU),(122,yc),(123,BP)] (iP 95827739445721067874190659254502973333984266632037375 [] func68) (λa=>100) (by simp[xd]) ?_;rintro(w:dR) _ l r;simp[xd]at r|-;by_cases ce:w.cells.length<=12;rotate_left
 ·simp[f68,r,show(12:Int)<w.cells.length by omega,oz (w:=w) B]
 have I:¬(12:Int)<w.cells.length:=B;by_cases cp:w.dW.length<=4;rotate_left
 ·simp[f68,r,I,show(4:Int)<w.dW.length by omega,oz (w:=w) B]
 have M:¬(4:Int)<w.dW.length:=B;by_cases cL:w.fV.length<=2;rotate_left
 ·simp[f68,r,I,M,show(2:Int)<w.fV.length by omega,oz (w:=w) B]
 have O:¬(2:Int)<w.fV.length:=B;by_cases c1:w.dU.length<=2;rotate_left
 ·simp[f68,r,I,M,O,show(2:Int)<w.dU.length by omega,oz (w:=w) B]
 have V:¬(2:Int)<w.dU.length:=B;by_cases c6:1<=w.dC.length;rotate_left
 ·simp[f68,r,I,M,O,V,show(w.dC.length:Int)<1 by omega,oz (w:=w) B]
 have av:¬(w.dC.length:Int)<1:=B;by_cases c7:w.dC.length<=4;rotate_left
 ·simp[f68,r,I,M,O,V,av,show(4:Int)<w.dC.length by omega,oz (w:=w) B]
 have bi:¬(4:Int)<w.dC.length:=B;by_cases c4:w.io.length<=60;rotate_left
 ·simp[f68,r,I,M,O,V,av,bi,show(60:Int)<w.io.length by omega,oz (w:=w) B]
 have bH:¬(60:Int)<w.io.length:=B;have o:jE w=(Bk w&&(w.fV.all λF=>pB w F.j2 false)&&kY w.dC.length 0 0 w.io):=by
  unfold jE;rw[An.2 ⟨ce,cp,cL,c1,c4,c6,c7⟩,bD]
 have bT:=λ{bC:fw} (ht:bC.p 121=some sU)=>Po ht w ⟨B,B,B,B,B⟩;cases ap:iM w.cells with
 |none=>
  have hr:jE w=false:=by rw[o];unfold Bk;rw[ap];rfl
  have bl:qO w= .tuple [.fK,.bool false]:=by unfold qO;rw[ap]
  simp[f68,r,I,M,O,V,bH,av,bi,bT,bl,hr]
 |some v=>
  have bl:qO w= .tuple [sl ((qk w v).map T.str),.bool true]:=by unfold qO;rw[ap]
  have ea:=Dw _ _ (au _) v ap;have dn:Bk w=u7 (qk w v):=by unfold Bk;rw[ap]
  have dv:(qk w v).length<=24:=by unfold qk;simp;omega
  rw[dn]at o;generalize qk w v=d at*
  simp[f68,r,I,M,O,V,bH,av,bi,bT,bl];refine fc d.length B (λk l h=>gH 1 h/\h.get 0=some (Z 6 0 [w.t])/\dy l 1 (.ptr 0 0 0 0)/\dy l 3 (sl (d.map T.str))/\dy l 5 (D k)/\(d.take k).all tg=true/\(d.take k).Nodup) ?_ ?_ B ?_
  ·rintro k l h G N ⟨c,e,f,W,X,aA,aX⟩;have i:(k:Int)<d.length:=B;have di:d[k]∈d:=aD G;have dk:d=d.take k++d[k]::d.drop (k+1):=by rw[<-aH G,cF]
   have dm:d.take (k+1)=d.take k++[d[k]]:=aT G;have bz:d[k]? =some d[k]:=ay G;generalize d[k]=A at*
   have bS:=λ{bC:fw} (ht:bC.p 123=some BP)=>Mt ht (d.take k) A (by rw[List.length_take];omega);have b7:k<=d.length:=B;cases S:tg A with
   |false=>
    have hr:jE w=false:=by
     rw[o];have:u7 d=false:=by
      unfold u7;have:d.all tg=false:=by rw[List.all_eq_false];exact⟨A,di,by simp[S]⟩
      rw[this];rfl
     rw[this];rfl
    simp[e,f,W,X,i,bz,ni,S,hr,c.hp]
   |true=>
    by_cases aE:A∈d.take k
    ·have hr:jE w=false:=by
      rw[o];have:u7 d=false:=by
       unfold u7;have:¬d.Nodup:=by
        rw[dk];intro h;exact(List.nodup_append.1 h).2.2 A aE A J rfl
       rw[aK this];simp
      rw[this];rfl
     have bn:(0<=rm (d.take k) A 0)=True:=by rw[Ft];simp[aE]
     simp[e,f,W,X,i,bz,ni,S,bS,b7,bn,hr,c.hp]
    ·have bn:(0<=rm (d.take k) A 0)=False:=by rw[Ft];simp[aE]
     simp[e,f,W,X,i,bz,ni,S,bS,b7,bn,N];rw[dm];refine⟨c,?_,?_⟩
     ·intro y K;rcases List.mem_append.1 K with K|K
      ·exact List.all_eq_true.1 aA y K
      ·simp at K;subst K;exact S
     ·rw[List.nodup_append];exact⟨aX,J,λa r b o=>by simp at o;subst o;exact λh=>aE (h▸r)⟩
  rotate_left
  ·simp
   first|done|exact⟨J,J,J⟩
  rintro l h ⟨c,e,f,W,X,aA,aX⟩;rw[aJ]at aA aX;have dd:u7 d=true:=by unfold u7;rw[aA,aR aX];rfl
  rw[dd,bD]at o;simp[e,f,W,X];refine fc w.fV.length B (λk l h=>gH 1 h/\h.get 0=some (Z 6 0 [w.t])/\dy l 1 (.ptr 0 0 0 0)/\dy l 6 (D k)/\
   (w.fV.drop k).all (λF=>pB w F.j2 false)=w.fV.all λF=>pB w F.j2 false) ?_ ?_ B ?_
  ·rintro k l h G N ⟨c,e,f,P,E⟩;have i:(k:Int)<w.fV.length:=B;have g:w.fV[k]? =some w.fV[k]:=ay G;rw[aH G,cq]at E;generalize w.fV[k]=F at*
   obtain⟨cn,L⟩:=F;simp only at E;by_cases bs:iR L w.dW.length=true
   ·obtain⟨A,b9,K⟩:=im bs;have an:=ff.1 bs;have j:¬L<0:=B;have m:¬(w.dW.length:Int)<=L:=B;have aN:pB w L false= !A.rW:=by unfold pB;rw[K];simp
    cases a7:A.rW with
    |false=>
     rw[aN,a7]at E;simp[e,f,P,i,g,j,m,ee an.1,b9,a7,N];exact⟨c,by simpa using E⟩
    |true=>
     rw[aN,a7]at E;have hr:jE w=false:=by rw[o,<-E];rfl
     simp[e,f,P,i,g,j,m,ee an.1,b9,a7,hr,c.hp]
   ·have an:iR L w.dW.length=false:=by simpa using bs
    have S:=D8 an;have aN:pB w L false=false:=by unfold pB;rw[qn an]
    rw[aN]at E;have hr:jE w=false:=by rw[o,<-E];rfl
    by_cases j:L<0
    ·simp[e,f,P,i,g,j,hr,c.hp]
    ·have m:(w.dW.length:Int)<=L:=B;simp[e,f,P,i,g,j,m,hr,c.hp]
  rotate_left
  ·simp[f,e];exact c
  rintro l h ⟨c,e,f,P,E⟩;have c9:(w.fV.all λF=>pB w F.j2 false)=true:=by rw[<-E];simp
  rw[c9,bD]at o;simp[e,f,P];have R:kY w.dC.length 0 0 w.io=false->jE w=false:=λh=>by rw[o,h]
  refine fc w.io.length B (λk l h=>gH 1 h/\h.get 0=some (Z 6 0 [w.t])/\dy l 1 (.ptr 0 0 0 0)/\dy l 8 (D k)/\ox w k) ?_ ?_ B ?_
  ·rintro k l h G N ⟨c,e,f,u,q⟩;have i:(k:Int)<w.io.length:=B;have g:w.io[k]? =some w.io[k]:=ay G;have H:=c.ne (b:=0) B;generalize w.io[k]=s at*
   obtain⟨a8,bB,ec⟩:=s;by_cases j:a8<0
   ·have hr:=R (q.bad g (.inl j));simp[e,f,u,i,g,H,c.low,j,hr,c.hp]
   by_cases m:(w.dC.length:Int)<=a8
   ·have hr:=R (q.bad g (.inr m));simp[e,f,u,i,g,H,c.low,j,m,hr,c.hp]
   by_cases bu:k=0
   ·have b6:(k=0)=True:=by simp[bu]
    have de:(0<k)=False:=dp;by_cases n:bB=0
    ·have Y:=q.next g dq dq (.inl ⟨bu,n⟩);subst n;simp[e,f,u,i,g,H,c.low,j,m,b6,de,N];exact⟨c.cons _,Y⟩
    ·have hr:=R (q.no g (.inl ⟨bu,n⟩));simp[e,f,u,i,g,H,c.low,j,m,b6,n,hr,c.hp]
   ·obtain⟨z,Q⟩:∃z,k=z+1:=⟨k-1,B⟩;have x:w.io[z]? =some w.io[z]:=ay B;generalize w.io[z]=ds at*
    have b8:=q.rng Q x;have U:=kP (a:=(k:Int)) (b:=1) B B;rw[show(k:Int)-1=(z:Int)by omega]at U;obtain⟨cb,ca,eb⟩:=ds;have bN:=ij (a:=ca) (b:=1) (by simp only at b8;omega) (by simp only at b8;omega);have al:(k=0)=False:=dp;have ae:(0<k)=True:=dp;by_cases n:cb=a8
    ·by_cases C:bB=ca+1
     ·have Y:=q.next g dq dq (.inr ⟨z,_,Q,x,.inl ⟨n,C⟩⟩);subst n C;simp[e,f,u,i,g,H,c.low,j,m,al,ae,U,x,bN,N];exact⟨c.cons _,Y⟩
     ·have hr:=R (q.no g (.inr ⟨z,_,Q,x,.inl ⟨n,C⟩⟩));subst n;simp[e,f,u,i,g,H,c.low,j,m,al,ae,U,x,bN,C,hr,c.hp]
    ·by_cases C:bB=0
     ·by_cases bk:a8<cb
      ·have hr:=R (q.no g (.inr ⟨z,_,Q,x,.inr (.inl bk)⟩));subst C;simp[e,f,u,i,g,H,c.low,j,m,al,ae,U,x,n,bk,hr,c.hp]
      ·have Y:=q.next g dq dq (.inr ⟨z,_,Q,x,.inr ⟨dq,C⟩⟩);subst C;simp[e,f,u,i,g,H,c.low,j,m,al,ae,U,x,n,bk,N];exact⟨c.cons _,Y⟩
     ·have hr:=R (q.no g (.inr ⟨z,_,Q,x,.inr (.inr ⟨n,C⟩)⟩));simp[e,f,u,i,g,H,c.low,j,m,al,ae,U,x,n,C,hr,c.hp]
  ·rintro l h ⟨c,e,f,u,q⟩;have hr:jE w=true:=by rw[o,q.fin]
   simp[e,f,u,hr,c.hp]
  ·simp[f,e];exact⟨c,ox.zero w⟩
def yO{a:fw}(ht:a.p 68=some xd)(w:dR):rl prog cx a 68 [w.t]=some (.bool (jE w)):=gG ht Lf w trivial
