/- W06d -/
import Derived.Test.YtajpdafdickapaaGreatDoorA11
set_option linter.all false
set_option maxRecDepth 100000
set_option maxHeartbeats 8000000
namespace Go.Proofs.YtajpdafdickapaaGreatDoor
noncomputable section
open Go Go.TI Tryz
section
attribute [-simp] List.map_take List.map_drop List.map_append
def CY:fP:=⟨List fR×Int,λa=>[sl (a.1.map fR.t),Z a.2],λa=>a.1.length<=140737488355328,λa=> .bool (DC a.1 (a.1.length+1) a.2),λa c b=>by
 simp at b;rw[jz (λ_ _=>fR.inj) b.1,b.2]⟩
def Ud:CY.Ok prog cx 174:=by
 refine fM [(218,xl)] (iQ 4362601011 [] func174) (λa=>a.1.length+2) (by simp[CY]) ?_;rintro⟨d,x⟩ hl l v;simp[CY]at hl v|-;obtain⟨f,g⟩:=v;simp[f174];refine fk (d.length+1) J (λj l q=>q=hE/\dF l 0 (sl (d.map fR.t))/\dF l 5 (Z j)/\∃e:Int,dF l 1 (Z e)/\DC d (d.length+1-j) e=DC d (d.length+1) x) ?_ ?_ J ?_
 ·rintro j l q B w ⟨rfl,f,h,e,g,c⟩;have i:(j:Int)<=d.length:=J;rw[show d.length+1-j=(d.length-j)+1 by omega,DC]at c;by_cases n:e<0
  ·have:uR d e=none:=by unfold uR;rw[ao J]
   rw[this]at c;simp[f,g,h,i,n,<-c]
  ·by_cases p:(d.length:Int)<=e
   ·have:uR d e=none:=by unfold uR;rw[aq J];simp;omega
    rw[this]at c;simp[f,g,h,i,n,p,<-c]
   ·have A:iP e d.length=true:=by rw[eQ];omega
    have⟨o,r,z⟩:=iD A;rw[z]at c;simp only at c;have s:=em (show 0<=e by omega);have y:=iz (a:=e) (b:=1) J J;cases m:xe o.op with
    |false=>
     rw[m,ao dy]at c;simp[f,g,h,i,n,p,s,r,m,xL,<-c]
    |true=>
     rw[m,aq rfl]at c;cases k:decide (o.op=5)with
     |true=>
      rw[aI]at k;rw[La,aq k]at c;have u:decide (o.op=5)=true:=by simpa using k
      simp[f,g,h,i,n,p,s,r,m,xL,u,w];exact c
     |false=>
      have u:decide (o.op=5)=false:=k;rw[bj]at k;rw[La,ao k]at c;simp[f,g,h,i,n,p,s,r,m,xL,u,w,y];exact c
 ·rintro l q ⟨rfl,f,h,e,g,c⟩;rw[Nat.sub_self,DC]at c;have i:¬((d.length:Int)+1<=d.length):=J;simp[f,h,i,<-c]
 ·simp[f,g]
def YY{c:fy}(ht:c.p 174=some CY)(a:List fR)(b:Int)(hl:a.length<=140737488355328):rl prog cx c 174 [sl (a.map fR.t),Z b]=some (.bool (DC a (a.length+1) b)):=gu ht Ud (a,b) hl
@[simp]def afd:sl []=T.gW:=id rfl
def wZ{a:io}{b:List io}(c:a.size=0):jf (a::b)=if a.index=0 then(jf b).map (a.name:: ·)else none:=by rw[jf,aq c]
def yi{a:io}{b:List io}(c:¬a.size=0)(d:a.size<1\/4<a.size\/(b.length+1:Int)<a.size):jf (a::b)=none:=by rw[jf,ao c,dif_pos d]
def yh{a:io}{b:List io}(c:¬a.size=0)(d:¬(a.size<1\/4<a.size\/(b.length+1:Int)<a.size)):jf (a::b)=if L3 a (a::b)=true then(jf ((a::b).drop a.size.toNat)).map (a.name:: ·)else none:=by rw[jf,ao c,dif_neg d]
def Fd:∀(e:Nat) (c:List io),c.length<=e->∀g,jf c=some g->g.length<=c.length:=by
 intro e;induction e with
 |zero=>
  intro c hl g a;have:c=[]:=bg J;subst this;rw[jf]at a;simp at a;subst a;simp
 |succ e k=>
  intro c hl g a;cases c with
  |nil=>rw[jf]at a;simp at a;subst a;simp
  |cons d f=>
   simp at hl;by_cases h:d.size=0
   ·rw[wZ h]at a;split at a
    ·cases b:jf f with
     |none=>rw[b]at a;simp at a
     |some i=>rw[b]at a;simp at a;subst a;have:=k f hl i b;simp;omega
    ·simp at a
   ·by_cases j:d.size<1\/4<d.size\/(f.length+1:Int)<d.size
    ·rw[yi h j]at a;simp at a
    ·rw[yh h j]at a;split at a
     ·cases b:jf ((d::f).drop d.size.toNat)with
      |none=>rw[b]at a;simp at a
      |some i=>
       rw[b]at a;simp at a;subst a;have:=k _ dz i b;simp at this|-;omega
     ·simp at a
def xV{d f:Type}(c:d->f)(b:List d){a:Nat}(e:a<b.length):(b.take (a+1)).map c=(b.take a).map c++[c b[a]]:=by
 rw[aR e,List.map_append];rfl
def sg(a:dZ):T:=match jf a.cells with|some b=> .tuple [sl ((rM a b).map T.str),.bool true]|none=> .tuple [.gW,.bool false]
def un:fP:=⟨dZ,λa=>[a.t],λa=>a.cells.length<=1000000/\a.ei.length<=1000000/\a.gJ.length<=1000000/\a.d8.length<=1000000/\a.dH.length<=1000000,sg,λa c b=>by simp at b;rw[dZ.inj b]⟩
def N4:un.Ok prog cx 128:=by
 refine fM [] (iQ 332312079452150195464880550324504575 [] func128) (λa=>1000002) (by simp[un]) ?_;rintro(e:dZ) hl l bT;simp[un]at hl bT|-;obtain⟨hl,l2,l3,l4,l5⟩:=hl;simp[f128,bT];have eD:=hl;have⟨h,N⟩:∃h,h=e.cells:=⟨_,rfl⟩;rw[<-N]at hl;refine rO h.length (λd l i=>hU 1 i/\i.get 0=some (dE 6 0 [e.t])/\dF l 1 (.ptr 0 0 0 0)/\dF l 5 (Z d)/\∃y v,dF l 4 y/\sP i 0 y 1 (v.map T.str)/\v.length<=d/\(jf (h.drop d)).map (v++ ·)=jf h) ?_ (k:=0) J J ?_;rotate_left
 ·simp
  first|exact⟨[],sP.nil _ _ _,dy,dy⟩|exact⟨⟨dy,dy,dy⟩,[],sP.nil _ _ _,dy,dy⟩
 rintro d l i eC ⟨r,g,j,q,y,v,n,z,eE,o⟩;have dn:=r.ne (b:=0) J;by_cases O:d<h.length
 ·have dm:(d:Int)<h.length:=J;have ae:(d:Int)<e.cells.length:=by rw[<-N];exact dm
  have bX:(e.cells.length:Int)=h.length:=by rw[N]
  have dk:h[d]? =some h[d]:=az O;have X:e.cells[d]? =some h[d]:=by rw[<-N];exact dk
  have a8:=aH O;rw[a8]at o;generalize eB:h[d]=c at*
  obtain⟨p,B,m,D,w⟩:=c;have ea:=z.cons (dE 5 1 [io.t ⟨p,B,m,D,w⟩]);have de:(H.cons i (dE 5 1 [io.t ⟨p,B,m,D,w⟩])).get i.size=some (dE 5 1 [io.t ⟨p,B,m,D,w⟩]):=dy;have dd:(H.cons i (dE 5 1 [io.t ⟨p,B,m,D,w⟩])).get 0=some (dE 6 0 [e.t]):=by rw[dT,ao (by rw[dn];simp)];exact g
  have⟨a7,cL,A,al,C⟩:=ea.LF (cx:=cx) rn rfl wW rfl dy dy p dz;rw[show(H.cons i (dE 5 1 [io.t ⟨p,B,m,D,w⟩])).size=i.size+1 from rfl]at A;have E:=C.get _ _ de dy;have F:=C.get _ _ dd dy;have an:=C.ok 1 (r.cons _);have dv:i.size<cL.size:=by have:=C.size;simp[H.cons]at this;omega
  have c6:=iz (a:=d) (b:=1) J J;have bi:jf h=none->sg e= .tuple [.gW,.bool false]:=by intro i;unfold sg;rw[<-N,i]
  by_cases ap:m=0
  ·subst ap;rw[wZ rfl]at o;simp only at o;by_cases bC:B=0
   ·subst bC;rw[aq rfl]at o;simp[g,j,q,n,ae,X,r.low,A,E,F,c6];refine⟨d+1,J,J,an,dy,v++[p],al,dz,?_⟩;rw[<-o];cases jf (List.drop (d+1) h)<;>simp
   ·rw[ao bC]at o;have hr:=bi (by rw[<-o];rfl);simp[g,j,q,n,ae,X,r.low,A,E,bC,hr,an.hp]
  ·have eF:(h.drop (d+1)).length+1=h.length-d:=by rw[List.length_drop];omega
   have b7:=kx (a:=e.cells.length) (b:=d) J J;by_cases ca:m<1\/4<m\/((h.drop (d+1)).length+1:Int)<m
   ·rw[yi ap ca]at o;have hr:=bi (by rw[<-o];rfl);by_cases p1:m<1
    ·simp[g,j,q,n,ae,X,r.low,A,E,ap,p1,hr,an.hp]
    ·by_cases p2:4<m
     ·simp[g,j,q,n,ae,X,r.low,A,E,ap,p1,p2,hr,an.hp]
     ·have p3:(e.cells.length:Int)-d<m:=J;simp[g,j,q,n,ae,X,r.low,A,E,F,ap,p1,p2,p3,hr,an.hp,b7]
   ·rw[yh ap ca]at o;have p1:¬m<1:=J;have p2:¬4<m:=J;have p3:¬(e.cells.length:Int)-d<m:=J;have b6:L3 ⟨p,B,m,D,w⟩ (⟨p,B,m,D,w⟩::List.drop (d+1) h)=allI (λk x=>decide (x=⟨p,k,m,false,w⟩)) 0 ((h.drop d).take m.toNat):=by rw[a8];rfl
    generalize L3 ⟨p,B,m,D,w⟩ (⟨p,B,m,D,w⟩::List.drop (d+1) h)=R at*
    obtain⟨s,rfl⟩:∃s:Nat,m=s:=⟨m.toNat,J⟩;rw[cz]at b6 o;simp only at o;have et:¬s=0:=J;simp[g,j,q,n,ae,X,r.low,A,E,F,et,p1,p2,p3,b7];refine fk s J (λk l I=>hU 1 I/\i.size<I.size/\I.get 0=some (dE 6 0 [e.t])/\dF l 1 (.ptr 0 0 0 0)/\dF l 5 (Z d)/\dF l 4 a7/\sP I 0 a7 1 ((v++[p]).map T.str)/\dF l 6 (.ptr i.size 0 0 0)/\dF l 7 (Z k)/\
     (∃bN,I.get i.size=some (dE 5 bN [io.t ⟨p,B,s,D,w⟩]))/\allI (λk x=>decide (x=⟨p,k,s,false,w⟩)) k (((h.drop d).take s).drop k)=R) ?_ ?_ J ?_
    ·rintro k l I a6 aA ⟨u,ec,g,j,q,n,bn,K,L,⟨bN,G⟩,S⟩;have W:(k:Int)<s:=J;have di:d+k<h.length:=J;have ds:=u.ne (b:=0) J;have aN:(i.size=I.size)=False:=dz;have M:=iz (a:=d) (b:=k) J J;have V:ks ((d:Int)+k)=some (d+k):=by rw[em J];congr 1
     have Y:e.cells[d+k]? =some h[d+k]:=by rw[<-N];exact az di
     have c7:((h.drop d).take s).drop k=h[d+k]::((h.drop d).take s).drop (k+1):=by
      rw[aH (by rw[List.length_take,List.length_drop];omega)];congr 1;rw[List.getElem_take,List.getElem_drop]
     rw[c7,allI]at S;generalize h[d+k]=x at*
     obtain⟨bB,bu,bH,bS,bs⟩:=x;have aE:¬(⟨bB,bu,bH,bS,bs⟩:io)=⟨p,k,s,false,w⟩->sg e= .tuple [.gW,.bool false]:=by
      intro c9;rw[aM c9,da]at S;rw[<-S,ao dy]at o;exact bi (by rw[<-o];rfl)
     have eb:=u.cons (dE 5 1 [io.t ⟨bB,bu,bH,bS,bs⟩]);by_cases P:bu=k
     ·by_cases U:bB=p
      ·by_cases av:bH=s
       ·by_cases aX:bs=w
        ·cases bS with
         |false=>
          subst P U av aX;rw[aY rfl,aU]at S;simp[g,j,q,n,K,L,ds,aN,W,G,M,V,Y,u.low,aA];exact⟨eb,J,bn.cons _,S⟩
         |true=>
          have hr:=aE dy;simp[g,j,q,K,L,aN,W,G,M,V,Y,u.low,P,U,av,aX,hr,u.hp]
        ·have hr:=aE (by simp[aX]);simp[g,j,q,K,L,aN,W,G,M,V,Y,u.low,P,U,av,aX,hr,u.hp]
       ·have hr:=aE (by simp[av]);simp[g,j,q,K,L,aN,W,G,M,V,Y,u.low,P,U,av,hr,u.hp]
      ·have hr:=aE (by simp[U]);simp[g,j,q,K,L,aN,W,G,M,V,Y,u.low,P,U,hr,u.hp]
     ·have hr:=aE (by simp[P]);simp[g,j,q,K,L,W,G,M,V,Y,u.low,P,hr,u.hp]
    ·rintro l I ⟨u,ec,g,j,q,n,bn,K,L,⟨bN,G⟩,S⟩;have c4:R=true:=by rw[<-S,List.drop_eq_nil_of_le (by rw[List.length_take];omega)];rfl
     have M:=iz (a:=d) (b:=s) J J;rw[c4,aq rfl]at o;simp[g,j,q,n,K,L,G,M];refine⟨d+s,J,J,u,dy,v++[p],bn,dz,?_⟩;rw[<-o,List.drop_drop.symm,a8];cases jf (List.drop s (_::List.drop (d+1) h))<;>simp
    ·simp[j,q];exact⟨an,dv,F,al,⟨_,E⟩,b6.symm⟩
 ·have:d=h.length:=J;subst this;have bX:(e.cells.length:Int)=h.length:=by rw[N]
  rw[bO,jf]at o;have ef:jf e.cells=some v:=by rw[<-N,<-o];simp
  have hr:sg e= .tuple [sl ((rM e v).map T.str),.bool true]:=by unfold sg;rw[ef]
  have eA:v.length<=1000000:=J;simp[g,j,q,bX];refine fk e.ei.length J (λk l i=>hU 1 i/\i.get 0=some (dE 6 0 [e.t])/\dF l 1 (.ptr 0 0 0 0)/\dF l 9 (Z k)/\
   ∃y,dF l 4 y/\sP i 0 y 1 ((v++(e.ei.take k).map (·.name)).map T.str)) ?_ ?_ J ?_
  ·rintro k l i O aA ⟨r,g,j,Q,y,n,z⟩;have a6:(k:Int)<e.ei.length:=J;have⟨a7,E,A,al,C⟩:=z.LF (cx:=cx) rn rfl wW rfl dy dy (e.ei[k]).name dz;have F:=C.get 0 _ g dy;simp[g,j,Q,n,a6,O,A,aA];refine⟨C.ok 1 r,F,?_⟩;simpa[xV _ _ O]using al
  rotate_left
  ·simp[j,n];exact⟨r,g,by simpa using z⟩
  rintro l i ⟨r,g,j,Q,y,n,z⟩;simp[g,j,Q];rw[aK]at z;refine fk e.gJ.length J (λk l i=>hU 1 i/\i.get 0=some (dE 6 0 [e.t])/\dF l 1 (.ptr 0 0 0 0)/\dF l 10 (Z k)/\
   ∃y,dF l 4 y/\sP i 0 y 1 ((v++e.ei.map (·.name)++(e.gJ.take k).map (·.name)).map T.str)) ?_ ?_ J ?_
  ·rintro k l i O aA ⟨r,g,j,Q,y,n,z⟩;have a6:(k:Int)<e.gJ.length:=J;have⟨a7,E,A,al,C⟩:=z.LF (cx:=cx) rn rfl wW rfl dy dy (e.gJ[k]).name dz;have F:=C.get 0 _ g dy;simp[g,j,Q,n,a6,O,A,aA];refine⟨C.ok 1 r,F,?_⟩;simpa[xV _ _ O]using al
  rotate_left
  ·simp[j,g,n];exact⟨r,by simpa using z⟩
  rintro l i ⟨r,g,j,Q,y,n,z⟩;rw[aK]at z;have⟨eH,eu,cp,eo,b8⟩:=z.WM (cx:=cx) rn rfl wW rfl dy dy e.d8 dz;have cb:=b8.get 0 _ g dy;have⟨eI,ey,cy,b9,eh⟩:=eo.WM (cx:=cx) rn rfl wW rfl dy dy e.dH dz;have er:=eh.ok 1 (b8.ok 1 r);have c1:rM e v=v++e.ei.map (·.name)++e.gJ.map (·.name)++e.d8++e.dH:=rfl;rw[<-c1]at b9;simp[g,j,Q,n,cp,cb,cy,hr,b9.fzM (f:=T.str) dy,er.hp]
def Ss{b:fy}(ht:b.p 128=some un)(a:dZ)(hl:a.cells.length<=1000000/\a.ei.length<=1000000/\a.gJ.length<=1000000/\a.d8.length<=1000000/\a.dH.length<=1000000):rl prog cx b 128 [a.t]=some (sg a):=gu ht N4 a hl
section
def yr:fP:=⟨dZ,λa=>[a.t],λa=>True,λa=> .bool (ka a),λa c b=>by simp at b;rw[dZ.inj b]⟩
def Bt{w:dZ}:sX w=true↔(w.cells.length<=12/\w.ei.length<=4/\w.gJ.length<=2/\w.d8.length<=2/\w.iJ.length<=60/\1<=w.dH.length/\w.dH.length<=4):=by
 unfold sX;simp;omega
def pR{w:dZ}(a:¬(w.cells.length<=12/\w.ei.length<=4/\w.gJ.length<=2/\w.d8.length<=2/\w.iJ.length<=60/\1<=w.dH.length/\w.dH.length<=4)):ka w=false:=by
 unfold ka;have:sX w=false:=by rw[cC];exact λk=>a (Bt.1 k)
 rw[this];rfl
def pP(w:dZ)(k:Nat):Prop:=∃b a:Int,0<=b/\0<=a/\a<=k/\(k=0->b=0/\a=0)/\(∀d c,k=d+1->w.iJ[d]? =some c->b=c.dP/\a=c.stmt+1)/\lV w.dH.length b a (w.iJ.drop k)=lV w.dH.length 0 0 w.iJ
def pP.zero(w:dZ):pP w 0:=⟨0,0,dy,dy,dy,dy,dy,dy⟩
def pP.fin{w:dZ}(a:pP w w.iJ.length):lV w.dH.length 0 0 w.iJ=true:=by
 obtain⟨c,d,_,_,_,_,_,b⟩:=a;rw[<-b,bO];rfl
section
variable {w:dZ}{k:Nat}{s:iK}
theorem pP.cons(h:pP w k)(c:w.iJ[k]? =some s):∃a b:Int,0<=a/\0<=b/\b<=k/\(k=0->a=0/\b=0)/\(∀f d,k=f+1->w.iJ[f]? =some d->a=d.dP/\b=d.stmt+1)/\(if s.dP<a\/(w.dH.length:Int)<=s.dP then false else
 if a<s.dP then(if s.stmt=0 then lV w.dH.length s.dP 1 (w.iJ.drop (k+1))else false)else(if s.stmt=b then lV w.dH.length a (b+1) (w.iJ.drop (k+1))else false))=lV w.dH.length 0 0 w.iJ:=by
 obtain⟨a,b,g,i,j,l,m,n⟩:=h;have e:k<w.iJ.length:=by
  rcases aQ k w.iJ.length with h|h
  ·exact h
  ·rw[bQ h]at c;simp at c
 have:w.iJ[k]=s:=by rw[az e]at c;simpa using c
 refine⟨a,b,g,i,j,l,m,?_⟩;rw[<-n,aH e,this,lV]
def pP.bad(a:pP w k)(c:w.iJ[k]? =some s)(i:s.dP<0\/(w.dH.length:Int)<=s.dP):lV w.dH.length 0 0 w.iJ=false:=by
 have⟨j,l,d,e,f,g,h,b⟩:=a.cons c;rw[<-b,aq J]
def pP.next(n:pP w k)(j:w.iJ[k]? =some s)(o:0<=s.dP)(x:s.dP<w.dH.length)(p:(k=0/\s.stmt=0)\/∃b a,k=b+1/\w.iJ[b]? =some a/\((a.dP=s.dP/\s.stmt=a.stmt+1)\/(a.dP<s.dP/\s.stmt=0))):pP w (k+1):=by
 obtain⟨y,z,t0,A,B,u,r,c⟩:=n.cons j;have t:∀b a,k+1=b+1->w.iJ[b]? =some a->a=s:=by
  intro b a g h;have:b=k:=J;subst this;rw[j]at h;simpa using h.symm
 have fin:∀d:Int,d=s.stmt+1->0<=d->d<=k+1->lV w.dH.length s.dP d (w.iJ.drop (k+1))=lV w.dH.length 0 0 w.iJ->pP w (k+1):=by
  intro d e f v m;exact⟨s.dP,d,o,f,J,dy,λb a g h=>by rw[t b a g h];exact⟨rfl,e⟩,m⟩
 rcases p with⟨rfl,l⟩|⟨b,a,rfl,g,q⟩
 ·obtain⟨rfl,rfl⟩:=u rfl;rw[ao J]at c;refine fin 1 J J J ?_;rw[<-c];by_cases i:0<s.dP
  ·rw[aq i,aq l]
  ·rw[ao i,aq l];have:s.dP=0:=J;rw[this];rfl
 ·obtain⟨rfl,rfl⟩:=r b a rfl g;rcases q with⟨e,f⟩|⟨e,f⟩
  ·rw[ao J,ao J,aq f]at c;refine fin (a.stmt+1+1) J J J ?_;rw[<-c,e]
  ·rw[ao J,aq e,aq f]at c;exact fin 1 J J J c
def pP.no(e:pP w k)(m:w.iJ[k]? =some s)(f:(k=0/\s.stmt≠0)\/∃b a,k=b+1/\w.iJ[b]? =some a/\((a.dP=s.dP/\s.stmt≠a.stmt+1)\/s.dP<a.dP\/(a.dP≠s.dP/\s.stmt≠0))):lV w.dH.length 0 0 w.iJ=false:=by
 have⟨o,p,t0,q,r,n,l,i⟩:=e.cons m;rw[<-i];rcases f with⟨rfl,d⟩|⟨b,a,rfl,g,j⟩
 ·obtain⟨rfl,rfl⟩:=n rfl;rw[ao d,ao d];simp
 ·obtain⟨rfl,rfl⟩:=l b a rfl g;rcases j with⟨e1,c⟩|e1|⟨e1,c⟩
  ·rw[ao c,ao (show¬a.dP<s.dP by omega)];simp
  ·rw[aq (.inl e1)]
  ·by_cases h:s.dP<a.dP
   ·rw[aq (.inl h)]
   ·rw[ao c,aq (show a.dP<s.dP by omega)];simp
def pP.rng(c:pP w k){b:Nat}{a:iK}(e:k=b+1)(d:w.iJ[b]? =some a):0<=a.stmt+1/\a.stmt+1<=k:=by
 obtain⟨l,m,t0,g,h,j,f,i⟩:=c;obtain⟨_,rfl⟩:=f b a e d;exact⟨g,h⟩
end
def NO:yr.Ok prog cx 81:=by
 refine fM [(128,un),(129,zl),(130,C4)] (iQ 95827739445721067874190659254502973333984266632037375 [] func81) (λa=>100) (by simp[yr]) ?_;rintro(w:dZ) _ l r;simp[yr]at r|-;by_cases cb:w.cells.length<=12;rotate_left
 ·simp[f81,r,show(12:Int)<w.cells.length by omega,pR (w:=w) J]
 have F:¬(12:Int)<w.cells.length:=J;by_cases cp:w.ei.length<=4;rotate_left
 ·simp[f81,r,F,show(4:Int)<w.ei.length by omega,pR (w:=w) J]
 have K:¬(4:Int)<w.ei.length:=J;by_cases cy:w.gJ.length<=2;rotate_left
 ·simp[f81,r,F,K,show(2:Int)<w.gJ.length by omega,pR (w:=w) J]
 have M:¬(2:Int)<w.gJ.length:=J;by_cases cL:w.d8.length<=2;rotate_left
 ·simp[f81,r,F,K,M,show(2:Int)<w.d8.length by omega,pR (w:=w) J]
 have S:¬(2:Int)<w.d8.length:=J;by_cases c4:1<=w.dH.length;rotate_left
 ·simp[f81,r,F,K,M,S,show(w.dH.length:Int)<1 by omega,pR (w:=w) J]
 have al:¬(w.dH.length:Int)<1:=J;by_cases c6:w.dH.length<=4;rotate_left
 ·simp[f81,r,F,K,M,S,al,show(4:Int)<w.dH.length by omega,pR (w:=w) J]
 have aX:¬(4:Int)<w.dH.length:=J;by_cases c1:w.iJ.length<=60;rotate_left
 ·simp[f81,r,F,K,M,S,al,aX,show(60:Int)<w.iJ.length by omega,pR (w:=w) J]
 have bC:¬(60:Int)<w.iJ.length:=J;have o:ka w=(CB w&&(w.gJ.all λD=>uF w D.kJ false)&&lV w.dH.length 0 0 w.iJ):=by
  unfold ka;rw[Bt.2 ⟨cb,cp,cy,cL,c1,c4,c6⟩,aU]
 have bT:=λ{bB:fy} (ht:bB.p 128=some un)=>Ss ht w ⟨J,J,J,J,J⟩;cases ae:jf w.cells with
 |none=>
  have hr:ka w=false:=by rw[o];unfold CB;rw[ae];rfl
  have a7:sg w= .tuple [.gW,.bool false]:=by unfold sg;rw[ae]
  simp[f81,r,F,K,M,S,bC,al,aX,bT,a7,hr]
 |some v=>
  have a7:sg w= .tuple [sl ((rM w v).map T.str),.bool true]:=by unfold sg;rw[ae]
  have ds:=Fd _ _ (au _) v ae;have dm:CB w=wJ (rM w v):=by unfold CB;rw[ae]
  have dn:(rM w v).length<=24:=by unfold rM;simp;omega
  rw[dm]at o;generalize rM w v=d at*
  simp[f81,r,F,K,M,S,bC,al,aX,bT,a7];refine fk d.length J (λk l h=>hU 1 h/\h.get 0=some (dE 6 0 [w.t])/\dF l 1 (.ptr 0 0 0 0)/\dF l 3 (sl (d.map T.str))/\dF l 5 (Z k)/\(d.take k).all uD=true/\(d.take k).Nodup) ?_ ?_ J ?_
  ·rintro k l h E L ⟨c,e,f,U,V,an,aA⟩;have i:(k:Int)<d.length:=J;have de:d[k]∈d:=aD E;have di:d=d.take k++d[k]::d.drop (k+1):=by rw[<-aH E,cT]
   have dk:d.take (k+1)=d.take k++[d[k]]:=aR E;have bs:d[k]? =some d[k]:=az E;generalize d[k]=A at*
   have bS:=λ{bB:fy} (ht:bB.p 130=some C4)=>Pe ht (d.take k) A (by rw[List.length_take];omega);have b6:k<=d.length:=J;cases Q:uD A with
   |false=>
    have hr:ka w=false:=by
     rw[o];have:wJ d=false:=by
      unfold wJ;have:d.all uD=false:=by rw[List.all_eq_false];exact⟨A,de,by simp[Q]⟩
      rw[this];rfl
     rw[this];rfl
    simp[U,V,i,bs,qq,Q,hr,c.hp]
   |true=>
    by_cases ap:A∈d.take k
    ·have hr:ka w=false:=by
      rw[o];have:wJ d=false:=by
       unfold wJ;have:¬d.Nodup:=by
        rw[di];intro h;exact(List.nodup_append.1 h).2.2 A ap A dy rfl
       rw[aM this];simp
      rw[this];rfl
     have a8:(0<=sN (d.take k) A 0)=True:=by rw[HV];simp[ap]
     simp[U,V,i,bs,qq,Q,bS,b6,a8,hr,c.hp]
    ·have a8:(0<=sN (d.take k) A 0)=False:=by rw[HV];simp[ap]
     simp[e,f,U,V,i,bs,qq,Q,bS,b6,a8,L];rw[dk];refine⟨c,?_,?_⟩
     ·intro y H;rcases List.mem_append.1 H with H|H
      ·exact List.all_eq_true.1 an y H
      ·simp at H;subst H;exact Q
     ·rw[List.nodup_append];exact⟨aA,dy,λa r b o=>by simp at o;subst o;exact λh=>ap (h▸r)⟩
  rotate_left
  ·simp
   first|done|exact⟨dy,dy,dy⟩
  rintro l h ⟨c,e,f,U,V,an,aA⟩;rw[aK]at an aA;have c9:wJ d=true:=by unfold wJ;rw[an,aY aA];rfl
  rw[c9,aU]at o;simp[U,V];refine fk w.gJ.length J (λk l h=>hU 1 h/\h.get 0=some (dE 6 0 [w.t])/\dF l 1 (.ptr 0 0 0 0)/\dF l 6 (Z k)/\
   (w.gJ.drop k).all (λD=>uF w D.kJ false)=w.gJ.all λD=>uF w D.kJ false) ?_ ?_ J ?_
  ·rintro k l h E L ⟨c,e,f,N,C⟩;have i:(k:Int)<w.gJ.length:=J;have g:w.gJ[k]? =some w.gJ[k]:=az E;rw[aH E,bZ]at C;generalize w.gJ[k]=D at*
   obtain⟨cn,I⟩:=D;simp only at C;by_cases bi:iP I w.ei.length=true
   ·obtain⟨A,b8,H⟩:=iD bi;have Y:=eQ.1 bi;have j:¬I<0:=J;have m:¬(w.ei.length:Int)<=I:=J;have av:uF w I false= !A.rW:=by unfold uF;rw[H];simp
    cases aE:A.rW with
    |false=>
     rw[av,aE]at C;simp[e,f,N,i,g,j,m,em Y.1,b8,aE,L];exact⟨c,by simpa using C⟩
    |true=>
     rw[av,aE]at C;have hr:ka w=false:=by rw[o,<-C];rfl
     simp[e,f,N,i,g,j,m,em Y.1,b8,aE,hr,c.hp]
   ·have Y:iP I w.ei.length=false:=by simpa using bi
    have Q:=pY Y;have av:uF w I false=false:=by unfold uF;rw[nQ Y]
    rw[av]at C;have hr:ka w=false:=by rw[o,<-C];rfl
    by_cases j:I<0
    ·simp[e,f,N,i,g,j,hr,c.hp]
    ·have m:(w.ei.length:Int)<=I:=J;simp[e,f,N,i,g,j,m,hr,c.hp]
  rotate_left
  ·simp[f,e];exact c
  rintro l h ⟨c,e,f,N,C⟩;have c7:(w.gJ.all λD=>uF w D.kJ false)=true:=by rw[<-C];simp
  rw[c7,aU]at o;simp[e,f,N];have P:lV w.dH.length 0 0 w.iJ=false->ka w=false:=λh=>by rw[o,h]
  refine fk w.iJ.length J (λk l h=>hU 1 h/\h.get 0=some (dE 6 0 [w.t])/\dF l 1 (.ptr 0 0 0 0)/\dF l 8 (Z k)/\pP w k) ?_ ?_ J ?_
  ·rintro k l h E L ⟨c,e,f,u,q⟩;have i:(k:Int)<w.iJ.length:=J;have g:w.iJ[k]? =some w.iJ[k]:=az E;have G:=c.ne (b:=0) J;generalize w.iJ[k]=s at*
   obtain⟨aN,bu,ea⟩:=s;by_cases j:aN<0
   ·have hr:=P (q.bad g (.inl j));simp[e,f,u,i,g,c.low,j,hr,c.hp]
   by_cases m:(w.dH.length:Int)<=aN
   ·have hr:=P (q.bad g (.inr m));simp[e,f,u,i,g,G,c.low,j,m,hr,c.hp]
   by_cases bn:k=0
   ·have bX:(k=0)=True:=by simp[bn]
    have dd:(0<k)=False:=dz;by_cases n:bu=0
    ·have W:=q.next g dA dA (.inl ⟨bn,n⟩);subst n;simp[e,f,u,i,g,G,c.low,j,m,bX,dd,L];exact⟨c.cons _,W⟩
    ·have hr:=P (q.no g (.inl ⟨bn,n⟩));simp[e,f,u,i,g,G,c.low,j,m,bX,n,hr,c.hp]
   ·obtain⟨z,O⟩:∃z,k=z+1:=⟨k-1,J⟩;have x:w.iJ[z]? =some w.iJ[z]:=az J;generalize w.iJ[z]=p at*
    have b7:=q.rng O x;have R:=kx (a:=(k:Int)) (b:=1) J J;rw[show(k:Int)-1=(z:Int)by omega]at R;obtain⟨ca,b9,dv⟩:=p;have bN:=iz (a:=b9) (b:=1) (by simp only at b7;omega) (by simp only at b7;omega);have X:(k=0)=False:=dz;have bH:(0<k)=True:=dz;by_cases n:ca=aN
    ·by_cases B:bu=b9+1
     ·have W:=q.next g dA dA (.inr ⟨z,_,O,x,.inl ⟨n,B⟩⟩);subst n B;simp[e,f,u,i,g,G,c.low,j,m,X,R,x,bN,L];exact⟨c.cons _,W⟩
     ·have hr:=P (q.no g (.inr ⟨z,_,O,x,.inl ⟨n,B⟩⟩));subst n;simp[e,f,u,i,g,G,c.low,j,m,X,R,x,bN,B,hr,c.hp]
    ·by_cases B:bu=0
     ·by_cases a6:aN<ca
      ·have hr:=P (q.no g (.inr ⟨z,_,O,x,.inr (.inl a6)⟩));subst B;simp[e,f,u,i,g,G,c.low,j,m,X,bH,R,x,n,a6,hr,c.hp]
      ·have W:=q.next g dA dA (.inr ⟨z,_,O,x,.inr ⟨dA,B⟩⟩);subst B;simp[e,f,u,i,g,G,c.low,j,m,X,bH,R,x,n,a6,L];exact⟨c.cons _,W⟩
     ·have hr:=P (q.no g (.inr ⟨z,_,O,x,.inr (.inr ⟨n,B⟩)⟩));simp[e,f,u,i,g,G,c.low,j,m,X,R,x,n,B,hr,c.hp]
  ·rintro l h ⟨c,e,f,u,q⟩;have hr:ka w=true:=by rw[o,q.fin]
   simp[e,f,u,hr,c.hp]
  ·simp[f,e];exact⟨c,pP.zero w⟩
def Ap{a:fy}(ht:a.p 81=some yr)(w:dZ):rl prog cx a 81 [w.t]=some (.bool (ka w)):=gu ht NO w trivial
