/- W06d -/
import Derived.Test.YtajpdafdickapaaGreatDoorA11
set_option linter.all false
set_option maxRecDepth 100000
set_option maxHeartbeats 8000000
namespace Go.Proofs.YtajpdafdickapaaGreatDoor
noncomputable section
open Go Go.TI Tryz
section
attribute [-simp] List.map_take List.map_drop List.map_append
def C4:gG:=⟨List fR×Int,λa=>[sl (a.1.map fR.t),Z a.2],λa=>a.1.length<=140737488355328,λa=> .bool (DH a.1 (a.1.length+1) a.2),λa c b=>by
 simp at b;rw[jx (λ_ _=>fR.inj) b.1,b.2]⟩
def Tc:C4.Ok prog cx 174:=by
 refine fZ [(218,xc)] (iX 4362601011 [] func174) (λa=>a.1.length+2) (by simp[C4]) ?_;rintro⟨d,x⟩ hl l v;simp[C4]at hl v|-;obtain⟨f,g⟩:=v;simp[f174];refine fD (d.length+1) J (λj l q=>q=hE/\dF l 0 (sl (d.map fR.t))/\dF l 5 (Z j)/\∃e:Int,dF l 1 (Z e)/\DH d (d.length+1-j) e=DH d (d.length+1) x) ?_ ?_ J ?_
 ·rintro j l q B w ⟨rfl,f,h,e,g,c⟩;have i:(j:Int)<=d.length:=J;rw[show d.length+1-j=(d.length-j)+1 by omega,DH]at c;by_cases n:e<0
  ·have:rf d e=none:=by unfold rf;rw[aq J]
   rw[this]at c;simp[f,g,h,i,n,<-c]
  ·by_cases p:(d.length:Int)<=e
   ·have:rf d e=none:=by unfold rf;rw[ar J];simp;omega
    rw[this]at c;simp[f,g,h,i,n,p,<-c]
   ·have A:iN e d.length=true:=by rw[eZ];omega
    have⟨o,r,z⟩:=iD A;rw[z]at c;simp only at c;have s:=eG (show 0<=e by omega);have y:=iL (a:=e) (b:=1) J J;cases m:wZ o.op with
    |false=>
     rw[m,aq dy]at c;simp[f,g,h,i,n,p,s,r,m,xC,<-c]
    |true=>
     rw[m,ar rfl]at c;cases k:decide (o.op=5)with
     |true=>
      rw[aO]at k;rw[KE,ar k]at c;have u:decide (o.op=5)=true:=by simpa using k
      simp[f,g,h,i,n,p,s,r,m,xC,u,w];exact c
     |false=>
      have u:decide (o.op=5)=false:=k;rw[bU]at k;rw[KE,aq k]at c;simp[f,g,h,i,n,p,s,r,m,xC,u,w,y];exact c
 ·rintro l q ⟨rfl,f,h,e,g,c⟩;rw[Nat.sub_self,DH]at c;have i:¬((d.length:Int)+1<=d.length):=J;simp[f,h,i,<-c]
 ·simp[f,g]
def X4{c:fJ}(ht:c.p 174=some C4)(a:List fR)(b:Int)(hl:a.length<=140737488355328):rl prog cx c 174 [sl (a.map fR.t),Z b]=some (.bool (DH a (a.length+1) b)):=im ht Tc (a,b) hl
@[simp]def aen:sl []=T.gX:=id rfl
def wS{a:iq}{b:List iq}(c:a.size=0):je (a::b)=if a.index=0 then(je b).map (a.name:: ·)else none:=by rw[je,ar c]
def xX{a:iq}{b:List iq}(c:¬a.size=0)(d:a.size<1\/4<a.size\/(b.length+1:Int)<a.size):je (a::b)=none:=by rw[je,aq c,dif_pos d]
def xW{a:iq}{b:List iq}(c:¬a.size=0)(d:¬(a.size<1\/4<a.size\/(b.length+1:Int)<a.size)):je (a::b)=if Lr a (a::b)=true then(je ((a::b).drop a.size.toNat)).map (a.name:: ·)else none:=by rw[je,aq c,dif_neg d]
def E7:∀(e:Nat) (c:List iq),c.length<=e->∀g,je c=some g->g.length<=c.length:=by
 intro e;induction e with
 |zero=>
  intro c hl g a;have:c=[]:=bg J;subst this;rw[je]at a;simp at a;subst a;simp
 |succ e k=>
  intro c hl g a;cases c with
  |nil=>rw[je]at a;simp at a;subst a;simp
  |cons d f=>
   simp at hl;by_cases h:d.size=0
   ·rw[wS h]at a;split at a
    ·cases b:je f with
     |none=>rw[b]at a;simp at a
     |some i=>rw[b]at a;simp at a;subst a;have:=k f hl i b;simp;omega
    ·simp at a
   ·by_cases j:d.size<1\/4<d.size\/(f.length+1:Int)<d.size
    ·rw[xX h j]at a;simp at a
    ·rw[xW h j]at a;split at a
     ·cases b:je ((d::f).drop d.size.toNat)with
      |none=>rw[b]at a;simp at a
      |some i=>
       rw[b]at a;simp at a;subst a;have:=k _ dz i b;simp at this|-;omega
     ·simp at a
def xJ{d f:Type}(c:d->f)(b:List d){a:Nat}(e:a<b.length):(b.take (a+1)).map c=(b.take a).map c++[c b[a]]:=by
 rw[aQ e,List.map_append];rfl
def sj(a:dY):T:=match je a.cells with|some b=> .tuple [sl ((rJ a b).map T.str),.bool true]|none=> .tuple [.gX,.bool false]
def ul:gG:=⟨dY,λa=>[a.t],λa=>a.cells.length<=1000000/\a.ei.length<=1000000/\a.gF.length<=1000000/\a.ee.length<=1000000/\a.dH.length<=1000000,sj,λa c b=>by simp at b;rw[dY.inj b]⟩
def Nr:ul.Ok prog cx 128:=by
 refine fZ [] (iX 332312079452150195464880550324504575 [] func128) (λa=>1000002) (by simp[ul]) ?_;rintro(e:dY) hl l bT;simp[ul]at hl bT|-;obtain⟨hl,l2,l3,l4,l5⟩:=hl;simp[f128,bT];have eF:=hl;have⟨h,N⟩:∃h,h=e.cells:=⟨_,rfl⟩;rw[<-N]at hl;refine Ce h.length (λd l i=>il 1 i/\i.get 0=some (dE 6 0 [e.t])/\dF l 1 (.ptr 0 0 0 0)/\dF l 5 (Z d)/\∃y v,dF l 4 y/\sR i 0 y 1 (v.map T.str)/\v.length<=d/\(je (h.drop d)).map (v++ ·)=je h) ?_ (k:=0) J J ?_;rotate_left
 ·simp
  first|exact⟨[],sR.nil _ _ _,dy,dy⟩|exact⟨⟨dy,dy,dy⟩,[],sR.nil _ _ _,dy,dy⟩
 rintro d l i eE ⟨r,g,j,q,y,v,n,z,eH,o⟩;have dv:=r.ne (b:=0) J;by_cases O:d<h.length
 ·have ds:(d:Int)<h.length:=J;have ae:(d:Int)<e.cells.length:=by rw[<-N];exact ds
  have b6:(e.cells.length:Int)=h.length:=by rw[N]
  have dn:h[d]? =some h[d]:=az O;have X:e.cells[d]? =some h[d]:=by rw[<-N];exact dn
  have a8:=aI O;rw[a8]at o;generalize eD:h[d]=c at*
  obtain⟨p,B,m,D,w⟩:=c;have ec:=z.cons (dE 5 1 [iq.t ⟨p,B,m,D,w⟩]);have dk:(H.cons i (dE 5 1 [iq.t ⟨p,B,m,D,w⟩])).get i.size=some (dE 5 1 [iq.t ⟨p,B,m,D,w⟩]):=dy;have di:(H.cons i (dE 5 1 [iq.t ⟨p,B,m,D,w⟩])).get 0=some (dE 6 0 [e.t]):=by rw[dS,aq (by rw[dv];simp)];exact g
  have⟨a7,c4,A,al,C⟩:=ec.K5 (cx:=cx) qY rfl wO rfl dy dy p dz;rw[show(H.cons i (dE 5 1 [iq.t ⟨p,B,m,D,w⟩])).size=i.size+1 from rfl]at A;have E:=C.get _ _ dk dy;have F:=C.get _ _ di dy;have an:=C.ok 1 (r.cons _);have eb:i.size<c4.size:=by have:=C.size;simp[H.cons]at this;omega
  have c9:=iL (a:=d) (b:=1) J J;have bi:je h=none->sj e= .tuple [.gX,.bool false]:=by intro i;unfold sj;rw[<-N,i]
  by_cases ap:m=0
  ·subst ap;rw[wS rfl]at o;simp only at o;by_cases bC:B=0
   ·subst bC;rw[ar rfl]at o;simp[g,j,q,n,ae,X,r.low,A,E,F,c9];refine⟨d+1,J,J,an,dy,v++[p],al,dz,?_⟩;rw[<-o];cases je (List.drop (d+1) h)<;>simp
   ·rw[aq bC]at o;have hr:=bi (by rw[<-o];rfl);simp[g,j,q,n,ae,X,r.low,A,E,bC,hr,an.hp]
  ·have eI:(h.drop (d+1)).length+1=h.length-d:=by rw[List.length_drop];omega
   have b8:=kU (a:=e.cells.length) (b:=d) J J;by_cases cb:m<1\/4<m\/((h.drop (d+1)).length+1:Int)<m
   ·rw[xX ap cb]at o;have hr:=bi (by rw[<-o];rfl);by_cases p1:m<1
    ·simp[g,j,q,n,ae,X,r.low,A,E,ap,p1,hr,an.hp]
    ·by_cases p2:4<m
     ·simp[g,j,q,n,ae,X,r.low,A,E,ap,p1,p2,hr,an.hp]
     ·have p3:(e.cells.length:Int)-d<m:=J;simp[g,j,q,n,ae,X,r.low,A,E,F,ap,p1,p2,p3,hr,an.hp,b8]
   ·rw[xW ap cb]at o;have p1:¬m<1:=J;have p2:¬4<m:=J;have p3:¬(e.cells.length:Int)-d<m:=J;have b7:Lr ⟨p,B,m,D,w⟩ (⟨p,B,m,D,w⟩::List.drop (d+1) h)=allI (λk x=>decide (x=⟨p,k,m,false,w⟩)) 0 ((h.drop d).take m.toNat):=by rw[a8];rfl
    generalize Lr ⟨p,B,m,D,w⟩ (⟨p,B,m,D,w⟩::List.drop (d+1) h)=R at*
    obtain⟨s,rfl⟩:∃s:Nat,m=s:=⟨m.toNat,J⟩;rw[cj]at b7 o;simp only at o;have ey:¬s=0:=J;simp[g,j,q,n,ae,X,r.low,A,E,F,ey,p1,p2,p3,b8];refine fD s J (λk l I=>il 1 I/\i.size<I.size/\I.get 0=some (dE 6 0 [e.t])/\dF l 1 (.ptr 0 0 0 0)/\dF l 5 (Z d)/\dF l 4 a7/\sR I 0 a7 1 ((v++[p]).map T.str)/\dF l 6 (.ptr i.size 0 0 0)/\dF l 7 (Z k)/\
     (∃bN,I.get i.size=some (dE 5 bN [iq.t ⟨p,B,s,D,w⟩]))/\allI (λk x=>decide (x=⟨p,k,s,false,w⟩)) k (((h.drop d).take s).drop k)=R) ?_ ?_ J ?_
    ·rintro k l I a6 aA ⟨u,eh,g,j,q,n,bn,K,L,⟨bN,G⟩,S⟩;have W:(k:Int)<s:=J;have dm:d+k<h.length:=J;have ea:=u.ne (b:=0) J;have aN:(i.size=I.size)=False:=dz;have M:=iL (a:=d) (b:=k) J J;have V:kt ((d:Int)+k)=some (d+k):=by rw[eG J];congr 1
     have Y:e.cells[d+k]? =some h[d+k]:=by rw[<-N];exact az dm
     have dd:((h.drop d).take s).drop k=h[d+k]::((h.drop d).take s).drop (k+1):=by
      rw[aI (by rw[List.length_take,List.length_drop];omega)];congr 1;rw[List.getElem_take,List.getElem_drop]
     rw[dd,allI]at S;generalize h[d+k]=x at*
     obtain⟨bB,bu,bH,bS,bs⟩:=x;have aE:¬(⟨bB,bu,bH,bS,bs⟩:iq)=⟨p,k,s,false,w⟩->sj e= .tuple [.gX,.bool false]:=by
      intro de;rw[aM de,c8]at S;rw[<-S,aq dy]at o;exact bi (by rw[<-o];rfl)
     have ef:=u.cons (dE 5 1 [iq.t ⟨bB,bu,bH,bS,bs⟩]);by_cases P:bu=k
     ·by_cases U:bB=p
      ·by_cases av:bH=s
       ·by_cases aX:bs=w
        ·cases bS with
         |false=>
          subst P U av aX;rw[aV rfl,aZ]at S;simp[g,j,q,n,K,L,ea,aN,W,G,M,V,Y,u.low,aA];exact⟨ef,J,bn.cons _,S⟩
         |true=>
          have hr:=aE dy;simp[g,j,q,K,L,aN,W,G,M,V,Y,u.low,P,U,av,aX,hr,u.hp]
        ·have hr:=aE (by simp[aX]);simp[g,j,q,K,L,aN,W,G,M,V,Y,u.low,P,U,av,aX,hr,u.hp]
       ·have hr:=aE (by simp[av]);simp[g,j,q,K,L,aN,W,G,M,V,Y,u.low,P,U,av,hr,u.hp]
      ·have hr:=aE (by simp[U]);simp[g,j,q,K,L,aN,W,G,M,V,Y,u.low,P,U,hr,u.hp]
     ·have hr:=aE (by simp[P]);simp[g,j,q,K,L,W,G,M,V,Y,u.low,P,hr,u.hp]
    ·rintro l I ⟨u,eh,g,j,q,n,bn,K,L,⟨bN,G⟩,S⟩;have c7:R=true:=by rw[<-S,List.drop_eq_nil_of_le (by rw[List.length_take];omega)];rfl
     have M:=iL (a:=d) (b:=s) J J;rw[c7,ar rfl]at o;simp[g,j,q,n,K,L,G,M];refine⟨d+s,J,J,u,dy,v++[p],bn,dz,?_⟩;rw[<-o,List.drop_drop.symm,a8];cases je (List.drop s (_::List.drop (d+1) h))<;>simp
    ·simp[j,q];exact⟨an,eb,F,al,⟨_,E⟩,b7.symm⟩
 ·have:d=h.length:=J;subst this;have b6:(e.cells.length:Int)=h.length:=by rw[N]
  rw[bO,je]at o;have eo:je e.cells=some v:=by rw[<-N,<-o];simp
  have hr:sj e= .tuple [sl ((rJ e v).map T.str),.bool true]:=by unfold sj;rw[eo]
  have eC:v.length<=1000000:=J;simp[g,j,q,b6];refine fD e.ei.length J (λk l i=>il 1 i/\i.get 0=some (dE 6 0 [e.t])/\dF l 1 (.ptr 0 0 0 0)/\dF l 9 (Z k)/\
   ∃y,dF l 4 y/\sR i 0 y 1 ((v++(e.ei.take k).map (·.name)).map T.str)) ?_ ?_ J ?_
  ·rintro k l i O aA ⟨r,g,j,Q,y,n,z⟩;have a6:(k:Int)<e.ei.length:=J;have⟨a7,E,A,al,C⟩:=z.K5 (cx:=cx) qY rfl wO rfl dy dy (e.ei[k]).name dz;have F:=C.get 0 _ g dy;simp[g,j,Q,n,a6,O,A,aA];refine⟨C.ok 1 r,F,?_⟩;simpa[xJ _ _ O]using al
  rotate_left
  ·simp[j,n];exact⟨r,g,by simpa using z⟩
  rintro l i ⟨r,g,j,Q,y,n,z⟩;simp[g,j,Q];rw[aK]at z;refine fD e.gF.length J (λk l i=>il 1 i/\i.get 0=some (dE 6 0 [e.t])/\dF l 1 (.ptr 0 0 0 0)/\dF l 10 (Z k)/\
   ∃y,dF l 4 y/\sR i 0 y 1 ((v++e.ei.map (·.name)++(e.gF.take k).map (·.name)).map T.str)) ?_ ?_ J ?_
  ·rintro k l i O aA ⟨r,g,j,Q,y,n,z⟩;have a6:(k:Int)<e.gF.length:=J;have⟨a7,E,A,al,C⟩:=z.K5 (cx:=cx) qY rfl wO rfl dy dy (e.gF[k]).name dz;have F:=C.get 0 _ g dy;simp[g,j,Q,n,a6,O,A,aA];refine⟨C.ok 1 r,F,?_⟩;simpa[xJ _ _ O]using al
  rotate_left
  ·simp[j,g,n];exact⟨r,by simpa using z⟩
  rintro l i ⟨r,g,j,Q,y,n,z⟩;rw[aK]at z;have⟨eL,eA,cL,et,b9⟩:=z.VN (cx:=cx) qY rfl wO rfl dy dy e.ee dz;have cp:=b9.get 0 _ g dy;have⟨eM,eB,c1,ca,er⟩:=et.VN (cx:=cx) qY rfl wO rfl dy dy e.dH dz;have eu:=er.ok 1 (b9.ok 1 r);have c6:rJ e v=v++e.ei.map (·.name)++e.gF.map (·.name)++e.ee++e.dH:=rfl;rw[<-c6]at ca;simp[g,j,Q,n,cL,cp,c1,hr,ca.fzM (f:=T.str) dy,eu.hp]
def Rx{b:fJ}(ht:b.p 128=some ul)(a:dY)(hl:a.cells.length<=1000000/\a.ei.length<=1000000/\a.gF.length<=1000000/\a.ee.length<=1000000/\a.dH.length<=1000000):rl prog cx b 128 [a.t]=some (sj a):=im ht Nr a hl
section
def yg:gG:=⟨dY,λa=>[a.t],λa=>True,λa=> .bool (j8 a),λa c b=>by simp at b;rw[dY.inj b]⟩
def Ba{w:dY}:sY w=true↔(w.cells.length<=12/\w.ei.length<=4/\w.gF.length<=2/\w.ee.length<=2/\w.iJ.length<=60/\1<=w.dH.length/\w.dH.length<=4):=by
 unfold sY;simp;omega
def pG{w:dY}(a:¬(w.cells.length<=12/\w.ei.length<=4/\w.gF.length<=2/\w.ee.length<=2/\w.iJ.length<=60/\1<=w.dH.length/\w.dH.length<=4)):j8 w=false:=by
 unfold j8;have:sY w=false:=by rw[dh];exact λk=>a (Ba.1 k)
 rw[this];rfl
def pB(w:dY)(k:Nat):Prop:=∃b a:Int,0<=b/\0<=a/\a<=k/\(k=0->b=0/\a=0)/\(∀d c,k=d+1->w.iJ[d]? =some c->b=c.dP/\a=c.stmt+1)/\lQ w.dH.length b a (w.iJ.drop k)=lQ w.dH.length 0 0 w.iJ
def pB.zero(w:dY):pB w 0:=⟨0,0,dy,dy,dy,dy,dy,dy⟩
def pB.fin{w:dY}(a:pB w w.iJ.length):lQ w.dH.length 0 0 w.iJ=true:=by
 obtain⟨c,d,_,_,_,_,_,b⟩:=a;rw[<-b,bO];rfl
section
variable {w:dY}{k:Nat}{s:iK}
theorem pB.cons(h:pB w k)(c:w.iJ[k]? =some s):∃a b:Int,0<=a/\0<=b/\b<=k/\(k=0->a=0/\b=0)/\(∀f d,k=f+1->w.iJ[f]? =some d->a=d.dP/\b=d.stmt+1)/\(if s.dP<a\/(w.dH.length:Int)<=s.dP then false else
 if a<s.dP then(if s.stmt=0 then lQ w.dH.length s.dP 1 (w.iJ.drop (k+1))else false)else(if s.stmt=b then lQ w.dH.length a (b+1) (w.iJ.drop (k+1))else false))=lQ w.dH.length 0 0 w.iJ:=by
 obtain⟨a,b,g,i,j,l,m,n⟩:=h;have e:k<w.iJ.length:=by
  rcases aR k w.iJ.length with h|h
  ·exact h
  ·rw[bK h]at c;simp at c
 have:w.iJ[k]=s:=by rw[az e]at c;simpa using c
 refine⟨a,b,g,i,j,l,m,?_⟩;rw[<-n,aI e,this,lQ]
def pB.bad(a:pB w k)(c:w.iJ[k]? =some s)(i:s.dP<0\/(w.dH.length:Int)<=s.dP):lQ w.dH.length 0 0 w.iJ=false:=by
 have⟨j,l,d,e,f,g,h,b⟩:=a.cons c;rw[<-b,ar J]
def pB.next(n:pB w k)(j:w.iJ[k]? =some s)(o:0<=s.dP)(x:s.dP<w.dH.length)(p:(k=0/\s.stmt=0)\/∃b a,k=b+1/\w.iJ[b]? =some a/\((a.dP=s.dP/\s.stmt=a.stmt+1)\/(a.dP<s.dP/\s.stmt=0))):pB w (k+1):=by
 obtain⟨y,z,t0,A,B,u,r,c⟩:=n.cons j;have t:∀b a,k+1=b+1->w.iJ[b]? =some a->a=s:=by
  intro b a g h;have:b=k:=J;subst this;rw[j]at h;simpa using h.symm
 have fin:∀d:Int,d=s.stmt+1->0<=d->d<=k+1->lQ w.dH.length s.dP d (w.iJ.drop (k+1))=lQ w.dH.length 0 0 w.iJ->pB w (k+1):=by
  intro d e f v m;exact⟨s.dP,d,o,f,J,dy,λb a g h=>by rw[t b a g h];exact⟨rfl,e⟩,m⟩
 rcases p with⟨rfl,l⟩|⟨b,a,rfl,g,q⟩
 ·obtain⟨rfl,rfl⟩:=u rfl;rw[aq J]at c;refine fin 1 J J J ?_;rw[<-c];by_cases i:0<s.dP
  ·rw[ar i,ar l]
  ·rw[aq i,ar l];have:s.dP=0:=J;rw[this];rfl
 ·obtain⟨rfl,rfl⟩:=r b a rfl g;rcases q with⟨e,f⟩|⟨e,f⟩
  ·rw[aq J,aq J,ar f]at c;refine fin (a.stmt+1+1) J J J ?_;rw[<-c,e]
  ·rw[aq J,ar e,ar f]at c;exact fin 1 J J J c
def pB.no(e:pB w k)(m:w.iJ[k]? =some s)(f:(k=0/\s.stmt≠0)\/∃b a,k=b+1/\w.iJ[b]? =some a/\((a.dP=s.dP/\s.stmt≠a.stmt+1)\/s.dP<a.dP\/(a.dP≠s.dP/\s.stmt≠0))):lQ w.dH.length 0 0 w.iJ=false:=by
 have⟨o,p,t0,q,r,n,l,i⟩:=e.cons m;rw[<-i];rcases f with⟨rfl,d⟩|⟨b,a,rfl,g,j⟩
 ·obtain⟨rfl,rfl⟩:=n rfl;rw[aq d,aq d];simp
 ·obtain⟨rfl,rfl⟩:=l b a rfl g;rcases j with⟨e1,c⟩|e1|⟨e1,c⟩
  ·rw[aq c,aq (show¬a.dP<s.dP by omega)];simp
  ·rw[ar (.inl e1)]
  ·by_cases h:s.dP<a.dP
   ·rw[ar (.inl h)]
   ·rw[aq c,ar (show a.dP<s.dP by omega)];simp
def pB.rng(c:pB w k){b:Nat}{a:iK}(e:k=b+1)(d:w.iJ[b]? =some a):0<=a.stmt+1/\a.stmt+1<=k:=by
 obtain⟨l,m,t0,g,h,j,f,i⟩:=c;obtain⟨_,rfl⟩:=f b a e d;exact⟨g,h⟩
end
def Nc:yg.Ok prog cx 81:=by
 refine fZ [(128,ul),(129,yY),(130,Dc)] (iX 95827739445721067874190659254502973333984266632037375 [] func81) (λa=>100) (by simp[yg]) ?_;rintro(w:dY) _ l r;simp[yg]at r|-;by_cases cp:w.cells.length<=12;rotate_left
 ·simp[f81,r,show(12:Int)<w.cells.length by omega,pG (w:=w) J]
 have F:¬(12:Int)<w.cells.length:=J;by_cases cL:w.ei.length<=4;rotate_left
 ·simp[f81,r,F,show(4:Int)<w.ei.length by omega,pG (w:=w) J]
 have K:¬(4:Int)<w.ei.length:=J;by_cases c1:w.gF.length<=2;rotate_left
 ·simp[f81,r,F,K,show(2:Int)<w.gF.length by omega,pG (w:=w) J]
 have M:¬(2:Int)<w.gF.length:=J;by_cases c4:w.ee.length<=2;rotate_left
 ·simp[f81,r,F,K,M,show(2:Int)<w.ee.length by omega,pG (w:=w) J]
 have S:¬(2:Int)<w.ee.length:=J;by_cases c7:1<=w.dH.length;rotate_left
 ·simp[f81,r,F,K,M,S,show(w.dH.length:Int)<1 by omega,pG (w:=w) J]
 have al:¬(w.dH.length:Int)<1:=J;by_cases c9:w.dH.length<=4;rotate_left
 ·simp[f81,r,F,K,M,S,al,show(4:Int)<w.dH.length by omega,pG (w:=w) J]
 have aX:¬(4:Int)<w.dH.length:=J;by_cases c6:w.iJ.length<=60;rotate_left
 ·simp[f81,r,F,K,M,S,al,aX,show(60:Int)<w.iJ.length by omega,pG (w:=w) J]
 have bC:¬(60:Int)<w.iJ.length:=J;have o:j8 w=(CG w&&(w.gF.all λD=>ux w D.kv false)&&lQ w.dH.length 0 0 w.iJ):=by
  unfold j8;rw[Ba.2 ⟨cp,cL,c1,c4,c6,c7,c9⟩,aZ]
 have bT:=λ{bB:fJ} (ht:bB.p 128=some ul)=>Rx ht w ⟨J,J,J,J,J⟩;cases ae:je w.cells with
 |none=>
  have hr:j8 w=false:=by rw[o];unfold CG;rw[ae];rfl
  have a7:sj w= .tuple [.gX,.bool false]:=by unfold sj;rw[ae]
  simp[f81,r,F,K,M,S,bC,al,aX,bT,a7,hr]
 |some v=>
  have a7:sj w= .tuple [sl ((rJ w v).map T.str),.bool true]:=by unfold sj;rw[ae]
  have ea:=E7 _ _ (aw _) v ae;have ds:CG w=wB (rJ w v):=by unfold CG;rw[ae]
  have dv:(rJ w v).length<=24:=by unfold rJ;simp;omega
  rw[ds]at o;generalize rJ w v=d at*
  simp[f81,r,F,K,M,S,bC,al,aX,bT,a7];refine fD d.length J (λk l h=>il 1 h/\h.get 0=some (dE 6 0 [w.t])/\dF l 1 (.ptr 0 0 0 0)/\dF l 3 (sl (d.map T.str))/\dF l 5 (Z k)/\(d.take k).all uv=true/\(d.take k).Nodup) ?_ ?_ J ?_
  ·rintro k l h E L ⟨c,e,f,U,V,an,aA⟩;have i:(k:Int)<d.length:=J;have dk:d[k]∈d:=aF E;have dm:d=d.take k++d[k]::d.drop (k+1):=by rw[<-aI E,cQ]
   have dn:d.take (k+1)=d.take k++[d[k]]:=aQ E;have bs:d[k]? =some d[k]:=az E;generalize d[k]=A at*
   have bS:=λ{bB:fJ} (ht:bB.p 130=some Dc)=>Ot ht (d.take k) A (by rw[List.length_take];omega);have b7:k<=d.length:=J;cases Q:uv A with
   |false=>
    have hr:j8 w=false:=by
     rw[o];have:wB d=false:=by
      unfold wB;have:d.all uv=false:=by rw[List.all_eq_false];exact⟨A,dk,by simp[Q]⟩
      rw[this];rfl
     rw[this];rfl
    simp[U,V,i,bs,qk,Q,hr,c.hp]
   |true=>
    by_cases ap:A∈d.take k
    ·have hr:j8 w=false:=by
      rw[o];have:wB d=false:=by
       unfold wB;have:¬d.Nodup:=by
        rw[dm];intro h;exact(List.nodup_append.1 h).2.2 A ap A dy rfl
       rw[aM this];simp
      rw[this];rfl
     have a8:(0<=sN (d.take k) A 0)=True:=by rw[Hr];simp[ap]
     simp[U,V,i,bs,qk,Q,bS,b7,a8,hr,c.hp]
    ·have a8:(0<=sN (d.take k) A 0)=False:=by rw[Hr];simp[ap]
     simp[e,f,U,V,i,bs,qk,Q,bS,b7,a8,L];rw[dn];refine⟨c,?_,?_⟩
     ·intro y H;rcases List.mem_append.1 H with H|H
      ·exact List.all_eq_true.1 an y H
      ·simp at H;subst H;exact Q
     ·rw[List.nodup_append];exact⟨aA,dy,λa r b o=>by simp at o;subst o;exact λh=>ap (h▸r)⟩
  rotate_left
  ·simp
   first|done|exact⟨dy,dy,dy⟩
  rintro l h ⟨c,e,f,U,V,an,aA⟩;rw[aK]at an aA;have de:wB d=true:=by unfold wB;rw[an,aV aA];rfl
  rw[de,aZ]at o;simp[U,V];refine fD w.gF.length J (λk l h=>il 1 h/\h.get 0=some (dE 6 0 [w.t])/\dF l 1 (.ptr 0 0 0 0)/\dF l 6 (Z k)/\
   (w.gF.drop k).all (λD=>ux w D.kv false)=w.gF.all λD=>ux w D.kv false) ?_ ?_ J ?_
  ·rintro k l h E L ⟨c,e,f,N,C⟩;have i:(k:Int)<w.gF.length:=J;have g:w.gF[k]? =some w.gF[k]:=az E;rw[aI E,cd]at C;generalize w.gF[k]=D at*
   obtain⟨cn,I⟩:=D;simp only at C;by_cases bi:iN I w.ei.length=true
   ·obtain⟨A,b9,H⟩:=iD bi;have Y:=eZ.1 bi;have j:¬I<0:=J;have m:¬(w.ei.length:Int)<=I:=J;have av:ux w I false= !A.rW:=by unfold ux;rw[H];simp
    cases aE:A.rW with
    |false=>
     rw[av,aE]at C;simp[e,f,N,i,g,j,m,eG Y.1,b9,aE,L];exact⟨c,by simpa using C⟩
    |true=>
     rw[av,aE]at C;have hr:j8 w=false:=by rw[o,<-C];rfl
     simp[e,f,N,i,g,j,m,eG Y.1,b9,aE,hr,c.hp]
   ·have Y:iN I w.ei.length=false:=by simpa using bi
    have Q:=pQ Y;have av:ux w I false=false:=by unfold ux;rw[nM Y]
    rw[av]at C;have hr:j8 w=false:=by rw[o,<-C];rfl
    by_cases j:I<0
    ·simp[e,f,N,i,g,j,hr,c.hp]
    ·have m:(w.ei.length:Int)<=I:=J;simp[e,f,N,i,g,j,m,hr,c.hp]
  rotate_left
  ·simp[f,e];exact c
  rintro l h ⟨c,e,f,N,C⟩;have dd:(w.gF.all λD=>ux w D.kv false)=true:=by rw[<-C];simp
  rw[dd,aZ]at o;simp[e,f,N];have P:lQ w.dH.length 0 0 w.iJ=false->j8 w=false:=λh=>by rw[o,h]
  refine fD w.iJ.length J (λk l h=>il 1 h/\h.get 0=some (dE 6 0 [w.t])/\dF l 1 (.ptr 0 0 0 0)/\dF l 8 (Z k)/\pB w k) ?_ ?_ J ?_
  ·rintro k l h E L ⟨c,e,f,u,q⟩;have i:(k:Int)<w.iJ.length:=J;have g:w.iJ[k]? =some w.iJ[k]:=az E;have G:=c.ne (b:=0) J;generalize w.iJ[k]=s at*
   obtain⟨aN,bu,ec⟩:=s;by_cases j:aN<0
   ·have hr:=P (q.bad g (.inl j));simp[e,f,u,i,g,c.low,j,hr,c.hp]
   by_cases m:(w.dH.length:Int)<=aN
   ·have hr:=P (q.bad g (.inr m));simp[e,f,u,i,g,G,c.low,j,m,hr,c.hp]
   by_cases bn:k=0
   ·have b6:(k=0)=True:=by simp[bn]
    have di:(0<k)=False:=dz;by_cases n:bu=0
    ·have W:=q.next g dA dA (.inl ⟨bn,n⟩);subst n;simp[e,f,u,i,g,G,c.low,j,m,b6,di,L];exact⟨c.cons _,W⟩
    ·have hr:=P (q.no g (.inl ⟨bn,n⟩));simp[e,f,u,i,g,G,c.low,j,m,b6,n,hr,c.hp]
   ·obtain⟨z,O⟩:∃z,k=z+1:=⟨k-1,J⟩;have x:w.iJ[z]? =some w.iJ[z]:=az J;generalize w.iJ[z]=p at*
    have b8:=q.rng O x;have R:=kU (a:=(k:Int)) (b:=1) J J;rw[show(k:Int)-1=(z:Int)by omega]at R;obtain⟨cb,ca,eb⟩:=p;have bN:=iL (a:=ca) (b:=1) (by simp only at b8;omega) (by simp only at b8;omega);have X:(k=0)=False:=dz;have bH:(0<k)=True:=dz;by_cases n:cb=aN
    ·by_cases B:bu=ca+1
     ·have W:=q.next g dA dA (.inr ⟨z,_,O,x,.inl ⟨n,B⟩⟩);subst n B;simp[e,f,u,i,g,G,c.low,j,m,X,R,x,bN,L];exact⟨c.cons _,W⟩
     ·have hr:=P (q.no g (.inr ⟨z,_,O,x,.inl ⟨n,B⟩⟩));subst n;simp[e,f,u,i,g,G,c.low,j,m,X,R,x,bN,B,hr,c.hp]
    ·by_cases B:bu=0
     ·by_cases a6:aN<cb
      ·have hr:=P (q.no g (.inr ⟨z,_,O,x,.inr (.inl a6)⟩));subst B;simp[e,f,u,i,g,G,c.low,j,m,X,bH,R,x,n,a6,hr,c.hp]
      ·have W:=q.next g dA dA (.inr ⟨z,_,O,x,.inr ⟨dA,B⟩⟩);subst B;simp[e,f,u,i,g,G,c.low,j,m,X,bH,R,x,n,a6,L];exact⟨c.cons _,W⟩
     ·have hr:=P (q.no g (.inr ⟨z,_,O,x,.inr (.inr ⟨n,B⟩)⟩));simp[e,f,u,i,g,G,c.low,j,m,X,R,x,n,B,hr,c.hp]
  ·rintro l h ⟨c,e,f,u,q⟩;have hr:j8 w=true:=by rw[o,q.fin]
   simp[e,f,u,hr,c.hp]
  ·simp[f,e];exact⟨c,pB.zero w⟩
def Ab{a:fJ}(ht:a.p 81=some yg)(w:dY):rl prog cx a 81 [w.t]=some (.bool (j8 w)):=im ht Nc w trivial
