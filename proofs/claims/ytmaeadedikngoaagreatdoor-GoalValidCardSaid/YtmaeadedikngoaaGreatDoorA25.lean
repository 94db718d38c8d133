/- Texts W06d to W06i. -/
import Derived.Test.YtmaeadedikngoaaGreatDoorA16
set_option linter.unusedVariables false
set_option linter.unusedSimpArgs false
set_option linter.defProp false
set_option maxRecDepth 100000
set_option maxHeartbeats 8000000
namespace Go.Proofs.YtmaeadedikngoaaGreatDoor
noncomputable section
open Go Go.TI
attribute [-simp] List.map_take List.map_drop List.map_append
def yJ:f7:=⟨List fF×Int,λa=>[sl (a.1.map fF.t),dw a.2],λa=>a.1.length<=140737488355328,λa=> .bool (BL a.1 (a.1.length+1) a.2),λa c b=>by
 simp at b;rw[jt (λ_ _=>fF.inj) b.1,b.2]⟩
def QE:yJ.Ok Tryz.prog cx 161:=by
 refine gH (tb:=⟨pt [(206,tR)],ht []⟩) ei eg (iL 4362601011 [] Tryz.func161) (λa=>a.1.length+2) (by simp[yJ]) (by simp[yJ,Tryz.f161]) ?_;rintro⟨d,x⟩ hl l v;simp[yJ]at hl v|-;obtain⟨f,g⟩:=v;simp[Tryz.f161];refine fc (d.length+1) dj (λj l q=>q=hE/\dz l 0 (sl (d.map fF.t))/\dz l 5 (dw j)/\∃e:Int,dz l 1 (dw e)/\BL d (d.length+1-j) e=BL d (d.length+1) x) ?_ ?_ dj ?_
 ·rintro j l q B w ⟨rfl,f,h,e,g,c⟩;have i:(j:Int)<=d.length:=dj;rw[show d.length+1-j=(d.length-j)+1 by omega,BL]at c;by_cases n:e<0
  ·have:wG d e=none:=by unfold wG;rw[ao dj]
   rw[this]at c;simp[f,g,h,i,n,<-c]
  ·by_cases p:(d.length:Int)<=e
   ·have:wG d e=none:=by unfold wG;rw[aq dj];simp;omega
    rw[this]at c;simp[f,g,h,i,n,p,<-c]
   ·have A:iP e d.length=true:=by rw[ff];omega
    obtain⟨o,r,z⟩:=im A;rw[z]at c;simp only at c;have s:=ed (show 0<=e by omega);have y:=gY (a:=e) (b:=1) dj dj;cases m:vk o.op with
    |false=>
     rw[m,ao dp]at c;simp[f,g,h,i,n,p,s,r,m,vZ,<-c]
    |true=>
     rw[m,aq rfl]at c;cases k:decide (o.op=5)with
     |true=>
      rw[aO]at k;rw[IN,aq k]at c;have u:decide (o.op=5)=true:=by simpa using k
      simp[f,g,h,i,n,p,s,r,m,vZ,u,w];exact c
     |false=>
      have u:decide (o.op=5)=false:=k;rw[bj]at k;rw[IN,ao k]at c;simp[f,g,h,i,n,p,s,r,m,vZ,u,w,y];exact c
 ·rintro l q ⟨rfl,f,h,e,g,c⟩;rw[Nat.sub_self,BL]at c;have i:¬((d.length:Int)+1<=d.length):=dj;simp[f,h,i,<-c]
 ·simp[f,g]
def Vm{c:fq}(ht:c.p 161=some yJ)(a:List fF)(b:Int)(hl:a.length<=140737488355328):rl Tryz.prog cx c 161 [sl (a.map fF.t),dw b]=some (.bool (BL a (a.length+1) b)):=gF ht QE (a,b) hl
@[simp] theorem abN:sl []=T.fO:=id rfl
def u9{a:fZ}{b:List fZ}(c:a.size=0):iI (a::b)=if a.index=0 then(iI b).map (a.name:: ·)else none:=by rw[iI,aq c]
def wC{a:fZ}{b:List fZ}(c:¬a.size=0)(d:a.size<1\/4<a.size\/(b.length+1:Int)<a.size):iI (a::b)=none:=by rw[iI,ao c,dif_pos d]
def wB{a:fZ}{b:List fZ}(c:¬a.size=0)(d:¬(a.size<1\/4<a.size\/(b.length+1:Int)<a.size)):iI (a::b)=if Jz a (a::b)=true then(iI ((a::b).drop a.size.toNat)).map (a.name:: ·)else none:=by rw[iI,ao c,dif_neg d]
def Dl:∀(e:Nat) (c:List fZ),c.length<=e->∀g,iI c=some g->g.length<=c.length:=by
 intro e;induction e with
 |zero=>
  intro c hl g a;have:c=[]:=aY dj;subst this;rw[iI]at a;simp at a;subst a;simp
 |succ e k=>
  intro c hl g a;cases c with
  |nil=>rw[iI]at a;simp at a;subst a;simp
  |cons d f=>
   simp at hl;by_cases h:d.size=0
   ·rw[u9 h]at a;split at a
    ·cases b:iI f with
     |none=>rw[b]at a;simp at a
     |some i=>rw[b]at a;simp at a;subst a;have:=k f hl i b;simp;omega
    ·simp at a
   ·by_cases j:d.size<1\/4<d.size\/(f.length+1:Int)<d.size
    ·rw[wC h j]at a;simp at a
    ·rw[wB h j]at a;split at a
     ·cases b:iI ((d::f).drop d.size.toNat)with
      |none=>rw[b]at a;simp at a
      |some i=>
       rw[b]at a;simp at a;subst a;have:=k _ dq i b;simp at this|-;omega
     ·simp at a
def wi{d f:Type}(c:d->f)(b:List d){a:Nat}(e:a<b.length):(b.take (a+1)).map c=(b.take a).map c++[c b[a]]:=by
 rw[aU e,List.map_append];rfl
def qO(a:dR):T:=match iI a.cells with|some b=> .tuple [sl ((qh a b).map T.str),.bool true]|none=> .tuple [.fO,.bool false]
def qI:f7:=⟨dR,λa=>[a.t],λa=>a.cells.length<=1000000/\a.dV.length<=1000000/\a.fV.length<=1000000/\a.dT.length<=1000000/\a.dB.length<=1000000,qO,λa c b=>by simp at b;rw[dR.inj b]⟩
def Lf:qI.Ok Tryz.prog cx 108:=by
 refine gH (tb:=⟨pt [],ht []⟩) ei eg (iL 332312079452150195464880550324504575 [] Tryz.func108) (λa=>1000002) (by simp[qI]) (by simp[qI,Tryz.f108]) ?_;rintro(e:dR) hl l bB;simp[qI]at hl bB|-;obtain⟨hl,l2,l3,l4,l5⟩:=hl;simp[Tryz.f108,bB];have ey:=hl;obtain⟨h,M⟩:∃h,h=e.cells:=⟨_,rfl⟩;rw[<-M]at hl;refine yt h.length (λd l i=>gu 1 i/\i.get 0=some (dy 6 0 [e.t])/\dz l 1 (.ptr 0 0 0 0)/\dz l 5 (dw d)/\∃y v,dz l 4 y/\rm i 0 y 1 (v.map T.str)/\v.length<=d/\(iI (h.drop d)).map (v++ ·)=iI h) ?_ (k:=0) dj dj ?_;rotate_left
 ·simp
  first|exact⟨[],rm.nil _ _ _,dp,dp⟩|exact⟨⟨dp,dp,dp⟩,[],rm.nil _ _ _,dp,dp⟩
 rintro d l i eu ⟨r,g,j,q,y,v,n,z,eA,o⟩;have de:=r.ne (b:=0) dj;by_cases N:d<h.length
 ·have dd:(d:Int)<h.length:=dj;have Y:(d:Int)<e.cells.length:=by rw[<-M];exact dd
  have bC:(e.cells.length:Int)=h.length:=by rw[M]
  have c9:h[d]? =some h[d]:=az N;have W:e.cells[d]? =some h[d]:=by rw[<-M];exact c9
  have a6:=aI N;rw[a6]at o;generalize et:h[d]=c at*
  obtain⟨p,B,m,D,w⟩:=c;have dm:=z.cons (dy 5 1 [fZ.t ⟨p,B,m,D,w⟩]);have c6:(H.cons i (dy 5 1 [fZ.t ⟨p,B,m,D,w⟩])).get i.size=some (dy 5 1 [fZ.t ⟨p,B,m,D,w⟩]):=dp;have c4:(H.cons i (dy 5 1 [fZ.t ⟨p,B,m,D,w⟩])).get 0=some (dy 6 0 [e.t]):=by rw[dM,ao (by rw[de];simp)];exact g
  obtain⟨aX,ca,A,Z,C⟩:=dm.Ji (cx:=cx) pO rfl u5 rfl dp dp p dq;rw[show(H.cons i (dy 5 1 [fZ.t ⟨p,B,m,D,w⟩])).size=i.size+1 from rfl]at A;have E:=C.get _ _ c6 dp;have F:=C.get _ _ c4 dp;have ae:=C.ok 1 (r.cons _);have dk:i.size<ca.size:=by have:=C.size;simp[H.cons]at this;omega
  have cp:=gY (a:=d) (b:=1) dj dj;have a7:iI h=none->qO e= .tuple [.fO,.bool false]:=by intro i;unfold qO;rw[<-M,i]
  by_cases al:m=0
  ·subst al;rw[u9 rfl]at o;simp only at o;by_cases bn:B=0
   ·subst bn;rw[aq rfl]at o;simp[g,j,q,n,Y,W,r.low,A,E,F,cp];refine⟨d+1,dj,dj,ae,dp,v++[p],Z,dq,?_⟩;rw[<-o];cases iI (List.drop (d+1) h)<;>simp
   ·rw[ao bn]at o;have hr:=a7 (by rw[<-o];rfl);simp[g,j,q,n,Y,W,r.low,A,E,bn,hr,ae.hp]
  ·have eB:(h.drop (d+1)).length+1=h.length-d:=by rw[List.length_drop];omega
   have bN:=kL (a:=e.cells.length) (b:=d) dj dj;by_cases b6:m<1\/4<m\/((h.drop (d+1)).length+1:Int)<m
   ·rw[wC al b6]at o;have hr:=a7 (by rw[<-o];rfl);by_cases p1:m<1
    ·simp[g,j,q,n,Y,W,r.low,A,E,al,p1,hr,ae.hp]
    ·by_cases p2:4<m
     ·simp[g,j,q,n,Y,W,r.low,A,E,al,p1,p2,hr,ae.hp]
     ·have p3:(e.cells.length:Int)-d<m:=dj;simp[g,j,q,n,Y,W,r.low,A,E,F,al,p1,p2,p3,hr,ae.hp,bN]
   ·rw[wB al b6]at o;have p1:¬m<1:=dj;have p2:¬4<m:=dj;have p3:¬(e.cells.length:Int)-d<m:=dj;have bH:Jz ⟨p,B,m,D,w⟩ (⟨p,B,m,D,w⟩::List.drop (d+1) h)=allI (λk x=>decide (x=⟨p,k,m,false,w⟩)) 0 ((h.drop d).take m.toNat):=by rw[a6];rfl
    generalize Jz ⟨p,B,m,D,w⟩ (⟨p,B,m,D,w⟩::List.drop (d+1) h)=R at*
    obtain⟨s,rfl⟩:∃s:Nat,m=s:=⟨m.toNat,dj⟩;rw[cC]at bH o;simp only at o;have ef:¬s=0:=dj;simp[g,j,q,n,Y,W,r.low,A,E,F,ef,p1,p2,p3,bN];refine fc s dj (λk l I=>gu 1 I/\i.size<I.size/\I.get 0=some (dy 6 0 [e.t])/\dz l 1 (.ptr 0 0 0 0)/\dz l 5 (dw d)/\dz l 4 aX/\rm I 0 aX 1 ((v++[p]).map T.str)/\dz l 6 (.ptr i.size 0 0 0)/\dz l 7 (dw k)/\
     (∃bu,I.get i.size=some (dy 5 bu [fZ.t ⟨p,B,s,D,w⟩]))/\allI (λk x=>decide (x=⟨p,k,s,false,w⟩)) k (((h.drop d).take s).drop k)=R) ?_ ?_ dj ?_
    ·rintro k l I aN ap ⟨u,ds,g,j,q,n,a8,J,K,⟨bu,G⟩,Q⟩;have V:(k:Int)<s:=dj;have c7:d+k<h.length:=dj;have di:=u.ne (b:=0) dj;have aA:(i.size=I.size)=False:=dq;have L:=gY (a:=d) (b:=k) dj dj;have U:jT ((d:Int)+k)=some (d+k):=by rw[ed dj];congr 1
     have X:e.cells[d+k]? =some h[d+k]:=by rw[<-M];exact az c7
     have cL:((h.drop d).take s).drop k=h[d+k]::((h.drop d).take s).drop (k+1):=by
      rw[aI (by rw[List.length_take,List.length_drop];omega)];congr 1;rw[List.getElem_take,List.getElem_drop]
     rw[cL,allI]at Q;generalize h[d+k]=x at*
     obtain⟨bl,bk,bs,bz,bi⟩:=x;have av:¬(⟨bl,bk,bs,bz,bi⟩:fZ)=⟨p,k,s,false,w⟩->qO e= .tuple [.fO,.bool false]:=by
      intro c1;rw[aM c1,Bool.false_and]at Q;rw[<-Q,ao dp]at o;exact a7 (by rw[<-o];rfl)
     have dn:=u.cons (dy 5 1 [fZ.t ⟨bl,bk,bs,bz,bi⟩]);by_cases O:bk=k
     ·by_cases S:bl=p
      ·by_cases an:bs=s
       ·by_cases aE:bi=w
        ·cases bz with
         |false=>
          subst O S an aE;rw[aT rfl,bK]at Q;simp[g,j,q,n,J,K,di,aA,V,G,L,U,X,u.low,ap];exact⟨dn,dj,a8.cons _,Q⟩
         |true=>
          have hr:=av dp;simp[g,j,q,J,K,aA,V,G,L,U,X,u.low,O,S,an,aE,hr,u.hp]
        ·have hr:=av (by simp[aE]);simp[g,j,q,J,K,aA,V,G,L,U,X,u.low,O,S,an,aE,hr,u.hp]
       ·have hr:=av (by simp[an]);simp[g,j,q,J,K,aA,V,G,L,U,X,u.low,O,S,an,hr,u.hp]
      ·have hr:=av (by simp[S]);simp[g,j,q,J,K,aA,V,G,L,U,X,u.low,O,S,hr,u.hp]
     ·have hr:=av (by simp[O]);simp[g,j,q,J,K,V,G,L,U,X,u.low,O,hr,u.hp]
    ·rintro l I ⟨u,ds,g,j,q,n,a8,J,K,⟨bu,G⟩,Q⟩;have ce:R=true:=by rw[<-Q,List.drop_eq_nil_of_le (by rw[List.length_take];omega)];rfl
     have L:=gY (a:=d) (b:=s) dj dj;rw[ce,aq rfl]at o;simp[g,j,q,n,J,K,G,L];refine⟨d+s,dj,dj,u,dp,v++[p],a8,dq,?_⟩;rw[<-o,List.drop_drop.symm,a6];cases iI (List.drop s (_::List.drop (d+1) h))<;>simp
    ·simp[j,q];exact⟨ae,dk,F,Z,⟨_,E⟩,bH.symm⟩
 ·have:d=h.length:=dj;subst this;have bC:(e.cells.length:Int)=h.length:=by rw[M]
  rw[df,iI]at o;have dv:iI e.cells=some v:=by rw[<-M,<-o];simp
  have hr:qO e= .tuple [sl ((qh e v).map T.str),.bool true]:=by unfold qO;rw[dv]
  have er:v.length<=1000000:=dj;simp[g,j,q,bC];refine fc e.dV.length dj (λk l i=>gu 1 i/\i.get 0=some (dy 6 0 [e.t])/\dz l 1 (.ptr 0 0 0 0)/\dz l 9 (dw k)/\
   ∃y,dz l 4 y/\rm i 0 y 1 ((v++(e.dV.take k).map (·.name)).map T.str)) ?_ ?_ dj ?_
  ·rintro k l i N ap ⟨r,g,j,P,y,n,z⟩;have aN:(k:Int)<e.dV.length:=dj;obtain⟨aX,E,A,Z,C⟩:=z.Ji (cx:=cx) pO rfl u5 rfl dp dp (e.dV[k]).name dq;have F:=C.get 0 _ g dp;simp[g,j,P,n,aN,N,A,ap];refine⟨C.ok 1 r,F,?_⟩;simpa[wi _ _ N]using Z
  rotate_left
  ·simp[j,n];exact⟨r,g,by simpa using z⟩
  rintro l i ⟨r,g,j,P,y,n,z⟩;simp[g,j,P];rw[aL]at z;refine fc e.fV.length dj (λk l i=>gu 1 i/\i.get 0=some (dy 6 0 [e.t])/\dz l 1 (.ptr 0 0 0 0)/\dz l 10 (dw k)/\
   ∃y,dz l 4 y/\rm i 0 y 1 ((v++e.dV.map (·.name)++(e.fV.take k).map (·.name)).map T.str)) ?_ ?_ dj ?_
  ·rintro k l i N ap ⟨r,g,j,P,y,n,z⟩;have aN:(k:Int)<e.fV.length:=dj;obtain⟨aX,E,A,Z,C⟩:=z.Ji (cx:=cx) pO rfl u5 rfl dp dp (e.fV[k]).name dq;have F:=C.get 0 _ g dp;simp[g,j,P,n,aN,N,A,ap];refine⟨C.ok 1 r,F,?_⟩;simpa[wi _ _ N]using Z
  rotate_left
  ·simp[j,g,n];exact⟨r,by simpa using z⟩
  rintro l i ⟨r,g,j,P,y,n,z⟩;rw[aL]at z;obtain⟨eC,eh,b8,eb,bS⟩:=z.Tm (cx:=cx) pO rfl u5 rfl dp dp e.dT dq;have b7:=bS.get 0 _ g dp;obtain⟨eD,eo,b9,bT,ea⟩:=eb.Tm (cx:=cx) pO rfl u5 rfl dp dp e.dB dq;have ec:=ea.ok 1 (bS.ok 1 r);have cb:qh e v=v++e.dV.map (·.name)++e.fV.map (·.name)++e.dT++e.dB:=rfl;rw[<-cb]at bT;simp[g,j,P,n,b8,b7,b9,hr,bT.fzM (f:=T.str) dp,ec.hp]
def Pa{b:fq}(ht:b.p 108=some qI)(a:dR)(hl:a.cells.length<=1000000/\a.dV.length<=1000000/\a.fV.length<=1000000/\a.dT.length<=1000000/\a.dB.length<=1000000):rl Tryz.prog cx b 108 [a.t]=some (qO a):=gF ht Lf a hl
def uN:f7:=⟨dR,λa=>[a.t],λa=>True,λa=> .bool (jK a),λa c b=>by simp at b;rw[dR.inj b]⟩
def zI{w:dR}:rG w=true↔(w.cells.length<=12/\w.dV.length<=4/\w.fV.length<=2/\w.dT.length<=2/\w.ik.length<=60/\1<=w.dB.length/\w.dB.length<=4):=by
 unfold rG;simp;omega
def ow{w:dR}(a:¬(w.cells.length<=12/\w.dV.length<=4/\w.fV.length<=2/\w.dT.length<=2/\w.ik.length<=60/\1<=w.dB.length/\w.dB.length<=4)):jK w=false:=by
 unfold jK;have:rG w=false:=by rw[cj];exact λk=>a (zI.1 k)
 rw[this];rfl
def ot(w:dR)(k:Nat):Prop:=∃b a:Int,0<=b/\0<=a/\a<=k/\(k=0->b=0/\a=0)/\(∀d c,k=d+1->w.ik[d]? =some c->b=c.dN/\a=c.stmt+1)/\kX w.dB.length b a (w.ik.drop k)=kX w.dB.length 0 0 w.ik
def ot.zero(w:dR):ot w 0:=⟨0,0,dp,dp,dp,dp,dp,dp⟩
def ot.fin{w:dR}(a:ot w w.ik.length):kX w.dB.length 0 0 w.ik=true:=by
 obtain⟨c,d,_,_,_,_,_,b⟩:=a;rw[<-b,df];rfl
section
variable {w:dR}{k:Nat}{s:il}
def ot.cons(h:ot w k)(c:w.ik[k]? =some s):∃a b:Int,0<=a/\0<=b/\b<=k/\(k=0->a=0/\b=0)/\(∀f d,k=f+1->w.ik[f]? =some d->a=d.dN/\b=d.stmt+1)/\(if s.dN<a\/(w.dB.length:Int)<=s.dN then false else
 if a<s.dN then(if s.stmt=0 then kX w.dB.length s.dN 1 (w.ik.drop (k+1))else false)else(if s.stmt=b then kX w.dB.length a (b+1) (w.ik.drop (k+1))else false))=kX w.dB.length 0 0 w.ik:=by
 obtain⟨a,b,g,i,j,l,m,n⟩:=h;have e:k<w.ik.length:=by
  rcases aD k w.ik.length with h|h
  ·exact h
  ·rw[aK h]at c;simp at c
 have:w.ik[k]=s:=by rw[az e]at c;simpa using c
 refine⟨a,b,g,i,j,l,m,?_⟩;rw[<-n,aI e,this,kX]
def ot.bad(a:ot w k)(c:w.ik[k]? =some s)(i:s.dN<0\/(w.dB.length:Int)<=s.dN):kX w.dB.length 0 0 w.ik=false:=by
 obtain⟨j,l,d,e,f,g,h,b⟩:=a.cons c;rw[<-b,aq dj]
def ot.next(n:ot w k)(j:w.ik[k]? =some s)(o:0<=s.dN)(x:s.dN<w.dB.length)(p:(k=0/\s.stmt=0)\/∃b a,k=b+1/\w.ik[b]? =some a/\((a.dN=s.dN/\s.stmt=a.stmt+1)\/(a.dN<s.dN/\s.stmt=0))):ot w (k+1):=by
 obtain⟨y,z,t0,A,B,u,r,c⟩:=n.cons j;have t:∀b a,k+1=b+1->w.ik[b]? =some a->a=s:=by
  intro b a g h;have:b=k:=dj;subst this;rw[j]at h;simpa using h.symm
 have fin:∀d:Int,d=s.stmt+1->0<=d->d<=k+1->kX w.dB.length s.dN d (w.ik.drop (k+1))=kX w.dB.length 0 0 w.ik->ot w (k+1):=by
  intro d e f v m;exact⟨s.dN,d,o,f,dj,dp,λb a g h=>by rw[t b a g h];exact⟨rfl,e⟩,m⟩
 rcases p with⟨rfl,l⟩|⟨b,a,rfl,g,q⟩
 ·obtain⟨rfl,rfl⟩:=u rfl;rw[ao dj]at c;refine fin 1 dj dj dj ?_;rw[<-c];by_cases i:0<s.dN
  ·rw[aq i,aq l]
  ·rw[ao i,aq l];have:s.dN=0:=dj;rw[this];rfl
 ·obtain⟨rfl,rfl⟩:=r b a rfl g;rcases q with⟨e,f⟩|⟨e,f⟩
  ·rw[ao dj,ao dj,aq f]at c;refine fin (a.stmt+1+1) dj dj dj ?_;rw[<-c,e]
  ·rw[ao dj,aq e,aq f]at c;exact fin 1 dj dj dj c
def ot.no(f:ot w k)(n:w.ik[k]? =some s)(g:(k=0/\s.stmt≠0)\/∃b a,k=b+1/\w.ik[b]? =some a/\((a.dN=s.dN/\s.stmt≠a.stmt+1)\/s.dN<a.dN\/(a.dN≠s.dN/\s.stmt≠0))):kX w.dB.length 0 0 w.ik=false:=by
 obtain⟨p,q,t0,r,t,o,m,j⟩:=f.cons n;rw[<-j];rcases g with⟨rfl,e⟩|⟨b,a,rfl,h,l⟩
 ·obtain⟨rfl,rfl⟩:=o rfl;rw[ao e,ao e];simp
 ·obtain⟨rfl,rfl⟩:=m b a rfl h;rcases l with⟨c,d⟩|c|⟨c,d⟩
  ·rw[ao d,ao (show¬a.dN<s.dN by omega)];simp
  ·rw[aq (.inl c)]
  ·by_cases i:s.dN<a.dN
   ·rw[aq (.inl i)]
   ·rw[ao d,aq (show a.dN<s.dN by omega)];simp
def ot.rng(c:ot w k){b:Nat}{a:il}(e:k=b+1)(d:w.ik[b]? =some a):0<=a.stmt+1/\a.stmt+1<=k:=by
 obtain⟨l,m,t0,g,h,j,f,i⟩:=c;obtain⟨_,rfl⟩:=f b a e d;exact⟨g,h⟩
end
def K1:uN.Ok Tryz.prog cx 67:=by
 refine gH (tb:=⟨pt [(108,qI),(109,wm),(110,AG)],ht []⟩) ei eg (iL 95827739445721067874190659254502973333984266632037375 [] Tryz.func67) (λa=>100) (by simp[uN]) (by simp[uN,Tryz.f67]) ?_;rintro(w:dR) _ l r;simp[uN]at r|-;by_cases b6:w.cells.length<=12;rotate_left
 ·simp[Tryz.f67,r,show(12:Int)<w.cells.length by omega,ow (w:=w) dj]
 have E:¬(12:Int)<w.cells.length:=dj;by_cases b7:w.dV.length<=4;rotate_left
 ·simp[Tryz.f67,r,E,show(4:Int)<w.dV.length by omega,ow (w:=w) dj]
 have I:¬(4:Int)<w.dV.length:=dj;by_cases b8:w.fV.length<=2;rotate_left
 ·simp[Tryz.f67,r,E,I,show(2:Int)<w.fV.length by omega,ow (w:=w) dj]
 have K:¬(2:Int)<w.fV.length:=dj;by_cases b9:w.dT.length<=2;rotate_left
 ·simp[Tryz.f67,r,E,I,K,show(2:Int)<w.dT.length by omega,ow (w:=w) dj]
 have Q:¬(2:Int)<w.dT.length:=dj;by_cases cb:1<=w.dB.length;rotate_left
 ·simp[Tryz.f67,r,E,I,K,Q,show(w.dB.length:Int)<1 by omega,ow (w:=w) dj]
 have Z:¬(w.dB.length:Int)<1:=dj;by_cases ce:w.dB.length<=4;rotate_left
 ·simp[Tryz.f67,r,E,I,K,Q,Z,show(4:Int)<w.dB.length by omega,ow (w:=w) dj]
 have aE:¬(4:Int)<w.dB.length:=dj;by_cases ca:w.ik.length<=60;rotate_left
 ·simp[Tryz.f67,r,E,I,K,Q,Z,aE,show(60:Int)<w.ik.length by omega,ow (w:=w) dj]
 have bl:¬(60:Int)<w.ik.length:=dj;have o:jK w=(AX w&&(w.fV.all λC=>tj w C.ke false)&&kX w.dB.length 0 0 w.ik):=by
  unfold jK;rw[zI.2 ⟨b6,b7,b8,b9,ca,cb,ce⟩,bK]
 have bz:=λ{tb:fq} (ht:tb.p 108=some qI)=>Pa ht w ⟨dj,dj,dj,dj,dj⟩;cases X:iI w.cells with
 |none=>
  have hr:jK w=false:=by rw[o];unfold AX;rw[X];rfl
  have aX:qO w= .tuple [.fO,.bool false]:=by unfold qO;rw[X]
  simp[Tryz.f67,r,E,I,K,Q,bl,Z,aE,bz,aX,hr]
 |some Y=>
  have aX:qO w= .tuple [sl ((qh w Y).map T.str),.bool true]:=by unfold qO;rw[X]
  have de:=Dl _ _ (au _) Y X;have c9:AX w=uS (qh w Y):=by unfold AX;rw[X]
  have dd:(qh w Y).length<=24:=by unfold qh;simp;omega
  rw[c9]at o;generalize qh w Y=d at*
  simp[Tryz.f67,r,E,I,K,Q,bl,Z,aE,bz,aX];refine fc d.length dj (λk l h=>gu 1 h/\h.get 0=some (dy 6 0 [w.t])/\dz l 1 (.ptr 0 0 0 0)/\dz l 3 (sl (d.map T.str))/\dz l 5 (dw k)/\(d.take k).all tc=true/\(d.take k).Nodup) ?_ ?_ dj ?_
  ·rintro k l h D J ⟨c,e,f,R,S,ae,ap⟩;have i:(k:Int)<d.length:=dj;have c4:d[k]∈d:=aF D;have c6:d=d.take k++d[k]::d.drop (k+1):=by rw[<-aI D,cK]
   have c7:d.take (k+1)=d.take k++[d[k]]:=aU D;have bi:d[k]? =some d[k]:=az D;generalize d[k]=z at*
   have bu:=λ{tb:fq} (ht:tb.p 110=some AG)=>Mg ht (d.take k) z (by rw[List.length_take];omega);have bC:k<=d.length:=dj;cases O:tc z with
   |false=>
    have hr:jK w=false:=by
     rw[o];have:uS d=false:=by
      unfold uS;have:d.all tc=false:=by rw[List.all_eq_false];exact⟨z,c4,by simp[O]⟩
      rw[this];rfl
     rw[this];rfl
    simp[R,S,i,bi,oU,O,hr,c.hp]
   |true=>
    by_cases al:z∈d.take k
    ·have hr:jK w=false:=by
      rw[o];have:uS d=false:=by
       unfold uS;have:¬d.Nodup:=by
        rw[c6];intro h;exact(List.nodup_append.1 h).2.2 z al z dp rfl
       rw[aM this];simp
      rw[this];rfl
     have a6:(0<=rj (d.take k) z 0)=True:=by rw[Fy];simp[al]
     simp[R,S,i,bi,oU,O,bu,bC,a6,hr,c.hp]
    ·have a6:(0<=rj (d.take k) z 0)=False:=by rw[Fy];simp[al]
     simp[e,f,R,S,i,bi,oU,O,bu,bC,a6,J];rw[c7];refine⟨c,?_,?_⟩
     ·intro y G;rcases List.mem_append.1 G with G|G
      ·exact List.all_eq_true.1 ae y G
      ·simp at G;subst G;exact O
     ·rw[List.nodup_append];exact⟨ap,dp,λa r b o=>by simp at o;subst o;exact λh=>al (h▸r)⟩
  rotate_left
  ·simp
   first|done|exact⟨dp,dp,dp⟩
  rintro l h ⟨c,e,f,R,S,ae,ap⟩;rw[aL]at ae ap;have cL:uS d=true:=by unfold uS;rw[ae,aT ap];rfl
  rw[cL,bK]at o;simp[R,S];refine fc w.fV.length dj (λk l h=>gu 1 h/\h.get 0=some (dy 6 0 [w.t])/\dz l 1 (.ptr 0 0 0 0)/\dz l 6 (dw k)/\
   (w.fV.drop k).all (λC=>tj w C.ke false)=w.fV.all λC=>tj w C.ke false) ?_ ?_ dj ?_
  ·rintro k l h D J ⟨c,e,f,L,B⟩;have i:(k:Int)<w.fV.length:=dj;have g:w.fV[k]? =some w.fV[k]:=az D;rw[aI D,cy]at B;generalize w.fV[k]=C at*
   obtain⟨cn,H⟩:=C;simp only at B;by_cases a7:iP H w.dV.length=true
   ·obtain⟨z,bN,G⟩:=im a7;have W:=ff.1 a7;have j:¬H<0:=dj;have m:¬(w.dV.length:Int)<=H:=dj;have an:tj w H false= !z.rW:=by unfold tj;rw[G];simp
    cases av:z.rW with
    |false=>
     rw[an,av]at B;simp[e,f,L,i,g,j,m,ed W.1,bN,av,J];exact⟨c,by simpa using B⟩
    |true=>
     rw[an,av]at B;have hr:jK w=false:=by rw[o,<-B];rfl
     simp[e,f,L,i,g,j,m,ed W.1,bN,av,hr,c.hp]
   ·have W:iP H w.dV.length=false:=by simpa using a7
    have O:=D2 W;have an:tj w H false=false:=by unfold tj;rw[ql W]
    rw[an]at B;have hr:jK w=false:=by rw[o,<-B];rfl
    by_cases j:H<0
    ·simp[e,f,L,i,g,j,hr,c.hp]
    ·have m:(w.dV.length:Int)<=H:=dj;simp[e,f,L,i,g,j,m,hr,c.hp]
  rotate_left
  ·simp[f,e];exact c
  rintro l h ⟨c,e,f,L,B⟩;have cp:(w.fV.all λC=>tj w C.ke false)=true:=by rw[<-B];simp
  rw[cp,bK]at o;simp[e,f,L];have N:kX w.dB.length 0 0 w.ik=false->jK w=false:=λh=>by rw[o,h]
  refine fc w.ik.length dj (λk l h=>gu 1 h/\h.get 0=some (dy 6 0 [w.t])/\dz l 1 (.ptr 0 0 0 0)/\dz l 8 (dw k)/\ot w k) ?_ ?_ dj ?_
  ·rintro k l h D J ⟨c,e,f,u,q⟩;have i:(k:Int)<w.ik.length:=dj;have g:w.ik[k]? =some w.ik[k]:=az D;have F:=c.ne (b:=0) dj;generalize w.ik[k]=s at*
   obtain⟨aA,bk,dk⟩:=s;by_cases j:aA<0
   ·have hr:=N (q.bad g (.inl j));simp[e,f,u,i,g,c.low,j,hr,c.hp]
   by_cases m:(w.dB.length:Int)<=aA
   ·have hr:=N (q.bad g (.inr m));simp[e,f,u,i,g,F,c.low,j,m,hr,c.hp]
   by_cases a8:k=0
   ·have bB:(k=0)=True:=by simp[a8]
    have c1:(0<k)=False:=dq;by_cases n:bk=0
    ·have U:=q.next g dt dt (.inl ⟨a8,n⟩);subst n;simp[e,f,u,i,g,F,c.low,j,m,bB,c1,J];exact⟨c.cons _,U⟩
    ·have hr:=N (q.no g (.inl ⟨a8,n⟩));simp[e,f,u,i,g,F,c.low,j,m,bB,n,hr,c.hp]
   ·obtain⟨x,M⟩:∃x,k=x+1:=⟨k-1,dj⟩;have v:w.ik[x]? =some w.ik[x]:=az dj;generalize w.ik[x]=p at*
    have bH:=q.rng M v;have P:=kL (a:=(k:Int)) (b:=1) dj dj;rw[show(k:Int)-1=(x:Int)by omega]at P;obtain⟨bT,bS,di⟩:=p;have bs:=gY (a:=bS) (b:=1) (by simp only at bH;omega) (by simp only at bH;omega);have V:(k=0)=False:=dq;have bn:(0<k)=True:=dq;by_cases n:bT=aA
    ·by_cases A:bk=bS+1
     ·have U:=q.next g dt dt (.inr ⟨x,_,M,v,.inl ⟨n,A⟩⟩);subst n A;simp[e,f,u,i,g,F,c.low,j,m,V,P,v,bs,J];exact⟨c.cons _,U⟩
     ·have hr:=N (q.no g (.inr ⟨x,_,M,v,.inl ⟨n,A⟩⟩));subst n;simp[e,f,u,i,g,F,c.low,j,m,V,P,v,bs,A,hr,c.hp]
    ·by_cases A:bk=0
     ·by_cases aN:aA<bT
      ·have hr:=N (q.no g (.inr ⟨x,_,M,v,.inr (.inl aN)⟩));subst A;simp[e,f,u,i,g,F,c.low,j,m,V,bn,P,v,n,aN,hr,c.hp]
      ·have U:=q.next g dt dt (.inr ⟨x,_,M,v,.inr ⟨dt,A⟩⟩);subst A;simp[e,f,u,i,g,F,c.low,j,m,V,bn,P,v,n,aN,J];exact⟨c.cons _,U⟩
     ·have hr:=N (q.no g (.inr ⟨x,_,M,v,.inr (.inr ⟨n,A⟩)⟩));simp[e,f,u,i,g,F,c.low,j,m,V,P,v,n,A,hr,c.hp]
  ·rintro l h ⟨c,e,f,u,q⟩;have hr:jK w=true:=by rw[o,q.fin]
   simp[e,f,u,hr,c.hp]
  ·simp[f,e];exact⟨c,ot.zero w⟩
def ym{a:fq}(ht:a.p 67=some uN)(w:dR):rl Tryz.prog cx a 67 [w.t]=some (.bool (jK w)):=gF ht K1 w trivial
end
end Go.Proofs.YtmaeadedikngoaaGreatDoor
