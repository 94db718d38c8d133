/- Texts W06d to W06i. -/
import Derived.Test.YtmaeadedikngoaaGreatDoorA16
set_option linter.all false
set_option maxRecDepth 100000
set_option maxHeartbeats 8000000
namespace Go.Proofs.YtmaeadedikngoaaGreatDoor
noncomputable section
open Go Go.TI
attribute [-simp] List.map_take List.map_drop List.map_append
def yT:gu:=⟨List fI×Int,λa=>[sl (a.1.map fI.t),dy a.2],λa=>a.1.length<=140737488355328,λa=> .bool (BT a.1 (a.1.length+1) a.2),λa c b=>by
 simp at b;rw[jw (λ_ _=>fI.inj) b.1,b.2]⟩
def QQ:yT.Ok Tryz.prog cx 161:=by
 refine gX (tb:=⟨pt [(206,tZ)],ht []⟩) ew ej (iQ 4362601011 [] Tryz.func161) (λa=>a.1.length+2) (by simp[yT]) (by simp[yT,Tryz.f161]) ?_;rintro⟨d,x⟩ hl l v;simp[yT]at hl v|-;obtain⟨f,g⟩:=v;simp[Tryz.f161];refine fh (d.length+1) dq (λj l q=>q=hE/\dB l 0 (sl (d.map fI.t))/\dB l 5 (dy j)/\∃e:Int,dB l 1 (dy e)/\BT d (d.length+1-j) e=BT d (d.length+1) x) ?_ ?_ dq ?_
 ·rintro j l q B w ⟨rfl,f,h,e,g,c⟩;have i:(j:Int)<=d.length:=dq;rw[show d.length+1-j=(d.length-j)+1 by omega,BT]at c;by_cases n:e<0
  ·have:wO d e=none:=by unfold wO;rw[ao dq]
   rw[this]at c;simp[f,g,h,i,n,<-c]
  ·by_cases p:(d.length:Int)<=e
   ·have:wO d e=none:=by unfold wO;rw[aq dq];simp;omega
    rw[this]at c;simp[f,g,h,i,n,p,<-c]
   ·have A:iT e d.length=true:=by rw[fj];omega
    obtain⟨o,r,z⟩:=iu A;rw[z]at c;simp only at c;have s:=ei (show 0<=e by omega);have y:=il (a:=e) (b:=1) dq dq;cases m:vz o.op with
    |false=>
     rw[m,ao dt]at c;simp[f,g,h,i,n,p,s,r,m,wi,<-c]
    |true=>
     rw[m,aq rfl]at c;cases k:decide (o.op=5)with
     |true=>
      rw[aO]at k;rw[IV,aq k]at c;have u:decide (o.op=5)=true:=by simpa using k
      simp[f,g,h,i,n,p,s,r,m,wi,u,w];exact c
     |false=>
      have u:decide (o.op=5)=false:=k;rw[bj]at k;rw[IV,ao k]at c;simp[f,g,h,i,n,p,s,r,m,wi,u,w,y];exact c
 ·rintro l q ⟨rfl,f,h,e,g,c⟩;rw[Nat.sub_self,BT]at c;have i:¬((d.length:Int)+1<=d.length):=dq;simp[f,h,i,<-c]
 ·simp[f,g]
def Vx{c:fy}(ht:c.p 161=some yT)(a:List fI)(b:Int)(hl:a.length<=140737488355328):rl Tryz.prog cx c 161 [sl (a.map fI.t),dy b]=some (.bool (BT a (a.length+1) b)):=gU ht QQ (a,b) hl
@[simp] theorem abX:sl []=T.fR:=id rfl
def vl{a:ge}{b:List ge}(c:a.size=0):iM (a::b)=if a.index=0 then(iM b).map (a.name:: ·)else none:=by rw[iM,aq c]
def wK{a:ge}{b:List ge}(c:¬a.size=0)(d:a.size<1\/4<a.size\/(b.length+1:Int)<a.size):iM (a::b)=none:=by rw[iM,ao c,dif_pos d]
def wJ{a:ge}{b:List ge}(c:¬a.size=0)(d:¬(a.size<1\/4<a.size\/(b.length+1:Int)<a.size)):iM (a::b)=if JJ a (a::b)=true then(iM ((a::b).drop a.size.toNat)).map (a.name:: ·)else none:=by rw[iM,ao c,dif_neg d]
def C7:∀(e:Nat) (c:List ge),c.length<=e->∀g,iM c=some g->g.length<=c.length:=by
 intro e;induction e with
 |zero=>
  intro c hl g a;have:c=[]:=aY dq;subst this;rw[iM]at a;simp at a;subst a;simp
 |succ e k=>
  intro c hl g a;cases c with
  |nil=>rw[iM]at a;simp at a;subst a;simp
  |cons d f=>
   simp at hl;by_cases h:d.size=0
   ·rw[vl h]at a;split at a
    ·cases b:iM f with
     |none=>rw[b]at a;simp at a
     |some i=>rw[b]at a;simp at a;subst a;have:=k f hl i b;simp;omega
    ·simp at a
   ·by_cases j:d.size<1\/4<d.size\/(f.length+1:Int)<d.size
    ·rw[wK h j]at a;simp at a
    ·rw[wJ h j]at a;split at a
     ·cases b:iM ((d::f).drop d.size.toNat)with
      |none=>rw[b]at a;simp at a
      |some i=>
       rw[b]at a;simp at a;subst a;have:=k _ du i b;simp at this|-;omega
     ·simp at a
def ww{d f:Type}(c:d->f)(b:List d){a:Nat}(e:a<b.length):(b.take (a+1)).map c=(b.take a).map c++[c b[a]]:=by
 rw[aU e,List.map_append];rfl
def qS(a:dU):T:=match iM a.cells with|some b=> .tuple [sl ((qm a b).map T.str),.bool true]|none=> .tuple [.fR,.bool false]
def qN:gu:=⟨dU,λa=>[a.t],λa=>a.cells.length<=1000000/\a.dY.length<=1000000/\a.fZ.length<=1000000/\a.dX.length<=1000000/\a.dE.length<=1000000,qS,λa c b=>by simp at b;rw[dU.inj b]⟩
def Lq:qN.Ok Tryz.prog cx 108:=by
 refine gX (tb:=⟨pt [],ht []⟩) ew ej (iQ 332312079452150195464880550324504575 [] Tryz.func108) (λa=>1000002) (by simp[qN]) (by simp[qN,Tryz.f108]) ?_;rintro(e:dU) hl l bB;simp[qN]at hl bB|-;obtain⟨hl,l2,l3,l4,l5⟩:=hl;simp[Tryz.f108,bB];have et:=hl;obtain⟨h,M⟩:∃h,h=e.cells:=⟨_,rfl⟩;rw[<-M]at hl;refine yC h.length (λd l i=>gF 1 i/\i.get 0=some (dA 6 0 [e.t])/\dB l 1 (.ptr 0 0 0 0)/\dB l 5 (dy d)/\∃y v,dB l 4 y/\rC i 0 y 1 (v.map T.str)/\v.length<=d/\(iM (h.drop d)).map (v++ ·)=iM h) ?_ (k:=0) dq dq ?_;rotate_left
 ·simp
  first|exact⟨[],rC.nil _ _ _,dt,dt⟩|exact⟨⟨dt,dt,dt⟩,[],rC.nil _ _ _,dt,dt⟩
 rintro d l i er ⟨r,g,j,q,y,v,n,z,eu,o⟩;have c9:=r.ne (b:=0) dq;by_cases N:d<h.length
 ·have c7:(d:Int)<h.length:=dq;have Y:(d:Int)<e.cells.length:=by rw[<-M];exact c7
  have bC:(e.cells.length:Int)=h.length:=by rw[M]
  have c6:h[d]? =some h[d]:=az N;have W:e.cells[d]? =some h[d]:=by rw[<-M];exact c6
  have a6:=aI N;rw[a6]at o;generalize eo:h[d]=c at*
  obtain⟨p,B,m,D,w⟩:=c;have di:=z.cons (dA 5 1 [ge.t ⟨p,B,m,D,w⟩]);have c1:(H.cons i (dA 5 1 [ge.t ⟨p,B,m,D,w⟩])).get i.size=some (dA 5 1 [ge.t ⟨p,B,m,D,w⟩]):=dt;have cL:(H.cons i (dA 5 1 [ge.t ⟨p,B,m,D,w⟩])).get 0=some (dA 6 0 [e.t]):=by rw[dP,ao (by rw[c9];simp)];exact g
  obtain⟨aX,ca,A,Z,C⟩:=di.Jp (cx:=cx) pS rfl vi rfl dt dt p du;rw[show(H.cons i (dA 5 1 [ge.t ⟨p,B,m,D,w⟩])).size=i.size+1 from rfl]at A;have E:=C.get _ _ c1 dt;have F:=C.get _ _ cL dt;have ae:=C.ok 1 (r.cons _);have de:i.size<ca.size:=by have:=C.size;simp[H.cons]at this;omega
  have cp:=il (a:=d) (b:=1) dq dq;have a7:iM h=none->qS e= .tuple [.fR,.bool false]:=by intro i;unfold qS;rw[<-M,i]
  by_cases al:m=0
  ·subst al;rw[vl rfl]at o;simp only at o;by_cases bn:B=0
   ·subst bn;rw[aq rfl]at o;simp[g,j,q,n,Y,W,r.low,A,E,F,cp];refine⟨d+1,dq,dq,ae,dt,v++[p],Z,du,?_⟩;rw[<-o];cases iM (List.drop (d+1) h)<;>simp
   ·rw[ao bn]at o;have hr:=a7 (by rw[<-o];rfl);simp[g,j,q,n,Y,W,r.low,A,E,bn,hr,ae.hp]
  ·have ey:(h.drop (d+1)).length+1=h.length-d:=by rw[List.length_drop];omega
   have bN:=kP (a:=e.cells.length) (b:=d) dq dq;by_cases b6:m<1\/4<m\/((h.drop (d+1)).length+1:Int)<m
   ·rw[wK al b6]at o;have hr:=a7 (by rw[<-o];rfl);by_cases p1:m<1
    ·simp[g,j,q,n,Y,W,r.low,A,E,al,p1,hr,ae.hp]
    ·by_cases p2:4<m
     ·simp[g,j,q,n,Y,W,r.low,A,E,al,p1,p2,hr,ae.hp]
     ·have p3:(e.cells.length:Int)-d<m:=dq;simp[g,j,q,n,Y,W,r.low,A,E,F,al,p1,p2,p3,hr,ae.hp,bN]
   ·rw[wJ al b6]at o;have p1:¬m<1:=dq;have p2:¬4<m:=dq;have p3:¬(e.cells.length:Int)-d<m:=dq;have bH:JJ ⟨p,B,m,D,w⟩ (⟨p,B,m,D,w⟩::List.drop (d+1) h)=allI (λk x=>decide (x=⟨p,k,m,false,w⟩)) 0 ((h.drop d).take m.toNat):=by rw[a6];rfl
    generalize JJ ⟨p,B,m,D,w⟩ (⟨p,B,m,D,w⟩::List.drop (d+1) h)=R at*
    obtain⟨s,rfl⟩:∃s:Nat,m=s:=⟨m.toNat,dq⟩;rw[cE]at bH o;simp only at o;have eb:¬s=0:=dq;simp[g,j,q,n,Y,W,r.low,A,E,F,eb,p1,p2,p3,bN];refine fh s dq (λk l I=>gF 1 I/\i.size<I.size/\I.get 0=some (dA 6 0 [e.t])/\dB l 1 (.ptr 0 0 0 0)/\dB l 5 (dy d)/\dB l 4 aX/\rC I 0 aX 1 ((v++[p]).map T.str)/\dB l 6 (.ptr i.size 0 0 0)/\dB l 7 (dy k)/\
     (∃bu,I.get i.size=some (dA 5 bu [ge.t ⟨p,B,s,D,w⟩]))/\allI (λk x=>decide (x=⟨p,k,s,false,w⟩)) k (((h.drop d).take s).drop k)=R) ?_ ?_ dq ?_
    ·rintro k l I aN ap ⟨u,dm,g,j,q,n,a8,J,K,⟨bu,G⟩,Q⟩;have V:(k:Int)<s:=dq;have c4:d+k<h.length:=dq;have dd:=u.ne (b:=0) dq;have aA:(i.size=I.size)=False:=du;have L:=il (a:=d) (b:=k) dq dq;have U:jX ((d:Int)+k)=some (d+k):=by rw[ei dq];congr 1
     have X:e.cells[d+k]? =some h[d+k]:=by rw[<-M];exact az c4
     have cv:((h.drop d).take s).drop k=h[d+k]::((h.drop d).take s).drop (k+1):=by
      rw[aI (by rw[List.length_take,List.length_drop];omega)];congr 1;rw[List.getElem_take,List.getElem_drop]
     rw[cv,allI]at Q;generalize h[d+k]=x at*
     obtain⟨bl,bk,bs,bz,bi⟩:=x;have av:¬(⟨bl,bk,bs,bz,bi⟩:ge)=⟨p,k,s,false,w⟩->qS e= .tuple [.fR,.bool false]:=by
      intro cy;rw[aM cy,Bool.false_and]at Q;rw[<-Q,ao dt]at o;exact a7 (by rw[<-o];rfl)
     have dk:=u.cons (dA 5 1 [ge.t ⟨bl,bk,bs,bz,bi⟩]);by_cases O:bk=k
     ·by_cases S:bl=p
      ·by_cases an:bs=s
       ·by_cases aE:bi=w
        ·cases bz with
         |false=>
          subst O S an aE;rw[aT rfl,bK]at Q;simp[g,j,q,n,J,K,dd,aA,V,G,L,U,X,u.low,ap];exact⟨dk,dq,a8.cons _,Q⟩
         |true=>
          have hr:=av dt;simp[g,j,q,J,K,aA,V,G,L,U,X,u.low,O,S,an,aE,hr,u.hp]
        ·have hr:=av (by simp[aE]);simp[g,j,q,J,K,aA,V,G,L,U,X,u.low,O,S,an,aE,hr,u.hp]
       ·have hr:=av (by simp[an]);simp[g,j,q,J,K,aA,V,G,L,U,X,u.low,O,S,an,hr,u.hp]
      ·have hr:=av (by simp[S]);simp[g,j,q,J,K,aA,V,G,L,U,X,u.low,O,S,hr,u.hp]
     ·have hr:=av (by simp[O]);simp[g,j,q,J,K,V,G,L,U,X,u.low,O,hr,u.hp]
    ·rintro l I ⟨u,dm,g,j,q,n,a8,J,K,⟨bu,G⟩,Q⟩;have ce:R=true:=by rw[<-Q,List.drop_eq_nil_of_le (by rw[List.length_take];omega)];rfl
     have L:=il (a:=d) (b:=s) dq dq;rw[ce,aq rfl]at o;simp[g,j,q,n,J,K,G,L];refine⟨d+s,dq,dq,u,dt,v++[p],a8,du,?_⟩;rw[<-o,List.drop_drop.symm,a6];cases iM (List.drop s (_::List.drop (d+1) h))<;>simp
    ·simp[j,q];exact⟨ae,de,F,Z,⟨_,E⟩,bH.symm⟩
 ·have:d=h.length:=dq;subst this;have bC:(e.cells.length:Int)=h.length:=by rw[M]
  rw[dh,iM]at o;have dn:iM e.cells=some v:=by rw[<-M,<-o];simp
  have hr:qS e= .tuple [sl ((qm e v).map T.str),.bool true]:=by unfold qS;rw[dn]
  have eh:v.length<=1000000:=dq;simp[g,j,q,bC];refine fh e.dY.length dq (λk l i=>gF 1 i/\i.get 0=some (dA 6 0 [e.t])/\dB l 1 (.ptr 0 0 0 0)/\dB l 9 (dy k)/\
   ∃y,dB l 4 y/\rC i 0 y 1 ((v++(e.dY.take k).map (·.name)).map T.str)) ?_ ?_ dq ?_
  ·rintro k l i N ap ⟨r,g,j,P,y,n,z⟩;have aN:(k:Int)<e.dY.length:=dq;obtain⟨aX,E,A,Z,C⟩:=z.Jp (cx:=cx) pS rfl vi rfl dt dt (e.dY[k]).name du;have F:=C.get 0 _ g dt;simp[g,j,P,n,aN,N,A,ap];refine⟨C.ok 1 r,F,?_⟩;simpa[ww _ _ N]using Z
  rotate_left
  ·simp[j,n];exact⟨r,g,by simpa using z⟩
  rintro l i ⟨r,g,j,P,y,n,z⟩;simp[g,j,P];rw[aL]at z;refine fh e.fZ.length dq (λk l i=>gF 1 i/\i.get 0=some (dA 6 0 [e.t])/\dB l 1 (.ptr 0 0 0 0)/\dB l 10 (dy k)/\
   ∃y,dB l 4 y/\rC i 0 y 1 ((v++e.dY.map (·.name)++(e.fZ.take k).map (·.name)).map T.str)) ?_ ?_ dq ?_
  ·rintro k l i N ap ⟨r,g,j,P,y,n,z⟩;have aN:(k:Int)<e.fZ.length:=dq;obtain⟨aX,E,A,Z,C⟩:=z.Jp (cx:=cx) pS rfl vi rfl dt dt (e.fZ[k]).name du;have F:=C.get 0 _ g dt;simp[g,j,P,n,aN,N,A,ap];refine⟨C.ok 1 r,F,?_⟩;simpa[ww _ _ N]using Z
  rotate_left
  ·simp[j,g,n];exact⟨r,by simpa using z⟩
  rintro l i ⟨r,g,j,P,y,n,z⟩;rw[aL]at z;obtain⟨eA,ec,b8,dv,bS⟩:=z.TD (cx:=cx) pS rfl vi rfl dt dt e.dX du;have b7:=bS.get 0 _ g dt;obtain⟨eB,ef,b9,bT,ds⟩:=dv.TD (cx:=cx) pS rfl vi rfl dt dt e.dE du;have ea:=ds.ok 1 (bS.ok 1 r);have cb:qm e v=v++e.dY.map (·.name)++e.fZ.map (·.name)++e.dX++e.dE:=rfl;rw[<-cb]at bT;simp[g,j,P,n,b8,b7,b9,hr,bT.fzM (f:=T.str) dt,ea.hp]
def Pm{b:fy}(ht:b.p 108=some qN)(a:dU)(hl:a.cells.length<=1000000/\a.dY.length<=1000000/\a.fZ.length<=1000000/\a.dX.length<=1000000/\a.dE.length<=1000000):rl Tryz.prog cx b 108 [a.t]=some (qS a):=gU ht Lq a hl
def uT:gu:=⟨dU,λa=>[a.t],λa=>True,λa=> .bool (jO a),λa c b=>by simp at b;rw[dU.inj b]⟩
def zU{w:dU}:rK w=true↔(w.cells.length<=12/\w.dY.length<=4/\w.fZ.length<=2/\w.dX.length<=2/\w.iq.length<=60/\1<=w.dE.length/\w.dE.length<=4):=by
 unfold rK;simp;omega
def oD{w:dU}(a:¬(w.cells.length<=12/\w.dY.length<=4/\w.fZ.length<=2/\w.dX.length<=2/\w.iq.length<=60/\1<=w.dE.length/\w.dE.length<=4)):jO w=false:=by
 unfold jO;have:rK w=false:=by rw[cj];exact λk=>a (zU.1 k)
 rw[this];rfl
def oy(w:dU)(k:Nat):Prop:=∃b a:Int,0<=b/\0<=a/\a<=k/\(k=0->b=0/\a=0)/\(∀d c,k=d+1->w.iq[d]? =some c->b=c.dQ/\a=c.stmt+1)/\li w.dE.length b a (w.iq.drop k)=li w.dE.length 0 0 w.iq
def oy.zero(w:dU):oy w 0:=⟨0,0,dt,dt,dt,dt,dt,dt⟩
def oy.fin{w:dU}(a:oy w w.iq.length):li w.dE.length 0 0 w.iq=true:=by
 obtain⟨c,d,_,_,_,_,_,b⟩:=a;rw[<-b,dh];rfl
section
variable {w:dU}{k:Nat}{s:ir}
def oy.cons(h:oy w k)(c:w.iq[k]? =some s):∃a b:Int,0<=a/\0<=b/\b<=k/\(k=0->a=0/\b=0)/\(∀f d,k=f+1->w.iq[f]? =some d->a=d.dQ/\b=d.stmt+1)/\(if s.dQ<a\/(w.dE.length:Int)<=s.dQ then false else
 if a<s.dQ then(if s.stmt=0 then li w.dE.length s.dQ 1 (w.iq.drop (k+1))else false)else(if s.stmt=b then li w.dE.length a (b+1) (w.iq.drop (k+1))else false))=li w.dE.length 0 0 w.iq:=by
 obtain⟨a,b,g,i,j,l,m,n⟩:=h;have e:k<w.iq.length:=by
  rcases aD k w.iq.length with h|h
  ·exact h
  ·rw[aK h]at c;simp at c
 have:w.iq[k]=s:=by rw[az e]at c;simpa using c
 refine⟨a,b,g,i,j,l,m,?_⟩;rw[<-n,aI e,this,li]
def oy.bad(a:oy w k)(c:w.iq[k]? =some s)(i:s.dQ<0\/(w.dE.length:Int)<=s.dQ):li w.dE.length 0 0 w.iq=false:=by
 obtain⟨j,l,d,e,f,g,h,b⟩:=a.cons c;rw[<-b,aq dq]
def oy.next(n:oy w k)(j:w.iq[k]? =some s)(o:0<=s.dQ)(x:s.dQ<w.dE.length)(p:(k=0/\s.stmt=0)\/∃b a,k=b+1/\w.iq[b]? =some a/\((a.dQ=s.dQ/\s.stmt=a.stmt+1)\/(a.dQ<s.dQ/\s.stmt=0))):oy w (k+1):=by
 obtain⟨y,z,t0,A,B,u,r,c⟩:=n.cons j;have t:∀b a,k+1=b+1->w.iq[b]? =some a->a=s:=by
  intro b a g h;have:b=k:=dq;subst this;rw[j]at h;simpa using h.symm
 have fin:∀d:Int,d=s.stmt+1->0<=d->d<=k+1->li w.dE.length s.dQ d (w.iq.drop (k+1))=li w.dE.length 0 0 w.iq->oy w (k+1):=by
  intro d e f v m;exact⟨s.dQ,d,o,f,dq,dt,λb a g h=>by rw[t b a g h];exact⟨rfl,e⟩,m⟩
 rcases p with⟨rfl,l⟩|⟨b,a,rfl,g,q⟩
 ·obtain⟨rfl,rfl⟩:=u rfl;rw[ao dq]at c;refine fin 1 dq dq dq ?_;rw[<-c];by_cases i:0<s.dQ
  ·rw[aq i,aq l]
  ·rw[ao i,aq l];have:s.dQ=0:=dq;rw[this];rfl
 ·obtain⟨rfl,rfl⟩:=r b a rfl g;rcases q with⟨e,f⟩|⟨e,f⟩
  ·rw[ao dq,ao dq,aq f]at c;refine fin (a.stmt+1+1) dq dq dq ?_;rw[<-c,e]
  ·rw[ao dq,aq e,aq f]at c;exact fin 1 dq dq dq c
def oy.no(f:oy w k)(n:w.iq[k]? =some s)(g:(k=0/\s.stmt≠0)\/∃b a,k=b+1/\w.iq[b]? =some a/\((a.dQ=s.dQ/\s.stmt≠a.stmt+1)\/s.dQ<a.dQ\/(a.dQ≠s.dQ/\s.stmt≠0))):li w.dE.length 0 0 w.iq=false:=by
 obtain⟨p,q,t0,r,t,o,m,j⟩:=f.cons n;rw[<-j];rcases g with⟨rfl,e⟩|⟨b,a,rfl,h,l⟩
 ·obtain⟨rfl,rfl⟩:=o rfl;rw[ao e,ao e];simp
 ·obtain⟨rfl,rfl⟩:=m b a rfl h;rcases l with⟨c,d⟩|c|⟨c,d⟩
  ·rw[ao d,ao (show¬a.dQ<s.dQ by omega)];simp
  ·rw[aq (.inl c)]
  ·by_cases i:s.dQ<a.dQ
   ·rw[aq (.inl i)]
   ·rw[ao d,aq (show a.dQ<s.dQ by omega)];simp
def oy.Ua(c:oy w k){b:Nat}{a:ir}(e:k=b+1)(d:w.iq[b]? =some a):0<=a.stmt+1/\a.stmt+1<=k:=by
 obtain⟨l,m,t0,g,h,j,f,i⟩:=c;obtain⟨_,rfl⟩:=f b a e d;exact⟨g,h⟩
end
def Ld:uT.Ok Tryz.prog cx 67:=by
 refine gX (tb:=⟨pt [(108,qN),(109,wy),(110,AO)],ht []⟩) ew ej (iQ 95827739445721067874190659254502973333984266632037375 [] Tryz.func67) (λa=>100) (by simp[uT]) (by simp[uT,Tryz.f67]) ?_;rintro(w:dU) _ l r;simp[uT]at r|-;by_cases b6:w.cells.length<=12;rotate_left
 ·simp[Tryz.f67,r,show(12:Int)<w.cells.length by omega,oD (w:=w) dq]
 have E:¬(12:Int)<w.cells.length:=dq;by_cases b7:w.dY.length<=4;rotate_left
 ·simp[Tryz.f67,r,E,show(4:Int)<w.dY.length by omega,oD (w:=w) dq]
 have I:¬(4:Int)<w.dY.length:=dq;by_cases b8:w.fZ.length<=2;rotate_left
 ·simp[Tryz.f67,r,E,I,show(2:Int)<w.fZ.length by omega,oD (w:=w) dq]
 have K:¬(2:Int)<w.fZ.length:=dq;by_cases b9:w.dX.length<=2;rotate_left
 ·simp[Tryz.f67,r,E,I,K,show(2:Int)<w.dX.length by omega,oD (w:=w) dq]
 have Q:¬(2:Int)<w.dX.length:=dq;by_cases cb:1<=w.dE.length;rotate_left
 ·simp[Tryz.f67,r,E,I,K,Q,show(w.dE.length:Int)<1 by omega,oD (w:=w) dq]
 have Z:¬(w.dE.length:Int)<1:=dq;by_cases ce:w.dE.length<=4;rotate_left
 ·simp[Tryz.f67,r,E,I,K,Q,Z,show(4:Int)<w.dE.length by omega,oD (w:=w) dq]
 have aE:¬(4:Int)<w.dE.length:=dq;by_cases ca:w.iq.length<=60;rotate_left
 ·simp[Tryz.f67,r,E,I,K,Q,Z,aE,show(60:Int)<w.iq.length by omega,oD (w:=w) dq]
 have bl:¬(60:Int)<w.iq.length:=dq;have o:jO w=(A5 w&&(w.fZ.all λC=>tH w C.kl false)&&li w.dE.length 0 0 w.iq):=by
  unfold jO;rw[zU.2 ⟨b6,b7,b8,b9,ca,cb,ce⟩,bK]
 have bz:=λ{tb:fy} (ht:tb.p 108=some qN)=>Pm ht w ⟨dq,dq,dq,dq,dq⟩;cases X:iM w.cells with
 |none=>
  have hr:jO w=false:=by rw[o];unfold A5;rw[X];rfl
  have aX:qS w= .tuple [.fR,.bool false]:=by unfold qS;rw[X]
  simp[Tryz.f67,r,E,I,K,Q,bl,Z,aE,bz,aX,hr]
 |some Y=>
  have aX:qS w= .tuple [sl ((qm w Y).map T.str),.bool true]:=by unfold qS;rw[X]
  have c9:=C7 _ _ (au _) Y X;have c6:A5 w=uY (qm w Y):=by unfold A5;rw[X]
  have c7:(qm w Y).length<=24:=by unfold qm;simp;omega
  rw[c6]at o;generalize qm w Y=d at*
  simp[Tryz.f67,r,E,I,K,Q,bl,Z,aE,bz,aX];refine fh d.length dq (λk l h=>gF 1 h/\h.get 0=some (dA 6 0 [w.t])/\dB l 1 (.ptr 0 0 0 0)/\dB l 3 (sl (d.map T.str))/\dB l 5 (dy k)/\(d.take k).all tz=true/\(d.take k).Nodup) ?_ ?_ dq ?_
  ·rintro k l h D J ⟨c,e,f,R,S,ae,ap⟩;have i:(k:Int)<d.length:=dq;have cL:d[k]∈d:=aF D;have c1:d=d.take k++d[k]::d.drop (k+1):=by rw[<-aI D,cN]
   have c4:d.take (k+1)=d.take k++[d[k]]:=aU D;have bi:d[k]? =some d[k]:=az D;generalize d[k]=z at*
   have bu:=λ{tb:fy} (ht:tb.p 110=some AO)=>Mr ht (d.take k) z (by rw[List.length_take];omega);have bC:k<=d.length:=dq;cases O:tz z with
   |false=>
    have hr:jO w=false:=by
     rw[o];have:uY d=false:=by
      unfold uY;have:d.all tz=false:=by rw[List.all_eq_false];exact⟨z,cL,by simp[O]⟩
      rw[this];rfl
     rw[this];rfl
    simp[R,S,i,bi,o6,O,hr,c.hp]
   |true=>
    by_cases al:z∈d.take k
    ·have hr:jO w=false:=by
      rw[o];have:uY d=false:=by
       unfold uY;have:¬d.Nodup:=by
        rw[c1];intro h;exact(List.nodup_append.1 h).2.2 z al z dt rfl
       rw[aM this];simp
      rw[this];rfl
     have a6:(0<=rx (d.take k) z 0)=True:=by rw[Fw];simp[al]
     simp[R,S,i,bi,o6,O,bu,bC,a6,hr,c.hp]
    ·have a6:(0<=rx (d.take k) z 0)=False:=by rw[Fw];simp[al]
     simp[e,f,R,S,i,bi,o6,O,bu,bC,a6,J];rw[c4];refine⟨c,?_,?_⟩
     ·intro y G;rcases List.mem_append.1 G with G|G
      ·exact List.all_eq_true.1 ae y G
      ·simp at G;subst G;exact O
     ·rw[List.nodup_append];exact⟨ap,dt,λa r b o=>by simp at o;subst o;exact λh=>al (h▸r)⟩
  rotate_left
  ·simp
   first|done|exact⟨dt,dt,dt⟩
  rintro l h ⟨c,e,f,R,S,ae,ap⟩;rw[aL]at ae ap;have cv:uY d=true:=by unfold uY;rw[ae,aT ap];rfl
  rw[cv,bK]at o;simp[R,S];refine fh w.fZ.length dq (λk l h=>gF 1 h/\h.get 0=some (dA 6 0 [w.t])/\dB l 1 (.ptr 0 0 0 0)/\dB l 6 (dy k)/\
   (w.fZ.drop k).all (λC=>tH w C.kl false)=w.fZ.all λC=>tH w C.kl false) ?_ ?_ dq ?_
  ·rintro k l h D J ⟨c,e,f,L,B⟩;have i:(k:Int)<w.fZ.length:=dq;have g:w.fZ[k]? =some w.fZ[k]:=az D;rw[aI D,cA]at B;generalize w.fZ[k]=C at*
   obtain⟨cn,H⟩:=C;simp only at B;by_cases a7:iT H w.dY.length=true
   ·obtain⟨z,bN,G⟩:=iu a7;have W:=fj.1 a7;have j:¬H<0:=dq;have m:¬(w.dY.length:Int)<=H:=dq;have an:tH w H false= !z.rW:=by unfold tH;rw[G];simp
    cases av:z.rW with
    |false=>
     rw[an,av]at B;simp[e,f,L,i,g,j,m,ei W.1,bN,av,J];exact⟨c,by simpa using B⟩
    |true=>
     rw[an,av]at B;have hr:jO w=false:=by rw[o,<-B];rfl
     simp[e,f,L,i,g,j,m,ei W.1,bN,av,hr,c.hp]
   ·have W:iT H w.dY.length=false:=by simpa using a7
    have O:=DO W;have an:tH w H false=false:=by unfold tH;rw[qq W]
    rw[an]at B;have hr:jO w=false:=by rw[o,<-B];rfl
    by_cases j:H<0
    ·simp[e,f,L,i,g,j,hr,c.hp]
    ·have m:(w.dY.length:Int)<=H:=dq;simp[e,f,L,i,g,j,m,hr,c.hp]
  rotate_left
  ·simp[f,e];exact c
  rintro l h ⟨c,e,f,L,B⟩;have cp:(w.fZ.all λC=>tH w C.kl false)=true:=by rw[<-B];simp
  rw[cp,bK]at o;simp[e,f,L];have N:li w.dE.length 0 0 w.iq=false->jO w=false:=λh=>by rw[o,h]
  refine fh w.iq.length dq (λk l h=>gF 1 h/\h.get 0=some (dA 6 0 [w.t])/\dB l 1 (.ptr 0 0 0 0)/\dB l 8 (dy k)/\oy w k) ?_ ?_ dq ?_
  ·rintro k l h D J ⟨c,e,f,u,q⟩;have i:(k:Int)<w.iq.length:=dq;have g:w.iq[k]? =some w.iq[k]:=az D;have F:=c.ne (b:=0) dq;generalize w.iq[k]=s at*
   obtain⟨aA,bk,de⟩:=s;by_cases j:aA<0
   ·have hr:=N (q.bad g (.inl j));simp[e,f,u,i,g,c.low,j,hr,c.hp]
   by_cases m:(w.dE.length:Int)<=aA
   ·have hr:=N (q.bad g (.inr m));simp[e,f,u,i,g,F,c.low,j,m,hr,c.hp]
   by_cases a8:k=0
   ·have bB:(k=0)=True:=by simp[a8]
    have cy:(0<k)=False:=du;by_cases n:bk=0
    ·have U:=q.next g dw dw (.inl ⟨a8,n⟩);subst n;simp[e,f,u,i,g,F,c.low,j,m,bB,cy,J];exact⟨c.cons _,U⟩
    ·have hr:=N (q.no g (.inl ⟨a8,n⟩));simp[e,f,u,i,g,F,c.low,j,m,bB,n,hr,c.hp]
   ·obtain⟨x,M⟩:∃x,k=x+1:=⟨k-1,dq⟩;have v:w.iq[x]? =some w.iq[x]:=az dq;generalize w.iq[x]=p at*
    have bH:=q.Ua M v;have P:=kP (a:=(k:Int)) (b:=1) dq dq;rw[show(k:Int)-1=(x:Int)by omega]at P;obtain⟨bT,bS,dd⟩:=p;have bs:=il (a:=bS) (b:=1) (by simp only at bH;omega) (by simp only at bH;omega);have V:(k=0)=False:=du;have bn:(0<k)=True:=du;by_cases n:bT=aA
    ·by_cases A:bk=bS+1
     ·have U:=q.next g dw dw (.inr ⟨x,_,M,v,.inl ⟨n,A⟩⟩);subst n A;simp[e,f,u,i,g,F,c.low,j,m,V,P,v,bs,J];exact⟨c.cons _,U⟩
     ·have hr:=N (q.no g (.inr ⟨x,_,M,v,.inl ⟨n,A⟩⟩));subst n;simp[e,f,u,i,g,F,c.low,j,m,V,P,v,bs,A,hr,c.hp]
    ·by_cases A:bk=0
     ·by_cases aN:aA<bT
      ·have hr:=N (q.no g (.inr ⟨x,_,M,v,.inr (.inl aN)⟩));subst A;simp[e,f,u,i,g,F,c.low,j,m,V,bn,P,v,n,aN,hr,c.hp]
      ·have U:=q.next g dw dw (.inr ⟨x,_,M,v,.inr ⟨dw,A⟩⟩);subst A;simp[e,f,u,i,g,F,c.low,j,m,V,bn,P,v,n,aN,J];exact⟨c.cons _,U⟩
     ·have hr:=N (q.no g (.inr ⟨x,_,M,v,.inr (.inr ⟨n,A⟩)⟩));simp[e,f,u,i,g,F,c.low,j,m,V,P,v,n,A,hr,c.hp]
  ·rintro l h ⟨c,e,f,u,q⟩;have hr:jO w=true:=by rw[o,q.fin]
   simp[e,f,u,hr,c.hp]
  ·simp[f,e];exact⟨c,oy.zero w⟩
def yv{a:fy}(ht:a.p 67=some uT)(w:dU):rl Tryz.prog cx a 67 [w.t]=some (.bool (jO w)):=gU ht Ld w trivial
end
end Go.Proofs.YtmaeadedikngoaaGreatDoor
