/- Texts W06d to W06i. -/
import Derived.Test.YtmaeadedikngoaaGreatDoorA15
set_option linter.all false
set_option maxRecDepth 100000
set_option maxHeartbeats 8000000
namespace Go.Proofs.YtmaeadedikngoaaGreatDoor
noncomputable section
open Go Go.TI
attribute [-simp] List.map_take List.map_drop List.map_append
def zH:hU:=⟨List fT×Int,λa=>[sl (a.1.map fT.t),dE a.2],λa=>a.1.length<=140737488355328,λa=> .bool (CB a.1 (a.1.length+1) a.2),λa c b=>by
 simp at b;rw[jD (λ_ _=>fT.inj) b.1,b.2]⟩
def Se:zH.Ok Tryz.prog cx 161:=by
 refine iv (tb:=⟨pt [(206,uA)],ht []⟩) fa eQ (iR 4362601011 [] Tryz.func161) (λa=>a.1.length+2) (by simp[zH]) (by simp[zH,Tryz.f161]) ?_;rintro⟨d,x⟩ hl l v;simp[zH]at hl v|-;obtain⟨f,g⟩:=v;simp[Tryz.f161];refine fy (d.length+1) dz (λj l q=>q=hE/\dH l 0 (sl (d.map fT.t))/\dH l 5 (dE j)/\∃e:Int,dH l 1 (dE e)/\CB d (d.length+1-j) e=CB d (d.length+1) x) ?_ ?_ dz ?_
 ·rintro j l q B w ⟨rfl,f,h,e,g,c⟩;have i:(j:Int)<=d.length:=dz;rw[show d.length+1-j=(d.length-j)+1 by omega,CB]at c;by_cases n:e<0
  ·have:wV d e=none:=by unfold wV;rw[ao dz]
   rw[this]at c;simp[f,g,h,i,n,<-c]
  ·by_cases p:(d.length:Int)<=e
   ·have:wV d e=none:=by unfold wV;rw[aq dz];simp;omega
    rw[this]at c;simp[f,g,h,i,n,p,<-c]
   ·have A:je e d.length=true:=by rw[fq];omega
    obtain⟨o,r,z⟩:=iI A;rw[z]at c;simp only at c;have s:=eK (show 0<=e by omega);have y:=ik (a:=e) (b:=1) dz dz;cases m:wj o.op with
    |false=>
     rw[m,ao dA]at c;simp[f,g,h,i,n,p,s,r,m,wN,<-c]
    |true=>
     rw[m,aq rfl]at c;cases k:decide (o.op=5)with
     |true=>
      rw[aK]at k;rw[J5,aq k]at c;have u:decide (o.op=5)=true:=by simpa using k
      simp[f,g,h,i,n,p,s,r,m,wN,u,w];exact c
     |false=>
      have u:decide (o.op=5)=false:=k;rw[bw]at k;rw[J5,ao k]at c;simp[f,g,h,i,n,p,s,r,m,wN,u,w,y];exact c
 ·rintro l q ⟨rfl,f,h,e,g,c⟩;rw[Nat.sub_self,CB]at c;have i:¬((d.length:Int)+1<=d.length):=dz;simp[f,h,i,<-c]
 ·simp[f,g]
def Xg{c:fJ}(ht:c.p 161=some zH)(a:List fT)(b:Int)(hl:a.length<=140737488355328):rl Tryz.prog cx c 161 [sl (a.map fT.t),dE b]=some (.bool (CB a (a.length+1) b)):=im ht Se (a,b) hl
@[simp] theorem adG:sl []=T.gu:=id rfl
def wc{a:ij}{b:List ij}(c:a.size=0):jb (a::b)=if a.index=0 then(jb b).map (a.name:: ·)else none:=by rw[jb,aq c]
def xn{a:ij}{b:List ij}(c:¬a.size=0)(d:a.size<1\/4<a.size\/(b.length+1:Int)<a.size):jb (a::b)=none:=by rw[jb,ao c,dif_pos d]
def xm{a:ij}{b:List ij}(c:¬a.size=0)(d:¬(a.size<1\/4<a.size\/(b.length+1:Int)<a.size)):jb (a::b)=if KS a (a::b)=true then(jb ((a::b).drop a.size.toNat)).map (a.name:: ·)else none:=by rw[jb,ao c,dif_neg d]
def Eg:∀(e:Nat) (c:List ij),c.length<=e->∀g,jb c=some g->g.length<=c.length:=by
 intro e;induction e with
 |zero=>
  intro c hl g a;have:c=[]:=bm dz;subst this;rw[jb]at a;simp at a;subst a;simp
 |succ e k=>
  intro c hl g a;cases c with
  |nil=>rw[jb]at a;simp at a;subst a;simp
  |cons d f=>
   simp at hl;by_cases h:d.size=0
   ·rw[wc h]at a;split at a
    ·cases b:jb f with
     |none=>rw[b]at a;simp at a
     |some i=>rw[b]at a;simp at a;subst a;have:=k f hl i b;simp;omega
    ·simp at a
   ·by_cases j:d.size<1\/4<d.size\/(f.length+1:Int)<d.size
    ·rw[xn h j]at a;simp at a
    ·rw[xm h j]at a;split at a
     ·cases b:jb ((d::f).drop d.size.toNat)with
      |none=>rw[b]at a;simp at a
      |some i=>
       rw[b]at a;simp at a;subst a;have:=k _ dB i b;simp at this|-;omega
     ·simp at a
def w7{d f:Type}(c:d->f)(b:List d){a:Nat}(e:a<b.length):(b.take (a+1)).map c=(b.take a).map c++[c b[a]]:=by
 rw[aZ e,List.map_append];rfl
def rR(a:d8):T:=match jb a.cells with|some b=> .tuple [sl ((qX a b).map T.str),.bool true]|none=> .tuple [.gu,.bool false]
def rM:hU:=⟨d8,λa=>[a.t],λa=>a.cells.length<=1000000/\a.em.length<=1000000/\a.gW.length<=1000000/\a.eg.length<=1000000/\a.dK.length<=1000000,rR,λa c b=>by simp at b;rw[d8.inj b]⟩
def MG:rM.Ok Tryz.prog cx 108:=by
 refine iv (tb:=⟨pt [],ht []⟩) fa eQ (iR 332312079452150195464880550324504575 [] Tryz.func108) (λa=>1000002) (by simp[rM]) (by simp[rM,Tryz.f108]) ?_;rintro(e:d8) hl l bB;simp[rM]at hl bB|-;obtain⟨hl,l2,l3,l4,l5⟩:=hl;simp[Tryz.f108,bB];have et:=hl;obtain⟨h,M⟩:∃h,h=e.cells:=⟨_,rfl⟩;rw[<-M]at hl;refine nz h.length (λd l i=>ig 1 i/\i.get 0=some (dG 6 0 [e.t])/\dH l 1 (.ptr 0 0 0 0)/\dH l 5 (dE d)/\∃y v,dH l 4 y/\so i 0 y 1 (v.map T.str)/\v.length<=d/\(jb (h.drop d)).map (v++ ·)=jb h) ?_ (k:=0) dz dz ?_;rotate_left
 ·simp
  first|exact⟨[],so.nil _ _ _,dA,dA⟩|exact⟨⟨dA,dA,dA⟩,[],so.nil _ _ _,dA,dA⟩
 rintro d l i er ⟨r,g,j,q,y,v,n,z,eu,o⟩;have c9:=r.ne (b:=0) dz;by_cases N:d<h.length
 ·have c7:(d:Int)<h.length:=dz;have Y:(d:Int)<e.cells.length:=by rw[<-M];exact c7
  have bC:(e.cells.length:Int)=h.length:=by rw[M]
  have c6:h[d]? =some h[d]:=az N;have W:e.cells[d]? =some h[d]:=by rw[<-M];exact c6
  have a6:=aJ N;rw[a6]at o;generalize eo:h[d]=c at*
  obtain⟨p,B,m,D,w⟩:=c;have di:=z.cons (dG 5 1 [ij.t ⟨p,B,m,D,w⟩]);have c1:(H.cons i (dG 5 1 [ij.t ⟨p,B,m,D,w⟩])).get i.size=some (dG 5 1 [ij.t ⟨p,B,m,D,w⟩]):=dA;have cX:(H.cons i (dG 5 1 [ij.t ⟨p,B,m,D,w⟩])).get 0=some (dG 6 0 [e.t]):=by rw[dV,ao (by rw[c9];simp)];exact g
  obtain⟨aX,b9,A,Z,C⟩:=di.Ky (cx:=cx) qA rfl v7 rfl dA dA p dB;rw[show(H.cons i (dG 5 1 [ij.t ⟨p,B,m,D,w⟩])).size=i.size+1 from rfl]at A;have E:=C.get _ _ c1 dA;have F:=C.get _ _ cX dA;have ae:=C.ok 1 (r.cons _);have de:i.size<b9.size:=by have:=C.size;simp[H.cons]at this;omega
  have ce:=ik (a:=d) (b:=1) dz dz;have a7:jb h=none->rR e= .tuple [.gu,.bool false]:=by intro i;unfold rR;rw[<-M,i]
  by_cases al:m=0
  ·subst al;rw[wc rfl]at o;simp only at o;by_cases bp:B=0
   ·subst bp;rw[aq rfl]at o;simp[g,j,q,n,Y,W,r.low,A,E,F,ce];refine⟨d+1,dz,dz,ae,dA,v++[p],Z,dB,?_⟩;rw[<-o];cases jb (List.drop (d+1) h)<;>simp
   ·rw[ao bp]at o;have hr:=a7 (by rw[<-o];rfl);simp[g,j,q,n,Y,W,r.low,A,E,bp,hr,ae.hp]
  ·have ey:(h.drop (d+1)).length+1=h.length-d:=by rw[List.length_drop];omega
   have bN:=kF (a:=e.cells.length) (b:=d) dz dz;by_cases bX:m<1\/4<m\/((h.drop (d+1)).length+1:Int)<m
   ·rw[xn al bX]at o;have hr:=a7 (by rw[<-o];rfl);by_cases p1:m<1
    ·simp[g,j,q,n,Y,W,r.low,A,E,al,p1,hr,ae.hp]
    ·by_cases p2:4<m
     ·simp[g,j,q,n,Y,W,r.low,A,E,al,p1,p2,hr,ae.hp]
     ·have p3:(e.cells.length:Int)-d<m:=dz;simp[g,j,q,n,Y,W,r.low,A,E,F,al,p1,p2,p3,hr,ae.hp,bN]
   ·rw[xm al bX]at o;have p1:¬m<1:=dz;have p2:¬4<m:=dz;have p3:¬(e.cells.length:Int)-d<m:=dz;have bH:KS ⟨p,B,m,D,w⟩ (⟨p,B,m,D,w⟩::List.drop (d+1) h)=allI (λk x=>decide (x=⟨p,k,m,false,w⟩)) 0 ((h.drop d).take m.toNat):=by rw[a6];rfl
    generalize KS ⟨p,B,m,D,w⟩ (⟨p,B,m,D,w⟩::List.drop (d+1) h)=R at*
    obtain⟨s,rfl⟩:∃s:Nat,m=s:=⟨m.toNat,dz⟩;rw[cJ]at bH o;simp only at o;have eb:¬s=0:=dz;simp[g,j,q,n,Y,W,r.low,A,E,F,eb,p1,p2,p3,bN];refine fy s dz (λk l I=>ig 1 I/\i.size<I.size/\I.get 0=some (dG 6 0 [e.t])/\dH l 1 (.ptr 0 0 0 0)/\dH l 5 (dE d)/\dH l 4 aX/\so I 0 aX 1 ((v++[p]).map T.str)/\dH l 6 (.ptr i.size 0 0 0)/\dH l 7 (dE k)/\
     (∃bu,I.get i.size=some (dG 5 bu [ij.t ⟨p,B,s,D,w⟩]))/\allI (λk x=>decide (x=⟨p,k,s,false,w⟩)) k (((h.drop d).take s).drop k)=R) ?_ ?_ dz ?_
    ·rintro k l I aN ap ⟨u,dm,g,j,q,n,a8,J,K,⟨bu,G⟩,Q⟩;have V:(k:Int)<s:=dz;have c4:d+k<h.length:=dz;have dd:=u.ne (b:=0) dz;have aA:(i.size=I.size)=False:=dB;have L:=ik (a:=d) (b:=k) dz dz;have U:kj ((d:Int)+k)=some (d+k):=by rw[eK dz];congr 1
     have X:e.cells[d+k]? =some h[d+k]:=by rw[<-M];exact az c4
     have cp:((h.drop d).take s).drop k=h[d+k]::((h.drop d).take s).drop (k+1):=by
      rw[aJ (by rw[List.length_take,List.length_drop];omega)];congr 1;rw[List.getElem_take,List.getElem_drop]
     rw[cp,allI]at Q;generalize h[d+k]=x at*
     obtain⟨bn,bk,bs,bz,bi⟩:=x;have av:¬(⟨bn,bk,bs,bz,bi⟩:ij)=⟨p,k,s,false,w⟩->rR e= .tuple [.gu,.bool false]:=by
      intro cL;rw[aP cL,Bool.false_and]at Q;rw[<-Q,ao dA]at o;exact a7 (by rw[<-o];rfl)
     have dk:=u.cons (dG 5 1 [ij.t ⟨bn,bk,bs,bz,bi⟩]);by_cases O:bk=k
     ·by_cases S:bn=p
      ·by_cases an:bs=s
       ·by_cases aE:bi=w
        ·cases bz with
         |false=>
          subst O S an aE;rw[aY rfl,bP]at Q;simp[g,j,q,n,J,K,dd,aA,V,G,L,U,X,u.low,ap];exact⟨dk,dz,a8.cons _,Q⟩
         |true=>
          have hr:=av dA;simp[g,j,q,J,K,aA,V,G,L,U,X,u.low,O,S,an,aE,hr,u.hp]
        ·have hr:=av (by simp[aE]);simp[g,j,q,J,K,aA,V,G,L,U,X,u.low,O,S,an,aE,hr,u.hp]
       ·have hr:=av (by simp[an]);simp[g,j,q,J,K,aA,V,G,L,U,X,u.low,O,S,an,hr,u.hp]
      ·have hr:=av (by simp[S]);simp[g,j,q,J,K,aA,V,G,L,U,X,u.low,O,S,hr,u.hp]
     ·have hr:=av (by simp[O]);simp[g,j,q,J,K,V,G,L,U,X,u.low,O,hr,u.hp]
    ·rintro l I ⟨u,dm,g,j,q,n,a8,J,K,⟨bu,G⟩,Q⟩;have cb:R=true:=by rw[<-Q,List.drop_eq_nil_of_le (by rw[List.length_take];omega)];rfl
     have L:=ik (a:=d) (b:=s) dz dz;rw[cb,aq rfl]at o;simp[g,j,q,n,J,K,G,L];refine⟨d+s,dz,dz,u,dA,v++[p],a8,dB,?_⟩;rw[<-o,List.drop_drop.symm,a6];cases jb (List.drop s (_::List.drop (d+1) h))<;>simp
    ·simp[j,q];exact⟨ae,de,F,Z,⟨_,E⟩,bH.symm⟩
 ·have:d=h.length:=dz;subst this;have bC:(e.cells.length:Int)=h.length:=by rw[M]
  rw[du,jb]at o;have dn:jb e.cells=some v:=by rw[<-M,<-o];simp
  have hr:rR e= .tuple [sl ((qX e v).map T.str),.bool true]:=by unfold rR;rw[dn]
  have eh:v.length<=1000000:=dz;simp[g,j,q,bC];refine fy e.em.length dz (λk l i=>ig 1 i/\i.get 0=some (dG 6 0 [e.t])/\dH l 1 (.ptr 0 0 0 0)/\dH l 9 (dE k)/\
   ∃y,dH l 4 y/\so i 0 y 1 ((v++(e.em.take k).map (·.name)).map T.str)) ?_ ?_ dz ?_
  ·rintro k l i N ap ⟨r,g,j,P,y,n,z⟩;have aN:(k:Int)<e.em.length:=dz;obtain⟨aX,E,A,Z,C⟩:=z.Ky (cx:=cx) qA rfl v7 rfl dA dA (e.em[k]).name dB;have F:=C.get 0 _ g dA;simp[g,j,P,n,aN,N,A,ap];refine⟨C.ok 1 r,F,?_⟩;simpa[w7 _ _ N]using Z
  rotate_left
  ·simp[j,n];exact⟨r,g,by simpa using z⟩
  rintro l i ⟨r,g,j,P,y,n,z⟩;simp[g,j,P];rw[aO]at z;refine fy e.gW.length dz (λk l i=>ig 1 i/\i.get 0=some (dG 6 0 [e.t])/\dH l 1 (.ptr 0 0 0 0)/\dH l 10 (dE k)/\
   ∃y,dH l 4 y/\so i 0 y 1 ((v++e.em.map (·.name)++(e.gW.take k).map (·.name)).map T.str)) ?_ ?_ dz ?_
  ·rintro k l i N ap ⟨r,g,j,P,y,n,z⟩;have aN:(k:Int)<e.gW.length:=dz;obtain⟨aX,E,A,Z,C⟩:=z.Ky (cx:=cx) qA rfl v7 rfl dA dA (e.gW[k]).name dB;have F:=C.get 0 _ g dA;simp[g,j,P,n,aN,N,A,ap];refine⟨C.ok 1 r,F,?_⟩;simpa[w7 _ _ N]using Z
  rotate_left
  ·simp[j,g,n];exact⟨r,by simpa using z⟩
  rintro l i ⟨r,g,j,P,y,n,z⟩;rw[aO]at z;obtain⟨eA,ec,b7,dv,bS⟩:=z.U2 (cx:=cx) qA rfl v7 rfl dA dA e.eg dB;have b6:=bS.get 0 _ g dA;obtain⟨eB,ef,b8,bT,ds⟩:=dv.U2 (cx:=cx) qA rfl v7 rfl dA dA e.dK dB;have ea:=ds.ok 1 (bS.ok 1 r);have ca:qX e v=v++e.em.map (·.name)++e.gW.map (·.name)++e.eg++e.dK:=rfl;rw[<-ca]at bT;simp[g,j,P,n,b7,b6,b8,hr,bT.fzM (f:=T.str) dA,ea.hp]
def QH{b:fJ}(ht:b.p 108=some rM)(a:d8)(hl:a.cells.length<=1000000/\a.em.length<=1000000/\a.gW.length<=1000000/\a.eg.length<=1000000/\a.dK.length<=1000000):rl Tryz.prog cx b 108 [a.t]=some (rR a):=im ht MG a hl
def vJ:hU:=⟨d8,λa=>[a.t],λa=>True,λa=> .bool (j3 a),λa c b=>by simp at b;rw[d8.inj b]⟩
def AG{w:d8}:sI w=true↔(w.cells.length<=12/\w.em.length<=4/\w.gW.length<=2/\w.eg.length<=2/\w.iG.length<=60/\1<=w.dK.length/\w.dK.length<=4):=by
 unfold sI;simp;omega
def pk{w:d8}(a:¬(w.cells.length<=12/\w.em.length<=4/\w.gW.length<=2/\w.eg.length<=2/\w.iG.length<=60/\1<=w.dK.length/\w.dK.length<=4)):j3 w=false:=by
 unfold j3;have:sI w=false:=by rw[cv];exact λk=>a (AG.1 k)
 rw[this];rfl
def pi(w:d8)(k:Nat):Prop:=∃b a:Int,0<=b/\0<=a/\a<=k/\(k=0->b=0/\a=0)/\(∀d c,k=d+1->w.iG[d]? =some c->b=c.dT/\a=c.stmt+1)/\lP w.dK.length b a (w.iG.drop k)=lP w.dK.length 0 0 w.iG
def pi.zero(w:d8):pi w 0:=⟨0,0,dA,dA,dA,dA,dA,dA⟩
def pi.fin{w:d8}(a:pi w w.iG.length):lP w.dK.length 0 0 w.iG=true:=by
 obtain⟨c,d,_,_,_,_,_,b⟩:=a;rw[<-b,du];rfl
section
variable {w:d8}{k:Nat}{s:iH}
def pi.cons(h:pi w k)(c:w.iG[k]? =some s):∃a b:Int,0<=a/\0<=b/\b<=k/\(k=0->a=0/\b=0)/\(∀f d,k=f+1->w.iG[f]? =some d->a=d.dT/\b=d.stmt+1)/\(if s.dT<a\/(w.dK.length:Int)<=s.dT then false else
 if a<s.dT then(if s.stmt=0 then lP w.dK.length s.dT 1 (w.iG.drop (k+1))else false)else(if s.stmt=b then lP w.dK.length a (b+1) (w.iG.drop (k+1))else false))=lP w.dK.length 0 0 w.iG:=by
 obtain⟨a,b,g,i,j,l,m,n⟩:=h;have e:k<w.iG.length:=by
  rcases aF k w.iG.length with h|h
  ·exact h
  ·rw[aM h]at c;simp at c
 have:w.iG[k]=s:=by rw[az e]at c;simpa using c
 refine⟨a,b,g,i,j,l,m,?_⟩;rw[<-n,aJ e,this,lP]
def pi.bad(a:pi w k)(c:w.iG[k]? =some s)(i:s.dT<0\/(w.dK.length:Int)<=s.dT):lP w.dK.length 0 0 w.iG=false:=by
 obtain⟨j,l,d,e,f,g,h,b⟩:=a.cons c;rw[<-b,aq dz]
def pi.next(n:pi w k)(j:w.iG[k]? =some s)(o:0<=s.dT)(x:s.dT<w.dK.length)(p:(k=0/\s.stmt=0)\/∃b a,k=b+1/\w.iG[b]? =some a/\((a.dT=s.dT/\s.stmt=a.stmt+1)\/(a.dT<s.dT/\s.stmt=0))):pi w (k+1):=by
 obtain⟨y,z,t0,A,B,u,r,c⟩:=n.cons j;have t:∀b a,k+1=b+1->w.iG[b]? =some a->a=s:=by
  intro b a g h;have:b=k:=dz;subst this;rw[j]at h;simpa using h.symm
 have fin:∀d:Int,d=s.stmt+1->0<=d->d<=k+1->lP w.dK.length s.dT d (w.iG.drop (k+1))=lP w.dK.length 0 0 w.iG->pi w (k+1):=by
  intro d e f v m;exact⟨s.dT,d,o,f,dz,dA,λb a g h=>by rw[t b a g h];exact⟨rfl,e⟩,m⟩
 rcases p with⟨rfl,l⟩|⟨b,a,rfl,g,q⟩
 ·obtain⟨rfl,rfl⟩:=u rfl;rw[ao dz]at c;refine fin 1 dz dz dz ?_;rw[<-c];by_cases i:0<s.dT
  ·rw[aq i,aq l]
  ·rw[ao i,aq l];have:s.dT=0:=dz;rw[this];rfl
 ·obtain⟨rfl,rfl⟩:=r b a rfl g;rcases q with⟨e,f⟩|⟨e,f⟩
  ·rw[ao dz,ao dz,aq f]at c;refine fin (a.stmt+1+1) dz dz dz ?_;rw[<-c,e]
  ·rw[ao dz,aq e,aq f]at c;exact fin 1 dz dz dz c
def pi.no(e:pi w k)(m:w.iG[k]? =some s)(f:(k=0/\s.stmt≠0)\/∃b a,k=b+1/\w.iG[b]? =some a/\((a.dT=s.dT/\s.stmt≠a.stmt+1)\/s.dT<a.dT\/(a.dT≠s.dT/\s.stmt≠0))):lP w.dK.length 0 0 w.iG=false:=by
 obtain⟨o,p,t0,q,r,n,l,i⟩:=e.cons m;rw[<-i];rcases f with⟨rfl,d⟩|⟨b,a,rfl,g,j⟩
 ·obtain⟨rfl,rfl⟩:=n rfl;rw[ao d,ao d];simp
 ·obtain⟨rfl,rfl⟩:=l b a rfl g;rcases j with⟨e1,c⟩|e1|⟨e1,c⟩
  ·rw[ao c,ao (show¬a.dT<s.dT by omega)];simp
  ·rw[aq (.inl e1)]
  ·by_cases h:s.dT<a.dT
   ·rw[aq (.inl h)]
   ·rw[ao c,aq (show a.dT<s.dT by omega)];simp
def pi.rng(c:pi w k){b:Nat}{a:iH}(e:k=b+1)(d:w.iG[b]? =some a):0<=a.stmt+1/\a.stmt+1<=k:=by
 obtain⟨l,m,t0,g,h,j,f,i⟩:=c;obtain⟨_,rfl⟩:=f b a e d;exact⟨g,h⟩
end
def Mr:vJ.Ok Tryz.prog cx 67:=by
 refine iv (tb:=⟨pt [(108,rM),(109,w9),(110,Bp)],ht []⟩) fa eQ (iR 95827739445721067874190659254502973333984266632037375 [] Tryz.func67) (λa=>100) (by simp[vJ]) (by simp[vJ,Tryz.f67]) ?_;rintro(w:d8) _ l r;simp[vJ]at r|-;by_cases bX:w.cells.length<=12;rotate_left
 ·simp[Tryz.f67,r,show(12:Int)<w.cells.length by omega,pk (w:=w) dz]
 have E:¬(12:Int)<w.cells.length:=dz;by_cases b6:w.em.length<=4;rotate_left
 ·simp[Tryz.f67,r,E,show(4:Int)<w.em.length by omega,pk (w:=w) dz]
 have I:¬(4:Int)<w.em.length:=dz;by_cases b7:w.gW.length<=2;rotate_left
 ·simp[Tryz.f67,r,E,I,show(2:Int)<w.gW.length by omega,pk (w:=w) dz]
 have K:¬(2:Int)<w.gW.length:=dz;by_cases b8:w.eg.length<=2;rotate_left
 ·simp[Tryz.f67,r,E,I,K,show(2:Int)<w.eg.length by omega,pk (w:=w) dz]
 have Q:¬(2:Int)<w.eg.length:=dz;by_cases ca:1<=w.dK.length;rotate_left
 ·simp[Tryz.f67,r,E,I,K,Q,show(w.dK.length:Int)<1 by omega,pk (w:=w) dz]
 have Z:¬(w.dK.length:Int)<1:=dz;by_cases cb:w.dK.length<=4;rotate_left
 ·simp[Tryz.f67,r,E,I,K,Q,Z,show(4:Int)<w.dK.length by omega,pk (w:=w) dz]
 have aE:¬(4:Int)<w.dK.length:=dz;by_cases b9:w.iG.length<=60;rotate_left
 ·simp[Tryz.f67,r,E,I,K,Q,Z,aE,show(60:Int)<w.iG.length by omega,pk (w:=w) dz]
 have bn:¬(60:Int)<w.iG.length:=dz;have o:j3 w=(BK w&&(w.gW.all λC=>uf w C.kJ false)&&lP w.dK.length 0 0 w.iG):=by
  unfold j3;rw[AG.2 ⟨bX,b6,b7,b8,b9,ca,cb⟩,bP]
 have bz:=λ{tb:fJ} (ht:tb.p 108=some rM)=>QH ht w ⟨dz,dz,dz,dz,dz⟩;cases X:jb w.cells with
 |none=>
  have hr:j3 w=false:=by rw[o];unfold BK;rw[X];rfl
  have aX:rR w= .tuple [.gu,.bool false]:=by unfold rR;rw[X]
  simp[Tryz.f67,r,E,I,K,Q,bn,Z,aE,bz,aX,hr]
 |some Y=>
  have aX:rR w= .tuple [sl ((qX w Y).map T.str),.bool true]:=by unfold rR;rw[X]
  have c9:=Eg _ _ (au _) Y X;have c6:BK w=vN (qX w Y):=by unfold BK;rw[X]
  have c7:(qX w Y).length<=24:=by unfold qX;simp;omega
  rw[c6]at o;generalize qX w Y=d at*
  simp[Tryz.f67,r,E,I,K,Q,bn,Z,aE,bz,aX];refine fy d.length dz (λk l h=>ig 1 h/\h.get 0=some (dG 6 0 [w.t])/\dH l 1 (.ptr 0 0 0 0)/\dH l 3 (sl (d.map T.str))/\dH l 5 (dE k)/\(d.take k).all ud=true/\(d.take k).Nodup) ?_ ?_ dz ?_
  ·rintro k l h D J ⟨c,e,f,R,S,ae,ap⟩;have i:(k:Int)<d.length:=dz;have cX:d[k]∈d:=aC D;have c1:d=d.take k++d[k]::d.drop (k+1):=by rw[<-aJ D,cR]
   have c4:d.take (k+1)=d.take k++[d[k]]:=aZ D;have bi:d[k]? =some d[k]:=az D;generalize d[k]=z at*
   have bu:=λ{tb:fJ} (ht:tb.p 110=some Bp)=>NI ht (d.take k) z (by rw[List.length_take];omega);have bC:k<=d.length:=dz;cases O:ud z with
   |false=>
    have hr:j3 w=false:=by
     rw[o];have:vN d=false:=by
      unfold vN;have:d.all ud=false:=by rw[List.all_eq_false];exact⟨z,cX,by simp[O]⟩
      rw[this];rfl
     rw[this];rfl
    simp[R,S,i,bi,pR,O,hr,c.hp]
   |true=>
    by_cases al:z∈d.take k
    ·have hr:j3 w=false:=by
      rw[o];have:vN d=false:=by
       unfold vN;have:¬d.Nodup:=by
        rw[c1];intro h;exact(List.nodup_append.1 h).2.2 z al z dA rfl
       rw[aP this];simp
      rw[this];rfl
     have a6:(0<=sj (d.take k) z 0)=True:=by rw[GH];simp[al]
     simp[R,S,i,bi,pR,O,bu,bC,a6,hr,c.hp]
    ·have a6:(0<=sj (d.take k) z 0)=False:=by rw[GH];simp[al]
     simp[e,f,R,S,i,bi,pR,O,bu,bC,a6,J];rw[c4];refine⟨c,?_,?_⟩
     ·intro y G;rcases List.mem_append.1 G with G|G
      ·exact List.all_eq_true.1 ae y G
      ·simp at G;subst G;exact O
     ·rw[List.nodup_append];exact⟨ap,dA,λa r b o=>by simp at o;subst o;exact λh=>al (h▸r)⟩
  rotate_left
  ·simp
   first|done|exact⟨dA,dA,dA⟩
  rintro l h ⟨c,e,f,R,S,ae,ap⟩;rw[aO]at ae ap;have cp:vN d=true:=by unfold vN;rw[ae,aY ap];rfl
  rw[cp,bP]at o;simp[R,S];refine fy w.gW.length dz (λk l h=>ig 1 h/\h.get 0=some (dG 6 0 [w.t])/\dH l 1 (.ptr 0 0 0 0)/\dH l 6 (dE k)/\
   (w.gW.drop k).all (λC=>uf w C.kJ false)=w.gW.all λC=>uf w C.kJ false) ?_ ?_ dz ?_
  ·rintro k l h D J ⟨c,e,f,L,B⟩;have i:(k:Int)<w.gW.length:=dz;have g:w.gW[k]? =some w.gW[k]:=az D;rw[aJ D,cE]at B;generalize w.gW[k]=C at*
   obtain⟨cn,H⟩:=C;simp only at B;by_cases a7:je H w.em.length=true
   ·obtain⟨z,bN,G⟩:=iI a7;have W:=fq.1 a7;have j:¬H<0:=dz;have m:¬(w.em.length:Int)<=H:=dz;have an:uf w H false= !z.rW:=by unfold uf;rw[G];simp
    cases av:z.rW with
    |false=>
     rw[an,av]at B;simp[e,f,L,i,g,j,m,eK W.1,bN,av,J];exact⟨c,by simpa using B⟩
    |true=>
     rw[an,av]at B;have hr:j3 w=false:=by rw[o,<-B];rfl
     simp[e,f,L,i,g,j,m,eK W.1,bN,av,hr,c.hp]
   ·have W:je H w.em.length=false:=by simpa using a7
    have O:=ES W;have an:uf w H false=false:=by unfold uf;rw[rf W]
    rw[an]at B;have hr:j3 w=false:=by rw[o,<-B];rfl
    by_cases j:H<0
    ·simp[e,f,L,i,g,j,hr,c.hp]
    ·have m:(w.em.length:Int)<=H:=dz;simp[e,f,L,i,g,j,m,hr,c.hp]
  rotate_left
  ·simp[f,e];exact c
  rintro l h ⟨c,e,f,L,B⟩;have ce:(w.gW.all λC=>uf w C.kJ false)=true:=by rw[<-B];simp
  rw[ce,bP]at o;simp[e,f,L];have N:lP w.dK.length 0 0 w.iG=false->j3 w=false:=λh=>by rw[o,h]
  refine fy w.iG.length dz (λk l h=>ig 1 h/\h.get 0=some (dG 6 0 [w.t])/\dH l 1 (.ptr 0 0 0 0)/\dH l 8 (dE k)/\pi w k) ?_ ?_ dz ?_
  ·rintro k l h D J ⟨c,e,f,u,q⟩;have i:(k:Int)<w.iG.length:=dz;have g:w.iG[k]? =some w.iG[k]:=az D;have F:=c.ne (b:=0) dz;generalize w.iG[k]=s at*
   obtain⟨aA,bk,de⟩:=s;by_cases j:aA<0
   ·have hr:=N (q.bad g (.inl j));simp[e,f,u,i,g,c.low,j,hr,c.hp]
   by_cases m:(w.dK.length:Int)<=aA
   ·have hr:=N (q.bad g (.inr m));simp[e,f,u,i,g,F,c.low,j,m,hr,c.hp]
   by_cases a8:k=0
   ·have bB:(k=0)=True:=by simp[a8]
    have cL:(0<k)=False:=dB;by_cases n:bk=0
    ·have U:=q.next g dC dC (.inl ⟨a8,n⟩);subst n;simp[e,f,u,i,g,F,c.low,j,m,bB,cL,J];exact⟨c.cons _,U⟩
    ·have hr:=N (q.no g (.inl ⟨a8,n⟩));simp[e,f,u,i,g,F,c.low,j,m,bB,n,hr,c.hp]
   ·obtain⟨x,M⟩:∃x,k=x+1:=⟨k-1,dz⟩;have v:w.iG[x]? =some w.iG[x]:=az dz;generalize w.iG[x]=p at*
    have bH:=q.rng M v;have P:=kF (a:=(k:Int)) (b:=1) dz dz;rw[show(k:Int)-1=(x:Int)by omega]at P;obtain⟨bT,bS,dd⟩:=p;have bs:=ik (a:=bS) (b:=1) (by simp only at bH;omega) (by simp only at bH;omega);have V:(k=0)=False:=dB;have bp:(0<k)=True:=dB;by_cases n:bT=aA
    ·by_cases A:bk=bS+1
     ·have U:=q.next g dC dC (.inr ⟨x,_,M,v,.inl ⟨n,A⟩⟩);subst n A;simp[e,f,u,i,g,F,c.low,j,m,V,P,v,bs,J];exact⟨c.cons _,U⟩
     ·have hr:=N (q.no g (.inr ⟨x,_,M,v,.inl ⟨n,A⟩⟩));subst n;simp[e,f,u,i,g,F,c.low,j,m,V,P,v,bs,A,hr,c.hp]
    ·by_cases A:bk=0
     ·by_cases aN:aA<bT
      ·have hr:=N (q.no g (.inr ⟨x,_,M,v,.inr (.inl aN)⟩));subst A;simp[e,f,u,i,g,F,c.low,j,m,V,bp,P,v,n,aN,hr,c.hp]
      ·have U:=q.next g dC dC (.inr ⟨x,_,M,v,.inr ⟨dC,A⟩⟩);subst A;simp[e,f,u,i,g,F,c.low,j,m,V,bp,P,v,n,aN,J];exact⟨c.cons _,U⟩
     ·have hr:=N (q.no g (.inr ⟨x,_,M,v,.inr (.inr ⟨n,A⟩)⟩));simp[e,f,u,i,g,F,c.low,j,m,V,P,v,n,A,hr,c.hp]
  ·rintro l h ⟨c,e,f,u,q⟩;have hr:j3 w=true:=by rw[o,q.fin]
   simp[e,f,u,hr,c.hp]
  ·simp[f,e];exact⟨c,pi.zero w⟩
def y8{a:fJ}(ht:a.p 67=some vJ)(w:d8):rl Tryz.prog cx a 67 [w.t]=some (.bool (j3 w)):=im ht Mr w trivial
end
end Go.Proofs.YtmaeadedikngoaaGreatDoor
