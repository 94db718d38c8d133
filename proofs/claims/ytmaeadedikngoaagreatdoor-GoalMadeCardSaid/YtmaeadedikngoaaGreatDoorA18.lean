/- Texts W06d to W06i. -/
import Derived.Test.YtmaeadedikngoaaGreatDoorA16
set_option linter.unusedVariables false
set_option linter.unusedSimpArgs false
set_option maxRecDepth 100000
set_option maxHeartbeats 8000000
namespace Go.Proofs.YtmaeadedikngoaaGreatDoor
noncomputable section
open Go Go.TI
attribute [-simp] List.map_take List.map_drop List.map_append
def yh:fK:=⟨List fa×Int,λa=>[sl (a.1.map fa.t),.int .i64 a.2],λa=>a.1.length<=140737488355328,λa=> .bool (Bc a.1 (a.1.length+1) a.2),λa c b=>by
 simp at b;rw[ja (λ_ _=>fa.inj) b.1,b.2]⟩
theorem PM:yh.Ok Tryz.prog cx 161:=by
 refine f8 (tb:=⟨pt [(206,tq)],ht []⟩) dX dU (iN 4362601011 [] Tryz.func161) (λa=>a.1.length+2) (by simp[yh]) (by simp[yh,Tryz.f161]) ?_
 rintro⟨d,x⟩ hl l v
 simp[yh]at hl v|-
 obtain⟨f,g⟩:=v
 simp[Tryz.f161]
 refine eQ (d.length+1) (by omega) (λj l q=>q=hE/\TI.dt l 0=some (sl (d.map fa.t))/\TI.dt l 5=some (.int .i64 j)/\∃e:Int,TI.dt l 1=some (.int .i64 e)/\Bc d (d.length+1-j) e=Bc d (d.length+1) x) ?_ ?_ (by omega) ?_
 ·rintro j l q B w ⟨rfl,f,h,e,g,c⟩
  have i:(j:Int)<=d.length:=by omega
  rw[show d.length+1-j=(d.length-j)+1 by omega,Bc]at c
  by_cases n:e<0
  ·have:wi d e=none:=by unfold wi;rw[ao (by omega)]
   rw[this]at c
   simp[f,g,h,i,n,<-c]
  ·by_cases p:(d.length:Int)<=e
   ·have:wi d e=none:=by unfold wi;rw[aq (by omega)];simp;omega
    rw[this]at c
    simp[f,g,h,i,n,p,<-c]
   ·have A:iI e d.length=true:=by rw[ed];omega
    obtain⟨o,r,z⟩:=ij A
    rw[z]at c
    simp only at c
    have s:=dS (show 0<=e by omega)
    have y:=fQ (a:=e) (b:=1) (by omega) (by omega)
    cases m:uR o.op with
    |false=>
     rw[m,ao (by simp)]at c
     simp[f,g,h,i,n,p,s,r,m,vw,<-c]
    |true=>
     rw[m,aq rfl]at c
     cases k:decide (o.op=5)with
     |true=>
      rw[aL]at k
      rw[Ih,aq k]at c
      have u:decide (o.op=5)=true:=by simpa using k
      simp[f,g,h,i,n,p,s,r,m,vw,u,w]
      exact c
     |false=>
      have u:decide (o.op=5)=false:=k
      rw[bo]at k
      rw[Ih,ao k]at c
      simp[f,g,h,i,n,p,s,r,m,vw,u,w,y]
      exact c
 ·rintro l q ⟨rfl,f,h,e,g,c⟩
  rw[Nat.sub_self,Bc]at c
  have i:¬((d.length:Int)+1<=d.length):=by omega
  simp[f,h,i,<-c]
 ·simp[f,g]
theorem Vj{c:eG}(ht:c.p 161=some yh)(a:List fa)(b:Int)(hl:a.length<=140737488355328):rl Tryz.prog cx c 161 [sl (a.map fa.t),.int .i64 b]=some (.bool (Bc a (a.length+1) b)):=fR ht PM (a,b) hl
@[simp] theorem acV:sl []=T.fg:=id rfl
@[simp] theorem Ui (c d:ah) (b:fN) (a:T):sx c d b.t a=true:=id rfl
theorem uN{a:fN}{b:List fN}(c:a.size=0):iz (a::b)=if a.index=0 then(iz b).map (a.name:: ·)else none:=by rw[iz,aq c]
theorem wc{a:fN}{b:List fN}(c:¬a.size=0)(d:a.size<1\/4<a.size\/(b.length+1:Int)<a.size):iz (a::b)=none:=by rw[iz,ao c,dif_pos d]
theorem wa{a:fN}{b:List fN}(c:¬a.size=0)(d:¬(a.size<1\/4<a.size\/(b.length+1:Int)<a.size)):iz (a::b)=if I7 a (a::b)=true then(iz ((a::b).drop a.size.toNat)).map (a.name:: ·)else none:=by rw[iz,ao c,dif_neg d]
theorem Cs:∀(e:Nat) (c:List fN),c.length<=e->∀g,iz c=some g->g.length<=c.length:=by
 intro e
 induction e with
 |zero=>
  intro c hl g a
  have:c=[]:=bh (by omega)
  subst this
  rw[iz]at a;simp at a;subst a;simp
 |succ e k=>
  intro c hl g a
  cases c with
  |nil=>rw[iz]at a;simp at a;subst a;simp
  |cons d f=>
   simp at hl
   by_cases h:d.size=0
   ·rw[uN h]at a
    split at a
    ·cases b:iz f with
     |none=>rw[b]at a;simp at a
     |some i=>rw[b]at a;simp at a;subst a;have:=k f hl i b;simp;omega
    ·simp at a
   ·by_cases j:d.size<1\/4<d.size\/(f.length+1:Int)<d.size
    ·rw[wc h j]at a;simp at a
    ·rw[wa h j]at a
     split at a
     ·cases b:iz ((d::f).drop d.size.toNat)with
      |none=>rw[b]at a;simp at a
      |some i=>
       rw[b]at a;simp at a;subst a
       have:=k _ (by simp;omega) i b
       simp at this|-;omega
     ·simp at a
theorem vN{d f:Type}(c:d->f)(b:List d){a:Nat}(e:a<b.length):(b.take (a+1)).map c=(b.take a).map c++[c b[a]]:=by
 rw[bj e,List.map_append];rfl
def qD(a:dJ):T:=match iz a.cells with|some b=> .tuple [sl ((pZ a b).map T.str),.bool true]|none=> .tuple [.fg,.bool false]
def qy:fK:=⟨dJ,λa=>[a.t],λa=>a.cells.length<=1000000/\a.dP.length<=1000000/\a.fP.length<=1000000/\a.dR.length<=1000000/\a.dp.length<=1000000,qD,λa c b=>by simp at b;rw[dJ.inj b]⟩
theorem KI:qy.Ok Tryz.prog cx 108:=by
 refine f8 (tb:=⟨pt [],ht []⟩) dX dU (iN 332312079452150195464880550324504575 [] Tryz.func108) (λa=>1000002) (by simp[qy]) (by simp[qy,Tryz.f108]) ?_
 rintro(e:dJ) hl l bz
 simp[qy]at hl bz|-
 obtain⟨hl,l2,l3,l4,l5⟩:=hl
 simp[Tryz.f108,bz]
 have eA:=hl
 obtain⟨h,M⟩:∃h,h=e.cells:=⟨_,rfl⟩
 rw[<-M]at hl
 refine mF h.length (λd l i=>gh 1 i/\i.get 0=some ⟨6,0,0,true,false,[e.t]⟩/\TI.dt l 1=some (.ptr 0 0 0 0)/\TI.dt l 5=some (.int .i64 d)/\∃y v,TI.dt l 4=some y/\qZ i 0 y 1 (v.map T.str)/\v.length<=d/\(iz (h.drop d)).map (v++ ·)=iz h) ?_ (k:=0) (by omega) (by omega) ?_
 rotate_left
 ·simp
  first|exact⟨[],qZ.nil _ _ _,by simp,by simp⟩|exact⟨⟨by simp,by simp,by simp⟩,[],qZ.nil _ _ _,by simp,by simp⟩
 rintro d l i ey ⟨r,g,j,q,y,v,n,z,eB,o⟩
 have de:=r.ne (b:=0) (by omega)
 by_cases N:d<h.length
 ·have dd:(d:Int)<h.length:=by omega
  have Y:(d:Int)<e.cells.length:=by rw[<-M];exact dd
  have bB:(e.cells.length:Int)=h.length:=by rw[M]
  have c9:h[d]? =some h[d]:=aB N
  have W:e.cells[d]? =some h[d]:=by rw[<-M];exact c9
  have a6:=aJ N
  rw[a6]at o
  generalize eu:h[d]=c at*
  obtain⟨p,B,m,D,w⟩:=c
  have dm:=z.cons ⟨5,0,1,true,false,[fN.t ⟨p,B,m,D,w⟩]⟩
  have c6:(H.cons i ⟨5,0,1,true,false,[fN.t ⟨p,B,m,D,w⟩]⟩).get i.size=some ⟨5,0,1,true,false,[fN.t ⟨p,B,m,D,w⟩]⟩:=by simp
  have c4:(H.cons i ⟨5,0,1,true,false,[fN.t ⟨p,B,m,D,w⟩]⟩).get 0=some ⟨6,0,0,true,false,[e.t]⟩:=by rw[dH,ao (by rw[de];simp)];exact g
  obtain⟨aX,cb,A,Z,C⟩:=dm.IL (cx:=cx) pH rfl uL rfl (by simp) (by simp) p (by simp;omega)
  rw[show(H.cons i ⟨5,0,1,true,false,[fN.t ⟨p,B,m,D,w⟩]⟩).size=i.size+1 from rfl]at A
  have E:=C.get _ _ c6 (by simp)
  have F:=C.get _ _ c4 (by simp)
  have ae:=C.ok 1 (r.cons _)
  have dk:i.size<cb.size:=by have:=C.size;simp[H.cons]at this;omega
  have cL:=fQ (a:=d) (b:=1) (by omega) (by omega)
  have a7:iz h=none->qD e= .tuple [.fg,.bool false]:=by intro i;unfold qD;rw[<-M,i]
  by_cases al:m=0
  ·subst al
   rw[uN rfl]at o
   simp only at o
   by_cases bp:B=0
   ·subst bp
    rw[aq rfl]at o
    simp[g,j,q,n,Y,W,r.low,A,E,F,cL]
    refine⟨d+1,by omega,by omega,ae,by simp,v++[p],Z,by simp;omega,?_⟩
    rw[<-o];cases iz (List.drop (d+1) h)<;>simp
   ·rw[ao bp]at o
    have hr:=a7 (by rw[<-o];rfl)
    simp[g,j,q,n,Y,W,r.low,A,E,bp,hr,ae.hp]
  ·have eC:(h.drop (d+1)).length+1=h.length-d:=by rw[List.length_drop];omega
   have bT:=kl (a:=e.cells.length) (b:=d) (by omega) (by omega)
   by_cases b7:m<1\/4<m\/((h.drop (d+1)).length+1:Int)<m
   ·rw[wc al b7]at o
    have hr:=a7 (by rw[<-o];rfl)
    by_cases p1:m<1
    ·simp[g,j,q,n,Y,W,r.low,A,E,al,p1,hr,ae.hp]
    ·by_cases p2:4<m
     ·simp[g,j,q,n,Y,W,r.low,A,E,al,p1,p2,hr,ae.hp]
     ·have p3:(e.cells.length:Int)-d<m:=by omega
      simp[g,j,q,n,Y,W,r.low,A,E,F,al,p1,p2,p3,hr,ae.hp,bT]
   ·rw[wa al b7]at o
    have p1:¬m<1:=by omega
    have p2:¬4<m:=by omega
    have p3:¬(e.cells.length:Int)-d<m:=by omega
    have bN:I7 ⟨p,B,m,D,w⟩ (⟨p,B,m,D,w⟩::List.drop (d+1) h)=allI (λk x=>decide (x=⟨p,k,m,false,w⟩)) 0 ((h.drop d).take m.toNat):=by rw[a6];rfl
    generalize I7 ⟨p,B,m,D,w⟩ (⟨p,B,m,D,w⟩::List.drop (d+1) h)=R at*
    obtain⟨s,rfl⟩:∃s:Nat,m=s:=⟨m.toNat,by omega⟩
    rw[cF]at bN o
    simp only at o
    have eh:¬s=0:=by omega
    simp[g,j,q,n,Y,W,r.low,A,E,F,eh,p1,p2,p3,bT]
    refine eQ s (by omega) (λk l I=>gh 1 I/\i.size<I.size/\I.get 0=some ⟨6,0,0,true,false,[e.t]⟩/\TI.dt l 1=some (.ptr 0 0 0 0)/\TI.dt l 5=some (.int .i64 d)/\TI.dt l 4=some aX/\qZ I 0 aX 1 ((v++[p]).map T.str)/\TI.dt l 6=some (.ptr i.size 0 0 0)/\TI.dt l 7=some (.int .i64 k)/\
     (∃bu,I.get i.size=some ⟨5,0,bu,true,false,[fN.t ⟨p,B,s,D,w⟩]⟩)/\allI (λk x=>decide (x=⟨p,k,s,false,w⟩)) k (((h.drop d).take s).drop k)=R) ?_ ?_ (by omega) ?_
    ·rintro k l I aN ap ⟨u,ds,g,j,q,n,a8,J,K,⟨bu,G⟩,Q⟩
     have V:(k:Int)<s:=by omega
     have c7:d+k<h.length:=by omega
     have di:=u.ne (b:=0) (by omega)
     have aA:(i.size=I.size)=False:=by simp;omega
     have L:=fQ (a:=d) (b:=k) (by omega) (by omega)
     have U:ke ((d:Int)+k)=some (d+k):=by rw[dS (by omega)];congr 1
     have X:e.cells[d+k]? =some h[d+k]:=by rw[<-M];exact aB c7
     have cX:((h.drop d).take s).drop k=h[d+k]::((h.drop d).take s).drop (k+1):=by
      rw[aJ (by rw[List.length_take,List.length_drop];omega)]
      congr 1
      rw[List.getElem_take,List.getElem_drop]
     rw[cX,allI]at Q
     generalize h[d+k]=x at*
     obtain⟨bn,bk,bs,bv,bi⟩:=x
     have av:¬(⟨bn,bk,bs,bv,bi⟩:fN)=⟨p,k,s,false,w⟩->qD e= .tuple [.fg,.bool false]:=by
      intro c1
      rw[bg c1,Bool.false_and]at Q
      rw[<-Q,ao (by simp)]at o
      exact a7 (by rw[<-o];rfl)
     have dn:=u.cons ⟨5,0,1,true,false,[fN.t ⟨bn,bk,bs,bv,bi⟩]⟩
     by_cases O:bk=k
     ·by_cases S:bn=p
      ·by_cases an:bs=s
       ·by_cases aE:bi=w
        ·cases bv with
         |false=>
          subst O S an aE
          rw[bw rfl,bM]at Q
          simp[g,j,q,n,J,K,di,aA,V,G,L,U,X,u.low,ap]
          exact⟨dn,by omega,a8.cons _,Q⟩
         |true=>
          have hr:=av (by simp)
          simp[g,j,q,J,K,aA,V,G,L,U,X,u.low,O,S,an,aE,hr,u.hp]
        ·have hr:=av (by simp[aE])
         simp[g,j,q,J,K,aA,V,G,L,U,X,u.low,O,S,an,aE,hr,u.hp]
       ·have hr:=av (by simp[an])
        simp[g,j,q,J,K,aA,V,G,L,U,X,u.low,O,S,an,hr,u.hp]
      ·have hr:=av (by simp[S])
       simp[g,j,q,J,K,aA,V,G,L,U,X,u.low,O,S,hr,u.hp]
     ·have hr:=av (by simp[O])
      simp[g,j,q,J,K,V,G,L,U,X,u.low,O,hr,u.hp]
    ·rintro l I ⟨u,ds,g,j,q,n,a8,J,K,⟨bu,G⟩,Q⟩
     have cp:R=true:=by rw[<-Q,List.drop_eq_nil_of_le (by rw[List.length_take];omega)];rfl
     have L:=fQ (a:=d) (b:=s) (by omega) (by omega)
     rw[cp,aq rfl]at o
     simp[g,j,q,n,J,K,G,L]
     refine⟨d+s,by omega,by omega,u,by simp,v++[p],a8,by simp;omega,?_⟩
     rw[<-o,List.drop_drop.symm,a6];cases iz (List.drop s (_::List.drop (d+1) h))<;>simp
    ·simp[j,q]
     exact⟨ae,dk,F,Z,⟨_,E⟩,bN.symm⟩
 ·have:d=h.length:=by omega
  subst this
  have bB:(e.cells.length:Int)=h.length:=by rw[M]
  rw[dg,iz]at o
  have dv:iz e.cells=some v:=by rw[<-M,<-o];simp
  have hr:qD e= .tuple [sl ((pZ e v).map T.str),.bool true]:=by unfold qD;rw[dv]
  have et:v.length<=1000000:=by omega
  simp[g,j,q,bB]
  refine eQ e.dP.length (by omega) (λk l i=>gh 1 i/\i.get 0=some ⟨6,0,0,true,false,[e.t]⟩/\TI.dt l 1=some (.ptr 0 0 0 0)/\TI.dt l 9=some (.int .i64 k)/\
   ∃y,TI.dt l 4=some y/\qZ i 0 y 1 ((v++(e.dP.take k).map (·.name)).map T.str)) ?_ ?_ (by omega) ?_
  ·rintro k l i N ap ⟨r,g,j,P,y,n,z⟩
   have aN:(k:Int)<e.dP.length:=by omega
   obtain⟨aX,E,A,Z,C⟩:=z.IL (cx:=cx) pH rfl uL rfl (by simp) (by simp) (e.dP[k]).name (by simp;omega)
   have F:=C.get 0 _ g (by simp)
   simp[g,j,P,n,aN,N,A,ap]
   refine⟨C.ok 1 r,F,?_⟩
   simpa[vN _ _ N]using Z
  rotate_left
  ·simp[j,n]
   exact⟨r,g,by simpa using z⟩
  rintro l i ⟨r,g,j,P,y,n,z⟩
  simp[g,j,P]
  rw[aQ]at z
  refine eQ e.fP.length (by omega) (λk l i=>gh 1 i/\i.get 0=some ⟨6,0,0,true,false,[e.t]⟩/\TI.dt l 1=some (.ptr 0 0 0 0)/\TI.dt l 10=some (.int .i64 k)/\
   ∃y,TI.dt l 4=some y/\qZ i 0 y 1 ((v++e.dP.map (·.name)++(e.fP.take k).map (·.name)).map T.str)) ?_ ?_ (by omega) ?_
  ·rintro k l i N ap ⟨r,g,j,P,y,n,z⟩
   have aN:(k:Int)<e.fP.length:=by omega
   obtain⟨aX,E,A,Z,C⟩:=z.IL (cx:=cx) pH rfl uL rfl (by simp) (by simp) (e.fP[k]).name (by simp;omega)
   have F:=C.get 0 _ g (by simp)
   simp[g,j,P,n,aN,N,A,ap]
   refine⟨C.ok 1 r,F,?_⟩
   simpa[vN _ _ N]using Z
  rotate_left
  ·simp[j,g,n]
   exact⟨r,by simpa using z⟩
  rintro l i ⟨r,g,j,P,y,n,z⟩
  rw[aQ]at z
  obtain⟨eD,eo,b9,eb,bX⟩:=z.S4 (cx:=cx) pH rfl uL rfl (by simp) (by simp) e.dR (by simp;omega)
  have b8:=bX.get 0 _ g (by simp)
  obtain⟨eE,er,ca,b6,ea⟩:=eb.S4 (cx:=cx) pH rfl uL rfl (by simp) (by simp) e.dp (by simp;omega)
  have ef:=ea.ok 1 (bX.ok 1 r)
  have ce:pZ e v=v++e.dP.map (·.name)++e.fP.map (·.name)++e.dR++e.dp:=rfl
  rw[<-ce]at b6
  simp[g,j,P,n,b9,b8,ca,hr,b6.fzM (f:=T.str) (by simp),ef.hp]
theorem Of{b:eG}(ht:b.p 108=some qy)(a:dJ)(hl:a.cells.length<=1000000/\a.dP.length<=1000000/\a.fP.length<=1000000/\a.dR.length<=1000000/\a.dp.length<=1000000):rl Tryz.prog cx b 108 [a.t]=some (qD a):=fR ht KI a hl
def wv:fK:=⟨dJ,λa=>[a.t],λa=>True,λa=> .bool (jN a),λa c b=>by simp at b;rw[dJ.inj b]⟩
theorem yV{w:dJ}:rj w=true↔(w.cells.length<=12/\w.dP.length<=4/\w.fP.length<=2/\w.dR.length<=2/\w.gW.length<=60/\1<=w.dp.length/\w.dp.length<=4):=by
 unfold rj;simp;omega
theorem oe{w:dJ}(a:¬(w.cells.length<=12/\w.dP.length<=4/\w.fP.length<=2/\w.dR.length<=2/\w.gW.length<=60/\1<=w.dp.length/\w.dp.length<=4)):jN w=false:=by
 unfold jN
 have:rj w=false:=by rw[cd];exact λk=>a (yV.1 k)
 rw[this];rfl
def od(w:dJ)(k:Nat):Prop:=∃b a:Int,0<=b/\0<=a/\a<=k/\(k=0->b=0/\a=0)/\(∀d c,k=d+1->w.gW[d]? =some c->b=c.dA/\a=c.stmt+1)/\kQ w.dp.length b a (w.gW.drop k)=kQ w.dp.length 0 0 w.gW
theorem od.zero(w:dJ):od w 0:=⟨0,0,by simp,by simp,by simp,by simp,by simp,by simp⟩
theorem od.fin{w:dJ}(a:od w w.gW.length):kQ w.dp.length 0 0 w.gW=true:=by
 obtain⟨c,d,_,_,_,_,_,b⟩:=a
 rw[<-b,dg];rfl
section
variable {w:dJ}{k:Nat}{s:gY}
theorem od.cons(h:od w k)(c:w.gW[k]? =some s):∃a b:Int,0<=a/\0<=b/\b<=k/\(k=0->a=0/\b=0)/\(∀f d,k=f+1->w.gW[f]? =some d->a=d.dA/\b=d.stmt+1)/\(if s.dA<a\/(w.dp.length:Int)<=s.dA then false else
 if a<s.dA then(if s.stmt=0 then kQ w.dp.length s.dA 1 (w.gW.drop (k+1))else false)else(if s.stmt=b then kQ w.dp.length a (b+1) (w.gW.drop (k+1))else false))=kQ w.dp.length 0 0 w.gW:=by
 obtain⟨a,b,g,i,j,l,m,n⟩:=h
 have e:k<w.gW.length:=by
  rcases aD k w.gW.length with h|h
  ·exact h
  ·rw[aM h]at c;simp at c
 have:w.gW[k]=s:=by rw[aB e]at c;simpa using c
 refine⟨a,b,g,i,j,l,m,?_⟩
 rw[<-n,aJ e,this,kQ]
theorem od.bad(a:od w k)(c:w.gW[k]? =some s)(i:s.dA<0\/(w.dp.length:Int)<=s.dA):kQ w.dp.length 0 0 w.gW=false:=by
 obtain⟨j,l,d,e,f,g,h,b⟩:=a.cons c
 rw[<-b,aq (by omega)]
theorem od.next(n:od w k)(j:w.gW[k]? =some s)(o:0<=s.dA)(x:s.dA<w.dp.length)(p:(k=0/\s.stmt=0)\/∃b a,k=b+1/\w.gW[b]? =some a/\((a.dA=s.dA/\s.stmt=a.stmt+1)\/(a.dA<s.dA/\s.stmt=0))):od w (k+1):=by
 obtain⟨y,z,t0,A,B,u,r,c⟩:=n.cons j
 have t:∀b a,k+1=b+1->w.gW[b]? =some a->a=s:=by
  intro b a g h
  have:b=k:=by omega
  subst this
  rw[j]at h;simpa using h.symm
 have fin:∀d:Int,d=s.stmt+1->0<=d->d<=k+1->kQ w.dp.length s.dA d (w.gW.drop (k+1))=kQ w.dp.length 0 0 w.gW->od w (k+1):=by
  intro d e f v m
  exact⟨s.dA,d,o,f,by omega,by simp,λb a g h=>by rw[t b a g h];exact⟨rfl,e⟩,m⟩
 rcases p with⟨rfl,l⟩|⟨b,a,rfl,g,q⟩
 ·obtain⟨rfl,rfl⟩:=u rfl
  rw[ao (by omega)]at c
  refine fin 1 (by omega) (by omega) (by omega) ?_
  rw[<-c]
  by_cases i:0<s.dA
  ·rw[aq i,aq l]
  ·rw[ao i,aq l]
   have:s.dA=0:=by omega
   rw[this];rfl
 ·obtain⟨rfl,rfl⟩:=r b a rfl g
  rcases q with⟨e,f⟩|⟨e,f⟩
  ·rw[ao (by omega),ao (by omega),aq f]at c
   refine fin (a.stmt+1+1) (by omega) (by omega) (by omega) ?_
   rw[<-c,e]
  ·rw[ao (by omega),aq e,aq f]at c
   exact fin 1 (by omega) (by omega) (by omega) c
theorem od.no(e:od w k)(m:w.gW[k]? =some s)(f:(k=0/\s.stmt≠0)\/∃b a,k=b+1/\w.gW[b]? =some a/\((a.dA=s.dA/\s.stmt≠a.stmt+1)\/s.dA<a.dA\/(a.dA≠s.dA/\s.stmt≠0))):kQ w.dp.length 0 0 w.gW=false:=by
 obtain⟨o,p,t0,q,r,n,l,i⟩:=e.cons m
 rw[<-i]
 rcases f with⟨rfl,d⟩|⟨b,a,rfl,g,j⟩
 ·obtain⟨rfl,rfl⟩:=n rfl
  rw[ao d,ao d];simp
 ·obtain⟨rfl,rfl⟩:=l b a rfl g
  rcases j with⟨e1,c⟩|e1|⟨e1,c⟩
  ·rw[ao c,ao (show¬a.dA<s.dA by omega)];simp
  ·rw[aq (.inl e1)]
  ·by_cases h:s.dA<a.dA
   ·rw[aq (.inl h)]
   ·rw[ao c,aq (show a.dA<s.dA by omega)];simp
theorem od.rng(c:od w k){b:Nat}{a:gY}(e:k=b+1)(d:w.gW[b]? =some a):0<=a.stmt+1/\a.stmt+1<=k:=by
 obtain⟨l,m,t0,g,h,j,f,i⟩:=c
 obtain⟨_,rfl⟩:=f b a e d
 exact⟨g,h⟩
end
theorem Kw:wv.Ok Tryz.prog cx 67:=by
 refine f8 (tb:=⟨pt [(108,qy),(109,vP),(110,z7)],ht []⟩) dX dU (iN 95827739445721067874190659254502973333984266632037375 [] Tryz.func67) (λa=>100) (by simp[wv]) (by simp[wv,Tryz.f67]) ?_
 rintro(w:dJ) _ l r
 simp[wv]at r|-
 by_cases b7:w.cells.length<=12
 rotate_left
 ·simp[Tryz.f67,r,show(12:Int)<w.cells.length by omega,oe (w:=w) (by omega)]
 have E:¬(12:Int)<w.cells.length:=by omega
 by_cases b8:w.dP.length<=4
 rotate_left
 ·simp[Tryz.f67,r,E,show(4:Int)<w.dP.length by omega,oe (w:=w) (by omega)]
 have I:¬(4:Int)<w.dP.length:=by omega
 by_cases b9:w.fP.length<=2
 rotate_left
 ·simp[Tryz.f67,r,E,I,show(2:Int)<w.fP.length by omega,oe (w:=w) (by omega)]
 have K:¬(2:Int)<w.fP.length:=by omega
 by_cases ca:w.dR.length<=2
 rotate_left
 ·simp[Tryz.f67,r,E,I,K,show(2:Int)<w.dR.length by omega,oe (w:=w) (by omega)]
 have Q:¬(2:Int)<w.dR.length:=by omega
 by_cases ce:1<=w.dp.length
 rotate_left
 ·simp[Tryz.f67,r,E,I,K,Q,show(w.dp.length:Int)<1 by omega,oe (w:=w) (by omega)]
 have Z:¬(w.dp.length:Int)<1:=by omega
 by_cases cp:w.dp.length<=4
 rotate_left
 ·simp[Tryz.f67,r,E,I,K,Q,Z,show(4:Int)<w.dp.length by omega,oe (w:=w) (by omega)]
 have aE:¬(4:Int)<w.dp.length:=by omega
 by_cases cb:w.gW.length<=60
 rotate_left
 ·simp[Tryz.f67,r,E,I,K,Q,Z,aE,show(60:Int)<w.gW.length by omega,oe (w:=w) (by omega)]
 have bn:¬(60:Int)<w.gW.length:=by omega
 have o:jN w=(Ap w&&(w.fP.all λC=>sK w C.kP false)&&kQ w.dp.length 0 0 w.gW):=by
  unfold jN;rw[yV.2 ⟨b7,b8,b9,ca,cb,ce,cp⟩,bM]
 have bv:=λ{tb:eG} (ht:tb.p 108=some qy)=>Of ht w ⟨by omega,by omega,by omega,by omega,by omega⟩
 cases X:iz w.cells with
 |none=>
  have hr:jN w=false:=by rw[o];unfold Ap;rw[X];rfl
  have aX:qD w= .tuple [.fg,.bool false]:=by unfold qD;rw[X]
  simp[Tryz.f67,r,E,I,K,Q,bn,Z,aE,bv,aX,hr]
 |some Y=>
  have aX:qD w= .tuple [sl ((pZ w Y).map T.str),.bool true]:=by unfold qD;rw[X]
  have de:=Cs _ _ (au _) Y X
  have c9:Ap w=uz (pZ w Y):=by unfold Ap;rw[X]
  have dd:(pZ w Y).length<=24:=by unfold pZ;simp;omega
  rw[c9]at o
  generalize pZ w Y=d at*
  simp[Tryz.f67,r,E,I,K,Q,bn,Z,aE,bv,aX]
  refine eQ d.length (by omega) (λk l h=>gh 1 h/\h.get 0=some ⟨6,0,0,true,false,[w.t]⟩/\TI.dt l 1=some (.ptr 0 0 0 0)/\TI.dt l 3=some (sl (d.map T.str))/\TI.dt l 5=some (.int .i64 k)/\(d.take k).all sI=true/\(d.take k).Nodup) ?_ ?_ (by omega) ?_
  ·rintro k l h D J ⟨c,e,f,R,S,ae,ap⟩
   have i:(k:Int)<d.length:=by omega
   have c4:d[k]∈d:=aF D
   have c6:d=d.take k++d[k]::d.drop (k+1):=by rw[<-aJ D,cK]
   have c7:d.take (k+1)=d.take k++[d[k]]:=bj D
   have bi:d[k]? =some d[k]:=aB D
   generalize d[k]=z at*
   have bu:=λ{tb:eG} (ht:tb.p 110=some z7)=>LB ht (d.take k) z (by rw[List.length_take];omega)
   have bB:k<=d.length:=by omega
   cases O:sI z with
   |false=>
    have hr:jN w=false:=by
     rw[o]
     have:uz d=false:=by
      unfold uz
      have:d.all sI=false:=by rw[List.all_eq_false];exact⟨z,c4,by simp[O]⟩
      rw[this];rfl
     rw[this];rfl
    simp[R,S,i,bi,oM,O,hr,c.hp]
   |true=>
    by_cases al:z∈d.take k
    ·have hr:jN w=false:=by
      rw[o]
      have:uz d=false:=by
       unfold uz
       have:¬d.Nodup:=by
        rw[c6];intro h
        exact(List.nodup_append.1 h).2.2 z al z (by simp) rfl
       rw[bg this];simp
      rw[this];rfl
     have a6:(0<=qV (d.take k) z 0)=True:=by rw[EN];simp[al]
     simp[R,S,i,bi,oM,O,bu,bB,a6,hr,c.hp]
    ·have a6:(0<=qV (d.take k) z 0)=False:=by rw[EN];simp[al]
     simp[e,f,R,S,i,bi,oM,O,bu,bB,a6,J]
     rw[c7]
     refine⟨c,?_,?_⟩
     ·intro y G
      rcases List.mem_append.1 G with G|G
      ·exact List.all_eq_true.1 ae y G
      ·simp at G;subst G;exact O
     ·rw[List.nodup_append]
      exact⟨ap,by simp,λa r b o=>by simp at o;subst o;exact λh=>al (h▸r)⟩
  rotate_left
  ·simp
   first|done|exact⟨by simp,by simp,by simp⟩
  rintro l h ⟨c,e,f,R,S,ae,ap⟩
  rw[aQ]at ae ap
  have cX:uz d=true:=by unfold uz;rw[ae,bw ap];rfl
  rw[cX,bM]at o
  simp[R,S]
  refine eQ w.fP.length (by omega) (λk l h=>gh 1 h/\h.get 0=some ⟨6,0,0,true,false,[w.t]⟩/\TI.dt l 1=some (.ptr 0 0 0 0)/\TI.dt l 6=some (.int .i64 k)/\
   (w.fP.drop k).all (λC=>sK w C.kP false)=w.fP.all λC=>sK w C.kP false) ?_ ?_ (by omega) ?_
  ·rintro k l h D J ⟨c,e,f,L,B⟩
   have i:(k:Int)<w.fP.length:=by omega
   have g:w.fP[k]? =some w.fP[k]:=aB D
   rw[aJ D,cA]at B
   generalize w.fP[k]=C at*
   obtain⟨cn,H⟩:=C
   simp only at B
   by_cases a7:iI H w.dP.length=true
   ·obtain⟨z,bT,G⟩:=ij a7
    have W:=ed.1 a7
    have j:¬H<0:=by omega
    have m:¬(w.dP.length:Int)<=H:=by omega
    have an:sK w H false= !z.rW:=by unfold sK;rw[G];simp
    cases av:z.rW with
    |false=>
     rw[an,av]at B
     simp[e,f,L,i,g,j,m,dS W.1,bT,av,J]
     exact⟨c,by simpa using B⟩
    |true=>
     rw[an,av]at B
     have hr:jN w=false:=by rw[o,<-B];rfl
     simp[e,f,L,i,g,j,m,dS W.1,bT,av,hr,c.hp]
   ·have W:iI H w.dP.length=false:=by simpa using a7
    have O:=C0 W
    have an:sK w H false=false:=by unfold sK;rw[rH W]
    rw[an]at B
    have hr:jN w=false:=by rw[o,<-B];rfl
    by_cases j:H<0
    ·simp[e,f,L,i,g,j,hr,c.hp]
    ·have m:(w.dP.length:Int)<=H:=by omega
     simp[e,f,L,i,g,j,m,hr,c.hp]
  rotate_left
  ·simp[f,e]
   exact c
  rintro l h ⟨c,e,f,L,B⟩
  have cL:(w.fP.all λC=>sK w C.kP false)=true:=by rw[<-B];simp
  rw[cL,bM]at o
  simp[e,f,L]
  have N:kQ w.dp.length 0 0 w.gW=false->jN w=false:=λh=>by rw[o,h]
  refine eQ w.gW.length (by omega) (λk l h=>gh 1 h/\h.get 0=some ⟨6,0,0,true,false,[w.t]⟩/\TI.dt l 1=some (.ptr 0 0 0 0)/\TI.dt l 8=some (.int .i64 k)/\od w k) ?_ ?_ (by omega) ?_
  ·rintro k l h D J ⟨c,e,f,u,q⟩
   have i:(k:Int)<w.gW.length:=by omega
   have g:w.gW[k]? =some w.gW[k]:=aB D
   have F:=c.ne (b:=0) (by omega)
   generalize w.gW[k]=s at*
   obtain⟨aA,bk,dk⟩:=s
   by_cases j:aA<0
   ·have hr:=N (q.bad g (.inl j))
    simp[e,f,u,i,g,c.low,j,hr,c.hp]
   by_cases m:(w.dp.length:Int)<=aA
   ·have hr:=N (q.bad g (.inr m))
    simp[e,f,u,i,g,F,c.low,j,m,hr,c.hp]
   by_cases a8:k=0
   ·have bz:(k=0)=True:=by simp[a8]
    have c1:(0<k)=False:=by simp;omega
    by_cases n:bk=0
    ·have U:=q.next g (by simp only;omega) (by simp only;omega) (.inl ⟨a8,n⟩)
     subst n
     simp[e,f,u,i,g,F,c.low,j,m,bz,c1,J]
     exact⟨c.cons _,U⟩
    ·have hr:=N (q.no g (.inl ⟨a8,n⟩))
     simp[e,f,u,i,g,F,c.low,j,m,bz,n,hr,c.hp]
   ·obtain⟨x,M⟩:∃x,k=x+1:=⟨k-1,by omega⟩
    have v:w.gW[x]? =some w.gW[x]:=aB (by omega)
    generalize w.gW[x]=p at*
    have bN:=q.rng M v
    have P:=kl (a:=(k:Int)) (b:=1) (by omega) (by omega)
    rw[show(k:Int)-1=(x:Int)by omega]at P
    obtain⟨b6,bX,di⟩:=p
    have bs:=fQ (a:=bX) (b:=1) (by simp only at bN;omega) (by simp only at bN;omega)
    have V:(k=0)=False:=by simp;omega
    have bp:(0<k)=True:=by simp;omega
    by_cases n:b6=aA
    ·by_cases A:bk=bX+1
     ·have U:=q.next g (by simp only;omega) (by simp only;omega) (.inr ⟨x,_,M,v,.inl ⟨n,A⟩⟩)
      subst n A
      simp[e,f,u,i,g,F,c.low,j,m,V,P,v,bs,J]
      exact⟨c.cons _,U⟩
     ·have hr:=N (q.no g (.inr ⟨x,_,M,v,.inl ⟨n,A⟩⟩))
      subst n
      simp[e,f,u,i,g,F,c.low,j,m,V,P,v,bs,A,hr,c.hp]
    ·by_cases A:bk=0
     ·by_cases aN:aA<b6
      ·have hr:=N (q.no g (.inr ⟨x,_,M,v,.inr (.inl aN)⟩))
       subst A
       simp[e,f,u,i,g,F,c.low,j,m,V,bp,P,v,n,aN,hr,c.hp]
      ·have U:=q.next g (by simp only;omega) (by simp only;omega) (.inr ⟨x,_,M,v,.inr ⟨by simp only;omega,A⟩⟩)
       subst A
       simp[e,f,u,i,g,F,c.low,j,m,V,bp,P,v,n,aN,J]
       exact⟨c.cons _,U⟩
     ·have hr:=N (q.no g (.inr ⟨x,_,M,v,.inr (.inr ⟨n,A⟩)⟩))
      simp[e,f,u,i,g,F,c.low,j,m,V,P,v,n,A,hr,c.hp]
  ·rintro l h ⟨c,e,f,u,q⟩
   have hr:jN w=true:=by rw[o,q.fin]
   simp[e,f,u,hr,c.hp]
  ·simp[f,e]
   exact⟨c,od.zero w⟩
theorem GJ{a:eG}(ht:a.p 67=some wv)(w:dJ):rl Tryz.prog cx a 67 [w.t]=some (.bool (jN w)):=fR ht Kw w trivial
end
end Go.Proofs.YtmaeadedikngoaaGreatDoor
