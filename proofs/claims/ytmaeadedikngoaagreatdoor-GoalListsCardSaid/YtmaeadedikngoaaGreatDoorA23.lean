/- Texts W06d to W06i. -/
import Derived.Test.YtmaeadedikngoaaGreatDoorA15
set_option linter.all false
set_option maxRecDepth 100000
set_option maxHeartbeats 8000000
namespace Go.Proofs.YtmaeadedikngoaaGreatDoor
noncomputable section
open Go Go.TI
attribute [-simp] List.map_take List.map_drop List.map_append
def zu:iq:=⟨List fU×Int,λa=>[sl (a.1.map fU.t),dG a.2],λa=>a.1.length<=140737488355328,λa=> .bool (Cr a.1 (a.1.length+1) a.2),λa c b=>by
 simp at b;rw[jy (λ_ _=>fU.inj) b.1,b.2]⟩
def RW:zu.Ok Tryz.prog cx 161:=by
 refine iC (tb:=⟨pt [(206,uA)],ht []⟩) fc fa (je 4362601011 [] Tryz.func161) (λa=>a.1.length+2) (by simp[zu]) (by simp[zu,Tryz.f161]) ?_;rintro⟨d,x⟩ hl l v;simp[zu]at hl v|-;obtain⟨f,g⟩:=v;simp[Tryz.f161];refine fI (d.length+1) dB (λj l q=>q=hE/\dJ l 0 (sl (d.map fU.t))/\dJ l 5 (dG j)/\∃e:Int,dJ l 1 (dG e)/\Cr d (d.length+1-j) e=Cr d (d.length+1) x) ?_ ?_ dB ?_
 ·rintro j l q B w ⟨rfl,f,h,e,g,c⟩;have i:(j:Int)<=d.length:=dB;rw[show d.length+1-j=(d.length-j)+1 by omega,Cr]at c;by_cases n:e<0
  ·have:xr d e=none:=by unfold xr;rw[ao dB]
   rw[this]at c;simp[f,g,h,i,n,<-c]
  ·by_cases p:(d.length:Int)<=e
   ·have:xr d e=none:=by unfold xr;rw[aq dB];simp;omega
    rw[this]at c;simp[f,g,h,i,n,p,<-c]
   ·have A:jt e d.length=true:=by rw[fw];omega
    obtain⟨o,r,z⟩:=iK A;rw[z]at c;simp only at c;have s:=eQ (show 0<=e by omega);have y:=iy (a:=e) (b:=1) dB dB;cases m:wn o.op with
    |false=>
     rw[m,ao dC]at c;simp[f,g,h,i,n,p,s,r,m,wM,<-c]
    |true=>
     rw[m,aq rfl]at c;cases k:decide (o.op=5)with
     |true=>
      rw[aJ]at k;rw[JP,aq k]at c;have u:decide (o.op=5)=true:=by simpa using k
      simp[f,g,h,i,n,p,s,r,m,wM,u,w];exact c
     |false=>
      have u:decide (o.op=5)=false:=k;rw[bU]at k;rw[JP,ao k]at c;simp[f,g,h,i,n,p,s,r,m,wM,u,w,y];exact c
 ·rintro l q ⟨rfl,f,h,e,g,c⟩;rw[Nat.sub_self,Cr]at c;have i:¬((d.length:Int)+1<=d.length):=dB;simp[f,h,i,<-c]
 ·simp[f,g]
def WU{c:fN}(ht:c.p 161=some zu)(a:List fU)(b:Int)(hl:a.length<=140737488355328):rl Tryz.prog cx c 161 [sl (a.map fU.t),dG b]=some (.bool (Cr a (a.length+1) b)):=iv ht RW (a,b) hl
@[simp] theorem adt:sl []=T.gu:=id rfl
def wg{a:ig}{b:List ig}(c:a.size=0):ja (a::b)=if a.index=0 then(ja b).map (a.name:: ·)else none:=by rw[ja,aq c]
def xm{a:ig}{b:List ig}(c:¬a.size=0)(d:a.size<1\/4<a.size\/(b.length+1:Int)<a.size):ja (a::b)=none:=by rw[ja,ao c,dif_pos d]
def xl{a:ig}{b:List ig}(c:¬a.size=0)(d:¬(a.size<1\/4<a.size\/(b.length+1:Int)<a.size)):ja (a::b)=if KH a (a::b)=true then(ja ((a::b).drop a.size.toNat)).map (a.name:: ·)else none:=by rw[ja,ao c,dif_neg d]
def D8:∀(e:Nat) (c:List ig),c.length<=e->∀g,ja c=some g->g.length<=c.length:=by
 intro e;induction e with
 |zero=>
  intro c hl g a;have:c=[]:=bj dB;subst this;rw[ja]at a;simp at a;subst a;simp
 |succ e k=>
  intro c hl g a;cases c with
  |nil=>rw[ja]at a;simp at a;subst a;simp
  |cons d f=>
   simp at hl;by_cases h:d.size=0
   ·rw[wg h]at a;split at a
    ·cases b:ja f with
     |none=>rw[b]at a;simp at a
     |some i=>rw[b]at a;simp at a;subst a;have:=k f hl i b;simp;omega
    ·simp at a
   ·by_cases j:d.size<1\/4<d.size\/(f.length+1:Int)<d.size
    ·rw[xm h j]at a;simp at a
    ·rw[xl h j]at a;split at a
     ·cases b:ja ((d::f).drop d.size.toNat)with
      |none=>rw[b]at a;simp at a
      |some i=>
       rw[b]at a;simp at a;subst a;have:=k _ dD i b;simp at this|-;omega
     ·simp at a
def wZ{d f:Type}(c:d->f)(b:List d){a:Nat}(e:a<b.length):(b.take (a+1)).map c=(b.take a).map c++[c b[a]]:=by
 rw[aW e,List.map_append];rfl
def rN(a:ee):T:=match ja a.cells with|some b=> .tuple [sl ((qT a b).map T.str),.bool true]|none=> .tuple [.gu,.bool false]
def rJ:iq:=⟨ee,λa=>[a.t],λa=>a.cells.length<=1000000/\a.ew.length<=1000000/\a.gW.length<=1000000/\a.ei.length<=1000000/\a.dM.length<=1000000,rN,λa c b=>by simp at b;rw[ee.inj b]⟩
def Mp:rJ.Ok Tryz.prog cx 108:=by
 refine iC (tb:=⟨pt [],ht []⟩) fc fa (je 332312079452150195464880550324504575 [] Tryz.func108) (λa=>1000002) (by simp[rJ]) (by simp[rJ,Tryz.f108]) ?_;rintro(e:ee) hl l bB;simp[rJ]at hl bB|-;obtain⟨hl,l2,l3,l4,l5⟩:=hl;simp[Tryz.f108,bB];have et:=hl;obtain⟨h,M⟩:∃h,h=e.cells:=⟨_,rfl⟩;rw[<-M]at hl;refine sr h.length (λd l i=>ij 1 i/\i.get 0=some (dI 6 0 [e.t])/\dJ l 1 (.ptr 0 0 0 0)/\dJ l 5 (dG d)/\∃y v,dJ l 4 y/\sj i 0 y 1 (v.map T.str)/\v.length<=d/\(ja (h.drop d)).map (v++ ·)=ja h) ?_ (k:=0) dB dB ?_;rotate_left
 ·simp
  first|exact⟨[],sj.nil _ _ _,dC,dC⟩|exact⟨⟨dC,dC,dC⟩,[],sj.nil _ _ _,dC,dC⟩
 rintro d l i er ⟨r,g,j,q,y,v,n,z,eu,o⟩;have c9:=r.ne (b:=0) dB;by_cases N:d<h.length
 ·have c7:(d:Int)<h.length:=dB;have Y:(d:Int)<e.cells.length:=by rw[<-M];exact c7
  have bC:(e.cells.length:Int)=h.length:=by rw[M]
  have c6:h[d]? =some h[d]:=aB N;have W:e.cells[d]? =some h[d]:=by rw[<-M];exact c6
  have a6:=aI N;rw[a6]at o;generalize eo:h[d]=c at*
  obtain⟨p,B,m,D,w⟩:=c;have di:=z.cons (dI 5 1 [ig.t ⟨p,B,m,D,w⟩]);have c1:(H.cons i (dI 5 1 [ig.t ⟨p,B,m,D,w⟩])).get i.size=some (dI 5 1 [ig.t ⟨p,B,m,D,w⟩]):=dC;have cX:(H.cons i (dI 5 1 [ig.t ⟨p,B,m,D,w⟩])).get 0=some (dI 6 0 [e.t]):=by rw[dW,ao (by rw[c9];simp)];exact g
  obtain⟨aX,ca,A,Z,C⟩:=di.Kl (cx:=cx) qx rfl wa rfl dC dC p dD;rw[show(H.cons i (dI 5 1 [ig.t ⟨p,B,m,D,w⟩])).size=i.size+1 from rfl]at A;have E:=C.get _ _ c1 dC;have F:=C.get _ _ cX dC;have ae:=C.ok 1 (r.cons _);have de:i.size<ca.size:=by have:=C.size;simp[H.cons]at this;omega
  have cp:=iy (a:=d) (b:=1) dB dB;have a7:ja h=none->rN e= .tuple [.gu,.bool false]:=by intro i;unfold rN;rw[<-M,i]
  by_cases al:m=0
  ·subst al;rw[wg rfl]at o;simp only at o;by_cases bp:B=0
   ·subst bp;rw[aq rfl]at o;simp[g,j,q,n,Y,W,r.low,A,E,F,cp];refine⟨d+1,dB,dB,ae,dC,v++[p],Z,dD,?_⟩;rw[<-o];cases ja (List.drop (d+1) h)<;>simp
   ·rw[ao bp]at o;have hr:=a7 (by rw[<-o];rfl);simp[g,j,q,n,Y,W,r.low,A,E,bp,hr,ae.hp]
  ·have ey:(h.drop (d+1)).length+1=h.length-d:=by rw[List.length_drop];omega
   have bN:=kN (a:=e.cells.length) (b:=d) dB dB;by_cases b6:m<1\/4<m\/((h.drop (d+1)).length+1:Int)<m
   ·rw[xm al b6]at o;have hr:=a7 (by rw[<-o];rfl);by_cases p1:m<1
    ·simp[g,j,q,n,Y,W,r.low,A,E,al,p1,hr,ae.hp]
    ·by_cases p2:4<m
     ·simp[g,j,q,n,Y,W,r.low,A,E,al,p1,p2,hr,ae.hp]
     ·have p3:(e.cells.length:Int)-d<m:=dB;simp[g,j,q,n,Y,W,r.low,A,E,F,al,p1,p2,p3,hr,ae.hp,bN]
   ·rw[xl al b6]at o;have p1:¬m<1:=dB;have p2:¬4<m:=dB;have p3:¬(e.cells.length:Int)-d<m:=dB;have bH:KH ⟨p,B,m,D,w⟩ (⟨p,B,m,D,w⟩::List.drop (d+1) h)=allI (λk x=>decide (x=⟨p,k,m,false,w⟩)) 0 ((h.drop d).take m.toNat):=by rw[a6];rfl
    generalize KH ⟨p,B,m,D,w⟩ (⟨p,B,m,D,w⟩::List.drop (d+1) h)=R at*
    obtain⟨s,rfl⟩:∃s:Nat,m=s:=⟨m.toNat,dB⟩;rw[da]at bH o;simp only at o;have eb:¬s=0:=dB;simp[g,j,q,n,Y,W,r.low,A,E,F,eb,p1,p2,p3,bN];refine fI s dB (λk l I=>ij 1 I/\i.size<I.size/\I.get 0=some (dI 6 0 [e.t])/\dJ l 1 (.ptr 0 0 0 0)/\dJ l 5 (dG d)/\dJ l 4 aX/\sj I 0 aX 1 ((v++[p]).map T.str)/\dJ l 6 (.ptr i.size 0 0 0)/\dJ l 7 (dG k)/\
     (∃bu,I.get i.size=some (dI 5 bu [ig.t ⟨p,B,s,D,w⟩]))/\allI (λk x=>decide (x=⟨p,k,s,false,w⟩)) k (((h.drop d).take s).drop k)=R) ?_ ?_ dB ?_
    ·rintro k l I aN ap ⟨u,dm,g,j,q,n,a8,J,K,⟨bu,G⟩,Q⟩;have V:(k:Int)<s:=dB;have c4:d+k<h.length:=dB;have dd:=u.ne (b:=0) dB;have aA:(i.size=I.size)=False:=dD;have L:=iy (a:=d) (b:=k) dB dB;have U:ka ((d:Int)+k)=some (d+k):=by rw[eQ dB];congr 1
     have X:e.cells[d+k]? =some h[d+k]:=by rw[<-M];exact aB c4
     have cy:((h.drop d).take s).drop k=h[d+k]::((h.drop d).take s).drop (k+1):=by
      rw[aI (by rw[List.length_take,List.length_drop];omega)];congr 1;rw[List.getElem_take,List.getElem_drop]
     rw[cy,allI]at Q;generalize h[d+k]=x at*
     obtain⟨bn,bk,bs,bz,bi⟩:=x;have av:¬(⟨bn,bk,bs,bz,bi⟩:ig)=⟨p,k,s,false,w⟩->rN e= .tuple [.gu,.bool false]:=by
      intro cL;rw[aR cL,Bool.false_and]at Q;rw[<-Q,ao dC]at o;exact a7 (by rw[<-o];rfl)
     have dk:=u.cons (dI 5 1 [ig.t ⟨bn,bk,bs,bz,bi⟩]);by_cases O:bk=k
     ·by_cases S:bn=p
      ·by_cases an:bs=s
       ·by_cases aE:bi=w
        ·cases bz with
         |false=>
          subst O S an aE;rw[bI rfl,bO]at Q;simp[g,j,q,n,J,K,dd,aA,V,G,L,U,X,u.low,ap];exact⟨dk,dB,a8.cons _,Q⟩
         |true=>
          have hr:=av dC;simp[g,j,q,J,K,aA,V,G,L,U,X,u.low,O,S,an,aE,hr,u.hp]
        ·have hr:=av (by simp[aE]);simp[g,j,q,J,K,aA,V,G,L,U,X,u.low,O,S,an,aE,hr,u.hp]
       ·have hr:=av (by simp[an]);simp[g,j,q,J,K,aA,V,G,L,U,X,u.low,O,S,an,hr,u.hp]
      ·have hr:=av (by simp[S]);simp[g,j,q,J,K,aA,V,G,L,U,X,u.low,O,S,hr,u.hp]
     ·have hr:=av (by simp[O]);simp[g,j,q,J,K,V,G,L,U,X,u.low,O,hr,u.hp]
    ·rintro l I ⟨u,dm,g,j,q,n,a8,J,K,⟨bu,G⟩,Q⟩;have ce:R=true:=by rw[<-Q,List.drop_eq_nil_of_le (by rw[List.length_take];omega)];rfl
     have L:=iy (a:=d) (b:=s) dB dB;rw[ce,aq rfl]at o;simp[g,j,q,n,J,K,G,L];refine⟨d+s,dB,dB,u,dC,v++[p],a8,dD,?_⟩;rw[<-o,List.drop_drop.symm,a6];cases ja (List.drop s (_::List.drop (d+1) h))<;>simp
    ·simp[j,q];exact⟨ae,de,F,Z,⟨_,E⟩,bH.symm⟩
 ·have:d=h.length:=dB;subst this;have bC:(e.cells.length:Int)=h.length:=by rw[M]
  rw[dx,ja]at o;have dn:ja e.cells=some v:=by rw[<-M,<-o];simp
  have hr:rN e= .tuple [sl ((qT e v).map T.str),.bool true]:=by unfold rN;rw[dn]
  have eh:v.length<=1000000:=dB;simp[g,j,q,bC];refine fI e.ew.length dB (λk l i=>ij 1 i/\i.get 0=some (dI 6 0 [e.t])/\dJ l 1 (.ptr 0 0 0 0)/\dJ l 9 (dG k)/\
   ∃y,dJ l 4 y/\sj i 0 y 1 ((v++(e.ew.take k).map (·.name)).map T.str)) ?_ ?_ dB ?_
  ·rintro k l i N ap ⟨r,g,j,P,y,n,z⟩;have aN:(k:Int)<e.ew.length:=dB;obtain⟨aX,E,A,Z,C⟩:=z.Kl (cx:=cx) qx rfl wa rfl dC dC (e.ew[k]).name dD;have F:=C.get 0 _ g dC;simp[g,j,P,n,aN,N,A,ap];refine⟨C.ok 1 r,F,?_⟩;simpa[wZ _ _ N]using Z
  rotate_left
  ·simp[j,n];exact⟨r,g,by simpa using z⟩
  rintro l i ⟨r,g,j,P,y,n,z⟩;simp[g,j,P];rw[aL]at z;refine fI e.gW.length dB (λk l i=>ij 1 i/\i.get 0=some (dI 6 0 [e.t])/\dJ l 1 (.ptr 0 0 0 0)/\dJ l 10 (dG k)/\
   ∃y,dJ l 4 y/\sj i 0 y 1 ((v++e.ew.map (·.name)++(e.gW.take k).map (·.name)).map T.str)) ?_ ?_ dB ?_
  ·rintro k l i N ap ⟨r,g,j,P,y,n,z⟩;have aN:(k:Int)<e.gW.length:=dB;obtain⟨aX,E,A,Z,C⟩:=z.Kl (cx:=cx) qx rfl wa rfl dC dC (e.gW[k]).name dD;have F:=C.get 0 _ g dC;simp[g,j,P,n,aN,N,A,ap];refine⟨C.ok 1 r,F,?_⟩;simpa[wZ _ _ N]using Z
  rotate_left
  ·simp[j,g,n];exact⟨r,by simpa using z⟩
  rintro l i ⟨r,g,j,P,y,n,z⟩;rw[aL]at z;obtain⟨eA,ec,b8,dv,bS⟩:=z.UM (cx:=cx) qx rfl wa rfl dC dC e.ei dD;have b7:=bS.get 0 _ g dC;obtain⟨eB,ef,b9,bT,ds⟩:=dv.UM (cx:=cx) qx rfl wa rfl dC dC e.dM dD;have ea:=ds.ok 1 (bS.ok 1 r);have cb:qT e v=v++e.ew.map (·.name)++e.gW.map (·.name)++e.ei++e.dM:=rfl;rw[<-cb]at bT;simp[g,j,P,n,b8,b7,b9,hr,bT.fzM (f:=T.str) dC,ea.hp]
def Qq{b:fN}(ht:b.p 108=some rJ)(a:ee)(hl:a.cells.length<=1000000/\a.ew.length<=1000000/\a.gW.length<=1000000/\a.ei.length<=1000000/\a.dM.length<=1000000):rl Tryz.prog cx b 108 [a.t]=some (rN a):=iv ht Mp a hl
def vJ:iq:=⟨ee,λa=>[a.t],λa=>True,λa=> .bool (j4 a),λa c b=>by simp at b;rw[ee.inj b]⟩
def Ax{w:ee}:sH w=true↔(w.cells.length<=12/\w.ew.length<=4/\w.gW.length<=2/\w.ei.length<=2/\w.iH.length<=60/\1<=w.dM.length/\w.dM.length<=4):=by
 unfold sH;simp;omega
def o8{w:ee}(a:¬(w.cells.length<=12/\w.ew.length<=4/\w.gW.length<=2/\w.ei.length<=2/\w.iH.length<=60/\1<=w.dM.length/\w.dM.length<=4)):j4 w=false:=by
 unfold j4;have:sH w=false:=by rw[du];exact λk=>a (Ax.1 k)
 rw[this];rfl
def o6(w:ee)(k:Nat):Prop:=∃b a:Int,0<=b/\0<=a/\a<=k/\(k=0->b=0/\a=0)/\(∀d c,k=d+1->w.iH[d]? =some c->b=c.dZ/\a=c.stmt+1)/\lI w.dM.length b a (w.iH.drop k)=lI w.dM.length 0 0 w.iH
def o6.zero(w:ee):o6 w 0:=⟨0,0,dC,dC,dC,dC,dC,dC⟩
def o6.fin{w:ee}(a:o6 w w.iH.length):lI w.dM.length 0 0 w.iH=true:=by
 obtain⟨c,d,_,_,_,_,_,b⟩:=a;rw[<-b,dx];rfl
section
variable {w:ee}{k:Nat}{s:iI}
def o6.cons(h:o6 w k)(c:w.iH[k]? =some s):∃a b:Int,0<=a/\0<=b/\b<=k/\(k=0->a=0/\b=0)/\(∀f d,k=f+1->w.iH[f]? =some d->a=d.dZ/\b=d.stmt+1)/\(if s.dZ<a\/(w.dM.length:Int)<=s.dZ then false else
 if a<s.dZ then(if s.stmt=0 then lI w.dM.length s.dZ 1 (w.iH.drop (k+1))else false)else(if s.stmt=b then lI w.dM.length a (b+1) (w.iH.drop (k+1))else false))=lI w.dM.length 0 0 w.iH:=by
 obtain⟨a,b,g,i,j,l,m,n⟩:=h;have e:k<w.iH.length:=by
  rcases aF k w.iH.length with h|h
  ·exact h
  ·rw[aM h]at c;simp at c
 have:w.iH[k]=s:=by rw[aB e]at c;simpa using c
 refine⟨a,b,g,i,j,l,m,?_⟩;rw[<-n,aI e,this,lI]
def o6.bad(a:o6 w k)(c:w.iH[k]? =some s)(i:s.dZ<0\/(w.dM.length:Int)<=s.dZ):lI w.dM.length 0 0 w.iH=false:=by
 obtain⟨j,l,d,e,f,g,h,b⟩:=a.cons c;rw[<-b,aq dB]
def o6.next(n:o6 w k)(j:w.iH[k]? =some s)(o:0<=s.dZ)(x:s.dZ<w.dM.length)(p:(k=0/\s.stmt=0)\/∃b a,k=b+1/\w.iH[b]? =some a/\((a.dZ=s.dZ/\s.stmt=a.stmt+1)\/(a.dZ<s.dZ/\s.stmt=0))):o6 w (k+1):=by
 obtain⟨y,z,t0,A,B,u,r,c⟩:=n.cons j;have t:∀b a,k+1=b+1->w.iH[b]? =some a->a=s:=by
  intro b a g h;have:b=k:=dB;subst this;rw[j]at h;simpa using h.symm
 have fin:∀d:Int,d=s.stmt+1->0<=d->d<=k+1->lI w.dM.length s.dZ d (w.iH.drop (k+1))=lI w.dM.length 0 0 w.iH->o6 w (k+1):=by
  intro d e f v m;exact⟨s.dZ,d,o,f,dB,dC,λb a g h=>by rw[t b a g h];exact⟨rfl,e⟩,m⟩
 rcases p with⟨rfl,l⟩|⟨b,a,rfl,g,q⟩
 ·obtain⟨rfl,rfl⟩:=u rfl;rw[ao dB]at c;refine fin 1 dB dB dB ?_;rw[<-c];by_cases i:0<s.dZ
  ·rw[aq i,aq l]
  ·rw[ao i,aq l];have:s.dZ=0:=dB;rw[this];rfl
 ·obtain⟨rfl,rfl⟩:=r b a rfl g;rcases q with⟨e,f⟩|⟨e,f⟩
  ·rw[ao dB,ao dB,aq f]at c;refine fin (a.stmt+1+1) dB dB dB ?_;rw[<-c,e]
  ·rw[ao dB,aq e,aq f]at c;exact fin 1 dB dB dB c
def o6.no(e:o6 w k)(m:w.iH[k]? =some s)(f:(k=0/\s.stmt≠0)\/∃b a,k=b+1/\w.iH[b]? =some a/\((a.dZ=s.dZ/\s.stmt≠a.stmt+1)\/s.dZ<a.dZ\/(a.dZ≠s.dZ/\s.stmt≠0))):lI w.dM.length 0 0 w.iH=false:=by
 obtain⟨o,p,t0,q,r,n,l,i⟩:=e.cons m;rw[<-i];rcases f with⟨rfl,d⟩|⟨b,a,rfl,g,j⟩
 ·obtain⟨rfl,rfl⟩:=n rfl;rw[ao d,ao d];simp
 ·obtain⟨rfl,rfl⟩:=l b a rfl g;rcases j with⟨e1,c⟩|e1|⟨e1,c⟩
  ·rw[ao c,ao (show¬a.dZ<s.dZ by omega)];simp
  ·rw[aq (.inl e1)]
  ·by_cases h:s.dZ<a.dZ
   ·rw[aq (.inl h)]
   ·rw[ao c,aq (show a.dZ<s.dZ by omega)];simp
def o6.rng(c:o6 w k){b:Nat}{a:iI}(e:k=b+1)(d:w.iH[b]? =some a):0<=a.stmt+1/\a.stmt+1<=k:=by
 obtain⟨l,m,t0,g,h,j,f,i⟩:=c;obtain⟨_,rfl⟩:=f b a e d;exact⟨g,h⟩
end
def Md:vJ.Ok Tryz.prog cx 67:=by
 refine iC (tb:=⟨pt [(108,rJ),(109,w8),(110,Bf)],ht []⟩) fc fa (je 95827739445721067874190659254502973333984266632037375 [] Tryz.func67) (λa=>100) (by simp[vJ]) (by simp[vJ,Tryz.f67]) ?_;rintro(w:ee) _ l r;simp[vJ]at r|-;by_cases b6:w.cells.length<=12;rotate_left
 ·simp[Tryz.f67,r,show(12:Int)<w.cells.length by omega,o8 (w:=w) dB]
 have E:¬(12:Int)<w.cells.length:=dB;by_cases b7:w.ew.length<=4;rotate_left
 ·simp[Tryz.f67,r,E,show(4:Int)<w.ew.length by omega,o8 (w:=w) dB]
 have I:¬(4:Int)<w.ew.length:=dB;by_cases b8:w.gW.length<=2;rotate_left
 ·simp[Tryz.f67,r,E,I,show(2:Int)<w.gW.length by omega,o8 (w:=w) dB]
 have K:¬(2:Int)<w.gW.length:=dB;by_cases b9:w.ei.length<=2;rotate_left
 ·simp[Tryz.f67,r,E,I,K,show(2:Int)<w.ei.length by omega,o8 (w:=w) dB]
 have Q:¬(2:Int)<w.ei.length:=dB;by_cases cb:1<=w.dM.length;rotate_left
 ·simp[Tryz.f67,r,E,I,K,Q,show(w.dM.length:Int)<1 by omega,o8 (w:=w) dB]
 have Z:¬(w.dM.length:Int)<1:=dB;by_cases ce:w.dM.length<=4;rotate_left
 ·simp[Tryz.f67,r,E,I,K,Q,Z,show(4:Int)<w.dM.length by omega,o8 (w:=w) dB]
 have aE:¬(4:Int)<w.dM.length:=dB;by_cases ca:w.iH.length<=60;rotate_left
 ·simp[Tryz.f67,r,E,I,K,Q,Z,aE,show(60:Int)<w.iH.length by omega,o8 (w:=w) dB]
 have bn:¬(60:Int)<w.iH.length:=dB;have o:j4 w=(Bz w&&(w.gW.all λC=>uf w C.kG false)&&lI w.dM.length 0 0 w.iH):=by
  unfold j4;rw[Ax.2 ⟨b6,b7,b8,b9,ca,cb,ce⟩,bO]
 have bz:=λ{tb:fN} (ht:tb.p 108=some rJ)=>Qq ht w ⟨dB,dB,dB,dB,dB⟩;cases X:ja w.cells with
 |none=>
  have hr:j4 w=false:=by rw[o];unfold Bz;rw[X];rfl
  have aX:rN w= .tuple [.gu,.bool false]:=by unfold rN;rw[X]
  simp[Tryz.f67,r,E,I,K,Q,bn,Z,aE,bz,aX,hr]
 |some Y=>
  have aX:rN w= .tuple [sl ((qT w Y).map T.str),.bool true]:=by unfold rN;rw[X]
  have c9:=D8 _ _ (au _) Y X;have c6:Bz w=vO (qT w Y):=by unfold Bz;rw[X]
  have c7:(qT w Y).length<=24:=by unfold qT;simp;omega
  rw[c6]at o;generalize qT w Y=d at*
  simp[Tryz.f67,r,E,I,K,Q,bn,Z,aE,bz,aX];refine fI d.length dB (λk l h=>ij 1 h/\h.get 0=some (dI 6 0 [w.t])/\dJ l 1 (.ptr 0 0 0 0)/\dJ l 3 (sl (d.map T.str))/\dJ l 5 (dG k)/\(d.take k).all ud=true/\(d.take k).Nodup) ?_ ?_ dB ?_
  ·rintro k l h D J ⟨c,e,f,R,S,ae,ap⟩;have i:(k:Int)<d.length:=dB;have cX:d[k]∈d:=aC D;have c1:d=d.take k++d[k]::d.drop (k+1):=by rw[<-aI D,cR]
   have c4:d.take (k+1)=d.take k++[d[k]]:=aW D;have bi:d[k]? =some d[k]:=aB D;generalize d[k]=z at*
   have bu:=λ{tb:fN} (ht:tb.p 110=some Bf)=>Nr ht (d.take k) z (by rw[List.length_take];omega);have bC:k<=d.length:=dB;cases O:ud z with
   |false=>
    have hr:j4 w=false:=by
     rw[o];have:vO d=false:=by
      unfold vO;have:d.all ud=false:=by rw[List.all_eq_false];exact⟨z,cX,by simp[O]⟩
      rw[this];rfl
     rw[this];rfl
    simp[R,S,i,bi,pM,O,hr,c.hp]
   |true=>
    by_cases al:z∈d.take k
    ·have hr:j4 w=false:=by
      rw[o];have:vO d=false:=by
       unfold vO;have:¬d.Nodup:=by
        rw[c1];intro h;exact(List.nodup_append.1 h).2.2 z al z dC rfl
       rw[aR this];simp
      rw[this];rfl
     have a6:(0<=sd (d.take k) z 0)=True:=by rw[Gw];simp[al]
     simp[R,S,i,bi,pM,O,bu,bC,a6,hr,c.hp]
    ·have a6:(0<=sd (d.take k) z 0)=False:=by rw[Gw];simp[al]
     simp[e,f,R,S,i,bi,pM,O,bu,bC,a6,J];rw[c4];refine⟨c,?_,?_⟩
     ·intro y G;rcases List.mem_append.1 G with G|G
      ·exact List.all_eq_true.1 ae y G
      ·simp at G;subst G;exact O
     ·rw[List.nodup_append];exact⟨ap,dC,λa r b o=>by simp at o;subst o;exact λh=>al (h▸r)⟩
  rotate_left
  ·simp
   first|done|exact⟨dC,dC,dC⟩
  rintro l h ⟨c,e,f,R,S,ae,ap⟩;rw[aL]at ae ap;have cy:vO d=true:=by unfold vO;rw[ae,bI ap];rfl
  rw[cy,bO]at o;simp[R,S];refine fI w.gW.length dB (λk l h=>ij 1 h/\h.get 0=some (dI 6 0 [w.t])/\dJ l 1 (.ptr 0 0 0 0)/\dJ l 6 (dG k)/\
   (w.gW.drop k).all (λC=>uf w C.kG false)=w.gW.all λC=>uf w C.kG false) ?_ ?_ dB ?_
  ·rintro k l h D J ⟨c,e,f,L,B⟩;have i:(k:Int)<w.gW.length:=dB;have g:w.gW[k]? =some w.gW[k]:=aB D;rw[aI D,cJ]at B;generalize w.gW[k]=C at*
   obtain⟨cn,H⟩:=C;simp only at B;by_cases a7:jt H w.ew.length=true
   ·obtain⟨z,bN,G⟩:=iK a7;have W:=fw.1 a7;have j:¬H<0:=dB;have m:¬(w.ew.length:Int)<=H:=dB;have an:uf w H false= !z.rW:=by unfold uf;rw[G];simp
    cases av:z.rW with
    |false=>
     rw[an,av]at B;simp[e,f,L,i,g,j,m,eQ W.1,bN,av,J];exact⟨c,by simpa using B⟩
    |true=>
     rw[an,av]at B;have hr:j4 w=false:=by rw[o,<-B];rfl
     simp[e,f,L,i,g,j,m,eQ W.1,bN,av,hr,c.hp]
   ·have W:jt H w.ew.length=false:=by simpa using a7
    have O:=EN W;have an:uf w H false=false:=by unfold uf;rw[qX W]
    rw[an]at B;have hr:j4 w=false:=by rw[o,<-B];rfl
    by_cases j:H<0
    ·simp[e,f,L,i,g,j,hr,c.hp]
    ·have m:(w.ew.length:Int)<=H:=dB;simp[e,f,L,i,g,j,m,hr,c.hp]
  rotate_left
  ·simp[f,e];exact c
  rintro l h ⟨c,e,f,L,B⟩;have cp:(w.gW.all λC=>uf w C.kG false)=true:=by rw[<-B];simp
  rw[cp,bO]at o;simp[e,f,L];have N:lI w.dM.length 0 0 w.iH=false->j4 w=false:=λh=>by rw[o,h]
  refine fI w.iH.length dB (λk l h=>ij 1 h/\h.get 0=some (dI 6 0 [w.t])/\dJ l 1 (.ptr 0 0 0 0)/\dJ l 8 (dG k)/\o6 w k) ?_ ?_ dB ?_
  ·rintro k l h D J ⟨c,e,f,u,q⟩;have i:(k:Int)<w.iH.length:=dB;have g:w.iH[k]? =some w.iH[k]:=aB D;have F:=c.ne (b:=0) dB;generalize w.iH[k]=s at*
   obtain⟨aA,bk,de⟩:=s;by_cases j:aA<0
   ·have hr:=N (q.bad g (.inl j));simp[e,f,u,i,g,c.low,j,hr,c.hp]
   by_cases m:(w.dM.length:Int)<=aA
   ·have hr:=N (q.bad g (.inr m));simp[e,f,u,i,g,F,c.low,j,m,hr,c.hp]
   by_cases a8:k=0
   ·have bB:(k=0)=True:=by simp[a8]
    have cL:(0<k)=False:=dD;by_cases n:bk=0
    ·have U:=q.next g dE dE (.inl ⟨a8,n⟩);subst n;simp[e,f,u,i,g,F,c.low,j,m,bB,cL,J];exact⟨c.cons _,U⟩
    ·have hr:=N (q.no g (.inl ⟨a8,n⟩));simp[e,f,u,i,g,F,c.low,j,m,bB,n,hr,c.hp]
   ·obtain⟨x,M⟩:∃x,k=x+1:=⟨k-1,dB⟩;have v:w.iH[x]? =some w.iH[x]:=aB dB;generalize w.iH[x]=p at*
    have bH:=q.rng M v;have P:=kN (a:=(k:Int)) (b:=1) dB dB;rw[show(k:Int)-1=(x:Int)by omega]at P;obtain⟨bT,bS,dd⟩:=p;have bs:=iy (a:=bS) (b:=1) (by simp only at bH;omega) (by simp only at bH;omega);have V:(k=0)=False:=dD;have bp:(0<k)=True:=dD;by_cases n:bT=aA
    ·by_cases A:bk=bS+1
     ·have U:=q.next g dE dE (.inr ⟨x,_,M,v,.inl ⟨n,A⟩⟩);subst n A;simp[e,f,u,i,g,F,c.low,j,m,V,P,v,bs,J];exact⟨c.cons _,U⟩
     ·have hr:=N (q.no g (.inr ⟨x,_,M,v,.inl ⟨n,A⟩⟩));subst n;simp[e,f,u,i,g,F,c.low,j,m,V,P,v,bs,A,hr,c.hp]
    ·by_cases A:bk=0
     ·by_cases aN:aA<bT
      ·have hr:=N (q.no g (.inr ⟨x,_,M,v,.inr (.inl aN)⟩));subst A;simp[e,f,u,i,g,F,c.low,j,m,V,bp,P,v,n,aN,hr,c.hp]
      ·have U:=q.next g dE dE (.inr ⟨x,_,M,v,.inr ⟨dE,A⟩⟩);subst A;simp[e,f,u,i,g,F,c.low,j,m,V,bp,P,v,n,aN,J];exact⟨c.cons _,U⟩
     ·have hr:=N (q.no g (.inr ⟨x,_,M,v,.inr (.inr ⟨n,A⟩)⟩));simp[e,f,u,i,g,F,c.low,j,m,V,P,v,n,A,hr,c.hp]
  ·rintro l h ⟨c,e,f,u,q⟩;have hr:j4 w=true:=by rw[o,q.fin]
   simp[e,f,u,hr,c.hp]
  ·simp[f,e];exact⟨c,o6.zero w⟩
def yY{a:fN}(ht:a.p 67=some vJ)(w:ee):rl Tryz.prog cx a 67 [w.t]=some (.bool (j4 w)):=iv ht Md w trivial
end
end Go.Proofs.YtmaeadedikngoaaGreatDoor
