/- W06d -/
import Derived.Test.YtalknpnbaceflaaGreatDoorA11
set_option linter.all false
set_option maxRecDepth 100000
set_option maxHeartbeats 0
namespace Go.Proofs.YtalknpnbaceflaaGreatDoor
noncomputable section
open Go Go.TI Tryz
section
attribute [-simp] List.map_take List.map_drop List.map_append
def E8:iK:=⟨List iE×Int,λa=>[sl (a.1.map iE.t),C a.2],λa=>a.1.length<=140737488355328,λa=> .ez (FY a.1 (a.1.length+1) a.2),λa c b=>by
 simp at b;rw[jV (λ_ _=>iE.inj) b.1,b.2]⟩
def WK:E8.Ok prog cx 166:=by
 refine iF [(210,zl)] (jF 4362601011 [] func166) (λa=>a.1.length+2) (by simp[E8]) ?_;rintro⟨d,x⟩ hl l v;simp[E8]at hl v|-;obtain⟨f,g⟩:=v;simp[f166];refine ik (d.length+1) B (λj l q=>q=hE/\Y l 0 (sl (d.map iE.t))/\Y l 5 (C j)/\∃e:Int,Y l 1 (C e)/\FY d (d.length+1-j) e=FY d (d.length+1) x) ?_ ?_ B ?_
 ·rintro j l q D w ⟨rfl,f,h,e,g,c⟩;have i:(j:Int)<=d.length:=B;rw[show d.length+1-j=(d.length-j)+1 by omega,FY]at c;by_cases n:e<0
  ·have:qB d e=none:=by unfold qB;rw[Z B]
   rw[this]at c;simp[f,g,h,i,n,<-c]
  ·by_cases p:(d.length:Int)<=e
   ·have:qB d e=none:=by unfold qB;rw[au B];simp;omega
    rw[this]at c;simp[f,g,h,i,n,p,<-c]
   ·have A:ju e d.length=true:=by rw[fQ];omega
    have⟨o,r,z⟩:=jn A;rw[z]at c;simp only at c;have s:=fU (show 0<=e by omega);have y:=jp (a:=e) (b:=1) B B;cases m:zd o.op with
    |false=>
     rw[m,Z G]at c;simp[f,g,h,i,n,p,s,r,m,zO,<-c]
    |true=>
     rw[m,au rfl]at c;cases k:decide (o.op=5)with
     |true=>
      rw[aM]at k;rw[ND,au k]at c;have u:decide (o.op=5)=true:=by simpa using k
      simp[f,g,h,i,n,p,s,r,m,zO,u,w];exact c
     |false=>
      have u:decide (o.op=5)=false:=k;rw[cv]at k;rw[ND,Z k]at c;simp[f,g,h,i,n,p,s,r,m,zO,u,w,y];exact c
 ·rintro l q ⟨rfl,f,h,e,g,c⟩;rw[Nat.sub_self,FY]at c;have i:¬((d.length:Int)+1<=d.length):=B;simp[f,h,i,<-c]
 ·simp[f,g]
def abF{c:io}(ht:c.p 166=some E8)(a:List iE)(b:Int)(hl:a.length<=140737488355328):rl prog cx c 166 [sl (a.map iE.t),C b]=some (.ez (FY a (a.length+1) b)):=iN ht WK (a,b) hl
@[simp]def ahK:sl []=T.iX:=id rfl
def yX{a:iY}{b:List iY}(c:a.size=0):jR (a::b)=if a.index=0 then(jR b).map (a.name:: ·)else none:=by rw[jR,au c]
def Ax{a:iY}{b:List iY}(c:¬a.size=0)(d:a.size<1\/4<a.size\/(b.length+1:Int)<a.size):jR (a::b)=none:=by rw[jR,Z c,dif_pos d]
def Aw{a:iY}{b:List iY}(c:¬a.size=0)(d:¬(a.size<1\/4<a.size\/(b.length+1:Int)<a.size)):jR (a::b)=if OI a (a::b)=true then(jR ((a::b).drop a.size.toNat)).map (a.name:: ·)else none:=by rw[jR,Z c,dif_neg d]
def Hz:∀(e:Nat) (c:List iY),c.length<=e->∀g,jR c=some g->g.length<=c.length:=by
 intro e;induction e with
 |zero=>
  intro c hl g a;have:c=[]:=aZ B;subst this;rw[jR]at a;simp at a;subst a;simp
 |succ e k=>
  intro c hl g a;cases c with
  |nil=>rw[jR]at a;simp at a;subst a;simp
  |cons d f=>
   simp at hl;by_cases h:d.size=0
   ·rw[yX h]at a;split at a
    ·cases b:jR f with
     |none=>rw[b]at a;simp at a
     |some i=>rw[b]at a;simp at a;subst a;have:=k f hl i b;simp;omega
    ·simp at a
   ·by_cases j:d.size<1\/4<d.size\/(f.length+1:Int)<d.size
    ·rw[Ax h j]at a;simp at a
    ·rw[Aw h j]at a;split at a
     ·cases b:jR ((d::f).drop d.size.toNat)with
      |none=>rw[b]at a;simp at a
      |some i=>
       rw[b]at a;simp at a;subst a;have:=k _ dR i b;simp at this|-;omega
     ·simp at a
def Ai{d f:Type}(c:d->f)(b:List d){a:Nat}(e:a<b.length):(b.take (a+1)).map c=(b.take a).map c++[c b[a]]:=by
 rw[aP e,List.map_append];rfl
def uL(a:fy):T:=match jR a.cells with|some b=> .tuple [sl ((um a b).map T.str),.ez true]|none=> .tuple [.iX,.ez false]
def wE:iK:=⟨fy,λa=>[a.t],λa=>a.cells.length<=1000000/\a.fI.length<=1000000/\a.iL.length<=1000000/\a.fH.length<=1000000/\a.ee.length<=1000000,uL,λa c b=>by simp at b;rw[fy.inj b]⟩
def Q2:wE.Ok prog cx 124:=by
 refine iF [] (jF 332312079452150195464880550324504575 [] func124) (λa=>1000002) (by simp[wE]) ?_;rintro(e:fy) hl l bW;simp[wE]at hl bW|-;obtain⟨hl,l2,l3,l4,l5⟩:=hl;simp[f124,bW];have eA:=hl;have⟨h,Q⟩:∃h,h=e.cells:=⟨_,rfl⟩;rw[<-Q]at hl;refine vh h.length (λd l i=>iQ 1 i/\i.get 0=some (X 6 0 [e.t])/\Y l 1 (.fc 0 0 0 0)/\Y l 5 (C d)/\∃y v,Y l 4 y/\u7 i 0 y 1 (v.map T.str)/\v.length<=d/\(jR (h.drop d)).map (v++ ·)=jR h) ?_ (k:=0) B B ?_;rotate_left
 ·simp
  first|exact⟨[],u7.nil _ _ _,G,G⟩|exact⟨⟨G,G,G⟩,[],u7.nil _ _ _,G,G⟩
 rintro d l i ey ⟨r,g,j,q,y,v,n,z,eB,o⟩;have dk:=r.ne (b:=0) B;by_cases S:d<h.length
 ·have di:(d:Int)<h.length:=B;have av:(d:Int)<e.cells.length:=by rw[<-Q];exact di
  have bX:(e.cells.length:Int)=h.length:=by rw[Q]
  have de:h[d]? =some h[d]:=aB S;have an:e.cells[d]? =some h[d]:=by rw[<-Q];exact de
  have bp:=aJ S;rw[bp]at o;generalize eu:h[d]=c at*
  obtain⟨p,D,m,F,w⟩:=c;have ds:=z.cons (X 5 1 [iY.t ⟨p,D,m,F,w⟩]);have c9:(H.cons i (X 5 1 [iY.t ⟨p,D,m,F,w⟩])).get i.size=some (X 5 1 [iY.t ⟨p,D,m,F,w⟩]):=G;have c7:(H.cons i (X 5 1 [iY.t ⟨p,D,m,F,w⟩])).get 0=some (X 6 0 [e.t]):=by rw[fk,Z (by rw[dk];simp)];exact g
  have⟨bn,cF,A,aA,E⟩:=ds.Og (cx:=cx) tR rfl yV rfl G G p dR;rw[show(H.cons i (X 5 1 [iY.t ⟨p,D,m,F,w⟩])).size=i.size+1 from rfl]at A;have I:=E.get _ _ c9 G;have J:=E.get _ _ c7 G;have aE:=E.ok 1 (r.cons _);have dn:i.size<cF.size:=by have:=E.size;simp[H.cons]at this;omega
  have c1:=jp (a:=d) (b:=1) B B;have bs:jR h=none->uL e= .tuple [.iX,.ez false]:=by intro i;unfold uL;rw[<-Q,i]
  by_cases aN:m=0
  ·subst aN;rw[yX rfl]at o;simp only at o;by_cases bH:D=0
   ·subst bH;rw[au rfl]at o;simp[g,j,q,n,av,an,r.low,A,I,J,c1];refine⟨d+1,B,B,aE,G,v++[p],aA,dR,?_⟩;rw[<-o];cases jR (List.drop (d+1) h)<;>simp
   ·rw[Z bH]at o;have hr:=bs (by rw[<-o];rfl);simp[g,j,q,n,av,an,r.low,A,I,bH,hr,aE.hp]
  ·have eC:(h.drop (d+1)).length+1=h.length-d:=by rw[List.length_drop];omega
   have b7:=mh (a:=e.cells.length) (b:=d) B B;by_cases ca:m<1\/4<m\/((h.drop (d+1)).length+1:Int)<m
   ·rw[Ax aN ca]at o;have hr:=bs (by rw[<-o];rfl);by_cases p1:m<1
    ·simp[g,j,q,n,av,an,r.low,A,I,aN,p1,hr,aE.hp]
    ·by_cases p2:4<m
     ·simp[g,j,q,n,av,an,r.low,A,I,aN,p1,p2,hr,aE.hp]
     ·have p3:(e.cells.length:Int)-d<m:=B;simp[g,j,q,n,av,an,r.low,A,I,J,aN,p1,p2,p3,hr,aE.hp,b7]
   ·rw[Aw aN ca]at o;have p1:¬m<1:=B;have p2:¬4<m:=B;have p3:¬(e.cells.length:Int)-d<m:=B;have b6:OI ⟨p,D,m,F,w⟩ (⟨p,D,m,F,w⟩::List.drop (d+1) h)=allI (λk x=>decide (x=⟨p,k,m,false,w⟩)) 0 ((h.drop d).take m.toNat):=by rw[bp];rfl
    generalize OI ⟨p,D,m,F,w⟩ (⟨p,D,m,F,w⟩::List.drop (d+1) h)=R at*
    obtain⟨s,rfl⟩:∃s:Nat,m=s:=⟨m.toNat,B⟩;rw[cG]at b6 o;simp only at o;have eh:¬s=0:=B;simp[g,j,q,n,av,an,r.low,A,I,J,eh,p1,p2,p3,b7];refine ik s B (λk l L=>iQ 1 L/\i.size<L.size/\L.get 0=some (X 6 0 [e.t])/\Y l 1 (.fc 0 0 0 0)/\Y l 5 (C d)/\Y l 4 bn/\u7 L 0 bn 1 ((v++[p]).map T.str)/\Y l 6 (.fc i.size 0 0 0)/\Y l 7 (C k)/\
     (∃bS,L.get i.size=some (X 5 bS [iY.t ⟨p,D,s,F,w⟩]))/\allI (λk x=>decide (x=⟨p,k,s,false,w⟩)) k (((h.drop d).take s).drop k)=R) ?_ ?_ B ?_
    ·rintro k l L bi a6 ⟨u,ea,g,j,q,n,bu,N,O,⟨bS,K⟩,W⟩;have al:(k:Int)<s:=B;have dd:d+k<h.length:=B;have dm:=u.ne (b:=0) B;have a8:(i.size=L.size)=False:=dR;have P:=jp (a:=d) (b:=k) B B;have ae:lJ ((d:Int)+k)=some (d+k):=by rw[fU B];congr 1
     have ap:e.cells[d+k]? =some h[d+k]:=by rw[<-Q];exact aB dd
     have c4:((h.drop d).take s).drop k=h[d+k]::((h.drop d).take s).drop (k+1):=by
      rw[aJ (by rw[List.length_take,List.length_drop];omega)];congr 1;rw[List.getElem_take,List.getElem_drop]
     rw[c4,allI]at W;generalize h[d+k]=x at*
     obtain⟨bC,bB,bN,bT,bA⟩:=x;have a7:¬(⟨bC,bB,bN,bT,bA⟩:iY)=⟨p,k,s,false,w⟩->uL e= .tuple [.iX,.ez false]:=by
      intro c6;rw[aS c6,dz]at W;rw[<-W,Z G]at o;exact bs (by rw[<-o];rfl)
     have dv:=u.cons (X 5 1 [iY.t ⟨bC,bB,bN,bT,bA⟩]);by_cases U:bB=k
     ·by_cases ab:bC=p
      ·by_cases aX:bN=s
       ·by_cases bg:bA=w
        ·cases bT with
         |false=>
          subst U ab aX bg;rw[bM rfl,bm]at W;simp[g,j,q,n,N,O,dm,a8,al,K,P,ae,ap,u.low,a6];exact⟨dv,B,bu.cons _,W⟩
         |true=>
          have hr:=a7 G;simp[g,j,q,N,O,a8,al,K,P,ae,ap,u.low,U,ab,aX,bg,hr,u.hp]
        ·have hr:=a7 (by simp[bg]);simp[g,j,q,N,O,a8,al,K,P,ae,ap,u.low,U,ab,aX,bg,hr,u.hp]
       ·have hr:=a7 (by simp[aX]);simp[g,j,q,N,O,a8,al,K,P,ae,ap,u.low,U,ab,aX,hr,u.hp]
      ·have hr:=a7 (by simp[ab]);simp[g,j,q,N,O,a8,al,K,P,ae,ap,u.low,U,ab,hr,u.hp]
     ·have hr:=a7 (by simp[U]);simp[g,j,q,N,O,al,K,P,ae,ap,u.low,U,hr,u.hp]
    ·rintro l L ⟨u,ea,g,j,q,n,bu,N,O,⟨bS,K⟩,W⟩;have cX:R=true:=by rw[<-W,List.drop_eq_nil_of_le (by rw[List.length_take];omega)];rfl
     have P:=jp (a:=d) (b:=s) B B;rw[cX,au rfl]at o;simp[g,j,q,n,N,O,K,P];refine⟨d+s,B,B,u,G,v++[p],bu,dR,?_⟩;rw[<-o,List.drop_drop.symm,bp];cases jR (List.drop s (_::List.drop (d+1) h))<;>simp
    ·simp[j,q];exact⟨aE,dn,J,aA,⟨_,I⟩,b6.symm⟩
 ·have:d=h.length:=B;subst this;have bX:(e.cells.length:Int)=h.length:=by rw[Q]
  rw[bR,jR]at o;have eb:jR e.cells=some v:=by rw[<-Q,<-o];simp
  have hr:uL e= .tuple [sl ((um e v).map T.str),.ez true]:=by unfold uL;rw[eb]
  have et:v.length<=1000000:=B;simp[g,j,q,bX];refine ik e.fI.length B (λk l i=>iQ 1 i/\i.get 0=some (X 6 0 [e.t])/\Y l 1 (.fc 0 0 0 0)/\Y l 9 (C k)/\
   ∃y,Y l 4 y/\u7 i 0 y 1 ((v++(e.fI.take k).map (·.name)).map T.str)) ?_ ?_ B ?_
  ·rintro k l i S a6 ⟨r,g,j,V,y,n,z⟩;have bi:(k:Int)<e.fI.length:=B;have⟨bn,I,A,aA,E⟩:=z.Og (cx:=cx) tR rfl yV rfl G G (e.fI[k]).name dR;have J:=E.get 0 _ g G;simp[g,j,V,n,bi,S,A,a6];refine⟨E.ok 1 r,J,?_⟩;simpa[Ai _ _ S]using aA
  rotate_left
  ·simp[j,n];exact⟨r,g,by simpa using z⟩
  rintro l i ⟨r,g,j,V,y,n,z⟩;simp[g,j,V];rw[aL]at z;refine ik e.iL.length B (λk l i=>iQ 1 i/\i.get 0=some (X 6 0 [e.t])/\Y l 1 (.fc 0 0 0 0)/\Y l 10 (C k)/\
   ∃y,Y l 4 y/\u7 i 0 y 1 ((v++e.fI.map (·.name)++(e.iL.take k).map (·.name)).map T.str)) ?_ ?_ B ?_
  ·rintro k l i S a6 ⟨r,g,j,V,y,n,z⟩;have bi:(k:Int)<e.iL.length:=B;have⟨bn,I,A,aA,E⟩:=z.Og (cx:=cx) tR rfl yV rfl G G (e.iL[k]).name dR;have J:=E.get 0 _ g G;simp[g,j,V,n,bi,S,A,a6];refine⟨E.ok 1 r,J,?_⟩;simpa[Ai _ _ S]using aA
  rotate_left
  ·simp[j,g,n];exact⟨r,by simpa using z⟩
  rintro l i ⟨r,g,j,V,y,n,z⟩;rw[aL]at z;have⟨eD,eo,cd,ed,b8⟩:=z.ZB (cx:=cx) tR rfl yV rfl G G e.fH dR;have cb:=b8.get 0 _ g G;have⟨eE,er,cp,b9,ec⟩:=ed.ZB (cx:=cx) tR rfl yV rfl G G e.ee dR;have ef:=ec.ok 1 (b8.ok 1 r);have cL:um e v=v++e.fI.map (·.name)++e.iL.map (·.name)++e.fH++e.ee:=rfl;rw[<-cL]at b9;simp[g,j,V,n,cd,cb,cp,hr,b9.fzM (f:=T.str) G,ef.hp]
def U6{b:io}(ht:b.p 124=some wE)(a:fy)(hl:a.cells.length<=1000000/\a.fI.length<=1000000/\a.iL.length<=1000000/\a.fH.length<=1000000/\a.ee.length<=1000000):rl prog cx b 124 [a.t]=some (uL a):=iN ht Q2 a hl
section
def AE:iK:=⟨fy,λa=>[a.t],λa=>True,λa=> .ez (kM a),λa c b=>by simp at b;rw[fy.inj b]⟩
def Dt{w:fy}:vk w=true↔(w.cells.length<=12/\w.fI.length<=4/\w.iL.length<=2/\w.fH.length<=2/\w.jy.length<=60/\1<=w.ee.length/\w.ee.length<=4):=by
 unfold vk;simp;omega
def rx{w:fy}(a:¬(w.cells.length<=12/\w.fI.length<=4/\w.iL.length<=2/\w.fH.length<=2/\w.jy.length<=60/\1<=w.ee.length/\w.ee.length<=4)):kM w=false:=by
 unfold kM;have:vk w=false:=by rw[dH];exact λk=>a (Dt.1 k)
 rw[this];rfl
def rm(w:fy)(k:Nat):Prop:=∃b a:Int,0<=b/\0<=a/\a<=k/\(k=0->b=0/\a=0)/\(∀d c,k=d+1->w.jy[d]? =some c->b=c.eJ/\a=c.stmt+1)/\nl w.ee.length b a (w.jy.drop k)=nl w.ee.length 0 0 w.jy
def rm.zero(w:fy):rm w 0:=⟨0,0,G,G,G,G,G,G⟩
def rm.fin{w:fy}(a:rm w w.jy.length):nl w.ee.length 0 0 w.jy=true:=by
 obtain⟨c,d,_,_,_,_,_,b⟩:=a;rw[<-b,bR];rfl
section
variable {w:fy}{k:Nat}{s:js}
theorem rm.cons(h:rm w k)(c:w.jy[k]? =some s):∃a b:Int,0<=a/\0<=b/\b<=k/\(k=0->a=0/\b=0)/\(∀f d,k=f+1->w.jy[f]? =some d->a=d.eJ/\b=d.stmt+1)/\(if s.eJ<a\/(w.ee.length:Int)<=s.eJ then false else
 if a<s.eJ then(if s.stmt=0 then nl w.ee.length s.eJ 1 (w.jy.drop (k+1))else false)else(if s.stmt=b then nl w.ee.length a (b+1) (w.jy.drop (k+1))else false))=nl w.ee.length 0 0 w.jy:=by
 obtain⟨a,b,g,i,j,l,m,n⟩:=h;have e:k<w.jy.length:=by
  rcases aT k w.jy.length with h|h
  ·exact h
  ·rw[bV h]at c;simp at c
 have:w.jy[k]=s:=by rw[aB e]at c;simpa using c
 refine⟨a,b,g,i,j,l,m,?_⟩;rw[<-n,aJ e,this,nl]
def rm.bad(a:rm w k)(c:w.jy[k]? =some s)(i:s.eJ<0\/(w.ee.length:Int)<=s.eJ):nl w.ee.length 0 0 w.jy=false:=by
 have⟨j,l,d,e,f,g,h,b⟩:=a.cons c;rw[<-b,au B]
def rm.next(n:rm w k)(j:w.jy[k]? =some s)(o:0<=s.eJ)(x:s.eJ<w.ee.length)(p:(k=0/\s.stmt=0)\/∃b a,k=b+1/\w.jy[b]? =some a/\((a.eJ=s.eJ/\s.stmt=a.stmt+1)\/(a.eJ<s.eJ/\s.stmt=0))):rm w (k+1):=by
 obtain⟨y,z,t0,A,D,u,r,c⟩:=n.cons j;have t:∀b a,k+1=b+1->w.jy[b]? =some a->a=s:=by
  intro b a g h;have:b=k:=B;subst this;rw[j]at h;simpa using h.symm
 have fin:∀d:Int,d=s.stmt+1->0<=d->d<=k+1->nl w.ee.length s.eJ d (w.jy.drop (k+1))=nl w.ee.length 0 0 w.jy->rm w (k+1):=by
  intro d e f v m;exact⟨s.eJ,d,o,f,B,G,λb a g h=>by rw[t b a g h];exact⟨rfl,e⟩,m⟩
 rcases p with⟨rfl,l⟩|⟨b,a,rfl,g,q⟩
 ·obtain⟨rfl,rfl⟩:=u rfl;rw[Z B]at c;refine fin 1 B B B ?_;rw[<-c];by_cases i:0<s.eJ
  ·rw[au i,au l]
  ·rw[Z i,au l];have:s.eJ=0:=B;rw[this];rfl
 ·obtain⟨rfl,rfl⟩:=r b a rfl g;rcases q with⟨e,f⟩|⟨e,f⟩
  ·rw[Z B,Z B,au f]at c;refine fin (a.stmt+1+1) B B B ?_;rw[<-c,e]
  ·rw[Z B,au e,au f]at c;exact fin 1 B B B c
def rm.no(e:rm w k)(m:w.jy[k]? =some s)(f:(k=0/\s.stmt≠0)\/∃b a,k=b+1/\w.jy[b]? =some a/\((a.eJ=s.eJ/\s.stmt≠a.stmt+1)\/s.eJ<a.eJ\/(a.eJ≠s.eJ/\s.stmt≠0))):nl w.ee.length 0 0 w.jy=false:=by
 have⟨o,p,t0,q,r,n,l,i⟩:=e.cons m;rw[<-i];rcases f with⟨rfl,d⟩|⟨b,a,rfl,g,j⟩
 ·obtain⟨rfl,rfl⟩:=n rfl;rw[Z d,Z d];simp
 ·obtain⟨rfl,rfl⟩:=l b a rfl g;rcases j with⟨e1,c⟩|e1|⟨e1,c⟩
  ·rw[Z c,Z (show¬a.eJ<s.eJ by omega)];simp
  ·rw[au (.inl e1)]
  ·by_cases h:s.eJ<a.eJ
   ·rw[au (.inl h)]
   ·rw[Z c,au (show a.eJ<s.eJ by omega)];simp
def rm.rng(c:rm w k){b:Nat}{a:js}(e:k=b+1)(d:w.jy[b]? =some a):0<=a.stmt+1/\a.stmt+1<=k:=by
 obtain⟨l,m,t0,g,h,j,f,i⟩:=c;obtain⟨_,rfl⟩:=f b a e d;exact⟨g,h⟩
end
def QP:AE.Ok prog cx 83:=by
 refine iF [(124,wE),(125,Bz),(126,Fg)] (jF 95827739445721067874190659254502973333984266632037375 [] func83) (λa=>100) (by simp[AE]) ?_;rintro(w:fy) _ l r;simp[AE]at r|-;by_cases ca:w.cells.length<=12;rotate_left
 ·simp[f83,r,show(12:Int)<w.cells.length by omega,rx (w:=w) B]
 have I:¬(12:Int)<w.cells.length:=B;by_cases cb:w.fI.length<=4;rotate_left
 ·simp[f83,r,I,show(4:Int)<w.fI.length by omega,rx (w:=w) B]
 have N:¬(4:Int)<w.fI.length:=B;by_cases cd:w.iL.length<=2;rotate_left
 ·simp[f83,r,I,N,show(2:Int)<w.iL.length by omega,rx (w:=w) B]
 have P:¬(2:Int)<w.iL.length:=B;by_cases cp:w.fH.length<=2;rotate_left
 ·simp[f83,r,I,N,P,show(2:Int)<w.fH.length by omega,rx (w:=w) B]
 have W:¬(2:Int)<w.fH.length:=B;by_cases cL:1<=w.ee.length;rotate_left
 ·simp[f83,r,I,N,P,W,show(w.ee.length:Int)<1 by omega,rx (w:=w) B]
 have av:¬(w.ee.length:Int)<1:=B;by_cases cX:w.ee.length<=4;rotate_left
 ·simp[f83,r,I,N,P,W,av,show(4:Int)<w.ee.length by omega,rx (w:=w) B]
 have a8:¬(4:Int)<w.ee.length:=B;by_cases cF:w.jy.length<=60;rotate_left
 ·simp[f83,r,I,N,P,W,av,a8,show(60:Int)<w.jy.length by omega,rx (w:=w) B]
 have bC:¬(60:Int)<w.jy.length:=B;have o:kM w=(EI w&&(w.iL.all λF=>tg w F.kU false)&&nl w.ee.length 0 0 w.jy):=by
  unfold kM;rw[Dt.2 ⟨ca,cb,cd,cp,cF,cL,cX⟩,bm]
 have bT:=λ{bB:io} (ht:bB.p 124=some wE)=>U6 ht w ⟨B,B,B,B,B⟩;cases ap:jR w.cells with
 |none=>
  have hr:kM w=false:=by rw[o];unfold EI;rw[ap];rfl
  have bi:uL w= .tuple [.iX,.ez false]:=by unfold uL;rw[ap]
  simp[f83,r,I,N,P,W,bC,av,a8,bT,bi,hr]
 |some v=>
  have bi:uL w= .tuple [sl ((um w v).map T.str),.ez true]:=by unfold uL;rw[ap]
  have dm:=Hz _ _ (ax _) v ap;have de:EI w=yH (um w v):=by unfold EI;rw[ap]
  have dk:(um w v).length<=24:=by unfold um;simp;omega
  rw[de]at o;generalize um w v=d at*
  simp[f83,r,I,N,P,W,bC,av,a8,bT,bi];refine ik d.length B (λk l h=>iQ 1 h/\h.get 0=some (X 6 0 [w.t])/\Y l 1 (.fc 0 0 0 0)/\Y l 3 (sl (d.map T.str))/\Y l 5 (C k)/\(d.take k).all wK=true/\(d.take k).Nodup) ?_ ?_ B ?_
  ·rintro k l h H O ⟨c,e,f,Z,ab,aA,aX⟩;have i:(k:Int)<d.length:=B;have c7:d[k]∈d:=aG H;have c9:d=d.take k++d[k]::d.drop (k+1):=by rw[<-aJ H,df]
   have dd:d.take (k+1)=d.take k++[d[k]]:=aP H;have bu:d[k]? =some d[k]:=aB H;generalize d[k]=A at*
   have bS:=λ{bB:io} (ht:bB.p 126=some Fg)=>RW ht (d.take k) A (by rw[List.length_take];omega);have bX:k<=d.length:=B;cases U:wK A with
   |false=>
    have hr:kM w=false:=by
     rw[o];have:yH d=false:=by
      unfold yH;have:d.all wK=false:=by rw[List.all_eq_false];exact⟨A,c7,by simp[U]⟩
      rw[this];rfl
     rw[this];rfl
    simp[Z,ab,i,bu,sJ,U,hr,c.hp]
   |true=>
    by_cases aE:A∈d.take k
    ·have hr:kM w=false:=by
      rw[o];have:yH d=false:=by
       unfold yH;have:¬d.Nodup:=by
        rw[c9];intro h;exact(List.nodup_append.1 h).2.2 A aE A G rfl
       rw[aS this];simp
      rw[this];rfl
     have bn:(0<=uZ (d.take k) A 0)=True:=by rw[JW];simp[aE]
     simp[Z,ab,i,bu,sJ,U,bS,bX,bn,hr,c.hp]
    ·have bn:(0<=uZ (d.take k) A 0)=False:=by rw[JW];simp[aE]
     simp[e,f,Z,ab,i,bu,sJ,U,bS,bX,bn,O];rw[dd];refine⟨c,?_,?_⟩
     ·intro y K;rcases List.mem_append.1 K with K|K
      ·exact List.all_eq_true.1 aA y K
      ·simp at K;subst K;exact U
     ·rw[List.nodup_append];exact⟨aX,G,λa r b o=>by simp at o;subst o;exact λh=>aE (h▸r)⟩
  rotate_left
  ·simp
   first|done|exact⟨G,G,G⟩
  rintro l h ⟨c,e,f,Z,ab,aA,aX⟩;rw[aL]at aA aX;have c4:yH d=true:=by unfold yH;rw[aA,bM aX];rfl
  rw[c4,bm]at o;simp[Z,ab];refine ik w.iL.length B (λk l h=>iQ 1 h/\h.get 0=some (X 6 0 [w.t])/\Y l 1 (.fc 0 0 0 0)/\Y l 6 (C k)/\
   (w.iL.drop k).all (λF=>tg w F.kU false)=w.iL.all λF=>tg w F.kU false) ?_ ?_ B ?_
  ·rintro k l h H O ⟨c,e,f,Q,E⟩;have i:(k:Int)<w.iL.length:=B;have g:w.iL[k]? =some w.iL[k]:=aB H;rw[aJ H,cA]at E;generalize w.iL[k]=F at*
   obtain⟨cn,L⟩:=F;simp only at E;by_cases bp:ju L w.fI.length=true
   ·obtain⟨A,b7,K⟩:=jn bp;have an:=fQ.1 bp;have j:¬L<0:=B;have m:¬(w.fI.length:Int)<=L:=B;have aN:tg w L false= !A.rW:=by unfold tg;rw[K];simp
    cases a6:A.rW with
    |false=>
     rw[aN,a6]at E;simp[e,f,Q,i,g,j,m,fU an.1,b7,a6,O];exact⟨c,by simpa using E⟩
    |true=>
     rw[aN,a6]at E;have hr:kM w=false:=by rw[o,<-E];rfl
     simp[e,f,Q,i,g,j,m,fU an.1,b7,a6,hr,c.hp]
   ·have an:ju L w.fI.length=false:=by simpa using bp
    have U:=rS an;have aN:tg w L false=false:=by unfold tg;rw[pF an]
    rw[aN]at E;have hr:kM w=false:=by rw[o,<-E];rfl
    by_cases j:L<0
    ·simp[e,f,Q,i,g,j,hr,c.hp]
    ·have m:(w.fI.length:Int)<=L:=B;simp[e,f,Q,i,g,j,m,hr,c.hp]
  rotate_left
  ·simp[f,e];exact c
  rintro l h ⟨c,e,f,Q,E⟩;have c1:(w.iL.all λF=>tg w F.kU false)=true:=by rw[<-E];simp
  rw[c1,bm]at o;simp[e,f,Q];have S:nl w.ee.length 0 0 w.jy=false->kM w=false:=λh=>by rw[o,h]
  refine ik w.jy.length B (λk l h=>iQ 1 h/\h.get 0=some (X 6 0 [w.t])/\Y l 1 (.fc 0 0 0 0)/\Y l 8 (C k)/\rm w k) ?_ ?_ B ?_
  ·rintro k l h H O ⟨c,e,f,u,q⟩;have i:(k:Int)<w.jy.length:=B;have g:w.jy[k]? =some w.jy[k]:=aB H;have J:=c.ne (b:=0) B;generalize w.jy[k]=s at*
   obtain⟨a7,bA,ds⟩:=s;by_cases j:a7<0
   ·have hr:=S (q.bad g (.inl j));simp[e,f,u,i,g,c.low,j,hr,c.hp]
   by_cases m:(w.ee.length:Int)<=a7
   ·have hr:=S (q.bad g (.inr m));simp[e,f,u,i,g,J,c.low,j,m,hr,c.hp]
   by_cases bs:k=0
   ·have bW:(k=0)=True:=by simp[bs]
    have c6:(0<k)=False:=dR;by_cases n:bA=0
    ·have ae:=q.next g dS dS (.inl ⟨bs,n⟩);subst n;simp[e,f,u,i,g,J,c.low,j,m,bW,c6,O];exact⟨c.cons _,ae⟩
    ·have hr:=S (q.no g (.inl ⟨bs,n⟩));simp[e,f,u,i,g,J,c.low,j,m,bW,n,hr,c.hp]
   ·obtain⟨z,R⟩:∃z,k=z+1:=⟨k-1,B⟩;have x:w.jy[z]? =some w.jy[z]:=aB B;generalize w.jy[z]=di at*
    have b6:=q.rng R x;have V:=mh (a:=(k:Int)) (b:=1) B B;rw[show(k:Int)-1=(z:Int)by omega]at V;obtain⟨b9,b8,dn⟩:=di;have bN:=jp (a:=b8) (b:=1) (by simp only at b6;omega) (by simp only at b6;omega);have al:(k=0)=False:=dR;have bH:(0<k)=True:=dR;by_cases n:b9=a7
    ·by_cases D:bA=b8+1
     ·have ae:=q.next g dS dS (.inr ⟨z,_,R,x,.inl ⟨n,D⟩⟩);subst n D;simp[e,f,u,i,g,J,c.low,j,m,al,V,x,bN,O];exact⟨c.cons _,ae⟩
     ·have hr:=S (q.no g (.inr ⟨z,_,R,x,.inl ⟨n,D⟩⟩));subst n;simp[e,f,u,i,g,J,c.low,j,m,al,V,x,bN,D,hr,c.hp]
    ·by_cases D:bA=0
     ·by_cases bg:a7<b9
      ·have hr:=S (q.no g (.inr ⟨z,_,R,x,.inr (.inl bg)⟩));subst D;simp[e,f,u,i,g,J,c.low,j,m,al,bH,V,x,n,bg,hr,c.hp]
      ·have ae:=q.next g dS dS (.inr ⟨z,_,R,x,.inr ⟨dS,D⟩⟩);subst D;simp[e,f,u,i,g,J,c.low,j,m,al,bH,V,x,n,bg,O];exact⟨c.cons _,ae⟩
     ·have hr:=S (q.no g (.inr ⟨z,_,R,x,.inr (.inr ⟨n,D⟩)⟩));simp[e,f,u,i,g,J,c.low,j,m,al,V,x,n,D,hr,c.hp]
  ·rintro l h ⟨c,e,f,u,q⟩;have hr:kM w=true:=by rw[o,q.fin]
   simp[e,f,u,hr,c.hp]
  ·simp[f,e];exact⟨c,rm.zero w⟩
def Ck{a:io}(ht:a.p 83=some AE)(w:fy):rl prog cx a 83 [w.t]=some (.ez (kM w)):=iN ht QP w trivial
