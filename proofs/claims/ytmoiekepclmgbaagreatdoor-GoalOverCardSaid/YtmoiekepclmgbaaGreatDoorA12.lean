/- W06d -/
import Derived.Test.YtmoiekepclmgbaaGreatDoorA11
set_option linter.all false
set_option maxRecDepth 100000
set_option maxHeartbeats 0
namespace Go.Proofs.YtmoiekepclmgbaaGreatDoor
noncomputable section
open Go Go.TI Tryz
section
attribute [-simp] List.map_take List.map_drop List.map_append
def El:iy:=⟨List io×Int,λa=>[sl (a.1.map io.t),G a.2],λa=>a.1.length<=140737488355328,λa=> .bool (E3 a.1 (a.1.length+1) a.2),λa c b=>by
 simp at b;rw[jH (λ_ _=>io.inj) b.1,b.2]⟩
def VT:El.Ok prog cx 165:=by
 refine iq [(209,yE)] (jr 4362601011 [] func165) (λa=>a.1.length+2) (by simp[El]) ?_;rintro⟨d,x⟩ hl l v;simp[El]at hl v|-;obtain⟨f,g⟩:=v;simp[f165];refine gu (d.length+1) D (λj l q=>q=hE/\dT l 0 (sl (d.map io.t))/\dT l 5 (G j)/\∃e:Int,dT l 1 (G e)/\E3 d (d.length+1-j) e=E3 d (d.length+1) x) ?_ ?_ D ?_
 ·rintro j l q B w ⟨rfl,f,h,e,g,c⟩;have i:(j:Int)<=d.length:=D;rw[show d.length+1-j=(d.length-j)+1 by omega,E3]at c;by_cases n:e<0
  ·have:qJ d e=none:=by unfold qJ;rw[ao D]
   rw[this]at c;simp[f,g,h,i,n,<-c]
  ·by_cases p:(d.length:Int)<=e
   ·have:qJ d e=none:=by unfold qJ;rw[aq D];simp;omega
    rw[this]at c;simp[f,g,h,i,n,p,<-c]
   ·have A:ju e d.length=true:=by rw[fI];omega
    have⟨o,r,z⟩:=iU A;rw[z]at c;simp only at c;have s:=fy (show 0<=e by omega);have y:=iZ (a:=e) (b:=1) D D;cases m:yz o.op with
    |false=>
     rw[m,ao Y]at c;simp[f,g,h,i,n,p,s,r,m,yT,<-c]
    |true=>
     rw[m,aq rfl]at c;cases k:decide (o.op=5)with
     |true=>
      rw[aK]at k;rw[MF,aq k]at c;have u:decide (o.op=5)=true:=by simpa using k
      simp[f,g,h,i,n,p,s,r,m,yT,u,w];exact c
     |false=>
      have u:decide (o.op=5)=false:=k;rw[bZ]at k;rw[MF,ao k]at c;simp[f,g,h,i,n,p,s,r,m,yT,u,w,y];exact c
 ·rintro l q ⟨rfl,f,h,e,g,c⟩;rw[Nat.sub_self,E3]at c;have i:¬((d.length:Int)+1<=d.length):=D;simp[f,h,i,<-c]
 ·simp[f,g]
def aaV{c:gG}(ht:c.p 165=some El)(a:List io)(b:Int)(hl:a.length<=140737488355328):rl prog cx c 165 [sl (a.map io.t),G b]=some (.bool (E3 a (a.length+1) b)):=iA ht VT (a,b) hl
@[simp]def ag1:sl []=T.iO:=id rfl
def yt{a:iK}{b:List iK}(c:a.size=0):jD (a::b)=if a.index=0 then(jD b).map (a.name:: ·)else none:=by rw[jD,aq c]
def zx{a:iK}{b:List iK}(c:¬a.size=0)(d:a.size<1\/4<a.size\/(b.length+1:Int)<a.size):jD (a::b)=none:=by rw[jD,ao c,dif_pos d]
def zw{a:iK}{b:List iK}(c:¬a.size=0)(d:¬(a.size<1\/4<a.size\/(b.length+1:Int)<a.size)):jD (a::b)=if NA a (a::b)=true then(jD ((a::b).drop a.size.toNat)).map (a.name:: ·)else none:=by rw[jD,ao c,dif_neg d]
def Gx:∀(e:Nat) (c:List iK),c.length<=e->∀g,jD c=some g->g.length<=c.length:=by
 intro e;induction e with
 |zero=>
  intro c hl g a;have:c=[]:=aW D;subst this;rw[jD]at a;simp at a;subst a;simp
 |succ e k=>
  intro c hl g a;cases c with
  |nil=>rw[jD]at a;simp at a;subst a;simp
  |cons d f=>
   simp at hl;by_cases h:d.size=0
   ·rw[yt h]at a;split at a
    ·cases b:jD f with
     |none=>rw[b]at a;simp at a
     |some i=>rw[b]at a;simp at a;subst a;have:=k f hl i b;simp;omega
    ·simp at a
   ·by_cases j:d.size<1\/4<d.size\/(f.length+1:Int)<d.size
    ·rw[zx h j]at a;simp at a
    ·rw[zw h j]at a;split at a
     ·cases b:jD ((d::f).drop d.size.toNat)with
      |none=>rw[b]at a;simp at a
      |some i=>
       rw[b]at a;simp at a;subst a;have:=k _ dN i b;simp at this|-;omega
     ·simp at a
def zd{d f:Type}(c:d->f)(b:List d){a:Nat}(e:a<b.length):(b.take (a+1)).map c=(b.take a).map c++[c b[a]]:=by
 rw[aM e,List.map_append];rfl
def uk(a:fc):T:=match jD a.cells with|some b=> .tuple [sl ((tv a b).map T.str),.bool true]|none=> .tuple [.iO,.bool false]
def vX:iy:=⟨fc,λa=>[a.t],λa=>a.cells.length<=1000000/\a.fj.length<=1000000/\a.iB.length<=1000000/\a.fa.length<=1000000/\a.dW.length<=1000000,uk,λa c b=>by simp at b;rw[fc.inj b]⟩
def PU:vX.Ok prog cx 122:=by
 refine iq [] (jr 332312079452150195464880550324504575 [] func122) (λa=>1000002) (by simp[vX]) ?_;rintro(e:fc) hl l bS;simp[vX]at hl bS|-;obtain⟨hl,l2,l3,l4,l5⟩:=hl;simp[f122,bS];have eA:=hl;have⟨h,O⟩:∃h,h=e.cells:=⟨_,rfl⟩;rw[<-O]at hl;refine uH h.length (λd l i=>iE 1 i/\i.get 0=some (dS 6 0 [e.t])/\dT l 1 (.ptr 0 0 0 0)/\dT l 5 (G d)/\∃y v,dT l 4 y/\uE i 0 y 1 (v.map T.str)/\v.length<=d/\(jD (h.drop d)).map (v++ ·)=jD h) ?_ (k:=0) D D ?_;rotate_left
 ·simp
  first|exact⟨[],uE.nil _ _ _,Y,Y⟩|exact⟨⟨Y,Y,Y⟩,[],uE.nil _ _ _,Y,Y⟩
 rintro d l i ey ⟨r,g,j,q,y,v,n,z,eB,o⟩;have di:=r.ne (b:=0) D;by_cases P:d<h.length
 ·have de:(d:Int)<h.length:=D;have al:(d:Int)<e.cells.length:=by rw[<-O];exact de
  have bT:(e.cells.length:Int)=h.length:=by rw[O]
  have dd:h[d]? =some h[d]:=az P;have Z:e.cells[d]? =some h[d]:=by rw[<-O];exact dd
  have bi:=aH P;rw[bi]at o;generalize eu:h[d]=c at*
  obtain⟨p,B,m,E,w⟩:=c;have dn:=z.cons (dS 5 1 [iK.t ⟨p,B,m,E,w⟩]);have c7:(H.cons i (dS 5 1 [iK.t ⟨p,B,m,E,w⟩])).get i.size=some (dS 5 1 [iK.t ⟨p,B,m,E,w⟩]):=Y;have c6:(H.cons i (dS 5 1 [iK.t ⟨p,B,m,E,w⟩])).get 0=some (dS 6 0 [e.t]):=by rw[ez,ao (by rw[di];simp)];exact g
  have⟨a8,cp,A,an,C⟩:=dn.Nd (cx:=cx) sO rfl yq rfl Y Y p dN;rw[show(H.cons i (dS 5 1 [iK.t ⟨p,B,m,E,w⟩])).size=i.size+1 from rfl]at A;have F:=C.get _ _ c7 Y;have I:=C.get _ _ c6 Y;have ap:=C.ok 1 (r.cons _);have dm:i.size<cp.size:=by have:=C.size;simp[H.cons]at this;omega
  have cX:=iZ (a:=d) (b:=1) D D;have bn:jD h=none->uk e= .tuple [.iO,.bool false]:=by intro i;unfold uk;rw[<-O,i]
  by_cases av:m=0
  ·subst av;rw[yt rfl]at o;simp only at o;by_cases bB:B=0
   ·subst bB;rw[aq rfl]at o;simp[g,j,q,n,al,Z,r.low,A,F,I,cX];refine⟨d+1,D,D,ap,Y,v++[p],an,dN,?_⟩;rw[<-o];cases jD (List.drop (d+1) h)<;>simp
   ·rw[ao bB]at o;have hr:=bn (by rw[<-o];rfl);simp[g,j,q,n,al,Z,r.low,A,F,bB,hr,ap.hp]
  ·have eC:(h.drop (d+1)).length+1=h.length-d:=by rw[List.length_drop];omega
   have bX:=lJ (a:=e.cells.length) (b:=d) D D;by_cases b8:m<1\/4<m\/((h.drop (d+1)).length+1:Int)<m
   ·rw[zx av b8]at o;have hr:=bn (by rw[<-o];rfl);by_cases p1:m<1
    ·simp[g,j,q,n,al,Z,r.low,A,F,av,p1,hr,ap.hp]
    ·by_cases p2:4<m
     ·simp[g,j,q,n,al,Z,r.low,A,F,av,p1,p2,hr,ap.hp]
     ·have p3:(e.cells.length:Int)-d<m:=D;simp[g,j,q,n,al,Z,r.low,A,F,I,av,p1,p2,p3,hr,ap.hp,bX]
   ·rw[zw av b8]at o;have p1:¬m<1:=D;have p2:¬4<m:=D;have p3:¬(e.cells.length:Int)-d<m:=D;have bW:NA ⟨p,B,m,E,w⟩ (⟨p,B,m,E,w⟩::List.drop (d+1) h)=allI (λk x=>decide (x=⟨p,k,m,false,w⟩)) 0 ((h.drop d).take m.toNat):=by rw[bi];rfl
    generalize NA ⟨p,B,m,E,w⟩ (⟨p,B,m,E,w⟩::List.drop (d+1) h)=R at*
    obtain⟨s,rfl⟩:∃s:Nat,m=s:=⟨m.toNat,D⟩;rw[cm]at bW o;simp only at o;have eh:¬s=0:=D;simp[g,j,q,n,al,Z,r.low,A,F,I,eh,p1,p2,p3,bX];refine gu s D (λk l K=>iE 1 K/\i.size<K.size/\K.get 0=some (dS 6 0 [e.t])/\dT l 1 (.ptr 0 0 0 0)/\dT l 5 (G d)/\dT l 4 a8/\uE K 0 a8 1 ((v++[p]).map T.str)/\dT l 6 (.ptr i.size 0 0 0)/\dT l 7 (G k)/\
     (∃bH,K.get i.size=some (dS 5 bH [iK.t ⟨p,B,s,E,w⟩]))/\allI (λk x=>decide (x=⟨p,k,s,false,w⟩)) k (((h.drop d).take s).drop k)=R) ?_ ?_ D ?_
    ·rintro k l K a7 aE ⟨u,dv,g,j,q,n,bp,L,M,⟨bH,J⟩,U⟩;have X:(k:Int)<s:=D;have c9:d+k<h.length:=D;have dk:=u.ne (b:=0) D;have aX:(i.size=K.size)=False:=dN;have N:=iZ (a:=d) (b:=k) D D;have W:kT ((d:Int)+k)=some (d+k):=by rw[fy D];congr 1
     have ae:e.cells[d+k]? =some h[d+k]:=by rw[<-O];exact az c9
     have c1:((h.drop d).take s).drop k=h[d+k]::((h.drop d).take s).drop (k+1):=by
      rw[aH (by rw[List.length_take,List.length_drop];omega)];congr 1;rw[List.getElem_take,List.getElem_drop]
     rw[c1,allI]at U;generalize h[d+k]=x at*
     obtain⟨bA,bu,bC,bN,bs⟩:=x;have aN:¬(⟨bA,bu,bC,bN,bs⟩:iK)=⟨p,k,s,false,w⟩->uk e= .tuple [.iO,.bool false]:=by
      intro c4;rw[aO c4,df]at U;rw[<-U,ao Y]at o;exact bn (by rw[<-o];rfl)
     have ds:=u.cons (dS 5 1 [iK.t ⟨bA,bu,bC,bN,bs⟩]);by_cases Q:bu=k
     ·by_cases V:bA=p
      ·by_cases aA:bC=s
       ·by_cases a6:bs=w
        ·cases bN with
         |false=>
          subst Q V aA a6;rw[bI rfl,bg]at U;simp[g,j,q,n,L,M,dk,aX,X,J,N,W,ae,u.low,aE];exact⟨ds,D,bp.cons _,U⟩
         |true=>
          have hr:=aN Y;simp[g,j,q,L,M,aX,X,J,N,W,ae,u.low,Q,V,aA,a6,hr,u.hp]
        ·have hr:=aN (by simp[a6]);simp[g,j,q,L,M,aX,X,J,N,W,ae,u.low,Q,V,aA,a6,hr,u.hp]
       ·have hr:=aN (by simp[aA]);simp[g,j,q,L,M,aX,X,J,N,W,ae,u.low,Q,V,aA,hr,u.hp]
      ·have hr:=aN (by simp[V]);simp[g,j,q,L,M,aX,X,J,N,W,ae,u.low,Q,V,hr,u.hp]
     ·have hr:=aN (by simp[Q]);simp[g,j,q,L,M,X,J,N,W,ae,u.low,Q,hr,u.hp]
    ·rintro l K ⟨u,dv,g,j,q,n,bp,L,M,⟨bH,J⟩,U⟩;have cL:R=true:=by rw[<-U,List.drop_eq_nil_of_le (by rw[List.length_take];omega)];rfl
     have N:=iZ (a:=d) (b:=s) D D;rw[cL,aq rfl]at o;simp[g,j,q,n,L,M,J,N];refine⟨d+s,D,D,u,Y,v++[p],bp,dN,?_⟩;rw[<-o,List.drop_drop.symm,bi];cases jD (List.drop s (_::List.drop (d+1) h))<;>simp
    ·simp[j,q];exact⟨ap,dm,I,an,⟨_,F⟩,bW.symm⟩
 ·have:d=h.length:=D;subst this;have bT:(e.cells.length:Int)=h.length:=by rw[O]
  rw[bU,jD]at o;have ea:jD e.cells=some v:=by rw[<-O,<-o];simp
  have hr:uk e= .tuple [sl ((tv e v).map T.str),.bool true]:=by unfold uk;rw[ea]
  have et:v.length<=1000000:=D;simp[g,j,q,bT];refine gu e.fj.length D (λk l i=>iE 1 i/\i.get 0=some (dS 6 0 [e.t])/\dT l 1 (.ptr 0 0 0 0)/\dT l 9 (G k)/\
   ∃y,dT l 4 y/\uE i 0 y 1 ((v++(e.fj.take k).map (·.name)).map T.str)) ?_ ?_ D ?_
  ·rintro k l i P aE ⟨r,g,j,S,y,n,z⟩;have a7:(k:Int)<e.fj.length:=D;have⟨a8,F,A,an,C⟩:=z.Nd (cx:=cx) sO rfl yq rfl Y Y (e.fj[k]).name dN;have I:=C.get 0 _ g Y;simp[g,j,S,n,a7,P,A,aE];refine⟨C.ok 1 r,I,?_⟩;simpa[zd _ _ P]using an
  rotate_left
  ·simp[j,n];exact⟨r,g,by simpa using z⟩
  rintro l i ⟨r,g,j,S,y,n,z⟩;simp[g,j,S];rw[aI]at z;refine gu e.iB.length D (λk l i=>iE 1 i/\i.get 0=some (dS 6 0 [e.t])/\dT l 1 (.ptr 0 0 0 0)/\dT l 10 (G k)/\
   ∃y,dT l 4 y/\uE i 0 y 1 ((v++e.fj.map (·.name)++(e.iB.take k).map (·.name)).map T.str)) ?_ ?_ D ?_
  ·rintro k l i P aE ⟨r,g,j,S,y,n,z⟩;have a7:(k:Int)<e.iB.length:=D;have⟨a8,F,A,an,C⟩:=z.Nd (cx:=cx) sO rfl yq rfl Y Y (e.iB[k]).name dN;have I:=C.get 0 _ g Y;simp[g,j,S,n,a7,P,A,aE];refine⟨C.ok 1 r,I,?_⟩;simpa[zd _ _ P]using an
  rotate_left
  ·simp[j,g,n];exact⟨r,by simpa using z⟩
  rintro l i ⟨r,g,j,S,y,n,z⟩;rw[aI]at z;have⟨eD,eo,ca,ec,b6⟩:=z.YP (cx:=cx) sO rfl yq rfl Y Y e.fa dN;have b9:=b6.get 0 _ g Y;have⟨eE,er,cb,b7,eb⟩:=ec.YP (cx:=cx) sO rfl yq rfl Y Y e.dW dN;have ef:=eb.ok 1 (b6.ok 1 r);have cF:tv e v=v++e.fj.map (·.name)++e.iB.map (·.name)++e.fa++e.dW:=rfl;rw[<-cF]at b7;simp[g,j,S,n,ca,b9,cb,hr,b7.fzM (f:=T.str) Y,ef.hp]
def Uf{b:gG}(ht:b.p 122=some vX)(a:fc)(hl:a.cells.length<=1000000/\a.fj.length<=1000000/\a.iB.length<=1000000/\a.fa.length<=1000000/\a.dW.length<=1000000):rl prog cx b 122 [a.t]=some (uk a):=iA ht PU a hl
section
def zO:iy:=⟨fc,λa=>[a.t],λa=>True,λa=> .bool (kv a),λa c b=>by simp at b;rw[fc.inj b]⟩
def CF{w:fc}:uL w=true↔(w.cells.length<=12/\w.fj.length<=4/\w.iB.length<=2/\w.fa.length<=2/\w.ji.length<=60/\1<=w.dW.length/\w.dW.length<=4):=by
 unfold uL;simp;omega
def qN{w:fc}(a:¬(w.cells.length<=12/\w.fj.length<=4/\w.iB.length<=2/\w.fa.length<=2/\w.ji.length<=60/\1<=w.dW.length/\w.dW.length<=4)):kv w=false:=by
 unfold kv;have:uL w=false:=by rw[dC];exact λk=>a (CF.1 k)
 rw[this];rfl
def qK(w:fc)(k:Nat):Prop:=∃b a:Int,0<=b/\0<=a/\a<=k/\(k=0->b=0/\a=0)/\(∀d c,k=d+1->w.ji[d]? =some c->b=c.eg/\a=c.stmt+1)/\mT w.dW.length b a (w.ji.drop k)=mT w.dW.length 0 0 w.ji
def qK.zero(w:fc):qK w 0:=⟨0,0,Y,Y,Y,Y,Y,Y⟩
def qK.fin{w:fc}(a:qK w w.ji.length):mT w.dW.length 0 0 w.ji=true:=by
 obtain⟨c,d,_,_,_,_,_,b⟩:=a;rw[<-b,bU];rfl
section
variable {w:fc}{k:Nat}{s:jc}
theorem qK.cons(h:qK w k)(c:w.ji[k]? =some s):∃a b:Int,0<=a/\0<=b/\b<=k/\(k=0->a=0/\b=0)/\(∀f d,k=f+1->w.ji[f]? =some d->a=d.eg/\b=d.stmt+1)/\(if s.eg<a\/(w.dW.length:Int)<=s.eg then false else
 if a<s.eg then(if s.stmt=0 then mT w.dW.length s.eg 1 (w.ji.drop (k+1))else false)else(if s.stmt=b then mT w.dW.length a (b+1) (w.ji.drop (k+1))else false))=mT w.dW.length 0 0 w.ji:=by
 obtain⟨a,b,g,i,j,l,m,n⟩:=h;have e:k<w.ji.length:=by
  rcases aS k w.ji.length with h|h
  ·exact h
  ·rw[bP h]at c;simp at c
 have:w.ji[k]=s:=by rw[az e]at c;simpa using c
 refine⟨a,b,g,i,j,l,m,?_⟩;rw[<-n,aH e,this,mT]
def qK.bad(a:qK w k)(c:w.ji[k]? =some s)(i:s.eg<0\/(w.dW.length:Int)<=s.eg):mT w.dW.length 0 0 w.ji=false:=by
 have⟨j,l,d,e,f,g,h,b⟩:=a.cons c;rw[<-b,aq D]
def qK.next(n:qK w k)(j:w.ji[k]? =some s)(o:0<=s.eg)(x:s.eg<w.dW.length)(p:(k=0/\s.stmt=0)\/∃b a,k=b+1/\w.ji[b]? =some a/\((a.eg=s.eg/\s.stmt=a.stmt+1)\/(a.eg<s.eg/\s.stmt=0))):qK w (k+1):=by
 obtain⟨y,z,t0,A,B,u,r,c⟩:=n.cons j;have t:∀b a,k+1=b+1->w.ji[b]? =some a->a=s:=by
  intro b a g h;have:b=k:=D;subst this;rw[j]at h;simpa using h.symm
 have fin:∀d:Int,d=s.stmt+1->0<=d->d<=k+1->mT w.dW.length s.eg d (w.ji.drop (k+1))=mT w.dW.length 0 0 w.ji->qK w (k+1):=by
  intro d e f v m;exact⟨s.eg,d,o,f,D,Y,λb a g h=>by rw[t b a g h];exact⟨rfl,e⟩,m⟩
 rcases p with⟨rfl,l⟩|⟨b,a,rfl,g,q⟩
 ·obtain⟨rfl,rfl⟩:=u rfl;rw[ao D]at c;refine fin 1 D D D ?_;rw[<-c];by_cases i:0<s.eg
  ·rw[aq i,aq l]
  ·rw[ao i,aq l];have:s.eg=0:=D;rw[this];rfl
 ·obtain⟨rfl,rfl⟩:=r b a rfl g;rcases q with⟨e,f⟩|⟨e,f⟩
  ·rw[ao D,ao D,aq f]at c;refine fin (a.stmt+1+1) D D D ?_;rw[<-c,e]
  ·rw[ao D,aq e,aq f]at c;exact fin 1 D D D c
def qK.no(e:qK w k)(m:w.ji[k]? =some s)(f:(k=0/\s.stmt≠0)\/∃b a,k=b+1/\w.ji[b]? =some a/\((a.eg=s.eg/\s.stmt≠a.stmt+1)\/s.eg<a.eg\/(a.eg≠s.eg/\s.stmt≠0))):mT w.dW.length 0 0 w.ji=false:=by
 have⟨o,p,t0,q,r,n,l,i⟩:=e.cons m;rw[<-i];rcases f with⟨rfl,d⟩|⟨b,a,rfl,g,j⟩
 ·obtain⟨rfl,rfl⟩:=n rfl;rw[ao d,ao d];simp
 ·obtain⟨rfl,rfl⟩:=l b a rfl g;rcases j with⟨e1,c⟩|e1|⟨e1,c⟩
  ·rw[ao c,ao (show¬a.eg<s.eg by omega)];simp
  ·rw[aq (.inl e1)]
  ·by_cases h:s.eg<a.eg
   ·rw[aq (.inl h)]
   ·rw[ao c,aq (show a.eg<s.eg by omega)];simp
def qK.rng(c:qK w k){b:Nat}{a:jc}(e:k=b+1)(d:w.ji[b]? =some a):0<=a.stmt+1/\a.stmt+1<=k:=by
 obtain⟨l,m,t0,g,h,j,f,i⟩:=c;obtain⟨_,rfl⟩:=f b a e d;exact⟨g,h⟩
end
def PF:zO.Ok prog cx 81:=by
 refine iq [(122,vX),(123,AQ),(124,Es)] (jr 95827739445721067874190659254502973333984266632037375 [] func81) (λa=>100) (by simp[zO]) ?_;rintro(w:fc) _ l r;simp[zO]at r|-;by_cases b9:w.cells.length<=12;rotate_left
 ·simp[f81,r,show(12:Int)<w.cells.length by omega,qN (w:=w) D]
 have H:¬(12:Int)<w.cells.length:=D;by_cases ca:w.fj.length<=4;rotate_left
 ·simp[f81,r,H,show(4:Int)<w.fj.length by omega,qN (w:=w) D]
 have L:¬(4:Int)<w.fj.length:=D;by_cases cb:w.iB.length<=2;rotate_left
 ·simp[f81,r,H,L,show(2:Int)<w.iB.length by omega,qN (w:=w) D]
 have N:¬(2:Int)<w.iB.length:=D;by_cases cp:w.fa.length<=2;rotate_left
 ·simp[f81,r,H,L,N,show(2:Int)<w.fa.length by omega,qN (w:=w) D]
 have U:¬(2:Int)<w.fa.length:=D;by_cases cL:1<=w.dW.length;rotate_left
 ·simp[f81,r,H,L,N,U,show(w.dW.length:Int)<1 by omega,qN (w:=w) D]
 have an:¬(w.dW.length:Int)<1:=D;by_cases cX:w.dW.length<=4;rotate_left
 ·simp[f81,r,H,L,N,U,an,show(4:Int)<w.dW.length by omega,qN (w:=w) D]
 have a6:¬(4:Int)<w.dW.length:=D;by_cases cF:w.ji.length<=60;rotate_left
 ·simp[f81,r,H,L,N,U,an,a6,show(60:Int)<w.ji.length by omega,qN (w:=w) D]
 have bB:¬(60:Int)<w.ji.length:=D;have o:kv w=(DU w&&(w.iB.all λE=>sd w E.kY false)&&mT w.dW.length 0 0 w.ji):=by
  unfold kv;rw[CF.2 ⟨b9,ca,cb,cp,cF,cL,cX⟩,bg]
 have bS:=λ{bA:gG} (ht:bA.p 122=some vX)=>Uf ht w ⟨D,D,D,D,D⟩;cases al:jD w.cells with
 |none=>
  have hr:kv w=false:=by rw[o];unfold DU;rw[al];rfl
  have a8:uk w= .tuple [.iO,.bool false]:=by unfold uk;rw[al]
  simp[f81,r,H,L,N,U,bB,an,a6,bS,a8,hr]
 |some v=>
  have a8:uk w= .tuple [sl ((tv w v).map T.str),.bool true]:=by unfold uk;rw[al]
  have dm:=Gx _ _ (au _) v al;have de:DU w=yf (tv w v):=by unfold DU;rw[al]
  have dk:(tv w v).length<=24:=by unfold tv;simp;omega
  rw[de]at o;generalize tv w v=d at*
  simp[f81,r,H,L,N,U,bB,an,a6,bS,a8];refine gu d.length D (λk l h=>iE 1 h/\h.get 0=some (dS 6 0 [w.t])/\dT l 1 (.ptr 0 0 0 0)/\dT l 3 (sl (d.map T.str))/\dT l 5 (G k)/\(d.take k).all we=true/\(d.take k).Nodup) ?_ ?_ D ?_
  ·rintro k l h F M ⟨c,e,f,V,W,ap,aE⟩;have i:(k:Int)<d.length:=D;have c7:d[k]∈d:=aC F;have c9:d=d.take k++d[k]::d.drop (k+1):=by rw[<-aH F,cS]
   have dd:d.take (k+1)=d.take k++[d[k]]:=aM F;have bs:d[k]? =some d[k]:=az F;generalize d[k]=A at*
   have bN:=λ{bA:gG} (ht:bA.p 124=some Es)=>QU ht (d.take k) A (by rw[List.length_take];omega);have bW:k<=d.length:=D;cases R:we A with
   |false=>
    have hr:kv w=false:=by
     rw[o];have:yf d=false:=by
      unfold yf;have:d.all we=false:=by rw[List.all_eq_false];exact⟨A,c7,by simp[R]⟩
      rw[this];rfl
     rw[this];rfl
    simp[V,W,i,bs,rJ,R,hr,c.hp]
   |true=>
    by_cases av:A∈d.take k
    ·have hr:kv w=false:=by
      rw[o];have:yf d=false:=by
       unfold yf;have:¬d.Nodup:=by
        rw[c9];intro h;exact(List.nodup_append.1 h).2.2 A av A Y rfl
       rw[aO this];simp
      rw[this];rfl
     have bi:(0<=uC (d.take k) A 0)=True:=by rw[IY];simp[av]
     simp[V,W,i,bs,rJ,R,bN,bW,bi,hr,c.hp]
    ·have bi:(0<=uC (d.take k) A 0)=False:=by rw[IY];simp[av]
     simp[e,f,V,W,i,bs,rJ,R,bN,bW,bi,M];rw[dd];refine⟨c,?_,?_⟩
     ·intro y J;rcases List.mem_append.1 J with J|J
      ·exact List.all_eq_true.1 ap y J
      ·simp at J;subst J;exact R
     ·rw[List.nodup_append];exact⟨aE,Y,λa r b o=>by simp at o;subst o;exact λh=>av (h▸r)⟩
  rotate_left
  ·simp
   first|done|exact⟨Y,Y,Y⟩
  rintro l h ⟨c,e,f,V,W,ap,aE⟩;rw[aI]at ap aE;have c4:yf d=true:=by unfold yf;rw[ap,bI aE];rfl
  rw[c4,bg]at o;simp[V,W];refine gu w.iB.length D (λk l h=>iE 1 h/\h.get 0=some (dS 6 0 [w.t])/\dT l 1 (.ptr 0 0 0 0)/\dT l 6 (G k)/\
   (w.iB.drop k).all (λE=>sd w E.kY false)=w.iB.all λE=>sd w E.kY false) ?_ ?_ D ?_
  ·rintro k l h F M ⟨c,e,f,O,C⟩;have i:(k:Int)<w.iB.length:=D;have g:w.iB[k]? =some w.iB[k]:=az F;rw[aH F,cB]at C;generalize w.iB[k]=E at*
   obtain⟨cn,K⟩:=E;simp only at C;by_cases bn:ju K w.fj.length=true
   ·obtain⟨A,b6,J⟩:=iU bn;have ae:=fI.1 bn;have j:¬K<0:=D;have m:¬(w.fj.length:Int)<=K:=D;have aA:sd w K false= !A.rW:=by unfold sd;rw[J];simp
    cases aN:A.rW with
    |false=>
     rw[aA,aN]at C;simp[e,f,O,i,g,j,m,fy ae.1,b6,aN,M];exact⟨c,by simpa using C⟩
    |true=>
     rw[aA,aN]at C;have hr:kv w=false:=by rw[o,<-C];rfl
     simp[e,f,O,i,g,j,m,fy ae.1,b6,aN,hr,c.hp]
   ·have ae:ju K w.fj.length=false:=by simpa using bn
    have R:=qW ae;have aA:sd w K false=false:=by unfold sd;rw[oS ae]
    rw[aA]at C;have hr:kv w=false:=by rw[o,<-C];rfl
    by_cases j:K<0
    ·simp[e,f,O,i,g,j,hr,c.hp]
    ·have m:(w.fj.length:Int)<=K:=D;simp[e,f,O,i,g,j,m,hr,c.hp]
  rotate_left
  ·simp[f,e];exact c
  rintro l h ⟨c,e,f,O,C⟩;have c1:(w.iB.all λE=>sd w E.kY false)=true:=by rw[<-C];simp
  rw[c1,bg]at o;simp[e,f,O];have Q:mT w.dW.length 0 0 w.ji=false->kv w=false:=λh=>by rw[o,h]
  refine gu w.ji.length D (λk l h=>iE 1 h/\h.get 0=some (dS 6 0 [w.t])/\dT l 1 (.ptr 0 0 0 0)/\dT l 8 (G k)/\qK w k) ?_ ?_ D ?_
  ·rintro k l h F M ⟨c,e,f,u,q⟩;have i:(k:Int)<w.ji.length:=D;have g:w.ji[k]? =some w.ji[k]:=az F;have I:=c.ne (b:=0) D;generalize w.ji[k]=s at*
   obtain⟨aX,bu,ds⟩:=s;by_cases j:aX<0
   ·have hr:=Q (q.bad g (.inl j));simp[e,f,u,i,g,c.low,j,hr,c.hp]
   by_cases m:(w.dW.length:Int)<=aX
   ·have hr:=Q (q.bad g (.inr m));simp[e,f,u,i,g,I,c.low,j,m,hr,c.hp]
   by_cases bp:k=0
   ·have bT:(k=0)=True:=by simp[bp]
    have c6:(0<k)=False:=dN;by_cases n:bu=0
    ·have X:=q.next g dO dO (.inl ⟨bp,n⟩);subst n;simp[e,f,u,i,g,I,c.low,j,m,bT,c6,M];exact⟨c.cons _,X⟩
    ·have hr:=Q (q.no g (.inl ⟨bp,n⟩));simp[e,f,u,i,g,I,c.low,j,m,bT,n,hr,c.hp]
   ·obtain⟨z,P⟩:∃z,k=z+1:=⟨k-1,D⟩;have x:w.ji[z]? =some w.ji[z]:=az D;generalize w.ji[z]=di at*
    have bX:=q.rng P x;have S:=lJ (a:=(k:Int)) (b:=1) D D;rw[show(k:Int)-1=(z:Int)by omega]at S;obtain⟨b8,b7,dn⟩:=di;have bH:=iZ (a:=b7) (b:=1) (by simp only at bX;omega) (by simp only at bX;omega);have Z:(k=0)=False:=dN;have bC:(0<k)=True:=dN;by_cases n:b8=aX
    ·by_cases B:bu=b7+1
     ·have X:=q.next g dO dO (.inr ⟨z,_,P,x,.inl ⟨n,B⟩⟩);subst n B;simp[e,f,u,i,g,I,c.low,j,m,Z,S,x,bH,M];exact⟨c.cons _,X⟩
     ·have hr:=Q (q.no g (.inr ⟨z,_,P,x,.inl ⟨n,B⟩⟩));subst n;simp[e,f,u,i,g,I,c.low,j,m,Z,S,x,bH,B,hr,c.hp]
    ·by_cases B:bu=0
     ·by_cases a7:aX<b8
      ·have hr:=Q (q.no g (.inr ⟨z,_,P,x,.inr (.inl a7)⟩));subst B;simp[e,f,u,i,g,I,c.low,j,m,Z,bC,S,x,n,a7,hr,c.hp]
      ·have X:=q.next g dO dO (.inr ⟨z,_,P,x,.inr ⟨dO,B⟩⟩);subst B;simp[e,f,u,i,g,I,c.low,j,m,Z,bC,S,x,n,a7,M];exact⟨c.cons _,X⟩
     ·have hr:=Q (q.no g (.inr ⟨z,_,P,x,.inr (.inr ⟨n,B⟩)⟩));simp[e,f,u,i,g,I,c.low,j,m,Z,S,x,n,B,hr,c.hp]
  ·rintro l h ⟨c,e,f,u,q⟩;have hr:kv w=true:=by rw[o,q.fin]
   simp[e,f,u,hr,c.hp]
  ·simp[f,e];exact⟨c,qK.zero w⟩
def By{a:gG}(ht:a.p 81=some zO)(w:fc):rl prog cx a 81 [w.t]=some (.bool (kv w)):=iA ht PF w trivial
