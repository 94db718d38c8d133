/- W08d -/
import Derived.Test.YtmoiekepclmgbaaGreatDoorA9
import Derived.Test.YtmoiekepclmgbaaGreatDoorA10
set_option linter.all false
set_option maxRecDepth 100000
set_option maxHeartbeats 0
namespace Go.Proofs.YtmoiekepclmgbaaGreatDoor
noncomputable section
open Go Go.TI Tryz
attribute [-simp] List.map_take List.map_drop List.map_append fU fK fh Bool.not_or Bool.not_and
attribute [simp] fT fM
def vU:iy:=⟨fc,λa=>[a.t],λa=>a.fj.length<=1000000/\a.fa.length<=1000000/\a.dW.length<=1000000,λa=>(mt a).t,λc d b=>by simp at b;rw[fc.inj b]⟩
def AI(_:Unit):T:= .agg [G (-1),dR]
def Vy{b:H}{V:Nat->Prop}(a:Nat):jh (FT b V 2) ((List.replicate a ()).map AI) ((List.replicate a (⟨-1,[]⟩:em)).map em.t):=by
 induction a with
 |zero=>exact .nil
 |succ a c=>
  rw[dz,dz];exact .cons (.inr (.inr ⟨_,_,rfl,.cons (iC ..) (.cons (jS ..) .nil),rfl⟩)) c
def Sy8(e:H)(Lk:List Unit)(a:List Bool)(Th:List dZ):Prop:=∃f b c d,nS e 2 4 f [(b,some (2,Lk.map AI)),(G (-1),none),(c,some (1,a.map T.bool)),(d,some (3,Th.map dZ.t))]
def tV:jv:=(dS 4 0 [.agg [dR,G 0,dR,dR]])
def PO:vU.Ok prog cx 87:=by
 refine iq [] (jr 9071038046463 [] func87) (λ_=>1000005) (by simp[vU]) ?_;rintro(w:fc) ⟨hl,X,ht⟩ b P;simp[vU]at P|-;simp[f87,P];refine gu w.fj.length D (λc b h=>Sy8 h (List.replicate c ()) [] []/\Lb 2 h 0 (dS 6 0 [w.t])/\Lb 2 h 1 tV/\dT b 1 (.ptr 0 0 0 0)/\dT b 2 (.ptr 1 0 0 0)/\dT b 3 (.ptr 2 0 0 0)/\dT b 4 (G c)) ?_ ?_ D ?_
 ·rintro c b h A z ⟨⟨ver,s,u,v,a⟩,e,k,j,n,o,p⟩;have m:=a.get;simp at m;have⟨N,C,r,i⟩:=(a.gr 0 rfl).my (cx:=cx) (f:=AI) a.ok II rfl IF rfl Y (λ_=>rfl) () dN;have⟨q,L,x⟩:=a.app 0 rfl i;have⟨g,l⟩:=x _ rfl;simp only[<-List.replicate_succ']at l;simp[-List.map_replicate]at q g l;simp only[AI]at r;simp[j,n,o,p,A,e.get,m,r,q,eZ,i.1.iN,i.1.cells,z];exact⟨⟨_,_,_,_,l⟩,e.step g,k.step g⟩
 ·rintro b h ⟨⟨ver,s,u,v,a⟩,e,k,j,n,o,p⟩;simp[j,p,e.get];refine gu w.fa.length D (λc b h=>Sy8 h (List.replicate w.fj.length ()) (List.replicate c false) []/\Lb 2 h 0 (dS 6 0 [w.t])/\Lb 2 h 1 tV/\dT b 1 (.ptr 0 0 0 0)/\dT b 2 (.ptr 1 0 0 0)/\dT b 3 (.ptr 2 0 0 0)/\dT b 5 (G c)) ?_ ?_ D ⟨⟨_,_,_,_,a⟩,e,k,by simp[j,n,o]⟩
  ·rintro c b h A z ⟨⟨ver,s,u,v,a⟩,e,k,j,n,o,p⟩;have m:=a.get;simp at m;have⟨N,C,r,i⟩:=(a.gr 2 rfl).my (cx:=cx) (f:=T.bool) a.ok Cu rfl KS rfl Y Y false dN;have⟨q,L,x⟩:=a.app 2 rfl i;have⟨g,l⟩:=x _ rfl;simp only[<-List.replicate_succ']at l;simp[-List.map_replicate]at q g l;simp[j,n,o,p,A,e.get,m,r,q,eZ,i.1.iN,i.1.cells,z];exact⟨⟨_,_,_,_,l⟩,e.step g,k.step g⟩
  ·rintro b h ⟨⟨ver,s,u,v,a⟩,e,k,j,n,o,p⟩;simp[j,p,e.get];refine gu w.dW.length D (λc b h=>Sy8 h (List.replicate w.fj.length ()) (List.replicate w.fa.length false) ((List.range c).map λc=>(⟨if c=0 then 1 else 0,0,false⟩:dZ))/\Lb 2 h 0 (dS 6 0 [w.t])/\Lb 2 h 1 tV/\dT b 1 (.ptr 0 0 0 0)/\dT b 2 (.ptr 1 0 0 0)/\dT b 3 (.ptr 2 0 0 0)/\dT b 6 (G c)) ?_ ?_ D ⟨⟨_,_,_,_,a⟩,e,k,by simp[j,n,o]⟩
   ·rintro c b h A z ⟨⟨ver,s,u,v,a⟩,e,k,j,n,o,p⟩;have m:=a.get;simp at m;have Z:(0=h.size)=False:=by have:=a.lt;simp;omega
    have Q:(2=h.size)=False:=by have:=a.lt;simp;omega
    by_cases E:c=0
    ·subst E;have S:binop .add (G 0) (G 1)=some (G 1):=by simpa using z
     have y:=a.cons (dS 3 2 [dZ.t ⟨1,0,false⟩]);have B:=Step.cons a.ok a.lt (dS 3 2 [dZ.t ⟨1,0,false⟩]);have H:=e.step B;have J:=k.step B;have⟨N,C,r,i⟩:=(y.gr 3 rfl).my (cx:=cx) (f:=dZ.t) y.ok FF rfl DJ rfl Y (λ_=>rfl) (⟨1,0,false⟩:dZ) Y;have⟨q,L,x⟩:=y.app 3 rfl i;have⟨g,l⟩:=x _ rfl;simp only[aL,bw,cK,cA]at q g l;rw[size_cons]at r;simp[j,n,o,p,A,e.get,m,Q,a.ok.low,r,q,eZ,i.1.iN,i.1.cells,S];exact⟨⟨_,_,_,_,l⟩,H.step g,J.step g⟩
    ·skip
     have y:=a.cons (dS 3 1 [dZ.t ⟨0,0,false⟩]);have B:=Step.cons a.ok a.lt (dS 3 1 [dZ.t ⟨0,0,false⟩]);have H:=e.step B;have J:=k.step B;have⟨N,C,r,i⟩:=(y.gr 3 rfl).my (cx:=cx) (f:=dZ.t) y.ok FF rfl DJ rfl Y (λ_=>rfl) (⟨0,0,false⟩:dZ) dN;have⟨q,L,x⟩:=y.app 3 rfl i;have⟨g,l⟩:=x _ rfl;simp only[aL,bw,cK,cA]at q g l;rw[size_cons]at r;simp[j,n,o,p,E,A,e.get,m,Q,a.ok.low,r,q,eZ,i.1.iN,i.1.cells,z];have hr:(List.range (c+1)).map (λc=>(⟨if c=0 then 1 else 0,0,false⟩:dZ))=(List.range c).map (λc=>(⟨if c=0 then 1 else 0,0,false⟩:dZ))++[⟨0,0,false⟩]:=by
      rw[List.range_succ,List.map_append];simp[E]
     rw[hr];exact⟨⟨_,_,_,_,l⟩,H.step g,J.step g⟩
   ·rintro b h ⟨⟨ver,s,u,v,a⟩,e,k,j,n,o,p⟩;have m:=a.get;simp at m;have I:=k.get;unfold tV at I;have M:=a.qh k (dS 4 1 [.agg [s,G (-1),u,v]]);have U:(fg h 1 (dS 4 1 [.agg [s,G (-1),u,v]])).get 1=_:=(ee I _ 1).trans (aq rfl);have R:=(M.gr 0 rfl).KH (d:=2) D (Vy (V:=λ_=>True) w.fj.length);simp[j,n,o,p,e.get,m,I,eZ,U,R,(M.gr 2 rfl).fz Y,(M.gr 3 rfl).fz Y,-List.map_replicate];exact⟨a.ok.hp,by unfold mt gh.t gh.cs;simp[List.map_const',-List.map_replicate]⟩
 ·have⟨W,O⟩:=nS.start (h:=((hE.cons (dS 6 0 [w.t])).cons tV).cons (dS 4 1 [.agg [dR,G (-1),dR,dR]])) (w:=2) (szw:=4) (ver:=1) (F:=[(dR,some (2,[])),(G (-1),none),(dR,some (1,[])),(dR,some (3,[]))]) ⟨Y,Y,Y⟩ (by simp[tV]) Y;exact⟨⟨_,_,_,_,W⟩,⟨Y,λK=>absurd (O 0 K) dP⟩,⟨by simp[tV],λK=>absurd (O 1 K) dP⟩,Y⟩
def K3{b:gG}(ht:b.p 87=some vU)(a:fc)(c:a.fj.length<=1000000)(d:a.fa.length<=1000000)(e:a.dW.length<=1000000):rl prog cx b 87 [a.t]=some (mt a).t:=iA ht PO a ⟨c,d,e⟩
def aik(f:H)(a:gh)(b c:Nat)(d:List Int):Prop:=∃g e,nS f 4 7 g [(sl (a.fj.map em.t),none),(G a.tx,none),(sl (a.done.map T.bool),none),(sl (a.dW.map dZ.t),none),(e,some (1,d.map (T.int .i64))),(.arr 2 0 0 b false,some (1,(List.replicate b 0).map (T.int .i64))),(.arr 3 0 0 c false,some (1,(List.replicate c 0).map (T.int .i64)))]
def oX:jv:=(dS 7 0 [.agg [dR,G 0,dR,dR,dR,dR,dR]])
def rU:iy:=⟨fc,λa=>[a.t],λa=>a.fj.length<=1000000/\a.fa.length<=1000000/\a.dW.length<=1000000/\a.cells.length<=1000000,λa=>(jW a).t,λc d b=>by simp at b;rw[fc.inj b]⟩
def PN:rU.Ok prog cx 41:=by
 refine iq [(87,vU)] (jr 1048607 [(1,[(1,3),(1,5),(1,7),(1,9),(1,11)])] func41) (λ_=>1000005) (by simp[rU]) ?_;rintro(a:fc) ⟨hl,q,ht,H⟩ h e;simp[rU]at e|-;have O:a.fa.length*8<=70368744177664:=D;have P:a.dW.length*8<=70368744177664:=D;simp[f41,e,K3,hl,q,ht,O,P];have U:(jW a).t=fJ.t ⟨mt a,a.cells.map iK.jG,List.replicate a.fa.length 0,List.replicate a.dW.length 0⟩:=by
  unfold jW;simp only[List.map_const']
 rw[U];generalize mt a=b at*
 refine gu a.cells.length D (λm h i=>∃j,aik i b a.fa.length a.dW.length j/\j.length=m/\j=(a.cells.take m).map iK.jG/\Lb 4 i 0 (dS 6 0 [a.t])/\Lb 4 i 1 oX/\dT h 1 (.ptr 0 0 0 0)/\dT h 2 (.ptr 1 0 0 0)/\dT h 3 (.ptr 4 0 0 0)/\dT h 4 (G m)) ?_ ?_ D ?_
 ·rintro m h i I V ⟨j,⟨ae,c,d⟩,S,p,r,s,n,o,w,y⟩;have l:=d.get;simp at l;have⟨aE,av,Q,F⟩:=(d.gr 4 rfl).my (cx:=cx) (f:=T.int .i64) d.ok qv rfl zv rfl Y (λ_=>rfl) a.cells[m].jG dN;have⟨u,aA,B⟩:=d.app 4 rfl F;have⟨E,M⟩:=B _ rfl;simp only[aL,bw,cK,cA]at u E M;simp[n,o,w,y,I,r.get,l,Q,u,eZ,F.1.iN,F.1.cells,V];exact⟨_,⟨_,_,M⟩,dN,by rw[p,aM I,List.map_append];rfl,r.step E,s.step E⟩
 ·rintro h i ⟨j,⟨ae,c,d⟩,S,p,r,s,n,o,w,y⟩;rw[aI]at p;subst p;have l:=d.get;simp at l;have z:=s.get;unfold oX at z;have C:=d.qh s (dS 7 1 [.agg [sl (b.fj.map em.t),G b.tx,sl (b.done.map T.bool),sl (b.dW.map dZ.t),c,.arr 2 0 0 a.fa.length false,.arr 3 0 0 a.dW.length false]]);have R:(fg i 1 (dS 7 1 [.agg [sl (b.fj.map em.t),G b.tx,sl (b.done.map T.bool),sl (b.dW.map dZ.t),c,.arr 2 0 0 a.fa.length false,.arr 3 0 0 a.dW.length false]])).get 1=_:=(ee z _ 1).trans (aq rfl);have al:=(C.gr 4 rfl).fz Y;have an:=(C.gr 5 rfl).fz Y;have ap:=(C.gr 6 rfl).fz Y;simp[n,o,w,y,r.get,l,z,eZ,R,al,an,ap,-List.map_replicate,-wY];exact⟨d.ok.hp,by unfold fJ.t fJ.cs;simp[-List.map_replicate]⟩
 ·have L:∀(g:Nat) (k:T×aa (Nat×List T)),([(sl (b.fj.map em.t),none),(G b.tx,none),(sl (b.done.map T.bool),none),(sl (b.dW.map dZ.t),none),(dR,some (1,[])),(.arr 2 0 0 a.fa.length false,some (1,(List.replicate a.fa.length 0).map (T.int .i64))),(.arr 3 0 0 a.dW.length false,some (1,(List.replicate a.dW.length 0).map (T.int .i64)))]:List (T×aa (Nat×List T)))[g]? =some k->∀c,eG k.1=some c->c+3=g:=by
   intro g k e c H;rcases g with _|_|_|_|_|_|_|g<;>simp at e<;>subst e<;>simp at H<;>omega
  refine⟨[],⟨1,dR,⟨Y,Y,Y⟩,Y,λf q=>?_,λg Z X k N e W c u B=>X ?_⟩,rfl,Y,⟨Y,?_⟩,⟨by simp[oX],?_⟩,Y⟩
  ·simp only[cu,cO,or_false,bw]at q;rcases q with rfl|rfl|rfl|rfl|rfl|rfl|rfl
   iterate 4 (show eG _=none;simp)
   ·exact⟨Gr.nil _ _,dP⟩
   ·exact⟨.inr ⟨2,0,0,true,_,Y,by simp;rfl,Y⟩,show(1:Nat)≠7 by decide⟩
   ·exact⟨.inr ⟨3,0,0,true,_,Y,by simp;rfl,Y⟩,show(1:Nat)≠7 by decide⟩
  ·have n:=L g k e c u;have o:=L Z N W c B;omega
  all_goals
   rintro(A|⟨x,K,v,J,A⟩)
   ·simp at A
   ·simp at K;subst K;simp[gH,T.cells]at J;rcases J with rfl|rfl|rfl|rfl|rfl|rfl|rfl<;>simp at A
def FP{b:gG}(ht:b.p 41=some rU)(a:fc)(c:a.fj.length<=1000000)(d:a.fa.length<=1000000)(e:a.dW.length<=1000000)(f:a.cells.length<=1000000):rl prog cx b 41 [a.t]=some (jW a).t:=iA ht PN a ⟨c,d,e,f⟩
def vV:iy:=⟨List fk×Nat×Int×List Int,λa=>[sl (a.1.map fk.t),G a.2.1,G a.2.2.1,sl (a.2.2.2.map (T.int .i64))],λa=>a.2.1<=a.1.length/\a.1.length<=1000000/\a.2.2.2.length<=1000000,λa=> .bool (wF (a.1.take a.2.1) a.2.2.1 a.2.2.2),λa c b=>by
 obtain⟨a1,a2,a3,a4⟩:=a;obtain⟨h,i,j,k⟩:=c;simp at b;obtain⟨d,e,f,g⟩:=b;rw[jH (λ_ _=>fk.inj) d,Int.ofNat.inj e,f,jH (λ_ _ b=>by simpa using b) g]⟩
def ScR(d e:Int)(b:List fk)(c f g:Nat)(h:T):Prop:=∃a:Bool,h= .bool a/\xQ d e ((b.take c).drop f) g a=xQ d e (b.take c) 0 false
def PQ:vV.Ok prog cx 92:=by
 refine iq [] (jr 576460753379335951 [] func92) (λ_=>1000005) (by simp[vV]) ?_;rintro⟨b,l,v,m⟩ ⟨M,hl,O⟩ a A;simp at M hl O;simp[vV]at A|-;obtain⟨f,c,g,d⟩:=A;simp[f92];refine gu m.length D (λj a n=>n=hE/\dT a 0 (sl (b.map fk.t))/\dT a 1 (G l)/\dT a 2 (G v)/\dT a 3 (sl (m.map (T.int .i64)))/\dT a 9 (G j)/\(m.take j).all (λF=>xQ v F (b.take l) 0 false)=true) ?_ ?_ D (by simp[f,c,g,d])
 ·rintro j a n u I ⟨rfl,f,c,g,d,h,s⟩;simp[d,h,u];refine gu l D (λe a n=>n=hE/\dT a 0 (sl (b.map fk.t))/\dT a 1 (G l)/\dT a 2 (G v)/\dT a 3 (sl (m.map (T.int .i64)))/\dT a 9 (G j)/\∃(k:Nat) (w:T),dT a 10 (G k)/\dT a 11 w/\dT a 12 (G e)/\k<=e/\ScR v m[j] b l e k w) ?_ ?_ D ⟨rfl,by simp[f],by simp[c],by simp[g],by simp[d],by simp[h],0,.bool false,Y,Y,Y,au _,false,rfl,rfl⟩
  ·rintro e a n J B ⟨rfl,f,c,g,d,h,k,w,y,r,o,K,x,rfl,i⟩;have C:e<b.length:=D;have z:(b.take l).drop e=b[e]::(b.take l).drop (e+1):=by
    rw[aH dN];simp
   rw[z,xQ]at i;simp[f,c,g,o,J,C];have L:b[e]? =some b[e]:=az C;have N:m[j]? =some m[j]:=az u;generalize b[e]=Q at*
   generalize m[j]=F at*
   have H:binop .add (G (k:Int)) (G 1)=some (G ((k+1:Nat):Int)):=by rw[iZ D D];simp
   refine fw (λp=>?_) (λp=>?_)
   ·simp at p;rw[ao p]at i;simp[f,c,g,d,h,y,r,o,B];exact⟨k,rfl,D,x,rfl,i⟩
   ·simp at p;rw[aq p]at i;simp[f,c,g,d,h,y,r,o,L,N,H,B];exact⟨k+1,Y,D,_,rfl,i⟩
  ·rintro a n ⟨rfl,f,c,g,d,h,k,w,y,r,o,K,x,rfl,i⟩;have z:(b.take l).drop l=[]:=Y;rw[z,xQ]at i;simp[c,r,o];cases x with
   |false=>
    simp;unfold wF;rw[List.all_eq_false];exact⟨m[j],aC u,by rw[<-i];simp⟩
   |true=>
    simp[f,c,g,d,h,I];intro P E;rw[aM u]at E;rcases List.mem_append.1 E with q|q
    ·exact List.all_eq_true.1 s P q
    ·rw[List.mem_singleton.1 q];exact i.symm
 ·rintro a n ⟨rfl,f,c,g,d,h,s⟩;rw[aI]at s;simp[d,h];unfold wF;rw[s]
def Ub{e:gG}(ht:e.p 92=some vV)(a:List fk)(b:Nat)(d:Int)(c:List Int)(f:b<=a.length)(g:a.length<=1000000)(h:c.length<=1000000):rl prog cx e 92 [sl (a.map fk.t),G b,G d,sl (c.map (T.int .i64))]=some (.bool (wF (a.take b) d c)):=iA ht PQ (a,b,d,c) ⟨f,g,h⟩
end
noncomputable section
open Go Go.TI Tryz
section
attribute [-simp] List.map_take List.map_drop List.map_append
def Js:iy:=⟨Int×Nat,λa=>[G a.1,G a.2],λa=>True,λa=> .bool (ju a.1 a.2),λa c b=>by simp at b;rw[b.1,show a.2=c.2 by omega]⟩
def ZS:Js.Ok prog cx 119:=by
 refine iq [] (jr 19 [] func119) (λf=>1) (by simp[Js]) ?_;rintro⟨e,g⟩ _ h a;simp[Js]at a|-;obtain⟨b,c⟩:=a;by_cases d:0<=e<;>simp[f119,b,c,d,ju]
def Um{c:gG}(ht:c.p 119=some Js)(a:Int)(b:Nat):rl prog cx c 119 [G a,G b]=some (.bool (ju a b)):=iA ht ZS (a,b) trivial
def yH:iy:=⟨fc×fJ,λa=>[a.1.t,a.2.t],λa=>a.1.iB.length<=1099511627776,λa=> .bool (mD a.1 a.2),λa c b=>by simp at b;rw[fc.inj b.1,fJ.inj b.2]⟩
def SN:yH.Ok prog cx 82:=by
 refine iq [(31,tq)] (jr 31 [] func82) (λi=>1) (by simp[yH]) ?_;rintro⟨b,a⟩ hl j e;simp[yH]at hl e|-;obtain⟨c,d⟩:=e;cases f:mn b a.fN with
 |false=>simp[f82,c,d,u7,hl,f,mD]
 |true=>by_cases g:a.cells.length=b.cells.length<;>by_cases h:a.fa.length=b.fa.length<;>simp[f82,c,d,u7,hl,f,g,h,mD,Int.natCast_inj]
def IT{c:gG}(ht:c.p 82=some yH)(a:fc)(b:fJ)(hl:a.iB.length<=1099511627776):rl prog cx c 82 [a.t,b.t]=some (.bool (mD a b)):=iA ht SN (a,b) hl
def xW:iy:=⟨List Int×Int,λa=>[sl (a.1.map (T.int .i64)),G a.2],λa=>a.1.length<=1099511627776,λa=> .bool (xz a.2 none a.1),λa c b=>by simp at b;rw[jH Y b.1,b.2]⟩
def PT:xW.Ok prog cx 120:=by
 refine iq [] (jr 1099511628339 [] func120) (λt=>t.1.length+1) (by simp[xW]) ?_;rintro⟨c,k⟩ hl j p;simp[xW]at hl p|-;obtain⟨d,g⟩:=p;simp[f120];refine gu c.length D (λb j n=>n=hE/\dT j 0 (sl (c.map (T.int .i64)))/\dT j 1 (G k)/\dT j 5 (G b)/\xz k (if b=0 then none else c[b-1]?) (c.drop b)=xz k none c) ?_ ?_ D (by simp[d,g])
 ·rintro b j n i q ⟨rfl,d,g,h,a⟩;rw[aH i]at a;simp only[xz]at a;by_cases e:c[b]<1
  ·simp[e]at a;simp[d,h,i,e,a]
  ·by_cases f:k<=c[b]
   ·simp[f]at a;simp[d,g,h,i,e,f,a]
   ·by_cases r:b=0
    ·have l:¬0<b:=D;rw[aq r]at a;simp[e,f]at a;simp[d,g,h,i,q,e,f,l];exact a
    ·have l:0<b:=D;have o:b-1<c.length:=D;have s:binop .sub (G (b:Int)) (G 1)=some (G ((b-1:Nat):Int)):=by rw[lJ D D,show(b:Int)-1=((b-1:Nat):Int)by omega]
     rw[ao r,az o]at a;by_cases m:c[b]<=c[b-1]
     ·simp[e,f,m]at a;simp[d,g,h,i,o,e,f,m,s,a,l]
     ·simp[e,f,m]at a;simp[d,g,h,i,o,q,e,f,m,s,l];exact a
 ·rintro j n ⟨rfl,d,g,h,a⟩;simp[xz]at a;simp[d,h,a]
def Ue{c:gG}(ht:c.p 120=some xW)(a:List Int)(b:Int)(hl:a.length<=1099511627776):rl prog cx c 120 [sl (a.map (T.int .i64)),G b]=some (.bool (xz b none a)):=iA ht PT (a,b) hl
def vS:iy:=⟨fJ×fk,λa=>[a.1.t,a.2.t],λa=>a.1.fN.dW.length<=1099511627776/\(a.2.kind=3->ju a.2.obj a.1.cells.length=true)/\(a.2.kind=23->ju a.2.obj a.1.fa.length=true),λa=> .bool (oh a.1 a.2),λa c b=>by simp at b;rw[fJ.inj b.1,fk.inj b.2]⟩
def PK:vS.Ok prog cx 121:=by
 refine iq [(48,ud),(12,Db)] (jr 18889470444974887141823 [(17,[(1,6)])] func121) (λv=>1) (by simp[vS]) ?_;rintro⟨i,a⟩ hl w j;simp[vS]at hl j|-;obtain⟨b,c⟩:=j;obtain⟨hl,k,l⟩:=hl;by_cases f:a.kind=3
 ·have⟨u,d,g⟩:=iU (k f);simp[f121,b,c,f,oh,fy (fI.1 (k f)).1,d,g]
 ·by_cases e:a.kind=23
  ·have⟨u,d,g⟩:=iU (l e);simp[f121,b,c,e,oh,fy (fI.1 (l e)).1,d,g]
  ·by_cases q:a.kind=5
   ·by_cases d:a.value=0<;>simp[f121,b,c,q,oh,d]
   ·by_cases p:a.kind=4
    ·simp[f121,b,c,p,oh]
    ·by_cases o:a.kind=22
     ·simp[f121,b,c,o,oh]
     ·by_cases h:a.kind=18
      ·have r:=GG a.obj i.fN.dW 0;by_cases m:iW a.obj i.fN.dW 0=[]
       ·simp[f121,b,c,h,oh,BA,hl,m]
       ·by_cases s:0<=a.value<;>by_cases t:a.value<i.fN.dW.length<;>
         simp[f121,b,c,h,oh,BA,hl,m,s,t,M2,aQ r hl]
      ·by_cases n:a.kind=19
       ·simp[f121,b,c,n,oh,BA,hl]
       ·simp[f121,b,c,f,e,q,p,o,h,n,oh]
def T9{c:gG}(ht:c.p 121=some vS)(b:fJ)(a:fk)(hl:b.fN.dW.length<=1099511627776)(d:a.kind=3->ju a.obj b.cells.length=true)(e:a.kind=23->ju a.obj b.fa.length=true):rl prog cx c 121 [b.t,a.t]=some (.bool (oh b a)):=iA ht PK (b,a) ⟨hl,d,e⟩
end
def Et(a:List Int)(b:Int):v7 a b=ng a b:=by
 induction a with
 |nil=>rfl
 |cons d a c=>rw[v7,ng,c]
def Ew:∀(b a:List Int),Lj a->Lj (mZ a b):=by
 intro b;induction b with
 |nil=>intro a c;exact c
 |cons e b d=>intro a c;exact d _ (by rw[Et];exact E7 c e)
def Ev:∀(c b:List Int) (a:Int),a∈mZ b c->a∈b\/a∈c:=by
 intro c;induction c with
 |nil=>intro b a h;exact .inl h
 |cons e c d=>
  intro b a h;rcases d (v7 b e) a h with h|h
  ·rw[Et]at h;rcases E6 h with h|h
   ·exact .inl h
   ·exact .inr (by simp[h])
  ·exact .inr (by simp[h])
def ON:∀(a:List Int) (e b:Int),Lj a->(∀c∈a,e<=c/\c<b)->a.length<=(b-e).toNat:=by
 intro a;induction a with
 |nil=>intro e b _ _;simp
 |cons c a i=>
  intro e b d f;unfold Lj at d;rw[dD]at d;have j:=i (c+1) b d.2 λh g=>⟨by have:=d.1 h g;omega,(f h (by simp[g])).2⟩;have k:=f c Y;simp;omega
def Tn(a:Nat)(b:List Int):Prop:=b.length<=a/\∀c∈b,0<=c/\c<a
theorem Tn.nil(a:Nat):Tn a []:=⟨aw _,λc b=>by simp at b⟩
def Tn.union{a:Nat}{c d:List Int}(f:Tn a c)(g:Tn a d):Tn a (BP c d):=by
 have e:∀b∈BP c d,0<=b/\b<a:=λb i=>by
  rcases Ev _ _ _ i with h|h
  ·rcases Ev _ _ _ h with h|h
   ·simp at h
   ·exact f.2 b h
  ·exact g.2 b h
 refine⟨?_,e⟩;have:=ON (BP c d) 0 a (Ew _ _ (Ew _ _ List.Pairwise.nil)) e;omega
end
end Go.Proofs.YtmoiekepclmgbaaGreatDoor
namespace Go.TI
noncomputable section
section
@[simp]def adm (a:H) (b:jv):(a.cons b).size=a.size+1:=id rfl
def jh.Kd{b h:Type}{c:b->h->Prop}{e:List b}{f:List h}(j:jh c e f){g:b}(d:g∈e):∃a∈f,c g a:=by
 induction j with
 |nil=>simp at d
 |cons i _ l=>
  rcases List.mem_cons.1 d with rfl|q
  ·exact⟨_,Y,i⟩
  ·have⟨a,k,m⟩:=l q;exact⟨a,by simp[k],m⟩
section
variable {cx:Ctx}{cf:jB}{J n:Nat}{dl:DL}
def afb{f:Out}{e:Env->H->Prop}{c:jp}(i:W f (Ai e c))(j:∀a b,e a b->c.n a b):W f c:=by
 obtain⟨g,a,b,h,d⟩:=i;refine⟨g,a,b,h,?_⟩;cases g with
 |normal=>exact j a b d
 |exit k=>exact d
 |ret=>exact d
def UM{g:Out}{d:jp}(e:iz->H->Prop)(i:W g (Ai (λb a=>b.tmps= .nil/\e b.vars a) d))(j:∀c a,e c a->d.n ⟨c,.nil⟩ a):W g d:=
 afb i λb a ⟨h,f⟩=>by obtain⟨c,k⟩:=b;simp only at h f;subst h;exact j c a f
def kP{f:Bool}{g h:Code}{b:Env}{a:H}{d:jp}(c:iz->H->Prop)(k:f=true->W (j4 cx cf n J dl g b a) (Ai (λb a=>b.tmps= .nil/\c b.vars a) d))(l:f=false->W (j4 cx cf n J dl h b a) (Ai (λb a=>b.tmps= .nil/\c b.vars a) d))
 (i:∀j a,c j a->d.n ⟨j,.nil⟩ a):CK (some (.bool f)) cx cf n J dl g h b a d:=by
 refine fw (λe=>?_) (λe=>?_)
 ·exact UM c (k e) i
 ·exact UM c (l e) i
end
end
section
@[simp]def ai4 (a:Nat):(a=a+1)=False:=Y 
@[simp]def ai3 (a:Nat):(a=a+1+1)=False:=dN 
@[simp]def ai2 (a:Nat):(a=a+1+1+1)=False:=dN 
@[simp]def ai1 (a:Nat):(a=a+1+1+1+1)=False:=dN 
@[simp]def ai0 (a:Nat):(a=a+1+1+1+1+1)=False:=dN 
def E4{c:H}{b:T}{d:List T}(a:c.jM b=some d)(f:jv):(c.cons f).jM b=some d:=by
 cases b<;>first|exact a|(simp[H.jM]at a;done)|skip
 rename_i g h k j i;rw[iF]at a|-;obtain⟨l,e,_⟩:=dX.1 a;rw[ez,ao (by have:=H.fG e;omega)];exact a
def kQ{cx:Ctx}{a:H}{sz:Nat}(E:iE 0 a){g h f:ab}{m n b:Ty}(s:cx.ty g=some m)(t:m.u= .slice f)(v:cx.ty f=some b)(w:cx.ty h=some n)(y:n.u= .slice f)(j:b.size=sz)(A:1<=b.bytes)
 {x:T} {xs:List T} (C:a.jM x=some xs) (k:∀q∈xs,q.cells.length=sz) (I:xs.length*b.bytes<=70368744177664):
 ∃i d,jn cx (a.cons ⟨sz,0,0,true,false,[]⟩) g h (.arr a.size 0 0 0 false) x=some (.val (.arr a.size i 0 xs.length false) d)/\(∃F r,d.get a.size=some ⟨sz,i,F,r,false,xs⟩)/\d.size=a.size+1/\(∀c,c<a.size->d.get c=a.get c)/\iE 0 d:=by
 have z:jn cx (a.cons ⟨sz,0,0,true,false,[]⟩) g h (.arr a.size 0 0 0 false) x=j7 ((a.cons ⟨sz,0,0,true,false,[]⟩).append b.size b.bytes (.arr a.size 0 0 0 false) xs):=by
  unfold jn qt nH;rw[s,eJ,w,eJ];simp only[t,v,y,E4 C,eJ];rw[j,lN k,iR]
 rw[z,j];have l:=E.cons ⟨sz,0,0,true,false,[]⟩;have e:(a.cons ⟨sz,0,0,true,false,[]⟩).get a.size=some ⟨sz,0,0,true,false,[]⟩:=Y;cases xs with
 |nil=>exact⟨0,a.cons ⟨sz,0,0,true,false,[]⟩,rfl,⟨0,true,e⟩,rfl,λc B=>by rw[ez,ao D],l⟩
 |cons o p=>
  refine⟨1,fg (a.cons ⟨sz,0,0,true,false,[]⟩) a.size ⟨sz,1,1,false,false,o::p⟩,?_,⟨1,false,by rw[ee e,aq rfl]⟩,by rw[ig];rfl,λc B=>by rw[ee e,ao D,ez,ao D],l.put _ _⟩;show j7 ((a.cons ⟨sz,0,0,true,false,[]⟩).nP sz b.bytes a.size 0 ([]:List T).length (o::p))=_;rw[yv e k A (by grind)];rfl
def qA(c:H)(d:Nat)(b:T)(a:List T):Prop:=b=sl a\/Gr c b d a
def qA.jM{b:H}{e:Nat}{c:T}{a:List T}(d:qA b e c a):b.jM c=some a:=by
 rcases d with rfl|g
 ·simp
 ·exact g.jM
def qA.mono{d h':H}{e:Nat}{b:T}{c:List T}(h:qA d e b c)(g:∀a,eG b=some a->h'.get a=d.get a):qA h' e b c:=h.imp id λf=>f.mono g
def qA.len{cx:Ctx}{f:H}{j:Nat}{e:T}{c:List T}(i:qA f j e c)(a:H)(b:Ty)(d:ab)(h:b.u= .slice d):Gk cx a b e=some (.val (.int .i64 c.length) a):=by
 rcases i with rfl|g
 ·simp_all
 ·exact g.len a b d h
theorem qA.iN{c:H}{e:Nat}{a:T}{b:List T}(d:qA c e a b):a.iN=true/\a.cells=[a]:=by
 rcases d with rfl|g
 ·cases b<;>exact⟨rfl,rfl⟩
 ·exact⟨g.iN,g.cells⟩
def qA.idx{b:H}{e:T}{a:List T}(m:qA b 1 e a){te:Ty}(l:te.size=1)(j:te.isAgg=false){i:Nat}{x:T}(k:a[i]? =some x)(r:x.cells=[x]):∃d,lM b te e i=some (.val d b)/\b.load te d=some x:=by
 have hr:kU te [x]=some x:=by unfold kU;rw[j];rfl
 have c:i<a.length:=by
  grind
 rcases m with rfl|g
 ·simp_all
 ·have⟨n,p,s,q,t,_,f,h,o⟩:=g.Bf l c;refine⟨_,f,?_⟩;have:a[i]=x:=by rw[az c]at k;grind
  rw[aab,h];simp_all
def qA.ft{h:H}{V:Nat->Prop}{q d:Nat}{f:T}{b:List T}(p:qA h q f b)(e:∀a∈b,cn a=a/\kE a=true/\∀k,a≠ .agg k)(i:∀c,eG f=some c->V c):FT h V (d+2) f (sl b):=by
 rcases p with rfl|g
 ·grind [qM]
 ·have j:=g.jM;rcases g with⟨rfl,rfl⟩|⟨c,l,v,s,w,rfl,m,n⟩
  ·simp[jS]
  ·refine .inr (.inl ⟨c,l,0,_,false,b,b,rfl,i c rfl,j,?_,rfl⟩);clear j i n m;induction b with
   |nil=>exact .nil
   |cons a u o=>exact .cons (.inl ⟨(e a Y).2.1,(e a Y).2.2,(e a Y).1.symm⟩) (o λr t=>e r (by grind))
structure Nb(h h':H):Prop where
 ok:iE h.size h'
 get:∀c,c<h.size->h'.get c=h.get c
def Nb.refl{a:H}(b:iE 0 a):Nb a a:=⟨⟨b.hp,b.low,au _⟩,λ_ _=>rfl⟩
def Nb.trans{d e f:H}(b:Nb d e)(a:Nb e f):Nb d f:=⟨⟨a.ok.hp,a.ok.low,aQ b.ok.sz a.ok.sz⟩,λc g=>(a.get c (bF g b.ok.sz)).trans (b.get c g)⟩
theorem Nb.cons{b c:H}(a:Nb b c)(d:jv):Nb b (c.cons d):=⟨a.ok.cons d,λe f=>by rw[ez,ao (by have:=a.ok.sz;omega)];exact a.get e f⟩
theorem Nb.put{b d:H}(e:Nb b d){a:Nat}{x:jv}(h:d.get a=some x)(i:b.size<=a)(f:jv):Nb b (fg d a f):=⟨e.ok.put a f,λc g=>by rw[ee h,ao D];exact e.get c g⟩
def Nb.step{b f:H}(a:Nb b f){d:Nat}(g:d<b.size):Step d b f:=⟨a.ok,λe c _=>a.get e c,λe c=>by rw[jt (a.get d g)]at c;grind⟩
def Nb.hr{a d:H}(b:Nb (TI.hr a) d):Nb a d:=⟨b.ok,λc e=>(b.get c e).trans (iI a c)⟩
def Nb.out{h b:H}(c:Nb (TI.hr h) b):Nb h (mK h b):=⟨c.ok.out h,λa d=>(il h b a).trans ((c.get a d).trans (iI h a))⟩
def Gr.new{h:H}{b sz ep ver:Nat}{ex:Bool}{es:List T}(a:h.get b=some ⟨sz,ep,ver,ex,false,es⟩):Gr h (.arr b ep 0 es.length false) sz es:= .inr ⟨b,ep,ver,ex,es,rfl,a,aI⟩
def nS.one{h:H}{w szw ver i0:Nat}{F:List (T×aa (Nat×List T))}(s:iE 0 h)(i:h.get w=some ⟨szw,0,ver,true,false,[.agg (F.map (·.1))]⟩)(n:∀a∈F,Fld h szw a)(f:∀(b:Nat) d,F[b]? =some d->eG d.1≠none->b=i0):
 nS h w szw ver F/\∀c,Fp h w c->c=w\/∃a,F[i0]? =some a/\eG a.1=some c:=by
 refine⟨⟨s,i,n,λb r q d k l m c t u=>q ((f b d l (by rw[t];simp)).trans (f r k m (by rw[u];simp)).symm)⟩,λc e=>?_⟩;rcases e with e|⟨x,g,v,j,e⟩
 ·omega
 ·rw[i]at g;simp only[ar]at g;subst g;simp only[gH,bm,cC,bG,T.cells]at j;obtain⟨a,o,rfl⟩:=List.mem_map.1 j;have⟨b,p⟩:=cN o;have:=f b a p (by rw[e];simp)
  grind
section
variable {cx:Ctx}{cf:jB}{J:Nat}
@[simp low] theorem afx (n:aa Nat) (l:T) (j:af Oper) (a:List (Nat×Nat)) (f:aa Tmp) (h:List Oper) (b:Nat) (i:List (Nat×Nat)) (c:List (Nat×H×H)) (m k:iz) (g:H) (e:jp) (q:mM a b=false) (p:(c.all λd=> !Cf a d.1 b)=true):DLK n l cx cf J j a f h b i c m k g e=Va l cx cf J j a f h (b+1) i c m k g e:=by
 cases n with
 |none=>rfl
 |some o=>
  have hl:nV a b o c=True:=by
   simp only[eq_iff_iff,iff_true];intro d s r;have:=List.all_eq_true.1 p d s;rw[r]at this;grind
  rw[UZ,hl,q,true_and];rfl
end
def Ec{a x:T}(c:∀b,a≠ .agg b):mG a 0 [x]=some x:=by
 cases a<;>first|rfl|grind
def qA.na{h:H}{sz:Nat}{b:T}{a:List T}(d:qA h sz b a):∀c,b≠ .agg c:=by
 rcases d with rfl|g
 ·cases a<;>simp[sl]
 ·rcases g with⟨rfl,_⟩|⟨e,f,j,i,k,rfl,_⟩<;>simp
def Gr.setAt{j h':H}{f:T}{k a l b s ver2:Nat}{n ex2:Bool}{i h:List T}(o:Gr j f k i)(d:eG f=some a)(q:j.get a=some ⟨l,b,s,n,false,h⟩)(e:Nat)(g:T)(r:h'.get a=some ⟨l,b,ver2,ex2,false,h.set e g⟩):Gr h' f k (i.set e g):=by
 rcases o with⟨rfl,_⟩|⟨m,t,v,u,w,rfl,c,p⟩
 ·simp at d
 ·simp only[Cx,ar]at d;subst d;rw[q]at c;simp only[ar,jv.mk.injEq]at c;obtain⟨rfl,rfl,rfl,rfl,_,rfl⟩:=c;exact .inr ⟨m,b,ver2,ex2,h.set e g,by rw[dc],r,by rw[dc,List.take_set,p]⟩
def jh.set{d e:Type}{f c:d->e->Prop}{i:List d}{j:List e}(b:jh f i j)(a:Nat){k:d}{l:e}(m:c k l)(h:∀b g,f b g->c b g):jh c (i.set a k) (j.set a l):=by
 induction b generalizing a with
 |nil=>exact .nil
 |cons o p n=>
  cases a with
  |zero=>exact .cons m (p.imp h)
  |succ a=>exact .cons (h _ _ o) (n a)
def jh.Z7{b c j:Type}{d:b->c->Prop}{e:b->j->Prop}{f:c->j}{h:List b}{i:List c}(a:jh d h i)(k:∀a g,d a g->e a (f g)):jh e h (i.map f):=by
 induction a with
 |nil=>exact .nil
 |cons m n l=>exact .cons (k _ _ m) l
def FT.tup{c:H}{f:Nat->Prop}{d h:Nat}(k:h<=11)(j:∀a,f a->d<=a){b g:List T}(l:jh (FT c f h) b g)(a:Bool):∃i,jJ c d (.tuple [.agg b,.bool a])=some i/\cn i= .tuple [.agg g,.bool a]:=by
 have⟨r0,e,n⟩:=FT.top k j l;refine⟨.tuple [r0,.bool a],?_,?_⟩
 ·have e:lf c d (.agg b)=some r0:=e;show(Z (iu (lf c d) [.agg b,.bool a]) λm=>some (T.tuple m))=_;rw[kl,e];rfl
 simp_all[wy]
def Gr.ft{c:H}{V:Nat->Prop}{e:T}{m d:Nat}{a b:List T}(i:Gr c e m a)(k:∀h,eG e=some h->V h)(f:jh (FT c V d) a b):FT c V (d+1) e (sl b):=by
 have l:=i.jM;rcases i with⟨rfl,rfl⟩|⟨g,j,q,n,r,rfl,o,p⟩
 ·cases f;simp[jS]
 ·exact .inr (.inl ⟨g,j,0,_,false,a,b,rfl,k g rfl,l,f,rfl⟩)
def Gr.at{f:H}{h x:T}{g i:Nat}{a:List T}(k:Gr f h g a)(o:a[i]? =some x):∃b c j e d,h= .arr b c 0 a.length false/\f.get b=some ⟨g,c,j,e,false,d⟩/\d[i]? =some x/\i<a.length:=by
 have n:i<a.length:=by
  grind
 rcases k with⟨rfl,rfl⟩|⟨b,c,j,e,d,rfl,l,m⟩
 ·grind
 grind
def qA.qC{b:H}{j:Nat}{e:Type}{f:e->T}{d:T}{c:List e}(i:qA b j d (c.map f))(k:∀a,cn (f a)=f a)(h:∀a,yY b 11 (f a)=some (f a)):TI.qC b d=some (sl (c.map f)):=by
 rcases i with rfl|g
 ·simp_all
 ·exact g.qC h
def oo{b:H}{a c:Nat}{f:jv}(e:b.get a=some f)(d:c≠a)(g:jv):fQ b (fg b a g) c=true:=fZ (by rw[ee e,ao d])
def nM{c:H}{b:Nat}(f:Hp c)(e:b<c.size)(d:jv)(a:Nat):(fg c b d).get a=if a=b then some d else c.get a:=get_put f e d a
@[simp]def ajc (a:Nat):(a<a+1+1)=True:=dN 
@[simp]def ajb (a:Nat):(a<a+1+1+1)=True:=dN 
@[simp]def aja (a:Nat):(a<a+1+1+1+1)=True:=dN 
@[simp high] theorem aic {e:ai} {cx:Ctx} (d:gG) (b:aj) (a:List T) (c:H) (g:d.p b=none):sq e cx d b a c=hl e cx d b a c:=by
 unfold sq;cases Uy c a with
 |none=>rfl
 |some f=>grind [Dx]
def jw{b c:H}{a:Nat}(d:b.get a=none):fQ b c a=true:=by unfold fQ;rw[d]
def mv(b:H){a:Nat}(d:b.size<=a):b.get a=none:=by
 cases c:b.get a with
 |none=>rfl
 |some e=>have:=H.fG c;omega
def Gr.FZ{cx:Ctx}{a:H}{h:T}{b:Nat}{f:List T}(q:Gr a h b f)(l:iE 0 a){g i:ab}{m d:Ty}(j:cx.ty g=some m)(k:m.u= .slice i)(r:cx.ty i=some d)(t:d.size=b)(s:1<=d.bytes){x:T}(w:x.cells.length=b)(v:(f.length+1)*d.bytes<=70368744177664):
 ∃e c,jn cx (a.cons ⟨b,0,0,true,false,[x]⟩) g g h (.arr a.size 0 0 1 false)=some (.val e c)/\Xt a h b (f++[x]) e c:=by
 have n:=(Xt.refl q l).cons ⟨b,0,0,true,false,[x]⟩;have⟨e,c,p,o⟩:=Gr.app (cx:=cx) n.1 (l.cons _) (x:= .arr a.size 0 0 1 false) (xs:=[x]) j k r j k t s (by rw[iF];simp) (by grind) Y D;exact⟨e,c,p,n.trans o.xt⟩
end
end
end Go.TI
namespace Go.Proofs.YtmoiekepclmgbaaGreatDoor
noncomputable section
open Go Go.TI Tryz
attribute [-simp] List.map_take List.map_drop List.map_append fU fK fh Bool.not_or Bool.not_and
attribute [simp] fT fM
section
attribute [-simp] size_cons
abbrev ij(a:List Int):List T:=a.map (T.int .i64)
def tn1(a:List Int):T:=sl (a.map (T.int .i64))
def Tv(e d:Nat)(b c:T)(a:Nat):Prop:=e<=a/\a<d/\eG b≠some a/\eG c≠some a
structure C3(lo hi:Nat)(h:H)(a b:T)(es:List T)(s:fH):Prop where
 ga:Gr h a 1 (ij s.jy)
 gb:Gr h b 1 es
 el:jh (λe l=>qA h 1 e (ij l)/\∀c,eG e=some c->Tv lo hi a b c) es s.kM
 ba:∀c,eG a=some c->lo<=c/\c<hi/\eG b≠some c
 bb:∀c,eG b=some c->lo<=c/\c<hi
def Dw(a:fH)(b c:T):T:= .agg [G a.pC,b,c,G a.dY]
structure TSr(h:H)(a b:T)(es:List T)(s:fH):Prop where
 ra:qA h 1 a (ij s.jy)
 rb:qA h 1 b es
 el:jh (λe l=>qA h 1 e (ij l)) es s.kM
 lt:∀e c,(e=a\/e=b\/e∈es)->eG e=some c->c<h.size
structure ICp where
 (s:fH) (a b:T) (es:List T)
def RN(c:ICp)(e:List T)(d:H):Prop:=e=[Dw c.s c.a c.b]/\TSr d c.a c.b c.es c.s/\iE 0 d/\c.s.jy.length<=1000000/\c.s.kM.length<=1000000/\∀f∈c.s.kM,f.length<=1000000
def LW(e:ICp)(h:List T)(d:H)(g:T)(a:H):Prop:=∃b c f,g=Dw e.s b c/\C3 d.size a.size a b c f e.s/\Nb d a
structure CpS(s:fH)(a b aN:T)(h h':H)(i:Nat):Prop where
 ex:∃ver c es',nS h' (h.size+1+1+1) 4 ver [(G s.pC,none),(aN,some (1,ij s.jy)),(c,some (1,es')),(G s.dY,none)]/\es'.length=i/\
  jh (λe l=>qA h' 1 e (ij l)/\∀k,eG e=some k->h.size+1<k/\k<h'.size/\¬Fp h' (h.size+1+1+1) k) es' (s.kM.take i)
 nb:Nb h h'
 l1:Lb (h.size+1+1+1) h' h.size (dS 4 0 [.agg [G s.pC,a,b,G s.dY]])
 l2:Lb (h.size+1+1+1) h' (h.size+1) (dS 4 0 [.agg [G 0,dR,dR,G 0]])
 lo:∀c,Fp h' (h.size+1+1+1) c->h.size+1<c
def JT:(jY ICp RN LW).Ok prog cx 210:=by
 refine jV (tb:=⟨pt [],ht []⟩) jg iT (jr 262175 [(1,[(1,7),(3,7),(7,9)]),(5,[(1,8)])] func210) (λ_ _=>1000005) (λC z h c9=>by obtain⟨rfl,_⟩:=c9;simp[f210]) ?_;rintro⟨b,z,l,U⟩ _ h ⟨rfl,v,bH,hr,de,bB⟩ E N;simp only at v hr de bB;simp[Dw]at N;have bN:=bH.hr;have P:∀t a,(t=z\/t=l\/t∈U)->eG t=some a->a<h.size:=v.lt;have⟨o,A⟩:∃o:H,o=((TI.hr h).cons (dS 4 0 [.agg [G b.pC,z,l,G b.dY]])).cons (dS 4 0 [.agg [G 0,dR,dR,G 0]]):=⟨_,rfl⟩;have dn:iE 0 o:=by subst A;exact(bN.cons _).cons _
 have b8:o.size=h.size+1+1:=by subst A;rfl
 have bC:Nb (TI.hr h) o:=by subst A;exact((Nb.refl bN).cons _).cons _
 have cF:o.get h.size=some (dS 4 0 [.agg [G b.pC,z,l,G b.dY]]):=by subst A;simp
 have cL:o.get (h.size+1)=some (dS 4 0 [.agg [G 0,dR,dR,G 0]]):=by subst A;simp
 have ea:qA o 1 z (ij b.jy):=v.ra.mono λa c=>(bC.get a (P z a (.inl rfl) c)).trans (iI h a);have⟨cb,m,L,⟨eL,eu,gA⟩,Z,r,s⟩:=kQ (cx:=cx) dn qv rfl zv qv rfl rfl Y ea.jM (by simp[T.cells]) dN;simp[A]at L;have eF:h.low<=h.size:=bH.low;have R:∀l,l<o.size->fQ (o.cons (dS 1 0 [])) m l=true:=λl c4=>fZ ((r l c4).trans (by rw[ez,ao D]));have b7:fQ (o.cons (dS 1 0 [])) m m.size=true:=jw (mv _ dN);rw[b8]at R;replace R:=R h.size D;rw[A]at R b7;simp[f210,N,L,R,b7];have a7:m.size=h.size+1+1+1:=D;simp only[a7];generalize bp:T.arr (h.size+1+1) cb 0 b.jy.length false=n;have gN:Gr m n 1 (ij b.jy):=by rw[<-bp];have:=Gr.new gA;rw[b8]at this;simpa using this
 have a8:∀a,eG n=some a->a=h.size+1+1:=λa c=>by rw[<-bp]at c;simp at c;exact c.symm
 have eI:iE 0 m:=s;refine gu b.kM.length D (λC E g=>CpS b z l n h g C/\dT E 1 (.ptr h.size 0 0 0)/\dT E 2 (.ptr (h.size+1) 0 0 0)/\dT E 3 (.ptr (h.size+1+1+1) 0 0 0)/\dT E 4 (G C)) ?_ ?_ D ?_
 ·rintro C E g bA c1 ⟨⟨⟨ver,a,I,e,bu,S⟩,q,l1,l2,O⟩,m,al,an,ap⟩;have J:=e.get;simp at J;have eb:∀x,qA (g.cons x) 1 l U:=λx=>v.rb.mono λa c=>by have:=P l a (.inr (.inl rfl)) c;rw[ez,ao (by have:=q.ok.sz;omega)];exact q.get a this
  have av:=v.el.length;have aA:=(show qA g 1 l U from v.rb.mono λa c=>q.get a (P l a (.inr (.inl rfl)) c)).len (cx:=cx) g Jd _ rfl;have⟨u,hl⟩:∃u,b.kM[C]? =some u:=⟨_,az bA⟩;have c6:=ay hl;have⟨t,bs,bT⟩:=v.el.get hl;have ec:qA g 1 t (ij u):=bT.mono λa c=>q.get a (P t a (.inr (.inr (ay bs))) c);have⟨p,b9,ca⟩:=(eb (dS 1 0 [])).idx (te:=pf) rfl rfl bs bT.iN.2;have ds:iE 0 g:=e.ok;have⟨bn,M,L,⟨eM,ey,gA⟩,Z,r,s⟩:=kQ (cx:=cx) ds kx rfl mP kx rfl rfl Y ec.jM (by simp[T.cells]) (by have:=bB u c6;simp;omega);have er:Step (h.size+1+1+1) g M:=(Nb.mk ⟨s.hp,s.low,D⟩ r:Nb g M).step e.lt;have bW:=e.step s λa c=>r a (e.fp a c);have⟨et,eD,bi,a6⟩:=(bW.gr 2 rfl).FZ (cx:=cx) s WH rfl kx rfl Y (x:= .arr g.size bn 0 (ij u).length false) rfl dN;have⟨bS,eK,dv⟩:=bW.app 2 rfl a6;have⟨Q,bX⟩:=dv _ rfl;simp at bS Q bX;simp[Z]at L bi;have eo:∀a,a<g.size->fQ (g.cons (dS 1 0 [])) M a=true:=λa c=>fZ ((r a c).trans (by rw[ez,ao D]));have dk:(h.size=g.size)=False:=by have:=l1.lt;simp;omega
  have eH:(h.size+1+1+1=g.size)=False:=by have:=e.lt;simp;omega
  have eh:=eo _ e.lt;have eA:=(r _ e.lt).trans J;simp[m,al,an,ap,l1.get,J,aA,av,bA,b9,ca,L,Z,bi,bS,dk,eh,eZ,a6.1.iN,a6.1.cells,c1];have y:=er.trans Q;have eE:=y.ok.sz;have eC:M.size=g.size+1:=Z;refine⟨⟨_,et,I++[.arr g.size bn 0 u.length false],bX,by simp[bu],?_⟩,?_,l1.step y,l2.step y,λa c=>?_⟩
  ·have dd:b.kM.take (C+1)=b.kM.take C++[u]:=by
    rw[dx,hl];rfl
   rw[dd];refine jh.append (S.imp λt u k=>⟨k.1.mono λd i=>?_,λd i=>?_⟩) (.cons ⟨.inr ?_,λd i=>?_⟩ .nil)
   ·have⟨aE,V,K⟩:=k.2 d i;exact y.get d V K
   ·have⟨aE,V,K⟩:=k.2 d i;exact⟨aE,D,λf=>(y.fp d f).elim K λf=>by omega⟩
   ·have B:¬Fp M (h.size+1+1+1) g.size:=λf=>by
     rw[jt (r _ e.lt)]at f;have:=e.fp _ f;omega
    have:=Gr.new ((Q.get g.size D B).trans gA);simpa using this
   ·simp at i;subst i;refine⟨by have:=l2.lt;omega,by have:=Q.ok.sz;omega,λf=>?_⟩;rcases Q.fp _ f with f|f
    ·rw[jt (r _ e.lt)]at f;have:=e.fp _ f;omega
    ·omega
  ·refine⟨⟨y.ok.hp,y.ok.low,by have:=q.ok.sz;omega⟩,λa c=>?_⟩;exact(y.get a (by have:=q.ok.sz;omega) λf=>by have:=O a f;omega).trans (q.get a c)
  ·rcases y.fp a c with f|f
   ·exact O a f
   ·have:=l2.lt;omega
 ·rintro E g ⟨⟨⟨ver,a,I,e,bu,S⟩,q,l1,l2,O⟩,m,al,an,ap⟩;have J:=e.get;simp at J;have av:=v.el.length;have aA:=(show qA g 1 l U from v.rb.mono λa c=>q.get a (P l a (.inr (.inl rfl)) c)).len (cx:=cx) g Jd _ rfl;rw[aI]at S;have cX:∀X,(fg g (h.size+1) X).get (h.size+1)=some X:=λX=>(ee l2.get X _).trans (aq rfl);have W:=e.qh l2 (dS 4 1 [.agg [G b.pC,n,a,G b.dY]]);simp[m,al,an,ap,l1.get,l2.get,J,aA,av,eZ,cX];have b6:=W.step (W.ok.out h) λa _=>il h _ a;have c7:∀d,h.size+1<d->(fg g (h.size+1) (dS 4 1 [.agg [G b.pC,n,a,G b.dY]])).get d=g.get d:=λd i=>by rw[ee l2.get,ao D]
  have eB:=e.gr 2 rfl;have aN:(n,some (1,ij b.jy))∈ [((G b.pC:T),(none:aa (Nat×List T))),(n,some (1,ij b.jy)),(a,some (1,I)),(G b.dY,none)]:=Y;have aX:(a,some (1,I))∈ [((G b.pC:T),(none:aa (Nat×List T))),(n,some (1,ij b.jy)),(a,some (1,I)),(G b.dY,none)]:=Y;refine⟨n,a,I,rfl,⟨b6.gr 1 rfl,b6.gr 2 rfl,S.imp λt u k=>⟨k.1.mono λd i=>?_,λd i=>?_⟩,λd i=>?_,λd i=>?_⟩,⟨⟨(W.ok.out h).hp,(W.ok.out h).low,by simp;exact q.ok.sz⟩,λd i=>?_⟩⟩
  ·rw[il];exact c7 d (k.2 d i).1
  ·have⟨aE,V,K⟩:=k.2 d i;exact⟨D,by simpa using V,λk=>K (e.DG aN k),λk=>K (e.DG aX k)⟩
  ·have:=e.fp d (e.DG aN i);have:=O d (e.DG aN i);exact⟨D,by simpa,e.YI 1 2 dP _ _ rfl rfl d i⟩
  ·have:=e.fp d (e.DG aX i);have:=O d (e.DG aX i);exact⟨D,by simpa⟩
  ·rw[il,ee l2.get,ao D];exact q.get d i
 ·have di:m.low<=h.size+1+1+1:=by have:=s.low;omega
  have dm:Nb h m:=⟨⟨s.hp,s.low,D⟩,λa c=>(r a D).trans ((bC.get a c).trans (iI h a))⟩;obtain⟨ef,cp⟩:=nS.one (i0:=1) (h:=m.cons (dS 4 1 [.agg [G b.pC,n,dR,G b.dY]])) (w:=h.size+1+1+1) (szw:=4) (ver:=1) (F:=[(G b.pC,none),(n,some (1,ij b.jy)),(dR,some (1,[])),(G b.dY,none)]) (s.cons _) (by simp[a7]) (λf B=>by
   simp only[cu,cO,or_false]at B;rcases B with rfl|rfl|rfl|rfl
   ·show eG _=none;simp
   ·exact⟨gN.mono λa c=>by rw[a8 a c,ez,ao D],show(1:Nat)≠4 by decide⟩
   ·exact⟨Gr.nil _ _,dP⟩
   ·show eG _=none;simp) (λj z N k=>by
   rcases j with _|_|_|_|j<;>simp at N<;>subst N<;>simp at k|-)
  have ae:∀a,Fp (m.cons (dS 4 1 [.agg [G b.pC,n,dR,G b.dY]])) (h.size+1+1+1) a->h.size+1<a:=λa c=>by
   rcases cp a c with k|⟨f,B,k⟩
   ·omega
   ·simp at B;subst B;have:=a8 a k;omega
  simp[a7,di];refine⟨⟨_,_,[],ef,rfl,.nil⟩,dm.cons _,⟨?_,λk=>?_⟩,⟨?_,λk=>?_⟩,ae⟩
  ·rw[ez,ao D];exact(r h.size D).trans cF
  ·have:=ae _ k;omega
  ·rw[ez,ao D];exact(r (h.size+1) D).trans cL
  ·have:=ae _ k;omega
def Xs(b c:H)(d:T)(e:List Int):Prop:=qA c 1 d (ij e)/\Nb b c/\∀a,eG d=some a->b.size<=a
structure IUn where
 (x y:List Int) (u v:T)
def RG(a:IUn)(c:List T)(b:H):Prop:=c=[a.u,a.v]/\qA b 1 a.u (ij a.x)/\qA b 1 a.v (ij a.y)/\a.x.length+a.y.length<=10000000/\iE 0 b
def LT(a:IUn)(e:List T)(b:H)(d:T)(c:H):Prop:=Xs b c d (BP a.x a.y)
def Pl(b:T)(a:List Int):Prop:=(b= dR/\a=[])\/b=sl (ij a)
def Pl.qC{a:T}{b:List Int}(d:Pl a b)(c:H):qC c a=some (sl (ij b))/\kE a=true/\a.iN=true:=by
 rcases d with⟨rfl,rfl⟩|rfl<;>simp
def Pl.rd{a:T}{b:List Int}(d:Pl a b)(c:H):qA c 1 a (ij b)/\eG a=none:=by
 rcases d with⟨rfl,rfl⟩|rfl
 ·exact⟨.inr (Gr.nil _ _),rfl⟩
 ·exact⟨.inl rfl,Y⟩
def JC:(jY IUn RG LT).Ok prog cx 93:=by
 refine jV (tb:=⟨pt [(133,LO)],ht []⟩) jg iT (jr 8390899 [] func93) (λ_ _=>10000005) (λi P b M=>by obtain⟨rfl,_⟩:=M;simp[f93]) ?_;rintro⟨x,g,J,A⟩ _ b ⟨rfl,E,H,hl,N⟩ c B;simp only at E H hl;simp at B;obtain⟨k,d⟩:=B;have F:qA (hr b) 1 J (ij x):=E.mono λl _=>iI b l;have I:qA (hr b) 1 A (ij g):=H.mono λl _=>iI b l;have y:=F.len (cx:=cx) (hr b) pf _ rfl;have z:=I.len (cx:=cx) (hr b) pf _ rfl;rw[aG]at y z;simp[f93];refine gu x.length D (λa c s=>s=hr b/\dT c 0 J/\dT c 1 A/\dT c 6 (G a)/\∃f,dT c 5 f/\Pl f (mZ [] (x.take a))) ?_ ?_ D (by simp[k,d];exact .inl ⟨rfl,rfl⟩)
 ·rintro a c _ j v ⟨rfl,k,d,t,f,h,e⟩;have⟨O,m,n⟩:=F.idx (te:=D3) rfl rfl (i:=a) (x:= G x[a]) (by simp[j]) rfl;have w:=Aa [] (x.take a);simp at w;have⟨q,r,K⟩:=e.qC (hr b);have o:=λ{tb:gG} (ht:tb.p 133=some LO)=>aeZ ht (mZ [] (x.take a)) x[a] D;simp[k,d,h,t,y,j,v,m,n,q,r,o,CN [] x j];exact .inr rfl
 ·rintro c _ ⟨rfl,k,d,t,f,h,e⟩;rw[aI]at e;simp[k,t,y];refine gu g.length D (λa c s=>s=hr b/\dT c 1 A/\dT c 7 (G a)/\∃f,dT c 5 f/\Pl f (mZ (mZ [] x) (g.take a))) ?_ ?_ D (by simp[d,h];exact e)
  ·rintro a c _ j v ⟨rfl,d,u,f,h,e⟩;have⟨O,m,n⟩:=I.idx (te:=D3) rfl rfl (i:=a) (x:= G g[a]) (by simp[j]) rfl;have w:=Aa (mZ [] x) (g.take a);have L:=Aa [] x;simp at w L;have⟨q,r,K⟩:=e.qC (hr b);have o:=λ{tb:gG} (ht:tb.p 133=some LO)=>aeZ ht (mZ (mZ [] x) (g.take a)) g[a] D;simp[d,h,u,z,j,v,m,n,q,r,o,CN (mZ [] x) g j];exact .inr rfl
  ·rintro c _ ⟨rfl,d,u,f,h,e⟩;rw[aI]at e;simp[d,h,u,z];have⟨r1,r2⟩:=e.rd (mK b (hr b));exact⟨r1,(Nb.refl N.hr).out,λl C=>by rw[r2]at C;simp at C⟩
def Lk(f:H)(d:Nat->Prop)(e:T)(c:em):Prop:=∃a,e= .agg [G c.jl,a]/\qA f 1 a (ij c.fF)/\∀b,eG a=some b->d b
structure Dp(lo hi:Nat)(h:H)(c0 c2 c3:T)(es:List T)(S:gh):Prop where
 g0:Gr h c0 2 es
 g2:Gr h c2 1 (S.done.map T.bool)
 g3:Gr h c3 3 (S.dW.map dZ.t)
 el:jh (Lk h λc=>lo<=c/\c<hi/\eG c0≠some c/\eG c2≠some c/\eG c3≠some c) es S.fj
 b:∀c,(eG c0=some c\/eG c2=some c\/eG c3=some c)->lo<=c/\c<hi
def Pb(a:gh)(b c d:T):T:= .agg [b,G a.tx,c,d]
def GU(a:gh)(b:List T)(c:H):Prop:=b=[a.t]/\iE 0 c/\a.fj.length<=1000000/\a.done.length<=1000000/\a.dW.length<=1000000/\∀d∈a.fj,d.fF.length<=1000000
def LX(b:gh)(i:List T)(f:H)(h:T)(a:H):Prop:=∃c d e g,h=Pb b c d e/\Dp f.size a.size a c d e g b/\Nb f a
structure C8(S:gh)(c2 c3:T)(h h':H)(i:Nat):Prop where
 ex:∃ver c0 es,nS h' (h.size+1+1+1+1) 4 ver [(c0,some (2,es)),(G S.tx,none),(c2,some (1,S.done.map T.bool)),(c3,some (3,S.dW.map dZ.t))]/\es.length=i/\
  jh (Lk h' λk=>h.size+1<k/\k<h'.size/\¬Fp h' (h.size+1+1+1+1) k) es (S.fj.take i)
 nb:Nb h h'
 l1:Lb (h.size+1+1+1+1) h' h.size (dS 4 0 [S.t])
 l2:Lb (h.size+1+1+1+1) h' (h.size+1) (dS 4 0 [.agg [dR,G 0,dR,dR]])
 lo:∀c,Fp h' (h.size+1+1+1+1) c->h.size+1<c
def EM:(jY gh GU LX).Ok prog cx 47:=by
 refine jV (tb:=⟨pt [],ht []⟩) jg iT (jr 1048607 [(1,[(1,5),(5,6),(5,8),(1,9),(5,11),(9,11)]),(5,[(1,15),(3,15),(5,15),(7,15)])] func47) (λ_ _=>1000005) (λz K b eh=>by obtain⟨rfl,_⟩:=eh;simp[f47]) ?_;rintro c _ b ⟨rfl,eA,hl,eU,ht,hr⟩ J E;simp at E;have bC:=eA.hr;have⟨p,C⟩:∃p:H,p=((TI.hr b).cons (dS 4 0 [c.t])).cons (dS 4 0 [.agg [dR,G 0,dR,dR]]):=⟨_,rfl⟩;have eB:iE 0 p:=by subst C;exact(bC.cons _).cons _
 have eM:p.size=b.size+1+1:=by subst C;rfl
 have ey:Nb b p:=by subst C;exact⟨(((Nb.refl bC).cons _).cons _).ok,λa h=>((((Nb.refl bC).cons _).cons _).get a h).trans (iI b a)⟩
 have ca:p.get b.size=some (dS 4 0 [c.t]):=by subst C;simp
 have dn:p.get (b.size+1)=some (dS 4 0 [.agg [dR,G 0,dR,dR]]):=by subst C;simp
 have⟨bn,o,L,⟨e5,eN,gA⟩,a7,m,R⟩:=kQ (cx:=cx) eB (x:=sl (c.done.map T.bool)) (xs:=c.done.map T.bool) Cu rfl KS Cu rfl rfl Y Y (λe eb=>by obtain⟨n,_,rfl⟩:=List.mem_map.1 eb;rfl) dN;have⟨N,k,M,⟨eI,dm,cb⟩,e6,Q,okB⟩:=kQ (cx:=cx) R (x:=sl (c.dW.map dZ.t)) (xs:=c.dW.map dZ.t) FF rfl DJ FF rfl rfl Y Y Y dN;have b7:o.size=b.size+1+1+1:=D;have ae:k.size=b.size+1+1+1+1:=D;have X:∀n,n<p.size->fQ (p.cons (dS 1 0 [])) o n=true:=λn V=>fZ ((m n V).trans (by rw[ez,ao D]));have c6:∀n,n<o.size->fQ (o.cons (dS 3 0 [])) k n=true:=λn V=>fZ ((Q n V).trans (by rw[ez,ao D]));have bS:=X b.size D;have c7:=c6 b.size D;have bW:fQ (p.cons (dS 1 0 [])) o (b.size+1+1+1+1)=true:=jw (mv _ dN);have c9:fQ (o.cons (dS 3 0 [])) k (b.size+1+1+1+1)=true:=jw (mv _ dN);have bT:fQ (p.cons (dS 1 0 [])) o (b.size+1+1+1)=true:=jw (mv _ dN);have bs:=(m b.size D).trans ca;have dv:=(Q b.size D).trans bs;simp[C]at L;simp[b7]at M;rw[C]at bS bT bW;simp[f47,E,L,M,bS,bT,c7,bW,c9,bs,b7,ae];have di:=(show Gr k (.arr (b.size+1+1) bn 0 c.done.length false) 1 (c.done.map T.bool)by
  have:=Gr.new ((Q p.size D).trans gA);rw[eM]at this;simpa using this)
 have dk:=(show Gr k (.arr (b.size+1+1+1) N 0 c.dW.length false) 3 (c.dW.map dZ.t)by
  have:=Gr.new cb;rw[b7]at this;simpa using this)
 have eu:Nb b k:=⟨⟨okB.hp,okB.low,D⟩,λa h=>(Q a D).trans ((m a D).trans (ey.get a h))⟩;have eK:=(Q b.size D).trans ((m b.size D).trans ca);have eL:=(Q (b.size+1) D).trans ((m (b.size+1) D).trans dn);have er:k.low<=b.size+1+1+1+1:=by have:=okB.low;omega
 have b8:∀a,eG (.arr (b.size+1+1) bn 0 c.done.length false)=some a->a=b.size+1+1:=λa q=>by simpa using q.symm
 have b9:∀a,eG (.arr (b.size+1+1+1) N 0 c.dW.length false)=some a->a=b.size+1+1+1:=λa q=>by simpa using q.symm
 clear L M X c6 bS bT bW c7 c9 bs dv gA cb;generalize T.arr (b.size+1+1) bn 0 c.done.length false=r at*
 generalize T.arr (b.size+1+1+1) N 0 c.dW.length false=s at*
 refine gu c.fj.length D (λz J i=>C8 c r s b i z/\dT J 1 (.ptr b.size 0 0 0)/\dT J 2 (.ptr (b.size+1) 0 0 0)/\dT J 3 (.ptr (b.size+1+1+1+1) 0 0 0)/\dT J 4 (G z)) ?_ ?_ D ?_
 ·rintro z J i aA ea ⟨⟨⟨eH,A,B,d,cp,al⟩,P,l1,l2,aN⟩,o,k,an,ap⟩;have O:=d.get;simp at O;have⟨l,av⟩:∃l,c.fj[z]? =some l:=⟨_,az aA⟩;have eW:=hr l (ay av);have⟨N,U,L,⟨eI,dm,gA⟩,a7,m,R⟩:=kQ (cx:=cx) d.ok (x:=sl (ij l.fF)) (xs:=ij l.fF) kx rfl mP kx rfl rfl Y Y (by simp[T.cells]) dN;have eE:Step (b.size+1+1+1+1) i U:=(Nb.mk ⟨R.hp,R.low,D⟩ m:Nb i U).step d.lt;have dd:=d.step R λa h=>m a (d.fp a h);have⟨eF,eS,M,b6⟩:=(dd.gr 0 rfl).FZ (cx:=cx) R II rfl IF rfl Y (x:= .agg [G l.jl,.arr i.size N 0 (ij l.fF).length false]) rfl dN;have⟨aX,e4,bH⟩:=dd.app 0 rfl b6;have⟨Z,de⟩:=bH _ rfl;simp at aX Z de;simp[a7]at L M;have X:∀a,a<i.size->fQ (i.cons (dS 1 0 [])) U a=true:=λa h=>fZ ((m a h).trans (by rw[ez,ao D]));have et:(b.size=i.size)=False:=by have:=l1.lt;simp;omega
  have e0:(b.size+1+1+1+1=i.size)=False:=by have:=d.lt;simp;omega
  have eC:=X _ d.lt;have eD:=X _ l1.lt;have eP:=(m _ d.lt).trans O;have eO:=(m _ l1.lt).trans l1.get;simp[o,an,ap,l1.get,O,aA];have ef:c.fj[z]=l:=by rw[az aA]at av;simpa using av
  simp[o,k,an,ap,aA,ef,L,a7,M,aX,et,eC,eD,eZ,b6.1.iN,b6.1.cells,ea];have w:=eE.trans Z;have eX:=w.ok.sz;have eR:U.size=i.size+1:=a7;refine⟨⟨_,eF,B++[.agg [G l.jl,.arr i.size N 0 l.fF.length false]],de,by simp[cp],?_⟩,?_,l1.step w,l2.step w,λa h=>?_⟩
  ·have eo:c.fj.take (z+1)=c.fj.take z++[l]:=by
    rw[dx,av];rfl
   rw[eo];refine jh.append (al.imp λe l ⟨bN,a8,bi,S⟩=>⟨bN,a8,bi.mono λg j=>?_,λg j=>?_⟩) (.cons ⟨_,rfl,.inr ?_,λg j=>?_⟩ .nil)
   ·have⟨bA,aE,I⟩:=S g j;exact w.get g aE I
   ·have⟨bA,aE,I⟩:=S g j;exact⟨bA,D,λf=>(w.fp g f).elim I λf=>by omega⟩
   ·have F:¬Fp U (b.size+1+1+1+1) i.size:=λf=>by
     rw[jt (m _ d.lt)]at f;have:=d.fp _ f;omega
    have:=Gr.new ((Z.get i.size D F).trans gA);simpa using this
   ·simp at j;subst j;refine⟨by have:=l2.lt;omega,by have:=Z.ok.sz;omega,λf=>?_⟩;rcases Z.fp _ f with f|f
    ·rw[jt (m _ d.lt)]at f;have:=d.fp _ f;omega
    ·omega
  ·refine⟨⟨w.ok.hp,w.ok.low,by have:=P.ok.sz;omega⟩,λa h=>?_⟩;exact(w.get a (by have:=P.ok.sz;omega) λf=>by have:=aN a f;omega).trans (P.get a h)
  ·rcases w.fp a h with f|f
   ·exact aN a f
   ·have:=l2.lt;omega
 ·rintro J i ⟨⟨⟨eH,A,B,d,cp,al⟩,P,l1,l2,aN⟩,o,k,an,ap⟩;have O:=d.get;simp at O;rw[aI]at al;have ds:∀y,(fg i (b.size+1) y).get (b.size+1)=some y:=λy=>(ee l2.get y _).trans (aq rfl);have a6:=d.qh l2 (dS 4 1 [.agg [A,G c.tx,r,s]]);simp[o,k,an,ap,l1.get,l2.get,O,eZ,ds];have bX:=a6.step (a6.ok.out b) λa _=>il b _ a;have cL:(A,some (2,B))∈ [(A,some (2,B)),((G c.tx:T),(none:aa (Nat×List T))),(r,some (1,c.done.map T.bool)),(s,some (3,c.dW.map dZ.t))]:=Y;have cX:(r,some (1,c.done.map T.bool))∈ [(A,some (2,B)),((G c.tx:T),(none:aa (Nat×List T))),(r,some (1,c.done.map T.bool)),(s,some (3,c.dW.map dZ.t))]:=Y;have c1:(s,some (3,c.dW.map dZ.t))∈ [(A,some (2,B)),((G c.tx:T),(none:aa (Nat×List T))),(r,some (1,c.done.map T.bool)),(s,some (3,c.dW.map dZ.t))]:=Y;refine⟨A,r,s,B,rfl,⟨bX.gr 0 rfl,bX.gr 2 rfl,bX.gr 3 rfl,al.imp λe l ⟨bN,a8,bi,S⟩=>⟨bN,a8,bi.mono λg j=>?_,λg j=>?_⟩,λg j=>?_⟩,⟨⟨(a6.ok.out b).hp,(a6.ok.out b).low,by simp;exact P.ok.sz⟩,λg j=>?_⟩⟩
  ·rw[il,ee l2.get,ao (by have:=(S g j).1;omega)]
  ·have⟨bA,aE,I⟩:=S g j;exact⟨D,by simpa using aE,λq=>I (d.DG cL q),λq=>I (d.DG cX q),λq=>I (d.DG c1 q)⟩
  ·have F:Fp i (b.size+1+1+1+1) g:=by
    rcases j with q|q|q
    ·exact d.DG cL q
    ·exact d.DG cX q
    ·exact d.DG c1 q
   have:=d.fp g F;have:=aN g F;exact⟨D,by simpa⟩
  ·rw[il,ee l2.get,ao D];exact P.get g j
 ·have bB:∀(u:Nat) (K:T×aa (Nat×List T)) a,[(T.ed [] false,some (2,[])),((G c.tx:T),(none:aa (Nat×List T))),(r,some (1,c.done.map T.bool)),(s,some (3,c.dW.map dZ.t))][u]? =some K->eG K.1=some a->a=b.size+u:=λu K a E q=>by
   rcases u with _|_|_|_|u<;>simp at E<;>subst E
   ·simp at q
   ·simp at q
   ·have:=b8 a q;omega
   ·have:=b9 a q;omega
  have c4:nS (k.cons (dS 4 1 [.agg [dR,G c.tx,r,s]])) (b.size+1+1+1+1) 4 1 [(T.ed [] false,some (2,[])),(G c.tx,none),(r,some (1,c.done.map T.bool)),(s,some (3,c.dW.map dZ.t))]:=by
   refine⟨okB.cons _,by simp[ae],λf F=>?_,λu g eV K n E V a aX bH=>?_⟩
   ·simp only[cu,cO,or_false]at F;rcases F with rfl|rfl|rfl|rfl
    ·exact⟨Gr.nil _ _,show(2:Nat)≠4 by decide⟩
    ·show eG _=none;simp
    ·exact⟨di.mono λa h=>by have:=b8 a h;rw[ez,ao (by rw[ae];omega)],show(1:Nat)≠4 by decide⟩
    ·exact⟨dk.mono λa h=>by have:=b9 a h;rw[ez,ao (by rw[ae];omega)],show(3:Nat)≠4 by decide⟩
   ·have:=bB u K a E aX;have:=bB g n a V bH;omega
  have bp:∀a,Fp (k.cons (dS 4 1 [.agg [dR,G c.tx,r,s]])) (b.size+1+1+1+1) a->b.size+1<a:=λa h=>by
   rcases h with q|⟨x,bu,v,cF,q⟩
   ·omega
   ·rw[c4.get]at bu;simp only[ar]at bu;subst bu;simp only[gH,bm,cC,bG,T.cells]at cF;obtain⟨f,ec,rfl⟩:=List.mem_map.1 cF;have⟨u,W⟩:=cN ec;have j:=bB u f a W q;rcases u with _|_|u
    ·simp at W;subst W;simp at q
    ·simp at W;subst W;simp at q
    ·omega
  simp[ae,er];refine⟨⟨_,_,[],c4,rfl,.nil⟩,eu.cons _,⟨?_,λq=>?_⟩,⟨?_,λq=>?_⟩,bp⟩
  ·rw[ez,ao D];exact eK
  ·have:=bp _ q;omega
  ·rw[ez,ao D];exact eL
  ·have:=bp _ q;omega
structure Ac(h0 h':H)(v:T)(l:List Int):Prop where
 nb:Nb h0 h'
 g:Gr h' v 1 (ij l)
 lo:∀c,eG v=some c->h0.size<=c
def Ac.start{a:H}(b:iE 0 a):Ac a a dR []:=⟨Nb.refl b,Gr.nil _ _,λd c=>by simp at c⟩
def Ac.my{m h:H}{n:T}{j:List Int}(a:Ac m h n j)(l:Int)(s:j.length<=10000000):∃d c,jn cx (h.cons (dS 1 0 [G l])) 38 38 n (.arr h.size 0 0 1 false)=some (.val d c)/\Ac m c d (j++[l]):=by
 have⟨d,c,e,o,p,r,k⟩:=a.g.my (cx:=cx) (f:=T.int .i64) ⟨a.nb.ok.hp,a.nb.ok.low,aw _⟩ kx rfl mP rfl Y (λ_=>rfl) l dN;have:=a.nb.ok.sz;refine⟨d,c,e,⟨⟨k.hp,k.low,aQ a.nb.ok.sz k.sz⟩,λb i=>(p b D λq=>by have:=a.lo b q;omega).trans (a.nb.get b i)⟩,o,λb i=>?_⟩;rcases r b i with q|q
 ·exact a.lo b q
 ·omega
def Ac.J4{a c:H}{l:T}{i:List Int}{h:H}(e:Ac h c l i)(j:Nb a h):Xs a (mK a c) l i:=by
 have d:=j.trans e.nb;have k:iE 0 c:=⟨d.ok.hp,d.ok.low,aw _⟩;have:=j.ok.sz;exact⟨.inr (e.g.out a),⟨⟨(k.out a).hp,(k.out a).low,d.ok.sz⟩,λb f=>(il a c b).trans (d.get b f)⟩,λb f=>by have:=e.lo b f;omega⟩
structure IWt where
 (S:gh) (c0 c2 c3:T) (c:Int)
def Yb(a:IWt)(d:List T)(b:H):Prop:=d=[Pb a.S a.c0 a.c2 a.c3,G a.c]/\Gr b a.c3 3 (a.S.dW.map dZ.t)/\a.S.dW.length<=1000000/\iE 0 b
def RP(a:IWt)(f:List T)(b:H)(e:T)(d:H):Prop:=Xs b d e (iW a.c a.S.dW 0)
def Lt(c:Int)(b:List dZ)(a:Nat)(d:a<b.length):iW c (b.drop a) a=if b[a].jf=3/\b[a].cond=c then(a:Int)::iW c (b.drop (a+1)) (a+1)else iW c (b.drop (a+1)) (a+1):=by
 rw[aH d,iW]
def EG:(jY IWt Yb RP).Ok prog cx 48:=by
 refine jV (tb:=⟨pt [],ht []⟩) jg iT (jr 1073743991 [] func48) (λ_ _=>1000005) (λi d a R=>by obtain⟨rfl,_⟩:=R;simp[f48]) ?_;rintro⟨b,k,l,c,j⟩ _ a ⟨rfl,o,hl,z⟩ m E;simp only at o hl;simp[Pb]at E;obtain⟨N,f⟩:=E;have T:=z.hr.cons (dS 4 0 [.agg [k,G b.tx,l,c]]);have M:Gr ((hr a).cons (dS 4 0 [.agg [k,G b.tx,l,c]])) c 3 (b.dW.map dZ.t):=o.mono λe r=>by
  have⟨_,_,_,_,A,_⟩:=o.box r;rw[ez,ao (by have:=H.fG A;simp;omega),iI]
 have l3:∀e,eG c=some e->e<a.size:=λe r=>by have⟨_,_,_,_,A,_⟩:=o.box r;exact H.fG A
 have w:=λf:H=>o.len (cx:=cx) f Q7 _ rfl;rw[aG]at w;simp[f48,N];have B:((hr a).cons (dS 4 0 [.agg [k,G b.tx,l,c]])).get a.size=some (dS 4 0 [.agg [k,G b.tx,l,c]]):=Y;have S:Nb a ((hr a).cons (dS 4 0 [.agg [k,G b.tx,l,c]])):=⟨((Nb.refl z.hr).cons _).ok,λj Q=>(((Nb.refl z.hr).cons _).get j Q).trans (iI a j)⟩;have av:((hr a).cons (dS 4 0 [.agg [k,G b.tx,l,c]])).size=a.size+1:=rfl;generalize ae:(hr a).cons (dS 4 0 [.agg [k,G b.tx,l,c]])=O at*
 refine gu b.dW.length D (λh m h'=>∃s n,Ac O h' s n/\n.length<=h/\n++iW j (b.dW.drop h) h=iW j b.dW 0/\dT m 1 (G j)/\dT m 2 (.ptr a.size 0 0 0)/\dT m 5 s/\dT m 6 (G h)) ?_ ?_ D ⟨_,_,Ac.start T,aw _,rfl,by simp[f]⟩
 ·rintro h m h' x F ⟨s,n,d,P,g,f,p,u,q⟩;have v:=(d.nb.get a.size D).trans B;have⟨e,W,an,X,ap,V,J,K,C⟩:=(M.mono (h':=h') λe r=>d.nb.get e (by have:=l3 e r;omega)).Bf (te:=CD) rfl (i:=h) (by simpa using x);simp at C;rw[Lt j _ _ x]at g;simp[f,p,q,w,x,v,J,K,C];generalize b.dW[h]=al at*
  refine fw (λy=>?_) (λy=>?_)
  ·rw[aq (by simpa using y)]at g;have⟨U,Z,L,I⟩:=d.my (h:Int) D;simp[f,p,u,q,L,F];exact⟨U,_,I,dN,by simpa using g,rfl⟩
  ·rw[ao (by simpa using y)]at g;simp[f,p,u,q,F];exact⟨s,n,d,D,g,rfl⟩
 ·rintro m h' ⟨s,n,d,P,g,f,p,u,q⟩;have v:=(d.nb.get a.size D).trans B;simp[iW]at g;subst g;simp[p,u,q,w,v];exact d.J4 S
structure IWo where
 (l:List Int) (v:T) (n:Int)
def Yc(a:IWo)(d:List T)(b:H):Prop:=d=[a.v,G a.n]/\qA b 1 a.v (ij a.l)/\(∀c,eG a.v=some c->c<b.size)/\a.l.length<=1000000/\iE 0 b
def RQ(a:IWo)(f:List T)(b:H)(d:T)(c:H):Prop:=Xs b c d (a.l.filter λe=> !decide (e=a.n))
def Ma:(jY IWo Yc RQ).Ok prog cx 94:=by
 refine jV (tb:=⟨pt [],ht []⟩) jg iT (jr 263283 [] func94) (λ_ _=>1000005) (λi f h F=>by obtain⟨rfl,_⟩:=F;simp[f94]) ?_;rintro⟨l,K,r⟩ _ h ⟨rfl,t,z,hl,s⟩ e w;simp only at t z hl;simp at w;obtain⟨c,a⟩:=w;have I:Nb h (hr h):=⟨⟨s.hr.hp,s.hr.low,au _⟩,λj _=>iI h j⟩;have o:=λa:H=>t.len (cx:=cx) a pf _ rfl;rw[aG]at o;simp[f94];refine gu l.length D (λd e h'=>∃m g,Ac (hr h) h' m g/\g.length<=d/\g++(l.drop d).filter (λx=> !decide (x=r))=l.filter (λx=> !decide (x=r))/\dT e 0 K/\dT e 1 (G r)/\dT e 5 m/\dT e 6 (G d)) ?_ ?_ D ⟨_,_,Ac.start s.hr,aw _,rfl,by simp[c,a]⟩
 ·rintro d e h' p y ⟨m,g,f,C,b,c,a,n,k⟩;have⟨M,u,v⟩:=(t.mono (h':=h') λj E=>(f.nb.get j (by simpa using z j E)).trans (iI h j)).idx (te:=D3) rfl rfl (i:=d) (x:= G l[d]) (by simp[p]) rfl;rw[aH p,List.filter_cons]at b;simp[c,a,k,o,p,u,v];generalize l[d]=x at*
  refine fw (λq=>?_) (λq=>?_)
  ·rw[aq (by simpa using q)]at b;have⟨J,L,B,A⟩:=f.my x D;simp[c,a,n,k,u,v,B,y];exact⟨J,_,A,dN,by simpa using b,rfl⟩
  ·rw[ao (by simpa using q)]at b;simp[c,a,n,k,y];exact⟨m,g,f,D,b,rfl⟩
 ·rintro e h' ⟨m,g,f,C,b,c,a,n,k⟩;simp at b;subst b;simp[c,n,k,o];exact f.J4 I
end
section
def pM{d:Type}{c:List d}{b:Nat}{a:d}(h:c[b]? =some a)(f:d->d):c.modify b f=c.set b (f a):=by
 apply dh;intro g;rw[dE,bR];by_cases e:b=g
 ·subst e;have hi:b<c.length:=by
   rcases aS b c.length with k|k
   ·exact k
   ·rw[bP k]at h;simp at h
  rw[h];simp[hi]
 ·rw[ao e];simp[e]
section
variable {lo hi hi':Nat}{h h':H}{c0 c2 c3:T}{es:List T}{S:gh}
def Dp.mono(d:Dp lo hi h c0 c2 c3 es S)(l:hi<=hi')(f:∀a,lo<=a->a<hi->h'.get a=h.get a):Dp lo hi' h' c0 c2 c3 es S:=
 ⟨d.g0.mono λa c=>f a (d.b a (.inl c)).1 (d.b a (.inl c)).2,d.g2.mono λa c=>f a (d.b a (.inr (.inl c))).1 (d.b a (.inr (.inl c))).2,d.g3.mono λa c=>f a (d.b a (.inr (.inr c))).1 (d.b a (.inr (.inr c))).2,
   d.el.imp λk m ⟨j,g,i,e⟩=>⟨j,g,i.mono λa c=>f a (e a c).1 (e a c).2.1,λa c=>⟨(e a c).1,by have:=(e a c).2.1;omega,(e a c).2.2⟩⟩,λa c=>⟨(d.b a c).1,by have:=(d.b a c).2;omega⟩⟩
def Dp.tx(a:Dp lo hi h c0 c2 c3 es S)(c:Int):Dp lo hi h c0 c2 c3 es {S with tx:=c}:=⟨a.g0,a.g2,a.g3,a.el,a.b⟩
def Dp.qB(d:Dp lo hi h c0 c2 c3 es S){e l n:Nat}{m:Bool}{o:List T}(r:eG c3=some e)(g:h.get e=some ⟨3,l,n,m,false,o⟩)(i:Nat)(k:dZ):
 Dp lo hi (fg h e ⟨3,l,n+1,m,false,o.set i k.t⟩) c0 c2 c3 es {S with dW:=S.dW.set i k}:=by
 have p:∀a,a≠e->(fg h e ⟨3,l,n+1,m,false,o.set i k.t⟩).get a=h.get a:=λa c=>by rw[ee g,ao c]
 refine⟨d.g0.mono λa c=>p a λf=>?_,d.g2.mono λa c=>p a λf=>?_,?_,d.el.imp λf w ⟨v,s,u,q⟩=>⟨v,s,u.mono λa c=>p a λf=>(q a c).2.2.2.2 (by rw[f];exact r),q⟩,d.b⟩
 ·subst f;have⟨_,_,_,_,j,_⟩:=d.g0.box c;rw[g]at j;simp at j
 ·subst f;have⟨_,_,_,_,j,_⟩:=d.g2.box c;rw[g]at j;simp at j
 ·have:=d.g3.setAt r g i k.t (h':=fg h e ⟨3,l,n+1,m,false,o.set i k.t⟩) (by rw[ee g,aq rfl]);simpa[aU]using this
def Dp.don(d:Dp lo hi h c0 c2 c3 es S){e l n:Nat}{m:Bool}{o:List T}(r:eG c2=some e)(g:h.get e=some ⟨1,l,n,m,false,o⟩)(i:Nat)(k:Bool):
 Dp lo hi (fg h e ⟨1,l,n+1,m,false,o.set i (.bool k)⟩) c0 c2 c3 es {S with done:=S.done.set i k}:=by
 have p:∀a,a≠e->(fg h e ⟨1,l,n+1,m,false,o.set i (.bool k)⟩).get a=h.get a:=λa c=>by rw[ee g,ao c]
 refine⟨d.g0.mono λa c=>p a λf=>?_,?_,d.g3.mono λa c=>p a λf=>?_,d.el.imp λf v ⟨u,s,t,q⟩=>⟨u,s,t.mono λa c=>p a λf=>(q a c).2.2.2.1 (by rw[f];exact r),q⟩,d.b⟩
 ·subst f;have⟨_,_,_,_,j,_⟩:=d.g0.box c;rw[g]at j;simp at j
 ·have:=d.g2.setAt r g i (.bool k) (h':=fg h e ⟨1,l,n+1,m,false,o.set i (.bool k)⟩) (by rw[ee g,aq rfl]);simpa[aU]using this
 ·subst f;have⟨_,_,_,_,j,_⟩:=d.g3.box c;rw[g]at j;simp at j
def Dp.qF(e:Dp lo hi h c0 c2 c3 es S){g m p:Nat}{n:Bool}{q:List T}(o:eG c0=some g)(i:h.get g=some ⟨2,m,p,n,false,q⟩)(f:Nat){rv:T}{k:em}(hr:qA h 1 rv (ij k.fF))(s:∀a,eG rv=some a->lo<=a/\a<hi/\eG c0≠some a/\eG c2≠some a/\eG c3≠some a):
 Dp lo hi (fg h g ⟨2,m,p+1,n,false,q.set f (.agg [G k.jl,rv])⟩) c0 c2 c3 (es.set f (.agg [G k.jl,rv])) {S with fj:=S.fj.set f k}:=by
 have l:∀a,a≠g->(fg h g ⟨2,m,p+1,n,false,q.set f (.agg [G k.jl,rv])⟩).get a=h.get a:=λa c=>by rw[ee i,ao c]
 refine⟨e.g0.setAt o i f _ (by rw[ee i,aq rfl]),e.g2.mono λa c=>l a λd=>?_,e.g3.mono λa c=>l a λd=>?_,e.el.set f ⟨rv,rfl,hr.mono λa c=>l a λd=>(s a c).2.2.1 (by rw[d];exact o),s⟩ λd v ⟨rv,t,u,r⟩=>⟨rv,t,u.mono λa c=>l a λd=>(r a c).2.2.1 (by rw[d];exact o),r⟩,e.b⟩
 ·subst d;have⟨_,_,_,_,j,_⟩:=e.g2.box c;rw[i]at j;simp at j
 ·subst d;have⟨_,_,_,_,j,_⟩:=e.g3.box c;rw[i]at j;simp at j
end
def Dp.fz{lo hi:Nat}{h:H}{c0 c2 c3:T}{es:List T}{S:gh}(a:Dp lo hi h c0 c2 c3 es S):TI.fz h c0=some (sl (S.fj.map em.t))/\TI.fz h c2=some (sl (S.done.map T.bool))/\TI.fz h c3=some (sl (S.dW.map dZ.t)):=by
 refine⟨?_,a.g2.fz Y,a.g3.fz Y⟩;exact a.g0.KH (d:=4) D (a.el.Z7 (f:=em.t) λg j ⟨l,b,c,i⟩=>by
  subst b;exact .inr (.inr ⟨_,_,rfl,.cons (iC ..) (.cons (c.ft (d:=1) (V:=λ_=>True) (λm e=>by obtain⟨k,_,rfl⟩:=List.mem_map.1 e;simp) λ_ _=>trivial) .nil),rfl⟩))
def Lv{c:List Int}(h:Lj c)(d:Int):BP c [d]=ng c d:=by
 have e:∀(a b:List Int),mZ b a=a.foldl ng b:=by
  intro a;induction a with
  |nil=>intro b;rfl
  |cons g a f=>intro b;show mZ (v7 b g) a=_;rw[f,Et];rfl
 unfold BP;rw[e,e];exact O7 h d
end
section
attribute [-simp] size_cons
section
def vK{e d:Int}:∀{b:List dZ} {c:Nat},d∈iW e b c->∃a:Nat,d=((c+a:Nat):Int)/\a<b.length:=by
 intro b;induction b with
 |nil=>intro c h;simp[iW]at h
 |cons k b j=>
  intro c h;rw[iW]at h;have f:d∈iW e b (c+1)->∃a:Nat,d=((c+a:Nat):Int)/\a<(k::b).length:=λh=>by
   have⟨a,g,i⟩:=j h;exact⟨a+1,by rw[g];simp;omega,by simpa using i⟩
  split at h
  ·rcases List.mem_cons.1 h with rfl|h
   ·exact⟨0,Y,Y⟩
   ·exact f h
  ·exact f h
def D0(c:Int):∀(a:List dZ) (b:Nat),(iW c a b).length<=a.length:=by
 intro a;induction a with
 |nil=>intro b;simp[iW]
 |cons e a d=>intro b;rw[iW];have:=d (b+1);split<;>simp<;>omega
def Qb(T:List dZ)(b:List Int):List dZ:=b.foldl (λT (a:Int)=>T.modify a.toNat (lx 4)) T
def Wb(g:Int):∀(c b:List dZ),Qb (b++c) (iW g c b.length)=b++c.map λe=>if e.jf=3/\e.cond=g then lx 4 e else e:=by
 intro c;induction c with
 |nil=>intro b;simp[iW,Qb]
 |cons d c i=>
  intro b;rw[iW];split
  ·rename_i f;unfold Qb;rw[List.foldl_cons];have j:(b++d::c).modify ((b.length:Int).toNat) (lx 4)=(b++[lx 4 d])++c:=by
    rw[pM (a:=d) Y];simp
   rw[j];have:=i (b++[lx 4 d]);simp only[aT,aP,cQ]at this;unfold Qb at this;rw[this];simp[f]
  ·rename_i f;have:=i (b++[d]);simp only[aT,aP,cQ]at this;simp only[aZ,List.singleton_append]at this;rw[this];simp[f]
def Wa(a:List Int):∀T,(Qb T a).length=T.length:=by
 induction a with
 |nil=>intro T;rfl
 |cons c a b=>intro T;show(Qb (T.modify c.toNat (lx 4)) a).length=_;rw[b];simp
def Tb(T:List dZ)(b:List Int){a:Nat}(c:a<b.length):Qb T (b.take (a+1))=(Qb T (b.take a)).modify b[a].toNat (lx 4):=by
 rw[aM c];unfold Qb;rw[List.foldl_append];rfl
def DC{c:Type}(b:List c)(a:Nat)(d e:c->c):(b.modify a d).modify a e=b.modify a λi=>e (d i):=by
 apply dh;intro f;simp only[dE];by_cases g:a=f
 ·simp[g];cases b[f]? <;>rfl
 ·simp[g]
structure Bs(c0 c2 c3:T)(h:H)(es:List T)(S:gh)(ver:Nat):Prop where
 sy:Dp 3 h.size h c0 c2 c3 es S
 ok:iE 0 h
 g1:h.get 1=some (dS 4 ver [.agg [c0,G S.tx,c2,c3]])
 g2:h.get 2=some (dS 4 0 [.agg [dR,G 0,dR,dR]])
section
variable {c0 c2 c3:T}{h h':H}{es:List T}{S:gh}{ver:Nat}
def Bs.nb(b:Bs c0 c2 c3 h es S ver)(a:Nb h h'):Bs c0 c2 c3 h' es S ver:=
 ⟨b.sy.mono a.ok.sz λc _ d=>a.get c d,⟨a.ok.hp,a.ok.low,aw _⟩,(a.get _ (H.fG b.g1)).trans b.g1,(a.get _ (H.fG b.g2)).trans b.g2⟩
theorem Bs.put(d:Bs c0 c2 c3 h es S ver){a:Nat}{x:jv}(f:h.get a=some x)(j:3<=a){g:jv}{e:List T}{b:gh}(i:Dp 3 h.size (fg h a g) c0 c2 c3 e b)(ht:b.tx=S.tx):Bs c0 c2 c3 (fg h a g) e b ver:=
 ⟨by rw[ig];exact i,d.ok.put _ _,by rw[ee f,ao D,ht];exact d.g1,by rw[ee f,ao D];exact d.g2⟩
def Bs.qB(c:Bs c0 c2 c3 h es S ver){a e k:Nat}{f:Bool}{l:List T}(g:eG c3=some a)(j:h.get a=some ⟨3,e,k,f,false,l⟩){i:Nat}{me:dZ}(m:S.dW[i]? =some me)(d:dZ->dZ):
 Bs c0 c2 c3 (fg h a ⟨3,e,k+1,f,false,l.set i (d me).t⟩) es {S with dW:=S.dW.modify i d} ver:=by
 have:=c.put j (c.sy.b a (.inr (.inr g))).1 (c.sy.qB g j i (d me)) rfl;rw[pM m];exact this
def Bs.qF(g:Bs c0 c2 c3 h es S ver){d i m:Nat}{j:Bool}{n:List T}(k:eG c0=some d)(l:h.get d=some ⟨2,i,m,j,false,n⟩){c:Nat}{f:em}(hl:S.fj[c]? =some f)(e:em->em){rv:T}(hr:qA h 1 rv (ij (e f).fF))(o:∀a,eG rv=some a->3<=a/\a<h.size/\eG c0≠some a/\eG c2≠some a/\eG c3≠some a):
 Bs c0 c2 c3 (fg h d ⟨2,i,m+1,j,false,n.set c (.agg [G (e f).jl,rv])⟩) (es.set c (.agg [G (e f).jl,rv])) {S with fj:=S.fj.modify c e} ver:=by
 have:=g.put l (g.sy.b d (.inl k)).1 (g.sy.qF k l c hr o) rfl;rw[pM hl];exact this
def Bs.don(c:Bs c0 c2 c3 h es S ver){a f k:Nat}{g:Bool}{l:List T}(i:eG c2=some a)(j:h.get a=some ⟨1,f,k,g,false,l⟩)(d:Nat)(e:Bool):Bs c0 c2 c3 (fg h a ⟨1,f,k+1,g,false,l.set d (.bool e)⟩) es {S with done:=S.done.set d e} ver:=
 c.put j (c.sy.b a (.inr (.inl i))).1 (c.sy.don i j d e) rfl
def Bs.tx(a:Bs c0 c2 c3 h es S ver)(b:Int):Bs c0 c2 c3 (fg h 1 (dS 4 (ver+1) [.agg [c0,G b,c2,c3]])) es {S with tx:=b} (ver+1):=
 ⟨by rw[ig];exact(a.sy.tx b).mono (au _) λc d _=>by rw[ee a.g1,ao D],a.ok.put _ _,by rw[ee a.g1,aq rfl],by rw[ee a.g1,ao D];exact a.g2⟩
end
structure ApJ(w:fc)(s:gh)(t k o wk:Int)(c0 c2 c3:T)(h:H)(n:Int):Prop where
 ex:∃S es ver,fO w s t k o wk=(S,n)/\Bs c0 c2 c3 h es S ver
def Y0:gh:=⟨[],0,[],[]⟩
def Au(a:fc×gh×Int×Int×Int×Int):T:=if je a.1 a.2.1 a.2.2.1 a.2.2.2.1 a.2.2.2.2.1=true then .tuple [(fO a.1 a.2.1 a.2.2.1 a.2.2.2.1 a.2.2.2.2.1 a.2.2.2.2.2).1.t,G (fO a.1 a.2.1 a.2.2.1 a.2.2.2.1 a.2.2.2.2.1 a.2.2.2.2.2).2,.bool true]else .tuple [Y0.t,G 0,.bool false]
def Pj(a:gh):Prop:=a.fj.length<=1000000/\a.done.length<=1000000/\a.dW.length<=1000000/\(∀b∈a.fj,b.fF.length<=1000000)/\a.BL
def sK:iy:=⟨fc×gh×Int×Int×Int×Int,λa=>[a.1.t,a.2.1.t,G a.2.2.1,G a.2.2.2.1,G a.2.2.2.2.1,G a.2.2.2.2.2],λa=>a.1.iB.length<=1099511627776/\Pj a.2.1,Au,λa b h=>by
 obtain⟨a1,a2,a3,a4,a5,c⟩:=a;obtain⟨d,e,f,g,i,j⟩:=b;simp at h;rw[fc.inj h.1,gh.inj h.2.1,h.2.2.1,h.2.2.2.1,h.2.2.2.2.1,h.2.2.2.2.2]⟩
def He:sK.Ok prog cx 50:=by
 refine y9 (tb:=⟨pt [(34,nq),(12,Db)],ht [(47,jY gh GU LX),(93,jY IUn RG LT),(94,jY IWo Yc RQ),(48,jY IWt Yb RP)]⟩) jg iT (jr 829180818552508142370930303613581122868418894632663968482586879 [(17,[(1,11)]),(19,[(1,10)]),(30,[(4,9)]),(33,[(4,8)])] func50) (λ_=>1000005) (by simp[sK]) nl9 ?_;rintro⟨q,a,d,k,e,r⟩ ⟨c9,hl,eH,ht,hr,eD⟩ C eC;simp at c9 hl eH ht hr eD;simp[sK,Au]at eC|-;obtain⟨eA,a8,K,c6,I,eB⟩:=eC;have eP:a.sm:=⟨D,D,D,λj u=>by have:=hr j u;omega⟩;cases di:je q a d k e with
 |false=>
  simp[f50,eA,a8,K,c6,I,xf,c9,eP,di];rfl
 |true=>
  have dk:=di;unfold je at dk;simp only[ax]at dk;obtain⟨⟨⟨eI,eL⟩,b6⟩,_⟩:=dk;have⟨eW,gy,eX⟩:=mF eI;simp[f50,eA,a8,K,c6,I,xf,c9,eP,di];generalize bn:((hE.cons _).cons _).cons _=bH;have gv:iE 0 bH:=by rw[<-bn];exact⟨Y,Y,Y⟩
  have gF:bH.size=3:=by rw[<-bn];rfl
  have e6:bH.get 0=some (dS 6 0 [q.t]):=by rw[<-bn];simp
  have e7:bH.get 1=some (dS 4 0 [a.t]):=by rw[<-bn];simp
  have e8:bH.get 2=some (dS 4 0 [.agg [dR,G 0,dR,dR]]):=by rw[<-bn];simp
  clear bn;refine jm EM Y a ⟨rfl,gv,hl,eH,ht,hr⟩ ?_;rintro _ ca ⟨c0,c2,c3,es,rfl,e4,bu⟩;rw[gF]at e4;have gX:=bu.ok.sz;have gn:iE 0 ca:=⟨bu.ok.hp,bu.ok.low,aw _⟩;have bC:=(bu.get 1 D).trans e7;have fe:=(bu.get 0 D).trans e6;have ff:=(bu.get 2 D).trans e8;have c:Bs c0 c2 c3 (fg ca 1 (dS 4 1 [.agg [c0,G a.tx,c2,c3]])) es a 1:=⟨by rw[ig];exact e4.mono (au _) λo u _=>by rw[ee bC,ao D],gn.put _ _,by rw[ee bC,aq rfl],by rw[ee bC,ao D];exact ff⟩;have ey:(fg ca 1 (dS 4 1 [.agg [c0,G a.tx,c2,c3]])).get 0=some (dS 6 0 [q.t]):=by rw[ee bC,ao D];exact fe
  simp[Pb,bC,c6];generalize fg ca 1 _=bi at*
  have eM:=eL;rw[<-eX]at eM;have⟨me,L,gM⟩:=iU eM;have bA:=fy (fI.1 eL).1;refine kP (λC ap=>∃n,ApJ q a d k e r c0 c2 c3 ap n/\dT C 7 (.ptr 1 0 0 0)/\dT C 12 (.ptr 2 0 0 0)/\dT C 15 (G n)) (λav=>?_) (λav=>?_) ?_
  ·have av:k=1:=by simpa using av
   subst av
   ·have⟨E,ep,aN,ex,aX,w,l,s,m⟩:=c.sy.g3.at (x:=me.t) (i:=d.toNat) (by simp[L]);rw[aG]at w m;subst w;simp[K,c.g1,bA,l,s,m];exact⟨_,_,_,show fO q a d 1 e r=(a.qB d (lx 2),0)by simp[fO],c.qB rfl l L (lx 2)⟩
  ·have av:¬k=1:=by simpa using av
   rcases tK b6 with g|rfl|rfl|rfl|rfl|rfl|rfl|rfl|rfl|g|g|g|g
   ·exact absurd g av
   ·have⟨E,ep,aN,ex,aX,w,l,s,m⟩:=c.sy.g3.at (x:=me.t) (i:=d.toNat) (by simp[L]);rw[aG]at w m;subst w;simp[K,c.g1,bA,l,s,m];exact⟨_,_,_,show fO q a d 2 e r=(a.qB d (lx 5),0)by simp[fO],c.qB rfl l L (lx 5)⟩
   ·simp;exact⟨_,_,_,show fO q a d 3 e r=(a,0)by simp[fO],c⟩
   ·simp;exact⟨_,_,_,show fO q a d 4 e r=(a,0)by simp[fO],c⟩
   ·simp;exact⟨_,_,_,show fO q a d 5 e r=(a,0)by simp[fO],c⟩
   ·simp[K,c.g1,eZ];exact⟨_,_,_,show fO q a d 12 e r=({a with tx:=d},0)by simp[fO],c.tx d⟩
   ·simp[c.g1,eZ];exact⟨_,_,_,show fO q a d 13 e r=({a with tx:=-1},0)by simp[fO],c.tx (-1)⟩
   ·have⟨E,ep,aN,ex,aX,w,l,s,m⟩:=c.sy.g3.at (x:=me.t) (i:=d.toNat) (by simp[L]);rw[aG]at w m;subst w;simp[K,c.g1,bA,l,s,m];exact⟨_,_,_,show fO q a d 14 e r=(a.qB d (λx=>{x with atomic:=true}),0)by simp[fO],c.qB rfl l L (λx=>{x with atomic:=true})⟩
   ·have⟨E,ep,aN,ex,aX,w,l,s,m⟩:=c.sy.g3.at (x:=me.t) (i:=d.toNat) (by simp[L]);rw[aG]at w m;subst w;simp[K,c.g1,bA,l,s,m];exact⟨_,_,_,show fO q a d 15 e r=(a.qB d (λx=>{x with atomic:=false}),0)by simp[fO],c.qB rfl l L (λx=>{x with atomic:=false})⟩
   ·have J:=nz b6 g;rw[<-eW]at J;have⟨X,M,fX⟩:=iU J;have F:=fy (fI.1 J).1;obtain⟨B,de,rv,rfl,W,aE⟩:=c.sy.el.get M;obtain⟨E,ep,aN,ex,aX,rfl,l,s,m⟩:=c.sy.g0.at de;have bN:=H.fG l;have gI:=(c.sy.b E (.inl rfl)).1;have eb:(1=bi.size)=False:=by have:=H.fG c.g1;simp;omega
    have gP:(E=bi.size)=False:=dN;have gi:=hr X (ay M);have eU:∀o,eG rv=some o->o<bi.size:=λo u=>(aE o u).2.1;rcases g with rfl|rfl|rfl|rfl|rfl|rfl
    ·simp[K,I,c.g1,F,l,s,m];exact⟨_,_,_,show fO q a d 6 e r=(a.qF e (λj=>{j with jl:=d}),0)by simp[fO],c.qF rfl l M (λj=>{j with jl:=d}) W aE⟩
    ·simp[I,c.g1,F,l,s,m];exact⟨_,_,_,show fO q a d 7 e r=(a.qF e (λj=>{j with jl:=-1}),0)by simp[fO],c.qF rfl l M (λj=>{j with jl:=-1}) W aE⟩
    ·simp[K,I,c.g1,F,l,s,m];refine lH JC Y ⟨X.fF,[d],rv,.arr bi.size 0 0 1 false⟩ ⟨rfl,W.mono λo u=>by rw[ez,ao (by have:=eU o u;omega)],.inr (Gr.new (ep:=0) (ver:=0) (ex:=true) (es:=[G d]) Y),dN,c.ok.cons _⟩ ?_;rintro O an ⟨v,R,eh⟩;have eV:Nb bi an:=((Nb.refl c.ok).cons (dS 1 0 [G d])).trans R;have Q:=c.nb eV;have bT:=(eV.get E bN).trans l;have er:=fZ (R.get 1 (by have:=H.fG c.g1;simp;omega));simp only at v;rw[Lv (eD X (ay M))]at v;have eo:∀o,eG O=some o->o<an.size:=λo u=>by
      rcases v with rfl|g
      ·simp at u
      ·have⟨_,_,_,_,k,_⟩:=g.box u;exact H.fG k
     simp[F,bT,s,m,er,eZ,v.iN.1,v.iN.2];exact⟨_,_,_,show fO q a d 8 e r=(a.qF e (λj=>{j with fF:=ng j.fF d}),0)by simp[fO],Q.qF rfl bT M (λj=>{j with fF:=ng j.fF d}) v λo u=>by
      have eS:=eh o u;simp at eS;have ea:=eo o u;exact⟨D,ea,λB=>by simp at B;omega,λB=>by have:=(c.sy.b o (.inr (.inl B))).2;omega,λB=>by have:=(c.sy.b o (.inr (.inr B))).2;omega⟩⟩
    ·simp[K,I,c.g1,F,l,s,m];refine lH Ma Y ⟨X.fF,rv,d⟩ ⟨rfl,W,eU,gi,c.ok⟩ ?_;rintro O an ⟨v,R,eh⟩;have Q:=c.nb R;have bT:=(R.get E bN).trans l;have er:=fZ (R.get 1 (H.fG c.g1));simp only at v;have eo:∀o,eG O=some o->o<an.size:=λo u=>by
      rcases v with rfl|g
      ·simp at u
      ·have⟨_,_,_,_,k,_⟩:=g.box u;exact H.fG k
     simp[F,bT,s,m,er,eZ,v.iN.1,v.iN.2];exact⟨_,_,_,show fO q a d 9 e r=(a.qF e (λj=>{j with fF:=j.fF.filter λO=> !decide (O=d)}),0)by simp[fO],Q.qF rfl bT M (λj=>{j with fF:=j.fF.filter λO=> !decide (O=d)}) v λo u=>by
      have eS:=eh o u;have ea:=eo o u;exact⟨D,ea,λB=>by simp at B;omega,λB=>by have:=(c.sy.b o (.inr (.inl B))).2;omega,λB=>by have:=(c.sy.b o (.inr (.inr B))).2;omega⟩⟩
    ·simp[K,I,c.g1,F,l,s,m];exact⟨_,_,_,show fO q a d 10 e r=(a.qF e (λj=>{j with jl:=d}),0)by simp[fO],c.qF rfl l M (λj=>{j with jl:=d}) W aE⟩
    ·simp[I,c.g1,F,l,s,m];exact⟨_,_,_,show fO q a d 11 e r=(a.qF e (λj=>{j with jl:=-1}),0)by simp[fO],c.qF rfl l M (λj=>{j with jl:=-1}) W aE⟩
   ·have J:=pL b6 g;have⟨o,dd,eF⟩:=iU J;have bX:=uu eI dd;rw[<-eW]at bX;have⟨X,M,fX⟩:=iU bX;have F:=fy (fI.1 J).1;have e5:=fy (fI.1 bX).1;obtain⟨B,de,rv,rfl,W,aE⟩:=c.sy.el.get M;obtain⟨E,ep,aN,ex,aX,rfl,l,s,m⟩:=c.sy.g0.at de;have⟨a6,eu,gB,fv,cF,w,bp,cp,dm⟩:=c.sy.g3.at (x:=me.t) (i:=d.toNat) (by simp[L]);rw[aG]at w dm;subst w;have bN:=H.fG l;have eE:=H.fG bp;have eb:(1=E)=False:=by have:=(c.sy.b E (.inl rfl)).1;simp;omega
    have gm:(1=a6)=False:=by have:=(c.sy.b a6 (.inr (.inr rfl))).1;simp;omega
    have ec:(a6=E)=False:=by simp;rintro rfl;rw[l]at bp;simp at bp
    have eR:∀x,(cF.set d.toNat x)[d.toNat]? =some x:=λx=>by
     have:d.toNat<cF.length:=by
      rcases aS d.toNat cF.length with k|k
      ·exact k
      ·rw[bP k]at cp;simp at cp
     rw[bR];simp[this]
    have bW:∀A,(fg bi E A).get a6=some ⟨3,eu,gB,fv,false,cF⟩:=λA=>by rw[ee l,ao (by simpa using ec)];exact bp
    have e0:=λA z=>oo (bW A) (show 1≠a6 by simpa using gm) z;have et:=λ(f:em->em) (u:(f X).fF=X.fF)=>c.qF rfl l M f (rv:=rv) (by rw[u];exact W) aE;rcases g with rfl|rfl|rfl|rfl
    ·have cX:=(et (λj=>{j with jl:=-1}) rfl).qB rfl (bW _) L (λx=>{x with jf:=3});have bB:=cX.qB (me:=(λx=>{x with jf:=3}) me) rfl ((ee (bW _) _ _).trans (aq rfl)) (i:=d.toNat) (by simp[L]) (λx=>{x with cond:=e});simp only[DC,List.set_set]at bB;simp[K,I,ey,c.g1,F,e5,bA,dd,l,bp,s,cp,m,dm,nM,c.ok.hp,bN,eE,eb,ec,eR,e0];exact⟨_,_,_,show fO q a d 16 e r=((a.qF o.kY λj=>{j with jl:=-1}).qB d (λx=>{x with jf:=3,cond:=e}),0)by simp[fO,eF],bB⟩
    ·have cX:=(et (λj=>{j with jl:=d}) rfl).qB rfl (bW _) L (λx=>{x with jf:=2});have bB:=cX.qB (me:=(λx=>{x with jf:=2}) me) rfl ((ee (bW _) _ _).trans (aq rfl)) (i:=d.toNat) (by simp[L]) (λx=>{x with cond:=0});simp only[DC,List.set_set]at bB;simp[K,I,ey,c.g1,F,e5,bA,dd,l,bp,s,cp,m,dm,nM,c.ok.hp,bN,eE,eb,ec,eR,e0];exact⟨_,_,_,show fO q a d 17 e r=((a.qF o.kY λj=>{j with jl:=d}).qB d (λx=>{x with jf:=2,cond:=0}),0)by simp[fO,eF],bB⟩
    ·simp[I,c.g1];refine jm EG Y ⟨a,_,_,_,e⟩ ⟨rfl,c.sy.g3,ht,c.ok⟩ ?_;rintro O an ⟨v,R,_⟩;simp only at v;have Q:=c.nb R;have ds:=D0 e a.dW 0;have V:=λa8:H=>v.len (cx:=cx) a8 pf _ rfl;rw[aG]at V;simp[V];refine fw (λaA=>?_) (λaA=>?_)
     ·have b7:0<(iW e a.dW 0).length:=by simpa using aA
      have⟨gw,b8,b9⟩:=v.idx (te:=D3) rfl rfl (i:=0) (x:= G (iW e a.dW 0)[0]) (by simp[b7]) rfl;have fL:=v.qC (f:=T.int .i64) (λ_=>by simp) (λ_=>rfl);have fi:=λ{tb:gG} (ht:tb.p 12=some Db)=>M2 ht (iW e a.dW 0) r D;have eK:(iW e a.dW 0).headD (-1)=(iW e a.dW 0)[0]:=by
       clear b8 b9 v V ds;generalize iW e a.dW 0=j at*
       cases j with
       |nil=>simp at b7
       |cons x j=>simp
      simp[eB,b8,b9,fL,fi];have N:∃y:Nat,AB e r a.dW=y/\y<a.dW.length:=by
       have bX:AB e r a.dW∈iW e a.dW 0:=by
        unfold AB;split
        ·assumption
        ·rw[eK];exact aC b7
       have⟨y,B,U⟩:=vK bX;exact⟨y,by simpa using B,U⟩
      obtain⟨y,dn,U⟩:=N;refine kP (λC ap=>ap=an/\dT C 17 (G y)/\dT C 7 (.ptr 1 0 0 0)/\dT C 12 (.ptr 2 0 0 0)) (λaA=>?_) (λaA=>?_) ?_
      ·simp[eB];rw[<-dn];unfold AB;rw[aq (by simpa using aA)]
      ·simp;rw[<-dn,<-eK];unfold AB;rw[ao (by simpa using aA)]
      ·rintro C _ ⟨rfl,fW,al,ae⟩;have⟨P,N⟩:∃P,a.dW[y]? =some P:=⟨_,az U⟩;have⟨fb,fo,gD,fA,gE,bS,bs,dv,gg⟩:=Q.sy.g3.at (x:=P.t) (i:=y) (by simp[N]);simp at bS;obtain⟨rfl,rfl⟩:=bS;simp[al,ae,fW,Q.g1,bs,dv,U];exact⟨_,_,_,show fO q a d 18 e r=(a.qB y (lx 4),(y:Int))by
        rw[<-dn];unfold fO;simp;intro u;rw[u]at b7;simp at b7,Q.qB rfl bs N (lx 4)⟩
     ·have gk:iW e a.dW 0=[]:=by
       have:¬0<(iW e a.dW 0).length:=by simpa using aA
       exact aW D
      simp;exact⟨_,_,_,show fO q a d 18 e r=(a,-1)by simp[fO,gk],Q⟩
    ·simp[I,c.g1];refine jm EG Y ⟨a,_,_,_,e⟩ ⟨rfl,c.sy.g3,ht,c.ok⟩ ?_;rintro O an ⟨v,R,gz⟩;simp only at v;have Q:=c.nb R;have ds:=D0 e a.dW 0;have V:=λa8:H=>v.len (cx:=cx) a8 pf _ rfl;rw[aG]at V;have eO:∀x∈iW e a.dW 0,∃y:Nat,x=y/\y<a.dW.length:=λx s=>by
      have⟨y,B,U⟩:=vK s;exact⟨y,by simpa using B,U⟩
     have c7:=Wb e a.dW [];simp only[cG,cQ]at c7;have cb:∃j,j=iW e a.dW 0:=⟨_,rfl⟩;obtain⟨j,cb⟩:=cb;rw[<-cb]at v ds eO c7 V;simp;refine gu j.length D (λi C h'=>Bs (.arr E ep 0 es.length false) c2 (.arr a6 eu 0 a.dW.length false) h' es {a with dW:=Qb a.dW (j.take i)} 1/\qA h' 1 O (ij j)/\dT C 7 (.ptr 1 0 0 0)/\dT C 12 (.ptr 2 0 0 0)/\dT C 18 O/\dT C 19 (G i)) ?_ ?_ D ⟨by simpa[Qb]using Q,v,Y⟩
     ·rintro i C h' m fY ⟨a7,ef,al,ae,c1,c4⟩;have⟨y,U,eN⟩:=eO j[i] (aC m);have⟨P,N⟩:∃P,(Qb a.dW (j.take i))[y]? =some P:=⟨_,az (by rw[Wa];exact eN)⟩;have⟨fb,fo,gD,fA,gE,bS,bs,dv,gg⟩:=a7.sy.g3.at (x:=P.t) (i:=y) (by simp[N]);simp at bS;obtain⟨rfl,rfl,_⟩:=bS;have⟨gw,b8,b9⟩:=ef.idx (te:=D3) rfl rfl (i:=i) (x:= G y) (by simp[m,U]) rfl;have e9:=a7.qB rfl bs N (lx 4);simp[al,ae,c1,c4,V,m,b8,b9,a7.g1,bs,dv,eN,fY];refine⟨?_,ef.mono λo u=>by rw[ee bs,ao (by have:=gz o u;omega)]⟩;rw[Tb a.dW j m,U];exact e9
     ·rintro C h' ⟨a7,ef,al,ae,c1,c4⟩;rw[aI]at a7;simp[al,ae,c1,c4,V];exact⟨_,_,_,show fO q a d 19 e r=({a with dW:=Qb a.dW j},(j.length:Int))by rw[c7];simp[fO,<-cb],a7⟩
   ·have J:=yM b6 g;rw[<-eX]at J;have⟨P,N,gj⟩:=iU J;have F:=fy (fI.1 J).1;rcases g with rfl|rfl
    ·have⟨E,ep,aN,ex,aX,w,l,s,m⟩:=c.sy.g3.at (x:=P.t) (i:=e.toNat) (by simp[N]);rw[aG]at w m;subst w;simp[I,c.g1,F,l,s,m];exact⟨_,_,_,show fO q a d 20 e r=(a.qB e (lx 1),0)by simp[fO],c.qB rfl l N (lx 1)⟩
    ·simp;exact⟨_,_,_,show fO q a d 21 e r=(a,0)by simp[fO],c⟩
   ·have J:=tL b6 g;rw[<-gy]at J;have⟨P,N,gj⟩:=iU J;have F:=fy (fI.1 J).1;rcases g with rfl|rfl
    ·have⟨E,ep,aN,ex,aX,w,l,s,m⟩:=c.sy.g2.at (x:= .bool P) (i:=e.toNat) (by simp[N]);rw[aG]at w m;subst w;simp[I,c.g1,F,l,s,m];exact⟨_,_,_,show fO q a d 22 e r=({a with done:=a.done.set e.toNat true},0)by simp[fO],c.don rfl l e.toNat true⟩
    ·simp;exact⟨_,_,_,show fO q a d 23 e r=(a,0)by simp[fO],c⟩
  ·rintro C ap ⟨n,⟨S,fs,ver,gd,Z⟩,al,ae,fS⟩;have⟨gQ,gS,gV⟩:=Z.sy.fz;have fP:∀A,(fg ap 2 A).get 2=some A:=λA=>(ee Z.g2 A _).trans (aq rfl);have cL:∀A,Dp 3 ap.size (fg ap 2 A) c0 c2 c3 fs S:=λA=>Z.sy.mono (au _) λo u _=>by rw[ee Z.g2,ao D]
   have fB:=λA=>(cL A).fz.1;have fC:=λA=>(cL A).fz.2.1;have fE:=λA=>(cL A).fz.2.2;simp[al,ae,fS,Z.g1,Z.g2,fP,eZ,fB,fC,fE,gd,Z.ok.hp]
end
def oH:iy:=⟨fc×fJ×fk,λa=>[a.1.t,a.2.1.t,a.2.2.t],λa=>a.1.iB.length<=1000000/\sR 100000 a.2.1/\a.2.2.mE.length<=1000000/\a.2.2.tQ.length<=1000000,λa=> .tuple [(ke a.1 a.2.1 a.2.2).1.t,.bool (ke a.1 a.2.1 a.2.2).2],λa c b=>by
 simp at b;rw[fc.inj b.1,fJ.inj b.2.1,fk.inj b.2.2]⟩
def mJ{c:fc}{b:fJ}{a:fk}(d:pk c b a=false):ke c b a=(vi,false):=by unfold ke;rw[d];rfl
def K5{g:gG}(ht:g.p 50=some sK)(b:fc)(a:gh)(e c d f:Int)(i:b.iB.length<=1099511627776)(k:Pj a)(j:je b a e c d=true):rl prog cx g 50 [b.t,a.t,G e,G c,G d,G f]=some (.tuple [(fO b a e c d f).1.t,G (fO b a e c d f).2,.bool true]):=by
 have:=iA ht He (b,a,e,c,d,f) ⟨i,k⟩;have h:sK.R (b,a,e,c,d,f)= .tuple [(fO b a e c d f).1.t,G (fO b a e c d f).2,.bool true]:=by show Au _=_;unfold Au;rw[aq j]
 rw[h]at this;exact this
def Sk:oH.Ok prog cx 80:=by
 refine iq [(82,yH),(119,Js),(34,nq),(120,xW),(121,vS),(50,sK)] (jr 6434029281764525972148499167221040878727244754944919609542655 [(15,[(3,4),(3,6),(3,8),(7,8),(3,10),(7,10),(3,13),(7,13),(11,13)])] func80) (λ_=>100) (by simp[oH]) ?_;rintro⟨e,d,b⟩ ⟨fB,al,fL,fP⟩ j eD;simp at fB al fL fP;simp[oH]at eD|-;obtain⟨fs,fv,fA⟩:=eD;have⟨l1,l2,l3,l4,l5,l6⟩:=al.l;have fY:d.fN.sm:=⟨D,D,D,λf q=>by have:=al.r f q;omega⟩;have eF:e.iB.length<=1099511627776:=D;have gd:Pj d.fN:=⟨D,D,D,λf q=>by have:=al.r f q;omega,al.a⟩;have h:pk e d b=(mD e d&&ju b.eg e.dW.length&&(decide (1<=b.kind)&&decide (b.kind<=23))&&je e d.fN b.eg b.kind b.obj&&uM e b&&Of e b&&N7 b&&xz (d.count.getD b.eg.toNat 0) none b.mE&&xz (d.count.getD b.eg.toNat 0) none b.tQ&&oh d b):=rfl;simp[f80,fs,fv,fA,IT,Um,xf,eF,fY];have W:T.agg [sl [],G 0,sl [],sl [],sl [],sl [],sl []]=vi.t:=rfl;refine fw (λg=>?_) (λg=>?_)
 ·have:pk e d b=false:=by
   rw[h];simp only[cr,cj,aK]at g;rcases g with(((q|q)|q)|q)|q
   ·rw[q];simp
   ·rw[q];simp
   ·rw[aO (show¬1<=b.kind by omega)];simp
   ·rw[aO (show¬b.kind<=23 by omega)];simp
   ·rw[q];simp
  simp[mJ this];exact W
 simp only[cP,cT,bZ]at g;obtain⟨⟨⟨⟨eu,ey⟩,gF⟩,gI⟩,bN⟩:=g;rw[eu,ey,bN,bI (show 1<=b.kind by omega),bI (show b.kind<=23 by omega)]at h;simp only[bg]at h;have bS:=bN;unfold je at bS;simp only[ax]at bS;obtain⟨⟨⟨gP,_⟩,o⟩,_⟩:=bS;have bW:=eu;unfold mD at bW;simp only[ax,aK]at bW;obtain⟨⟨⟨_,eB⟩,eC⟩,fo⟩:=bW;have aX:=ey;rw[<-fo]at aX;have⟨z,Z,gM⟩:=iU aX;have gD:=fy (fI.1 aX).1;have fS:d.count.getD b.eg.toNat 0=z:=by simp[List.getD,Z]
 rw[fS]at h;simp;generalize O:(((hE.cons _).cons _).cons _).cons _=w;have R:iE 0 w:=by rw[<-O];exact⟨Y,Y,Y⟩
 have e0:w.size=4:=by rw[<-O];rfl
 have bi:w.get 0=some (dS 6 0 [e.t]):=by rw[<-O];simp
 have bA:w.get 1=some (dS 7 0 [d.t]):=by rw[<-O];simp
 have L:w.get 2=some (dS 7 0 [b.t]):=by rw[<-O];simp
 have E:w.get 3=some (dS 7 0 [.agg [dR,G 0,dR,dR,dR,dR,dR]]):=by rw[<-O];simp
 clear O;have X:∀y,(fg w 3 y).get 3=some y:=λy=>(ee E y _).trans (aq rfl);refine kP (λj u=>w=u/\uM e b=true/\dT j 3 (.ptr 0 0 0 0)/\dT j 4 (.ptr 1 0 0 0)/\dT j 5 (.ptr 2 0 0 0)/\dT j 6 (.ptr 3 0 0 0)) (λg=>?_) (λg=>?_) ?_
 ·have ae:b.kind=1\/b.kind=2:=by simpa using g
  simp[L];refine fw (λi=>?_) (λi=>?_)
  ·have:pk e d b=false:=by
    rw[h];unfold uM;rw[aq ae,aO (by simpa using i)];simp
   simp[E,X,eZ,mJ this,R.hp];exact W
  ·simp;unfold uM;rw[aq ae,bI (by simpa using i)]
 ·have ae:¬(b.kind=1\/b.kind=2):=by simpa using g
  cases B:ju b.jK e.ji.length with
  |false=>
   have:pk e d b=false:=by
    rw[h];unfold uM;rw[ao ae,oS B];simp
   simp[bi,L,Um,B,E,X,eZ,mJ this,R.hp];exact W
  |true=>
   have⟨x,gi,eL⟩:=iU B;simp[bi,L,Um,B,gi,fy (fI.1 B).1];refine fw (λi=>?_) (λi=>?_)
   ·have:pk e d b=false:=by
     rw[h];unfold uM;rw[ao ae,eL];simp only;rw[aO (by simpa using i)];simp
    simp[E,X,eZ,mJ this,R.hp];exact W
   ·simp;unfold uM;rw[ao ae,eL];simp only;rw[bI (by simpa using i)]
 ·rintro j _ ⟨rfl,fX,N,I,v,A⟩;rw[fX,bg]at h;have gm:((decide (b.kind=3)||decide (b.kind=4))=false/\True/\True/\(b.kind=3\/b.kind=4->∃n,e.cells[b.obj.toNat]? =some n)/\∃x:iK,x=x/\True)\/((decide (b.kind=3)||decide (b.kind=4))=true/\kT b.obj=some b.obj.toNat/\ju b.obj e.cells.length=true/\True/\∃n,e.cells[b.obj.toNat]? =some n/\sizeOf e b.obj=n.size):=by
   cases q:(decide (b.kind=3)||decide (b.kind=4))
   ·simp at q;exact .inl ⟨rfl,trivial,trivial,λk=>(k.elim q.1 q.2).elim,default,rfl,trivial⟩
   ·simp at q;have B:ju b.obj e.cells.length=true:=by
     unfold jN at o;rw[ao D,aq q]at o;exact o
    have⟨n,fC,fE⟩:=iU B;exact .inr ⟨rfl,fy (fI.1 B).1,B,trivial,n,fC,by simp[sizeOf,fE]⟩
  have bp:Of e b=(decide (b.mE=[])||decide (b.kind=5)||((decide (b.kind=3)||decide (b.kind=4))&& !decide (sizeOf e b.obj=0))):=rfl;have b9:decide (0<b.mE.length)= !decide (b.mE=[]):=by cases b.mE<;>simp
  have ca:decide (0<b.tQ.length)= !decide (b.tQ=[]):=by cases b.tQ<;>simp
  have cb:N7 b=(decide (b.tQ=[])||decide (b.kind=4)||decide (b.kind=22)):=rfl;have e5:b.kind=3->ju b.obj d.cells.length=true:=λk=>by
   rw[eB];unfold jN at o;rw[ao D,aq D]at o;exact o
  have e4:b.kind=23->ju b.obj d.fa.length=true:=λk=>by
   rw[eC];exact tL o (.inr k)
  rcases gm with⟨cX,eM,gj,gk,e6,eN,c9⟩|⟨cX,eM,gj,gk,e6,eN,c9⟩
  all_goals
   simp[N,v,bi,L,cX,eM,eN];rw[cX]at bp;refine fw (λg=>?_) (λg=>?_)
   ·have:pk e d b=false:=by
     rw[h,bp];simp[b9]at g;simp[g,c9]
    simp[A,E,X,eZ,mJ this,R.hp];exact W
   have eH:Of e b=true:=by
    rw[bp];cases S:decide (b.mE=[])<;>cases s:decide (b.kind=5)<;>simp[b9,S,s,c9]at g|-
    all_goals exact g
   rw[eH,bg]at h;simp[v,L];refine fw (λi=>?_) (λi=>?_)
   ·have:pk e d b=false:=by
     rw[h,cb];simp[ca]at i;simp[i]
    simp[A,E,X,eZ,mJ this,R.hp];exact W
   have eI:N7 b=true:=by
    rw[cb];cases S:decide (b.tQ=[])<;>cases s:decide (b.kind=4)<;>simp[ca,S,s]at i|-
    all_goals exact i
   rw[eI,bg]at h;have fi:=λ{dm:gG} (ht:dm.p 121=some vS)=>T9 ht d b D e5 e4;simp[I,v,bA,L,gD,Z,Ue,fi,show b.mE.length<=1099511627776 by omega,show b.tQ.length<=1099511627776 by omega];refine fw (λbs=>?_) (λbs=>?_)
   ·have:pk e d b=false:=by
     rw[h];cases S:xz z none b.mE<;>cases s:xz z none b.tQ<;>cases dk:oh d b<;>simp[S,s,dk]at bs|-
    simp[A,E,X,eZ,mJ this,R.hp];exact W
   have fW:pk e d b=true:=by
    rw[h];cases S:xz z none b.mE<;>cases s:xz z none b.tQ<;>cases dk:oh d b<;>simp[S,s,dk]at bs|-
   clear g i bs h bp cb b9 ca eH eI;have gg:ke e d b=(ko e d b,true):=by unfold ke;rw[aq fW]
   rw[gg];have⟨fb,a7,bB,⟨gQ,gX,gA⟩,eb,an,eS⟩:=kQ (cx:=cx) (sz:=1) R (x:=sl (d.cells.map (T.int .i64))) (xs:=d.cells.map (T.int .i64)) qv rfl zv qv rfl rfl Y Y (by simp[T.cells]) dN;have⟨fe,a8,bC,⟨gS,gZ,eA⟩,ec,Q,okB⟩:=kQ (cx:=cx) (sz:=1) eS (x:=sl (d.fa.map (T.int .i64))) (xs:=d.fa.map (T.int .i64)) qv rfl zv qv rfl rfl Y Y (by simp[T.cells]) dN;have⟨ff,V,bH,⟨gV,ha,gC⟩,ef,J,eU⟩:=kQ (cx:=cx) (sz:=1) okB (x:=sl (d.count.map (T.int .i64))) (xs:=d.count.map (T.int .i64)) kx rfl mP kx rfl rfl Y Y (by simp[T.cells]) dN;replace eb:a7.size=5:=D;replace ec:a8.size=6:=D;replace ef:V.size=7:=D;simp only[e0,eb,ec,aG]at bB bC bH gA eA gC;have eW:fQ (w.cons (dS 1 0 [])) a7 1=true:=fZ ((an 1 D).trans (by rw[ez,ao D]));have eX:fQ (a7.cons (dS 1 0 [])) a8 1=true:=fZ ((Q 1 D).trans (by rw[ez,ao D]));have gB:fQ (a8.cons (dS 1 0 [])) V 1=true:=fZ ((J 1 D).trans (by rw[ez,ao D]));have eo:=(an 1 D).trans bA;have er:=(Q 1 D).trans eo;have e7:=(J 1 D).trans er;have eR:∀m,5<=m->fQ (w.cons (dS 1 0 [])) a7 m=true:=λm eE=>jw (mv _ dN);have eO:∀m,6<=m->fQ (a7.cons (dS 1 0 [])) a8 m=true:=λm eE=>jw (mv _ dN);have eP:∀m,7<=m->fQ (a8.cons (dS 1 0 [])) V m=true:=λm eE=>jw (mv _ dN);have gv:V.low<=7:=by have:=eU.low;omega
   simp[I,v,e0,eb,ec,ef,bA,bB,bC,bH,eo,er,eW,eX,eR,eO,eP,gv];have gw:=(J 4 D).trans ((Q 4 D).trans gA);have gy:=(J 5 D).trans eA;have e8:=(J 0 D).trans ((Q 0 D).trans ((an 0 D).trans bi));have et:=(J 2 D).trans ((Q 2 D).trans ((an 2 D).trans L));have e9:=(J 3 D).trans ((Q 3 D).trans ((an 3 D).trans E));have b7:=λ{dm:gG} (ht:dm.p 50=some sK)=>K5 ht e d.fN b.eg b.kind b.obj (ls b) eF gd bN;have gE:=al.c z (ay Z);clear bB bC bH an Q J eW eX gB eR eO eP eS okB;generalize aE:V.cons _=aA;have gz:iE 0 aA:=by rw[<-aE];exact eU.cons _
   have eh:aA.size=8:=by rw[<-aE];show V.size+1=8;omega
   have M:∀n,n<7->aA.get n=V.get n:=λn q=>by rw[<-aE,ez,ao D]
   have cL:=(M 0 D).trans e8;have c1:=(M 1 D).trans e7;have bu:=(M 2 D).trans et;have c4:=(M 3 D).trans e9;have c6:=(M 4 D).trans gw;have c7:=(M 5 D).trans gy;have dd:=(M 6 D).trans gC;have de:aA.get 7=some (dS 7 1 [.agg [dR,G 0,dR,dR,.arr 4 fb 0 d.cells.length false,.arr 5 fe 0 d.fa.length false,.arr 6 ff 0 d.count.length false]]):=by rw[<-aE,ez,aq ef.symm]
   clear aE;simp[et];refine kP (λj u=>aA=u/\dT j 3 (.ptr 0 0 0 0)/\dT j 4 (.ptr 1 0 0 0)/\dT j 5 (.ptr 2 0 0 0)/\dT j 6 (.ptr 3 0 0 0)/\dT j 9 (.ptr 7 0 0 0)/\dT j 10 (G (ls b))) (λg=>?_) (λg=>?_) ?_
   ·simp[N,I,v,A,bu];unfold ls;rw[aq (by simpa using g)]
   ·simp[N,I,v,A];unfold ls;rw[ao (by simpa using g)]
   rintro j _ ⟨rfl,N,I,v,A,b6,bX⟩;have di:binop .add (G z) (G 1)=some (G (z+1)):=iZ D D;have dv:=fy (fI.1 aX).1;have aN:=(fI.1 aX).2;have eK:ko e d b=⟨(fO e d.fN b.eg b.kind b.obj (ls b)).1,if b.kind=4 then d.cells.set b.obj.toNat b.value else d.cells,if b.kind=22 then d.fa.set b.obj.toNat b.value else d.fa,d.count.modify b.eg.toNat (· +1)⟩:=rfl;rw[pM Z]at eK;have gn:(b.kind=4/\ju b.obj d.cells.length=true)\/(b.kind=22/\ju b.obj d.fa.length=true)\/(¬b.kind=4/\¬b.kind=22):=by
    by_cases q:b.kind=4
    ·refine .inl ⟨q,?_⟩;rw[eB];unfold jN at o;rw[ao D,aq D]at o;exact o
    ·by_cases s:b.kind=22
     ·refine .inr (.inl ⟨s,?_⟩);rw[eC];exact tL o (.inl s)
     ·exact .inr (.inr ⟨q,s⟩)
   have cF:=gz.hp;have bn:∀(f:List Int) (u:H),iu (yY u 11) (f.map (T.int .i64))=some (f.map (T.int .i64)):=λf u=>J8 _ _ _ λ_=>rfl;have bT:∀(f:List Int) (u:H) (P:Nat) (U:Int),iu (yY u 11) ((f.map (T.int .i64)).set P (G U))=some ((f.map (T.int .i64)).set P (G U)):=λf u P U=>by rw[<-aU];exact bn _ u
   have dn:∀(f:List Int),(f.map (T.int .i64)).take f.length=f.map (T.int .i64):=λf=>by rw[bL Y]
   have ds:∀(f:List Int) (P:Nat) (U:T),((f.map (T.int .i64)).set P U).take f.length=(f.map (T.int .i64)).set P U:=λf P U=>by rw[bL Y]
   have b8:d.count[b.eg.toNat]'aN=z:=by rw[az aN]at Z;simpa using Z
   have fin:∀(C F K:List Int),T.agg [sl ((fO e d.fN b.eg b.kind b.obj (ls b)).1.fj.map em.t),G (fO e d.fN b.eg b.kind b.obj (ls b)).1.tx,sl ((fO e d.fN b.eg b.kind b.obj (ls b)).1.done.map T.bool),sl ((fO e d.fN b.eg b.kind b.obj (ls b)).1.dW.map dZ.t),sl (C.map (T.int .i64)),sl (F.map (T.int .i64)),sl (K.map (T.int .i64))]=fJ.t ⟨(fO e d.fN b.eg b.kind b.obj (ls b)).1,C,F,K⟩:=λ_ _ _=>rfl;rw[eK];rcases gn with⟨q,a6⟩|⟨q,a6⟩|⟨q,eV⟩
   ·have ea:=fy (fI.1 a6).1;have cp:=(fI.1 a6).2;have ap:decide (b.kind=22)=false:=aO D;have av:decide (b.kind=4)=true:=bI q;rw[aq q,ao D,<-fin];simp[N,I,v,A,b6,bX,cL,c1,bu,c4,c6,c7,dd,de,b7,eZ,nM,cF,eh,dv,aN,b8,di,wY,iF,bn,av,ap,ea,cp,bT,dn,ds]
   ·have ea:=fy (fI.1 a6).1;have cp:=(fI.1 a6).2;have ap:decide (b.kind=22)=true:=bI q;have av:decide (b.kind=4)=false:=aO D;rw[ao D,aq q,<-fin];simp[N,I,v,A,b6,bX,cL,c1,bu,c4,c6,c7,dd,de,b7,eZ,nM,cF,eh,dv,aN,b8,di,wY,iF,bn,av,ap,ea,cp,bT,dn,ds]
   ·have ap:decide (b.kind=22)=false:=aO eV;have av:decide (b.kind=4)=false:=aO q;rw[ao q,ao eV,<-fin];simp[N,I,v,A,b6,bX,cL,c1,bu,c4,c6,c7,dd,de,b7,eZ,nM,cF,eh,dv,aN,b8,di,wY,iF,bn,av,ap,bT,dn,ds]
def DM{d:gG}(ht:d.p 80=some oH)(c:fc)(b:fJ)(a:fk)(e:c.iB.length<=1000000)(f:sR 100000 b)(g:a.mE.length<=1000000)(h:a.tQ.length<=1000000):rl prog cx d 80 [c.t,b.t,a.t]=some (.tuple [(ke c b a).1.t,.bool (ke c b a).2]):=iA ht Sk (c,b,a) ⟨e,f,g,h⟩
end
end
noncomputable section
open Go Go.TI Tryz
section
attribute [-simp] List.map_take List.map_drop List.map_append
def MA(a b:Int):Bool:=decide (0<=a/\a<b)
@[simp]def aes (a:Int) (b:Nat):MA a (b:Int)=ju a b:=id rfl
def TB{a b:Int}:MA a b=true↔0<=a/\a<b:=by unfold MA;simp
def Zv(d:Unit):iy:=⟨Int×Int,λa=>[G a.1,G a.2],λa=>True,λa=> .bool (MA a.1 a.2),λa c b=>by simp at b;rw[b.1,b.2]⟩
def ZU:(Zv ()).Ok prog cx 166:=by
 refine iq [] (jr 19 [] func166) (λf=>1) (by simp[Zv]) ?_;rintro⟨e,g⟩ _ h a;simp[Zv]at a|-;obtain⟨b,c⟩:=a;by_cases d:0<=e<;>simp[f166,b,c,d,MA]
def xv{c:gG}(ht:c.p 166=some (Zv ()))(a b:Int):rl prog cx c 166 [G a,G b]=some (.bool (MA a b)):=iA ht ZU (a,b) trivial
def yE:iy:=⟨Int,λa=>[G a],λa=>True,λa=> .bool (yz a),λa c b=>by simp at b;rw[b]⟩
def Mc:yE.Ok prog cx 209:=by
 refine iq [] (jr 5 [] func209) (λd=>1) (by simp[yE]) ?_;rintro(c:Int) _ e a;simp[yE]at a|-;by_cases b:1<=c<;>simp[f209,a,b,yz]
def yT{b:gG}(ht:b.p 209=some yE)(a:Int):rl prog cx b 209 [G a]=some (.bool (yz a)):=iA ht Mc a trivial
def yG:iy:=⟨Nat,λa=>[.int .u8 a],λa=>True,λa=> .bool (wV a),λa b c=>by simp at c;rw[show a=b by omega]⟩
def Ep:iy:=⟨Nat,λa=>[.int .u8 a],λa=>True,λa=> .bool (FE a),λa b c=>by simp at c;rw[show a=b by omega]⟩
def Em:iy:=⟨Nat,λa=>[.int .u8 a],λa=>True,λa=> .bool (ym a),λa b c=>by simp at c;rw[show a=b by omega]⟩
def SC:yG.Ok prog cx 161:=by
 refine iq [] (jr 5 [] func161) (λg=>1) (by simp[yG]) ?_;rintro(a:Nat) _ h b;simp[yG]at b|-;by_cases c:97<=a<;>by_cases d:a<=122<;>by_cases e:65<=a<;>by_cases f:a<=90<;>simp[f161,b,wV,c,d,e,f,show(97:Int)<=(a:Int)↔97<=a by omega,show(a:Int)<=122↔a<=122 by omega,show(65:Int)<=(a:Int)↔65<=a by omega,show(a:Int)<=90↔a<=90 by omega]
def DP{b:gG}(ht:b.p 161=some yG)(a:Nat):rl prog cx b 161 [.int .u8 a]=some (.bool (wV a)):=iA ht SC a trivial
def V0:Ep.Ok prog cx 207:=by
 refine iq [] (jr 5 [] func207) (λe=>1) (by simp[Ep]) ?_;rintro(a:Nat) _ f b;simp[Ep]at b|-;by_cases c:48<=a<;>by_cases d:a<=57<;>simp[f207,b,FE,c,d,show(48:Int)<=(a:Int)↔48<=a by omega,show(a:Int)<=57↔a<=57 by omega]
def aaY{b:gG}(ht:b.p 207=some Ep)(a:Nat):rl prog cx b 207 [.int .u8 a]=some (.bool (FE a)):=iA ht V0 a trivial
def VW:Em.Ok prog cx 163:=by
 refine iq [(161,yG),(207,Ep)] (jr 5 [] func163) (λe=>1) (by simp[Em]) ?_;rintro(a:Nat) _ f b;simp[Em]at b|-;cases c:wV a<;>cases d:FE a<;>simp[f163,b,ym,DP,aaY,c,d,show(a:Int)=95↔a=95 by omega]
def Uk{b:gG}(ht:b.p 163=some Em)(a:Nat):rl prog cx b 163 [.int .u8 a]=some (.bool (ym a)):=iA ht VW a trivial
def xY:iy:=⟨fc×Int×Int,λa=>[a.1.t,G a.2.1,G a.2.2],λa=>True,λa=> .bool (Cz a.1 a.2.1 a.2.2),λa c b=>by simp at b;rw[fc.inj b.1,b.2.1,b.2.2]⟩
def P7:xY.Ok prog cx 208:=by
 refine iq [(166,Zv ())] (jr 79 [] func208) (λl=>1) (by simp[xY]) ?_;rintro⟨k,h,m⟩ _ n c;simp[xY]at c|-;obtain⟨a,b,e⟩:=c;cases hl:ju h k.cells.length with
 |true=>
  have⟨d,f,g⟩:=iU hl;by_cases i:d.index=0<;>by_cases j:d.size=0<;>simp[f208,a,b,e,xv,hl,f,g,Cz,fy (fI.1 hl).1,i,j]
 |false=>simp[f208,a,b,xv,hl,oS hl,Cz]
def Up{d:gG}(ht:d.p 208=some xY)(c:fc)(a b:Int):rl prog cx d 208 [c.t,G a,G b]=some (.bool (Cz c a b)):=iA ht P7 (c,a,b) trivial
def pI:iy:=⟨io,λa=>[a.t],λa=>True,λa=>sl ((jA a).map (T.int .i64)),λa c b=>by simp at b;rw[io.inj b]⟩
def Gg:pI.Ok prog cx 113:=by
 refine iq [] (jr 8934607822903 [] func113) (λc=>1) (by simp[pI]) ?_;rintro⟨a,c,o,p,q,r⟩ _ s b;simp[pI]at b|-;rcases(by omega:a=1\/a=6\/a=10\/a=27\/a=2\/a=3\/a=4\/a=7\/a=8\/a=26\/a=9\/(¬a=1/\¬a=6/\¬a=10/\¬a=27/\¬a=2/\¬a=3/\¬a=4/\¬a=7/\¬a=8/\¬a=26/\¬a=9))with rfl|rfl|rfl|rfl|rfl|rfl|rfl|rfl|rfl|rfl|rfl|⟨d,g,h,i,j,k,l,m,n,e,f⟩
 rotate_right
 ·simp[f113,b,jA,d,g,h,i,j,k,l,m,n,e,f]
 all_goals simp [f113,b,jA,iF,sl]
def xe{b:gG}(ht:b.p 113=some pI)(a:io):rl prog cx b 113 [a.t]=some (sl ((jA a).map (T.int .i64))):=iA ht Gg a trivial
def xV:iy:=⟨fc×io,λa=>[a.1.t,a.2.t],λa=>True,λa=> .bool (nI a.1 a.2),λa c b=>by simp at b;rw[fc.inj b.1,io.inj b.2]⟩
def PS:xV.Ok prog cx 164:=by
 refine iq [(166,Zv ()),(208,xY)] (jr 11161304336780981658631819976322344575566047 [] func164) (λf=>1) (by simp[xV]) ?_;rintro⟨h,⟨a,f,l,H,j,I⟩⟩ _ J i;simp[xV]at i|-;obtain⟨b,c⟩:=i;rcases(by omega:a=3\/a=4\/a=7\/a=9\/a=21\/a=22\/a=23\/a=24\/a=25\/a=26\/a=27\/a=6\/a=8\/a=11\/a=12\/a=13\/a=14\/a=15\/a=16\/(¬a=3/\¬a=4/\¬a=6/\¬a=8/\¬a=7/\¬a=9/\¬a=11/\¬a=12/\¬a=13/\¬a=14/\¬a=15/\¬a=16/\¬a=21/\¬a=22/\¬a=23/\¬a=24/\¬a=25/\¬a=26/\¬a=27))with rfl|rfl|rfl|rfl|rfl|rfl|rfl|rfl|rfl|rfl|rfl|rfl|rfl|rfl|rfl|rfl|rfl|rfl|rfl|⟨m,x,A,B,C,E,F,n,o,p,q,r,s,t,u,v,w,y,z⟩
 rotate_right
 ·simp[f164,b,c,nI,m,x,A,B,C,E,F,n,o,p,q,r,s,t,u,v,w,y,z]
 ·by_cases g:j=4<;>simp[f164,b,c,nI,g]
 ·by_cases g:6<=j<;>simp[f164,b,c,nI,g]
 iterate 9 ·simp[f164,b,c,nI,xv,Up]
 ·cases hl:ju l h.cells.length with
  |true=>
   have⟨k,d,e⟩:=iU hl;simp[f164,b,c,nI,xv,hl,d,e,yA,fy (fI.1 hl).1]
  |false=>simp[f164,b,c,nI,xv,hl,oS hl,yA]
 ·cases hl:ju f h.cells.length with
  |true=>
   have⟨k,d,e⟩:=iU hl;simp[f164,b,c,nI,xv,hl,d,e,yA,fy (fI.1 hl).1]
  |false=>simp[f164,b,c,nI,xv,hl,oS hl,yA]
 all_goals
  cases hl:ju f h.fj.length with
  |true=>
   have⟨k,d,e⟩:=iU hl;simp[f164,b,c,nI,xv,hl,d,e,sd,fy (fI.1 hl).1]
  |false=>simp[f164,b,c,nI,xv,hl,oS hl,sd]
def Ud{c:gG}(ht:c.p 164=some xV)(b:fc)(a:io):rl prog cx c 164 [b.t,a.t]=some (.bool (nI b a)):=iA ht PS (b,a) trivial
def uC:List (List Nat)->List Nat->Nat->Int
 | [],_,_=>-1
 |x::c,b,a=>if x=b then(a:Int)else uC c b (a+1)
def IY:∀(a:List (List Nat)) (b:List Nat) (d:Nat),(0<=uC a b d)=(b∈a):=by
 intro a;induction a with
 |nil=>intro b d;simp[uC]
 |cons g a f=>
  intro b d;rw[uC];by_cases c:g=b
  ·subst c;simp
  ·rw[ao c,f];simp;intro e;exact absurd e.symm c
def Es:iy:=⟨List (List Nat)×List Nat,λa=>[sl (a.1.map T.str),.str a.2],λa=>a.1.length<=1099511627776,λa=> G (uC a.1 a.2 0),λa c b=>by
 simp at b;rw[jH Y b.1,b.2]⟩
def ahm:Es.Ok prog cx 124:=by
 refine iq [] (jr 131635 [] func124) (λm=>m.1.length+1) (by simp[Es]) ?_;rintro⟨f,i⟩ hl c l;simp[Es]at hl l|-;obtain⟨b,d⟩:=l;simp[f124];refine gu f.length D (λe c j=>j=hE/\dT c 0 (sl (f.map T.str))/\dT c 1 (.str i)/\dT c 5 (G e)/\uC (f.drop e) i e=uC f i 0) ?_ ?_ D (by simp[b,d])
 ·rintro e c j k n ⟨rfl,b,d,g,a⟩;rw[aH k,uC]at a;by_cases h:f[e]=i
  ·rw[aq h]at a;simp[b,d,g,k,h,<-a]
  ·rw[ao h]at a;simp[b,d,g,k,h,n,a]
 ·rintro c j ⟨rfl,b,d,g,a⟩;simp[uC]at a;simp[b,g,<-a]
def QU{c:gG}(ht:c.p 124=some Es)(a:List (List Nat))(b:List Nat)(hl:a.length<=1099511627776):rl prog cx c 124 [sl (a.map T.str),.str b]=some (G (uC a b 0)):=iA ht ahm (a,b) hl
def vY:iy:=⟨Unit,λa=>[],λa=>True,λa=>sl (oP.map T.str),λa b c=>rfl⟩
def Md:vY.Ok prog cx 206:=by
 refine iq [] (jr 1 [] func206) (λb=>1) (by simp[vY]) ?_;rintro _ _ c a;simp[vY]at a|-;simp[f206,iF];rfl
def Qz{a:gG}(ht:a.p 206=some vY):rl prog cx a 206 []=some (sl (oP.map T.str)):=iA ht Md () trivial
def Tx:oP.length=22:=rfl
def xX:iy:=⟨List Nat,λa=>[.str a],λa=>True,λa=> .bool (wi a),λa c b=>by simp at b;rw[b]⟩
def JL:xX.Ok prog cx 162:=by
 refine iq [(206,vY)] (jr 131613 [] func162) (λn=>23) (by simp[xX]) ?_;rintro(g:List Nat) _ b k;simp[xX]at k|-;simp[f162,Qz];refine gu oP.length (by rw[Tx];omega) (λf b h=>h=hE/\dT b 0 (.str g)/\dT b 3 (sl (oP.map T.str))/\dT b 4 (G f)/\(g∈oP.drop f↔g∈oP)) ?_ ?_ (by rw[Tx];omega) (by simp[k])
 ·rintro f b h j l ⟨rfl,i,c,d,a⟩;have m:=aH j;rw[m]at a;by_cases e:oP[f]=g
  ·simp[i,c,d,j,e,wi];rw[<-a,e];simp
  ·simp[i,c,d,j,e,l];refine⟨λh=>a.1 (List.mem_cons_of_mem _ h),λh=>?_⟩;rcases List.mem_cons.1 (a.2 h)with h|h
   ·exact absurd h.symm e
   ·exact h
 ·rintro b h ⟨rfl,i,c,d,a⟩;simp[c,d,wi];simpa using a
def FQ{b:gG}(ht:b.p 162=some xX)(a:List Nat):rl prog cx b 162 [.str a]=some (.bool (wi a)):=iA ht JL a trivial
def AQ:iy:=⟨List Nat,λa=>[.str a],λa=>True,λa=> .bool (we a),λa c b=>by simp at b;rw[b]⟩
def Sy:AQ.Ok prog cx 123:=by
 refine iq [(162,xX),(161,yG),(163,Em)] (jr 4330618893 [] func123) (λv=>13) (by simp[AQ]) ?_;rintro(a:List Nat) _ f d;simp[AQ]at d|-;cases a with
 |nil=>simp[f123,d,we]
 |cons b a=>
  have h:¬(a.length:Int)+1<1:=D;by_cases w:a.length+1<=12
  ·have e:¬(12:Int)<(a.length:Int)+1:=D;cases j:wV b with
   |false=>simp[f123,d,h,e,j,DP,we,N4]
   |true=>
    cases o:wi (b::a)with
    |true=>simp[f123,d,h,e,j,o,DP,FQ,we,N4]
    |false=>
     have q:we (b::a)=(b::a).all ym:=by simp[we,o,N4,j];intro _ _;omega
     have⟨m,s⟩:∃m,m=(b::a).all ym:=⟨_,rfl⟩;rw[q,<-s];simp[f123,d,h,e,j,o,DP,FQ];refine gu (b::a).length dN (λl f n=>n=hE/\dT f 0 (.str (b::a))/\dT f 3 (G l)/\((b::a).drop l).all ym=m) ?_ ?_ dN (by rw[s];simp[d])
     ·rintro l f n p u ⟨rfl,g,i,c⟩;rw[aH p,cB]at c;generalize t:(b::a)=r at*
      cases k:ym r[l]with
      |true=>rw[k,bg]at c;simp[g,i,p,u,Uk,k,c]
      |false=>rw[k,df]at c;simp[g,i,p,Uk,k,<-c]
     ·rintro f n ⟨rfl,g,i,c⟩;generalize t:(b::a)=r at*
      rw[bU]at c;simp[g,i,<-c]
  ·have e:(12:Int)<(a.length:Int)+1:=D;have q:we (b::a)=false:=by simp[we];omega
   simp[f123,d,h,e,q]
def rJ{b:gG}(ht:b.p 123=some AQ)(a:List Nat):rl prog cx b 123 [.str a]=some (.bool (we a)):=iA ht Sy a trivial
