/- Texts W08d to W01d. -/
import Derived.Test.YtmaeadedikngoaaGreatDoorA11
import Derived.Test.YtmaeadedikngoaaGreatDoorA15
set_option linter.unusedVariables false
set_option linter.unusedSimpArgs false
set_option linter.defProp false
set_option maxRecDepth 100000
set_option maxHeartbeats 8000000
namespace Go.Proofs.YtmaeadedikngoaaGreatDoor
noncomputable section
open Go Go.TI
attribute [-simp] List.map_take List.map_drop List.map_append fj eG dY Bool.not_or Bool.not_and
attribute [simp] fh eJ
def qG:f7:=⟨dR,λa=>[a.t],λa=>a.dV.length<=1000000/\a.dT.length<=1000000/\a.dB.length<=1000000,λa=>(kM a).t,λc d b=>by simp at b;rw[dR.inj b]⟩
def xF(_:Unit):T:= .agg [dw (-1),dx]
def Qo{b:H}{V:Nat->Prop}(a:Nat):io (FT b V 2) ((List.replicate a ()).map xF) ((List.replicate a (⟨-1,[]⟩:dS)).map dS.t):=by
 induction a with
 |zero=>exact .nil
 |succ a c=>
  rw[cZ,cZ];exact .cons (.inr (.inr ⟨_,_,rfl,.cons (fR ..) (.cons (iQ ..) .nil),rfl⟩)) c
def Sy8(e:H)(Lk:List Unit)(a:List Bool)(Th:List dD):Prop:=∃f b c d,m9 e 2 4 f [(b,some (2,Lk.map xF)),(dw (-1),none),(c,some (1,a.map T.bool)),(d,some (3,Th.map dD.t))]
def uF:iJ:=(dy 4 0 [.agg [dx,dw 0,dx,dx]])
def K8:qG.Ok Tryz.prog cx 73:=by
 refine gH (tb:=⟨pt [],ht []⟩) ei eg (iL 9071038046463 [] Tryz.func73) (λ_=>1000005) (by simp[qG]) (by simp[qG,Tryz.f73]) ?_;rintro(w:dR) ⟨hl,U,ht⟩ b N;simp[qG]at N|-;simp[Tryz.f73,N];refine fc w.dV.length dj (λc b h=>Sy8 h (List.replicate c ()) [] []/\Lb 2 h 0 (dy 6 0 [w.t])/\Lb 2 h 1 uF/\dz b 1 (.ptr 0 0 0 0)/\dz b 2 (.ptr 1 0 0 0)/\dz b 3 (.ptr 2 0 0 0)/\dz b 4 (dw c)) ?_ ?_ dj ?_
 ·rintro c b h A z ⟨⟨ver,s,u,v,a⟩,e,k,j,n,o,p⟩;have m:=a.get;simp at m;obtain⟨L,C,r,i⟩:=(a.gr 0 rfl).mM (cx:=cx) (f:=xF) a.ok I3 rfl Ff rfl dp (λ_=>rfl) () dq;obtain⟨q,J,x⟩:=a.app 0 rfl i;obtain⟨g,l⟩:=x _ rfl;simp only[<-List.replicate_succ']at l;simp[-List.map_replicate]at q g l;simp only[xF]at r;simp[j,n,o,p,A,e.get,m,r,q,dP,i.1.gD,i.1.cells,z];exact⟨⟨_,_,_,_,l⟩,e.step g,k.step g⟩
 ·rintro b h ⟨⟨ver,s,u,v,a⟩,e,k,j,n,o,p⟩;simp[j,p,e.get];refine fc w.dT.length dj (λc b h=>Sy8 h (List.replicate w.dV.length ()) (List.replicate c false) []/\Lb 2 h 0 (dy 6 0 [w.t])/\Lb 2 h 1 uF/\dz b 1 (.ptr 0 0 0 0)/\dz b 2 (.ptr 1 0 0 0)/\dz b 3 (.ptr 2 0 0 0)/\dz b 5 (dw c)) ?_ ?_ dj ⟨⟨_,_,_,_,a⟩,e,k,by simp[j,n,o]⟩
  ·rintro c b h A z ⟨⟨ver,s,u,v,a⟩,e,k,j,n,o,p⟩;have m:=a.get;simp at m;obtain⟨L,C,r,i⟩:=(a.gr 2 rfl).mM (cx:=cx) (f:=T.bool) a.ok Fe rfl OL rfl dp dp false dq;obtain⟨q,J,x⟩:=a.app 2 rfl i;obtain⟨g,l⟩:=x _ rfl;simp only[<-List.replicate_succ']at l;simp[-List.map_replicate]at q g l;simp[j,n,o,p,A,e.get,m,r,q,dP,i.1.gD,i.1.cells,z];exact⟨⟨_,_,_,_,l⟩,e.step g,k.step g⟩
  ·rintro b h ⟨⟨ver,s,u,v,a⟩,e,k,j,n,o,p⟩;simp[j,p,e.get];refine fc w.dB.length dj (λc b h=>Sy8 h (List.replicate w.dV.length ()) (List.replicate w.dT.length false) ((List.range c).map λc=>(⟨if c=0 then 1 else 0,0,false⟩:dD))/\Lb 2 h 0 (dy 6 0 [w.t])/\Lb 2 h 1 uF/\dz b 1 (.ptr 0 0 0 0)/\dz b 2 (.ptr 1 0 0 0)/\dz b 3 (.ptr 2 0 0 0)/\dz b 6 (dw c)) ?_ ?_ dj ⟨⟨_,_,_,_,a⟩,e,k,by simp[j,n,o]⟩
   ·rintro c b h A z ⟨⟨ver,s,u,v,a⟩,e,k,j,n,o,p⟩;have m:=a.get;simp at m;have W:(0=h.size)=False:=by have:=a.lt;simp;omega
    have O:(2=h.size)=False:=by have:=a.lt;simp;omega
    by_cases D:c=0
    ·subst D;have Q:binop .add (dw 0) (dw 1)=some (dw 1):=by simpa using z
     have y:=a.cons (dy 3 2 [dD.t ⟨1,0,false⟩]);have B:=Step.cons a.ok a.lt (dy 3 2 [dD.t ⟨1,0,false⟩]);have E:=e.step B;have H:=k.step B;obtain⟨L,C,r,i⟩:=(y.gr 3 rfl).mM (cx:=cx) (f:=dD.t) y.ok Cf rfl AR rfl dp (λ_=>rfl) (⟨1,0,false⟩:dD) dp;obtain⟨q,J,x⟩:=y.app 3 rfl i;obtain⟨g,l⟩:=x _ rfl;simp only[aR,cm,cV,cJ]at q g l;rw[size_cons]at r;simp[j,n,o,p,A,e.get,m,O,a.ok.low,r,q,dP,i.1.gD,i.1.cells,Q];exact⟨⟨_,_,_,_,l⟩,E.step g,H.step g⟩
    ·skip
     have y:=a.cons (dy 3 1 [dD.t ⟨0,0,false⟩]);have B:=Step.cons a.ok a.lt (dy 3 1 [dD.t ⟨0,0,false⟩]);have E:=e.step B;have H:=k.step B;obtain⟨L,C,r,i⟩:=(y.gr 3 rfl).mM (cx:=cx) (f:=dD.t) y.ok Cf rfl AR rfl dp (λ_=>rfl) (⟨0,0,false⟩:dD) dq;obtain⟨q,J,x⟩:=y.app 3 rfl i;obtain⟨g,l⟩:=x _ rfl;simp only[aR,cm,cV,cJ]at q g l;rw[size_cons]at r;simp[j,n,o,p,D,A,e.get,m,O,a.ok.low,r,q,dP,i.1.gD,i.1.cells,z];have hr:(List.range (c+1)).map (λc=>(⟨if c=0 then 1 else 0,0,false⟩:dD))=(List.range c).map (λc=>(⟨if c=0 then 1 else 0,0,false⟩:dD))++[⟨0,0,false⟩]:=by
      rw[List.range_succ,List.map_append];simp[D]
     rw[hr];exact⟨⟨_,_,_,_,l⟩,E.step g,H.step g⟩
   ·rintro b h ⟨⟨ver,s,u,v,a⟩,e,k,j,n,o,p⟩;have m:=a.get;simp at m;have G:=k.get;unfold uF at G;have K:=a.rn k (dy 4 1 [.agg [s,dw (-1),u,v]]);have R:(dQ h 1 (dy 4 1 [.agg [s,dw (-1),u,v]])).get 1=_:=(dE G _ 1).trans (aq rfl);have P:=(K.gr 0 rfl).IP (d:=2) dj (Qo (V:=λ_=>True) w.dV.length);simp[j,n,o,p,e.get,m,G,dP,R,P,(K.gr 2 rfl).fz dp,(K.gr 3 rfl).fz dp,-List.map_replicate];exact⟨a.ok.hp,by unfold kM fg.t fg.cs;simp[List.map_const',-List.map_replicate]⟩
 ·obtain⟨S,M⟩:=m9.start (h:=((hE.cons (dy 6 0 [w.t])).cons uF).cons (dy 4 1 [.agg [dx,dw (-1),dx,dx]])) (w:=2) (szw:=4) (ver:=1) (F:=[(dx,some (2,[])),(dw (-1),none),(dx,some (1,[])),(dx,some (3,[]))]) ⟨dp,dp,dp⟩ (by simp[uF]) dp;exact⟨⟨_,_,_,_,S⟩,⟨dp,λI=>absurd (M 0 I) du⟩,⟨by simp[uF],λI=>absurd (M 1 I) du⟩,dp⟩
def Hr{b:fq}(ht:b.p 73=some qG)(a:dR)(c:a.dV.length<=1000000)(d:a.dT.length<=1000000)(e:a.dB.length<=1000000):rl Tryz.prog cx b 73 [a.t]=some (kM a).t:=gF ht K8 a ⟨c,d,e⟩
def ac7(f:H)(a:fg)(b c:Nat)(d:List Int):Prop:=∃g e,m9 f 4 7 g [(sl (a.dV.map dS.t),none),(dw a.tx,none),(sl (a.done.map T.bool),none),(sl (a.dB.map dD.t),none),(e,some (1,d.map (T.int .i64))),(.arr 2 0 0 b false,some (1,(List.replicate b 0).map (T.int .i64))),(.arr 3 0 0 c false,some (1,(List.replicate c 0).map (T.int .i64)))]
def mO:iJ:=(dy 7 0 [.agg [dx,dw 0,dx,dx,dx,dx,dx]])
def nT:f7:=⟨dR,λa=>[a.t],λa=>a.dV.length<=1000000/\a.dT.length<=1000000/\a.dB.length<=1000000/\a.cells.length<=1000000,λa=>(jA a).t,λc d b=>by simp at b;rw[dR.inj b]⟩
def K7:nT.Ok Tryz.prog cx 41:=by
 refine gH (tb:=⟨pt [(73,qG)],ht []⟩) ei eg (iL 1048607 [(1,[(1,3),(1,5),(1,7),(1,9),(1,11)])] Tryz.func41) (λ_=>1000005) (by simp[nT]) (by simp[nT,Tryz.f41]) ?_;rintro(a:dR) ⟨hl,q,ht,F⟩ h e;simp[nT]at e|-;have M:a.dT.length*8<=70368744177664:=dj;have N:a.dB.length*8<=70368744177664:=dj;simp[Tryz.f41,e,Hr,hl,q,ht,M,N];have R:(jA a).t=dW.t ⟨kM a,a.cells.map fZ.jG,List.replicate a.dT.length 0,List.replicate a.dB.length 0⟩:=by
  unfold jA;simp only[List.map_const']
 rw[R];generalize kM a=b at*
 refine fc a.cells.length dj (λm h i=>∃j,ac7 i b a.dT.length a.dB.length j/\j.length=m/\j=(a.cells.take m).map fZ.jG/\Lb 4 i 0 (dy 6 0 [a.t])/\Lb 4 i 1 mO/\dz h 1 (.ptr 0 0 0 0)/\dz h 2 (.ptr 1 0 0 0)/\dz h 3 (.ptr 4 0 0 0)/\dz h 4 (dw m)) ?_ ?_ dj ?_
 ·rintro m h i G S ⟨j,⟨X,c,d⟩,Q,p,r,s,n,o,w,y⟩;have l:=d.get;simp at l;obtain⟨ap,al,O,E⟩:=(d.gr 4 rfl).mM (cx:=cx) (f:=T.int .i64) d.ok og rfl yh rfl dp (λ_=>rfl) a.cells[m].jG dq;obtain⟨u,an,B⟩:=d.app 4 rfl E;obtain⟨D,K⟩:=B _ rfl;simp only[aR,cm,cV,cJ]at u D K;simp[n,o,w,y,G,r.get,l,O,u,dP,E.1.gD,E.1.cells,S];exact⟨_,⟨_,_,K⟩,dq,by rw[p,aU G,List.map_append];rfl,r.step D,s.step D⟩
 ·rintro h i ⟨j,⟨X,c,d⟩,Q,p,r,s,n,o,w,y⟩;rw[aL]at p;subst p;have l:=d.get;simp at l;have z:=s.get;unfold mO at z;have C:=d.rn s (dy 7 1 [.agg [sl (b.dV.map dS.t),dw b.tx,sl (b.done.map T.bool),sl (b.dB.map dD.t),c,.arr 2 0 0 a.dT.length false,.arr 3 0 0 a.dB.length false]]);have P:(dQ i 1 (dy 7 1 [.agg [sl (b.dV.map dS.t),dw b.tx,sl (b.done.map T.bool),sl (b.dB.map dD.t),c,.arr 2 0 0 a.dT.length false,.arr 3 0 0 a.dB.length false]])).get 1=_:=(dE z _ 1).trans (aq rfl);have Y:=(C.gr 4 rfl).fz dp;have Z:=(C.gr 5 rfl).fz dp;have ae:=(C.gr 6 rfl).fz dp;simp[n,o,w,y,r.get,l,z,dP,P,Y,Z,ae,-List.map_replicate,-uZ];exact⟨d.ok.hp,by unfold dW.t dW.cs;simp[-List.map_replicate]⟩
 ·have J:∀(g:Nat) (k:T×aa (Nat×List T)),([(sl (b.dV.map dS.t),none),(dw b.tx,none),(sl (b.done.map T.bool),none),(sl (b.dB.map dD.t),none),(dx,some (1,[])),(.arr 2 0 0 a.dT.length false,some (1,(List.replicate a.dT.length 0).map (T.int .i64))),(.arr 3 0 0 a.dB.length false,some (1,(List.replicate a.dB.length 0).map (T.int .i64)))]:List (T×aa (Nat×List T)))[g]? =some k->∀c,dL k.1=some c->c+3=g:=by
   intro g k e c F;rcases g with _|_|_|_|_|_|_|g<;>simp at e<;>subst e<;>simp at F<;>omega
  refine⟨[],⟨1,dx,⟨dp,dp,dp⟩,dp,λf q=> ?_,λg W V k L e U c u B=>V ?_⟩,rfl,dp,⟨dp,?_⟩,⟨by simp[mO],?_⟩,dp⟩
  ·simp only[ci,cY,or_false,cm]at q;rcases q with rfl|rfl|rfl|rfl|rfl|rfl|rfl
   iterate 4 (show dL _=none;simp)
   ·exact⟨Gr.nil _ _,du⟩
   ·exact⟨.inr ⟨2,0,0,true,_,dp,by simp;rfl,dp⟩,show(1:Nat)≠7 by decide⟩
   ·exact⟨.inr ⟨3,0,0,true,_,dp,by simp;rfl,dp⟩,show(1:Nat)≠7 by decide⟩
  ·have n:=J g k e c u;have o:=J W L U c B;omega
  all_goals
   rintro(A|⟨x,I,v,H,A⟩)
   ·simp at A
   ·simp at I;subst I;simp[eQ,T.cells]at H;rcases H with rfl|rfl|rfl|rfl|rfl|rfl|rfl<;>simp at A
def Ck{b:fq}(ht:b.p 41=some nT)(a:dR)(c:a.dV.length<=1000000)(d:a.dT.length<=1000000)(e:a.dB.length<=1000000)(f:a.cells.length<=1000000):rl Tryz.prog cx b 41 [a.t]=some (jA a).t:=gF ht K7 a ⟨c,d,e,f⟩
end
noncomputable section
open Go Go.TI
inductive dK where
 |mk (op n:Int) (name:List Nat) (l:List dK)
instance :Inhabited dK:=⟨⟨0,0,[],[]⟩⟩
def dK.op:dK->Int|⟨a,_,_,_⟩=>a
def dK.n:dK->Int|⟨_,a,_,_⟩=>a
def dK.name:dK->List Nat|⟨_,_,a,_⟩=>a
def dK.l:dK->List dK|⟨_,_,_,a⟩=>a
@[simp] theorem dK.uR (a b:Int) (c:List Nat) (d:List dK):(dK.mk a b c d).op=a:=id rfl
@[simp] theorem dK.EF (a b:Int) (c:List Nat) (d:List dK):(dK.mk a b c d).n=b:=id rfl
@[simp] theorem dK.nY (a b:Int) (c:List Nat) (d:List dK):(dK.mk a b c d).name=c:=id rfl
@[simp] theorem dK.EI (a b:Int) (c:List Nat) (d:List dK):(dK.mk a b c d).l=d:=id rfl
def dK.lt{e c:dK}(h:c∈e.l):SizeOf.sizeOf c<SizeOf.sizeOf e:=by
 cases e with
 |mk n k m j=>have:=List.sizeOf_lt_of_mem (show c∈j from h);simp;omega
mutual
def dK.t:dK->T
 |⟨a,b,c,j⟩=> .agg [dw a,dw b,.str c,sl (dK.ts j)]
def dK.ts:List dK->List T
 | []=>[]
 |x::j=>x.t::dK.ts j
end
def dK.Dt:∀j:List dK,dK.ts j=j.map dK.t
 | []=>by rw[dK.ts];rfl
 |x::k=>by rw[dK.ts,dK.Dt k];rfl
def dK.mP(x:dK):x.t= .agg [dw x.op,dw x.n,.str x.name,sl (x.l.map dK.t)]:=by
 cases x;rw[dK.t,dK.Dt];rfl
def uT{l k:Type}{f:l->k}{g:k->k}{j:List l}(h:∀x∈j,g (f x)=f x):(j.map f).map g=j.map f:=by
 rw[cF];exact List.map_congr_left h
def pk{m r:Type}{f:m->r}:∀{k j:List m},(∀a∈k,∀b,f a=f b->a=b)->k.map f=j.map f->k=j:=by
 intro k;induction k with
 |nil=>intro j _ h;cases j<;>simp at h;rfl
 |cons x k p=>
  intro j l h;cases j with
  |nil=>simp at h
  |cons q j=>
   simp only[aR,aJ]at h;rw[l x dp q h.1,p (λa n b o=>l a (by simp[n]) b o) h.2]
def tg{k:Type}{f:k->T}{j:List k}(h:∀x∈j,mB (f x)=true):mh (j.map f)=true:=by
 induction j with
 |nil=>simp
 |cons x j m=>simp[h x dp,m λn l=>h n (by simp[l])]
section
variable (x:dK)(h:H)(d:Nat)
@[simp] theorem dK.Ru:x.t.cells=[dw x.op,dw x.n,.str x.name,sl (x.l.map dK.t)]:=by rw[dK.mP];rfl
@[simp] theorem dK.ZT:Kd x.t=4:=by rw[dK.mP];rfl
@[simp] theorem dK.UK:x.t.gD=true:=by rw[dK.mP];rfl
def dK.OT:∀(j:Nat) (x:dK),SizeOf.sizeOf x<=j->cn x.t=x.t:=by
 intro j;induction j with
 |zero=>intro x k;cases x;simp at k
 |succ j m=>
  intro x k;rw[dK.mP];simp only[jz,aR,cm,Fj,Fi,Kf];rw[uT λc l=>m c (by have:=dK.lt l;omega)]
@[simp] theorem dK.Vd:cn x.t=x.t:=dK.OT _ x (au _)
@[simp] theorem dK.ZG:ry h x.t=some x.t:=by rw[dK.mP];simp
@[simp] theorem dK.ZI:wy h (d+2) x.t=some x.t:=by rw[dK.mP];simp
@[simp] theorem dK.TT:jE x.t=true:=by rw[dK.mP];simp
def dK.Iz:∀(j:Nat) (x:dK),SizeOf.sizeOf x<=j->mB x.t=true:=by
 intro j;induction j with
 |zero=>intro x k;cases x;simp at k
 |succ j m=>
  intro x k;rw[dK.mP];simp only[GC,BF,GA,Gz,JW,DW];rw[tg λc l=>m c (by have:=dK.lt l;omega)];rfl
@[simp] theorem dK.Og:mB x.t=true:=dK.Iz _ x (au _)
end
def dK.UI:∀(l:Nat) (x j:dK),SizeOf.sizeOf x<=l->x.t=j.t->x=j:=by
 intro l;induction l with
 |zero=>intro x j p;cases x;simp at p
 |succ l s=>
  intro x j p h;rw[x.mP,j.mP]at h;simp only[T.agg.injEq,aJ,T.int.injEq,T.str.injEq,true_and,and_true]at h;obtain⟨m,n,o,k⟩:=h;have k:=pk (λa q b r=>s a b (by have:=dK.lt q;omega) r) (yE k);obtain⟨a,b,c,d⟩:=x;obtain⟨u,v,w,y⟩:=j;simp only[dK.uR,dK.EF,dK.nY,dK.EI]at m n o k;rw[m,n,o,k]
def dK.inj{x j:dK}(h:x.t=j.t):x=j:=dK.UI _ x j (au _) h
@[simp] theorem dK.fold (a b:Int) (c:List Nat) (j:List dK):T.agg [dw a,dw b,.str c,sl (j.map dK.t)]=(dK.mk a b c j).t:=by rw[dK.mP];rfl
@[simp] theorem dK.eta (x:dK):dK.mk x.op x.n x.name x.l=x:=by cases x;rfl
inductive dG where
 |mk (op uc:Int) (name arg:List Nat) (index:List dK) (e:dK) (body LJ:List dG)
instance :Inhabited dG:=⟨⟨0,0,[],[],[],default,[],[]⟩⟩
def dG.op:dG->Int|⟨a,_,_,_,_,_,_,_⟩=>a
def dG.uc:dG->Int|⟨_,a,_,_,_,_,_,_⟩=>a
def dG.name:dG->List Nat|⟨_,_,a,_,_,_,_,_⟩=>a
def dG.arg:dG->List Nat|⟨_,_,_,a,_,_,_,_⟩=>a
def dG.index:dG->List dK|⟨_,_,_,_,a,_,_,_⟩=>a
def dG.e:dG->dK|⟨_,_,_,_,_,a,_,_⟩=>a
def dG.body:dG->List dG|⟨_,_,_,_,_,_,a,_⟩=>a
def dG.LJ:dG->List dG|⟨_,_,_,_,_,_,_,a⟩=>a
section
variable (a b:Int)(c d:List Nat)(i:List dK)(e:dK)(f g:List dG)
@[simp] theorem dG.uR:(dG.mk a b c d i e f g).op=a:=id rfl
@[simp] theorem dG.QW:(dG.mk a b c d i e f g).uc=b:=id rfl
@[simp] theorem dG.nY:(dG.mk a b c d i e f g).name=c:=id rfl
@[simp] theorem dG.VB:(dG.mk a b c d i e f g).arg=d:=id rfl
@[simp] theorem dG.qU:(dG.mk a b c d i e f g).index=i:=id rfl
@[simp] theorem dG.IY:(dG.mk a b c d i e f g).e=e:=id rfl
@[simp] theorem dG.ul:(dG.mk a b c d i e f g).body=f:=id rfl
@[simp] theorem dG.xg:(dG.mk a b c d i e f g).LJ=g:=id rfl
end
def dG.ltB{j c:dG}(h:c∈j.body):SizeOf.sizeOf c<SizeOf.sizeOf j:=by
 cases j with
 |mk a b k d i e f g=>have:=List.sizeOf_lt_of_mem (show c∈f from h);simp;omega
def dG.ltE{j c:dG}(h:c∈j.LJ):SizeOf.sizeOf c<SizeOf.sizeOf j:=by
 cases j with
 |mk a b k d i e f g=>have:=List.sizeOf_lt_of_mem (show c∈g from h);simp;omega
mutual
def dG.t:dG->T
 |⟨a,b,c,d,i,e,f,g⟩=> .agg [dw a,dw b,.str c,.str d,sl (i.map dK.t),dw e.op,dw e.n,.str e.name,sl (e.l.map dK.t),sl (dG.ts f),sl (dG.ts g)]
def dG.ts:List dG->List T
 | []=>[]
 |x::j=>x.t::dG.ts j
end
def dG.Dt:∀j:List dG,dG.ts j=j.map dG.t
 | []=>by rw[dG.ts];rfl
 |x::k=>by rw[dG.ts,dG.Dt k];rfl
def dG.cs(x:dG):List T:=[dw x.op,dw x.uc,.str x.name,.str x.arg,sl (x.index.map dK.t),dw x.e.op,dw x.e.n,.str x.e.name,sl (x.e.l.map dK.t),sl (x.body.map dG.t),sl (x.LJ.map dG.t)]
def dG.mP(x:dG):x.t= .agg x.cs:=by
 cases x;rw[dG.t,dG.Dt,dG.Dt];rfl
section
variable (x:dG)(h:H)(d:Nat)
@[simp] theorem dG.Ru:x.t.cells=[dw x.op,dw x.uc,.str x.name,.str x.arg,sl (x.index.map dK.t),dw x.e.op,dw x.e.n,.str x.e.name,sl (x.e.l.map dK.t),sl (x.body.map dG.t),sl (x.LJ.map dG.t)]:=by rw[dG.mP];rfl
@[simp] theorem dG.ZT:Kd x.t=11:=by rw[dG.mP];rfl
@[simp] theorem dG.UK:x.t.gD=true:=by rw[dG.mP];rfl
def dG.OT:∀(j:Nat) (x:dG),SizeOf.sizeOf x<=j->cn x.t=x.t:=by
 intro j;induction j with
 |zero=>intro x l;cases x;simp at l
 |succ j m=>
  intro x l;rw[dG.mP];unfold dG.cs;simp only[jz,aR,cm,Fj,Fi,Kf];rw[uT λc k=>m c (by have:=dG.ltB k;omega),uT λc k=>m c (by have:=dG.ltE k;omega),uT λc _=>dK.Vd c,uT λc _=>dK.Vd c]
@[simp] theorem dG.Vd:cn x.t=x.t:=dG.OT _ x (au _)
@[simp] theorem dG.ZG:ry h x.t=some x.t:=by rw[dG.mP];unfold dG.cs;simp
@[simp] theorem dG.ZI:wy h (d+2) x.t=some x.t:=by rw[dG.mP];unfold dG.cs;simp
@[simp] theorem dG.TT:jE x.t=true:=by rw[dG.mP];unfold dG.cs;simp
def dG.Iz:∀(j:Nat) (x:dG),SizeOf.sizeOf x<=j->mB x.t=true:=by
 intro j;induction j with
 |zero=>intro x l;cases x;simp at l
 |succ j m=>
  intro x l;rw[dG.mP];unfold dG.cs;simp only[GC,BF,GA,Gz,JW,DW];rw[tg λc k=>m c (by have:=dG.ltB k;omega),tg λc k=>m c (by have:=dG.ltE k;omega),tg λc _=>dK.Og c,tg λc _=>dK.Og c];rfl
@[simp] theorem dG.Og:mB x.t=true:=dG.Iz _ x (au _)
end
def dG.UI:∀(p:Nat) (x k:dG),SizeOf.sizeOf x<=p->x.t=k.t->x=k:=by
 intro p;induction p with
 |zero=>intro x k B;cases x;simp at B
 |succ p C=>
  intro x k B h;rw[x.mP,k.mP]at h;unfold dG.cs at h;simp only[T.agg.injEq,aJ,T.int.injEq,T.str.injEq,true_and,and_true]at h;obtain⟨w,y,z,A,n,q,r,s,l,o,m⟩:=h;have n:=pk (λa _ b j=>dK.inj j) (yE n);have l:=pk (λa _ b j=>dK.inj j) (yE l);have o:=pk (λa u b j=>C a b (by have:=dG.ltB u;omega) j) (yE o);have m:=pk (λa u b j=>C a b (by have:=dG.ltE u;omega) j) (yE m);obtain⟨a,b,c,d,i,e,f,g⟩:=x;obtain⟨E,F,G,I,L,v,J,K⟩:=k;simp only[dG.uR,dG.QW,dG.nY,dG.VB,dG.qU,dG.IY,dG.ul,dG.xg]at w y z A n q r s l o m;have D:e=v:=by
   obtain⟨M,O,Q,S⟩:=e;obtain⟨N,P,R,U⟩:=v;simp only[dK.uR,dK.EF,dK.nY,dK.EI]at q r s l;rw[q,r,s,l]
  rw[w,y,z,A,n,D,o,m]
def dG.inj{x j:dG}(h:x.t=j.t):x=j:=dG.UI _ x j (au _) h
@[simp] theorem dG.fold (a b:Int) (c e:List Nat) (i:List dK) (m l:Int) (k:List Nat) (j:List dK) (f g:List dG):T.agg [dw a,dw b,.str c,.str e,sl (i.map dK.t),dw m,dw l,.str k,sl (j.map dK.t),sl (f.map dG.t),sl (g.map dG.t)]=(dG.mk a b c e i ⟨m,l,k,j⟩ f g).t:=by rw[dG.mP];rfl
@[simp] theorem dG.eta (x:dG):dG.mk x.op x.uc x.name x.arg x.index x.e x.body x.LJ=x:=by cases x;rfl
end
noncomputable section
open Go Go.TI
structure fD where
 name:List Nat
 uc:Int
 locals:List (List Nat)
 body:List dG
 deriving Inhabited
def fD.cs(a:fD):List T:=[.str a.name,dw a.uc,sl (a.locals.map T.str),sl (a.body.map dG.t)]
def fD.t(a:fD):T:= .agg a.cs
@[simp] theorem fD.ag (a:fD):qp a.t [.str a.name,dw a.uc,sl (a.locals.map T.str),sl (a.body.map dG.t)] 4:=by
 unfold fD.t fD.cs;exact⟨rfl,rfl,λ_ _=>rfl,rfl,by simp[jz],λ_=>by simp,λ_ _=>by simp,dp,dp⟩
@[simp] theorem fD.fold (a0:List Nat) (a1:Int) (a2:List (List Nat)) (a3:List dG):T.agg [.str a0,dw a1,sl (a2.map T.str),sl (a3.map dG.t)]=fD.t ⟨a0,a1,a2,a3⟩:=rfl
@[simp] theorem fD.eta (a:fD):fD.mk a.name a.uc a.locals a.body=a:=rfl
def fD.inj{a b:fD}(c:a.t=b.t):a=b:=by
 rcases a with⟨_,_,_,_⟩;rcases b with⟨_,_,_,_⟩;simp only[fD.t,fD.cs,T.agg.injEq,aJ]at c;obtain⟨d,e,f,g,_⟩:=c;obtain rfl:=mp d;obtain rfl:=gh e;obtain rfl:=gW (λ_ _=>mp) _ _ f;obtain rfl:=gW (λ_ _=>dG.inj) _ _ g;rfl
structure fk where
 iX:List gG
 dB:List fD
 deriving Inhabited
def fk.cs(a:fk):List T:=[sl (a.iX.map gG.t),sl (a.dB.map fD.t)]
def fk.t(a:fk):T:= .agg a.cs
@[simp] theorem fk.ag (a:fk):qp a.t [sl (a.iX.map gG.t),sl (a.dB.map fD.t)] 2:=by
 unfold fk.t fk.cs;exact⟨rfl,rfl,λ_ _=>rfl,rfl,by simp[jz],λ_=>by simp,λ_ _=>by simp,dp,dp⟩
@[simp] theorem fk.fold (a0:List gG) (a1:List fD):T.agg [sl (a0.map gG.t),sl (a1.map fD.t)]=fk.t ⟨a0,a1⟩:=rfl
@[simp] theorem fk.eta (a:fk):fk.mk a.iX a.dB=a:=rfl
def fk.inj{a b:fk}(c:a.t=b.t):a=b:=by
 rcases a with⟨_,_⟩;rcases b with⟨_,_⟩;simp only[fk.t,fk.cs,T.agg.injEq,aJ]at c;obtain⟨d,e,_⟩:=c;obtain rfl:=gW (λ_ _=>gG.inj) _ _ d;obtain rfl:=gW (λ_ _=>fD.inj) _ _ e;rfl
mutual
def dK.w:dK->Nat
 |⟨_,_,_,a⟩=>1+dK.ws a
def dK.ws:List dK->Nat
 | []=>0
 |x::a=>x.w+dK.ws a
end
def dK.kP(a:dK):a.w=1+dK.ws a.l:=by cases a;rw[dK.w];rfl
def dK.iz:dK.ws []=0:=by rw[dK.ws]
def dK.jM(b:dK)(a:List dK):dK.ws (b::a)=b.w+dK.ws a:=by rw[dK.ws]
def dK.uE{b:dK}{a:List dK}(h:b∈a):b.w<=dK.ws a:=by
 induction a with
 |nil=>simp at h
 |cons d a c=>
  rw[dK.jM];rcases List.mem_cons.1 h with rfl|h
  ·omega
  ·have:=c h;omega
def dK.ue{l:List dK}:l.length<=dK.ws l:=by
 induction l with
 |nil=>simp
 |cons a l b=>rw[dK.jM,aZ,a.kP];omega
mutual
def dG.w:dG->Nat
 |⟨_,_,_,_,c,b,a,d⟩=>4+dK.ws c+b.w+dG.ws a+dG.ws d
def dG.ws:List dG->Nat
 | []=>0
 |x::a=>x.w+dG.ws a
end
def dG.kP(a:dG):a.w=4+dK.ws a.index+a.e.w+dG.ws a.body+dG.ws a.LJ:=by cases a;rw[dG.w];rfl
def dG.iz:dG.ws []=0:=by rw[dG.ws]
def dG.jM(b:dG)(a:List dG):dG.ws (b::a)=b.w+dG.ws a:=by rw[dG.ws]
def dG.HK(a b:List dG):dG.ws (a++b)=dG.ws a+dG.ws b:=by
 induction a with
 |nil=>rw[List.nil_append,dG.iz];omega
 |cons d a c=>rw[cE,dG.jM,dG.jM,c];omega
def dG.uE{b:dG}{a:List dG}(h:b∈a):b.w<=dG.ws a:=by
 induction a with
 |nil=>simp at h
 |cons d a c=>
  rw[dG.jM];rcases List.mem_cons.1 h with rfl|h
  ·omega
  ·have:=c h;omega
def dG.ue{l:List dG}:l.length<=dG.ws l:=by
 induction l with
 |nil=>simp
 |cons a l b=>rw[dG.jM,aZ,a.kP];omega
inductive ME:dK->Prop
 |num (n:Int):ME ⟨1,n,[],[]⟩
 |nm (s:List Nat):ME ⟨2,0,s,[]⟩
 |ix {a:dK} (h:ME a):ME ⟨3,0,[113],[a]⟩
 |bin {k:Int} {a b:dK} (hk:6<=k) (ha:ME a) (hb:ME b):ME ⟨k,0,[],[a,b]⟩
inductive MS:dG->Prop
 |mk {s:dG} (c:9<=s.op/\s.op<=11->s.name=[99]) (q:s.op=1->s.index≠ []->s.name=[113]) (i:∀x∈s.index,ME x) (e:s.op=1\/s.op=2\/s.op=3\/s.op=14->ME s.e) (b:∀c∈s.body,MS c) (l:∀c∈s.LJ,MS c):MS s
def MS.cond{a:dG}(b:MS a):9<=a.op/\a.op<=11->a.name=[99]:=by cases b;assumption
def MS.arr{a:dG}(b:MS a):a.op=1->a.index≠ []->a.name=[113]:=by cases b;assumption
def MS.ind{a:dG}(b:MS a):∀c∈a.index,ME c:=by cases b;assumption
def MS.ex{a:dG}(b:MS a):a.op=1\/a.op=2\/a.op=3\/a.op=14->ME a.e:=by cases b;assumption
def MS.bd{a:dG}(c:MS a):∀b∈a.body,MS b:=by cases c;assumption
def MS.el{a:dG}(c:MS a):∀b∈a.LJ,MS b:=by cases c;assumption
def dG.Ek(b:List dG){a:Nat}(c:a<b.length):dG.ws (b.take (a+1))=dG.ws (b.take a)+b[a].w:=by
 rw[aU c,dG.HK,dG.jM,dG.iz];rfl
def dG.wK(a:List dG)(b:Nat):dG.ws (a.take b)<=dG.ws a:=by
 conv=>rhs;rw[<-cK b a]
 rw[dG.HK];omega
def allI{b:Type}(a:Nat->b->Bool):Nat->List b->Bool
 |_,[]=>true
 |k,d::c=>a k d&&allI a (k+1) c
def ud(a:Nat):Bool:=decide (97<=a/\a<=122)||decide (65<=a/\a<=90)
def Ce(a:Nat):Bool:=decide (48<=a/\a<=57)
def uY(a:Nat):Bool:=ud a||Ce a||decide (a=95)
def mK:List (List Nat):=[[118,97,114],[118,111,108,97,116,105,108,101],[109,117,116,101,120],[114,119,108,111,99,107],[99,111,110,100],[102,117,116,117,114,101],[116,104,114,101,97,100],[105,102],[101,108,115,101],[119,104,105,108,101],[108,111,99,107],[114,101,97,100],[119,114,105,116,101],[116,114,97,110,115,97,99,116,105,111,110],[97,116,111,109,105,99],[119,97,105,116],[110,111,116,105,102,121],[110,111,116,105,102,121,97,108,108],[115,112,97,119,110],[106,111,105,110],[115,101,116],[103,101,116]]
def tq(a:List Nat):Bool:=decide (a∈mK)
def JX(a:List Nat):Bool:=match a with|c::_=>ud c| []=>false
def tc(a:List Nat):Bool:=decide (1<=a.length)&&decide (a.length<=12)&& !tq a&&JX a&&a.all uY
def uS(a:List (List Nat)):Bool:=a.all tc&&decide a.Nodup
def Jz(a:fZ)(c:List fZ):Bool:=allI (λb d=>decide (d={a with index:=b,sq:=false})) 0 (c.take a.size.toNat)
def iI:List fZ->aa (List (List Nat))
 | []=>some []
 |c::a=>if c.size=0 then(if c.index=0 then(iI a).map (c.name:: ·)else none)
  else if d:c.size<1\/4<c.size\/(a.length+1:Int)<c.size then none
  else if Jz c (c::a)=true then(iI ((c::a).drop c.size.toNat)).map (c.name:: ·)else none
 termination_by b=>b.length
 decreasing_by
  ·simp
  ·simp;omega
def kX(b:Nat):Int->Int->List il->Bool
 |_,_,[]=>true
 |t,d,a::c=>if a.dN<t\/(b:Int)<=a.dN then false else
  if t<a.dN then(if a.stmt=0 then kX b a.dN 1 c else false)else(if a.stmt=d then kX b t (d+1) c else false)
def tj(c:dR)(a:Int)(rw:Bool):Bool:=match wG c.dV a with|some b=>b.rW==rw|none=>false
def rG(a:dR):Bool:=decide (a.cells.length<=12)&&decide (a.dV.length<=4)&&decide (a.fV.length<=2)&&decide (a.dT.length<=2)&&decide (a.ik.length<=60)&&decide (1<=a.dB.length)&&decide (a.dB.length<=4)
def qh(a:dR)(b:List (List Nat)):List (List Nat):=b++a.dV.map (·.name)++a.fV.map (·.name)++a.dT++a.dB
def AX(a:dR):Bool:=match iI a.cells with|none=>false|some b=>uS (qh a b)
def jK(a:dR):Bool:=rG a&&AX a&&(a.fV.all λb=>tj a b.ke false)&&kX a.dB.length 0 0 a.ik
def vl(c:dR)(b:Int):Bool:=match wG c.cells b with|some a=>decide (a.size=0)|none=>false
def zt(d:dR)(b c:Int):Bool:=match wG d.cells b with|some a=>decide (a.index=0)&& !decide (a.size=0)&&decide (a.size=c)|none=>false
def iC(d:fF):List Int:=
 if d.op=1\/d.op=6\/d.op=10\/d.op=27 then [d.a]else if d.op=2\/d.op=3 then [d.a,d.b]else if d.op=4 then [d.a,d.b,d.c]
 else if d.op=7 then [d.a,d.c]else if d.op=8\/d.op=26 then [d.b]else if d.op=9 then [d.b,d.c]else []
def lK(d:dR)(c:fF):Bool:=
 if c.op=6 then vl d c.b else if c.op=8 then vl d c.a else if c.op=7 then zt d c.b c.n else if c.op=9 then zt d c.a c.n
 else if c.op=11\/c.op=12 then tj d c.a false else if c.op=13\/c.op=14\/c.op=15\/c.op=16 then tj d c.a true
 else if c.op=21\/c.op=22\/c.op=23 then iP c.a d.fV.length else if c.op=24\/c.op=25 then iP c.a d.dB.length
 else if c.op=26 then iP c.a d.dT.length else if c.op=27 then iP c.b d.dT.length
 else if c.op=3 then decide (c.n=4\/c.n=5)else if c.op=4 then decide (6<=c.n/\c.n<=18)else true
def vk(a:Int):Bool:=decide (1<=a/\a<=5)
def IN(b:fF)(c:Int):Int:=if b.op=5 then b.a else c+1
def BL(c:List fF):Nat->Int->Bool
 |0,_=>false
 |m+1,b=>match wG c b with
  |none=>false
  |some a=>if vk a.op=true then BL c m (IN a b)else true
end
noncomputable section
open Go Go.TI
attribute [-simp] List.map_take List.map_drop List.map_append
def IJ(a b:Int):Bool:=decide (0<=a/\a<b)
@[simp] theorem Zr (a:Int) (b:Nat):IJ a (b:Int)=iP a b:=id rfl
def Oq{a b:Int}:IJ a b=true↔0<=a/\a<b:=by unfold IJ;simp
def Sw(d:Unit):f7:=⟨Int×Int,λa=>[dw a.1,dw a.2],λa=>True,λa=> .bool (IJ a.1 a.2),λa c b=>by simp at b;rw[b.1,b.2]⟩
def Um:(Sw ()).Ok Tryz.prog cx 162:=by
 refine gH (tb:=⟨pt [],ht []⟩) ei eg (iL 19 [] Tryz.func162) (λf=>1) (by simp[Sw]) (by simp[Sw,Tryz.f162]) ?_;rintro⟨e,g⟩ _ h a;simp[Sw]at a|-;obtain⟨b,c⟩:=a;by_cases d:0<=e<;>simp[Tryz.f162,b,c,d,IJ]
def uw{c:fq}(ht:c.p 162=some (Sw ()))(a b:Int):rl Tryz.prog cx c 162 [dw a,dw b]=some (.bool (IJ a b)):=gF ht Um (a,b) trivial
def tR:f7:=⟨Int,λa=>[dw a],λa=>True,λa=> .bool (vk a),λa c b=>by simp at b;rw[b]⟩
def Im:tR.Ok Tryz.prog cx 206:=by
 refine gH (tb:=⟨pt [],ht []⟩) ei eg (iL 5 [] Tryz.func206) (λd=>1) (by simp[tR]) (by simp[tR,Tryz.f206]) ?_;rintro(c:Int) _ e a;simp[tR]at a|-;by_cases b:1<=c<;>simp[Tryz.f206,a,b,vk]
def vZ{b:fq}(ht:b.p 206=some tR)(a:Int):rl Tryz.prog cx b 206 [dw a]=some (.bool (vk a)):=gF ht Im a trivial
def tS:f7:=⟨Nat,λa=>[.int .u8 a],λa=>True,λa=> .bool (ud a),λa b c=>by simp at c;rw[show a=b by omega]⟩
def yM:f7:=⟨Nat,λa=>[.int .u8 a],λa=>True,λa=> .bool (Ce a),λa b c=>by simp at c;rw[show a=b by omega]⟩
def yK:f7:=⟨Nat,λa=>[.int .u8 a],λa=>True,λa=> .bool (uY a),λa b c=>by simp at c;rw[show a=b by omega]⟩
def NF:tS.Ok Tryz.prog cx 157:=by
 refine gH (tb:=⟨pt [],ht []⟩) ei eg (iL 5 [] Tryz.func157) (λg=>1) (by simp[tS]) (by simp[tS,Tryz.f157]) ?_;rintro(a:Nat) _ h b;simp[tS]at b|-;by_cases c:97<=a<;>by_cases d:a<=122<;>by_cases e:65<=a<;>by_cases f:a<=90<;>simp[Tryz.f157,b,ud,c,d,e,f,show(97:Int)<=(a:Int)↔97<=a by omega,show(a:Int)<=122↔a<=122 by omega,show(65:Int)<=(a:Int)↔65<=a by omega,show(a:Int)<=90↔a<=90 by omega]
def AT{b:fq}(ht:b.p 157=some tS)(a:Nat):rl Tryz.prog cx b 157 [.int .u8 a]=some (.bool (ud a)):=gF ht NF a trivial
def QJ:yM.Ok Tryz.prog cx 204:=by
 refine gH (tb:=⟨pt [],ht []⟩) ei eg (iL 5 [] Tryz.func204) (λe=>1) (by simp[yM]) (by simp[yM,Tryz.f204]) ?_;rintro(a:Nat) _ f b;simp[yM]at b|-;by_cases c:48<=a<;>by_cases d:a<=57<;>simp[Tryz.f204,b,Ce,c,d,show(48:Int)<=(a:Int)↔48<=a by omega,show(a:Int)<=57↔a<=57 by omega]
def Vo{b:fq}(ht:b.p 204=some yM)(a:Nat):rl Tryz.prog cx b 204 [.int .u8 a]=some (.bool (Ce a)):=gF ht QJ a trivial
def QG:yK.Ok Tryz.prog cx 159:=by
 refine gH (tb:=⟨pt [(157,tS),(204,yM)],ht []⟩) ei eg (iL 5 [] Tryz.func159) (λe=>1) (by simp[yK]) (by simp[yK,Tryz.f159]) ?_;rintro(a:Nat) _ f b;simp[yK]at b|-;cases c:ud a<;>cases d:Ce a<;>simp[Tryz.f159,b,uY,AT,Vo,c,d,show(a:Int)=95↔a=95 by omega]
def Pd{b:fq}(ht:b.p 159=some yK)(a:Nat):rl Tryz.prog cx b 159 [.int .u8 a]=some (.bool (uY a)):=gF ht QG a trivial
def sP:f7:=⟨dR×Int×Int,λa=>[a.1.t,dw a.2.1,dw a.2.2],λa=>True,λa=> .bool (zt a.1 a.2.1 a.2.2),λa c b=>by simp at b;rw[dR.inj b.1,b.2.1,b.2.2]⟩
def Ln:sP.Ok Tryz.prog cx 205:=by
 refine gH (tb:=⟨pt [(162,Sw ())],ht []⟩) ei eg (iL 79 [] Tryz.func205) (λl=>1) (by simp[sP]) (by simp[sP,Tryz.f205]) ?_;rintro⟨k,h,m⟩ _ n c;simp[sP]at c|-;obtain⟨a,b,e⟩:=c;cases hl:iP h k.cells.length with
 |true=>
  obtain⟨d,f,g⟩:=im hl;by_cases i:d.index=0<;>by_cases j:d.size=0<;>simp[Tryz.f205,a,b,e,uw,hl,f,g,zt,ed (ff.1 hl).1,i,j]
 |false=>simp[Tryz.f205,a,b,uw,hl,ql hl,zt]
def Pk{d:fq}(ht:d.p 205=some sP)(c:dR)(a b:Int):rl Tryz.prog cx d 205 [c.t,dw a,dw b]=some (.bool (zt c a b)):=gF ht Ln (c,a,b) trivial
def my:f7:=⟨fF,λa=>[a.t],λa=>True,λa=>sl ((iC a).map (T.int .i64)),λa c b=>by simp at b;rw[fF.inj b]⟩
def CM:my.Ok Tryz.prog cx 97:=by
 refine gH (tb:=⟨pt [],ht []⟩) ei eg (iL 8934607822903 [] Tryz.func97) (λc=>1) (by simp[my]) (by simp[my,Tryz.f97]) ?_;rintro⟨a,c,o,p,q,r⟩ _ s b;simp[my]at b|-;rcases(by omega:a=1\/a=6\/a=10\/a=27\/a=2\/a=3\/a=4\/a=7\/a=8\/a=26\/a=9\/(¬a=1/\¬a=6/\¬a=10/\¬a=27/\¬a=2/\¬a=3/\¬a=4/\¬a=7/\¬a=8/\¬a=26/\¬a=9))with rfl|rfl|rfl|rfl|rfl|rfl|rfl|rfl|rfl|rfl|rfl|⟨d,g,h,i,j,k,l,m,n,e,f⟩
 rotate_right
 ·simp[Tryz.f97,b,iC,d,g,h,i,j,k,l,m,n,e,f]
 all_goals simp [Tryz.f97,b,iC,fW,sl]
def uj{b:fq}(ht:b.p 97=some my)(a:fF):rl Tryz.prog cx b 97 [a.t]=some (sl ((iC a).map (T.int .i64))):=gF ht CM a trivial
def sM:f7:=⟨dR×fF,λa=>[a.1.t,a.2.t],λa=>True,λa=> .bool (lK a.1 a.2),λa c b=>by simp at b;rw[dR.inj b.1,fF.inj b.2]⟩
def Ld:sM.Ok Tryz.prog cx 160:=by
 refine gH (tb:=⟨pt [(162,Sw ()),(205,sP)],ht []⟩) ei eg (iL 11161304336780981658631819976322344575566047 [] Tryz.func160) (λf=>1) (by simp[sM]) (by simp[sM,Tryz.f160]) ?_;rintro⟨h,⟨a,f,l,F,j,G⟩⟩ _ H i;simp[sM]at i|-;obtain⟨b,c⟩:=i;rcases(by omega:a=3\/a=4\/a=7\/a=9\/a=21\/a=22\/a=23\/a=24\/a=25\/a=26\/a=27\/a=6\/a=8\/a=11\/a=12\/a=13\/a=14\/a=15\/a=16\/(¬a=3/\¬a=4/\¬a=6/\¬a=8/\¬a=7/\¬a=9/\¬a=11/\¬a=12/\¬a=13/\¬a=14/\¬a=15/\¬a=16/\¬a=21/\¬a=22/\¬a=23/\¬a=24/\¬a=25/\¬a=26/\¬a=27))with rfl|rfl|rfl|rfl|rfl|rfl|rfl|rfl|rfl|rfl|rfl|rfl|rfl|rfl|rfl|rfl|rfl|rfl|rfl|⟨m,x,A,B,C,D,E,n,o,p,q,r,s,t,u,v,w,y,z⟩
 rotate_right
 ·simp[Tryz.f160,b,c,lK,m,x,A,B,C,D,E,n,o,p,q,r,s,t,u,v,w,y,z]
 ·by_cases g:j=4<;>simp[Tryz.f160,b,c,lK,g]
 ·by_cases g:6<=j<;>simp[Tryz.f160,b,c,lK,g]
 iterate 9 ·simp[Tryz.f160,b,c,lK,uw,Pk]
 ·cases hl:iP l h.cells.length with
  |true=>
   obtain⟨k,d,e⟩:=im hl;simp[Tryz.f160,b,c,lK,uw,hl,d,e,vl,ed (ff.1 hl).1]
  |false=>simp[Tryz.f160,b,c,lK,uw,hl,ql hl,vl]
 ·cases hl:iP f h.cells.length with
  |true=>
   obtain⟨k,d,e⟩:=im hl;simp[Tryz.f160,b,c,lK,uw,hl,d,e,vl,ed (ff.1 hl).1]
  |false=>simp[Tryz.f160,b,c,lK,uw,hl,ql hl,vl]
 all_goals
  cases hl:iP f h.dV.length with
  |true=>
   obtain⟨k,d,e⟩:=im hl;simp[Tryz.f160,b,c,lK,uw,hl,d,e,tj,ed (ff.1 hl).1]
  |false=>simp[Tryz.f160,b,c,lK,uw,hl,ql hl,tj]
def O8{c:fq}(ht:c.p 160=some sM)(b:dR)(a:fF):rl Tryz.prog cx c 160 [b.t,a.t]=some (.bool (lK b a)):=gF ht Ld (b,a) trivial
def rj:List (List Nat)->List Nat->Nat->Int
 | [],_,_=>-1
 |x::c,b,a=>if x=b then(a:Int)else rj c b (a+1)
def Fy:∀(a:List (List Nat)) (b:List Nat) (d:Nat),(0<=rj a b d)=(b∈a):=by
 intro a;induction a with
 |nil=>intro b d;simp[rj]
 |cons g a f=>
  intro b d;rw[rj];by_cases c:g=b
  ·subst c;simp
  ·rw[ao c,f];simp;intro e;exact absurd e.symm c
def AG:f7:=⟨List (List Nat)×List Nat,λa=>[sl (a.1.map T.str),.str a.2],λa=>a.1.length<=1099511627776,λa=> dw (rj a.1 a.2 0),λa c b=>by
 simp at b;rw[jt dp b.1,b.2]⟩
def ab9:AG.Ok Tryz.prog cx 110:=by
 refine gH (tb:=⟨pt [],ht []⟩) ei eg (iL 131635 [] Tryz.func110) (λm=>m.1.length+1) (by simp[AG]) (by simp[AG,Tryz.f110]) ?_;rintro⟨f,i⟩ hl c l;simp[AG]at hl l|-;obtain⟨b,d⟩:=l;simp[Tryz.f110];refine fc f.length dj (λe c j=>j=hE/\dz c 0 (sl (f.map T.str))/\dz c 1 (.str i)/\dz c 5 (dw e)/\rj (f.drop e) i e=rj f i 0) ?_ ?_ dj (by simp[b,d])
 ·rintro e c j k n ⟨rfl,b,d,g,a⟩;rw[aI k,rj]at a;by_cases h:f[e]=i
  ·rw[aq h]at a;simp[b,d,g,k,h,<-a]
  ·rw[ao h]at a;simp[b,d,g,k,h,n,a]
 ·rintro c j ⟨rfl,b,d,g,a⟩;simp[rj]at a;simp[b,g,<-a]
def Mg{c:fq}(ht:c.p 110=some AG)(a:List (List Nat))(b:List Nat)(hl:a.length<=1099511627776):rl Tryz.prog cx c 110 [sl (a.map T.str),.str b]=some (dw (rj a b 0)):=gF ht ab9 (a,b) hl
def qr:f7:=⟨Unit,λa=>[],λa=>True,λa=>sl (mK.map T.str),λa b c=>rfl⟩
def Io:qr.Ok Tryz.prog cx 203:=by
 refine gH (tb:=⟨pt [],ht []⟩) ei eg (iL 1 [] Tryz.func203) (λb=>1) (by simp[qr]) (by simp[qr,Tryz.f203]) ?_;rintro _ _ c a;simp[qr]at a|-;simp[Tryz.f203,fW];rfl
def LP{a:fq}(ht:a.p 203=some qr):rl Tryz.prog cx a 203 []=some (sl (mK.map T.str)):=gF ht Io () trivial
def Om:mK.length=22:=rfl
def sO:f7:=⟨List Nat,λa=>[.str a],λa=>True,λa=> .bool (tq a),λa c b=>by simp at b;rw[b]⟩
def Gk:sO.Ok Tryz.prog cx 158:=by
 refine gH (tb:=⟨pt [(203,qr)],ht []⟩) ei eg (iL 131613 [] Tryz.func158) (λn=>23) (by simp[sO]) (by simp[sO,Tryz.f158]) ?_;rintro(g:List Nat) _ b k;simp[sO]at k|-;simp[Tryz.f158,LP];refine fc mK.length (by rw[Om];omega) (λf b h=>h=hE/\dz b 0 (.str g)/\dz b 3 (sl (mK.map T.str))/\dz b 4 (dw f)/\(g∈mK.drop f↔g∈mK)) ?_ ?_ (by rw[Om];omega) (by simp[k])
 ·rintro f b h j l ⟨rfl,i,c,d,a⟩;have m:=aI j;rw[m]at a;by_cases e:mK[f]=g
  ·simp[i,c,d,j,e,tq];rw[<-a,e];simp
  ·simp[i,c,d,j,e,l];refine⟨λh=>a.1 (cw _ h),λh=> ?_⟩;rcases List.mem_cons.1 (a.2 h)with h|h
   ·exact absurd h.symm e
   ·exact h
 ·rintro b h ⟨rfl,i,c,d,a⟩;simp[c,d,tq];simpa using a
def Cm{b:fq}(ht:b.p 158=some sO)(a:List Nat):rl Tryz.prog cx b 158 [.str a]=some (.bool (tq a)):=gF ht Gk a trivial
def wm:f7:=⟨List Nat,λa=>[.str a],λa=>True,λa=> .bool (tc a),λa c b=>by simp at b;rw[b]⟩
def Nz:wm.Ok Tryz.prog cx 109:=by
 refine gH (tb:=⟨pt [(158,sO),(157,tS),(159,yK)],ht []⟩) ei eg (iL 4330618893 [] Tryz.func109) (λv=>13) (by simp[wm]) (by simp[wm,Tryz.f109]) ?_;rintro(a:List Nat) _ f d;simp[wm]at d|-;cases a with
 |nil=>simp[Tryz.f109,d,tc]
 |cons b a=>
  have h:¬(a.length:Int)+1<1:=dj;by_cases w:a.length+1<=12
  ·have e:¬(12:Int)<(a.length:Int)+1:=dj;cases j:ud b with
   |false=>simp[Tryz.f109,d,h,e,j,AT,tc,JX]
   |true=>
    cases o:tq (b::a)with
    |true=>simp[Tryz.f109,d,h,e,j,o,AT,Cm,tc,JX]
    |false=>
     have q:tc (b::a)=(b::a).all uY:=by simp[tc,o,JX,j];intro _ _;omega
     obtain⟨m,s⟩:∃m,m=(b::a).all uY:=⟨_,rfl⟩;rw[q,<-s];simp[Tryz.f109,d,h,e,j,o,AT,Cm];refine fc (b::a).length dq (λl f n=>n=hE/\dz f 0 (.str (b::a))/\dz f 3 (dw l)/\((b::a).drop l).all uY=m) ?_ ?_ dq (by rw[s];simp[d])
     ·rintro l f n p u ⟨rfl,g,i,c⟩;rw[aI p,cy]at c;generalize t:(b::a)=r at*
      cases k:uY r[l]with
      |true=>rw[k,bK]at c;simp[g,i,p,u,Pd,k,c]
      |false=>rw[k,Bool.false_and]at c;simp[g,i,p,Pd,k,<-c]
     ·rintro f n ⟨rfl,g,i,c⟩;generalize t:(b::a)=r at*
      rw[df]at c;simp[g,i,<-c]
  ·have e:(12:Int)<(a.length:Int)+1:=dj;have q:tc (b::a)=false:=by simp[tc];omega
   simp[Tryz.f109,d,h,e,q]
def oU{b:fq}(ht:b.p 109=some wm)(a:List Nat):rl Tryz.prog cx b 109 [.str a]=some (.bool (tc a)):=gF ht Nz a trivial
end
noncomputable section
open Go Go.TI
attribute [-simp] List.map_take List.map_drop List.map_append fj eG dY Bool.not_or Bool.not_and
attribute [simp] fh eJ
def okB(a:List Int):Prop:=a.length<=140737488351232/\∀x∈a,0<=x/\x<256
def Tp(b:List Int)(c:Nat)(d:H):Prop:=∃e a,d.get c=some (dy 2 e [.agg [sl (b.map (T.int .u8)),dw a]])/\0<=a
structure yw where
 (L:List Int) (b:Nat) (n:Int)
def tX(a:yw)(d:List T)(c:H):Prop:=d=[.ptr a.b 0 0 0,dw a.n]/\Tp a.L a.b c/\gu 0 c/\1<=a.n/\a.n<=100/\okB a.L
def qN(a:yw)(g:List T)(e:H)(f:T)(d:H):Prop:=∃c,f= dw c/\0<=c/\c<a.n/\Tp a.L a.b d/\Sm a.b e d
def _root_.Go.TI.Sm.out{b:Nat}{h c:H}(a:Sm b (TI.hr h) c):Sm b h (lA h c):=⟨a.ok.out h,a.size,λd e=>by rw[fK,a.get d e,fX]⟩
def CJ{k:ak}{a b:Int}(d:¬b=0):binop .rem (.int k a) (.int k b)=some (.int k (a.tmod b)):=by
 have c:P5 b 0=false:=by rw[xf];simp[d]
 unfold binop;simp[wc,c]
def Ny:(jp yw tX qN).Ok Tryz.prog cx 63:=by
 refine jk (tb:=⟨pt [],ht []⟩) ei eg (iL 262163 [] Tryz.func63) (λ_ _=>5) (λE a h z=>by obtain⟨rfl,_⟩:=z;simp[Tryz.f63]) ?_;rintro⟨c,f,k⟩ _ h ⟨rfl,⟨g,b,e,q⟩,r,w,y,s,n⟩ F o;simp only at e q w y s n;simp at o;obtain⟨i,m⟩:=o;simp[Tryz.f63,i,m,e];refine dU (λj=> ?_) (λj=> ?_)
 ·simp[j];exact⟨0,rfl,Int.le_refl _,dt,⟨g,b,by rw[fK,fX];exact e,q⟩,Sm.out (Sm.refl r.hr)⟩
 ·simp at j;have B:IntKind.i64.wrap (b+1)=b+1:=by rw[<-ji];exact jr dj dj
  have C:IntKind.i64.wrap b=b:=by rw[<-ji];exact jr dj dj
  have A:Sm f (hr h) _:=(Sm.refl r.hr).put (x:=(dy 2 g [.agg [sl (c.map (T.int .u8)),dw b]])) (by rw[fX];exact e) (dy 2 (g+1) [.agg [sl (c.map (T.int .u8)),dw (b+1)]]);have l:(dQ (hr h) f (dy 2 (g+1) [.agg [sl (c.map (T.int .u8)),dw (b+1)]])).get f=_:=(dE (h:=hr h) (by rw[fX];exact e) _ f).trans (aq rfl);simp[i,e,nD,dP,B];generalize dQ (hr h) f _=D at*
  obtain⟨d,rfl⟩:∃d:Nat,b=d:=⟨b.toNat,dj⟩;have p:d<c.length:=dj;have t:=n c[d] (aF p);have u: -9223372036854775808<=c[d]:=dj;have v:c[d]<9223372036854775808:=dj;have t0:=Int.tmod_nonneg k t.1;have t1:=Int.tmod_lt_of_pos c[d] (show 0<k by omega);simp[i,m,l,tN,C,p,u,v,CJ (a:=c[d]) (show¬k=0 by omega)];exact⟨_,rfl,t0,t1,⟨_,_,by rw[fK];exact l,dj⟩,Sm.out A⟩
def F3:f7:=⟨Int,λa=>[dw a],λ_=>True,λa=>(dK.mk 1 a [] []).t,λa c b=>by simp at b;rw[b]⟩
def YL:F3.Ok Tryz.prog cx 120:=by
 refine gH (tb:=⟨pt [],ht []⟩) ei eg (iL 5 [] Tryz.func120) (λ_=>5) (by simp[F3]) (by simp[F3,Tryz.f120]) ?_;rintro a _ c b;simp[F3]at a b|-;simp[Tryz.f120,b];simpa using dK.fold 1 a [] []
def Rz{b:fq}(ht:b.p 120=some F3)(a:Int):rl Tryz.prog cx b 120 [dw a]=some (dK.mk 1 a [] []).t:=gF ht YL a trivial
def H6:f7:=⟨List Nat,λa=>[.str a],λ_=>True,λa=>(dK.mk 2 0 a []).t,λa c b=>by simp at b;rw[b]⟩
def YM:H6.Ok Tryz.prog cx 211:=by
 refine gH (tb:=⟨pt [],ht []⟩) ei eg (iL 5 [] Tryz.func211) (λ_=>5) (by simp[H6]) (by simp[H6,Tryz.f211]) ?_;rintro a _ c b;simp[H6]at a b|-;simp[Tryz.f211,b];simpa using dK.fold 2 0 a []
def RA{b:fq}(ht:b.p 211=some H6)(a:List Nat):rl Tryz.prog cx b 211 [.str a]=some (dK.mk 2 0 a []).t:=gF ht YM a trivial
def H7:f7:=⟨Int×dK×dK,λa=>[dw a.1,a.2.1.t,a.2.2.t],λ_=>True,λa=>(dK.mk a.1 0 [] [a.2.1,a.2.2]).t,λa c b=>by
 simp at b;rw[b.1,dK.inj b.2.1,dK.inj b.2.2]⟩
def YO:H7.Ok Tryz.prog cx 210:=by
 refine gH (tb:=⟨pt [],ht []⟩) ei eg (iL 119 [] Tryz.func210) (λ_=>5) (by simp[H7]) (by simp[H7,Tryz.f210]) ?_;rintro⟨d,b,c⟩ _ e a;simp[H7]at a|-;simp[Tryz.f210,a,fW];simpa using dK.fold d 0 [] [b,c]
def Vp{d:fq}(ht:d.p 210=some H7)(c:Int)(a b:dK):rl Tryz.prog cx d 210 [dw c,a.t,b.t]=some (dK.mk c 0 [] [a,b]).t:=gF ht YO (c,a,b) trivial
def H9:f7:=⟨List Nat×dK,λa=>[.str a.1,a.2.t],λ_=>True,λa=>(dG.mk 1 0 a.1 [] [] a.2 [] []).t,λa c b=>by
 simp at b;rw[b.1,dK.inj b.2]⟩
def YP:H9.Ok Tryz.prog cx 119:=by
 refine gH (tb:=⟨pt [],ht []⟩) ei eg (iL 27 [] Tryz.func119) (λ_=>5) (by simp[H9]) (by simp[H9,Tryz.f119]) ?_;rintro⟨b,c⟩ _ d a;simp[H9]at a|-;simp[Tryz.f119,a];rw[dG.mP];rfl
def uA:List gG:=[⟨1,0,[120],0,0,[]⟩,⟨1,0,[121],0,1,[]⟩,⟨2,0,[118],0,0,[]⟩,⟨1,0,[113],2,0,[]⟩,⟨3,0,[109],0,0,[]⟩,⟨3,0,[110],0,0,[]⟩,⟨4,0,[114],0,0,[]⟩,⟨5,0,[99],0,0,[109]⟩,⟨6,0,[102],0,0,[]⟩]
def yN:f7:=⟨Unit,λ_=>[],λ_=>True,λ_=>sl (uA.map gG.t),λ_ _ _=>rfl⟩
def QL:yN.Ok Tryz.prog cx 117:=by
 refine gH (tb:=⟨pt [],ht []⟩) ei eg (iL 1 [] Tryz.func117) (λ_=>5) (by simp[yN]) (by simp[yN,Tryz.f117]) ?_;rintro _ _ b a;simp[yN]at a|-;simp[Tryz.f117,fW,uA]
def Pi{a:fq}(ht:a.p 117=some yN):rl Tryz.prog cx a 117 []=some (sl (uA.map gG.t)):=gF ht QL () trivial
def rC{c:fq}(ht:c.p 119=some H9)(a:List Nat)(b:dK):rl Tryz.prog cx c 119 [.str a,b.t]=some (dG.mk 1 0 a [] [] b [] []).t:=gF ht YP (a,b) trivial
def rx(b:Nat)(e left:Int)(set f a d:Bool)(c:T):List T:=[.ptr b 0 0 0,dw e,dw left,.bool set,.bool f,.bool a,.bool d,c]
structure Mk(L:List Int)(n:Nat)(h:H)(m b:Nat):Prop where
 ok:gu 0 h
 fp:∀c,Fp h m c->c<h.size
 tp:Tp L b h
 ex:∃ver th left set tx at' lp hv,∃hs:List (List Nat),h.get m=some (dy 8 ver [.agg (rx b th left set tx at' lp hv)])/\Gr h hv 1 (hs.map T.str)/\hs.length=n
def Mk.ne{e:List Int}{h:Nat}{g:H}{d b:Nat}(c:Mk e h g d b):d≠b:=λi=>by
 obtain⟨k,j,f,_⟩:=c.tp;obtain⟨_,_,_,_,_,_,_,_,_,a,_⟩:=c.ex;rw[i,f]at a;simp at a
def Mk.lt{c:List Int}{f:Nat}{b:H}{a d:Nat}(e:Mk c f b a d):a<b.size:=e.fp a (.inl rfl)
def Mk.fpb{d:List Int}{g:Nat}{b:H}{c a:Nat}(f:Mk d g b c a):Fp b c a:=by
 obtain⟨_,_,_,_,_,_,_,_,_,e,_⟩:=f.ex;exact .inr ⟨_,e,_,by simp[eQ,T.cells,rx];exact .inl rfl,rfl⟩
def Mk.tape{i:List Int}{m:Nat}{h e:H}{d g:Nat}(f:Mk i m h d g)(a:Sm g h e)(v:Tp i g e):Mk i m e d g/\Step d h e:=by
 have j:e.get d=h.get d:=a.get d f.ne;obtain⟨z,C,p,_⟩:=f.tp;obtain⟨y,w,left,set,x,o,u,t,s,q,l,hl⟩:=f.ex;refine⟨⟨a.ok,λc b=>by rw[iE j]at b;rw[a.size];exact f.fp c b,v,y,w,left,set,x,o,u,t,s,by rw[j];exact q,l.mono λc b=>a.get c λk=> ?_,hl⟩,⟨a.ok.hp,a.ok.low,by rw[a.size];exact au _⟩,λc _ r=>a.get c λk=>r (by rw[k];exact f.fpb),λc b=>by rw[iE j]at b;exact .inl b⟩;obtain⟨A,z,B,D,n,_⟩:=l.box b;rw[k,p]at n;simp at n
structure Tw(L:List Int)(b:Nat)(h h':H):Prop where
 ok:gu 0 h'
 size:h.size<=h'.size
 get:∀c,c<h.size->c≠b->h'.get c=h.get c
 tp:Tp L b h'
def Tw.refl{b:List Int}{c:Nat}{a:H}(d:gu 0 a)(e:Tp b c a):Tw b c a a:=⟨d,au _,λ_ _ _=>rfl,e⟩
def Tp.lt{c:List Int}{a:Nat}{b:H}(e:Tp c a b):a<b.size:=by
 obtain⟨_,_,d,_⟩:=e;exact H.ej d
def Tp.eq{b:List Int}{a:Nat}{c d:H}(i:Tp b a c)(f:d.get a=c.get a):Tp b a d:=by
 obtain⟨j,g,e,h⟩:=i;exact⟨j,g,by rw[f];exact e,h⟩
def Tw.cons{a:List Int}{b:Nat}{c d:H}(w:Tw a b c d)(e:iJ):Tw a b c (d.cons e):=
 ⟨w.ok.cons e,by have:=w.size;simp;omega,λf g h=>by rw[dM,ao (by have:=w.size;omega)];exact w.get f g h,w.tp.eq (by rw[dM,ao (by have:=w.tp.lt;omega)])⟩
def Tw.put{f:List Int}{d:Nat}{a e:H}(b:Tw f d a e){c:Nat}{x:iJ}(g:e.get c=some x)(m:a.size<=c)(l:d<a.size)(h:iJ):Tw f d a (dQ e c h):=
 ⟨b.ok.put c h,by rw[fG];exact b.size,λi j k=>by rw[dE g,ao dj];exact b.get i j k,b.tp.eq (by rw[dE g,ao dj])⟩
def Tw.call{b:List Int}{a:Nat}{f g c:H}(i:Tw b a f g)(d:Sm a g c)(k:Tp b a c):Tw b a f c:=
 ⟨d.ok,by rw[d.size];exact i.size,λe j h=>(d.get e h).trans (i.get e j h),k⟩
def Tw.cut{j:List Int}{e:Nat}{a d:H}(b:Tw j e (TI.hr a) d)(A:gu 0 a)(v:e<a.size){p q:T}{o:T->H->Prop}(x:∃i,iT d a.size p=some i/\cn i=q)
 (z:Sm e a (ui a d)->Tp j e (ui a d)->o q (ui a d)):xv a p d o:=by
 obtain⟨i,u,rfl⟩:=x;have h:a.size<=d.size:=b.size;refine⟨b.ok.hp,h,λc B w l=> ?_,i,u,z ⟨A.cut b.ok.hp h,rfl,λc y=> ?_⟩ (b.tp.eq (yk b.ok.hp h v))⟩
 ·by_cases f:c=e
  ·obtain⟨r,D,t,_⟩:=b.tp;rw[f,t]at l;cases l;refine .inr λr k=>(BH r ?_).mono (aw _);simp[eQ,T.cells]at k;rcases k with rfl|rfl<;>simp
  ·exact .inl ((b.get c w f).trans (fX a c))
 ·by_cases f:c<a.size
  ·rw[yk b.ok.hp h f,b.get c f y,fX]
  ·have m:∀g:H,g.size=a.size->g.get c=none:=λg C=>by
    cases s:g.get c with
    |none=>rfl
    |some B=>have:=H.ej s;omega
   rw[m (ui a d) rfl,m a rfl]
def Mk.tw{h:List Int}{m:Nat}{a f:H}{b i:Nat}(c:Mk h m a b i)(d:Tw h i (TI.hr a) f):Mk h m f b i:=by
 have l:f.get b=a.get b:=(d.get b c.lt c.ne).trans (fX a b);obtain⟨x,B,o,_⟩:=c.tp;obtain⟨w,u,left,set,v,n,s,r,q,p,k,hl⟩:=c.ex;have A:a.size<=f.size:=d.size;refine⟨d.ok,λe g=>by rw[iE l]at g;have:=c.fp e g;omega,d.tp,w,u,left,set,v,n,s,r,q,by rw[l];exact p,k.mono λe g=> ?_,hl⟩;obtain⟨y,x,z,C,j,_⟩:=k.box g;exact(d.get e (H.ej j) λt=>by rw[t,o]at j;simp at j).trans (fX a e)
def rf{g:fq}{l:Nat}{e:List Int}{b:Nat}{d:Int}{f:H}{m:af Oper}{j:aa Tmp}{k:List Oper}{o n:fJ}{i:iw}(ht:g.h 63=some (jp yw tX qN))(y:Tp e b f)(u:gu 0 f)(q:1<=d)(r:d<=100)(s:okB e)
 (p:∀(a:Nat) c,(a:Int)<d->Tp e b c->Sm b f c->XK (some (dw a,c)) cx (qk Tryz.prog cx g) l m j k o n i):XK (hl Tryz.prog cx g 63 [.ptr b 0 0 0,dw d] f) cx (qk Tryz.prog cx g) l m j k o n i:=
 gJ Ny ht ⟨e,b,d⟩ ⟨rfl,y,u,q,r,s⟩ (by
  rintro _ c ⟨a,rfl,z,v,w,x⟩;obtain⟨a,rfl⟩:∃t:Nat,a=t:=⟨a.toNat,dj⟩;exact p a c v w x)
def I8{i:fq}{p:Nat}{f:List Int}{c:Nat}{e:Int}{b:H}{r:af Oper}{k:List (Nat×Nat)}{l:aa Tmp}{q:Op}{n:List Oper}{g:Nat}{o:List (Nat×Nat)}{m:List (Nat×H×H)}{t s:fJ}{j:iw}(ht:i.h 63=some (jp yw tX qN))(C:Tp f c b)(y:gu 0 b)(v:1<=e)(w:e<=100)(x:okB f)
 (u:∀(a:Nat) d,(a:Int)<e->Tp f c d->Sm c b d->PR (some (dw a,d)) cx (qk Tryz.prog cx i) p r k l q n g o m t s b j):PR (hl Tryz.prog cx i 63 [.ptr c 0 0 0,dw e] b) cx (qk Tryz.prog cx i) p r k l q n g o m t s b j:=
 lJ Ny ht ⟨f,c,e⟩ ⟨rfl,C,y,v,w,x⟩ (by
  rintro _ d ⟨a,rfl,D,z,A,B⟩;obtain⟨a,rfl⟩:∃g:Nat,a=g:=⟨a.toNat,dj⟩;exact u a d z A B)
def dK.ft{b:H}{V:Nat->Prop}(a:dK)(d:Nat):FT b V (d+2) a.t a.t:= .inr (.inr ⟨_,_,a.mP,.cons (fR ..) (.cons (fR ..) (.cons (jR ..) (.cons (ou _ _ _ λe c=>by obtain⟨f,_,rfl⟩:=List.mem_map.1 c;simp) .nil))),a.mP⟩)
structure RT where
 (L:List Int) (m b n d:Nat)
def T6(a:RT)(c:List T)(e:H):Prop:=c=[.ptr a.m 0 0 0,dw a.d]/\Mk a.L a.n e a.m a.b/\okB a.L/\a.d<=10
def JI(a:RT)(h:List T)(f:H)(g:T)(e:H):Prop:=∃c:dK,g=c.t/\ME c/\c.w<=3^a.d/\Tp a.L a.b e/\Sm a.b f e
def Fb{f:List Int}{m e n d:Nat}{b c:H}{z:iJ}{a k:Int}{s:List Nat}{v:T}{l:List dK}{args:List T}(q:gu 0 b)(h:e<b.size)(y:Tw f e (TI.hr b) c)(g:c.get b.size=some z)
 (o:FT (dQ c b.size (dy 4 1 [.agg [dw a,dw k,.str s,v]])) (λi=>b.size<=i) 11 v (sl (l.map dK.t))) (j:ME ⟨a,k,s,l⟩) (p:(dK.mk a k s l).w<=3^d):
 (dQ c b.size (dy 4 1 [.agg [dw a,dw k,.str s,v]])).get b.size=some (dy 4 1 [.agg [dw a,dw k,.str s,v]])/\
 xv b (.agg [dw a,dw k,.str s,v]) (dQ c b.size (dy 4 1 [.agg [dw a,dw k,.str s,v]])) (JI ⟨f,m,e,n,d⟩ args b):=
 ⟨(dE g _ _).trans (aq rfl),(y.put g (au _) h _).cut q h (FT.top (au 11) (λ_ r=>r) (.cons (fR ..) (.cons (fR ..) (.cons (jR ..) (.cons o .nil))))) λu x=>⟨⟨a,k,s,l⟩,(dK.mP ⟨a,k,s,l⟩).symm,j,p,x,u⟩⟩
abbrev MQ(e:Nat):kA:=jp RT (λa b c=>T6 a b c/\a.d<e) JI
def Oy(k:Nat)(P:(MQ k).Ok Tryz.prog cx 209):(MQ (k+1)).Ok Tryz.prog cx 209:=by
 refine pW (tb:=⟨pt [(120,F3),(211,H6),(210,H7)],ht [(63,jp yw tX qN),(209,MQ k)]⟩) ei eg (iL 35186519589107 [(10,[(8,13),(9,13),(8,17),(9,17)])] Tryz.func209) (λ_ _=>5) (λi a e a8=>by obtain⟨⟨rfl,_⟩,_⟩:=a8;simp[Tryz.f209]) ?_;rintro⟨G,m,A,n,d⟩ _ e ⟨⟨rfl,b,r,aE⟩,aN⟩ cL V;simp only at b r aE aN;simp at V;obtain⟨w,K⟩:=V;obtain⟨cp,ca,left,set,cb,bB,b9,b6,bT,I,bC,hl⟩:=b.ex;simp only[rx]at I;have a7:=b.lt;have aX:(m=e.size)=False:=dq;have a6:(m=e.size+1)=False:=dq;simp[Tryz.f209,w,I,aX,a6];have F:=((Tw.refl b.ok.hr (b.tp.eq (fX e A))).cons (dy 4 0 [.agg [dw 0,dw 0,.str [],dx]])).cons (dy 1 0 [.str [97],.str [98],.str [120],.str [121],.str [118],.str [120],.str [121]]);refine rf dp F.tp F.ok dj dj r λb8 p bN t2 D=> ?_;have C:=b.tp.lt;have f:=F.call D t2;have gR:p.get e.size=some (dy 4 0 [.agg [dw 0,dw 0,.str [],dx]]):=(D.get _ dj).trans dp;have gN:p.get (e.size+1)=some (dy 1 0 [.str [97],.str [98],.str [120],.str [121],.str [118],.str [120],.str [121]]):=(D.get _ dj).trans dp;have J:=((f.get m a7 b.ne).trans (fX e m)).trans I;clear D F;simp[K];refine dU (λN=> ?_) (λN=> ?_)
 ·simp[w,J];refine rf dp f.tp f.ok dj dj r λg q _ t3 h=> ?_;have j:=f.call h t3;have gR:=(h.get _ dj).trans gR;have fin:=Fb (m:=m) (n:=n) (d:=d) (v:=sl []) (l:=[]) (args:=[.ptr m 0 0 0,dw d]) b.ok C j gR (ou _ _ _ dp) (.num g) (by rw[dK.kP];simp only[dK.EI,dK.iz];exact Nat.pow_pos dj);simp[Rz,gR,fin.1];exact fin.2
 simp;refine dU (λL=> ?_) (λL=> ?_)
 ·simp[w,J];refine rf dp f.tp f.ok dj dj r λg q W t3 h=> ?_;have j:=f.call h t3;have gR:=(h.get _ dj).trans gR;have gN:=(h.get _ dj).trans gN;have o:∃s:List Nat,([.str [97],.str [98],.str [120],.str [121],.str [118],.str [120],.str [121]]:List T)[g]? =some (.str s):=by
   rcases(by omega:g=0\/g=1\/g=2\/g=3\/g=4\/g=5\/g=6)with rfl|rfl|rfl|rfl|rfl|rfl|rfl<;>exact⟨_,rfl⟩
  obtain⟨s,o⟩:=o;generalize([.str [97],.str [98],.str [120],.str [121],.str [118],.str [120],.str [121]]:List T)=al at gN o;have fin:=Fb (m:=m) (n:=n) (d:=d) (v:=sl []) (l:=[]) (args:=[.ptr m 0 0 0,dw d]) b.ok C j gR (ou _ _ _ dp) (.nm s) (by rw[dK.kP];simp only[dK.EI,dK.iz];exact Nat.pow_pos dj);have W:g<7:=dj;simp[gN,W,o,RA,gR,fin.1];exact fin.2
 ·simp;refine dU (λM=> ?_) (λM=> ?_)
  ·simp[w];simp at L N M;refine gJ P dp ⟨G,m,A,n,0⟩ ⟨⟨rfl,b.tw f,r,dp⟩,dt⟩ ?_;rintro _ q ⟨c,rfl,ap,bk,t3,h⟩;simp only at bk t3 h;have j:=f.call h t3;have gR:=(h.get _ dj).trans gR;have bS:=H.ej gR;have O:(e.size=q.size)=False:=dq;have B:(q.cons (dy 4 0 [c.t])).get e.size=_:=(by rw[dM,ao dj]:(q.cons (dy 4 0 [c.t])).get e.size=q.get e.size).trans gR;have fin:=Fb (m:=m) (n:=n) (d:=d) (a:=3) (k:=0) (s:=[113]) (v:= .arr q.size 0 0 1 false) (l:=[c]) (args:=[.ptr m 0 0 0,dw d]) b.ok C (j.cons (dy 4 0 [c.t])) B
    (.inr (.inl ⟨q.size,0,0,1,false,[c.t],[c.t],rfl,dj,by rw[fW,dE B,ao dj,dM,aq rfl];simp,.cons (c.ft 8) .nil,rfl⟩)) (.ix ap) (by
      have:3^1<=3^d:=Nat.pow_le_pow_right dj dj;rw[dK.kP];simp only[dK.EI,dK.jM,dK.iz];omega)
   simp[gR,O,fin.1];exact fin.2
  simp at L N M;obtain⟨d,rfl⟩:∃c,d=c+1:=⟨d-1,dj⟩;have O:(m=p.size)=False:=by have:=f.size;simp at this;simp;omega
  have ae:IntKind.i64.wrap d=(d:Int):=by rw[<-ji];exact jr dj dj
  simp[w,O,J];have j:=f.cons (dy 1 0 [dw 6,dw 7,dw 8,dw 11,dw 13,dw 17]);refine I8 dp j.tp j.ok dj dj r λu x X t4 E=> ?_;have Y:=j.call E t4;have b7:p.size+1=x.size:=by rw[E.size];simp
  have bH:=f.tp.lt;have gO:x.get p.size=some (dy 1 0 [dw 6,dw 7,dw 8,dw 11,dw 13,dw 17]):=(E.get _ dj).trans dp;have B:x.get e.size=_:=((E.get _ dj).trans (by rw[dM,ao (by have:=H.ej gR;omega)])).trans gR;have o:∃s:Int,([dw 6,dw 7,dw 8,dw 11,dw 13,dw 17]:List T)[u]? =some (dw s)/\6<=s:=by
   rcases(by omega:u=0\/u=1\/u=2\/u=3\/u=4\/u=5)with rfl|rfl|rfl|rfl|rfl|rfl<;>exact⟨_,rfl,dj⟩
  obtain⟨s,o,bi⟩:=o;generalize([dw 6,dw 7,dw 8,dw 11,dw 13,dw 17]:List T)=al at*
  have X:u<6:=dj;simp[w,K,gO,o,X,tN,ae];refine lJ P dp ⟨G,m,A,n,d⟩ ⟨⟨rfl,b.tw Y,r,dt⟩,dt⟩ ?_;rintro _ S ⟨c,rfl,av,bl,t5,y⟩;simp only at bl t5 y;have Z:=Y.call y t5;have an:=(y.get _ dj).trans B;have bs:ew x S p.size=true:=eZ (y.get _ dj);simp[w,K,tN,ae,bs];refine lJ P dp ⟨G,m,A,n,d⟩ ⟨⟨rfl,b.tw Z,r,dt⟩,dt⟩ ?_;rintro _ U ⟨Q,rfl,aA,bn,t6,z⟩;simp only at bn t6 z;have bz:=Z.call z t6;have R:=(z.get _ dj).trans an;have bu:ew S U p.size=true:=eZ (z.get _ dj);have ce:ew x U p.size=true:=eZ ((z.get _ dj).trans (y.get _ dj));have fin:=Fb (m:=m) (n:=n) (d:=d+1) (a:=s) (k:=0) (s:=[]) (v:=sl [c.t,Q.t]) (l:=[c,Q]) (args:=[.ptr m 0 0 0,dw (d+1:Nat)]) b.ok C bz R (ou _ _ _ dp) (.bin bi av aA) (by
   have:=Nat.pow_pos (n:=d) (show 0<3 by omega);rw[dK.kP,Nat.pow_succ];simp only[dK.EI,dK.jM,dK.iz];omega)
  simp[Vp,bu,R,fin.1];exact fin.2
def NM(a:Nat):(MQ a).Ok Tryz.prog cx 209:=yx (λb:RT=>b.d) Oy a
def Nw(d c:Nat)(b:H)(e:Nat)(f:T)(a:Nat):Prop:=d<=a/\a<c/\¬Fp b e a/\dL f≠some a
def JS(a:Nat):dL .j4≠some a:=by show(none:aa Nat)≠some a;simp
def SV(f e:Nat)(b:H)(g h:Nat)(c:T)(i:List dG):Prop:=∃d,Gr b c 11 d/\io (FT b (Nw f e b g c) (h+2)) d (i.map dG.t)/\∀a,dL c=some a->f<=a/\a<e/\¬Fp b g a
def SV.nil(d c:Nat)(b:H)(e a:Nat):SV d c b e a dx []:=⟨[],Gr.nil _ _,.nil,λg f=>by simp at f⟩
def SV.same{i h m k:Nat}{f g:H}{d j:Nat}{n:T}{l:List dG}(r:SV i h f d j n l)(v:m<=i)(w:h<=k)(c:∀a,i<=a->a<h->¬Fp f d a->g.get a=f.get a/\¬Fp g d a):SV m k g d j n l:=by
 obtain⟨p,q,o,e⟩:=r;refine⟨p,q.mono λa b=>(c a (e a b).1 (e a b).2.1 (e a b).2.2).1,o.ft λa b=>⟨⟨by have:=b.1;omega,by have:=b.2.1;omega,(c a b.1 b.2.1 b.2.2.1).2,b.2.2.2⟩,(c a b.1 b.2.1 b.2.2.1).1⟩,λa b=> ?_⟩;obtain⟨s,t,u⟩:=e a b;exact⟨dj,dj,(c a s t u).2⟩
def SV.step{i b:Nat}{a f:H}{c e:Nat}{l:T}{h:List dG}(m:SV i b a c e l h)(k:Step c a f)(o:b<=a.size):SV i b f c e l h:=
 m.same (au _) (au _) λd _ n g=>⟨k.get d dj g,λj=>(k.fp d j).elim g λj=>by omega⟩
def SV.wide{f c g d:Nat}{b:H}{h a:Nat}{i:T}{e:List dG}(l:SV f c b h a i e)(j:g<=f)(k:c<=d):SV g d b h a i e:=l.same j k λ_ _ _ m=>⟨rfl,m⟩
def SV.box{e d:Nat}{i:H}{l h:Nat}{g:T}{k:List dG}(c:SV e d i l h g k){a:Nat}(j:e<=a/\a<d->False):dL g≠some a:=λf=>by
 obtain⟨_,_,_,c⟩:=c;exact j ⟨(c a f).1,(c a f).2.1⟩
def SV.rn{f e:Nat}{b:H}{c g:Nat}{i:T}{h:List dG}(l:SV f e b c g i h){a:Nat}{m:iJ}(d:Lb c b a m)(q:a<f\/e<=a)(j:iJ):SV f e (dQ b a j) c g i h:=
 l.same (au _) (au _) λn o p k=>⟨by rw[dE d.get,ao dj],by rw[iE (show(dQ b a j).get c=b.get c by rw[dE d.get,ao (bg d.ne)])];exact k⟩
def SV.ft{i h:Nat}{e:H}{j d:Nat}{k:T}{a:List dG}(p:SV i h e j d k a):FT e (Nw i h e j .j4) (d+3) k (sl (a.map dG.t)):=by
 obtain⟨n,g,b,q⟩:=p;have o:=g.jc;rcases g with⟨rfl,rfl⟩|⟨c,m,y,v,A,rfl,w,x⟩
 ·cases hl:a.map dG.t with
  |nil=>exact iQ _ _ _ _
  |cons z a=>rw[hl]at b;cases b
 ·obtain⟨r,s,u⟩:=q c rfl;exact .inr (.inl ⟨c,m,0,_,false,n,_,rfl,⟨r,s,u,JS c⟩,o,b.ft λl f=>⟨⟨f.1,f.2.1,f.2.2.1,JS l⟩,rfl⟩,rfl⟩)
def dG.ft{c:H}{V:Nat->Prop}(b:dG)(d:Nat):FT c V (d+2) b.t b.t:=by
 have f:∀a:List dK,FT c V (d+1) (sl (a.map dK.t)) (sl (a.map dK.t)):=λa=>ou _ _ _ λh e=>by obtain⟨i,_,rfl⟩:=List.mem_map.1 e;simp
 have g:∀a:List dG,FT c V (d+1) (sl (a.map dG.t)) (sl (a.map dG.t)):=λa=>ou _ _ _ λh e=>by obtain⟨i,_,rfl⟩:=List.mem_map.1 e;simp
 exact .inr (.inr ⟨_,_,b.mP,.cons (fR ..) (.cons (fR ..) (.cons (jR ..) (.cons (jR ..) (.cons (f _) (.cons (fR ..) (.cons (fR ..) (.cons (jR ..) (.cons (f _) (.cons (g _) (.cons (g _) .nil)))))))))),b.mP⟩)
def Mk.same{i:List Int}{m:Nat}{b c:H}{f g:Nat}(e:Mk i m b f g)(r:gu 0 c)(v:b.size<=c.size)(h:∀a,Fp b f a->c.get a=b.get a):Mk i m c f g:=by
 have k:=h f (.inl rfl);obtain⟨u,s,left,set,t,n,q,l,p,j,o,hl⟩:=e.ex;refine⟨r,λa d=>by rw[iE k]at d;have:=e.fp a d;omega,e.tp.eq (h g e.fpb),u,s,left,set,t,n,q,l,p,by rw[k];exact j,o.mono λa d=>h a (.inr ⟨_,j,l,by simp[eQ,T.cells,rx],d⟩),hl⟩
def Mk.cons{b:List Int}{f:Nat}{d:H}{e c:Nat}(a:Mk b f d e c)(g:iJ):Mk b f (d.cons g) e c:=a.same (a.ok.cons g) dp λh i=>by rw[dM,ao (by have:=a.fp h i;omega)]
def Mk.rn{d:List Int}{h:Nat}{b:H}{c e:Nat}(f:Mk d h b c e){a:Nat}{l:iJ}(g:Lb c b a l)(i:iJ):Mk d h (dQ b a i) c e:=f.same (f.ok.put a i) (by rw[fG];exact au _) λm j=>by rw[dE g.get,ao (λk=>g.nf (by rw[<-k];exact j))]
def Mk.hr{b:List Int}{f:Nat}{a:H}{e c:Nat}(d:Mk b f a e c):Mk b f (TI.hr a) e c:=d.same d.ok.hr (au _) λg _=>fX a g
def Mk.out{b:List Int}{e:Nat}{h a:H}{m c:Nat}(d:Mk b e a m c):Mk b e (lA h a) m c:=d.same (d.ok.out h) (au _) λf _=>fK h a f
def SV.out{e c:Nat}{h a:H}{m b:Nat}{f:T}{d:List dG}(j:SV e c a m b f d):SV e c (lA h a) m b f d:=
 j.same (au _) (au _) λg _ _ i=>⟨fK h a g,by rw[iE (fK h a m)];exact i⟩
def Mk.set{j:List Int}{h:Nat}{c:H}{d b f:Nat}{s left th' left':Int}{r t l n se' tx' at2 lp':Bool}{a:T}{g:List (List Nat)}(e:Mk j h c d b)(k:c.get d=some (dy 8 f [.agg (rx b s left r t l n a)]))(m:Gr c a 1 (g.map T.str))(hl:g.length=h):
 Step d c (dQ c d (dy 8 (f+1) [.agg (rx b th' left' se' tx' at2 lp' a)]))/\Mk j h (dQ c d (dy 8 (f+1) [.agg (rx b th' left' se' tx' at2 lp' a)])) d b:=by
 obtain⟨i,o,p,q⟩:=AJ e.ok e.fp k (cells':=rx b th' left' se' tx' at2 lp' a) (λu a=>by
  simp only[rx,ci,cY,or_false]at a;rcases a with rfl|rfl|rfl|rfl|rfl|rfl|rfl|rfl<;>first|exact .inr (.inl rfl)|exact .inl (by simp[rx])) _ rfl
 exact⟨i,⟨i.ok.hp,i.ok.low,aw _⟩,o,e.tp.eq (by rw[dE k,ao (bg e.ne)]),f+1,th',left',se',tx',at2,lp',a,g,p,q _ _ _ m du,hl⟩
def SV.app{z:List Int}{n h o:Nat}{b:H}{d B u:Nat}{s x:T}{xs:List T}{p l2:List dG}(V:SV h o b d u s p)(k:Mk z n b d B)(Y:h<=b.size)(X:o<=b.size)(U:b.jc x=some xs)(F:io (FT b (Nw h o b d s) (u+2)) xs (l2.map dG.t))(O:∀i∈xs,i.cells.length=11)(R:xs≠ [])(Z:p.length+l2.length<=1000000):
 ∃y f,iK cx b 172 172 s x=some (.val y f)/\SV h f.size f d u y (p++l2)/\Mk z n f d B/\(∀m,Step d m b->m.size<=h->Step d m f)/\∀e,e<h->f.get e=b.get e:=by
 obtain⟨l,L,A,q⟩:=V;have l1:l.length=p.length:=by simpa using A.length
 have l3:xs.length=l2.length:=by simpa using F.length
 obtain⟨y,f,i,e,D,W,K,rfl,G,g,j,HI⟩:=L.app (cx:=cx) k.ok yi rfl yg yi rfl rfl dp U O R dq;have v:¬Fp b d e:=λE=>g.elim (λg=>(q e g).2.2 E) λg=>by have:=k.fp e E;omega
 have S:=HI.sz;have Q:h<=e:=g.elim (λg=>(q e g).1) λg=>by omega
 have P:=H.ej G;have w:f.get d=b.get d:=j d (λq=>v (by rw[<-q];exact .inl rfl)) k.lt;have J:∀a,Nw h o b d s a->Nw h f.size f d (.arr e D 0 (l++xs).length false) a/\f.get a=b.get a:=λa c=>by
  have I:a≠e:=λi=>g.elim (λg=>c.2.2.2 (by rw[i];exact g)) λg=>by have:=c.2.1;omega
  exact⟨⟨c.1,by have:=c.2.1;omega,by rw[iE w];exact c.2.2.1,by simp;exact bg I⟩,j a I (by have:=c.2.1;omega)⟩
 refine⟨_,f,i,⟨l++xs,.inr ⟨e,D,W,K,l++xs,rfl,G,aL⟩,?_,λa C=> ?_⟩,k.same ⟨HI.hp,HI.low,aw _⟩ S λa c=>j a (λi=>v (by rw[<-i];exact c)) (k.fp a c),λm r hl=>⟨⟨HI.hp,HI.low,by have:=r.ok.sz;omega⟩,λa M N=> ?_,λa c=>by rw[iE w]at c;exact r.fp a c⟩,λa c=>j a dj dj⟩
 ·rw[List.map_append];exact(A.ft J).append (F.ft J)
 ·simp at C;subst C;exact⟨Q,P,by rw[iE w];exact v⟩
 ·exact(j a dj (by have:=r.ok.sz;omega)).trans (r.get a M N)
def wd(a:Nat):Nat:=100*10^a
def Jq(a:Nat):wd (a+1)=10*wd a:=by unfold wd;rw[Nat.pow_succ];omega
def AY(a:Nat):100<=wd a:=by
 induction a with
 |zero=>decide
 |succ a b=>rw[Jq];omega
structure TA where
 (L:List Int) (m b n d cnt:Nat)
def V4(a:TA)(c:H):Prop:=Mk a.L a.n c a.m a.b/\okB a.L/\a.d<=2/\a.n+a.d<=10/\a.cnt<=3
def M7(a:TA)(i:List T)(f:H)(h:T)(c:H):Prop:=∃e,SV f.size c.size c a.m (2*a.d+2) h e/\(∀g∈e,MS g/\g.w<=wd a.d)/\e.length<=a.cnt/\Mk a.L a.n c a.m a.b/\Step a.m f c
def Ew(a:TA)(i:List T)(g:H)(h:T)(c:H):Prop:=∃f e,h= .agg f/\f.length=11/\FT c (Nw g.size c.size c a.m .j4) (2*a.d+4) h e.t/\MS e/\e.w<=wd a.d/\Mk a.L a.n c a.m a.b/\Step a.m g c
abbrev T2(e:Nat):kA:=jp TA (λa b c=>(b=[.ptr a.m 0 0 0,dw a.d,dw a.cnt]/\V4 a c)/\a.d<e) M7
abbrev rMt(e:Nat):kA:=jp TA (λa b c=>(b=[.ptr a.m 0 0 0,dw a.d]/\V4 a c)/\a.d<e) Ew
def Y4(k:Nat)(Z:(rMt k).Ok Tryz.prog cx 165):(T2 k).Ok Tryz.prog cx 118:=by
 refine jk (tb:=⟨pt [],ht [(165,rMt k)]⟩) ei eg (iL 4194759 [] Tryz.func118) (λ_ _=>10) (λe a p W=>by obtain⟨⟨rfl,_⟩,_⟩:=W;simp[Tryz.f118]) ?_;rintro⟨A,f,B,Q,m,C⟩ _ p ⟨⟨rfl,v,G,K,N,b⟩,M⟩ h I;simp only at v G K N b M;simp at I;obtain⟨o,q,r⟩:=I;simp[Tryz.f118];refine yt C (λe h n=>∃u j,SV p.size n.size n f (2*m+2) u j/\(∀l∈j,MS l/\l.w<=wd m)/\j.length=e/\Mk A Q n f B/\Step f (hr p) n/\dz h 0 (.ptr f 0 0 0)/\dz h 1 (dw m)/\dz h 2 (dw C)/\dz h 7 u/\dz h 8 (dw e)) ?_ dj (k:=0) dj ⟨dx,[],SV.nil _ _ _ _ _,dp,rfl,v.hr,Step.refl v.ok.hr,by simp[o,q,r]⟩;rintro e h n a6 ⟨u,j,sv,hl,a7,y,z,o,q,r,E,F⟩;obtain⟨bs,bl,left,set,bn,aA,bk,bi,a8,D,aE,aX⟩:=y.ex;simp only[rx]at D;simp[o,r,F,D];refine dU (λL=> ?_) (λL=> ?_)
 ·simp at L;simp[o,q,E];refine gJ Z dp ⟨A,f,B,Q,m,0⟩ ⟨⟨rfl,y,G,K,N,dp⟩,M⟩ ?_;rintro _ d ⟨c,l,rfl,J,ft,V,O,g,s⟩;simp only at ft O g s;have Y:=z.ok.sz;have P:=s.ok.sz;simp at Y;have an:=((sv.step s (au _)).step (Step.cons g.ok g.lt (dy 11 0 [.agg c])) P).wide (au _) P;have H:∀i,i<d.size->(d.cons (dy 11 0 [.agg c])).get i=d.get i:=λi b=>by rw[dM,ao dj]
  have U:FT (d.cons (dy 11 0 [.agg c])) (Nw p.size d.size (d.cons (dy 11 0 [.agg c])) f u) (2*m+4) (.agg c) l.t:=ft.mono λi b=>⟨⟨by have:=b.1;omega,b.2.1,by rw[iE (H f g.lt)];exact b.2.2.1,sv.box λR=>by have:=b.1;omega⟩,H i b.2.1⟩;obtain⟨av,aN,S,ap,ae,al,_⟩:=an.app (g.cons (dy 11 0 [.agg c])) (x:= .arr d.size 0 0 1 false) (xs:=[.agg c]) (l2:=[l]) dq dp (by rw[fW];simp) (.cons U .nil) (by simp[T.cells,J]) dp dq;simp[o,q,r,F,S,J,gY (show-9223372036854775808<=(e:Int)+1 by omega) (show(e:Int)+1<9223372036854775808 by omega)];exact⟨e+1,dj,dj,av,j++[l],ap,λx X=>(List.mem_append.1 X).elim (hl x) λR=>by rw[List.mem_singleton.1 R];exact⟨V,O⟩,dq,ae,al _ ((z.trans s).trans (Step.cons g.ok g.lt _)) dp,dp⟩
 ·simp[E];exact⟨j,sv.out,hl,dt,y.out,z.out⟩
def Mk.held{s:List Int}{q:Nat}{c h:H}{a b f:Nat}{m left:Int}{l n g k:Bool}{p o:T}{j:List (List Nat)}{w:List Nat}(d:Mk s q c a b)(t:c.get a=some (dy 8 f [.agg (rx b m left l n g k p)]))(v:Gr c p 1 (j.map T.str))(hl:j.length=q)(x:Xt c p 1 ((j++[w]).map T.str) o h):
 h.get a=c.get a/\Step a c (dQ h a (dy 8 (f+1) [.agg (rx b m left l n g k o)]))/\Mk s (q+1) (dQ h a (dy 8 (f+1) [.agg (rx b m left l n g k o)])) a b:=by
 obtain⟨e,C⟩:=vM (i:=7) d.ok d.fp t (by simp[rx]) du v x;obtain⟨r,y,A,_⟩:=C _ rfl;have u:=e.trans t;obtain⟨G,F,z,_⟩:=d.tp;refine⟨e,r,⟨r.ok.hp,r.ok.low,aw _⟩,y,d.tp.eq ?_,f+1,m,left,l,n,g,k,o,j++[w],(dE u _ a).trans (aq rfl),A,dq⟩;rw[dE u,ao (bg d.ne)];refine x.2.1 b d.tp.lt λB=> ?_;obtain⟨D,f,E,I,e,_⟩:=v.box B;rw[z]at e;simp at e
def Mk.drop{p:List Int}{g:Nat}{b:H}{c a l:Nat}{i left:Int}{h j e f:Bool}{n d:T}{m:List (List Nat)}(k:Mk p (g+1) b c a)(q:b.get c=some (dy 8 l [.agg (rx a i left h j e f n)]))(hl:m.length=g+1)(r:Gr b d 1 ((m.map T.str).take g))(s:dL d=dL n):
 Step c b (dQ b c (dy 8 (l+1) [.agg (rx a i left h j e f d)]))/\Mk p g (dQ b c (dy 8 (l+1) [.agg (rx a i left h j e f d)])) c a:=by
 obtain⟨o,t,u,v⟩:=AJ k.ok k.fp q (cells':=rx a i left h j e f d) (λw hm=>by
  simp only[rx,ci,cY,or_false]at hm;rcases hm with rfl|rfl|rfl|rfl|rfl|rfl|rfl|hm
  ·exact .inl (by simp[rx])
  iterate 6 exact .inr (.inl rfl)
  exact .inr (.inr ⟨n,by simp[rx],by rw[hm];exact s⟩)) _ rfl
 exact⟨o,⟨o.ok.hp,o.ok.low,aw _⟩,t,k.tp.eq (by rw[dE q,ao (bg k.ne)]),l+1,i,left,h,j,e,f,d,m.take g,u,by rw[List.map_take];exact v _ _ _ r du,by rw[List.length_take];omega⟩
structure IBk where
 (L:List Int) (m b n d:Nat) (s:List Nat)
def Yz(a:IBk)(c:List T)(e:H):Prop:=c=[.ptr a.m 0 0 0,.str a.s,dw a.d]/\Mk a.L a.n e a.m a.b/\okB a.L/\a.d<=2/\a.n+a.d<=9
abbrev rBk(g:Nat):kA:=jp IBk (λa c e=>Yz a c e/\a.d<g) (λa c e h f=>M7 ⟨a.L,a.m,a.b,a.n,a.d,2⟩ c e h f)
def Z2(q:Nat)(aA:(T2 q).Ok Tryz.prog cx 118):(rBk q).Ok Tryz.prog cx 213:=by
 refine jk (tb:=⟨pt [],ht [(63,jp yw tX qN),(118,T2 q)]⟩) ei eg (iL 199 [] Tryz.func213) (λ_ _=>10) (λi a f av=>by obtain⟨⟨rfl,_⟩,_⟩:=av;simp[Tryz.f213]) ?_;rintro⟨P,d,Q,n,R,s⟩ _ f ⟨⟨rfl,t,p,B,an⟩,C⟩ bl A;simp only at t p B an C;simp at A;obtain⟨z,W,X⟩:=A;have g:=t.hr;obtain⟨N,L,left,set,M,x,G,F,E,b,c,hl⟩:=g.ex;obtain⟨a6,Y,k,j⟩:=c.mM (cx:=cx) g.ok pO rfl u5 rfl dp dp s dq;obtain⟨I,w,e⟩:=g.held b c hl j;have m:=I.trans b;simp only[rx]at b m w e;have y:f.get d=_:=(fX f d).symm.trans b;have bk:(d=f.size)=False:=by have:=t.lt;simp;omega
 rw[ng]at k;simp[Tryz.f213,z,W,X,y,k,m,dP,j.1.gD,j.1.cells];generalize dQ Y d _=a7 at*
 clear b y m I j k c g;obtain⟨N,L,left,set,M,x,G,F,E,b,c,hl⟩:=e.ex;simp only[rx]at b;simp[b];refine rf dp e.tp e.ok dj dj p λr a8 bi t2 aN=> ?_;obtain⟨aE,J⟩:=e.tape aN t2;have S:binop .add (dw 1) (dw r)=some (dw ((1+r:Nat):Int)):=by rw[gY dj dj];simp
 simp[S];refine gJ aA dp ⟨P,d,Q,n+1,R,1+r⟩ ⟨⟨dp,aE,p,B,dt,dt⟩,C⟩ ?_;rintro v Z ⟨l,sv,D,ap,u,K⟩;simp only at sv D ap u K;obtain⟨N,L,left,set,M,x,G,F,E,b,c,hl⟩:=u.ex;have V:=b;simp only[rx]at b;have al:=c.len (cx:=cx) Z Qh _ rfl;obtain⟨a6,U,o,ae⟩:=c.cut (cx:=cx) (ty:=Qh) rfl u5 rfl (n:=n) dq dq;obtain⟨h,H⟩:=u.drop V hl o ae;have T:binop .sub (dw ((n:Int)+1)) (dw 1)=some (dw n):=by
  rw[tN,<-ji,jr dj dj];simp
 simp only[rx]at h H;simp[z,b,al,hl,T,U,dP,o.gD,o.cells];have aX:=((w.trans J).trans K).trans h;have O:=(w.trans J).ok.sz;simp at O;exact⟨l,((sv.step h (au _)).wide O (by have:=h.ok.sz;simp)).out,D,dt,H.out,aX.out⟩
end
end Go.Proofs.YtmaeadedikngoaaGreatDoor
