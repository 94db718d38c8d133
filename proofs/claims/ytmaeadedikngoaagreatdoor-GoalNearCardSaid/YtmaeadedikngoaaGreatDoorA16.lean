/- Texts W08d to W01d. -/
import Derived.Test.YtmaeadedikngoaaGreatDoorA11
import Derived.Test.YtmaeadedikngoaaGreatDoorA15
set_option linter.all false
set_option maxRecDepth 100000
set_option maxHeartbeats 8000000
namespace Go.Proofs.YtmaeadedikngoaaGreatDoor
noncomputable section
open Go Go.TI
attribute [-simp] List.map_take List.map_drop List.map_append fw eQ dZ Bool.not_or Bool.not_and
attribute [simp] fq eY
def qK:gu:=⟨dU,λa=>[a.t],λa=>a.dY.length<=1000000/\a.dX.length<=1000000/\a.dE.length<=1000000,λa=>(kQ a).t,λc d b=>by simp at b;rw[dU.inj b]⟩
def xM(_:Unit):T:= .agg [dy (-1),dz]
def QA{b:H}{V:Nat->Prop}(a:Nat):iv (FT b V 2) ((List.replicate a ()).map xM) ((List.replicate a (⟨-1,[]⟩:dV)).map dV.t):=by
 induction a with
 |zero=>exact .nil
 |succ a c=>
  rw[da,da];exact .cons (.inr (.inr ⟨_,_,rfl,.cons (fW ..) (.cons (iU ..) .nil),rfl⟩)) c
def Sy8(e:H)(Lk:List Unit)(a:List Bool)(Th:List dG):Prop:=∃f b c d,mW e 2 4 f [(b,some (2,Lk.map xM)),(dy (-1),none),(c,some (1,a.map T.bool)),(d,some (3,Th.map dG.t))]
def uL:iN:=(dA 4 0 [.agg [dz,dy 0,dz,dz]])
def Ll:qK.Ok Tryz.prog cx 73:=by
 refine gX (tb:=⟨pt [],ht []⟩) ew ej (iQ 9071038046463 [] Tryz.func73) (λ_=>1000005) (by simp[qK]) (by simp[qK,Tryz.f73]) ?_;rintro(w:dU) ⟨hl,U,ht⟩ b N;simp[qK]at N|-;simp[Tryz.f73,N];refine fh w.dY.length dq (λc b h=>Sy8 h (List.replicate c ()) [] []/\Lb 2 h 0 (dA 6 0 [w.t])/\Lb 2 h 1 uL/\dB b 1 (.ptr 0 0 0 0)/\dB b 2 (.ptr 1 0 0 0)/\dB b 3 (.ptr 2 0 0 0)/\dB b 4 (dy c)) ?_ ?_ dq ?_
 ·rintro c b h A z ⟨⟨ver,s,u,v,a⟩,e,k,j,n,o,p⟩;have m:=a.get;simp at m;obtain⟨L,C,r,i⟩:=(a.gr 0 rfl).mJ (cx:=cx) (f:=xM) a.ok Ja rfl Fd rfl dt (λ_=>rfl) () du;obtain⟨q,J,x⟩:=a.app 0 rfl i;obtain⟨g,l⟩:=x _ rfl;simp only[<-List.replicate_succ']at l;simp[-List.map_replicate]at q g l;simp only[xM]at r;simp[j,n,o,p,A,e.get,m,r,q,dS,i.1.gJ,i.1.cells,z];exact⟨⟨_,_,_,_,l⟩,e.step g,k.step g⟩
 ·rintro b h ⟨⟨ver,s,u,v,a⟩,e,k,j,n,o,p⟩;simp[j,p,e.get];refine fh w.dX.length dq (λc b h=>Sy8 h (List.replicate w.dY.length ()) (List.replicate c false) []/\Lb 2 h 0 (dA 6 0 [w.t])/\Lb 2 h 1 uL/\dB b 1 (.ptr 0 0 0 0)/\dB b 2 (.ptr 1 0 0 0)/\dB b 3 (.ptr 2 0 0 0)/\dB b 5 (dy c)) ?_ ?_ dq ⟨⟨_,_,_,_,a⟩,e,k,by simp[j,n,o]⟩
  ·rintro c b h A z ⟨⟨ver,s,u,v,a⟩,e,k,j,n,o,p⟩;have m:=a.get;simp at m;obtain⟨L,C,r,i⟩:=(a.gr 2 rfl).mJ (cx:=cx) (f:=T.bool) a.ok Fc rfl OU rfl dt dt false du;obtain⟨q,J,x⟩:=a.app 2 rfl i;obtain⟨g,l⟩:=x _ rfl;simp only[<-List.replicate_succ']at l;simp[-List.map_replicate]at q g l;simp[j,n,o,p,A,e.get,m,r,q,dS,i.1.gJ,i.1.cells,z];exact⟨⟨_,_,_,_,l⟩,e.step g,k.step g⟩
  ·rintro b h ⟨⟨ver,s,u,v,a⟩,e,k,j,n,o,p⟩;simp[j,p,e.get];refine fh w.dE.length dq (λc b h=>Sy8 h (List.replicate w.dY.length ()) (List.replicate w.dX.length false) ((List.range c).map λc=>(⟨if c=0 then 1 else 0,0,false⟩:dG))/\Lb 2 h 0 (dA 6 0 [w.t])/\Lb 2 h 1 uL/\dB b 1 (.ptr 0 0 0 0)/\dB b 2 (.ptr 1 0 0 0)/\dB b 3 (.ptr 2 0 0 0)/\dB b 6 (dy c)) ?_ ?_ dq ⟨⟨_,_,_,_,a⟩,e,k,by simp[j,n,o]⟩
   ·rintro c b h A z ⟨⟨ver,s,u,v,a⟩,e,k,j,n,o,p⟩;have m:=a.get;simp at m;have W:(0=h.size)=False:=by have:=a.lt;simp;omega
    have O:(2=h.size)=False:=by have:=a.lt;simp;omega
    by_cases D:c=0
    ·subst D;have Q:binop .add (dy 0) (dy 1)=some (dy 1):=by simpa using z
     have y:=a.cons (dA 3 2 [dG.t ⟨1,0,false⟩]);have B:=Step.cons a.ok a.lt (dA 3 2 [dG.t ⟨1,0,false⟩]);have E:=e.step B;have H:=k.step B;obtain⟨L,C,r,i⟩:=(y.gr 3 rfl).mJ (cx:=cx) (f:=dG.t) y.ok Co rfl AZ rfl dt (λ_=>rfl) (⟨1,0,false⟩:dG) dt;obtain⟨q,J,x⟩:=y.app 3 rfl i;obtain⟨g,l⟩:=x _ rfl;simp only[aR,cm,cX,cM]at q g l;rw[size_cons]at r;simp[j,n,o,p,A,e.get,m,O,a.ok.low,r,q,dS,i.1.gJ,i.1.cells,Q];exact⟨⟨_,_,_,_,l⟩,E.step g,H.step g⟩
    ·skip
     have y:=a.cons (dA 3 1 [dG.t ⟨0,0,false⟩]);have B:=Step.cons a.ok a.lt (dA 3 1 [dG.t ⟨0,0,false⟩]);have E:=e.step B;have H:=k.step B;obtain⟨L,C,r,i⟩:=(y.gr 3 rfl).mJ (cx:=cx) (f:=dG.t) y.ok Co rfl AZ rfl dt (λ_=>rfl) (⟨0,0,false⟩:dG) du;obtain⟨q,J,x⟩:=y.app 3 rfl i;obtain⟨g,l⟩:=x _ rfl;simp only[aR,cm,cX,cM]at q g l;rw[size_cons]at r;simp[j,n,o,p,D,A,e.get,m,O,a.ok.low,r,q,dS,i.1.gJ,i.1.cells,z];have hr:(List.range (c+1)).map (λc=>(⟨if c=0 then 1 else 0,0,false⟩:dG))=(List.range c).map (λc=>(⟨if c=0 then 1 else 0,0,false⟩:dG))++[⟨0,0,false⟩]:=by
      rw[List.range_succ,List.map_append];simp[D]
     rw[hr];exact⟨⟨_,_,_,_,l⟩,E.step g,H.step g⟩
   ·rintro b h ⟨⟨ver,s,u,v,a⟩,e,k,j,n,o,p⟩;have m:=a.get;simp at m;have G:=k.get;unfold uL at G;have K:=a.rD k (dA 4 1 [.agg [s,dy (-1),u,v]]);have R:(dT h 1 (dA 4 1 [.agg [s,dy (-1),u,v]])).get 1=_:=(dI G _ 1).trans (aq rfl);have P:=(K.gr 0 rfl).IW (d:=2) dq (QA (V:=λ_=>True) w.dY.length);simp[j,n,o,p,e.get,m,G,dS,R,P,(K.gr 2 rfl).fz dt,(K.gr 3 rfl).fz dt,-List.map_replicate];exact⟨a.ok.hp,by unfold kQ fk.t fk.cs;simp[List.map_const',-List.map_replicate]⟩
 ·obtain⟨S,M⟩:=mW.start (h:=((hE.cons (dA 6 0 [w.t])).cons uL).cons (dA 4 1 [.agg [dz,dy (-1),dz,dz]])) (w:=2) (szw:=4) (ver:=1) (F:=[(dz,some (2,[])),(dy (-1),none),(dz,some (1,[])),(dz,some (3,[]))]) ⟨dt,dt,dt⟩ (by simp[uL]) dt;exact⟨⟨_,_,_,_,S⟩,⟨dt,λI=>absurd (M 0 I) dx⟩,⟨by simp[uL],λI=>absurd (M 1 I) dx⟩,dt⟩
def HA{b:fy}(ht:b.p 73=some qK)(a:dU)(c:a.dY.length<=1000000)(d:a.dX.length<=1000000)(e:a.dE.length<=1000000):rl Tryz.prog cx b 73 [a.t]=some (kQ a).t:=gU ht Ll a ⟨c,d,e⟩
def adg(f:H)(a:fk)(b c:Nat)(d:List Int):Prop:=∃g e,mW f 4 7 g [(sl (a.dY.map dV.t),none),(dy a.tx,none),(sl (a.done.map T.bool),none),(sl (a.dE.map dG.t),none),(e,some (1,d.map (T.int .i64))),(.arr 2 0 0 b false,some (1,(List.replicate b 0).map (T.int .i64))),(.arr 3 0 0 c false,some (1,(List.replicate c 0).map (T.int .i64)))]
def mS:iN:=(dA 7 0 [.agg [dz,dy 0,dz,dz,dz,dz,dz]])
def nW:gu:=⟨dU,λa=>[a.t],λa=>a.dY.length<=1000000/\a.dX.length<=1000000/\a.dE.length<=1000000/\a.cells.length<=1000000,λa=>(jF a).t,λc d b=>by simp at b;rw[dU.inj b]⟩
def Lj:nW.Ok Tryz.prog cx 41:=by
 refine gX (tb:=⟨pt [(73,qK)],ht []⟩) ew ej (iQ 1048607 [(1,[(1,3),(1,5),(1,7),(1,9),(1,11)])] Tryz.func41) (λ_=>1000005) (by simp[nW]) (by simp[nW,Tryz.f41]) ?_;rintro(a:dU) ⟨hl,q,ht,F⟩ h e;simp[nW]at e|-;have M:a.dX.length*8<=70368744177664:=dq;have N:a.dE.length*8<=70368744177664:=dq;simp[Tryz.f41,e,HA,hl,q,ht,M,N];have R:(jF a).t=d8.t ⟨kQ a,a.cells.map ge.jK,List.replicate a.dX.length 0,List.replicate a.dE.length 0⟩:=by
  unfold jF;simp only[List.map_const']
 rw[R];generalize kQ a=b at*
 refine fh a.cells.length dq (λm h i=>∃j,adg i b a.dX.length a.dE.length j/\j.length=m/\j=(a.cells.take m).map ge.jK/\Lb 4 i 0 (dA 6 0 [a.t])/\Lb 4 i 1 mS/\dB h 1 (.ptr 0 0 0 0)/\dB h 2 (.ptr 1 0 0 0)/\dB h 3 (.ptr 4 0 0 0)/\dB h 4 (dy m)) ?_ ?_ dq ?_
 ·rintro m h i G S ⟨j,⟨X,c,d⟩,Q,p,r,s,n,o,w,y⟩;have l:=d.get;simp at l;obtain⟨ap,al,O,E⟩:=(d.gr 4 rfl).mJ (cx:=cx) (f:=T.int .i64) d.ok oo rfl yp rfl dt (λ_=>rfl) a.cells[m].jK du;obtain⟨u,an,B⟩:=d.app 4 rfl E;obtain⟨D,K⟩:=B _ rfl;simp only[aR,cm,cX,cM]at u D K;simp[n,o,w,y,G,r.get,l,O,u,dS,E.1.gJ,E.1.cells,S];exact⟨_,⟨_,_,K⟩,du,by rw[p,aU G,List.map_append];rfl,r.step D,s.step D⟩
 ·rintro h i ⟨j,⟨X,c,d⟩,Q,p,r,s,n,o,w,y⟩;rw[aL]at p;subst p;have l:=d.get;simp at l;have z:=s.get;unfold mS at z;have C:=d.rD s (dA 7 1 [.agg [sl (b.dY.map dV.t),dy b.tx,sl (b.done.map T.bool),sl (b.dE.map dG.t),c,.arr 2 0 0 a.dX.length false,.arr 3 0 0 a.dE.length false]]);have P:(dT i 1 (dA 7 1 [.agg [sl (b.dY.map dV.t),dy b.tx,sl (b.done.map T.bool),sl (b.dE.map dG.t),c,.arr 2 0 0 a.dX.length false,.arr 3 0 0 a.dE.length false]])).get 1=_:=(dI z _ 1).trans (aq rfl);have Y:=(C.gr 4 rfl).fz dt;have Z:=(C.gr 5 rfl).fz dt;have ae:=(C.gr 6 rfl).fz dt;simp[n,o,w,y,r.get,l,z,dS,P,Y,Z,ae,-List.map_replicate,-vd];exact⟨d.ok.hp,by unfold d8.t d8.cs;simp[-List.map_replicate]⟩
 ·have J:∀(g:Nat) (k:T×aa (Nat×List T)),([(sl (b.dY.map dV.t),none),(dy b.tx,none),(sl (b.done.map T.bool),none),(sl (b.dE.map dG.t),none),(dz,some (1,[])),(.arr 2 0 0 a.dX.length false,some (1,(List.replicate a.dX.length 0).map (T.int .i64))),(.arr 3 0 0 a.dE.length false,some (1,(List.replicate a.dE.length 0).map (T.int .i64)))]:List (T×aa (Nat×List T)))[g]? =some k->∀c,dO k.1=some c->c+3=g:=by
   intro g k e c F;rcases g with _|_|_|_|_|_|_|g<;>simp at e<;>subst e<;>simp at F<;>omega
  refine⟨[],⟨1,dz,⟨dt,dt,dt⟩,dt,λf q=> ?_,λg W V k L e U c u B=>V ?_⟩,rfl,dt,⟨dt,?_⟩,⟨by simp[mS],?_⟩,dt⟩
  ·simp only[ci,c8,or_false,cm]at q;rcases q with rfl|rfl|rfl|rfl|rfl|rfl|rfl
   iterate 4 (show dO _=none;simp)
   ·exact⟨Gr.nil _ _,dx⟩
   ·exact⟨.inr ⟨2,0,0,true,_,dt,by simp;rfl,dt⟩,show(1:Nat)≠7 by decide⟩
   ·exact⟨.inr ⟨3,0,0,true,_,dt,by simp;rfl,dt⟩,show(1:Nat)≠7 by decide⟩
  ·have n:=J g k e c u;have o:=J W L U c B;omega
  all_goals
   rintro(A|⟨x,I,v,H,A⟩)
   ·simp at A
   ·simp at I;subst I;simp[fa,T.cells]at H;rcases H with rfl|rfl|rfl|rfl|rfl|rfl|rfl<;>simp at A
def Cu{b:fy}(ht:b.p 41=some nW)(a:dU)(c:a.dY.length<=1000000)(d:a.dX.length<=1000000)(e:a.dE.length<=1000000)(f:a.cells.length<=1000000):rl Tryz.prog cx b 41 [a.t]=some (jF a).t:=gU ht Lj a ⟨c,d,e,f⟩
end
noncomputable section
open Go Go.TI
inductive dN where
 |mk (op n:Int) (name:List Nat) (l:List dN)
instance :Inhabited dN:=⟨⟨0,0,[],[]⟩⟩
def dN.op:dN->Int|⟨a,_,_,_⟩=>a
def dN.n:dN->Int|⟨_,a,_,_⟩=>a
def dN.name:dN->List Nat|⟨_,_,a,_⟩=>a
def dN.l:dN->List dN|⟨_,_,_,a⟩=>a
@[simp] theorem dN.uX (a b:Int) (c:List Nat) (d:List dN):(dN.mk a b c d).op=a:=id rfl
@[simp] theorem dN.Er (a b:Int) (c:List Nat) (d:List dN):(dN.mk a b c d).n=b:=id rfl
@[simp] theorem dN.oc (a b:Int) (c:List Nat) (d:List dN):(dN.mk a b c d).name=c:=id rfl
@[simp] theorem dN.Eu (a b:Int) (c:List Nat) (d:List dN):(dN.mk a b c d).l=d:=id rfl
def dN.lt{e c:dN}(h:c∈e.l):SizeOf.sizeOf c<SizeOf.sizeOf e:=by
 cases e with
 |mk n k m j=>have:=List.sizeOf_lt_of_mem (show c∈j from h);simp;omega
mutual
def dN.t:dN->T
 |⟨a,b,c,j⟩=> .agg [dy a,dy b,.str c,sl (dN.ts j)]
def dN.ts:List dN->List T
 | []=>[]
 |x::j=>x.t::dN.ts j
end
def dN.Dd:∀j:List dN,dN.ts j=j.map dN.t
 | []=>by rw[dN.ts];rfl
 |x::k=>by rw[dN.ts,dN.Dd k];rfl
def dN.mT(x:dN):x.t= .agg [dy x.op,dy x.n,.str x.name,sl (x.l.map dN.t)]:=by
 cases x;rw[dN.t,dN.Dd];rfl
def uZ{l k:Type}{f:l->k}{g:k->k}{j:List l}(h:∀x∈j,g (f x)=f x):(j.map f).map g=j.map f:=by
 rw[cH];exact List.map_congr_left h
def py{m r:Type}{f:m->r}:∀{k j:List m},(∀a∈k,∀b,f a=f b->a=b)->k.map f=j.map f->k=j:=by
 intro k;induction k with
 |nil=>intro j _ h;cases j<;>simp at h;rfl
 |cons x k p=>
  intro j l h;cases j with
  |nil=>simp at h
  |cons q j=>
   simp only[aR,aJ]at h;rw[l x dt q h.1,p (λa n b o=>l a (by simp[n]) b o) h.2]
def tF{k:Type}{f:k->T}{j:List k}(h:∀x∈j,mG (f x)=true):mp (j.map f)=true:=by
 induction j with
 |nil=>simp
 |cons x j m=>simp[h x dt,m λn l=>h n (by simp[l])]
section
variable (x:dN)(h:H)(d:Nat)
@[simp] theorem dN.RF:x.t.cells=[dy x.op,dy x.n,.str x.name,sl (x.l.map dN.t)]:=by rw[dN.mT];rfl
@[simp] theorem dN.Z3:Km x.t=4:=by rw[dN.mT];rfl
@[simp] theorem dN.UW:x.t.gJ=true:=by rw[dN.mT];rfl
def dN.O8:∀(j:Nat) (x:dN),SizeOf.sizeOf x<=j->cn x.t=x.t:=by
 intro j;induction j with
 |zero=>intro x k;cases x;simp at k
 |succ j m=>
  intro x k;rw[dN.mT];simp only[jE,aR,cm,Fh,Fg,Ko];rw[uZ λc l=>m c (by have:=dN.lt l;omega)]
@[simp] theorem dN.Vo:cn x.t=x.t:=dN.O8 _ x (au _)
@[simp] theorem dN.ZQ:rF h x.t=some x.t:=by rw[dN.mT];simp
@[simp] theorem dN.ZS:wG h (d+2) x.t=some x.t:=by rw[dN.mT];simp
@[simp] theorem dN.T4:jI x.t=true:=by rw[dN.mT];simp
def dN.IG:∀(j:Nat) (x:dN),SizeOf.sizeOf x<=j->mG x.t=true:=by
 intro j;induction j with
 |zero=>intro x k;cases x;simp at k
 |succ j m=>
  intro x k;rw[dN.mT];simp only[Gy,BO,Gx,Gw,J8,DF];rw[tF λc l=>m c (by have:=dN.lt l;omega)];rfl
@[simp] theorem dN.Ov:mG x.t=true:=dN.IG _ x (au _)
end
def dN.UU:∀(l:Nat) (x j:dN),SizeOf.sizeOf x<=l->x.t=j.t->x=j:=by
 intro l;induction l with
 |zero=>intro x j p;cases x;simp at p
 |succ l s=>
  intro x j p h;rw[x.mT,j.mT]at h;simp only[T.agg.injEq,aJ,T.int.injEq,T.str.injEq,true_and,and_true]at h;obtain⟨m,n,o,k⟩:=h;have k:=py (λa q b r=>s a b (by have:=dN.lt q;omega) r) (yN k);obtain⟨a,b,c,d⟩:=x;obtain⟨u,v,w,y⟩:=j;simp only[dN.uX,dN.Er,dN.oc,dN.Eu]at m n o k;rw[m,n,o,k]
def dN.inj{x j:dN}(h:x.t=j.t):x=j:=dN.UU _ x j (au _) h
@[simp] theorem dN.fold (a b:Int) (c:List Nat) (j:List dN):T.agg [dy a,dy b,.str c,sl (j.map dN.t)]=(dN.mk a b c j).t:=by rw[dN.mT];rfl
@[simp] theorem dN.eta (x:dN):dN.mk x.op x.n x.name x.l=x:=by cases x;rfl
inductive dJ where
 |mk (op uj:Int) (name arg:List Nat) (index:List dN) (e:dN) (body LV:List dJ)
instance :Inhabited dJ:=⟨⟨0,0,[],[],[],default,[],[]⟩⟩
def dJ.op:dJ->Int|⟨a,_,_,_,_,_,_,_⟩=>a
def dJ.uj:dJ->Int|⟨_,a,_,_,_,_,_,_⟩=>a
def dJ.name:dJ->List Nat|⟨_,_,a,_,_,_,_,_⟩=>a
def dJ.arg:dJ->List Nat|⟨_,_,_,a,_,_,_,_⟩=>a
def dJ.index:dJ->List dN|⟨_,_,_,_,a,_,_,_⟩=>a
def dJ.e:dJ->dN|⟨_,_,_,_,_,a,_,_⟩=>a
def dJ.body:dJ->List dJ|⟨_,_,_,_,_,_,a,_⟩=>a
def dJ.LV:dJ->List dJ|⟨_,_,_,_,_,_,_,a⟩=>a
section
variable (a b:Int)(c d:List Nat)(i:List dN)(e:dN)(f g:List dJ)
@[simp] theorem dJ.uX:(dJ.mk a b c d i e f g).op=a:=id rfl
@[simp] theorem dJ.Q7:(dJ.mk a b c d i e f g).uj=b:=id rfl
@[simp] theorem dJ.oc:(dJ.mk a b c d i e f g).name=c:=id rfl
@[simp] theorem dJ.VM:(dJ.mk a b c d i e f g).arg=d:=id rfl
@[simp] theorem dJ.qY:(dJ.mk a b c d i e f g).index=i:=id rfl
@[simp] theorem dJ.I7:(dJ.mk a b c d i e f g).e=e:=id rfl
@[simp] theorem dJ.uu:(dJ.mk a b c d i e f g).body=f:=id rfl
@[simp] theorem dJ.xq:(dJ.mk a b c d i e f g).LV=g:=id rfl
end
def dJ.ltB{j c:dJ}(h:c∈j.body):SizeOf.sizeOf c<SizeOf.sizeOf j:=by
 cases j with
 |mk a b k d i e f g=>have:=List.sizeOf_lt_of_mem (show c∈f from h);simp;omega
def dJ.ltE{j c:dJ}(h:c∈j.LV):SizeOf.sizeOf c<SizeOf.sizeOf j:=by
 cases j with
 |mk a b k d i e f g=>have:=List.sizeOf_lt_of_mem (show c∈g from h);simp;omega
mutual
def dJ.t:dJ->T
 |⟨a,b,c,d,i,e,f,g⟩=> .agg [dy a,dy b,.str c,.str d,sl (i.map dN.t),dy e.op,dy e.n,.str e.name,sl (e.l.map dN.t),sl (dJ.ts f),sl (dJ.ts g)]
def dJ.ts:List dJ->List T
 | []=>[]
 |x::j=>x.t::dJ.ts j
end
def dJ.Dd:∀j:List dJ,dJ.ts j=j.map dJ.t
 | []=>by rw[dJ.ts];rfl
 |x::k=>by rw[dJ.ts,dJ.Dd k];rfl
def dJ.cs(x:dJ):List T:=[dy x.op,dy x.uj,.str x.name,.str x.arg,sl (x.index.map dN.t),dy x.e.op,dy x.e.n,.str x.e.name,sl (x.e.l.map dN.t),sl (x.body.map dJ.t),sl (x.LV.map dJ.t)]
def dJ.mT(x:dJ):x.t= .agg x.cs:=by
 cases x;rw[dJ.t,dJ.Dd,dJ.Dd];rfl
section
variable (x:dJ)(h:H)(d:Nat)
@[simp] theorem dJ.RF:x.t.cells=[dy x.op,dy x.uj,.str x.name,.str x.arg,sl (x.index.map dN.t),dy x.e.op,dy x.e.n,.str x.e.name,sl (x.e.l.map dN.t),sl (x.body.map dJ.t),sl (x.LV.map dJ.t)]:=by rw[dJ.mT];rfl
@[simp] theorem dJ.Z3:Km x.t=11:=by rw[dJ.mT];rfl
@[simp] theorem dJ.UW:x.t.gJ=true:=by rw[dJ.mT];rfl
def dJ.O8:∀(j:Nat) (x:dJ),SizeOf.sizeOf x<=j->cn x.t=x.t:=by
 intro j;induction j with
 |zero=>intro x l;cases x;simp at l
 |succ j m=>
  intro x l;rw[dJ.mT];unfold dJ.cs;simp only[jE,aR,cm,Fh,Fg,Ko];rw[uZ λc k=>m c (by have:=dJ.ltB k;omega),uZ λc k=>m c (by have:=dJ.ltE k;omega),uZ λc _=>dN.Vo c,uZ λc _=>dN.Vo c]
@[simp] theorem dJ.Vo:cn x.t=x.t:=dJ.O8 _ x (au _)
@[simp] theorem dJ.ZQ:rF h x.t=some x.t:=by rw[dJ.mT];unfold dJ.cs;simp
@[simp] theorem dJ.ZS:wG h (d+2) x.t=some x.t:=by rw[dJ.mT];unfold dJ.cs;simp
@[simp] theorem dJ.T4:jI x.t=true:=by rw[dJ.mT];unfold dJ.cs;simp
def dJ.IG:∀(j:Nat) (x:dJ),SizeOf.sizeOf x<=j->mG x.t=true:=by
 intro j;induction j with
 |zero=>intro x l;cases x;simp at l
 |succ j m=>
  intro x l;rw[dJ.mT];unfold dJ.cs;simp only[Gy,BO,Gx,Gw,J8,DF];rw[tF λc k=>m c (by have:=dJ.ltB k;omega),tF λc k=>m c (by have:=dJ.ltE k;omega),tF λc _=>dN.Ov c,tF λc _=>dN.Ov c];rfl
@[simp] theorem dJ.Ov:mG x.t=true:=dJ.IG _ x (au _)
end
def dJ.UU:∀(p:Nat) (x k:dJ),SizeOf.sizeOf x<=p->x.t=k.t->x=k:=by
 intro p;induction p with
 |zero=>intro x k B;cases x;simp at B
 |succ p C=>
  intro x k B h;rw[x.mT,k.mT]at h;unfold dJ.cs at h;simp only[T.agg.injEq,aJ,T.int.injEq,T.str.injEq,true_and,and_true]at h;obtain⟨w,y,z,A,n,q,r,s,l,o,m⟩:=h;have n:=py (λa _ b j=>dN.inj j) (yN n);have l:=py (λa _ b j=>dN.inj j) (yN l);have o:=py (λa u b j=>C a b (by have:=dJ.ltB u;omega) j) (yN o);have m:=py (λa u b j=>C a b (by have:=dJ.ltE u;omega) j) (yN m);obtain⟨a,b,c,d,i,e,f,g⟩:=x;obtain⟨E,F,G,I,L,v,J,K⟩:=k;simp only[dJ.uX,dJ.Q7,dJ.oc,dJ.VM,dJ.qY,dJ.I7,dJ.uu,dJ.xq]at w y z A n q r s l o m;have D:e=v:=by
   obtain⟨M,O,Q,S⟩:=e;obtain⟨N,P,R,U⟩:=v;simp only[dN.uX,dN.Er,dN.oc,dN.Eu]at q r s l;rw[q,r,s,l]
  rw[w,y,z,A,n,D,o,m]
def dJ.inj{x j:dJ}(h:x.t=j.t):x=j:=dJ.UU _ x j (au _) h
@[simp] theorem dJ.fold (a b:Int) (c e:List Nat) (i:List dN) (m l:Int) (k:List Nat) (j:List dN) (f g:List dJ):T.agg [dy a,dy b,.str c,.str e,sl (i.map dN.t),dy m,dy l,.str k,sl (j.map dN.t),sl (f.map dJ.t),sl (g.map dJ.t)]=(dJ.mk a b c e i ⟨m,l,k,j⟩ f g).t:=by rw[dJ.mT];rfl
@[simp] theorem dJ.eta (x:dJ):dJ.mk x.op x.uj x.name x.arg x.index x.e x.body x.LV=x:=by cases x;rfl
end
noncomputable section
open Go Go.TI
structure fH where
 name:List Nat
 uj:Int
 locals:List (List Nat)
 body:List dJ
 deriving Inhabited
def fH.cs(a:fH):List T:=[.str a.name,dy a.uj,sl (a.locals.map T.str),sl (a.body.map dJ.t)]
def fH.t(a:fH):T:= .agg a.cs
@[simp] theorem fH.ag (a:fH):qu a.t [.str a.name,dy a.uj,sl (a.locals.map T.str),sl (a.body.map dJ.t)] 4:=by
 unfold fH.t fH.cs;exact⟨rfl,rfl,λ_ _=>rfl,rfl,by simp[jE],λ_=>by simp,λ_ _=>by simp,dt,dt⟩
@[simp] theorem fH.fold (a0:List Nat) (a1:Int) (a2:List (List Nat)) (a3:List dJ):T.agg [.str a0,dy a1,sl (a2.map T.str),sl (a3.map dJ.t)]=fH.t ⟨a0,a1,a2,a3⟩:=rfl
@[simp] theorem fH.eta (a:fH):fH.mk a.name a.uj a.locals a.body=a:=rfl
def fH.inj{a b:fH}(c:a.t=b.t):a=b:=by
 rcases a with⟨_,_,_,_⟩;rcases b with⟨_,_,_,_⟩;simp only[fH.t,fH.cs,T.agg.injEq,aJ]at c;obtain⟨d,e,f,g,_⟩:=c;obtain rfl:=mw d;obtain rfl:=gH e;obtain rfl:=ig (λ_ _=>mw) _ _ f;obtain rfl:=ig (λ_ _=>dJ.inj) _ _ g;rfl
structure fx where
 jb:List gW
 dE:List fH
 deriving Inhabited
def fx.cs(a:fx):List T:=[sl (a.jb.map gW.t),sl (a.dE.map fH.t)]
def fx.t(a:fx):T:= .agg a.cs
@[simp] theorem fx.ag (a:fx):qu a.t [sl (a.jb.map gW.t),sl (a.dE.map fH.t)] 2:=by
 unfold fx.t fx.cs;exact⟨rfl,rfl,λ_ _=>rfl,rfl,by simp[jE],λ_=>by simp,λ_ _=>by simp,dt,dt⟩
@[simp] theorem fx.fold (a0:List gW) (a1:List fH):T.agg [sl (a0.map gW.t),sl (a1.map fH.t)]=fx.t ⟨a0,a1⟩:=rfl
@[simp] theorem fx.eta (a:fx):fx.mk a.jb a.dE=a:=rfl
def fx.inj{a b:fx}(c:a.t=b.t):a=b:=by
 rcases a with⟨_,_⟩;rcases b with⟨_,_⟩;simp only[fx.t,fx.cs,T.agg.injEq,aJ]at c;obtain⟨d,e,_⟩:=c;obtain rfl:=ig (λ_ _=>gW.inj) _ _ d;obtain rfl:=ig (λ_ _=>fH.inj) _ _ e;rfl
mutual
def dN.w:dN->Nat
 |⟨_,_,_,a⟩=>1+dN.ws a
def dN.ws:List dN->Nat
 | []=>0
 |x::a=>x.w+dN.ws a
end
def dN.kU(a:dN):a.w=1+dN.ws a.l:=by cases a;rw[dN.w];rfl
def dN.iD:dN.ws []=0:=by rw[dN.ws]
def dN.jQ(b:dN)(a:List dN):dN.ws (b::a)=b.w+dN.ws a:=by rw[dN.ws]
def dN.uK{b:dN}{a:List dN}(h:b∈a):b.w<=dN.ws a:=by
 induction a with
 |nil=>simp at h
 |cons d a c=>
  rw[dN.jQ];rcases List.mem_cons.1 h with rfl|h
  ·omega
  ·have:=c h;omega
def dN.ul{l:List dN}:l.length<=dN.ws l:=by
 induction l with
 |nil=>simp
 |cons a l b=>rw[dN.jQ,aZ,a.kU];omega
mutual
def dJ.w:dJ->Nat
 |⟨_,_,_,_,c,b,a,d⟩=>4+dN.ws c+b.w+dJ.ws a+dJ.ws d
def dJ.ws:List dJ->Nat
 | []=>0
 |x::a=>x.w+dJ.ws a
end
def dJ.kU(a:dJ):a.w=4+dN.ws a.index+a.e.w+dJ.ws a.body+dJ.ws a.LV:=by cases a;rw[dJ.w];rfl
def dJ.iD:dJ.ws []=0:=by rw[dJ.ws]
def dJ.jQ(b:dJ)(a:List dJ):dJ.ws (b::a)=b.w+dJ.ws a:=by rw[dJ.ws]
def dJ.HR(a b:List dJ):dJ.ws (a++b)=dJ.ws a+dJ.ws b:=by
 induction a with
 |nil=>rw[List.nil_append,dJ.iD];omega
 |cons d a c=>rw[cG,dJ.jQ,dJ.jQ,c];omega
def dJ.uK{b:dJ}{a:List dJ}(h:b∈a):b.w<=dJ.ws a:=by
 induction a with
 |nil=>simp at h
 |cons d a c=>
  rw[dJ.jQ];rcases List.mem_cons.1 h with rfl|h
  ·omega
  ·have:=c h;omega
def dJ.ul{l:List dJ}:l.length<=dJ.ws l:=by
 induction l with
 |nil=>simp
 |cons a l b=>rw[dJ.jQ,aZ,a.kU];omega
inductive ME:dN->Prop
 |num (n:Int):ME ⟨1,n,[],[]⟩
 |nm (s:List Nat):ME ⟨2,0,s,[]⟩
 |ix {a:dN} (h:ME a):ME ⟨3,0,[113],[a]⟩
 |bin {k:Int} {a b:dN} (hk:6<=k) (ha:ME a) (hb:ME b):ME ⟨k,0,[],[a,b]⟩
inductive MS:dJ->Prop
 |mk {s:dJ} (c:9<=s.op/\s.op<=11->s.name=[99]) (q:s.op=1->s.index≠ []->s.name=[113]) (i:∀x∈s.index,ME x) (e:s.op=1\/s.op=2\/s.op=3\/s.op=14->ME s.e) (b:∀c∈s.body,MS c) (l:∀c∈s.LV,MS c):MS s
def MS.cond{a:dJ}(b:MS a):9<=a.op/\a.op<=11->a.name=[99]:=by cases b;assumption
def MS.arr{a:dJ}(b:MS a):a.op=1->a.index≠ []->a.name=[113]:=by cases b;assumption
def MS.ind{a:dJ}(b:MS a):∀c∈a.index,ME c:=by cases b;assumption
def MS.ex{a:dJ}(b:MS a):a.op=1\/a.op=2\/a.op=3\/a.op=14->ME a.e:=by cases b;assumption
def MS.bd{a:dJ}(c:MS a):∀b∈a.body,MS b:=by cases c;assumption
def MS.el{a:dJ}(c:MS a):∀b∈a.LV,MS b:=by cases c;assumption
def dJ.D6(b:List dJ){a:Nat}(c:a<b.length):dJ.ws (b.take (a+1))=dJ.ws (b.take a)+b[a].w:=by
 rw[aU c,dJ.HR,dJ.jQ,dJ.iD];rfl
def dJ.wU(a:List dJ)(b:Nat):dJ.ws (a.take b)<=dJ.ws a:=by
 conv=>rhs;rw[<-cN b a]
 rw[dJ.HR];omega
def allI{b:Type}(a:Nat->b->Bool):Nat->List b->Bool
 |_,[]=>true
 |k,d::c=>a k d&&allI a (k+1) c
def uk(a:Nat):Bool:=decide (97<=a/\a<=122)||decide (65<=a/\a<=90)
def Cn(a:Nat):Bool:=decide (48<=a/\a<=57)
def u7(a:Nat):Bool:=uk a||Cn a||decide (a=95)
def mP:List (List Nat):=[[118,97,114],[118,111,108,97,116,105,108,101],[109,117,116,101,120],[114,119,108,111,99,107],[99,111,110,100],[102,117,116,117,114,101],[116,104,114,101,97,100],[105,102],[101,108,115,101],[119,104,105,108,101],[108,111,99,107],[114,101,97,100],[119,114,105,116,101],[116,114,97,110,115,97,99,116,105,111,110],[97,116,111,109,105,99],[119,97,105,116],[110,111,116,105,102,121],[110,111,116,105,102,121,97,108,108],[115,112,97,119,110],[106,111,105,110],[115,101,116],[103,101,116]]
def tJ(a:List Nat):Bool:=decide (a∈mP)
def J9(a:List Nat):Bool:=match a with|c::_=>uk c| []=>false
def tz(a:List Nat):Bool:=decide (1<=a.length)&&decide (a.length<=12)&& !tJ a&&J9 a&&a.all u7
def uY(a:List (List Nat)):Bool:=a.all tz&&decide a.Nodup
def JJ(a:ge)(c:List ge):Bool:=allI (λb d=>decide (d={a with index:=b,sK:=false})) 0 (c.take a.size.toNat)
def iM:List ge->aa (List (List Nat))
 | []=>some []
 |c::a=>if c.size=0 then(if c.index=0 then(iM a).map (c.name:: ·)else none)
  else if d:c.size<1\/4<c.size\/(a.length+1:Int)<c.size then none
  else if JJ c (c::a)=true then(iM ((c::a).drop c.size.toNat)).map (c.name:: ·)else none
 termination_by b=>b.length
 decreasing_by
  ·simp
  ·simp;omega
def li(b:Nat):Int->Int->List ir->Bool
 |_,_,[]=>true
 |t,d,a::c=>if a.dQ<t\/(b:Int)<=a.dQ then false else
  if t<a.dQ then(if a.stmt=0 then li b a.dQ 1 c else false)else(if a.stmt=d then li b t (d+1) c else false)
def tH(c:dU)(a:Int)(rw:Bool):Bool:=match wO c.dY a with|some b=>b.rW==rw|none=>false
def rK(a:dU):Bool:=decide (a.cells.length<=12)&&decide (a.dY.length<=4)&&decide (a.fZ.length<=2)&&decide (a.dX.length<=2)&&decide (a.iq.length<=60)&&decide (1<=a.dE.length)&&decide (a.dE.length<=4)
def qm(a:dU)(b:List (List Nat)):List (List Nat):=b++a.dY.map (·.name)++a.fZ.map (·.name)++a.dX++a.dE
def A5(a:dU):Bool:=match iM a.cells with|none=>false|some b=>uY (qm a b)
def jO(a:dU):Bool:=rK a&&A5 a&&(a.fZ.all λb=>tH a b.kl false)&&li a.dE.length 0 0 a.iq
def vC(c:dU)(b:Int):Bool:=match wO c.cells b with|some a=>decide (a.size=0)|none=>false
def zI(d:dU)(b c:Int):Bool:=match wO d.cells b with|some a=>decide (a.index=0)&& !decide (a.size=0)&&decide (a.size=c)|none=>false
def iH(d:fI):List Int:=
 if d.op=1\/d.op=6\/d.op=10\/d.op=27 then [d.a]else if d.op=2\/d.op=3 then [d.a,d.b]else if d.op=4 then [d.a,d.b,d.c]
 else if d.op=7 then [d.a,d.c]else if d.op=8\/d.op=26 then [d.b]else if d.op=9 then [d.b,d.c]else []
def lQ(d:dU)(c:fI):Bool:=
 if c.op=6 then vC d c.b else if c.op=8 then vC d c.a else if c.op=7 then zI d c.b c.n else if c.op=9 then zI d c.a c.n
 else if c.op=11\/c.op=12 then tH d c.a false else if c.op=13\/c.op=14\/c.op=15\/c.op=16 then tH d c.a true
 else if c.op=21\/c.op=22\/c.op=23 then iT c.a d.fZ.length else if c.op=24\/c.op=25 then iT c.a d.dE.length
 else if c.op=26 then iT c.a d.dX.length else if c.op=27 then iT c.b d.dX.length
 else if c.op=3 then decide (c.n=4\/c.n=5)else if c.op=4 then decide (6<=c.n/\c.n<=18)else true
def vz(a:Int):Bool:=decide (1<=a/\a<=5)
def IV(b:fI)(c:Int):Int:=if b.op=5 then b.a else c+1
def BT(c:List fI):Nat->Int->Bool
 |0,_=>false
 |m+1,b=>match wO c b with
  |none=>false
  |some a=>if vz a.op=true then BT c m (IV a b)else true
end
noncomputable section
open Go Go.TI
attribute [-simp] List.map_take List.map_drop List.map_append
def IR(a b:Int):Bool:=decide (0<=a/\a<b)
@[simp] theorem ZB (a:Int) (b:Nat):IR a (b:Int)=iT a b:=id rfl
def OH{a b:Int}:IR a b=true↔0<=a/\a<b:=by unfold IR;simp
def SK(d:Unit):gu:=⟨Int×Int,λa=>[dy a.1,dy a.2],λa=>True,λa=> .bool (IR a.1 a.2),λa c b=>by simp at b;rw[b.1,b.2]⟩
def Uy:(SK ()).Ok Tryz.prog cx 162:=by
 refine gX (tb:=⟨pt [],ht []⟩) ew ej (iQ 19 [] Tryz.func162) (λf=>1) (by simp[SK]) (by simp[SK,Tryz.f162]) ?_;rintro⟨e,g⟩ _ h a;simp[SK]at a|-;obtain⟨b,c⟩:=a;by_cases d:0<=e<;>simp[Tryz.f162,b,c,d,IR]
def uC{c:fy}(ht:c.p 162=some (SK ()))(a b:Int):rl Tryz.prog cx c 162 [dy a,dy b]=some (.bool (IR a b)):=gU ht Uy (a,b) trivial
def tZ:gu:=⟨Int,λa=>[dy a],λa=>True,λa=> .bool (vz a),λa c b=>by simp at b;rw[b]⟩
def It:tZ.Ok Tryz.prog cx 206:=by
 refine gX (tb:=⟨pt [],ht []⟩) ew ej (iQ 5 [] Tryz.func206) (λd=>1) (by simp[tZ]) (by simp[tZ,Tryz.f206]) ?_;rintro(c:Int) _ e a;simp[tZ]at a|-;by_cases b:1<=c<;>simp[Tryz.f206,a,b,vz]
def wi{b:fy}(ht:b.p 206=some tZ)(a:Int):rl Tryz.prog cx b 206 [dy a]=some (.bool (vz a)):=gU ht It a trivial
def t7:gu:=⟨Nat,λa=>[.int .u8 a],λa=>True,λa=> .bool (uk a),λa b c=>by simp at c;rw[show a=b by omega]⟩
def yW:gu:=⟨Nat,λa=>[.int .u8 a],λa=>True,λa=> .bool (Cn a),λa b c=>by simp at c;rw[show a=b by omega]⟩
def yU:gu:=⟨Nat,λa=>[.int .u8 a],λa=>True,λa=> .bool (u7 a),λa b c=>by simp at c;rw[show a=b by omega]⟩
def NR:t7.Ok Tryz.prog cx 157:=by
 refine gX (tb:=⟨pt [],ht []⟩) ew ej (iQ 5 [] Tryz.func157) (λg=>1) (by simp[t7]) (by simp[t7,Tryz.f157]) ?_;rintro(a:Nat) _ h b;simp[t7]at b|-;by_cases c:97<=a<;>by_cases d:a<=122<;>by_cases e:65<=a<;>by_cases f:a<=90<;>simp[Tryz.f157,b,uk,c,d,e,f,show(97:Int)<=(a:Int)↔97<=a by omega,show(a:Int)<=122↔a<=122 by omega,show(65:Int)<=(a:Int)↔65<=a by omega,show(a:Int)<=90↔a<=90 by omega]
def A1{b:fy}(ht:b.p 157=some t7)(a:Nat):rl Tryz.prog cx b 157 [.int .u8 a]=some (.bool (uk a)):=gU ht NR a trivial
def QV:yW.Ok Tryz.prog cx 204:=by
 refine gX (tb:=⟨pt [],ht []⟩) ew ej (iQ 5 [] Tryz.func204) (λe=>1) (by simp[yW]) (by simp[yW,Tryz.f204]) ?_;rintro(a:Nat) _ f b;simp[yW]at b|-;by_cases c:48<=a<;>by_cases d:a<=57<;>simp[Tryz.f204,b,Cn,c,d,show(48:Int)<=(a:Int)↔48<=a by omega,show(a:Int)<=57↔a<=57 by omega]
def Vz{b:fy}(ht:b.p 204=some yW)(a:Nat):rl Tryz.prog cx b 204 [.int .u8 a]=some (.bool (Cn a)):=gU ht QV a trivial
def QS:yU.Ok Tryz.prog cx 159:=by
 refine gX (tb:=⟨pt [(157,t7),(204,yW)],ht []⟩) ew ej (iQ 5 [] Tryz.func159) (λe=>1) (by simp[yU]) (by simp[yU,Tryz.f159]) ?_;rintro(a:Nat) _ f b;simp[yU]at b|-;cases c:uk a<;>cases d:Cn a<;>simp[Tryz.f159,b,u7,A1,Vz,c,d,show(a:Int)=95↔a=95 by omega]
def Pp{b:fy}(ht:b.p 159=some yU)(a:Nat):rl Tryz.prog cx b 159 [.int .u8 a]=some (.bool (u7 a)):=gU ht QS a trivial
def sZ:gu:=⟨dU×Int×Int,λa=>[a.1.t,dy a.2.1,dy a.2.2],λa=>True,λa=> .bool (zI a.1 a.2.1 a.2.2),λa c b=>by simp at b;rw[dU.inj b.1,b.2.1,b.2.2]⟩
def Lx:sZ.Ok Tryz.prog cx 205:=by
 refine gX (tb:=⟨pt [(162,SK ())],ht []⟩) ew ej (iQ 79 [] Tryz.func205) (λl=>1) (by simp[sZ]) (by simp[sZ,Tryz.f205]) ?_;rintro⟨k,h,m⟩ _ n c;simp[sZ]at c|-;obtain⟨a,b,e⟩:=c;cases hl:iT h k.cells.length with
 |true=>
  obtain⟨d,f,g⟩:=iu hl;by_cases i:d.index=0<;>by_cases j:d.size=0<;>simp[Tryz.f205,a,b,e,uC,hl,f,g,zI,ei (fj.1 hl).1,i,j]
 |false=>simp[Tryz.f205,a,b,uC,hl,qq hl,zI]
def Pv{d:fy}(ht:d.p 205=some sZ)(c:dU)(a b:Int):rl Tryz.prog cx d 205 [c.t,dy a,dy b]=some (.bool (zI c a b)):=gU ht Lx (c,a,b) trivial
def mE:gu:=⟨fI,λa=>[a.t],λa=>True,λa=>sl ((iH a).map (T.int .i64)),λa c b=>by simp at b;rw[fI.inj b]⟩
def CT:mE.Ok Tryz.prog cx 97:=by
 refine gX (tb:=⟨pt [],ht []⟩) ew ej (iQ 8934607822903 [] Tryz.func97) (λc=>1) (by simp[mE]) (by simp[mE,Tryz.f97]) ?_;rintro⟨a,c,o,p,q,r⟩ _ s b;simp[mE]at b|-;rcases(by omega:a=1\/a=6\/a=10\/a=27\/a=2\/a=3\/a=4\/a=7\/a=8\/a=26\/a=9\/(¬a=1/\¬a=6/\¬a=10/\¬a=27/\¬a=2/\¬a=3/\¬a=4/\¬a=7/\¬a=8/\¬a=26/\¬a=9))with rfl|rfl|rfl|rfl|rfl|rfl|rfl|rfl|rfl|rfl|rfl|⟨d,g,h,i,j,k,l,m,n,e,f⟩
 rotate_right
 ·simp[Tryz.f97,b,iH,d,g,h,i,j,k,l,m,n,e,f]
 all_goals simp [Tryz.f97,b,iH,f7,sl]
def us{b:fy}(ht:b.p 97=some mE)(a:fI):rl Tryz.prog cx b 97 [a.t]=some (sl ((iH a).map (T.int .i64))):=gU ht CT a trivial
def sW:gu:=⟨dU×fI,λa=>[a.1.t,a.2.t],λa=>True,λa=> .bool (lQ a.1 a.2),λa c b=>by simp at b;rw[dU.inj b.1,fI.inj b.2]⟩
def Lo:sW.Ok Tryz.prog cx 160:=by
 refine gX (tb:=⟨pt [(162,SK ()),(205,sZ)],ht []⟩) ew ej (iQ 11161304336780981658631819976322344575566047 [] Tryz.func160) (λf=>1) (by simp[sW]) (by simp[sW,Tryz.f160]) ?_;rintro⟨h,⟨a,f,l,F,j,G⟩⟩ _ H i;simp[sW]at i|-;obtain⟨b,c⟩:=i;rcases(by omega:a=3\/a=4\/a=7\/a=9\/a=21\/a=22\/a=23\/a=24\/a=25\/a=26\/a=27\/a=6\/a=8\/a=11\/a=12\/a=13\/a=14\/a=15\/a=16\/(¬a=3/\¬a=4/\¬a=6/\¬a=8/\¬a=7/\¬a=9/\¬a=11/\¬a=12/\¬a=13/\¬a=14/\¬a=15/\¬a=16/\¬a=21/\¬a=22/\¬a=23/\¬a=24/\¬a=25/\¬a=26/\¬a=27))with rfl|rfl|rfl|rfl|rfl|rfl|rfl|rfl|rfl|rfl|rfl|rfl|rfl|rfl|rfl|rfl|rfl|rfl|rfl|⟨m,x,A,B,C,D,E,n,o,p,q,r,s,t,u,v,w,y,z⟩
 rotate_right
 ·simp[Tryz.f160,b,c,lQ,m,x,A,B,C,D,E,n,o,p,q,r,s,t,u,v,w,y,z]
 ·by_cases g:j=4<;>simp[Tryz.f160,b,c,lQ,g]
 ·by_cases g:6<=j<;>simp[Tryz.f160,b,c,lQ,g]
 iterate 9 ·simp[Tryz.f160,b,c,lQ,uC,Pv]
 ·cases hl:iT l h.cells.length with
  |true=>
   obtain⟨k,d,e⟩:=iu hl;simp[Tryz.f160,b,c,lQ,uC,hl,d,e,vC,ei (fj.1 hl).1]
  |false=>simp[Tryz.f160,b,c,lQ,uC,hl,qq hl,vC]
 ·cases hl:iT f h.cells.length with
  |true=>
   obtain⟨k,d,e⟩:=iu hl;simp[Tryz.f160,b,c,lQ,uC,hl,d,e,vC,ei (fj.1 hl).1]
  |false=>simp[Tryz.f160,b,c,lQ,uC,hl,qq hl,vC]
 all_goals
  cases hl:iT f h.dY.length with
  |true=>
   obtain⟨k,d,e⟩:=iu hl;simp[Tryz.f160,b,c,lQ,uC,hl,d,e,tH,ei (fj.1 hl).1]
  |false=>simp[Tryz.f160,b,c,lQ,uC,hl,qq hl,tH]
def Pj{c:fy}(ht:c.p 160=some sW)(b:dU)(a:fI):rl Tryz.prog cx c 160 [b.t,a.t]=some (.bool (lQ b a)):=gU ht Lo (b,a) trivial
def rx:List (List Nat)->List Nat->Nat->Int
 | [],_,_=>-1
 |x::c,b,a=>if x=b then(a:Int)else rx c b (a+1)
def Fw:∀(a:List (List Nat)) (b:List Nat) (d:Nat),(0<=rx a b d)=(b∈a):=by
 intro a;induction a with
 |nil=>intro b d;simp[rx]
 |cons g a f=>
  intro b d;rw[rx];by_cases c:g=b
  ·subst c;simp
  ·rw[ao c,f];simp;intro e;exact absurd e.symm c
def AO:gu:=⟨List (List Nat)×List Nat,λa=>[sl (a.1.map T.str),.str a.2],λa=>a.1.length<=1099511627776,λa=> dy (rx a.1 a.2 0),λa c b=>by
 simp at b;rw[jw dt b.1,b.2]⟩
def aci:AO.Ok Tryz.prog cx 110:=by
 refine gX (tb:=⟨pt [],ht []⟩) ew ej (iQ 131635 [] Tryz.func110) (λm=>m.1.length+1) (by simp[AO]) (by simp[AO,Tryz.f110]) ?_;rintro⟨f,i⟩ hl c l;simp[AO]at hl l|-;obtain⟨b,d⟩:=l;simp[Tryz.f110];refine fh f.length dq (λe c j=>j=hE/\dB c 0 (sl (f.map T.str))/\dB c 1 (.str i)/\dB c 5 (dy e)/\rx (f.drop e) i e=rx f i 0) ?_ ?_ dq (by simp[b,d])
 ·rintro e c j k n ⟨rfl,b,d,g,a⟩;rw[aI k,rx]at a;by_cases h:f[e]=i
  ·rw[aq h]at a;simp[b,d,g,k,h,<-a]
  ·rw[ao h]at a;simp[b,d,g,k,h,n,a]
 ·rintro c j ⟨rfl,b,d,g,a⟩;simp[rx]at a;simp[b,g,<-a]
def Mr{c:fy}(ht:c.p 110=some AO)(a:List (List Nat))(b:List Nat)(hl:a.length<=1099511627776):rl Tryz.prog cx c 110 [sl (a.map T.str),.str b]=some (dy (rx a b 0)):=gU ht aci (a,b) hl
def qx:gu:=⟨Unit,λa=>[],λa=>True,λa=>sl (mP.map T.str),λa b c=>rfl⟩
def Iv:qx.Ok Tryz.prog cx 203:=by
 refine gX (tb:=⟨pt [],ht []⟩) ew ej (iQ 1 [] Tryz.func203) (λb=>1) (by simp[qx]) (by simp[qx,Tryz.f203]) ?_;rintro _ _ c a;simp[qx]at a|-;simp[Tryz.f203,f7];rfl
def LZ{a:fy}(ht:a.p 203=some qx):rl Tryz.prog cx a 203 []=some (sl (mP.map T.str)):=gU ht Iv () trivial
def OB:mP.length=22:=rfl
def sY:gu:=⟨List Nat,λa=>[.str a],λa=>True,λa=> .bool (tJ a),λa c b=>by simp at b;rw[b]⟩
def Gh:sY.Ok Tryz.prog cx 158:=by
 refine gX (tb:=⟨pt [(203,qx)],ht []⟩) ew ej (iQ 131613 [] Tryz.func158) (λn=>23) (by simp[sY]) (by simp[sY,Tryz.f158]) ?_;rintro(g:List Nat) _ b k;simp[sY]at k|-;simp[Tryz.f158,LZ];refine fh mP.length (by rw[OB];omega) (λf b h=>h=hE/\dB b 0 (.str g)/\dB b 3 (sl (mP.map T.str))/\dB b 4 (dy f)/\(g∈mP.drop f↔g∈mP)) ?_ ?_ (by rw[OB];omega) (by simp[k])
 ·rintro f b h j l ⟨rfl,i,c,d,a⟩;have m:=aI j;rw[m]at a;by_cases e:mP[f]=g
  ·simp[i,c,d,j,e,tJ];rw[<-a,e];simp
  ·simp[i,c,d,j,e,l];refine⟨λh=>a.1 (cz _ h),λh=> ?_⟩;rcases List.mem_cons.1 (a.2 h)with h|h
   ·exact absurd h.symm e
   ·exact h
 ·rintro b h ⟨rfl,i,c,d,a⟩;simp[c,d,tJ];simpa using a
def Cv{b:fy}(ht:b.p 158=some sY)(a:List Nat):rl Tryz.prog cx b 158 [.str a]=some (.bool (tJ a)):=gU ht Gh a trivial
def wy:gu:=⟨List Nat,λa=>[.str a],λa=>True,λa=> .bool (tz a),λa c b=>by simp at b;rw[b]⟩
def NM:wy.Ok Tryz.prog cx 109:=by
 refine gX (tb:=⟨pt [(158,sY),(157,t7),(159,yU)],ht []⟩) ew ej (iQ 4330618893 [] Tryz.func109) (λv=>13) (by simp[wy]) (by simp[wy,Tryz.f109]) ?_;rintro(a:List Nat) _ f d;simp[wy]at d|-;cases a with
 |nil=>simp[Tryz.f109,d,tz]
 |cons b a=>
  have h:¬(a.length:Int)+1<1:=dq;by_cases w:a.length+1<=12
  ·have e:¬(12:Int)<(a.length:Int)+1:=dq;cases j:uk b with
   |false=>simp[Tryz.f109,d,h,e,j,A1,tz,J9]
   |true=>
    cases o:tJ (b::a)with
    |true=>simp[Tryz.f109,d,h,e,j,o,A1,Cv,tz,J9]
    |false=>
     have q:tz (b::a)=(b::a).all u7:=by simp[tz,o,J9,j];intro _ _;omega
     obtain⟨m,s⟩:∃m,m=(b::a).all u7:=⟨_,rfl⟩;rw[q,<-s];simp[Tryz.f109,d,h,e,j,o,A1,Cv];refine fh (b::a).length du (λl f n=>n=hE/\dB f 0 (.str (b::a))/\dB f 3 (dy l)/\((b::a).drop l).all u7=m) ?_ ?_ du (by rw[s];simp[d])
     ·rintro l f n p u ⟨rfl,g,i,c⟩;rw[aI p,cA]at c;generalize t:(b::a)=r at*
      cases k:u7 r[l]with
      |true=>rw[k,bK]at c;simp[g,i,p,u,Pp,k,c]
      |false=>rw[k,Bool.false_and]at c;simp[g,i,p,Pp,k,<-c]
     ·rintro f n ⟨rfl,g,i,c⟩;generalize t:(b::a)=r at*
      rw[dh]at c;simp[g,i,<-c]
  ·have e:(12:Int)<(a.length:Int)+1:=dq;have q:tz (b::a)=false:=by simp[tz];omega
   simp[Tryz.f109,d,h,e,q]
def o6{b:fy}(ht:b.p 109=some wy)(a:List Nat):rl Tryz.prog cx b 109 [.str a]=some (.bool (tz a)):=gU ht NM a trivial
end
noncomputable section
open Go Go.TI
attribute [-simp] List.map_take List.map_drop List.map_append fw eQ dZ Bool.not_or Bool.not_and
attribute [simp] fq eY
def okB(a:List Int):Prop:=a.length<=140737488351232/\∀x∈a,0<=x/\x<256
def Tp(b:List Int)(c:Nat)(d:H):Prop:=∃e a,d.get c=some (dA 2 e [.agg [sl (b.map (T.int .u8)),dy a]])/\0<=a
structure yF where
 (L:List Int) (b:Nat) (n:Int)
def ue(a:yF)(d:List T)(c:H):Prop:=d=[.ptr a.b 0 0 0,dy a.n]/\Tp a.L a.b c/\gF 0 c/\1<=a.n/\a.n<=100/\okB a.L
def qR(a:yF)(g:List T)(e:H)(f:T)(d:H):Prop:=∃c,f= dy c/\0<=c/\c<a.n/\Tp a.L a.b d/\Sm a.b e d
def _root_.Go.TI.Sm.out{b:Nat}{h c:H}(a:Sm b (TI.hr h) c):Sm b h (lL h c):=⟨a.ok.out h,a.size,λd e=>by rw[fO,a.get d e,f9]⟩
def yQ{k:ak}{a b:Int}(d:¬b=0):binop .rem (.int k a) (.int k b)=some (.int k (a.tmod b)):=by
 have c:Qg b 0=false:=by rw[xp];simp[d]
 unfold binop;simp[wq,c]
def NK:(js yF ue qR).Ok Tryz.prog cx 63:=by
 refine jo (tb:=⟨pt [],ht []⟩) ew ej (iQ 262163 [] Tryz.func63) (λ_ _=>5) (λE a h z=>by obtain⟨rfl,_⟩:=z;simp[Tryz.f63]) ?_;rintro⟨c,f,k⟩ _ h ⟨rfl,⟨g,b,e,q⟩,r,w,y,s,n⟩ F o;simp only at e q w y s n;simp at o;obtain⟨i,m⟩:=o;simp[Tryz.f63,i,m,e];refine dW (λj=> ?_) (λj=> ?_)
 ·simp[j];exact⟨0,rfl,Int.le_refl _,dw,⟨g,b,by rw[fO,f9];exact e,q⟩,Sm.out (Sm.refl r.hr)⟩
 ·simp at j;have B:IntKind.i64.wrap (b+1)=b+1:=by rw[<-jn];exact ju dq dq
  have C:IntKind.i64.wrap b=b:=by rw[<-jn];exact ju dq dq
  have A:Sm f (hr h) _:=(Sm.refl r.hr).put (x:=(dA 2 g [.agg [sl (c.map (T.int .u8)),dy b]])) (by rw[f9];exact e) (dA 2 (g+1) [.agg [sl (c.map (T.int .u8)),dy (b+1)]]);have l:(dT (hr h) f (dA 2 (g+1) [.agg [sl (c.map (T.int .u8)),dy (b+1)]])).get f=_:=(dI (h:=hr h) (by rw[f9];exact e) _ f).trans (aq rfl);simp[i,e,nJ,dS,B];generalize dT (hr h) f _=D at*
  obtain⟨d,rfl⟩:∃d:Nat,b=d:=⟨b.toNat,dq⟩;have p:d<c.length:=dq;have t:=n c[d] (aF p);have u: -9223372036854775808<=c[d]:=dq;have v:c[d]<9223372036854775808:=dq;have t0:=Int.tmod_nonneg k t.1;have t1:=Int.tmod_lt_of_pos c[d] (show 0<k by omega);simp[i,m,l,tU,C,p,u,v,yQ (a:=c[d]) (show¬k=0 by omega)];exact⟨_,rfl,t0,t1,⟨_,_,by rw[fO];exact l,dq⟩,Sm.out A⟩
def F0:gu:=⟨Int,λa=>[dy a],λ_=>True,λa=>(dN.mk 1 a [] []).t,λa c b=>by simp at b;rw[b]⟩
def YV:F0.Ok Tryz.prog cx 120:=by
 refine gX (tb:=⟨pt [],ht []⟩) ew ej (iQ 5 [] Tryz.func120) (λ_=>5) (by simp[F0]) (by simp[F0,Tryz.f120]) ?_;rintro a _ c b;simp[F0]at a b|-;simp[Tryz.f120,b];simpa using dN.fold 1 a [] []
def RL{b:fy}(ht:b.p 120=some F0)(a:Int):rl Tryz.prog cx b 120 [dy a]=some (dN.mk 1 a [] []).t:=gU ht YV a trivial
def Id:gu:=⟨List Nat,λa=>[.str a],λ_=>True,λa=>(dN.mk 2 0 a []).t,λa c b=>by simp at b;rw[b]⟩
def YW:Id.Ok Tryz.prog cx 211:=by
 refine gX (tb:=⟨pt [],ht []⟩) ew ej (iQ 5 [] Tryz.func211) (λ_=>5) (by simp[Id]) (by simp[Id,Tryz.f211]) ?_;rintro a _ c b;simp[Id]at a b|-;simp[Tryz.f211,b];simpa using dN.fold 2 0 a []
def RM{b:fy}(ht:b.p 211=some Id)(a:List Nat):rl Tryz.prog cx b 211 [.str a]=some (dN.mk 2 0 a []).t:=gU ht YW a trivial
def Ie:gu:=⟨Int×dN×dN,λa=>[dy a.1,a.2.1.t,a.2.2.t],λ_=>True,λa=>(dN.mk a.1 0 [] [a.2.1,a.2.2]).t,λa c b=>by
 simp at b;rw[b.1,dN.inj b.2.1,dN.inj b.2.2]⟩
def YY:Ie.Ok Tryz.prog cx 210:=by
 refine gX (tb:=⟨pt [],ht []⟩) ew ej (iQ 119 [] Tryz.func210) (λ_=>5) (by simp[Ie]) (by simp[Ie,Tryz.f210]) ?_;rintro⟨d,b,c⟩ _ e a;simp[Ie]at a|-;simp[Tryz.f210,a,f7];simpa using dN.fold d 0 [] [b,c]
def VA{d:fy}(ht:d.p 210=some Ie)(c:Int)(a b:dN):rl Tryz.prog cx d 210 [dy c,a.t,b.t]=some (dN.mk c 0 [] [a,b]).t:=gU ht YY (c,a,b) trivial
def Ig:gu:=⟨List Nat×dN,λa=>[.str a.1,a.2.t],λ_=>True,λa=>(dJ.mk 1 0 a.1 [] [] a.2 [] []).t,λa c b=>by
 simp at b;rw[b.1,dN.inj b.2]⟩
def YZ:Ig.Ok Tryz.prog cx 119:=by
 refine gX (tb:=⟨pt [],ht []⟩) ew ej (iQ 27 [] Tryz.func119) (λ_=>5) (by simp[Ig]) (by simp[Ig,Tryz.f119]) ?_;rintro⟨b,c⟩ _ d a;simp[Ig]at a|-;simp[Tryz.f119,a];rw[dJ.mT];rfl
def uG:List gW:=[⟨1,0,[120],0,0,[]⟩,⟨1,0,[121],0,1,[]⟩,⟨2,0,[118],0,0,[]⟩,⟨1,0,[113],2,0,[]⟩,⟨3,0,[109],0,0,[]⟩,⟨3,0,[110],0,0,[]⟩,⟨4,0,[114],0,0,[]⟩,⟨5,0,[99],0,0,[109]⟩,⟨6,0,[102],0,0,[]⟩]
def yX:gu:=⟨Unit,λ_=>[],λ_=>True,λ_=>sl (uG.map gW.t),λ_ _ _=>rfl⟩
def QW:yX.Ok Tryz.prog cx 117:=by
 refine gX (tb:=⟨pt [],ht []⟩) ew ej (iQ 1 [] Tryz.func117) (λ_=>5) (by simp[yX]) (by simp[yX,Tryz.f117]) ?_;rintro _ _ b a;simp[yX]at a|-;simp[Tryz.f117,f7,uG]
def Pt{a:fy}(ht:a.p 117=some yX):rl Tryz.prog cx a 117 []=some (sl (uG.map gW.t)):=gU ht QW () trivial
def rG{c:fy}(ht:c.p 119=some Ig)(a:List Nat)(b:dN):rl Tryz.prog cx c 119 [.str a,b.t]=some (dJ.mk 1 0 a [] [] b [] []).t:=gU ht YZ (a,b) trivial
def rE(b:Nat)(e left:Int)(set f a d:Bool)(c:T):List T:=[.ptr b 0 0 0,dy e,dy left,.bool set,.bool f,.bool a,.bool d,c]
structure Mk(L:List Int)(n:Nat)(h:H)(m b:Nat):Prop where
 ok:gF 0 h
 fp:∀c,Fp h m c->c<h.size
 tp:Tp L b h
 ex:∃ver th left set tx at' lp hv,∃hs:List (List Nat),h.get m=some (dA 8 ver [.agg (rE b th left set tx at' lp hv)])/\Gr h hv 1 (hs.map T.str)/\hs.length=n
def Mk.ne{e:List Int}{h:Nat}{g:H}{d b:Nat}(c:Mk e h g d b):d≠b:=λi=>by
 obtain⟨k,j,f,_⟩:=c.tp;obtain⟨_,_,_,_,_,_,_,_,_,a,_⟩:=c.ex;rw[i,f]at a;simp at a
def Mk.lt{c:List Int}{f:Nat}{b:H}{a d:Nat}(e:Mk c f b a d):a<b.size:=e.fp a (.inl rfl)
def Mk.fpb{d:List Int}{g:Nat}{b:H}{c a:Nat}(f:Mk d g b c a):Fp b c a:=by
 obtain⟨_,_,_,_,_,_,_,_,_,e,_⟩:=f.ex;exact .inr ⟨_,e,_,by simp[fa,T.cells,rE];exact .inl rfl,rfl⟩
def Mk.tape{i:List Int}{m:Nat}{h e:H}{d g:Nat}(f:Mk i m h d g)(a:Sm g h e)(v:Tp i g e):Mk i m e d g/\Step d h e:=by
 have j:e.get d=h.get d:=a.get d f.ne;obtain⟨z,C,p,_⟩:=f.tp;obtain⟨y,w,left,set,x,o,u,t,s,q,l,hl⟩:=f.ex;refine⟨⟨a.ok,λc b=>by rw[iJ j]at b;rw[a.size];exact f.fp c b,v,y,w,left,set,x,o,u,t,s,by rw[j];exact q,l.mono λc b=>a.get c λk=> ?_,hl⟩,⟨a.ok.hp,a.ok.low,by rw[a.size];exact au _⟩,λc _ r=>a.get c λk=>r (by rw[k];exact f.fpb),λc b=>by rw[iJ j]at b;exact .inl b⟩;obtain⟨A,z,B,D,n,_⟩:=l.box b;rw[k,p]at n;simp at n
structure Tw(L:List Int)(b:Nat)(h h':H):Prop where
 ok:gF 0 h'
 size:h.size<=h'.size
 get:∀c,c<h.size->c≠b->h'.get c=h.get c
 tp:Tp L b h'
def Tw.refl{b:List Int}{c:Nat}{a:H}(d:gF 0 a)(e:Tp b c a):Tw b c a a:=⟨d,au _,λ_ _ _=>rfl,e⟩
def Tp.lt{c:List Int}{a:Nat}{b:H}(e:Tp c a b):a<b.size:=by
 obtain⟨_,_,d,_⟩:=e;exact H.ez d
def Tp.eq{b:List Int}{a:Nat}{c d:H}(i:Tp b a c)(f:d.get a=c.get a):Tp b a d:=by
 obtain⟨j,g,e,h⟩:=i;exact⟨j,g,by rw[f];exact e,h⟩
def Tw.cons{a:List Int}{b:Nat}{c d:H}(w:Tw a b c d)(e:iN):Tw a b c (d.cons e):=
 ⟨w.ok.cons e,by have:=w.size;simp;omega,λf g h=>by rw[dP,ao (by have:=w.size;omega)];exact w.get f g h,w.tp.eq (by rw[dP,ao (by have:=w.tp.lt;omega)])⟩
def Tw.put{f:List Int}{d:Nat}{a e:H}(b:Tw f d a e){c:Nat}{x:iN}(g:e.get c=some x)(m:a.size<=c)(l:d<a.size)(h:iN):Tw f d a (dT e c h):=
 ⟨b.ok.put c h,by rw[fJ];exact b.size,λi j k=>by rw[dI g,ao dq];exact b.get i j k,b.tp.eq (by rw[dI g,ao dq])⟩
def Tw.call{b:List Int}{a:Nat}{f g c:H}(i:Tw b a f g)(d:Sm a g c)(k:Tp b a c):Tw b a f c:=
 ⟨d.ok,by rw[d.size];exact i.size,λe j h=>(d.get e h).trans (i.get e j h),k⟩
def Tw.cut{j:List Int}{e:Nat}{a d:H}(b:Tw j e (TI.hr a) d)(A:gF 0 a)(v:e<a.size){p q:T}{o:T->H->Prop}(x:∃i,iX d a.size p=some i/\cn i=q)
 (z:Sm e a (uq a d)->Tp j e (uq a d)->o q (uq a d)):xF a p d o:=by
 obtain⟨i,u,rfl⟩:=x;have h:a.size<=d.size:=b.size;refine⟨b.ok.hp,h,λc B w l=> ?_,i,u,z ⟨A.cut b.ok.hp h,rfl,λc y=> ?_⟩ (b.tp.eq (yt b.ok.hp h v))⟩
 ·by_cases f:c=e
  ·obtain⟨r,D,t,_⟩:=b.tp;rw[f,t]at l;cases l;refine .inr λr k=>(BP r ?_).mono (aw _);simp[fa,T.cells]at k;rcases k with rfl|rfl<;>simp
  ·exact .inl ((b.get c w f).trans (f9 a c))
 ·by_cases f:c<a.size
  ·rw[yt b.ok.hp h f,b.get c f y,f9]
  ·have m:∀g:H,g.size=a.size->g.get c=none:=λg C=>by
    cases s:g.get c with
    |none=>rfl
    |some B=>have:=H.ez s;omega
   rw[m (uq a d) rfl,m a rfl]
def Mk.tw{h:List Int}{m:Nat}{a f:H}{b i:Nat}(c:Mk h m a b i)(d:Tw h i (TI.hr a) f):Mk h m f b i:=by
 have l:f.get b=a.get b:=(d.get b c.lt c.ne).trans (f9 a b);obtain⟨x,B,o,_⟩:=c.tp;obtain⟨w,u,left,set,v,n,s,r,q,p,k,hl⟩:=c.ex;have A:a.size<=f.size:=d.size;refine⟨d.ok,λe g=>by rw[iJ l]at g;have:=c.fp e g;omega,d.tp,w,u,left,set,v,n,s,r,q,by rw[l];exact p,k.mono λe g=> ?_,hl⟩;obtain⟨y,x,z,C,j,_⟩:=k.box g;exact(d.get e (H.ez j) λt=>by rw[t,o]at j;simp at j).trans (f9 a e)
def rk{g:fy}{l:Nat}{e:List Int}{b:Nat}{d:Int}{f:H}{m:af Oper}{j:aa Tmp}{k:List Oper}{o n:fN}{i:iB}(ht:g.h 63=some (js yF ue qR))(y:Tp e b f)(u:gF 0 f)(q:1<=d)(r:d<=100)(s:okB e)
 (p:∀(a:Nat) c,(a:Int)<d->Tp e b c->Sm b f c->XK (some (dy a,c)) cx (qp Tryz.prog cx g) l m j k o n i):XK (hl Tryz.prog cx g 63 [.ptr b 0 0 0,dy d] f) cx (qp Tryz.prog cx g) l m j k o n i:=
 gY NK ht ⟨e,b,d⟩ ⟨rfl,y,u,q,r,s⟩ (by
  rintro _ c ⟨a,rfl,z,v,w,x⟩;obtain⟨a,rfl⟩:∃t:Nat,a=t:=⟨a.toNat,dq⟩;exact p a c v w x)
def Jf{i:fy}{p:Nat}{f:List Int}{c:Nat}{e:Int}{b:H}{r:af Oper}{k:List (Nat×Nat)}{l:aa Tmp}{q:Op}{n:List Oper}{g:Nat}{o:List (Nat×Nat)}{m:List (Nat×H×H)}{t s:fN}{j:iB}(ht:i.h 63=some (js yF ue qR))(C:Tp f c b)(y:gF 0 b)(v:1<=e)(w:e<=100)(x:okB f)
 (u:∀(a:Nat) d,(a:Int)<e->Tp f c d->Sm c b d->P7 (some (dy a,d)) cx (qp Tryz.prog cx i) p r k l q n g o m t s b j):P7 (hl Tryz.prog cx i 63 [.ptr c 0 0 0,dy e] b) cx (qp Tryz.prog cx i) p r k l q n g o m t s b j:=
 lP NK ht ⟨f,c,e⟩ ⟨rfl,C,y,v,w,x⟩ (by
  rintro _ d ⟨a,rfl,D,z,A,B⟩;obtain⟨a,rfl⟩:∃g:Nat,a=g:=⟨a.toNat,dq⟩;exact u a d z A B)
def dN.ft{b:H}{V:Nat->Prop}(a:dN)(d:Nat):FT b V (d+2) a.t a.t:= .inr (.inr ⟨_,_,a.mT,.cons (fW ..) (.cons (fW ..) (.cons (jV ..) (.cons (oz _ _ _ λe c=>by obtain⟨f,_,rfl⟩:=List.mem_map.1 c;simp) .nil))),a.mT⟩)
structure R4 where
 (L:List Int) (m b n d:Nat)
def Ui(a:R4)(c:List T)(e:H):Prop:=c=[.ptr a.m 0 0 0,dy a.d]/\Mk a.L a.n e a.m a.b/\okB a.L/\a.d<=10
def JQ(a:R4)(h:List T)(f:H)(g:T)(e:H):Prop:=∃c:dN,g=c.t/\ME c/\c.w<=3^a.d/\Tp a.L a.b e/\Sm a.b f e
def E9{f:List Int}{m e n d:Nat}{b c:H}{z:iN}{a k:Int}{s:List Nat}{v:T}{l:List dN}{args:List T}(q:gF 0 b)(h:e<b.size)(y:Tw f e (TI.hr b) c)(g:c.get b.size=some z)
 (o:FT (dT c b.size (dA 4 1 [.agg [dy a,dy k,.str s,v]])) (λi=>b.size<=i) 11 v (sl (l.map dN.t))) (j:ME ⟨a,k,s,l⟩) (p:(dN.mk a k s l).w<=3^d):
 (dT c b.size (dA 4 1 [.agg [dy a,dy k,.str s,v]])).get b.size=some (dA 4 1 [.agg [dy a,dy k,.str s,v]])/\
 xF b (.agg [dy a,dy k,.str s,v]) (dT c b.size (dA 4 1 [.agg [dy a,dy k,.str s,v]])) (JQ ⟨f,m,e,n,d⟩ args b):=
 ⟨(dI g _ _).trans (aq rfl),(y.put g (au _) h _).cut q h (FT.top (au 11) (λ_ r=>r) (.cons (fW ..) (.cons (fW ..) (.cons (jV ..) (.cons o .nil))))) λu x=>⟨⟨a,k,s,l⟩,(dN.mT ⟨a,k,s,l⟩).symm,j,p,x,u⟩⟩
abbrev M2(e:Nat):kH:=js R4 (λa b c=>Ui a b c/\a.d<e) JQ
def ON(k:Nat)(P:(M2 k).Ok Tryz.prog cx 209):(M2 (k+1)).Ok Tryz.prog cx 209:=by
 refine p7 (tb:=⟨pt [(120,F0),(211,Id),(210,Ie)],ht [(63,js yF ue qR),(209,M2 k)]⟩) ew ej (iQ 35186519589107 [(10,[(8,13),(9,13),(8,17),(9,17)])] Tryz.func209) (λ_ _=>5) (λi a e a8=>by obtain⟨⟨rfl,_⟩,_⟩:=a8;simp[Tryz.f209]) ?_;rintro⟨G,m,A,n,d⟩ _ e ⟨⟨rfl,b,r,aE⟩,aN⟩ cv V;simp only at b r aE aN;simp at V;obtain⟨w,K⟩:=V;obtain⟨cp,ca,left,set,cb,bB,b9,b6,bT,I,bC,hl⟩:=b.ex;simp only[rE]at I;have a7:=b.lt;have aX:(m=e.size)=False:=du;have a6:(m=e.size+1)=False:=du;simp[Tryz.f209,w,I,aX,a6];have F:=((Tw.refl b.ok.hr (b.tp.eq (f9 e A))).cons (dA 4 0 [.agg [dy 0,dy 0,.str [],dz]])).cons (dA 1 0 [.str [97],.str [98],.str [120],.str [121],.str [118],.str [120],.str [121]]);refine rk dt F.tp F.ok dq dq r λb8 p bN t2 D=> ?_;have C:=b.tp.lt;have f:=F.call D t2;have gR:p.get e.size=some (dA 4 0 [.agg [dy 0,dy 0,.str [],dz]]):=(D.get _ dq).trans dt;have gN:p.get (e.size+1)=some (dA 1 0 [.str [97],.str [98],.str [120],.str [121],.str [118],.str [120],.str [121]]):=(D.get _ dq).trans dt;have J:=((f.get m a7 b.ne).trans (f9 e m)).trans I;clear D F;simp[K];refine dW (λN=> ?_) (λN=> ?_)
 ·simp[w,J];refine rk dt f.tp f.ok dq dq r λg q _ t3 h=> ?_;have j:=f.call h t3;have gR:=(h.get _ dq).trans gR;have fin:=E9 (m:=m) (n:=n) (d:=d) (v:=sl []) (l:=[]) (args:=[.ptr m 0 0 0,dy d]) b.ok C j gR (oz _ _ _ dt) (.num g) (by rw[dN.kU];simp only[dN.Eu,dN.iD];exact Nat.pow_pos dq);simp[RL,gR,fin.1];exact fin.2
 simp;refine dW (λL=> ?_) (λL=> ?_)
 ·simp[w,J];refine rk dt f.tp f.ok dq dq r λg q W t3 h=> ?_;have j:=f.call h t3;have gR:=(h.get _ dq).trans gR;have gN:=(h.get _ dq).trans gN;have o:∃s:List Nat,([.str [97],.str [98],.str [120],.str [121],.str [118],.str [120],.str [121]]:List T)[g]? =some (.str s):=by
   rcases(by omega:g=0\/g=1\/g=2\/g=3\/g=4\/g=5\/g=6)with rfl|rfl|rfl|rfl|rfl|rfl|rfl<;>exact⟨_,rfl⟩
  obtain⟨s,o⟩:=o;generalize([.str [97],.str [98],.str [120],.str [121],.str [118],.str [120],.str [121]]:List T)=al at gN o;have fin:=E9 (m:=m) (n:=n) (d:=d) (v:=sl []) (l:=[]) (args:=[.ptr m 0 0 0,dy d]) b.ok C j gR (oz _ _ _ dt) (.nm s) (by rw[dN.kU];simp only[dN.Eu,dN.iD];exact Nat.pow_pos dq);have W:g<7:=dq;simp[gN,W,o,RM,gR,fin.1];exact fin.2
 ·simp;refine dW (λM=> ?_) (λM=> ?_)
  ·simp[w];simp at L N M;refine gY P dt ⟨G,m,A,n,0⟩ ⟨⟨rfl,b.tw f,r,dt⟩,dw⟩ ?_;rintro _ q ⟨c,rfl,ap,bk,t3,h⟩;simp only at bk t3 h;have j:=f.call h t3;have gR:=(h.get _ dq).trans gR;have bS:=H.ez gR;have O:(e.size=q.size)=False:=du;have B:(q.cons (dA 4 0 [c.t])).get e.size=_:=(by rw[dP,ao dq]:(q.cons (dA 4 0 [c.t])).get e.size=q.get e.size).trans gR;have fin:=E9 (m:=m) (n:=n) (d:=d) (a:=3) (k:=0) (s:=[113]) (v:= .arr q.size 0 0 1 false) (l:=[c]) (args:=[.ptr m 0 0 0,dy d]) b.ok C (j.cons (dA 4 0 [c.t])) B
    (.inr (.inl ⟨q.size,0,0,1,false,[c.t],[c.t],rfl,dq,by rw[f7,dI B,ao dq,dP,aq rfl];simp,.cons (c.ft 8) .nil,rfl⟩)) (.ix ap) (by
      have:3^1<=3^d:=Nat.pow_le_pow_right dq dq;rw[dN.kU];simp only[dN.Eu,dN.jQ,dN.iD];omega)
   simp[gR,O,fin.1];exact fin.2
  simp at L N M;obtain⟨d,rfl⟩:∃c,d=c+1:=⟨d-1,dq⟩;have O:(m=p.size)=False:=by have:=f.size;simp at this;simp;omega
  have ae:IntKind.i64.wrap d=(d:Int):=by rw[<-jn];exact ju dq dq
  simp[w,O,J];have j:=f.cons (dA 1 0 [dy 6,dy 7,dy 8,dy 11,dy 13,dy 17]);refine Jf dt j.tp j.ok dq dq r λu x X t4 E=> ?_;have Y:=j.call E t4;have b7:p.size+1=x.size:=by rw[E.size];simp
  have bH:=f.tp.lt;have gO:x.get p.size=some (dA 1 0 [dy 6,dy 7,dy 8,dy 11,dy 13,dy 17]):=(E.get _ dq).trans dt;have B:x.get e.size=_:=((E.get _ dq).trans (by rw[dP,ao (by have:=H.ez gR;omega)])).trans gR;have o:∃s:Int,([dy 6,dy 7,dy 8,dy 11,dy 13,dy 17]:List T)[u]? =some (dy s)/\6<=s:=by
   rcases(by omega:u=0\/u=1\/u=2\/u=3\/u=4\/u=5)with rfl|rfl|rfl|rfl|rfl|rfl<;>exact⟨_,rfl,dq⟩
  obtain⟨s,o,bi⟩:=o;generalize([dy 6,dy 7,dy 8,dy 11,dy 13,dy 17]:List T)=al at*
  have X:u<6:=dq;simp[w,K,gO,o,X,tU,ae];refine lP P dt ⟨G,m,A,n,d⟩ ⟨⟨rfl,b.tw Y,r,dw⟩,dw⟩ ?_;rintro _ S ⟨c,rfl,av,bl,t5,y⟩;simp only at bl t5 y;have Z:=Y.call y t5;have an:=(y.get _ dq).trans B;have bs:eJ x S p.size=true:=ff (y.get _ dq);simp[w,K,tU,ae,bs];refine lP P dt ⟨G,m,A,n,d⟩ ⟨⟨rfl,b.tw Z,r,dw⟩,dw⟩ ?_;rintro _ U ⟨Q,rfl,aA,bn,t6,z⟩;simp only at bn t6 z;have bz:=Z.call z t6;have R:=(z.get _ dq).trans an;have bu:eJ S U p.size=true:=ff (z.get _ dq);have ce:eJ x U p.size=true:=ff ((z.get _ dq).trans (y.get _ dq));have fin:=E9 (m:=m) (n:=n) (d:=d+1) (a:=s) (k:=0) (s:=[]) (v:=sl [c.t,Q.t]) (l:=[c,Q]) (args:=[.ptr m 0 0 0,dy (d+1:Nat)]) b.ok C bz R (oz _ _ _ dt) (.bin bi av aA) (by
   have:=Nat.pow_pos (n:=d) (show 0<3 by omega);rw[dN.kU,Nat.pow_succ];simp only[dN.Eu,dN.jQ,dN.iD];omega)
  simp[VA,bu,R,fin.1];exact fin.2
def NY(a:Nat):(M2 a).Ok Tryz.prog cx 209:=yG (λb:R4=>b.d) ON a
def Nw(d c:Nat)(b:H)(e:Nat)(f:T)(a:Nat):Prop:=d<=a/\a<c/\¬Fp b e a/\dO f≠some a
def J2(a:Nat):dO .ka≠some a:=by show(none:aa Nat)≠some a;simp
def SV(f e:Nat)(b:H)(g h:Nat)(c:T)(i:List dJ):Prop:=∃d,Gr b c 11 d/\iv (FT b (Nw f e b g c) (h+2)) d (i.map dJ.t)/\∀a,dO c=some a->f<=a/\a<e/\¬Fp b g a
def SV.nil(d c:Nat)(b:H)(e a:Nat):SV d c b e a dz []:=⟨[],Gr.nil _ _,.nil,λg f=>by simp at f⟩
def SV.same{i h m k:Nat}{f g:H}{d j:Nat}{n:T}{l:List dJ}(r:SV i h f d j n l)(v:m<=i)(w:h<=k)(c:∀a,i<=a->a<h->¬Fp f d a->g.get a=f.get a/\¬Fp g d a):SV m k g d j n l:=by
 obtain⟨p,q,o,e⟩:=r;refine⟨p,q.mono λa b=>(c a (e a b).1 (e a b).2.1 (e a b).2.2).1,o.ft λa b=>⟨⟨by have:=b.1;omega,by have:=b.2.1;omega,(c a b.1 b.2.1 b.2.2.1).2,b.2.2.2⟩,(c a b.1 b.2.1 b.2.2.1).1⟩,λa b=> ?_⟩;obtain⟨s,t,u⟩:=e a b;exact⟨dq,dq,(c a s t u).2⟩
def SV.step{i b:Nat}{a f:H}{c e:Nat}{l:T}{h:List dJ}(m:SV i b a c e l h)(k:Step c a f)(o:b<=a.size):SV i b f c e l h:=
 m.same (au _) (au _) λd _ n g=>⟨k.get d dq g,λj=>(k.fp d j).elim g λj=>by omega⟩
def SV.wide{f c g d:Nat}{b:H}{h a:Nat}{i:T}{e:List dJ}(l:SV f c b h a i e)(j:g<=f)(k:c<=d):SV g d b h a i e:=l.same j k λ_ _ _ m=>⟨rfl,m⟩
def SV.box{e d:Nat}{i:H}{l h:Nat}{g:T}{k:List dJ}(c:SV e d i l h g k){a:Nat}(j:e<=a/\a<d->False):dO g≠some a:=λf=>by
 obtain⟨_,_,_,c⟩:=c;exact j ⟨(c a f).1,(c a f).2.1⟩
def SV.rD{f e:Nat}{b:H}{c g:Nat}{i:T}{h:List dJ}(l:SV f e b c g i h){a:Nat}{m:iN}(d:Lb c b a m)(q:a<f\/e<=a)(j:iN):SV f e (dT b a j) c g i h:=
 l.same (au _) (au _) λn o p k=>⟨by rw[dI d.get,ao dq],by rw[iJ (show(dT b a j).get c=b.get c by rw[dI d.get,ao (bg d.ne)])];exact k⟩
def SV.ft{i h:Nat}{e:H}{j d:Nat}{k:T}{a:List dJ}(p:SV i h e j d k a):FT e (Nw i h e j .ka) (d+3) k (sl (a.map dJ.t)):=by
 obtain⟨n,g,b,q⟩:=p;have o:=g.jg;rcases g with⟨rfl,rfl⟩|⟨c,m,y,v,A,rfl,w,x⟩
 ·cases hl:a.map dJ.t with
  |nil=>exact iU _ _ _ _
  |cons z a=>rw[hl]at b;cases b
 ·obtain⟨r,s,u⟩:=q c rfl;exact .inr (.inl ⟨c,m,0,_,false,n,_,rfl,⟨r,s,u,J2 c⟩,o,b.ft λl f=>⟨⟨f.1,f.2.1,f.2.2.1,J2 l⟩,rfl⟩,rfl⟩)
def dJ.ft{c:H}{V:Nat->Prop}(b:dJ)(d:Nat):FT c V (d+2) b.t b.t:=by
 have f:∀a:List dN,FT c V (d+1) (sl (a.map dN.t)) (sl (a.map dN.t)):=λa=>oz _ _ _ λh e=>by obtain⟨i,_,rfl⟩:=List.mem_map.1 e;simp
 have g:∀a:List dJ,FT c V (d+1) (sl (a.map dJ.t)) (sl (a.map dJ.t)):=λa=>oz _ _ _ λh e=>by obtain⟨i,_,rfl⟩:=List.mem_map.1 e;simp
 exact .inr (.inr ⟨_,_,b.mT,.cons (fW ..) (.cons (fW ..) (.cons (jV ..) (.cons (jV ..) (.cons (f _) (.cons (fW ..) (.cons (fW ..) (.cons (jV ..) (.cons (f _) (.cons (g _) (.cons (g _) .nil)))))))))),b.mT⟩)
def Mk.same{i:List Int}{m:Nat}{b c:H}{f g:Nat}(e:Mk i m b f g)(r:gF 0 c)(v:b.size<=c.size)(h:∀a,Fp b f a->c.get a=b.get a):Mk i m c f g:=by
 have k:=h f (.inl rfl);obtain⟨u,s,left,set,t,n,q,l,p,j,o,hl⟩:=e.ex;refine⟨r,λa d=>by rw[iJ k]at d;have:=e.fp a d;omega,e.tp.eq (h g e.fpb),u,s,left,set,t,n,q,l,p,by rw[k];exact j,o.mono λa d=>h a (.inr ⟨_,j,l,by simp[fa,T.cells,rE],d⟩),hl⟩
def Mk.cons{b:List Int}{f:Nat}{d:H}{e c:Nat}(a:Mk b f d e c)(g:iN):Mk b f (d.cons g) e c:=a.same (a.ok.cons g) dt λh i=>by rw[dP,ao (by have:=a.fp h i;omega)]
def Mk.rD{d:List Int}{h:Nat}{b:H}{c e:Nat}(f:Mk d h b c e){a:Nat}{l:iN}(g:Lb c b a l)(i:iN):Mk d h (dT b a i) c e:=f.same (f.ok.put a i) (by rw[fJ];exact au _) λm j=>by rw[dI g.get,ao (λk=>g.nf (by rw[<-k];exact j))]
def Mk.hr{b:List Int}{f:Nat}{a:H}{e c:Nat}(d:Mk b f a e c):Mk b f (TI.hr a) e c:=d.same d.ok.hr (au _) λg _=>f9 a g
def Mk.out{b:List Int}{e:Nat}{h a:H}{m c:Nat}(d:Mk b e a m c):Mk b e (lL h a) m c:=d.same (d.ok.out h) (au _) λf _=>fO h a f
def SV.out{e c:Nat}{h a:H}{m b:Nat}{f:T}{d:List dJ}(j:SV e c a m b f d):SV e c (lL h a) m b f d:=
 j.same (au _) (au _) λg _ _ i=>⟨fO h a g,by rw[iJ (fO h a m)];exact i⟩
def Mk.set{j:List Int}{h:Nat}{c:H}{d b f:Nat}{s left th' left':Int}{r t l n se' tx' at2 lp':Bool}{a:T}{g:List (List Nat)}(e:Mk j h c d b)(k:c.get d=some (dA 8 f [.agg (rE b s left r t l n a)]))(m:Gr c a 1 (g.map T.str))(hl:g.length=h):
 Step d c (dT c d (dA 8 (f+1) [.agg (rE b th' left' se' tx' at2 lp' a)]))/\Mk j h (dT c d (dA 8 (f+1) [.agg (rE b th' left' se' tx' at2 lp' a)])) d b:=by
 obtain⟨i,o,p,q⟩:=AR e.ok e.fp k (cells':=rE b th' left' se' tx' at2 lp' a) (λu a=>by
  simp only[rE,ci,c8,or_false]at a;rcases a with rfl|rfl|rfl|rfl|rfl|rfl|rfl|rfl<;>first|exact .inr (.inl rfl)|exact .inl (by simp[rE])) _ rfl
 exact⟨i,⟨i.ok.hp,i.ok.low,aw _⟩,o,e.tp.eq (by rw[dI k,ao (bg e.ne)]),f+1,th',left',se',tx',at2,lp',a,g,p,q _ _ _ m dx,hl⟩
def SV.app{A:List Int}{n h p:Nat}{b:H}{d C v:Nat}{u x:T}{xs:List T}{q l2:List dJ}(W:SV h p b d v u q)(k:Mk A n b d C)(Z:h<=b.size)(Y:p<=b.size)(V:b.jg x=some xs)(G:iv (FT b (Nw h p b d u) (v+2)) xs (l2.map dJ.t))(P:∀i∈xs,i.cells.length=11)(S:xs≠ [])(ae:q.length+l2.length<=1000000):
 ∃z f,iO cx b 172 172 u x=some (.val z f)/\SV h f.size f d v z (q++l2)/\Mk A n f d C/\(∀o,Step d o b->o.size<=h->Step d o f)/\∀e,e<h->f.get e=b.get e:=by
 obtain⟨m,M,B,r⟩:=W;have l1:m.length=q.length:=by simpa using B.length
 have l3:xs.length=l2.length:=by simpa using G.length
 obtain⟨z,f,i,e,E,X,L,rfl,I,g,j,l⟩:=M.app (cx:=cx) k.ok yq rfl yo yq rfl rfl dt V P S du;have w:¬Fp b d e:=λF=>g.elim (λg=>(r e g).2.2 F) λg=>by have:=k.fp e F;omega
 have U:=l.sz;have R:h<=e:=g.elim (λg=>(r e g).1) λg=>by omega
 have Q:=H.ez I;have y:f.get d=b.get d:=j d (λr=>w (by rw[<-r];exact .inl rfl)) k.lt;have K:∀a,Nw h p b d u a->Nw h f.size f d (.arr e E 0 (m++xs).length false) a/\f.get a=b.get a:=λa c=>by
  have J:a≠e:=λi=>g.elim (λg=>c.2.2.2 (by rw[i];exact g)) λg=>by have:=c.2.1;omega
  exact⟨⟨c.1,by have:=c.2.1;omega,by rw[iJ y];exact c.2.2.1,by simp;exact bg J⟩,j a J (by have:=c.2.1;omega)⟩
 refine⟨_,f,i,⟨m++xs,.inr ⟨e,E,X,L,m++xs,rfl,I,aL⟩,?_,λa D=> ?_⟩,k.same ⟨l.hp,l.low,aw _⟩ U λa c=>j a (λi=>w (by rw[<-i];exact c)) (k.fp a c),λo s hl=>⟨⟨l.hp,l.low,by have:=s.ok.sz;omega⟩,λa N O=> ?_,λa c=>by rw[iJ y]at c;exact s.fp a c⟩,λa c=>j a dq dq⟩
 ·rw[List.map_append];exact(B.ft K).append (G.ft K)
 ·simp at D;subst D;exact⟨R,Q,by rw[iJ y];exact w⟩
 ·exact(j a dq (by have:=s.ok.sz;omega)).trans (s.get a N O)
def wd(a:Nat):Nat:=100*10^a
def Jy(a:Nat):wd (a+1)=10*wd a:=by unfold wd;rw[Nat.pow_succ];omega
def A6(a:Nat):100<=wd a:=by
 induction a with
 |zero=>decide
 |succ a b=>rw[Jy];omega
structure TN where
 (L:List Int) (m b n d cnt:Nat)
def We(a:TN)(c:H):Prop:=Mk a.L a.n c a.m a.b/\okB a.L/\a.d<=2/\a.n+a.d<=10/\a.cnt<=3
def Nk(a:TN)(i:List T)(f:H)(h:T)(c:H):Prop:=∃e,SV f.size c.size c a.m (2*a.d+2) h e/\(∀g∈e,MS g/\g.w<=wd a.d)/\e.length<=a.cnt/\Mk a.L a.n c a.m a.b/\Step a.m f c
def Ei(a:TN)(i:List T)(g:H)(h:T)(c:H):Prop:=∃f e,h= .agg f/\f.length=11/\FT c (Nw g.size c.size c a.m .ka) (2*a.d+4) h e.t/\MS e/\e.w<=wd a.d/\Mk a.L a.n c a.m a.b/\Step a.m g c
abbrev Ue(e:Nat):kH:=js TN (λa b c=>(b=[.ptr a.m 0 0 0,dy a.d,dy a.cnt]/\We a c)/\a.d<e) Nk
abbrev rMt(e:Nat):kH:=js TN (λa b c=>(b=[.ptr a.m 0 0 0,dy a.d]/\We a c)/\a.d<e) Ei
def Zd(k:Nat)(Z:(rMt k).Ok Tryz.prog cx 165):(Ue k).Ok Tryz.prog cx 118:=by
 refine jo (tb:=⟨pt [],ht [(165,rMt k)]⟩) ew ej (iQ 4194759 [] Tryz.func118) (λ_ _=>10) (λe a p W=>by obtain⟨⟨rfl,_⟩,_⟩:=W;simp[Tryz.f118]) ?_;rintro⟨A,f,B,Q,m,C⟩ _ p ⟨⟨rfl,v,G,K,N,b⟩,M⟩ h I;simp only at v G K N b M;simp at I;obtain⟨o,q,r⟩:=I;simp[Tryz.f118];refine yC C (λe h n=>∃u j,SV p.size n.size n f (2*m+2) u j/\(∀l∈j,MS l/\l.w<=wd m)/\j.length=e/\Mk A Q n f B/\Step f (hr p) n/\dB h 0 (.ptr f 0 0 0)/\dB h 1 (dy m)/\dB h 2 (dy C)/\dB h 7 u/\dB h 8 (dy e)) ?_ dq (k:=0) dq ⟨dz,[],SV.nil _ _ _ _ _,dt,rfl,v.hr,Step.refl v.ok.hr,by simp[o,q,r]⟩;rintro e h n a6 ⟨u,j,sv,hl,a7,y,z,o,q,r,E,F⟩;obtain⟨bs,bl,left,set,bn,aA,bk,bi,a8,D,aE,aX⟩:=y.ex;simp only[rE]at D;simp[o,r,F,D];refine dW (λL=> ?_) (λL=> ?_)
 ·simp at L;simp[o,q,E];refine gY Z dt ⟨A,f,B,Q,m,0⟩ ⟨⟨rfl,y,G,K,N,dt⟩,M⟩ ?_;rintro _ d ⟨c,l,rfl,J,ft,V,O,g,s⟩;simp only at ft O g s;have Y:=z.ok.sz;have P:=s.ok.sz;simp at Y;have an:=((sv.step s (au _)).step (Step.cons g.ok g.lt (dA 11 0 [.agg c])) P).wide (au _) P;have H:∀i,i<d.size->(d.cons (dA 11 0 [.agg c])).get i=d.get i:=λi b=>by rw[dP,ao dq]
  have U:FT (d.cons (dA 11 0 [.agg c])) (Nw p.size d.size (d.cons (dA 11 0 [.agg c])) f u) (2*m+4) (.agg c) l.t:=ft.mono λi b=>⟨⟨by have:=b.1;omega,b.2.1,by rw[iJ (H f g.lt)];exact b.2.2.1,sv.box λR=>by have:=b.1;omega⟩,H i b.2.1⟩;obtain⟨av,aN,S,ap,ae,al,_⟩:=an.app (g.cons (dA 11 0 [.agg c])) (x:= .arr d.size 0 0 1 false) (xs:=[.agg c]) (l2:=[l]) du dt (by rw[f7];simp) (.cons U .nil) (by simp[T.cells,J]) dt du;simp[o,q,r,F,S,J,il (show-9223372036854775808<=(e:Int)+1 by omega) (show(e:Int)+1<9223372036854775808 by omega)];exact⟨e+1,dq,dq,av,j++[l],ap,λx X=>(List.mem_append.1 X).elim (hl x) λR=>by rw[List.mem_singleton.1 R];exact⟨V,O⟩,du,ae,al _ ((z.trans s).trans (Step.cons g.ok g.lt _)) dt,dt⟩
 ·simp[E];exact⟨j,sv.out,hl,dw,y.out,z.out⟩
def Mk.held{s:List Int}{q:Nat}{c h:H}{a b f:Nat}{m left:Int}{l n g k:Bool}{p o:T}{j:List (List Nat)}{w:List Nat}(d:Mk s q c a b)(t:c.get a=some (dA 8 f [.agg (rE b m left l n g k p)]))(v:Gr c p 1 (j.map T.str))(hl:j.length=q)(x:Xt c p 1 ((j++[w]).map T.str) o h):
 h.get a=c.get a/\Step a c (dT h a (dA 8 (f+1) [.agg (rE b m left l n g k o)]))/\Mk s (q+1) (dT h a (dA 8 (f+1) [.agg (rE b m left l n g k o)])) a b:=by
 obtain⟨e,C⟩:=vX (i:=7) d.ok d.fp t (by simp[rE]) dx v x;obtain⟨r,y,A,_⟩:=C _ rfl;have u:=e.trans t;obtain⟨G,F,z,_⟩:=d.tp;refine⟨e,r,⟨r.ok.hp,r.ok.low,aw _⟩,y,d.tp.eq ?_,f+1,m,left,l,n,g,k,o,j++[w],(dI u _ a).trans (aq rfl),A,du⟩;rw[dI u,ao (bg d.ne)];refine x.2.1 b d.tp.lt λB=> ?_;obtain⟨D,f,E,I,e,_⟩:=v.box B;rw[z]at e;simp at e
def Mk.drop{p:List Int}{g:Nat}{b:H}{c a l:Nat}{i left:Int}{h j e f:Bool}{n d:T}{m:List (List Nat)}(k:Mk p (g+1) b c a)(q:b.get c=some (dA 8 l [.agg (rE a i left h j e f n)]))(hl:m.length=g+1)(r:Gr b d 1 ((m.map T.str).take g))(s:dO d=dO n):
 Step c b (dT b c (dA 8 (l+1) [.agg (rE a i left h j e f d)]))/\Mk p g (dT b c (dA 8 (l+1) [.agg (rE a i left h j e f d)])) c a:=by
 obtain⟨o,t,u,v⟩:=AR k.ok k.fp q (cells':=rE a i left h j e f d) (λw hm=>by
  simp only[rE,ci,c8,or_false]at hm;rcases hm with rfl|rfl|rfl|rfl|rfl|rfl|rfl|hm
  ·exact .inl (by simp[rE])
  iterate 6 exact .inr (.inl rfl)
  exact .inr (.inr ⟨n,by simp[rE],by rw[hm];exact s⟩)) _ rfl
 exact⟨o,⟨o.ok.hp,o.ok.low,aw _⟩,t,k.tp.eq (by rw[dI q,ao (bg k.ne)]),l+1,i,left,h,j,e,f,d,m.take g,u,by rw[List.map_take];exact v _ _ _ r dx,by rw[List.length_take];omega⟩
structure IBk where
 (L:List Int) (m b n d:Nat) (s:List Nat)
def YJ(a:IBk)(c:List T)(e:H):Prop:=c=[.ptr a.m 0 0 0,.str a.s,dy a.d]/\Mk a.L a.n e a.m a.b/\okB a.L/\a.d<=2/\a.n+a.d<=9
abbrev rBk(g:Nat):kH:=js IBk (λa c e=>YJ a c e/\a.d<g) (λa c e h f=>Nk ⟨a.L,a.m,a.b,a.n,a.d,2⟩ c e h f)
def aac(q:Nat)(aA:(Ue q).Ok Tryz.prog cx 118):(rBk q).Ok Tryz.prog cx 213:=by
 refine jo (tb:=⟨pt [],ht [(63,js yF ue qR),(118,Ue q)]⟩) ew ej (iQ 199 [] Tryz.func213) (λ_ _=>10) (λi a f av=>by obtain⟨⟨rfl,_⟩,_⟩:=av;simp[Tryz.f213]) ?_;rintro⟨P,d,Q,n,R,s⟩ _ f ⟨⟨rfl,t,p,B,an⟩,C⟩ bl A;simp only at t p B an C;simp at A;obtain⟨z,W,X⟩:=A;have g:=t.hr;obtain⟨N,L,left,set,M,x,G,F,E,b,c,hl⟩:=g.ex;obtain⟨a6,Y,k,j⟩:=c.mJ (cx:=cx) g.ok pS rfl vi rfl dt dt s du;obtain⟨I,w,e⟩:=g.held b c hl j;have m:=I.trans b;simp only[rE]at b m w e;have y:f.get d=_:=(f9 f d).symm.trans b;have bk:(d=f.size)=False:=by have:=t.lt;simp;omega
 rw[nq]at k;simp[Tryz.f213,z,W,X,y,k,m,dS,j.1.gJ,j.1.cells];generalize dT Y d _=a7 at*
 clear b y m I j k c g;obtain⟨N,L,left,set,M,x,G,F,E,b,c,hl⟩:=e.ex;simp only[rE]at b;simp[b];refine rk dt e.tp e.ok dq dq p λr a8 bi t2 aN=> ?_;obtain⟨aE,J⟩:=e.tape aN t2;have S:binop .add (dy 1) (dy r)=some (dy ((1+r:Nat):Int)):=by rw[il dq dq];simp
 simp[S];refine gY aA dt ⟨P,d,Q,n+1,R,1+r⟩ ⟨⟨dt,aE,p,B,dw,dw⟩,C⟩ ?_;rintro v Z ⟨l,sv,D,ap,u,K⟩;simp only at sv D ap u K;obtain⟨N,L,left,set,M,x,G,F,E,b,c,hl⟩:=u.ex;have V:=b;simp only[rE]at b;have al:=c.len (cx:=cx) Z Qr _ rfl;obtain⟨a6,U,o,ae⟩:=c.cut (cx:=cx) (ty:=Qr) rfl vi rfl (n:=n) du du;obtain⟨h,H⟩:=u.drop V hl o ae;have T:binop .sub (dy ((n:Int)+1)) (dy 1)=some (dy n):=by
  rw[tU,<-jn,ju dq dq];simp
 simp only[rE]at h H;simp[z,b,al,hl,T,U,dS,o.gJ,o.cells];have aX:=((w.trans J).trans K).trans h;have O:=(w.trans J).ok.sz;simp at O;exact⟨l,((sv.step h (au _)).wide O (by have:=h.ok.sz;simp)).out,D,dw,H.out,aX.out⟩
end
end Go.Proofs.YtmaeadedikngoaaGreatDoor
