/- Texts W08d to W01d. -/
import Derived.Test.YtmaeadedikngoaaGreatDoorA14
set_option linter.all false
set_option maxRecDepth 100000
set_option maxHeartbeats 8000000
namespace Go.Proofs.YtmaeadedikngoaaGreatDoor
noncomputable section
open Go Go.TI
attribute [-simp] List.map_take List.map_drop List.map_append fH fh ej Bool.not_or Bool.not_and
attribute [simp] fG fj
def rH:iq:=⟨ee,λa=>[a.t],λa=>a.ew.length<=1000000/\a.ei.length<=1000000/\a.dM.length<=1000000,λa=>(lj a).t,λc d b=>by simp at b;rw[ee.inj b]⟩
def yn(_:Unit):T:= .agg [dG (-1),dH]
def RD{b:H}{V:Nat->Prop}(a:Nat):iG (FT b V 2) ((List.replicate a ()).map yn) ((List.replicate a (⟨-1,[]⟩:eg)).map eg.t):=by
 induction a with
 |zero=>exact .nil
 |succ a c=>
  rw[dj,dj];exact .cons (.inr (.inr ⟨_,_,rfl,.cons (f9 ..) (.cons (jh ..) .nil),rfl⟩)) c
def Sy8(e:H)(Lk:List Unit)(a:List Bool)(Th:List dP):Prop:=∃f b c d,nS e 2 4 f [(b,some (2,Lk.map yn)),(dG (-1),none),(c,some (1,a.map T.bool)),(d,some (3,Th.map dP.t))]
def vq:iY:=(dI 4 0 [.agg [dH,dG 0,dH,dH]])
def Mj:rH.Ok Tryz.prog cx 73:=by
 refine iC (tb:=⟨pt [],ht []⟩) fc fa (je 9071038046463 [] Tryz.func73) (λ_=>1000005) (by simp[rH]) (by simp[rH,Tryz.f73]) ?_;rintro(w:ee) ⟨hl,U,ht⟩ b N;simp[rH]at N|-;simp[Tryz.f73,N];refine fI w.ew.length dB (λc b h=>Sy8 h (List.replicate c ()) [] []/\Lb 2 h 0 (dI 6 0 [w.t])/\Lb 2 h 1 vq/\dJ b 1 (.ptr 0 0 0 0)/\dJ b 2 (.ptr 1 0 0 0)/\dJ b 3 (.ptr 2 0 0 0)/\dJ b 4 (dG c)) ?_ ?_ dB ?_
 ·rintro c b h A z ⟨⟨ver,s,u,v,a⟩,e,k,j,n,o,p⟩;have m:=a.get;simp at m;obtain⟨L,C,r,i⟩:=(a.gr 0 rfl).nq (cx:=cx) (f:=yn) a.ok J8 rfl Ge rfl dC (λ_=>rfl) () dD;obtain⟨q,J,x⟩:=a.app 0 rfl i;obtain⟨g,l⟩:=x _ rfl;simp only[<-List.replicate_succ']at l;simp[-List.map_replicate]at q g l;simp only[yn]at r;simp[j,n,o,p,A,e.get,m,r,q,ed,i.1.im,i.1.cells,z];exact⟨⟨_,_,_,_,l⟩,e.step g,k.step g⟩
 ·rintro b h ⟨⟨ver,s,u,v,a⟩,e,k,j,n,o,p⟩;simp[j,p,e.get];refine fI w.ei.length dB (λc b h=>Sy8 h (List.replicate w.ew.length ()) (List.replicate c false) []/\Lb 2 h 0 (dI 6 0 [w.t])/\Lb 2 h 1 vq/\dJ b 1 (.ptr 0 0 0 0)/\dJ b 2 (.ptr 1 0 0 0)/\dJ b 3 (.ptr 2 0 0 0)/\dJ b 5 (dG c)) ?_ ?_ dB ⟨⟨_,_,_,_,a⟩,e,k,by simp[j,n,o]⟩
  ·rintro c b h A z ⟨⟨ver,s,u,v,a⟩,e,k,j,n,o,p⟩;have m:=a.get;simp at m;obtain⟨L,C,r,i⟩:=(a.gr 2 rfl).nq (cx:=cx) (f:=T.bool) a.ok Gd rfl P7 rfl dC dC false dD;obtain⟨q,J,x⟩:=a.app 2 rfl i;obtain⟨g,l⟩:=x _ rfl;simp only[<-List.replicate_succ']at l;simp[-List.map_replicate]at q g l;simp[j,n,o,p,A,e.get,m,r,q,ed,i.1.im,i.1.cells,z];exact⟨⟨_,_,_,_,l⟩,e.step g,k.step g⟩
  ·rintro b h ⟨⟨ver,s,u,v,a⟩,e,k,j,n,o,p⟩;simp[j,p,e.get];refine fI w.dM.length dB (λc b h=>Sy8 h (List.replicate w.ew.length ()) (List.replicate w.ei.length false) ((List.range c).map λc=>(⟨if c=0 then 1 else 0,0,false⟩:dP))/\Lb 2 h 0 (dI 6 0 [w.t])/\Lb 2 h 1 vq/\dJ b 1 (.ptr 0 0 0 0)/\dJ b 2 (.ptr 1 0 0 0)/\dJ b 3 (.ptr 2 0 0 0)/\dJ b 6 (dG c)) ?_ ?_ dB ⟨⟨_,_,_,_,a⟩,e,k,by simp[j,n,o]⟩
   ·rintro c b h A z ⟨⟨ver,s,u,v,a⟩,e,k,j,n,o,p⟩;have m:=a.get;simp at m;have W:(0=h.size)=False:=by have:=a.lt;simp;omega
    have O:(2=h.size)=False:=by have:=a.lt;simp;omega
    by_cases D:c=0
    ·subst D;have Q:binop .add (dG 0) (dG 1)=some (dG 1):=by simpa using z
     have y:=a.cons (dI 3 2 [dP.t ⟨1,0,false⟩]);have B:=Step.cons a.ok a.lt (dI 3 2 [dP.t ⟨1,0,false⟩]);have E:=e.step B;have H:=k.step B;obtain⟨L,C,r,i⟩:=(y.gr 3 rfl).nq (cx:=cx) (f:=dP.t) y.ok CX rfl Br rfl dC (λ_=>rfl) (⟨1,0,false⟩:dP) dC;obtain⟨q,J,x⟩:=y.app 3 rfl i;obtain⟨g,l⟩:=x _ rfl;simp only[aT,cB,df,cQ]at q g l;rw[size_cons]at r;simp[j,n,o,p,A,e.get,m,O,a.ok.low,r,q,ed,i.1.im,i.1.cells,Q];exact⟨⟨_,_,_,_,l⟩,E.step g,H.step g⟩
    ·skip
     have y:=a.cons (dI 3 1 [dP.t ⟨0,0,false⟩]);have B:=Step.cons a.ok a.lt (dI 3 1 [dP.t ⟨0,0,false⟩]);have E:=e.step B;have H:=k.step B;obtain⟨L,C,r,i⟩:=(y.gr 3 rfl).nq (cx:=cx) (f:=dP.t) y.ok CX rfl Br rfl dC (λ_=>rfl) (⟨0,0,false⟩:dP) dD;obtain⟨q,J,x⟩:=y.app 3 rfl i;obtain⟨g,l⟩:=x _ rfl;simp only[aT,cB,df,cQ]at q g l;rw[size_cons]at r;simp[j,n,o,p,D,A,e.get,m,O,a.ok.low,r,q,ed,i.1.im,i.1.cells,z];have hr:(List.range (c+1)).map (λc=>(⟨if c=0 then 1 else 0,0,false⟩:dP))=(List.range c).map (λc=>(⟨if c=0 then 1 else 0,0,false⟩:dP))++[⟨0,0,false⟩]:=by
      rw[List.range_succ,List.map_append];simp[D]
     rw[hr];exact⟨⟨_,_,_,_,l⟩,E.step g,H.step g⟩
   ·rintro b h ⟨⟨ver,s,u,v,a⟩,e,k,j,n,o,p⟩;have m:=a.get;simp at m;have G:=k.get;unfold vq at G;have K:=a.sk k (dI 4 1 [.agg [s,dG (-1),u,v]]);have R:(d8 h 1 (dI 4 1 [.agg [s,dG (-1),u,v]])).get 1=_:=(dQ G _ 1).trans (aq rfl);have P:=(K.gr 0 rfl).H6 (d:=2) dB (RD (V:=λ_=>True) w.ew.length);simp[j,n,o,p,e.get,m,G,ed,R,P,(K.gr 2 rfl).fz dC,(K.gr 3 rfl).fz dC,-List.map_replicate];exact⟨a.ok.hp,by unfold lj fK.t fK.cs;simp[List.map_const',-List.map_replicate]⟩
 ·obtain⟨S,M⟩:=nS.start (h:=((hE.cons (dI 6 0 [w.t])).cons vq).cons (dI 4 1 [.agg [dH,dG (-1),dH,dH]])) (w:=2) (szw:=4) (ver:=1) (F:=[(dH,some (2,[])),(dG (-1),none),(dH,some (1,[])),(dH,some (3,[]))]) ⟨dC,dC,dC⟩ (by simp[vq]) dC;exact⟨⟨_,_,_,_,S⟩,⟨dC,λI=>absurd (M 0 I) dF⟩,⟨by simp[vq],λI=>absurd (M 1 I) dF⟩,dC⟩
def Ip{b:fN}(ht:b.p 73=some rH)(a:ee)(c:a.ew.length<=1000000)(d:a.ei.length<=1000000)(e:a.dM.length<=1000000):rl Tryz.prog cx b 73 [a.t]=some (lj a).t:=iv ht Mj a ⟨c,d,e⟩
def aeM(f:H)(a:fK)(b c:Nat)(d:List Int):Prop:=∃g e,nS f 4 7 g [(sl (a.ew.map eg.t),none),(dG a.tx,none),(sl (a.done.map T.bool),none),(sl (a.dM.map dP.t),none),(e,some (1,d.map (T.int .i64))),(.arr 2 0 0 b false,some (1,(List.replicate b 0).map (T.int .i64))),(.arr 3 0 0 c false,some (1,(List.replicate c 0).map (T.int .i64)))]
def nC:iY:=(dI 7 0 [.agg [dH,dG 0,dH,dH,dH,dH,dH]])
def oG:iq:=⟨ee,λa=>[a.t],λa=>a.ew.length<=1000000/\a.ei.length<=1000000/\a.dM.length<=1000000/\a.cells.length<=1000000,λa=>(jT a).t,λc d b=>by simp at b;rw[ee.inj b]⟩
def Mi:oG.Ok Tryz.prog cx 41:=by
 refine iC (tb:=⟨pt [(73,rH)],ht []⟩) fc fa (je 1048607 [(1,[(1,3),(1,5),(1,7),(1,9),(1,11)])] Tryz.func41) (λ_=>1000005) (by simp[oG]) (by simp[oG,Tryz.f41]) ?_;rintro(a:ee) ⟨hl,q,ht,F⟩ h e;simp[oG]at e|-;have M:a.ei.length*8<=70368744177664:=dB;have N:a.dM.length*8<=70368744177664:=dB;simp[Tryz.f41,e,Ip,hl,q,ht,M,N];have R:(jT a).t=eG.t ⟨lj a,a.cells.map ig.j7,List.replicate a.ei.length 0,List.replicate a.dM.length 0⟩:=by
  unfold jT;simp only[List.map_const']
 rw[R];generalize lj a=b at*
 refine fI a.cells.length dB (λm h i=>∃j,aeM i b a.ei.length a.dM.length j/\j.length=m/\j=(a.cells.take m).map ig.j7/\Lb 4 i 0 (dI 6 0 [a.t])/\Lb 4 i 1 nC/\dJ h 1 (.ptr 0 0 0 0)/\dJ h 2 (.ptr 1 0 0 0)/\dJ h 3 (.ptr 4 0 0 0)/\dJ h 4 (dG m)) ?_ ?_ dB ?_
 ·rintro m h i G S ⟨j,⟨X,c,d⟩,Q,p,r,s,n,o,w,y⟩;have l:=d.get;simp at l;obtain⟨ap,al,O,E⟩:=(d.gr 4 rfl).nq (cx:=cx) (f:=T.int .i64) d.ok oR rfl yT rfl dC (λ_=>rfl) a.cells[m].j7 dD;obtain⟨u,an,B⟩:=d.app 4 rfl E;obtain⟨D,K⟩:=B _ rfl;simp only[aT,cB,df,cQ]at u D K;simp[n,o,w,y,G,r.get,l,O,u,ed,E.1.im,E.1.cells,S];exact⟨_,⟨_,_,K⟩,dD,by rw[p,aW G,List.map_append];rfl,r.step D,s.step D⟩
 ·rintro h i ⟨j,⟨X,c,d⟩,Q,p,r,s,n,o,w,y⟩;rw[aL]at p;subst p;have l:=d.get;simp at l;have z:=s.get;unfold nC at z;have C:=d.sk s (dI 7 1 [.agg [sl (b.ew.map eg.t),dG b.tx,sl (b.done.map T.bool),sl (b.dM.map dP.t),c,.arr 2 0 0 a.ei.length false,.arr 3 0 0 a.dM.length false]]);have P:(d8 i 1 (dI 7 1 [.agg [sl (b.ew.map eg.t),dG b.tx,sl (b.done.map T.bool),sl (b.dM.map dP.t),c,.arr 2 0 0 a.ei.length false,.arr 3 0 0 a.dM.length false]])).get 1=_:=(dQ z _ 1).trans (aq rfl);have Y:=(C.gr 4 rfl).fz dC;have Z:=(C.gr 5 rfl).fz dC;have ae:=(C.gr 6 rfl).fz dC;simp[n,o,w,y,r.get,l,z,ed,P,Y,Z,ae,-List.map_replicate,-vZ];exact⟨d.ok.hp,by unfold eG.t eG.cs;simp[-List.map_replicate]⟩
 ·have J:∀(g:Nat) (k:T×aa (Nat×List T)),([(sl (b.ew.map eg.t),none),(dG b.tx,none),(sl (b.done.map T.bool),none),(sl (b.dM.map dP.t),none),(dH,some (1,[])),(.arr 2 0 0 a.ei.length false,some (1,(List.replicate a.ei.length 0).map (T.int .i64))),(.arr 3 0 0 a.dM.length false,some (1,(List.replicate a.dM.length 0).map (T.int .i64)))]:List (T×aa (Nat×List T)))[g]? =some k->∀c,dU k.1=some c->c+3=g:=by
   intro g k e c F;rcases g with _|_|_|_|_|_|_|g<;>simp at e<;>subst e<;>simp at F<;>omega
  refine⟨[],⟨1,dH,⟨dC,dC,dC⟩,dC,λf q=> ?_,λg W V k L e U c u B=>V ?_⟩,rfl,dC,⟨dC,?_⟩,⟨by simp[nC],?_⟩,dC⟩
  ·simp only[cw,dh,or_false,cB]at q;rcases q with rfl|rfl|rfl|rfl|rfl|rfl|rfl
   iterate 4 (show dU _=none;simp)
   ·exact⟨Gr.nil _ _,dF⟩
   ·exact⟨.inr ⟨2,0,0,true,_,dC,by simp;rfl,dC⟩,show(1:Nat)≠7 by decide⟩
   ·exact⟨.inr ⟨3,0,0,true,_,dC,by simp;rfl,dC⟩,show(1:Nat)≠7 by decide⟩
  ·have n:=J g k e c u;have o:=J W L U c B;omega
  all_goals
   rintro(A|⟨x,I,v,H,A⟩)
   ·simp at A
   ·simp at I;subst I;simp[fx,T.cells]at H;rcases H with rfl|rfl|rfl|rfl|rfl|rfl|rfl<;>simp at A
def C2{b:fN}(ht:b.p 41=some oG)(a:ee)(c:a.ew.length<=1000000)(d:a.ei.length<=1000000)(e:a.dM.length<=1000000)(f:a.cells.length<=1000000):rl Tryz.prog cx b 41 [a.t]=some (jT a).t:=iv ht Mi a ⟨c,d,e,f⟩
end
noncomputable section
open Go Go.TI
inductive dX where
 |mk (op n:Int) (name:List Nat) (l:List dX)
instance :Inhabited dX:=⟨⟨0,0,[],[]⟩⟩
def dX.op:dX->Int|⟨a,_,_,_⟩=>a
def dX.n:dX->Int|⟨_,a,_,_⟩=>a
def dX.name:dX->List Nat|⟨_,_,a,_⟩=>a
def dX.l:dX->List dX|⟨_,_,_,a⟩=>a
@[simp] theorem dX.vN (a b:Int) (c:List Nat) (d:List dX):(dX.mk a b c d).op=a:=id rfl
@[simp] theorem dX.Fs (a b:Int) (c:List Nat) (d:List dX):(dX.mk a b c d).n=b:=id rfl
@[simp] theorem dX.oL (a b:Int) (c:List Nat) (d:List dX):(dX.mk a b c d).name=c:=id rfl
@[simp] theorem dX.Fw (a b:Int) (c:List Nat) (d:List dX):(dX.mk a b c d).l=d:=id rfl
def dX.lt{e c:dX}(h:c∈e.l):SizeOf.sizeOf c<SizeOf.sizeOf e:=by
 cases e with
 |mk n k m j=>have:=List.sizeOf_lt_of_mem (show c∈j from h);simp;omega
mutual
def dX.t:dX->T
 |⟨a,b,c,j⟩=> .agg [dG a,dG b,.str c,sl (dX.ts j)]
def dX.ts:List dX->List T
 | []=>[]
 |x::j=>x.t::dX.ts j
end
def dX.Ee:∀j:List dX,dX.ts j=j.map dX.t
 | []=>by rw[dX.ts];rfl
 |x::k=>by rw[dX.ts,dX.Ee k];rfl
def dX.nD(x:dX):x.t= .agg [dG x.op,dG x.n,.str x.name,sl (x.l.map dX.t)]:=by
 cases x;rw[dX.t,dX.Ee];rfl
def vP{l k:Type}{f:l->k}{g:k->k}{j:List l}(h:∀x∈j,g (f x)=f x):(j.map f).map g=j.map f:=by
 rw[cM];exact List.map_congr_left h
def p8{m r:Type}{f:m->r}:∀{k j:List m},(∀a∈k,∀b,f a=f b->a=b)->k.map f=j.map f->k=j:=by
 intro k;induction k with
 |nil=>intro j _ h;cases j<;>simp at h;rfl
 |cons x k p=>
  intro j l h;cases j with
  |nil=>simp at h
  |cons q j=>
   simp only[aT,aK]at h;rw[l x dC q h.1,p (λa n b o=>l a (by simp[n]) b o) h.2]
def ue{k:Type}{f:k->T}{j:List k}(h:∀x∈j,mW (f x)=true):mJ (j.map f)=true:=by
 induction j with
 |nil=>simp
 |cons x j m=>simp[h x dC,m λn l=>h n (by simp[l])]
section
variable (x:dX)(h:H)(d:Nat)
@[simp] theorem dX.S7:x.t.cells=[dG x.op,dG x.n,.str x.name,sl (x.l.map dX.t)]:=by rw[dX.nD];rfl
@[simp] theorem dX.abo:Lh x.t=4:=by rw[dX.nD];rfl
@[simp] theorem dX.V8:x.t.im=true:=by rw[dX.nD];rfl
def dX.Qf:∀(j:Nat) (x:dX),SizeOf.sizeOf x<=j->cn x.t=x.t:=by
 intro j;induction j with
 |zero=>intro x k;cases x;simp at k
 |succ j m=>
  intro x k;rw[dX.nD];simp only[jS,aT,cB,Gj,Gi,Lj];rw[vP λc l=>m c (by have:=dX.lt l;omega)]
@[simp] theorem dX.WF:cn x.t=x.t:=dX.Qf _ x (au _)
@[simp] theorem dX.abc:rn h x.t=some x.t:=by rw[dX.nD];simp
@[simp] theorem dX.abe:xh h (d+2) x.t=some x.t:=by rw[dX.nD];simp
@[simp] theorem dX.Vf:jW x.t=true:=by rw[dX.nD];simp
def dX.JA:∀(j:Nat) (x:dX),SizeOf.sizeOf x<=j->mW x.t=true:=by
 intro j;induction j with
 |zero=>intro x k;cases x;simp at k
 |succ j m=>
  intro x k;rw[dX.nD];simp only[HE,Ck,HD,HC,K3,EF];rw[ue λc l=>m c (by have:=dX.lt l;omega)];rfl
@[simp] theorem dX.Px:mW x.t=true:=dX.JA _ x (au _)
end
def dX.V6:∀(l:Nat) (x j:dX),SizeOf.sizeOf x<=l->x.t=j.t->x=j:=by
 intro l;induction l with
 |zero=>intro x j p;cases x;simp at p
 |succ l s=>
  intro x j p h;rw[x.nD,j.nD]at h;simp only[T.agg.injEq,aK,T.int.injEq,T.str.injEq,true_and,and_true]at h;obtain⟨m,n,o,k⟩:=h;have k:=p8 (λa q b r=>s a b (by have:=dX.lt q;omega) r) (zm k);obtain⟨a,b,c,d⟩:=x;obtain⟨u,v,w,y⟩:=j;simp only[dX.vN,dX.Fs,dX.oL,dX.Fw]at m n o k;rw[m,n,o,k]
def dX.inj{x j:dX}(h:x.t=j.t):x=j:=dX.V6 _ x j (au _) h
@[simp] theorem dX.fold (a b:Int) (c:List Nat) (j:List dX):T.agg [dG a,dG b,.str c,sl (j.map dX.t)]=(dX.mk a b c j).t:=by rw[dX.nD];rfl
@[simp] theorem dX.eta (x:dX):dX.mk x.op x.n x.name x.l=x:=by cases x;rfl
inductive dR where
 |mk (op uL:Int) (name arg:List Nat) (index:List dX) (e:dX) (body MW:List dR)
instance :Inhabited dR:=⟨⟨0,0,[],[],[],default,[],[]⟩⟩
def dR.op:dR->Int|⟨a,_,_,_,_,_,_,_⟩=>a
def dR.uL:dR->Int|⟨_,a,_,_,_,_,_,_⟩=>a
def dR.name:dR->List Nat|⟨_,_,a,_,_,_,_,_⟩=>a
def dR.arg:dR->List Nat|⟨_,_,_,a,_,_,_,_⟩=>a
def dR.index:dR->List dX|⟨_,_,_,_,a,_,_,_⟩=>a
def dR.e:dR->dX|⟨_,_,_,_,_,a,_,_⟩=>a
def dR.body:dR->List dR|⟨_,_,_,_,_,_,a,_⟩=>a
def dR.MW:dR->List dR|⟨_,_,_,_,_,_,_,a⟩=>a
section
variable (a b:Int)(c d:List Nat)(i:List dX)(e:dX)(f g:List dR)
@[simp] theorem dR.vN:(dR.mk a b c d i e f g).op=a:=id rfl
@[simp] theorem dR.Sj:(dR.mk a b c d i e f g).uL=b:=id rfl
@[simp] theorem dR.oL:(dR.mk a b c d i e f g).name=c:=id rfl
@[simp] theorem dR.Xi:(dR.mk a b c d i e f g).arg=d:=id rfl
@[simp] theorem dR.rV:(dR.mk a b c d i e f g).index=i:=id rfl
@[simp] theorem dR.JX:(dR.mk a b c d i e f g).e=e:=id rfl
@[simp] theorem dR.uU:(dR.mk a b c d i e f g).body=f:=id rfl
@[simp] theorem dR.xV:(dR.mk a b c d i e f g).MW=g:=id rfl
end
def dR.ltB{j c:dR}(h:c∈j.body):SizeOf.sizeOf c<SizeOf.sizeOf j:=by
 cases j with
 |mk a b k d i e f g=>have:=List.sizeOf_lt_of_mem (show c∈f from h);simp;omega
def dR.ltE{j c:dR}(h:c∈j.MW):SizeOf.sizeOf c<SizeOf.sizeOf j:=by
 cases j with
 |mk a b k d i e f g=>have:=List.sizeOf_lt_of_mem (show c∈g from h);simp;omega
mutual
def dR.t:dR->T
 |⟨a,b,c,d,i,e,f,g⟩=> .agg [dG a,dG b,.str c,.str d,sl (i.map dX.t),dG e.op,dG e.n,.str e.name,sl (e.l.map dX.t),sl (dR.ts f),sl (dR.ts g)]
def dR.ts:List dR->List T
 | []=>[]
 |x::j=>x.t::dR.ts j
end
def dR.Ee:∀j:List dR,dR.ts j=j.map dR.t
 | []=>by rw[dR.ts];rfl
 |x::k=>by rw[dR.ts,dR.Ee k];rfl
def dR.cs(x:dR):List T:=[dG x.op,dG x.uL,.str x.name,.str x.arg,sl (x.index.map dX.t),dG x.e.op,dG x.e.n,.str x.e.name,sl (x.e.l.map dX.t),sl (x.body.map dR.t),sl (x.MW.map dR.t)]
def dR.nD(x:dR):x.t= .agg x.cs:=by
 cases x;rw[dR.t,dR.Ee,dR.Ee];rfl
section
variable (x:dR)(h:H)(d:Nat)
@[simp] theorem dR.S7:x.t.cells=[dG x.op,dG x.uL,.str x.name,.str x.arg,sl (x.index.map dX.t),dG x.e.op,dG x.e.n,.str x.e.name,sl (x.e.l.map dX.t),sl (x.body.map dR.t),sl (x.MW.map dR.t)]:=by rw[dR.nD];rfl
@[simp] theorem dR.abo:Lh x.t=11:=by rw[dR.nD];rfl
@[simp] theorem dR.V8:x.t.im=true:=by rw[dR.nD];rfl
def dR.Qf:∀(j:Nat) (x:dR),SizeOf.sizeOf x<=j->cn x.t=x.t:=by
 intro j;induction j with
 |zero=>intro x l;cases x;simp at l
 |succ j m=>
  intro x l;rw[dR.nD];unfold dR.cs;simp only[jS,aT,cB,Gj,Gi,Lj];rw[vP λc k=>m c (by have:=dR.ltB k;omega),vP λc k=>m c (by have:=dR.ltE k;omega),vP λc _=>dX.WF c,vP λc _=>dX.WF c]
@[simp] theorem dR.WF:cn x.t=x.t:=dR.Qf _ x (au _)
@[simp] theorem dR.abc:rn h x.t=some x.t:=by rw[dR.nD];unfold dR.cs;simp
@[simp] theorem dR.abe:xh h (d+2) x.t=some x.t:=by rw[dR.nD];unfold dR.cs;simp
@[simp] theorem dR.Vf:jW x.t=true:=by rw[dR.nD];unfold dR.cs;simp
def dR.JA:∀(j:Nat) (x:dR),SizeOf.sizeOf x<=j->mW x.t=true:=by
 intro j;induction j with
 |zero=>intro x l;cases x;simp at l
 |succ j m=>
  intro x l;rw[dR.nD];unfold dR.cs;simp only[HE,Ck,HD,HC,K3,EF];rw[ue λc k=>m c (by have:=dR.ltB k;omega),ue λc k=>m c (by have:=dR.ltE k;omega),ue λc _=>dX.Px c,ue λc _=>dX.Px c];rfl
@[simp] theorem dR.Px:mW x.t=true:=dR.JA _ x (au _)
end
def dR.V6:∀(p:Nat) (x k:dR),SizeOf.sizeOf x<=p->x.t=k.t->x=k:=by
 intro p;induction p with
 |zero=>intro x k B;cases x;simp at B
 |succ p C=>
  intro x k B h;rw[x.nD,k.nD]at h;unfold dR.cs at h;simp only[T.agg.injEq,aK,T.int.injEq,T.str.injEq,true_and,and_true]at h;obtain⟨w,y,z,A,n,q,r,s,l,o,m⟩:=h;have n:=p8 (λa _ b j=>dX.inj j) (zm n);have l:=p8 (λa _ b j=>dX.inj j) (zm l);have o:=p8 (λa u b j=>C a b (by have:=dR.ltB u;omega) j) (zm o);have m:=p8 (λa u b j=>C a b (by have:=dR.ltE u;omega) j) (zm m);obtain⟨a,b,c,d,i,e,f,g⟩:=x;obtain⟨E,F,G,I,L,v,J,K⟩:=k;simp only[dR.vN,dR.Sj,dR.oL,dR.Xi,dR.rV,dR.JX,dR.uU,dR.xV]at w y z A n q r s l o m;have D:e=v:=by
   obtain⟨M,O,Q,S⟩:=e;obtain⟨N,P,R,U⟩:=v;simp only[dX.vN,dX.Fs,dX.oL,dX.Fw]at q r s l;rw[q,r,s,l]
  rw[w,y,z,A,n,D,o,m]
def dR.inj{x j:dR}(h:x.t=j.t):x=j:=dR.V6 _ x j (au _) h
@[simp] theorem dR.fold (a b:Int) (c e:List Nat) (i:List dX) (m l:Int) (k:List Nat) (j:List dX) (f g:List dR):T.agg [dG a,dG b,.str c,.str e,sl (i.map dX.t),dG m,dG l,.str k,sl (j.map dX.t),sl (f.map dR.t),sl (g.map dR.t)]=(dR.mk a b c e i ⟨m,l,k,j⟩ f g).t:=by rw[dR.nD];rfl
@[simp] theorem dR.eta (x:dR):dR.mk x.op x.uL x.name x.arg x.index x.e x.body x.MW=x:=by cases x;rfl
end
noncomputable section
open Go Go.TI
structure fT where
 name:List Nat
 uL:Int
 locals:List (List Nat)
 body:List dR
 deriving Inhabited
def fT.cs(a:fT):List T:=[.str a.name,dG a.uL,sl (a.locals.map T.str),sl (a.body.map dR.t)]
def fT.t(a:fT):T:= .agg a.cs
@[simp] theorem fT.ag (a:fT):qZ a.t [.str a.name,dG a.uL,sl (a.locals.map T.str),sl (a.body.map dR.t)] 4:=by
 unfold fT.t fT.cs;exact⟨rfl,rfl,λ_ _=>rfl,rfl,by simp[jS],λ_=>by simp,λ_ _=>by simp,dC,dC⟩
@[simp] theorem fT.fold (a0:List Nat) (a1:Int) (a2:List (List Nat)) (a3:List dR):T.agg [.str a0,dG a1,sl (a2.map T.str),sl (a3.map dR.t)]=fT.t ⟨a0,a1,a2,a3⟩:=rfl
@[simp] theorem fT.eta (a:fT):fT.mk a.name a.uL a.locals a.body=a:=rfl
def fT.inj{a b:fT}(c:a.t=b.t):a=b:=by
 rcases a with⟨_,_,_,_⟩;rcases b with⟨_,_,_,_⟩;simp only[fT.t,fT.cs,T.agg.injEq,aK]at c;obtain⟨d,e,f,g,_⟩:=c;obtain rfl:=mP d;obtain rfl:=io e;obtain rfl:=iA (λ_ _=>mP) _ _ f;obtain rfl:=iA (λ_ _=>dR.inj) _ _ g;rfl
structure fM where
 jo:List iw
 dM:List fT
 deriving Inhabited
def fM.cs(a:fM):List T:=[sl (a.jo.map iw.t),sl (a.dM.map fT.t)]
def fM.t(a:fM):T:= .agg a.cs
@[simp] theorem fM.ag (a:fM):qZ a.t [sl (a.jo.map iw.t),sl (a.dM.map fT.t)] 2:=by
 unfold fM.t fM.cs;exact⟨rfl,rfl,λ_ _=>rfl,rfl,by simp[jS],λ_=>by simp,λ_ _=>by simp,dC,dC⟩
@[simp] theorem fM.fold (a0:List iw) (a1:List fT):T.agg [sl (a0.map iw.t),sl (a1.map fT.t)]=fM.t ⟨a0,a1⟩:=rfl
@[simp] theorem fM.eta (a:fM):fM.mk a.jo a.dM=a:=rfl
def fM.inj{a b:fM}(c:a.t=b.t):a=b:=by
 rcases a with⟨_,_⟩;rcases b with⟨_,_⟩;simp only[fM.t,fM.cs,T.agg.injEq,aK]at c;obtain⟨d,e,_⟩:=c;obtain rfl:=iA (λ_ _=>iw.inj) _ _ d;obtain rfl:=iA (λ_ _=>fT.inj) _ _ e;rfl
mutual
def dX.w:dX->Nat
 |⟨_,_,_,a⟩=>1+dX.ws a
def dX.ws:List dX->Nat
 | []=>0
 |x::a=>x.w+dX.ws a
end
def dX.lr(a:dX):a.w=1+dX.ws a.l:=by cases a;rw[dX.w];rfl
def dX.iQ:dX.ws []=0:=by rw[dX.ws]
def dX.j9(b:dX)(a:List dX):dX.ws (b::a)=b.w+dX.ws a:=by rw[dX.ws]
def dX.vn{b:dX}{a:List dX}(h:b∈a):b.w<=dX.ws a:=by
 induction a with
 |nil=>simp at h
 |cons d a c=>
  rw[dX.j9];rcases List.mem_cons.1 h with rfl|h
  ·omega
  ·have:=c h;omega
def dX.uN{l:List dX}:l.length<=dX.ws l:=by
 induction l with
 |nil=>simp
 |cons a l b=>rw[dX.j9,bh,a.lr];omega
mutual
def dR.w:dR->Nat
 |⟨_,_,_,_,c,b,a,d⟩=>4+dX.ws c+b.w+dR.ws a+dR.ws d
def dR.ws:List dR->Nat
 | []=>0
 |x::a=>x.w+dR.ws a
end
def dR.lr(a:dR):a.w=4+dX.ws a.index+a.e.w+dR.ws a.body+dR.ws a.MW:=by cases a;rw[dR.w];rfl
def dR.iQ:dR.ws []=0:=by rw[dR.ws]
def dR.j9(b:dR)(a:List dR):dR.ws (b::a)=b.w+dR.ws a:=by rw[dR.ws]
def dR.II(a b:List dR):dR.ws (a++b)=dR.ws a+dR.ws b:=by
 induction a with
 |nil=>rw[cz,dR.iQ];omega
 |cons d a c=>rw[co,dR.j9,dR.j9,c];omega
def dR.vn{b:dR}{a:List dR}(h:b∈a):b.w<=dR.ws a:=by
 induction a with
 |nil=>simp at h
 |cons d a c=>
  rw[dR.j9];rcases List.mem_cons.1 h with rfl|h
  ·omega
  ·have:=c h;omega
def dR.uN{l:List dR}:l.length<=dR.ws l:=by
 induction l with
 |nil=>simp
 |cons a l b=>rw[dR.j9,bh,a.lr];omega
inductive ME:dX->Prop
 |num (n:Int):ME ⟨1,n,[],[]⟩
 |nm (s:List Nat):ME ⟨2,0,s,[]⟩
 |ix {a:dX} (h:ME a):ME ⟨3,0,[113],[a]⟩
 |bin {k:Int} {a b:dX} (hk:6<=k) (ha:ME a) (hb:ME b):ME ⟨k,0,[],[a,b]⟩
inductive MS:dR->Prop
 |mk {s:dR} (c:9<=s.op/\s.op<=11->s.name=[99]) (q:s.op=1->s.index≠ []->s.name=[113]) (i:∀x∈s.index,ME x) (e:s.op=1\/s.op=2\/s.op=3\/s.op=14->ME s.e) (b:∀c∈s.body,MS c) (l:∀c∈s.MW,MS c):MS s
def MS.cond{a:dR}(b:MS a):9<=a.op/\a.op<=11->a.name=[99]:=by cases b;assumption
def MS.arr{a:dR}(b:MS a):a.op=1->a.index≠ []->a.name=[113]:=by cases b;assumption
def MS.ind{a:dR}(b:MS a):∀c∈a.index,ME c:=by cases b;assumption
def MS.ex{a:dR}(b:MS a):a.op=1\/a.op=2\/a.op=3\/a.op=14->ME a.e:=by cases b;assumption
def MS.bd{a:dR}(c:MS a):∀b∈a.body,MS b:=by cases c;assumption
def MS.el{a:dR}(c:MS a):∀b∈a.MW,MS b:=by cases c;assumption
def dR.E3(b:List dR){a:Nat}(c:a<b.length):dR.ws (b.take (a+1))=dR.ws (b.take a)+b[a].w:=by
 rw[aW c,dR.II,dR.j9,dR.iQ];rfl
def dR.xw(a:List dR)(b:Nat):dR.ws (a.take b)<=dR.ws a:=by
 conv=>rhs;rw[<-cR b a]
 rw[dR.II];omega
def allI{b:Type}(a:Nat->b->Bool):Nat->List b->Bool
 |_,[]=>true
 |k,d::c=>a k d&&allI a (k+1) c
def uM(a:Nat):Bool:=decide (97<=a/\a<=122)||decide (65<=a/\a<=90)
def CV(a:Nat):Bool:=decide (48<=a/\a<=57)
def vY(a:Nat):Bool:=uM a||CV a||decide (a=95)
def nj:List (List Nat):=[[118,97,114],[118,111,108,97,116,105,108,101],[109,117,116,101,120],[114,119,108,111,99,107],[99,111,110,100],[102,117,116,117,114,101],[116,104,114,101,97,100],[105,102],[101,108,115,101],[119,104,105,108,101],[108,111,99,107],[114,101,97,100],[119,114,105,116,101],[116,114,97,110,115,97,99,116,105,111,110],[97,116,111,109,105,99],[119,97,105,116],[110,111,116,105,102,121],[110,111,116,105,102,121,97,108,108],[115,112,97,119,110],[106,111,105,110],[115,101,116],[103,101,116]]
def ui(a:List Nat):Bool:=decide (a∈nj)
def K4(a:List Nat):Bool:=match a with|c::_=>uM c| []=>false
def ud(a:List Nat):Bool:=decide (1<=a.length)&&decide (a.length<=12)&& !ui a&&K4 a&&a.all vY
def vO(a:List (List Nat)):Bool:=a.all ud&&decide a.Nodup
def KH(a:ig)(c:List ig):Bool:=allI (λb d=>decide (d={a with index:=b,tK:=false})) 0 (c.take a.size.toNat)
def ja:List ig->aa (List (List Nat))
 | []=>some []
 |c::a=>if c.size=0 then(if c.index=0 then(ja a).map (c.name:: ·)else none)
  else if d:c.size<1\/4<c.size\/(a.length+1:Int)<c.size then none
  else if KH c (c::a)=true then(ja ((c::a).drop c.size.toNat)).map (c.name:: ·)else none
 termination_by b=>b.length
 decreasing_by
  ·simp
  ·simp;omega
def lI(b:Nat):Int->Int->List iI->Bool
 |_,_,[]=>true
 |t,d,a::c=>if a.dZ<t\/(b:Int)<=a.dZ then false else
  if t<a.dZ then(if a.stmt=0 then lI b a.dZ 1 c else false)else(if a.stmt=d then lI b t (d+1) c else false)
def uf(c:ee)(a:Int)(rw:Bool):Bool:=match xr c.ew a with|some b=>b.rW==rw|none=>false
def sH(a:ee):Bool:=decide (a.cells.length<=12)&&decide (a.ew.length<=4)&&decide (a.gW.length<=2)&&decide (a.ei.length<=2)&&decide (a.iH.length<=60)&&decide (1<=a.dM.length)&&decide (a.dM.length<=4)
def qT(a:ee)(b:List (List Nat)):List (List Nat):=b++a.ew.map (·.name)++a.gW.map (·.name)++a.ei++a.dM
def Bz(a:ee):Bool:=match ja a.cells with|none=>false|some b=>vO (qT a b)
def j4(a:ee):Bool:=sH a&&Bz a&&(a.gW.all λb=>uf a b.kG false)&&lI a.dM.length 0 0 a.iH
def wq(c:ee)(b:Int):Bool:=match xr c.cells b with|some a=>decide (a.size=0)|none=>false
def Ar(d:ee)(b c:Int):Bool:=match xr d.cells b with|some a=>decide (a.index=0)&& !decide (a.size=0)&&decide (a.size=c)|none=>false
def iU(d:fU):List Int:=
 if d.op=1\/d.op=6\/d.op=10\/d.op=27 then [d.a]else if d.op=2\/d.op=3 then [d.a,d.b]else if d.op=4 then [d.a,d.b,d.c]
 else if d.op=7 then [d.a,d.c]else if d.op=8\/d.op=26 then [d.b]else if d.op=9 then [d.b,d.c]else []
def mm(d:ee)(c:fU):Bool:=
 if c.op=6 then wq d c.b else if c.op=8 then wq d c.a else if c.op=7 then Ar d c.b c.n else if c.op=9 then Ar d c.a c.n
 else if c.op=11\/c.op=12 then uf d c.a false else if c.op=13\/c.op=14\/c.op=15\/c.op=16 then uf d c.a true
 else if c.op=21\/c.op=22\/c.op=23 then jt c.a d.gW.length else if c.op=24\/c.op=25 then jt c.a d.dM.length
 else if c.op=26 then jt c.a d.ei.length else if c.op=27 then jt c.b d.ei.length
 else if c.op=3 then decide (c.n=4\/c.n=5)else if c.op=4 then decide (6<=c.n/\c.n<=18)else true
def wn(a:Int):Bool:=decide (1<=a/\a<=5)
def JP(b:fU)(c:Int):Int:=if b.op=5 then b.a else c+1
def Cr(c:List fU):Nat->Int->Bool
 |0,_=>false
 |m+1,b=>match xr c b with
  |none=>false
  |some a=>if wn a.op=true then Cr c m (JP a b)else true
end
noncomputable section
open Go Go.TI
attribute [-simp] List.map_take List.map_drop List.map_append
def JL(a b:Int):Bool:=decide (0<=a/\a<b)
@[simp] theorem aaY (a:Int) (b:Nat):JL a (b:Int)=jt a b:=id rfl
def PG{a b:Int}:JL a b=true↔0<=a/\a<b:=by unfold JL;simp
def T9(d:Unit):iq:=⟨Int×Int,λa=>[dG a.1,dG a.2],λa=>True,λa=> .bool (JL a.1 a.2),λa c b=>by simp at b;rw[b.1,b.2]⟩
def VI:(T9 ()).Ok Tryz.prog cx 162:=by
 refine iC (tb:=⟨pt [],ht []⟩) fc fa (je 19 [] Tryz.func162) (λf=>1) (by simp[T9]) (by simp[T9,Tryz.f162]) ?_;rintro⟨e,g⟩ _ h a;simp[T9]at a|-;obtain⟨b,c⟩:=a;by_cases d:0<=e<;>simp[Tryz.f162,b,c,d,JL]
def u7{c:fN}(ht:c.p 162=some (T9 ()))(a b:Int):rl Tryz.prog cx c 162 [dG a,dG b]=some (.bool (JL a b)):=iv ht VI (a,b) trivial
def uA:iq:=⟨Int,λa=>[dG a],λa=>True,λa=> .bool (wn a),λa c b=>by simp at b;rw[b]⟩
def Jn:uA.Ok Tryz.prog cx 206:=by
 refine iC (tb:=⟨pt [],ht []⟩) fc fa (je 5 [] Tryz.func206) (λd=>1) (by simp[uA]) (by simp[uA,Tryz.f206]) ?_;rintro(c:Int) _ e a;simp[uA]at a|-;by_cases b:1<=c<;>simp[Tryz.f206,a,b,wn]
def wM{b:fN}(ht:b.p 206=some uA)(a:Int):rl Tryz.prog cx b 206 [dG a]=some (.bool (wn a)):=iv ht Jn a trivial
def uB:iq:=⟨Nat,λa=>[.int .u8 a],λa=>True,λa=> .bool (uM a),λa b c=>by simp at c;rw[show a=b by omega]⟩
def zx:iq:=⟨Nat,λa=>[.int .u8 a],λa=>True,λa=> .bool (CV a),λa b c=>by simp at c;rw[show a=b by omega]⟩
def zv:iq:=⟨Nat,λa=>[.int .u8 a],λa=>True,λa=> .bool (vY a),λa b c=>by simp at c;rw[show a=b by omega]⟩
def OV:uB.Ok Tryz.prog cx 157:=by
 refine iC (tb:=⟨pt [],ht []⟩) fc fa (je 5 [] Tryz.func157) (λg=>1) (by simp[uB]) (by simp[uB,Tryz.f157]) ?_;rintro(a:Nat) _ h b;simp[uB]at b|-;by_cases c:97<=a<;>by_cases d:a<=122<;>by_cases e:65<=a<;>by_cases f:a<=90<;>simp[Tryz.f157,b,uM,c,d,e,f,show(97:Int)<=(a:Int)↔97<=a by omega,show(a:Int)<=122↔a<=122 by omega,show(65:Int)<=(a:Int)↔65<=a by omega,show(a:Int)<=90↔a<=90 by omega]
def Bu{b:fN}(ht:b.p 157=some uB)(a:Nat):rl Tryz.prog cx b 157 [.int .u8 a]=some (.bool (uM a)):=iv ht OV a trivial
def R1:zx.Ok Tryz.prog cx 204:=by
 refine iC (tb:=⟨pt [],ht []⟩) fc fa (je 5 [] Tryz.func204) (λe=>1) (by simp[zx]) (by simp[zx,Tryz.f204]) ?_;rintro(a:Nat) _ f b;simp[zx]at b|-;by_cases c:48<=a<;>by_cases d:a<=57<;>simp[Tryz.f204,b,CV,c,d,show(48:Int)<=(a:Int)↔48<=a by omega,show(a:Int)<=57↔a<=57 by omega]
def WZ{b:fN}(ht:b.p 204=some zx)(a:Nat):rl Tryz.prog cx b 204 [.int .u8 a]=some (.bool (CV a)):=iv ht R1 a trivial
def RY:zv.Ok Tryz.prog cx 159:=by
 refine iC (tb:=⟨pt [(157,uB),(204,zx)],ht []⟩) fc fa (je 5 [] Tryz.func159) (λe=>1) (by simp[zv]) (by simp[zv,Tryz.f159]) ?_;rintro(a:Nat) _ f b;simp[zv]at b|-;cases c:uM a<;>cases d:CV a<;>simp[Tryz.f159,b,vY,Bu,WZ,c,d,show(a:Int)=95↔a=95 by omega]
def Qu{b:fN}(ht:b.p 159=some zv)(a:Nat):rl Tryz.prog cx b 159 [.int .u8 a]=some (.bool (vY a)):=iv ht RY a trivial
def tV:iq:=⟨ee×Int×Int,λa=>[a.1.t,dG a.2.1,dG a.2.2],λa=>True,λa=> .bool (Ar a.1 a.2.1 a.2.2),λa c b=>by simp at b;rw[ee.inj b.1,b.2.1,b.2.2]⟩
def Mx:tV.Ok Tryz.prog cx 205:=by
 refine iC (tb:=⟨pt [(162,T9 ())],ht []⟩) fc fa (je 79 [] Tryz.func205) (λl=>1) (by simp[tV]) (by simp[tV,Tryz.f205]) ?_;rintro⟨k,h,m⟩ _ n c;simp[tV]at c|-;obtain⟨a,b,e⟩:=c;cases hl:jt h k.cells.length with
 |true=>
  obtain⟨d,f,g⟩:=iK hl;by_cases i:d.index=0<;>by_cases j:d.size=0<;>simp[Tryz.f205,a,b,e,u7,hl,f,g,Ar,eQ (fw.1 hl).1,i,j]
 |false=>simp[Tryz.f205,a,b,u7,hl,qX hl,Ar]
def Qy{d:fN}(ht:d.p 205=some tV)(c:ee)(a b:Int):rl Tryz.prog cx d 205 [c.t,dG a,dG b]=some (.bool (Ar c a b)):=iv ht Mx (c,a,b) trivial
def mT:iq:=⟨fU,λa=>[a.t],λa=>True,λa=>sl ((iU a).map (T.int .i64)),λa c b=>by simp at b;rw[fU.inj b]⟩
def Dw:mT.Ok Tryz.prog cx 97:=by
 refine iC (tb:=⟨pt [],ht []⟩) fc fa (je 8934607822903 [] Tryz.func97) (λc=>1) (by simp[mT]) (by simp[mT,Tryz.f97]) ?_;rintro⟨a,c,o,p,q,r⟩ _ s b;simp[mT]at b|-;rcases(by omega:a=1\/a=6\/a=10\/a=27\/a=2\/a=3\/a=4\/a=7\/a=8\/a=26\/a=9\/(¬a=1/\¬a=6/\¬a=10/\¬a=27/\¬a=2/\¬a=3/\¬a=4/\¬a=7/\¬a=8/\¬a=26/\¬a=9))with rfl|rfl|rfl|rfl|rfl|rfl|rfl|rfl|rfl|rfl|rfl|⟨d,g,h,i,j,k,l,m,n,e,f⟩
 rotate_right
 ·simp[Tryz.f97,b,iU,d,g,h,i,j,k,l,m,n,e,f]
 all_goals simp [Tryz.f97,b,iU,gH,sl]
def uS{b:fN}(ht:b.p 97=some mT)(a:fU):rl Tryz.prog cx b 97 [a.t]=some (sl ((iU a).map (T.int .i64))):=iv ht Dw a trivial
def tS:iq:=⟨ee×fU,λa=>[a.1.t,a.2.t],λa=>True,λa=> .bool (mm a.1 a.2),λa c b=>by simp at b;rw[ee.inj b.1,fU.inj b.2]⟩
def Mn:tS.Ok Tryz.prog cx 160:=by
 refine iC (tb:=⟨pt [(162,T9 ()),(205,tV)],ht []⟩) fc fa (je 11161304336780981658631819976322344575566047 [] Tryz.func160) (λf=>1) (by simp[tS]) (by simp[tS,Tryz.f160]) ?_;rintro⟨h,⟨a,f,l,F,j,G⟩⟩ _ H i;simp[tS]at i|-;obtain⟨b,c⟩:=i;rcases(by omega:a=3\/a=4\/a=7\/a=9\/a=21\/a=22\/a=23\/a=24\/a=25\/a=26\/a=27\/a=6\/a=8\/a=11\/a=12\/a=13\/a=14\/a=15\/a=16\/(¬a=3/\¬a=4/\¬a=6/\¬a=8/\¬a=7/\¬a=9/\¬a=11/\¬a=12/\¬a=13/\¬a=14/\¬a=15/\¬a=16/\¬a=21/\¬a=22/\¬a=23/\¬a=24/\¬a=25/\¬a=26/\¬a=27))with rfl|rfl|rfl|rfl|rfl|rfl|rfl|rfl|rfl|rfl|rfl|rfl|rfl|rfl|rfl|rfl|rfl|rfl|rfl|⟨m,x,A,B,C,D,E,n,o,p,q,r,s,t,u,v,w,y,z⟩
 rotate_right
 ·simp[Tryz.f160,b,c,mm,m,x,A,B,C,D,E,n,o,p,q,r,s,t,u,v,w,y,z]
 ·by_cases g:j=4<;>simp[Tryz.f160,b,c,mm,g]
 ·by_cases g:6<=j<;>simp[Tryz.f160,b,c,mm,g]
 iterate 9 ·simp[Tryz.f160,b,c,mm,u7,Qy]
 ·cases hl:jt l h.cells.length with
  |true=>
   obtain⟨k,d,e⟩:=iK hl;simp[Tryz.f160,b,c,mm,u7,hl,d,e,wq,eQ (fw.1 hl).1]
  |false=>simp[Tryz.f160,b,c,mm,u7,hl,qX hl,wq]
 ·cases hl:jt f h.cells.length with
  |true=>
   obtain⟨k,d,e⟩:=iK hl;simp[Tryz.f160,b,c,mm,u7,hl,d,e,wq,eQ (fw.1 hl).1]
  |false=>simp[Tryz.f160,b,c,mm,u7,hl,qX hl,wq]
 all_goals
  cases hl:jt f h.ew.length with
  |true=>
   obtain⟨k,d,e⟩:=iK hl;simp[Tryz.f160,b,c,mm,u7,hl,d,e,uf,eQ (fw.1 hl).1]
  |false=>simp[Tryz.f160,b,c,mm,u7,hl,qX hl,uf]
def Qo{c:fN}(ht:c.p 160=some tS)(b:ee)(a:fU):rl Tryz.prog cx c 160 [b.t,a.t]=some (.bool (mm b a)):=iv ht Mn (b,a) trivial
def sd:List (List Nat)->List Nat->Nat->Int
 | [],_,_=>-1
 |x::c,b,a=>if x=b then(a:Int)else sd c b (a+1)
def Gw:∀(a:List (List Nat)) (b:List Nat) (d:Nat),(0<=sd a b d)=(b∈a):=by
 intro a;induction a with
 |nil=>intro b d;simp[sd]
 |cons g a f=>
  intro b d;rw[sd];by_cases c:g=b
  ·subst c;simp
  ·rw[ao c,f];simp;intro e;exact absurd e.symm c
def Bf:iq:=⟨List (List Nat)×List Nat,λa=>[sl (a.1.map T.str),.str a.2],λa=>a.1.length<=1099511627776,λa=> dG (sd a.1 a.2 0),λa c b=>by
 simp at b;rw[jy dC b.1,b.2]⟩
def adP:Bf.Ok Tryz.prog cx 110:=by
 refine iC (tb:=⟨pt [],ht []⟩) fc fa (je 131635 [] Tryz.func110) (λm=>m.1.length+1) (by simp[Bf]) (by simp[Bf,Tryz.f110]) ?_;rintro⟨f,i⟩ hl c l;simp[Bf]at hl l|-;obtain⟨b,d⟩:=l;simp[Tryz.f110];refine fI f.length dB (λe c j=>j=hE/\dJ c 0 (sl (f.map T.str))/\dJ c 1 (.str i)/\dJ c 5 (dG e)/\sd (f.drop e) i e=sd f i 0) ?_ ?_ dB (by simp[b,d])
 ·rintro e c j k n ⟨rfl,b,d,g,a⟩;rw[aI k,sd]at a;by_cases h:f[e]=i
  ·rw[aq h]at a;simp[b,d,g,k,h,<-a]
  ·rw[ao h]at a;simp[b,d,g,k,h,n,a]
 ·rintro c j ⟨rfl,b,d,g,a⟩;simp[sd]at a;simp[b,g,<-a]
def Nr{c:fN}(ht:c.p 110=some Bf)(a:List (List Nat))(b:List Nat)(hl:a.length<=1099511627776):rl Tryz.prog cx c 110 [sl (a.map T.str),.str b]=some (dG (sd a b 0)):=iv ht adP (a,b) hl
def rg:iq:=⟨Unit,λa=>[],λa=>True,λa=>sl (nj.map T.str),λa b c=>rfl⟩
def Jq:rg.Ok Tryz.prog cx 203:=by
 refine iC (tb:=⟨pt [],ht []⟩) fc fa (je 1 [] Tryz.func203) (λb=>1) (by simp[rg]) (by simp[rg,Tryz.f203]) ?_;rintro _ _ c a;simp[rg]at a|-;simp[Tryz.f203,gH];rfl
def M1{a:fN}(ht:a.p 203=some rg):rl Tryz.prog cx a 203 []=some (sl (nj.map T.str)):=iv ht Jq () trivial
def PD:nj.length=22:=rfl
def tU:iq:=⟨List Nat,λa=>[.str a],λa=>True,λa=> .bool (ui a),λa c b=>by simp at b;rw[b]⟩
def Hm:tU.Ok Tryz.prog cx 158:=by
 refine iC (tb:=⟨pt [(203,rg)],ht []⟩) fc fa (je 131613 [] Tryz.func158) (λn=>23) (by simp[tU]) (by simp[tU,Tryz.f158]) ?_;rintro(g:List Nat) _ b k;simp[tU]at k|-;simp[Tryz.f158,M1];refine fI nj.length (by rw[PD];omega) (λf b h=>h=hE/\dJ b 0 (.str g)/\dJ b 3 (sl (nj.map T.str))/\dJ b 4 (dG f)/\(g∈nj.drop f↔g∈nj)) ?_ ?_ (by rw[PD];omega) (by simp[k])
 ·rintro f b h j l ⟨rfl,i,c,d,a⟩;have m:=aI j;rw[m]at a;by_cases e:nj[f]=g
  ·simp[i,c,d,j,e,ui];rw[<-a,e];simp
  ·simp[i,c,d,j,e,l];refine⟨λh=>a.1 (cG _ h),λh=> ?_⟩;rcases List.mem_cons.1 (a.2 h)with h|h
   ·exact absurd h.symm e
   ·exact h
 ·rintro b h ⟨rfl,i,c,d,a⟩;simp[c,d,ui];simpa using a
def C3{b:fN}(ht:b.p 158=some tU)(a:List Nat):rl Tryz.prog cx b 158 [.str a]=some (.bool (ui a)):=iv ht Hm a trivial
def w8:iq:=⟨List Nat,λa=>[.str a],λa=>True,λa=> .bool (ud a),λa c b=>by simp at b;rw[b]⟩
def OR:w8.Ok Tryz.prog cx 109:=by
 refine iC (tb:=⟨pt [(158,tU),(157,uB),(159,zv)],ht []⟩) fc fa (je 4330618893 [] Tryz.func109) (λv=>13) (by simp[w8]) (by simp[w8,Tryz.f109]) ?_;rintro(a:List Nat) _ f d;simp[w8]at d|-;cases a with
 |nil=>simp[Tryz.f109,d,ud]
 |cons b a=>
  have h:¬(a.length:Int)+1<1:=dB;by_cases w:a.length+1<=12
  ·have e:¬(12:Int)<(a.length:Int)+1:=dB;cases j:uM b with
   |false=>simp[Tryz.f109,d,h,e,j,Bu,ud,K4]
   |true=>
    cases o:ui (b::a)with
    |true=>simp[Tryz.f109,d,h,e,j,o,Bu,C3,ud,K4]
    |false=>
     have q:ud (b::a)=(b::a).all vY:=by simp[ud,o,K4,j];intro _ _;omega
     obtain⟨m,s⟩:∃m,m=(b::a).all vY:=⟨_,rfl⟩;rw[q,<-s];simp[Tryz.f109,d,h,e,j,o,Bu,C3];refine fI (b::a).length dD (λl f n=>n=hE/\dJ f 0 (.str (b::a))/\dJ f 3 (dG l)/\((b::a).drop l).all vY=m) ?_ ?_ dD (by rw[s];simp[d])
     ·rintro l f n p u ⟨rfl,g,i,c⟩;rw[aI p,cJ]at c;generalize t:(b::a)=r at*
      cases k:vY r[l]with
      |true=>rw[k,bO]at c;simp[g,i,p,u,Qu,k,c]
      |false=>rw[k,Bool.false_and]at c;simp[g,i,p,Qu,k,<-c]
     ·rintro f n ⟨rfl,g,i,c⟩;generalize t:(b::a)=r at*
      rw[dx]at c;simp[g,i,<-c]
  ·have e:(12:Int)<(a.length:Int)+1:=dB;have q:ud (b::a)=false:=by simp[ud];omega
   simp[Tryz.f109,d,h,e,q]
def pM{b:fN}(ht:b.p 109=some w8)(a:List Nat):rl Tryz.prog cx b 109 [.str a]=some (.bool (ud a)):=iv ht OR a trivial
end
noncomputable section
open Go Go.TI
attribute [-simp] List.map_take List.map_drop List.map_append fH fh ej Bool.not_or Bool.not_and
attribute [simp] fG fj
def okB(a:List Int):Prop:=a.length<=140737488351232/\∀x∈a,0<=x/\x<256
def Tp(b:List Int)(c:Nat)(d:H):Prop:=∃e a,d.get c=some (dI 2 e [.agg [sl (b.map (T.int .u8)),dG a]])/\0<=a
structure zf where
 (L:List Int) (b:Nat) (n:Int)
def uF(a:zf)(d:List T)(c:H):Prop:=d=[.ptr a.b 0 0 0,dG a.n]/\Tp a.L a.b c/\ij 0 c/\1<=a.n/\a.n<=100/\okB a.L
def rM(a:zf)(g:List T)(e:H)(f:T)(d:H):Prop:=∃c,f= dG c/\0<=c/\c<a.n/\Tp a.L a.b d/\Sm a.b e d
def _root_.Go.TI.Sm.out{b:Nat}{h c:H}(a:Sm b (TI.hr h) c):Sm b h (lM h c):=⟨a.ok.out h,a.size,λd e=>by rw[fQ,a.get d e,gF]⟩
def Dt{k:ak}{a b:Int}(d:¬b=0):binop .rem (.int k a) (.int k b)=some (.int k (a.tmod b)):=by
 have c:Rk b 0=false:=by rw[xU];simp[d]
 unfold binop;simp[wS,c]
def OQ:(jF zf uF rM).Ok Tryz.prog cx 63:=by
 refine jv (tb:=⟨pt [],ht []⟩) fc fa (je 262163 [] Tryz.func63) (λ_ _=>5) (λE a h z=>by obtain⟨rfl,_⟩:=z;simp[Tryz.f63]) ?_;rintro⟨c,f,k⟩ _ h ⟨rfl,⟨g,b,e,q⟩,r,w,y,s,n⟩ F o;simp only at e q w y s n;simp at o;obtain⟨i,m⟩:=o;simp[Tryz.f63,i,m,e];refine em (λj=> ?_) (λj=> ?_)
 ·simp[j];exact⟨0,rfl,Int.le_refl _,dE,⟨g,b,by rw[fQ,gF];exact e,q⟩,Sm.out (Sm.refl r.hr)⟩
 ·simp at j;have B:IntKind.i64.wrap (b+1)=b+1:=by rw[<-jI];exact jL dB dB
  have C:IntKind.i64.wrap b=b:=by rw[<-jI];exact jL dB dB
  have A:Sm f (hr h) _:=(Sm.refl r.hr).put (x:=(dI 2 g [.agg [sl (c.map (T.int .u8)),dG b]])) (by rw[gF];exact e) (dI 2 (g+1) [.agg [sl (c.map (T.int .u8)),dG (b+1)]]);have l:(d8 (hr h) f (dI 2 (g+1) [.agg [sl (c.map (T.int .u8)),dG (b+1)]])).get f=_:=(dQ (h:=hr h) (by rw[gF];exact e) _ f).trans (aq rfl);simp[i,e,oh,ed,B];generalize d8 (hr h) f _=D at*
  obtain⟨d,rfl⟩:∃d:Nat,b=d:=⟨b.toNat,dB⟩;have p:d<c.length:=dB;have t:=n c[d] (aC p);have u: -9223372036854775808<=c[d]:=dB;have v:c[d]<9223372036854775808:=dB;have t0:=Int.tmod_nonneg k t.1;have t1:=Int.tmod_lt_of_pos c[d] (show 0<k by omega);simp[i,m,l,uv,C,p,u,v,Dt (a:=c[d]) (show¬k=0 by omega)];exact⟨_,rfl,t0,t1,⟨_,_,by rw[fQ];exact l,dB⟩,Sm.out A⟩
def G6:iq:=⟨Int,λa=>[dG a],λ_=>True,λa=>(dX.mk 1 a [] []).t,λa c b=>by simp at b;rw[b]⟩
def aai:G6.Ok Tryz.prog cx 120:=by
 refine iC (tb:=⟨pt [],ht []⟩) fc fa (je 5 [] Tryz.func120) (λ_=>5) (by simp[G6]) (by simp[G6,Tryz.f120]) ?_;rintro a _ c b;simp[G6]at a b|-;simp[Tryz.f120,b];simpa using dX.fold 1 a [] []
def Ta{b:fN}(ht:b.p 120=some G6)(a:Int):rl Tryz.prog cx b 120 [dG a]=some (dX.mk 1 a [] []).t:=iv ht aai a trivial
def I5:iq:=⟨List Nat,λa=>[.str a],λ_=>True,λa=>(dX.mk 2 0 a []).t,λa c b=>by simp at b;rw[b]⟩
def aaj:I5.Ok Tryz.prog cx 211:=by
 refine iC (tb:=⟨pt [],ht []⟩) fc fa (je 5 [] Tryz.func211) (λ_=>5) (by simp[I5]) (by simp[I5,Tryz.f211]) ?_;rintro a _ c b;simp[I5]at a b|-;simp[Tryz.f211,b];simpa using dX.fold 2 0 a []
def Tb{b:fN}(ht:b.p 211=some I5)(a:List Nat):rl Tryz.prog cx b 211 [.str a]=some (dX.mk 2 0 a []).t:=iv ht aaj a trivial
def I6:iq:=⟨Int×dX×dX,λa=>[dG a.1,a.2.1.t,a.2.2.t],λ_=>True,λa=>(dX.mk a.1 0 [] [a.2.1,a.2.2]).t,λa c b=>by
 simp at b;rw[b.1,dX.inj b.2.1,dX.inj b.2.2]⟩
def aal:I6.Ok Tryz.prog cx 210:=by
 refine iC (tb:=⟨pt [],ht []⟩) fc fa (je 119 [] Tryz.func210) (λ_=>5) (by simp[I6]) (by simp[I6,Tryz.f210]) ?_;rintro⟨d,b,c⟩ _ e a;simp[I6]at a|-;simp[Tryz.f210,a,gH];simpa using dX.fold d 0 [] [b,c]
def W7{d:fN}(ht:d.p 210=some I6)(c:Int)(a b:dX):rl Tryz.prog cx d 210 [dG c,a.t,b.t]=some (dX.mk c 0 [] [a,b]).t:=iv ht aal (c,a,b) trivial
def I8:iq:=⟨List Nat×dX,λa=>[.str a.1,a.2.t],λ_=>True,λa=>(dR.mk 1 0 a.1 [] [] a.2 [] []).t,λa c b=>by
 simp at b;rw[b.1,dX.inj b.2]⟩
def aam:I8.Ok Tryz.prog cx 119:=by
 refine iC (tb:=⟨pt [],ht []⟩) fc fa (je 27 [] Tryz.func119) (λ_=>5) (by simp[I8]) (by simp[I8,Tryz.f119]) ?_;rintro⟨b,c⟩ _ d a;simp[I8]at a|-;simp[Tryz.f119,a];rw[dR.nD];rfl
def vi:List iw:=[⟨1,0,[120],0,0,[]⟩,⟨1,0,[121],0,1,[]⟩,⟨2,0,[118],0,0,[]⟩,⟨1,0,[113],2,0,[]⟩,⟨3,0,[109],0,0,[]⟩,⟨3,0,[110],0,0,[]⟩,⟨4,0,[114],0,0,[]⟩,⟨5,0,[99],0,0,[109]⟩,⟨6,0,[102],0,0,[]⟩]
def zG:iq:=⟨Unit,λ_=>[],λ_=>True,λ_=>sl (vi.map iw.t),λ_ _ _=>rfl⟩
def R7:zG.Ok Tryz.prog cx 117:=by
 refine iC (tb:=⟨pt [],ht []⟩) fc fa (je 1 [] Tryz.func117) (λ_=>5) (by simp[zG]) (by simp[zG,Tryz.f117]) ?_;rintro _ _ b a;simp[zG]at a|-;simp[Tryz.f117,gH,vi]
def Qx{a:fN}(ht:a.p 117=some zG):rl Tryz.prog cx a 117 []=some (sl (vi.map iw.t)):=iv ht R7 () trivial
def sq{c:fN}(ht:c.p 119=some I8)(a:List Nat)(b:dX):rl Tryz.prog cx c 119 [.str a,b.t]=some (dR.mk 1 0 a [] [] b [] []).t:=iv ht aam (a,b) trivial
def so(b:Nat)(e left:Int)(set f a d:Bool)(c:T):List T:=[.ptr b 0 0 0,dG e,dG left,.bool set,.bool f,.bool a,.bool d,c]
structure Mk(L:List Int)(n:Nat)(h:H)(m b:Nat):Prop where
 ok:ij 0 h
 fp:∀c,Fp h m c->c<h.size
 tp:Tp L b h
 ex:∃ver th left set tx at' lp hv,∃hs:List (List Nat),h.get m=some (dI 8 ver [.agg (so b th left set tx at' lp hv)])/\Gr h hv 1 (hs.map T.str)/\hs.length=n
def Mk.ne{e:List Int}{h:Nat}{g:H}{d b:Nat}(c:Mk e h g d b):d≠b:=λi=>by
 obtain⟨k,j,f,_⟩:=c.tp;obtain⟨_,_,_,_,_,_,_,_,_,a,_⟩:=c.ex;rw[i,f]at a;simp at a
def Mk.lt{c:List Int}{f:Nat}{b:H}{a d:Nat}(e:Mk c f b a d):a<b.size:=e.fp a (.inl rfl)
def Mk.fpb{d:List Int}{g:Nat}{b:H}{c a:Nat}(f:Mk d g b c a):Fp b c a:=by
 obtain⟨_,_,_,_,_,_,_,_,_,e,_⟩:=f.ex;exact .inr ⟨_,e,_,by simp[fx,T.cells,so];exact .inl rfl,rfl⟩
def Mk.tape{i:List Int}{m:Nat}{h e:H}{d g:Nat}(f:Mk i m h d g)(a:Sm g h e)(v:Tp i g e):Mk i m e d g/\Step d h e:=by
 have j:e.get d=h.get d:=a.get d f.ne;obtain⟨z,C,p,_⟩:=f.tp;obtain⟨y,w,left,set,x,o,u,t,s,q,l,hl⟩:=f.ex;refine⟨⟨a.ok,λc b=>by rw[iV j]at b;rw[a.size];exact f.fp c b,v,y,w,left,set,x,o,u,t,s,by rw[j];exact q,l.mono λc b=>a.get c λk=> ?_,hl⟩,⟨a.ok.hp,a.ok.low,by rw[a.size];exact au _⟩,λc _ r=>a.get c λk=>r (by rw[k];exact f.fpb),λc b=>by rw[iV j]at b;exact .inl b⟩;obtain⟨A,z,B,D,n,_⟩:=l.box b;rw[k,p]at n;simp at n
structure Tw(L:List Int)(b:Nat)(h h':H):Prop where
 ok:ij 0 h'
 size:h.size<=h'.size
 get:∀c,c<h.size->c≠b->h'.get c=h.get c
 tp:Tp L b h'
def Tw.refl{b:List Int}{c:Nat}{a:H}(d:ij 0 a)(e:Tp b c a):Tw b c a a:=⟨d,au _,λ_ _ _=>rfl,e⟩
def Tp.lt{c:List Int}{a:Nat}{b:H}(e:Tp c a b):a<b.size:=by
 obtain⟨_,_,d,_⟩:=e;exact H.eJ d
def Tp.eq{b:List Int}{a:Nat}{c d:H}(i:Tp b a c)(f:d.get a=c.get a):Tp b a d:=by
 obtain⟨j,g,e,h⟩:=i;exact⟨j,g,by rw[f];exact e,h⟩
def Tw.cons{a:List Int}{b:Nat}{c d:H}(w:Tw a b c d)(e:iY):Tw a b c (d.cons e):=
 ⟨w.ok.cons e,by have:=w.size;simp;omega,λf g h=>by rw[dW,ao (by have:=w.size;omega)];exact w.get f g h,w.tp.eq (by rw[dW,ao (by have:=w.tp.lt;omega)])⟩
def Tw.put{f:List Int}{d:Nat}{a e:H}(b:Tw f d a e){c:Nat}{x:iY}(g:e.get c=some x)(m:a.size<=c)(l:d<a.size)(h:iY):Tw f d a (d8 e c h):=
 ⟨b.ok.put c h,by rw[fV];exact b.size,λi j k=>by rw[dQ g,ao dB];exact b.get i j k,b.tp.eq (by rw[dQ g,ao dB])⟩
def Tw.call{b:List Int}{a:Nat}{f g c:H}(i:Tw b a f g)(d:Sm a g c)(k:Tp b a c):Tw b a f c:=
 ⟨d.ok,by rw[d.size];exact i.size,λe j h=>(d.get e h).trans (i.get e j h),k⟩
def Tw.cut{j:List Int}{e:Nat}{a d:H}(b:Tw j e (TI.hr a) d)(A:ij 0 a)(v:e<a.size){p q:T}{o:T->H->Prop}(x:∃i,jl d a.size p=some i/\cn i=q)
 (z:Sm e a (uR a d)->Tp j e (uR a d)->o q (uR a d)):yf a p d o:=by
 obtain⟨i,u,rfl⟩:=x;have h:a.size<=d.size:=b.size;refine⟨b.ok.hp,h,λc B w l=> ?_,i,u,z ⟨A.cut b.ok.hp h,rfl,λc y=> ?_⟩ (b.tp.eq (yW b.ok.hp h v))⟩
 ·by_cases f:c=e
  ·obtain⟨r,D,t,_⟩:=b.tp;rw[f,t]at l;cases l;refine .inr λr k=>(Cm r ?_).mono (aw _);simp[fx,T.cells]at k;rcases k with rfl|rfl<;>simp
  ·exact .inl ((b.get c w f).trans (gF a c))
 ·by_cases f:c<a.size
  ·rw[yW b.ok.hp h f,b.get c f y,gF]
  ·have m:∀g:H,g.size=a.size->g.get c=none:=λg C=>by
    cases s:g.get c with
    |none=>rfl
    |some B=>have:=H.eJ s;omega
   rw[m (uR a d) rfl,m a rfl]
def Mk.tw{h:List Int}{m:Nat}{a f:H}{b i:Nat}(c:Mk h m a b i)(d:Tw h i (TI.hr a) f):Mk h m f b i:=by
 have l:f.get b=a.get b:=(d.get b c.lt c.ne).trans (gF a b);obtain⟨x,B,o,_⟩:=c.tp;obtain⟨w,u,left,set,v,n,s,r,q,p,k,hl⟩:=c.ex;have A:a.size<=f.size:=d.size;refine⟨d.ok,λe g=>by rw[iV l]at g;have:=c.fp e g;omega,d.tp,w,u,left,set,v,n,s,r,q,by rw[l];exact p,k.mono λe g=> ?_,hl⟩;obtain⟨y,x,z,C,j,_⟩:=k.box g;exact(d.get e (H.eJ j) λt=>by rw[t,o]at j;simp at j).trans (gF a e)
def r8{g:fN}{l:Nat}{e:List Int}{b:Nat}{d:Int}{f:H}{m:af Oper}{j:aa Tmp}{k:List Oper}{o n:fX}{i:iO}(ht:g.h 63=some (jF zf uF rM))(y:Tp e b f)(u:ij 0 f)(q:1<=d)(r:d<=100)(s:okB e)
 (p:∀(a:Nat) c,(a:Int)<d->Tp e b c->Sm b f c->XK (some (dG a,c)) cx (qW Tryz.prog cx g) l m j k o n i):XK (hl Tryz.prog cx g 63 [.ptr b 0 0 0,dG d] f) cx (qW Tryz.prog cx g) l m j k o n i:=
 iu OQ ht ⟨e,b,d⟩ ⟨rfl,y,u,q,r,s⟩ (by
  rintro _ c ⟨a,rfl,z,v,w,x⟩;obtain⟨a,rfl⟩:∃t:Nat,a=t:=⟨a.toNat,dB⟩;exact p a c v w x)
def Kd{i:fN}{p:Nat}{f:List Int}{c:Nat}{e:Int}{b:H}{r:af Oper}{k:List (Nat×Nat)}{l:aa Tmp}{q:Op}{n:List Oper}{g:Nat}{o:List (Nat×Nat)}{m:List (Nat×H×H)}{t s:fX}{j:iO}(ht:i.h 63=some (jF zf uF rM))(C:Tp f c b)(y:ij 0 b)(v:1<=e)(w:e<=100)(x:okB f)
 (u:∀(a:Nat) d,(a:Int)<e->Tp f c d->Sm c b d->Rb (some (dG a,d)) cx (qW Tryz.prog cx i) p r k l q n g o m t s b j):Rb (hl Tryz.prog cx i 63 [.ptr c 0 0 0,dG e] b) cx (qW Tryz.prog cx i) p r k l q n g o m t s b j:=
 kZ OQ ht ⟨f,c,e⟩ ⟨rfl,C,y,v,w,x⟩ (by
  rintro _ d ⟨a,rfl,D,z,A,B⟩;obtain⟨a,rfl⟩:∃g:Nat,a=g:=⟨a.toNat,dB⟩;exact u a d z A B)
def dX.ft{b:H}{V:Nat->Prop}(a:dX)(d:Nat):FT b V (d+2) a.t a.t:= .inr (.inr ⟨_,_,a.nD,.cons (f9 ..) (.cons (f9 ..) (.cons (kj ..) (.cons (o7 _ _ _ λe c=>by obtain⟨f,_,rfl⟩:=List.mem_map.1 c;simp) .nil))),a.nD⟩)
structure Tz where
 (L:List Int) (m b n d:Nat)
def Vs(a:Tz)(c:List T)(e:H):Prop:=c=[.ptr a.m 0 0 0,dG a.d]/\Mk a.L a.n e a.m a.b/\okB a.L/\a.d<=10
def KO(a:Tz)(h:List T)(f:H)(g:T)(e:H):Prop:=∃c:dX,g=c.t/\ME c/\c.w<=3^a.d/\Tp a.L a.b e/\Sm a.b f e
def F6{f:List Int}{m e n d:Nat}{b c:H}{z:iY}{a k:Int}{s:List Nat}{v:T}{l:List dX}{args:List T}(q:ij 0 b)(h:e<b.size)(y:Tw f e (TI.hr b) c)(g:c.get b.size=some z)
 (o:FT (d8 c b.size (dI 4 1 [.agg [dG a,dG k,.str s,v]])) (λi=>b.size<=i) 11 v (sl (l.map dX.t))) (j:ME ⟨a,k,s,l⟩) (p:(dX.mk a k s l).w<=3^d):
 (d8 c b.size (dI 4 1 [.agg [dG a,dG k,.str s,v]])).get b.size=some (dI 4 1 [.agg [dG a,dG k,.str s,v]])/\
 yf b (.agg [dG a,dG k,.str s,v]) (d8 c b.size (dI 4 1 [.agg [dG a,dG k,.str s,v]])) (KO ⟨f,m,e,n,d⟩ args b):=
 ⟨(dQ g _ _).trans (aq rfl),(y.put g (au _) h _).cut q h (FT.top (au 11) (λ_ r=>r) (.cons (f9 ..) (.cons (f9 ..) (.cons (kj ..) (.cons o .nil))))) λu x=>⟨⟨a,k,s,l⟩,(dX.nD ⟨a,k,s,l⟩).symm,j,p,x,u⟩⟩
abbrev N4(e:Nat):kU:=jF Tz (λa b c=>Vs a b c/\a.d<e) KO
def PO(k:Nat)(P:(N4 k).Ok Tryz.prog cx 209):(N4 (k+1)).Ok Tryz.prog cx 209:=by
 refine qJ (tb:=⟨pt [(120,G6),(211,I5),(210,I6)],ht [(63,jF zf uF rM),(209,N4 k)]⟩) fc fa (je 35186519589107 [(10,[(8,13),(9,13),(8,17),(9,17)])] Tryz.func209) (λ_ _=>5) (λi a e a8=>by obtain⟨⟨rfl,_⟩,_⟩:=a8;simp[Tryz.f209]) ?_;rintro⟨G,m,A,n,d⟩ _ e ⟨⟨rfl,b,r,aE⟩,aN⟩ cy V;simp only at b r aE aN;simp at V;obtain⟨w,K⟩:=V;obtain⟨cp,ca,left,set,cb,bB,b9,b6,bT,I,bC,hl⟩:=b.ex;simp only[so]at I;have a7:=b.lt;have aX:(m=e.size)=False:=dD;have a6:(m=e.size+1)=False:=dD;simp[Tryz.f209,w,I,aX,a6];have F:=((Tw.refl b.ok.hr (b.tp.eq (gF e A))).cons (dI 4 0 [.agg [dG 0,dG 0,.str [],dH]])).cons (dI 1 0 [.str [97],.str [98],.str [120],.str [121],.str [118],.str [120],.str [121]]);refine r8 dC F.tp F.ok dB dB r λb8 p bN t2 D=> ?_;have C:=b.tp.lt;have f:=F.call D t2;have gR:p.get e.size=some (dI 4 0 [.agg [dG 0,dG 0,.str [],dH]]):=(D.get _ dB).trans dC;have gN:p.get (e.size+1)=some (dI 1 0 [.str [97],.str [98],.str [120],.str [121],.str [118],.str [120],.str [121]]):=(D.get _ dB).trans dC;have J:=((f.get m a7 b.ne).trans (gF e m)).trans I;clear D F;simp[K];refine em (λN=> ?_) (λN=> ?_)
 ·simp[w,J];refine r8 dC f.tp f.ok dB dB r λg q _ t3 h=> ?_;have j:=f.call h t3;have gR:=(h.get _ dB).trans gR;have fin:=F6 (m:=m) (n:=n) (d:=d) (v:=sl []) (l:=[]) (args:=[.ptr m 0 0 0,dG d]) b.ok C j gR (o7 _ _ _ dC) (.num g) (by rw[dX.lr];simp only[dX.Fw,dX.iQ];exact Nat.pow_pos dB);simp[Ta,gR,fin.1];exact fin.2
 simp;refine em (λL=> ?_) (λL=> ?_)
 ·simp[w,J];refine r8 dC f.tp f.ok dB dB r λg q W t3 h=> ?_;have j:=f.call h t3;have gR:=(h.get _ dB).trans gR;have gN:=(h.get _ dB).trans gN;have o:∃s:List Nat,([.str [97],.str [98],.str [120],.str [121],.str [118],.str [120],.str [121]]:List T)[g]? =some (.str s):=by
   rcases(by omega:g=0\/g=1\/g=2\/g=3\/g=4\/g=5\/g=6)with rfl|rfl|rfl|rfl|rfl|rfl|rfl<;>exact⟨_,rfl⟩
  obtain⟨s,o⟩:=o;generalize([.str [97],.str [98],.str [120],.str [121],.str [118],.str [120],.str [121]]:List T)=al at gN o;have fin:=F6 (m:=m) (n:=n) (d:=d) (v:=sl []) (l:=[]) (args:=[.ptr m 0 0 0,dG d]) b.ok C j gR (o7 _ _ _ dC) (.nm s) (by rw[dX.lr];simp only[dX.Fw,dX.iQ];exact Nat.pow_pos dB);have W:g<7:=dB;simp[gN,W,o,Tb,gR,fin.1];exact fin.2
 ·simp;refine em (λM=> ?_) (λM=> ?_)
  ·simp[w];simp at L N M;refine iu P dC ⟨G,m,A,n,0⟩ ⟨⟨rfl,b.tw f,r,dC⟩,dE⟩ ?_;rintro _ q ⟨c,rfl,ap,bk,t3,h⟩;simp only at bk t3 h;have j:=f.call h t3;have gR:=(h.get _ dB).trans gR;have bS:=H.eJ gR;have O:(e.size=q.size)=False:=dD;have B:(q.cons (dI 4 0 [c.t])).get e.size=_:=(by rw[dW,ao dB]:(q.cons (dI 4 0 [c.t])).get e.size=q.get e.size).trans gR;have fin:=F6 (m:=m) (n:=n) (d:=d) (a:=3) (k:=0) (s:=[113]) (v:= .arr q.size 0 0 1 false) (l:=[c]) (args:=[.ptr m 0 0 0,dG d]) b.ok C (j.cons (dI 4 0 [c.t])) B
    (.inr (.inl ⟨q.size,0,0,1,false,[c.t],[c.t],rfl,dB,by rw[gH,dQ B,ao dB,dW,aq rfl];simp,.cons (c.ft 8) .nil,rfl⟩)) (.ix ap) (by
      have:3^1<=3^d:=Nat.pow_le_pow_right dB dB;rw[dX.lr];simp only[dX.Fw,dX.j9,dX.iQ];omega)
   simp[gR,O,fin.1];exact fin.2
  simp at L N M;obtain⟨d,rfl⟩:∃c,d=c+1:=⟨d-1,dB⟩;have O:(m=p.size)=False:=by have:=f.size;simp at this;simp;omega
  have ae:IntKind.i64.wrap d=(d:Int):=by rw[<-jI];exact jL dB dB
  simp[w,O,J];have j:=f.cons (dI 1 0 [dG 6,dG 7,dG 8,dG 11,dG 13,dG 17]);refine Kd dC j.tp j.ok dB dB r λu x X t4 E=> ?_;have Y:=j.call E t4;have b7:p.size+1=x.size:=by rw[E.size];simp
  have bH:=f.tp.lt;have gO:x.get p.size=some (dI 1 0 [dG 6,dG 7,dG 8,dG 11,dG 13,dG 17]):=(E.get _ dB).trans dC;have B:x.get e.size=_:=((E.get _ dB).trans (by rw[dW,ao (by have:=H.eJ gR;omega)])).trans gR;have o:∃s:Int,([dG 6,dG 7,dG 8,dG 11,dG 13,dG 17]:List T)[u]? =some (dG s)/\6<=s:=by
   rcases(by omega:u=0\/u=1\/u=2\/u=3\/u=4\/u=5)with rfl|rfl|rfl|rfl|rfl|rfl<;>exact⟨_,rfl,dB⟩
  obtain⟨s,o,bi⟩:=o;generalize([dG 6,dG 7,dG 8,dG 11,dG 13,dG 17]:List T)=al at*
  have X:u<6:=dB;simp[w,K,gO,o,X,uv,ae];refine kZ P dC ⟨G,m,A,n,d⟩ ⟨⟨rfl,b.tw Y,r,dE⟩,dE⟩ ?_;rintro _ S ⟨c,rfl,av,bn,t5,y⟩;simp only at bn t5 y;have Z:=Y.call y t5;have an:=(y.get _ dB).trans B;have bs:ff x S p.size=true:=fk (y.get _ dB);simp[w,K,uv,ae,bs];refine kZ P dC ⟨G,m,A,n,d⟩ ⟨⟨rfl,b.tw Z,r,dE⟩,dE⟩ ?_;rintro _ U ⟨Q,rfl,aA,bp,t6,z⟩;simp only at bp t6 z;have bz:=Z.call z t6;have R:=(z.get _ dB).trans an;have bu:ff S U p.size=true:=fk (z.get _ dB);have ce:ff x U p.size=true:=fk ((z.get _ dB).trans (y.get _ dB));have fin:=F6 (m:=m) (n:=n) (d:=d+1) (a:=s) (k:=0) (s:=[]) (v:=sl [c.t,Q.t]) (l:=[c,Q]) (args:=[.ptr m 0 0 0,dG (d+1:Nat)]) b.ok C bz R (o7 _ _ _ dC) (.bin bi av aA) (by
   have:=Nat.pow_pos (n:=d) (show 0<3 by omega);rw[dX.lr,Nat.pow_succ];simp only[dX.Fw,dX.j9,dX.iQ];omega)
  simp[W7,bu,R,fin.1];exact fin.2
def O6(a:Nat):(N4 a).Ok Tryz.prog cx 209:=wQ (λb:Tz=>b.d) PO a
def Nw(d c:Nat)(b:H)(e:Nat)(f:T)(a:Nat):Prop:=d<=a/\a<c/\¬Fp b e a/\dU f≠some a
def KZ(a:Nat):dU .kw≠some a:=by show(none:aa Nat)≠some a;simp
def SV(f e:Nat)(b:H)(g h:Nat)(c:T)(i:List dR):Prop:=∃d,Gr b c 11 d/\iG (FT b (Nw f e b g c) (h+2)) d (i.map dR.t)/\∀a,dU c=some a->f<=a/\a<e/\¬Fp b g a
def SV.nil(d c:Nat)(b:H)(e a:Nat):SV d c b e a dH []:=⟨[],Gr.nil _ _,.nil,λg f=>by simp at f⟩
def SV.same{i h m k:Nat}{f g:H}{d j:Nat}{n:T}{l:List dR}(r:SV i h f d j n l)(v:m<=i)(w:h<=k)(c:∀a,i<=a->a<h->¬Fp f d a->g.get a=f.get a/\¬Fp g d a):SV m k g d j n l:=by
 obtain⟨p,q,o,e⟩:=r;refine⟨p,q.mono λa b=>(c a (e a b).1 (e a b).2.1 (e a b).2.2).1,o.ft λa b=>⟨⟨by have:=b.1;omega,by have:=b.2.1;omega,(c a b.1 b.2.1 b.2.2.1).2,b.2.2.2⟩,(c a b.1 b.2.1 b.2.2.1).1⟩,λa b=> ?_⟩;obtain⟨s,t,u⟩:=e a b;exact⟨dB,dB,(c a s t u).2⟩
def SV.step{i b:Nat}{a f:H}{c e:Nat}{l:T}{h:List dR}(m:SV i b a c e l h)(k:Step c a f)(o:b<=a.size):SV i b f c e l h:=
 m.same (au _) (au _) λd _ n g=>⟨k.get d dB g,λj=>(k.fp d j).elim g λj=>by omega⟩
def SV.wide{f c g d:Nat}{b:H}{h a:Nat}{i:T}{e:List dR}(l:SV f c b h a i e)(j:g<=f)(k:c<=d):SV g d b h a i e:=l.same j k λ_ _ _ m=>⟨rfl,m⟩
def SV.box{e d:Nat}{i:H}{l h:Nat}{g:T}{k:List dR}(c:SV e d i l h g k){a:Nat}(j:e<=a/\a<d->False):dU g≠some a:=λf=>by
 obtain⟨_,_,_,c⟩:=c;exact j ⟨(c a f).1,(c a f).2.1⟩
def SV.sk{f e:Nat}{b:H}{c g:Nat}{i:T}{h:List dR}(l:SV f e b c g i h){a:Nat}{m:iY}(d:Lb c b a m)(q:a<f\/e<=a)(j:iY):SV f e (d8 b a j) c g i h:=
 l.same (au _) (au _) λn o p k=>⟨by rw[dQ d.get,ao dB],by rw[iV (show(d8 b a j).get c=b.get c by rw[dQ d.get,ao (bm d.ne)])];exact k⟩
def SV.ft{i h:Nat}{e:H}{j d:Nat}{k:T}{a:List dR}(p:SV i h e j d k a):FT e (Nw i h e j .kw) (d+3) k (sl (a.map dR.t)):=by
 obtain⟨n,g,b,q⟩:=p;have o:=g.ji;rcases g with⟨rfl,rfl⟩|⟨c,m,y,v,A,rfl,w,x⟩
 ·cases hl:a.map dR.t with
  |nil=>exact jh _ _ _ _
  |cons z a=>rw[hl]at b;cases b
 ·obtain⟨r,s,u⟩:=q c rfl;exact .inr (.inl ⟨c,m,0,_,false,n,_,rfl,⟨r,s,u,KZ c⟩,o,b.ft λl f=>⟨⟨f.1,f.2.1,f.2.2.1,KZ l⟩,rfl⟩,rfl⟩)
def dR.ft{c:H}{V:Nat->Prop}(b:dR)(d:Nat):FT c V (d+2) b.t b.t:=by
 have f:∀a:List dX,FT c V (d+1) (sl (a.map dX.t)) (sl (a.map dX.t)):=λa=>o7 _ _ _ λh e=>by obtain⟨i,_,rfl⟩:=List.mem_map.1 e;simp
 have g:∀a:List dR,FT c V (d+1) (sl (a.map dR.t)) (sl (a.map dR.t)):=λa=>o7 _ _ _ λh e=>by obtain⟨i,_,rfl⟩:=List.mem_map.1 e;simp
 exact .inr (.inr ⟨_,_,b.nD,.cons (f9 ..) (.cons (f9 ..) (.cons (kj ..) (.cons (kj ..) (.cons (f _) (.cons (f9 ..) (.cons (f9 ..) (.cons (kj ..) (.cons (f _) (.cons (g _) (.cons (g _) .nil)))))))))),b.nD⟩)
def Mk.same{i:List Int}{m:Nat}{b c:H}{f g:Nat}(e:Mk i m b f g)(r:ij 0 c)(v:b.size<=c.size)(h:∀a,Fp b f a->c.get a=b.get a):Mk i m c f g:=by
 have k:=h f (.inl rfl);obtain⟨u,s,left,set,t,n,q,l,p,j,o,hl⟩:=e.ex;refine⟨r,λa d=>by rw[iV k]at d;have:=e.fp a d;omega,e.tp.eq (h g e.fpb),u,s,left,set,t,n,q,l,p,by rw[k];exact j,o.mono λa d=>h a (.inr ⟨_,j,l,by simp[fx,T.cells,so],d⟩),hl⟩
def Mk.cons{b:List Int}{f:Nat}{d:H}{e c:Nat}(a:Mk b f d e c)(g:iY):Mk b f (d.cons g) e c:=a.same (a.ok.cons g) dC λh i=>by rw[dW,ao (by have:=a.fp h i;omega)]
def Mk.sk{d:List Int}{h:Nat}{b:H}{c e:Nat}(f:Mk d h b c e){a:Nat}{l:iY}(g:Lb c b a l)(i:iY):Mk d h (d8 b a i) c e:=f.same (f.ok.put a i) (by rw[fV];exact au _) λm j=>by rw[dQ g.get,ao (λk=>g.nf (by rw[<-k];exact j))]
def Mk.hr{b:List Int}{f:Nat}{a:H}{e c:Nat}(d:Mk b f a e c):Mk b f (TI.hr a) e c:=d.same d.ok.hr (au _) λg _=>gF a g
def Mk.out{b:List Int}{e:Nat}{h a:H}{m c:Nat}(d:Mk b e a m c):Mk b e (lM h a) m c:=d.same (d.ok.out h) (au _) λf _=>fQ h a f
def SV.out{e c:Nat}{h a:H}{m b:Nat}{f:T}{d:List dR}(j:SV e c a m b f d):SV e c (lM h a) m b f d:=
 j.same (au _) (au _) λg _ _ i=>⟨fQ h a g,by rw[iV (fQ h a m)];exact i⟩
def Mk.set{j:List Int}{h:Nat}{c:H}{d b f:Nat}{s left th' left':Int}{r t l n se' tx' at2 lp':Bool}{a:T}{g:List (List Nat)}(e:Mk j h c d b)(k:c.get d=some (dI 8 f [.agg (so b s left r t l n a)]))(m:Gr c a 1 (g.map T.str))(hl:g.length=h):
 Step d c (d8 c d (dI 8 (f+1) [.agg (so b th' left' se' tx' at2 lp' a)]))/\Mk j h (d8 c d (dI 8 (f+1) [.agg (so b th' left' se' tx' at2 lp' a)])) d b:=by
 obtain⟨i,o,p,q⟩:=Bi e.ok e.fp k (cells':=so b th' left' se' tx' at2 lp' a) (λu a=>by
  simp only[so,cw,dh,or_false]at a;rcases a with rfl|rfl|rfl|rfl|rfl|rfl|rfl|rfl<;>first|exact .inr (.inl rfl)|exact .inl (by simp[so])) _ rfl
 exact⟨i,⟨i.ok.hp,i.ok.low,aw _⟩,o,e.tp.eq (by rw[dQ k,ao (bm e.ne)]),f+1,th',left',se',tx',at2,lp',a,g,p,q _ _ _ m dF,hl⟩
def SV.app{z:List Int}{n h o:Nat}{b:H}{d B u:Nat}{s x:T}{xs:List T}{p l2:List dR}(V:SV h o b d u s p)(k:Mk z n b d B)(Y:h<=b.size)(X:o<=b.size)(U:b.ji x=some xs)(F:iG (FT b (Nw h o b d s) (u+2)) xs (l2.map dR.t))(O:∀i∈xs,i.cells.length=11)(R:xs≠ [])(Z:p.length+l2.length<=1000000):
 ∃y f,iM cx b 172 172 s x=some (.val y f)/\SV h f.size f d u y (p++l2)/\Mk z n f d B/\(∀m,Step d m b->m.size<=h->Step d m f)/\∀e,e<h->f.get e=b.get e:=by
 obtain⟨l,L,A,q⟩:=V;have l1:l.length=p.length:=by simpa using A.length
 have l3:xs.length=l2.length:=by simpa using F.length
 obtain⟨y,f,i,e,D,W,K,rfl,G,g,j,IG⟩:=L.app (cx:=cx) k.ok yU rfl yS yU rfl rfl dC U O R dD;have v:¬Fp b d e:=λE=>g.elim (λg=>(q e g).2.2 E) λg=>by have:=k.fp e E;omega
 have S:=IG.sz;have Q:h<=e:=g.elim (λg=>(q e g).1) λg=>by omega
 have P:=H.eJ G;have w:f.get d=b.get d:=j d (λq=>v (by rw[<-q];exact .inl rfl)) k.lt;have J:∀a,Nw h o b d s a->Nw h f.size f d (.arr e D 0 (l++xs).length false) a/\f.get a=b.get a:=λa c=>by
  have I:a≠e:=λi=>g.elim (λg=>c.2.2.2 (by rw[i];exact g)) λg=>by have:=c.2.1;omega
  exact⟨⟨c.1,by have:=c.2.1;omega,by rw[iV w];exact c.2.2.1,by simp;exact bm I⟩,j a I (by have:=c.2.1;omega)⟩
 refine⟨_,f,i,⟨l++xs,.inr ⟨e,D,W,K,l++xs,rfl,G,aL⟩,?_,λa C=> ?_⟩,k.same ⟨IG.hp,IG.low,aw _⟩ S λa c=>j a (λi=>v (by rw[<-i];exact c)) (k.fp a c),λm r hl=>⟨⟨IG.hp,IG.low,by have:=r.ok.sz;omega⟩,λa M N=> ?_,λa c=>by rw[iV w]at c;exact r.fp a c⟩,λa c=>j a dB dB⟩
 ·rw[List.map_append];exact(A.ft J).append (F.ft J)
 ·simp at C;subst C;exact⟨Q,P,by rw[iV w];exact v⟩
 ·exact(j a dB (by have:=r.ok.sz;omega)).trans (r.get a M N)
def wd(a:Nat):Nat:=100*10^a
def Kv(a:Nat):wd (a+1)=10*wd a:=by unfold wd;rw[Nat.pow_succ];omega
def BA(a:Nat):100<=wd a:=by
 induction a with
 |zero=>decide
 |succ a b=>rw[Kv];omega
structure UV where
 (L:List Int) (m b n d cnt:Nat)
def XP(a:UV)(c:H):Prop:=Mk a.L a.n c a.m a.b/\okB a.L/\a.d<=2/\a.n+a.d<=10/\a.cnt<=3
def Om(a:UV)(i:List T)(f:H)(h:T)(c:H):Prop:=∃e,SV f.size c.size c a.m (2*a.d+2) h e/\(∀g∈e,MS g/\g.w<=wd a.d)/\e.length<=a.cnt/\Mk a.L a.n c a.m a.b/\Step a.m f c
def Ff(a:UV)(i:List T)(g:H)(h:T)(c:H):Prop:=∃f e,h= .agg f/\f.length=11/\FT c (Nw g.size c.size c a.m .kw) (2*a.d+4) h e.t/\MS e/\e.w<=wd a.d/\Mk a.L a.n c a.m a.b/\Step a.m g c
abbrev Vo(e:Nat):kU:=jF UV (λa b c=>(b=[.ptr a.m 0 0 0,dG a.d,dG a.cnt]/\XP a c)/\a.d<e) Om
abbrev rMt(e:Nat):kU:=jF UV (λa b c=>(b=[.ptr a.m 0 0 0,dG a.d]/\XP a c)/\a.d<e) Ff
def aaB(k:Nat)(Z:(rMt k).Ok Tryz.prog cx 165):(Vo k).Ok Tryz.prog cx 118:=by
 refine jv (tb:=⟨pt [],ht [(165,rMt k)]⟩) fc fa (je 4194759 [] Tryz.func118) (λ_ _=>10) (λe a p W=>by obtain⟨⟨rfl,_⟩,_⟩:=W;simp[Tryz.f118]) ?_;rintro⟨A,f,B,Q,m,C⟩ _ p ⟨⟨rfl,v,G,K,N,b⟩,M⟩ h I;simp only at v G K N b M;simp at I;obtain⟨o,q,r⟩:=I;simp[Tryz.f118];refine sr C (λe h n=>∃u j,SV p.size n.size n f (2*m+2) u j/\(∀l∈j,MS l/\l.w<=wd m)/\j.length=e/\Mk A Q n f B/\Step f (hr p) n/\dJ h 0 (.ptr f 0 0 0)/\dJ h 1 (dG m)/\dJ h 2 (dG C)/\dJ h 7 u/\dJ h 8 (dG e)) ?_ dB (k:=0) dB ⟨dH,[],SV.nil _ _ _ _ _,dC,rfl,v.hr,Step.refl v.ok.hr,by simp[o,q,r]⟩;rintro e h n a6 ⟨u,j,sv,hl,a7,y,z,o,q,r,E,F⟩;obtain⟨bs,bn,left,set,bp,aA,bk,bi,a8,D,aE,aX⟩:=y.ex;simp only[so]at D;simp[o,r,F,D];refine em (λL=> ?_) (λL=> ?_)
 ·simp at L;simp[o,q,E];refine iu Z dC ⟨A,f,B,Q,m,0⟩ ⟨⟨rfl,y,G,K,N,dC⟩,M⟩ ?_;rintro _ d ⟨c,l,rfl,J,ft,V,O,g,s⟩;simp only at ft O g s;have Y:=z.ok.sz;have P:=s.ok.sz;simp at Y;have an:=((sv.step s (au _)).step (Step.cons g.ok g.lt (dI 11 0 [.agg c])) P).wide (au _) P;have H:∀i,i<d.size->(d.cons (dI 11 0 [.agg c])).get i=d.get i:=λi b=>by rw[dW,ao dB]
  have U:FT (d.cons (dI 11 0 [.agg c])) (Nw p.size d.size (d.cons (dI 11 0 [.agg c])) f u) (2*m+4) (.agg c) l.t:=ft.mono λi b=>⟨⟨by have:=b.1;omega,b.2.1,by rw[iV (H f g.lt)];exact b.2.2.1,sv.box λR=>by have:=b.1;omega⟩,H i b.2.1⟩;obtain⟨av,aN,S,ap,ae,al,_⟩:=an.app (g.cons (dI 11 0 [.agg c])) (x:= .arr d.size 0 0 1 false) (xs:=[.agg c]) (l2:=[l]) dD dC (by rw[gH];simp) (.cons U .nil) (by simp[T.cells,J]) dC dD;simp[o,q,r,F,S,J,iy (show-9223372036854775808<=(e:Int)+1 by omega) (show(e:Int)+1<9223372036854775808 by omega)];exact⟨e+1,dB,dB,av,j++[l],ap,λx X=>(List.mem_append.1 X).elim (hl x) λR=>by rw[List.mem_singleton.1 R];exact⟨V,O⟩,dD,ae,al _ ((z.trans s).trans (Step.cons g.ok g.lt _)) dC,dC⟩
 ·simp[E];exact⟨j,sv.out,hl,dE,y.out,z.out⟩
def Mk.held{s:List Int}{q:Nat}{c h:H}{a b f:Nat}{m left:Int}{l n g k:Bool}{p o:T}{j:List (List Nat)}{w:List Nat}(d:Mk s q c a b)(t:c.get a=some (dI 8 f [.agg (so b m left l n g k p)]))(v:Gr c p 1 (j.map T.str))(hl:j.length=q)(x:Xt c p 1 ((j++[w]).map T.str) o h):
 h.get a=c.get a/\Step a c (d8 h a (dI 8 (f+1) [.agg (so b m left l n g k o)]))/\Mk s (q+1) (d8 h a (dI 8 (f+1) [.agg (so b m left l n g k o)])) a b:=by
 obtain⟨e,C⟩:=wB (i:=7) d.ok d.fp t (by simp[so]) dF v x;obtain⟨r,y,A,_⟩:=C _ rfl;have u:=e.trans t;obtain⟨G,F,z,_⟩:=d.tp;refine⟨e,r,⟨r.ok.hp,r.ok.low,aw _⟩,y,d.tp.eq ?_,f+1,m,left,l,n,g,k,o,j++[w],(dQ u _ a).trans (aq rfl),A,dD⟩;rw[dQ u,ao (bm d.ne)];refine x.2.1 b d.tp.lt λB=> ?_;obtain⟨D,f,E,I,e,_⟩:=v.box B;rw[z]at e;simp at e
def Mk.drop{p:List Int}{g:Nat}{b:H}{c a l:Nat}{i left:Int}{h j e f:Bool}{n d:T}{m:List (List Nat)}(k:Mk p (g+1) b c a)(q:b.get c=some (dI 8 l [.agg (so a i left h j e f n)]))(hl:m.length=g+1)(r:Gr b d 1 ((m.map T.str).take g))(s:dU d=dU n):
 Step c b (d8 b c (dI 8 (l+1) [.agg (so a i left h j e f d)]))/\Mk p g (d8 b c (dI 8 (l+1) [.agg (so a i left h j e f d)])) c a:=by
 obtain⟨o,t,u,v⟩:=Bi k.ok k.fp q (cells':=so a i left h j e f d) (λw hm=>by
  simp only[so,cw,dh,or_false]at hm;rcases hm with rfl|rfl|rfl|rfl|rfl|rfl|rfl|hm
  ·exact .inl (by simp[so])
  iterate 6 exact .inr (.inl rfl)
  exact .inr (.inr ⟨n,by simp[so],by rw[hm];exact s⟩)) _ rfl
 exact⟨o,⟨o.ok.hp,o.ok.low,aw _⟩,t,k.tp.eq (by rw[dQ q,ao (bm k.ne)]),l+1,i,left,h,j,e,f,d,m.take g,u,by rw[List.map_take];exact v _ _ _ r dF,by rw[List.length_take];omega⟩
structure IBk where
 (L:List Int) (m b n d:Nat) (s:List Nat)
def Z7(a:IBk)(c:List T)(e:H):Prop:=c=[.ptr a.m 0 0 0,.str a.s,dG a.d]/\Mk a.L a.n e a.m a.b/\okB a.L/\a.d<=2/\a.n+a.d<=9
abbrev rBk(g:Nat):kU:=jF IBk (λa c e=>Z7 a c e/\a.d<g) (λa c e h f=>Om ⟨a.L,a.m,a.b,a.n,a.d,2⟩ c e h f)
def abx(q:Nat)(aA:(Vo q).Ok Tryz.prog cx 118):(rBk q).Ok Tryz.prog cx 213:=by
 refine jv (tb:=⟨pt [],ht [(63,jF zf uF rM),(118,Vo q)]⟩) fc fa (je 199 [] Tryz.func213) (λ_ _=>10) (λi a f av=>by obtain⟨⟨rfl,_⟩,_⟩:=av;simp[Tryz.f213]) ?_;rintro⟨P,d,Q,n,R,s⟩ _ f ⟨⟨rfl,t,p,B,an⟩,C⟩ bn A;simp only at t p B an C;simp at A;obtain⟨z,W,X⟩:=A;have g:=t.hr;obtain⟨N,L,left,set,M,x,G,F,E,b,c,hl⟩:=g.ex;obtain⟨a6,Y,k,j⟩:=c.nq (cx:=cx) g.ok qx rfl wa rfl dC dC s dD;obtain⟨I,w,e⟩:=g.held b c hl j;have m:=I.trans b;simp only[so]at b m w e;have y:f.get d=_:=(gF f d).symm.trans b;have bk:(d=f.size)=False:=by have:=t.lt;simp;omega
 rw[nV]at k;simp[Tryz.f213,z,W,X,y,k,m,ed,j.1.im,j.1.cells];generalize d8 Y d _=a7 at*
 clear b y m I j k c g;obtain⟨N,L,left,set,M,x,G,F,E,b,c,hl⟩:=e.ex;simp only[so]at b;simp[b];refine r8 dC e.tp e.ok dB dB p λr a8 bi t2 aN=> ?_;obtain⟨aE,J⟩:=e.tape aN t2;have S:binop .add (dG 1) (dG r)=some (dG ((1+r:Nat):Int)):=by rw[iy dB dB];simp
 simp[S];refine iu aA dC ⟨P,d,Q,n+1,R,1+r⟩ ⟨⟨dC,aE,p,B,dE,dE⟩,C⟩ ?_;rintro v Z ⟨l,sv,D,ap,u,K⟩;simp only at sv D ap u K;obtain⟨N,L,left,set,M,x,G,F,E,b,c,hl⟩:=u.ex;have V:=b;simp only[so]at b;have al:=c.len (cx:=cx) Z Rv _ rfl;obtain⟨a6,U,o,ae⟩:=c.cut (cx:=cx) (ty:=Rv) rfl wa rfl (n:=n) dD dD;obtain⟨h,H⟩:=u.drop V hl o ae;have T:binop .sub (dG ((n:Int)+1)) (dG 1)=some (dG n):=by
  rw[uv,<-jI,jL dB dB];simp
 simp only[so]at h H;simp[z,b,al,hl,T,U,ed,o.im,o.cells];have aX:=((w.trans J).trans K).trans h;have O:=(w.trans J).ok.sz;simp at O;exact⟨l,((sv.step h (au _)).wide O (by have:=h.ok.sz;simp)).out,D,dE,H.out,aX.out⟩
end
end Go.Proofs.YtmaeadedikngoaaGreatDoor
