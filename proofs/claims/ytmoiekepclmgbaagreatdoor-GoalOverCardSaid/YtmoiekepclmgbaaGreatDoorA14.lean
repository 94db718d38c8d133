/- D04 -/
import Derived.Test.YtmoiekepclmgbaaGreatDoorA8
set_option linter.all false
set_option maxRecDepth 100000
set_option maxHeartbeats 0
namespace Go.Proofs.YtmoiekepclmgbaaGreatDoor
noncomputable section
open Go Go.TI
section
inductive eY where
 |mk (op n:Int) (name:List Nat) (l:List eY)
instance :Inhabited eY:=⟨⟨0,0,[],[]⟩⟩
def eY.op:eY->Int|⟨a,_,_,_⟩=>a
def eY.n:eY->Int|⟨_,a,_,_⟩=>a
def eY.name:eY->List Nat|⟨_,_,a,_⟩=>a
def eY.l:eY->List eY|⟨_,_,_,a⟩=>a
@[simp]def eY.zk (a b:Int) (c:List Nat) (d:List eY):(eY.mk a b c d).op=a:=id rfl
@[simp]def eY.J5 (a b:Int) (c:List Nat) (d:List eY):(eY.mk a b c d).n=b:=id rfl
@[simp]def eY.rG (a b:Int) (c:List Nat) (d:List eY):(eY.mk a b c d).name=c:=id rfl
@[simp]def eY.Id (a b:Int) (c:List Nat) (d:List eY):(eY.mk a b c d).l=d:=id rfl
def eY.lt{e c:eY}(h:c∈e.l):SizeOf.sizeOf c<SizeOf.sizeOf e:=by
 cases e with
 |mk n k m j=>have:=List.sizeOf_lt_of_mem (show c∈j from h);simp;omega
mutual
def eY.t:eY->T
 |⟨a,b,c,j⟩=> .agg [G a,G b,.str c,sl (eY.ts j)]
def eY.ts:List eY->List T
 | []=>[]
 |x::j=>x.t::eY.ts j
end
def eY.GH:∀j:List eY,eY.ts j=j.map eY.t
 | []=>by rw[eY.ts];rfl
 |x::k=>by rw[eY.ts,eY.GH k];rfl
def eY.oY(x:eY):x.t= .agg [G x.op,G x.n,.str x.name,sl (x.l.map eY.t)]:=by
 cases x;rw[eY.t,eY.GH];rfl
def yg{l k:Type}{f:l->k}{g:k->k}{j:List l}(h:∀x∈j,g (f x)=f x):(j.map f).map g=j.map f:=by
 rw[List.map_map];exact List.map_congr_left h
def r9{m r:Type}{f:m->r}:∀{k j:List m},(∀a∈k,∀b,f a=f b->a=b)->k.map f=j.map f->k=j:=by
 intro k;induction k with
 |nil=>intro j _ h;cases j<;>simp at h;rfl
 |cons x k p=>
  intro j l h;cases j with
  |nil=>simp at h
  |cons q j=>
   simp only[aL,bV]at h;rw[l x Y q h.1,p (λa n b o=>l a (by simp[n]) b o) h.2]
def wg{k:Type}{f:k->T}{j:List k}(h:∀x∈j,oc (f x)=true):m7 (j.map f)=true:=by
 induction j with
 |nil=>simp
 |cons x j m=>simp[h x Y,m λn l=>h n (by simp[l])]
section
variable (x:eY)(h:H)(d:Nat)
@[simp]theorem eY.WY:x.t.cells=[G x.op,G x.n,.str x.name,sl (x.l.map eY.t)]:=by rw[eY.oY];rfl
@[simp]theorem eY.aeQ:MX x.t=4:=by rw[eY.oY];rfl
@[simp]theorem eY.aak:x.t.iN=true:=by rw[eY.oY];rfl
def eY.T3:∀(j:Nat) (x:eY),SizeOf.sizeOf x<=j->cn x.t=x.t:=by
 intro j;induction j with
 |zero=>intro x k;cases x;simp at k
 |succ j m=>
  intro x k;rw[eY.oY];simp only[xa,aL,bw,IN,IM,TI.Or];rw[yg λc l=>m c (by have:=eY.lt l;omega)]
@[simp]def eY.dV:cn x.t=x.t:=eY.T3 _ x (au _)
@[simp]def eY.aeE:qC h x.t=some x.t:=by rw[eY.oY];simp
@[simp]def eY.aeG:yY h (d+2) x.t=some x.t:=by rw[eY.oY];simp
@[simp]def eY.Zi:kE x.t=true:=by rw[eY.oY];simp
def eY.Mq:∀(j:Nat) (x:eY),SizeOf.sizeOf x<=j->oc x.t=true:=by
 intro j;induction j with
 |zero=>intro x k;cases x;simp at k
 |succ j m=>
  intro x k;rw[eY.oY];simp only[Kb,EW,Ka,J9,NZ,Hi];rw[wg λc l=>m c (by have:=eY.lt l;omega)];rfl
@[simp]def eY.Tm:oc x.t=true:=eY.Mq _ x (au _)
end
def eY.dQ:∀(l:Nat) (x j:eY),SizeOf.sizeOf x<=l->x.t=j.t->x=j:=by
 intro l;induction l with
 |zero=>intro x j p;cases x;simp at p
 |succ l s=>
  intro x j p h;rw[x.oY,j.oY]at h;simp only[T.agg.injEq,bV,T.int.injEq,T.str.injEq,true_and,and_true]at h;obtain⟨m,n,o,k⟩:=h;have k:=r9 (λa q b r=>s a b (by have:=eY.lt q;omega) r) (BS k);obtain⟨a,b,c,d⟩:=x;obtain⟨u,v,w,y⟩:=j;simp only[eY.zk,eY.J5,eY.rG,eY.Id]at m n o k;rw[m,n,o,k]
def eY.inj{x j:eY}(h:x.t=j.t):x=j:=eY.dQ _ x j (au _) h
@[simp]theorem eY.fold (a b:Int) (c:List Nat) (j:List eY):T.agg [G a,G b,.str c,sl (j.map eY.t)]=(eY.mk a b c j).t:=by rw[eY.oY];rfl
@[simp]theorem eY.eta (x:eY):eY.mk x.op x.n x.name x.l=x:=by cases x;rfl
inductive ei where
 |mk (op wU:Int) (name arg:List Nat) (index:List eY) (e:eY) (body Qu:List ei)
instance :Inhabited ei:=⟨⟨0,0,[],[],[],default,[],[]⟩⟩
def ei.op:ei->Int|⟨a,_,_,_,_,_,_,_⟩=>a
def ei.wU:ei->Int|⟨_,a,_,_,_,_,_,_⟩=>a
def ei.name:ei->List Nat|⟨_,_,a,_,_,_,_,_⟩=>a
def ei.arg:ei->List Nat|⟨_,_,_,a,_,_,_,_⟩=>a
def ei.index:ei->List eY|⟨_,_,_,_,a,_,_,_⟩=>a
def ei.e:ei->eY|⟨_,_,_,_,_,a,_,_⟩=>a
def ei.body:ei->List ei|⟨_,_,_,_,_,_,a,_⟩=>a
def ei.Qu:ei->List ei|⟨_,_,_,_,_,_,_,a⟩=>a
section
variable (a b:Int)(c d:List Nat)(i:List eY)(e:eY)(f g:List ei)
@[simp]def ei.zk:(ei.mk a b c d i e f g).op=a:=id rfl
@[simp]def ei.Wf:(ei.mk a b c d i e f g).wU=b:=id rfl
@[simp]def ei.rG:(ei.mk a b c d i e f g).name=c:=id rfl
@[simp]def ei.aa8:(ei.mk a b c d i e f g).arg=d:=id rfl
@[simp]def ei.us:(ei.mk a b c d i e f g).index=i:=id rfl
@[simp]def ei.MQ:(ei.mk a b c d i e f g).e=e:=id rfl
@[simp]def ei.xh:(ei.mk a b c d i e f g).body=f:=id rfl
@[simp]def ei.Ap:(ei.mk a b c d i e f g).Qu=g:=id rfl
end
def ei.ltB{j c:ei}(h:c∈j.body):SizeOf.sizeOf c<SizeOf.sizeOf j:=by
 cases j with
 |mk a b k d i e f g=>have:=List.sizeOf_lt_of_mem (show c∈f from h);simp;omega
def ei.ltE{j c:ei}(h:c∈j.Qu):SizeOf.sizeOf c<SizeOf.sizeOf j:=by
 cases j with
 |mk a b k d i e f g=>have:=List.sizeOf_lt_of_mem (show c∈g from h);simp;omega
mutual
def ei.t:ei->T
 |⟨a,b,c,d,i,e,f,g⟩=> .agg [G a,G b,.str c,.str d,sl (i.map eY.t),G e.op,G e.n,.str e.name,sl (e.l.map eY.t),sl (ei.ts f),sl (ei.ts g)]
def ei.ts:List ei->List T
 | []=>[]
 |x::j=>x.t::ei.ts j
end
def ei.GH:∀j:List ei,ei.ts j=j.map ei.t
 | []=>by rw[ei.ts];rfl
 |x::k=>by rw[ei.ts,ei.GH k];rfl
def ei.cs(x:ei):List T:=[G x.op,G x.wU,.str x.name,.str x.arg,sl (x.index.map eY.t),G x.e.op,G x.e.n,.str x.e.name,sl (x.e.l.map eY.t),sl (x.body.map ei.t),sl (x.Qu.map ei.t)]
def ei.oY(x:ei):x.t= .agg x.cs:=by
 cases x;rw[ei.t,ei.GH,ei.GH];rfl
section
variable (x:ei)(h:H)(d:Nat)
@[simp]theorem ei.WY:x.t.cells=[G x.op,G x.wU,.str x.name,.str x.arg,sl (x.index.map eY.t),G x.e.op,G x.e.n,.str x.e.name,sl (x.e.l.map eY.t),sl (x.body.map ei.t),sl (x.Qu.map ei.t)]:=by rw[ei.oY];rfl
@[simp]theorem ei.aeQ:MX x.t=11:=by rw[ei.oY];rfl
@[simp]theorem ei.aak:x.t.iN=true:=by rw[ei.oY];rfl
def ei.T3:∀(j:Nat) (x:ei),SizeOf.sizeOf x<=j->cn x.t=x.t:=by
 intro j;induction j with
 |zero=>intro x l;cases x;simp at l
 |succ j m=>
  intro x l;rw[ei.oY];unfold ei.cs;simp only[xa,aL,bw,IN,IM,TI.Or];rw[yg λc k=>m c (by have:=ei.ltB k;omega),yg λc k=>m c (by have:=ei.ltE k;omega),yg λc _=>eY.dV c,yg λc _=>eY.dV c]
@[simp]def ei.dV:cn x.t=x.t:=ei.T3 _ x (au _)
@[simp]def ei.aeE:qC h x.t=some x.t:=by rw[ei.oY];unfold ei.cs;simp
@[simp]def ei.aeG:yY h (d+2) x.t=some x.t:=by rw[ei.oY];unfold ei.cs;simp
@[simp]def ei.Zi:kE x.t=true:=by rw[ei.oY];unfold ei.cs;simp
def ei.Mq:∀(j:Nat) (x:ei),SizeOf.sizeOf x<=j->oc x.t=true:=by
 intro j;induction j with
 |zero=>intro x l;cases x;simp at l
 |succ j m=>
  intro x l;rw[ei.oY];unfold ei.cs;simp only[Kb,EW,Ka,J9,NZ,Hi];rw[wg λc k=>m c (by have:=ei.ltB k;omega),wg λc k=>m c (by have:=ei.ltE k;omega),wg λc _=>eY.Tm c,wg λc _=>eY.Tm c];rfl
@[simp]def ei.Tm:oc x.t=true:=ei.Mq _ x (au _)
end
def ei.dQ:∀(p:Nat) (x k:ei),SizeOf.sizeOf x<=p->x.t=k.t->x=k:=by
 intro p;induction p with
 |zero=>intro x k B;cases x;simp at B
 |succ p C=>
  intro x k B h;rw[x.oY,k.oY]at h;unfold ei.cs at h;simp only[T.agg.injEq,bV,T.int.injEq,T.str.injEq,true_and,and_true]at h;obtain⟨w,y,z,A,n,q,r,s,l,o,m⟩:=h;have n:=r9 (λa _ b j=>eY.inj j) (BS n);have l:=r9 (λa _ b j=>eY.inj j) (BS l);have o:=r9 (λa u b j=>C a b (by have:=ei.ltB u;omega) j) (BS o);have m:=r9 (λa u b j=>C a b (by have:=ei.ltE u;omega) j) (BS m);obtain⟨a,b,c,d,i,e,f,g⟩:=x;obtain⟨F,I,J,K,N,v,L,M⟩:=k;simp only[ei.zk,ei.Wf,ei.rG,ei.aa8,ei.us,ei.MQ,ei.xh,ei.Ap]at w y z A n q r s l o m;have E:e=v:=by
   obtain⟨O,Q,S,V⟩:=e;obtain⟨P,R,U,W⟩:=v;simp only[eY.zk,eY.J5,eY.rG,eY.Id]at q r s l;rw[q,r,s,l]
  rw[w,y,z,A,n,E,o,m]
def ei.inj{x j:ei}(h:x.t=j.t):x=j:=ei.dQ _ x j (au _) h
@[simp]theorem ei.fold (a b:Int) (c e:List Nat) (i:List eY) (m l:Int) (k:List Nat) (j:List eY) (f g:List ei):T.agg [G a,G b,.str c,.str e,sl (i.map eY.t),G m,G l,.str k,sl (j.map eY.t),sl (f.map ei.t),sl (g.map ei.t)]=(ei.mk a b c e i ⟨m,l,k,j⟩ f g).t:=by rw[ei.oY];rfl
@[simp]theorem ei.eta (x:ei):ei.mk x.op x.wU x.name x.arg x.index x.e x.body x.Qu=x:=by cases x;rfl
