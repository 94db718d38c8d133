/- D04 -/
import Derived.Test.YtbappgeamhmmbaaGreatDoorA8
set_option linter.all false
set_option maxRecDepth 100000
set_option maxHeartbeats 0
namespace Go.Proofs.YtbappgeamhmmbaaGreatDoor
noncomputable section
open Go Go.TI
section
inductive dL where
 |mk (op n:Int) (name:List Nat) (l:List dL)
instance :Inhabited dL:=⟨⟨0,0,[],[]⟩⟩
def dL.op:dL->Int|⟨a,_,_,_⟩=>a
def dL.n:dL->Int|⟨_,a,_,_⟩=>a
def dL.name:dL->List Nat|⟨_,_,a,_⟩=>a
def dL.l:dL->List dL|⟨_,_,_,a⟩=>a
@[simp]def dL.wK (a b:Int) (c:List Nat) (d:List dL):(dL.mk a b c d).op=a:=id rfl
@[simp]def dL.Gw (a b:Int) (c:List Nat) (d:List dL):(dL.mk a b c d).n=b:=id rfl
@[simp]def dL.o6 (a b:Int) (c:List Nat) (d:List dL):(dL.mk a b c d).name=c:=id rfl
@[simp]def dL.EP (a b:Int) (c:List Nat) (d:List dL):(dL.mk a b c d).l=d:=id rfl
def dL.lt{e c:dL}(h:c∈e.l):SizeOf.sizeOf c<SizeOf.sizeOf e:=by
 cases e with
 |mk n k m j=>have:=List.sizeOf_lt_of_mem (show c∈j from h);simp;omega
mutual
def dL.t:dL->T
 |⟨a,b,c,j⟩=> .agg [D a,D b,.str c,sl (dL.ts j)]
def dL.ts:List dL->List T
 | []=>[]
 |x::j=>x.t::dL.ts j
end
def dL.DA:∀j:List dL,dL.ts j=j.map dL.t
 | []=>by rw[dL.ts];rfl
 |x::k=>by rw[dL.ts,dL.DA k];rfl
def dL.mS(x:dL):x.t= .agg [D x.op,D x.n,.str x.name,sl (x.l.map dL.t)]:=by
 cases x;rw[dL.t,dL.DA];rfl
def u9{l k:Type}{f:l->k}{g:k->k}{j:List l}(h:∀x∈j,g (f x)=f x):(j.map f).map g=j.map f:=by
 rw[cz];exact List.map_congr_left h
def pz{m r:Type}{f:m->r}:∀{k j:List m},(∀a∈k,∀b,f a=f b->a=b)->k.map f=j.map f->k=j:=by
 intro k;induction k with
 |nil=>intro j _ h;cases j<;>simp at h;rfl
 |cons x k p=>
  intro j l h;cases j with
  |nil=>simp at h
  |cons q j=>
   simp only[aP,bI]at h;rw[l x J q h.1,p (λa n b o=>l a (by simp[n]) b o) h.2]
def tj{k:Type}{f:k->T}{j:List k}(h:∀x∈j,my (f x)=true):lI (j.map f)=true:=by
 induction j with
 |nil=>simp
 |cons x j m=>simp[h x J,m λn l=>h n (by simp[l])]
section
variable (x:dL)(h:H)(d:Nat)
@[simp]theorem dL.RL:x.t.cells=[D x.op,D x.n,.str x.name,sl (x.l.map dL.t)]:=by rw[dL.mS];rfl
@[simp]theorem dL.abI:Eg x.t=4:=by rw[dL.mS];rfl
@[simp]theorem dL.VU:x.t.fg=true:=by rw[dL.mS];rfl
def dL.O8:∀(j:Nat) (x:dL),SizeOf.sizeOf x<=j->cn x.t=x.t:=by
 intro j;induction j with
 |zero=>intro x k;cases x;simp at k
 |succ j m=>
  intro x k;rw[dL.mS];simp only[uk,aP,bY,Ff,Fe,Kl];rw[u9 λc l=>m c (by have:=dL.lt l;omega)]
@[simp]def dL.Wu:cn x.t=x.t:=dL.O8 _ x (au _)
@[simp]def dL.abs:qA h x.t=some x.t:=by rw[dL.mS];simp
@[simp]def dL.abw:wn h (d+2) x.t=some x.t:=by rw[dL.mS];simp
@[simp]def dL.US:jJ x.t=true:=by rw[dL.mS];simp
def dL.IC:∀(j:Nat) (x:dL),SizeOf.sizeOf x<=j->my x.t=true:=by
 intro j;induction j with
 |zero=>intro x k;cases x;simp at k
 |succ j m=>
  intro x k;rw[dL.mS];simp only[GC,B9,GA,Gz,J4,D3];rw[tj λc l=>m c (by have:=dL.lt l;omega)];rfl
@[simp]def dL.Ox:my x.t=true:=dL.IC _ x (au _)
end
def dL.VS:∀(l:Nat) (x j:dL),SizeOf.sizeOf x<=l->x.t=j.t->x=j:=by
 intro l;induction l with
 |zero=>intro x j p;cases x;simp at p
 |succ l s=>
  intro x j p h;rw[x.mS,j.mS]at h;simp only[T.agg.injEq,bI,T.int.injEq,T.str.injEq,true_and,and_true]at h;obtain⟨m,n,o,k⟩:=h;have k:=pz (λa q b r=>s a b (by have:=dL.lt q;omega) r) (zh k);obtain⟨a,b,c,d⟩:=x;obtain⟨u,v,w,y⟩:=j;simp only[dL.wK,dL.Gw,dL.o6,dL.EP]at m n o k;rw[m,n,o,k]
def dL.inj{x j:dL}(h:x.t=j.t):x=j:=dL.VS _ x j (au _) h
@[simp]theorem dL.fold (a b:Int) (c:List Nat) (j:List dL):T.agg [D a,D b,.str c,sl (j.map dL.t)]=(dL.mk a b c j).t:=by rw[dL.mS];rfl
@[simp]theorem dL.eta (x:dL):dL.mk x.op x.n x.name x.l=x:=by cases x;rfl
inductive dH where
 |mk (op ud:Int) (name arg:List Nat) (index:List dL) (e:dL) (body LV:List dH)
instance :Inhabited dH:=⟨⟨0,0,[],[],[],default,[],[]⟩⟩
def dH.op:dH->Int|⟨a,_,_,_,_,_,_,_⟩=>a
def dH.ud:dH->Int|⟨_,a,_,_,_,_,_,_⟩=>a
def dH.name:dH->List Nat|⟨_,_,a,_,_,_,_,_⟩=>a
def dH.arg:dH->List Nat|⟨_,_,_,a,_,_,_,_⟩=>a
def dH.index:dH->List dL|⟨_,_,_,_,a,_,_,_⟩=>a
def dH.e:dH->dL|⟨_,_,_,_,_,a,_,_⟩=>a
def dH.body:dH->List dH|⟨_,_,_,_,_,_,a,_⟩=>a
def dH.LV:dH->List dH|⟨_,_,_,_,_,_,_,a⟩=>a
section
variable (a b:Int)(c d:List Nat)(i:List dL)(e:dL)(f g:List dH)
@[simp]def dH.wK:(dH.mk a b c d i e f g).op=a:=id rfl
@[simp]def dH.Rc:(dH.mk a b c d i e f g).ud=b:=id rfl
@[simp]def dH.o6:(dH.mk a b c d i e f g).name=c:=id rfl
@[simp]def dH.Xb:(dH.mk a b c d i e f g).arg=d:=id rfl
@[simp]def dH.qV:(dH.mk a b c d i e f g).index=i:=id rfl
@[simp]def dH.I3:(dH.mk a b c d i e f g).e=e:=id rfl
@[simp]def dH.un:(dH.mk a b c d i e f g).body=f:=id rfl
@[simp]def dH.xy:(dH.mk a b c d i e f g).LV=g:=id rfl
end
def dH.ltB{j c:dH}(h:c∈j.body):SizeOf.sizeOf c<SizeOf.sizeOf j:=by
 cases j with
 |mk a b k d i e f g=>have:=List.sizeOf_lt_of_mem (show c∈f from h);simp;omega
def dH.ltE{j c:dH}(h:c∈j.LV):SizeOf.sizeOf c<SizeOf.sizeOf j:=by
 cases j with
 |mk a b k d i e f g=>have:=List.sizeOf_lt_of_mem (show c∈g from h);simp;omega
mutual
def dH.t:dH->T
 |⟨a,b,c,d,i,e,f,g⟩=> .agg [D a,D b,.str c,.str d,sl (i.map dL.t),D e.op,D e.n,.str e.name,sl (e.l.map dL.t),sl (dH.ts f),sl (dH.ts g)]
def dH.ts:List dH->List T
 | []=>[]
 |x::j=>x.t::dH.ts j
end
def dH.DA:∀j:List dH,dH.ts j=j.map dH.t
 | []=>by rw[dH.ts];rfl
 |x::k=>by rw[dH.ts,dH.DA k];rfl
def dH.cs(x:dH):List T:=[D x.op,D x.ud,.str x.name,.str x.arg,sl (x.index.map dL.t),D x.e.op,D x.e.n,.str x.e.name,sl (x.e.l.map dL.t),sl (x.body.map dH.t),sl (x.LV.map dH.t)]
def dH.mS(x:dH):x.t= .agg x.cs:=by
 cases x;rw[dH.t,dH.DA,dH.DA];rfl
section
variable (x:dH)(h:H)(d:Nat)
@[simp]theorem dH.RL:x.t.cells=[D x.op,D x.ud,.str x.name,.str x.arg,sl (x.index.map dL.t),D x.e.op,D x.e.n,.str x.e.name,sl (x.e.l.map dL.t),sl (x.body.map dH.t),sl (x.LV.map dH.t)]:=by rw[dH.mS];rfl
@[simp]theorem dH.abI:Eg x.t=11:=by rw[dH.mS];rfl
@[simp]theorem dH.VU:x.t.fg=true:=by rw[dH.mS];rfl
def dH.O8:∀(j:Nat) (x:dH),SizeOf.sizeOf x<=j->cn x.t=x.t:=by
 intro j;induction j with
 |zero=>intro x l;cases x;simp at l
 |succ j m=>
  intro x l;rw[dH.mS];unfold dH.cs;simp only[uk,aP,bY,Ff,Fe,Kl];rw[u9 λc k=>m c (by have:=dH.ltB k;omega),u9 λc k=>m c (by have:=dH.ltE k;omega),u9 λc _=>dL.Wu c,u9 λc _=>dL.Wu c]
@[simp]def dH.Wu:cn x.t=x.t:=dH.O8 _ x (au _)
@[simp]def dH.abs:qA h x.t=some x.t:=by rw[dH.mS];unfold dH.cs;simp
@[simp]def dH.abw:wn h (d+2) x.t=some x.t:=by rw[dH.mS];unfold dH.cs;simp
@[simp]def dH.US:jJ x.t=true:=by rw[dH.mS];unfold dH.cs;simp
def dH.IC:∀(j:Nat) (x:dH),SizeOf.sizeOf x<=j->my x.t=true:=by
 intro j;induction j with
 |zero=>intro x l;cases x;simp at l
 |succ j m=>
  intro x l;rw[dH.mS];unfold dH.cs;simp only[GC,B9,GA,Gz,J4,D3];rw[tj λc k=>m c (by have:=dH.ltB k;omega),tj λc k=>m c (by have:=dH.ltE k;omega),tj λc _=>dL.Ox c,tj λc _=>dL.Ox c];rfl
@[simp]def dH.Ox:my x.t=true:=dH.IC _ x (au _)
end
def dH.VS:∀(p:Nat) (x k:dH),SizeOf.sizeOf x<=p->x.t=k.t->x=k:=by
 intro p;induction p with
 |zero=>intro x k C;cases x;simp at C
 |succ p E=>
  intro x k C h;rw[x.mS,k.mS]at h;unfold dH.cs at h;simp only[T.agg.injEq,bI,T.int.injEq,T.str.injEq,true_and,and_true]at h;obtain⟨w,y,z,A,n,q,r,s,l,o,m⟩:=h;have n:=pz (λa _ b j=>dL.inj j) (zh n);have l:=pz (λa _ b j=>dL.inj j) (zh l);have o:=pz (λa u b j=>E a b (by have:=dH.ltB u;omega) j) (zh o);have m:=pz (λa u b j=>E a b (by have:=dH.ltE u;omega) j) (zh m);obtain⟨a,b,c,d,i,e,f,g⟩:=x;obtain⟨G,I,K,L,O,v,M,N⟩:=k;simp only[dH.wK,dH.Rc,dH.o6,dH.Xb,dH.qV,dH.I3,dH.un,dH.xy]at w y z A n q r s l o m;have F:e=v:=by
   obtain⟨P,R,U,W⟩:=e;obtain⟨Q,S,V,X⟩:=v;simp only[dL.wK,dL.Gw,dL.o6,dL.EP]at q r s l;rw[q,r,s,l]
  rw[w,y,z,A,n,F,o,m]
def dH.inj{x j:dH}(h:x.t=j.t):x=j:=dH.VS _ x j (au _) h
@[simp]theorem dH.fold (a b:Int) (c e:List Nat) (i:List dL) (m l:Int) (k:List Nat) (j:List dL) (f g:List dH):T.agg [D a,D b,.str c,.str e,sl (i.map dL.t),D m,D l,.str k,sl (j.map dL.t),sl (f.map dH.t),sl (g.map dH.t)]=(dH.mk a b c e i ⟨m,l,k,j⟩ f g).t:=by rw[dH.mS];rfl
@[simp]theorem dH.eta (x:dH):dH.mk x.op x.ud x.name x.arg x.index x.e x.body x.LV=x:=by cases x;rfl
