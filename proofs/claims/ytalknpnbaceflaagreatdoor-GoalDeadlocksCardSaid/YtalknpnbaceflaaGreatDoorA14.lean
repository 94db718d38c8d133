/- D04 -/
import Derived.Test.YtalknpnbaceflaaGreatDoorA8
set_option linter.all false
set_option maxRecDepth 100000
set_option maxHeartbeats 0
namespace Go.Proofs.YtalknpnbaceflaaGreatDoor
noncomputable section
open Go Go.TI
section
inductive fF where
 |mk (op n:Int) (name:List Nat) (l:List fF)
instance :Inhabited fF:=⟨⟨0,0,[],[]⟩⟩
def fF.op:fF->Int|⟨a,_,_,_⟩=>a
def fF.n:fF->Int|⟨_,a,_,_⟩=>a
def fF.name:fF->List Nat|⟨_,_,a,_⟩=>a
def fF.l:fF->List fF|⟨_,_,_,a⟩=>a
@[simp]def fF.Ao (a b:Int) (c:List Nat) (d:List fF):(fF.mk a b c d).op=a:=id rfl
@[simp]def fF.K6 (a b:Int) (c:List Nat) (d:List fF):(fF.mk a b c d).n=b:=id rfl
@[simp]def fF.sw (a b:Int) (c:List Nat) (d:List fF):(fF.mk a b c d).name=c:=id rfl
@[simp]def fF.I8 (a b:Int) (c:List Nat) (d:List fF):(fF.mk a b c d).l=d:=id rfl
def fF.lt{e c:fF}(h:c∈e.l):SizeOf.sizeOf c<SizeOf.sizeOf e:=by
 cases e with
 |mk n k m j=>have:=List.sizeOf_lt_of_mem (show c∈j from h);simp;omega
mutual
def fF.t:fF->T
 |⟨a,b,c,j⟩=> .eZ [C a,C b,.str c,sl (fF.ts j)]
def fF.ts:List fF->List T
 | []=>[]
 |x::j=>x.t::fF.ts j
end
def fF.HH:∀j:List fF,fF.ts j=j.map fF.t
 | []=>by rw[fF.ts];rfl
 |x::k=>by rw[fF.ts,fF.HH k];rfl
def fF.pJ(x:fF):x.t= .eZ [C x.op,C x.n,.str x.name,sl (x.l.map fF.t)]:=by
 cases x;rw[fF.t,fF.HH];rfl
def yI{l k:Type}{f:l->k}{g:k->k}{j:List l}(h:∀x∈j,g (f x)=f x):(j.map f).map g=j.map f:=by
 rw[List.map_map];exact List.map_congr_left h
def ta{m r:Type}{f:m->r}:∀{k j:List m},(∀a∈k,∀b,f a=f b->a=b)->k.map f=j.map f->k=j:=by
 intro k;induction k with
 |nil=>intro j _ h;cases j<;>simp at h;rfl
 |cons x k p=>
  intro j l h;cases j with
  |nil=>simp at h
  |cons q j=>
   simp only[aO,bY]at h;rw[l x G q h.1,p (λa n b o=>l a (by simp[n]) b o) h.2]
def wL{k:Type}{f:k->T}{j:List k}(h:∀x∈j,oQ (f x)=true):nK (j.map f)=true:=by
 induction j with
 |nil=>simp
 |cons x j m=>simp[h x G,m λn l=>h n (by simp[l])]
section
variable (x:fF)(h:H)(d:Nat)
@[simp]theorem fF.XT:x.t.cells=[C x.op,C x.n,.str x.name,sl (x.l.map fF.t)]:=by rw[fF.pJ];rfl
@[simp]theorem fF.afA:NZ x.t=4:=by rw[fF.pJ];rfl
@[simp]theorem fF.aa0:x.t.jc=true:=by rw[fF.pJ];rfl
def fF.UU:∀(j:Nat) (x:fF),SizeOf.sizeOf x<=j->cn x.t=x.t:=by
 intro j;induction j with
 |zero=>intro x k;cases x;simp at k
 |succ j m=>
  intro x k;rw[fF.pJ];simp only[xJ,aO,bF,JI,JH,PB];rw[yI λc l=>m c (by have:=fF.lt l;omega)]
@[simp]def fF.ar:cn x.t=x.t:=fF.UU _ x (ax _)
@[simp]def fF.afn:rZ h x.t=some x.t:=by rw[fF.pJ];simp
@[simp]def fF.afp:Ae h (d+2) x.t=some x.t:=by rw[fF.pJ];simp
@[simp]def fF.Z6:kT x.t=true:=by rw[fF.pJ];simp
def fF.Nl:∀(j:Nat) (x:fF),SizeOf.sizeOf x<=j->oQ x.t=true:=by
 intro j;induction j with
 |zero=>intro x k;cases x;simp at k
 |succ j m=>
  intro x k;rw[fF.pJ];simp only[Ld,FQ,La,K9,Pa,Ib];rw[wL λc l=>m c (by have:=fF.lt l;omega)];rfl
@[simp]def fF.Un:oQ x.t=true:=fF.Nl _ x (ax _)
end
def fF.dX:∀(l:Nat) (x j:fF),SizeOf.sizeOf x<=l->x.t=j.t->x=j:=by
 intro l;induction l with
 |zero=>intro x j p;cases x;simp at p
 |succ l s=>
  intro x j p h;rw[x.pJ,j.pJ]at h;simp only[T.eZ.injEq,bY,T.int.injEq,T.str.injEq,true_and,and_true]at h;obtain⟨m,n,o,k⟩:=h;have k:=ta (λa q b r=>s a b (by have:=fF.lt q;omega) r) (CE k);obtain⟨a,b,c,d⟩:=x;obtain⟨u,v,w,y⟩:=j;simp only[fF.Ao,fF.K6,fF.sw,fF.I8]at m n o k;rw[m,n,o,k]
def fF.inj{x j:fF}(h:x.t=j.t):x=j:=fF.dX _ x j (ax _) h
@[simp]theorem fF.fold (a b:Int) (c:List Nat) (j:List fF):T.eZ [C a,C b,.str c,sl (j.map fF.t)]=(fF.mk a b c j).t:=by rw[fF.pJ];rfl
@[simp]theorem fF.eta (x:fF):fF.mk x.op x.n x.name x.l=x:=by cases x;rfl
inductive eQ where
 |mk (op xx:Int) (name arg:List Nat) (index:List fF) (e:fF) (body Rv:List eQ)
instance :Inhabited eQ:=⟨⟨0,0,[],[],[],default,[],[]⟩⟩
def eQ.op:eQ->Int|⟨a,_,_,_,_,_,_,_⟩=>a
def eQ.xx:eQ->Int|⟨_,a,_,_,_,_,_,_⟩=>a
def eQ.name:eQ->List Nat|⟨_,_,a,_,_,_,_,_⟩=>a
def eQ.arg:eQ->List Nat|⟨_,_,_,a,_,_,_,_⟩=>a
def eQ.index:eQ->List fF|⟨_,_,_,_,a,_,_,_⟩=>a
def eQ.e:eQ->fF|⟨_,_,_,_,_,a,_,_⟩=>a
def eQ.body:eQ->List eQ|⟨_,_,_,_,_,_,a,_⟩=>a
def eQ.Rv:eQ->List eQ|⟨_,_,_,_,_,_,_,a⟩=>a
section
variable (a b:Int)(c d:List Nat)(i:List fF)(e:fF)(f g:List eQ)
@[simp]def eQ.Ao:(eQ.mk a b c d i e f g).op=a:=id rfl
@[simp]def eQ.Xf:(eQ.mk a b c d i e f g).xx=b:=id rfl
@[simp]def eQ.sw:(eQ.mk a b c d i e f g).name=c:=id rfl
@[simp]def eQ.abS:(eQ.mk a b c d i e f g).arg=d:=id rfl
@[simp]def eQ.uR:(eQ.mk a b c d i e f g).index=i:=id rfl
@[simp]def eQ.NQ:(eQ.mk a b c d i e f g).e=e:=id rfl
@[simp]def eQ.xO:(eQ.mk a b c d i e f g).body=f:=id rfl
@[simp]def eQ.A1:(eQ.mk a b c d i e f g).Rv=g:=id rfl
end
def eQ.ltB{j c:eQ}(h:c∈j.body):SizeOf.sizeOf c<SizeOf.sizeOf j:=by
 cases j with
 |mk a b k d i e f g=>have:=List.sizeOf_lt_of_mem (show c∈f from h);simp;omega
def eQ.ltE{j c:eQ}(h:c∈j.Rv):SizeOf.sizeOf c<SizeOf.sizeOf j:=by
 cases j with
 |mk a b k d i e f g=>have:=List.sizeOf_lt_of_mem (show c∈g from h);simp;omega
mutual
def eQ.t:eQ->T
 |⟨a,b,c,d,i,e,f,g⟩=> .eZ [C a,C b,.str c,.str d,sl (i.map fF.t),C e.op,C e.n,.str e.name,sl (e.l.map fF.t),sl (eQ.ts f),sl (eQ.ts g)]
def eQ.ts:List eQ->List T
 | []=>[]
 |x::j=>x.t::eQ.ts j
end
def eQ.HH:∀j:List eQ,eQ.ts j=j.map eQ.t
 | []=>by rw[eQ.ts];rfl
 |x::k=>by rw[eQ.ts,eQ.HH k];rfl
def eQ.cs(x:eQ):List T:=[C x.op,C x.xx,.str x.name,.str x.arg,sl (x.index.map fF.t),C x.e.op,C x.e.n,.str x.e.name,sl (x.e.l.map fF.t),sl (x.body.map eQ.t),sl (x.Rv.map eQ.t)]
def eQ.pJ(x:eQ):x.t= .eZ x.cs:=by
 cases x;rw[eQ.t,eQ.HH,eQ.HH];rfl
section
variable (x:eQ)(h:H)(d:Nat)
@[simp]theorem eQ.XT:x.t.cells=[C x.op,C x.xx,.str x.name,.str x.arg,sl (x.index.map fF.t),C x.e.op,C x.e.n,.str x.e.name,sl (x.e.l.map fF.t),sl (x.body.map eQ.t),sl (x.Rv.map eQ.t)]:=by rw[eQ.pJ];rfl
@[simp]theorem eQ.afA:NZ x.t=11:=by rw[eQ.pJ];rfl
@[simp]theorem eQ.aa0:x.t.jc=true:=by rw[eQ.pJ];rfl
def eQ.UU:∀(j:Nat) (x:eQ),SizeOf.sizeOf x<=j->cn x.t=x.t:=by
 intro j;induction j with
 |zero=>intro x l;cases x;simp at l
 |succ j m=>
  intro x l;rw[eQ.pJ];unfold eQ.cs;simp only[xJ,aO,bF,JI,JH,PB];rw[yI λc k=>m c (by have:=eQ.ltB k;omega),yI λc k=>m c (by have:=eQ.ltE k;omega),yI λc _=>fF.ar c,yI λc _=>fF.ar c]
@[simp]def eQ.ar:cn x.t=x.t:=eQ.UU _ x (ax _)
@[simp]def eQ.afn:rZ h x.t=some x.t:=by rw[eQ.pJ];unfold eQ.cs;simp
@[simp]def eQ.afp:Ae h (d+2) x.t=some x.t:=by rw[eQ.pJ];unfold eQ.cs;simp
@[simp]def eQ.Z6:kT x.t=true:=by rw[eQ.pJ];unfold eQ.cs;simp
def eQ.Nl:∀(j:Nat) (x:eQ),SizeOf.sizeOf x<=j->oQ x.t=true:=by
 intro j;induction j with
 |zero=>intro x l;cases x;simp at l
 |succ j m=>
  intro x l;rw[eQ.pJ];unfold eQ.cs;simp only[Ld,FQ,La,K9,Pa,Ib];rw[wL λc k=>m c (by have:=eQ.ltB k;omega),wL λc k=>m c (by have:=eQ.ltE k;omega),wL λc _=>fF.Un c,wL λc _=>fF.Un c];rfl
@[simp]def eQ.Un:oQ x.t=true:=eQ.Nl _ x (ax _)
end
def eQ.dX:∀(p:Nat) (x k:eQ),SizeOf.sizeOf x<=p->x.t=k.t->x=k:=by
 intro p;induction p with
 |zero=>intro x k D;cases x;simp at D
 |succ p E=>
  intro x k D h;rw[x.pJ,k.pJ]at h;unfold eQ.cs at h;simp only[T.eZ.injEq,bY,T.int.injEq,T.str.injEq,true_and,and_true]at h;obtain⟨w,y,z,A,n,q,r,s,l,o,m⟩:=h;have n:=ta (λa _ b j=>fF.inj j) (CE n);have l:=ta (λa _ b j=>fF.inj j) (CE l);have o:=ta (λa u b j=>E a b (by have:=eQ.ltB u;omega) j) (CE o);have m:=ta (λa u b j=>E a b (by have:=eQ.ltE u;omega) j) (CE m);obtain⟨a,b,c,d,i,e,f,g⟩:=x;obtain⟨I,J,K,L,O,v,M,N⟩:=k;simp only[eQ.Ao,eQ.Xf,eQ.sw,eQ.abS,eQ.uR,eQ.NQ,eQ.xO,eQ.A1]at w y z A n q r s l o m;have F:e=v:=by
   obtain⟨P,R,U,W⟩:=e;obtain⟨Q,S,V,Z⟩:=v;simp only[fF.Ao,fF.K6,fF.sw,fF.I8]at q r s l;rw[q,r,s,l]
  rw[w,y,z,A,n,F,o,m]
def eQ.inj{x j:eQ}(h:x.t=j.t):x=j:=eQ.dX _ x j (ax _) h
@[simp]theorem eQ.fold (a b:Int) (c e:List Nat) (i:List fF) (m l:Int) (k:List Nat) (j:List fF) (f g:List eQ):T.eZ [C a,C b,.str c,.str e,sl (i.map fF.t),C m,C l,.str k,sl (j.map fF.t),sl (f.map eQ.t),sl (g.map eQ.t)]=(eQ.mk a b c e i ⟨m,l,k,j⟩ f g).t:=by rw[eQ.pJ];rfl
@[simp]theorem eQ.eta (x:eQ):eQ.mk x.op x.xx x.name x.arg x.index x.e x.body x.Rv=x:=by cases x;rfl
