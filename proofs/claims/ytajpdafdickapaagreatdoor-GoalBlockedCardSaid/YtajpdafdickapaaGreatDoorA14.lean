/- D04 -/
import Derived.Test.YtajpdafdickapaaGreatDoorA8
set_option linter.all false
set_option maxRecDepth 100000
set_option maxHeartbeats 8000000
namespace Go.Proofs.YtajpdafdickapaaGreatDoor
noncomputable section
open Go Go.TI
section
inductive dU where
 |mk (op n:Int) (name:List Nat) (l:List dU)
instance :Inhabited dU:=⟨⟨0,0,[],[]⟩⟩
def dU.op:dU->Int|⟨a,_,_,_⟩=>a
def dU.n:dU->Int|⟨_,a,_,_⟩=>a
def dU.name:dU->List Nat|⟨_,_,a,_⟩=>a
def dU.l:dU->List dU|⟨_,_,_,a⟩=>a
@[simp]def dU.wA (a b:Int) (c:List Nat) (d:List dU):(dU.mk a b c d).op=a:=id rfl
@[simp]def dU.Gy (a b:Int) (c:List Nat) (d:List dU):(dU.mk a b c d).n=b:=id rfl
@[simp]def dU.o7 (a b:Int) (c:List Nat) (d:List dU):(dU.mk a b c d).name=c:=id rfl
@[simp]def dU.GD (a b:Int) (c:List Nat) (d:List dU):(dU.mk a b c d).l=d:=id rfl
def dU.lt{e c:dU}(h:c∈e.l):SizeOf.sizeOf c<SizeOf.sizeOf e:=by
 cases e with
 |mk n k m j=>have:=List.sizeOf_lt_of_mem (show c∈j from h);simp;omega
mutual
def dU.t:dU->T
 |⟨a,b,c,j⟩=> .agg [Z a,Z b,.str c,sl (dU.ts j)]
def dU.ts:List dU->List T
 | []=>[]
 |x::j=>x.t::dU.ts j
end
def dU.Fg:∀j:List dU,dU.ts j=j.map dU.t
 | []=>by rw[dU.ts];rfl
 |x::k=>by rw[dU.ts,dU.Fg k];rfl
def dU.nP(x:dU):x.t= .agg [Z x.op,Z x.n,.str x.name,sl (x.l.map dU.t)]:=by
 cases x;rw[dU.t,dU.Fg];rfl
def wC{l k:Type}{f:l->k}{g:k->k}{j:List l}(h:∀x∈j,g (f x)=f x):(j.map f).map g=j.map f:=by
 rw[cI];exact List.map_congr_left h
def qB{m r:Type}{f:m->r}:∀{k j:List m},(∀a∈k,∀b,f a=f b->a=b)->k.map f=j.map f->k=j:=by
 intro k;induction k with
 |nil=>intro j _ h;cases j<;>simp at h;rfl
 |cons x k p=>
  intro j l h;cases j with
  |nil=>simp at h
  |cons q j=>
   simp only[aP,aL]at h;rw[l x dy q h.1,p (λa n b o=>l a (by simp[n]) b o) h.2]
def uw{k:Type}{f:k->T}{j:List k}(h:∀x∈j,ni (f x)=true):mp (j.map f)=true:=by
 induction j with
 |nil=>simp
 |cons x j m=>simp[h x dy,m λn l=>h n (by simp[l])]
section
variable (x:dU)(h:H)(d:Nat)
@[simp]theorem dU.T9:x.t.cells=[Z x.op,Z x.n,.str x.name,sl (x.l.map dU.t)]:=by rw[dU.nP];rfl
@[simp]theorem dU.acm:L9 x.t=4:=by rw[dU.nP];rfl
@[simp]theorem dU.Xq:x.t.iy=true:=by rw[dU.nP];rfl
def dU.Rk:∀(j:Nat) (x:dU),SizeOf.sizeOf x<=j->cn x.t=x.t:=by
 intro j;induction j with
 |zero=>intro x k;cases x;simp at k
 |succ j m=>
  intro x k;rw[dU.nP];simp only[jN,aP,bI,Hg,Hf,Mc];rw[wC λc l=>m c (by have:=dU.lt l;omega)]
@[simp]def dU.XT:cn x.t=x.t:=dU.Rk _ x (aw _)
@[simp]def dU.ab9:rS h x.t=some x.t:=by rw[dU.nP];simp
@[simp]def dU.acb:xS h (d+2) x.t=some x.t:=by rw[dU.nP];simp
@[simp]def dU.Wg:j2 x.t=true:=by rw[dU.nP];simp
def dU.Kq:∀(j:Nat) (x:dU),SizeOf.sizeOf x<=j->ni x.t=true:=by
 intro j;induction j with
 |zero=>intro x k;cases x;simp at k
 |succ j m=>
  intro x k;rw[dU.nP];simp only[Ix,DC,Iw,Iv,LO,FO];rw[uw λc l=>m c (by have:=dU.lt l;omega)];rfl
@[simp]def dU.QP:ni x.t=true:=dU.Kq _ x (aw _)
end
def dU.Xo:∀(l:Nat) (x j:dU),SizeOf.sizeOf x<=l->x.t=j.t->x=j:=by
 intro l;induction l with
 |zero=>intro x j p;cases x;simp at p
 |succ l s=>
  intro x j p h;rw[x.nP,j.nP]at h;simp only[T.agg.injEq,aL,T.int.injEq,T.str.injEq,true_and,and_true]at h;obtain⟨m,n,o,k⟩:=h;have k:=qB (λa q b r=>s a b (by have:=dU.lt q;omega) r) (As k);obtain⟨a,b,c,d⟩:=x;obtain⟨u,v,w,y⟩:=j;simp only[dU.wA,dU.Gy,dU.o7,dU.GD]at m n o k;rw[m,n,o,k]
def dU.inj{x j:dU}(h:x.t=j.t):x=j:=dU.Xo _ x j (aw _) h
@[simp]theorem dU.fold (a b:Int) (c:List Nat) (j:List dU):T.agg [Z a,Z b,.str c,sl (j.map dU.t)]=(dU.mk a b c j).t:=by rw[dU.nP];rfl
@[simp]theorem dU.eta (x:dU):dU.mk x.op x.n x.name x.l=x:=by cases x;rfl
inductive dO where
 |mk (op uX:Int) (name arg:List Nat) (index:List dU) (e:dU) (body NW:List dO)
instance :Inhabited dO:=⟨⟨0,0,[],[],[],default,[],[]⟩⟩
def dO.op:dO->Int|⟨a,_,_,_,_,_,_,_⟩=>a
def dO.uX:dO->Int|⟨_,a,_,_,_,_,_,_⟩=>a
def dO.name:dO->List Nat|⟨_,_,a,_,_,_,_,_⟩=>a
def dO.arg:dO->List Nat|⟨_,_,_,a,_,_,_,_⟩=>a
def dO.index:dO->List dU|⟨_,_,_,_,a,_,_,_⟩=>a
def dO.e:dO->dU|⟨_,_,_,_,_,a,_,_⟩=>a
def dO.body:dO->List dO|⟨_,_,_,_,_,_,a,_⟩=>a
def dO.NW:dO->List dO|⟨_,_,_,_,_,_,_,a⟩=>a
section
variable (a b:Int)(c d:List Nat)(i:List dU)(e:dU)(f g:List dO)
@[simp]def dO.wA:(dO.mk a b c d i e f g).op=a:=id rfl
@[simp]def dO.Tz:(dO.mk a b c d i e f g).uX=b:=id rfl
@[simp]def dO.o7:(dO.mk a b c d i e f g).name=c:=id rfl
@[simp]def dO.Yl:(dO.mk a b c d i e f g).arg=d:=id rfl
@[simp]def dO.sx:(dO.mk a b c d i e f g).index=i:=id rfl
@[simp]def dO.KM:(dO.mk a b c d i e f g).e=e:=id rfl
@[simp]def dO.vi:(dO.mk a b c d i e f g).body=f:=id rfl
@[simp]def dO.yB:(dO.mk a b c d i e f g).NW=g:=id rfl
end
def dO.ltB{j c:dO}(h:c∈j.body):SizeOf.sizeOf c<SizeOf.sizeOf j:=by
 cases j with
 |mk a b k d i e f g=>have:=List.sizeOf_lt_of_mem (show c∈f from h);simp;omega
def dO.ltE{j c:dO}(h:c∈j.NW):SizeOf.sizeOf c<SizeOf.sizeOf j:=by
 cases j with
 |mk a b k d i e f g=>have:=List.sizeOf_lt_of_mem (show c∈g from h);simp;omega
mutual
def dO.t:dO->T
 |⟨a,b,c,d,i,e,f,g⟩=> .agg [Z a,Z b,.str c,.str d,sl (i.map dU.t),Z e.op,Z e.n,.str e.name,sl (e.l.map dU.t),sl (dO.ts f),sl (dO.ts g)]
def dO.ts:List dO->List T
 | []=>[]
 |x::j=>x.t::dO.ts j
end
def dO.Fg:∀j:List dO,dO.ts j=j.map dO.t
 | []=>by rw[dO.ts];rfl
 |x::k=>by rw[dO.ts,dO.Fg k];rfl
def dO.cs(x:dO):List T:=[Z x.op,Z x.uX,.str x.name,.str x.arg,sl (x.index.map dU.t),Z x.e.op,Z x.e.n,.str x.e.name,sl (x.e.l.map dU.t),sl (x.body.map dO.t),sl (x.NW.map dO.t)]
def dO.nP(x:dO):x.t= .agg x.cs:=by
 cases x;rw[dO.t,dO.Fg,dO.Fg];rfl
section
variable (x:dO)(h:H)(d:Nat)
@[simp]theorem dO.T9:x.t.cells=[Z x.op,Z x.uX,.str x.name,.str x.arg,sl (x.index.map dU.t),Z x.e.op,Z x.e.n,.str x.e.name,sl (x.e.l.map dU.t),sl (x.body.map dO.t),sl (x.NW.map dO.t)]:=by rw[dO.nP];rfl
@[simp]theorem dO.acm:L9 x.t=11:=by rw[dO.nP];rfl
@[simp]theorem dO.Xq:x.t.iy=true:=by rw[dO.nP];rfl
def dO.Rk:∀(j:Nat) (x:dO),SizeOf.sizeOf x<=j->cn x.t=x.t:=by
 intro j;induction j with
 |zero=>intro x l;cases x;simp at l
 |succ j m=>
  intro x l;rw[dO.nP];unfold dO.cs;simp only[jN,aP,bI,Hg,Hf,Mc];rw[wC λc k=>m c (by have:=dO.ltB k;omega),wC λc k=>m c (by have:=dO.ltE k;omega),wC λc _=>dU.XT c,wC λc _=>dU.XT c]
@[simp]def dO.XT:cn x.t=x.t:=dO.Rk _ x (aw _)
@[simp]def dO.ab9:rS h x.t=some x.t:=by rw[dO.nP];unfold dO.cs;simp
@[simp]def dO.acb:xS h (d+2) x.t=some x.t:=by rw[dO.nP];unfold dO.cs;simp
@[simp]def dO.Wg:j2 x.t=true:=by rw[dO.nP];unfold dO.cs;simp
def dO.Kq:∀(j:Nat) (x:dO),SizeOf.sizeOf x<=j->ni x.t=true:=by
 intro j;induction j with
 |zero=>intro x l;cases x;simp at l
 |succ j m=>
  intro x l;rw[dO.nP];unfold dO.cs;simp only[Ix,DC,Iw,Iv,LO,FO];rw[uw λc k=>m c (by have:=dO.ltB k;omega),uw λc k=>m c (by have:=dO.ltE k;omega),uw λc _=>dU.QP c,uw λc _=>dU.QP c];rfl
@[simp]def dO.QP:ni x.t=true:=dO.Kq _ x (aw _)
end
def dO.Xo:∀(p:Nat) (x k:dO),SizeOf.sizeOf x<=p->x.t=k.t->x=k:=by
 intro p;induction p with
 |zero=>intro x k B;cases x;simp at B
 |succ p C=>
  intro x k B h;rw[x.nP,k.nP]at h;unfold dO.cs at h;simp only[T.agg.injEq,aL,T.int.injEq,T.str.injEq,true_and,and_true]at h;obtain⟨w,y,z,A,n,q,r,s,l,o,m⟩:=h;have n:=qB (λa _ b j=>dU.inj j) (As n);have l:=qB (λa _ b j=>dU.inj j) (As l);have o:=qB (λa u b j=>C a b (by have:=dO.ltB u;omega) j) (As o);have m:=qB (λa u b j=>C a b (by have:=dO.ltE u;omega) j) (As m);obtain⟨a,b,c,d,i,e,f,g⟩:=x;obtain⟨E,F,G,I,M,v,K,L⟩:=k;simp only[dO.wA,dO.Tz,dO.o7,dO.Yl,dO.sx,dO.KM,dO.vi,dO.yB]at w y z A n q r s l o m;have D:e=v:=by
   obtain⟨N,P,R,U⟩:=e;obtain⟨O,Q,S,V⟩:=v;simp only[dU.wA,dU.Gy,dU.o7,dU.GD]at q r s l;rw[q,r,s,l]
  rw[w,y,z,A,n,D,o,m]
def dO.inj{x j:dO}(h:x.t=j.t):x=j:=dO.Xo _ x j (aw _) h
@[simp]theorem dO.fold (a b:Int) (c e:List Nat) (i:List dU) (m l:Int) (k:List Nat) (j:List dU) (f g:List dO):T.agg [Z a,Z b,.str c,.str e,sl (i.map dU.t),Z m,Z l,.str k,sl (j.map dU.t),sl (f.map dO.t),sl (g.map dO.t)]=(dO.mk a b c e i ⟨m,l,k,j⟩ f g).t:=by rw[dO.nP];rfl
@[simp]theorem dO.eta (x:dO):dO.mk x.op x.uX x.name x.arg x.index x.e x.body x.NW=x:=by cases x;rfl
