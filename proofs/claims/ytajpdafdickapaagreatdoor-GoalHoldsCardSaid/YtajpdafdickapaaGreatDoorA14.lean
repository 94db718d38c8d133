/- D04 -/
import Derived.Test.YtajpdafdickapaaGreatDoorA8
set_option linter.all false
set_option maxRecDepth 100000
set_option maxHeartbeats 8000000
namespace Go.Proofs.YtajpdafdickapaaGreatDoor
noncomputable section
open Go Go.TI
section
inductive dV where
 |mk (op n:Int) (name:List Nat) (l:List dV)
instance :Inhabited dV:=⟨⟨0,0,[],[]⟩⟩
def dV.op:dV->Int|⟨a,_,_,_⟩=>a
def dV.n:dV->Int|⟨_,a,_,_⟩=>a
def dV.name:dV->List Nat|⟨_,_,a,_⟩=>a
def dV.l:dV->List dV|⟨_,_,_,a⟩=>a
@[simp]def dV.wI (a b:Int) (c:List Nat) (d:List dV):(dV.mk a b c d).op=a:=id rfl
@[simp]def dV.GT (a b:Int) (c:List Nat) (d:List dV):(dV.mk a b c d).n=b:=id rfl
@[simp]def dV.pw (a b:Int) (c:List Nat) (d:List dV):(dV.mk a b c d).name=c:=id rfl
@[simp]def dV.GY (a b:Int) (c:List Nat) (d:List dV):(dV.mk a b c d).l=d:=id rfl
def dV.lt{e c:dV}(h:c∈e.l):SizeOf.sizeOf c<SizeOf.sizeOf e:=by
 cases e with
 |mk n k m j=>have:=List.sizeOf_lt_of_mem (show c∈j from h);simp;omega
mutual
def dV.t:dV->T
 |⟨a,b,c,j⟩=> .agg [Z a,Z b,.str c,sl (dV.ts j)]
def dV.ts:List dV->List T
 | []=>[]
 |x::j=>x.t::dV.ts j
end
def dV.Fl:∀j:List dV,dV.ts j=j.map dV.t
 | []=>by rw[dV.ts];rfl
 |x::k=>by rw[dV.ts,dV.Fl k];rfl
def dV.nU(x:dV):x.t= .agg [Z x.op,Z x.n,.str x.name,sl (x.l.map dV.t)]:=by
 cases x;rw[dV.t,dV.Fl];rfl
def wK{l k:Type}{f:l->k}{g:k->k}{j:List l}(h:∀x∈j,g (f x)=f x):(j.map f).map g=j.map f:=by
 rw[cO];exact List.map_congr_left h
def qI{m r:Type}{f:m->r}:∀{k j:List m},(∀a∈k,∀b,f a=f b->a=b)->k.map f=j.map f->k=j:=by
 intro k;induction k with
 |nil=>intro j _ h;cases j<;>simp at h;rfl
 |cons x k p=>
  intro j l h;cases j with
  |nil=>simp at h
  |cons q j=>
   simp only[aP,aL]at h;rw[l x dy q h.1,p (λa n b o=>l a (by simp[n]) b o) h.2]
def uE{k:Type}{f:k->T}{j:List k}(h:∀x∈j,nz (f x)=true):mv (j.map f)=true:=by
 induction j with
 |nil=>simp
 |cons x j m=>simp[h x dy,m λn l=>h n (by simp[l])]
section
variable (x:dV)(h:H)(d:Nat)
@[simp]theorem dV.U3:x.t.cells=[Z x.op,Z x.n,.str x.name,sl (x.l.map dV.t)]:=by rw[dV.nU];rfl
@[simp]theorem dV.adb:MK x.t=4:=by rw[dV.nU];rfl
@[simp]theorem dV.Yn:x.t.ir=true:=by rw[dV.nU];rfl
def dV.Sa:∀(j:Nat) (x:dV),SizeOf.sizeOf x<=j->cn x.t=x.t:=by
 intro j;induction j with
 |zero=>intro x k;cases x;simp at k
 |succ j m=>
  intro x k;rw[dV.nU];simp only[jR,aP,bJ,HJ,HI,MM];rw[wK λc l=>m c (by have:=dV.lt l;omega)]
@[simp]def dV.YO:cn x.t=x.t:=dV.Sa _ x (au _)
@[simp]def dV.acZ:qP h x.t=some x.t:=by rw[dV.nU];simp
@[simp]def dV.ac1:ye h (d+2) x.t=some x.t:=by rw[dV.nU];simp
@[simp]def dV.Xp:j4 x.t=true:=by rw[dV.nU];simp
def dV.KW:∀(j:Nat) (x:dV),SizeOf.sizeOf x<=j->nz x.t=true:=by
 intro j;induction j with
 |zero=>intro x k;cases x;simp at k
 |succ j m=>
  intro x k;rw[dV.nU];simp only[IW,Dx,IV,IU,Mp,FV];rw[uE λc l=>m c (by have:=dV.lt l;omega)];rfl
@[simp]def dV.Rv:nz x.t=true:=dV.KW _ x (au _)
end
def dV.Yl:∀(l:Nat) (x j:dV),SizeOf.sizeOf x<=l->x.t=j.t->x=j:=by
 intro l;induction l with
 |zero=>intro x j p;cases x;simp at p
 |succ l s=>
  intro x j p h;rw[x.nU,j.nU]at h;simp only[T.agg.injEq,aL,T.int.injEq,T.str.injEq,true_and,and_true]at h;obtain⟨m,n,o,k⟩:=h;have k:=qI (λa q b r=>s a b (by have:=dV.lt q;omega) r) (AG k);obtain⟨a,b,c,d⟩:=x;obtain⟨u,v,w,y⟩:=j;simp only[dV.wI,dV.GT,dV.pw,dV.GY]at m n o k;rw[m,n,o,k]
def dV.inj{x j:dV}(h:x.t=j.t):x=j:=dV.Yl _ x j (au _) h
@[simp]theorem dV.fold (a b:Int) (c:List Nat) (j:List dV):T.agg [Z a,Z b,.str c,sl (j.map dV.t)]=(dV.mk a b c j).t:=by rw[dV.nU];rfl
@[simp]theorem dV.eta (x:dV):dV.mk x.op x.n x.name x.l=x:=by cases x;rfl
inductive dO where
 |mk (op vi:Int) (name arg:List Nat) (index:List dV) (e:dV) (body OH:List dO)
instance :Inhabited dO:=⟨⟨0,0,[],[],[],default,[],[]⟩⟩
def dO.op:dO->Int|⟨a,_,_,_,_,_,_,_⟩=>a
def dO.vi:dO->Int|⟨_,a,_,_,_,_,_,_⟩=>a
def dO.name:dO->List Nat|⟨_,_,a,_,_,_,_,_⟩=>a
def dO.arg:dO->List Nat|⟨_,_,_,a,_,_,_,_⟩=>a
def dO.index:dO->List dV|⟨_,_,_,_,a,_,_,_⟩=>a
def dO.e:dO->dV|⟨_,_,_,_,_,a,_,_⟩=>a
def dO.body:dO->List dO|⟨_,_,_,_,_,_,a,_⟩=>a
def dO.OH:dO->List dO|⟨_,_,_,_,_,_,_,a⟩=>a
section
variable (a b:Int)(c d:List Nat)(i:List dV)(e:dV)(f g:List dO)
@[simp]def dO.wI:(dO.mk a b c d i e f g).op=a:=id rfl
@[simp]def dO.Uv:(dO.mk a b c d i e f g).vi=b:=id rfl
@[simp]def dO.pw:(dO.mk a b c d i e f g).name=c:=id rfl
@[simp]def dO.Zd:(dO.mk a b c d i e f g).arg=d:=id rfl
@[simp]def dO.sr:(dO.mk a b c d i e f g).index=i:=id rfl
@[simp]def dO.Lm:(dO.mk a b c d i e f g).e=e:=id rfl
@[simp]def dO.vD:(dO.mk a b c d i e f g).body=f:=id rfl
@[simp]def dO.yK:(dO.mk a b c d i e f g).OH=g:=id rfl
end
def dO.ltB{j c:dO}(h:c∈j.body):SizeOf.sizeOf c<SizeOf.sizeOf j:=by
 cases j with
 |mk a b k d i e f g=>have:=List.sizeOf_lt_of_mem (show c∈f from h);simp;omega
def dO.ltE{j c:dO}(h:c∈j.OH):SizeOf.sizeOf c<SizeOf.sizeOf j:=by
 cases j with
 |mk a b k d i e f g=>have:=List.sizeOf_lt_of_mem (show c∈g from h);simp;omega
mutual
def dO.t:dO->T
 |⟨a,b,c,d,i,e,f,g⟩=> .agg [Z a,Z b,.str c,.str d,sl (i.map dV.t),Z e.op,Z e.n,.str e.name,sl (e.l.map dV.t),sl (dO.ts f),sl (dO.ts g)]
def dO.ts:List dO->List T
 | []=>[]
 |x::j=>x.t::dO.ts j
end
def dO.Fl:∀j:List dO,dO.ts j=j.map dO.t
 | []=>by rw[dO.ts];rfl
 |x::k=>by rw[dO.ts,dO.Fl k];rfl
def dO.cs(x:dO):List T:=[Z x.op,Z x.vi,.str x.name,.str x.arg,sl (x.index.map dV.t),Z x.e.op,Z x.e.n,.str x.e.name,sl (x.e.l.map dV.t),sl (x.body.map dO.t),sl (x.OH.map dO.t)]
def dO.nU(x:dO):x.t= .agg x.cs:=by
 cases x;rw[dO.t,dO.Fl,dO.Fl];rfl
section
variable (x:dO)(h:H)(d:Nat)
@[simp]theorem dO.U3:x.t.cells=[Z x.op,Z x.vi,.str x.name,.str x.arg,sl (x.index.map dV.t),Z x.e.op,Z x.e.n,.str x.e.name,sl (x.e.l.map dV.t),sl (x.body.map dO.t),sl (x.OH.map dO.t)]:=by rw[dO.nU];rfl
@[simp]theorem dO.adb:MK x.t=11:=by rw[dO.nU];rfl
@[simp]theorem dO.Yn:x.t.ir=true:=by rw[dO.nU];rfl
def dO.Sa:∀(j:Nat) (x:dO),SizeOf.sizeOf x<=j->cn x.t=x.t:=by
 intro j;induction j with
 |zero=>intro x l;cases x;simp at l
 |succ j m=>
  intro x l;rw[dO.nU];unfold dO.cs;simp only[jR,aP,bJ,HJ,HI,MM];rw[wK λc k=>m c (by have:=dO.ltB k;omega),wK λc k=>m c (by have:=dO.ltE k;omega),wK λc _=>dV.YO c,wK λc _=>dV.YO c]
@[simp]def dO.YO:cn x.t=x.t:=dO.Sa _ x (au _)
@[simp]def dO.acZ:qP h x.t=some x.t:=by rw[dO.nU];unfold dO.cs;simp
@[simp]def dO.ac1:ye h (d+2) x.t=some x.t:=by rw[dO.nU];unfold dO.cs;simp
@[simp]def dO.Xp:j4 x.t=true:=by rw[dO.nU];unfold dO.cs;simp
def dO.KW:∀(j:Nat) (x:dO),SizeOf.sizeOf x<=j->nz x.t=true:=by
 intro j;induction j with
 |zero=>intro x l;cases x;simp at l
 |succ j m=>
  intro x l;rw[dO.nU];unfold dO.cs;simp only[IW,Dx,IV,IU,Mp,FV];rw[uE λc k=>m c (by have:=dO.ltB k;omega),uE λc k=>m c (by have:=dO.ltE k;omega),uE λc _=>dV.Rv c,uE λc _=>dV.Rv c];rfl
@[simp]def dO.Rv:nz x.t=true:=dO.KW _ x (au _)
end
def dO.Yl:∀(p:Nat) (x k:dO),SizeOf.sizeOf x<=p->x.t=k.t->x=k:=by
 intro p;induction p with
 |zero=>intro x k B;cases x;simp at B
 |succ p C=>
  intro x k B h;rw[x.nU,k.nU]at h;unfold dO.cs at h;simp only[T.agg.injEq,aL,T.int.injEq,T.str.injEq,true_and,and_true]at h;obtain⟨w,y,z,A,n,q,r,s,l,o,m⟩:=h;have n:=qI (λa _ b j=>dV.inj j) (AG n);have l:=qI (λa _ b j=>dV.inj j) (AG l);have o:=qI (λa u b j=>C a b (by have:=dO.ltB u;omega) j) (AG o);have m:=qI (λa u b j=>C a b (by have:=dO.ltE u;omega) j) (AG m);obtain⟨a,b,c,d,i,e,f,g⟩:=x;obtain⟨E,F,G,I,M,v,K,L⟩:=k;simp only[dO.wI,dO.Uv,dO.pw,dO.Zd,dO.sr,dO.Lm,dO.vD,dO.yK]at w y z A n q r s l o m;have D:e=v:=by
   obtain⟨N,P,R,U⟩:=e;obtain⟨O,Q,S,V⟩:=v;simp only[dV.wI,dV.GT,dV.pw,dV.GY]at q r s l;rw[q,r,s,l]
  rw[w,y,z,A,n,D,o,m]
def dO.inj{x j:dO}(h:x.t=j.t):x=j:=dO.Yl _ x j (au _) h
@[simp]theorem dO.fold (a b:Int) (c e:List Nat) (i:List dV) (m l:Int) (k:List Nat) (j:List dV) (f g:List dO):T.agg [Z a,Z b,.str c,.str e,sl (i.map dV.t),Z m,Z l,.str k,sl (j.map dV.t),sl (f.map dO.t),sl (g.map dO.t)]=(dO.mk a b c e i ⟨m,l,k,j⟩ f g).t:=by rw[dO.nU];rfl
@[simp]theorem dO.eta (x:dO):dO.mk x.op x.vi x.name x.arg x.index x.e x.body x.OH=x:=by cases x;rfl
