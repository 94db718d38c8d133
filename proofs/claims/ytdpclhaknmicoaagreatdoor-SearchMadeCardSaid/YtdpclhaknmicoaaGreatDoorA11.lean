/- D04 -/
import Derived.Test.YtdpclhaknmicoaaGreatDoorA6
set_option linter.all false
set_option maxRecDepth 100000
set_option maxHeartbeats 0
namespace Go.Proofs.YtdpclhaknmicoaaGreatDoor
noncomputable section
open Go Go.TI
section
inductive fJ where
 |mk (op n:Int) (name:List Nat) (l:List fJ)
instance :Inhabited fJ:=⟨⟨0,0,[],[]⟩⟩
def fJ.op:fJ->Int|⟨a,_,_,_⟩=>a
def fJ.n:fJ->Int|⟨_,a,_,_⟩=>a
def fJ.name:fJ->List Nat|⟨_,_,a,_⟩=>a
def fJ.l:fJ->List fJ|⟨_,_,_,a⟩=>a
def fJ.AV (a b:Int) (c:List Nat) (d:List fJ):(fJ.mk a b c d).op=a:=a9
def fJ.LE (a b:Int) (c:List Nat) (d:List fJ):(fJ.mk a b c d).n=b:=a9
def fJ.tN (a b:Int) (c:List Nat) (d:List fJ):(fJ.mk a b c d).name=c:=a9
def fJ.JC (a b:Int) (c:List Nat) (d:List fJ):(fJ.mk a b c d).l=d:=a9
attribute [simp] fJ.AV fJ.LE fJ.tN fJ.JC
def fJ.lt{e c:fJ}(h:c∈e.l):SizeOf.sizeOf c<SizeOf.sizeOf e:=by
 cases e with
 |mk n k m j=>have:=List.sizeOf_lt_of_mem (show c∈j from h);simp;omega
mutual
def fJ.t:fJ->T
 |⟨a,b,c,j⟩=> .agg [M a,M b,.str c,sl (fJ.ts j)]
def fJ.ts:List fJ->List T
 | []=>[]
 |x::j=>x.t::fJ.ts j
end
def fJ.Ik:∀j:List fJ,fJ.ts j=j.map fJ.t
 | []=>by rw[fJ.ts];rfl
 |x::k=>by rw[fJ.ts,fJ.Ik k];rfl
def fJ.qv(x:fJ):x.t= .agg [M x.op,M x.n,.str x.name,sl (x.l.map fJ.t)]:=by cases x;rw[fJ.t,fJ.Ik];rfl
def zw{l k:Type}{f:l->k}{g:k->k}{j:List l}(h:∀x∈j,g (f x)=f x):(j.map f).map g=j.map f:=by rw[List.map_map];exact List.map_congr_left h
def ue{m r:Type}{f:m->r}:∀{k j:List m},(∀a∈k,∀b,f a=f b->a=b)->k.map f=j.map f->k=j:=by
 intro k;induction k with
 |nil=>intro j _ h;cases j<;>simp at h;rfl
 |cons x k p=>
  intro j l h;rcases j with _|⟨q,j⟩
  simp at h;simp[aS,bL]at h;rw[l x Y q h.1,p (λa n b o=>l a (by simp[n]) b o) h.2]
def xy{k:Type}{f:k->T}{j:List k}(h:∀x∈j,pJ (f x)):om (j.map f)=true:=by
 induction j with
 |nil=>simp
 |cons x j m=>simp[h x Y,m λn l=>h n (by simp[l])]
section
variable (x:fJ)(h:H)(d:Nat)
@[simp]theorem fJ.Yi:x.t.cells=[M x.op,M x.n,.str x.name,sl (x.l.map fJ.t)]:=by rw[fJ.qv];rfl
@[simp]theorem fJ.age:Oq x.t=4:=by rw[fJ.qv];rfl
@[simp]theorem fJ.abu:x.t.je=true:=by rw[fJ.qv];rfl
def fJ.Vd:∀(j:Nat) (x:fJ),SizeOf.sizeOf x<=j->cn x.t=x.t:=by
 intro j;induction j with
 |zero=>intro x k;cases x;simp at k
 |succ j m=>
  intro x k;rw[fJ.qv];simp only[yl,aS,bR,Kc,Kb,P4];rw[zw λc l=>m c (iV (fJ.lt l))]
@[simp]def fJ.ab2:cn x.t=x.t:=fJ.Vd _ x (ay _)
@[simp]def fJ.af1:qZ h x.t=G x.t:=by rw[fJ.qv];simp
@[simp]def fJ.af3:AX h (d+2) x.t=G x.t:=by rw[fJ.qv];simp
@[simp]def fJ.aay:lr x.t=true:=by rw[fJ.qv];simp
def fJ.NS:∀(j:Nat) (x:fJ),SizeOf.sizeOf x<=j->pJ x.t=true:=by
 intro j;induction j with
 |zero=>intro x k;cases x;simp at k
 |succ j m=>
  intro x k;rw[fJ.qv];simp only[LJ,GA,LI,LH,PC,IP];rw[xy λc l=>m c (iV (fJ.lt l))];rfl
@[simp]def fJ.UA:pJ x.t=true:=fJ.NS _ x (ay _)
end
def fJ.abs:∀(l:Nat) (x j:fJ),SizeOf.sizeOf x<=l->x.t=j.t->x=j:=by
 intro l;induction l with
 |zero=>intro x j p;cases x;simp at p
 |succ l s=>
  intro x j p h;rw[x.qv,j.qv]at h;simp[T.agg.injEq,bL,T.int.injEq,T.str.injEq,true_and,and_true]at h;obtain⟨m,n,o,k⟩:=h;have k:=ue (λa q b r=>s a b (iV (fJ.lt q)) r) (Dg k);obtain⟨a,b,c,d⟩:=x;obtain⟨u,v,w,y⟩:=j;simp[fJ.AV,fJ.LE,fJ.tN,fJ.JC]at m n o k;rw[m,n,o,k]
def fJ.inj{x j:fJ}(h:x.t=j.t):x=j:=fJ.abs _ x j (ay _) h
@[simp]theorem fJ.fold (a b:Int) (c:List Nat) (j:List fJ):T.agg [M a,M b,.str c,sl (j.map fJ.t)]=(fJ.mk a b c j).t:=by rw[fJ.qv];rfl
@[simp]theorem fJ.eta (x:fJ):fJ.mk x.op x.n x.name x.l=x:=by cases x;rfl
inductive fk where
 |mk (op DD:Int) (name arg:List Nat) (index:List fJ) (e:fJ) (body RR:List fk)
instance :Inhabited fk:=⟨⟨0,0,[],[],[],default,[],[]⟩⟩
def fk.op:fk->Int|⟨a,_,_,_,_,_,_,_⟩=>a
def fk.DD:fk->Int|⟨_,a,_,_,_,_,_,_⟩=>a
def fk.name:fk->List Nat|⟨_,_,a,_,_,_,_,_⟩=>a
def fk.arg:fk->List Nat|⟨_,_,_,a,_,_,_,_⟩=>a
def fk.index:fk->List fJ|⟨_,_,_,_,a,_,_,_⟩=>a
def fk.e:fk->fJ|⟨_,_,_,_,_,a,_,_⟩=>a
def fk.body:fk->List fk|⟨_,_,_,_,_,_,a,_⟩=>a
def fk.RR:fk->List fk|⟨_,_,_,_,_,_,_,a⟩=>a
section
variable (a b:Int)(c d:List Nat)(i:List fJ)(e:fJ)(f g:List fk)
def fk.AV:(fk.mk a b c d i e f g).op=a:=a9
def fk.XE:(fk.mk a b c d i e f g).DD=b:=a9
def fk.tN:(fk.mk a b c d i e f g).name=c:=a9
def fk.acq:(fk.mk a b c d i e f g).arg=d:=a9
def fk.vP:(fk.mk a b c d i e f g).index=i:=a9
def fk.Oh:(fk.mk a b c d i e f g).e=e:=a9
def fk.yr:(fk.mk a b c d i e f g).body=f:=a9
def fk.BJ:(fk.mk a b c d i e f g).RR=g:=a9
attribute [simp] fk.AV fk.XE fk.tN fk.acq fk.vP fk.Oh fk.yr fk.BJ
end
def fk.ltB{j c:fk}(h:c∈j.body):SizeOf.sizeOf c<SizeOf.sizeOf j:=by
 cases j with
 |mk a b k d i e f g=>have:=List.sizeOf_lt_of_mem (show c∈f from h);simp;omega
def fk.ltE{j c:fk}(h:c∈j.RR):SizeOf.sizeOf c<SizeOf.sizeOf j:=by
 cases j with
 |mk a b k d i e f g=>have:=List.sizeOf_lt_of_mem (show c∈g from h);simp;omega
mutual
def fk.t:fk->T
 |⟨a,b,c,d,i,e,f,g⟩=> .agg [M a,M b,.str c,.str d,sl (i.map fJ.t),M e.op,M e.n,.str e.name,sl (e.l.map fJ.t),sl (fk.ts f),sl (fk.ts g)]
def fk.ts:List fk->List T
 | []=>[]
 |x::j=>x.t::fk.ts j
end
def fk.Ik:∀j:List fk,fk.ts j=j.map fk.t
 | []=>by rw[fk.ts];rfl
 |x::k=>by rw[fk.ts,fk.Ik k];rfl
def fk.cs(x:fk):List T:=[M x.op,M x.DD,.str x.name,.str x.arg,sl (x.index.map fJ.t),M x.e.op,M x.e.n,.str x.e.name,sl (x.e.l.map fJ.t),sl (x.body.map fk.t),sl (x.RR.map fk.t)]
def fk.qv(x:fk):x.t= .agg x.cs:=by cases x;rw[fk.t,fk.Ik,fk.Ik];rfl
section
variable (x:fk)(h:H)(d:Nat)
@[simp]theorem fk.Yi:x.t.cells=[M x.op,M x.DD,.str x.name,.str x.arg,sl (x.index.map fJ.t),M x.e.op,M x.e.n,.str x.e.name,sl (x.e.l.map fJ.t),sl (x.body.map fk.t),sl (x.RR.map fk.t)]:=by rw[fk.qv];rfl
@[simp]theorem fk.age:Oq x.t=11:=by rw[fk.qv];rfl
@[simp]theorem fk.abu:x.t.je=true:=by rw[fk.qv];rfl
def fk.Vd:∀(j:Nat) (x:fk),SizeOf.sizeOf x<=j->cn x.t=x.t:=by
 intro j;induction j with
 |zero=>intro x l;cases x;simp at l
 |succ j m=>
  intro x l;rw[fk.qv];unfold fk.cs;simp only[yl,aS,bR,Kc,Kb,P4];rw[zw λc k=>m c (iV (fk.ltB k)),zw λc k=>m c (iV (fk.ltE k)),zw λc _=>fJ.ab2 c,zw λc _=>fJ.ab2 c]
@[simp]def fk.ab2:cn x.t=x.t:=fk.Vd _ x (ay _)
@[simp]def fk.af1:qZ h x.t=G x.t:=by rw[fk.qv];unfold fk.cs;simp
@[simp]def fk.af3:AX h (d+2) x.t=G x.t:=by rw[fk.qv];unfold fk.cs;simp
@[simp]def fk.aay:lr x.t=true:=by rw[fk.qv];unfold fk.cs;simp
def fk.NS:∀(j:Nat) (x:fk),SizeOf.sizeOf x<=j->pJ x.t=true:=by
 intro j;induction j with
 |zero=>intro x l;cases x;simp at l
 |succ j m=>
  intro x l;rw[fk.qv];unfold fk.cs;simp only[LJ,GA,LI,LH,PC,IP];rw[xy λc k=>m c (iV (fk.ltB k)),xy λc k=>m c (iV (fk.ltE k)),xy λc _=>fJ.UA c,xy λc _=>fJ.UA c];rfl
@[simp]def fk.UA:pJ x.t=true:=fk.NS _ x (ay _)
end
def fk.abs:∀(p:Nat) (x k:fk),SizeOf.sizeOf x<=p->x.t=k.t->x=k:=by
 intro p;induction p with
 |zero=>intro x k B;cases x;simp at B
 |succ p C=>
  intro x k B h;rw[x.qv,k.qv]at h;unfold fk.cs at h;simp[T.agg.injEq,bL,T.int.injEq,T.str.injEq,true_and,and_true]at h;obtain⟨w,y,z,A,n,q,r,s,l,o,m⟩:=h;have n:=ue (λa _ b j=>fJ.inj j) (Dg n);have l:=ue (λa _ b j=>fJ.inj j) (Dg l);have o:=ue (λa u b j=>C a b (iV (fk.ltB u)) j) (Dg o);have m:=ue (λa u b j=>C a b (iV (fk.ltE u)) j) (Dg m);obtain⟨a,b,c,d,i,e,f,g⟩:=x;obtain⟨E,F,I,K,O,v,L,N⟩:=k;simp[fk.AV,fk.XE,fk.tN,fk.acq,fk.vP,fk.Oh,fk.yr,fk.BJ]at w y z A n q r s l o m;have D:e=v:=by
   obtain⟨P,R,U,W⟩:=e;obtain⟨Q,S,V,X⟩:=v;simp[fJ.AV,fJ.LE,fJ.tN,fJ.JC]at q r s l;rw[q,r,s,l]
  rw[w,y,z,A,n,D,o,m]
def fk.inj{x j:fk}(h:x.t=j.t):x=j:=fk.abs _ x j (ay _) h
@[simp]theorem fk.fold (a b:Int) (c e:List Nat) (i:List fJ) (m l:Int) (k:List Nat) (j:List fJ) (f g:List fk):T.agg [M a,M b,.str c,.str e,sl (i.map fJ.t),M m,M l,.str k,sl (j.map fJ.t),sl (f.map fk.t),sl (g.map fk.t)]=(fk.mk a b c e i ⟨m,l,k,j⟩ f g).t:=by rw[fk.qv];rfl
@[simp]theorem fk.eta (x:fk):fk.mk x.op x.DD x.name x.arg x.index x.e x.body x.RR=x:=by cases x;rfl
end
structure iQ where
 name:List Nat
 DD:Int
 locals:List (List Nat)
 body:List fk
 deriving Inhabited
@[simp] def iQ.cs (a:iQ):List T:=[.str a.name,M a.DD,sl (a.locals.map T.str),sl (a.body.map fk.t)]
def iQ.t(a:iQ):T:= .agg a.cs
@[simp]def iQ.ag (a:iQ):tJ a.t a.cs 4:=EF
@[simp]theorem iQ.fold (a0:List Nat) (a1:Int) (a2:List (List Nat)) (a3:List fk):T.agg [.str a0,M a1,sl (a2.map T.str),sl (a3.map fk.t)]=iQ.t ⟨a0,a1,a2,a3⟩:=rfl
@[simp]theorem iQ.eta (a:iQ):⟨a.1,a.2,a.3,a.4⟩=a:=rfl
def iQ.inj{a b:iQ}(c:a.t=b.t):a=b:=by rcases a with⟨_,_,_,_⟩;rcases b with⟨_,_,_,_⟩;simp only[iQ.t,iQ.cs,T.agg.injEq,bL]at c;obtain⟨d,e,f,g,_⟩:=c;obtain rfl:=SC d;obtain rfl:=GJ e;obtain rfl:=FD (λ_ _=>SC) _ _ f;obtain rfl:=FD (λ_ _=>fk.inj) _ _ g;rfl
structure iH where
 kr:List js
 eY:List iQ
 deriving Inhabited
@[simp] def iH.cs (a:iH):List T:=[sl (a.kr.map js.t),sl (a.eY.map iQ.t)]
def iH.t(a:iH):T:= .agg a.cs
@[simp]def iH.ag (a:iH):tJ a.t a.cs 2:=EF
@[simp]theorem iH.fold (a0:List js) (a1:List iQ):T.agg [sl (a0.map js.t),sl (a1.map iQ.t)]=iH.t ⟨a0,a1⟩:=rfl
@[simp]theorem iH.eta (a:iH):⟨a.1,a.2⟩=a:=rfl
def iH.inj{a b:iH}(c:a.t=b.t):a=b:=by rcases a with⟨_,_⟩;rcases b with⟨_,_⟩;simp only[iH.t,iH.cs,T.agg.injEq,bL]at c;obtain⟨d,e,_⟩:=c;obtain rfl:=FD (λ_ _=>js.inj) _ _ d;obtain rfl:=FD (λ_ _=>iQ.inj) _ _ e;rfl
mutual
def fJ.w:fJ->Nat
 |⟨_,_,_,a⟩=>1+fJ.ws a
def fJ.ws:List fJ->Nat
 | []=>0
 |x::a=>x.w+fJ.ws a
end
def fJ.nN(a:fJ):a.w=1+fJ.ws a.l:=by cases a;rw[fJ.w];rfl
def fJ.jW:fJ.ws []=0:=by rw[fJ.ws]
def fJ.ly(b:fJ)(a:List fJ):fJ.ws (b::a)=b.w+fJ.ws a:=by rw[fJ.ws]
def fJ.yP{b:fJ}{a:List fJ}(h:b∈a):b.w<=fJ.ws a:=by
 induction a with
 |nil=>simp at h
 |cons d a c=>
  rw[fJ.ly];rcases List.mem_cons.1 h with rfl|h
  omega;have:=c h;omega
def fJ.yf{l:List fJ}:l.length<=fJ.ws l:=by
 induction l with
 |nil=>simp
 |cons a l b=>rw[fJ.ly,aU,a.nN];omega
mutual
def fk.w:fk->Nat
 |⟨_,_,_,_,c,b,a,d⟩=>4+fJ.ws c+b.w+fk.ws a+fk.ws d
def fk.ws:List fk->Nat
 | []=>0
 |x::a=>x.w+fk.ws a
end
def fk.nN(a:fk):a.w=4+fJ.ws a.index+a.e.w+fk.ws a.body+fk.ws a.RR:=by cases a;rw[fk.w];rfl
def fk.jW:fk.ws []=0:=by rw[fk.ws]
def fk.ly(b:fk)(a:List fk):fk.ws (b::a)=b.w+fk.ws a:=by rw[fk.ws]
def fk.MW(a b:List fk):fk.ws (a++b)=fk.ws a+fk.ws b:=by
 induction a with
 |nil=>rw[bJ,fk.jW];omega
 |cons d a c=>rw[aW,fk.ly,fk.ly,c];omega
def fk.yP{b:fk}{a:List fk}(h:b∈a):b.w<=fk.ws a:=by
 induction a with
 |nil=>simp at h
 |cons d a c=>
  rw[fk.ly];rcases List.mem_cons.1 h with rfl|h
  omega;have:=c h;omega
def fk.yf{l:List fk}:l.length<=fk.ws l:=by
 induction l with
 |nil=>simp
 |cons a l b=>rw[fk.ly,aU,a.nN];omega
def mH(a:Int):Prop:=-9223372036854775808<=a/\a<9223372036854775808
def cI(a:iK):Prop:=a.op=1->mH a.n
def cR(b:lj):Prop:=(∀a∈b.eY,∀c∈a.j3,cI c)/\∀a∈b.gY.cells,mH a.mP
inductive ME:fJ->Prop
 |num (n:Int) (h:mH n:=by unfold mH;omega):ME ⟨1,n,[],[]⟩
 |nm (s:List Nat):ME ⟨2,0,s,[]⟩
 |ix {a:fJ} (h:ME a):ME ⟨3,0,[113],[a]⟩
 |bin {k:Int} {a b:fJ} (hk:6<=k) (ha:ME a) (hb:ME b):ME ⟨k,0,[],[a,b]⟩
inductive MS:fk->Prop
 |mk {s:fk} (c:9<=s.op/\s.op<=11->s.name=[99]) (q:s.op=1->s.index≠ []->s.name=[113]) (i:∀x∈s.index,ME x) (e:s.op=1\/s.op=2\/s.op=3\/s.op=14->ME s.e) (b:∀c∈s.body,MS c) (l:∀c∈s.RR,MS c):MS s
def MS.cond{a:fk}(b:MS a):9<=a.op/\a.op<=11->a.name=[99]:=by cases b;assumption
def MS.arr{a:fk}(b:MS a):a.op=1->a.index≠ []->a.name=[113]:=by cases b;assumption
def MS.ind{a:fk}(b:MS a):∀c∈a.index,ME c:=by cases b;assumption
def MS.ex{a:fk}(b:MS a):a.op=1\/a.op=2\/a.op=3\/a.op=14->ME a.e:=by cases b;assumption
def MS.bd{a:fk}(c:MS a):∀b∈a.body,MS b:=by cases c;assumption
def MS.el{a:fk}(c:MS a):∀b∈a.RR,MS b:=by cases c;assumption
def fk.Jg(b:List fk){a:Nat}(c:a<b.length):fk.ws (b.take (a+1))=fk.ws (b.take a)+b[a].w:=by rw[aM c,fk.MW,fk.ly,fk.jW];rfl
def fk.Ba(a:List fk)(b:Nat):fk.ws (a.take b)<=fk.ws a:=by
 conv=>rhs;rw[<-cB b a]
 rw[fk.MW];omega
