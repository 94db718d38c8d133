/- D04 -/
import Derived.Test.YtnfojkibhgjfmaaGreatDoorA6
set_option linter.all false
set_option maxRecDepth 100000
set_option maxHeartbeats 0
namespace Go.Proofs.YtnfojkibhgjfmaaGreatDoor
noncomputable section
open Go Go.TI
section
inductive fy where
 |mk (op n:Int) (name:List Nat) (l:List fy)
instance :Inhabited fy:=⟨⟨0,0,[],[]⟩⟩
def fy.op:fy->Int|⟨a,_,_,_⟩=>a
def fy.n:fy->Int|⟨_,a,_,_⟩=>a
def fy.name:fy->List Nat|⟨_,_,a,_⟩=>a
def fy.l:fy->List fy|⟨_,_,_,a⟩=>a
def fy.A3 (a b:Int) (c:List Nat) (d:List fy):(fy.mk a b c d).op=a:=a9
def fy.L6 (a b:Int) (c:List Nat) (d:List fy):(fy.mk a b c d).n=b:=a9
def fy.sY (a b:Int) (c:List Nat) (d:List fy):(fy.mk a b c d).name=c:=a9
def fy.Kb (a b:Int) (c:List Nat) (d:List fy):(fy.mk a b c d).l=d:=a9
attribute [simp] fy.A3 fy.L6 fy.sY fy.Kb
def fy.lt{e c:fy}(h:c∈e.l):SizeOf.sizeOf c<SizeOf.sizeOf e:=by
 cases e with
 |mk n k m j=>have:=List.sizeOf_lt_of_mem (show c∈j from h);simp;omega
mutual
def fy.t:fy->T
 |⟨a,b,c,j⟩=> .eQ [J a,J b,.str c,sl (fy.ts j)]
def fy.ts:List fy->List T
 | []=>[]
 |x::j=>x.t::fy.ts j
end
def fy.IC:∀j:List fy,fy.ts j=j.map fy.t
 | []=>by rw[fy.ts];rfl
 |x::k=>by rw[fy.ts,fy.IC k];rfl
def fy.pY(x:fy):x.t= .eQ [J x.op,J x.n,.str x.name,sl (x.l.map fy.t)]:=by cases x;rw[fy.t,fy.IC];rfl
def zQ{l k:Type}{f:l->k}{g:k->k}{j:List l}(h:∀x∈j,g (f x)=f x):(j.map f).map g=j.map f:=by rw[List.map_map];exact List.map_congr_left h
def tO{m r:Type}{f:m->r}:∀{k j:List m},(∀a∈k,∀b,f a=f b->a=b)->k.map f=j.map f->k=j:=by
 intro k;induction k with
 |nil=>intro j _ h;cases j<;>simp at h;rfl
 |cons x k p=>
  intro j l h;rcases j with _|⟨q,j⟩
  simp at h;simp[aR,cr]at h;rw[l x V q h.1,p (λa n b o=>l a (by simp[n]) b o) h.2]
def xw{k:Type}{f:k->T}{j:List k}(h:∀x∈j,o9 (f x)):nR (j.map f)=true:=by
 induction j with
 |nil=>simp
 |cons x j m=>simp[h x V,m λn l=>h n (by simp[l])]
section
variable (x:fy)(h:H)(d:Nat)
@[simp]theorem fy.Zj:x.t.cells=[J x.op,J x.n,.str x.name,sl (x.l.map fy.t)]:=by rw[fy.pY];rfl
@[simp]theorem fy.ahk:Pc x.t=4:=by rw[fy.pY];rfl
@[simp]theorem fy.acE:x.t.iW=true:=by rw[fy.pY];rfl
def fy.Wc:∀(j:Nat) (x:fy),SizeOf.sizeOf x<=j->cn x.t=x.t:=by
 intro j;induction j with
 |zero=>intro x k;cases x;simp at k
 |succ j m=>
  intro x k;rw[fy.pY];simp only[yq,aR,bL,KF,KE,QO];rw[zQ λc l=>m c (iH (fy.lt l))]
@[simp]def fy.ac9:cn x.t=x.t:=fy.Wc _ x (az _)
@[simp]def fy.ag7:qY h x.t=D x.t:=by rw[fy.pY];simp
@[simp]def fy.aha:AT h (d+2) x.t=D x.t:=by rw[fy.pY];simp
@[simp]def fy.abw:kT x.t=true:=by rw[fy.pY];simp
def fy.Ow:∀(j:Nat) (x:fy),SizeOf.sizeOf x<=j->o9 x.t=true:=by
 intro j;induction j with
 |zero=>intro x k;cases x;simp at k
 |succ j m=>
  intro x k;rw[fy.pY];simp only[Mb,G4,Ma,L9,Qn,I5];rw[xw λc l=>m c (iH (fy.lt l))];rfl
@[simp]def fy.VD:o9 x.t=true:=fy.Ow _ x (az _)
end
def fy.acz:∀(l:Nat) (x j:fy),SizeOf.sizeOf x<=l->x.t=j.t->x=j:=by
 intro l;induction l with
 |zero=>intro x j p;cases x;simp at p
 |succ l s=>
  intro x j p h;rw[x.pY,j.pY]at h;simp[T.eQ.injEq,cr,T.int.injEq,T.str.injEq,true_and,and_true]at h;obtain⟨m,n,o,k⟩:=h;have k:=tO (λa q b r=>s a b (iH (fy.lt q)) r) (Du k);obtain⟨a,b,c,d⟩:=x;obtain⟨u,v,w,y⟩:=j;simp[fy.A3,fy.L6,fy.sY,fy.Kb]at m n o k;rw[m,n,o,k]
def fy.inj{x j:fy}(h:x.t=j.t):x=j:=fy.acz _ x j (az _) h
@[simp]theorem fy.fold (a b:Int) (c:List Nat) (j:List fy):T.eQ [J a,J b,.str c,sl (j.map fy.t)]=(fy.mk a b c j).t:=by rw[fy.pY];rfl
@[simp]theorem fy.eta (x:fy):fy.mk x.op x.n x.name x.l=x:=by cases x;rfl
inductive eY where
 |mk (op DX:Int) (name arg:List Nat) (index:List fy) (e:fy) (body SS:List eY)
instance :Inhabited eY:=⟨⟨0,0,[],[],[],default,[],[]⟩⟩
def eY.op:eY->Int|⟨a,_,_,_,_,_,_,_⟩=>a
def eY.DX:eY->Int|⟨_,a,_,_,_,_,_,_⟩=>a
def eY.name:eY->List Nat|⟨_,_,a,_,_,_,_,_⟩=>a
def eY.arg:eY->List Nat|⟨_,_,_,a,_,_,_,_⟩=>a
def eY.index:eY->List fy|⟨_,_,_,_,a,_,_,_⟩=>a
def eY.e:eY->fy|⟨_,_,_,_,_,a,_,_⟩=>a
def eY.body:eY->List eY|⟨_,_,_,_,_,_,a,_⟩=>a
def eY.SS:eY->List eY|⟨_,_,_,_,_,_,_,a⟩=>a
section
variable (a b:Int)(c d:List Nat)(i:List fy)(e:fy)(f g:List eY)
def eY.A3:(eY.mk a b c d i e f g).op=a:=a9
def eY.YI:(eY.mk a b c d i e f g).DX=b:=a9
def eY.sY:(eY.mk a b c d i e f g).name=c:=a9
def eY.ady:(eY.mk a b c d i e f g).arg=d:=a9
def eY.vC:(eY.mk a b c d i e f g).index=i:=a9
def eY.O0:(eY.mk a b c d i e f g).e=e:=a9
def eY.yw:(eY.mk a b c d i e f g).body=f:=a9
def eY.BN:(eY.mk a b c d i e f g).SS=g:=a9
attribute [simp] eY.A3 eY.YI eY.sY eY.ady eY.vC eY.O0 eY.yw eY.BN
end
def eY.ltB{j c:eY}(h:c∈j.body):SizeOf.sizeOf c<SizeOf.sizeOf j:=by
 cases j with
 |mk a b k d i e f g=>have:=List.sizeOf_lt_of_mem (show c∈f from h);simp;omega
def eY.ltE{j c:eY}(h:c∈j.SS):SizeOf.sizeOf c<SizeOf.sizeOf j:=by
 cases j with
 |mk a b k d i e f g=>have:=List.sizeOf_lt_of_mem (show c∈g from h);simp;omega
mutual
def eY.t:eY->T
 |⟨a,b,c,d,i,e,f,g⟩=> .eQ [J a,J b,.str c,.str d,sl (i.map fy.t),J e.op,J e.n,.str e.name,sl (e.l.map fy.t),sl (eY.ts f),sl (eY.ts g)]
def eY.ts:List eY->List T
 | []=>[]
 |x::j=>x.t::eY.ts j
end
def eY.IC:∀j:List eY,eY.ts j=j.map eY.t
 | []=>by rw[eY.ts];rfl
 |x::k=>by rw[eY.ts,eY.IC k];rfl
def eY.cs(x:eY):List T:=[J x.op,J x.DX,.str x.name,.str x.arg,sl (x.index.map fy.t),J x.e.op,J x.e.n,.str x.e.name,sl (x.e.l.map fy.t),sl (x.body.map eY.t),sl (x.SS.map eY.t)]
def eY.pY(x:eY):x.t= .eQ x.cs:=by cases x;rw[eY.t,eY.IC,eY.IC];rfl
section
variable (x:eY)(h:H)(d:Nat)
@[simp]theorem eY.Zj:x.t.cells=[J x.op,J x.DX,.str x.name,.str x.arg,sl (x.index.map fy.t),J x.e.op,J x.e.n,.str x.e.name,sl (x.e.l.map fy.t),sl (x.body.map eY.t),sl (x.SS.map eY.t)]:=by rw[eY.pY];rfl
@[simp]theorem eY.ahk:Pc x.t=11:=by rw[eY.pY];rfl
@[simp]theorem eY.acE:x.t.iW=true:=by rw[eY.pY];rfl
def eY.Wc:∀(j:Nat) (x:eY),SizeOf.sizeOf x<=j->cn x.t=x.t:=by
 intro j;induction j with
 |zero=>intro x l;cases x;simp at l
 |succ j m=>
  intro x l;rw[eY.pY];unfold eY.cs;simp only[yq,aR,bL,KF,KE,QO];rw[zQ λc k=>m c (iH (eY.ltB k)),zQ λc k=>m c (iH (eY.ltE k)),zQ λc _=>fy.ac9 c,zQ λc _=>fy.ac9 c]
@[simp]def eY.ac9:cn x.t=x.t:=eY.Wc _ x (az _)
@[simp]def eY.ag7:qY h x.t=D x.t:=by rw[eY.pY];unfold eY.cs;simp
@[simp]def eY.aha:AT h (d+2) x.t=D x.t:=by rw[eY.pY];unfold eY.cs;simp
@[simp]def eY.abw:kT x.t=true:=by rw[eY.pY];unfold eY.cs;simp
def eY.Ow:∀(j:Nat) (x:eY),SizeOf.sizeOf x<=j->o9 x.t=true:=by
 intro j;induction j with
 |zero=>intro x l;cases x;simp at l
 |succ j m=>
  intro x l;rw[eY.pY];unfold eY.cs;simp only[Mb,G4,Ma,L9,Qn,I5];rw[xw λc k=>m c (iH (eY.ltB k)),xw λc k=>m c (iH (eY.ltE k)),xw λc _=>fy.VD c,xw λc _=>fy.VD c];rfl
@[simp]def eY.VD:o9 x.t=true:=eY.Ow _ x (az _)
end
def eY.acz:∀(p:Nat) (x k:eY),SizeOf.sizeOf x<=p->x.t=k.t->x=k:=by
 intro p;induction p with
 |zero=>intro x k B;cases x;simp at B
 |succ p C=>
  intro x k B h;rw[x.pY,k.pY]at h;unfold eY.cs at h;simp[T.eQ.injEq,cr,T.int.injEq,T.str.injEq,true_and,and_true]at h;obtain⟨w,y,z,A,n,q,r,s,l,o,m⟩:=h;have n:=tO (λa _ b j=>fy.inj j) (Du n);have l:=tO (λa _ b j=>fy.inj j) (Du l);have o:=tO (λa u b j=>C a b (iH (eY.ltB u)) j) (Du o);have m:=tO (λa u b j=>C a b (iH (eY.ltE u)) j) (Du m);obtain⟨a,b,c,d,i,e,f,g⟩:=x;obtain⟨F,I,K,L,O,v,M,N⟩:=k;simp[eY.A3,eY.YI,eY.sY,eY.ady,eY.vC,eY.O0,eY.yw,eY.BN]at w y z A n q r s l o m;have E:e=v:=by
   obtain⟨P,R,U,X⟩:=e;obtain⟨Q,S,W,Y⟩:=v;simp[fy.A3,fy.L6,fy.sY,fy.Kb]at q r s l;rw[q,r,s,l]
  rw[w,y,z,A,n,E,o,m]
def eY.inj{x j:eY}(h:x.t=j.t):x=j:=eY.acz _ x j (az _) h
@[simp]theorem eY.fold (a b:Int) (c e:List Nat) (i:List fy) (m l:Int) (k:List Nat) (j:List fy) (f g:List eY):T.eQ [J a,J b,.str c,.str e,sl (i.map fy.t),J m,J l,.str k,sl (j.map fy.t),sl (f.map eY.t),sl (g.map eY.t)]=(eY.mk a b c e i ⟨m,l,k,j⟩ f g).t:=by rw[eY.pY];rfl
@[simp]theorem eY.eta (x:eY):eY.mk x.op x.DX x.name x.arg x.index x.e x.body x.SS=x:=by cases x;rfl
end
structure iQ where
 name:List Nat
 DX:Int
 locals:List (List Nat)
 body:List eY
 deriving Inhabited
@[simp] def iQ.cs (a:iQ):List T:=[.str a.name,J a.DX,sl (a.locals.map T.str),sl (a.body.map eY.t)]
def iQ.t(a:iQ):T:= .eQ a.cs
@[simp]def iQ.ag (a:iQ):sP a.t a.cs 4:=EZ
@[simp]theorem iQ.fold (a0:List Nat) (a1:Int) (a2:List (List Nat)) (a3:List eY):T.eQ [.str a0,J a1,sl (a2.map T.str),sl (a3.map eY.t)]=iQ.t ⟨a0,a1,a2,a3⟩:=rfl
@[simp]theorem iQ.eta (a:iQ):⟨a.1,a.2,a.3,a.4⟩=a:=rfl
def iQ.inj{a b:iQ}(c:a.t=b.t):a=b:=by rcases a with⟨_,_,_,_⟩;rcases b with⟨_,_,_,_⟩;simp only[iQ.t,iQ.cs,T.eQ.injEq,cr]at c;obtain⟨d,e,f,g,_⟩:=c;obtain rfl:=TL d;obtain rfl:=Hc e;obtain rfl:=F4 (λ_ _=>TL) _ _ f;obtain rfl:=F4 (λ_ _=>eY.inj) _ _ g;rfl
structure iJ where
 kr:List jp
 d8:List iQ
 deriving Inhabited
@[simp] def iJ.cs (a:iJ):List T:=[sl (a.kr.map jp.t),sl (a.d8.map iQ.t)]
def iJ.t(a:iJ):T:= .eQ a.cs
@[simp]def iJ.ag (a:iJ):sP a.t a.cs 2:=EZ
@[simp]theorem iJ.fold (a0:List jp) (a1:List iQ):T.eQ [sl (a0.map jp.t),sl (a1.map iQ.t)]=iJ.t ⟨a0,a1⟩:=rfl
@[simp]theorem iJ.eta (a:iJ):⟨a.1,a.2⟩=a:=rfl
def iJ.inj{a b:iJ}(c:a.t=b.t):a=b:=by rcases a with⟨_,_⟩;rcases b with⟨_,_⟩;simp only[iJ.t,iJ.cs,T.eQ.injEq,cr]at c;obtain⟨d,e,_⟩:=c;obtain rfl:=F4 (λ_ _=>jp.inj) _ _ d;obtain rfl:=F4 (λ_ _=>iQ.inj) _ _ e;rfl
mutual
def fy.w:fy->Nat
 |⟨_,_,_,a⟩=>1+fy.ws a
def fy.ws:List fy->Nat
 | []=>0
 |x::a=>x.w+fy.ws a
end
def fy.nG(a:fy):a.w=1+fy.ws a.l:=by cases a;rw[fy.w];rfl
def fy.jX:fy.ws []=0:=by rw[fy.ws]
def fy.lq(b:fy)(a:List fy):fy.ws (b::a)=b.w+fy.ws a:=by rw[fy.ws]
def fy.yU{b:fy}{a:List fy}(h:b∈a):b.w<=fy.ws a:=by
 induction a with
 |nil=>simp at h
 |cons d a c=>
  rw[fy.lq];rcases List.mem_cons.1 h with rfl|h
  omega;have:=c h;omega
def fy.yi{l:List fy}:l.length<=fy.ws l:=by
 induction l with
 |nil=>simp
 |cons a l b=>rw[fy.lq,aZ,a.nG];omega
mutual
def eY.w:eY->Nat
 |⟨_,_,_,_,c,b,a,d⟩=>4+fy.ws c+b.w+eY.ws a+eY.ws d
def eY.ws:List eY->Nat
 | []=>0
 |x::a=>x.w+eY.ws a
end
def eY.nG(a:eY):a.w=4+fy.ws a.index+a.e.w+eY.ws a.body+eY.ws a.SS:=by cases a;rw[eY.w];rfl
def eY.jX:eY.ws []=0:=by rw[eY.ws]
def eY.lq(b:eY)(a:List eY):eY.ws (b::a)=b.w+eY.ws a:=by rw[eY.ws]
def eY.Nt(a b:List eY):eY.ws (a++b)=eY.ws a+eY.ws b:=by
 induction a with
 |nil=>rw[cm,eY.jX];omega
 |cons d a c=>rw[cg,eY.lq,eY.lq,c];omega
def eY.yU{b:eY}{a:List eY}(h:b∈a):b.w<=eY.ws a:=by
 induction a with
 |nil=>simp at h
 |cons d a c=>
  rw[eY.lq];rcases List.mem_cons.1 h with rfl|h
  omega;have:=c h;omega
def eY.yi{l:List eY}:l.length<=eY.ws l:=by
 induction l with
 |nil=>simp
 |cons a l b=>rw[eY.lq,aZ,a.nG];omega
inductive ME:fy->Prop
 |num (n:Int):ME ⟨1,n,[],[]⟩
 |nm (s:List Nat):ME ⟨2,0,s,[]⟩
 |ix {a:fy} (h:ME a):ME ⟨3,0,[113],[a]⟩
 |bin {k:Int} {a b:fy} (hk:6<=k) (ha:ME a) (hb:ME b):ME ⟨k,0,[],[a,b]⟩
inductive MS:eY->Prop
 |mk {s:eY} (c:9<=s.op/\s.op<=11->s.name=[99]) (q:s.op=1->s.index≠ []->s.name=[113]) (i:∀x∈s.index,ME x) (e:s.op=1\/s.op=2\/s.op=3\/s.op=14->ME s.e) (b:∀c∈s.body,MS c) (l:∀c∈s.SS,MS c):MS s
def MS.cond{a:eY}(b:MS a):9<=a.op/\a.op<=11->a.name=[99]:=by cases b;assumption
def MS.arr{a:eY}(b:MS a):a.op=1->a.index≠ []->a.name=[113]:=by cases b;assumption
def MS.ind{a:eY}(b:MS a):∀c∈a.index,ME c:=by cases b;assumption
def MS.ex{a:eY}(b:MS a):a.op=1\/a.op=2\/a.op=3\/a.op=14->ME a.e:=by cases b;assumption
def MS.bd{a:eY}(c:MS a):∀b∈a.body,MS b:=by cases c;assumption
def MS.el{a:eY}(c:MS a):∀b∈a.SS,MS b:=by cases c;assumption
def eY.Jz(b:List eY){a:Nat}(c:a<b.length):eY.ws (b.take (a+1))=eY.ws (b.take a)+b[a].w:=by rw[aT c,eY.Nt,eY.lq,eY.jX];rfl
def eY.Bi(a:List eY)(b:Nat):eY.ws (a.take b)<=eY.ws a:=by
 conv=>rhs;rw[<-da b a]
 rw[eY.Nt];omega
