/- DProg -/
import Derived.Test.YtalknpnbaceflaaGreatDoorA14
set_option linter.all false
set_option maxRecDepth 100000
set_option maxHeartbeats 0
namespace Go.Proofs.YtalknpnbaceflaaGreatDoor
noncomputable section
open Go Go.TI
structure iJ where
 name:List Nat
 xx:Int
 locals:List (List Nat)
 body:List eQ
 deriving Inhabited
def iJ.cs(a:iJ):List T:=[.str a.name,C a.xx,sl (a.locals.map T.str),sl (a.body.map eQ.t)]
def iJ.t(a:iJ):T:= .eZ a.cs
@[simp]def iJ.ag (a:iJ):sh a.t [.str a.name,C a.xx,sl (a.locals.map T.str),sl (a.body.map eQ.t)] 4:=DU
@[simp]theorem iJ.fold (a0:List Nat) (a1:Int) (a2:List (List Nat)) (a3:List eQ):T.eZ [.str a0,C a1,sl (a2.map T.str),sl (a3.map eQ.t)]=iJ.t ⟨a0,a1,a2,a3⟩:=rfl
@[simp]theorem iJ.eta (a:iJ):iJ.mk a.name a.xx a.locals a.body=a:=rfl
def iJ.inj{a b:iJ}(c:a.t=b.t):a=b:=by
 rcases a with⟨_,_,_,_⟩;rcases b with⟨_,_,_,_⟩;simp only[iJ.t,iJ.cs,T.eZ.injEq,bY]at c;obtain⟨d,e,f,g,_⟩:=c;obtain rfl:=Sg d;obtain rfl:=F0 e;obtain rfl:=EX (λ_ _=>Sg) _ _ f;obtain rfl:=EX (λ_ _=>eQ.inj) _ _ g;rfl
structure iA where
 kf:List jo
 ee:List iJ
 deriving Inhabited
def iA.cs(a:iA):List T:=[sl (a.kf.map jo.t),sl (a.ee.map iJ.t)]
def iA.t(a:iA):T:= .eZ a.cs
@[simp]def iA.ag (a:iA):sh a.t [sl (a.kf.map jo.t),sl (a.ee.map iJ.t)] 2:=DU
@[simp]theorem iA.fold (a0:List jo) (a1:List iJ):T.eZ [sl (a0.map jo.t),sl (a1.map iJ.t)]=iA.t ⟨a0,a1⟩:=rfl
@[simp]theorem iA.eta (a:iA):iA.mk a.kf a.ee=a:=rfl
def iA.inj{a b:iA}(c:a.t=b.t):a=b:=by
 rcases a with⟨_,_⟩;rcases b with⟨_,_⟩;simp only[iA.t,iA.cs,T.eZ.injEq,bY]at c;obtain⟨d,e,_⟩:=c;obtain rfl:=EX (λ_ _=>jo.inj) _ _ d;obtain rfl:=EX (λ_ _=>iJ.inj) _ _ e;rfl
mutual
def fF.w:fF->Nat
 |⟨_,_,_,a⟩=>1+fF.ws a
def fF.ws:List fF->Nat
 | []=>0
 |x::a=>x.w+fF.ws a
end
def fF.nd(a:fF):a.w=1+fF.ws a.l:=by cases a;rw[fF.w];rfl
def fF.jS:fF.ws []=0:=by rw[fF.ws]
def fF.lq(b:fF)(a:List fF):fF.ws (b::a)=b.w+fF.ws a:=by rw[fF.ws]
def fF.yk{b:fF}{a:List fF}(h:b∈a):b.w<=fF.ws a:=by
 induction a with
 |nil=>simp at h
 |cons d a c=>
  rw[fF.lq];rcases List.mem_cons.1 h with rfl|h
  ·omega
  ·have:=c h;omega
def fF.xz{l:List fF}:l.length<=fF.ws l:=by
 induction l with
 |nil=>simp
 |cons a l b=>rw[fF.lq,aQ,a.nd];omega
mutual
def eQ.w:eQ->Nat
 |⟨_,_,_,_,c,b,a,d⟩=>4+fF.ws c+b.w+eQ.ws a+eQ.ws d
def eQ.ws:List eQ->Nat
 | []=>0
 |x::a=>x.w+eQ.ws a
end
def eQ.nd(a:eQ):a.w=4+fF.ws a.index+a.e.w+eQ.ws a.body+eQ.ws a.Rv:=by cases a;rw[eQ.w];rfl
def eQ.jS:eQ.ws []=0:=by rw[eQ.ws]
def eQ.lq(b:eQ)(a:List eQ):eQ.ws (b::a)=b.w+eQ.ws a:=by rw[eQ.ws]
def eQ.Mp(a b:List eQ):eQ.ws (a++b)=eQ.ws a+eQ.ws b:=by
 induction a with
 |nil=>rw[cQ,eQ.jS];omega
 |cons d a c=>rw[cJ,eQ.lq,eQ.lq,c];omega
def eQ.yk{b:eQ}{a:List eQ}(h:b∈a):b.w<=eQ.ws a:=by
 induction a with
 |nil=>simp at h
 |cons d a c=>
  rw[eQ.lq];rcases List.mem_cons.1 h with rfl|h
  ·omega
  ·have:=c h;omega
def eQ.xz{l:List eQ}:l.length<=eQ.ws l:=by
 induction l with
 |nil=>simp
 |cons a l b=>rw[eQ.lq,aQ,a.nd];omega
inductive ME:fF->Prop
 |num (n:Int):ME ⟨1,n,[],[]⟩
 |nm (s:List Nat):ME ⟨2,0,s,[]⟩
 |ix {a:fF} (h:ME a):ME ⟨3,0,[113],[a]⟩
 |bin {k:Int} {a b:fF} (hk:6<=k) (ha:ME a) (hb:ME b):ME ⟨k,0,[],[a,b]⟩
inductive MS:eQ->Prop
 |mk {s:eQ} (c:9<=s.op/\s.op<=11->s.name=[99]) (q:s.op=1->s.index≠ []->s.name=[113]) (i:∀x∈s.index,ME x) (e:s.op=1\/s.op=2\/s.op=3\/s.op=14->ME s.e) (b:∀c∈s.body,MS c) (l:∀c∈s.Rv,MS c):MS s
def MS.cond{a:eQ}(b:MS a):9<=a.op/\a.op<=11->a.name=[99]:=by cases b;assumption
def MS.arr{a:eQ}(b:MS a):a.op=1->a.index≠ []->a.name=[113]:=by cases b;assumption
def MS.ind{a:eQ}(b:MS a):∀c∈a.index,ME c:=by cases b;assumption
def MS.ex{a:eQ}(b:MS a):a.op=1\/a.op=2\/a.op=3\/a.op=14->ME a.e:=by cases b;assumption
def MS.bd{a:eQ}(c:MS a):∀b∈a.body,MS b:=by cases c;assumption
def MS.el{a:eQ}(c:MS a):∀b∈a.Rv,MS b:=by cases c;assumption
def eQ.IF(b:List eQ){a:Nat}(c:a<b.length):eQ.ws (b.take (a+1))=eQ.ws (b.take a)+b[a].w:=by
 rw[aP c,eQ.Mp,eQ.lq,eQ.jS];rfl
def eQ.AD(a:List eQ)(b:Nat):eQ.ws (a.take b)<=eQ.ws a:=by
 conv=>rhs;rw[<-df b a]
 rw[eQ.Mp];omega
