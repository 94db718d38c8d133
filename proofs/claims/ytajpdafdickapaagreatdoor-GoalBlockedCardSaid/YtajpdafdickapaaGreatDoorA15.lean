/- DProg -/
import Derived.Test.YtajpdafdickapaaGreatDoorA14
set_option linter.all false
set_option maxRecDepth 100000
set_option maxHeartbeats 8000000
namespace Go.Proofs.YtajpdafdickapaaGreatDoor
noncomputable section
open Go Go.TI
structure fP where
 name:List Nat
 uX:Int
 locals:List (List Nat)
 body:List dO
 deriving Inhabited
def fP.cs(a:fP):List T:=[.str a.name,Z a.uX,sl (a.locals.map T.str),sl (a.body.map dO.t)]
def fP.t(a:fP):T:= .agg a.cs
@[simp]def fP.ag (a:fP):qP a.t [.str a.name,Z a.uX,sl (a.locals.map T.str),sl (a.body.map dO.t)] 4:=by
 unfold fP.t fP.cs;exact⟨rfl,rfl,λ_ _=>rfl,rfl,by simp[jN],λ_=>by simp,λ_ _=>by simp,dy,dy⟩
@[simp]theorem fP.fold (a0:List Nat) (a1:Int) (a2:List (List Nat)) (a3:List dO):T.agg [.str a0,Z a1,sl (a2.map T.str),sl (a3.map dO.t)]=fP.t ⟨a0,a1,a2,a3⟩:=rfl
@[simp]theorem fP.eta (a:fP):fP.mk a.name a.uX a.locals a.body=a:=rfl
def fP.inj{a b:fP}(c:a.t=b.t):a=b:=by
 rcases a with⟨_,_,_,_⟩;rcases b with⟨_,_,_,_⟩;simp only[fP.t,fP.cs,T.agg.injEq,aL]at c;obtain⟨d,e,f,g,_⟩:=c;obtain rfl:=m8 d;obtain rfl:=io e;obtain rfl:=iz (λ_ _=>m8) _ _ f;obtain rfl:=iz (λ_ _=>dO.inj) _ _ g;rfl
structure fN where
 js:List iA
 dH:List fP
 deriving Inhabited
def fN.cs(a:fN):List T:=[sl (a.js.map iA.t),sl (a.dH.map fP.t)]
def fN.t(a:fN):T:= .agg a.cs
@[simp]def fN.ag (a:fN):qP a.t [sl (a.js.map iA.t),sl (a.dH.map fP.t)] 2:=by
 unfold fN.t fN.cs;exact⟨rfl,rfl,λ_ _=>rfl,rfl,by simp[jN],λ_=>by simp,λ_ _=>by simp,dy,dy⟩
@[simp]theorem fN.fold (a0:List iA) (a1:List fP):T.agg [sl (a0.map iA.t),sl (a1.map fP.t)]=fN.t ⟨a0,a1⟩:=rfl
@[simp]theorem fN.eta (a:fN):fN.mk a.js a.dH=a:=rfl
def fN.inj{a b:fN}(c:a.t=b.t):a=b:=by
 rcases a with⟨_,_⟩;rcases b with⟨_,_⟩;simp only[fN.t,fN.cs,T.agg.injEq,aL]at c;obtain⟨d,e,_⟩:=c;obtain rfl:=iz (λ_ _=>iA.inj) _ _ d;obtain rfl:=iz (λ_ _=>fP.inj) _ _ e;rfl
mutual
def dU.w:dU->Nat
 |⟨_,_,_,a⟩=>1+dU.ws a
def dU.ws:List dU->Nat
 | []=>0
 |x::a=>x.w+dU.ws a
end
def dU.lF(a:dU):a.w=1+dU.ws a.l:=by cases a;rw[dU.w];rfl
def dU.iW:dU.ws []=0:=by rw[dU.ws]
def dU.ke(b:dU)(a:List dU):dU.ws (b::a)=b.w+dU.ws a:=by rw[dU.ws]
def dU.vP{b:dU}{a:List dU}(h:b∈a):b.w<=dU.ws a:=by
 induction a with
 |nil=>simp at h
 |cons d a c=>
  rw[dU.ke];rcases List.mem_cons.1 h with rfl|h
  ·omega
  ·have:=c h;omega
def dU.uZ{l:List dU}:l.length<=dU.ws l:=by
 induction l with
 |nil=>simp
 |cons a l b=>rw[dU.ke,aU,a.lF];omega
mutual
def dO.w:dO->Nat
 |⟨_,_,_,_,c,b,a,d⟩=>4+dU.ws c+b.w+dO.ws a+dO.ws d
def dO.ws:List dO->Nat
 | []=>0
 |x::a=>x.w+dO.ws a
end
def dO.lF(a:dO):a.w=4+dU.ws a.index+a.e.w+dO.ws a.body+dO.ws a.NW:=by cases a;rw[dO.w];rfl
def dO.iW:dO.ws []=0:=by rw[dO.ws]
def dO.ke(b:dO)(a:List dO):dO.ws (b::a)=b.w+dO.ws a:=by rw[dO.ws]
def dO.Jw(a b:List dO):dO.ws (a++b)=dO.ws a+dO.ws b:=by
 induction a with
 |nil=>rw[List.nil_append,dO.iW];omega
 |cons d a c=>rw[cy,dO.ke,dO.ke,c];omega
def dO.vP{b:dO}{a:List dO}(h:b∈a):b.w<=dO.ws a:=by
 induction a with
 |nil=>simp at h
 |cons d a c=>
  rw[dO.ke];rcases List.mem_cons.1 h with rfl|h
  ·omega
  ·have:=c h;omega
def dO.uZ{l:List dO}:l.length<=dO.ws l:=by
 induction l with
 |nil=>simp
 |cons a l b=>rw[dO.ke,aU,a.lF];omega
inductive ME:dU->Prop
 |num (n:Int):ME ⟨1,n,[],[]⟩
 |nm (s:List Nat):ME ⟨2,0,s,[]⟩
 |ix {a:dU} (h:ME a):ME ⟨3,0,[113],[a]⟩
 |bin {k:Int} {a b:dU} (hk:6<=k) (ha:ME a) (hb:ME b):ME ⟨k,0,[],[a,b]⟩
inductive MS:dO->Prop
 |mk {s:dO} (c:9<=s.op/\s.op<=11->s.name=[99]) (q:s.op=1->s.index≠ []->s.name=[113]) (i:∀x∈s.index,ME x) (e:s.op=1\/s.op=2\/s.op=3\/s.op=14->ME s.e) (b:∀c∈s.body,MS c) (l:∀c∈s.NW,MS c):MS s
def MS.cond{a:dO}(b:MS a):9<=a.op/\a.op<=11->a.name=[99]:=by cases b;assumption
def MS.arr{a:dO}(b:MS a):a.op=1->a.index≠ []->a.name=[113]:=by cases b;assumption
def MS.ind{a:dO}(b:MS a):∀c∈a.index,ME c:=by cases b;assumption
def MS.ex{a:dO}(b:MS a):a.op=1\/a.op=2\/a.op=3\/a.op=14->ME a.e:=by cases b;assumption
def MS.bd{a:dO}(c:MS a):∀b∈a.body,MS b:=by cases c;assumption
def MS.el{a:dO}(c:MS a):∀b∈a.NW,MS b:=by cases c;assumption
def dO.Gb(b:List dO){a:Nat}(c:a<b.length):dO.ws (b.take (a+1))=dO.ws (b.take a)+b[a].w:=by
 rw[aQ c,dO.Jw,dO.ke,dO.iW];rfl
def dO.yd(a:List dO)(b:Nat):dO.ws (a.take b)<=dO.ws a:=by
 conv=>rhs;rw[<-cQ b a]
 rw[dO.Jw];omega
