/- DProg -/
import Derived.Test.YtajpdafdickapaaGreatDoorA14
set_option linter.all false
set_option maxRecDepth 100000
set_option maxHeartbeats 8000000
namespace Go.Proofs.YtajpdafdickapaaGreatDoor
noncomputable section
open Go Go.TI
structure fO where
 name:List Nat
 vi:Int
 locals:List (List Nat)
 body:List dO
 deriving Inhabited
def fO.cs(a:fO):List T:=[.str a.name,Z a.vi,sl (a.locals.map T.str),sl (a.body.map dO.t)]
def fO.t(a:fO):T:= .agg a.cs
@[simp]def fO.ag (a:fO):qV a.t [.str a.name,Z a.vi,sl (a.locals.map T.str),sl (a.body.map dO.t)] 4:=by
 unfold fO.t fO.cs;exact⟨rfl,rfl,λ_ _=>rfl,rfl,by simp[jR],λ_=>by simp,λ_ _=>by simp,dy,dy⟩
@[simp]theorem fO.fold (a0:List Nat) (a1:Int) (a2:List (List Nat)) (a3:List dO):T.agg [.str a0,Z a1,sl (a2.map T.str),sl (a3.map dO.t)]=fO.t ⟨a0,a1,a2,a3⟩:=rfl
@[simp]theorem fO.eta (a:fO):fO.mk a.name a.vi a.locals a.body=a:=rfl
def fO.inj{a b:fO}(c:a.t=b.t):a=b:=by
 rcases a with⟨_,_,_,_⟩;rcases b with⟨_,_,_,_⟩;simp only[fO.t,fO.cs,T.agg.injEq,aL]at c;obtain⟨d,e,f,g,_⟩:=c;obtain rfl:=ni d;obtain rfl:=il e;obtain rfl:=iw (λ_ _=>ni) _ _ f;obtain rfl:=iw (λ_ _=>dO.inj) _ _ g;rfl
structure fK where
 jt:List iC
 dH:List fO
 deriving Inhabited
def fK.cs(a:fK):List T:=[sl (a.jt.map iC.t),sl (a.dH.map fO.t)]
def fK.t(a:fK):T:= .agg a.cs
@[simp]def fK.ag (a:fK):qV a.t [sl (a.jt.map iC.t),sl (a.dH.map fO.t)] 2:=by
 unfold fK.t fK.cs;exact⟨rfl,rfl,λ_ _=>rfl,rfl,by simp[jR],λ_=>by simp,λ_ _=>by simp,dy,dy⟩
@[simp]theorem fK.fold (a0:List iC) (a1:List fO):T.agg [sl (a0.map iC.t),sl (a1.map fO.t)]=fK.t ⟨a0,a1⟩:=rfl
@[simp]theorem fK.eta (a:fK):fK.mk a.jt a.dH=a:=rfl
def fK.inj{a b:fK}(c:a.t=b.t):a=b:=by
 rcases a with⟨_,_⟩;rcases b with⟨_,_⟩;simp only[fK.t,fK.cs,T.agg.injEq,aL]at c;obtain⟨d,e,_⟩:=c;obtain rfl:=iw (λ_ _=>iC.inj) _ _ d;obtain rfl:=iw (λ_ _=>fO.inj) _ _ e;rfl
mutual
def dV.w:dV->Nat
 |⟨_,_,_,a⟩=>1+dV.ws a
def dV.ws:List dV->Nat
 | []=>0
 |x::a=>x.w+dV.ws a
end
def dV.lI(a:dV):a.w=1+dV.ws a.l:=by cases a;rw[dV.w];rfl
def dV.iW:dV.ws []=0:=by rw[dV.ws]
def dV.ke(b:dV)(a:List dV):dV.ws (b::a)=b.w+dV.ws a:=by rw[dV.ws]
def dV.wa{b:dV}{a:List dV}(h:b∈a):b.w<=dV.ws a:=by
 induction a with
 |nil=>simp at h
 |cons d a c=>
  rw[dV.ke];rcases List.mem_cons.1 h with rfl|h
  ·omega
  ·have:=c h;omega
def dV.vk{l:List dV}:l.length<=dV.ws l:=by
 induction l with
 |nil=>simp
 |cons a l b=>rw[dV.ke,aT,a.lI];omega
mutual
def dO.w:dO->Nat
 |⟨_,_,_,_,c,b,a,d⟩=>4+dV.ws c+b.w+dO.ws a+dO.ws d
def dO.ws:List dO->Nat
 | []=>0
 |x::a=>x.w+dO.ws a
end
def dO.lI(a:dO):a.w=4+dV.ws a.index+a.e.w+dO.ws a.body+dO.ws a.OH:=by cases a;rw[dO.w];rfl
def dO.iW:dO.ws []=0:=by rw[dO.ws]
def dO.ke(b:dO)(a:List dO):dO.ws (b::a)=b.w+dO.ws a:=by rw[dO.ws]
def dO.J4(a b:List dO):dO.ws (a++b)=dO.ws a+dO.ws b:=by
 induction a with
 |nil=>rw[List.nil_append,dO.iW];omega
 |cons d a c=>rw[cE,dO.ke,dO.ke,c];omega
def dO.wa{b:dO}{a:List dO}(h:b∈a):b.w<=dO.ws a:=by
 induction a with
 |nil=>simp at h
 |cons d a c=>
  rw[dO.ke];rcases List.mem_cons.1 h with rfl|h
  ·omega
  ·have:=c h;omega
def dO.vk{l:List dO}:l.length<=dO.ws l:=by
 induction l with
 |nil=>simp
 |cons a l b=>rw[dO.ke,aT,a.lI];omega
inductive ME:dV->Prop
 |num (n:Int):ME ⟨1,n,[],[]⟩
 |nm (s:List Nat):ME ⟨2,0,s,[]⟩
 |ix {a:dV} (h:ME a):ME ⟨3,0,[113],[a]⟩
 |bin {k:Int} {a b:dV} (hk:6<=k) (ha:ME a) (hb:ME b):ME ⟨k,0,[],[a,b]⟩
inductive MS:dO->Prop
 |mk {s:dO} (c:9<=s.op/\s.op<=11->s.name=[99]) (q:s.op=1->s.index≠ []->s.name=[113]) (i:∀x∈s.index,ME x) (e:s.op=1\/s.op=2\/s.op=3\/s.op=14->ME s.e) (b:∀c∈s.body,MS c) (l:∀c∈s.OH,MS c):MS s
def MS.cond{a:dO}(b:MS a):9<=a.op/\a.op<=11->a.name=[99]:=by cases b;assumption
def MS.arr{a:dO}(b:MS a):a.op=1->a.index≠ []->a.name=[113]:=by cases b;assumption
def MS.ind{a:dO}(b:MS a):∀c∈a.index,ME c:=by cases b;assumption
def MS.ex{a:dO}(b:MS a):a.op=1\/a.op=2\/a.op=3\/a.op=14->ME a.e:=by cases b;assumption
def MS.bd{a:dO}(c:MS a):∀b∈a.body,MS b:=by cases c;assumption
def MS.el{a:dO}(c:MS a):∀b∈a.OH,MS b:=by cases c;assumption
def dO.Gt(b:List dO){a:Nat}(c:a<b.length):dO.ws (b.take (a+1))=dO.ws (b.take a)+b[a].w:=by
 rw[aR c,dO.J4,dO.ke,dO.iW];rfl
def dO.yp(a:List dO)(b:Nat):dO.ws (a.take b)<=dO.ws a:=by
 conv=>rhs;rw[<-cT b a]
 rw[dO.J4];omega
