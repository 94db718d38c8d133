/- DProg -/
import Derived.Test.YtmoiekepclmgbaaGreatDoorA14
set_option linter.all false
set_option maxRecDepth 100000
set_option maxHeartbeats 0
namespace Go.Proofs.YtmoiekepclmgbaaGreatDoor
noncomputable section
open Go Go.TI
structure iw where
 name:List Nat
 wU:Int
 locals:List (List Nat)
 body:List ei
 deriving Inhabited
def iw.cs(a:iw):List T:=[.str a.name,G a.wU,sl (a.locals.map T.str),sl (a.body.map ei.t)]
def iw.t(a:iw):T:= .agg a.cs
@[simp]def iw.ag (a:iw):rn a.t [.str a.name,G a.wU,sl (a.locals.map T.str),sl (a.body.map ei.t)] 4:=C2
@[simp]theorem iw.fold (a0:List Nat) (a1:Int) (a2:List (List Nat)) (a3:List ei):T.agg [.str a0,G a1,sl (a2.map T.str),sl (a3.map ei.t)]=iw.t ⟨a0,a1,a2,a3⟩:=rfl
@[simp]theorem iw.eta (a:iw):iw.mk a.name a.wU a.locals a.body=a:=rfl
def iw.inj{a b:iw}(c:a.t=b.t):a=b:=by
 rcases a with⟨_,_,_,_⟩;rcases b with⟨_,_,_,_⟩;simp only[iw.t,iw.cs,T.agg.injEq,bV]at c;obtain⟨d,e,f,g,_⟩:=c;obtain rfl:=Ra d;obtain rfl:=E5 e;obtain rfl:=D9 (λ_ _=>Ra) _ _ f;obtain rfl:=D9 (λ_ _=>ei.inj) _ _ g;rfl
structure ik where
 jU:List iY
 dW:List iw
 deriving Inhabited
def ik.cs(a:ik):List T:=[sl (a.jU.map iY.t),sl (a.dW.map iw.t)]
def ik.t(a:ik):T:= .agg a.cs
@[simp]def ik.ag (a:ik):rn a.t [sl (a.jU.map iY.t),sl (a.dW.map iw.t)] 2:=C2
@[simp]theorem ik.fold (a0:List iY) (a1:List iw):T.agg [sl (a0.map iY.t),sl (a1.map iw.t)]=ik.t ⟨a0,a1⟩:=rfl
@[simp]theorem ik.eta (a:ik):ik.mk a.jU a.dW=a:=rfl
def ik.inj{a b:ik}(c:a.t=b.t):a=b:=by
 rcases a with⟨_,_⟩;rcases b with⟨_,_⟩;simp only[ik.t,ik.cs,T.agg.injEq,bV]at c;obtain⟨d,e,_⟩:=c;obtain rfl:=D9 (λ_ _=>iY.inj) _ _ d;obtain rfl:=D9 (λ_ _=>iw.inj) _ _ e;rfl
mutual
def eY.w:eY->Nat
 |⟨_,_,_,a⟩=>1+eY.ws a
def eY.ws:List eY->Nat
 | []=>0
 |x::a=>x.w+eY.ws a
end
def eY.mR(a:eY):a.w=1+eY.ws a.l:=by cases a;rw[eY.w];rfl
def eY.jE:eY.ws []=0:=by rw[eY.ws]
def eY.kL(b:eY)(a:List eY):eY.ws (b::a)=b.w+eY.ws a:=by rw[eY.ws]
def eY.xH{b:eY}{a:List eY}(h:b∈a):b.w<=eY.ws a:=by
 induction a with
 |nil=>simp at h
 |cons d a c=>
  rw[eY.kL];rcases List.mem_cons.1 h with rfl|h
  ·omega
  ·have:=c h;omega
def eY.wW{l:List eY}:l.length<=eY.ws l:=by
 induction l with
 |nil=>simp
 |cons a l b=>rw[eY.kL,aP,a.mR];omega
mutual
def ei.w:ei->Nat
 |⟨_,_,_,_,c,b,a,d⟩=>4+eY.ws c+b.w+ei.ws a+ei.ws d
def ei.ws:List ei->Nat
 | []=>0
 |x::a=>x.w+ei.ws a
end
def ei.mR(a:ei):a.w=4+eY.ws a.index+a.e.w+ei.ws a.body+ei.ws a.Qu:=by cases a;rw[ei.w];rfl
def ei.jE:ei.ws []=0:=by rw[ei.ws]
def ei.kL(b:ei)(a:List ei):ei.ws (b::a)=b.w+ei.ws a:=by rw[ei.ws]
def ei.Lp(a b:List ei):ei.ws (a++b)=ei.ws a+ei.ws b:=by
 induction a with
 |nil=>rw[cG,ei.jE];omega
 |cons d a c=>rw[cM,ei.kL,ei.kL,c];omega
def ei.xH{b:ei}{a:List ei}(h:b∈a):b.w<=ei.ws a:=by
 induction a with
 |nil=>simp at h
 |cons d a c=>
  rw[ei.kL];rcases List.mem_cons.1 h with rfl|h
  ·omega
  ·have:=c h;omega
def ei.wW{l:List ei}:l.length<=ei.ws l:=by
 induction l with
 |nil=>simp
 |cons a l b=>rw[ei.kL,aP,a.mR];omega
inductive ME:eY->Prop
 |num (n:Int):ME ⟨1,n,[],[]⟩
 |nm (s:List Nat):ME ⟨2,0,s,[]⟩
 |ix {a:eY} (h:ME a):ME ⟨3,0,[113],[a]⟩
 |bin {k:Int} {a b:eY} (hk:6<=k) (ha:ME a) (hb:ME b):ME ⟨k,0,[],[a,b]⟩
inductive MS:ei->Prop
 |mk {s:ei} (c:9<=s.op/\s.op<=11->s.name=[99]) (q:s.op=1->s.index≠ []->s.name=[113]) (i:∀x∈s.index,ME x) (e:s.op=1\/s.op=2\/s.op=3\/s.op=14->ME s.e) (b:∀c∈s.body,MS c) (l:∀c∈s.Qu,MS c):MS s
def MS.cond{a:ei}(b:MS a):9<=a.op/\a.op<=11->a.name=[99]:=by cases b;assumption
def MS.arr{a:ei}(b:MS a):a.op=1->a.index≠ []->a.name=[113]:=by cases b;assumption
def MS.ind{a:ei}(b:MS a):∀c∈a.index,ME c:=by cases b;assumption
def MS.ex{a:ei}(b:MS a):a.op=1\/a.op=2\/a.op=3\/a.op=14->ME a.e:=by cases b;assumption
def MS.bd{a:ei}(c:MS a):∀b∈a.body,MS b:=by cases c;assumption
def MS.el{a:ei}(c:MS a):∀b∈a.Qu,MS b:=by cases c;assumption
def ei.HL(b:List ei){a:Nat}(c:a<b.length):ei.ws (b.take (a+1))=ei.ws (b.take a)+b[a].w:=by
 rw[aM c,ei.Lp,ei.kL,ei.jE];rfl
def ei.zL(a:List ei)(b:Nat):ei.ws (a.take b)<=ei.ws a:=by
 conv=>rhs;rw[<-cS b a]
 rw[ei.Lp];omega
