/- DProg -/
import Derived.Test.YtbappgeamhmmbaaGreatDoorA12
set_option linter.all false
set_option maxRecDepth 100000
set_option maxHeartbeats 0
namespace Go.Proofs.YtbappgeamhmmbaaGreatDoor
noncomputable section
open Go Go.TI
structure fJ where
 name:List Nat
 ud:Int
 locals:List (List Nat)
 body:List dH
 deriving Inhabited
def fJ.cs(a:fJ):List T:=[.str a.name,D a.ud,sl (a.locals.map T.str),sl (a.body.map dH.t)]
def fJ.t(a:fJ):T:= .agg a.cs
@[simp]def fJ.ag (a:fJ):pU a.t [.str a.name,D a.ud,sl (a.locals.map T.str),sl (a.body.map dH.t)] 4:=Bj
@[simp]theorem fJ.fold (a0:List Nat) (a1:Int) (a2:List (List Nat)) (a3:List dH):T.agg [.str a0,D a1,sl (a2.map T.str),sl (a3.map dH.t)]=fJ.t ⟨a0,a1,a2,a3⟩:=rfl
@[simp]theorem fJ.eta (a:fJ):fJ.mk a.name a.ud a.locals a.body=a:=rfl
def fJ.inj{a b:fJ}(c:a.t=b.t):a=b:=by
 rcases a with⟨_,_,_,_⟩;rcases b with⟨_,_,_,_⟩;simp only[fJ.t,fJ.cs,T.agg.injEq,bI]at c;obtain⟨d,e,f,g,_⟩:=c;obtain rfl:=MH d;obtain rfl:=Cg e;obtain rfl:=By (λ_ _=>MH) _ _ f;obtain rfl:=By (λ_ _=>dH.inj) _ _ g;rfl
structure fx where
 jc:List gU
 dC:List fJ
 deriving Inhabited
def fx.cs(a:fx):List T:=[sl (a.jc.map gU.t),sl (a.dC.map fJ.t)]
def fx.t(a:fx):T:= .agg a.cs
@[simp]def fx.ag (a:fx):pU a.t [sl (a.jc.map gU.t),sl (a.dC.map fJ.t)] 2:=Bj
@[simp]theorem fx.fold (a0:List gU) (a1:List fJ):T.agg [sl (a0.map gU.t),sl (a1.map fJ.t)]=fx.t ⟨a0,a1⟩:=rfl
@[simp]theorem fx.eta (a:fx):fx.mk a.jc a.dC=a:=rfl
def fx.inj{a b:fx}(c:a.t=b.t):a=b:=by
 rcases a with⟨_,_⟩;rcases b with⟨_,_⟩;simp only[fx.t,fx.cs,T.agg.injEq,bI]at c;obtain⟨d,e,_⟩:=c;obtain rfl:=By (λ_ _=>gU.inj) _ _ d;obtain rfl:=By (λ_ _=>fJ.inj) _ _ e;rfl
mutual
def dL.w:dL->Nat
 |⟨_,_,_,a⟩=>1+dL.ws a
def dL.ws:List dL->Nat
 | []=>0
 |x::a=>x.w+dL.ws a
end
def dL.kQ(a:dL):a.w=1+dL.ws a.l:=by cases a;rw[dL.w];rfl
def dL.iJ:dL.ws []=0:=by rw[dL.ws]
def dL.jR(b:dL)(a:List dL):dL.ws (b::a)=b.w+dL.ws a:=by rw[dL.ws]
def dL.uE{b:dL}{a:List dL}(h:b∈a):b.w<=dL.ws a:=by
 induction a with
 |nil=>simp at h
 |cons d a c=>
  rw[dL.jR];rcases List.mem_cons.1 h with rfl|h
  ·omega
  ·have:=c h;omega
def dL.uf{l:List dL}:l.length<=dL.ws l:=by
 induction l with
 |nil=>simp
 |cons a l b=>rw[dL.jR,aY,a.kQ];omega
mutual
def dH.w:dH->Nat
 |⟨_,_,_,_,c,b,a,d⟩=>4+dL.ws c+b.w+dH.ws a+dH.ws d
def dH.ws:List dH->Nat
 | []=>0
 |x::a=>x.w+dH.ws a
end
def dH.kQ(a:dH):a.w=4+dL.ws a.index+a.e.w+dH.ws a.body+dH.ws a.LV:=by cases a;rw[dH.w];rfl
def dH.iJ:dH.ws []=0:=by rw[dH.ws]
def dH.jR(b:dH)(a:List dH):dH.ws (b::a)=b.w+dH.ws a:=by rw[dH.ws]
def dH.HN(a b:List dH):dH.ws (a++b)=dH.ws a+dH.ws b:=by
 induction a with
 |nil=>rw[List.nil_append,dH.iJ];omega
 |cons d a c=>rw[cy,dH.jR,dH.jR,c];omega
def dH.uE{b:dH}{a:List dH}(h:b∈a):b.w<=dH.ws a:=by
 induction a with
 |nil=>simp at h
 |cons d a c=>
  rw[dH.jR];rcases List.mem_cons.1 h with rfl|h
  ·omega
  ·have:=c h;omega
def dH.uf{l:List dH}:l.length<=dH.ws l:=by
 induction l with
 |nil=>simp
 |cons a l b=>rw[dH.jR,aY,a.kQ];omega
inductive ME:dL->Prop
 |num (n:Int):ME ⟨1,n,[],[]⟩
 |nm (s:List Nat):ME ⟨2,0,s,[]⟩
 |ix {a:dL} (h:ME a):ME ⟨3,0,[113],[a]⟩
 |bin {k:Int} {a b:dL} (hk:6<=k) (ha:ME a) (hb:ME b):ME ⟨k,0,[],[a,b]⟩
inductive MS:dH->Prop
 |mk {s:dH} (c:9<=s.op/\s.op<=11->s.name=[99]) (q:s.op=1->s.index≠ []->s.name=[113]) (i:∀x∈s.index,ME x) (e:s.op=1\/s.op=2\/s.op=3\/s.op=14->ME s.e) (b:∀c∈s.body,MS c) (l:∀c∈s.LV,MS c):MS s
def MS.cond{a:dH}(b:MS a):9<=a.op/\a.op<=11->a.name=[99]:=by cases b;assumption
def MS.arr{a:dH}(b:MS a):a.op=1->a.index≠ []->a.name=[113]:=by cases b;assumption
def MS.ind{a:dH}(b:MS a):∀c∈a.index,ME c:=by cases b;assumption
def MS.ex{a:dH}(b:MS a):a.op=1\/a.op=2\/a.op=3\/a.op=14->ME a.e:=by cases b;assumption
def MS.bd{a:dH}(c:MS a):∀b∈a.body,MS b:=by cases c;assumption
def MS.el{a:dH}(c:MS a):∀b∈a.LV,MS b:=by cases c;assumption
def dH.Es(b:List dH){a:Nat}(c:a<b.length):dH.ws (b.take (a+1))=dH.ws (b.take a)+b[a].w:=by
 rw[aT c,dH.HN,dH.jR,dH.iJ];rfl
def dH.w7(a:List dH)(b:Nat):dH.ws (a.take b)<=dH.ws a:=by
 conv=>rhs;rw[<-cF b a]
 rw[dH.HN];omega
def allI{b:Type}(a:Nat->b->Bool):Nat->List b->Bool
 |_,[]=>true
 |k,d::c=>a k d&&allI a (k+1) c
def ue(a:Nat):Bool:=decide (97<=a/\a<=122)||decide (65<=a/\a<=90)
def CI(a:Nat):Bool:=decide (48<=a/\a<=57)
def vj(a:Nat):Bool:=ue a||CI a||decide (a=95)
def mO:List (List Nat):=[[118,97,114],[118,111,108,97,116,105,108,101],[109,117,116,101,120],[114,119,108,111,99,107],[99,111,110,100],[102,117,116,117,114,101],[116,104,114,101,97,100],[105,102],[101,108,115,101],[119,104,105,108,101],[108,111,99,107],[114,101,97,100],[119,114,105,116,101],[116,114,97,110,115,97,99,116,105,111,110],[97,116,111,109,105,99],[119,97,105,116],[110,111,116,105,102,121],[110,111,116,105,102,121,97,108,108],[115,112,97,119,110],[106,111,105,110],[115,101,116],[103,101,116]]
def tu(a:List Nat):Bool:=decide (a∈mO)
def J7(a:List Nat):Bool:=match a with|c::_=>ue c| []=>false
def tg(a:List Nat):Bool:=decide (1<=a.length)&&decide (a.length<=12)&& !tu a&&J7 a&&a.all vj
def u7(a:List (List Nat)):Bool:=a.all tg&&decide a.Nodup
def JI(a:fW)(c:List fW):Bool:=allI (λb d=>decide (d={a with index:=b,sK:=false})) 0 (c.take a.size.toNat)
def iM:List fW->aa (List (List Nat))
 | []=>some []
 |c::a=>if c.size=0 then(if c.index=0 then(iM a).map (c.name:: ·)else none)
  else if d:c.size<1\/4<c.size\/(a.length+1:Int)<c.size then none
  else if JI c (c::a)=true then(iM ((c::a).drop c.size.toNat)).map (c.name:: ·)else none
 termination_by b=>b.length
 decreasing_by
  ·simp
  ·simp;omega
def kY(b:Nat):Int->Int->List ik->Bool
 |_,_,[]=>true
 |t,d,a::c=>if a.dQ<t\/(b:Int)<=a.dQ then false else
  if t<a.dQ then(if a.stmt=0 then kY b a.dQ 1 c else false)else(if a.stmt=d then kY b t (d+1) c else false)
def pB(c:dR)(a:Int)(rw:Bool):Bool:=match vC c.dW a with|some b=>b.rW==rw|none=>false
def rG(a:dR):Bool:=decide (a.cells.length<=12)&&decide (a.dW.length<=4)&&decide (a.fV.length<=2)&&decide (a.dU.length<=2)&&decide (a.io.length<=60)&&decide (1<=a.dC.length)&&decide (a.dC.length<=4)
def qk(a:dR)(b:List (List Nat)):List (List Nat):=b++a.dW.map (·.name)++a.fV.map (·.name)++a.dU++a.dC
def Bk(a:dR):Bool:=match iM a.cells with|none=>false|some b=>u7 (qk a b)
def jE(a:dR):Bool:=rG a&&Bk a&&(a.fV.all λb=>pB a b.j2 false)&&kY a.dC.length 0 0 a.io
def vL(c:dR)(b:Int):Bool:=match vC c.cells b with|some a=>decide (a.size=0)|none=>false
def Ah(d:dR)(b c:Int):Bool:=match vC d.cells b with|some a=>decide (a.index=0)&& !decide (a.size=0)&&decide (a.size=c)|none=>false
def iK(d:fD):List Int:=
 if d.op=1\/d.op=6\/d.op=10\/d.op=27 then [d.a]else if d.op=2\/d.op=3 then [d.a,d.b]else if d.op=4 then [d.a,d.b,d.c]
 else if d.op=7 then [d.a,d.c]else if d.op=8\/d.op=26 then [d.b]else if d.op=9 then [d.b,d.c]else []
def lQ(d:dR)(c:fD):Bool:=
 if c.op=6 then vL d c.b else if c.op=8 then vL d c.a else if c.op=7 then Ah d c.b c.n else if c.op=9 then Ah d c.a c.n
 else if c.op=11\/c.op=12 then pB d c.a false else if c.op=13\/c.op=14\/c.op=15\/c.op=16 then pB d c.a true
 else if c.op=21\/c.op=22\/c.op=23 then iR c.a d.fV.length else if c.op=24\/c.op=25 then iR c.a d.dC.length
 else if c.op=26 then iR c.a d.dU.length else if c.op=27 then iR c.b d.dU.length
 else if c.op=3 then decide (c.n=4\/c.n=5)else if c.op=4 then decide (6<=c.n/\c.n<=18)else true
def vK(a:Int):Bool:=decide (1<=a/\a<=5)
def IR(b:fD)(c:Int):Int:=if b.op=5 then b.a else c+1
def Cf(c:List fD):Nat->Int->Bool
 |0,_=>false
 |m+1,b=>match vC c b with
  |none=>false
  |some a=>if vK a.op=true then Cf c m (IR a b)else true
