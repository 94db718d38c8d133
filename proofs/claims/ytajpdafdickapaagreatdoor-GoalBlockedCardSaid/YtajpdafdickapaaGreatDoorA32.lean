/- TiGlob -/
import Derived.Test.YtajpdafdickapaaGreatDoorA5
import Derived.Below
import Derived.Lib.LaidU8
import Derived.OpenShut
set_option linter.all false
namespace Go.TI
noncomputable section
def nQ:Mu:=⟨λ_=>none,λ_=>False⟩
def IJ{c:ai}{g:World}{f:String}{e:Nat}{d:af ao}(i:c.globalNamed f=some e)(a:g.var? c f=some d):∃b fz,g.heap[e]? =some (.cells d b fz):=by
 simp only[World.var?,i,Option.bind_some]at a;split at a
 ·rename_i j b fz h;simp only[au]at a;subst a;exact⟨b,fz,h⟩
 ·simp at a
def Ea{b:ai}{j:World}{x:String}{h d:Nat}{n k:ab}(s:b.globalNamed x=some h)(P:(b.globals[h]?).map (·.type)=some n)(ht:b.underlying n=some (.array d k))(H:b.cellsOf k=1)
 (I:b.cellsOf n=d) {p:List (DataW Unit)} {c:List T} (hl:c.length=d) (O:∀f∈c,vM f)
 (L:∀(a:Nat) g i q z f,p[a]? =some g->c[a]? =some i->DataW.trod (λ_=>()) b j 0 (λ_=>true) false q k [f]=some (g,z)->fI j.heap nQ i f)
 (B:Lib.VarReads b j x (.agg p)):fI j.heap nQ (.jD c) (.pointer (some ⟨h,0,none⟩)):=by
 obtain⟨W,Y,e,q,z,C,D,E,F⟩:=B;obtain rfl:=Option.some.inj (s.symm.trans C);obtain rfl:=Option.some.inj (P.symm.trans D);have⟨t2,fz,M⟩:=IJ s E;obtain⟨A,R,rfl,v,u,X,r⟩:=DataW.trod_array ht F;simp only[aD,DataW.agg.injEq]at v;rw[H]at r;rw[I]at u;have Q:e.size=d:=by simpa using u
 refine .jD c h 0 e t2 fz (λN=>?_) M J O λa i m=>?_
 ·rcases N with⟨V,U,G,_⟩|hr
  ·simp[nQ]at G
  ·exact hr
 ·have t:a<d:=by
   rcases aR a c.length with y|y
   ·omega
   ·rw[bK y]at m;simp at m
  have l:=r a t;have K:(e.toList.drop (a*1)).take 1=[e.getD a Go.undef]:=by
   rw[Nat.mul_one,aI (by simpa[Q]using t)];have:a<e.size:=J;simp[bP,this]
  rw[K]at l;have⟨o,w⟩:∃o,A[a]? =some o:=⟨A[a]' J,dy⟩;rw[w]at l;obtain⟨g,S⟩:=o;rw[cA];refine L a g i R S _ ?_ m l;rw[v.1,aS,w];rfl
def GV{P:ai}{w:World}{name:String}{g k:Nat}{t e:ab}(u:P.globalNamed name=some g)(v:(P.globals[g]?).map (·.type)=some t)(ht:P.underlying t=some (.array k e))(s:P.underlying e=some .string)
 (p:P.cellsOf e=1) (r:P.cellsOf t=k) {ss:List (List UInt8)} (hl:ss.length=k) {cs:List T} (q:cs=ss.map λb=>T.str (b.map UInt8.toNat))
 (n:Lib.VarReads P w name (.agg (ss.map λb=> .lit (.string b)))):fI w.heap nQ (.jD cs) (.pointer (some ⟨g,0,none⟩)):=by
 subst q;refine Ea u v ht p r (by simpa using hl) (λf c=>?_) (λy z C A B f a d x=>?_) n
 ·obtain⟨b,_,rfl⟩:=List.mem_map.1 c;exact⟨rfl,.str _⟩
 ·have⟨b,j,i,_⟩:=DataW.trod_string s x;simp only[aL,and_true]at j;subst j;rw[aS]at a d;cases h:ss[y]? with
  |none=>rw[h]at a;simp at a
  |some l=>
   rw[h]at a d;simp only[cT,au]at a d;subst a d;simp only[aD,DataW.lit.injEq,Lit.string.injEq]at i;have o:bytesOf (l.map UInt8.toNat)=b:=by
    rw[i.1,xZ]
   have:=fI.str (hp:=w.heap) (μ:=nQ) (l.map UInt8.toNat) (by intro f c;simp at c;obtain⟨m,_,rfl⟩:=c;exact m.toNat_lt);rwa[o]at this
def AV{P:ai}{w:World}{name:String}{g k:Nat}{t e:ab}{ki:ak}(q:P.globalNamed name=some g)(r:(P.globals[g]?).map (·.type)=some t)(ht:P.underlying t=some (.array k e))
 (p:P.underlying e=some (.int ki)) (m:P.cellsOf e=1) (o:P.cellsOf t=k) {zs:List Int} (hl:zs.length=k) {cs:List T} (n:cs=zs.map λc=>T.int ki c)
 (j:Lib.VarReads P w name (.agg (zs.map λc=> .lit (.int ki c)))):fI w.heap nQ (.jD cs) (.pointer (some ⟨g,0,none⟩)):=by
 subst n;refine Ea q r ht m o (by simpa using hl) (λi l=>?_) (λu v B x y i a b s=>?_) j
 ·obtain⟨z,_,rfl⟩:=List.mem_map.1 l;exact⟨rfl,.int _ _⟩
 ·have⟨c,h,f,_⟩:=DataW.trod_int p s;simp only[aL,and_true]at h;subst h;rw[aS]at a b;cases d:zs[u]? with
  |none=>rw[d]at a;simp at a
  |some A=>
   rw[d]at a b;simp only[cT,au]at a b;subst a b;simp only[aD,DataW.lit.injEq,Lit.int.injEq,true_and]at f;rw[<-f.1];exact .int _ _
