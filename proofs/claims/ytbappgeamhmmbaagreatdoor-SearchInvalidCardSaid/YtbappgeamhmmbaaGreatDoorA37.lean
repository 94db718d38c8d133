/- TiGlob -/
import Derived.Test.YtbappgeamhmmbaaGreatDoorA5
import Derived.Below
import Derived.Lib.LaidU8
import Derived.OpenShut
set_option linter.all false
namespace Go.TI
noncomputable section
def nz:Mu:=⟨λ_=>none,λ_=>False⟩
def GU{c:ai}{g:World}{f:String}{e:Nat}{d:af am}(i:c.globalNamed f=some e)(a:g.var? c f=some d):∃b fz,g.heap[e]? =some (.cells d b fz):=by
 simp only[World.var?,i,Option.bind_some]at a;split at a
 ·rename_i j b fz h;simp only[ar]at a;subst a;exact⟨b,fz,h⟩
 ·simp at a
def Cx{b:ai}{j:World}{x:String}{h d:Nat}{n k:ab}(s:b.globalNamed x=some h)(R:(b.globals[h]?).map (·.type)=some n)(ht:b.underlying n=some (.array d k))(K:b.cellsOf k=1)
 (L:b.cellsOf n=d) {p:List (DataW Unit)} {c:List T} (hl:c.length=d) (Q:∀f∈c,uC f)
 (N:∀(a:Nat) g i q z f,p[a]? =some g->c[a]? =some i->DataW.trod (λ_=>()) b j 0 (λ_=>true) false q k [f]=some (g,z)->eK j.heap nz i f)
 (C:Lib.VarReads b j x (.agg p)):eK j.heap nz (.jh c) (.pointer (some ⟨h,0,none⟩)):=by
 obtain⟨Y,al,e,q,z,E,F,G,H⟩:=C;obtain rfl:=Option.some.inj (s.symm.trans E);obtain rfl:=Option.some.inj (R.symm.trans F);have⟨t2,fz,O⟩:=GU s G;obtain⟨A,U,rfl,v,u,ae,r⟩:=DataW.trod_array ht H;simp only[aB,DataW.agg.injEq]at v;rw[K]at r;rw[L]at u;have S:e.size=d:=by simpa using u
 refine .jh c h 0 e t2 fz (λP=>?_) O B Q λa i m=>?_
 ·rcases P with⟨X,W,I,_⟩|hr
  ·simp[nz]at I
  ·exact hr
 ·have t:a<d:=by
   rcases aM a c.length with y|y
   ·omega
   ·rw[bL y]at m;simp at m
  have l:=r a t;have M:(e.toList.drop (a*1)).take 1=[e.getD a Go.undef]:=by
   rw[Nat.mul_one,aH (by simpa[S]using t)];have:a<e.size:=B;simp[bQ,this]
  rw[M]at l;have⟨o,w⟩:∃o,A[a]? =some o:=⟨A[a]' B,J⟩;rw[w]at l;obtain⟨g,V⟩:=o;rw[cB];refine N a g i U V _ ?_ m l;rw[v.1,aQ,w];rfl
def E3{P:ai}{w:World}{name:String}{g k:Nat}{t e:ab}(u:P.globalNamed name=some g)(v:(P.globals[g]?).map (·.type)=some t)(ht:P.underlying t=some (.array k e))(s:P.underlying e=some .string)
 (p:P.cellsOf e=1) (r:P.cellsOf t=k) {ss:List (List UInt8)} (hl:ss.length=k) {cs:List T} (q:cs=ss.map λb=>T.str (b.map UInt8.toNat))
 (n:Lib.VarReads P w name (.agg (ss.map λb=> .lit (.string b)))):eK w.heap nz (.jh cs) (.pointer (some ⟨g,0,none⟩)):=by
 subst q;refine Cx u v ht p r (by simpa using hl) (λf c=>?_) (λy z E A C f a d x=>?_) n
 ·obtain⟨b,_,rfl⟩:=List.mem_map.1 c;exact⟨rfl,.str _⟩
 ·have⟨b,j,i,_⟩:=DataW.trod_string s x;simp only[bI,and_true]at j;subst j;rw[aQ]at a d;cases h:ss[y]? with
  |none=>rw[h]at a;simp at a
  |some l=>
   rw[h]at a d;simp only[cJ,ar]at a d;subst a d;simp only[aB,DataW.lit.injEq,Lit.string.injEq]at i;have o:bytesOf (l.map UInt8.toNat)=b:=by
    rw[i.1,wV]
   have:=eK.str (hp:=w.heap) (μ:=nz) (l.map UInt8.toNat) (by intro f c;simp at c;obtain⟨m,_,rfl⟩:=c;exact m.toNat_lt);rwa[o]at this
def Ab{P:ai}{w:World}{name:String}{g k:Nat}{t e:ab}{ki:ak}(q:P.globalNamed name=some g)(r:(P.globals[g]?).map (·.type)=some t)(ht:P.underlying t=some (.array k e))
 (p:P.underlying e=some (.int ki)) (m:P.cellsOf e=1) (o:P.cellsOf t=k) {zs:List Int} (hl:zs.length=k) {cs:List T} (n:cs=zs.map λc=>T.int ki c)
 (j:Lib.VarReads P w name (.agg (zs.map λc=> .lit (.int ki c)))):eK w.heap nz (.jh cs) (.pointer (some ⟨g,0,none⟩)):=by
 subst n;refine Cx q r ht m o (by simpa using hl) (λi l=>?_) (λu v C x y i a b s=>?_) j
 ·obtain⟨z,_,rfl⟩:=List.mem_map.1 l;exact⟨rfl,.int _ _⟩
 ·have⟨c,h,f,_⟩:=DataW.trod_int p s;simp only[bI,and_true]at h;subst h;rw[aQ]at a b;cases d:zs[u]? with
  |none=>rw[d]at a;simp at a
  |some A=>
   rw[d]at a b;simp only[cJ,ar]at a b;subst a b;simp only[aB,DataW.lit.injEq,Lit.int.injEq,true_and]at f;rw[<-f.1];exact .int _ _
