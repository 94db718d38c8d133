/- TiGlob -/
import Derived.Test.YtmoiekepclmgbaaGreatDoorA5
import Derived.Below
import Derived.Lib.LaidU8
import Derived.OpenShut
set_option linter.all false
namespace Go.TI
noncomputable section
def oL:Mu:=⟨λ_=>none,λ_=>False⟩
def Kv{c:ai}{g:World}{f:String}{e:Nat}{d:af am}(i:c.globalNamed f=some e)(a:g.var? c f=some d):∃b fz,g.heap[e]? =some (.cells d b fz):=by
 simp only[World.var?,i,Option.bind_some]at a;split at a
 ·rename_i j b fz h;simp only[ar]at a;subst a;exact⟨b,fz,h⟩
 ·simp at a
def Fq{b:ai}{j:World}{x:String}{h d:Nat}{n k:ab}(s:b.globalNamed x=some h)(Q:(b.globals[h]?).map (·.type)=some n)(ht:b.underlying n=some (.array d k))(J:b.cellsOf k=1)
 (K:b.cellsOf n=d) {p:List (DataW Unit)} {c:List T} (hl:c.length=d) (P:∀f∈c,xE f)
 (M:∀(a:Nat) g i q z f,p[a]? =some g->c[a]? =some i->DataW.trod (λ_=>()) b j 0 (λ_=>true) false q k [f]=some (g,z)->gW j.heap oL i f)
 (B:Lib.VarReads b j x (.agg p)):gW j.heap oL (.j9 c) (.pointer (some ⟨h,0,none⟩)):=by
 obtain⟨X,ae,e,q,z,C,E,F,H⟩:=B;obtain rfl:=c8 (s.symm.trans C);obtain rfl:=c8 (Q.symm.trans E);have⟨t2,fz,N⟩:=Kv s F;obtain⟨A,S,rfl,v,u,Z,r⟩:=DataW.trod_array ht H;simp only[aB,DataW.agg.injEq]at v;rw[J]at r;rw[K]at u;have R:e.size=d:=by simpa using u
 refine .j9 c h 0 e t2 fz (λO=>?_) N D P λa i m=>?_
 ·rcases O with⟨W,V,I,_⟩|hr
  ·simp[oL]at I
  ·exact hr
 ·have t:a<d:=by
   rcases aS a c.length with y|y
   ·omega
   ·rw[bP y]at m;simp at m
  have l:=r a t;have L:(e.toList.drop (a*1)).take 1=[e.getD a Go.undef]:=by
   rw[Nat.mul_one,aH (by simpa[R]using t)];have:a<e.size:=D;simp[cd,this]
  rw[L]at l;have⟨o,w⟩:∃o,A[a]? =some o:=⟨A[a]' D,Y⟩;rw[w]at l;obtain⟨g,U⟩:=o;rw[cJ];refine M a g i S U _ ?_ m l;rw[v.1,aR,w];rfl
def Bk{P:ai}{w:World}{name:String}{g k:Nat}{t e:ab}(u:P.globalNamed name=some g)(v:(P.globals[g]?).map (·.type)=some t)(ht:P.underlying t=some (.array k e))(s:P.underlying e=some .string)
 (p:P.cellsOf e=1) (r:P.cellsOf t=k) {ss:List (List UInt8)} (hl:ss.length=k) {cs:List T} (q:cs=ss.map λb=>T.str (b.map UInt8.toNat))
 (n:Lib.VarReads P w name (.agg (ss.map λb=> .lit (.string b)))):gW w.heap oL (.j9 cs) (.pointer (some ⟨g,0,none⟩)):=by
 subst q;refine Fq u v ht p r (by simpa using hl) (λf c=>?_) (λy z C A B f a d x=>?_) n
 ·obtain⟨b,_,rfl⟩:=List.mem_map.1 c;exact⟨rfl,.str _⟩
 ·have⟨b,j,i,_⟩:=DataW.trod_string s x;simp only[bV,and_true]at j;subst j;rw[aR]at a d;cases h:ss[y]? with
  |none=>rw[h]at a;simp at a
  |some l=>
   rw[h]at a d;simp only[Option.map_some,ar]at a d;subst a d;simp only[aB,DataW.lit.injEq,Lit.string.injEq]at i;have o:bytesOf (l.map UInt8.toNat)=b:=by
    rw[i.1,zH]
   have:=gW.str (hp:=w.heap) (μ:=oL) (l.map UInt8.toNat) (by intro f c;simp at c;obtain⟨m,_,rfl⟩:=c;exact m.toNat_lt);rwa[o]at this
def tN{P:ai}{w:World}{name:String}{g k:Nat}{t e:ab}{ki:ak}(q:P.globalNamed name=some g)(r:(P.globals[g]?).map (·.type)=some t)(ht:P.underlying t=some (.array k e))
 (p:P.underlying e=some (.int ki)) (m:P.cellsOf e=1) (o:P.cellsOf t=k) {zs:List Int} (hl:zs.length=k) {cs:List T} (n:cs=zs.map λc=>T.int ki c)
 (j:Lib.VarReads P w name (.agg (zs.map λc=> .lit (.int ki c)))):gW w.heap oL (.j9 cs) (.pointer (some ⟨g,0,none⟩)):=by
 subst n;refine Fq q r ht m o (by simpa using hl) (λi l=>?_) (λu v B x y i a b s=>?_) j
 ·obtain⟨z,_,rfl⟩:=List.mem_map.1 l;exact⟨rfl,.int _ _⟩
 ·have⟨c,h,f,_⟩:=DataW.trod_int p s;simp only[bV,and_true]at h;subst h;rw[aR]at a b;cases d:zs[u]? with
  |none=>rw[d]at a;simp at a
  |some A=>
   rw[d]at a b;simp only[Option.map_some,ar]at a b;subst a b;simp only[aB,DataW.lit.injEq,Lit.int.injEq,true_and]at f;rw[<-f.1];exact .int _ _
