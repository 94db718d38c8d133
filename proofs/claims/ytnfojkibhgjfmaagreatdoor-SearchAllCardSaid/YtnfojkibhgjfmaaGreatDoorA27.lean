/- TiGlob -/
import Derived.Test.YtnfojkibhgjfmaaGreatDoorA4
import Derived.Below
import Derived.Lib.LaidU8
import Derived.OpenShut
set_option linter.all false
namespace Go.TI
noncomputable section
def pM:Mu:=⟨λ_=>none,λ_=>False⟩
def Ms{c:ai}{g:World}{f:String}{e:Nat}{d:af am}(i:c.globalNamed f=D e)(a:g.var? c f=D d):∃b fz,g.heap[e]? =D (.cells d b fz):=by simp[World.var?,i,Option.bind_some]at a;split at a;rename_i j b fz h;cases a;exact⟨b,fz,h⟩;simp at a
def Ht{b:ai}{j:World}{x:String}{h d:Nat}{n k:ab}(s:b.globalNamed x=D h)(R:(b.globals[h]?).map (·.type)=D n)(ht:b.underlying n=D (.array d k))(K:b.cellsOf k=1)
 (L:b.cellsOf n=d) {p:List (DataW Unit)} {c:List T} (hl:c.length=d) (Q:∀f∈c,yR f)
 (N:∀(a:Nat) g i q z f,p[a]? =D g->c[a]? =D i->DataW.trod (λ_=>()) b j 0 (λ_=>true) false q k [f]=D (g,z)->iu j.heap pM i f)
 (B:Lib.VarReads b j x (.agg p)):iu j.heap pM (.kA c) (.pointer (some ⟨h,0,none⟩)):=by
 obtain⟨Z,al,e,q,z,C,E,F,H⟩:=B;obtain rfl:=dp (s.symm.trans C);obtain rfl:=dp (R.symm.trans E);have⟨t2,fz,O⟩:=Ms s F;obtain⟨A,U,rfl,v,u,ae,r⟩:=DataW.trod_array ht H;simp[aI,DataW.agg.injEq]at v;rw[K]at r;rw[L]at u;have S:e.size=d:=iD u;refine .kA c h 0 e t2 fz (λP=>?_) O G Q λa i m=>?_;rcases P with⟨Y,X,I,_⟩|hr;simp[pM]at I;exact hr;have t:a<d:=by
  rcases aW a c.length with y|y;omega;rw[bY y]at m;simp at m
 have l:=r a t;have M:(e.toList.drop (a*1)).take 1=[e.getD a Go.undef]:=by
  rw[Nat.mul_one,aL (by simpa[S]using t)];have:a<e.size:=G;simp[cC,this]
 rw[M]at l;have⟨o,w⟩:∃o,A[a]? =D o:=⟨A[a]' G,V⟩;rw[w]at l;obtain⟨g,W⟩:=o;rw[dc];refine N a g i U W _ ?_ m l;rw[v.1,br,w];rfl
def CN{P:ai}{w:World}{name:String}{g k:Nat}{t e:ab}(u:P.globalNamed name=D g)(v:(P.globals[g]?).map (·.type)=D t)(ht:P.underlying t=D (.array k e))(s:P.underlying e=D .string)
 (p:P.cellsOf e=1) (r:P.cellsOf t=k) {ss:List (List UInt8)} (hl:ss.length=k) {cs:List T} (q:cs=ss.map λb=>T.str (b.map UInt8.toNat))
 (n:Lib.VarReads P w name (.agg (ss.map λb=> .lit (.string b)))):iu w.heap pM (.kA cs) (.pointer (some ⟨g,0,none⟩)):=by
 subst q;refine Ht u v ht p r (iD hl) (λf c=>?_) (λy z C A B f a d x=>?_) n;obtain⟨b,_,rfl⟩:=List.mem_map.1 c;exact⟨rfl,.str _⟩;have⟨b,j,i,_⟩:=DataW.trod_string s x;simp[cr,and_true]at j;subst j;rw[br]at a d;rcases h:ss[y]? with _|l;rw[h]at a;simp at a;rw[h]at a d;simp[dw,ay]at a d;subst a d;simp[aI,DataW.lit.injEq,Lit.string.injEq]at i;have o:bytesOf (l.map UInt8.toNat)=b:=by
  rw[i.1,Be]
 have:=iu.str (hp:=w.heap) (μ:=pM) (l.map UInt8.toNat) (by intro f c;simp at c;obtain⟨m,_,rfl⟩:=c;exact m.toNat_lt);rwa[o]at this
def uS{P:ai}{w:World}{name:String}{g k:Nat}{t e:ab}{ki:ak}(q:P.globalNamed name=D g)(r:(P.globals[g]?).map (·.type)=D t)(ht:P.underlying t=D (.array k e))
 (p:P.underlying e=D (.int ki)) (m:P.cellsOf e=1) (o:P.cellsOf t=k) {zs:List Int} (hl:zs.length=k) {cs:List T} (n:cs=zs.map λc=>T.int ki c)
 (j:Lib.VarReads P w name (.agg (zs.map λc=> .lit (.int ki c)))):iu w.heap pM (.kA cs) (.pointer (some ⟨g,0,none⟩)):=by
 subst n;refine Ht q r ht m o (iD hl) (λi l=>?_) (λu v B x y i a b s=>?_) j;obtain⟨z,_,rfl⟩:=List.mem_map.1 l;exact⟨rfl,.int _ _⟩;have⟨c,h,f,_⟩:=DataW.trod_int p s;simp[cr,and_true]at h;subst h;rw[br]at a b;rcases d:zs[u]? with _|A;rw[d]at a;simp at a;rw[d]at a b;simp[dw,ay]at a b;subst a b;simp[aI,DataW.lit.injEq,Lit.int.injEq,true_and]at f;rw[<-f.1];exact .int _ _
