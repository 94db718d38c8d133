/- PROVED: the law interleave/interleavelaw21.SearchMade returns true for every input, and leaves its arguments and all that was there as it was: the row searchMadeRow and its card (SearchMadeCardSaid). Where the bytes make a window of a program, search.Find returns for each of its goals the reordering that the document specifies, or none where there is none. Conditions: those of the given row alone (the listed package variables start as the text lays them). The texts W.. walk through the functions' own code, the texts Ti.. bear that out against the model. -/
import Derived.Below
import Derived.Lib.LaidU8
import Derived.OpenShut
import Derived.Carry
import Derived.Lay
import Derived.LaidOnce
import Derived.Test.YtdpclhaknmicoaaGreatDoorCards
import Derived.Test.YtdpclhaknmicoaaGreatDoorTie
import Derived.ProofKit
import Derived.SevenTiedAt
import Derived.Test.YtdpclhaknmicoaaGreatDoorA27
set_option linter.all false
set_option maxRecDepth 100000
set_option maxHeartbeats 0
namespace Go.TI
noncomputable section
def rk:Mu:=⟨λ_=>none,λ_=>False⟩
def LX{c:ai}{g:World}{f:String}{e:Nat}{d:af am}(i:c.globalNamed f=G e)(a:g.var? c f=G d):∃b fz,g.heap[e]? =G (.cells d b fz):=by simp[World.var?,i,Option.bind_some]at a;split at a;rename_i j b fz h;cases a;exact⟨b,fz,h⟩;simp at a
def GY{b:ai}{j:World}{x:String}{h d:Nat}{n k:ab}(s:b.globalNamed x=G h)(R:(b.globals[h]?).map (·.type)=G n)(ht:b.underlying n=G (.array d k))(I:b.cellsOf k=1)
 (K:b.cellsOf n=d) {p:List (DataW Unit)} {c:List T} (hl:c.length=d) (Q:∀f∈c,AN f)
 (N:∀(a:Nat) g i q z f,p[a]? =G g->c[a]? =G i->DataW.trod (λ_=>()) b j 0 (λ_=>true) false q k [f]=G (g,z)->iz j.heap rk i f)
 (B:Lib.VarReads b j x (.agg p)):iz j.heap rk (.kH c) (.pointer (some ⟨h,0,none⟩)):=by
 obtain⟨Z,al,e,q,z,C,D,E,F⟩:=B;obtain rfl:=db (s.symm.trans C);obtain rfl:=db (R.symm.trans D);have⟨t2,fz,O⟩:=LX s E;obtain⟨A,U,rfl,v,u,ae,r⟩:=DataW.trod_array ht F;simp[aH,DataW.agg.injEq]at v;rw[I]at r;rw[K]at u;have S:e.size=d:=iC u;refine .kH c h 0 e t2 fz (λP=>?_) O J Q λa i m=>?_;rcases P with⟨X,W,H,_⟩|hr;simp[rk]at H;exact hr;have t:a<d:=by
  rcases aR a c.length with y|y;omega;rw[cj y]at m;simp at m
 have l:=r a t;have L:(e.toList.drop (a*1)).take 1=[e.getD a Go.undef]:=by
  rw[Nat.mul_one,aJ (by simpa[S]using t)];have:a<e.size:=J;simp[cC,this]
 rw[L]at l;have⟨o,w⟩:∃o,A[a]? =G o:=⟨A[a]' J,Y⟩;rw[w]at l;obtain⟨g,V⟩:=o;rw[cV];refine N a g i U V _ ?_ m l;rw[v.1,bw,w];rfl
def JS{P:ai}{w:World}{name:String}{g k:Nat}{t e:ab}(u:P.globalNamed name=G g)(v:(P.globals[g]?).map (·.type)=G t)(ht:P.underlying t=G (.array k e))(s:P.underlying e=G .string)
 (p:P.cellsOf e=1) (r:P.cellsOf t=k) {ss:List (List UInt8)} (hl:ss.length=k) {cs:List T} (q:cs=ss.map λb=>T.str (b.map UInt8.toNat))
 (n:Lib.VarReads P w name (.agg (ss.map λb=> .lit (.string b)))):iz w.heap rk (.kH cs) (.pointer (some ⟨g,0,none⟩)):=by
 subst q;refine GY u v ht p r (iC hl) (λf c=>?_) (λy z C A B f a d x=>?_) n;obtain⟨b,_,rfl⟩:=List.mem_map.1 c;exact⟨rfl,.str _⟩;have⟨b,j,i,_⟩:=DataW.trod_string s x;simp[bL,and_true]at j;subst j;rw[bw]at a d;rcases h:ss[y]? with _|l;rw[h]at a;simp at a;rw[h]at a d;simp[dA,aw]at a d;subst a d;simp[aH,DataW.lit.injEq,Lit.string.injEq]at i;have o:bytesOf (l.map UInt8.toNat)=b:=by
  rw[i.1,A5]
 have:=iz.str (hp:=w.heap) (μ:=rk) (l.map UInt8.toNat) (by intro f c;simp at c;obtain⟨m,_,rfl⟩:=c;exact m.toNat_lt);rwa[o]at this
def DV{P:ai}{w:World}{name:String}{g k:Nat}{t e:ab}{ki:ak}(q:P.globalNamed name=G g)(r:(P.globals[g]?).map (·.type)=G t)(ht:P.underlying t=G (.array k e))
 (p:P.underlying e=G (.int ki)) (m:P.cellsOf e=1) (o:P.cellsOf t=k) {zs:List Int} (hl:zs.length=k) {cs:List T} (n:cs=zs.map λc=>T.int ki c)
 (j:Lib.VarReads P w name (.agg (zs.map λc=> .lit (.int ki c)))):iz w.heap rk (.kH cs) (.pointer (some ⟨g,0,none⟩)):=by
 subst n;refine GY q r ht m o (iC hl) (λi l=>?_) (λu v B x y i a b s=>?_) j;obtain⟨z,_,rfl⟩:=List.mem_map.1 l;exact⟨rfl,.int _ _⟩;have⟨c,h,f,_⟩:=DataW.trod_int p s;simp[bL,and_true]at h;subst h;rw[bw]at a b;rcases d:zs[u]? with _|A;rw[d]at a;simp at a;rw[d]at a b;simp[dA,aw]at a b;subst a b;simp[aH,DataW.lit.injEq,Lit.int.injEq,true_and]at f;rw[<-f.1];exact .int _ _
section
def Xy(a:Nat):¬qt rk a:=by
 rintro(⟨c,b,d,_⟩|hr)
 grind [rk]
 exact hr
def Rd(P:ai)(t d:Nat)(f:List T->Prop):Prop:=P.cellsOf t=d/\∀(H:Type) (enc:ab×am->H) (e:World) (g:Nat) (k:Nat->Bool) (i:Bool) (h:Nat) (b:List am) (c:DataW H) (j:List MemPlace),
 DataW.trod enc P e g k i h t b=G (c,j)->(∀m∈c.weights P t,m<=reachBytes)->∃a,ja e.heap rk a b/\(∀l∈a,AN l)/\a.length=d/\f a
section
variable {P:ai}{t:Nat}
def ja.one{b:af Obj}{d:Mu}{c:T}{a:am}(h:iz b d c a):ja b d [c] [a]:=ja.cons h ja.nil
def aeB{c:ak}(k:P.underlying t=G (.int c))(j:P.cellsOf t=1):Rd P t 1 λm=>∃b,m=[.int c b]/\c.min<=b/\b<=c.max:=by
 refine⟨j,λH enc v n s p d f o r a q=>?_⟩;rcases d with _|d
 simp[DataW.trod]at a;unfold DataW.trod at a;rw[k]at a
 match f,a with
 | [.int l b],a=>
  simp only[Lit.wf,aC,aP]at a;split at a;rename_i i;obtain⟨rfl,g,h⟩:=i;exact⟨[.int l b],ja.one (.int _ _),λu e=>by simp at e;subst e;exact⟨rfl,.int _ _⟩,rfl,b,rfl,g,h⟩
  grind
def yJ(b:Bool)(a:List T):T:=if b=true then .agg a else ZS a
def IL{c:Bool}{a:List T}{d:Nat}(hl:a.length=d)(e:c=false->d=1)(f:∀g∈a,AN g):(yJ c a).cells=a:=by
 cases c;have:=e rfl;subst this;obtain⟨b,rfl⟩:=List.length_eq_one_iff.1 hl;have h:=(f b Y).1;show T.cells b=[b];cases b<;>first|rfl|grind [T.scalar]
 rfl
def mapM_some{j k:Type}(c:j->aa k):∀{a:List j} {d:List k},a.mapM c=G d->d.length=a.length/\∀(h:Nat) i,a[h]? =G i->∃e,d[h]? =G e/\c i=G e:=by
 intro a;induction a with
 |nil=>simp
 |cons l a m=>
  intro d b;rw[List.mapM_cons]at b;rcases f:c l with _|e
  rw[f]at b;grind;rw[f]at b;rcases g:a.mapM c with _|n
  rw[g]at b;grind;rw[g]at b
  grind
def Hl{f:World}{g d:Nat}{e:Addr}{c:List am}(b:f.cells? g e d=G c):c.length=d/\∀a,a<d->f.cell? (e.add a)=c[a]? :=by
 unfold World.cells? at b;split at b;have⟨l,h⟩:=mapM_some _ b;refine⟨by grind,λa k=>?_⟩;have⟨m,i,j⟩:=h a a (by rw[List.getElem?_range k]);rw[i];exact j
 grind
def Mm{w:World}{a:Addr}{n:Nat}{d:am}(c:w.cell? (a.add n)=G d):∃b t fz,w.heap[a.block]? =G (.cells b t fz)/\b[a.off+n]? =G d:=by
 unfold World.cell? at c;have e:(a.add n).block=a.block:=by unfold Addr.add;split<;>rfl
 have f:(a.add n).off=a.off+n:=by unfold Addr.add;split<;>simp_all
 rw[e,f]at c
 grind
def cell_spot{d:World}{a:Addr}{c:am}(b:d.cell? a=G c):a.spot=none:=by
 unfold World.cell? at b;split at b;simp_all
 grind
def XD{b a c:Nat}(e:0<a)(d:b+(a-1)<c):b+a<=c:=J 
def XQ{ag:Bool}{d:Nat}(g:ag=false->d=1):∀{a:List (List T)},(∀c∈a,c.length=d/\∀b∈c,AN b)->(∀b∈a.map (yJ ag),b.cells.length=d)/\iy (a.map (yJ ag))=a.flatten:=by
 intro a;induction a with
 |nil=>intro _;exact⟨λb h=>by grind,rfl⟩
 |cons c a j=>
  intro e;have⟨m,n⟩:=j λk i=>e k (dw _ i);have f:=e c Y;have l:=IL f.1 g f.2;refine⟨λb h=>?_,?_⟩
  grind
  grind [ot]
def WK{y n I:Nat}{L:List T->Prop}(bA:P.underlying t=G (.slice y))(ea:P.cellsOf t=1)(c4:P.bytesOf y=I)(a7:Rd P y n L)(eB:1<=n)(ag:Bool)(ap:ag=false->n=1):
 Rd P t 1 λq=>∃es:List (List T),q=[sl (es.map (yJ ag))]/\es.length*I<=140737488351232/\∀b∈es,L b:=by
 refine⟨ea,λH enc w Z ef dd an cb d p h bN=>?_⟩;have ee:∀es:List (List T),(∀b∈es,b.length=n/\∀v∈b,AN v)->AN (sl (es.map (yJ ag))):=by
  intro es Q;rcases es with _|⟨b,es⟩
  exact⟨rfl,.jf⟩;refine⟨rfl,.fg _ _ λv l=>?_⟩;obtain⟨x,s,rfl⟩:=List.mem_map.1 (show v∈(b::es).map (yJ ag)from l);have av:=Q x s;cases ag;obtain⟨z,rfl⟩:=List.length_eq_one_iff.1 (av.1.trans (ap rfl));exact(av.2 z Y).2;exact .agg _ λv l=>(av.2 v l).2
 rcases an with _|an;simp[DataW.trod]at h;unfold DataW.trod at h;rw[bA]at h
 match cb,h with
 | [.slice none 0 0],h=>exact⟨[sl []],ja.one (.jf _ _),λv l=>by simp at l;subst l;exact⟨rfl,.jf⟩,rfl,[],rfl,Y,Y⟩
 | [.slice (some a) F b9],h=>
  dsimp at h
  split at h;rename_i R;obtain⟨eu,ds,ey⟩:=R;obtain⟨aN,c9,W⟩:=Option.bind_eq_some_iff.1 h;obtain⟨aE,_,W⟩:=Option.map_eq_some_iff.1 W;simp[aH]at W;obtain⟨c7,_⟩:=W;obtain⟨hl,di⟩:=mapM_some _ c9;have bT:d.weights P t=((aN.map (·.1)).length+(aE.map (·.1)).length)*P.bytesOf y::(DataW.weightsAll P y (aN.map (·.1))++DataW.weightsAll P y (aE.map (·.1))):=by
   rw[<-c7,DataW.weights,bA]
  have br:F*I<=140737488351232:=by
   have D:=bN _ (bT▸dD ..);simp[aL,hl,dS,c4]at D;have N:F*I<=(F+aE.length)*I:=bG I J;have O:reachBytes=140737488351232:=rfl;omega
  have eh:∀(j:List (DataW H)) (x:DataW H),x∈j->∀b∈x.weights P y,b∈DataW.weightsAll P y j:=by
   intro j;induction j with
   |nil=>intro x s;simp at s
   |cons a j ax=>
    intro x s b c;rw[DataW.weightsAll];rcases List.mem_cons.1 s with rfl|s
    exact dC _ c;exact dU _ (ax x s b c)
  have ec:∀i,i<F->∃q:List T,∃j,w.cells? Z (a.add (i*n)) n=G j/\ja w.heap rk q j/\(∀v∈q,AN v)/\q.length=n/\L q:=by
   intro i hi;obtain⟨x,s,de⟩:=di i i (by rw[List.getElem?_range hi]);obtain⟨j,bn,dn⟩:=Option.bind_eq_some_iff.1 de;obtain⟨ae,bX⟩:=x;rw[a7.1]at bn;obtain⟨q,D,N,O,ao⟩:=a7.2 H enc w Z ef dd an j ae bX dn λb c=>bN b (by
    rw[bT];exact dw _ (dC _ (eh _ ae (List.mem_map.2 ⟨(ae,bX),aB s,rfl⟩) b c)))
   exact⟨q,j,bn,D,N,O,ao⟩
  have b6:∀u,u<=F->∃es:List (List T),es.length=u/\∀i b,es[i]? =G b->∃j,w.cells? Z (a.add (i*n)) n=G j/\ja w.heap rk b j/\(∀v∈b,AN v)/\b.length=n/\L b:=by
   intro u;induction u with
   |zero=>intro _;exact⟨[],rfl,Y⟩
   |succ u ax=>
    intro eA;obtain⟨es,E,K⟩:=ax J;obtain⟨q,j,eb⟩:=ec u J;refine⟨es++[q],by simp[E],λi b c=>?_⟩;rcases aR i u with hi|hi
    rw[cN J]at c;exact K i b c;have:i=u:=by
     rcases aR u i with h|h;rw[cj (by simp[E];omega)]at c;simp at c;omega
    subst this;rw[cX J,E]at c;simp at c;subst c;exact⟨j,eb⟩
  obtain⟨es,E,K⟩:=b6 F (ay _);have Q:∀b∈es,b.length=n/\∀v∈b,AN v:=λb c=>by
   obtain⟨i,hi⟩:=cY c;obtain⟨j,_,_,N,O,_⟩:=K i b hi;exact⟨O,N⟩
  have c1:∀b∈es,L b:=λb c=>by
   obtain⟨i,hi⟩:=cY c;obtain⟨j,_,_,N,O,ao⟩:=K i b hi;exact ao
  refine⟨[sl (es.map (yJ ag))],ja.one ?_,λv l=>by simp at l;subst l;exact ee es Q,rfl,es,rfl,?_,c1⟩;rcases es with _|⟨f,e⟩;simp at E;subst E;exact .jf _ _;obtain⟨U,eo⟩:=XQ (ag:=ag) ap Q;obtain⟨l0,b7,r0,eE,eC,_⟩:=K 0 f rfl;have aX:=Hl b7;rw[Nat.zero_mul,show a.add 0=a by simp[Addr.add]]at aX;have ar:=aX.2 0 J;have dm:0<l0.length:=J;rw[show a.add 0=a by simp[Addr.add],aF dm]at ar;have bu:=cell_spot ar;obtain⟨B,ty,fz,R,_⟩:=Mm (w:=w) (a:=a) (n:=0) ((show a.add 0=a by simp[Addr.add])▸ar);obtain⟨S,off,eG⟩:=a
  dsimp at bu R
  subst bu;have ca:∀i b o v,(f::e)[i]? =G b->b[o]? =G v->∃r,B[off+(i*n+o)]? =G r/\iz w.heap rk v r:=by
   intro i b o v c l;obtain⟨j,b8,r1,eF,eD,_⟩:=K i b c;have c6:=Hl b8;have V:o<n:=by
    rcases aR o n with h|h;exact h;rw[cj J]at l;simp at l
   have bs:o<j.length:=J;have D:=c6.2 o V;rw[aF bs]at D;have cp:((⟨S,off,none⟩:Addr).add (i*n)).add o=(⟨S,off,none⟩:Addr).add (i*n+o):=by
    unfold Addr.add;by_cases aA:i*n=0;simp[aA];by_cases bZ:o=0;subst bZ;simp[aA];simp[aA,bZ,dh]
   rw[cp]at D;obtain⟨ej,eH,et,m,C⟩:=Mm D;rw[show w.heap[S]? =G (.cells B ty fz)from R]at m;simp[aw,Obj.cells.injEq]at m;obtain⟨rfl,_,_⟩:=m;refine⟨_,C,?_⟩;have:=r1.2 o v l;rw[da,aF bs]at this;exact this
  have al:∀k v,(iy ((f::e).map (yJ ag)))[k]? =G v->∃r,B[off+k]? =G r/\iz w.heap rk v r/\AN v:=by
   intro k v A;have dk:k<((f::e).map (yJ ag)).length*n:=by
    rw[<-ji U];rcases aR k (iy ((f::e).map (yJ ag))).length with h|h
    exact h;rw[cj h]at A;simp at A
   have hi:k/n<(f::e).length:=by
    rw[Nat.div_lt_iff_lt_mul J];simpa using dk
   have c:(f::e)[k/n]? =G (f::e)[k/n]:=aF hi;have X:=Q _ (aG hi);have V:k% n<((f::e)[k/n]).length:=by rw[X.1];exact Nat.mod_lt _ J
   have bW:((f::e)[k/n])[k% n]? =G ((f::e)[k/n])[k% n]:=aF V;have a8:=flat_get (es:=(f::e).map (yJ ag)) U (i:=k/n) (k:=k% n) (v:=yJ ag (f::e)[k/n]) (z:=((f::e)[k/n])[k% n]) (by rw[bw,c];rfl) (by rw[IL X.1 ap X.2];exact bW);have bi:k/n*n+k% n=k:=by rw[Nat.mul_comm];exact Nat.div_add_mod k n
   rw[bi]at a8;rw[a8]at A;simp[aw]at A;obtain⟨r,m,C⟩:=ca _ _ _ _ c bW;rw[bi]at m;exact⟨r,m,A▸C,A▸X.2 _ (aG V)⟩
  have br:e.length+1=F:=iC E;subst br;show iz w.heap rk (.fg (yJ ag f::e.map (yJ ag)) false) _;have:=iz.fg (hp:=w.heap) (μ:=rk) (yJ ag f) (e.map (yJ ag)) false S off b9 n B ty fz (Xy _) R (iC ds) Y U ?_ ?_ ?_;simpa using this;show off+(iy ((f::e).map (yJ ag))).length<=B.size;have cL:0<(iy ((f::e).map (yJ ag))).length:=ji U▸Nat.mul_pos Y J;obtain⟨r,m,_⟩:=al ((iy ((f::e).map (yJ ag))).length-1) _ (aF J);have C:off+((iy ((f::e).map (yJ ag))).length-1)<B.size:=by
   rcases aR (off+((iy ((f::e).map (yJ ag))).length-1)) B.size with h9|h9;exact h9;rw[Array.getElem?_eq_none h9]at m;simp at m
  exact XD cL C;intro v l;obtain⟨i,hi⟩:=cY l;obtain⟨_,_,_,g⟩:=al i v hi;exact g;intro k v A;obtain⟨r,m,C,_⟩:=al k v A;rw[cC,m];exact C
  grind
  grind
inductive Cut:List (List T->Prop)->List T->Prop where
 |nil:Cut [] []
 |cons (Q:List T->Prop) (Qs:List (List T->Prop)) (a b:List T) (h:Q a) (r:Cut Qs b):Cut (Q::Qs) (a++b)
def Rd.imp{e:Nat}{b c:List T->Prop}(d:Rd P t e b)(u:∀a,b a->c a):Rd P t e c:=⟨d.1,λH enc o f n k i g h m j l=>by
 have⟨a,p,q,r,s⟩:=d.2 H enc o f n k i g h m j l
 grind⟩
def Cut.Us{a:List T}(b:Cut [] a):a=[]:=by cases b;rfl
def Tu{e j:Type}{f:e->j}{p:e->Prop}:∀{b:List j},(∀d∈b,∃a,d=f a/\p a)->∃c:List e,b=c.map f/\∀a∈c,p a:=by
 intro b;induction b with
 |nil=>simp
 |cons d b k=>
  intro g;obtain⟨a,rfl,m⟩:=g d Y;obtain⟨c,rfl,l⟩:=k λi h=>g i (dw _ h);exact⟨a::c,rfl,λi h=>by grind⟩
def Hm{ty:Ty}(a:yx P t ty):P.cellsOf t=ty.size:=by have⟨e,d,f,b,_,_,_,_,_,_,c,_⟩:=a.unfold;unfold Program.cellsOf;rw[b];exact c
def Oy{ty:Ty}(a:yx P t ty):P.bytesOf t=ty.bytes:=by have⟨e,d,f,b,_,_,_,_,_,_,_,c,_⟩:=a.unfold;unfold Program.bytesOf;rw[b];exact c
variable {cx:Ctx}{ty:Ty}
def S1(j8:jR P cx)(e:cx.ty t=G ty){c:ak}(h:ty.u= .int c)(g:ty.size=1):Rd P t 1 λf=>∃a:Int,f=[.int c a]/\(c.min<=a/\a<=c.max):=by have⟨i,d,b⟩:=mp (j8.ty _ _ e);rw[h]at b;exact(aeB (by rw[d,Ab b]) (by rw[Hm (j8.ty _ _ e),g])).imp λf ⟨a,d,b⟩=>⟨a,d,b⟩
def SZ(j8:jR P cx)(k:cx.ty t=G ty){g i:Nat}{l:Ty}(x:ty.u= .slice g)(v:ty.size=1)(w:cx.ty g=G l){d:Type}{h:d->List T}{p:d->Prop}(o:Rd P g i λc=>∃a,c=h a/\p a)(s:1<=i)(e:Bool)(n:e=false->i=1){f:d->T}(A:∀a,yJ e (h a)=f a):
 Rd P t 1 λc=>∃b:List d,c=[sl (b.map f)]/\(b.length*l.bytes<=140737488351232/\∀a∈b,p a):=by
 have⟨y,m,j⟩:=mp (j8.ty _ _ k);rw[x]at j;refine(WK (by rw[m,nU j]) (by rw[Hm (j8.ty _ _ k),v]) (Oy (j8.ty _ _ w)) o s e n).imp ?_;rintro c ⟨z,rfl,hl,q⟩;obtain⟨b,rfl,r⟩:=Tu (f:=h) (p:=p) q;refine⟨b,?_,by grind,r⟩;rw[List.map_map];congr 2;simp_all
end
def Ov{P:ai}{cx:Ctx}{d:aj}{j:Func}{c:Code}{l:List T}{g:af am}(q:P.funcs[d]? =G j)(v:(j.name== "runtime.NumGoroutine")=false)(a:j.body=G c)
 (w:ni P cx d l (.bool true)) (W:World) (s:∀n m,cx.gl n=G m->iz W.heap rk (.kH m) (.pointer (some ⟨n,0,none⟩))) (r:ja W.heap rk l g.toList):
 Calls P d g W λi k=>i= .returned (.bool true)/\RowKit.Below W.heap.size W k:=by
 have z:St cx W.heap.size W.heap rk ⟨0,0,[]⟩:=
  ⟨rfl,ay _,λf e a=>by grind [rk],λf C e B a=>by simp[rk],λf e a=>by grind [rk],λf e a=>by simp[rk],λD hr=>hr.elim,s⟩
 have h:=w W.heap.size W rk g ⟨0,0,[]⟩ z r;rw[qI q v a]at h;have h:Calls P d g W λ
  | .returned p,A=>uI cx W.heap.size W rk ⟨0,0,[]⟩ (.bool true) ⟨0,0,[]⟩ p A
  |_,_=>False:=h
 refine h.mono λi k o=>?_;cases i with
 |returned p=>
  obtain⟨⟨H,y,E,b,F⟩,_⟩:=o;refine⟨by rw[y.ui],b.os,b.tape,b.output,b.ext.size,λx u=>(b.ext.Bo x u ?_).1⟩;rintro(⟨f,e,a,_⟩|hr)
  grind [rk]
  exact hr
 |_=>exact o.elim
def ST{d:af Obj}{e:T}{a:am}(b:ja d rk [e] a.cells.toList)(f:a.cells= #[a]):iz d rk e a:=by rw[f]at b;have⟨g,h,c,hr,_⟩:=b.oK;simp at c;rw[c.1];exact hr
end
end
noncomputable section
open Go.ChangeShapes Go.WideShapes Go.RowKit
section
def Z7(P:ai)(t:ab)(e:T->Prop):Prop:=∀(H:Type) (enc:ab×am->H) (c:World) (g:Nat) (k:Nat->Bool) (h:Bool) (b:am) (d:DataW H) (i:List MemPlace) (j:Reach) (f:Nat),
 DataW.Trod enc P c g k h t b d i->Value.okWide P c j f t b->(∀a∈d.weights P t,a<=reachBytes)->∃a,iz c.heap rk a b/\e a
section
variable {P:ai}{cx:Ctx}{t:ab}{ty:Ty}
def Z7.one(j8:jR P cx)(A:cx.ty t=G ty){n:Type}{f:n->T}{k:n->Prop}(y:(∃e,ty.u= .slice e)\/∃j,ty.u= .int j)(h:Rd P t 1 λl=>∃b,l=[f b]/\k b):Z7 P t λb=>∃d,b=f d/\k d:=by
 intro H enc w o D x m q C I E ⟨r,v⟩ i B;have⟨_,a,c⟩:=mp (j8.ty _ _ A);have s:m.cells= #[m]:=by
  rcases y with⟨e,g⟩|⟨j,g⟩<;>rw[g]at c;rw[nU c]at a;obtain⟨_,_,_,rfl⟩:=okWide_slice a i;rfl;rw[Ab c]at a;obtain⟨_,rfl⟩:=okWide_int a i;rfl
 obtain⟨l,r0,K,_,p,rfl,z⟩:=h.2 H enc w o D x r _ q C v B;exact⟨_,ST r0 s,p,rfl,z⟩
def R9{H:Type}{enc:ab×am->H}{n:World}{s:Nat}{B:Nat->Bool}{y:Bool}{A:Reach}{r:Nat}:∀{d:List ab} {h:List (T->Prop)},jw (Z7 P) d h->∀{b:List am} {c:List (DataW H)} {m:List MemPlace},DataW.TrodAll enc P n s B y d b c m->
 (∀(f:Nat) t e,d[f]? =G t->b[f]? =G e->Value.okWide P n A r t e)->(∀a∈DataW.weightsEach P d c,a<=reachBytes)->∃g,ja n.heap rk g b/\jw (λq a=>q a) h g:=by
 intro d h u;induction u with
 |nil=>
  intro b c m i _ _;obtain⟨rfl,_,_⟩:=trodAll_nil i;exact⟨[],ja.nil,.nil⟩
 |cons v _ z=>
  intro b c m i o p;obtain⟨e,b,C,c,D,E,rfl,rfl,rfl,w,x⟩:=trodAll_cons i;have⟨g,k,l⟩:=z x (λf t e k l=>o (f+1) t e k l) (λa j=>p a (by rw[DataW.weightsEach];exact dU _ j));have⟨a,l1,l2⟩:=v _ _ _ _ _ _ _ _ _ _ _ w (o 0 _ _ rfl rfl) (λa j=>p a (by rw[DataW.weightsEach];exact dC _ j));exact⟨a::g,ja.cons l1 k,.cons l2 l⟩
def R8{H:Type}{enc:ab×am->H}(hl:laidOutB P){W h:World}(m:Below W.heap.size W h):∀{a:List ab},(a.all λt=>P.readableRec t&&decide (t<P.types.size))=true->∀{d:List am} {b:List (DataW H)} {c:List MemPlace},DataW.TrodAll enc P W 0 (λ_=>true) true a d b c->(∀e∈c,e.block<W.heap.size)->DataW.TrodAll enc P h 0 (λj=>decide (j<W.heap.size)) true a d b c:=by
 intro a;induction a with
 |nil=>
  intro _ d b c f _;obtain⟨rfl,rfl,rfl⟩:=trodAll_nil f;exact trodAll_mk0
 |cons t a n=>
  intro hr d b c f i;simp only[cA,aC,aP]at hr;obtain⟨r,d,o,b,p,q,rfl,rfl,rfl,k,l⟩:=trodAll_cons f;exact trodAll_cons_mk (Below.trod hl hr.1.1 hr.1.2 k m λe g=>i e (dC _ g)) (n hr.2 l λe g=>i e (dU _ g))
def jw.inv{b h:Type}{a:b->h->Prop}{c:b}{e:List b}{f:List h}(i:jw a (c::e) f):∃d g,f=d::g/\a c d/\jw a e g:=by cases i;exact⟨_,_,rfl,‹_›,‹_›⟩
def jw.Us{b c:Type}{d:b->c->Prop}{a:List c}(e:jw d ([]:List b) a):a=[]:=by cases e;rfl
end
end
end
end Go.TI
namespace Go.Proofs.YtdpclhaknmicoaaGreatDoor
noncomputable section
open Go Go.TI Go.RowKit Go.ChangeShapes Go.WideShapes
def B3:joinedFacts Tryz.prog 3 Tryz.f3 Rows.searchMadeSpec Rows.searchMadeRow=true:=by
 unfold joinedFacts
 iterate 31 rw [aC]
 repeat' refine And.intro ?_ ?_
 all_goals as_aux_lemma=>kernel_rfl
def HO:Rows.searchMadeRow.wfByText (OpenSpec.ofChange Rows.searchMadeSpec)=true:=em
def EI:Tryz.prog.mainIs=some (true,"d13495585116498592338166f1097f02b78a9def212249b0ff8c14a17b47f2c1".toList):=em
def Di:true=Tryz.prog.looks []:=em
def EJ:false=Rows.searchMadeRow.goesBy Tryz.prog:=em
def w8:Tryz.prog.funcNamed "interleave/interleavelaw21.SearchMade" =some 3:=em
def kw1:List (List UInt8):=[[118,97,114],[118,111,108,97,116,105,108,101],[109,117,116,101,120],[114,119,108,111,99,107],[99,111,110,100],[102,117,116,117,114,101],[116,104,114,101,97,100],[105,102],[101,108,115,101],[119,104,105,108,101],[108,111,99,107],[114,101,97,100],[119,114,105,116,101],[116,114,97,110,115,97,99,116,105,111,110],[97,116,111,109,105,99],[119,97,105,116],[110,111,116,105,102,121],[110,111,116,105,102,121,97,108,108],[115,112,97,119,110],[106,111,105,110],[115,101,116],[103,101,116]]
def abv(W:World)(a:laidMet Tryz.prog Rows.searchMadeRow.laid W):gls.YP λg cs=>iz W.heap rk (.kH cs) (.pointer (some ⟨g,0,none⟩)):=(.node (.node (.node .nil (DV (P:=Tryz.prog) (w:=W) (name:= "internal/strconv.uint64pow10") (g:=0) (k:=20) (t:=349) (e:=280) (ki:= .u64) (zs:=kl0) (cs:=gl0) em em em em em em em em (Lib.laidMet.reads a (by simp[Rows.searchMadeRow,kl0,Rows.laid_internal_strconv_uint64pow10]))) .nil) (JS (P:=Tryz.prog) (w:=W) (name:= "interleave/token.keywords") (g:=1) (k:=22) (t:=354) (e:=9) (ss:=kw1) (cs:=gl1) em em em em em em em em (Lib.laidMet.reads a (by simp[Rows.searchMadeRow,kw1,Rows.laid_interleave_token_keywords]))) .nil) (DV (P:=Tryz.prog) (w:=W) (name:= "math/bits.deBruijn32tab") (g:=3) (k:=32) (t:=384) (e:=5) (ki:= .u8) (zs:=kl3) (cs:=gl3) em em em em em em em em (Lib.laidMet.reads a (by simp[Rows.searchMadeRow,kl3,Rows.laid_math_bits_deBruijn32tab]))) (.node .nil (DV (P:=Tryz.prog) (w:=W) (name:= "math/bits.deBruijn64tab") (g:=4) (k:=64) (t:=385) (e:=5) (ki:= .u8) (zs:=kl4) (cs:=gl4) em em em em em em em em (Lib.laidMet.reads a (by simp[Rows.searchMadeRow,kl4,Rows.laid_math_bits_deBruijn64tab]))) .nil))
def own:ownKnob Tryz.prog.godebug=none:=em
end
noncomputable section
open Go Go.TI
def ok5(a:Int):Prop:=IntKind.min .u8<=a/\a<=IntKind.max .u8
def rd5:Rd Tryz.prog 5 1 λb=>∃a:Int,b=(λa:Int=>[(T.int .u8) a]) a/\ok5 a:=S1 kl A2 rfl rfl
def aiF(a:List Int):Prop:=a.length*1<=140737488351232/\∀b∈a,ok5 b
def aeC:Rd Tryz.prog 22 1 λc=>∃a:List Int,c=(λa:List Int=>[(λb:List Int=>sl (b.map (T.int .u8))) a]) a/\aiF a:=SZ kl zO rfl rfl A2 rd5 J false Y λ_=>rfl
def aa7(a:Int):Prop:=IntKind.min .u16<=a/\a<=IntKind.max .u16
def aiz:Rd Tryz.prog 23 1 λb=>∃a:Int,b=(λa:Int=>[(T.int .u16) a]) a/\aa7 a:=S1 kl U6 rfl rfl
section
def DW{k:Type}{f:k->List Int}(j:∀a i x y,f a++x=f i++y->a=i/\x=y):∀{e h:List k} {x y:List Int},e.length=h.length->e.flatMap f++x=h.flatMap f++y->e=h/\x=y
 | [],[],x,y,_,b=>⟨rfl,by simpa using b⟩
 | [],_::_,_,_,b,_=>by simp at b
 |_::_,[],_,_,b,_=>by simp at b
 |a::e,i::h,x,y,hl,b=>by
  simp only[bh,aO]at b;have⟨l,n⟩:=j _ _ _ _ b;have⟨m,o⟩:=DW j (iC hl) n;exact⟨by rw[l,m],o⟩
def UT{k:Type}{f g:k->List Int}(j:∀a,(f a).length=(g a).length):∀{e:List k} {h i:List Int},e.flatMap f++h=e.flatMap g++i->(∀a∈e,f a=g a)/\h=i
 | [],h,i,b=>⟨Y,by simpa using b⟩
 |a::e,h,i,b=>by
  simp only[bh,aO]at b;have⟨m,n⟩:=List.append_inj b (j a);have⟨o,p⟩:=UT j n;exact⟨λl q=>(List.mem_cons.1 q).elim (λr=>r▸m) (o l),p⟩
def Hv{a b:Bool}(e:bI a=bI b):a=b:=by cases a<;>cases b<;>simp[bI]at e<;>rfl
def QgQ(g:iv)(c:fi):Prop:=g.kind=4->g.c∈c.order->g.a∈c.order/\(K4 c g\/g.a=g.c)
section
variable {w:fh}{c d:fi}{g:iv}{us:List Int}
def QgQ.step(n:Ie w c)(k:QgQ g c){ch:fG}(i:iO w c ch.fa)(hm:IK (jp w c ch).1 g=false):QgQ g (jp w c ch).1:=λh hc=>by
 have⟨b,e,_,_,_,l,_,m⟩:=Ad i;rw[m]at hm hc|-;have f:(oZ w c b e ch.fa ch.pI).order=c.order++[(b:Int)]:=rfl;have j:=Cr f l g;have hm:g.a∈(oZ w c b e ch.fa ch.pI).order:=by
  unfold IK at hm;rw[aq J,aq J,aq J,au h]at hm;simp only[ci,dN,cZ,aP,bg]at hm;exact hm.2.resolve_right λz=>z hc
 refine⟨hm,?_⟩;rw[f]at hc hm;rw[j];have:=k h;rcases List.mem_append.1 hc with hc|hc
 rcases(this hc).2 with z|z;exact .inl (by rw[z];rfl);exact .inr z;rw[dg]at hc;rcases List.mem_append.1 hm with hm|hm
 exact .inl (by simp[hm,hc]);exact .inr (by simp at hm;omega)
def RC(m:Ie w c)(n:Ie w d)(S:QgQ g c)(T:QgQ g d)(O:IK c g=false)(P:IK d g=false)(an:us.length=w.eZ.length)(o:c.ig.fT.length=d.ig.fT.length/\c.ig.done.length=d.ig.done.length/\c.ig.eY.length=d.ig.eY.length/\c.cells.length=d.cells.length/\c.fR.length=d.fR.length)(e:Bz c us=Bz d us):Ig w us g c d:=by
 unfold Bz at e;simp only[aO]at e;have⟨s,e⟩:=UT (f:=kU c us) (g:=kU d us) (λ_=>rfl) e;obtain⟨E,e⟩:=DW (f:=kL) (λi h x y b=>by
  obtain⟨W,X⟩:=i;obtain⟨ae,al⟩:=h;simp only[kL,aW,bJ,bL]at b;have⟨Q,R⟩:=List.append_inj b.2.2 J;exact⟨by rw[b.1,Q],R⟩) o.1 e
 simp only[aW,bJ,bL]at e;obtain⟨F,e⟩:=e;obtain⟨H,e⟩:=DW (f:=λh=>[bI h]) (λi h x y b=>by
  simp only[aW,bJ,bL]at b;exact⟨Hv b.1,b.2⟩) o.2.1 e
 obtain⟨I,e⟩:=DW (f:=kT) (λi h x y b=>by
  obtain⟨a1,a2,a3⟩:=i;obtain⟨C,D,Z⟩:=h;simp only[kT,aW,bJ,bL]at b;exact⟨by rw[b.1,b.2.1,Hv b.2.2.1],b.2.2.2⟩) o.2.2.1 e
 have v:∀i h x y,kC i++x=kC h++y->i=h/\x=y:=λi h x y b=>by
  obtain⟨a1,a2⟩:=i;obtain⟨C,D⟩:=h;simp only[kC,aW,bJ,bL]at b;exact⟨by rw[b.1,Hv b.2.1],b.2.2⟩
 have⟨K,e⟩:=DW v o.2.2.2.1 e;have⟨L,_⟩:=DW (x:=[]) (y:=[]) v o.2.2.2.2 (by simpa using e);have q:∀x,x∈c.order↔x∈d.order:=λx=>by
  by_cases l:jB x w.eZ.length=true;have l:=gG.1 l;have:=s x.toNat dY;unfold kU at this;simp only[bL]at this;have:=Hv this.1;rw[dT l.1,decide_eq_decide]at this;exact this;exact⟨λb=>absurd (m.rg x b) l,λb=>absurd (n.rg x b) l⟩
 refine⟨m,n,q,λr V j k t=>?_,?_,K,L,λN=>?_,λu=>?_⟩;have hl:=(List.getElem?_eq_some_iff.1 j).1;have:=s r dY;unfold kU at this;simp only[bL]at this;have:=Hv this.2.1;rw[da,j]at this;have l1:=m.fl;have l2:=n.fl;simp only[Option.getD_some,k,t,mt (q V).2 t,decide_true,decide_false,Bool.not_false,aZ]at this;rw[aF J,aF J];simpa[show r<c.fixed.length by omega,show r<d.fixed.length by omega]using this;obtain⟨⟨_,_,_,_⟩,_⟩:=c;obtain⟨⟨_,_,_,_⟩,_⟩:=d;subst E;subst F;subst H;subst I;rfl;have A:∀{c:fi},Ie w c->IK c g=false->jB g.a w.eZ.length->pL c g.a=true:=λ{c} U p j=>by
  by_cases b:g.a∈c.order;unfold IK at p;rw[aq J,aq J,au N]at p;simp only[b,decide_true,aZ,ci,cZ]at p;exact p.2;have k:=gG.1 j;have:=U.wo g.a.toNat k.2 (by rwa[dT k.1]);unfold pL so;rw[au k.1,this];rfl
 cases j:jB g.a w.eZ.length;unfold pL;rw[nQ (by rw[m.wl];exact j),nQ (by rw[n.wl];exact j)];rw[A m O j,A n P j];have B:∀{c:fi},g.c∉c.order->K4 c g=false:=λ{c} b=>by
  have:=mt (@oM g.c c.order 0).1 b;unfold K4 place;rw[dN,bg,bg];omega
 by_cases b:g.c∈c.order;rcases(S u b).2 with z|z;rcases(T u ((q _).1 b)).2 with y|y;rw[z,y];unfold K4 at*;rw[y]at z|-;simp;unfold K4;rw[z];simp;rw[B b,B (mt (q _).2 b)]
end
def HW(a b:fG):Prop:=a.fa<b.fa\/a.fa=b.fa/\a.pI<b.pI
def KE(i:Int):∀(f:List fc) (b:Nat),(jb i f b).Pairwise (· < ·)/\∀a∈jb i f b,(b:Int)<=a
 | [],b=>by simp[jb]
 |t::f,b=>by
  have⟨j,h⟩:=KE i f (b+1);unfold jb;split;exact⟨List.pairwise_cons.2 ⟨λa e=>iV (h a e),j⟩,λa e=>(List.mem_cons.1 e).elim (λk=>by omega) λk=>iV (h a k)⟩;exact⟨j,λa e=>iV (h a e)⟩
def um(w:fh)(c:fi)(n:Nat):(mY w c n).Pairwise HW:=by
 unfold mY;rw[List.pairwise_flatMap];refine⟨λa _=>?_,List.pairwise_lt_range.imp λ{a o} h i k j l=> .inl ?_⟩;split;rw[List.pairwise_map];unfold kG;split;exact(KE _ _ _).1.imp λh=> .inr ⟨rfl,h⟩;simp;simp;have f:∀(a:Nat) e,e∈(if iO w c a=true then(kG w c a).map λm=>(⟨a,m⟩:fG)else [])->e.fa=a:=λa e b=>by
  split at b;obtain⟨_,_,rfl⟩:=List.mem_map.1 b;rfl;simp at b
 rw[f a i k,f o j l];omega
def HW.trans(a b c:fG)(e:HW a b)(f:HW b c):HW a c:=by unfold HW at*;omega
def HW.irr(a:fG):¬HW a a:=by unfold HW;omega
end
structure YC(c:fi):Prop where
 s:Qu c.ig
 ce:∀x∈c.cells,mH x.value
 fu:∀x∈c.fR,mH x.value
def YC.start{w:fh}(h:RnW w):YC (jv w):=⟨h.z.s,λd a=>by
 obtain⟨c,b,rfl⟩:=List.mem_map.1 a;exact h.z.ce c b,λd a=>by
 obtain⟨c,b,rfl⟩:=List.mem_map.1 a;exact h.z.fu c b⟩
def YC.step{g:fh}{d:fi}{ch:fG}(n:RnW g)(a:YC d)(m:iO g d ch.fa):YC (jp g d ch).1:=by
 obtain⟨c,b,_,o,p,_,_,q⟩:=Ad m;obtain⟨j,k,l⟩:=n.ev b (aB o);have cn:∀i,b.kind=4\/b.kind=22->mH (cont i b.value).value:=λi a=>by
  unfold cont;split;exact l a;show mH 0;unfold mH;omega
 rw[q];refine⟨a.s.apply _ (p▸j) k _,?_,?_⟩;simp only[oZ];split;rename_i c;exact λh e=>(bP e).elim (a.ce h) λf=>f▸cn _ (.inl c);exact a.ce;simp only[oZ];split;rename_i c;exact λh e=>(bP e).elim (a.fu h) λf=>f▸cn _ (.inr c);exact a.fu
def YC.key{g:fi}(d:YC g)(hr:∀b∈g.ig.fT,b.gh.length<=1000000)(j:List Int):∀c∈Bz g j,mH c:=by
 have e:∀a,mH (bI a):=λa=>by cases a<;>simp[bI,mH]
 have h:∀b:List gU,(∀a∈b,mH a.value)->∀c∈b.flatMap kC,mH c:=λb hl c hn=>by
  have⟨a,f,hn⟩:=List.mem_flatMap.1 hn;simp only[kC,cg,cF,cG]at hn;rcases hn with rfl|rfl;exact hl a f;exact e _
 intro c hn;unfold Bz at hn;simp only[cz]at hn;rcases hn with(((((hn|hn)|hn)|hn)|hn)|hn)|hn
 have⟨i,_,hn⟩:=List.mem_flatMap.1 hn;simp only[kU,cg,cF,cG]at hn;rcases hn with rfl|rfl<;>exact e _;have⟨b,hl,hn⟩:=List.mem_flatMap.1 hn;simp only[kL,cz,cg,cF,cG]at hn;rcases hn with(rfl|rfl)|hn;exact(d.s.lk b hl).1;have:=hr b hl;unfold mH;omega;exact(d.s.lk b hl).2 c hn;rw[List.mem_singleton.1 hn];exact d.s.tx;have⟨i,_,hn⟩:=List.mem_flatMap.1 hn;rw[List.mem_singleton.1 hn];exact e _;have⟨a,f,hn⟩:=List.mem_flatMap.1 hn;simp only[kT,cg,cF,cG]at hn;rcases hn with rfl|rfl|rfl;exact(d.s.th a f).1;exact(d.s.th a f).2;exact e _;exact h _ d.ce c hn;exact h _ d.fu c hn
end
noncomputable section
open Go Go.TI Go.Proofs.Tryz
attribute [-simp] List.map_take List.map_drop List.map_append ik gu fI Bool.not_or Bool.not_and
section
attribute [-simp] size_cons
section
abbrev Hj(w:fh)(a:fi):List fG:=mY w a w.gY.eY.length
abbrev wj(w:fh)(a:fi)(b:fG):fi:=(jp w a b).1
abbrev htW(w:fh)(g:iv)(a:fi):Bool:=oY w a g
abbrev LvW(w:fh)(g:iv)(a:Nat)(ns:List (fi×List fG)):Prop:=HI HW (Hj w) (wj w) (htW w g) (jv w) a ns
abbrev Kz(w:fh)(g:iv)(a:List fG):Prop:=Lst HW (Hj w) (wj w) (htW w g) (jv w) a
abbrev Z8(w:fh)(g:iv):Prop:=Non (Hj w) (wj w) (htW w g) (jv w)
def acr{w:fh}{us:List Int}{g:iv}(a:V0 w us):Alk (Hj w) (wj w) (htW w g) (Ig w us g):=⟨λb=>b.chs a _,λb e=>by
 have⟨c,d⟩:=b.step a (AB e);exact⟨c.hold a d,c⟩⟩
def ajp{w:fh}{g:iv}:Ded (Hj w) (wj w) (htW w g) (DdQ w g):=λa b=>a.step (AB b)
structure V4(w:fh)(g:iv)(k:Nat)(x:fi×List fG):Prop where
 nd:NdQ w g k x
 rc:Ie w x.1
 qg:QgQ g x.1
 rn:YC x.1
 ms:IK x.1 g=false
def V4.lk{w:fh}{g:iv}{us:List Int}{e:Nat}{x b:fi×List fG}(a:V4 w g e x)(c:V4 w g e b)(l:us.length=w.eZ.length)(d:w.eZ≠ [])(h:kyE us b.1 x.1):Ig w us g b.1 x.1:=by
 have rl:∀{x},V4 w g e x->∀f∈x.1.ig.fT,f.gh.length<=1000000:=λa f hl=>iV (a.nd.rd.len a.nd.co.BP f hl);have h:enc (Bz b.1 us)=enc (Bz x.1 us):=by unfold kyE at h;exact of_decide_eq_true h
 have i:=PS (c.rn.key (rl c) us) (a.rn.key (rl a) us) h;have j:=a.nd.co.ft d;have k:=c.nd.co.ft d;have cx:=a.nd.co.ce d;have n:=c.nd.co.ce d;have o:=a.nd.co.fu d;have p:=c.nd.co.fu d;have m:b.1.ig.fT.length=x.1.ig.fT.length/\b.1.ig.done.length=x.1.ig.done.length/\b.1.ig.eY.length=x.1.ig.eY.length/\b.1.cells.length=x.1.cells.length/\b.1.fR.length=x.1.fR.length:=by
  clear i h rl;unfold ou at j k;simp only[aC,aP]at j k;exact⟨J,J,J,J,J⟩
 exact RC c.rc a.rc c.qg a.qg c.ms a.ms l m i
def LvW.next{w:fh}{g:iv}{us:List Int}{e:Nat}{ns ms:List (fi×List fG)}(h:LvW w g e ns)(I:kO w)(hr:RnW w)(E:V0 w us)(F:us.length=w.eZ.length)(C:∀c∈ns,V4 w g e c)(p:∀c∈A6 (Hj w) (wj w) ns,oY w c.1 g=false)(A:ms=(A6 (Hj w) (wj w) ns).foldl (HJ us g) [])(B:∀c∈ms,V4 w g (e+1) c):LvW w g (e+1) ms:=by
 obtain⟨s,_,m⟩:=UJ (K:=kyE us) (D:=λy=>IK y g) (h.Kn λl=>um w l _);rw[<-A]at s m;refine HI.next HW.trans (λl=>um w l _) (acr E) ajp h p s λc k=>?_;obtain⟨a,N,L⟩:=List.mem_flatMap.1 k;obtain⟨b,n,rfl⟩:=List.mem_map.1 L;have d:=C a N;have i:=AB n;have r:=d.rc.step i;cases f:IK (wj w a.1 b) g;refine .inr ?_;rcases m _ k with q|⟨u,o,O,j⟩
 rw[f]at q;simp at q;refine⟨u,o,O,j.imp id λj=>?_⟩;have z:oY w (jp w a.1 b).1 g=false:=p (wj w a.1 b,a.2++[b]) k;have x:V4 w g (e+1) ((jp w a.1 b).1,a.2++[b]):=⟨(d.nd.step I n).2.2.2.1 z,r,d.qg.step d.rc i f,d.rn.step hr i,f⟩;exact V4.lk x (B u o) F (py (qq i)) j;exact .inl (DdQ.of r f)
def Ys{w:fh}{ns:List (fi×List fG)}{a:Nat}(c:a<ns.length):A6 (Hj w) (wj w) ns=A6 (Hj w) (wj w) (ns.take a)++((Hj w ns[a].1).map λb=>(wj w ns[a].1 b,ns[a].2++[b]))++A6 (Hj w) (wj w) (ns.drop (a+1)):=by
 unfold A6
 conv=>lhs;rw[<-cB a ns,aJ c,cH,bh]
 rw[aO]
def Sr{us:List Int}{g:iv}{ns:List (fi×List fG)}{a b:fi×List fG}(h:b∈HJ us g ns a):b∈ns\/b=a/\IK a.1 g=false:=by
 unfold HJ uN at h;split at h;exact .inl h;rename_i c;rcases List.mem_append.1 h with h|h
 exact .inl h;simp only[cm,not_or,dz]at c;exact .inr ⟨List.mem_singleton.1 h,c.1⟩
def Ss(us:List Int)(g:iv)(ns:List (fi×List fG))(a:fi×List fG):(HJ us g ns a).length<=ns.length+1:=by unfold HJ uN;split<;>simp
def fdQ(a:fh×iv)(c:T):Prop:=c= .tuple [.jf,.bool false]/\Z8 a.1 a.2\/∃b,c= .tuple [sl (b.map fG.t),.bool true]/\Kz a.1 a.2 b
structure FdP(w:fh)(g:iv):Prop where
 hw:kO w
 hn:w.eZ.length<=8
 cy:g.jA.length<=1000000
section
variable {w:fh}{g:iv}{us:List Int}{Bq:Nat}{v v' t:T}{ms ns:List (fi×List fG)}{h h':H}
def V1.k2(b:V1 w g us Bq v ms h)(k:Fv h h' Bq v v'){d:Nat}{e:jO}(a:h.get d=G e)(c:e.sz=2):h'.get d=G e:=by have⟨_,f⟩:=b.bB;have⟨_,_,i,_⟩:=b.bF;have⟨_,j⟩:=b.bm;have⟨_,l,_⟩:=b.lv;refine(k.fr d (H.fV a) ?_ ?_ ?_ λm=>?_).trans a;rintro rfl;rw[f]at a;simp at a;subst a;simp at c;rintro rfl;rw[i]at a;simp at a;subst a;simp at c;rintro rfl;rw[j]at a;simp at a;subst a;simp at c;have⟨_,_,_,_,n,_⟩:=l.box m;rw[n]at a;simp at a;subst a;simp at c
def V1.mO(f:V1 w g us Bq v ms h)(c:Fv h h' Bq v v')(k:∀a,fD v=G a->Bq<a)(l:OP h t ns)(ht:∀a,fD t=G a->a<Bq):OP h' t ns:=by obtain⟨j,d,i⟩:=l;refine⟨j,d.mono λa e=>?_,i.imp λ_ _ b=>b.mono λ_ _ n o=>f.k2 c n o⟩;have:=ht a e;have⟨_,_,_,_,m,_⟩:=d.box e;exact c.fr a (H.fV m) J J J λb=>iV (k a b)
def OP.nb(l:OP h t ns)(c:Nb h h'):OP h' t ns:=by obtain⟨j,a,e⟩:=l;exact⟨j,a.mono λf k=>by have⟨_,_,_,_,d,_⟩:=a.box k;exact c.get f (H.fV d),e.imp λ_ _ m=>m.mono λi d b _=>(c.get i (H.fV b)).trans b⟩
end
def fnV(Bq:Nat):T:= .func 19 [ez 0,ez 1,ez (Bq+1),ez 2,ez (Bq+3),ez Bq]
structure LvJ(w:fh)(g:iv)(us:List Int)(Bq k N:Nat)(t:T)(ns PR:List (fi×List fG))(v:T)(ms:List (fi×List fG))(vs:iM)(h:H):Prop where
 S:V1 w g us Bq v ms h
 dv:∀b,fD v=G b->Bq<b
 lv:OP h t ns
 q:∀y∈ms,V4 w g (k+1) y
 ex:ms=PR.foldl (HJ us g) []
 no:∀e∈PR,oY w e.1 g=false
 ln:ms.length<=N
 h2:jg vs 2 0
 h3:jg vs 3 1
 h6:jg vs 6 2
 h9:jg vs 9 Bq
 ry:jg vs 10 (Bq+1)
 DU:ka vs 12 (fnV Bq)
 ZT:ka vs 37 t
 XI:iS vs 38 ns.length
def T9:p8 prog cx 7 (λW:fh×iv=>[W.1.t,W.2.t]) (λW=>FdP W.1 W.2) fdQ:=by
 refine yQ (tb:=⟨pt [(15,Aj),(16,Jw.kx),(17,Ca),(18,wx),(23,KZ)],ht [(19,kW IVi Zp Dw)]⟩) ml kl (jz 37086407215374335 [] func7) (λ_=>30000000000) (λW c h=>by simp at h;exact aD (fh.inj h.1) (iv.inj h.2)) Y nl9 ?_;rintro⟨w,g⟩ ⟨l,eF,bN⟩ m eA;simp only at l eF bN;have c9:=l.rn;simp at eA;obtain⟨e4,b9⟩:=eA;obtain⟨_,⟨us,rfl,di⟩,eV⟩:=Jw.use w l;have de:=di.ln;have fA:=di.bd;have dd:V0 w us:=λi e n first k S e6=>di.us i e n first k S (.inl ⟨(List.getElem?_eq_some_iff.1 S).1,e6⟩)
 have fy:sH w (jv w):=⟨l,(yN.start l).up J⟩;have eh:=λ{tb:iq} (ht:tb.p 18=G wx)=>Qg ht w (jv w) g fy bN;have e7:(nu w (jv w) g&&w.gx.vR g)=oY w (jv w) g:=rfl;rw[e7]at eh;simp[f7,e4,b9,Qb,l,bN];refine fO (λbX=>?_) (λbX=>?_);have bX:w.gx.vR g=false:=iC bX;simp[fdQ];exact λeM _=>by show oY w _ g=false;unfold oY;rw[bX,Bool.and_false]
 simp[eV,Yn,l,eh];refine fO (λbT=>?_) (λbT=>?_);simp[fdQ];exact⟨[],rfl,trivial,bT,λeM _ _=>by cases eM<;>simp[IM]⟩;simp;refine HB (σ:=Nat×List (fi×List fG)) (λx e h=>e.tmps= .nil/\(5<=h.size/\jk 0 h/\h.get 0=G (eg 15 0 [w.t])/\h.get 1=G (eg 6 0 [g.t])/\h.get 2=G (eg 1 1 [sl (iE us)]))/\(∃t,OP h t x.2/\ka e.vars 8 t)/\(LvW w g x.1 x.2/\∀a∈x.2,V4 w g x.1 a)/\x.2.length<=20^x.1/\x.1<=9/\jg e.vars 2 0/\jg e.vars 3 1/\jg e.vars 6 2) (λx=>10-x.1) ?_ 30000000000 (0,[(jv w,[])]) _ _ Y ?_
 .rintro⟨k,ns⟩ ⟨m,gP⟩ h ⟨ht,⟨gz,dk,eO,eP,eR⟩,⟨t,E,cp⟩,⟨bs,aN⟩,hl,fe,q,B,C⟩;simp only at ht E cp bs aN hl fe q B C;subst ht;obtain⟨eW,b8,ec⟩:=E;have ar:=λb9=>b8.len (cx:=cx) b9 eJ _ rfl;rw[ec.length]at ar;have p4:∀a y z u dn,fQ ((((h.cons a).cons y).cons z).cons u) (h.size+1+1+1) dn=(((h.cons a).cons y).cons z).cons dn:=λa y z u dn=>zq _ _ _ _ rfl (((dk.cons a).cons y).cons z).low;simp[cp,ar];refine fO (λc6=>?_) (λc6=>?_)
  .have c7:0<ns.length:=iC c6;have fM:∀c,(T.map c).je/\(T.map c).cells=[.map c]:=λ_=>⟨rfl,rfl⟩;have fP:∀c,mT M3.ls 0 [.map c]=G (.map c):=λ_=>rfl;simp[q,B,C,cp,ar,p4,fM,fP];obtain⟨Bq,ao⟩:∃Bq,Bq=h.size:=⟨_,rfl⟩;generalize ap:(((h.cons _).cons _).cons _).cons _=bu;have ax:Nb h bu:=ap▸((((Nb.refl dk).cons _).cons _).cons _).cons _;have hg:bu.size=Bq+4:=by rw[<-ap,ao];rfl
   have fC:∀c,fD t=G c->c<Bq:=λc D=>by obtain⟨_,_,_,_,y,_⟩:=b8.box D;rw[ao];exact H.fV y
   have eN:V1 w g us Bq ed [] bu:=⟨⟨ax.ok.hp,ax.ok.low,az _⟩,J,(ax.get 0 J).trans eO,(ax.get 1 J).trans eP,(ax.get 2 J).trans eR,⟨0,by rw[<-ap,ao];simp[size_cons]⟩,⟨0,ed,by rw[<-ap,ao];simp[size_cons],Y⟩,⟨0,by rw[<-ap,ao];simp[size_cons,FG]⟩,by rw[<-ap,ao];simp[size_cons],[],Gr.nil _ _,.nil⟩;have fE:OP bu t ns:=OP.nb ⟨eW,b8,ec⟩ ax;rw[<-ao];have fb:∀a∈ns,(mY w a.1 w.gY.eY.length).length<=20:=λa o=>by
    have:=AC (⟨l,(aN a o).nd.co.up J⟩:sH w a.1) w.gY.eY.length;have:=(kA l.wb).2.2.2.2.2;omega
   have ey:k<=7->ns.length<=1280000000:=λs=>by
    have:20^k<=20^7:=dR d6 s;have:(20:Nat)^7=1280000000:=d6;omega
   have ff:k<=8:=by
    obtain⟨a,o⟩:=List.exists_mem_of_length_pos c7;have:=(aN a o).nd.od.le;omega
   have gE:ns.length<30000000000:=by
    have:20^k<=20^8:=dR d6 ff;have:(20:Nat)^8=25600000000:=d6;omega
   clear ap p4 ax;refine io ns.length J (λi m y=>(∃v ms,LvJ w g us Bq k (20*i) t ns (A6 (Hj w) (wj w) (ns.take i)) v ms m y)/\iS m 39 i) ?_ ?_ J ⟨⟨_,_,eN,Y,fE,Y,by simp[A6],by simp[A6],Y,by simp[q],by simp[B],by simp[C],Y,Y,by simp[fnV],Y,Y⟩,Y⟩
   .rintro i m y aE e8 ⟨⟨v,ms,V⟩,R⟩;obtain⟨b,X,E,s,I,L,ar,q,B,C,an,Z,ae,al,Q⟩:=V;obtain⟨G8,et,ee⟩:=id E;obtain⟨a,o⟩:∃a,a=ns[i]:=⟨_,rfl⟩;have a8:=aN a (o▸aG aE);have ds:=a8.nd;have c1:=Ys (w:=w) aE;have eG:A6 (Hj w) (wj w) (ns.take (i+1))=A6 (Hj w) (wj w) (ns.take i)++(Hj w a.1).map λd=>(wj w a.1 d,a.2++[d]):=by unfold A6;rw[aM aE,cH,<-o];simp
    rw[<-o]at c1;rw[show Hj w a.1=mY w a.1 w.gY.eY.length from rfl]at c1 eG;have gX:=fb a (o▸aG aE);obtain⟨e,S,U,rfl,N⟩:=ee.get (k:=i) (y:=a) (by rw[o];simp);have eE:=(List.getElem?_eq_some_iff.1 S).1;obtain⟨c,gv,gV,I,gZ,fL,eI,eK,b6⟩:=et.CD (te:=dX) rfl (i:=i) eE;rw[(List.getElem?_eq_some_iff.1 S).2]at b6;have bZ:=b.ok.low;have gi:sH w a.1:=⟨l,ds.co.up J⟩;have eS:=λ{tb:iq} (ht:tb.p 23=G KZ)=>(show rl prog cx tb 23 [w.t,a.1.t]=G (sl ((mY w a.1 w.gY.eY.length).map fG.t))from iL ht aa4 (w,a.1) gi);have hd:=b.n5;have gk:=H.fV b.bM;have eL:(0=y.size)=False:=dY;simp only[BU,fi.cs,aW,bJ]at b6;simp[q,al,Q,R,aE,eI,eK,b6,bZ,b.b0,eL,eS];rw[eG];generalize gB:A6 (Hj w) (wj w) (ns.take i)=bi at*
    generalize e5:mY w a.1 w.gY.eY.length=F at*
    have P:(y.cons (eg 10 1 [BU a.1 U])).get y.size=G (eg 10 1 [BU a.1 U]):=Y;have a7:Nb y (y.cons (eg 10 1 [BU a.1 U])):=(Nb.refl b.ok).cons _;have aA:fD v≠some y.size:=λfX=>by obtain⟨_,eX,_⟩:=b.lv;obtain⟨_,_,_,_,O,_⟩:=eX.box fX;have:=H.fV O;omega
    have eb:=b.nb a7;have eH:=OP.nb E a7;have eu:Gr (y.cons (eg 10 1 [BU a.1 U])) U 2 (a.2.map fG.t):=N.mono λc D=>by obtain⟨_,_,_,_,O,_⟩:=N.box D;exact a7.get c (H.fV O)
    simp only[BU,fi.cs,aW,bJ]at P a7 eb eH eu;generalize y.cons _=hb at*
    obtain⟨A,cL⟩:∃A,A=y.size:=⟨_,rfl⟩;rw[<-cL]at P aA|-;have gm:Bq+3<A:=cL▸gk;clear cL fL eI eK b6 S eE et ee bZ b E N a7 eL;refine io F.length J (λK m y=>(∃v ms,LvJ w g us Bq k (20*i+K) t ns (bi++(F.take K).map λd=>(wj w a.1 d,a.2++[d])) v ms m y/\fD v≠some A)/\y.get A=G (eg 10 1 [BU a.1 U])/\Gr y U 2 (a.2.map fG.t)/\jg m 14 A/\iS m 39 i/\ka m 46 (sl (F.map fG.t))/\iS m 47 F.length/\iS m 48 K) ?_ ?_ J ?_
    .rintro K m y bW e9 ⟨⟨v,ms,V,aA⟩,P,N,ca,R,cb,bn,br⟩;obtain⟨b,X,E,s,I,L,ar,q,B,C,an,Z,ae,al,Q⟩:=V;obtain⟨j,bA⟩:∃j,j=F[K]:=⟨_,rfl⟩;have eB:j∈mY w a.1 w.gY.eY.length:=by rw[e5,bA];exact aG bW
     have bZ:=b.ok.low;have gj:=H.fV P;have fS:(A=y.size)=False:=dY;have av:Nb y (y.cons (eg 2 1 [j.t])):=(Nb.refl b.ok).cons _;have hf:=H.fV b.bM;obtain⟨gI,gM,dm,fY,_,_,gg⟩:=ds.step l eB;have gD:=gg.le;have ey:=ey J;simp[ae,ca,cb,bn,br,bW,<-bA,bZ,P,fS,fnV,BU,fi.cs];refine jy W3 Y ⟨w,g,us,Bq,v,ms,a,U,j,k⟩ ⟨rfl,b.nb av,N.mono λc D=>?_,l,eF,bN,ds,eB,de,λu dd=>?_,?_⟩ ?_;obtain⟨_,_,_,_,O,_⟩:=N.box D;exact av.get c (H.fV O);have:=(fA u dd).2;rw[de];exact this;simp only;omega;rintro r ha (⟨rfl,c4,v',ea,f⟩|⟨rfl,eD,fv,gS,gy,eo,b7⟩);simp only at c4 ea f;simp[R,cb,bn,br,e9];have fB:A<(y.cons (eg 2 1 [j.t])).size:=by rw[size_cons];omega
     have ej:=(f.fr A fB J J J aA).trans ((av.get A gj).trans P);simp only[BU,fi.cs,aW,bJ]at ej;have gF:=Ss us g ms ((jp w a.1 j).1,a.2++[j]);have fW:∀y∈HJ us g ms ((jp w a.1 j).1,a.2++[j]),V4 w g (k+1) y:=λy aX=>by
      rcases Sr aX with aX|⟨rfl,eC⟩;exact s y aX;exact⟨fY c4,a8.rc.step dm,a8.qg.step a8.rc dm eC,a8.rn.step c9 dm,eC⟩
     have eU:bi++(F.take (K+1)).map (λd=>(wj w a.1 d,a.2++[d]))=(bi++(F.take K).map λd=>(wj w a.1 d,a.2++[d]))++[((jp w a.1 j).1,a.2++[j])]:=by rw[aM bW,List.map_append,<-bA];simp
     rw[eU];exact⟨⟨v',⟨_,ea,λc D=>(f.bx c D).elim (X c) (by rw[size_cons];omega),(b.nb av).mO f X (OP.nb E av) fC,fW,by rw[dO,<-I];rfl,λe S=>(List.mem_append.1 S).elim (L e) λh=>List.mem_singleton.1 h▸c4,J,by simp[q],by simp[B],by simp[C],by simp[an],by simp[Z],by simp[ae],by simp[al],by simp[Q]⟩,λs=>(f.bx A s).elim aA (by simp only[size_cons]at*;omega)⟩,ej,N.mono λc D=>by
      obtain⟨_,_,_,_,O,_⟩:=N.box D;rw[(b.nb av).k2 f ((av.get c (H.fV O)).trans O) rfl,O],ca⟩
     .simp only at eo b7 eD;have z:=b7.qZ Y;simp[Z,eo,b7.cells];exact⟨.tuple [sl ((a.2++[j]).map fG.t),.bool true],.inr ⟨a.2++[j],rfl,HI.found (e:=((jp w a.1 j).1,a.2++[j])) (l1:=bi++(F.take K).map λd=>(wj w a.1 d,a.2++[d])) (l2:=(F.drop (K+1)).map (λd=>(wj w a.1 d,a.2++[d]))++A6 (Hj w) (wj w) (ns.drop (i+1))) HW.trans (λx=>um w x _) bs (by
       rw[c1]
       conv=>lhs;rw[<-cB K F,aJ bW,List.map_append,aS,<-bA]
       simp) L eD⟩,fv,by rw[z];simp⟩
    rintro m y ⟨⟨v,ms,V,aA⟩,P,N,ca,R,cb,bn,br⟩;obtain⟨b,X,E,s,I,L,ar,q,B,C,an,Z,ae,al,Q⟩:=V;simp[R,bn,br,e8];rw[aI]at I L;exact⟨v,ms,b,X,E,s,I,L,J,by simp[q],by simp[B],by simp[C],by simp[an],by simp[Z],by simp[ae],by simp[al],by simp[Q]⟩;exact⟨⟨v,ms,⟨eb,X,eH,s,by simpa using I,by simpa using L,J,by simp[q],by simp[B],by simp[C],by simp[an],by simp[Z],by simp[ae],by simp[al],by simp[Q]⟩,aA⟩,P,eu,by simp[R]⟩
   rintro m y ⟨⟨v,ms,V⟩,R⟩;obtain⟨b,X,E,s,I,L,ar,q,B,C,an,Z,ae,al,Q⟩:=V;obtain⟨gQ,ef⟩:=b.bB;obtain⟨gw,e0,gn⟩:=b.lv;simp[Q,R,an,ef,e0.cells];rw[aI]at I L;exact⟨k+1,J,⟨by have:=b.n5;have:=H.fV ef;omega,b.ok,b.b0,b.b1,b.b2⟩,ms,b.lv,⟨bs.next l c9 dd de aN L I s,λW c fs=>s _ fs⟩,by rw[Nat.pow_succ];omega,J,q,B,C⟩
  have c7:ns=[]:=by simpa using c6
  simp;exact⟨.inl ⟨rfl,(c7▸bs).none⟩,dk.hp⟩
 exact⟨rfl,⟨by simp[size_cons],⟨Y,by simp[size_cons],az _⟩,by simp[size_cons],by simp[size_cons],by simp[size_cons]⟩,⟨_,⟨[BU (jv w) ed],.inr ⟨4,0,0,true,[BU (jv w) ed],rfl,by simp[size_cons,BU,fi.cs],rfl⟩,.cons ⟨_,rfl,Gr.nil _ _⟩ .nil⟩,Y⟩,⟨HI.start (iC bT),λa o=>by
  simp at o;subst o;exact⟨⟨rfl,rfl,λ_ _ b=>by simp at b,iC bT,yN.start l,l.rdt,⟨by simp[jv],by simp[jv],rfl⟩⟩,Ie.start w,λ_ h=>by simp[jv]at h,YC.start c9,by unfold IK;simp[jv]⟩⟩,Y,Y,Y⟩
end
section
def Wi(a:fi×List fG):T:= .agg (a.1.cs++[sl (a.2.map fG.t)])
@[simp]def aiZ (a:fi×List fG):tJ (Wi a) (a.1.cs++[sl (a.2.map fG.t)]) 10:=EF
def Xz(b c:fi×List fG)(a:Wi b=Wi c):b=c:=by unfold Wi at a;simp only[T.agg.injEq]at a;have⟨d,e⟩:=List.append_inj a (by simp[fi.cs]);exact aD (fi.inj (bE T.agg d)) (jD (λ_ _ a=>fG.inj a) (iC e))
def IE:p8 prog cx 29 (λb:List (fi×List fG)×fi×iv=>[sl (b.1.map Wi),b.2.1.t,b.2.2.t]) (λb=>b.1.length<=90000000000/\(∀f∈b.1,CfM f.1/\f.2.length<=1000000)/\CfM b.2.1) (λb=>GI (∃f∈b.1,f.2.length=b.2.1.order.length/\AkQ b.2.2 f.1 b.2.1)):=by refine jX [(76,Pv.kx)] (jz 17196646647 [] func29) (λ_=>90000000005) (λb D h=>by simp at h;exact aD (jD Xz h.1) (aD (fi.inj h.2.1) (iv.inj h.2.2))) ?_;rintro⟨a,s,g⟩ ⟨hl,B,z⟩ e q;simp only at hl B z;simp at q;have F:binop .sub (M (a.length:Int)) (M 1)=G (M ((a.length:Int)-1)):=Ee rfl J J;simp[f29,q,F];refine VW (a.length+1) (λk e m=>(jk 0 m/\m.get 0=G (eg 9 0 [s.t])/\m.get 1=G (eg 6 0 [g.t]))/\k<=a.length/\ka e 0 (sl (a.map Wi))/\jg e 4 0/\jg e 5 1/\iS e 7 ((a.length:Int)-1-k)) ?_ J (az _) ⟨⟨⟨Y,by simp[size_cons],Y⟩,by simp[size_cons],by simp[size_cons]⟩,by simp[q]⟩;rintro k e m N ⟨⟨l,n,r⟩,O,o,p,v,d⟩;by_cases K:k=a.length;subst K;rw[show(a.length:Int)-1-a.length=-1 by omega]at d;simp[d,l.hp];have⟨c,E⟩:∃c:Nat,(a.length:Int)-1-k=c:=⟨a.length-1-k,J⟩;have j:c<a.length:=J;have H:binop .sub (M (c:Int)) (M 1)=G (M ((a.length:Int)-1-(k+1:Nat))):=Ee J J J;have C:=aG j;have L:a[c]? =G a[c]:=aF j;have I:=B _ C;obtain⟨_,⟨D,rfl,x⟩,u⟩:=Pv.use (a[c].1,s,g) ⟨I.1,z⟩;simp only at x u;rw[E]at d;simp[o,p,d,j,Wi,fi.cs,n];refine fO (λA=>?_) (λA=>?_);simp[o,p,v,d,j,Wi,fi.cs,n,r,u];refine fO (λy=>?_) (λy=>?_);simp[l.hp];exact⟨a[c].1,a[c].2,C,by simp at A;omega,x y⟩;simp[o,p,v,d,H,l,n,r];omega;simp[l.hp]
def Dk{w:fh}{a:fi}{i:Int}(b:jB i w.eZ.length):rM w a i=qh w a i:=by unfold rM;rw[b];rfl
def KV{w:fh}{a:fi}{g:iv}(b:w.gx.vR g):nu w a g=Ah w a g:=by
 have e:∀i:Int,decide (i∈a.order)=decide (0<=place a i):=λi=>by unfold place;simp[oM]
 unfold nu Ah;rcases YR b with⟨k,h⟩|⟨k,f,d,l,m⟩
 rw[aq J,au k,aq J,au k];have:∀i∈g.jA,A1 w a i=vU w a i:=λi j=>by
  unfold A1 vU sr;rw[show jB i w.eZ.length=true from h i j];cases decide (jn w a (mL w.eZ i).fa=i)<;>simp
 show g.jA.all (A1 w a)=g.jA.all (vU w a);rw[bD,cw,cw];exact⟨λb i c=>this i c▸b i c,λb i c=>(this i c).symm▸b i c⟩;rcases k with k|k|k;rw[au k,au k,Dk f,Dk d];rw[aq J,aq J,au k,aq J,aq J,au k,e];rw[aq J,aq J,aq J,au k,aq J,aq J,aq J,Dk d,e]
def agq{c:iq}(ht:c.p 26=G vy){w:fh}{a:fi}{g:iv}(d:sH w a)(b:w.gx.vR g)(hl:g.jA.length<=1000000):rl prog cx c 26 [w.t,a.t,g.t]=G (.bool (oY w a g)):=by rw[Vz ht w a g d hl];unfold oY;rw[b,KV b,Bool.and_true,aZ]
structure If(w:fh)(k:Nat)(x:fi×List fG):Prop where
 ln:x.2.length=k
 co:yN (1000+k) w x.1
 od:Wo w x.1 k
 rc:Ie w x.1
 rd:ET 4 x.1.ig
def If.step{w:fh}{k:Nat}{c:fi×List fG}{ch:fG}(a:If w k c)(d:kO w)(b:iO w c.1 ch.fa):If w (k+1) (wj w c.1 ch,c.2++[ch]):=
 ⟨by simp[a.ln],(a.co.step _ b).up J,a.od.step b,a.rc.step b,a.rd.jp d b⟩
def If.m{w:fh}{k:Nat}{b:fi×List fG}(a:If w k b)(e:kO w)(n:w.eZ.length<=8)(c:w.eZ≠ []):CfM b.1/\b.2.length<=1000000:=by have:=a.od.le;have:=a.od.ln;have f:sH w b.1:=⟨e,a.co.up J⟩;have o:=kA e.wb;have hl:=f.l c;exact⟨⟨⟨J,a.od.nd,λj d=>a.co.wk▸a.od.i j d⟩,J,λh d=>iV (a.rd.len a.co.BP h d),iV (a.co.ce c),iV (a.co.fu c),by rw[a.co.fx];omega⟩,by rw[a.ln];omega⟩
abbrev Sl(w:fh)(a:List (fi×List fG)):List (fi×List fG):=A6 (Hj w) (wj w) a
abbrev kpW(w:fh)(g:iv)(us:List Int)(b a:List (fi×List fG)):Prop:=KpI HW (htW w g) (Ig w us g) b a
structure V2(w:fh)(g:iv)(us:List Int)(i k:Nat)(pr lv bl:List (fi×List fG)):Prop where
 j:pr.length<=i/\i<=pr.length+lv.length
 p:LvP HW (Hj w) (wj w) (htW w g) (jv w) (Ig w us g) k lv
 n:∀x∈lv.take (i-pr.length),oY w x.1 g=false
 K:kpW w g us bl (Sl w (lv.take (i-pr.length)))
 a:∀x∈pr,∃j,j<k/\If w j x
 b:∀x∈lv,If w k x
 c:∀x∈bl,If w (k+1) x
 s:pr.length<=20^k/\lv.length<=20^k
def Kq{w:fh}(a:kO w):∀{l:List (fi×List fG)},(∀x∈l,∃k,k<=900/\If w k x)->(Sl w l).length<=20*l.length
 | [],_=>by simp[A6]
 |x::l,b=>by
  have i:=Kq a λe c=>b e (dw _ c);have⟨k,f,d⟩:=b x Y;have:=AC (⟨a,d.co.up J⟩:sH w x.1) w.gY.eY.length;have:=(kA a.wb).2.2.2.2.2;unfold Sl A6 at*
  rw[bh,aT,aL];show(mY w x.1 w.gY.eY.length).length+_<=_;simp only[aU];omega
section
variable {w:fh}{g:iv}{us:List Int}{i k:Nat}{pr lv bl:List (fi×List fG)}
def V2.le(a:V2 w g us i k pr lv bl)(d:kO w)(c:k<=900):bl.length<=20*(i-pr.length):=by have:=a.K.sb.length_le;have:=Kq d (l:=lv.take (i-pr.length)) λf e=>⟨k,c,a.b f (bU e)⟩;simp only[List.length_take]at this;omega
def V2.adv(d:V2 w g us i k pr lv bl)(v:kO w)(t:k<=900)(u:V0 w us)(B:i=pr.length+lv.length):V2 w g us i (k+1) (pr++lv) bl []:=by
 have h:i-pr.length=lv.length:=J;have j:=d.n;have f:=d.K;have l:=d.s;have z:=d.le v t;rw[h]at z;rw[h,aI]at j f;have q:=d.p.aeq HW.trans (λl=>um w l _) (acr u) j;have o:i-(pr++lv).length=0:=by rw[aT];omega
 refine⟨dY,.inr ⟨k,lv,rfl,q,f⟩,by rw[o];simp,by rw[o];exact⟨.slnil,by simp[A6],rfl⟩,λm x=>(List.mem_append.1 x).elim (λe=>by have⟨y,A,r⟩:=d.a m e;exact⟨y,J,r⟩) λe=>⟨k,J,d.b m e⟩,d.c,Y,?_⟩;rw[Nat.pow_succ];simp only[aT];omega
def V2.fin(a:V2 w g us i k pr lv bl)(f:kO w)(e:k<=900)(b:V0 w us)(d:(pr++lv++bl).length<=i):Z8 w g:=by have l:=a.j;simp at d;have c:bl=[]:=List.length_eq_zero_iff.1 J;subst c;exact(((a.adv f e b J).p).aeq HW.trans (λh=>um w h _) (acr b) Y).none
def I6(w:fh)(b:fi){a:Nat}:∀{n:Nat},a<=n->∃c,mY w b n=mY w b a++c
 |0,e=>by
  obtain rfl:a=0:=J;exact⟨[],Y⟩
 |n+1,e=>by
  rcases aR n a with q|q;obtain rfl:a=n+1:=J;exact⟨[],Y⟩;have⟨c,d⟩:=I6 w b q;rw[vX,d,aO];exact⟨_,rfl⟩
abbrev ZH(w:fh)(b:fi×List fG)(c:List fG):List (fi×List fG):=c.map λa=>(wj w b.1 a,b.2++[a])
def V2.lt(l:V2 w g us i k pr lv bl){b:Nat}{a:fi×List fG}(n:lv[b]? =G a){e h:List fG}{c:fG}(m:Hj w a.1=e++c::h):∀f∈Sl w (lv.take b)++ZH w a e,IM HW f.2 (a.2++[c]):=λf o=>by
 have d:=Qm (chs:=Hj w) (step:=wj w) (λs=>um w s _) ((l.p.pw λs=>um w s _).sublist (List.take_sublist (b+1) lv));have j:Sl w (lv.take (b+1))=(Sl w (lv.take b)++ZH w a e)++(wj w a.1 c,a.2++[c])::ZH w a h:=by
  unfold Sl A6;rw[dx,n,cH];simp[m];exact List.map_append
 have d:(Sl w (lv.take (b+1))).Pairwise _:=d;rw[j,List.pairwise_append]at d;exact .inr (d.2.2 f o _ dD)
end
def KD{w:fh}{c:fi}(a:sH w c)(t:Int):(kG w c t).length<=1000:=by unfold kG;split;rename_i b;have:=a.l (py (qV (w:=w) (c:=c) (t:=t) J));have:=yR (mL w.eZ (jn w c t)).obj c.ig.eY 0;omega;simp
def UE{w:fh}:∀(a:List fG) (b:fi) (k:Nat),Wo w b k->Fi (Hj w) (wj w) b a->Wo w (KB (wj w) b a) (k+a.length)
 | [],_,_,c,_=>c
 |ch::a,b,k,c,d=>by
  have:=UE a _ (k+1) (c.step (AB d.1)) d.2;rw[aU,show k+(a.length+1)=k+1+a.length by omega];exact this
def RF{w:fh}{g:iv}{a:List fG}(b:Kz w g a):a.length<=w.eZ.length:=by have:=(UE a (jv w) 0 ⟨by simp[jv],by simp[jv],rfl⟩ b.1).le;omega
structure F21(w:fh)(g:iv)(ns:List (fi×List fG))(v:T)(h:H):Prop where
 ok:jk 0 h
 b0:h.get 0=G (eg 15 0 [w.t])
 b1:h.get 1=G (eg 6 0 [g.t])
 lv:OP h v ns
def F21.nb{w:fh}{g:iv}{e:List (fi×List fG)}{f:T}{c d:H}(a:F21 w g e f c)(b:Nb c d):F21 w g e f d:=
 ⟨⟨b.ok.hp,b.ok.low,az _⟩,(b.get _ (H.fV a.b0)).trans a.b0,(b.get _ (H.fV a.b1)).trans a.b1,a.lv.nb b⟩
def F21.app{w:fh}{g:iv}{o:List (fi×List fG)}{q t:T}{a f:H}{l:List T}{x:fi×List fG}{d:T}(r:F21 w g o q a)(v:Gr a q 10 l)(u:jw (Z9 a) l o)(y:Z9 a d x)(h:Xt a q 10 (l++[d]) t f):F21 w g (o++[x]) t f:=by have m:∀b c,a.get b=G c->c.sz≠10->f.get b=G c:=λb c e n=>(h.2.1 b (H.fV e) λk=>by have⟨_,_,_,_,j,_⟩:=v.box k;rw[e]at j;simp at j;subst j;exact n rfl).trans e;have s:∀{d x},Z9 a d x->Z9 f d x:=λz=>z.mono λb c e j=>m b c e J;exact⟨⟨h.2.2.2.hp,h.2.2.2.low,az _⟩,m _ _ r.b0 Y,m _ _ r.b1 Y,_,h.1,(u.imp λ_ _=>s).append (.cons (s y) .nil)⟩
abbrev P9(w:fh)(b:fi×List fG)(a c:Nat):List fG:=mY w b.1 a++if iO w b.1 a=true then((kG w b.1 a).take c).map λk=>(⟨a,k⟩:fG)else []
structure We(w:fh)(g:iv)(us:List Int)(k:Nat)(pr lv:List (fi×List fG))(j:Nat)(x:fi×List fG)(t m:Nat)(v:T)(h:H):Prop where
 ex:∃bl,F21 w g (pr++lv++bl) v h/\kpW w g us bl (Sl w (lv.take j)++ZH w x (P9 w x t m))/\∀z∈bl,If w (k+1) z
def ab7(w:fh)(b:fi×List fG)(a:Nat):P9 w b a (kG w b.1 a).length=P9 w b (a+1) 0:=by unfold P9;rw[aI,<-vX];simp
def Vg{w:fh}{b:fi×List fG}{a c:Nat}(d:iO w b.1 a)(e:c<(kG w b.1 a).length):P9 w b a (c+1)=P9 w b a c++[⟨a,(kG w b.1 a)[c]⟩]:=by unfold P9;rw[au d,au d,aM e,List.map_append,aO];rfl
def Yh{w:fh}{x:fi×List fG}{a b:Nat}(d:iO w x.1 a)(j:b<(kG w x.1 a).length){e:Nat}(ht:a<e):∃c,mY w x.1 e=P9 w x a b++⟨a,(kG w x.1 a)[b]⟩::c:=by have⟨c,h⟩:=I6 w x.1 ht;refine⟨((kG w x.1 a).drop (b+1)).map (λk=>⟨a,k⟩)++c,?_⟩;rw[h,vX,au d];unfold P9;rw[au d];have f:=bE (List.map λk=>(⟨a,k⟩:fG)) (cB b (kG w x.1 a));rw[aJ j,List.map_append,aS]at f;rw[<-f];simp only[aO,aW]
def LB(w:fh)(a:fi×List fG)(d:List (fi×List fG))(c:List fG)(b:fG):d++ZH w a (c++[b])=(d++ZH w a c)++[(wj w a.1 b,a.2++[b])]:=by unfold ZH;rw[List.map_append,aO];rfl
def VK{w:fh}{lv:List (fi×List fG)}{a:Nat}{b:fi×List fG}(c:lv[a]? =G b):Sl w (lv.take (a+1))=Sl w (lv.take a)++ZH w b (P9 w b w.gY.eY.length 0):=by unfold Sl A6;rw[dx,c,cH];simp[P9]
def We.nx{w:fh}{g:iv}{us:List Int}{k:Nat}{pr lv:List (fi×List fG)}{d:Nat}{b:fi×List fG}{a:Nat}{e:T}{c:H}(f:We w g us k pr lv d b a (kG w b.1 a).length e c):We w g us k pr lv d b (a+1) 0 e c:=⟨by have:=f.ex;rwa[ab7]at this⟩
def OP.fz{h:T}{c:H}{l:List (fi×List fG)}(a:OP c h l):TI.qZ c h=G (sl (l.map Wi)):=by
 obtain⟨y,j,n⟩:=a;have b:∀{m:Type} (f:m->T) (a:List m),(∀e,cn (f e)=f e)->FT c (λ_=>True) 3 (sl (a.map f)) (sl (a.map f)):=λf a q=>uq _ _ _ λe r=>by obtain⟨v,_,rfl⟩:=List.mem_map.1 r;exact q v
 refine(?_:TI.qZ c h=TI.fz c h).trans (j.JT (Vq:=λ_=>True) (d:=4) J (n.XB (f:=Wi) λx e u=>?_));rcases j with⟨rfl,_⟩|⟨_,_,_,_,_,rfl,_⟩<;>rfl;obtain⟨z,rfl,p⟩:=u;have o:∀a:List fG,jw (FT c (λ_=>True) 2) (a.map fG.t) (a.map fG.t):=λa=>by
  induction a with
  |nil=>exact .nil
  |cons e a s=>exact .cons (.inr (.inr ⟨_,_,rfl,.cons (jh ..) (.cons (jh ..) .nil),rfl⟩)) s
 exact .inr (.inr ⟨_,_,rfl,.cons (b _ _ Y) (.cons (jh ..) (.cons (b _ _ Y) (.cons (b _ _ Y) (.cons (b _ _ Y) (.cons (b _ _ Y) (.cons (b _ _ Y) (.cons (b _ _ Y) (.cons (b _ _ Y) (.cons (p.ft (λ_ _=>trivial) (o _)) .nil))))))))),rfl⟩)
def Lr:p8 prog cx 8 (λa:fh×iv=>[a.1.t,a.2.t]) (λa=>FdP a.1 a.2) fdQ:=by
 refine jX [(24,pT),(25,y8),(26,vy),(27,Do),(28,xW),(29,IE.kx)] (jz 19807040629719076306130452479 [(17,[(7,11)]),(19,[(1,8),(8,9),(8,10),(1,11)])] func8) (λ_=>100000000000) (λa b h=>by simp at h;exact aD (fh.inj h.1) (iv.inj h.2)) ?_;rintro⟨w,g⟩ ⟨A,bA,ea⟩ B eE;simp only at A bA ea;simp at eE;obtain⟨e6,ap⟩:=eE;simp[f8,e6,ap,CZ,A,ea];refine fO (λaE=>?_) (λaE=>?_);have aE:w.gx.vR g=false:=iC aE;simp[fdQ];exact λgD _=>by show oY w _ g=false;unfold oY;rw[aE,Bool.and_false]
 have aE:w.gx.vR g:=iC aE;have eA:=λ{bT:iq} (ht:bT.p 26=G vy) {b6:fi} (ds:sH w b6)=>agq ht ds aE ea;obtain⟨_,⟨us,rfl,eN⟩,_⟩:=Jw.use w A;have eM:V0 w us:=λi R fC first k z e7=>eN.us i R fC first k z (.inl ⟨(List.getElem?_eq_some_iff.1 z).1,e7⟩)
 clear eN;simp[Vm,A];refine HB (σ:=(Nat×Nat)×List (fi×List fG)×List (fi×List fG)×List (fi×List fG)) (λF R h=>R.tmps= .nil/\(∃C,F21 w g (F.2.1++F.2.2.1++F.2.2.2) C h/\ka R.vars 6 C)/\V2 w g us F.1.1 F.1.2 F.2.1 F.2.2.1 F.2.2.2/\F.1.1<=80000000001/\F.1.2<=9/\jg R.vars 2 0/\jg R.vars 3 1/\iS R.vars 7 F.1.1) (λF=>90000000000-F.1.1) ?_ 100000000000 ((0,0),[],[(jv w,[])],[]) _ _ Y ?_
 .rintro⟨⟨i,k⟩,pr,lv,bl⟩ ⟨B,gF⟩ h ⟨ht,⟨C,d,f⟩,e,eH,eI,y,D,v⟩;simp only at ht d f e eH eI y D v;subst ht;have⟨br,S,N⟩:=id d.lv;have c1:=λap=>S.len (cx:=cx) ap d8 _ rfl;rw[N.length]at c1;have eP:br.length=(pr++lv++bl).length:=N.length;simp only[aT]at c1;simp[f,v,c1];refine fO (λcp=>?_) (λcp=>?_);rotate_left;simp;exact⟨.inl ⟨rfl,e.fin A J eM (by simp at cp|-;omega)⟩,d.ok.hp⟩;have⟨k,pr,lv,bl,e,eF,gw,eI⟩:∃eO ef ec ax,V2 w g us i eO ef ec ax/\pr++lv++bl=ef++ec++ax/\i<ef.length+ec.length/\eO<=10:=by
   by_cases q:i<pr.length+lv.length;exact⟨k,pr,lv,bl,e,rfl,q,J⟩;have:=e.j;exact⟨k+1,pr++lv,bl,[],e.adv A J eM J,Y,by simp at cp|-;omega,J⟩
  rw[eF]at d N eP;clear eF c1 cp eH;have⟨L,gy⟩:∃L,i=pr.length+L:=⟨i-pr.length,by have:=e.j;omega⟩;have cL:L<lv.length:=J;have b7:i-pr.length=L:=J;have⟨x,al⟩:∃x,lv[L]? =G x:=⟨_,aF cL⟩;have fA:lv[L]=x:=by rw[aF cL]at al;simpa using al
  have c9:=e.b x (aB al);have ff:k<=8:=by have:=c9.od.le;omega
  have bZ:∀ax,(pr++lv++ax)[i]? =G x:=λax=>by rw[aO,cX J,b7,cN cL,al]
  have bN:sH w x.1:=⟨A,c9.co.up J⟩;have gE:20^k<=25600000000:=aV (dR d6 ff) d6;have e0:=e.s;obtain⟨R,z,eh,rfl,ao⟩:=N.get (bZ bl);have⟨b,di,ej,dk,eo,aN,P,Q,o⟩:=S.CD (te:=QG) rfl (i:=i) (List.getElem?_eq_some_iff.1 z).1;rw[(List.getElem?_eq_some_iff.1 z).2]at o;simp only[BU,fi.cs,aW,bJ]at o;simp[y,D,f,v,P,Q,o,d.b0,d.b1,eA,bN];refine fO (λcb=>?_) (λcb=>?_);simp[f,v,P,Q,o];refine⟨.tuple [sl (x.2.map fG.t),.bool true],.inr ⟨x.2,rfl,e.p.ajh HW.trans (λF=>um w F _) (a:=lv.take L) (b:=lv.drop (L+1)) ?_ (by have:=e.n;rwa[b7]at this) cb⟩,d.ok.hp,by rw[ao.qZ Y];rfl⟩;rw[<-fA,<-aJ cL,cB];have cb:oY w x.1 g=false:=iC cb;simp;have dd:=e.K;rw[b7]at dd;refine io w.gY.eY.length (by have:=(kA A.wb).2.2.2.2.2;omega) (λI B U=>(∃C,We w g us k pr lv L x I 0 C U/\ka B 6 C)/\jg B 2 0/\jg B 3 1/\iS B 7 i/\iS B 8 I) ?_ ?_ (by have:=(kA A.wb).2.2.2.2.2;omega) ⟨⟨C,⟨bl,d,by simpa[P9,mY]using dd,e.c⟩,by simp[f]⟩,by simp[y,D,v]⟩;clear d S N z ao aN P Q o y D f v eP dd;rintro I B U eL fb ⟨⟨C,V,f⟩,y,D,v,O⟩;have⟨bl,d,W,Z⟩:=id V.ex;have⟨br,S,N⟩:=d.lv;obtain⟨R,z,eh,rfl,ao⟩:=N.get (bZ bl);have⟨b,di,ej,dk,eo,aN,P,Q,o⟩:=S.CD (te:=QG) rfl (i:=i) (List.getElem?_eq_some_iff.1 z).1;rw[(List.getElem?_eq_some_iff.1 z).2]at o;simp only[BU,fi.cs,aW,bJ]at o;have e5:=λ{bT:iq} (ht:bT.p 27=G Do)=>ab9 ht w x.1 I bN;simp[y,f,v,O,eL,P,Q,o,d.b0,e5];have e8:=KD bN I;have⟨Wk,bi⟩:∃Wk,Wk=kG w x.1 I:=⟨_,rfl⟩;rw[<-bi]at e8|-;refine io Wk.length J (λav B U=>(∃C,We w g us k pr lv L x I av C U/\ka B 6 C)/\jg B 2 0/\jg B 3 1/\iS B 7 i/\iS B 8 I/\ka B 9 (sl (iE Wk))/\iS B 10 av) ?_ ?_ J ⟨⟨C,V,by simp[f]⟩,by simp[y,D,v,O]⟩;clear d W V f S N z ao aN P Q o y D v O Z;rintro av B U bu dm ⟨⟨C,V,f⟩,y,D,v,O,a8,a7⟩;have⟨bl,d,W,Z⟩:=V.ex;have fB:=d.ok.low;have c4:(0=U.size)=False:=by have:=H.fV d.b1;simp;omega
  simp[y,f,v,O,a8,a7,bu,fB,c4,d.b0];generalize eD:U.cons _=T;have fE:Nb U T:=eD▸(Nb.refl d.ok).cons _;have bW:T.get U.size=G (eg 2 1 [fG.t ⟨I,Wk[av]⟩]):=by rw[<-eD];simp
  have ae:=d.nb fE;have⟨br,S,N⟩:=id ae.lv;obtain⟨R,z,eh,rfl,ao⟩:=N.get (bZ bl);have⟨b,di,ej,dk,eo,aN,P,Q,o⟩:=S.CD (te:=QG) rfl (i:=i) (List.getElem?_eq_some_iff.1 z).1;rw[(List.getElem?_eq_some_iff.1 z).2]at o;simp only[BU,fi.cs,aW,bJ]at o;have aX:=λ{bT:iq} (ht:bT.p 28=G xW)=>Ym ht w x.1 ⟨I,Wk[av]⟩ bN;have p1:∀x u,fQ (T.cons x) T.size u=T.cons u:=λx u=>zq _ _ _ _ rfl ae.ok.low;cases ar:iO w x.1 I;have de:jp w x.1 ⟨I,Wk[av]⟩=(So,false):=by unfold jp;rw[aq (by simp[ar])]
  rw[de]at aX;simp[y,D,f,v,O,a8,a7,P,Q,o,bW,aX,p1,dm];exact⟨bl,ae.nb ((Nb.refl ae.ok).cons _),by simpa[P9,ar]using W,Z⟩;have⟨ch,b9⟩:∃ch:fG,ch=⟨I,Wk[av]⟩:=⟨_,rfl⟩;have de:jp w x.1 ch=(wj w x.1 ch,true):=by unfold wj jp;rw[b9,au ar]
  rw[<-b9]at aX bW;rw[de]at aX;have X:=c9.step A (ch:=ch) (b9▸ar);have c6:w.eZ≠ []:=py (qq ar);have fe:k<=7:=by have:=X.od.le;omega
  have fy:sH w (wj w x.1 ch):=⟨A,X.co.up J⟩;have c4:(0=T.size)=False:=by have:=H.fV ae.b1;simp;omega
  have eR:(1=T.size)=False:=by have:=H.fV ae.b1;simp;omega
  have bn:=ae.nb ((Nb.refl ae.ok).cons (eg 9 1 [(wj w x.1 ch).t]));have fz:=bn.lv.fz;rw[bi]at bu;have b8:=Vg ar bu;have⟨r,eb⟩:=Yh (x:=x) ar bu eL;simp only[<-bi]at b8 eb;rw[<-b9]at b8 eb;have fs:=e.lt al eb;rw[<-bi]at bu;have p7:20^k<=20^7:=dR d6 fe;have gm:(20:Nat)^7=1280000000:=d6;have gn:bl.length<=20*L+2000:=by
   have:=W.sb.length_le;have:=Kq A (l:=lv.take L) λu E=>⟨k,J,e.b u (bU E)⟩;have:=AC bN I;have:=(kA A.wb).2.2.2.2.2;have:((Wk.take av).map λk=>(⟨I,k⟩:fG)).length<=1000:=dY;simp only[P9,ar,if_true,aT,aL,List.length_take,<-bi]at*
   omega
  have⟨c7,aA⟩:∃c7,c7=pr++lv++bl:=⟨_,rfl⟩;rw[<-aA]at fz;have fv:c7.length<=90000000000:=by rw[aA];simp only[aT];omega
  obtain⟨_,⟨gB,rfl,eK⟩,eB⟩:=IE.use (c7,wj w x.1 ch,g) ⟨fv,λu E=>by
   rw[aA]at E;rcases List.mem_append.1 E with q|q
   rcases List.mem_append.1 q with q|q;have⟨_,_,q⟩:=e.a u q;exact q.m A bA c6;exact(e.b u q).m A bA c6;exact(Z u q).m A bA c6,(X.m A bA c6).1⟩
  simp only at eK eB;simp[y,D,f,P,Q,o,ae.b0,ae.b1,bW,aX,p1,c4,eR,fz,eB,eA,fy];refine fO (λca=>?_) (λca=>?_);simp[y,D,f,v,O,a8,a7,dm];rw[aC,cO]at ca;refine⟨bl,aA▸bn,?_,Z⟩;rw[b8,LB];have⟨u,E,gQ,gi⟩:=eK ca.1;have E:u∈bl:=by
   rw[aA]at E;have fP:=X.od.ln;simp only at fP;rcases List.mem_append.1 E with q|q
   rcases List.mem_append.1 q with q|q;have⟨_,_,q⟩:=e.a u q;have:=q.ln;omega;have:=(e.b u q).ln;omega;exact q
  exact W.drop ca.2 ⟨u,E,fs u (W.sb.subset E),gi.lk (Z u E).rc X.rc (Z u E).od.nd us⟩;have eV:(T.cons (eg 9 1 [(wj w x.1 ch).t])).get T.size=G (eg 9 1 [(wj w x.1 ch).t]):=Y;have eU:(T.cons (eg 9 1 [(wj w x.1 ch).t])).get U.size=G (eg 2 1 [ch.t]):=by
   have:=H.fV bW;rw[fH,aq J];exact bW
  generalize T.cons _=bs at*
  clear fz c4 eR aN P Q o p1 aX;have⟨br,S,N⟩:=id bn.lv;obtain⟨R,z,eh,rfl,ao⟩:=N.get (bZ bl);have gC:Gr (bs.cons (eg 2 0 [])) C 10 br:=S.mono λb dn=>by
   have⟨_,_,_,_,q,_⟩:=S.box dn;have:=H.fV q;rw[fH,aq J]
  have⟨b,di,ej,dk,eo,aN,P,Q,o⟩:=gC.CD (te:=QG) rfl (i:=i) (List.getElem?_eq_some_iff.1 z).1;rw[(List.getElem?_eq_some_iff.1 z).2]at o;simp only[BU,fi.cs,aW,bJ]at o;have gz:=c9.ln;have⟨gj,ap,e4,⟨gM,gk,gA⟩,gP,ee,fM⟩:=kR (cx:=cx) (sz:=2) bn.ok BL rfl DY BL rfl rfl Y ao.kd (λR z=>by obtain⟨_,_,rfl⟩:=List.mem_map.1 z;rfl) dY;have⟨eS,eG,eu,an⟩:=(Gr.new gA).oy (cx:=cx) fM BL rfl DY rfl Y Y ch dY;have eW:=H.fV eU;have gg:=H.fV eV;have fX:=(ee _ eW).trans eU;simp only[aL]at eu an;have sv:∀b,b<bs.size->il (bs.cons (eg 2 0 [])) ap b=true:=λb dn=>iw ((ee b dn).trans d2);have fS:il (bs.cons (eg 2 0 [])) ap ap.size:=kf (oR _ dY);have fW:il (ap.cons (eg 2 0 [ch.t])) eG T.size:=iw ((an.2.1 _ J dY).trans d2);have fL:Nb bs eG:=⟨⟨an.2.2.2.hp,an.2.2.2.low,by have:=an.2.2.2.sz;omega⟩,λb6 ds=>(an.2.1 b6 J dY).trans (ee b6 ds)⟩;have bX:=bn.nb fL;rw[<-aA]at bX;have⟨es3,eC,et⟩:=id bX.lv;have l3:=et.length;have⟨gI,gv,ey,fY⟩:=eC.yv (cx:=cx) bX.ok abQ rfl abR rfl Y (x:=BU (wj w x.1 ch) eS) rfl (by rw[l3];simp;omega);have eX:=bX.app (x:=(wj w x.1 ch,x.2++[ch])) eC et ⟨eS,rfl,an.1⟩ fY;simp only[BU,fi.cs,aW,bJ]at ey;simp[y,D,f,v,O,a8,a7,dm,eV,P,Q,o,e4,eu,ey,fX,sv _ eW,sv _ gg,fS,fW,an.1.je,an.1.cells];refine⟨bl++[(wj w x.1 ch,x.2++[ch])],?_,?_,λu E=>(List.mem_append.1 E).elim (Z u) λq=>List.mem_singleton.1 q▸X⟩;rw[<-aO,<-aA];exact eX;rw[b8,LB];exact W.mO _;clear d W V f S N z ao aN P Q o y D v O Z;rintro B U ⟨⟨C,V,f⟩,y,D,v,O,a8,a7⟩;rw[bi]at V;simp[y,D,v,O,a8,a7,fb];exact⟨C,V.nx,f⟩;rintro B U ⟨⟨C,V,f⟩,y,D,v,O⟩;have⟨ax,d,W,Z⟩:=V.ex;rw[<-VK al]at W;have e9:binop .add (M (i:Int)) (M 1)=G (M ((i:Int)+1)):=MJ rfl J J;simp[y,D,v,O,d.b0,e9];refine⟨i+1,J,k,pr,lv,ax,⟨C,aO .. ▸d,f⟩,⟨J,e.p,?_,?_,e.a,e.b,Z,e0⟩,J,J,Y⟩;rw[show i+1-pr.length=L+1 by omega,dx,al];exact λu E=>(List.mem_append.1 E).elim (b7▸e.n u) λq=>by simp at q;rwa[q]
  rw[show i+1-pr.length=L+1 by omega];exact W
 exact⟨rfl,⟨_,⟨⟨Y,by simp[size_cons],Y⟩,by simp[size_cons],by simp[size_cons],[BU (jv w) ed],.inr ⟨2,0,0,true,[BU (jv w) ed],rfl,by simp[size_cons,BU,fi.cs],rfl⟩,.cons ⟨_,rfl,Gr.nil _ _⟩ .nil⟩,Y⟩,⟨Y,.inl ⟨rfl,rfl⟩,Y,by simp;exact⟨.slnil,by simp[A6],rfl⟩,Y,λx al=>by
  simp at al;subst al;exact⟨rfl,yN.start A,⟨by simp[jv],by simp[jv],rfl⟩,Ie.start w,A.rdt⟩,Y,Y⟩,Y⟩
end
end
def aag{f:GX}{b:iv}(a:f.vR b):b.jA.length<=4:=by
 unfold GX.vR at a;split at a;unfold GX.dead GX.MU at a;simp[aC,aP]at a;exact a.2.1.1.2;split at a;rotate_left;simp at a;have e:∀{d:Bool},(decide (b.jA=[])&&d)->b.jA.length<=4:=λc=>by
  simp[aC,aP]at c;rw[c.1];simp
 split at a;simp[aC,aP]at a;rw[a.1.2];simp;split at a;simp[aC,aP]at a;rw[a.1.2];simp;split at a;exact e a;simp at a
def byB(a:Int):Prop:=0<=a/\a<256
def byL(a:List Int):Prop:=∀b∈a,byB b
def byL.okB{a:List Int}(b:byL a)(hl:a.length<=1000000):okB a:=⟨J,b⟩
section
attribute [-simp] size_cons
def Ju(a:fh×Int):iv×Bool:=match a.1.gx.pW[(a.2% (a.1.gx.pW.length:Int)).toNat]? with
 |none=>(⟨0,0,0,0,0,[]⟩,false)
 |some b=>(b,true)
def KX:iF:=⟨fh×Int,λa=>[a.1.t,.int .u16 a.2],λa=>kO a.1/\0<=a.2/\a.2<65536,λa=> .tuple [(Ju a).1.t,.bool (Ju a).2],λa c b=>by simp at b;rw[show a=c from aD (fh.inj b.1) b.2]⟩
def aaU:KX.Ok prog cx 6:=by
 refine iD [(14,An)] (jz 2167 [] func6) (λ_=>1) (by simp[KX]) ?_;rintro⟨d,b⟩ ⟨f,g,k⟩ r i
 dsimp at f g k
 simp[KX]at i|-;have l:∀{h:iq},h.p 14=G An->rl prog cx h 14 [d.t]=G (sl (d.gx.pW.map iv.t)):=λht=>iL ht TZ d f;unfold Ju;simp only;generalize d.gx.pW=a at*
 simp[*,f6];refine fO (λc=>?_) (λc=>?_);simp at c;subst c;simp[iv.t,iv.cs];have n:0<a.length:=List.length_pos_iff.2 (iC c);have j:=Int.emod_nonneg b (show(a.length:Int)≠0 by omega);have q:=Int.emod_lt_of_pos b (show(0:Int)<a.length by omega);have⟨e,o⟩:∃e,a[(b% (a.length:Int)).toNat]? =G e:=⟨_,aF J⟩;have m:b.tmod (a.length:Int)=b% (a.length:Int):=Int.tmod_eq_emod_of_nonneg g;simp[*,show-9223372036854775808<=b by omega,show b<9223372036854775808 by omega,Jl (show¬(a.length:Int)=0 by omega),fZ j]
def ago{c:iq}(ht:c.p 6=G KX)(b:fh)(a:Int)(d:kO b)(e:0<=a)(f:a<65536):rl prog cx c 6 [b.t,.int .u16 a]=G (.tuple [(Ju (b,a)).1.t,.bool (Ju (b,a)).2]):=iL ht aaU (b,a) ⟨d,e,f⟩
def Nu{w:fh}{k:Int}(a:(Ju (w,k)).2):w.gx.vR (Ju (w,k)).1=true:=by
 unfold Ju at*
 split at a;simp at a;rename_i c b;exact GX.NV (aB b)
def abK(a:fG):I2 cx Wy a.t a.t=G true:=by obtain⟨b,c⟩:=a;show I2 cx Wy (.agg [M b,M c]) (.agg [M b,M c])=_;rw[BE rfl rfl];simp only[tR,nL,fw,show EW.u= .int .i64 from rfl,Dx,iP,BI];simp
def abf(c d:ah)(b:fG)(a:T):zu c d b.t a=true:=a9
def Io:iF:=⟨List fG,λa=>[sl (a.map fG.t),sl (a.map fG.t)],λa=>a.length<=1000000,λ_=> .bool true,λ_ _ _=>rfl⟩
def aaT:Io.Ok prog cx 9:=by refine iD [] (jz 33571891 [] func9) (λ_=>1000005) (by simp[Io]) ?_;rintro(b:List fG) (hl:b.length<=1000000) a e;simp[Io]at e|-;simp[f9,e];refine io b.length J (λf a c=>c=hE/\ka a 0 (sl (b.map fG.t))/\ka a 1 (sl (b.map fG.t))/\iS a 5 f) ?_ ?_ J (by simp[e]);rintro f a c h g ⟨rfl,d⟩;simp[d,h,g,abK,abf];rintro a c ⟨rfl,d⟩;simp[d]
def agl{b:iq}(ht:b.p 9=G Io){a:List fG}(hl:a.length<=1000000):rl prog cx b 9 [sl (a.map fG.t),sl (a.map fG.t)]=G (.bool true):=iL ht aaT a hl
def both{f:fh}{d:iv}{e g:T}(hr:fdQ (f,d) e)(h:fdQ (f,d) g):e=g/\∃b a,e= .tuple [sl (b.map fG.t),.bool a]/\(a->Kz f d b)/\(a=false->b=[]):=by rcases hr with⟨rfl,j⟩|⟨b,rfl,c⟩<;>rcases h with⟨rfl,k⟩|⟨i,rfl,a⟩;exact⟨rfl,[],false,rfl,Y,Y⟩;have:=j i a.1;rw[a.2.1]at this;simp at this;have:=k b c.1;rw[c.2.1]at this;simp at this;obtain rfl:=Lst.aih HW.trans HW.irr c a;exact⟨rfl,b,true,rfl,λ_=>c,Y⟩
def VJ{c:fh}{d:iv}{b:List fG}{a:Bool}(hl:a->Kz c d b)(e:a=false->b=[])(f:c.eZ.length<=8):b.length<=1000000:=by cases a;simp[e rfl];have:=RF (hl rfl);omega
end
def aif(c:T):Prop:=∃(a:fh) (b:Bool),c= .tuple [a.t,.bool b]/\(b->kO a/\a.eZ.length<=8)
def Gg:p8 prog cx 4 (λa:List Int×List Int×Int×Int=>[sl (a.1.map (T.int .u8)),sl (a.2.1.map (T.int .u8)),.int .u8 a.2.2.1,.int .u8 a.2.2.2]) (λa=>okB a.1/\okB a.2.1/\a.2.1.length<=60/\(0<=a.2.2.1/\a.2.2.1<256)/\0<=a.2.2.2/\a.2.2.2<256) (λ_=>aif):=by
 refine jX [(11,Iy.kx),(10,IB.kx)] (jz 33556239 [] func4) (λ_=>105) (λa E c=>by simp at c;exact aD (jD (λ_ _ c=>by simpa using c) c.1) (aD (jD (λ_ _ c=>by simpa using c) c.2.1) (aD c.2.2.1 c.2.2.2))) ?_;rintro⟨r,q,d,e⟩ ⟨k,j,z,o,p⟩ N l;simp only at k j z o p;simp at l;obtain⟨v,w,x,y⟩:=l;obtain⟨_,⟨D,rfl,s,hl,hr⟩,eT⟩:=Iy.use (r,q) ⟨k,j,dZ⟩;obtain⟨_,⟨b,F,rfl,n⟩,h⟩:=IB.use (D,(d% 8+1).toNat) ⟨s,dZ,dZ,dZ,hr⟩;simp only at eT h;rw[show(((d% 8+1).toNat:Nat):Int)=d% 8+1 by omega]at h;have C:∀f:Int,0<=f->f<1000->IntKind.i64.wrap f=f:=λf K L=>by rw[<-kZ,lA J J]
 have t:d.tmod 8=d% 8:=Int.tmod_eq_emod_of_nonneg o.1;simp[f4,v,w,x,eT,show-9223372036854775808<=d by omega,show d<9223372036854775808 by omega,Jl (show¬(8:Int)=0 by omega),tz,t,C (d% 8+1) J J,h];refine fO (λm=>?_) (λm=>?_);simp;exact⟨⟨⟨[],[],[],[],[],[]⟩,0,⟨⟨[],0,[],[]⟩,[],[],[]⟩,[]⟩,false,rfl,Y⟩;have A:b≠ []:=by simpa using m
 have H:0<b.length:=by rcases b with _|_<;>simp at A|-
 have u:e.tmod (b.length:Int)=e% (b.length:Int):=Int.tmod_eq_emod_of_nonneg p.1;have B:0<=e% (b.length:Int):=Int.emod_nonneg _ J;have I:e% (b.length:Int)<b.length:=Int.emod_lt_of_pos _ J;have⟨g,i⟩:∃g,b[(e% (b.length:Int)).toNat]? =G g:=⟨_,aF J⟩;simp[y,show-9223372036854775808<=e by omega,show e<9223372036854775808 by omega,Jl (show¬(b.length:Int)=0 by omega),u,fZ B,i];exact⟨g,true,rfl,λ_=>⟨(n g (aB i)).1,by have:=(n g (aB i)).2;simp only at this;omega⟩⟩
section
attribute [-simp] size_cons
def S6:iF:=⟨List Int×List Int×Int×Int×Int,λa=>[sl (a.1.map (T.int .u8)),sl (a.2.1.map (T.int .u8)),.int .u8 a.2.2.1,.int .u8 a.2.2.2.1,.int .u16 a.2.2.2.2],λa=>byL a.1/\byL a.2.1/\byB a.2.2.1/\byB a.2.2.2.1/\0<=a.2.2.2.2/\a.2.2.2.2<65536,λ_=> .bool true,λ_ _ _=>rfl⟩
def aaY:S6.Ok prog cx 3:=by
 refine iD [(4,Gg.kx),(6,KX),(7,T9.kx),(8,Lr.kx),(9,Io),(5,Nl)] (jz 35253159197727 [] func3) (λO=>1) (by simp[S6]) ?_;rintro⟨f,e,L,N,k⟩ ⟨j,i,r,s,t,u⟩ R m;simp only at j i r s t u;simp[S6]at m|-;obtain⟨c,d,g,h,A⟩:=m;simp[f3,c,d];refine fO (λq=>?_) (λq=>?_);simp;have D:f.length<=200/\e.length<=60:=by simp at q;omega
 obtain⟨_,⟨w,H,rfl,F⟩,a⟩:=Gg.use (f,e,L,N) ⟨j.okB J,i.okB J,D.2,r,s⟩;simp only at a;cases H;simp[c,d,g,h,a,Ox];have⟨l,o⟩:=F rfl;have C:=Nu (w:=w) (k:=k);simp[c,d,g,h,A,a,ago,l,t,u];generalize Ju (w,k)=I at*
 obtain⟨b,v⟩:=I;cases v with
 |false=>simp[Ox]
 |true=>
 have n:FdP w b:=⟨l,o,aV (aag (C rfl)) d6⟩;have⟨_,hr,y⟩:=T9.use (w,b) n;have⟨_,E,z⟩:=Lr.use (w,b) n;obtain⟨rfl,Q,P,rfl,hl,B⟩:=both hr E;have x:=λ{K:iq} (ht:K.p 9=G Io)=>agl ht (VJ hl B o);simp[y,z,x,Ox]
end
end
noncomputable section
open Go Go.TI Go.RowKit Go.ChangeShapes Go.WideShapes
def Ql{b:Int}(a:ok5 b):byB b:=by unfold ok5 IntKind.min IntKind.max IntKind.signed IntKind.bits at a;unfold byB;simp at a;omega
def Sx{a:Int}(b:aa7 a):0<=a/\a<65536:=by unfold aa7 IntKind.min IntKind.max IntKind.signed IntKind.bits at b;simp at b;omega
def aeu:Tryz.f3.params.toList.all (λa=> !Tryz.prog.wantsStandIn a)=true:=em
def Ap:Tryz.f3.params.toList=[22,22,5,5,23]:=em
def laidOut:laidOutB Tryz.prog=true:=em
def stays:(([22,22,5,5,23]:List ab).all λa=>Tryz.prog.readableRec a&&decide (a<Tryz.prog.types.size))=true:=em
def B2(os:Os)(T:os.Started)(H:Type)(enc:ab×am->H):
 ReturnsInHanded {} Tryz.checked os 3 .any (λb i=>(Rows.searchMadeSpec.pre enc Tryz.prog Tryz.f3 [] false b i/\laidMetH Tryz.prog Rows.searchMadeRow.laid b)/\sizedMet enc Tryz.prog Tryz.f3 (OpenSpec.ofChange Rows.searchMadeSpec) false b i)
  (Rows.searchMadeSpec.post enc Tryz.prog Tryz.f3 false true false false):=by
 refine returnsInHanded_of_change_and (C:=Tryz.checked) (X:=λb _=>laidMetH Tryz.prog Rows.searchMadeRow.laid b) (λ_ _ _ y d=>d.of_heap y) own T em Tryz.func3
  (ChangeSpec.witness_shaped (enc:=enc) (C:=Tryz.checked) (os:=os) (X:=λb _=>laidMetH Tryz.prog Rows.searchMadeRow.laid b) false (World.laidAll Tryz.prog os Rows.searchMadeRow.laid)
    #[.slice none 0 0,.slice none 0 0,.int .u8 0,.int .u8 0,.int .u16 0] 8 (World.laidAll_os _ _ _)
    (World.shaped_of_ZipB em em) em em em
    (by rw[MakeChecks.laidMetH_plain _ _ _ em];exact laidMet_laidAll _ em em)) ?_
 intro W ar i a8 bA av B m _ D l _;have n:=m;obtain⟨s,q,v,w,rfl,_,_⟩:=m;obtain⟨rfl,rfl⟩:=trodVars_none w;rw[MakeChecks.laidMetH_plain _ _ _ em]at l;have a:=v;rw[Ap]at a;have⟨bN,f,N⟩:=R9 (.cons (Z7.one kl zO Y aeC) (.cons (Z7.one kl zO Y aeC) (.cons (Z7.one kl A2 Y rd5) (.cons (Z7.one kl A2 Y rd5) (.cons (Z7.one kl U6 Y aiz) (.nil)))))) a (λE U V t u=>B E U V (by rw[<-Array.getElem?_toList,Ap];exact t) (by rw[<-Array.getElem?_toList];exact u)) (λh f=>by
  have:=List.all_eq_true.1 D h (by rw[cq,Ap];exact f);simpa using this)
 obtain⟨_,_,rfl,⟨Z,rfl,F⟩,O⟩:=N.inv;obtain⟨_,_,rfl,⟨ae,rfl,I⟩,P⟩:=O.inv;obtain⟨_,_,rfl,⟨al,rfl,K⟩,Q⟩:=P.inv;obtain⟨_,_,rfl,⟨an,rfl,L⟩,R⟩:=Q.inv;obtain⟨_,_,rfl,⟨ao,rfl,r⟩,S⟩:=R.inv;obtain rfl:=S.Us;have A:=aaY (Z,ae,al,an,ao) ⟨λk j=>Ql (F.2 k j),λk j=>Ql (I.2 k j),Ql K,Ql L,(Sx r).1,(Sx r).2⟩;have z:∀h∈s,h.block<W.heap.size:=λh f=>n.lt h (by simpa using f);refine(Ov Tryz.func3 em (c:=TI.aco ⟨Tryz.f3,0,false,none⟩) em A W (λg ax d=>(abv W l).find d) f).mono λe ap ⟨x,p⟩=>?_;subst x;have o:=R8 laidOut p stays a z;rw[<-Ap]at o;obtain⟨_,_,aA,bi,_,_,_,rfl,_,_,a⟩:=trodAll_cons a;obtain⟨_,_,aE,bn,_,_,_,rfl,_,_,a⟩:=trodAll_cons a;obtain⟨_,_,aN,br,_,_,_,rfl,_,_,a⟩:=trodAll_cons a;obtain⟨_,_,aX,bs,_,_,_,rfl,_,_,a⟩:=trodAll_cons a;obtain⟨_,_,a7,bu,_,_,_,rfl,_,_,a⟩:=trodAll_cons a;obtain⟨_,rfl,_⟩:=trodAll_nil a;exact⟨_,rfl,_,_,_,[],s,[],n,trodAll_mk1 (shut_bool Tryz.underlying4 _),o,rfl,p.frame _,λd=>by cases d⟩
def Dj:Rows.searchMadeRow.holds Tryz.pinned (OpenSpec.ofChange Rows.searchMadeSpec):=
 OpenClaim.holds_of_wide 3 Tryz.f3 rfl rfl rfl rfl rfl rfl rfl ⟨rfl,rfl,rfl,rfl,rfl⟩ rfl rfl rfl rfl rfl w8 Tryz.func3 B3
  (of_decide_eq_true em) (by unfold Func.isWrapper;first|(rw[au (by decide+kernel)];kernel_rfl)|(rw[aq (by decide+kernel)];exact⟨rfl,rfl⟩))
  (λa b H enc _=>B2 a b H enc)
theorem searchMade_card_holds:Rows.SearchMadeCardSaid:=
 Claim7.holds_tied_plain_at .later [] [.data,.data,.data,.data,.sentinel,.sentinel,.data,.pinned] true (true,"d13495585116498592338166f1097f02b78a9def212249b0ff8c14a17b47f2c1") true Dj (λ_ a=>by cases a) HO (λ_ a=>by cases a) searchMade_row_tie rfl ⟨rfl,rfl⟩ EI rfl
  (λd e f g=>by
    obtain rfl:d=3:=db (w8.symm.trans f)|>.symm;obtain rfl:e=Tryz.f3:=(db (Tryz.func3.symm.trans g)).symm;refine⟨Di,λi c ht=>?_⟩;have h:c∈Tryz.f3.params.toList:=Array.mem_toList_iff.2 (Array.mem_of_getElem? ht);have b:=List.all_eq_true.1 aeu c h;simp only[cO]at b;exact b)
  EJ
