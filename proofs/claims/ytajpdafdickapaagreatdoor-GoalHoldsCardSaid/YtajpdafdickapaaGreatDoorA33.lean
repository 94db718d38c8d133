/- TiArg -/
import Derived.Test.YtajpdafdickapaaGreatDoorA32
import Derived.Test.YtajpdafdickapaaGreatDoorA6
set_option linter.all false
namespace Go.TI
noncomputable section
section
def Ut(a:Nat):¬nR nV a:=by
 rintro(⟨c,b,d,_⟩|hr)
 ·grind [nV]
 ·exact hr
def Rd(P:ai)(t d:Nat)(f:List T->Prop):Prop:=P.cellsOf t=d/\∀(H:Type) (h:ab×am->H) (e:World) (g:Nat) (l:Nat->Bool) (j:Bool) (i:Nat) (b:List am) (c:DataW H) (k:List MemPlace),
 DataW.trod h P e g l j i t b=some (c,k)->(∀n∈c.weights P t,n<=reachBytes)->∃a,gY e.heap nV a b/\(∀m∈a,vZ m)/\a.length=d/\f a
section
variable {P:ai}{t:Nat}
def gY.one{b:af Obj}{d:Mu}{c:T}{a:am}(h:fI b d c a):gY b d [c] [a]:=gY.cons h gY.nil
def abC{c:ak}(k:P.underlying t=some (.int c))(j:P.cellsOf t=1):Rd P t 1 λm=>∃b,m=[.int c b]/\c.min<=b/\b<=c.max:=by
 refine⟨j,λH p w n u q d f o s a r=>?_⟩;cases d with
 |zero=>simp[DataW.trod]at a
 |succ d=>
  unfold DataW.trod at a;rw[k]at a
  match f,a with
  | [.int l b],a=>
   simp only[Lit.wf,ax,aI]at a;split at a
   ·rename_i i;obtain⟨rfl,g,h⟩:=i;exact⟨[.int l b],gY.one (.int _ _),λv e=>by simp at e;subst e;exact⟨rfl,.int _ _⟩,rfl,b,rfl,g,h⟩
   grind
def vX(b:Bool)(a:List T):T:=if b=true then .agg a else Wy a
def FS{c:Bool}{a:List T}{d:Nat}(hl:a.length=d)(e:c=false->d=1)(f:∀g∈a,vZ g):(vX c a).cells=a:=by
 cases c with
 |true=>rfl
 |false=>
  have:=e rfl;subst this;obtain⟨b,rfl⟩:=List.length_eq_one_iff.1 hl;have h:=(f b dy).1;show T.cells b=[b];cases b<;>first|rfl|grind [T.scalar]
def mapM_some{j k:Type}(c:j->aa k):∀{a:List j} {d:List k},a.mapM c=some d->d.length=a.length/\∀(h:Nat) i,a[h]? =some i->∃e,d[h]? =some e/\c i=some e:=by
 intro a;induction a with
 |nil=>simp
 |cons l a m=>
  intro d b;rw[List.mapM_cons]at b;cases f:c l with
  |none=>rw[f]at b;grind
  |some e=>
   rw[f]at b;cases g:a.mapM c with
   |none=>rw[g]at b;grind
   |some n=>
    rw[g]at b
    grind
def Ec{f:World}{g d:Nat}{e:Addr}{c:List am}(b:f.cells? g e d=some c):c.length=d/\∀a,a<d->f.cell? (e.add a)=c[a]? :=by
 unfold World.cells? at b;split at b
 ·have⟨l,h⟩:=mapM_some _ b;refine⟨by grind,λa k=>?_⟩;have⟨m,i,j⟩:=h a a (by rw[List.getElem?_range k]);rw[i];exact j
 grind
def Jx{w:World}{a:Addr}{n:Nat}{d:am}(c:w.cell? (a.add n)=some d):∃b t fz,w.heap[a.block]? =some (.cells b t fz)/\b[a.off+n]? =some d:=by
 unfold World.cell? at c;have e:(a.add n).block=a.block:=by unfold Addr.add;split<;>rfl
 have f:(a.add n).off=a.off+n:=by unfold Addr.add;split<;>simp_all
 rw[e,f]at c
 grind
def cell_spot{d:World}{a:Addr}{c:am}(b:d.cell? a=some c):a.spot=none:=by
 unfold World.cell? at b;split at b
 ·simp_all
 grind
def Uu{b a c:Nat}(e:0<a)(d:b+(a-1)<c):b+a<=c:=J 
def UF{ag:Bool}{d:Nat}(g:ag=false->d=1):∀{a:List (List T)},(∀c∈a,c.length=d/\∀b∈c,vZ b)->(∀b∈a.map (vX ag),b.cells.length=d)/\fF (a.map (vX ag))=a.flatten:=by
 intro a;induction a with
 |nil=>intro _;exact⟨λb h=>by grind,rfl⟩
 |cons c a j=>
  intro e;have⟨m,n⟩:=j λk i=>e k (List.mem_cons_of_mem _ i);have f:=e c dy;have l:=FS f.1 g f.2;refine⟨λb h=>?_,?_⟩
  ·grind
  grind [ml]
def TU{y n G:Nat}{K:List T->Prop}(bH:P.underlying t=some (.slice y))(ea:P.cellsOf t=1)(c6:P.bytesOf y=G)(a8:Rd P y n K)(eC:1<=n)(ag:Bool)(ap:ag=false->n=1):
 Rd P t 1 λq=>∃es:List (List T),q=[sl (es.map (vX ag))]/\es.length*G<=140737488351232/\∀b∈es,K b:=by
 refine⟨ea,λH cL w W eh de ae cp d p h bN=>?_⟩;have ef:∀es:List (List T),(∀b∈es,b.length=n/\∀v∈b,vZ v)->vZ (sl (es.map (vX ag))):=by
  intro es N;cases es with
  |nil=>exact⟨rfl,.gW⟩
  |cons b es=>
   refine⟨rfl,.dK _ _ λv l=>?_⟩;obtain⟨x,s,rfl⟩:=List.mem_map.1 (show v∈(b::es).map (vX ag)from l);have aA:=N x s;cases ag with
   |true=>exact .agg _ λv l=>(aA.2 v l).2
   |false=>
    obtain⟨z,rfl⟩:=List.length_eq_one_iff.1 (aA.1.trans (ap rfl));exact(aA.2 z dy).2
 cases ae with
 |zero=>simp[DataW.trod]at h
 |succ ae=>
  unfold DataW.trod at h;rw[bH]at h
  match cp,h with
  | [.slice none 0 0],h=>exact⟨[sl []],gY.one (.gW _ _),λv l=>by simp at l;subst l;exact⟨rfl,.gW⟩,rfl,[],rfl,dy,λb c=>by simp at c⟩
  | [.slice (some a) F ca],h=>
   simp only at h;split at h
   ·rename_i O;obtain⟨ey,dv,eA⟩:=O;obtain⟨a6,dd,U⟩:=Option.bind_eq_some_iff.1 h;obtain⟨aX,_,U⟩:=Option.map_eq_some_iff.1 U;simp only[aB]at U;obtain⟨c9,_⟩:=U;obtain⟨hl,dk⟩:=mapM_some _ dd;have bS:d.weights P t=((a6.map (·.1)).length+(aX.map (·.1)).length)*P.bytesOf y::(DataW.weightsAll P y (a6.map (·.1))++DataW.weightsAll P y (aX.map (·.1))):=by
     rw[<-c9,DataW.weights,bH]
    have bu:F*G<=140737488351232:=by
     have D:=bN _ (by rw[bS];exact List.mem_cons_self ..);simp only[aG,hl,du,c6]at D;have L:F*G<=(F+aX.length)*G:=aV G J;have M:reachBytes=140737488351232:=rfl;omega
    have eo:∀(j:List (DataW H)) (x:DataW H),x∈j->∀b∈x.weights P y,b∈DataW.weightsAll P y j:=by
     intro j;induction j with
     |nil=>intro x s;simp at s
     |cons a j aE=>
      intro x s b c;rw[DataW.weightsAll];rcases List.mem_cons.1 s with rfl|s
      ·exact cZ _ c
      ·exact dw _ (aE x s b c)
    have ec:∀i,i<F->∃q:List T,∃j,w.cells? W (a.add (i*n)) n=some j/\gY w.heap nV q j/\(∀v∈q,vZ v)/\q.length=n/\K q:=by
     intro i hi;obtain⟨x,s,di⟩:=dk i i (by rw[List.getElem?_range hi]);obtain⟨j,bs,ds⟩:=Option.bind_eq_some_iff.1 di;obtain⟨X,bX⟩:=x;rw[a8.1]at bs;obtain⟨q,D,L,M,al⟩:=a8.2 H cL w W eh de ae j X bX ds λb c=>bN b (by
      rw[bS];exact List.mem_cons_of_mem _ (cZ _ (eo _ X (List.mem_map.2 ⟨(X,bX),ay s,rfl⟩) b c)))
     exact⟨q,j,bs,D,L,M,al⟩
    have b7:∀u,u<=F->∃es:List (List T),es.length=u/\∀i b,es[i]? =some b->∃j,w.cells? W (a.add (i*n)) n=some j/\gY w.heap nV b j/\(∀v∈b,vZ v)/\b.length=n/\K b:=by
     intro u;induction u with
     |zero=>intro _;exact⟨[],rfl,λi b c=>by simp at c⟩
     |succ u aE=>
      intro eB;obtain⟨es,E,I⟩:=aE J;obtain⟨q,j,eb⟩:=ec u J;refine⟨es++[q],by simp[E],λi b c=>?_⟩;rcases aQ i u with hi|hi
      ·rw[cv J]at c;exact I i b c
      ·have:i=u:=by
        rcases aQ u i with h|h
        ·rw[bQ (by simp[E];omega)]at c;simp at c
        ·omega
       subst this;rw[cY J,E]at c;simp at c;subst c;exact⟨j,eb⟩
    obtain⟨es,E,I⟩:=b7 F (au _);have N:∀b∈es,b.length=n/\∀v∈b,vZ v:=λb c=>by
     obtain⟨i,hi⟩:=cM c;obtain⟨j,_,_,L,M,_⟩:=I i b hi;exact⟨M,L⟩
    have c4:∀b∈es,K b:=λb c=>by
     obtain⟨i,hi⟩:=cM c;obtain⟨j,_,_,L,M,al⟩:=I i b hi;exact al
    refine⟨[sl (es.map (vX ag))],gY.one ?_,λv l=>by simp at l;subst l;exact ef es N,rfl,es,rfl,?_,c4⟩
    ·cases es with
     |nil=>
      simp at E;subst E;exact .gW _ _
     |cons f e=>
      obtain⟨R,et⟩:=UF (ag:=ag) ap N;obtain⟨l0,b8,r0,eF,eD,_⟩:=I 0 f rfl;have a7:=Ec b8;rw[Nat.zero_mul,show a.add 0=a by simp[Addr.add]]at a7;have av:=a7.2 0 J;have dn:0<l0.length:=J;rw[show a.add 0=a by simp[Addr.add],az dn]at av;have bC:=cell_spot av;obtain⟨B,ty,fz,O,_⟩:=Jx (w:=w) (a:=a) (n:=0) (by rw[show a.add 0=a by simp[Addr.add]];exact av);obtain⟨Q,off,eI⟩:=a;simp only at bC O;subst bC;have cb:∀i b o v,(f::e)[i]? =some b->b[o]? =some v->∃r,B[off+(i*n+o)]? =some r/\fI w.heap nV v r:=by
       intro i b o v c l;obtain⟨j,b9,r1,eH,eE,_⟩:=I i b c;have c7:=Ec b9;have S:o<n:=by
        rcases aQ o n with h|h
        ·exact h
        ·rw[bQ J]at l;simp at l
       have bB:o<j.length:=J;have D:=c7.2 o S;rw[az bB]at D;have cy:((⟨Q,off,none⟩:Addr).add (i*n)).add o=(⟨Q,off,none⟩:Addr).add (i*n+o):=by
        unfold Addr.add;by_cases aN:i*n=0
        ·simp[aN]
        ·by_cases b6:o=0
         ·subst b6;simp[aN]
         ·simp[aN,b6,cP]
       rw[cy]at D;obtain⟨er,eL,eu,m,C⟩:=Jx D;rw[show w.heap[Q]? =some (.cells B ty fz)from O]at m;simp only[ar,Obj.cells.injEq]at m;obtain⟨rfl,_,_⟩:=m;refine⟨_,C,?_⟩;have:=r1.2 o v l;rw[cS,az bB]at this;exact this
      have Y:∀k v,(fF ((f::e).map (vX ag)))[k]? =some v->∃r,B[off+k]? =some r/\fI w.heap nV v r/\vZ v:=by
       intro k v A;have dm:k<((f::e).map (vX ag)).length*n:=by
        rw[<-iu R];rcases aQ k (fF ((f::e).map (vX ag))).length with h|h
        ·exact h
        ·rw[bQ h]at A;simp at A
       have hi:k/n<(f::e).length:=by
        rw[Nat.div_lt_iff_lt_mul J];simpa using dm
       have c:(f::e)[k/n]? =some (f::e)[k/n]:=az hi;have V:=N _ (aD hi);have S:k% n<((f::e)[k/n]).length:=by rw[V.1];exact Nat.mod_lt _ J
       have bT:((f::e)[k/n])[k% n]? =some ((f::e)[k/n])[k% n]:=az S;have bi:=flat_get (es:=(f::e).map (vX ag)) R (i:=k/n) (k:=k% n) (v:=vX ag (f::e)[k/n]) (z:=((f::e)[k/n])[k% n]) (by rw[aW,c];rfl) (by rw[FS V.1 ap V.2];exact bT);have bn:k/n*n+k% n=k:=by rw[Nat.mul_comm];exact Nat.div_add_mod k n
       rw[bn]at bi;rw[bi]at A;simp only[ar]at A;obtain⟨r,m,C⟩:=cb _ _ _ _ c bT;rw[bn]at m;exact⟨r,m,A▸C,A▸V.2 _ (aD S)⟩
      have bu:e.length+1=F:=by simpa using E
      subst bu;show fI w.heap nV (.dK (vX ag f::e.map (vX ag)) false) _;have:=fI.dK (hp:=w.heap) (μ:=nV) (vX ag f) (e.map (vX ag)) false Q off ca n B ty fz (Ut _) O (by simpa using dv) dy R ?_ ?_ ?_
      ·simpa using this
      ·show off+(fF ((f::e).map (vX ag))).length<=B.size;have c1:0<(fF ((f::e).map (vX ag))).length:=by rw[iu R];exact Nat.mul_pos dy J
       obtain⟨r,m,_⟩:=Y ((fF ((f::e).map (vX ag))).length-1) _ (az J);have C:off+((fF ((f::e).map (vX ag))).length-1)<B.size:=by
        rcases aQ (off+((fF ((f::e).map (vX ag))).length-1)) B.size with an|an
        ·exact an
        ·rw[Array.getElem?_eq_none an]at m;simp at m
       exact Uu c1 C
      ·intro v l;obtain⟨i,hi⟩:=cM l;obtain⟨_,_,_,g⟩:=Y i v hi;exact g
      ·intro k v A;obtain⟨r,m,C,_⟩:=Y k v A;rw[cg,m];exact C
    grind
   grind
inductive RdF (P:ai):List Field->Nat->List (List T->Prop)->Prop where
 |nil (o:Nat):RdF P [] o []
 |cons (f:Field) (fs:List Field) (o n:Nat) (Q:List T->Prop) (Qs:List (List T->Prop)) (ho:f.offset=o) (h:Rd P f.type n Q) (r:RdF P fs (o+n) Qs):RdF P (f::fs) o (Q::Qs)
inductive RdP (P:ai):List (Nat×ab)->Nat->List (List T->Prop)->Prop where
 |nil (o:Nat):RdP P [] o []
 |cons (o t:Nat) (ps:List (Nat×ab)) (o' n:Nat) (Q:List T->Prop) (Qs:List (List T->Prop)) (ho:o=o') (h:Rd P t n Q) (r:RdP P ps (o'+n) Qs):RdP P ((o,t)::ps) o' (Q::Qs)
inductive O6:List (List T->Prop)->List T->Prop where
 |nil:O6 [] []
 |cons (Q:List T->Prop) (Qs:List (List T->Prop)) (a b:List T) (h:Q a) (r:O6 Qs b):O6 (Q::Qs) (a++b)
def PL{H:Type}{n:ab×am->H}{k:World}{m:Nat}{r:Nat->Bool}{p:Bool}{o:Nat}{c:List am}:∀{e:List Field} {b:Nat} {l:List (List T->Prop)},RdF P e b l->∀{s:List (DataW H×List MemPlace)},b<=c.length->
 (e.mapM λa=>DataW.trod n P k m r p o a.type ((c.drop a.offset).take (P.cellsOf a.type)))=some s->(∀d∈DataW.weightsEach P (e.map (·.type)) (s.map (·.1)),d<=reachBytes)->∃h:List T,∃g,gY k.heap nV h ((c.drop b).take g)/\(∀v∈h,vZ v)/\h.length=g/\O6 l h:=by
 intro e b l C;induction C with
 |nil b=>intro s y u _;exact⟨[],0,by simp[gY.nil],λv E=>by grind,rfl,.nil⟩
 |cons a e b j N l y u U G=>
  intro s Q f F;rw[List.mapM_cons]at f;cases q:DataW.trod n P k m r p o a.type ((c.drop a.offset).take (P.cellsOf a.type))with
  |none=>rw[q]at f;grind
  |some w=>
   rw[q]at f;cases hr:(e.mapM λa=>DataW.trod n P k m r p o a.type ((c.drop a.offset).take (P.cellsOf a.type)))with
   |none=>rw[hr]at f;grind
   |some M=>
    rw[hr]at f;simp at f;subst f;rw[u.1,y]at q;have z:∀d∈w.1.weights P a.type++DataW.weightsEach P (e.map (·.type)) (M.map (·.1)),d<=reachBytes:=by
     intro d i;exact F d (by simpa[DataW.weightsEach]using i)
    have⟨h,x,O,A,B⟩:=u.2 H n k m r p o _ w.1 w.2 q λd i=>z d (cZ _ i);have D:b+j<=c.length:=by
     have:=x.1;rw[A,List.length_take,List.length_drop]at this;omega
    have⟨L,g,I,R,S,K⟩:=G D hr λd i=>z d (dw _ i);refine⟨h++L,j+g,?_,λv E=>?_,by grind,.cons _ _ _ _ B K⟩
    ·have:=gY.append x I;rwa[show(c.drop b).take j++(c.drop (b+j)).take g=(c.drop b).take (j+g)by rw[List.take_add,cV]]at this
    grind
def PG{f:af Field}{e:Nat}{d:List (List T->Prop)}(k:P.underlying t=some (.struct f))(j:P.cellsOf t=e)(n:RdF P f.toList 0 d)(o:∀a,O6 d a->a.length=e):Rd P t e λa=>O6 d a:=by
 refine⟨j,λH w D s C y g u v B b p=>?_⟩;cases g with
 |zero=>simp[DataW.trod]at b
 |succ g=>
  unfold DataW.trod at b;rw[k]at b;simp only at b;split at b
  ·rename_i hl;obtain⟨E,q,c⟩:=Option.map_eq_some_iff.1 b;simp only[aB]at c;obtain⟨c,_⟩:=c;obtain⟨a,A,h,l,x,i⟩:=PL n (aw _) q λr z=>p r (by
    rw[<-c,DataW.weights,k];omega)
   have m:=o a i;refine⟨a,?_,l,m,i⟩;rw[List.drop_zero,bL (by rw[hl,j];omega)]at h;exact h
  grind
def Rd.imp{e:Nat}{b c:List T->Prop}(d:Rd P t e b)(v:∀a,b a->c a):Rd P t e c:=⟨d.1,λH i p f o l j g h n k m=>by
 have⟨a,q,r,s,u⟩:=d.2 H i p f o l j g h n k m
 grind⟩
def O6.GS{a:List T}(b:O6 [] a):a=[]:=by cases b;rfl
def O6.inv{c:List T->Prop}{d:List (List T->Prop)}{f:List T}(e:O6 (c::d) f):∃a b,f=a++b/\c a/\O6 d b:=by
 cases e with|cons _ _ a b e g=>grind
def Qj{e j:Type}{f:e->j}{p:e->Prop}:∀{b:List j},(∀d∈b,∃a,d=f a/\p a)->∃c:List e,b=c.map f/\∀a∈c,p a:=by
 intro b;induction b with
 |nil=>simp
 |cons d b k=>
  intro g;obtain⟨a,rfl,m⟩:=g d dy;obtain⟨c,rfl,l⟩:=k λi h=>g i (List.mem_cons_of_mem _ h);exact⟨a::c,rfl,λi h=>by grind⟩
def yM{ty:Ty}(a:vK P t ty):P.cellsOf t=ty.size:=by
 have⟨e,d,f,b,_,_,_,_,_,_,c,_⟩:=a.unfold;unfold Program.cellsOf;rw[b];exact c
def Ly{ty:Ty}(a:vK P t ty):P.bytesOf t=ty.bytes:=by
 have⟨e,d,f,b,_,_,_,_,_,_,_,c,_⟩:=a.unfold;unfold Program.bytesOf;rw[b];exact c
variable {cx:Ctx}{ty:Ty}
def PK(jq:jg P cx)(e:cx.ty t=some ty){c:ak}(h:ty.u= .int c)(g:ty.size=1):Rd P t 1 λf=>∃a:Int,f=[.int c a]/\(c.min<=a/\a<=c.max):=by
 have⟨i,d,b⟩:=kM (jq.ty _ _ e);rw[h]at b;exact(abC (by rw[d,xd b]) (by rw[yM (jq.ty _ _ e),g])).imp λf ⟨a,d,b⟩=>⟨a,d,b⟩
def PI(jq:jg P cx)(k:cx.ty t=some ty){g i:Nat}{l:Ty}(x:ty.u= .slice g)(v:ty.size=1)(w:cx.ty g=some l){d:Type}{h:d->List T}{p:d->Prop}(o:Rd P g i λc=>∃a,c=h a/\p a)(s:1<=i)(e:Bool)(n:e=false->i=1){f:d->T}(A:∀a,vX e (h a)=f a):
 Rd P t 1 λc=>∃b:List d,c=[sl (b.map f)]/\(b.length*l.bytes<=140737488351232/\∀a∈b,p a):=by
 have⟨y,m,j⟩:=kM (jq.ty _ _ k);rw[x]at j;refine(TU (by rw[m,lZ j]) (by rw[yM (jq.ty _ _ k),v]) (Ly (jq.ty _ _ w)) o s e n).imp ?_;rintro c ⟨z,rfl,hl,q⟩;obtain⟨b,rfl,r⟩:=Qj (f:=h) (p:=p) q;refine⟨b,?_,by grind,r⟩;rw[cO];congr 2;simp_all
def Xx:∀{b:List Field} {c:Nat} {e:List (Nat×ab)} {a:List (List T->Prop)},e=b.map (λd=>(d.offset,d.type))->RdP P e c a->RdF P b c a:=by
 intro b;induction b with
 |nil=>intro c e a f g;subst f;cases g;exact .nil _
 |cons d b k=>
  intro c e a f g;subst f;cases g with|cons _ _ _ _ l h a i j m=>exact .cons d b c l h a i j (k rfl m)
def Nz(jq:jg P cx)(d:cx.ty t=some ty){e:List (Nat×ab)}{n:Nat}{b:List (List T->Prop)}(k:ty.u= .struct e)(j:ty.size=n)(h:RdP P e 0 b)(i:∀a,O6 b a->a.length=n):Rd P t n λa=>O6 b a:=by
 have⟨l,f,c⟩:=kM (jq.ty _ _ d);rw[k]at c;obtain⟨m,rfl,g⟩:=r6 c;exact PG f (by rw[yM (jq.ty _ _ d),j]) (Xx g.1 h) i
end
def Lv{P:ai}{cx:Ctx}{d:aj}{j:Func}{c:Code}{l:List T}{g:af am}(q:P.funcs[d]? =some j)(v:(j.name== "runtime.NumGoroutine")=false)(a:j.body=some c)
 (w:lf P cx d l (.bool true)) (W:World) (s:∀n m,cx.gl n=some m->fI W.heap nV (.jH m) (.pointer (some ⟨n,0,none⟩))) (r:gY W.heap nV l g.toList):
 Calls P d g W λi k=>i= .returned (.bool true)/\RowKit.Below W.heap.size W k:=by
 have z:St cx W.heap.size W.heap nV ⟨0,0,[]⟩:=
  ⟨rfl,au _,λf e a=>by grind [nV],λf C e B a=>by simp[nV],λf e a=>by grind [nV],λf e a=>by simp[nV],λD hr=>hr.elim,s⟩
 have h:=w W.heap.size W nV g ⟨0,0,[]⟩ z r;rw[oG q v a]at h;have h:Calls P d g W λ
  | .returned p,A=>ry cx W.heap.size W nV ⟨0,0,[]⟩ (.bool true) ⟨0,0,[]⟩ p A
  |_,_=>False:=h
 refine h.mono λi k o=>?_;cases i with
 |returned p=>
  obtain⟨⟨G,y,E,b,F⟩,_⟩:=o;refine⟨by rw[y.qO],b.os,b.tape,b.output,b.ext.size,λx u=>(b.ext.nZ x u ?_).1⟩;rintro(⟨f,e,a,_⟩|hr)
  ·grind [nV]
  ·exact hr
 |_=>exact o.elim
def Il{e:af Obj}{a:List T}{b:am}(f:gY e nV a b.cells.toList)(g:∀c∈a,vZ c)(h:∃d,b= .agg d):fI e nV (.agg a) b:=by
 obtain⟨d,rfl⟩:=h;exact fI.ym f λc i=>(g c i).1
def PD{d:af Obj}{e:T}{a:am}(b:gY d nV [e] a.cells.toList)(f:a.cells= #[a]):fI d nV e a:=by
 rw[f]at b;have⟨g,h,c,hr,_⟩:=b.mB;simp at c;rw[c.1];exact hr
