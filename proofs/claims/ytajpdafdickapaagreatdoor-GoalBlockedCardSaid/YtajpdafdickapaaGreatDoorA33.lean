/- TiArg -/
import Derived.Test.YtajpdafdickapaaGreatDoorA32
import Derived.Test.YtajpdafdickapaaGreatDoorA6
set_option linter.all false
namespace Go.TI
noncomputable section
section
def Tu(a:Nat):¬nN nQ a:=by
 rintro(⟨c,b,d,_⟩|hr)
 ·grind [nQ]
 ·exact hr
def Rd(P:ai)(t d:Nat)(f:List T->Prop):Prop:=P.cellsOf t=d/\∀(H:Type) (h:ab×ao->H) (e:World) (g:Nat) (l:Nat->Bool) (j:Bool) (i:Nat) (b:List ao) (c:DataW H) (k:List MemPlace),
 DataW.trod h P e g l j i t b=some (c,k)->(∀n∈c.weights P t,n<=reachBytes)->∃a,gU e.heap nQ a b/\(∀m∈a,vM m)/\a.length=d/\f a
section
variable {P:ai}{t:Nat}
def gU.one{b:af Obj}{d:Mu}{c:T}{a:ao}(h:fI b d c a):gU b d [c] [a]:=gU.cons h gU.nil
def aaQ{c:ak}(k:P.underlying t=some (.int c))(j:P.cellsOf t=1):Rd P t 1 λm=>∃b,m=[.int c b]/\c.min<=b/\b<=c.max:=by
 refine⟨j,λH p w n u q d f o s a r=>?_⟩;cases d with
 |zero=>simp[DataW.trod]at a
 |succ d=>
  unfold DataW.trod at a;rw[k]at a
  match f,a with
  | [.int l b],a=>
   simp only[Lit.wf,aB,aO]at a;split at a
   ·rename_i i;obtain⟨rfl,g,h⟩:=i;exact⟨[.int l b],gU.one (.int _ _),λv e=>by simp at e;subst e;exact⟨rfl,.int _ _⟩,rfl,b,rfl,g,h⟩
   grind
def vI(b:Bool)(a:List T):T:=if b=true then .agg a else VD a
def FM{c:Bool}{a:List T}{d:Nat}(hl:a.length=d)(e:c=false->d=1)(f:∀g∈a,vM g):(vI c a).cells=a:=by
 cases c with
 |true=>rfl
 |false=>
  have:=e rfl;subst this;obtain⟨b,rfl⟩:=List.length_eq_one_iff.1 hl;have h:=(f b dy).1;show T.cells b=[b];cases b<;>first|rfl|grind [T.scalar]
def mapM_some{j k:Type}(c:j->aa k):∀{a:List j} {d:List k},a.mapM c=some d->d.length=a.length/\∀(h:Nat) i,a[h]? =some i->∃e,d[h]? =some e/\c i=some e:=by
 intro a;induction a with
 |nil=>simp
 |cons l a m=>
  intro d b;rw[List.mapM_cons]at b;cases f:c l with
  |none=>rw[f]at b;grind
  |some e=>
   rw[f]at b;cases g:a.mapM c with
   |none=>rw[g]at b;grind
   |some n=>
    rw[g]at b
    grind
def Eq{f:World}{g d:Nat}{e:Addr}{c:List ao}(b:f.cells? g e d=some c):c.length=d/\∀a,a<d->f.cell? (e.add a)=c[a]? :=by
 unfold World.cells? at b;split at b
 ·have⟨l,h⟩:=mapM_some _ b;refine⟨by grind,λa k=>?_⟩;have⟨m,i,j⟩:=h a a (by rw[List.getElem?_range k]);rw[i];exact j
 grind
def I6{w:World}{a:Addr}{n:Nat}{d:ao}(c:w.cell? (a.add n)=some d):∃b t fz,w.heap[a.block]? =some (.cells b t fz)/\b[a.off+n]? =some d:=by
 unfold World.cell? at c;have e:(a.add n).block=a.block:=by unfold Addr.add;split<;>rfl
 have f:(a.add n).off=a.off+n:=by unfold Addr.add;split<;>simp_all
 rw[e,f]at c
 grind
def cell_spot{d:World}{a:Addr}{c:ao}(b:d.cell? a=some c):a.spot=none:=by
 unfold World.cell? at b;split at b
 ·simp_all
 grind
def Tx{b a c:Nat}(e:0<a)(d:b+(a-1)<c):b+a<=c:=J 
def TL{ag:Bool}{d:Nat}(g:ag=false->d=1):∀{a:List (List T)},(∀c∈a,c.length=d/\∀b∈c,vM b)->(∀b∈a.map (vI ag),b.cells.length=d)/\fF (a.map (vI ag))=a.flatten:=by
 intro a;induction a with
 |nil=>intro _;exact⟨λb h=>by grind,rfl⟩
 |cons c a j=>
  intro e;have⟨m,n⟩:=j λk i=>e k (List.mem_cons_of_mem _ i);have f:=e c dy;have l:=FM f.1 g f.2;refine⟨λb h=>?_,?_⟩
  ·grind
  grind [mg]
def SK{y n G:Nat}{K:List T->Prop}(bH:P.underlying t=some (.slice y))(ec:P.cellsOf t=1)(c9:P.bytesOf y=G)(a8:Rd P y n K)(eE:1<=n)(ag:Bool)(ap:ag=false->n=1):
 Rd P t 1 λq=>∃es:List (List T),q=[sl (es.map (vI ag))]/\es.length*G<=140737488351232/\∀b∈es,K b:=by
 refine⟨ec,λH c4 w W er dk ae cL d p h bN=>?_⟩;have eo:∀es:List (List T),(∀b∈es,b.length=n/\∀v∈b,vM v)->vM (sl (es.map (vI ag))):=by
  intro es N;cases es with
  |nil=>exact⟨rfl,.gX⟩
  |cons b es=>
   refine⟨rfl,.dK _ _ λv l=>?_⟩;obtain⟨x,s,rfl⟩:=List.mem_map.1 (show v∈(b::es).map (vI ag)from l);have aA:=N x s;cases ag with
   |true=>exact .agg _ λv l=>(aA.2 v l).2
   |false=>
    obtain⟨z,rfl⟩:=List.length_eq_one_iff.1 (aA.1.trans (ap rfl));exact(aA.2 z dy).2
 cases ae with
 |zero=>simp[DataW.trod]at h
 |succ ae=>
  unfold DataW.trod at h;rw[bH]at h
  match cL,h with
  | [.slice none 0 0],h=>exact⟨[sl []],gU.one (.gX _ _),λv l=>by simp at l;subst l;exact⟨rfl,.gX⟩,rfl,[],rfl,dy,λb c=>by simp at c⟩
  | [.slice (some a) F cb],h=>
   simp only at h;split at h
   ·rename_i O;obtain⟨eB,eb,eC⟩:=O;obtain⟨a6,di,U⟩:=Option.bind_eq_some_iff.1 h;obtain⟨aX,_,U⟩:=Option.map_eq_some_iff.1 U;simp only[aD]at U;obtain⟨de,_⟩:=U;obtain⟨hl,dn⟩:=mapM_some _ di;have bS:d.weights P t=((a6.map (·.1)).length+(aX.map (·.1)).length)*P.bytesOf y::(DataW.weightsAll P y (a6.map (·.1))++DataW.weightsAll P y (aX.map (·.1))):=by
     rw[<-de,DataW.weights,bH]
    have bu:F*G<=140737488351232:=by
     have D:=bN _ (by rw[bS];exact List.mem_cons_self ..);simp only[aH,hl,List.length_range,c9]at D;have L:F*G<=(F+aX.length)*G:=aW G J;have M:reachBytes=140737488351232:=rfl;omega
    have et:∀(j:List (DataW H)) (x:DataW H),x∈j->∀b∈x.weights P y,b∈DataW.weightsAll P y j:=by
     intro j;induction j with
     |nil=>intro x s;simp at s
     |cons a j aE=>
      intro x s b c;rw[DataW.weightsAll];rcases List.mem_cons.1 s with rfl|s
      ·exact cW _ c
      ·exact dw _ (aE x s b c)
    have eh:∀i,i<F->∃q:List T,∃j,w.cells? W (a.add (i*n)) n=some j/\gU w.heap nQ q j/\(∀v∈q,vM v)/\q.length=n/\K q:=by
     intro i hi;obtain⟨x,s,dm⟩:=dn i i (by rw[List.getElem?_range hi]);obtain⟨j,bs,ea⟩:=Option.bind_eq_some_iff.1 dm;obtain⟨X,b6⟩:=x;rw[a8.1]at bs;obtain⟨q,D,L,M,al⟩:=a8.2 H c4 w W er dk ae j X b6 ea λb c=>bN b (by
      rw[bS];exact List.mem_cons_of_mem _ (cW _ (et _ X (List.mem_map.2 ⟨(X,b6),ay s,rfl⟩) b c)))
     exact⟨q,j,bs,D,L,M,al⟩
    have b8:∀u,u<=F->∃es:List (List T),es.length=u/\∀i b,es[i]? =some b->∃j,w.cells? W (a.add (i*n)) n=some j/\gU w.heap nQ b j/\(∀v∈b,vM v)/\b.length=n/\K b:=by
     intro u;induction u with
     |zero=>intro _;exact⟨[],rfl,λi b c=>by simp at c⟩
     |succ u aE=>
      intro eD;obtain⟨es,E,I⟩:=aE J;obtain⟨q,j,ef⟩:=eh u J;refine⟨es++[q],by simp[E],λi b c=>?_⟩;rcases aR i u with hi|hi
      ·rw[cK J]at c;exact I i b c
      ·have:i=u:=by
        rcases aR u i with h|h
        ·rw[bK (by simp[E];omega)]at c;simp at c
        ·omega
       subst this;rw[cV J,E]at c;simp at c;subst c;exact⟨j,ef⟩
    obtain⟨es,E,I⟩:=b8 F (aw _);have N:∀b∈es,b.length=n/\∀v∈b,vM v:=λb c=>by
     obtain⟨i,hi⟩:=cF c;obtain⟨j,_,_,L,M,_⟩:=I i b hi;exact⟨M,L⟩
    have c7:∀b∈es,K b:=λb c=>by
     obtain⟨i,hi⟩:=cF c;obtain⟨j,_,_,L,M,al⟩:=I i b hi;exact al
    refine⟨[sl (es.map (vI ag))],gU.one ?_,λv l=>by simp at l;subst l;exact eo es N,rfl,es,rfl,?_,c7⟩
    ·cases es with
     |nil=>
      simp at E;subst E;exact .gX _ _
     |cons f e=>
      obtain⟨R,ey⟩:=TL (ag:=ag) ap N;obtain⟨l0,b9,r0,eI,eF,_⟩:=I 0 f rfl;have a7:=Eq b9;rw[Nat.zero_mul,show a.add 0=a by simp[Addr.add]]at a7;have av:=a7.2 0 J;have dv:0<l0.length:=J;rw[show a.add 0=a by simp[Addr.add],az dv]at av;have bC:=cell_spot av;obtain⟨B,ty,fz,O,_⟩:=I6 (w:=w) (a:=a) (n:=0) (by rw[show a.add 0=a by simp[Addr.add]];exact av);obtain⟨Q,off,eM⟩:=a;simp only at bC O;subst bC;have cp:∀i b o v,(f::e)[i]? =some b->b[o]? =some v->∃r,B[off+(i*n+o)]? =some r/\fI w.heap nQ v r:=by
       intro i b o v c l;obtain⟨j,ca,r1,eL,eH,_⟩:=I i b c;have dd:=Eq ca;have S:o<n:=by
        rcases aR o n with h|h
        ·exact h
        ·rw[bK J]at l;simp at l
       have bB:o<j.length:=J;have D:=dd.2 o S;rw[az bB]at D;have c1:((⟨Q,off,none⟩:Addr).add (i*n)).add o=(⟨Q,off,none⟩:Addr).add (i*n+o):=by
        unfold Addr.add;by_cases aN:i*n=0
        ·simp[aN]
        ·by_cases b7:o=0
         ·subst b7;simp[aN]
         ·simp[aN,b7,cJ]
       rw[c1]at D;obtain⟨eu,eN,eA,m,C⟩:=I6 D;rw[show w.heap[Q]? =some (.cells B ty fz)from O]at m;simp only[au,Obj.cells.injEq]at m;obtain⟨rfl,_,_⟩:=m;refine⟨_,C,?_⟩;have:=r1.2 o v l;rw[cE,az bB]at this;exact this
      have Y:∀k v,(fF ((f::e).map (vI ag)))[k]? =some v->∃r,B[off+k]? =some r/\fI w.heap nQ v r/\vM v:=by
       intro k v A;have ds:k<((f::e).map (vI ag)).length*n:=by
        rw[<-iu R];rcases aR k (fF ((f::e).map (vI ag))).length with h|h
        ·exact h
        ·rw[bK h]at A;simp at A
       have hi:k/n<(f::e).length:=by
        rw[Nat.div_lt_iff_lt_mul J];simpa using ds
       have c:(f::e)[k/n]? =some (f::e)[k/n]:=az hi;have V:=N _ (aF hi);have S:k% n<((f::e)[k/n]).length:=by rw[V.1];exact Nat.mod_lt _ J
       have bT:((f::e)[k/n])[k% n]? =some ((f::e)[k/n])[k% n]:=az S;have bi:=flat_get (es:=(f::e).map (vI ag)) R (i:=k/n) (k:=k% n) (v:=vI ag (f::e)[k/n]) (z:=((f::e)[k/n])[k% n]) (by rw[aS,c];rfl) (by rw[FM V.1 ap V.2];exact bT);have bn:k/n*n+k% n=k:=by rw[Nat.mul_comm];exact Nat.div_add_mod k n
       rw[bn]at bi;rw[bi]at A;simp only[au]at A;obtain⟨r,m,C⟩:=cp _ _ _ _ c bT;rw[bn]at m;exact⟨r,m,A▸C,A▸V.2 _ (aF S)⟩
      have bu:e.length+1=F:=by simpa using E
      subst bu;show fI w.heap nQ (.dK (vI ag f::e.map (vI ag)) false) _;have:=fI.dK (hp:=w.heap) (μ:=nQ) (vI ag f) (e.map (vI ag)) false Q off cb n B ty fz (Tu _) O (by simpa using eb) dy R ?_ ?_ ?_
      ·simpa using this
      ·show off+(fF ((f::e).map (vI ag))).length<=B.size;have c6:0<(fF ((f::e).map (vI ag))).length:=by rw[iu R];exact Nat.mul_pos dy J
       obtain⟨r,m,_⟩:=Y ((fF ((f::e).map (vI ag))).length-1) _ (az J);have C:off+((fF ((f::e).map (vI ag))).length-1)<B.size:=by
        rcases aR (off+((fF ((f::e).map (vI ag))).length-1)) B.size with an|an
        ·exact an
        ·rw[Array.getElem?_eq_none an]at m;simp at m
       exact Tx c6 C
      ·intro v l;obtain⟨i,hi⟩:=cF l;obtain⟨_,_,_,g⟩:=Y i v hi;exact g
      ·intro k v A;obtain⟨r,m,C,_⟩:=Y k v A;rw[bP,m];exact C
    grind
   grind
inductive Zx (P:ai):List Field->Nat->List (List T->Prop)->Prop where
 |nil (o:Nat):Zx P [] o []
 |cons (f:Field) (fs:List Field) (o n:Nat) (Q:List T->Prop) (Qs:List (List T->Prop)) (ho:f.offset=o) (h:Rd P f.type n Q) (r:Zx P fs (o+n) Qs):Zx P (f::fs) o (Q::Qs)
inductive RdP (P:ai):List (Nat×ab)->Nat->List (List T->Prop)->Prop where
 |nil (o:Nat):RdP P [] o []
 |cons (o t:Nat) (ps:List (Nat×ab)) (o' n:Nat) (Q:List T->Prop) (Qs:List (List T->Prop)) (ho:o=o') (h:Rd P t n Q) (r:RdP P ps (o'+n) Qs):RdP P ((o,t)::ps) o' (Q::Qs)
inductive Oh:List (List T->Prop)->List T->Prop where
 |nil:Oh [] []
 |cons (Q:List T->Prop) (Qs:List (List T->Prop)) (a b:List T) (h:Q a) (r:Oh Qs b):Oh (Q::Qs) (a++b)
def O6{H:Type}{n:ab×ao->H}{k:World}{m:Nat}{r:Nat->Bool}{p:Bool}{o:Nat}{c:List ao}:∀{e:List Field} {b:Nat} {l:List (List T->Prop)},Zx P e b l->∀{s:List (DataW H×List MemPlace)},b<=c.length->
 (e.mapM λa=>DataW.trod n P k m r p o a.type ((c.drop a.offset).take (P.cellsOf a.type)))=some s->(∀d∈DataW.weightsEach P (e.map (·.type)) (s.map (·.1)),d<=reachBytes)->∃h:List T,∃g,gU k.heap nQ h ((c.drop b).take g)/\(∀v∈h,vM v)/\h.length=g/\Oh l h:=by
 intro e b l C;induction C with
 |nil b=>intro s y u _;exact⟨[],0,by simp[gU.nil],λv E=>by grind,rfl,.nil⟩
 |cons a e b j N l y u U G=>
  intro s Q f F;rw[List.mapM_cons]at f;cases q:DataW.trod n P k m r p o a.type ((c.drop a.offset).take (P.cellsOf a.type))with
  |none=>rw[q]at f;grind
  |some w=>
   rw[q]at f;cases hr:(e.mapM λa=>DataW.trod n P k m r p o a.type ((c.drop a.offset).take (P.cellsOf a.type)))with
   |none=>rw[hr]at f;grind
   |some M=>
    rw[hr]at f;simp at f;subst f;rw[u.1,y]at q;have z:∀d∈w.1.weights P a.type++DataW.weightsEach P (e.map (·.type)) (M.map (·.1)),d<=reachBytes:=by
     intro d i;exact F d (by simpa[DataW.weightsEach]using i)
    have⟨h,x,O,A,B⟩:=u.2 H n k m r p o _ w.1 w.2 q λd i=>z d (cW _ i);have D:b+j<=c.length:=by
     have:=x.1;rw[A,List.length_take,List.length_drop]at this;omega
    have⟨L,g,I,R,S,K⟩:=G D hr λd i=>z d (dw _ i);refine⟨h++L,j+g,?_,λv E=>?_,by grind,.cons _ _ _ _ B K⟩
    ·have:=gU.append x I;rwa[show(c.drop b).take j++(c.drop (b+j)).take g=(c.drop b).take (j+g)by rw[List.take_add,cS]]at this
    grind
def OZ{f:af Field}{e:Nat}{d:List (List T->Prop)}(k:P.underlying t=some (.struct f))(j:P.cellsOf t=e)(n:Zx P f.toList 0 d)(o:∀a,Oh d a->a.length=e):Rd P t e λa=>Oh d a:=by
 refine⟨j,λH w D s C y g u v B b p=>?_⟩;cases g with
 |zero=>simp[DataW.trod]at b
 |succ g=>
  unfold DataW.trod at b;rw[k]at b;simp only at b;split at b
  ·rename_i hl;obtain⟨E,q,c⟩:=Option.map_eq_some_iff.1 b;simp only[aD]at c;obtain⟨c,_⟩:=c;obtain⟨a,A,h,l,x,i⟩:=O6 n (ax _) q λr z=>p r (by
    rw[<-c,DataW.weights,k];omega)
   have m:=o a i;refine⟨a,?_,l,m,i⟩;rw[List.drop_zero,bJ (by rw[hl,j];omega)]at h;exact h
  grind
def Rd.imp{e:Nat}{b c:List T->Prop}(d:Rd P t e b)(v:∀a,b a->c a):Rd P t e c:=⟨d.1,λH i p f o l j g h n k m=>by
 have⟨a,q,r,s,u⟩:=d.2 H i p f o l j g h n k m
 grind⟩
def Oh.Gx{a:List T}(b:Oh [] a):a=[]:=by cases b;rfl
def Oh.inv{c:List T->Prop}{d:List (List T->Prop)}{f:List T}(e:Oh (c::d) f):∃a b,f=a++b/\c a/\Oh d b:=by
 cases e with|cons _ _ a b e g=>grind
def PA{e j:Type}{f:e->j}{p:e->Prop}:∀{b:List j},(∀d∈b,∃a,d=f a/\p a)->∃c:List e,b=c.map f/\∀a∈c,p a:=by
 intro b;induction b with
 |nil=>simp
 |cons d b k=>
  intro g;obtain⟨a,rfl,m⟩:=g d dy;obtain⟨c,rfl,l⟩:=k λi h=>g i (List.mem_cons_of_mem _ h);exact⟨a::c,rfl,λi h=>by grind⟩
def yD{ty:Ty}(a:vm P t ty):P.cellsOf t=ty.size:=by
 have⟨e,d,f,b,_,_,_,_,_,_,c,_⟩:=a.unfold;unfold Program.cellsOf;rw[b];exact c
def KY{ty:Ty}(a:vm P t ty):P.bytesOf t=ty.bytes:=by
 have⟨e,d,f,b,_,_,_,_,_,_,_,c,_⟩:=a.unfold;unfold Program.bytesOf;rw[b];exact c
variable {cx:Ctx}{ty:Ty}
def Wp(jq:jg P cx)(e:cx.ty t=some ty){c:ak}(h:ty.u= .int c)(g:ty.size=1):Rd P t 1 λf=>∃a:Int,f=[.int c a]/\(c.min<=a/\a<=c.max):=by
 have⟨i,d,b⟩:=kM (jq.ty _ _ e);rw[h]at b;exact(aaQ (by rw[d,wY b]) (by rw[yD (jq.ty _ _ e),g])).imp λf ⟨a,d,b⟩=>⟨a,d,b⟩
def O0(jq:jg P cx)(k:cx.ty t=some ty){g i:Nat}{l:Ty}(x:ty.u= .slice g)(v:ty.size=1)(w:cx.ty g=some l){d:Type}{h:d->List T}{p:d->Prop}(o:Rd P g i λc=>∃a,c=h a/\p a)(s:1<=i)(e:Bool)(n:e=false->i=1){f:d->T}(A:∀a,vI e (h a)=f a):
 Rd P t 1 λc=>∃b:List d,c=[sl (b.map f)]/\(b.length*l.bytes<=140737488351232/\∀a∈b,p a):=by
 have⟨y,m,j⟩:=kM (jq.ty _ _ k);rw[x]at j;refine(SK (by rw[m,lV j]) (by rw[yD (jq.ty _ _ k),v]) (KY (jq.ty _ _ w)) o s e n).imp ?_;rintro c ⟨z,rfl,hl,q⟩;obtain⟨b,rfl,r⟩:=PA (f:=h) (p:=p) q;refine⟨b,?_,by grind,r⟩;rw[cI];congr 2;simp_all
def Wq:∀{b:List Field} {c:Nat} {e:List (Nat×ab)} {a:List (List T->Prop)},e=b.map (λd=>(d.offset,d.type))->RdP P e c a->Zx P b c a:=by
 intro b;induction b with
 |nil=>intro c e a f g;subst f;cases g;exact .nil _
 |cons d b k=>
  intro c e a f g;subst f;cases g with|cons _ _ _ _ l h a i j m=>exact .cons d b c l h a i j (k rfl m)
def MY(jq:jg P cx)(d:cx.ty t=some ty){e:List (Nat×ab)}{n:Nat}{b:List (List T->Prop)}(k:ty.u= .struct e)(j:ty.size=n)(h:RdP P e 0 b)(i:∀a,Oh b a->a.length=n):Rd P t n λa=>Oh b a:=by
 have⟨l,f,c⟩:=kM (jq.ty _ _ d);rw[k]at c;obtain⟨m,rfl,g⟩:=rY c;exact OZ f (by rw[yD (jq.ty _ _ d),j]) (Wq g.1 h) i
end
def KV{P:ai}{cx:Ctx}{d:aj}{j:Func}{c:Code}{l:List T}{g:af ao}(q:P.funcs[d]? =some j)(v:(j.name== "runtime.NumGoroutine")=false)(a:j.body=some c)
 (w:lh P cx d l (.bool true)) (W:World) (s:∀n m,cx.gl n=some m->fI W.heap nQ (.jD m) (.pointer (some ⟨n,0,none⟩))) (r:gU W.heap nQ l g.toList):
 Calls P d g W λi k=>i= .returned (.bool true)/\RowKit.Below W.heap.size W k:=by
 have z:St cx W.heap.size W.heap nQ ⟨0,0,[]⟩:=
  ⟨rfl,aw _,λf e a=>by grind [nQ],λf C e B a=>by simp[nQ],λf e a=>by grind [nQ],λf e a=>by simp[nQ],λD hr=>hr.elim,s⟩
 have h:=w W.heap.size W nQ g ⟨0,0,[]⟩ z r;rw[ou q v a]at h;have h:Calls P d g W λ
  | .returned p,A=>rh cx W.heap.size W nQ ⟨0,0,[]⟩ (.bool true) ⟨0,0,[]⟩ p A
  |_,_=>False:=h
 refine h.mono λi k o=>?_;cases i with
 |returned p=>
  obtain⟨⟨G,y,E,b,F⟩,_⟩:=o;refine⟨by rw[y.qH],b.os,b.tape,b.output,b.ext.size,λx u=>(b.ext.nU x u ?_).1⟩;rintro(⟨f,e,a,_⟩|hr)
  ·grind [nQ]
  ·exact hr
 |_=>exact o.elim
def HT{e:af Obj}{a:List T}{b:ao}(f:gU e nQ a b.cells.toList)(g:∀c∈a,vM c)(h:∃d,b= .agg d):fI e nQ (.agg a) b:=by
 obtain⟨d,rfl⟩:=h;exact fI.x7 f λc i=>(g c i).1
def OW{d:af Obj}{e:T}{a:ao}(b:gU d nQ [e] a.cells.toList)(f:a.cells= #[a]):fI d nQ e a:=by
 rw[f]at b;have⟨g,h,c,hr,_⟩:=b.mt;simp at c;rw[c.1];exact hr
