/- TiArg -/
import Derived.Test.YtbappgeamhmmbaaGreatDoorA37
import Derived.Test.YtbappgeamhmmbaaGreatDoorA7
set_option linter.all false
namespace Go.TI
noncomputable section
section
def Q8(a:Nat):¬mR nz a:=by
 rintro(⟨c,b,d,_⟩|hr)
 ·grind [nz]
 ·exact hr
def Rd(P:ai)(t d:Nat)(f:List T->Prop):Prop:=P.cellsOf t=d/\∀(H:Type) (h:ab×am->H) (e:World) (g:Nat) (l:Nat->Bool) (j:Bool) (i:Nat) (b:List am) (c:DataW H) (k:List MemPlace),
 DataW.trod h P e g l j i t b=some (c,k)->(∀n∈c.weights P t,n<=reachBytes)->∃a,fX e.heap nz a b/\(∀m∈a,uC m)/\a.length=d/\f a
section
variable {P:ai}{t:Nat}
def fX.one{b:af Obj}{d:Mu}{c:T}{a:am}(h:eK b d c a):fX b d [c] [a]:=fX.cons h fX.nil
def ZS{c:ak}(k:P.underlying t=some (.int c))(j:P.cellsOf t=1):Rd P t 1 λm=>∃b,m=[.int c b]/\c.min<=b/\b<=c.max:=by
 refine⟨j,λH p w n u q d f o s a r=>?_⟩;cases d with
 |zero=>simp[DataW.trod]at a
 |succ d=>
  unfold DataW.trod at a;rw[k]at a
  match f,a with
  | [.int l b],a=>
   simp only[Lit.wf,az,aL]at a;split at a
   ·rename_i i;obtain⟨rfl,g,h⟩:=i;exact⟨[.int l b],fX.one (.int _ _),λv e=>by simp at e;subst e;exact⟨rfl,.int _ _⟩,rfl,b,rfl,g,h⟩
   grind
def uz(b:Bool)(a:List T):T:=if b=true then .agg a else Ui a
def D1{c:Bool}{a:List T}{d:Nat}(hl:a.length=d)(e:c=false->d=1)(f:∀g∈a,uC g):(uz c a).cells=a:=by
 cases c with
 |true=>rfl
 |false=>
  have:=e rfl;subst this;obtain⟨b,rfl⟩:=List.length_eq_one_iff.1 hl;have h:=(f b J).1;show T.cells b=[b];cases b<;>first|rfl|grind [T.scalar]
def mapM_some{j k:Type}(c:j->aa k):∀{a:List j} {d:List k},a.mapM c=some d->d.length=a.length/\∀(h:Nat) i,a[h]? =some i->∃e,d[h]? =some e/\c i=some e:=by
 intro a;induction a with
 |nil=>simp
 |cons l a m=>
  intro d b;rw[List.mapM_cons]at b;cases f:c l with
  |none=>rw[f]at b;grind
  |some e=>
   rw[f]at b;cases g:a.mapM c with
   |none=>rw[g]at b;grind
   |some n=>
    rw[g]at b
    grind
def CN{f:World}{g d:Nat}{e:Addr}{c:List am}(b:f.cells? g e d=some c):c.length=d/\∀a,a<d->f.cell? (e.add a)=c[a]? :=by
 unfold World.cells? at b;split at b
 ·have⟨l,h⟩:=mapM_some _ b;refine⟨by grind,λa k=>?_⟩;have⟨m,i,j⟩:=h a a (by rw[List.getElem?_range k]);rw[i];exact j
 grind
def Hl{w:World}{a:Addr}{n:Nat}{d:am}(c:w.cell? (a.add n)=some d):∃b t fz,w.heap[a.block]? =some (.cells b t fz)/\b[a.off+n]? =some d:=by
 unfold World.cell? at c;have e:(a.add n).block=a.block:=by unfold Addr.add;split<;>rfl
 have f:(a.add n).off=a.off+n:=by unfold Addr.add;split<;>simp_all
 rw[e,f]at c
 grind
def cell_spot{d:World}{a:Addr}{c:am}(b:d.cell? a=some c):a.spot=none:=by
 unfold World.cell? at b;split at b
 ·simp_all
 grind
def Rb{b a c:Nat}(e:0<a)(d:b+(a-1)<c):b+a<=c:=B 
def Rl{ag:Bool}{d:Nat}(g:ag=false->d=1):∀{a:List (List T)},(∀c∈a,c.length=d/\∀b∈c,uC b)->(∀b∈a.map (uz ag),b.cells.length=d)/\eY (a.map (uz ag))=a.flatten:=by
 intro a;induction a with
 |nil=>intro _;exact⟨λb h=>by grind,rfl⟩
 |cons c a j=>
  intro e;have⟨m,n⟩:=j λk i=>e k (List.mem_cons_of_mem _ i);have f:=e c J;have l:=D1 f.1 g f.2;refine⟨λb h=>?_,?_⟩
  ·grind
  grind [lz]
def QA{y n K:Nat}{M:List T->Prop}(bN:P.underlying t=some (.slice y))(ec:P.cellsOf t=1)(c9:P.bytesOf y=K)(bn:Rd P y n M)(eE:1<=n)(ag:Bool)(aE:ag=false->n=1):
 Rd P t 1 λq=>∃es:List (List T),q=[sl (es.map (uz ag))]/\es.length*K<=140737488351232/\∀b∈es,M b:=by
 refine⟨ec,λH c4 w ae er dk ap cL d p h bS=>?_⟩;have eo:∀es:List (List T),(∀b∈es,b.length=n/\∀v∈b,uC v)->uC (sl (es.map (uz ag))):=by
  intro es Q;cases es with
  |nil=>exact⟨rfl,.fK⟩
  |cons b es=>
   refine⟨rfl,.Y _ _ λv l=>?_⟩;obtain⟨x,s,rfl⟩:=List.mem_map.1 (show v∈(b::es).map (uz ag)from l);have aX:=Q x s;cases ag with
   |true=>exact .agg _ λv l=>(aX.2 v l).2
   |false=>
    obtain⟨z,rfl⟩:=List.length_eq_one_iff.1 (aX.1.trans (aE rfl));exact(aX.2 z J).2
 cases ap with
 |zero=>simp[DataW.trod]at h
 |succ ap=>
  unfold DataW.trod at h;rw[bN]at h
  match cL,h with
  | [.slice none 0 0],h=>exact⟨[sl []],fX.one (.fK _ _),λv l=>by simp at l;subst l;exact⟨rfl,.fK⟩,rfl,[],rfl,J,λb c=>by simp at c⟩
  | [.slice (some a) I ce],h=>
   simp only at h;split at h
   ·rename_i R;obtain⟨eB,eb,eC⟩:=R;obtain⟨bk,di,W⟩:=Option.bind_eq_some_iff.1 h;obtain⟨bi,_,W⟩:=Option.map_eq_some_iff.1 W;simp only[aB]at W;obtain⟨de,_⟩:=W;obtain⟨hl,dn⟩:=mapM_some _ di;have bT:d.weights P t=((bk.map (·.1)).length+(bi.map (·.1)).length)*P.bytesOf y::(DataW.weightsAll P y (bk.map (·.1))++DataW.weightsAll P y (bi.map (·.1))):=by
     rw[<-de,DataW.weights,bN]
    have bB:I*K<=140737488351232:=by
     have F:=bS _ (by rw[bT];exact List.mem_cons_self ..);simp only[aG,hl,List.length_range,c9]at F;have N:I*K<=(I+bi.length)*K:=aV K B;have O:reachBytes=140737488351232:=rfl;omega
    have et:∀(j:List (DataW H)) (x:DataW H),x∈j->∀b∈x.weights P y,b∈DataW.weightsAll P y j:=by
     intro j;induction j with
     |nil=>intro x s;simp at s
     |cons a j a7=>
      intro x s b c;rw[DataW.weightsAll];rcases List.mem_cons.1 s with rfl|s
      ·exact cS _ c
      ·exact df _ (a7 x s b c)
    have eh:∀i,i<I->∃q:List T,∃j,w.cells? ae (a.add (i*n)) n=some j/\fX w.heap nz q j/\(∀v∈q,uC v)/\q.length=n/\M q:=by
     intro i hi;obtain⟨x,s,dm⟩:=dn i i (by rw[List.getElem?_range hi]);obtain⟨j,bz,ea⟩:=Option.bind_eq_some_iff.1 dm;obtain⟨al,b7⟩:=x;rw[bn.1]at bz;obtain⟨q,F,N,O,av⟩:=bn.2 H c4 w ae er dk ap j al b7 ea λb c=>bS b (by
      rw[bT];exact List.mem_cons_of_mem _ (cS _ (et _ al (List.mem_map.2 ⟨(al,b7),ax s,rfl⟩) b c)))
     exact⟨q,j,bz,F,N,O,av⟩
    have b9:∀u,u<=I->∃es:List (List T),es.length=u/\∀i b,es[i]? =some b->∃j,w.cells? ae (a.add (i*n)) n=some j/\fX w.heap nz b j/\(∀v∈b,uC v)/\b.length=n/\M b:=by
     intro u;induction u with
     |zero=>intro _;exact⟨[],rfl,λi b c=>by simp at c⟩
     |succ u a7=>
      intro eD;obtain⟨es,G,L⟩:=a7 B;obtain⟨q,j,ef⟩:=eh u B;refine⟨es++[q],by simp[G],λi b c=>?_⟩;rcases aM i u with hi|hi
      ·rw[cr B]at c;exact L i b c
      ·have:i=u:=by
        rcases aM u i with h|h
        ·rw[bL (by simp[G];omega)]at c;simp at c
        ·omega
       subst this;rw[cC B,G]at c;simp at c;subst c;exact⟨j,ef⟩
    obtain⟨es,G,L⟩:=b9 I (au _);have Q:∀b∈es,b.length=n/\∀v∈b,uC v:=λb c=>by
     obtain⟨i,hi⟩:=cH c;obtain⟨j,_,_,N,O,_⟩:=L i b hi;exact⟨O,N⟩
    have c7:∀b∈es,M b:=λb c=>by
     obtain⟨i,hi⟩:=cH c;obtain⟨j,_,_,N,O,av⟩:=L i b hi;exact av
    refine⟨[sl (es.map (uz ag))],fX.one ?_,λv l=>by simp at l;subst l;exact eo es Q,rfl,es,rfl,?_,c7⟩
    ·cases es with
     |nil=>
      simp at G;subst G;exact .fK _ _
     |cons f e=>
      obtain⟨U,ey⟩:=Rl (ag:=ag) aE Q;obtain⟨l0,ca,r0,eI,eF,_⟩:=L 0 f rfl;have bl:=CN ca;rw[Nat.zero_mul,show a.add 0=a by simp[Addr.add]]at bl;have aN:=bl.2 0 B;have dv:0<l0.length:=B;rw[show a.add 0=a by simp[Addr.add],ay dv]at aN;have bH:=cell_spot aN;obtain⟨C,ty,fz,R,_⟩:=Hl (w:=w) (a:=a) (n:=0) (by rw[show a.add 0=a by simp[Addr.add]];exact aN);obtain⟨S,off,eM⟩:=a;simp only at bH R;subst bH;have cp:∀i b o v,(f::e)[i]? =some b->b[o]? =some v->∃r,C[off+(i*n+o)]? =some r/\eK w.heap nz v r:=by
       intro i b o v c l;obtain⟨j,cb,r1,eL,eH,_⟩:=L i b c;have dd:=CN cb;have V:o<n:=by
        rcases aM o n with h|h
        ·exact h
        ·rw[bL B]at l;simp at l
       have bC:o<j.length:=B;have F:=dd.2 o V;rw[ay bC]at F;have c1:((⟨S,off,none⟩:Addr).add (i*n)).add o=(⟨S,off,none⟩:Addr).add (i*n+o):=by
        unfold Addr.add;by_cases a8:i*n=0
        ·simp[a8]
        ·by_cases b8:o=0
         ·subst b8;simp[a8]
         ·simp[a8,b8,cA]
       rw[c1]at F;obtain⟨eu,eN,eA,m,E⟩:=Hl F;rw[show w.heap[S]? =some (.cells C ty fz)from R]at m;simp only[ar,Obj.cells.injEq]at m;obtain⟨rfl,_,_⟩:=m;refine⟨_,E,?_⟩;have:=r1.2 o v l;rw[List.getD_eq_getElem?_getD,ay bC]at this;exact this
      have an:∀k v,(eY ((f::e).map (uz ag)))[k]? =some v->∃r,C[off+k]? =some r/\eK w.heap nz v r/\uC v:=by
       intro k v A;have ds:k<((f::e).map (uz ag)).length*n:=by
        rw[<-gD U];rcases aM k (eY ((f::e).map (uz ag))).length with h|h
        ·exact h
        ·rw[bL h]at A;simp at A
       have hi:k/n<(f::e).length:=by
        rw[Nat.div_lt_iff_lt_mul B];simpa using ds
       have c:(f::e)[k/n]? =some (f::e)[k/n]:=ay hi;have X:=Q _ (aD hi);have V:k% n<((f::e)[k/n]).length:=by rw[X.1];exact Nat.mod_lt _ B
       have b6:((f::e)[k/n])[k% n]? =some ((f::e)[k/n])[k% n]:=ay V;have bs:=flat_get (es:=(f::e).map (uz ag)) U (i:=k/n) (k:=k% n) (v:=uz ag (f::e)[k/n]) (z:=((f::e)[k/n])[k% n]) (by rw[aQ,c];rfl) (by rw[D1 X.1 aE X.2];exact b6);have bu:k/n*n+k% n=k:=by rw[Nat.mul_comm];exact Nat.div_add_mod k n
       rw[bu]at bs;rw[bs]at A;simp only[ar]at A;obtain⟨r,m,E⟩:=cp _ _ _ _ c b6;rw[bu]at m;exact⟨r,m,A▸E,A▸X.2 _ (aD V)⟩
      have bB:e.length+1=I:=by simpa using G
      subst bB;show eK w.heap nz (.Y (uz ag f::e.map (uz ag)) false) _;have:=eK.Y (hp:=w.heap) (μ:=nz) (uz ag f) (e.map (uz ag)) false S off ce n C ty fz (Q8 _) R (by simpa using eb) J U ?_ ?_ ?_
      ·simpa using this
      ·show off+(eY ((f::e).map (uz ag))).length<=C.size;have c6:0<(eY ((f::e).map (uz ag))).length:=by rw[gD U];exact Nat.mul_pos J B
       obtain⟨r,m,_⟩:=an ((eY ((f::e).map (uz ag))).length-1) _ (ay B);have E:off+((eY ((f::e).map (uz ag))).length-1)<C.size:=by
        rcases aM (off+((eY ((f::e).map (uz ag))).length-1)) C.size with aA|aA
        ·exact aA
        ·rw[Array.getElem?_eq_none aA]at m;simp at m
       exact Rb c6 E
      ·intro v l;obtain⟨i,hi⟩:=cH l;obtain⟨_,_,_,g⟩:=an i v hi;exact g
      ·intro k v A;obtain⟨r,m,E,_⟩:=an k v A;rw[bQ,m];exact E
    grind
   grind
inductive YP (P:ai):List Field->Nat->List (List T->Prop)->Prop where
 |nil (o:Nat):YP P [] o []
 |cons (f:Field) (fs:List Field) (o n:Nat) (Q:List T->Prop) (Qs:List (List T->Prop)) (ho:f.offset=o) (h:Rd P f.type n Q) (r:YP P fs (o+n) Qs):YP P (f::fs) o (Q::Qs)
inductive RdP (P:ai):List (Nat×ab)->Nat->List (List T->Prop)->Prop where
 |nil (o:Nat):RdP P [] o []
 |cons (o t:Nat) (ps:List (Nat×ab)) (o' n:Nat) (Q:List T->Prop) (Qs:List (List T->Prop)) (ho:o=o') (h:Rd P t n Q) (r:RdP P ps (o'+n) Qs):RdP P ((o,t)::ps) o' (Q::Qs)
inductive Ml:List (List T->Prop)->List T->Prop where
 |nil:Ml [] []
 |cons (Q:List T->Prop) (Qs:List (List T->Prop)) (a b:List T) (h:Q a) (r:Ml Qs b):Ml (Q::Qs) (a++b)
def M1{H:Type}{n:ab×am->H}{k:World}{m:Nat}{r:Nat->Bool}{p:Bool}{o:Nat}{c:List am}:∀{e:List Field} {b:Nat} {l:List (List T->Prop)},YP P e b l->∀{s:List (DataW H×List MemPlace)},b<=c.length->
 (e.mapM λa=>DataW.trod n P k m r p o a.type ((c.drop a.offset).take (P.cellsOf a.type)))=some s->(∀d∈DataW.weightsEach P (e.map (·.type)) (s.map (·.1)),d<=reachBytes)->∃h:List T,∃g,fX k.heap nz h ((c.drop b).take g)/\(∀v∈h,uC v)/\h.length=g/\Ml l h:=by
 intro e b l E;induction E with
 |nil b=>intro s y u _;exact⟨[],0,by simp[fX.nil],λv G=>by grind,rfl,.nil⟩
 |cons a e b j Q l y u W K=>
  intro s S f I;rw[List.mapM_cons]at f;cases q:DataW.trod n P k m r p o a.type ((c.drop a.offset).take (P.cellsOf a.type))with
  |none=>rw[q]at f;grind
  |some w=>
   rw[q]at f;cases hr:(e.mapM λa=>DataW.trod n P k m r p o a.type ((c.drop a.offset).take (P.cellsOf a.type)))with
   |none=>rw[hr]at f;grind
   |some O=>
    rw[hr]at f;simp at f;subst f;rw[u.1,y]at q;have z:∀d∈w.1.weights P a.type++DataW.weightsEach P (e.map (·.type)) (O.map (·.1)),d<=reachBytes:=by
     intro d i;exact I d (by simpa[DataW.weightsEach]using i)
    have⟨h,x,R,A,C⟩:=u.2 H n k m r p o _ w.1 w.2 q λd i=>z d (cS _ i);have F:b+j<=c.length:=by
     have:=x.1;rw[A,List.length_take,List.length_drop]at this;omega
    have⟨N,g,L,U,V,M⟩:=K F hr λd i=>z d (df _ i);refine⟨h++N,j+g,?_,λv G=>?_,by grind,.cons _ _ _ _ C M⟩
    ·have:=fX.append x L;rwa[show(c.drop b).take j++(c.drop (b+j)).take g=(c.drop b).take (j+g)by rw[List.take_add,cI]]at this
    grind
def MZ{f:af Field}{e:Nat}{d:List (List T->Prop)}(k:P.underlying t=some (.struct f))(j:P.cellsOf t=e)(n:YP P f.toList 0 d)(o:∀a,Ml d a->a.length=e):Rd P t e λa=>Ml d a:=by
 refine⟨j,λH w F s E y g u v C b p=>?_⟩;cases g with
 |zero=>simp[DataW.trod]at b
 |succ g=>
  unfold DataW.trod at b;rw[k]at b;simp only at b;split at b
  ·rename_i hl;obtain⟨G,q,c⟩:=Option.map_eq_some_iff.1 b;simp only[aB]at c;obtain⟨c,_⟩:=c;obtain⟨a,A,h,l,x,i⟩:=M1 n (aw _) q λr z=>p r (by
    rw[<-c,DataW.weights,k];omega)
   have m:=o a i;refine⟨a,?_,l,m,i⟩;rw[List.drop_zero,bA (by rw[hl,j];omega)]at h;exact h
  grind
def Rd.imp{e:Nat}{b c:List T->Prop}(d:Rd P t e b)(v:∀a,b a->c a):Rd P t e c:=⟨d.1,λH i p f o l j g h n k m=>by
 have⟨a,q,r,s,u⟩:=d.2 H i p f o l j g h n k m
 grind⟩
def Ml.zH{a:List T}(b:Ml [] a):a=[]:=by cases b;rfl
def Ml.inv{c:List T->Prop}{d:List (List T->Prop)}{f:List T}(e:Ml (c::d) f):∃a b,f=a++b/\c a/\Ml d b:=by
 cases e with|cons _ _ a b e g=>grind
def Nt{e j:Type}{f:e->j}{p:e->Prop}:∀{b:List j},(∀d∈b,∃a,d=f a/\p a)->∃c:List e,b=c.map f/\∀a∈c,p a:=by
 intro b;induction b with
 |nil=>simp
 |cons d b k=>
  intro g;obtain⟨a,rfl,m⟩:=g d J;obtain⟨c,rfl,l⟩:=k λi h=>g i (List.mem_cons_of_mem _ h);exact⟨a::c,rfl,λi h=>by grind⟩
def xC{ty:Ty}(a:uq P t ty):P.cellsOf t=ty.size:=by
 have⟨e,d,f,b,_,_,_,_,_,_,c,_⟩:=a.unfold;unfold Program.cellsOf;rw[b];exact c
def Je{ty:Ty}(a:uq P t ty):P.bytesOf t=ty.bytes:=by
 have⟨e,d,f,b,_,_,_,_,_,_,_,c,_⟩:=a.unfold;unfold Program.bytesOf;rw[b];exact c
variable {cx:Ctx}{ty:Ty}
def M0(iU:iG P cx)(e:cx.ty t=some ty){c:ak}(h:ty.u= .int c)(g:ty.size=1):Rd P t 1 λf=>∃a:Int,f=[.int c a]/\(c.min<=a/\a<=c.max):=by
 have⟨i,d,b⟩:=j3 (iU.ty _ _ e);rw[h]at b;exact(ZS (by rw[d,xQ b]) (by rw[xC (iU.ty _ _ e),g])).imp λf ⟨a,d,b⟩=>⟨a,d,b⟩
def FY(iU:iG P cx)(k:cx.ty t=some ty){g i:Nat}{l:Ty}(x:ty.u= .slice g)(v:ty.size=1)(w:cx.ty g=some l){d:Type}{h:d->List T}{p:d->Prop}(o:Rd P g i λc=>∃a,c=h a/\p a)(s:1<=i)(e:Bool)(n:e=false->i=1){f:d->T}(A:∀a,uz e (h a)=f a):
 Rd P t 1 λc=>∃b:List d,c=[sl (b.map f)]/\(b.length*l.bytes<=140737488351232/\∀a∈b,p a):=by
 have⟨y,m,j⟩:=j3 (iU.ty _ _ k);rw[x]at j;refine(QA (by rw[m,mc j]) (by rw[xC (iU.ty _ _ k),v]) (Je (iU.ty _ _ w)) o s e n).imp ?_;rintro c ⟨z,rfl,hl,q⟩;obtain⟨b,rfl,r⟩:=Nt (f:=h) (p:=p) q;refine⟨b,?_,by grind,r⟩;rw[cz];congr 2;simp_all
def U0:∀{b:List Field} {c:Nat} {e:List (Nat×ab)} {a:List (List T->Prop)},e=b.map (λd=>(d.offset,d.type))->RdP P e c a->YP P b c a:=by
 intro b;induction b with
 |nil=>intro c e a f g;subst f;cases g;exact .nil _
 |cons d b k=>
  intro c e a f g;subst f;cases g with|cons _ _ _ _ l h a i j m=>exact .cons d b c l h a i j (k rfl m)
def DF(iU:iG P cx)(d:cx.ty t=some ty){e:List (Nat×ab)}{n:Nat}{b:List (List T->Prop)}(k:ty.u= .struct e)(j:ty.size=n)(h:RdP P e 0 b)(i:∀a,Ml b a->a.length=n):Rd P t n λa=>Ml b a:=by
 have⟨l,f,c⟩:=j3 (iU.ty _ _ d);rw[k]at c;obtain⟨m,rfl,g⟩:=qG c;exact MZ f (by rw[xC (iU.ty _ _ d),j]) (U0 g.1 h) i
end
def Jb{P:ai}{cx:Ctx}{d:aj}{j:Func}{c:Code}{l:List T}{g:af am}(q:P.funcs[d]? =some j)(v:(j.name== "runtime.NumGoroutine")=false)(a:j.body=some c)
 (w:kH P cx d l (.bool true)) (W:World) (s:∀n m,cx.gl n=some m->eK W.heap nz (.jh m) (.pointer (some ⟨n,0,none⟩))) (r:fX W.heap nz l g.toList):
 Calls P d g W λi k=>i= .returned (.bool true)/\RowKit.Below W.heap.size W k:=by
 have z:St cx W.heap.size W.heap nz ⟨0,0,[]⟩:=
  ⟨rfl,au _,λf e a=>by grind [nz],λf E e C a=>by simp[nz],λf e a=>by grind [nz],λf e a=>by simp[nz],λF hr=>hr.elim,s⟩
 have h:=w W.heap.size W nz g ⟨0,0,[]⟩ z r;rw[nl q v a]at h;have h:Calls P d g W λ
  | .returned p,A=>pV cx W.heap.size W nz ⟨0,0,[]⟩ (.bool true) ⟨0,0,[]⟩ p A
  |_,_=>False:=h
 refine h.mono λi k o=>?_;cases i with
 |returned p=>
  obtain⟨⟨I,y,G,b,H⟩,_⟩:=o;refine⟨by rw[y.pI],b.os,b.tape,b.output,b.ext.size,λx u=>(b.ext.mV x u ?_).1⟩;rintro(⟨f,e,a,_⟩|hr)
  ·grind [nz]
  ·exact hr
 |_=>exact o.elim
def FW{e:af Obj}{a:List T}{b:am}(f:fX e nz a b.cells.toList)(g:∀c∈a,uC c)(h:∃d,b= .agg d):eK e nz (.agg a) b:=by
 obtain⟨d,rfl⟩:=h;exact eK.wX f λc i=>(g c i).1
