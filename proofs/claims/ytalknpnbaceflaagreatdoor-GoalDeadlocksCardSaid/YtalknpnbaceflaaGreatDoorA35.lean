/- TiArg -/
import Derived.Test.YtalknpnbaceflaaGreatDoorA34
import Derived.Test.YtalknpnbaceflaaGreatDoorA6
set_option linter.all false
namespace Go.TI
noncomputable section
section
def Xd(a:Nat):¬pG oZ a:=by
 rintro(⟨c,b,d,_⟩|hr)
 ·grind [oZ]
 ·exact hr
def Rd(P:aj)(t d:Nat)(f:List T->Prop):Prop:=P.cellsOf t=d/\∀(H:Type) (h:af×aq->H) (e:World) (g:Nat) (l:Nat->Bool) (j:Bool) (i:Nat) (b:List aq) (c:DataW H) (k:List MemPlace),
 DataW.trod h P e g l j i t b=some (c,k)->(∀n∈c.weights P t,n<=reachBytes)->∃a,iW e.heap oZ a b/\(∀m∈a,yh m)/\a.length=d/\f a
section
variable {P:aj}{t:Nat}
def iW.one{b:ah Obj}{d:Mu}{c:T}{a:aq}(h:iu b d c a):iW b d [c] [a]:=iW.cons h iW.nil
def aea{c:ao}(k:P.underlying t=some (.int c))(j:P.cellsOf t=1):Rd P t 1 λm=>∃b,m=[.int c b]/\c.min<=b/\b<=c.max:=by
 refine⟨j,λH p w n u q d f o s a r=>?_⟩;cases d with
 |zero=>simp[DataW.trod]at a
 |succ d=>
  unfold DataW.trod at a;rw[k]at a
  match f,a with
  | [.int l b],a=>
   simp only[Lit.wf,az,aM]at a;split at a
   ·rename_i i;obtain⟨rfl,g,h⟩:=i;exact⟨[.int l b],iW.one (.int _ _),λv e=>by simp at e;subst e;exact⟨rfl,.int _ _⟩,rfl,b,rfl,g,h⟩
   grind
def ye(b:Bool)(a:List T):T:=if b=true then .eZ a else Zs a
def H9{c:Bool}{a:List T}{d:Nat}(hl:a.length=d)(e:c=false->d=1)(f:∀g∈a,yh g):(ye c a).cells=a:=by
 cases c with
 |true=>rfl
 |false=>
  have:=e rfl;subst this;obtain⟨b,rfl⟩:=List.length_eq_one_iff.1 hl;have h:=(f b G).1;show T.cells b=[b];cases b<;>first|rfl|grind [T.scalar]
def mapM_some{j k:Type}(c:j->aa k):∀{a:List j} {d:List k},a.mapM c=some d->d.length=a.length/\∀(h:Nat) i,a[h]? =some i->∃e,d[h]? =some e/\c i=some e:=by
 intro a;induction a with
 |nil=>simp
 |cons l a m=>
  intro d b;rw[List.mapM_cons]at b;cases f:c l with
  |none=>rw[f]at b;grind
  |some e=>
   rw[f]at b;cases g:a.mapM c with
   |none=>rw[g]at b;grind
   |some n=>
    rw[g]at b
    grind
def GD{f:World}{g d:Nat}{e:Addr}{c:List aq}(b:f.cells? g e d=some c):c.length=d/\∀a,a<d->f.cell? (e.add a)=c[a]? :=by
 unfold World.cells? at b;split at b
 ·have⟨l,h⟩:=mapM_some _ b;refine⟨by grind,λa k=>?_⟩;have⟨m,i,j⟩:=h a a (by rw[List.getElem?_range k]);rw[i];exact j
 grind
def LU{w:World}{a:Addr}{n:Nat}{d:aq}(c:w.cell? (a.add n)=some d):∃b t fz,w.heap[a.block]? =some (.cells b t fz)/\b[a.off+n]? =some d:=by
 unfold World.cell? at c;have e:(a.add n).block=a.block:=by unfold Addr.add;split<;>rfl
 have f:(a.add n).off=a.off+n:=by unfold Addr.add;split<;>simp_all
 rw[e,f]at c
 grind
def cell_spot{d:World}{a:Addr}{c:aq}(b:d.cell? a=some c):a.spot=none:=by
 unfold World.cell? at b;split at b
 ·simp_all
 grind
def Xe{b a c:Nat}(e:0<a)(d:b+(a-1)<c):b+a<=c:=B 
def Xo{ag:Bool}{d:Nat}(g:ag=false->d=1):∀{a:List (List T)},(∀c∈a,c.length=d/\∀b∈c,yh b)->(∀b∈a.map (ye ag),b.cells.length=d)/\iq (a.map (ye ag))=a.flatten:=by
 intro a;induction a with
 |nil=>intro _;exact⟨λb h=>by grind,rfl⟩
 |cons c a j=>
  intro e;have⟨m,n⟩:=j λk i=>e k (List.mem_cons_of_mem _ i);have f:=e c G;have l:=H9 f.1 g f.2;refine⟨λb h=>?_,?_⟩
  ·grind
  grind [nN]
def Wi{y n K:Nat}{M:List T->Prop}(bH:P.underlying t=some (.slice y))(dn:P.cellsOf t=1)(cX:P.bytesOf y=K)(bn:Rd P y n M)(eu:1<=n)(ag:Bool)(aE:ag=false->n=1):
 Rd P t 1 λq=>∃es:List (List T),q=[sl (es.map (ye ag))]/\es.length*K<=140737488351232/\∀b∈es,M b:=by
 refine⟨dn,λH cp w ae eb c7 ap cb d p h bN=>?_⟩;have ea:∀es:List (List T),(∀b∈es,b.length=n/\∀v∈b,yh v)->yh (sl (es.map (ye ag))):=by
  intro es Q;cases es with
  |nil=>exact⟨rfl,.iX⟩
  |cons b es=>
   refine⟨rfl,.V _ _ λv l=>?_⟩;obtain⟨x,s,rfl⟩:=List.mem_map.1 (show v∈(b::es).map (ye ag)from l);have aX:=Q x s;cases ag with
   |true=>exact .eZ _ λv l=>(aX.2 v l).2
   |false=>
    obtain⟨z,rfl⟩:=List.length_eq_one_iff.1 (aX.1.trans (aE rfl));exact(aX.2 z G).2
 cases ap with
 |zero=>simp[DataW.trod]at h
 |succ ap=>
  unfold DataW.trod at h;rw[bH]at h
  match cb,h with
  | [.slice none 0 0],h=>exact⟨[sl []],iW.one (.iX _ _),λv l=>by simp at l;subst l;exact⟨rfl,.iX⟩,rfl,[],rfl,G,λb c=>by simp at c⟩
  | [.slice (some a) J b9],h=>
   simp only at h;split at h
   ·rename_i R;obtain⟨eo,dm,er⟩:=R;obtain⟨bg,c6,Z⟩:=Option.bind_eq_some_iff.1 h;obtain⟨a8,_,Z⟩:=Option.map_eq_some_iff.1 Z;simp only[aF]at Z;obtain⟨c4,_⟩:=Z;obtain⟨hl,dd⟩:=mapM_some _ c6;have bS:d.weights P t=((bg.map (·.1)).length+(a8.map (·.1)).length)*P.bytesOf y::(DataW.weightsAll P y (bg.map (·.1))++DataW.weightsAll P y (a8.map (·.1))):=by
     rw[<-c4,DataW.weights,bH]
    have bA:J*K<=140737488351232:=by
     have F:=bN _ (by rw[bS];exact List.mem_cons_self ..);simp only[aI,hl,dN,cX]at F;have N:J*K<=(J+a8.length)*K:=aY K B;have O:reachBytes=140737488351232:=rfl;omega
    have ec:∀(j:List (DataW H)) (x:DataW H),x∈j->∀b∈x.weights P y,b∈DataW.weightsAll P y j:=by
     intro j;induction j with
     |nil=>intro x s;simp at s
     |cons a j a6=>
      intro x s b c;rw[DataW.weightsAll];rcases List.mem_cons.1 s with rfl|s
      ·exact dw _ c
      ·exact dO _ (a6 x s b c)
    have dv:∀i,i<J->∃q:List T,∃j,w.cells? ae (a.add (i*n)) n=some j/\iW w.heap oZ q j/\(∀v∈q,yh v)/\q.length=n/\M q:=by
     intro i hi;obtain⟨x,s,c9⟩:=dd i i (by rw[List.getElem?_range hi]);obtain⟨j,bu,dk⟩:=Option.bind_eq_some_iff.1 c9;obtain⟨al,bW⟩:=x;rw[bn.1]at bu;obtain⟨q,F,N,O,av⟩:=bn.2 H cp w ae eb c7 ap j al bW dk λb c=>bN b (by
      rw[bS];exact List.mem_cons_of_mem _ (dw _ (ec _ al (List.mem_map.2 ⟨(al,bW),aC s,rfl⟩) b c)))
     exact⟨q,j,bu,F,N,O,av⟩
    have b6:∀u,u<=J->∃es:List (List T),es.length=u/\∀i b,es[i]? =some b->∃j,w.cells? ae (a.add (i*n)) n=some j/\iW w.heap oZ b j/\(∀v∈b,yh v)/\b.length=n/\M b:=by
     intro u;induction u with
     |zero=>intro _;exact⟨[],rfl,λi b c=>by simp at c⟩
     |succ u a6=>
      intro et;obtain⟨es,I,L⟩:=a6 B;obtain⟨q,j,ds⟩:=dv u B;refine⟨es++[q],by simp[I],λi b c=>?_⟩;rcases aT i u with hi|hi
      ·rw[cK B]at c;exact L i b c
      ·have:i=u:=by
        rcases aT u i with h|h
        ·rw[bV (by simp[I];omega)]at c;simp at c
        ·omega
       subst this;rw[du B,I]at c;simp at c;subst c;exact⟨j,ds⟩
    obtain⟨es,I,L⟩:=b6 J (ax _);have Q:∀b∈es,b.length=n/\∀v∈b,yh v:=λb c=>by
     obtain⟨i,hi⟩:=cR c;obtain⟨j,_,_,N,O,_⟩:=L i b hi;exact⟨O,N⟩
    have cL:∀b∈es,M b:=λb c=>by
     obtain⟨i,hi⟩:=cR c;obtain⟨j,_,_,N,O,av⟩:=L i b hi;exact av
    refine⟨[sl (es.map (ye ag))],iW.one ?_,λv l=>by simp at l;subst l;exact ea es Q,rfl,es,rfl,?_,cL⟩
    ·cases es with
     |nil=>
      simp at I;subst I;exact .iX _ _
     |cons f e=>
      obtain⟨U,ef⟩:=Xo (ag:=ag) aE Q;obtain⟨l0,b7,r0,eB,ey,_⟩:=L 0 f rfl;have bi:=GD b7;rw[Nat.zero_mul,show a.add 0=a by simp[Addr.add]]at bi;have aN:=bi.2 0 B;have di:0<l0.length:=B;rw[show a.add 0=a by simp[Addr.add],aB di]at aN;have bC:=cell_spot aN;obtain⟨D,ty,fz,R,_⟩:=LU (w:=w) (a:=a) (n:=0) (by rw[show a.add 0=a by simp[Addr.add]];exact aN);obtain⟨S,off,eD⟩:=a;simp only at bC R;subst bC;have ca:∀i b o v,(f::e)[i]? =some b->b[o]? =some v->∃r,D[off+(i*n+o)]? =some r/\iu w.heap oZ v r:=by
       intro i b o v c l;obtain⟨j,b8,r1,eC,eA,_⟩:=L i b c;have c1:=GD b8;have W:o<n:=by
        rcases aT o n with h|h
        ·exact h
        ·rw[bV B]at l;simp at l
       have bB:o<j.length:=B;have F:=c1.2 o W;rw[aB bB]at F;have cd:((⟨S,off,none⟩:Addr).add (i*n)).add o=(⟨S,off,none⟩:Addr).add (i*n+o):=by
        unfold Addr.add;by_cases a7:i*n=0
        ·simp[a7]
        ·by_cases bX:o=0
         ·subst bX;simp[a7]
         ·simp[a7,bX,da]
       rw[cd]at F;obtain⟨ed,eE,eh,m,E⟩:=LU F;rw[show w.heap[S]? =some (.cells D ty fz)from R]at m;simp only[aw,Obj.cells.injEq]at m;obtain⟨rfl,_,_⟩:=m;refine⟨_,E,?_⟩;have:=r1.2 o v l;rw[cN,aB bB]at this;exact this
      have an:∀k v,(iq ((f::e).map (ye ag)))[k]? =some v->∃r,D[off+k]? =some r/\iu w.heap oZ v r/\yh v:=by
       intro k v A;have de:k<((f::e).map (ye ag)).length*n:=by
        rw[<-jh U];rcases aT k (iq ((f::e).map (ye ag))).length with h|h
        ·exact h
        ·rw[bV h]at A;simp at A
       have hi:k/n<(f::e).length:=by
        rw[Nat.div_lt_iff_lt_mul B];simpa using de
       have c:(f::e)[k/n]? =some (f::e)[k/n]:=aB hi;have ab:=Q _ (aG hi);have W:k% n<((f::e)[k/n]).length:=by rw[ab.1];exact Nat.mod_lt _ B
       have bT:((f::e)[k/n])[k% n]? =some ((f::e)[k/n])[k% n]:=aB W;have bp:=flat_get (es:=(f::e).map (ye ag)) U (i:=k/n) (k:=k% n) (v:=ye ag (f::e)[k/n]) (z:=((f::e)[k/n])[k% n]) (by rw[aR,c];rfl) (by rw[H9 ab.1 aE ab.2];exact bT);have bs:k/n*n+k% n=k:=by rw[Nat.mul_comm];exact Nat.div_add_mod k n
       rw[bs]at bp;rw[bp]at A;simp only[aw]at A;obtain⟨r,m,E⟩:=ca _ _ _ _ c bT;rw[bs]at m;exact⟨r,m,A▸E,A▸ab.2 _ (aG W)⟩
      have bA:e.length+1=J:=by simpa using I
      subst bA;show iu w.heap oZ (.V (ye ag f::e.map (ye ag)) false) _;have:=iu.V (hp:=w.heap) (μ:=oZ) (ye ag f) (e.map (ye ag)) false S off b9 n D ty fz (Xd _) R (by simpa using dm) G U ?_ ?_ ?_
      ·simpa using this
      ·show off+(iq ((f::e).map (ye ag))).length<=D.size;have cF:0<(iq ((f::e).map (ye ag))).length:=by rw[jh U];exact Nat.mul_pos G B
       obtain⟨r,m,_⟩:=an ((iq ((f::e).map (ye ag))).length-1) _ (aB B);have E:off+((iq ((f::e).map (ye ag))).length-1)<D.size:=by
        rcases aT (off+((iq ((f::e).map (ye ag))).length-1)) D.size with aA|aA
        ·exact aA
        ·rw[Array.getElem?_eq_none aA]at m;simp at m
       exact Xe cF E
      ·intro v l;obtain⟨i,hi⟩:=cR l;obtain⟨_,_,_,g⟩:=an i v hi;exact g
      ·intro k v A;obtain⟨r,m,E,_⟩:=an k v A;rw[cj,m];exact E
    grind
   grind
inductive RdF (P:aj):List Field->Nat->List (List T->Prop)->Prop where
 |nil (o:Nat):RdF P [] o []
 |cons (f:Field) (fs:List Field) (o n:Nat) (Q:List T->Prop) (Qs:List (List T->Prop)) (ho:f.offset=o) (h:Rd P f.type n Q) (r:RdF P fs (o+n) Qs):RdF P (f::fs) o (Q::Qs)
inductive RdP (P:aj):List (Nat×af)->Nat->List (List T->Prop)->Prop where
 |nil (o:Nat):RdP P [] o []
 |cons (o t:Nat) (ps:List (Nat×af)) (o' n:Nat) (Q:List T->Prop) (Qs:List (List T->Prop)) (ho:o=o') (h:Rd P t n Q) (r:RdP P ps (o'+n) Qs):RdP P ((o,t)::ps) o' (Q::Qs)
inductive RR:List (List T->Prop)->List T->Prop where
 |nil:RR [] []
 |cons (Q:List T->Prop) (Qs:List (List T->Prop)) (a b:List T) (h:Q a) (r:RR Qs b):RR (Q::Qs) (a++b)
def SD{H:Type}{n:af×aq->H}{k:World}{m:Nat}{r:Nat->Bool}{p:Bool}{o:Nat}{c:List aq}:∀{e:List Field} {b:Nat} {l:List (List T->Prop)},RdF P e b l->∀{s:List (DataW H×List MemPlace)},b<=c.length->
 (e.mapM λa=>DataW.trod n P k m r p o a.type ((c.drop a.offset).take (P.cellsOf a.type)))=some s->(∀d∈DataW.weightsEach P (e.map (·.type)) (s.map (·.1)),d<=reachBytes)->∃h:List T,∃g,iW k.heap oZ h ((c.drop b).take g)/\(∀v∈h,yh v)/\h.length=g/\RR l h:=by
 intro e b l E;induction E with
 |nil b=>intro s y u _;exact⟨[],0,by simp[iW.nil],λv I=>by grind,rfl,.nil⟩
 |cons a e b j Q l y u W K=>
  intro s S f J;rw[List.mapM_cons]at f;cases q:DataW.trod n P k m r p o a.type ((c.drop a.offset).take (P.cellsOf a.type))with
  |none=>rw[q]at f;grind
  |some w=>
   rw[q]at f;cases hr:(e.mapM λa=>DataW.trod n P k m r p o a.type ((c.drop a.offset).take (P.cellsOf a.type)))with
   |none=>rw[hr]at f;grind
   |some O=>
    rw[hr]at f;simp at f;subst f;rw[u.1,y]at q;have z:∀d∈w.1.weights P a.type++DataW.weightsEach P (e.map (·.type)) (O.map (·.1)),d<=reachBytes:=by
     intro d i;exact J d (by simpa[DataW.weightsEach]using i)
    have⟨h,x,R,A,D⟩:=u.2 H n k m r p o _ w.1 w.2 q λd i=>z d (dw _ i);have F:b+j<=c.length:=by
     have:=x.1;rw[A,List.length_take,List.length_drop]at this;omega
    have⟨N,g,L,U,V,M⟩:=K F hr λd i=>z d (dO _ i);refine⟨h++N,j+g,?_,λv I=>?_,by grind,.cons _ _ _ _ D M⟩
    ·have:=iW.append x L;rwa[show(c.drop b).take j++(c.drop (b+j)).take g=(c.drop b).take (j+g)by rw[List.take_add,dh]]at this
    grind
def SB{f:ah Field}{e:Nat}{d:List (List T->Prop)}(k:P.underlying t=some (.struct f))(j:P.cellsOf t=e)(n:RdF P f.toList 0 d)(o:∀a,RR d a->a.length=e):Rd P t e λa=>RR d a:=by
 refine⟨j,λH w F s E y g u v D b p=>?_⟩;cases g with
 |zero=>simp[DataW.trod]at b
 |succ g=>
  unfold DataW.trod at b;rw[k]at b;simp only at b;split at b
  ·rename_i hl;obtain⟨I,q,c⟩:=Option.map_eq_some_iff.1 b;simp only[aF]at c;obtain⟨c,_⟩:=c;obtain⟨a,A,h,l,x,i⟩:=SD n (ay _) q λr z=>p r (by
    rw[<-c,DataW.weights,k];omega)
   have m:=o a i;refine⟨a,?_,l,m,i⟩;rw[List.drop_zero,bQ (by rw[hl,j];omega)]at h;exact h
  grind
def Rd.imp{e:Nat}{b c:List T->Prop}(d:Rd P t e b)(v:∀a,b a->c a):Rd P t e c:=⟨d.1,λH i p f o l j g h n k m=>by
 have⟨a,q,r,s,u⟩:=d.2 H i p f o l j g h n k m
 grind⟩
def RR.CV{a:List T}(b:RR [] a):a=[]:=by cases b;rfl
def RR.inv{c:List T->Prop}{d:List (List T->Prop)}{f:List T}(e:RR (c::d) f):∃a b,f=a++b/\c a/\RR d b:=by
 cases e with|cons _ _ a b e g=>grind
def Ti{e j:Type}{f:e->j}{p:e->Prop}:∀{b:List j},(∀d∈b,∃a,d=f a/\p a)->∃c:List e,b=c.map f/\∀a∈c,p a:=by
 intro b;induction b with
 |nil=>simp
 |cons d b k=>
  intro g;obtain⟨a,rfl,m⟩:=g d G;obtain⟨c,rfl,l⟩:=k λi h=>g i (List.mem_cons_of_mem _ h);exact⟨a::c,rfl,λi h=>by grind⟩
def A3{ty:Ty}(a:xS P t ty):P.cellsOf t=ty.size:=by
 have⟨e,d,f,b,_,_,_,_,_,_,c,_⟩:=a.unfold;unfold Program.cellsOf;rw[b];exact c
def N6{ty:Ty}(a:xS P t ty):P.bytesOf t=ty.bytes:=by
 have⟨e,d,f,b,_,_,_,_,_,_,_,c,_⟩:=a.unfold;unfold Program.bytesOf;rw[b];exact c
variable {cx:Ctx}{ty:Ty}
def aad(j7:jT P cx)(e:cx.ty t=some ty){c:ao}(h:ty.u= .int c)(g:ty.size=1):Rd P t 1 λf=>∃a:Int,f=[.int c a]/\(c.min<=a/\a<=c.max):=by
 have⟨i,d,b⟩:=mt (j7.ty _ _ e);rw[h]at b;exact(aea (by rw[d,y9 b]) (by rw[A3 (j7.ty _ _ e),g])).imp λf ⟨a,d,b⟩=>⟨a,d,b⟩
def SC(j7:jT P cx)(k:cx.ty t=some ty){g i:Nat}{l:Ty}(x:ty.u= .slice g)(v:ty.size=1)(w:cx.ty g=some l){d:Type}{h:d->List T}{p:d->Prop}(o:Rd P g i λc=>∃a,c=h a/\p a)(s:1<=i)(e:Bool)(n:e=false->i=1){f:d->T}(A:∀a,ye e (h a)=f a):
 Rd P t 1 λc=>∃b:List d,c=[sl (b.map f)]/\(b.length*l.bytes<=140737488351232/\∀a∈b,p a):=by
 have⟨y,m,j⟩:=mt (j7.ty _ _ k);rw[x]at j;refine(Wi (by rw[m,nz j]) (by rw[A3 (j7.ty _ _ k),v]) (N6 (j7.ty _ _ w)) o s e n).imp ?_;rintro c ⟨z,rfl,hl,q⟩;obtain⟨b,rfl,r⟩:=Ti (f:=h) (p:=p) q;refine⟨b,?_,by grind,r⟩;rw[List.map_map];congr 2;simp_all
def aae:∀{b:List Field} {c:Nat} {e:List (Nat×af)} {a:List (List T->Prop)},e=b.map (λd=>(d.offset,d.type))->RdP P e c a->RdF P b c a:=by
 intro b;induction b with
 |nil=>intro c e a f g;subst f;cases g;exact .nil _
 |cons d b k=>
  intro c e a f g;subst f;cases g with|cons _ _ _ _ l h a i j m=>exact .cons d b c l h a i j (k rfl m)
def Qw(j7:jT P cx)(d:cx.ty t=some ty){e:List (Nat×af)}{n:Nat}{b:List (List T->Prop)}(k:ty.u= .struct e)(j:ty.size=n)(h:RdP P e 0 b)(i:∀a,RR b a->a.length=n):Rd P t n λa=>RR b a:=by
 have⟨l,f,c⟩:=mt (j7.ty _ _ d);rw[k]at c;obtain⟨m,rfl,g⟩:=uB c;exact SB f (by rw[A3 (j7.ty _ _ d),j]) (aae g.1 h) i
end
def A4{P:aj}{cx:Ctx}{d:ak}{j:Func}{c:Code}{l:List T}{g:ah aq}(q:P.funcs[d]? =some j)(v:(j.name== "runtime.NumGoroutine")=false)(a:j.body=some c)
 (w:mM P cx d l (.ez true)) (W:World) (s:∀n m,cx.gl n=some m->iu W.heap oZ (.ks m) (.pointer (some ⟨n,0,none⟩))) (r:iW W.heap oZ l g.toList):
 Calls P d g W λi k=>i= .returned (.bool true)/\RowKit.Below W.heap.size W k:=by
 have z:St cx W.heap.size W.heap oZ ⟨0,0,[]⟩:=
  ⟨rfl,ax _,λf e a=>by grind [oZ],λf E e D a=>by simp[oZ],λf e a=>by grind [oZ],λf e a=>by simp[oZ],λF hr=>hr.elim,s⟩
 have h:=w W.heap.size W oZ g ⟨0,0,[]⟩ z r;rw[p9 q v a]at h;have h:Calls P d g W λ
  | .returned p,A=>tT cx W.heap.size W oZ ⟨0,0,[]⟩ (.ez true) ⟨0,0,[]⟩ p A
  |_,_=>False:=h
 refine h.mono λi k o=>?_;cases i with
 |returned p=>
  obtain⟨⟨J,y,H,b,I⟩,_⟩:=o;refine⟨by rw[y.tu],b.os,b.tape,b.output,b.ext.size,λx u=>(b.ext.pN x u ?_).1⟩;rintro(⟨f,e,a,_⟩|hr)
  ·grind [oZ]
  ·exact hr
 |_=>exact o.elim
def Kw{e:ah Obj}{a:List T}{b:aq}(f:iW e oZ a b.cells.toList)(g:∀c∈a,yh c)(h:∃d,b= .agg d):iu e oZ (.eZ a) b:=by
 obtain⟨d,rfl⟩:=h;exact iu.AB f λc i=>(g c i).1
def Sy{d:ah Obj}{e:T}{a:aq}(b:iW d oZ [e] a.cells.toList)(f:a.cells= #[a]):iu d oZ e a:=by
 rw[f]at b;have⟨g,h,c,hr,_⟩:=b.nU;simp at c;rw[c.1];exact hr
