/- TiArg -/
import Derived.Test.YtmoiekepclmgbaaGreatDoorA34
import Derived.Test.YtmoiekepclmgbaaGreatDoorA6
set_option linter.all false
namespace Go.TI
noncomputable section
section
def Wc(a:Nat):¬oU oL a:=by
 rintro(⟨c,b,d,_⟩|hr)
 ·grind [oL]
 ·exact hr
def Rd(P:ai)(t d:Nat)(f:List T->Prop):Prop:=P.cellsOf t=d/\∀(H:Type) (h:ab×am->H) (e:World) (g:Nat) (l:Nat->Bool) (j:Bool) (i:Nat) (b:List am) (c:DataW H) (k:List MemPlace),
 DataW.trod h P e g l j i t b=some (c,k)->(∀n∈c.weights P t,n<=reachBytes)->∃a,iJ e.heap oL a b/\(∀m∈a,xE m)/\a.length=d/\f a
section
variable {P:ai}{t:Nat}
def iJ.one{b:af Obj}{d:Mu}{c:T}{a:am}(h:gW b d c a):iJ b d [c] [a]:=iJ.cons h iJ.nil
def adq{c:ak}(k:P.underlying t=some (.int c))(j:P.cellsOf t=1):Rd P t 1 λm=>∃b,m=[.int c b]/\c.min<=b/\b<=c.max:=by
 refine⟨j,λH p w n u q d f o s a r=>?_⟩;cases d with
 |zero=>simp[DataW.trod]at a
 |succ d=>
  unfold DataW.trod at a;rw[k]at a
  match f,a with
  | [.int l b],a=>
   simp only[Lit.wf,ax,aK]at a;split at a
   ·rename_i i;obtain⟨rfl,g,h⟩:=i;exact⟨[.int l b],iJ.one (.int _ _),λv e=>by simp at e;subst e;exact⟨rfl,.int _ _⟩,rfl,b,rfl,g,h⟩
   grind
def xC(b:Bool)(a:List T):T:=if b=true then .agg a else YE a
def Hg{c:Bool}{a:List T}{d:Nat}(hl:a.length=d)(e:c=false->d=1)(f:∀g∈a,xE g):(xC c a).cells=a:=by
 cases c with
 |true=>rfl
 |false=>
  have:=e rfl;subst this;obtain⟨b,rfl⟩:=List.length_eq_one_iff.1 hl;have h:=(f b Y).1;show T.cells b=[b];cases b<;>first|rfl|grind [T.scalar]
def mapM_some{j k:Type}(c:j->aa k):∀{a:List j} {d:List k},a.mapM c=some d->d.length=a.length/\∀(h:Nat) i,a[h]? =some i->∃e,d[h]? =some e/\c i=some e:=by
 intro a;induction a with
 |nil=>simp
 |cons l a m=>
  intro d b;rw[List.mapM_cons]at b;cases f:c l with
  |none=>rw[f]at b;grind
  |some e=>
   rw[f]at b;cases g:a.mapM c with
   |none=>rw[g]at b;grind
   |some n=>
    rw[g]at b
    grind
def FM{f:World}{g d:Nat}{e:Addr}{c:List am}(b:f.cells? g e d=some c):c.length=d/\∀a,a<d->f.cell? (e.add a)=c[a]? :=by
 unfold World.cells? at b;split at b
 ·have⟨l,h⟩:=mapM_some _ b;refine⟨by grind,λa k=>?_⟩;have⟨m,i,j⟩:=h a a (by rw[List.getElem?_range k]);rw[i];exact j
 grind
def KX{w:World}{a:Addr}{n:Nat}{d:am}(c:w.cell? (a.add n)=some d):∃b t fz,w.heap[a.block]? =some (.cells b t fz)/\b[a.off+n]? =some d:=by
 unfold World.cell? at c;have e:(a.add n).block=a.block:=by unfold Addr.add;split<;>rfl
 have f:(a.add n).off=a.off+n:=by unfold Addr.add;split<;>simp_all
 rw[e,f]at c
 grind
def cell_spot{d:World}{a:Addr}{c:am}(b:d.cell? a=some c):a.spot=none:=by
 unfold World.cell? at b;split at b
 ·simp_all
 grind
def We{b a c:Nat}(e:0<a)(d:b+(a-1)<c):b+a<=c:=D 
def Wq{ag:Bool}{d:Nat}(g:ag=false->d=1):∀{a:List (List T)},(∀c∈a,c.length=d/\∀b∈c,xE b)->(∀b∈a.map (xC ag),b.cells.length=d)/\gH (a.map (xC ag))=a.flatten:=by
 intro a;induction a with
 |nil=>intro _;exact⟨λb h=>by grind,rfl⟩
 |cons c a j=>
  intro e;have⟨m,n⟩:=j λk i=>e k (List.mem_cons_of_mem _ i);have f:=e c Y;have l:=Hg f.1 g f.2;refine⟨λb h=>?_,?_⟩
  ·grind
  grind [nc]
def Vw{y n J:Nat}{L:List T->Prop}(bC:P.underlying t=some (.slice y))(dn:P.cellsOf t=1)(cX:P.bytesOf y=J)(bi:Rd P y n L)(ey:1<=n)(ag:Bool)(av:ag=false->n=1):
 Rd P t 1 λq=>∃es:List (List T),q=[sl (es.map (xC ag))]/\es.length*J<=140737488351232/\∀b∈es,L b:=by
 refine⟨dn,λH cp w X eb c7 al ca d p h bH=>?_⟩;have ea:∀es:List (List T),(∀b∈es,b.length=n/\∀v∈b,xE v)->xE (sl (es.map (xC ag))):=by
  intro es O;cases es with
  |nil=>exact⟨rfl,.iO⟩
  |cons b es=>
   refine⟨rfl,.ed _ _ λv l=>?_⟩;obtain⟨x,s,rfl⟩:=List.mem_map.1 (show v∈(b::es).map (xC ag)from l);have aE:=O x s;cases ag with
   |true=>exact .agg _ λv l=>(aE.2 v l).2
   |false=>
    obtain⟨z,rfl⟩:=List.length_eq_one_iff.1 (aE.1.trans (av rfl));exact(aE.2 z Y).2
 cases al with
 |zero=>simp[DataW.trod]at h
 |succ al=>
  unfold DataW.trod at h;rw[bC]at h
  match ca,h with
  | [.slice none 0 0],h=>exact⟨[sl []],iJ.one (.iO _ _),λv l=>by simp at l;subst l;exact⟨rfl,.iO⟩,rfl,[],rfl,Y,λb c=>by simp at c⟩
  | [.slice (some a) I b8],h=>
   simp only at h;split at h
   ·rename_i Q;obtain⟨er,dm,et⟩:=Q;obtain⟨a7,c6,V⟩:=Option.bind_eq_some_iff.1 h;obtain⟨a6,_,V⟩:=Option.map_eq_some_iff.1 V;simp only[aB]at V;obtain⟨c4,_⟩:=V;obtain⟨hl,dd⟩:=mapM_some _ c6;have bN:d.weights P t=((a7.map (·.1)).length+(a6.map (·.1)).length)*P.bytesOf y::(DataW.weightsAll P y (a7.map (·.1))++DataW.weightsAll P y (a6.map (·.1))):=by
     rw[<-c4,DataW.weights,bC]
    have bu:I*J<=140737488351232:=by
     have E:=bH _ (by rw[bN];exact List.mem_cons_self ..);simp only[aG,hl,dI,cX]at E;have M:I*J<=(I+a6.length)*J:=aV J D;have N:reachBytes=140737488351232:=rfl;omega
    have ec:∀(j:List (DataW H)) (x:DataW H),x∈j->∀b∈x.weights P y,b∈DataW.weightsAll P y j:=by
     intro j;induction j with
     |nil=>intro x s;simp at s
     |cons a j aN=>
      intro x s b c;rw[DataW.weightsAll];rcases List.mem_cons.1 s with rfl|s
      ·exact dt _ c
      ·exact dK _ (aN x s b c)
    have dv:∀i,i<I->∃q:List T,∃j,w.cells? X (a.add (i*n)) n=some j/\iJ w.heap oL q j/\(∀v∈q,xE v)/\q.length=n/\L q:=by
     intro i hi;obtain⟨x,s,c9⟩:=dd i i (by rw[List.getElem?_range hi]);obtain⟨j,bs,dk⟩:=Option.bind_eq_some_iff.1 c9;obtain⟨Z,bT⟩:=x;rw[bi.1]at bs;obtain⟨q,E,M,N,an⟩:=bi.2 H cp w X eb c7 al j Z bT dk λb c=>bH b (by
      rw[bN];exact List.mem_cons_of_mem _ (dt _ (ec _ Z (List.mem_map.2 ⟨(Z,bT),ay s,rfl⟩) b c)))
     exact⟨q,j,bs,E,M,N,an⟩
    have bX:∀u,u<=I->∃es:List (List T),es.length=u/\∀i b,es[i]? =some b->∃j,w.cells? X (a.add (i*n)) n=some j/\iJ w.heap oL b j/\(∀v∈b,xE v)/\b.length=n/\L b:=by
     intro u;induction u with
     |zero=>intro _;exact⟨[],rfl,λi b c=>by simp at c⟩
     |succ u aN=>
      intro eu;obtain⟨es,F,K⟩:=aN D;obtain⟨q,j,ds⟩:=dv u D;refine⟨es++[q],by simp[F],λi b c=>?_⟩;rcases aS i u with hi|hi
      ·rw[cv D]at c;exact K i b c
      ·have:i=u:=by
        rcases aS u i with h|h
        ·rw[bP (by simp[F];omega)]at c;simp at c
        ·omega
       subst this;rw[cZ D,F]at c;simp at c;subst c;exact⟨j,ds⟩
    obtain⟨es,F,K⟩:=bX I (au _);have O:∀b∈es,b.length=n/\∀v∈b,xE v:=λb c=>by
     obtain⟨i,hi⟩:=cN c;obtain⟨j,_,_,M,N,_⟩:=K i b hi;exact⟨N,M⟩
    have cL:∀b∈es,L b:=λb c=>by
     obtain⟨i,hi⟩:=cN c;obtain⟨j,_,_,M,N,an⟩:=K i b hi;exact an
    refine⟨[sl (es.map (xC ag))],iJ.one ?_,λv l=>by simp at l;subst l;exact ea es O,rfl,es,rfl,?_,cL⟩
    ·cases es with
     |nil=>
      simp at F;subst F;exact .iO _ _
     |cons f e=>
      obtain⟨S,eh⟩:=Wq (ag:=ag) av O;obtain⟨l0,b6,r0,eC,eA,_⟩:=K 0 f rfl;have a8:=FM b6;rw[Nat.zero_mul,show a.add 0=a by simp[Addr.add]]at a8;have aA:=a8.2 0 D;have di:0<l0.length:=D;rw[show a.add 0=a by simp[Addr.add],az di]at aA;have bB:=cell_spot aA;obtain⟨B,ty,fz,Q,_⟩:=KX (w:=w) (a:=a) (n:=0) (by rw[show a.add 0=a by simp[Addr.add]];exact aA);obtain⟨R,off,eE⟩:=a;simp only at bB Q;subst bB;have b9:∀i b o v,(f::e)[i]? =some b->b[o]? =some v->∃r,B[off+(i*n+o)]? =some r/\gW w.heap oL v r:=by
       intro i b o v c l;obtain⟨j,b7,r1,eD,eB,_⟩:=K i b c;have c1:=FM b7;have U:o<n:=by
        rcases aS o n with h|h
        ·exact h
        ·rw[bP D]at l;simp at l
       have bA:o<j.length:=D;have E:=c1.2 o U;rw[az bA]at E;have cb:((⟨R,off,none⟩:Addr).add (i*n)).add o=(⟨R,off,none⟩:Addr).add (i*n+o):=by
        unfold Addr.add;by_cases aX:i*n=0
        ·simp[aX]
        ·by_cases bW:o=0
         ·subst bW;simp[aX]
         ·simp[aX,bW,cV]
       rw[cb]at E;obtain⟨ef,eF,eo,m,C⟩:=KX E;rw[show w.heap[R]? =some (.cells B ty fz)from Q]at m;simp only[ar,Obj.cells.injEq]at m;obtain⟨rfl,_,_⟩:=m;refine⟨_,C,?_⟩;have:=r1.2 o v l;rw[bQ,az bA]at this;exact this
      have ae:∀k v,(gH ((f::e).map (xC ag)))[k]? =some v->∃r,B[off+k]? =some r/\gW w.heap oL v r/\xE v:=by
       intro k v A;have de:k<((f::e).map (xC ag)).length*n:=by
        rw[<-iS S];rcases aS k (gH ((f::e).map (xC ag))).length with h|h
        ·exact h
        ·rw[bP h]at A;simp at A
       have hi:k/n<(f::e).length:=by
        rw[Nat.div_lt_iff_lt_mul D];simpa using de
       have c:(f::e)[k/n]? =some (f::e)[k/n]:=az hi;have W:=O _ (aC hi);have U:k% n<((f::e)[k/n]).length:=by rw[W.1];exact Nat.mod_lt _ D
       have bS:((f::e)[k/n])[k% n]? =some ((f::e)[k/n])[k% n]:=az U;have bn:=flat_get (es:=(f::e).map (xC ag)) S (i:=k/n) (k:=k% n) (v:=xC ag (f::e)[k/n]) (z:=((f::e)[k/n])[k% n]) (by rw[aR,c];rfl) (by rw[Hg W.1 av W.2];exact bS);have bp:k/n*n+k% n=k:=by rw[Nat.mul_comm];exact Nat.div_add_mod k n
       rw[bp]at bn;rw[bn]at A;simp only[ar]at A;obtain⟨r,m,C⟩:=b9 _ _ _ _ c bS;rw[bp]at m;exact⟨r,m,A▸C,A▸W.2 _ (aC U)⟩
      have bu:e.length+1=I:=by simpa using F
      subst bu;show gW w.heap oL (.ed (xC ag f::e.map (xC ag)) false) _;have:=gW.ed (hp:=w.heap) (μ:=oL) (xC ag f) (e.map (xC ag)) false R off b8 n B ty fz (Wc _) Q (by simpa using dm) Y S ?_ ?_ ?_
      ·simpa using this
      ·show off+(gH ((f::e).map (xC ag))).length<=B.size;have cF:0<(gH ((f::e).map (xC ag))).length:=by rw[iS S];exact Nat.mul_pos Y D
       obtain⟨r,m,_⟩:=ae ((gH ((f::e).map (xC ag))).length-1) _ (az D);have C:off+((gH ((f::e).map (xC ag))).length-1)<B.size:=by
        rcases aS (off+((gH ((f::e).map (xC ag))).length-1)) B.size with ap|ap
        ·exact ap
        ·rw[Array.getElem?_eq_none ap]at m;simp at m
       exact We cF C
      ·intro v l;obtain⟨i,hi⟩:=cN l;obtain⟨_,_,_,g⟩:=ae i v hi;exact g
      ·intro k v A;obtain⟨r,m,C,_⟩:=ae k v A;rw[cd,m];exact C
    grind
   grind
inductive RdF (P:ai):List Field->Nat->List (List T->Prop)->Prop where
 |nil (o:Nat):RdF P [] o []
 |cons (f:Field) (fs:List Field) (o n:Nat) (Q:List T->Prop) (Qs:List (List T->Prop)) (ho:f.offset=o) (h:Rd P f.type n Q) (r:RdF P fs (o+n) Qs):RdF P (f::fs) o (Q::Qs)
inductive RdP (P:ai):List (Nat×ab)->Nat->List (List T->Prop)->Prop where
 |nil (o:Nat):RdP P [] o []
 |cons (o t:Nat) (ps:List (Nat×ab)) (o' n:Nat) (Q:List T->Prop) (Qs:List (List T->Prop)) (ho:o=o') (h:Rd P t n Q) (r:RdP P ps (o'+n) Qs):RdP P ((o,t)::ps) o' (Q::Qs)
inductive QO:List (List T->Prop)->List T->Prop where
 |nil:QO [] []
 |cons (Q:List T->Prop) (Qs:List (List T->Prop)) (a b:List T) (h:Q a) (r:QO Qs b):QO (Q::Qs) (a++b)
def Rw{H:Type}{n:ab×am->H}{k:World}{m:Nat}{r:Nat->Bool}{p:Bool}{o:Nat}{c:List am}:∀{e:List Field} {b:Nat} {l:List (List T->Prop)},RdF P e b l->∀{s:List (DataW H×List MemPlace)},b<=c.length->
 (e.mapM λa=>DataW.trod n P k m r p o a.type ((c.drop a.offset).take (P.cellsOf a.type)))=some s->(∀d∈DataW.weightsEach P (e.map (·.type)) (s.map (·.1)),d<=reachBytes)->∃h:List T,∃g,iJ k.heap oL h ((c.drop b).take g)/\(∀v∈h,xE v)/\h.length=g/\QO l h:=by
 intro e b l C;induction C with
 |nil b=>intro s y u _;exact⟨[],0,by simp[iJ.nil],λv F=>by grind,rfl,.nil⟩
 |cons a e b j O l y u V J=>
  intro s R f I;rw[List.mapM_cons]at f;cases q:DataW.trod n P k m r p o a.type ((c.drop a.offset).take (P.cellsOf a.type))with
  |none=>rw[q]at f;grind
  |some w=>
   rw[q]at f;cases hr:(e.mapM λa=>DataW.trod n P k m r p o a.type ((c.drop a.offset).take (P.cellsOf a.type)))with
   |none=>rw[hr]at f;grind
   |some N=>
    rw[hr]at f;simp at f;subst f;rw[u.1,y]at q;have z:∀d∈w.1.weights P a.type++DataW.weightsEach P (e.map (·.type)) (N.map (·.1)),d<=reachBytes:=by
     intro d i;exact I d (by simpa[DataW.weightsEach]using i)
    have⟨h,x,Q,A,B⟩:=u.2 H n k m r p o _ w.1 w.2 q λd i=>z d (dt _ i);have E:b+j<=c.length:=by
     have:=x.1;rw[A,List.length_take,List.length_drop]at this;omega
    have⟨M,g,K,S,U,L⟩:=J E hr λd i=>z d (dK _ i);refine⟨h++M,j+g,?_,λv F=>?_,by grind,.cons _ _ _ _ B L⟩
    ·have:=iJ.append x K;rwa[show(c.drop b).take j++(c.drop (b+j)).take g=(c.drop b).take (j+g)by rw[List.take_add,dg]]at this
    grind
def Rt{f:af Field}{e:Nat}{d:List (List T->Prop)}(k:P.underlying t=some (.struct f))(j:P.cellsOf t=e)(n:RdF P f.toList 0 d)(o:∀a,QO d a->a.length=e):Rd P t e λa=>QO d a:=by
 refine⟨j,λH w E s C y g u v B b p=>?_⟩;cases g with
 |zero=>simp[DataW.trod]at b
 |succ g=>
  unfold DataW.trod at b;rw[k]at b;simp only at b;split at b
  ·rename_i hl;obtain⟨F,q,c⟩:=Option.map_eq_some_iff.1 b;simp only[aB]at c;obtain⟨c,_⟩:=c;obtain⟨a,A,h,l,x,i⟩:=Rw n (aw _) q λr z=>p r (by
    rw[<-c,DataW.weights,k];omega)
   have m:=o a i;refine⟨a,?_,l,m,i⟩;rw[List.drop_zero,bL (by rw[hl,j];omega)]at h;exact h
  grind
def Rd.imp{e:Nat}{b c:List T->Prop}(d:Rd P t e b)(v:∀a,b a->c a):Rd P t e c:=⟨d.1,λH i p f o l j g h n k m=>by
 have⟨a,q,r,s,u⟩:=d.2 H i p f o l j g h n k m
 grind⟩
def QO.ES{a:List T}(b:QO [] a):a=[]:=by cases b;rfl
def QO.inv{c:List T->Prop}{d:List (List T->Prop)}{f:List T}(e:QO (c::d) f):∃a b,f=a++b/\c a/\QO d b:=by
 cases e with|cons _ _ a b e g=>grind
def R7{e j:Type}{f:e->j}{p:e->Prop}:∀{b:List j},(∀d∈b,∃a,d=f a/\p a)->∃c:List e,b=c.map f/\∀a∈c,p a:=by
 intro b;induction b with
 |nil=>simp
 |cons d b k=>
  intro g;obtain⟨a,rfl,m⟩:=g d Y;obtain⟨c,rfl,l⟩:=k λi h=>g i (List.mem_cons_of_mem _ h);exact⟨a::c,rfl,λi h=>by grind⟩
def Ar{ty:Ty}(a:xm P t ty):P.cellsOf t=ty.size:=by
 have⟨e,d,f,b,_,_,_,_,_,_,c,_⟩:=a.unfold;unfold Program.cellsOf;rw[b];exact c
def M4{ty:Ty}(a:xm P t ty):P.bytesOf t=ty.bytes:=by
 have⟨e,d,f,b,_,_,_,_,_,_,_,c,_⟩:=a.unfold;unfold Program.bytesOf;rw[b];exact c
variable {cx:Ctx}{ty:Ty}
def Rv(jQ:jF P cx)(e:cx.ty t=some ty){c:ak}(h:ty.u= .int c)(g:ty.size=1):Rd P t 1 λf=>∃a:Int,f=[.int c a]/\(c.min<=a/\a<=c.max):=by
 have⟨i,d,b⟩:=lP (jQ.ty _ _ e);rw[h]at b;exact(adq (by rw[d,yx b]) (by rw[Ar (jQ.ty _ _ e),g])).imp λf ⟨a,d,b⟩=>⟨a,d,b⟩
def Ru(jQ:jF P cx)(k:cx.ty t=some ty){g i:Nat}{l:Ty}(x:ty.u= .slice g)(v:ty.size=1)(w:cx.ty g=some l){d:Type}{h:d->List T}{p:d->Prop}(o:Rd P g i λc=>∃a,c=h a/\p a)(s:1<=i)(e:Bool)(n:e=false->i=1){f:d->T}(A:∀a,xC e (h a)=f a):
 Rd P t 1 λc=>∃b:List d,c=[sl (b.map f)]/\(b.length*l.bytes<=140737488351232/\∀a∈b,p a):=by
 have⟨y,m,j⟩:=lP (jQ.ty _ _ k);rw[x]at j;refine(Vw (by rw[m,mV j]) (by rw[Ar (jQ.ty _ _ k),v]) (M4 (jQ.ty _ _ w)) o s e n).imp ?_;rintro c ⟨z,rfl,hl,q⟩;obtain⟨b,rfl,r⟩:=R7 (f:=h) (p:=p) q;refine⟨b,?_,by grind,r⟩;rw[List.map_map];congr 2;simp_all
def Zs:∀{b:List Field} {c:Nat} {e:List (Nat×ab)} {a:List (List T->Prop)},e=b.map (λd=>(d.offset,d.type))->RdP P e c a->RdF P b c a:=by
 intro b;induction b with
 |nil=>intro c e a f g;subst f;cases g;exact .nil _
 |cons d b k=>
  intro c e a f g;subst f;cases g with|cons _ _ _ _ l h a i j m=>exact .cons d b c l h a i j (k rfl m)
def Pq(jQ:jF P cx)(d:cx.ty t=some ty){e:List (Nat×ab)}{n:Nat}{b:List (List T->Prop)}(k:ty.u= .struct e)(j:ty.size=n)(h:RdP P e 0 b)(i:∀a,QO b a->a.length=n):Rd P t n λa=>QO b a:=by
 have⟨l,f,c⟩:=lP (jQ.ty _ _ d);rw[k]at c;obtain⟨m,rfl,g⟩:=tU c;exact Rt f (by rw[Ar (jQ.ty _ _ d),j]) (Zs g.1 h) i
end
def FN{P:ai}{cx:Ctx}{d:aj}{j:Func}{c:Code}{l:List T}{g:af am}(q:P.funcs[d]? =some j)(v:(j.name== "runtime.NumGoroutine")=false)(a:j.body=some c)
 (w:mp P cx d l (.bool true)) (W:World) (s:∀n m,cx.gl n=some m->gW W.heap oL (.j9 m) (.pointer (some ⟨n,0,none⟩))) (r:iJ W.heap oL l g.toList):
 Calls P d g W λi k=>i= .returned (.bool true)/\RowKit.Below W.heap.size W k:=by
 have z:St cx W.heap.size W.heap oL ⟨0,0,[]⟩:=
  ⟨rfl,au _,λf e a=>by grind [oL],λf C e B a=>by simp[oL],λf e a=>by grind [oL],λf e a=>by simp[oL],λE hr=>hr.elim,s⟩
 have h:=w W.heap.size W oL g ⟨0,0,[]⟩ z r;rw[pH q v a]at h;have h:Calls P d g W λ
  | .returned p,A=>sS cx W.heap.size W oL ⟨0,0,[]⟩ (.bool true) ⟨0,0,[]⟩ p A
  |_,_=>False:=h
 refine h.mono λi k o=>?_;cases i with
 |returned p=>
  obtain⟨⟨I,y,F,b,H⟩,_⟩:=o;refine⟨by rw[y.sk],b.os,b.tape,b.output,b.ext.size,λx u=>(b.ext.o7 x u ?_).1⟩;rintro(⟨f,e,a,_⟩|hr)
  ·grind [oL]
  ·exact hr
 |_=>exact o.elim
def Jo{e:af Obj}{a:List T}{b:am}(f:iJ e oL a b.cells.toList)(g:∀c∈a,xE c)(h:∃d,b= .agg d):gW e oL (.agg a) b:=by
 obtain⟨d,rfl⟩:=h;exact gW.zJ f λc i=>(g c i).1
def Rq{d:af Obj}{e:T}{a:am}(b:iJ d oL [e] a.cells.toList)(f:a.cells= #[a]):gW d oL e a:=by
 rw[f]at b;have⟨g,h,c,hr,_⟩:=b.nl;simp at c;rw[c.1];exact hr
