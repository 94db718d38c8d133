/- TiArg -/
import Derived.Test.YtnfojkibhgjfmaaGreatDoorA27
import Derived.Test.YtnfojkibhgjfmaaGreatDoorA5
set_option linter.all false
namespace Go.TI
noncomputable section
section
def YE(a:Nat):¬pV pM a:=by
 rintro(⟨c,b,d,_⟩|hr)
 grind [pM]
 exact hr
def Rd(P:ai)(t d:Nat)(f:List T->Prop):Prop:=P.cellsOf t=d/\∀(H:Type) (h:ab×am->H) (e:World) (g:Nat) (l:Nat->Bool) (j:Bool) (i:Nat) (b:List am) (c:DataW H) (k:List MemPlace),
 DataW.trod h P e g l j i t b=D (c,k)->(∀n∈c.weights P t,n<=reachBytes)->∃a,jc e.heap pM a b/\(∀m∈a,yR m)/\a.length=d/\f a
section
variable {P:ai}{t:Nat}
def jc.one{b:af Obj}{d:Mu}{c:T}{a:am}(h:iu b d c a):jc b d [c] [a]:=jc.cons h jc.nil
def afE{c:ak}(k:P.underlying t=D (.int c))(j:P.cellsOf t=1):Rd P t 1 λm=>∃b,m=[.int c b]/\c.min<=b/\b<=c.max:=by
 refine⟨j,λH p w n u q d f o s a r=>?_⟩;rcases d with _|d
 simp[DataW.trod]at a;unfold DataW.trod at a;rw[k]at a
 match f,a with
 | [.int l b],a=>
  simp only[Lit.wf,aC,aO]at a;split at a;rename_i i;obtain⟨rfl,g,h⟩:=i;exact⟨[.int l b],jc.one (.int _ _),λv e=>by simp at e;subst e;exact⟨rfl,.int _ _⟩,rfl,b,rfl,g,h⟩
  grind
def yP(b:Bool)(a:List T):T:=if b=true then .eQ a else aaU a
def I3{c:Bool}{a:List T}{d:Nat}(hl:a.length=d)(e:c=false->d=1)(f:∀g∈a,yR g):(yP c a).cells=a:=by
 cases c;have:=e rfl;subst this;obtain⟨b,rfl⟩:=List.length_eq_one_iff.1 hl;have h:=(f b V).1;show T.cells b=[b];cases b<;>first|rfl|grind [T.scalar]
 rfl
def mapM_some{j k:Type}(c:j->aa k):∀{a:List j} {d:List k},a.mapM c=D d->d.length=a.length/\∀(h:Nat) i,a[h]? =D i->∃e,d[h]? =D e/\c i=D e:=by
 intro a;induction a with
 |nil=>simp
 |cons l a m=>
  intro d b;rw[List.mapM_cons]at b;rcases f:c l with _|e
  rw[f]at b;grind;rw[f]at b;rcases g:a.mapM c with _|n
  rw[g]at b;grind;rw[g]at b
  grind
def HK{f:World}{g d:Nat}{e:Addr}{c:List am}(b:f.cells? g e d=D c):c.length=d/\∀a,a<d->f.cell? (e.add a)=c[a]? :=by
 unfold World.cells? at b;split at b;have⟨l,h⟩:=mapM_some _ b;refine⟨by grind,λa k=>?_⟩;have⟨m,i,j⟩:=h a a (by rw[List.getElem?_range k]);rw[i];exact j
 grind
def MU{w:World}{a:Addr}{n:Nat}{d:am}(c:w.cell? (a.add n)=D d):∃b t fz,w.heap[a.block]? =D (.cells b t fz)/\b[a.off+n]? =D d:=by
 unfold World.cell? at c;have e:(a.add n).block=a.block:=by unfold Addr.add;split<;>rfl
 have f:(a.add n).off=a.off+n:=by unfold Addr.add;split<;>simp_all
 rw[e,f]at c
 grind
def cell_spot{d:World}{a:Addr}{c:am}(b:d.cell? a=D c):a.spot=none:=by
 unfold World.cell? at b;split at b;simp_all
 grind
def YH{b a c:Nat}(e:0<a)(d:b+(a-1)<c):b+a<=c:=G 
def YT{ag:Bool}{d:Nat}(g:ag=false->d=1):∀{a:List (List T)},(∀c∈a,c.length=d/\∀b∈c,yR b)->(∀b∈a.map (yP ag),b.cells.length=d)/\ir (a.map (yP ag))=a.flatten:=by
 intro a;induction a with
 |nil=>intro _;exact⟨λb h=>by grind,rfl⟩
 |cons c a j=>
  intro e;have⟨m,n⟩:=j λk i=>e k (List.mem_cons_of_mem _ i);have f:=e c V;have l:=I3 f.1 g f.2;refine⟨λb h=>?_,?_⟩
  grind
  grind [nU]
def XV{y n K:Nat}{M:List T->Prop}(bN:P.underlying t=D (.slice y))(ds:P.cellsOf t=1)(c1:P.bytesOf y=K)(bn:Rd P y n M)(eA:1<=n)(ag:Bool)(av:ag=false->n=1):
 Rd P t 1 λq=>∃es:List (List T),q=[sl (es.map (yP ag))]/\es.length*K<=140737488351232/\∀b∈es,M b:=by
 refine⟨ds,λH cv w Z ee c9 an cb d p h bS=>?_⟩;have ec:∀es:List (List T),(∀b∈es,b.length=n/\∀v∈b,yR v)->yR (sl (es.map (yP ag))):=by
  intro es Q;rcases es with _|⟨b,es⟩
  exact⟨rfl,.jb⟩;refine⟨rfl,.em _ _ λv l=>?_⟩;obtain⟨x,s,rfl⟩:=List.mem_map.1 (show v∈(b::es).map (yP ag)from l);have aE:=Q x s;cases ag;obtain⟨z,rfl⟩:=List.length_eq_one_iff.1 (aE.1.trans (av rfl));exact(aE.2 z V).2;exact .eQ _ λv l=>(aE.2 v l).2
 rcases an with _|an;simp[DataW.trod]at h;unfold DataW.trod at h;rw[bN]at h
 match cb,h with
 | [.slice none 0 0],h=>exact⟨[sl []],jc.one (.jb _ _),λv l=>by simp at l;subst l;exact⟨rfl,.jb⟩,rfl,[],rfl,V,V⟩
 | [.slice (some a) I b9],h=>
  dsimp at h
  split at h;rename_i R;obtain⟨et,dn,eu⟩:=R;obtain⟨a8,c7,X⟩:=Option.bind_eq_some_iff.1 h;obtain⟨a7,_,X⟩:=Option.map_eq_some_iff.1 X;simp[aI]at X;obtain⟨c6,_⟩:=X;obtain⟨hl,de⟩:=mapM_some _ c7;have bT:d.weights P t=((a8.map (·.1)).length+(a7.map (·.1)).length)*P.bytesOf y::(DataW.weightsAll P y (a8.map (·.1))++DataW.weightsAll P y (a7.map (·.1))):=by
   rw[<-c6,DataW.weights,bN]
  have bA:I*K<=140737488351232:=by
   have E:=bS _ (bT▸List.mem_cons_self ..);simp[aK,hl,dK,c1]at E;have N:I*K<=(I+a7.length)*K:=bD K G;have O:reachBytes=140737488351232:=rfl;omega
  have ef:∀(j:List (DataW H)) (x:DataW H),x∈j->∀b∈x.weights P y,b∈DataW.weightsAll P y j:=by
   intro j;induction j with
   |nil=>intro x s;simp at s
   |cons a j aN=>
    intro x s b c;rw[DataW.weightsAll];rcases List.mem_cons.1 s with rfl|s
    exact dz _ c;exact dM _ (aN x s b c)
  have eb:∀i,i<I->∃q:List T,∃j,w.cells? Z (a.add (i*n)) n=D j/\jc w.heap pM q j/\(∀v∈q,yR v)/\q.length=n/\M q:=by
   intro i hi;obtain⟨x,s,dd⟩:=de i i (by rw[List.getElem?_range hi]);obtain⟨j,bu,dm⟩:=Option.bind_eq_some_iff.1 dd;obtain⟨ae,bX⟩:=x;rw[bn.1]at bu;obtain⟨q,E,N,O,ap⟩:=bn.2 H cv w Z ee c9 an j ae bX dm λb c=>bS b (by
    rw[bT];exact List.mem_cons_of_mem _ (dz _ (ef _ ae (List.mem_map.2 ⟨(ae,bX),aD s,rfl⟩) b c)))
   exact⟨q,j,bu,E,N,O,ap⟩
  have b6:∀u,u<=I->∃es:List (List T),es.length=u/\∀i b,es[i]? =D b->∃j,w.cells? Z (a.add (i*n)) n=D j/\jc w.heap pM b j/\(∀v∈b,yR v)/\b.length=n/\M b:=by
   intro u;induction u with
   |zero=>intro _;exact⟨[],rfl,V⟩
   |succ u aN=>
    intro ey;obtain⟨es,F,L⟩:=aN G;obtain⟨q,j,ea⟩:=eb u G;refine⟨es++[q],by simp[F],λi b c=>?_⟩;rcases aW i u with hi|hi
    rw[cH G]at c;exact L i b c;have:i=u:=by
     rcases aW u i with h|h;rw[bY (by simp[F];omega)]at c;simp at c;omega
    subst this;rw[cZ G,F]at c;simp at c;subst c;exact⟨j,ea⟩
  obtain⟨es,F,L⟩:=b6 I (az _);have Q:∀b∈es,b.length=n/\∀v∈b,yR v:=λb c=>by
   obtain⟨i,hi⟩:=cU c;obtain⟨j,_,_,N,O,_⟩:=L i b hi;exact⟨O,N⟩
  have cX:∀b∈es,M b:=λb c=>by
   obtain⟨i,hi⟩:=cU c;obtain⟨j,_,_,N,O,ap⟩:=L i b hi;exact ap
  refine⟨[sl (es.map (yP ag))],jc.one ?_,λv l=>by simp at l;subst l;exact ec es Q,rfl,es,rfl,?_,cX⟩;rcases es with _|⟨f,e⟩;simp at F;subst F;exact .jb _ _;obtain⟨U,eo⟩:=YT (ag:=ag) av Q;obtain⟨l0,b7,r0,eD,eB,_⟩:=L 0 f rfl;have bi:=HK b7;rw[Nat.zero_mul,show a.add 0=a by simp[Addr.add]]at bi;have aA:=bi.2 0 G;have dk:0<l0.length:=G;rw[show a.add 0=a by simp[Addr.add],aF dk]at aA;have bH:=cell_spot aA;obtain⟨B,ty,fz,R,_⟩:=MU (w:=w) (a:=a) (n:=0) ((show a.add 0=a by simp[Addr.add])▸aA);obtain⟨S,off,eF⟩:=a
  dsimp at bH R
  subst bH;have ca:∀i b o v,(f::e)[i]? =D b->b[o]? =D v->∃r,B[off+(i*n+o)]? =D r/\iu w.heap pM v r:=by
   intro i b o v c l;obtain⟨j,b8,r1,eE,eC,_⟩:=L i b c;have c4:=HK b8;have W:o<n:=by
    rcases aW o n with h|h;exact h;rw[bY G]at l;simp at l
   have bC:o<j.length:=G;have E:=c4.2 o W;rw[aF bC]at E;have cp:((⟨S,off,none⟩:Addr).add (i*n)).add o=(⟨S,off,none⟩:Addr).add (i*n+o):=by
    unfold Addr.add;by_cases aX:i*n=0;simp[aX];by_cases bZ:o=0;subst bZ;simp[aX];simp[aX,bZ,db]
   rw[cp]at E;obtain⟨eh,eH,er,m,C⟩:=MU E;rw[show w.heap[S]? =D (.cells B ty fz)from R]at m;simp[ay,Obj.cells.injEq]at m;obtain⟨rfl,_,_⟩:=m;refine⟨_,C,?_⟩;have:=r1.2 o v l;rw[dy,aF bC]at this;exact this
  have al:∀k v,(ir ((f::e).map (yP ag)))[k]? =D v->∃r,B[off+k]? =D r/\iu w.heap pM v r/\yR v:=by
   intro k v A;have di:k<((f::e).map (yP ag)).length*n:=by
    rw[<-jg U];rcases aW k (ir ((f::e).map (yP ag))).length with h|h
    exact h;rw[bY h]at A;simp at A
   have hi:k/n<(f::e).length:=by
    rw[Nat.div_lt_iff_lt_mul G];simpa using di
   have c:(f::e)[k/n]? =D (f::e)[k/n]:=aF hi;have Y:=Q _ (aH hi);have W:k% n<((f::e)[k/n]).length:=by rw[Y.1];exact Nat.mod_lt _ G
   have bW:((f::e)[k/n])[k% n]? =D ((f::e)[k/n])[k% n]:=aF W;have bp:=flat_get (es:=(f::e).map (yP ag)) U (i:=k/n) (k:=k% n) (v:=yP ag (f::e)[k/n]) (z:=((f::e)[k/n])[k% n]) (by rw[br,c];rfl) (by rw[I3 Y.1 av Y.2];exact bW);have bs:k/n*n+k% n=k:=by rw[Nat.mul_comm];exact Nat.div_add_mod k n
   rw[bs]at bp;rw[bp]at A;simp[ay]at A;obtain⟨r,m,C⟩:=ca _ _ _ _ c bW;rw[bs]at m;exact⟨r,m,A▸C,A▸Y.2 _ (aH W)⟩
  have bA:e.length+1=I:=iD F;subst bA;show iu w.heap pM (.em (yP ag f::e.map (yP ag)) false) _;have:=iu.em (hp:=w.heap) (μ:=pM) (yP ag f) (e.map (yP ag)) false S off b9 n B ty fz (YE _) R (iD dn) V U ?_ ?_ ?_;simpa using this;show off+(ir ((f::e).map (yP ag))).length<=B.size;have cL:0<(ir ((f::e).map (yP ag))).length:=jg U▸Nat.mul_pos V G;obtain⟨r,m,_⟩:=al ((ir ((f::e).map (yP ag))).length-1) _ (aF G);have C:off+((ir ((f::e).map (yP ag))).length-1)<B.size:=by
   rcases aW (off+((ir ((f::e).map (yP ag))).length-1)) B.size with h9|h9;exact h9;rw[Array.getElem?_eq_none h9]at m;simp at m
  exact YH cL C;intro v l;obtain⟨i,hi⟩:=cU l;obtain⟨_,_,_,g⟩:=al i v hi;exact g;intro k v A;obtain⟨r,m,C,_⟩:=al k v A;rw[cC,m];exact C
  grind
  grind
inductive RdF (P:ai):List Field->Nat->List (List T->Prop)->Prop where
 |nil (o:Nat):RdF P [] o []
 |cons (f:Field) (fs:List Field) (o n:Nat) (Q:List T->Prop) (Qs:List (List T->Prop)) (ho:f.offset=o) (h:Rd P f.type n Q) (r:RdF P fs (o+n) Qs):RdF P (f::fs) o (Q::Qs)
inductive RdP (P:ai):List (Nat×ab)->Nat->List (List T->Prop)->Prop where
 |nil (o:Nat):RdP P [] o []
 |cons (o t:Nat) (ps:List (Nat×ab)) (o' n:Nat) (Q:List T->Prop) (Qs:List (List T->Prop)) (ho:o=o') (h:Rd P t n Q) (r:RdP P ps (o'+n) Qs):RdP P ((o,t)::ps) o' (Q::Qs)
inductive Tm:List (List T->Prop)->List T->Prop where
 |nil:Tm [] []
 |cons (Q:List T->Prop) (Qs:List (List T->Prop)) (a b:List T) (h:Q a) (r:Tm Qs b):Tm (Q::Qs) (a++b)
def T4{H:Type}{n:ab×am->H}{k:World}{m:Nat}{r:Nat->Bool}{p:Bool}{o:Nat}{c:List am}:∀{e:List Field} {b:Nat} {l:List (List T->Prop)},RdF P e b l->∀{s:List (DataW H×List MemPlace)},b<=c.length->
 (e.mapM λa=>DataW.trod n P k m r p o a.type ((c.drop a.offset).take (P.cellsOf a.type)))=D s->(∀d∈DataW.weightsEach P (e.map (·.type)) (s.map (·.1)),d<=reachBytes)->∃h:List T,∃g,jc k.heap pM h ((c.drop b).take g)/\(∀v∈h,yR v)/\h.length=g/\Tm l h:=by
 intro e b l C;induction C with
 |nil b=>intro s y u _;exact⟨[],0,by simp[jc.nil],λv F=>by grind,rfl,.nil⟩
 |cons a e b j Q l y u X K=>
  intro s S f I;rw[List.mapM_cons]at f;cases q:DataW.trod n P k m r p o a.type ((c.drop a.offset).take (P.cellsOf a.type))with
  |none=>rw[q]at f;grind
  |some w=>
   rw[q]at f;cases hr:(e.mapM λa=>DataW.trod n P k m r p o a.type ((c.drop a.offset).take (P.cellsOf a.type)))with
   |none=>rw[hr]at f;grind
   |some O=>
    rw[hr]at f;simp at f;subst f;rw[u.1,y]at q;have z:∀d∈w.1.weights P a.type++DataW.weightsEach P (e.map (·.type)) (O.map (·.1)),d<=reachBytes:=by
     intro d i;exact I d (by simpa[DataW.weightsEach]using i)
    have⟨h,x,R,A,B⟩:=u.2 H n k m r p o _ w.1 w.2 q λd i=>z d (dz _ i);have E:b+j<=c.length:=by
     have:=x.1;rw[A,List.length_take,List.length_drop]at this;omega
    have⟨N,g,L,U,W,M⟩:=K E hr λd i=>z d (dM _ i);refine⟨h++N,j+g,?_,λv F=>?_,by grind,.cons _ _ _ _ B M⟩;have:=jc.append x L;rwa[show(c.drop b).take j++(c.drop (b+j)).take g=(c.drop b).take (j+g)by rw[List.take_add,du]]at this
    grind
def T1{f:af Field}{e:Nat}{d:List (List T->Prop)}(k:P.underlying t=D (.struct f))(j:P.cellsOf t=e)(n:RdF P f.toList 0 d)(o:∀a,Tm d a->a.length=e):Rd P t e λa=>Tm d a:=by
 refine⟨j,λH w E s C y g u v B b p=>?_⟩;rcases g with _|g
 simp[DataW.trod]at b;unfold DataW.trod at b;rw[k]at b
 dsimp at b
 split at b;rename_i hl;obtain⟨F,q,c⟩:=Option.map_eq_some_iff.1 b;simp[aI]at c;obtain⟨c,_⟩:=c;obtain⟨a,A,h,l,x,i⟩:=T4 n (aB _) q λr z=>p r (by
  rw[<-c,DataW.weights,k];omega)
 have m:=o a i;refine⟨a,?_,l,m,i⟩;rw[List.drop_zero,bR (by rw[hl,j];omega)]at h;exact h
 grind
def Rd.imp{e:Nat}{b c:List T->Prop}(d:Rd P t e b)(v:∀a,b a->c a):Rd P t e c:=⟨d.1,λH i p f o l j g h n k m=>by
 have⟨a,q,r,s,u⟩:=d.2 H i p f o l j g h n k m
 grind⟩
def Tm.GV{a:List T}(b:Tm [] a):a=[]:=by cases b;rfl
def Tm.inv{c:List T->Prop}{d:List (List T->Prop)}{f:List T}(e:Tm (c::d) f):∃a b,f=a++b/\c a/\Tm d b:=by cases e with|cons _ _ a b e g=>grind
def Uz{e j:Type}{f:e->j}{p:e->Prop}:∀{b:List j},(∀d∈b,∃a,d=f a/\p a)->∃c:List e,b=c.map f/\∀a∈c,p a:=by
 intro b;induction b with
 |nil=>simp
 |cons d b k=>
  intro g;obtain⟨a,rfl,m⟩:=g d V;obtain⟨c,rfl,l⟩:=k λi h=>g i (List.mem_cons_of_mem _ h);exact⟨a::c,rfl,λi h=>by grind⟩
def BP{ty:Ty}(a:yB P t ty):P.cellsOf t=ty.size:=by have⟨e,d,f,b,_,_,_,_,_,_,c,_⟩:=a.unfold;unfold Program.cellsOf;rw[b];exact c
def Pi{ty:Ty}(a:yB P t ty):P.bytesOf t=ty.bytes:=by have⟨e,d,f,b,_,_,_,_,_,_,_,c,_⟩:=a.unfold;unfold Program.bytesOf;rw[b];exact c
variable {cx:Ctx}{ty:Ty}
def T3(j9:jP P cx)(e:cx.ty t=D ty){c:ak}(h:ty.u= .int c)(g:ty.size=1):Rd P t 1 λf=>∃a:Int,f=[.int c a]/\(c.min<=a/\a<=c.max):=by have⟨i,d,b⟩:=lN (j9.ty _ _ e);rw[h]at b;exact(afE (by rw[d,Ap b]) (by rw[BP (j9.ty _ _ e),g])).imp λf ⟨a,d,b⟩=>⟨a,d,b⟩
def T2(j9:jP P cx)(k:cx.ty t=D ty){g i:Nat}{l:Ty}(x:ty.u= .slice g)(v:ty.size=1)(w:cx.ty g=D l){d:Type}{h:d->List T}{p:d->Prop}(o:Rd P g i λc=>∃a,c=h a/\p a)(s:1<=i)(e:Bool)(n:e=false->i=1){f:d->T}(A:∀a,yP e (h a)=f a):
 Rd P t 1 λc=>∃b:List d,c=[sl (b.map f)]/\(b.length*l.bytes<=140737488351232/\∀a∈b,p a):=by
 have⟨y,m,j⟩:=lN (j9.ty _ _ k);rw[x]at j;refine(XV (by rw[m,nJ j]) (by rw[BP (j9.ty _ _ k),v]) (Pi (j9.ty _ _ w)) o s e n).imp ?_;rintro c ⟨z,rfl,hl,q⟩;obtain⟨b,rfl,r⟩:=Uz (f:=h) (p:=p) q;refine⟨b,?_,by grind,r⟩;rw[List.map_map];congr 2;simp_all
def abE:∀{b:List Field} {c:Nat} {e:List (Nat×ab)} {a:List (List T->Prop)},e=b.map (λd=>(d.offset,d.type))->RdP P e c a->RdF P b c a:=by
 intro b;induction b with
 |nil=>intro c e a f g;subst f;cases g;exact .nil _
 |cons d b k=>
  intro c e a f g;subst f;cases g with|cons _ _ _ _ l h a i j m=>exact .cons d b c l h a i j (k rfl m)
def RD(j9:jP P cx)(d:cx.ty t=D ty){e:List (Nat×ab)}{n:Nat}{b:List (List T->Prop)}(k:ty.u= .struct e)(j:ty.size=n)(h:RdP P e 0 b)(i:∀a,Tm b a->a.length=n):Rd P t n λa=>Tm b a:=by have⟨l,f,c⟩:=lN (j9.ty _ _ d);rw[k]at c;obtain⟨m,rfl,g⟩:=uX c;exact T1 f (by rw[BP (j9.ty _ _ d),j]) (abE g.1 h) i
end
def HL{P:ai}{cx:Ctx}{d:aj}{j:Func}{c:Code}{l:List T}{g:af am}(q:P.funcs[d]? =D j)(v:(j.name== "runtime.NumGoroutine")=false)(a:j.body=D c)
 (w:mT P cx d l (.ej true)) (W:World) (s:∀n m,cx.gl n=D m->iu W.heap pM (.kA m) (.pointer (some ⟨n,0,none⟩))) (r:jc W.heap pM l g.toList):
 Calls P d g W λi k=>i= .returned (.bool true)/\RowKit.Below W.heap.size W k:=by
 have z:St cx W.heap.size W.heap pM ⟨0,0,[]⟩:=
  ⟨rfl,az _,λf e a=>by grind [pM],λf C e B a=>by simp[pM],λf e a=>by grind [pM],λf e a=>by simp[pM],λE hr=>hr.elim,s⟩
 have h:=w W.heap.size W pM g ⟨0,0,[]⟩ z r;rw[qx q v a]at h;have h:Calls P d g W λ
  | .returned p,A=>ut cx W.heap.size W pM ⟨0,0,[]⟩ (.ej true) ⟨0,0,[]⟩ p A
  |_,_=>False:=h
 refine h.mono λi k o=>?_;cases i with
 |returned p=>
  obtain⟨⟨I,y,F,b,H⟩,_⟩:=o;refine⟨by rw[y.tU],b.os,b.tape,b.output,b.ext.size,λx u=>(b.ext.qd x u ?_).1⟩;rintro(⟨f,e,a,_⟩|hr)
  grind [pM]
  exact hr
 |_=>exact o.elim
def Lm{e:af Obj}{a:List T}{b:am}(f:jc e pM a b.cells.toList)(g:∀c∈a,yR c)(h:∃d,b= .agg d):iu e pM (.eQ a) b:=by obtain⟨d,rfl⟩:=h;exact iu.Bg f λc i=>(g c i).1
def TY{d:af Obj}{e:T}{a:am}(b:jc d pM [e] a.cells.toList)(f:a.cells= #[a]):iu d pM e a:=by rw[f]at b;have⟨g,h,c,hr,_⟩:=b.om;simp at c;rw[c.1];exact hr
