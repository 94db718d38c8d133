/- Texts TiArg to TiArg. -/
import Derived.Test.YtmaeadedikngoaaGreatDoorA43
import Derived.Test.YtmaeadedikngoaaGreatDoorA8
set_option linter.all false
namespace Go.TI
noncomputable section
def Sg(b:Nat):¬nz oc b:=by
 rintro(⟨d,c,a,_⟩|hr)
 ·simp[oc]at a
 ·exact hr
def Rd(P:ai)(t d:Nat)(f:List T->Prop):Prop:=P.cellsOf t=d/\∀(H:Type) (h:ab×am->H) (e:World) (g:Nat) (l:Nat->Bool) (j:Bool) (i:Nat) (b:List am) (c:DataW H) (k:List MemPlace),
 DataW.trod h P e g l j i t b=some (c,k)->(∀n∈c.weights P t,n<=reachBytes)->∃a,gJ e.heap oc a b/\(∀m∈a,vj m)/\a.length=d/\f a
section
variable {P:ai}{t:Nat}
def gJ.one{b:af Obj}{d:Mu}{c:T}{a:am}(h:fD b d c a):gJ b d [c] [a]:=gJ.cons h gJ.nil
def ZS{c:ak}(k:P.underlying t=some (.int c))(j:P.cellsOf t=1):Rd P t 1 λm=>∃b,m=[.int c b]/\c.min<=b/\b<=c.max:=by
 refine⟨j,λH p w n u q d f o s a r=> ?_⟩;cases d with
 |zero=>simp[DataW.trod]at a
 |succ d=>
  unfold DataW.trod at a;rw[k]at a
  match f,a with
  | [.int l b],a=>
   simp only[Lit.wf,ay,aJ]at a;split at a
   ·rename_i i;obtain⟨rfl,g,h⟩:=i;exact⟨[.int l b],gJ.one (.int _ _),λv e=>by simp at e;subst e;exact⟨rfl,.int _ _⟩,rfl,b,rfl,g,h⟩
   ·simp at a
def uJ(b:Bool)(a:List T):T:=if b=true then .agg a else UC a
def ED{c:Bool}{a:List T}{d:Nat}(hl:a.length=d)(e:c=false->d=1)(f:∀h∈a,vj h):(uJ c a).cells=a:=by
 cases c with
 |true=>rfl
 |false=>
  have:=e rfl;subst this;obtain⟨b,rfl⟩:=List.length_eq_one_iff.1 hl;have g:=(f b dC).1;show T.cells b=[b];cases b<;>first|rfl|(simp[T.scalar]at g)
def mapM_some{k l:Type}(g:k->aa l):∀{c:List k} {e:List l},c.mapM g=some e->e.length=c.length/\∀(b:Nat) f,c[b]? =some f->∃h,e[b]? =some h/\g f=some h:=by
 intro c;induction c with
 |nil=>intro e a;simp at a;subst a;exact⟨rfl,λb f d=>by simp at d⟩
 |cons m c p=>
  intro e a;rw[List.mapM_cons]at a;cases i:g m with
  |none=>rw[i]at a;simp at a
  |some h=>
   rw[i]at a;cases j:c.mapM g with
   |none=>rw[j]at a;simp at a
   |some q=>
    rw[j]at a;simp at a;subst a;obtain⟨n,o⟩:=p j;refine⟨by simp[n],λb f d=> ?_⟩;cases b with
    |zero=>simp at d;subst d;exact⟨h,dC,i⟩
    |succ b=>simpa using o b f (by simpa using d)
def C0{f:World}{g d:Nat}{e:Addr}{c:List am}(b:f.cells? g e d=some c):c.length=d/\∀a,a<d->f.cell? (e.add a)=c[a]? :=by
 unfold World.cells? at b;split at b
 ·obtain⟨h,i⟩:=mapM_some _ b;refine⟨by simpa using h,λa l=> ?_⟩;obtain⟨m,j,k⟩:=i a a (by rw[List.getElem?_range l]);rw[j];exact k
 ·simp at b
def Ij{w:World}{a:Addr}{n:Nat}{d:am}(b:w.cell? (a.add n)=some d):∃c t fz,w.heap[a.block]? =some (.cells c t fz)/\c[a.off+n]? =some d:=by
 unfold World.cell? at b;have e:(a.add n).block=a.block:=by unfold Addr.add;split<;>rfl
 have g:(a.add n).off=a.off+n:=by unfold Addr.add;split<;>simp_all
 rw[e,g]at b;split at b
 ·rename_i c t fz f;split at b
  ·simp at b
  ·exact⟨c,t,fz,f,b⟩
 ·simp at b
def cell_spot{e:World}{b:Addr}{d:am}(a:e.cell? b=some d):b.spot=none:=by
 unfold World.cell? at a;split at a
 ·split at a
  ·simp at a
  ·rename_i c;simpa using c
 ·simp at a
def Sh{b a c:Nat}(e:0<a)(d:b+(a-1)<c):b+a<=c:=dB 
def Sv{ag:Bool}{f:Nat}(i:ag=false->f=1):∀{a:List (List T)},(∀d∈a,d.length=f/\∀b∈d,vj b)->(∀b∈a.map (uJ ag),b.cells.length=f)/\fx (a.map (uJ ag))=a.flatten:=by
 intro a;induction a with
 |nil=>intro _;exact⟨λb c=>by simp at c,rfl⟩
 |cons d a k=>
  intro g;obtain⟨l,m⟩:=k λn j=>g n (cG _ j);have e:=g d dC;have h:=ED e.1 i e.2;refine⟨λb c=> ?_,?_⟩
  ·rcases List.mem_cons.1 (show b∈uJ ag d::a.map (uJ ag)from c)with rfl|c
   ·rw[h];exact e.1
   ·exact l b c
  ·rw[aT,lQ,m,h];rfl
def RC{y n G:Nat}{J:List T->Prop}(bs:P.underlying t=some (.slice y))(di:P.cellsOf t=1)(cp:P.bytesOf y=G)(a7:Rd P y n J)(er:1<=n)(ag:Bool)(al:ag=false->n=1):
 Rd P t 1 λq=>∃es:List (List T),q=[sl (es.map (uJ ag))]/\es.length*G<=140737488351232/\∀b∈es,J b:=by
 refine⟨di,λH ca w V ds c1 Y b8 d p h bu=> ?_⟩;have dn:∀es:List (List T),(∀b∈es,b.length=n/\∀v∈b,vj v)->vj (sl (es.map (uJ ag))):=by
  intro es M;cases es with
  |nil=>exact⟨rfl,.gu⟩
  |cons b es=>
   refine⟨rfl,.dN _ _ λv l=> ?_⟩;obtain⟨x,s,rfl⟩:=List.mem_map.1 (show v∈(b::es).map (uJ ag)from l);have av:=M x s;cases ag with
   |true=>exact .agg _ λv l=>(av.2 v l).2
   |false=>
    obtain⟨z,rfl⟩:=List.length_eq_one_iff.1 (av.1.trans (al rfl));exact(av.2 z dC).2
 cases Y with
 |zero=>simp[DataW.trod]at h
 |succ Y=>
  unfold DataW.trod at h;rw[bs]at h
  match b8,h with
  | [.slice none 0 0],h=>exact⟨[sl []],gJ.one (.gu _ _),λv l=>by simp at l;subst l;exact⟨rfl,.gu⟩,rfl,[],rfl,dC,λb c=>by simp at c⟩
  | [.slice (some a) F b6],h=>
   simp only at h;split at h
   ·rename_i N;obtain⟨ef,de,eh⟩:=N;obtain⟨aX,cX,S⟩:=Option.bind_eq_some_iff.1 h;obtain⟨aN,_,S⟩:=Option.map_eq_some_iff.1 S;simp only[az]at S;obtain⟨cL,_⟩:=S;obtain⟨hl,c6⟩:=mapM_some _ cX;have bz:d.weights P t=((aX.map (·.1)).length+(aN.map (·.1)).length)*P.bytesOf y::(DataW.weightsAll P y (aX.map (·.1))++DataW.weightsAll P y (aN.map (·.1))):=by
     rw[<-cL,DataW.weights,bs]
    have an:F*G<=140737488351232:=by
     have E:=bu _ (by rw[bz];exact dt ..);simp only[aG,hl,dz,cp]at E;have K:F*G<=(F+aN.length)*G:=aY G dB;have L:reachBytes=140737488351232:=rfl;omega
    have dv:∀(j:List (DataW H)) (x:DataW H),x∈j->∀b∈x.weights P y,b∈DataW.weightsAll P y j:=by
     intro j;induction j with
     |nil=>intro x s;simp at s
     |cons a j aA=>
      intro x s b c;rw[DataW.weightsAll];rcases List.mem_cons.1 s with rfl|s
      ·exact dc _ c
      ·exact dA _ (aA x s b c)
    have dm:∀i,i<F->∃q:List T,∃j,w.cells? V (a.add (i*n)) n=some j/\gJ w.heap oc q j/\(∀v∈q,vj v)/\q.length=n/\J q:=by
     intro i hi;obtain⟨x,s,c4⟩:=c6 i i (by rw[List.getElem?_range hi]);obtain⟨j,bk,dd⟩:=Option.bind_eq_some_iff.1 c4;obtain⟨W,bC⟩:=x;rw[a7.1]at bk;obtain⟨q,E,K,L,Z⟩:=a7.2 H ca w V ds c1 Y j W bC dd λb c=>bu b (by
      rw[bz];exact cG _ (dc _ (dv _ W (List.mem_map.2 ⟨(W,bC),ax s,rfl⟩) b c)))
     exact⟨q,j,bk,E,K,L,Z⟩
    have bN:∀u,u<=F->∃es:List (List T),es.length=u/\∀i b,es[i]? =some b->∃j,w.cells? V (a.add (i*n)) n=some j/\gJ w.heap oc b j/\(∀v∈b,vj v)/\b.length=n/\J b:=by
     intro u;induction u with
     |zero=>intro _;exact⟨[],rfl,λi b c=>by simp at c⟩
     |succ u aA=>
      intro eo;obtain⟨es,B,I⟩:=aA dB;obtain⟨q,j,dk⟩:=dm u dB;refine⟨es++[q],by simp[B],λi b c=> ?_⟩;rcases aF i u with hi|hi
      ·rw[bY dB]at c;exact I i b c
      ·have:i=u:=by
        rcases aF u i with h|h
        ·rw[aM (by simp[B];omega)]at c;simp at c
        ·omega
       subst this;rw[cD dB,B]at c;simp at c;subst c;exact⟨j,dk⟩
    obtain⟨es,B,I⟩:=bN F (au _);have M:∀b∈es,b.length=n/\∀v∈b,vj v:=λb c=>by
     obtain⟨i,hi⟩:=cT c;obtain⟨j,_,_,K,L,_⟩:=I i b hi;exact⟨L,K⟩
    have ce:∀b∈es,J b:=λb c=>by
     obtain⟨i,hi⟩:=cT c;obtain⟨j,_,_,K,L,Z⟩:=I i b hi;exact Z
    refine⟨[sl (es.map (uJ ag))],gJ.one ?_,λv l=>by simp at l;subst l;exact dn es M,rfl,es,rfl,?_,ce⟩
    ·cases es with
     |nil=>
      simp at B;subst B;exact .gu _ _
     |cons f e=>
      obtain⟨Q,eb⟩:=Sv (ag:=ag) al M;obtain⟨l0,bS,r0,ey,et,_⟩:=I 0 f rfl;have a6:=C0 bS;rw[Nat.zero_mul,show a.add 0=a by simp[Addr.add]]at a6;have ap:=a6.2 0 dB;have c9:0<l0.length:=dB;rw[show a.add 0=a by simp[Addr.add],aB c9]at ap;have bp:=cell_spot ap;obtain⟨C,ty,fz,N,_⟩:=Ij (w:=w) (a:=a) (n:=0) (by rw[show a.add 0=a by simp[Addr.add]];exact ap);obtain⟨O,off,eB⟩:=a;simp only at bp N;subst bp;have b7:∀i b o v,(f::e)[i]? =some b->b[o]? =some v->∃r,C[off+(i*n+o)]? =some r/\fD w.heap oc v r:=by
       intro i b o v c l;obtain⟨j,bT,r1,eA,eu,_⟩:=I i b c;have cy:=C0 bT;have R:o<n:=by
        rcases aF o n with h|h
        ·exact h
        ·rw[aM dB]at l;simp at l
       have bn:o<j.length:=dB;have E:=cy.2 o R;rw[aB bn]at E;have b9:((⟨O,off,none⟩:Addr).add (i*n)).add o=(⟨O,off,none⟩:Addr).add (i*n+o):=by
        unfold Addr.add;by_cases aE:i*n=0
        ·simp[aE]
        ·by_cases bH:o=0
         ·subst bH;simp[aE]
         ·simp[aE,bH,cH]
       rw[b9]at E;obtain⟨ea,eC,ec,m,D⟩:=Ij E;rw[show w.heap[O]? =some (.cells C ty fz)from N]at m;simp only[ar,Obj.cells.injEq]at m;obtain⟨rfl,_,_⟩:=m;refine⟨_,D,?_⟩;have:=r1.2 o v l;rw[List.getD_eq_getElem?_getD,aB bn]at this;exact this
      have X:∀k v,(fx ((f::e).map (uJ ag)))[k]? =some v->∃r,C[off+k]? =some r/\fD w.heap oc v r/\vj v:=by
       intro k v A;have c7:k<((f::e).map (uJ ag)).length*n:=by
        rw[<-il Q];rcases aF k (fx ((f::e).map (uJ ag))).length with h|h
        ·exact h
        ·rw[aM h]at A;simp at A
       have hi:k/n<(f::e).length:=by
        rw[Nat.div_lt_iff_lt_mul dB];simpa using c7
       have c:(f::e)[k/n]? =some (f::e)[k/n]:=aB hi;have U:=M _ (aC hi);have R:k% n<((f::e)[k/n]).length:=by rw[U.1];exact Nat.mod_lt _ dB
       have bB:((f::e)[k/n])[k% n]? =some ((f::e)[k/n])[k% n]:=aB R;have a8:=flat_get (es:=(f::e).map (uJ ag)) Q (i:=k/n) (k:=k% n) (v:=uJ ag (f::e)[k/n]) (z:=((f::e)[k/n])[k% n]) (by rw[aQ,c];rfl) (by rw[ED U.1 al U.2];exact bB);have bi:k/n*n+k% n=k:=by rw[Nat.mul_comm];exact Nat.div_add_mod k n
       rw[bi]at a8;rw[a8]at A;simp only[ar]at A;obtain⟨r,m,D⟩:=b7 _ _ _ _ c bB;rw[bi]at m;exact⟨r,m,A▸D,A▸U.2 _ (aC R)⟩
      have an:e.length+1=F:=by simpa using B
      subst an;show fD w.heap oc (.dN (uJ ag f::e.map (uJ ag)) false) _;have:=fD.dN (hp:=w.heap) (μ:=oc) (uJ ag f) (e.map (uJ ag)) false O off b6 n C ty fz (Sg _) N (by simpa using de) dC Q ?_ ?_ ?_
      ·simpa using this
      ·show off+(fx ((f::e).map (uJ ag))).length<=C.size;have cb:0<(fx ((f::e).map (uJ ag))).length:=by rw[il Q];exact Nat.mul_pos dC dB
       obtain⟨r,m,_⟩:=X ((fx ((f::e).map (uJ ag))).length-1) _ (aB dB);have D:off+((fx ((f::e).map (uJ ag))).length-1)<C.size:=by
        rcases aF (off+((fx ((f::e).map (uJ ag))).length-1)) C.size with ae|ae
        ·exact ae
        ·rw[cV ae]at m;simp at m
       exact Sh cb D
      ·intro v l;obtain⟨i,hi⟩:=cT l;obtain⟨_,_,_,g⟩:=X i v hi;exact g
      ·intro k v A;obtain⟨r,m,D,_⟩:=X k v A;rw[aZ,m];exact D
    ·rw[B];exact an
   ·simp at h
inductive Yu (P:ai):List Field->Nat->List (List T->Prop)->Prop where
 |nil (o:Nat):Yu P [] o []
 |cons (f:Field) (fs:List Field) (o n:Nat) (Q:List T->Prop) (Qs:List (List T->Prop)) (ho:f.offset=o) (h:Rd P f.type n Q) (r:Yu P fs (o+n) Qs):Yu P (f::fs) o (Q::Qs)
inductive RdP (P:ai):List (Nat×ab)->Nat->List (List T->Prop)->Prop where
 |nil (o:Nat):RdP P [] o []
 |cons (o t:Nat) (ps:List (Nat×ab)) (o' n:Nat) (Q:List T->Prop) (Qs:List (List T->Prop)) (ho:o=o') (h:Rd P t n Q) (r:RdP P ps (o'+n) Qs):RdP P ((o,t)::ps) o' (Q::Qs)
inductive Nk:List (List T->Prop)->List T->Prop where
 |nil:Nk [] []
 |cons (Q:List T->Prop) (Qs:List (List T->Prop)) (a b:List T) (h:Q a) (r:Nk Qs b):Nk (Q::Qs) (a++b)
def N1{H:Type}{p:ab×am->H}{m:World}{o:Nat}{u:Nat->Bool}{r:Bool}{q:Nat}{c:List am}:∀{f:List Field} {b:Nat} {n:List (List T->Prop)},Yu P f b n->∀{v:List (DataW H×List MemPlace)},b<=c.length->
 (f.mapM λa=>DataW.trod p P m o u r q a.type ((c.drop a.offset).take (P.cellsOf a.type)))=some v->(∀e∈DataW.weightsEach P (f.map (·.type)) (v.map (·.1)),e<=reachBytes)->∃i:List T,∃h,gJ m.heap oc i ((c.drop b).take h)/\(∀l∈i,vj l)/\i.length=h/\Nk n i:=by
 intro f b n E;induction E with
 |nil b=>intro v A w _;exact⟨[],0,by simpa using gJ.nil,λl g=>by simp at g,rfl,.nil⟩
 |cons a f b k Q n A w S I=>
  intro v R d G;rw[List.mapM_cons]at d;cases s:DataW.trod p P m o u r q a.type ((c.drop a.offset).take (P.cellsOf a.type))with
  |none=>rw[s]at d;simp at d
  |some x=>
   rw[s]at d;cases hr:(f.mapM λa=>DataW.trod p P m o u r q a.type ((c.drop a.offset).take (P.cellsOf a.type)))with
   |none=>rw[hr]at d;simp at d
   |some O=>
    rw[hr]at d;simp at d;subst d;rw[w.1,A]at s;have B:∀e∈x.1.weights P a.type++DataW.weightsEach P (f.map (·.type)) (O.map (·.1)),e<=reachBytes:=by
     intro e j;exact G e (by simpa[DataW.weightsEach]using j)
    obtain⟨i,y,C,z,D⟩:=w.2 H p m o u r q _ x.1 x.2 s λe j=>B e (dc _ j);have F:b+k<=c.length:=by
     have:=y.1;rw[z,List.length_take,List.length_drop]at this;omega
    obtain⟨N,h,J,K,L,M⟩:=I F hr λe j=>B e (dA _ j);refine⟨i++N,k+h,?_,λl g=> ?_,by simp[z,L],.cons _ _ _ _ D M⟩
    ·have:=gJ.append y J;rwa[show(c.drop b).take k++(c.drop (b+k)).take h=(c.drop b).take (k+h)by rw[List.take_add,cY]]at this
    ·rcases List.mem_append.1 g with g|g
     ·exact C l g
     ·exact K l g
def NZ{f:af Field}{e:Nat}{d:List (List T->Prop)}(k:P.underlying t=some (.struct f))(j:P.cellsOf t=e)(n:Yu P f.toList 0 d)(o:∀b,Nk d b->b.length=e):Rd P t e λb=>Nk d b:=by
 refine⟨j,λH x D u C z g v w B a p=> ?_⟩;cases g with
 |zero=>simp[DataW.trod]at a
 |succ g=>
  unfold DataW.trod at a;rw[k]at a;simp only at a;split at a
  ·rename_i hl;obtain⟨E,q,c⟩:=Option.map_eq_some_iff.1 a;simp only[az]at c;obtain⟨c,_⟩:=c;obtain⟨b,A,h,l,y,i⟩:=N1 n (aw _) q λs r=>p s (by
    rw[<-c,DataW.weights,k];exact r)
   have m:=o b i;refine⟨b,?_,l,m,i⟩;rw[List.drop_zero,bJ (by rw[hl,j];omega)]at h;exact h
  ·simp at a
def Rd.imp{e:Nat}{b c:List T->Prop}(d:Rd P t e b)(q:∀a,b a->c a):Rd P t e c:=⟨d.1,λH i v f u p j g h s o r=>by
 obtain⟨a,k,l,m,n⟩:=d.2 H i v f u p j g h s o r;exact⟨a,k,l,m,q a n⟩⟩
def Nk.zU{a:List T}(b:Nk [] a):a=[]:=by cases b;rfl
def Nk.inv{d:List T->Prop}{e:List (List T->Prop)}{f:List T}(c:Nk (d::e) f):∃a b,f=a++b/\d a/\Nk e b:=by
 cases c with|cons _ _ a b c g=>exact⟨a,b,rfl,c,g⟩
def Ow{h j:Type}{f:h->j}{p:h->Prop}:∀{b:List j},(∀e∈b,∃a,e=f a/\p a)->∃c:List h,b=c.map f/\∀a∈c,p a:=by
 intro b;induction b with
 |nil=>intro _;exact⟨[],rfl,λa d=>by simp at d⟩
 |cons e b l=>
  intro i;obtain⟨a,rfl,d⟩:=i e dC;obtain⟨c,rfl,k⟩:=l λg hz=>i g (cG _ hz);exact⟨a::c,rfl,λg hz=>by rcases List.mem_cons.1 hz with rfl|hz;exact d;exact k g hz⟩
def xX{ty:Ty}(a:uX P t ty):P.cellsOf t=ty.size:=by
 obtain⟨e,d,f,b,_,_,_,_,_,_,c,_⟩:=a.unfold;unfold Program.cellsOf;rw[b];exact c
def Ke{ty:Ty}(a:uX P t ty):P.bytesOf t=ty.bytes:=by
 obtain⟨e,d,f,b,_,_,_,_,_,_,_,c,_⟩:=a.unfold;unfold Program.bytesOf;rw[b];exact c
variable {cx:Ctx}{ty:Ty}
def N0(iZ:jd P cx)(e:cx.ty t=some ty){c:ak}(h:ty.u= .int c)(g:ty.size=1):Rd P t 1 λf=>∃a:Int,f=[.int c a]/\(c.min<=a/\a<=c.max):=by
 obtain⟨i,d,b⟩:=kO (iZ.ty _ _ e);rw[h]at b;exact(ZS (by rw[d,yi b]) (by rw[xX (iZ.ty _ _ e),g])).imp λf ⟨a,d,b⟩=>⟨a,d,b⟩
def GZ(iZ:jd P cx)(k:cx.ty t=some ty){g i:Nat}{l:Ty}(y:ty.u= .slice g)(w:ty.size=1)(x:cx.ty g=some l){d:Type}{h:d->List T}{p:d->Prop}(o:Rd P g i λc=>∃a,c=h a/\p a)(v:1<=i)(e:Bool)(n:e=false->i=1){f:d->T}(r:∀a,uJ e (h a)=f a):
 Rd P t 1 λc=>∃b:List d,c=[sl (b.map f)]/\(b.length*l.bytes<=140737488351232/\∀a∈b,p a):=by
 obtain⟨z,m,j⟩:=kO (iZ.ty _ _ k);rw[y]at j;refine(RC (by rw[m,mv j]) (by rw[xX (iZ.ty _ _ k),w]) (Ke (iZ.ty _ _ x)) o v e n).imp ?_;rintro c ⟨A,rfl,hl,q⟩;obtain⟨b,rfl,s⟩:=Ow (f:=h) (p:=p) q;refine⟨b,?_,by simpa using hl,s⟩;rw[cM];congr 2;apply List.map_congr_left;intro a _;exact r a
def Vm:∀{b:List Field} {c:Nat} {e:List (Nat×ab)} {a:List (List T->Prop)},e=b.map (λd=>(d.offset,d.type))->RdP P e c a->Yu P b c a:=by
 intro b;induction b with
 |nil=>intro c e a f g;subst f;cases g;exact .nil _
 |cons d b k=>
  intro c e a f g;subst f;cases g with|cons _ _ _ _ l h a i j m=>exact .cons d b c l h a i j (k rfl m)
def Ei(iZ:jd P cx)(d:cx.ty t=some ty){e:List (Nat×ab)}{n:Nat}{b:List (List T->Prop)}(k:ty.u= .struct e)(j:ty.size=n)(h:RdP P e 0 b)(i:∀a,Nk b a->a.length=n):Rd P t n λa=>Nk b a:=by
 obtain⟨l,f,c⟩:=kO (iZ.ty _ _ d);rw[k]at c;obtain⟨m,rfl,g⟩:=rD c;exact NZ f (by rw[xX (iZ.ty _ _ d),j]) (Vm g.1 h) i
end
def Kc{P:ai}{cx:Ctx}{d:aj}{j:Func}{c:Code}{l:List T}{g:af am}(q:P.funcs[d]? =some j)(v:(j.name== "runtime.NumGoroutine")=false)(a:j.body=some c)
 (w:kY P cx d l (.bool true)) (W:World) (s:∀n m,cx.gl n=some m->fD W.heap oc (.jB m) (.pointer (some ⟨n,0,none⟩))) (r:gJ W.heap oc l g.toList):
 Calls P d g W λi k=>i= .returned (.bool true)/\RowKit.Below W.heap.size W k:=by
 have z:St cx W.heap.size W.heap oc ⟨0,0,[]⟩:=
  ⟨rfl,au _,λf e a=>by simp[oc]at a,λf C e B a=>by simp[oc]at a,λf e a=>by simp[oc]at a,λf e a=>by simp[oc]at a,λD hr=>hr.elim,s⟩
 have h:=w W.heap.size W oc g ⟨0,0,[]⟩ z r;rw[nY q v a]at h;have h:Calls P d g W λ
  | .returned p,A=>qB cx W.heap.size W oc ⟨0,0,[]⟩ (.bool true) ⟨0,0,[]⟩ p A
  |_,_=>False:=h
 refine h.mono λi k o=> ?_;cases i with
 |returned p=>
  obtain⟨⟨G,y,E,b,F⟩,_⟩:=o;refine⟨by rw[y.qj],b.os,b.tape,b.output,b.ext.size,λx u=>(b.ext.nJ x u ?_).1⟩;rintro(⟨f,e,a,_⟩|hr)
  ·simp[oc]at a
  ·exact hr
 |_=>exact o.elim
def GW{e:af Obj}{a:List T}{b:am}(f:gJ e oc a b.cells.toList)(g:∀c∈a,vj c)(h:∃d,b= .agg d):fD e oc (.agg a) b:=by
 obtain⟨d,rfl⟩:=h;exact fD.xu f λc i=>(g c i).1
end
end Go.TI
