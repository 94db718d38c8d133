/- TiClose -/
import Derived.Test.YtmoiekepclmgbaaGreatDoorA35
import Derived.Below
import Derived.Carry
import Derived.OpenShut
set_option linter.all false
namespace Go.TI
noncomputable section
open Go.ChangeShapes Go.WideShapes Go.RowKit
section
def QW(P:ai)(t:ab)(e:T->Prop):Prop:=∀(H:Type) (h:ab×am->H) (c:World) (g:Nat) (l:Nat->Bool) (i:Bool) (b:am) (d:DataW H) (j:List MemPlace) (k:Reach) (f:Nat),
 DataW.Trod h P c g l i t b d j->Value.okWide P c k f t b->(∀a∈d.weights P t,a<=reachBytes)->∃a,gW c.heap oL a b/\e a
section
variable {P:ai}{cx:Ctx}{t:ab}{ty:Ty}
def QW.struct(jQ:jF P cx)(v:cx.ty t=some ty){B:List (Nat×ab)}(w:ty.u= .struct B){z:Nat}{c:Type}{f:c->List T}{h:c->Prop}{e:c->T}(n:Rd P t z λi=>∃a,i=f a/\h a)(s:∀a,T.agg (f a)=e a):QW P t λa=>∃b,a=e b/\h b:=by
 intro H l F j E r L k A K I ⟨m,q⟩ x y;have⟨_,o,g⟩:=lP (jQ.ty _ _ v);rw[w]at g;obtain⟨J,rfl,_⟩:=tU g;obtain⟨b,rfl,_⟩:=okWide_struct o x;obtain⟨i,r0,C,_,d,rfl,p⟩:=n.2 H l F j E r m _ k A q y;exact⟨_,Jo r0 C ⟨_,rfl⟩,d,s d,p⟩
def QW.one(jQ:jF P cx)(B:cx.ty t=some ty){n:Type}{f:n->T}{k:n->Prop}(z:(∃e,ty.u= .slice e)\/∃j,ty.u= .int j)(h:Rd P t 1 λl=>∃b,l=[f b]/\k b):QW P t λb=>∃d,b=f d/\k d:=by
 intro H r w o I y m q E K J ⟨s,x⟩ i C;have⟨_,a,c⟩:=lP (jQ.ty _ _ B);have v:m.cells= #[m]:=by
  rcases z with⟨e,g⟩|⟨j,g⟩<;>rw[g]at c
  ·rw[mV c]at a;obtain⟨_,_,_,rfl⟩:=okWide_slice a i;rfl
  ·rw[yx c]at a;obtain⟨_,rfl⟩:=okWide_int a i;rfl
 obtain⟨l,r0,L,_,p,rfl,A⟩:=h.2 H r w o I y s _ q E x C;exact⟨_,Rq r0 v,p,rfl,A⟩
def HE{H:Type}{u:ab×am->H}{n:World}{s:Nat}{C:Nat->Bool}{z:Bool}{B:Reach}{r:Nat}:∀{d:List ab} {h:List (T->Prop)},jh (QW P) d h->∀{b:List am} {c:List (DataW H)} {m:List MemPlace},DataW.TrodAll u P n s C z d b c m->
 (∀(f:Nat) t e,d[f]? =some t->b[f]? =some e->Value.okWide P n B r t e)->(∀a∈DataW.weightsEach P d c,a<=reachBytes)->∃g,iJ n.heap oL g b/\jh (λq a=>q a) h g:=by
 intro d h v;induction v with
 |nil=>
  intro b c m i _ _;obtain⟨rfl,_,_⟩:=trodAll_nil i;exact⟨[],iJ.nil,.nil⟩
 |cons w _ A=>
  intro b c m i o p;obtain⟨e,b,E,c,F,I,rfl,rfl,rfl,x,y⟩:=trodAll_cons i;have⟨g,k,l⟩:=A y (λf t e k l=>o (f+1) t e k l) (λa j=>p a (by rw[DataW.weightsEach];exact dK _ j));have⟨a,l1,l2⟩:=w _ _ _ _ _ _ _ _ _ _ _ x (o 0 _ _ rfl rfl) (λa j=>p a (by rw[DataW.weightsEach];exact dt _ j));exact⟨a::g,iJ.cons l1 k,.cons l2 l⟩
def HD{H:Type}{i:ab×am->H}(hl:laidOutB P=true){W h:World}(n:Below W.heap.size W h):∀{a:List ab},(a.all λt=>P.readableRec t&&decide (t<P.types.size))=true->∀{d:List am} {b:List (DataW H)} {c:List MemPlace},DataW.TrodAll i P W 0 (λ_=>true) true a d b c->(∀e∈c,e.block<W.heap.size)->DataW.TrodAll i P h 0 (λk=>decide (k<W.heap.size)) true a d b c:=by
 intro a;induction a with
 |nil=>
  intro _ d b c f _;obtain⟨rfl,rfl,rfl⟩:=trodAll_nil f;exact trodAll_mk0
 |cons t a o=>
  intro hr d b c f j;simp only[cB,ax,aK]at hr;obtain⟨s,d,p,b,q,r,rfl,rfl,rfl,l,m⟩:=trodAll_cons f;exact trodAll_cons_mk (Below.trod hl hr.1.1 hr.1.2 l n λe g=>j e (dt _ g)) (o hr.2 m λe g=>j e (dK _ g))
def jh.inv{b h:Type}{a:b->h->Prop}{c:b}{e:List b}{f:List h}(i:jh a (c::e) f):∃d g,f=d::g/\a c d/\jh a e g:=by cases i;exact⟨_,_,rfl,‹_›,‹_›⟩
def jh.ES{b c:Type}{d:b->c->Prop}{a:List c}(e:jh d ([]:List b) a):a=[]:=by cases e;rfl
