import Derived.Test.YtnfojkibhgjfmaaGreatDoorA28
import Derived.Below
import Derived.Carry
import Derived.OpenShut
set_option linter.all false
namespace Go.TI
noncomputable section
open Go.ChangeShapes Go.WideShapes Go.RowKit
section
def Xf(P:ai)(t:ab)(e:T->Prop):Prop:=∀(H:Type) (h:ab×am->H) (c:World) (g:Nat) (l:Nat->Bool) (i:Bool) (b:am) (d:DataW H) (j:List MemPlace) (k:Reach) (f:Nat),
 DataW.Trod h P c g l i t b d j->Value.okWide P c k f t b->(∀a∈d.weights P t,a<=reachBytes)->∃a,iu c.heap pM a b/\e a
section
variable {P:ai}{cx:Ctx}{t:ab}{ty:Ty}
def Xf.struct(j9:jP P cx)(v:cx.ty t=D ty){B:List (Nat×ab)}(w:ty.u= .struct B){z:Nat}{c:Type}{f:c->List T}{h:c->Prop}{e:c->T}(n:Rd P t z λi=>∃a,i=f a/\h a)(s:∀a,T.eQ (f a)=e a):Xf P t λa=>∃b,a=e b/\h b:=by intro H l F j E r M k A L I ⟨m,q⟩ x y;have⟨_,o,g⟩:=lN (j9.ty _ _ v);rw[w]at g;obtain⟨K,rfl,_⟩:=uX g;obtain⟨b,rfl,_⟩:=okWide_struct o x;obtain⟨i,r0,C,_,d,rfl,p⟩:=n.2 H l F j E r m _ k A q y;exact⟨_,Lm r0 C ⟨_,rfl⟩,d,s d,p⟩
def Xf.one(j9:jP P cx)(B:cx.ty t=D ty){n:Type}{f:n->T}{k:n->Prop}(z:(∃e,ty.u= .slice e)\/∃j,ty.u= .int j)(h:Rd P t 1 λl=>∃b,l=[f b]/\k b):Xf P t λb=>∃d,b=f d/\k d:=by
 intro H r w o I y m q E L K ⟨s,x⟩ i C;have⟨_,a,c⟩:=lN (j9.ty _ _ B);have v:m.cells= #[m]:=by
  rcases z with⟨e,g⟩|⟨j,g⟩<;>rw[g]at c;rw[nJ c]at a;obtain⟨_,_,_,rfl⟩:=okWide_slice a i;rfl;rw[Ap c]at a;obtain⟨_,rfl⟩:=okWide_int a i;rfl
 obtain⟨l,r0,M,_,p,rfl,A⟩:=h.2 H r w o I y s _ q E x C;exact⟨_,TY r0 v,p,rfl,A⟩
def Js{H:Type}{u:ab×am->H}{n:World}{s:Nat}{C:Nat->Bool}{z:Bool}{B:Reach}{r:Nat}:∀{d:List ab} {h:List (T->Prop)},jr (Xf P) d h->∀{b:List am} {c:List (DataW H)} {m:List MemPlace},DataW.TrodAll u P n s C z d b c m->
 (∀(f:Nat) t e,d[f]? =D t->b[f]? =D e->Value.okWide P n B r t e)->(∀a∈DataW.weightsEach P d c,a<=reachBytes)->∃g,jc n.heap pM g b/\jr (λq a=>q a) h g:=by
 intro d h v;induction v with
 |nil=>
  intro b c m i _ _;obtain⟨rfl,_,_⟩:=trodAll_nil i;exact⟨[],jc.nil,.nil⟩
 |cons w _ A=>
  intro b c m i o p;obtain⟨e,b,E,c,F,I,rfl,rfl,rfl,x,y⟩:=trodAll_cons i;have⟨g,k,l⟩:=A y (λf t e k l=>o (f+1) t e k l) (λa j=>p a (by rw[DataW.weightsEach];exact dM _ j));have⟨a,l1,l2⟩:=w _ _ _ _ _ _ _ _ _ _ _ x (o 0 _ _ rfl rfl) (λa j=>p a (by rw[DataW.weightsEach];exact dz _ j));exact⟨a::g,jc.cons l1 k,.cons l2 l⟩
def Jr{H:Type}{i:ab×am->H}(hl:laidOutB P){W h:World}(n:Below W.heap.size W h):∀{a:List ab},(a.all λt=>P.readableRec t&&decide (t<P.types.size))=true->∀{d:List am} {b:List (DataW H)} {c:List MemPlace},DataW.TrodAll i P W 0 (λ_=>true) true a d b c->(∀e∈c,e.block<W.heap.size)->DataW.TrodAll i P h 0 (λk=>decide (k<W.heap.size)) true a d b c:=by
 intro a;induction a with
 |nil=>
  intro _ d b c f _;obtain⟨rfl,rfl,rfl⟩:=trodAll_nil f;exact trodAll_mk0
 |cons t a o=>
  intro hr d b c f j;simp only[cA,aC,aO]at hr;obtain⟨s,d,p,b,q,r,rfl,rfl,rfl,l,m⟩:=trodAll_cons f;exact trodAll_cons_mk (Below.trod hl hr.1.1 hr.1.2 l n λe g=>j e (dz _ g)) (o hr.2 m λe g=>j e (dM _ g))
def jr.inv{b h:Type}{a:b->h->Prop}{c:b}{e:List b}{f:List h}(i:jr a (c::e) f):∃d g,f=d::g/\a c d/\jr a e g:=by cases i;exact⟨_,_,rfl,‹_›,‹_›⟩
def jr.GV{b c:Type}{d:b->c->Prop}{a:List c}(e:jr d ([]:List b) a):a=[]:=by cases e;rfl
