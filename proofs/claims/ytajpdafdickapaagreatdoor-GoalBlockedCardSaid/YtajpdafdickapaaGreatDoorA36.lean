/- TiClose -/
import Derived.Test.YtajpdafdickapaaGreatDoorA33
import Derived.Below
import Derived.Carry
import Derived.OpenShut
set_option linter.all false
namespace Go.TI
noncomputable section
open Go.ChangeShapes Go.WideShapes Go.RowKit
section
def So(P:ai)(t:ab)(e:T->Prop):Prop:=∀(H:Type) (h:ab×ao->H) (c:World) (g:Nat) (l:Nat->Bool) (i:Bool) (b:ao) (d:DataW H) (j:List MemPlace) (k:Reach) (f:Nat),
 DataW.Trod h P c g l i t b d j->Value.okWide P c k f t b->(∀a∈d.weights P t,a<=reachBytes)->∃a,fI c.heap nQ a b/\e a
section
variable {P:ai}{cx:Ctx}{t:ab}{ty:Ty}
def So.struct(jq:jg P cx)(v:cx.ty t=some ty){B:List (Nat×ab)}(w:ty.u= .struct B){z:Nat}{c:Type}{f:c->List T}{h:c->Prop}{e:c->T}(n:Rd P t z λi=>∃a,i=f a/\h a)(s:∀a,T.agg (f a)=e a):So P t λa=>∃b,a=e b/\h b:=by
 intro H l E j D r K k A I F ⟨m,q⟩ x y;have⟨_,o,g⟩:=kM (jq.ty _ _ v);rw[w]at g;obtain⟨G,rfl,_⟩:=rY g;obtain⟨b,rfl,_⟩:=okWide_struct o x;obtain⟨i,r0,C,_,d,rfl,p⟩:=n.2 H l E j D r m _ k A q y;exact⟨_,HT r0 C ⟨_,rfl⟩,d,s d,p⟩
def So.one(jq:jg P cx)(B:cx.ty t=some ty){n:Type}{f:n->T}{k:n->Prop}(z:(∃e,ty.u= .slice e)\/∃j,ty.u= .int j)(h:Rd P t 1 λl=>∃b,l=[f b]/\k b):So P t λb=>∃d,b=f d/\k d:=by
 intro H r w o E y m q D I G ⟨s,x⟩ i C;have⟨_,a,c⟩:=kM (jq.ty _ _ B);have v:m.cells= #[m]:=by
  rcases z with⟨e,g⟩|⟨j,g⟩<;>rw[g]at c
  ·rw[lV c]at a;obtain⟨_,_,_,rfl⟩:=okWide_slice a i;rfl
  ·rw[wY c]at a;obtain⟨_,rfl⟩:=okWide_int a i;rfl
 obtain⟨l,r0,K,_,p,rfl,A⟩:=h.2 H r w o E y s _ q D x C;exact⟨_,OW r0 v,p,rfl,A⟩
def Oa{H:Type}{u:ab×ao->H}{n:World}{s:Nat}{C:Nat->Bool}{z:Bool}{B:Reach}{r:Nat}:∀{d:List ab} {h:List (T->Prop)},iM (So P) d h->∀{b:List ao} {c:List (DataW H)} {m:List MemPlace},DataW.TrodAll u P n s C z d b c m->
 (∀(f:Nat) t e,d[f]? =some t->b[f]? =some e->Value.okWide P n B r t e)->(∀a∈DataW.weightsEach P d c,a<=reachBytes)->∃g,gU n.heap nQ g b/\iM (λq a=>q a) h g:=by
 intro d h v;induction v with
 |nil=>
  intro b c m i _ _;obtain⟨rfl,_,_⟩:=trodAll_nil i;exact⟨[],gU.nil,.nil⟩
 |cons w _ A=>
  intro b c m i o p;obtain⟨e,b,D,c,E,F,rfl,rfl,rfl,x,y⟩:=trodAll_cons i;have⟨g,k,l⟩:=A y (λf t e k l=>o (f+1) t e k l) (λa j=>p a (by rw[DataW.weightsEach];exact dw _ j));have⟨a,l1,l2⟩:=w _ _ _ _ _ _ _ _ _ _ _ x (o 0 _ _ rfl rfl) (λa j=>p a (by rw[DataW.weightsEach];exact cW _ j));exact⟨a::g,gU.cons l1 k,.cons l2 l⟩
def N9{H:Type}{i:ab×ao->H}(hl:laidOutB P=true){W h:World}(n:Below W.heap.size W h):∀{a:List ab},(a.all λt=>P.readableRec t&&decide (t<P.types.size))=true->∀{d:List ao} {b:List (DataW H)} {c:List MemPlace},DataW.TrodAll i P W 0 (λ_=>true) true a d b c->(∀e∈c,e.block<W.heap.size)->DataW.TrodAll i P h 0 (λk=>decide (k<W.heap.size)) true a d b c:=by
 intro a;induction a with
 |nil=>
  intro _ d b c f _;obtain⟨rfl,rfl,rfl⟩:=trodAll_nil f;exact trodAll_mk0
 |cons t a o=>
  intro hr d b c f j;simp only[cd,aB,aO]at hr;obtain⟨s,d,p,b,q,r,rfl,rfl,rfl,l,m⟩:=trodAll_cons f;exact trodAll_cons_mk (Below.trod hl hr.1.1 hr.1.2 l n λe g=>j e (cW _ g)) (o hr.2 m λe g=>j e (dw _ g))
def iM.inv{b h:Type}{a:b->h->Prop}{c:b}{e:List b}{f:List h}(i:iM a (c::e) f):∃d g,f=d::g/\a c d/\iM a e g:=by cases i;exact⟨_,_,rfl,‹_›,‹_›⟩
def iM.Gx{b c:Type}{d:b->c->Prop}{a:List c}(e:iM d ([]:List b) a):a=[]:=by cases e;rfl
