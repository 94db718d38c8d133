/- TiClose -/
import Derived.Test.YtalknpnbaceflaaGreatDoorA35
import Derived.Below
import Derived.Carry
import Derived.OpenShut
set_option linter.all false
namespace Go.TI
noncomputable section
open Go.ChangeShapes Go.WideShapes Go.RowKit
section
def P8(P:aj)(t:af)(e:T->Prop):Prop:=∀(H:Type) (h:af×aq->H) (c:World) (g:Nat) (l:Nat->Bool) (i:Bool) (b:aq) (d:DataW H) (j:List MemPlace) (k:Reach) (f:Nat),
 DataW.Trod h P c g l i t b d j->Value.okWide P c k f t b->(∀a∈d.weights P t,a<=reachBytes)->∃a,iu c.heap oZ a b/\e a
section
variable {P:aj}{cx:Ctx}{t:af}{ty:Ty}
def P8.struct(j7:jT P cx)(v:cx.ty t=some ty){D:List (Nat×af)}(w:ty.u= .struct D){z:Nat}{c:Type}{f:c->List T}{h:c->Prop}{e:c->T}(n:Rd P t z λi=>∃a,i=f a/\h a)(s:∀a,T.eZ (f a)=e a):P8 P t λa=>∃b,a=e b/\h b:=by
 intro H l I j F r M k A L J ⟨m,q⟩ x y;have⟨_,o,g⟩:=mt (j7.ty _ _ v);rw[w]at g;obtain⟨K,rfl,_⟩:=uB g;obtain⟨b,rfl,_⟩:=okWide_struct o x;obtain⟨i,r0,E,_,d,rfl,p⟩:=n.2 H l I j F r m _ k A q y;exact⟨_,Kw r0 E ⟨_,rfl⟩,d,s d,p⟩
def P8.one(j7:jT P cx)(D:cx.ty t=some ty){n:Type}{f:n->T}{k:n->Prop}(z:(∃e,ty.u= .slice e)\/∃j,ty.u= .int j)(h:Rd P t 1 λl=>∃b,l=[f b]/\k b):P8 P t λb=>∃d,b=f d/\k d:=by
 intro H r w o J y m q I L K ⟨s,x⟩ i E;have⟨_,a,c⟩:=mt (j7.ty _ _ D);have v:m.cells= #[m]:=by
  rcases z with⟨e,g⟩|⟨j,g⟩<;>rw[g]at c
  ·rw[nz c]at a;obtain⟨_,_,_,rfl⟩:=okWide_slice a i;rfl
  ·rw[y9 c]at a;obtain⟨_,rfl⟩:=okWide_int a i;rfl
 obtain⟨l,r0,M,_,p,rfl,A⟩:=h.2 H r w o J y s _ q I x E;exact⟨_,Sy r0 v,p,rfl,A⟩
def Dl{H:Type}{u:af×aq->H}{n:World}{s:Nat}{E:Nat->Bool}{z:Bool}{D:Reach}{r:Nat}:∀{d:List af} {h:List (T->Prop)},jw (P8 P) d h->∀{b:List aq} {c:List (DataW H)} {m:List MemPlace},DataW.TrodAll u P n s E z d b c m->
 (∀(f:Nat) t e,d[f]? =some t->b[f]? =some e->Value.okWide P n D r t e)->(∀a∈DataW.weightsEach P d c,a<=reachBytes)->∃g,iW n.heap oZ g b/\jw (λq a=>q a) h g:=by
 intro d h v;induction v with
 |nil=>
  intro b c m i _ _;obtain⟨rfl,_,_⟩:=trodAll_nil i;exact⟨[],iW.nil,.nil⟩
 |cons w _ A=>
  intro b c m i o p;obtain⟨e,b,F,c,I,J,rfl,rfl,rfl,x,y⟩:=trodAll_cons i;have⟨g,k,l⟩:=A y (λf t e k l=>o (f+1) t e k l) (λa j=>p a (by rw[DataW.weightsEach];exact dO _ j));have⟨a,l1,l2⟩:=w _ _ _ _ _ _ _ _ _ _ _ x (o 0 _ _ rfl rfl) (λa j=>p a (by rw[DataW.weightsEach];exact dw _ j));exact⟨a::g,iW.cons l1 k,.cons l2 l⟩
def Dk{H:Type}{i:af×aq->H}(hl:laidOutB P=true){W h:World}(n:Below W.heap.size W h):∀{a:List af},(a.all λt=>P.readableRec t&&decide (t<P.types.size))=true->∀{d:List aq} {b:List (DataW H)} {c:List MemPlace},DataW.TrodAll i P W 0 (λ_=>true) true a d b c->(∀e∈c,e.block<W.heap.size)->DataW.TrodAll i P h 0 (λk=>decide (k<W.heap.size)) true a d b c:=by
 intro a;induction a with
 |nil=>
  intro _ d b c f _;obtain⟨rfl,rfl,rfl⟩:=trodAll_nil f;exact trodAll_mk0
 |cons t a o=>
  intro hr d b c f j;simp only[cA,az,aM]at hr;obtain⟨s,d,p,b,q,r,rfl,rfl,rfl,l,m⟩:=trodAll_cons f;exact trodAll_cons_mk (Below.trod hl hr.1.1 hr.1.2 l n λe g=>j e (dw _ g)) (o hr.2 m λe g=>j e (dO _ g))
def jw.inv{b h:Type}{a:b->h->Prop}{c:b}{e:List b}{f:List h}(i:jw a (c::e) f):∃d g,f=d::g/\a c d/\jw a e g:=by cases i;exact⟨_,_,rfl,‹_›,‹_›⟩
def jw.CV{b c:Type}{d:b->c->Prop}{a:List c}(e:jw d ([]:List b) a):a=[]:=by cases e;rfl
