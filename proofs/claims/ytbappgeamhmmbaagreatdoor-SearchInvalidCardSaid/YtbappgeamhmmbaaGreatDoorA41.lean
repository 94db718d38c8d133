/- TiClose -/
import Derived.Test.YtbappgeamhmmbaaGreatDoorA38
import Derived.Below
import Derived.Carry
import Derived.OpenShut
set_option linter.all false
namespace Go.TI
noncomputable section
open Go.ChangeShapes Go.WideShapes Go.RowKit
section
def Ux(P:ai)(t:ab)(e:T->Prop):Prop:=∀(H:Type) (h:ab×am->H) (c:World) (g:Nat) (l:Nat->Bool) (i:Bool) (b:am) (d:DataW H) (j:List MemPlace) (k:Reach) (f:Nat),
 DataW.Trod h P c g l i t b d j->Value.okWide P c k f t b->(∀a∈d.weights P t,a<=reachBytes)->∃a,eK c.heap nz a b/\e a
section
variable {P:ai}{cx:Ctx}{t:ab}{ty:Ty}
def Ux.struct(iU:iG P cx)(v:cx.ty t=some ty){C:List (Nat×ab)}(w:ty.u= .struct C){z:Nat}{c:Type}{f:c->List T}{h:c->Prop}{e:c->T}(n:Rd P t z λi=>∃a,i=f a/\h a)(s:∀a,T.agg (f a)=e a):Ux P t λa=>∃b,a=e b/\h b:=by
 intro H l G j F r M k A L I ⟨m,q⟩ x y;have⟨_,o,g⟩:=j3 (iU.ty _ _ v);rw[w]at g;obtain⟨K,rfl,_⟩:=qG g;obtain⟨b,rfl,_⟩:=okWide_struct o x;obtain⟨i,r0,E,_,d,rfl,p⟩:=n.2 H l G j F r m _ k A q y;exact⟨_,FW r0 E ⟨_,rfl⟩,d,s d,p⟩
def Mb{H:Type}{u:ab×am->H}{n:World}{s:Nat}{E:Nat->Bool}{z:Bool}{C:Reach}{r:Nat}:∀{d:List ab} {h:List (T->Prop)},ir (Ux P) d h->∀{b:List am} {c:List (DataW H)} {m:List MemPlace},DataW.TrodAll u P n s E z d b c m->
 (∀(f:Nat) t e,d[f]? =some t->b[f]? =some e->Value.okWide P n C r t e)->(∀a∈DataW.weightsEach P d c,a<=reachBytes)->∃g,fX n.heap nz g b/\ir (λq a=>q a) h g:=by
 intro d h v;induction v with
 |nil=>
  intro b c m i _ _;obtain⟨rfl,_,_⟩:=trodAll_nil i;exact⟨[],fX.nil,.nil⟩
 |cons w _ A=>
  intro b c m i o p;obtain⟨e,b,F,c,G,I,rfl,rfl,rfl,x,y⟩:=trodAll_cons i;have⟨g,k,l⟩:=A y (λf t e k l=>o (f+1) t e k l) (λa j=>p a (by rw[DataW.weightsEach];exact df _ j));have⟨a,l1,l2⟩:=w _ _ _ _ _ _ _ _ _ _ _ x (o 0 _ _ rfl rfl) (λa j=>p a (by rw[DataW.weightsEach];exact cS _ j));exact⟨a::g,fX.cons l1 k,.cons l2 l⟩
def Ma{H:Type}{i:ab×am->H}(hl:laidOutB P=true){W h:World}(n:Below W.heap.size W h):∀{a:List ab},(a.all λt=>P.readableRec t&&decide (t<P.types.size))=true->∀{d:List am} {b:List (DataW H)} {c:List MemPlace},DataW.TrodAll i P W 0 (λ_=>true) true a d b c->(∀e∈c,e.block<W.heap.size)->DataW.TrodAll i P h 0 (λk=>decide (k<W.heap.size)) true a d b c:=by
 intro a;induction a with
 |nil=>
  intro _ d b c f _;obtain⟨rfl,rfl,rfl⟩:=trodAll_nil f;exact trodAll_mk0
 |cons t a o=>
  intro hr d b c f j;simp only[cq,az,aL]at hr;obtain⟨s,d,p,b,q,r,rfl,rfl,rfl,l,m⟩:=trodAll_cons f;exact trodAll_cons_mk (Below.trod hl hr.1.1 hr.1.2 l n λe g=>j e (cS _ g)) (o hr.2 m λe g=>j e (df _ g))
def ir.inv{b h:Type}{a:b->h->Prop}{c:b}{e:List b}{f:List h}(i:ir a (c::e) f):∃d g,f=d::g/\a c d/\ir a e g:=by cases i;exact⟨_,_,rfl,‹_›,‹_›⟩
def ir.zH{b c:Type}{d:b->c->Prop}{a:List c}(e:ir d ([]:List b) a):a=[]:=by cases e;rfl
