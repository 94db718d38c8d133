/- TiClose -/
import Derived.Test.YtajpdafdickapaaGreatDoorA33
import Derived.Below
import Derived.Carry
import Derived.OpenShut
set_option linter.all false
namespace Go.TI
noncomputable section
open Go.ChangeShapes Go.WideShapes Go.RowKit
section
def Tc(P:ai)(t:ab)(e:T->Prop):Prop:=∀(H:Type) (h:ab×am->H) (c:World) (g:Nat) (l:Nat->Bool) (i:Bool) (b:am) (d:DataW H) (j:List MemPlace) (k:Reach) (f:Nat),
 DataW.Trod h P c g l i t b d j->Value.okWide P c k f t b->(∀a∈d.weights P t,a<=reachBytes)->∃a,fI c.heap nV a b/\e a
section
variable {P:ai}{cx:Ctx}{t:ab}{ty:Ty}
def Tc.struct(jq:jg P cx)(v:cx.ty t=some ty){B:List (Nat×ab)}(w:ty.u= .struct B){z:Nat}{c:Type}{f:c->List T}{h:c->Prop}{e:c->T}(n:Rd P t z λi=>∃a,i=f a/\h a)(s:∀a,T.agg (f a)=e a):Tc P t λa=>∃b,a=e b/\h b:=by
 intro H l E j D r K k A I F ⟨m,q⟩ x y;have⟨_,o,g⟩:=kM (jq.ty _ _ v);rw[w]at g;obtain⟨G,rfl,_⟩:=r6 g;obtain⟨b,rfl,_⟩:=okWide_struct o x;obtain⟨i,r0,C,_,d,rfl,p⟩:=n.2 H l E j D r m _ k A q y;exact⟨_,Il r0 C ⟨_,rfl⟩,d,s d,p⟩
def Tc.one(jq:jg P cx)(B:cx.ty t=some ty){n:Type}{f:n->T}{k:n->Prop}(z:(∃e,ty.u= .slice e)\/∃j,ty.u= .int j)(h:Rd P t 1 λl=>∃b,l=[f b]/\k b):Tc P t λb=>∃d,b=f d/\k d:=by
 intro H r w o E y m q D I G ⟨s,x⟩ i C;have⟨_,a,c⟩:=kM (jq.ty _ _ B);have v:m.cells= #[m]:=by
  rcases z with⟨e,g⟩|⟨j,g⟩<;>rw[g]at c
  ·rw[lZ c]at a;obtain⟨_,_,_,rfl⟩:=okWide_slice a i;rfl
  ·rw[xd c]at a;obtain⟨_,rfl⟩:=okWide_int a i;rfl
 obtain⟨l,r0,K,_,p,rfl,A⟩:=h.2 H r w o E y s _ q D x C;exact⟨_,PD r0 v,p,rfl,A⟩
def OU{H:Type}{u:ab×am->H}{n:World}{s:Nat}{C:Nat->Bool}{z:Bool}{B:Reach}{r:Nat}:∀{d:List ab} {h:List (T->Prop)},iF (Tc P) d h->∀{b:List am} {c:List (DataW H)} {m:List MemPlace},DataW.TrodAll u P n s C z d b c m->
 (∀(f:Nat) t e,d[f]? =some t->b[f]? =some e->Value.okWide P n B r t e)->(∀a∈DataW.weightsEach P d c,a<=reachBytes)->∃g,gY n.heap nV g b/\iF (λq a=>q a) h g:=by
 intro d h v;induction v with
 |nil=>
  intro b c m i _ _;obtain⟨rfl,_,_⟩:=trodAll_nil i;exact⟨[],gY.nil,.nil⟩
 |cons w _ A=>
  intro b c m i o p;obtain⟨e,b,D,c,E,F,rfl,rfl,rfl,x,y⟩:=trodAll_cons i;have⟨g,k,l⟩:=A y (λf t e k l=>o (f+1) t e k l) (λa j=>p a (by rw[DataW.weightsEach];exact dw _ j));have⟨a,l1,l2⟩:=w _ _ _ _ _ _ _ _ _ _ _ x (o 0 _ _ rfl rfl) (λa j=>p a (by rw[DataW.weightsEach];exact cZ _ j));exact⟨a::g,gY.cons l1 k,.cons l2 l⟩
def OT{H:Type}{i:ab×am->H}(hl:laidOutB P=true){W h:World}(n:Below W.heap.size W h):∀{a:List ab},(a.all λt=>P.readableRec t&&decide (t<P.types.size))=true->∀{d:List am} {b:List (DataW H)} {c:List MemPlace},DataW.TrodAll i P W 0 (λ_=>true) true a d b c->(∀e∈c,e.block<W.heap.size)->DataW.TrodAll i P h 0 (λk=>decide (k<W.heap.size)) true a d b c:=by
 intro a;induction a with
 |nil=>
  intro _ d b c f _;obtain⟨rfl,rfl,rfl⟩:=trodAll_nil f;exact trodAll_mk0
 |cons t a o=>
  intro hr d b c f j;simp only[bZ,ax,aI]at hr;obtain⟨s,d,p,b,q,r,rfl,rfl,rfl,l,m⟩:=trodAll_cons f;exact trodAll_cons_mk (Below.trod hl hr.1.1 hr.1.2 l n λe g=>j e (cZ _ g)) (o hr.2 m λe g=>j e (dw _ g))
def iF.inv{b h:Type}{a:b->h->Prop}{c:b}{e:List b}{f:List h}(i:iF a (c::e) f):∃d g,f=d::g/\a c d/\iF a e g:=by cases i;exact⟨_,_,rfl,‹_›,‹_›⟩
def iF.GS{b c:Type}{d:b->c->Prop}{a:List c}(e:iF d ([]:List b) a):a=[]:=by cases e;rfl
