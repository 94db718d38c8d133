/- Texts TiClose to TiClose. -/
import Derived.Test.YtmaeadedikngoaaGreatDoorA44
import Derived.Below
import Derived.Carry
import Derived.OpenShut
set_option linter.all false
namespace Go.TI
noncomputable section
open Go.ChangeShapes Go.WideShapes Go.RowKit
def US(P:ai)(t:ab)(e:T->Prop):Prop:=∀(H:Type) (h:ab×am->H) (c:World) (g:Nat) (l:Nat->Bool) (i:Bool) (b:am) (d:DataW H) (j:List MemPlace) (k:Reach) (f:Nat),
 DataW.Trod h P c g l i t b d j->Value.okWide P c k f t b->(∀a∈d.weights P t,a<=reachBytes)->∃a,fD c.heap oc a b/\e a
section
variable {P:ai}{cx:Ctx}{t:ab}{ty:Ty}
def US.struct(iZ:jd P cx)(v:cx.ty t=some ty){B:List (Nat×ab)}(w:ty.u= .struct B){z:Nat}{c:Type}{f:c->List T}{h:c->Prop}{e:c->T}(n:Rd P t z λi=>∃a,i=f a/\h a)(s:∀a,T.agg (f a)=e a):US P t λa=>∃b,a=e b/\h b:=by
 intro H l E j D r J k A I F ⟨m,q⟩ x y;obtain⟨_,o,g⟩:=kO (iZ.ty _ _ v);rw[w]at g;obtain⟨G,rfl,_⟩:=rD g;obtain⟨b,rfl,_⟩:=okWide_struct o x;obtain⟨i,r0,C,_,d,rfl,p⟩:=n.2 H l E j D r m _ k A q y;exact⟨_,GW r0 C ⟨_,rfl⟩,d,s d,p⟩
def M9{H:Type}{u:ab×am->H}{n:World}{s:Nat}{C:Nat->Bool}{z:Bool}{B:Reach}{r:Nat}:∀{d:List ab} {h:List (T->Prop)},iG (US P) d h->∀{b:List am} {c:List (DataW H)} {m:List MemPlace},DataW.TrodAll u P n s C z d b c m->
 (∀(f:Nat) t e,d[f]? =some t->b[f]? =some e->Value.okWide P n B r t e)->(∀a∈DataW.weightsEach P d c,a<=reachBytes)->∃g,gJ n.heap oc g b/\iG (λq a=>q a) h g:=by
 intro d h v;induction v with
 |nil=>
  intro b c m i _ _;obtain⟨rfl,_,_⟩:=trodAll_nil i;exact⟨[],gJ.nil,.nil⟩
 |cons w _ A=>
  intro b c m i o p;obtain⟨e,b,D,c,E,F,rfl,rfl,rfl,x,y⟩:=trodAll_cons i;obtain⟨g,k,l⟩:=A y (λf t e k l=>o (f+1) t e k l) (λa j=>p a (by rw[DataW.weightsEach];exact dA _ j));obtain⟨a,l1,l2⟩:=w _ _ _ _ _ _ _ _ _ _ _ x (o 0 _ _ rfl rfl) (λa j=>p a (by rw[DataW.weightsEach];exact dc _ j));exact⟨a::g,gJ.cons l1 k,.cons l2 l⟩
def M8{H:Type}{i:ab×am->H}(hl:laidOutB P=true){W h:World}(n:Below W.heap.size W h):∀{a:List ab},(a.all λt=>P.readableRec t&&decide (t<P.types.size))=true->∀{d:List am} {b:List (DataW H)} {c:List MemPlace},DataW.TrodAll i P W 0 (λ_=>true) true a d b c->(∀e∈c,e.block<W.heap.size)->DataW.TrodAll i P h 0 (λk=>decide (k<W.heap.size)) true a d b c:=by
 intro a;induction a with
 |nil=>
  intro _ d b c f _;obtain⟨rfl,rfl,rfl⟩:=trodAll_nil f;exact trodAll_mk0
 |cons t a o=>
  intro hr d b c f j;simp only[cJ,ay,aJ]at hr;obtain⟨s,d,p,b,q,r,rfl,rfl,rfl,l,m⟩:=trodAll_cons f;exact trodAll_cons_mk (Below.trod hl hr.1.1 hr.1.2 l n λe g=>j e (dc _ g)) (o hr.2 m λe g=>j e (dA _ g))
def iG.inv{b h:Type}{a:b->h->Prop}{c:b}{e:List b}{f:List h}(i:iG a (c::e) f):∃d g,f=d::g/\a c d/\iG a e g:=by cases i;exact⟨_,_,rfl,‹_›,‹_›⟩
def iG.zU{b c:Type}{d:b->c->Prop}{a:List c}(e:iG d ([]:List b) a):a=[]:=by cases e;rfl
end
end
end Go.TI
