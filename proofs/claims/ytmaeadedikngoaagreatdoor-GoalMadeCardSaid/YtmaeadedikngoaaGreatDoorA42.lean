/- Texts TiArg to TiArg. -/
import Derived.Test.YtmaeadedikngoaaGreatDoorA41
import Derived.Test.YtmaeadedikngoaaGreatDoorA9
set_option linter.unusedVariables false
set_option linter.unusedSimpArgs false
namespace Go.TI
noncomputable section
theorem P0(b:Nat):¬mG nC b:=by
 rintro(⟨d,c,a,_⟩|hr)
 ·simp[nC]at a
 ·exact hr
def Rd(P:ai)(t d:Nat)(f:List T->Prop):Prop:=P.cellsOf t=d/\∀(H:Type) (h:ab×am->H) (e:World) (g:Nat) (l:Nat->Bool) (j:Bool) (i:Nat) (b:List am) (c:DataW H) (k:List MemPlace),
 DataW.trod h P e g l j i t b=some (c,k)->(∀n∈c.weights P t,n<=reachBytes)->∃a,fI e.heap nC a b/\(∀m∈a,vJ m)/\a.length=d/\f a
section
variable {P:ai}{t:Nat}
theorem fI.one{b:af Obj}{d:Mu}{c:T}{a:am}(h:eg b d c a):fI b d [c] [a]:=fI.cons h fI.nil
theorem X7{c:ak}(k:P.underlying t=some (.int c))(j:P.cellsOf t=1):Rd P t 1 λm=>∃b,m=[.int c b]/\c.min<=b/\b<=c.max:=by
 refine⟨j,λH p w n u q d f o s a r=> ?_⟩
 cases d with
 |zero=>simp[DataW.trod]at a
 |succ d=>
  unfold DataW.trod at a
  rw[k]at a
  match f,a with
  | [.int l b],a=>
   simp only[Lit.wf,ay,aL]at a
   split at a
   ·rename_i i
    obtain⟨rfl,g,h⟩:=i
    exact⟨[.int l b],fI.one (.int _ _),λv e=>by simp at e;subst e;exact⟨rfl,.int _ _⟩,rfl,b,rfl,g,h⟩
   ·simp at a
def tJ(b:Bool)(a:List T):T:=if b=true then .agg a else ST a
theorem CS{c:Bool}{a:List T}{d:Nat}(hl:a.length=d)(e:c=false->d=1)(f:∀h∈a,vJ h):(tJ c a).cells=a:=by
 cases c with
 |true=>rfl
 |false=>
  have:=e rfl
  subst this
  obtain⟨b,rfl⟩:=List.length_eq_one_iff.1 hl
  have g:=(f b (by simp)).1
  show T.cells b=[b]
  cases b<;>first|rfl|(simp[T.scalar]at g)
theorem mapM_some{k l:Type}(g:k->aa l):∀{c:List k} {e:List l},c.mapM g=some e->e.length=c.length/\∀(b:Nat) f,c[b]? =some f->∃h,e[b]? =some h/\g f=some h:=by
 intro c
 induction c with
 |nil=>intro e a;simp at a;subst a;exact⟨rfl,λb f d=>by simp at d⟩
 |cons m c p=>
  intro e a
  rw[List.mapM_cons]at a
  cases i:g m with
  |none=>rw[i]at a;simp at a
  |some h=>
   rw[i]at a
   cases j:c.mapM g with
   |none=>rw[j]at a;simp at a
   |some q=>
    rw[j]at a
    simp at a
    subst a
    obtain⟨n,o⟩:=p j
    refine⟨by simp[n],λb f d=> ?_⟩
    cases b with
    |zero=>simp at d;subst d;exact⟨h,by simp,i⟩
    |succ b=>simpa using o b f (by simpa using d)
theorem BK{f:World}{g d:Nat}{e:Addr}{c:List am}(b:f.cells? g e d=some c):c.length=d/\∀a,a<d->f.cell? (e.add a)=c[a]? :=by
 unfold World.cells? at b
 split at b
 ·obtain⟨h,i⟩:=mapM_some _ b
  refine⟨by simpa using h,λa l=> ?_⟩
  obtain⟨m,j,k⟩:=i a a (by rw[List.getElem?_range l])
  rw[j];exact k
 ·simp at b
theorem GD{w:World}{a:Addr}{n:Nat}{d:am}(b:w.cell? (a.add n)=some d):∃c t fz,w.heap[a.block]? =some (.cells c t fz)/\c[a.off+n]? =some d:=by
 unfold World.cell? at b
 have e:(a.add n).block=a.block:=by unfold Addr.add;split<;>rfl
 have g:(a.add n).off=a.off+n:=by unfold Addr.add;split<;>simp_all
 rw[e,g]at b
 split at b
 ·rename_i c t fz f
  split at b
  ·simp at b
  ·exact⟨c,t,fz,f,b⟩
 ·simp at b
theorem cell_spot{e:World}{b:Addr}{d:am}(a:e.cell? b=some d):b.spot=none:=by
 unfold World.cell? at a
 split at a
 ·split at a
  ·simp at a
  ·rename_i c;simpa using c
 ·simp at a
theorem P3{b a c:Nat}(e:0<a)(d:b+(a-1)<c):b+a<=c:=by omega
theorem Qc{ag:Bool}{f:Nat}(i:ag=false->f=1):∀{a:List (List T)},(∀d∈a,d.length=f/\∀b∈d,vJ b)->(∀b∈a.map (tJ ag),b.cells.length=f)/\d6 (a.map (tJ ag))=a.flatten:=by
 intro a
 induction a with
 |nil=>intro _;exact⟨λb c=>by simp at c,rfl⟩
 |cons d a k=>
  intro g
  obtain⟨l,m⟩:=k λn j=>g n (cw _ j)
  have e:=g d (by simp)
  have h:=CS e.1 i e.2
  refine⟨λb c=> ?_,?_⟩
  ·rcases List.mem_cons.1 (show b∈tJ ag d::a.map (tJ ag)from c)with rfl|c
   ·rw[h];exact e.1
   ·exact l b c
  ·rw[aU,kY,m,h];rfl
theorem Pr{y n G:Nat}{J:List T->Prop}(bs:P.underlying t=some (.slice y))(dm:P.cellsOf t=1)(cL:P.bytesOf y=G)(a7:Rd P y n J)(ey:1<=n)(ag:Bool)(al:ag=false->n=1):
 Rd P t 1 λq=>∃es:List (List T),q=[sl (es.map (tJ ag))]/\es.length*G<=140737488351232/\∀b∈es,J b:=by
 refine⟨dm,λH cb w V ea c6 Y b9 d p h bu=> ?_⟩
 have dv:∀es:List (List T),(∀b∈es,b.length=n/\∀v∈b,vJ v)->vJ (sl (es.map (tJ ag))):=by
  intro es M
  cases es with
  |nil=>exact⟨rfl,.fg⟩
  |cons b es=>
   refine⟨rfl,.dq _ _ λv l=> ?_⟩
   obtain⟨x,s,rfl⟩:=List.mem_map.1 (show v∈(b::es).map (tJ ag)from l)
   have av:=M x s
   cases ag with
   |true=>exact .agg _ λv l=>(av.2 v l).2
   |false=>
    obtain⟨z,rfl⟩:=List.length_eq_one_iff.1 (av.1.trans (al rfl))
    exact(av.2 z (by simp)).2
 cases Y with
 |zero=>simp[DataW.trod]at h
 |succ Y=>
  unfold DataW.trod at h
  rw[bs]at h
  match b9,h with
  | [.slice none 0 0],h=>exact⟨[sl []],fI.one (.fg _ _),λv l=>by simp at l;subst l;exact⟨rfl,.fg⟩,rfl,[],rfl,by simp,λb c=>by simp at c⟩
  | [.slice (some a) F b7],h=>
   simp only at h
   split at h
   ·rename_i N
    obtain⟨er,dk,et⟩:=N
    obtain⟨aX,c4,S⟩:=Option.bind_eq_some_iff.1 h
    obtain⟨aN,_,S⟩:=Option.map_eq_some_iff.1 S
    simp only[ax]at S
    obtain⟨c1,_⟩:=S
    obtain⟨hl,c9⟩:=mapM_some _ c4
    have bv:d.weights P t=((aX.map (·.1)).length+(aN.map (·.1)).length)*P.bytesOf y::(DataW.weightsAll P y (aX.map (·.1))++DataW.weightsAll P y (aN.map (·.1))):=by
     rw[<-c1,DataW.weights,bs]
    have an:F*G<=140737488351232:=by
     have E:=bu _ (by rw[bv];exact db ..)
     simp only[aH,hl,dh,cL]at E
     have K:F*G<=(F+aN.length)*G:=aV G (by omega)
     have L:reachBytes=140737488351232:=rfl
     omega
    have eb:∀(j:List (DataW H)) (x:DataW H),x∈j->∀b∈x.weights P y,b∈DataW.weightsAll P y j:=by
     intro j
     induction j with
     |nil=>intro x s;simp at s
     |cons a j aA=>
      intro x s b c
      rw[DataW.weightsAll]
      rcases List.mem_cons.1 s with rfl|s
      ·exact c8 _ c
      ·exact List.mem_append_right _ (aA x s b c)
    have ds:∀i,i<F->∃q:List T,∃j,w.cells? V (a.add (i*n)) n=some j/\fI w.heap nC q j/\(∀v∈q,vJ v)/\q.length=n/\J q:=by
     intro i hi
     obtain⟨x,s,c7⟩:=c9 i i (by rw[List.getElem?_range hi])
     obtain⟨j,bk,di⟩:=Option.bind_eq_some_iff.1 c7
     obtain⟨W,bB⟩:=x
     rw[a7.1]at bk
     obtain⟨q,E,K,L,Z⟩:=a7.2 H cb w V ea c6 Y j W bB di λb c=>bu b (by
      rw[bv]
      exact cw _ (c8 _ (eb _ W (List.mem_map.2 ⟨(W,bB),az s,rfl⟩) b c)))
     exact⟨q,j,bk,E,K,L,Z⟩
    have bT:∀u,u<=F->∃es:List (List T),es.length=u/\∀i b,es[i]? =some b->∃j,w.cells? V (a.add (i*n)) n=some j/\fI w.heap nC b j/\(∀v∈b,vJ v)/\b.length=n/\J b:=by
     intro u
     induction u with
     |zero=>intro _;exact⟨[],rfl,λi b c=>by simp at c⟩
     |succ u aA=>
      intro eu
      obtain⟨es,B,I⟩:=aA (by omega)
      obtain⟨q,j,dn⟩:=ds u (by omega)
      refine⟨es++[q],by simp[B],λi b c=> ?_⟩
      rcases aD i u with hi|hi
      ·rw[bW (by omega)]at c;exact I i b c
      ·have:i=u:=by
        rcases aD u i with h|h
        ·rw[aM (by simp[B];omega)]at c;simp at c
        ·omega
       subst this
       rw[cq (by omega),B]at c
       simp at c;subst c
       exact⟨j,dn⟩
    obtain⟨es,B,I⟩:=bT F (au _)
    have M:∀b∈es,b.length=n/\∀v∈b,vJ v:=λb c=>by
     obtain⟨i,hi⟩:=cT c
     obtain⟨j,_,_,K,L,_⟩:=I i b hi
     exact⟨L,K⟩
    have cp:∀b∈es,J b:=λb c=>by
     obtain⟨i,hi⟩:=cT c
     obtain⟨j,_,_,K,L,Z⟩:=I i b hi
     exact Z
    refine⟨[sl (es.map (tJ ag))],fI.one ?_,λv l=>by simp at l;subst l;exact dv es M,rfl,es,rfl,?_,cp⟩
    ·cases es with
     |nil=>
      simp at B;subst B
      exact .fg _ _
     |cons f e=>
      obtain⟨Q,eh⟩:=Qc (ag:=ag) al M
      obtain⟨l0,bX,r0,eC,eA,_⟩:=I 0 f rfl
      have a6:=BK bX
      rw[Nat.zero_mul,show a.add 0=a by simp[Addr.add]]at a6
      have ap:=a6.2 0 (by omega)
      have de:0<l0.length:=by omega
      rw[show a.add 0=a by simp[Addr.add],aB de]at ap
      have bp:=cell_spot ap
      obtain⟨C,ty,fz,N,_⟩:=GD (w:=w) (a:=a) (n:=0) (by rw[show a.add 0=a by simp[Addr.add]];exact ap)
      obtain⟨O,off,eE⟩:=a
      simp only at bp N
      subst bp
      have b8:∀i b o v,(f::e)[i]? =some b->b[o]? =some v->∃r,C[off+(i*n+o)]? =some r/\eg w.heap nC v r:=by
       intro i b o v c l
       obtain⟨j,b6,r1,eD,eB,_⟩:=I i b c
       have cX:=BK b6
       have R:o<n:=by
        rcases aD o n with h|h
        ·exact h
        ·rw[aM (by omega)]at l;simp at l
       have bn:o<j.length:=by omega
       have E:=cX.2 o R
       rw[aB bn]at E
       have ca:((⟨O,off,none⟩:Addr).add (i*n)).add o=(⟨O,off,none⟩:Addr).add (i*n+o):=by
        unfold Addr.add
        by_cases aE:i*n=0
        ·simp[aE]
        ·by_cases bN:o=0
         ·subst bN;simp[aE]
         ·simp[aE,bN,cD]
       rw[ca]at E
       obtain⟨ef,eF,eo,m,D⟩:=GD E
       rw[show w.heap[O]? =some (.cells C ty fz)from N]at m
       simp only[ar,Obj.cells.injEq]at m
       obtain⟨rfl,_,_⟩:=m
       refine⟨_,D,?_⟩
       have:=r1.2 o v l
       rw[List.getD_eq_getElem?_getD,aB bn]at this
       exact this
      have X:∀k v,(d6 ((f::e).map (tJ ag)))[k]? =some v->∃r,C[off+k]? =some r/\eg w.heap nC v r/\vJ v:=by
       intro k v A
       have dd:k<((f::e).map (tJ ag)).length*n:=by
        rw[<-fM Q]
        rcases aD k (d6 ((f::e).map (tJ ag))).length with h|h
        ·exact h
        ·rw[aM h]at A;simp at A
       have hi:k/n<(f::e).length:=by
        rw[Nat.div_lt_iff_lt_mul (by omega)];simpa using dd
       have c:(f::e)[k/n]? =some (f::e)[k/n]:=aB hi
       have U:=M _ (aF hi)
       have R:k% n<((f::e)[k/n]).length:=by rw[U.1];exact Nat.mod_lt _ (by omega)
       have bz:((f::e)[k/n])[k% n]? =some ((f::e)[k/n])[k% n]:=aB R
       have a8:=flat_get (es:=(f::e).map (tJ ag)) Q (i:=k/n) (k:=k% n) (v:=tJ ag (f::e)[k/n]) (z:=((f::e)[k/n])[k% n]) (by rw[aT,c];rfl) (by rw[CS U.1 al U.2];exact bz)
       have bi:k/n*n+k% n=k:=by rw[Nat.mul_comm];exact Nat.div_add_mod k n
       rw[bi]at a8
       rw[a8]at A
       simp only[ar]at A
       obtain⟨r,m,D⟩:=b8 _ _ _ _ c bz
       rw[bi]at m
       exact⟨r,m,A▸D,A▸U.2 _ (aF R)⟩
      have an:e.length+1=F:=by simpa using B
      subst an
      show eg w.heap nC (.dq (tJ ag f::e.map (tJ ag)) false) _
      have:=eg.dq (hp:=w.heap) (μ:=nC) (tJ ag f) (e.map (tJ ag)) false O off b7 n C ty fz (P0 _) N (by simpa using dk) (by simp) Q ?_ ?_ ?_
      ·simpa using this
      ·show off+(d6 ((f::e).map (tJ ag))).length<=C.size
       have ce:0<(d6 ((f::e).map (tJ ag))).length:=by rw[fM Q];exact Nat.mul_pos (by simp) (by omega)
       obtain⟨r,m,_⟩:=X ((d6 ((f::e).map (tJ ag))).length-1) _ (aB (by omega))
       have D:off+((d6 ((f::e).map (tJ ag))).length-1)<C.size:=by
        rcases aD (off+((d6 ((f::e).map (tJ ag))).length-1)) C.size with ae|ae
        ·exact ae
        ·rw[cN ae]at m;simp at m
       exact P3 ce D
      ·intro v l
       obtain⟨i,hi⟩:=cT l
       obtain⟨_,_,_,g⟩:=X i v hi
       exact g
      ·intro k v A
       obtain⟨r,m,D,_⟩:=X k v A
       rw[aW,m];exact D
    ·rw[B];exact an
   ·simp at h
inductive Cut:List (List T->Prop)->List T->Prop where
 |nil:Cut [] []
 |cons (Q:List T->Prop) (Qs:List (List T->Prop)) (a b:List T) (h:Q a) (r:Cut Qs b):Cut (Q::Qs) (a++b)
theorem Rd.imp{e:Nat}{b c:List T->Prop}(d:Rd P t e b)(q:∀a,b a->c a):Rd P t e c:=⟨d.1,λH i v f u p j g h s o r=>by
 obtain⟨a,k,l,m,n⟩:=d.2 H i v f u p j g h s o r
 exact⟨a,k,l,m,q a n⟩⟩
theorem Cut.Nl{a:List T}(b:Cut [] a):a=[]:=by cases b;rfl
theorem Mx{h j:Type}{f:h->j}{p:h->Prop}:∀{b:List j},(∀e∈b,∃a,e=f a/\p a)->∃c:List h,b=c.map f/\∀a∈c,p a:=by
 intro b
 induction b with
 |nil=>intro _;exact⟨[],rfl,λa d=>by simp at d⟩
 |cons e b l=>
  intro i
  obtain⟨a,rfl,d⟩:=i e (by simp)
  obtain⟨c,rfl,k⟩:=l λg hz=>i g (cw _ hz)
  exact⟨a::c,rfl,λg hz=>by rcases List.mem_cons.1 hz with rfl|hz;exact d;exact k g hz⟩
theorem BL{ty:Ty}(a:tW P t ty):P.cellsOf t=ty.size:=by
 obtain⟨e,d,f,b,_,_,_,_,_,_,c,_⟩:=a.unfold
 unfold Program.cellsOf;rw[b];exact c
theorem IE{ty:Ty}(a:tW P t ty):P.bytesOf t=ty.bytes:=by
 obtain⟨e,d,f,b,_,_,_,_,_,_,_,c,_⟩:=a.unfold
 unfold Program.bytesOf;rw[b];exact c
variable {cx:Ctx}{ty:Ty}
theorem TN(iB:iG P cx)(e:cx.ty t=some ty){c:ak}(h:ty.u= .int c)(g:ty.size=1):Rd P t 1 λf=>∃a:Int,f=[.int c a]/\(c.min<=a/\a<=c.max):=by
 obtain⟨i,d,b⟩:=ky (iB.ty _ _ e)
 rw[h]at b
 exact(X7 (by rw[d,uQ b]) (by rw[BL (iB.ty _ _ e),g])).imp λf ⟨a,d,b⟩=>⟨a,d,b⟩
theorem L4(iB:iG P cx)(k:cx.ty t=some ty){g i:Nat}{l:Ty}(y:ty.u= .slice g)(w:ty.size=1)(x:cx.ty g=some l){d:Type}{h:d->List T}{p:d->Prop}(o:Rd P g i λc=>∃a,c=h a/\p a)(v:1<=i)(e:Bool)(n:e=false->i=1){f:d->T}(r:∀a,tJ e (h a)=f a):
 Rd P t 1 λc=>∃b:List d,c=[sl (b.map f)]/\(b.length*l.bytes<=140737488351232/\∀a∈b,p a):=by
 obtain⟨z,m,j⟩:=ky (iB.ty _ _ k)
 rw[y]at j
 refine(Pr (by rw[m,kS j]) (by rw[BL (iB.ty _ _ k),w]) (IE (iB.ty _ _ x)) o v e n).imp ?_
 rintro c ⟨A,rfl,hl,q⟩
 obtain⟨b,rfl,s⟩:=Mx (f:=h) (p:=p) q
 refine⟨b,?_,by simpa using hl,s⟩
 rw[cG]
 congr 2
 apply List.map_congr_left
 intro a _;exact r a
end
theorem IC{P:ai}{cx:Ctx}{d:aj}{j:Func}{c:Code}{l:List T}{g:af am}(q:P.funcs[d]? =some j)(v:(j.name== "runtime.NumGoroutine")=false)(a:j.body=some c)
 (w:kO P cx d l (.bool true)) (W:World) (s:∀n m,cx.gl n=some m->eg W.heap nC (.iT m) (.pointer (some ⟨n,0,none⟩))) (r:fI W.heap nC l g.toList):
 Calls P d g W λi k=>i= .returned (.bool true)/\RowKit.Below W.heap.size W k:=by
 have z:St cx W.heap.size W.heap nC ⟨0,0,[]⟩:=
  ⟨rfl,au _,λf e a=>by simp[nC]at a,λf C e B a=>by simp[nC]at a,λf e a=>by simp[nC]at a,λf e a=>by simp[nC]at a,λD hr=>hr.elim,s⟩
 have h:=w W.heap.size W nC g ⟨0,0,[]⟩ z r
 rw[m9 q v a]at h
 have h:Calls P d g W λ
  | .returned p,A=>pK cx W.heap.size W nC ⟨0,0,[]⟩ (.bool true) ⟨0,0,[]⟩ p A
  |_,_=>False:=h
 refine h.mono λi k o=> ?_
 cases i with
 |returned p=>
  obtain⟨⟨G,y,E,b,F⟩,_⟩:=o
  refine⟨by rw[y.pf],b.os,b.tape,b.output,b.ext.size,λx u=>(b.ext.wF x u ?_).1⟩
  rintro(⟨f,e,a,_⟩|hr)
  ·simp[nC]at a
  ·exact hr
 |_=>exact o.elim
theorem LY{d:af Obj}{e:T}{a:am}(b:fI d nC [e] a.cells.toList)(f:a.cells= #[a]):eg d nC e a:=by
 rw[f]at b
 obtain⟨g,h,c,hr,_⟩:=b.ll
 simp at c
 rw[c.1];exact hr
end
end Go.TI
