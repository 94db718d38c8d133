/- Texts W08g to W08g. -/
import Derived.Test.YtmaeadedikngoaaGreatDoorA18
set_option linter.unusedVariables false
set_option linter.unusedSimpArgs false
set_option linter.defProp false
set_option maxRecDepth 100000
set_option maxHeartbeats 8000000
namespace Go.Proofs.YtmaeadedikngoaaGreatDoor
noncomputable section
open Go Go.TI
attribute [-simp] List.map_take List.map_drop List.map_append fj eG dY Bool.not_or Bool.not_and
attribute [simp] fh eJ
def nz{d:Type}{c:List d}{b:Nat}{a:d}(h:c[b]? =some a)(f:d->d):c.modify b f=c.set b (f a):=by
 apply cS;intro g;rw[List.getElem?_modify,bQ];by_cases e:b=g
 ·subst e;have hi:b<c.length:=by
   rcases aD b c.length with k|k
   ·exact k
   ·rw[aK k]at h;simp at h
  rw[h];simp[hi]
 ·rw[ao e];simp[e]
section
variable {lo hi hi':Nat}{h h':H}{c0 c2 c3:T}{es:List T}{S:fg}
def AB.mono(d:AB lo hi h c0 c2 c3 es S)(l:hi<=hi')(f:∀a,lo<=a->a<hi->h'.get a=h.get a):AB lo hi' h' c0 c2 c3 es S:=
 ⟨d.g0.mono λa c=>f a (d.b a (.inl c)).1 (d.b a (.inl c)).2,d.g2.mono λa c=>f a (d.b a (.inr (.inl c))).1 (d.b a (.inr (.inl c))).2,d.g3.mono λa c=>f a (d.b a (.inr (.inr c))).1 (d.b a (.inr (.inr c))).2,
   d.el.imp λk m ⟨j,g,i,e⟩=>⟨j,g,i.mono λa c=>f a (e a c).1 (e a c).2.1,λa c=>⟨(e a c).1,by have:=(e a c).2.1;omega,(e a c).2.2⟩⟩,λa c=>⟨(d.b a c).1,by have:=(d.b a c).2;omega⟩⟩
def AB.tx(a:AB lo hi h c0 c2 c3 es S)(c:Int):AB lo hi h c0 c2 c3 es {S with tx:=c}:=⟨a.g0,a.g2,a.g3,a.el,a.b⟩
def AB.ox(d:AB lo hi h c0 c2 c3 es S){e l n:Nat}{m:Bool}{o:List T}(r:dL c3=some e)(g:h.get e=some ⟨3,l,n,m,false,o⟩)(i:Nat)(k:dD):
 AB lo hi (dQ h e ⟨3,l,n+1,m,false,o.set i k.t⟩) c0 c2 c3 es {S with dB:=S.dB.set i k}:=by
 have p:∀a,a≠e->(dQ h e ⟨3,l,n+1,m,false,o.set i k.t⟩).get a=h.get a:=λa c=>by rw[dE g,ao c]
 refine⟨d.g0.mono λa c=>p a λf=> ?_,d.g2.mono λa c=>p a λf=> ?_,?_,d.el.imp λf w ⟨v,s,u,q⟩=>⟨v,s,u.mono λa c=>p a λf=>(q a c).2.2.2.2 (by rw[f];exact r),q⟩,d.b⟩
 ·subst f;obtain⟨_,_,_,_,j,_⟩:=d.g0.box c;rw[g]at j;simp at j
 ·subst f;obtain⟨_,_,_,_,j,_⟩:=d.g2.box c;rw[g]at j;simp at j
 ·have:=d.g3.setAt r g i k.t (h':=dQ h e ⟨3,l,n+1,m,false,o.set i k.t⟩) (by rw[dE g,aq rfl]);simpa[bR]using this
def AB.Ws(d:AB lo hi h c0 c2 c3 es S){e l n:Nat}{m:Bool}{o:List T}(r:dL c2=some e)(g:h.get e=some ⟨1,l,n,m,false,o⟩)(i:Nat)(k:Bool):
 AB lo hi (dQ h e ⟨1,l,n+1,m,false,o.set i (.bool k)⟩) c0 c2 c3 es {S with done:=S.done.set i k}:=by
 have p:∀a,a≠e->(dQ h e ⟨1,l,n+1,m,false,o.set i (.bool k)⟩).get a=h.get a:=λa c=>by rw[dE g,ao c]
 refine⟨d.g0.mono λa c=>p a λf=> ?_,?_,d.g3.mono λa c=>p a λf=> ?_,d.el.imp λf v ⟨u,s,t,q⟩=>⟨u,s,t.mono λa c=>p a λf=>(q a c).2.2.2.1 (by rw[f];exact r),q⟩,d.b⟩
 ·subst f;obtain⟨_,_,_,_,j,_⟩:=d.g0.box c;rw[g]at j;simp at j
 ·have:=d.g2.setAt r g i (.bool k) (h':=dQ h e ⟨1,l,n+1,m,false,o.set i (.bool k)⟩) (by rw[dE g,aq rfl]);simpa[bR]using this
 ·subst f;obtain⟨_,_,_,_,j,_⟩:=d.g3.box c;rw[g]at j;simp at j
def AB.pK(e:AB lo hi h c0 c2 c3 es S){g m p:Nat}{n:Bool}{q:List T}(o:dL c0=some g)(i:h.get g=some ⟨2,m,p,n,false,q⟩)(f:Nat){rv:T}{k:dS}(hr:oO h 1 rv (ge k.d8))(s:∀a,dL rv=some a->lo<=a/\a<hi/\dL c0≠some a/\dL c2≠some a/\dL c3≠some a):
 AB lo hi (dQ h g ⟨2,m,p+1,n,false,q.set f (.agg [dw k.iF,rv])⟩) c0 c2 c3 (es.set f (.agg [dw k.iF,rv])) {S with dV:=S.dV.set f k}:=by
 have l:∀a,a≠g->(dQ h g ⟨2,m,p+1,n,false,q.set f (.agg [dw k.iF,rv])⟩).get a=h.get a:=λa c=>by rw[dE i,ao c]
 refine⟨e.g0.setAt o i f _ (by rw[dE i,aq rfl]),e.g2.mono λa c=>l a λd=> ?_,e.g3.mono λa c=>l a λd=> ?_,e.el.set f ⟨rv,rfl,hr.mono λa c=>l a λd=>(s a c).2.2.1 (by rw[d];exact o),s⟩ λd v ⟨rv,t,u,r⟩=>⟨rv,t,u.mono λa c=>l a λd=>(r a c).2.2.1 (by rw[d];exact o),r⟩,e.b⟩
 ·subst d;obtain⟨_,_,_,_,j,_⟩:=e.g2.box c;rw[i]at j;simp at j
 ·subst d;obtain⟨_,_,_,_,j,_⟩:=e.g3.box c;rw[i]at j;simp at j
end
def AB.fz{lo hi:Nat}{h:H}{c0 c2 c3:T}{es:List T}{S:fg}(a:AB lo hi h c0 c2 c3 es S):TI.fz h c0=some (sl (S.dV.map dS.t))/\TI.fz h c2=some (sl (S.done.map T.bool))/\TI.fz h c3=some (sl (S.dB.map dD.t)):=by
 refine⟨?_,a.g2.fz dp,a.g3.fz dp⟩;exact a.g0.IP (d:=4) dj (a.el.Uw (f:=dS.t) λg j ⟨l,b,c,i⟩=>by
  subst b;exact .inr (.inr ⟨_,_,rfl,.cons (fR ..) (.cons (c.ft (d:=1) (V:=λ_=>True) (λm e=>by obtain⟨k,_,rfl⟩:=List.mem_map.1 e;simp) λ_ _=>trivial) .nil),rfl⟩))
def HP{c:List Int}(h:HG c)(d:Int):yC c [d]=lx c d:=by
 have e:∀(a b:List Int),lj b a=a.foldl lx b:=by
  intro a;induction a with
  |nil=>intro b;rfl
  |cons g a f=>intro b;show lj (sX b g) a=_;rw[f,Bk];rfl
 unfold yC;rw[e,e];exact KH h d
end
end Go.Proofs.YtmaeadedikngoaaGreatDoor
