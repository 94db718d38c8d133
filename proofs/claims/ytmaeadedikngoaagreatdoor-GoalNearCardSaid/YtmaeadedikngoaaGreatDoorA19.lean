/- Texts W08g to W08g. -/
import Derived.Test.YtmaeadedikngoaaGreatDoorA18
set_option linter.all false
set_option maxRecDepth 100000
set_option maxHeartbeats 8000000
namespace Go.Proofs.YtmaeadedikngoaaGreatDoor
noncomputable section
open Go Go.TI
attribute [-simp] List.map_take List.map_drop List.map_append fw eQ dZ Bool.not_or Bool.not_and
attribute [simp] fq eY
def nH{d:Type}{c:List d}{b:Nat}{a:d}(h:c[b]? =some a)(f:d->d):c.modify b f=c.set b (f a):=by
 apply cU;intro g;rw[List.getElem?_modify,bQ];by_cases e:b=g
 ·subst e;have hi:b<c.length:=by
   rcases aD b c.length with k|k
   ·exact k
   ·rw[aK k]at h;simp at h
  rw[h];simp[hi]
 ·rw[ao e];simp[e]
section
variable {lo hi hi':Nat}{h h':H}{c0 c2 c3:T}{es:List T}{S:fk}
def AJ.mono(d:AJ lo hi h c0 c2 c3 es S)(l:hi<=hi')(f:∀a,lo<=a->a<hi->h'.get a=h.get a):AJ lo hi' h' c0 c2 c3 es S:=
 ⟨d.g0.mono λa c=>f a (d.b a (.inl c)).1 (d.b a (.inl c)).2,d.g2.mono λa c=>f a (d.b a (.inr (.inl c))).1 (d.b a (.inr (.inl c))).2,d.g3.mono λa c=>f a (d.b a (.inr (.inr c))).1 (d.b a (.inr (.inr c))).2,
   d.el.imp λk m ⟨j,g,i,e⟩=>⟨j,g,i.mono λa c=>f a (e a c).1 (e a c).2.1,λa c=>⟨(e a c).1,by have:=(e a c).2.1;omega,(e a c).2.2⟩⟩,λa c=>⟨(d.b a c).1,by have:=(d.b a c).2;omega⟩⟩
def AJ.tx(a:AJ lo hi h c0 c2 c3 es S)(c:Int):AJ lo hi h c0 c2 c3 es {S with tx:=c}:=⟨a.g0,a.g2,a.g3,a.el,a.b⟩
def AJ.oE(d:AJ lo hi h c0 c2 c3 es S){e l n:Nat}{m:Bool}{o:List T}(r:dO c3=some e)(g:h.get e=some ⟨3,l,n,m,false,o⟩)(i:Nat)(k:dG):
 AJ lo hi (dT h e ⟨3,l,n+1,m,false,o.set i k.t⟩) c0 c2 c3 es {S with dE:=S.dE.set i k}:=by
 have p:∀a,a≠e->(dT h e ⟨3,l,n+1,m,false,o.set i k.t⟩).get a=h.get a:=λa c=>by rw[dI g,ao c]
 refine⟨d.g0.mono λa c=>p a λf=> ?_,d.g2.mono λa c=>p a λf=> ?_,?_,d.el.imp λf w ⟨v,s,u,q⟩=>⟨v,s,u.mono λa c=>p a λf=>(q a c).2.2.2.2 (by rw[f];exact r),q⟩,d.b⟩
 ·subst f;obtain⟨_,_,_,_,j,_⟩:=d.g0.box c;rw[g]at j;simp at j
 ·subst f;obtain⟨_,_,_,_,j,_⟩:=d.g2.box c;rw[g]at j;simp at j
 ·have:=d.g3.setAt r g i k.t (h':=dT h e ⟨3,l,n+1,m,false,o.set i k.t⟩) (by rw[dI g,aq rfl]);simpa[bR]using this
def AJ.WE(d:AJ lo hi h c0 c2 c3 es S){e l n:Nat}{m:Bool}{o:List T}(r:dO c2=some e)(g:h.get e=some ⟨1,l,n,m,false,o⟩)(i:Nat)(k:Bool):
 AJ lo hi (dT h e ⟨1,l,n+1,m,false,o.set i (.bool k)⟩) c0 c2 c3 es {S with done:=S.done.set i k}:=by
 have p:∀a,a≠e->(dT h e ⟨1,l,n+1,m,false,o.set i (.bool k)⟩).get a=h.get a:=λa c=>by rw[dI g,ao c]
 refine⟨d.g0.mono λa c=>p a λf=> ?_,?_,d.g3.mono λa c=>p a λf=> ?_,d.el.imp λf v ⟨u,s,t,q⟩=>⟨u,s,t.mono λa c=>p a λf=>(q a c).2.2.2.1 (by rw[f];exact r),q⟩,d.b⟩
 ·subst f;obtain⟨_,_,_,_,j,_⟩:=d.g0.box c;rw[g]at j;simp at j
 ·have:=d.g2.setAt r g i (.bool k) (h':=dT h e ⟨1,l,n+1,m,false,o.set i (.bool k)⟩) (by rw[dI g,aq rfl]);simpa[bR]using this
 ·subst f;obtain⟨_,_,_,_,j,_⟩:=d.g3.box c;rw[g]at j;simp at j
def AJ.pO(e:AJ lo hi h c0 c2 c3 es S){g m p:Nat}{n:Bool}{q:List T}(o:dO c0=some g)(i:h.get g=some ⟨2,m,p,n,false,q⟩)(f:Nat){rv:T}{k:dV}(hr:oS h 1 rv (gG k.eg))(s:∀a,dO rv=some a->lo<=a/\a<hi/\dO c0≠some a/\dO c2≠some a/\dO c3≠some a):
 AJ lo hi (dT h g ⟨2,m,p+1,n,false,q.set f (.agg [dy k.iK,rv])⟩) c0 c2 c3 (es.set f (.agg [dy k.iK,rv])) {S with dY:=S.dY.set f k}:=by
 have l:∀a,a≠g->(dT h g ⟨2,m,p+1,n,false,q.set f (.agg [dy k.iK,rv])⟩).get a=h.get a:=λa c=>by rw[dI i,ao c]
 refine⟨e.g0.setAt o i f _ (by rw[dI i,aq rfl]),e.g2.mono λa c=>l a λd=> ?_,e.g3.mono λa c=>l a λd=> ?_,e.el.set f ⟨rv,rfl,hr.mono λa c=>l a λd=>(s a c).2.2.1 (by rw[d];exact o),s⟩ λd v ⟨rv,t,u,r⟩=>⟨rv,t,u.mono λa c=>l a λd=>(r a c).2.2.1 (by rw[d];exact o),r⟩,e.b⟩
 ·subst d;obtain⟨_,_,_,_,j,_⟩:=e.g2.box c;rw[i]at j;simp at j
 ·subst d;obtain⟨_,_,_,_,j,_⟩:=e.g3.box c;rw[i]at j;simp at j
end
def AJ.fz{lo hi:Nat}{h:H}{c0 c2 c3:T}{es:List T}{S:fk}(a:AJ lo hi h c0 c2 c3 es S):TI.fz h c0=some (sl (S.dY.map dV.t))/\TI.fz h c2=some (sl (S.done.map T.bool))/\TI.fz h c3=some (sl (S.dE.map dG.t)):=by
 refine⟨?_,a.g2.fz dt,a.g3.fz dt⟩;exact a.g0.IW (d:=4) dq (a.el.UI (f:=dV.t) λg j ⟨l,b,c,i⟩=>by
  subst b;exact .inr (.inr ⟨_,_,rfl,.cons (fW ..) (.cons (c.ft (d:=1) (V:=λ_=>True) (λm e=>by obtain⟨k,_,rfl⟩:=List.mem_map.1 e;simp) λ_ _=>trivial) .nil),rfl⟩))
def HW{c:List Int}(h:HO c)(d:Int):yL c [d]=lH c d:=by
 have e:∀(a b:List Int),ls b a=a.foldl lH b:=by
  intro a;induction a with
  |nil=>intro b;rfl
  |cons g a f=>intro b;show ls (tj b g) a=_;rw[f,Bt];rfl
 unfold yL;rw[e,e];exact KQ h d
end
end Go.Proofs.YtmaeadedikngoaaGreatDoor
