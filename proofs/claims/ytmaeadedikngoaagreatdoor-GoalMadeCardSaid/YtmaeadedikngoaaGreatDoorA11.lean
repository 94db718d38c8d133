/- Texts DFun to TiHR. -/
import Derived.Test.YtmaeadedikngoaaGreatDoorA10
import Derived.Test.YtmaeadedikngoaaGreatDoorProg
set_option linter.unusedVariables false
set_option linter.unusedSimpArgs false
set_option maxRecDepth 100000
set_option maxHeartbeats 8000000
namespace Go.Proofs.YtmaeadedikngoaaGreatDoor
noncomputable section
open Go Go.TI
theorem dX:Tryz.prog.follows .mixedOrders=true:=by kernel_rfl
theorem To:iB.Q6 λb a=>Tq Tryz.prog b a.cmp=some a:=by
 unfold iB;repeat' first|exact .nil|refine .node ?_ (by kernel_rfl) ?_
theorem dU:iG Tryz.prog cx:=⟨λb c a=>⟨_,To.find a⟩⟩
end
end Go.Proofs.YtmaeadedikngoaaGreatDoor
namespace Go.TI
noncomputable section
def hr(a:H):H:=⟨a.size,a.size,a.ec⟩
@[simp] theorem p7 (a:H):(hr a).size=a.size:=id rfl
@[simp] theorem fU (a:H) (b:Nat):(hr a).get b=a.get b:=H.qk a a.size b
@[simp] theorem Zr (a:H):Hp (hr a)=Hp a:=id rfl
def J6(f:Bool)(c:H)(g:List T)(e:H)(d:T->H->Prop):Prop:=∃b a,qH f c.size c.low (hU g) e=some (b,a)/\(d b a\/d (cn b) a)
section
variable {P:ai}{cx:Ctx}{cf:ir}{mask:Nat}
theorem Xk(J:P.follows .mixedOrders=true)(iB:iG P cx){m:aj}{a:Func}{r:DL}(h:ER P cx m a mask r)(C:mN P cx cf)(i:Bool){c:List T}{d:H}{w:T->H->Prop}(K:c.length<=a.ntmps)(j:Nat)
 (Q:∀z,mO z 0 c->W (iZ cx cf j mask r (a.body.getD .skip) ⟨z,.nil⟩ (hr d)) (zv cx mask a.results.toList λu g=>J6 i d u g w)):∃b g,w b g/\pJ P cx ⟨m,c,d,b,g⟩:=by
 obtain⟨y,O,_,G⟩:=lJ mask a.ntmps 0 c K
 obtain⟨Z,D,E,e,R,u,M,b,f,hl,hp⟩:=BX (Q y G)
 have e:=pi _ h.dr _ _ _ e
 obtain⟨B,s⟩:=xQ h.ok
 rw[s]at e
 have I:rG cx cf j a mask i c d=some (b,f):=by
  unfold rG
  rw[s]
  obtain⟨x,al,A⟩:=d
  simp only
  rw[O,dD]
  have e:jy cx cf j mask B ⟨y,.nil⟩ ⟨x,x,A⟩=some (Z,D,E):=e
  rw[e,dD,km]
  have N:=nI M
  rcases R with rfl|rfl<;>(simp only;rw[N,dD];exact hl)
 have L:vY ⟨a,mask,i,none⟩=true:=h.ok
 have t:pJ P cx ⟨m,c,d,b,f⟩:=λk p q l o n=>ou (F:=⟨a,mask,i,none⟩) J iB h.at_ L cf C j c d b f I k p q l o n
 rcases hp with hp|hp
 ·exact⟨b,f,hp,t⟩
 ·exact⟨cn b,f,hp,λk p q l o n=>(t k p q l o n).mono λv an ⟨⟨ae,S,U,V,X⟩,Y⟩=>⟨⟨ae,S.cn,U,V,X⟩,Y⟩⟩
theorem Hh{tb:eG}{c:kw}(n:P.follows .mixedOrders=true)(iB:iG P cx){g:aj}{d:Func}{f:DL}(q:ER P cx g d mask f)(i:Bool)(j:List T->H->Nat)(o:∀a b,c.pre a b->a.length<=d.ntmps)
 (p:∀a b,c.pre a b->∀k,mO k 0 a->W (iZ cx (p9 P cx tb) (j a b) mask f (d.body.getD .skip) ⟨k,.nil⟩ (hr b)) (zv cx mask d.results.toList λr e=>J6 i b r e (c.post a b))):c.Ok P cx g:=
 λa b h=>by
  obtain⟨s,e,l,m⟩:=Xk n iB q (BJ P cx tb) i (o a b h) (j a b) (p a b h)
  exact⟨s,e,l,m⟩
end
theorem Tj{P:ai}{cx:Ctx}{cf:ir}{mask:Nat}(H:P.follows .mixedOrders=true)(iB:iG P cx){p:aj}{c:Func}{w:DL}(j:ER P cx p c mask w)(C:mN P cx cf){b:List T}{m:T->Prop}(hl:lQ b=true)(y:b.length<=c.ntmps)(k:Nat)
 (K:∀f,mO f 0 b->W (iZ cx cf k mask w (c.body.getD .skip) ⟨f,.nil⟩ hE) (zv cx mask c.results.toList λA g=>∃a,m a/\OW g A a)):∃a,m a/\kO P cx p b a:=by
 have S:∃a,m a/\∀f,mO f 0 b->TI.dt f 0=TI.dt f 0->∃d,cn d=a/\rG cx cf k c mask false b hE=some (d,hE):=by
  obtain⟨l,z,_,s⟩:=lJ mask c.ntmps 0 b y
  obtain⟨U,D,g,e,L,A,hr,a,r,I,i⟩:=BX (K l s)
  have e:=pi _ j.dr _ _ _ e
  obtain⟨B,h⟩:=xQ j.ok
  rw[h]at e
  unfold K7 at i
  obtain⟨d,i,x⟩:=dj.1 i
  simp only[ar]at x
  refine⟨a,r,λ_ _ _=>⟨d,x,?_⟩⟩
  unfold rG
  rw[h]
  simp only
  rw[z,dD]
  have e:jy cx cf k mask B ⟨l,.nil⟩ ⟨0,0,[]⟩=some (U,D,g):=e
  rw[e,dD,km]
  have J:=nI hr
  rcases L with rfl|rfl<;>(simp only;rw[J,dD];exact FP I i)
 obtain⟨a,r,G⟩:=S
 obtain⟨l,z,_,s⟩:=lJ mask c.ntmps 0 b y
 obtain⟨d,rfl,h⟩:=G l s rfl
 refine⟨cn d,r,?_⟩
 have E:kO P cx p b d:=z9 (lI _ hl) λn u v o t q=>
  ou (F:=⟨c,mask,false,none⟩) H iB j.at_ j.ok cf C k b hE d hE h n u v o t q
 intro n u v o g t q
 refine(E n u v o g t q).mono λX Y ⟨⟨V,M,N,O,Q⟩,R⟩=> ?_
 exact⟨⟨V,M.cn,N,O,Q⟩,R⟩
def Hc(b:T):Prop:=∃a,b= .bool a
theorem uC(a:Nat)(d:T)(b:H):mB a d b=some (d,⟨b.size,if b.low<a then b.low else a,b.ec⟩):=by
 obtain⟨g,c,e⟩:=b
 show @Bool.rec (λ_=>aa (T×H)) (some (d,⟨g,a,e⟩)) (some (d,⟨g,c,e⟩)) (Nat.blt c a)=_
 by_cases hl:c<a
 ·rw[show Nat.blt c a=true by rw[aG];exact hl,aq hl]
 ·rw[show Nat.blt c a=false by rw[cd];intro f;rw[aG]at f;exact hl f,ao hl]
theorem Gi{h:H}(f:Hp h){a d:Nat}(e:a<=h.size){b:Nat}(c:b<a):(⟨a,d,h.ec.drop (h.size-a)⟩:H).get b=h.get b:=by
 rw[H.get_eq,H.get_eq]
 simp only
 rw[aq c,aq (by omega),bH]
 congr 1;omega
theorem o7(a b:H)(m:List T){r:T}{n:T->H->Prop}(l:Hp a)(c:Fr a.size (hr a) b)(g:(dB (jd b a.size (hU m)) λt=>some (cn t))=some r)(p:n r a):J6 false a m b n:=by
 obtain⟨s,g,k⟩:=dj.1 g
 simp only[ar]at k
 unfold J6 qH
 simp only[g]
 have h:Hp b:=c.hp (by simpa using l)
 have o:a.size<=b.low:=c.low (au _)
 have u:a.size<=b.size:=c.size
 have f:b.ec.drop (b.size-a.size)=a.ec:=by
  apply cV
  intro d
  rw[bH]
  rcases aD d a.size with hi|hi
  ·have j:=c.get (a.size-1-d) (by omega)
   rw[fU,H.get_eq,H.get_eq,aq (by omega),aq (by omega)]at j
   rw[show b.size-a.size+d=b.size-1-(a.size-1-d)by omega,j]
   congr 1;omega
  ·rw[aM (by unfold Hp at h;omega),aM (by unfold Hp at l;omega)]
 obtain⟨i,q,e⟩:=b
 unfold sL
 simp only
 rw[kZ,aq (by show i-a.size<=e.length;unfold Hp at h;simp only at h;omega),dD,show Nat.ble a.size q=true from cj o]
 refine⟨s,_,rfl,.inr ?_⟩
 rw[k]
 have:(⟨a.size,a.low,List.drop (Nat.sub i a.size) e⟩:H)=a:=by
  have f:List.drop (Nat.sub i a.size) e=a.ec:=f
  rw[f]
 rw[this];exact p
end
end Go.TI
