/- W02 -/
import Derived.Test.YtajpdafdickapaaGreatDoorA11
import Derived.Test.YtajpdafdickapaaGreatDoorA15
set_option linter.all false
set_option maxRecDepth 100000
set_option maxHeartbeats 8000000
namespace Go.Proofs.YtajpdafdickapaaGreatDoor
noncomputable section
open Go Go.TI Tryz
attribute [-simp] List.map_take List.map_drop List.map_append fy fa eg Bool.not_or Bool.not_and
attribute [simp] fw fc
def LF:nS prog cx 257 (λa:dU=>[a.t]) (λ_=>True) (λ_=>FS):=by
 refine jh [] (iX 7 [] func257) (λ_=>5) (λd e b=>by simp at b;exact dU.inj b) ?_;rintro a-f c;simp at c;simp[f257,c]
def Do:nS prog cx 276 (λc:Int=>[Z c]) (λ_=>True) (λ_=>FR):=by
 refine jh [] (iX 132109 [] func276) (λ_=>5) (λe f d=>by simpa using d) ?_;rintro c-g a;simp at a;simp[f276,a]
 repeat' (refine ej (λb=>?_) (λb=>?_)<;>simp[b,a])
def o6:nS prog cx 256 (λa:dU=>[a.t]) (λa=>a.w<=1099511627776) (λ_=>FS):=by
 refine Ch (λa=>a.w) λm k=>?_;refine jh [(276,Do.jv),(129,yY),(256,k.jv)] (iX 18483898770635358239 [(2,[(2,4)])] func256) (λa=>a.w+5) (λs n b=>by simp at b;exact dU.inj b) ?_;rintro a ⟨x,u⟩ c j;simp at j;obtain⟨_,⟨y,rfl⟩,o⟩:=Do.use a.op trivial;have hl:=dU.uZ (l:=a.l);have v:=a.lF;simp[f256,j,o,qk];refine ej (λg=>?_) (λg=>?_)
 ·simp
 simp;refine fD a.l.length J (λm c b=>il 1 b/\b.get 0=some (dE 4 0 [a.t])/\dF c 1 (.ptr 0 0 0 0)/\dF c 4 (Z m)) ?_ ?_ J ?_
 ·rintro r c b i q ⟨h,d,e,f⟩;obtain⟨_,⟨n,rfl⟩,p⟩:=k.use a.l[r] ⟨by have:=dU.vP (aF i);omega,by have:=dU.vP (aF i);omega⟩;simp[d,e,f,i,p]
  repeat' (refine ej (λg=>?_) (λg=>?_)<;>simp[g,h.hp,d,e,f,h,q])
 ·rintro c b ⟨h,d,e,f⟩;simp[h.hp,d,e,f]
 ·simp
def zl:nS prog cx 191 (λd:iA=>[d.t]) (λ_=>True) (λ_=>FS):=by
 refine jh [(129,yY)] (iX 1125902054326279 [] func191) (λ_=>5) (λe f a=>by simp at a;exact iA.inj a) ?_;rintro g-h b;simp at b;simp[f191,b,qk]
 repeat' (refine ej (λc=>?_) (λc=>?_)<;>simp[c,qk])
def EP(n:Nat)(g:nS prog cx 192 (λd:List dO=>[sl (d.map dO.t)]) (λd=>dO.ws d<=1099511627776/\dO.ws d<n) (λ_=>FS)):
 nS prog cx 231 (λa:dO=>[a.t]) (λa=>a.w<=1099511627776/\a.w<n+1) (λ_=>FS):=by
 refine jh [(256,o6.jv),(129,yY),(192,g.jv),(257,LF.jv)] (iX 182687706027492332498828539273953093013162958911 [] func231) (λ_=>5) (λq r l=>by simp at l;exact dO.inj l) ?_;rintro a ⟨m,p⟩ B f;simp at f;rw[a.lF]at m p;obtain⟨_,⟨s,rfl⟩,h⟩:=o6.use a.e J;obtain⟨_,⟨u,rfl⟩,i⟩:=g.use a.body ⟨J,J⟩;obtain⟨_,⟨v,rfl⟩,j⟩:=g.use a.NW ⟨J,J⟩;obtain⟨_,⟨y,rfl⟩,k⟩:=LF.use a.e trivial
 match c:a.index with
 | []=>
  simp[f231,f,c]
  repeat' (refine ej (λb=>?_) (λb=>?_)<;>simp[b,qk,h,i,j,k,c])
 |x::A=>
  obtain⟨_,⟨z,rfl⟩,o⟩:=o6.use x (by rw[c,dU.ke]at m;omega);simp[f231,f,c]
  repeat' (refine ej (λb=>?_) (λb=>?_)<;>simp[b,qk,h,i,j,k,o,c])
def CU(e:Nat)(j:nS prog cx 231 (λf:dO=>[f.t]) (λf=>f.w<=1099511627776/\f.w<e) (λ_=>FS)):
 nS prog cx 192 (λl:List dO=>[sl (l.map dO.t)]) (λl=>dO.ws l<=1099511627776/\dO.ws l<e) (λ_=>FS):=by
 refine jh [(231,j.jv)] (iX 32909 [] func192) (λl=>l.length+1) (λp k a=>jx (λ_ _=>dO.inj) (by simpa using a)) ?_;rintro l ⟨r,q⟩ b g;simp at g;have hl:=dO.uZ (l:=l);simp[f192];refine fD l.length J (λe b a=>a=hE/\dF b 0 (sl (l.map dO.t))/\dF b 3 (Z e)) ?_ ?_ J (by simp[g])
 ·rintro o b a i n ⟨rfl,c,d⟩;have:=dO.vP (aF i);obtain⟨_,⟨k,rfl⟩,m⟩:=j.use l[o] ⟨J,J⟩;simp[c,d,i,m]
  repeat' (refine ej (λh=>?_) (λh=>?_)<;>simp[h,c,d,n])
 ·rintro b a ⟨rfl,c,d⟩;simp[c,d]
def xP:nS prog cx 192 (λa:List dO=>[sl (a.map dO.t)]) (λa=>dO.ws a<=1099511627776) (λ_=>FS):=by
 have e:∀c,nS prog cx 192 (λa:List dO=>[sl (a.map dO.t)]) (λa=>dO.ws a<=1099511627776/\dO.ws a<c) (λ_=>FS):=by
  intro c;induction c with
  |zero=>exact⟨λd b=>absurd b.2 (Nat.not_lt_zero _),λd b=>absurd b.2 (Nat.not_lt_zero _)⟩
  |succ c f=>exact CU (c+1) (EP c f)
 exact⟨λd b=>(e _).1 d ⟨b,cX _⟩,λd b=>(e _).2 d ⟨b,cX _⟩⟩
def SE(a:fN):Prop:=a.js.length<=1000000/\a.dH.length<=1000000/\∀b∈a.dH,b.locals.length<=1000000/\dO.ws b.body<=1000000
def If:nS prog cx 148 (λy:fN=>[y.t]) SE (λ_=>FS):=by
 refine jh [(191,zl.jv),(129,yY),(192,xP.jv)] (iX 72128100255664255 [] func148) (λy=>1000005) (λE b e=>by simp at e;exact fN.inj e) ?_;rintro⟨l,i⟩ ⟨A,ht,x⟩ a w;simp at A ht x w;simp[f148,w];refine fD l.length J (λk a e=>il 1 e/\e.get 0=some (dE 2 0 [fN.t ⟨l,i⟩])/\dF a 1 (.ptr 0 0 0 0)/\dF a 3 (Z k)) ?_ ?_ J dy
 ·rintro j a e r u ⟨c,d,f,o⟩;obtain⟨_,⟨b,rfl⟩,s⟩:=zl.use l[j] trivial;simp[d,f,o,r,s]
  repeat' (refine ej (λh=>?_) (λh=>?_)<;>simp[h,d,f,o,u,c.hp,c])
 rintro a e ⟨c,d,f,o⟩;simp[d,f,o];refine fD i.length J (λk a e=>il 1 e/\e.get 0=some (dE 2 0 [fN.t ⟨l,i⟩])/\dF a 1 (.ptr 0 0 0 0)/\dF a 4 (Z k)) ?_ ?_ J (by simp[d,f,c])
 ·rintro j a e r u ⟨c,d,f,g⟩;have C:=c.ne (b:=0) J;have⟨hl,F⟩:=x i[j] (aF r);obtain⟨_,⟨b,rfl⟩,s⟩:=xP.use i[j].body J;simp[d,f,g,r,c.low];generalize i[j]=v at*
  have D:=(c.cons (dE 4 1 [v.t]));refine fD v.locals.length J (λk a m=>il 1 m/\m.get 0=some (dE 2 0 [fN.t ⟨l,i⟩])/\m.get e.size=some (dE 4 1 [v.t])/\dF a 1 (.ptr 0 0 0 0)/\dF a 4 (Z j)/\dF a 5 (.ptr e.size 0 0 0)/\dF a 6 (Z k)) ?_ ?_ J (by simp[d,f,g,C,D])
  ·rintro k a m B z ⟨c,d,n,f,g,p,q⟩;simp[n,p,q,B,qk]
   repeat' (refine ej (λh=>?_) (λh=>?_)<;>simp[h,d,n,f,g,p,q,z,c.hp,c])
  ·rintro a m ⟨c,d,n,f,g,p,q⟩;simp[n,p,q,qk,s]
   repeat' (refine ej (λh=>?_) (λh=>?_)<;>simp[h,d,f,g,u,c.hp,c])
 ·rintro a e ⟨c,d,f,g⟩;simp[d,f,g,c.hp]
def Hq:∀(c:List (List Nat)) (b:List Nat) (a:Nat),sN c b a=-1\/∃d,d<c.length/\sN c b a=((a+d:Nat):Int)
 | [],b,a=> .inl rfl
 |x::c,b,a=>by
  rw[sN];by_cases f:x=b
  ·rw[ar f];exact .inr ⟨0,dy,dy⟩
  ·rw[aq f];rcases Hq c b (a+1)with e|⟨d,g,e⟩
   ·exact .inl e
   ·exact .inr ⟨d+1,by simpa using g,by rw[e];congr 1;omega⟩
def om:gG:=⟨List iA×List Nat,λa=>[sl (a.1.map iA.t),.str a.2],λa=>a.1.length<=1099511627776,λa=> Z (sN (a.1.map iA.name) a.2 0),λa c b=>by
 simp at b;rw[jx (λ_ _=>iA.inj) b.1,b.2]⟩
def Qm:om.Ok prog cx 193:=by
 refine fZ [] (iX 262707 [] func193) (λm=>m.1.length+1) (by simp[om]) ?_;rintro⟨h,j⟩ hl c k;simp[om]at hl k|-;obtain⟨b,d⟩:=k;simp[f193];refine fD h.length J (λg c i=>i=hE/\dF c 0 (sl (h.map iA.t))/\dF c 1 (.str j)/\dF c 5 (Z g)/\sN ((h.drop g).map iA.name) j g=sN (h.map iA.name) j 0) ?_ ?_ J (by simp[b,d])
 ·rintro g c i l n ⟨rfl,b,d,e,a⟩;rw[aI l,aP,sN]at a;simp[b,d,e,l];refine ej (λf=>?_) (λf=>?_)
  ·simp at f;rw[ar f]at a;simp[e,<-a]
  ·simp at f;rw[aq f]at a;simp[b,d,e,n,a]
 ·rintro c i ⟨rfl,b,d,e,a⟩;simp[sN]at a;simp[b,e,<-a]
def CC{c:fJ}(ht:c.p 193=some om)(a:List iA)(b:List Nat)(hl:a.length<=1099511627776):rl prog cx c 193 [sl (a.map iA.t),.str b]=some (Z (sN (a.map iA.name) b 0)):=im ht Qm (a,b) hl
def ma:gG:=⟨List fP×List Nat,λa=>[sl (a.1.map fP.t),.str a.2],λa=>a.1.length<=1099511627776,λa=> Z (sN (a.1.map fP.name) a.2 0),λa c b=>by
 simp at b;rw[jx (λ_ _=>fP.inj) b.1,b.2]⟩
def J8:ma.Ok prog cx 194:=by
 refine fZ [] (iX 262707 [] func194) (λm=>m.1.length+1) (by simp[ma]) ?_;rintro⟨h,j⟩ hl c k;simp[ma]at hl k|-;obtain⟨b,d⟩:=k;simp[f194];refine fD h.length J (λg c i=>i=hE/\dF c 0 (sl (h.map fP.t))/\dF c 1 (.str j)/\dF c 5 (Z g)/\sN ((h.drop g).map fP.name) j g=sN (h.map fP.name) j 0) ?_ ?_ J (by simp[b,d])
 ·rintro g c i l n ⟨rfl,b,d,e,a⟩;rw[aI l,aP,sN]at a;simp[b,d,e,l];refine ej (λf=>?_) (λf=>?_)
  ·simp at f;rw[ar f]at a;simp[e,<-a]
  ·simp at f;rw[aq f]at a;simp[b,d,e,n,a]
 ·rintro c i ⟨rfl,b,d,e,a⟩;simp[sN]at a;simp[b,e,<-a]
def xz{c:fJ}(ht:c.p 194=some ma)(a:List fP)(b:List Nat)(hl:a.length<=1099511627776):rl prog cx c 194 [sl (a.map fP.t),.str b]=some (Z (sN (a.map fP.name) b 0)):=im ht J8 (a,b) hl
def Ih:nS prog cx 258 (λi:fN×Int×List Nat=>[i.1.t,Z i.2.1,.str i.2.2]) (λi=>SE i.1) (λ_=>FR):=by
 refine jh [(130,Dc),(193,om),(194,ma)] (iX 99132251962343631 [] func258) (λ_=>5) (λi C c=>by simp at c;obtain⟨g,b,z⟩:=c;exact aC (fN.inj g) (aC b z)) ?_;rintro⟨⟨w,e⟩,d,n⟩ ⟨A,ht,u⟩ D y;simp at A ht u y;obtain⟨k,g,b⟩:=y;have f:=λ{h:fJ} (c:h.p 193=some om)=>CC c w n J;have j:=λ{h:fJ} (c:h.p 194=some ma)=>xz c e n J;have x:d<0\/(e.length:Int)<=d\/∃v:Nat,v<e.length/\d=v:=by
  by_cases q:d<0
  ·exact .inl q
  by_cases B:(e.length:Int)<=d
  ·exact .inr (.inl B)
  ·exact .inr (.inr ⟨d.toNat,J,J⟩)
 rcases Hq (w.map iA.name) n 0 with r|⟨v,o,r⟩
 ·simp only[r]at f;rcases x with q|q|⟨m,l,rfl⟩
  ·simp[f258,k,g,b,f,j,show¬0<=d by omega]
   repeat' (refine ej (λa=>?_) (λa=>?_)<;>simp[a])
  ·simp[f258,k,g,b,f,j,show¬d<e.length by omega]
   repeat' (refine ej (λa=>?_) (λa=>?_)<;>simp[a])
  ·have s:=λ{h:fJ} (c:h.p 130=some Dc)=>Ot c e[m].locals n (by have:=(u e[m] (aF l)).1;omega);simp[f258,k,g,b,l,s]
   repeat' (refine ej (λa=>?_) (λa=>?_)<;>simp[a,b,f,j])
 ·simp at o r;simp only[r]at f;rcases x with q|q|⟨m,l,rfl⟩
  ·simp[f258,k,g,b,f,show¬0<=d by omega]
   repeat' (refine ej (λa=>?_) (λa=>?_)<;>simp[a,b,j,o])
  ·simp[f258,k,g,b,f,show¬d<e.length by omega]
   repeat' (refine ej (λa=>?_) (λa=>?_)<;>simp[a,b,j,o])
  ·have s:=λ{h:fJ} (c:h.p 130=some Dc)=>Ot c e[m].locals n (by have:=(u e[m] (aF l)).1;omega);simp[f258,k,g,b,l,s]
   repeat' (refine ej (λa=>?_) (λa=>?_)<;>simp[a,b,f,j,o])
def AD:nS prog cx 234 (λa:fN×Int×List Nat×Int×Int=>[a.1.t,Z a.2.1,.str a.2.2.1,Z a.2.2.2.1,Z a.2.2.2.2]) (λa=>SE a.1) (λ_=>FR):=by
 refine jh [(258,Ih.jv)] (iX 33688639 [] func234) (λ_=>5) (λa f c=>by simp at c;obtain⟨h,i,j,k,l⟩:=c;exact aC (fN.inj h) (aC i (aC j (aC k l)))) ?_;rintro⟨m,o,n,a,f⟩ e q b;simp at e b;obtain⟨_,⟨p,rfl⟩,g⟩:=Ih.use (m,o,n) e;simp[f234,b,g]
 repeat' (refine ej (λd=>?_) (λd=>?_)<;>simp[d,b])
def FD:nS prog cx 236 (λa:Bool=>[.bool a]) (λ_=>True) (λ_=>FR):=by
 refine jh [] (iX 13 [] func236) (λ_=>5) (λe a d=>by simpa using d) ?_;rintro a-f b;simp at b;simp[f236,b]
 repeat' (refine ej (λc=>?_) (λc=>?_)<;>simp[c])
def WJ:nS prog cx 233 (λa:Int×Int=>[Z a.1,Z a.2]) (λ_=>True) (λa f=>f= Z (if a.1=0 then a.2 else a.1)):=by
 refine jh [] (iX 83 [] func233) (λ_=>5) (λa e b=>by simp at b;exact aC b.1 b.2) ?_;rintro⟨a,e⟩-g c;simp at c;simp[f233,c];refine ej (λd=>?_) (λd=>?_)<;>simp at d<;>simp[c,d]
def LC:nS prog cx 259 (λa:dU=>[a.t]) (λa=>a.w<=1099511627776) (λ_=>IG):=by
 refine Ch (λa=>a.w) λq p=>?_;refine jh [(259,p.jv)] (iX 8703 [] func259) (λa=>a.w+5) (λk m b=>by simp at b;exact dU.inj b) ?_;rintro a ⟨A,y⟩ c n;simp at n;have hl:=dU.uZ (l:=a.l);have z:=a.lF;simp[f259,n];refine fD a.l.length J (λq c b=>il 1 b/\b.get 0=some (dE 4 0 [a.t])/\dF c 1 (.ptr 0 0 0 0)/\(∃i,dF c 4 (Z i))/\(∃i,dF c 5 (Z i))/\dF c 6 (Z q)) ?_ ?_ J ?_
 ·rintro u c b o s ⟨j,d,e,⟨k,f⟩,⟨m,g⟩,h⟩;have:=dU.vP (aF o);obtain⟨_,⟨v,x,rfl⟩,r⟩:=p.use a.l[u] ⟨J,J⟩;simp[d,e,f,g,h,o,r,s,oG,j]
 ·rintro c b ⟨j,d,e,⟨k,f⟩,⟨m,g⟩,h⟩;simp[j.hp,d,e,f,g,h,oG]
 ·simp
def FE:nS prog cx 260 (λa:fN×Int×dU=>[a.1.t,Z a.2.1,a.2.2.t]) (λa=>SE a.1/\a.2.2.w<=1099511627776) (λ_=>FR):=by
 refine Ch (λa=>a.2.2.w) λv u=>?_;refine jh [(234,AD.jv),(260,u.jv)] (iX 8590200303 [] func260) (λa=>a.2.2.w+5) (λa G c=>by simp at c;obtain⟨m,C,n⟩:=c;exact aC (fN.inj m) (aC C (dU.inj n))) ?_;rintro⟨i,j,b⟩ ⟨⟨h,F⟩,E⟩ d g;simp only at h F E;simp at g;have hl:=dU.uZ (l:=b.l);have I:=b.lF;obtain⟨_,⟨L,rfl⟩,z⟩:=AD.use (i,j,b.name,8,1) h;obtain⟨_,⟨M,rfl⟩,A⟩:=AD.use (i,j,b.name,2,2) h;simp[f260,g]
 repeat' (refine ej (λe=>?_) (λe=>?_)<;>simp[e,g,z,A])
 all_goals
  refine R0 b.l.length (λv d c=>il 2 c/\c.get 0=some (dE 2 0 [i.t])/\c.get 1=some (dE 4 0 [b.t])/\dF d 1 (Z j)/\dF d 3 (.ptr 0 0 0 0)/\dF d 5 (.ptr 1 0 0 0)/\(∃x,dF d 7 (Z x))/\dF d 8 (Z v)) ?_ J (ax _) (by simp[g]);rintro s d c H ⟨r,y,k,m,n,o,⟨x,p⟩,q⟩;by_cases f:s<b.l.length
  ·have:=dU.vP (aF f);have D:=K2 f J;obtain⟨_,⟨K,rfl⟩,B⟩:=u.use (i,j,b.l[s]) ⟨⟨h,dA⟩,dA⟩;simp[k,o,p,q,f]
   repeat' (refine ej (λe=>?_) (λe=>?_)<;>simp[e,r,r.hp,y,k,m,n,o,p,q,f,B,D])
  ·simp[r.hp,k,o,p,q,f]
def Dq:nS prog cx 235 (λa:fN×Int×dU=>[a.1.t,Z a.2.1,a.2.2.t]) (λa=>SE a.1/\a.2.2.w<=1099511627776) (λ_=>FR):=by
 refine jh [(256,o6.jv),(259,LC.jv),(260,FE.jv)] (iX 4196847 [] func235) (λa=>5) (λa p e=>by simp at e;obtain⟨k,l,m⟩:=e;exact aC (fN.inj k) (aC l (dU.inj m))) ?_;rintro⟨n,o,c⟩ ⟨g,b⟩ v d;simp only at g b;simp at d;obtain⟨_,⟨q,rfl⟩,h⟩:=o6.use c b;obtain⟨_,⟨r,u,rfl⟩,i⟩:=LC.use c b;obtain⟨_,⟨s,rfl⟩,j⟩:=FE.use (n,o,c) ⟨g,b⟩;simp[f235,d,h]
 repeat' (refine ej (λf=>?_) (λf=>?_)<;>simp[f,d,i,j])
def LE:nS prog cx 151 (λl:List dO=>[sl (l.map dO.t)]) (λl=>dO.ws l<=1099511627776) (λ_=>FR):=by
 refine Ch (λl=>dO.ws l) λk h=>?_;refine jh [(151,h.jv)] (iX 1053 [(5,[(6,10),(6,12)])] func151) (λl=>l.length+1) (λq m b=>jx (λ_ _=>dO.inj) (by simpa using b)) ?_;rintro l ⟨u,s⟩ a f;simp at f;have hl:=dO.uZ (l:=l);simp[f151,f];refine fD l.length J (λk a b=>b=hE/\dF a 0 (sl (l.map dO.t))/\(∃i,dF a 3 (Z i))/\dF a 4 (Z k)) ?_ ?_ J (by simp[f])
 ·rintro g a b j p ⟨rfl,c,⟨i,d⟩,e⟩;have:=dO.vP (aF j);rw[l[g].lF]at this;obtain⟨_,⟨m,rfl⟩,n⟩:=h.use l[g].body ⟨J,J⟩;obtain⟨_,⟨r,rfl⟩,o⟩:=h.use l[g].NW ⟨J,J⟩;simp[c,d,e,j,n,o,p,oG]
 ·rintro a b ⟨rfl,c,⟨i,d⟩,e⟩;simp[c,d,e]
def Bk:nS prog cx 150 (λD:fN=>[D.t]) SE (λ_=>IG):=by
 refine jh [(130,Dc),(193,om),(194,ma)] (iX 1237940043933112819970491391 [] func150) (λD=>1000005) (λK b a=>by simp at a;exact fN.inj a) ?_;rintro⟨r,g⟩ ⟨H,ht,C⟩ d A;simp at H ht C A;simp[f150,A];have z:=λ{l:fJ} (a:l.p 193=some om) k=>CC a r k J;have eT:=λ{l:fJ} (a:l.p 194=some ma) k=>xz a g k J;refine fD g.length J (λj d a=>il 1 a/\a.get 0=some (dE 2 0 [fN.t ⟨r,g⟩])/\dF d 1 (.ptr 0 0 0 0)/\dF d 4 (Z j)) ?_ ?_ J dy
 ·rintro o d a n y ⟨c,e,f,s⟩;have w:=c.ne (b:=0) J;have F:=λ{l:fJ} (a:l.p 194=some ma) k=>xz a (g.take o) k (by rw[List.length_take];omega);simp[e,f,s,n,w,c.low,z,F,bp n]
  repeat' (refine ej (λi=>?_) (λi=>?_)<;>simp[i,e,f,s,y,c.hp,c,w,il.cons])
 rintro d a ⟨c,e,f,s⟩;simp[e,f,s];refine fD g.length J (λj d a=>il 1 a/\a.get 0=some (dE 2 0 [fN.t ⟨r,g⟩])/\dF d 1 (.ptr 0 0 0 0)/\dF d 6 (Z j)) ?_ ?_ J (by simp[e,f,c])
 ·rintro o d a n y ⟨c,e,f,h⟩;have w:=c.ne (b:=0) J;have⟨hl,L⟩:=C g[o] (aF n);simp[e,f,h,n,c.low];generalize g[o]=x at*
  have I:=(c.cons (dE 4 1 [x.t]));refine ej (λi=>?_) (λi=>?_)
  ·simp[c.hp]
  simp;refine fD x.locals.length J (λj d m=>il 1 m/\m.get 0=some (dE 2 0 [fN.t ⟨r,g⟩])/\m.get a.size=some (dE 4 1 [x.t])/\dF d 1 (.ptr 0 0 0 0)/\dF d 6 (Z o)/\dF d 7 (.ptr a.size 0 0 0)/\dF d 8 (Z j)) ?_ ?_ J (by simp[e,f,h,w,I])
  ·rintro j d m B G ⟨c,e,q,f,h,u,v⟩;have E:=λ{l:fJ} (a:l.p 130=some Dc) k=>Ot a (x.locals.take j) k (by rw[List.length_take];omega);simp[e,q,f,u,v,B,z,eT,E,bp B]
   repeat' (refine ej (λi=>?_) (λi=>?_)<;>simp[i,e,q,f,h,u,v,G,c.hp,c])
  ·rintro d m ⟨c,e,q,f,h,u,v⟩;simp[e,q,f,h,u,v,y,c]
 ·rintro d a ⟨c,e,f,h⟩;simp[e,f,h,c.hp]
