/- W02 -/
import Derived.Test.YtajpdafdickapaaGreatDoorA11
import Derived.Test.YtajpdafdickapaaGreatDoorA15
set_option linter.all false
set_option maxRecDepth 100000
set_option maxHeartbeats 8000000
namespace Go.Proofs.YtajpdafdickapaaGreatDoor
noncomputable section
open Go Go.TI Tryz
attribute [-simp] List.map_take List.map_drop List.map_append fw eY eg Bool.not_or Bool.not_and
attribute [simp] fq eZ
def Mh:oa prog cx 257 (λa:dV=>[a.t]) (λ_=>True) (λ_=>F1):=by
 refine jk [] (iQ 7 [] func257) (λ_=>5) (λd e b=>by simp at b;exact dV.inj b) ?_;rintro a-f c;simp at c;simp[f257,c]
def Dj:oa prog cx 276 (λc:Int=>[Z c]) (λ_=>True) (λ_=>F0):=by
 refine jk [] (iQ 132109 [] func276) (λ_=>5) (λe f d=>by simpa using d) ?_;rintro c-g a;simp at a;simp[f276,a]
 repeat' (refine ee (λb=>?_) (λb=>?_)<;>simp[b,a])
def pq:oa prog cx 256 (λa:dV=>[a.t]) (λa=>a.w<=1099511627776) (λ_=>F1):=by
 refine Cc (λa=>a.w) λm k=>?_;refine jk [(276,Dj.jA),(129,zl),(256,k.jA)] (iQ 18483898770635358239 [(2,[(2,4)])] func256) (λa=>a.w+5) (λs n b=>by simp at b;exact dV.inj b) ?_;rintro a ⟨x,u⟩ c j;simp at j;obtain⟨_,⟨y,rfl⟩,o⟩:=Dj.use a.op trivial;have hl:=dV.vk (l:=a.l);have v:=a.lI;simp[f256,j,o,qq];refine ee (λg=>?_) (λg=>?_)
 ·simp
 simp;refine fk a.l.length J (λm c b=>hU 1 b/\b.get 0=some (dE 4 0 [a.t])/\dF c 1 (.ptr 0 0 0 0)/\dF c 4 (Z m)) ?_ ?_ J ?_
 ·rintro r c b i q ⟨h,d,e,f⟩;obtain⟨_,⟨n,rfl⟩,p⟩:=k.use a.l[r] ⟨by have:=dV.wa (aD i);omega,by have:=dV.wa (aD i);omega⟩;simp[d,e,f,i,p]
  repeat' (refine ee (λg=>?_) (λg=>?_)<;>simp[g,h.hp,d,e,f,h,q])
 ·rintro c b ⟨h,d,e,f⟩;simp[h.hp,d,e,f]
 ·simp
def zJ:oa prog cx 191 (λd:iC=>[d.t]) (λ_=>True) (λ_=>F1):=by
 refine jk [(129,zl)] (iQ 1125902054326279 [] func191) (λ_=>5) (λe f a=>by simp at a;exact iC.inj a) ?_;rintro g-h b;simp at b;simp[f191,b,qq]
 repeat' (refine ee (λc=>?_) (λc=>?_)<;>simp[c,qq])
def EB(n:Nat)(g:oa prog cx 192 (λd:List dO=>[sl (d.map dO.t)]) (λd=>dO.ws d<=1099511627776/\dO.ws d<n) (λ_=>F1)):
 oa prog cx 231 (λa:dO=>[a.t]) (λa=>a.w<=1099511627776/\a.w<n+1) (λ_=>F1):=by
 refine jk [(256,pq.jA),(129,zl),(192,g.jA),(257,Mh.jA)] (iQ 182687706027492332498828539273953093013162958911 [] func231) (λ_=>5) (λq r l=>by simp at l;exact dO.inj l) ?_;rintro a ⟨m,p⟩ B f;simp at f;rw[a.lI]at m p;obtain⟨_,⟨s,rfl⟩,h⟩:=pq.use a.e J;obtain⟨_,⟨u,rfl⟩,i⟩:=g.use a.body ⟨J,J⟩;obtain⟨_,⟨v,rfl⟩,j⟩:=g.use a.OH ⟨J,J⟩;obtain⟨_,⟨y,rfl⟩,k⟩:=Mh.use a.e trivial
 match c:a.index with
 | []=>
  simp[f231,f,c]
  repeat' (refine ee (λb=>?_) (λb=>?_)<;>simp[b,qq,h,i,j,k,c])
 |x::A=>
  obtain⟨_,⟨z,rfl⟩,o⟩:=pq.use x (by rw[c,dV.ke]at m;omega);simp[f231,f,c]
  repeat' (refine ee (λb=>?_) (λb=>?_)<;>simp[b,qq,h,i,j,k,o,c])
def CQ(e:Nat)(j:oa prog cx 231 (λf:dO=>[f.t]) (λf=>f.w<=1099511627776/\f.w<e) (λ_=>F1)):
 oa prog cx 192 (λl:List dO=>[sl (l.map dO.t)]) (λl=>dO.ws l<=1099511627776/\dO.ws l<e) (λ_=>F1):=by
 refine jk [(231,j.jA)] (iQ 32909 [] func192) (λl=>l.length+1) (λp k a=>jz (λ_ _=>dO.inj) (by simpa using a)) ?_;rintro l ⟨r,q⟩ b g;simp at g;have hl:=dO.vk (l:=l);simp[f192];refine fk l.length J (λe b a=>a=hE/\dF b 0 (sl (l.map dO.t))/\dF b 3 (Z e)) ?_ ?_ J (by simp[g])
 ·rintro o b a i n ⟨rfl,c,d⟩;have:=dO.wa (aD i);obtain⟨_,⟨k,rfl⟩,m⟩:=j.use l[o] ⟨J,J⟩;simp[c,d,i,m]
  repeat' (refine ee (λh=>?_) (λh=>?_)<;>simp[h,c,d,n])
 ·rintro b a ⟨rfl,c,d⟩;simp[c,d]
def x7:oa prog cx 192 (λa:List dO=>[sl (a.map dO.t)]) (λa=>dO.ws a<=1099511627776) (λ_=>F1):=by
 have e:∀c,oa prog cx 192 (λa:List dO=>[sl (a.map dO.t)]) (λa=>dO.ws a<=1099511627776/\dO.ws a<c) (λ_=>F1):=by
  intro c;induction c with
  |zero=>exact⟨λd b=>absurd b.2 (Nat.not_lt_zero _),λd b=>absurd b.2 (Nat.not_lt_zero _)⟩
  |succ c f=>exact CQ (c+1) (EB c f)
 exact⟨λd b=>(e _).1 d ⟨b,c8 _⟩,λd b=>(e _).2 d ⟨b,c8 _⟩⟩
def TR(a:fK):Prop:=a.jt.length<=1000000/\a.dH.length<=1000000/\∀b∈a.dH,b.locals.length<=1000000/\dO.ws b.body<=1000000
def ID:oa prog cx 148 (λy:fK=>[y.t]) TR (λ_=>F1):=by
 refine jk [(191,zJ.jA),(129,zl),(192,x7.jA)] (iQ 72128100255664255 [] func148) (λy=>1000005) (λE b e=>by simp at e;exact fK.inj e) ?_;rintro⟨l,i⟩ ⟨A,ht,x⟩ a w;simp at A ht x w;simp[f148,w];refine fk l.length J (λk a e=>hU 1 e/\e.get 0=some (dE 2 0 [fK.t ⟨l,i⟩])/\dF a 1 (.ptr 0 0 0 0)/\dF a 3 (Z k)) ?_ ?_ J dy
 ·rintro j a e r u ⟨c,d,f,o⟩;obtain⟨_,⟨b,rfl⟩,s⟩:=zJ.use l[j] trivial;simp[d,f,o,r,s]
  repeat' (refine ee (λh=>?_) (λh=>?_)<;>simp[h,d,f,o,u,c.hp,c])
 rintro a e ⟨c,d,f,o⟩;simp[d,f,o];refine fk i.length J (λk a e=>hU 1 e/\e.get 0=some (dE 2 0 [fK.t ⟨l,i⟩])/\dF a 1 (.ptr 0 0 0 0)/\dF a 4 (Z k)) ?_ ?_ J (by simp[d,f,c])
 ·rintro j a e r u ⟨c,d,f,g⟩;have C:=c.ne (b:=0) J;have⟨hl,F⟩:=x i[j] (aD r);obtain⟨_,⟨b,rfl⟩,s⟩:=x7.use i[j].body J;simp[d,f,g,r,c.low];generalize i[j]=v at*
  have D:=(c.cons (dE 4 1 [v.t]));refine fk v.locals.length J (λk a m=>hU 1 m/\m.get 0=some (dE 2 0 [fK.t ⟨l,i⟩])/\m.get e.size=some (dE 4 1 [v.t])/\dF a 1 (.ptr 0 0 0 0)/\dF a 4 (Z j)/\dF a 5 (.ptr e.size 0 0 0)/\dF a 6 (Z k)) ?_ ?_ J (by simp[d,f,g,C,D])
  ·rintro k a m B z ⟨c,d,n,f,g,p,q⟩;simp[n,p,q,B,qq]
   repeat' (refine ee (λh=>?_) (λh=>?_)<;>simp[h,d,n,f,g,p,q,z,c.hp,c])
  ·rintro a m ⟨c,d,n,f,g,p,q⟩;simp[n,p,q,qq,s]
   repeat' (refine ee (λh=>?_) (λh=>?_)<;>simp[h,d,f,g,u,c.hp,c])
 ·rintro a e ⟨c,d,f,g⟩;simp[d,f,g,c.hp]
def HU:∀(c:List (List Nat)) (b:List Nat) (a:Nat),sN c b a=-1\/∃d,d<c.length/\sN c b a=((a+d:Nat):Int)
 | [],b,a=> .inl rfl
 |x::c,b,a=>by
  rw[sN];by_cases f:x=b
  ·rw[aq f];exact .inr ⟨0,dy,dy⟩
  ·rw[ao f];rcases HU c b (a+1)with e|⟨d,g,e⟩
   ·exact .inl e
   ·exact .inr ⟨d+1,by simpa using g,by rw[e];congr 1;omega⟩
def ox:fP:=⟨List iC×List Nat,λa=>[sl (a.1.map iC.t),.str a.2],λa=>a.1.length<=1099511627776,λa=> Z (sN (a.1.map iC.name) a.2 0),λa c b=>by
 simp at b;rw[jz (λ_ _=>iC.inj) b.1,b.2]⟩
def Q0:ox.Ok prog cx 193:=by
 refine fM [] (iQ 262707 [] func193) (λm=>m.1.length+1) (by simp[ox]) ?_;rintro⟨h,j⟩ hl c k;simp[ox]at hl k|-;obtain⟨b,d⟩:=k;simp[f193];refine fk h.length J (λg c i=>i=hE/\dF c 0 (sl (h.map iC.t))/\dF c 1 (.str j)/\dF c 5 (Z g)/\sN ((h.drop g).map iC.name) j g=sN (h.map iC.name) j 0) ?_ ?_ J (by simp[b,d])
 ·rintro g c i l n ⟨rfl,b,d,e,a⟩;rw[aH l,aP,sN]at a;simp[b,d,e,l];refine ee (λf=>?_) (λf=>?_)
  ·simp at f;rw[aq f]at a;simp[e,<-a]
  ·simp at f;rw[ao f]at a;simp[b,d,e,n,a]
 ·rintro c i ⟨rfl,b,d,e,a⟩;simp[sN]at a;simp[b,e,<-a]
def Cw{c:fy}(ht:c.p 193=some ox)(a:List iC)(b:List Nat)(hl:a.length<=1099511627776):rl prog cx c 193 [sl (a.map iC.t),.str b]=some (Z (sN (a.map iC.name) b 0)):=gu ht Q0 (a,b) hl
def md:fP:=⟨List fO×List Nat,λa=>[sl (a.1.map fO.t),.str a.2],λa=>a.1.length<=1099511627776,λa=> Z (sN (a.1.map fO.name) a.2 0),λa c b=>by
 simp at b;rw[jz (λ_ _=>fO.inj) b.1,b.2]⟩
def KF:md.Ok prog cx 194:=by
 refine fM [] (iQ 262707 [] func194) (λm=>m.1.length+1) (by simp[md]) ?_;rintro⟨h,j⟩ hl c k;simp[md]at hl k|-;obtain⟨b,d⟩:=k;simp[f194];refine fk h.length J (λg c i=>i=hE/\dF c 0 (sl (h.map fO.t))/\dF c 1 (.str j)/\dF c 5 (Z g)/\sN ((h.drop g).map fO.name) j g=sN (h.map fO.name) j 0) ?_ ?_ J (by simp[b,d])
 ·rintro g c i l n ⟨rfl,b,d,e,a⟩;rw[aH l,aP,sN]at a;simp[b,d,e,l];refine ee (λf=>?_) (λf=>?_)
  ·simp at f;rw[aq f]at a;simp[e,<-a]
  ·simp at f;rw[ao f]at a;simp[b,d,e,n,a]
 ·rintro c i ⟨rfl,b,d,e,a⟩;simp[sN]at a;simp[b,e,<-a]
def xK{c:fy}(ht:c.p 194=some md)(a:List fO)(b:List Nat)(hl:a.length<=1099511627776):rl prog cx c 194 [sl (a.map fO.t),.str b]=some (Z (sN (a.map fO.name) b 0)):=gu ht KF (a,b) hl
def IF:oa prog cx 258 (λi:fK×Int×List Nat=>[i.1.t,Z i.2.1,.str i.2.2]) (λi=>TR i.1) (λ_=>F0):=by
 refine jk [(130,C4),(193,ox),(194,md)] (iQ 99132251962343631 [] func258) (λ_=>5) (λi C c=>by simp at c;obtain⟨g,b,z⟩:=c;exact aC (fK.inj g) (aC b z)) ?_;rintro⟨⟨w,e⟩,d,n⟩ ⟨A,ht,u⟩ D y;simp at A ht u y;obtain⟨k,g,b⟩:=y;have f:=λ{h:fy} (c:h.p 193=some ox)=>Cw c w n J;have j:=λ{h:fy} (c:h.p 194=some md)=>xK c e n J;have x:d<0\/(e.length:Int)<=d\/∃v:Nat,v<e.length/\d=v:=by
  by_cases q:d<0
  ·exact .inl q
  by_cases B:(e.length:Int)<=d
  ·exact .inr (.inl B)
  ·exact .inr (.inr ⟨d.toNat,J,J⟩)
 rcases HU (w.map iC.name) n 0 with r|⟨v,o,r⟩
 ·simp only[r]at f;rcases x with q|q|⟨m,l,rfl⟩
  ·simp[f258,k,g,b,f,j,show¬0<=d by omega]
   repeat' (refine ee (λa=>?_) (λa=>?_)<;>simp[a])
  ·simp[f258,k,g,b,f,j,show¬d<e.length by omega]
   repeat' (refine ee (λa=>?_) (λa=>?_)<;>simp[a])
  ·have s:=λ{h:fy} (c:h.p 130=some C4)=>Pe c e[m].locals n (by have:=(u e[m] (aD l)).1;omega);simp[f258,k,g,b,l,s]
   repeat' (refine ee (λa=>?_) (λa=>?_)<;>simp[a,b,f,j])
 ·simp at o r;simp only[r]at f;rcases x with q|q|⟨m,l,rfl⟩
  ·simp[f258,k,g,b,f,show¬0<=d by omega]
   repeat' (refine ee (λa=>?_) (λa=>?_)<;>simp[a,b,j,o])
  ·simp[f258,k,g,b,f,show¬d<e.length by omega]
   repeat' (refine ee (λa=>?_) (λa=>?_)<;>simp[a,b,j,o])
  ·have s:=λ{h:fy} (c:h.p 130=some C4)=>Pe c e[m].locals n (by have:=(u e[m] (aD l)).1;omega);simp[f258,k,g,b,l,s]
   repeat' (refine ee (λa=>?_) (λa=>?_)<;>simp[a,b,f,j,o])
def AT:oa prog cx 234 (λa:fK×Int×List Nat×Int×Int=>[a.1.t,Z a.2.1,.str a.2.2.1,Z a.2.2.2.1,Z a.2.2.2.2]) (λa=>TR a.1) (λ_=>F0):=by
 refine jk [(258,IF.jA)] (iQ 33688639 [] func234) (λ_=>5) (λa f c=>by simp at c;obtain⟨h,i,j,k,l⟩:=c;exact aC (fK.inj h) (aC i (aC j (aC k l)))) ?_;rintro⟨m,o,n,a,f⟩ e q b;simp at e b;obtain⟨_,⟨p,rfl⟩,g⟩:=IF.use (m,o,n) e;simp[f234,b,g]
 repeat' (refine ee (λd=>?_) (λd=>?_)<;>simp[d,b])
def FL:oa prog cx 236 (λa:Bool=>[.bool a]) (λ_=>True) (λ_=>F0):=by
 refine jk [] (iQ 13 [] func236) (λ_=>5) (λe a d=>by simpa using d) ?_;rintro a-f b;simp at b;simp[f236,b]
 repeat' (refine ee (λc=>?_) (λc=>?_)<;>simp[c])
def XO:oa prog cx 233 (λa:Int×Int=>[Z a.1,Z a.2]) (λ_=>True) (λa f=>f= Z (if a.1=0 then a.2 else a.1)):=by
 refine jk [] (iQ 83 [] func233) (λ_=>5) (λa e b=>by simp at b;exact aC b.1 b.2) ?_;rintro⟨a,e⟩-g c;simp at c;simp[f233,c];refine ee (λd=>?_) (λd=>?_)<;>simp at d<;>simp[c,d]
def Me:oa prog cx 259 (λa:dV=>[a.t]) (λa=>a.w<=1099511627776) (λ_=>I7):=by
 refine Cc (λa=>a.w) λq p=>?_;refine jk [(259,p.jA)] (iQ 8703 [] func259) (λa=>a.w+5) (λk m b=>by simp at b;exact dV.inj b) ?_;rintro a ⟨A,y⟩ c n;simp at n;have hl:=dV.vk (l:=a.l);have z:=a.lI;simp[f259,n];refine fk a.l.length J (λq c b=>hU 1 b/\b.get 0=some (dE 4 0 [a.t])/\dF c 1 (.ptr 0 0 0 0)/\(∃i,dF c 4 (Z i))/\(∃i,dF c 5 (Z i))/\dF c 6 (Z q)) ?_ ?_ J ?_
 ·rintro u c b o s ⟨j,d,e,⟨k,f⟩,⟨m,g⟩,h⟩;have:=dV.wa (aD o);obtain⟨_,⟨v,x,rfl⟩,r⟩:=p.use a.l[u] ⟨J,J⟩;simp[d,e,f,g,h,o,r,s,oN,j]
 ·rintro c b ⟨j,d,e,⟨k,f⟩,⟨m,g⟩,h⟩;simp[j.hp,d,e,f,g,h,oN]
 ·simp
def FM:oa prog cx 260 (λa:fK×Int×dV=>[a.1.t,Z a.2.1,a.2.2.t]) (λa=>TR a.1/\a.2.2.w<=1099511627776) (λ_=>F0):=by
 refine Cc (λa=>a.2.2.w) λv u=>?_;refine jk [(234,AT.jA),(260,u.jA)] (iQ 8590200303 [] func260) (λa=>a.2.2.w+5) (λa G c=>by simp at c;obtain⟨m,C,n⟩:=c;exact aC (fK.inj m) (aC C (dV.inj n))) ?_;rintro⟨i,j,b⟩ ⟨⟨h,F⟩,E⟩ d g;simp only at h F E;simp at g;have hl:=dV.vk (l:=b.l);have I:=b.lI;obtain⟨_,⟨L,rfl⟩,z⟩:=AT.use (i,j,b.name,8,1) h;obtain⟨_,⟨M,rfl⟩,A⟩:=AT.use (i,j,b.name,2,2) h;simp[f260,g]
 repeat' (refine ee (λe=>?_) (λe=>?_)<;>simp[e,g,z,A])
 all_goals
  refine S7 b.l.length (λv d c=>hU 2 c/\c.get 0=some (dE 2 0 [i.t])/\c.get 1=some (dE 4 0 [b.t])/\dF d 1 (Z j)/\dF d 3 (.ptr 0 0 0 0)/\dF d 5 (.ptr 1 0 0 0)/\(∃x,dF d 7 (Z x))/\dF d 8 (Z v)) ?_ J (aw _) (by simp[g]);rintro s d c H ⟨r,y,k,m,n,o,⟨x,p⟩,q⟩;by_cases f:s<b.l.length
  ·have:=dV.wa (aD f);have D:=LC f J;obtain⟨_,⟨K,rfl⟩,B⟩:=u.use (i,j,b.l[s]) ⟨⟨h,dA⟩,dA⟩;simp[k,o,p,q,f]
   repeat' (refine ee (λe=>?_) (λe=>?_)<;>simp[e,r,r.hp,y,k,m,n,o,p,q,f,B,D])
  ·simp[r.hp,k,o,p,q,f]
def Dl:oa prog cx 235 (λa:fK×Int×dV=>[a.1.t,Z a.2.1,a.2.2.t]) (λa=>TR a.1/\a.2.2.w<=1099511627776) (λ_=>F0):=by
 refine jk [(256,pq.jA),(259,Me.jA),(260,FM.jA)] (iQ 4196847 [] func235) (λa=>5) (λa p e=>by simp at e;obtain⟨k,l,m⟩:=e;exact aC (fK.inj k) (aC l (dV.inj m))) ?_;rintro⟨n,o,c⟩ ⟨g,b⟩ v d;simp only at g b;simp at d;obtain⟨_,⟨q,rfl⟩,h⟩:=pq.use c b;obtain⟨_,⟨r,u,rfl⟩,i⟩:=Me.use c b;obtain⟨_,⟨s,rfl⟩,j⟩:=FM.use (n,o,c) ⟨g,b⟩;simp[f235,d,h]
 repeat' (refine ee (λf=>?_) (λf=>?_)<;>simp[f,d,i,j])
def Mg:oa prog cx 151 (λl:List dO=>[sl (l.map dO.t)]) (λl=>dO.ws l<=1099511627776) (λ_=>F0):=by
 refine Cc (λl=>dO.ws l) λk h=>?_;refine jk [(151,h.jA)] (iQ 1053 [(5,[(6,10),(6,12)])] func151) (λl=>l.length+1) (λq m b=>jz (λ_ _=>dO.inj) (by simpa using b)) ?_;rintro l ⟨u,s⟩ a f;simp at f;have hl:=dO.vk (l:=l);simp[f151,f];refine fk l.length J (λk a b=>b=hE/\dF a 0 (sl (l.map dO.t))/\(∃i,dF a 3 (Z i))/\dF a 4 (Z k)) ?_ ?_ J (by simp[f])
 ·rintro g a b j p ⟨rfl,c,⟨i,d⟩,e⟩;have:=dO.wa (aD j);rw[l[g].lI]at this;obtain⟨_,⟨m,rfl⟩,n⟩:=h.use l[g].body ⟨J,J⟩;obtain⟨_,⟨r,rfl⟩,o⟩:=h.use l[g].OH ⟨J,J⟩;simp[c,d,e,j,n,o,p,oN]
 ·rintro a b ⟨rfl,c,⟨i,d⟩,e⟩;simp[c,d,e]
def BE:oa prog cx 150 (λD:fK=>[D.t]) TR (λ_=>I7):=by
 refine jk [(130,C4),(193,ox),(194,md)] (iQ 1237940043933112819970491391 [] func150) (λD=>1000005) (λK b a=>by simp at a;exact fK.inj a) ?_;rintro⟨r,g⟩ ⟨H,ht,C⟩ d A;simp at H ht C A;simp[f150,A];have z:=λ{l:fy} (a:l.p 193=some ox) k=>Cw a r k J;have eT:=λ{l:fy} (a:l.p 194=some md) k=>xK a g k J;refine fk g.length J (λj d a=>hU 1 a/\a.get 0=some (dE 2 0 [fK.t ⟨r,g⟩])/\dF d 1 (.ptr 0 0 0 0)/\dF d 4 (Z j)) ?_ ?_ J dy
 ·rintro o d a n y ⟨c,e,f,s⟩;have w:=c.ne (b:=0) J;have F:=λ{l:fy} (a:l.p 194=some md) k=>xK a (g.take o) k (by rw[List.length_take];omega);simp[e,f,s,n,w,c.low,z,F,bw n]
  repeat' (refine ee (λi=>?_) (λi=>?_)<;>simp[i,e,f,s,y,c.hp,c,w,hU.cons])
 rintro d a ⟨c,e,f,s⟩;simp[e,f,s];refine fk g.length J (λj d a=>hU 1 a/\a.get 0=some (dE 2 0 [fK.t ⟨r,g⟩])/\dF d 1 (.ptr 0 0 0 0)/\dF d 6 (Z j)) ?_ ?_ J (by simp[e,f,c])
 ·rintro o d a n y ⟨c,e,f,h⟩;have w:=c.ne (b:=0) J;have⟨hl,L⟩:=C g[o] (aD n);simp[e,f,h,n,c.low];generalize g[o]=x at*
  have I:=(c.cons (dE 4 1 [x.t]));refine ee (λi=>?_) (λi=>?_)
  ·simp[c.hp]
  simp;refine fk x.locals.length J (λj d m=>hU 1 m/\m.get 0=some (dE 2 0 [fK.t ⟨r,g⟩])/\m.get a.size=some (dE 4 1 [x.t])/\dF d 1 (.ptr 0 0 0 0)/\dF d 6 (Z o)/\dF d 7 (.ptr a.size 0 0 0)/\dF d 8 (Z j)) ?_ ?_ J (by simp[e,f,h,w,I])
  ·rintro j d m B G ⟨c,e,q,f,h,u,v⟩;have E:=λ{l:fy} (a:l.p 130=some C4) k=>Pe a (x.locals.take j) k (by rw[List.length_take];omega);simp[e,q,f,u,v,B,z,eT,E,bw B]
   repeat' (refine ee (λi=>?_) (λi=>?_)<;>simp[i,e,q,f,h,u,v,G,c.hp,c])
  ·rintro d m ⟨c,e,q,f,h,u,v⟩;simp[e,q,f,h,u,v,y,c]
 ·rintro d a ⟨c,e,f,h⟩;simp[e,f,h,c.hp]
