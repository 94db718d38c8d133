/- W02 -/
import Derived.Test.YtmoiekepclmgbaaGreatDoorA11
import Derived.Test.YtmoiekepclmgbaaGreatDoorA15
set_option linter.all false
set_option maxRecDepth 100000
set_option maxHeartbeats 0
namespace Go.Proofs.YtmoiekepclmgbaaGreatDoor
noncomputable section
open Go Go.TI Tryz
attribute [-simp] List.map_take List.map_drop List.map_append fU fK fh Bool.not_or Bool.not_and
attribute [simp] fT fM
def NP:o9 prog cx 249 (λa:eY=>[a.t]) (λ_=>True) (λ_=>Kr):=by
 refine jL [] (jr 7 [] func249) (λ_=>5) (λd e b=>by simp at b;exact eY.inj b) ?_;rintro a-f c;simp at c;simp[f249,c]
def EI:o9 prog cx 267 (λc:Int=>[G c]) (λ_=>True) (λ_=>Hm):=by
 refine jL [] (jr 132109 [] func267) (λ_=>5) (λe f d=>by simpa using d) ?_;rintro c-g a;simp at a;simp[f267,a]
 repeat' (refine fw (λb=>?_) (λb=>?_)<;>simp[b,a])
def qm:o9 prog cx 248 (λa:eY=>[a.t]) (λa=>a.w<=1099511627776) (λ_=>Kr):=by
 refine Dv (λa=>a.w) λm k=>?_;refine jL [(267,EI.jX),(123,AQ),(248,k.jX)] (jr 18483898770635358239 [(2,[(2,4)])] func248) (λa=>a.w+5) (λs n b=>by simp at b;exact eY.inj b) ?_;rintro a ⟨x,u⟩ c j;simp at j;obtain⟨_,⟨y,rfl⟩,o⟩:=EI.use a.op trivial;have hl:=eY.wW (l:=a.l);have v:=a.mR;simp[f248,j,o,rJ];refine fw (λg=>?_) (λg=>?_)
 ·simp
 simp;refine gu a.l.length D (λm c b=>iE 1 b/\b.get 0=some (dS 4 0 [a.t])/\dT c 1 (.ptr 0 0 0 0)/\dT c 4 (G m)) ?_ ?_ D ?_
 ·rintro r c b i q ⟨h,d,e,f⟩;obtain⟨_,⟨n,rfl⟩,p⟩:=k.use a.l[r] ⟨by have:=eY.xH (aC i);omega,by have:=eY.xH (aC i);omega⟩;simp[d,e,f,i,p]
  repeat' (refine fw (λg=>?_) (λg=>?_)<;>simp[g,h.hp,d,e,f,h,q])
 ·rintro c b ⟨h,d,e,f⟩;simp[h.hp,d,e,f]
 ·simp
def A3:o9 prog cx 193 (λd:iY=>[d.t]) (λ_=>True) (λ_=>Kr):=by
 refine jL [(123,AQ)] (jr 1125902054326279 [] func193) (λ_=>5) (λe f a=>by simp at a;exact iY.inj a) ?_;rintro g-h b;simp at b;simp[f193,b,rJ]
 repeat' (refine fw (λc=>?_) (λc=>?_)<;>simp[c,rJ])
def Gb(n:Nat)(g:o9 prog cx 194 (λd:List ei=>[sl (d.map ei.t)]) (λd=>ei.ws d<=1099511627776/\ei.ws d<n) (λ_=>Kr)):
 o9 prog cx 228 (λa:ei=>[a.t]) (λa=>a.w<=1099511627776/\a.w<n+1) (λ_=>Kr):=by
 refine jL [(248,qm.jX),(123,AQ),(194,g.jX),(249,NP.jX)] (jr 182687706027492332498828539273953093013162958911 [] func228) (λ_=>5) (λq r l=>by simp at l;exact ei.inj l) ?_;rintro a ⟨m,p⟩ B f;simp at f;rw[a.mR]at m p;obtain⟨_,⟨s,rfl⟩,h⟩:=qm.use a.e D;obtain⟨_,⟨u,rfl⟩,i⟩:=g.use a.body ⟨D,D⟩;obtain⟨_,⟨v,rfl⟩,j⟩:=g.use a.Qu ⟨D,D⟩;obtain⟨_,⟨y,rfl⟩,k⟩:=NP.use a.e trivial
 match c:a.index with
 | []=>
  simp[f228,f,c]
  repeat' (refine fw (λb=>?_) (λb=>?_)<;>simp[b,rJ,h,i,j,k,c])
 |x::A=>
  obtain⟨_,⟨z,rfl⟩,o⟩:=qm.use x (by rw[c,eY.kL]at m;omega);simp[f228,f,c]
  repeat' (refine fw (λb=>?_) (λb=>?_)<;>simp[b,rJ,h,i,j,k,o,c])
def Eb(e:Nat)(j:o9 prog cx 228 (λf:ei=>[f.t]) (λf=>f.w<=1099511627776/\f.w<e) (λ_=>Kr)):
 o9 prog cx 194 (λl:List ei=>[sl (l.map ei.t)]) (λl=>ei.ws l<=1099511627776/\ei.ws l<e) (λ_=>Kr):=by
 refine jL [(228,j.jX)] (jr 32909 [] func194) (λl=>l.length+1) (λp k a=>jH (λ_ _=>ei.inj) (by simpa using a)) ?_;rintro l ⟨r,q⟩ b g;simp at g;have hl:=ei.wW (l:=l);simp[f194];refine gu l.length D (λe b a=>a=hE/\dT b 0 (sl (l.map ei.t))/\dT b 3 (G e)) ?_ ?_ D (by simp[g])
 ·rintro o b a i n ⟨rfl,c,d⟩;have:=ei.xH (aC i);obtain⟨_,⟨k,rfl⟩,m⟩:=j.use l[o] ⟨D,D⟩;simp[c,d,i,m]
  repeat' (refine fw (λh=>?_) (λh=>?_)<;>simp[h,c,d,n])
 ·rintro b a ⟨rfl,c,d⟩;simp[c,d]
def zl:o9 prog cx 194 (λa:List ei=>[sl (a.map ei.t)]) (λa=>ei.ws a<=1099511627776) (λ_=>Kr):=by
 have e:∀c,o9 prog cx 194 (λa:List ei=>[sl (a.map ei.t)]) (λa=>ei.ws a<=1099511627776/\ei.ws a<c) (λ_=>Kr):=by
  intro c;induction c with
  |zero=>exact⟨λd b=>absurd b.2 (Nat.not_lt_zero _),λd b=>absurd b.2 (Nat.not_lt_zero _)⟩
  |succ c f=>exact Eb (c+1) (Gb c f)
 exact⟨λd b=>(e _).1 d ⟨b,du _⟩,λd b=>(e _).2 d ⟨b,du _⟩⟩
def Vn(a:ik):Prop:=a.jU.length<=1000000/\a.dW.length<=1000000/\∀b∈a.dW,b.locals.length<=1000000/\ei.ws b.body<=1000000
def JH:o9 prog cx 151 (λy:ik=>[y.t]) Vn (λ_=>Kr):=by
 refine jL [(193,A3.jX),(123,AQ),(194,zl.jX)] (jr 72128100255664255 [] func151) (λy=>1000005) (λF b e=>by simp at e;exact ik.inj e) ?_;rintro⟨l,i⟩ ⟨A,ht,x⟩ a w;simp at A ht x w;simp[f151,w];refine gu l.length D (λk a e=>iE 1 e/\e.get 0=some (dS 2 0 [ik.t ⟨l,i⟩])/\dT a 1 (.ptr 0 0 0 0)/\dT a 3 (G k)) ?_ ?_ D Y
 ·rintro j a e r u ⟨c,d,f,o⟩;obtain⟨_,⟨b,rfl⟩,s⟩:=A3.use l[j] trivial;simp[d,f,o,r,s]
  repeat' (refine fw (λh=>?_) (λh=>?_)<;>simp[h,d,f,o,u,c.hp,c])
 rintro a e ⟨c,d,f,o⟩;simp[d,f,o];refine gu i.length D (λk a e=>iE 1 e/\e.get 0=some (dS 2 0 [ik.t ⟨l,i⟩])/\dT a 1 (.ptr 0 0 0 0)/\dT a 4 (G k)) ?_ ?_ D (by simp[d,f,c])
 ·rintro j a e r u ⟨c,d,f,g⟩;have C:=c.ne (b:=0) D;have⟨hl,H⟩:=x i[j] (aC r);obtain⟨_,⟨b,rfl⟩,s⟩:=zl.use i[j].body D;simp[d,f,g,r,c.low];generalize i[j]=v at*
  have E:=(c.cons (dS 4 1 [v.t]));refine gu v.locals.length D (λk a m=>iE 1 m/\m.get 0=some (dS 2 0 [ik.t ⟨l,i⟩])/\m.get e.size=some (dS 4 1 [v.t])/\dT a 1 (.ptr 0 0 0 0)/\dT a 4 (G j)/\dT a 5 (.ptr e.size 0 0 0)/\dT a 6 (G k)) ?_ ?_ D (by simp[d,f,g,C,E])
  ·rintro k a m B z ⟨c,d,n,f,g,p,q⟩;simp[n,p,q,B,rJ]
   repeat' (refine fw (λh=>?_) (λh=>?_)<;>simp[h,d,n,f,g,p,q,z,c.hp,c])
  ·rintro a m ⟨c,d,n,f,g,p,q⟩;simp[n,p,q,rJ,s]
   repeat' (refine fw (λh=>?_) (λh=>?_)<;>simp[h,d,f,g,u,c.hp,c])
 ·rintro a e ⟨c,d,f,g⟩;simp[d,f,g,c.hp]
def IX:∀(c:List (List Nat)) (b:List Nat) (a:Nat),uC c b a=-1\/∃d,d<c.length/\uC c b a=((a+d:Nat):Int)
 | [],b,a=> .inl rfl
 |x::c,b,a=>by
  rw[uC];by_cases f:x=b
  ·rw[aq f];exact .inr ⟨0,Y,Y⟩
  ·rw[ao f];rcases IX c b (a+1)with e|⟨d,g,e⟩
   ·exact .inl e
   ·exact .inr ⟨d+1,by simpa using g,by rw[e];congr 1;omega⟩
def pz:iy:=⟨List iY×List Nat,λa=>[sl (a.1.map iY.t),.str a.2],λa=>a.1.length<=1099511627776,λa=> G (uC (a.1.map iY.name) a.2 0),λa c b=>by
 simp at b;rw[jH (λ_ _=>iY.inj) b.1,b.2]⟩
def SQ:pz.Ok prog cx 195:=by
 refine iq [] (jr 262707 [] func195) (λm=>m.1.length+1) (by simp[pz]) ?_;rintro⟨h,j⟩ hl c k;simp[pz]at hl k|-;obtain⟨b,d⟩:=k;simp[f195];refine gu h.length D (λg c i=>i=hE/\dT c 0 (sl (h.map iY.t))/\dT c 1 (.str j)/\dT c 5 (G g)/\uC ((h.drop g).map iY.name) j g=uC (h.map iY.name) j 0) ?_ ?_ D (by simp[b,d])
 ·rintro g c i l n ⟨rfl,b,d,e,a⟩;rw[aH l,aL,uC]at a;simp[b,d,e,l];refine fw (λf=>?_) (λf=>?_)
  ·simp at f;rw[aq f]at a;simp[e,<-a]
  ·simp at f;rw[ao f]at a;simp[b,d,e,n,a]
 ·rintro c i ⟨rfl,b,d,e,a⟩;simp[uC]at a;simp[b,e,<-a]
def DQ{c:gG}(ht:c.p 195=some pz)(a:List iY)(b:List Nat)(hl:a.length<=1099511627776):rl prog cx c 195 [sl (a.map iY.t),.str b]=some (G (uC (a.map iY.name) b 0)):=iA ht SQ (a,b) hl
def mY:iy:=⟨List iw×List Nat,λa=>[sl (a.1.map iw.t),.str a.2],λa=>a.1.length<=1099511627776,λa=> G (uC (a.1.map iw.name) a.2 0),λa c b=>by
 simp at b;rw[jH (λ_ _=>iw.inj) b.1,b.2]⟩
def Mb:mY.Ok prog cx 196:=by
 refine iq [] (jr 262707 [] func196) (λm=>m.1.length+1) (by simp[mY]) ?_;rintro⟨h,j⟩ hl c k;simp[mY]at hl k|-;obtain⟨b,d⟩:=k;simp[f196];refine gu h.length D (λg c i=>i=hE/\dT c 0 (sl (h.map iw.t))/\dT c 1 (.str j)/\dT c 5 (G g)/\uC ((h.drop g).map iw.name) j g=uC (h.map iw.name) j 0) ?_ ?_ D (by simp[b,d])
 ·rintro g c i l n ⟨rfl,b,d,e,a⟩;rw[aH l,aL,uC]at a;simp[b,d,e,l];refine fw (λf=>?_) (λf=>?_)
  ·simp at f;rw[aq f]at a;simp[e,<-a]
  ·simp at f;rw[ao f]at a;simp[b,d,e,n,a]
 ·rintro c i ⟨rfl,b,d,e,a⟩;simp[uC]at a;simp[b,e,<-a]
def yS{c:gG}(ht:c.p 196=some mY)(a:List iw)(b:List Nat)(hl:a.length<=1099511627776):rl prog cx c 196 [sl (a.map iw.t),.str b]=some (G (uC (a.map iw.name) b 0)):=iA ht Mb (a,b) hl
def JK:o9 prog cx 250 (λi:ik×Int×List Nat=>[i.1.t,G i.2.1,.str i.2.2]) (λi=>Vn i.1) (λ_=>Hm):=by
 refine jL [(124,Es),(195,pz),(196,mY)] (jr 99132251962343631 [] func250) (λ_=>5) (λi C c=>by simp at c;obtain⟨g,b,z⟩:=c;exact aD (ik.inj g) (aD b z)) ?_;rintro⟨⟨w,e⟩,d,n⟩ ⟨A,ht,u⟩ E y;simp at A ht u y;obtain⟨k,g,b⟩:=y;have f:=λ{h:gG} (c:h.p 195=some pz)=>DQ c w n D;have j:=λ{h:gG} (c:h.p 196=some mY)=>yS c e n D;have x:d<0\/(e.length:Int)<=d\/∃v:Nat,v<e.length/\d=v:=by
  by_cases q:d<0
  ·exact .inl q
  by_cases B:(e.length:Int)<=d
  ·exact .inr (.inl B)
  ·exact .inr (.inr ⟨d.toNat,D,D⟩)
 rcases IX (w.map iY.name) n 0 with r|⟨v,o,r⟩
 ·simp only[r]at f;rcases x with q|q|⟨m,l,rfl⟩
  ·simp[f250,k,g,b,f,j,show¬0<=d by omega]
   repeat' (refine fw (λa=>?_) (λa=>?_)<;>simp[a])
  ·simp[f250,k,g,b,f,j,show¬d<e.length by omega]
   repeat' (refine fw (λa=>?_) (λa=>?_)<;>simp[a])
  ·have s:=λ{h:gG} (c:h.p 124=some Es)=>QU c e[m].locals n (by have:=(u e[m] (aC l)).1;omega);simp[f250,k,g,b,l,s]
   repeat' (refine fw (λa=>?_) (λa=>?_)<;>simp[a,b,f,j])
 ·simp at o r;simp only[r]at f;rcases x with q|q|⟨m,l,rfl⟩
  ·simp[f250,k,g,b,f,show¬0<=d by omega]
   repeat' (refine fw (λa=>?_) (λa=>?_)<;>simp[a,b,j,o])
  ·simp[f250,k,g,b,f,show¬d<e.length by omega]
   repeat' (refine fw (λa=>?_) (λa=>?_)<;>simp[a,b,j,o])
  ·have s:=λ{h:gG} (c:h.p 124=some Es)=>QU c e[m].locals n (by have:=(u e[m] (aC l)).1;omega);simp[f250,k,g,b,l,s]
   repeat' (refine fw (λa=>?_) (λa=>?_)<;>simp[a,b,f,j,o])
def B5:o9 prog cx 231 (λa:ik×Int×List Nat×Int×Int=>[a.1.t,G a.2.1,.str a.2.2.1,G a.2.2.2.1,G a.2.2.2.2]) (λa=>Vn a.1) (λ_=>Hm):=by
 refine jL [(250,JK.jX)] (jr 33688639 [] func231) (λ_=>5) (λa f c=>by simp at c;obtain⟨h,i,j,k,l⟩:=c;exact aD (ik.inj h) (aD i (aD j (aD k l)))) ?_;rintro⟨m,o,n,a,f⟩ e q b;simp at e b;obtain⟨_,⟨p,rfl⟩,g⟩:=JK.use (m,o,n) e;simp[f231,b,g]
 repeat' (refine fw (λd=>?_) (λd=>?_)<;>simp[d,b])
def G7:o9 prog cx 233 (λa:Bool=>[.bool a]) (λ_=>True) (λ_=>Hm):=by
 refine jL [] (jr 13 [] func233) (λ_=>5) (λe a d=>by simpa using d) ?_;rintro a-f b;simp at b;simp[f233,b]
 repeat' (refine fw (λc=>?_) (λc=>?_)<;>simp[c])
def ZM:o9 prog cx 230 (λa:Int×Int=>[G a.1,G a.2]) (λ_=>True) (λa f=>f= G (if a.1=0 then a.2 else a.1)):=by
 refine jL [] (jr 83 [] func230) (λ_=>5) (λa e b=>by simp at b;exact aD b.1 b.2) ?_;rintro⟨a,e⟩-g c;simp at c;simp[f230,c];refine fw (λd=>?_) (λd=>?_)<;>simp at d<;>simp[c,d]
def NM:o9 prog cx 251 (λa:eY=>[a.t]) (λa=>a.w<=1099511627776) (λ_=>Kq):=by
 refine Dv (λa=>a.w) λq p=>?_;refine jL [(251,p.jX)] (jr 8703 [] func251) (λa=>a.w+5) (λk m b=>by simp at b;exact eY.inj b) ?_;rintro a ⟨A,y⟩ c n;simp at n;have hl:=eY.wW (l:=a.l);have z:=a.mR;simp[f251,n];refine gu a.l.length D (λq c b=>iE 1 b/\b.get 0=some (dS 4 0 [a.t])/\dT c 1 (.ptr 0 0 0 0)/\(∃i,dT c 4 (G i))/\(∃i,dT c 5 (G i))/\dT c 6 (G q)) ?_ ?_ D ?_
 ·rintro u c b o s ⟨j,d,e,⟨k,f⟩,⟨m,g⟩,h⟩;have:=eY.xH (aC o);obtain⟨_,⟨v,x,rfl⟩,r⟩:=p.use a.l[u] ⟨D,D⟩;simp[d,e,f,g,h,o,r,s,pP,j]
 ·rintro c b ⟨j,d,e,⟨k,f⟩,⟨m,g⟩,h⟩;simp[j.hp,d,e,f,g,h,pP]
 ·simp
def G8:o9 prog cx 252 (λa:ik×Int×eY=>[a.1.t,G a.2.1,a.2.2.t]) (λa=>Vn a.1/\a.2.2.w<=1099511627776) (λ_=>Hm):=by
 refine Dv (λa=>a.2.2.w) λv u=>?_;refine jL [(231,B5.jX),(252,u.jX)] (jr 8590200303 [] func252) (λa=>a.2.2.w+5) (λa I c=>by simp at c;obtain⟨m,C,n⟩:=c;exact aD (ik.inj m) (aD C (eY.inj n))) ?_;rintro⟨i,j,b⟩ ⟨⟨h,H⟩,F⟩ d g;simp only at h H F;simp at g;have hl:=eY.wW (l:=b.l);have K:=b.mR;obtain⟨_,⟨M,rfl⟩,z⟩:=B5.use (i,j,b.name,8,1) h;obtain⟨_,⟨N,rfl⟩,A⟩:=B5.use (i,j,b.name,2,2) h;simp[f252,g]
 repeat' (refine fw (λe=>?_) (λe=>?_)<;>simp[e,g,z,A])
 all_goals
  refine UN b.l.length (λv d c=>iE 2 c/\c.get 0=some (dS 2 0 [i.t])/\c.get 1=some (dS 4 0 [b.t])/\dT d 1 (G j)/\dT d 3 (.ptr 0 0 0 0)/\dT d 5 (.ptr 1 0 0 0)/\(∃x,dT d 7 (G x))/\dT d 8 (G v)) ?_ D (aw _) (by simp[g]);rintro s d c J ⟨r,y,k,m,n,o,⟨x,p⟩,q⟩;by_cases f:s<b.l.length
  ·have:=eY.xH (aC f);have E:=M8 f D;obtain⟨_,⟨L,rfl⟩,B⟩:=u.use (i,j,b.l[s]) ⟨⟨h,dO⟩,dO⟩;simp[k,o,p,q,f]
   repeat' (refine fw (λe=>?_) (λe=>?_)<;>simp[e,r,r.hp,y,k,m,n,o,p,q,f,B,E])
  ·simp[r.hp,k,o,p,q,f]
def EK:o9 prog cx 232 (λa:ik×Int×eY=>[a.1.t,G a.2.1,a.2.2.t]) (λa=>Vn a.1/\a.2.2.w<=1099511627776) (λ_=>Hm):=by
 refine jL [(248,qm.jX),(251,NM.jX),(252,G8.jX)] (jr 4196847 [] func232) (λa=>5) (λa p e=>by simp at e;obtain⟨k,l,m⟩:=e;exact aD (ik.inj k) (aD l (eY.inj m))) ?_;rintro⟨n,o,c⟩ ⟨g,b⟩ v d;simp only at g b;simp at d;obtain⟨_,⟨q,rfl⟩,h⟩:=qm.use c b;obtain⟨_,⟨r,u,rfl⟩,i⟩:=NM.use c b;obtain⟨_,⟨s,rfl⟩,j⟩:=G8.use (n,o,c) ⟨g,b⟩;simp[f232,d,h]
 repeat' (refine fw (λf=>?_) (λf=>?_)<;>simp[f,d,i,j])
def NO:o9 prog cx 154 (λl:List ei=>[sl (l.map ei.t)]) (λl=>ei.ws l<=1099511627776) (λ_=>Hm):=by
 refine Dv (λl=>ei.ws l) λk h=>?_;refine jL [(154,h.jX)] (jr 1053 [(5,[(6,10),(6,12)])] func154) (λl=>l.length+1) (λq m b=>jH (λ_ _=>ei.inj) (by simpa using b)) ?_;rintro l ⟨u,s⟩ a f;simp at f;have hl:=ei.wW (l:=l);simp[f154,f];refine gu l.length D (λk a b=>b=hE/\dT a 0 (sl (l.map ei.t))/\(∃i,dT a 3 (G i))/\dT a 4 (G k)) ?_ ?_ D (by simp[f])
 ·rintro g a b j p ⟨rfl,c,⟨i,d⟩,e⟩;have:=ei.xH (aC j);rw[l[g].mR]at this;obtain⟨_,⟨m,rfl⟩,n⟩:=h.use l[g].body ⟨D,D⟩;obtain⟨_,⟨r,rfl⟩,o⟩:=h.use l[g].Qu ⟨D,D⟩;simp[c,d,e,j,n,o,p,pP]
 ·rintro a b ⟨rfl,c,⟨i,d⟩,e⟩;simp[c,d,e]
def CQ:o9 prog cx 153 (λE:ik=>[E.t]) Vn (λ_=>Kq):=by
 refine jL [(124,Es),(195,pz),(196,mY)] (jr 1237940043933112819970491391 [] func153) (λE=>1000005) (λL b a=>by simp at a;exact ik.inj a) ?_;rintro⟨r,g⟩ ⟨J,ht,C⟩ d A;simp at J ht C A;simp[f153,A];have z:=λ{l:gG} (a:l.p 195=some pz) k=>DQ a r k D;have eT:=λ{l:gG} (a:l.p 196=some mY) k=>yS a g k D;refine gu g.length D (λj d a=>iE 1 a/\a.get 0=some (dS 2 0 [ik.t ⟨r,g⟩])/\dT d 1 (.ptr 0 0 0 0)/\dT d 4 (G j)) ?_ ?_ D Y
 ·rintro o d a n y ⟨c,e,f,s⟩;have w:=c.ne (b:=0) D;have H:=λ{l:gG} (a:l.p 196=some mY) k=>yS a (g.take o) k (by rw[List.length_take];omega);simp[e,f,s,n,w,c.low,z,H,bD n]
  repeat' (refine fw (λi=>?_) (λi=>?_)<;>simp[i,e,f,s,y,c.hp,c,w,iE.cons])
 rintro d a ⟨c,e,f,s⟩;simp[e,f,s];refine gu g.length D (λj d a=>iE 1 a/\a.get 0=some (dS 2 0 [ik.t ⟨r,g⟩])/\dT d 1 (.ptr 0 0 0 0)/\dT d 6 (G j)) ?_ ?_ D (by simp[e,f,c])
 ·rintro o d a n y ⟨c,e,f,h⟩;have w:=c.ne (b:=0) D;have⟨hl,M⟩:=C g[o] (aC n);simp[e,f,h,n,c.low];generalize g[o]=x at*
  have K:=(c.cons (dS 4 1 [x.t]));refine fw (λi=>?_) (λi=>?_)
  ·simp[c.hp]
  simp;refine gu x.locals.length D (λj d m=>iE 1 m/\m.get 0=some (dS 2 0 [ik.t ⟨r,g⟩])/\m.get a.size=some (dS 4 1 [x.t])/\dT d 1 (.ptr 0 0 0 0)/\dT d 6 (G o)/\dT d 7 (.ptr a.size 0 0 0)/\dT d 8 (G j)) ?_ ?_ D (by simp[e,f,h,w,K])
  ·rintro j d m B I ⟨c,e,q,f,h,u,v⟩;have F:=λ{l:gG} (a:l.p 124=some Es) k=>QU a (x.locals.take j) k (by rw[List.length_take];omega);simp[e,q,f,u,v,B,z,eT,F,bD B]
   repeat' (refine fw (λi=>?_) (λi=>?_)<;>simp[i,e,q,f,h,u,v,I,c.hp,c])
  ·rintro d m ⟨c,e,q,f,h,u,v⟩;simp[e,q,f,h,u,v,y,c]
 ·rintro d a ⟨c,e,f,h⟩;simp[e,f,h,c.hp]
