/- Texts W02 to W04. -/
import Derived.Test.YtmaeadedikngoaaGreatDoorA16
set_option linter.all false
set_option maxRecDepth 100000
set_option maxHeartbeats 8000000
namespace Go.Proofs.YtmaeadedikngoaaGreatDoor
noncomputable section
open Go Go.TI
attribute [-simp] List.map_take List.map_drop List.map_append fw eQ dZ Bool.not_or Bool.not_and
attribute [simp] fq eY
def JX:m6 Tryz.prog cx 246 (λa:dN=>[a.t]) (λ_=>True) (λ_=>DM):=by
 refine jd (tb:=⟨pt [],ht []⟩) ew ej (iQ 7 [] Tryz.func246) (λ_=>5) (λd e b=>by simp at b;exact dN.inj b) dt (by simp[Tryz.f246]) ?_;rintro a-f c;simp at c;simp[Tryz.f246,c]
def BD:m6 Tryz.prog cx 264 (λc:Int=>[dy c]) (λ_=>True) (λ_=>DJ):=by
 refine jd (tb:=⟨pt [],ht []⟩) ew ej (iQ 132109 [] Tryz.func264) (λ_=>5) (λe f d=>by simpa using d) dt (by simp[Tryz.f264]) ?_;rintro c-g a;simp at a;simp[Tryz.f264,a]
 repeat' (refine dW (λb=> ?_) (λb=> ?_)<;>simp[b,a])
def oa:m6 Tryz.prog cx 245 (λa:dN=>[a.t]) (λa=>a.w<=1099511627776) (λ_=>DM):=by
 refine AL (λa=>a.w) λm k=> ?_;refine jd (tb:=⟨pt [(264,BD.jf),(109,wy),(245,k.jf)],ht []⟩) ew ej (iQ 18483898770635358239 [(2,[(2,4)])] Tryz.func245) (λa=>a.w+5) (λs n b=>by simp at b;exact dN.inj b) dt (by simp[Tryz.f245]) ?_;rintro a ⟨x,u⟩ c j;simp at j;obtain⟨_,⟨y,rfl⟩,o⟩:=BD.use a.op trivial;have hl:=dN.ul (l:=a.l);have v:=a.kU;simp[Tryz.f245,j,o,o6];refine dW (λg=> ?_) (λg=> ?_)
 ·simp
 simp;refine fh a.l.length dq (λm c b=>gF 1 b/\b.get 0=some (dA 4 0 [a.t])/\dB c 1 (.ptr 0 0 0 0)/\dB c 4 (dy m)) ?_ ?_ dq ?_
 ·rintro r c b i q ⟨h,d,e,f⟩;obtain⟨_,⟨n,rfl⟩,p⟩:=k.use a.l[r] ⟨by have:=dN.uK (aF i);omega,by have:=dN.uK (aF i);omega⟩;simp[d,e,f,i,p]
  repeat' (refine dW (λg=> ?_) (λg=> ?_)<;>simp[g,h.hp,d,e,f,h,q])
 ·rintro c b ⟨h,d,e,f⟩;simp[h.hp,d,e,f]
 ·simp
def xY:m6 Tryz.prog cx 189 (λd:gW=>[d.t]) (λ_=>True) (λ_=>DM):=by
 refine jd (tb:=⟨pt [(109,wy)],ht []⟩) ew ej (iQ 1125902054326279 [] Tryz.func189) (λ_=>5) (λe f a=>by simp at a;exact gW.inj a) dt (by simp[Tryz.f189]) ?_;rintro g-h b;simp at b;simp[Tryz.f189,b,o6]
 repeat' (refine dW (λc=> ?_) (λc=> ?_)<;>simp[c,o6])
def CP(n:Nat)(g:m6 Tryz.prog cx 190 (λd:List dJ=>[sl (d.map dJ.t)]) (λd=>dJ.ws d<=1099511627776/\dJ.ws d<n) (λ_=>DM)):
 m6 Tryz.prog cx 225 (λa:dJ=>[a.t]) (λa=>a.w<=1099511627776/\a.w<n+1) (λ_=>DM):=by
 refine jd (tb:=⟨pt [(245,oa.jf),(109,wy),(190,g.jf),(246,JX.jf)],ht []⟩) ew ej (iQ 182687706027492332498828539273953093013162958911 [] Tryz.func225) (λ_=>5) (λq r l=>by simp at l;exact dJ.inj l) dt (by simp[Tryz.f225]) ?_;rintro a ⟨m,p⟩ B f;simp at f;rw[a.kU]at m p;obtain⟨_,⟨s,rfl⟩,h⟩:=oa.use a.e dq;obtain⟨_,⟨u,rfl⟩,i⟩:=g.use a.body ⟨dq,dq⟩;obtain⟨_,⟨v,rfl⟩,j⟩:=g.use a.LV ⟨dq,dq⟩;obtain⟨_,⟨y,rfl⟩,k⟩:=JX.use a.e trivial
 match c:a.index with
 | []=>
  simp[Tryz.f225,f,c]
  repeat' (refine dW (λb=> ?_) (λb=> ?_)<;>simp[b,o6,h,i,j,k,c])
 |x::A=>
  obtain⟨_,⟨z,rfl⟩,o⟩:=oa.use x (by rw[c,dN.jQ]at m;omega);simp[Tryz.f225,f,c]
  repeat' (refine dW (λb=> ?_) (λb=> ?_)<;>simp[b,o6,h,i,j,k,o,c])
def Bi(e:Nat)(j:m6 Tryz.prog cx 225 (λf:dJ=>[f.t]) (λf=>f.w<=1099511627776/\f.w<e) (λ_=>DM)):
 m6 Tryz.prog cx 190 (λl:List dJ=>[sl (l.map dJ.t)]) (λl=>dJ.ws l<=1099511627776/\dJ.ws l<e) (λ_=>DM):=by
 refine jd (tb:=⟨pt [(225,j.jf)],ht []⟩) ew ej (iQ 32909 [] Tryz.func190) (λl=>l.length+1) (λp k a=>jw (λ_ _=>dJ.inj) (by simpa using a)) dt (by simp[Tryz.f190]) ?_;rintro l ⟨r,q⟩ b g;simp at g;have hl:=dJ.ul (l:=l);simp[Tryz.f190];refine fh l.length dq (λe b a=>a=hE/\dB b 0 (sl (l.map dJ.t))/\dB b 3 (dy e)) ?_ ?_ dq (by simp[g])
 ·rintro o b a i n ⟨rfl,c,d⟩;have:=dJ.uK (aF i);obtain⟨_,⟨k,rfl⟩,m⟩:=j.use l[o] ⟨dq,dq⟩;simp[c,d,i,m]
  repeat' (refine dW (λh=> ?_) (λh=> ?_)<;>simp[h,c,d,n])
 ·rintro b a ⟨rfl,c,d⟩;simp[c,d]
def wD:m6 Tryz.prog cx 190 (λa:List dJ=>[sl (a.map dJ.t)]) (λa=>dJ.ws a<=1099511627776) (λ_=>DM):=by
 have e:∀c,m6 Tryz.prog cx 190 (λa:List dJ=>[sl (a.map dJ.t)]) (λa=>dJ.ws a<=1099511627776/\dJ.ws a<c) (λ_=>DM):=by
  intro c;induction c with
  |zero=>exact⟨λd b=>absurd b.2 (Nat.not_lt_zero _),λd b=>absurd b.2 (Nat.not_lt_zero _)⟩
  |succ c f=>exact Bi (c+1) (CP c f)
 exact⟨λd b=>(e _).1 d ⟨b,cY _⟩,λd b=>(e _).2 d ⟨b,cY _⟩⟩
def Qw(a:fx):Prop:=a.jb.length<=1000000/\a.dE.length<=1000000/\∀b∈a.dE,b.locals.length<=1000000/\dJ.ws b.body<=1000000
def Ge:m6 Tryz.prog cx 141 (λy:fx=>[y.t]) Qw (λ_=>DM):=by
 refine jd (tb:=⟨pt [(189,xY.jf),(109,wy),(190,wD.jf)],ht []⟩) ew ej (iQ 72128100255664255 [] Tryz.func141) (λy=>1000005) (λE b e=>by simp at e;exact fx.inj e) dt (by simp[Tryz.f141]) ?_;rintro⟨l,i⟩ ⟨A,ht,x⟩ a w;simp at A ht x w;simp[Tryz.f141,w];refine fh l.length dq (λk a e=>gF 1 e/\e.get 0=some (dA 2 0 [fx.t ⟨l,i⟩])/\dB a 1 (.ptr 0 0 0 0)/\dB a 3 (dy k)) ?_ ?_ dq dt
 ·rintro j a e r u ⟨c,d,f,o⟩;obtain⟨_,⟨b,rfl⟩,s⟩:=xY.use l[j] trivial;simp[d,f,o,r,s]
  repeat' (refine dW (λh=> ?_) (λh=> ?_)<;>simp[h,d,f,o,u,c.hp,c])
 rintro a e ⟨c,d,f,o⟩;simp[d,f,o];refine fh i.length dq (λk a e=>gF 1 e/\e.get 0=some (dA 2 0 [fx.t ⟨l,i⟩])/\dB a 1 (.ptr 0 0 0 0)/\dB a 4 (dy k)) ?_ ?_ dq (by simp[d,f,c])
 ·rintro j a e r u ⟨c,d,f,g⟩;have C:=c.ne (b:=0) dq;obtain⟨hl,F⟩:=x i[j] (aF r);obtain⟨_,⟨b,rfl⟩,s⟩:=wD.use i[j].body dq;simp[d,f,g,r,c.low];generalize i[j]=v at*
  have D:=(c.cons (dA 4 1 [v.t]));refine fh v.locals.length dq (λk a m=>gF 1 m/\m.get 0=some (dA 2 0 [fx.t ⟨l,i⟩])/\m.get e.size=some (dA 4 1 [v.t])/\dB a 1 (.ptr 0 0 0 0)/\dB a 4 (dy j)/\dB a 5 (.ptr e.size 0 0 0)/\dB a 6 (dy k)) ?_ ?_ dq (by simp[d,f,g,C,D])
  ·rintro k a m B z ⟨c,d,n,f,g,p,q⟩;simp[n,p,q,B,o6]
   repeat' (refine dW (λh=> ?_) (λh=> ?_)<;>simp[h,d,n,f,g,p,q,z,c.hp,c])
  ·rintro a m ⟨c,d,n,f,g,p,q⟩;simp[n,p,q,o6,s]
   repeat' (refine dW (λh=> ?_) (λh=> ?_)<;>simp[h,d,f,g,u,c.hp,c])
 ·rintro a e ⟨c,d,f,g⟩;simp[d,f,g,c.hp]
def Fv:∀(c:List (List Nat)) (b:List Nat) (a:Nat),rx c b a=-1\/∃d,d<c.length/\rx c b a=((a+d:Nat):Int)
 | [],b,a=> .inl rfl
 |x::c,b,a=>by
  rw[rx];by_cases f:x=b
  ·rw[aq f];exact .inr ⟨0,dt,dt⟩
  ·rw[ao f];rcases Fv c b (a+1)with e|⟨d,g,e⟩
   ·exact .inl e
   ·exact .inr ⟨d+1,by simpa using g,by rw[e];congr 1;omega⟩
def mL:gu:=⟨List gW×List Nat,λa=>[sl (a.1.map gW.t),.str a.2],λa=>a.1.length<=1099511627776,λa=> dy (rx (a.1.map gW.name) a.2 0),λa c b=>by
 simp at b;rw[jw (λ_ _=>gW.inj) b.1,b.2]⟩
def N0:mL.Ok Tryz.prog cx 191:=by
 refine gX (tb:=⟨pt [],ht []⟩) ew ej (iQ 262707 [] Tryz.func191) (λm=>m.1.length+1) (by simp[mL]) (by simp[mL,Tryz.f191]) ?_;rintro⟨h,j⟩ hl c k;simp[mL]at hl k|-;obtain⟨b,d⟩:=k;simp[Tryz.f191];refine fh h.length dq (λg c i=>i=hE/\dB c 0 (sl (h.map gW.t))/\dB c 1 (.str j)/\dB c 5 (dy g)/\rx ((h.drop g).map gW.name) j g=rx (h.map gW.name) j 0) ?_ ?_ dq (by simp[b,d])
 ·rintro g c i l n ⟨rfl,b,d,e,a⟩;rw[aI l,aR,rx]at a;simp[b,d,e,l];refine dW (λf=> ?_) (λf=> ?_)
  ·simp at f;rw[aq f]at a;simp[e,<-a]
  ·simp at f;rw[ao f]at a;simp[b,d,e,n,a]
 ·rintro c i ⟨rfl,b,d,e,a⟩;simp[rx]at a;simp[b,e,<-a]
def A2{c:fy}(ht:c.p 191=some mL)(a:List gW)(b:List Nat)(hl:a.length<=1099511627776):rl Tryz.prog cx c 191 [sl (a.map gW.t),.str b]=some (dy (rx (a.map gW.name) b 0)):=gU ht N0 (a,b) hl
def kN:gu:=⟨List fH×List Nat,λa=>[sl (a.1.map fH.t),.str a.2],λa=>a.1.length<=1099511627776,λa=> dy (rx (a.1.map fH.name) a.2 0),λa c b=>by
 simp at b;rw[jw (λ_ _=>fH.inj) b.1,b.2]⟩
def Is:kN.Ok Tryz.prog cx 192:=by
 refine gX (tb:=⟨pt [],ht []⟩) ew ej (iQ 262707 [] Tryz.func192) (λm=>m.1.length+1) (by simp[kN]) (by simp[kN,Tryz.f192]) ?_;rintro⟨h,j⟩ hl c k;simp[kN]at hl k|-;obtain⟨b,d⟩:=k;simp[Tryz.f192];refine fh h.length dq (λg c i=>i=hE/\dB c 0 (sl (h.map fH.t))/\dB c 1 (.str j)/\dB c 5 (dy g)/\rx ((h.drop g).map fH.name) j g=rx (h.map fH.name) j 0) ?_ ?_ dq (by simp[b,d])
 ·rintro g c i l n ⟨rfl,b,d,e,a⟩;rw[aI l,aR,rx]at a;simp[b,d,e,l];refine dW (λf=> ?_) (λf=> ?_)
  ·simp at f;rw[aq f]at a;simp[e,<-a]
  ·simp at f;rw[ao f]at a;simp[b,d,e,n,a]
 ·rintro c i ⟨rfl,b,d,e,a⟩;simp[rx]at a;simp[b,e,<-a]
def wh{c:fy}(ht:c.p 192=some kN)(a:List fH)(b:List Nat)(hl:a.length<=1099511627776):rl Tryz.prog cx c 192 [sl (a.map fH.t),.str b]=some (dy (rx (a.map fH.name) b 0)):=gU ht Is (a,b) hl
def Gg:m6 Tryz.prog cx 247 (λh:fx×Int×List Nat=>[h.1.t,dy h.2.1,.str h.2.2]) (λh=>Qw h.1) (λ_=>DJ):=by
 refine jd (tb:=⟨pt [(110,AO),(191,mL),(192,kN)],ht []⟩) ew ej (iQ 99132251962343631 [] Tryz.func247) (λ_=>5) (λh B c=>by simp at c;obtain⟨g,b,y⟩:=c;exact aP (fx.inj g) (aP b y)) dt (by simp[Tryz.f247]) ?_;rintro⟨⟨v,e⟩,d,m⟩ ⟨z,ht,s⟩ C x;simp at z ht s x;obtain⟨j,g,b⟩:=x;have f:=λ{tb:fy} (c:tb.p 191=some mL)=>A2 c v m dq;have i:=λ{tb:fy} (c:tb.p 192=some kN)=>wh c e m dq;have w:d<0\/(e.length:Int)<=d\/∃u:Nat,u<e.length/\d=u:=by
  by_cases q:d<0
  ·exact .inl q
  by_cases A:(e.length:Int)<=d
  ·exact .inr (.inl A)
  ·exact .inr (.inr ⟨d.toNat,dq,dq⟩)
 rcases Fv (v.map gW.name) m 0 with o|⟨u,n,o⟩
 ·simp only[o]at f;rcases w with q|q|⟨l,k,rfl⟩
  ·simp[Tryz.f247,j,g,b,f,i,show¬0<=d by omega]
   repeat' (refine dW (λa=> ?_) (λa=> ?_)<;>simp[a])
  ·simp[Tryz.f247,j,g,b,f,i,show¬d<e.length by omega]
   repeat' (refine dW (λa=> ?_) (λa=> ?_)<;>simp[a])
  ·have r:=λ{tb:fy} (c:tb.p 110=some AO)=>Mr c e[l].locals m (by have:=(s e[l] (aF k)).1;omega);simp[Tryz.f247,j,g,b,k,r]
   repeat' (refine dW (λa=> ?_) (λa=> ?_)<;>simp[a,b,f,i])
 ·simp at n o;simp only[o]at f;rcases w with q|q|⟨l,k,rfl⟩
  ·simp[Tryz.f247,j,g,b,f,show¬0<=d by omega]
   repeat' (refine dW (λa=> ?_) (λa=> ?_)<;>simp[a,b,i,n])
  ·simp[Tryz.f247,j,g,b,f,show¬d<e.length by omega]
   repeat' (refine dW (λa=> ?_) (λa=> ?_)<;>simp[a,b,i,n])
  ·have r:=λ{tb:fy} (c:tb.p 110=some AO)=>Mr c e[l].locals m (by have:=(s e[l] (aF k)).1;omega);simp[Tryz.f247,j,g,b,k,r]
   repeat' (refine dW (λa=> ?_) (λa=> ?_)<;>simp[a,b,f,i,n])
def zd:m6 Tryz.prog cx 228 (λa:fx×Int×List Nat×Int×Int=>[a.1.t,dy a.2.1,.str a.2.2.1,dy a.2.2.2.1,dy a.2.2.2.2]) (λa=>Qw a.1) (λ_=>DJ):=by
 refine jd (tb:=⟨pt [(247,Gg.jf)],ht []⟩) ew ej (iQ 33688639 [] Tryz.func228) (λ_=>5) (λa f c=>by simp at c;obtain⟨h,i,j,k,l⟩:=c;exact aP (fx.inj h) (aP i (aP j (aP k l)))) dt (by simp[Tryz.f228]) ?_;rintro⟨m,o,n,a,f⟩ e q b;simp at e b;obtain⟨_,⟨p,rfl⟩,g⟩:=Gg.use (m,o,n) e;simp[Tryz.f228,b,g]
 repeat' (refine dW (λd=> ?_) (λd=> ?_)<;>simp[d,b])
def Dv:m6 Tryz.prog cx 230 (λa:Bool=>[.bool a]) (λ_=>True) (λ_=>DJ):=by
 refine jd (tb:=⟨pt [],ht []⟩) ew ej (iQ 13 [] Tryz.func230) (λ_=>5) (λe a d=>by simpa using d) dt (by simp[Tryz.f230]) ?_;rintro a-f b;simp at b;simp[Tryz.f230,b]
 repeat' (refine dW (λc=> ?_) (λc=> ?_)<;>simp[c])
def Ur:m6 Tryz.prog cx 227 (λa:Int×Int=>[dy a.1,dy a.2]) (λ_=>True) (λa f=>f= dy (if a.1=0 then a.2 else a.1)):=by
 refine jd (tb:=⟨pt [],ht []⟩) ew ej (iQ 83 [] Tryz.func227) (λ_=>5) (λa e b=>by simp at b;exact aP b.1 b.2) dt (by simp[Tryz.f227]) ?_;rintro⟨a,e⟩-g c;simp at c;simp[Tryz.f227,c];refine dW (λd=> ?_) (λd=> ?_)<;>simp at d<;>simp[c,d]
def JU:m6 Tryz.prog cx 248 (λa:dN=>[a.t]) (λa=>a.w<=1099511627776) (λ_=>GJ):=by
 refine AL (λa=>a.w) λq p=> ?_;refine jd (tb:=⟨pt [(248,p.jf)],ht []⟩) ew ej (iQ 8703 [] Tryz.func248) (λa=>a.w+5) (λk m b=>by simp at b;exact dN.inj b) dt (by simp[Tryz.f248]) ?_;rintro a ⟨A,y⟩ c n;simp at n;have hl:=dN.ul (l:=a.l);have z:=a.kU;simp[Tryz.f248,n];refine fh a.l.length dq (λq c b=>gF 1 b/\b.get 0=some (dA 4 0 [a.t])/\dB c 1 (.ptr 0 0 0 0)/\(∃i,dB c 4 (dy i))/\(∃i,dB c 5 (dy i))/\dB c 6 (dy q)) ?_ ?_ dq ?_
 ·rintro u c b o s ⟨j,d,e,⟨k,f⟩,⟨m,g⟩,h⟩;have:=dN.uK (aF o);obtain⟨_,⟨v,x,rfl⟩,r⟩:=p.use a.l[u] ⟨dq,dq⟩;simp[d,e,f,g,h,o,r,s,nJ,j]
 ·rintro c b ⟨j,d,e,⟨k,f⟩,⟨m,g⟩,h⟩;simp[j.hp,d,e,f,g,h,nJ]
 ·simp
def Dw:m6 Tryz.prog cx 249 (λa:fx×Int×dN=>[a.1.t,dy a.2.1,a.2.2.t]) (λa=>Qw a.1/\a.2.2.w<=1099511627776) (λ_=>DJ):=by
 refine AL (λa=>a.2.2.w) λv u=> ?_;refine jd (tb:=⟨pt [(228,zd.jf),(249,u.jf)],ht []⟩) ew ej (iQ 8590200303 [] Tryz.func249) (λa=>a.2.2.w+5) (λa G c=>by simp at c;obtain⟨m,C,n⟩:=c;exact aP (fx.inj m) (aP C (dN.inj n))) dt (by simp[Tryz.f249]) ?_;rintro⟨i,j,b⟩ ⟨⟨h,F⟩,E⟩ d g;simp only at h F E;simp at g;have hl:=dN.ul (l:=b.l);have I:=b.kU;obtain⟨_,⟨K,rfl⟩,z⟩:=zd.use (i,j,b.name,8,1) h;obtain⟨_,⟨L,rfl⟩,A⟩:=zd.use (i,j,b.name,2,2) h;simp[Tryz.f249,g]
 repeat' (refine dW (λe=> ?_) (λe=> ?_)<;>simp[e,g,z,A])
 all_goals
  refine PP b.l.length (λv d c=>gF 2 c/\c.get 0=some (dA 2 0 [i.t])/\c.get 1=some (dA 4 0 [b.t])/\dB d 1 (dy j)/\dB d 3 (.ptr 0 0 0 0)/\dB d 5 (.ptr 1 0 0 0)/\(∃x,dB d 7 (dy x))/\dB d 8 (dy v)) ?_ dq (aw _) (by simp[g]);rintro s d c H ⟨r,y,k,m,n,o,⟨x,p⟩,q⟩;by_cases f:s<b.l.length
  ·have:=dN.uK (aF f);have D:=Jm f dq;obtain⟨_,⟨J,rfl⟩,B⟩:=u.use (i,j,b.l[s]) ⟨⟨h,dw⟩,dw⟩;simp[k,o,p,q,f]
   repeat' (refine dW (λe=> ?_) (λe=> ?_)<;>simp[e,r,r.hp,y,k,m,n,o,p,q,f,B,D])
  ·simp[r.hp,k,o,p,q,f]
def BF:m6 Tryz.prog cx 229 (λa:fx×Int×dN=>[a.1.t,dy a.2.1,a.2.2.t]) (λa=>Qw a.1/\a.2.2.w<=1099511627776) (λ_=>DJ):=by
 refine jd (tb:=⟨pt [(245,oa.jf),(248,JU.jf),(249,Dw.jf)],ht []⟩) ew ej (iQ 4196847 [] Tryz.func229) (λa=>5) (λa p e=>by simp at e;obtain⟨k,l,m⟩:=e;exact aP (fx.inj k) (aP l (dN.inj m))) dt (by simp[Tryz.f229]) ?_;rintro⟨n,o,c⟩ ⟨g,b⟩ v d;simp only at g b;simp at d;obtain⟨_,⟨q,rfl⟩,h⟩:=oa.use c b;obtain⟨_,⟨r,u,rfl⟩,i⟩:=JU.use c b;obtain⟨_,⟨s,rfl⟩,j⟩:=Dw.use (n,o,c) ⟨g,b⟩;simp[Tryz.f229,d,h]
 repeat' (refine dW (λf=> ?_) (λf=> ?_)<;>simp[f,d,i,j])
def JW:m6 Tryz.prog cx 144 (λl:List dJ=>[sl (l.map dJ.t)]) (λl=>dJ.ws l<=1099511627776) (λ_=>DJ):=by
 refine AL (λl=>dJ.ws l) λk h=> ?_;refine jd (tb:=⟨pt [(144,h.jf)],ht []⟩) ew ej (iQ 1053 [(5,[(6,10),(6,12)])] Tryz.func144) (λl=>l.length+1) (λq m b=>jw (λ_ _=>dJ.inj) (by simpa using b)) dt (by simp[Tryz.f144]) ?_;rintro l ⟨u,s⟩ a f;simp at f;have hl:=dJ.ul (l:=l);simp[Tryz.f144,f];refine fh l.length dq (λk a b=>b=hE/\dB a 0 (sl (l.map dJ.t))/\(∃i,dB a 3 (dy i))/\dB a 4 (dy k)) ?_ ?_ dq (by simp[f])
 ·rintro g a b j p ⟨rfl,c,⟨i,d⟩,e⟩;have:=dJ.uK (aF j);rw[l[g].kU]at this;obtain⟨_,⟨m,rfl⟩,n⟩:=h.use l[g].body ⟨dq,dq⟩;obtain⟨_,⟨r,rfl⟩,o⟩:=h.use l[g].LV ⟨dq,dq⟩;simp[c,d,e,j,n,o,p,nJ]
 ·rintro a b ⟨rfl,c,⟨i,d⟩,e⟩;simp[c,d,e]
def Af:m6 Tryz.prog cx 143 (λC:fx=>[C.t]) Qw (λ_=>GJ):=by
 refine jd (tb:=⟨pt [(110,AO),(191,mL),(192,kN)],ht []⟩) ew ej (iQ 1237940043933112819970491391 [] Tryz.func143) (λC=>1000005) (λI b a=>by simp at a;exact fx.inj a) dt (by simp[Tryz.f143]) ?_;rintro⟨q,g⟩ ⟨G,ht,B⟩ d z;simp at G ht B z;simp[Tryz.f143,z];have y:=λ{tb:fy} (a:tb.p 191=some mL) k=>A2 a q k dq;have eT:=λ{tb:fy} (a:tb.p 192=some kN) k=>wh a g k dq;refine fh g.length dq (λj d a=>gF 1 a/\a.get 0=some (dA 2 0 [fx.t ⟨q,g⟩])/\dB d 1 (.ptr 0 0 0 0)/\dB d 4 (dy j)) ?_ ?_ dq dt
 ·rintro n d a m x ⟨c,e,f,r⟩;have v:=c.ne (b:=0) dq;have E:=λ{tb:fy} (a:tb.p 192=some kN) k=>wh a (g.take n) k (by rw[List.length_take];omega);simp[e,f,r,m,v,c.low,y,E,bp m]
  repeat' (refine dW (λi=> ?_) (λi=> ?_)<;>simp[i,e,f,r,x,c.hp,c,v,gF.cons])
 rintro d a ⟨c,e,f,r⟩;simp[e,f,r];refine fh g.length dq (λj d a=>gF 1 a/\a.get 0=some (dA 2 0 [fx.t ⟨q,g⟩])/\dB d 1 (.ptr 0 0 0 0)/\dB d 6 (dy j)) ?_ ?_ dq (by simp[e,f,c])
 ·rintro n d a m x ⟨c,e,f,h⟩;have v:=c.ne (b:=0) dq;obtain⟨hl,J⟩:=B g[n] (aF m);simp[e,f,h,m,c.low];generalize g[n]=w at*
  have H:=(c.cons (dA 4 1 [w.t]));refine dW (λi=> ?_) (λi=> ?_)
  ·simp[c.hp]
  simp;refine fh w.locals.length dq (λj d l=>gF 1 l/\l.get 0=some (dA 2 0 [fx.t ⟨q,g⟩])/\l.get a.size=some (dA 4 1 [w.t])/\dB d 1 (.ptr 0 0 0 0)/\dB d 6 (dy n)/\dB d 7 (.ptr a.size 0 0 0)/\dB d 8 (dy j)) ?_ ?_ dq (by simp[e,f,h,v,H])
  ·rintro j d l A F ⟨c,e,o,f,h,s,u⟩;have D:=λ{tb:fy} (a:tb.p 110=some AO) k=>Mr a (w.locals.take j) k (by rw[List.length_take];omega);simp[e,o,f,s,u,A,y,eT,D,bp A]
   repeat' (refine dW (λi=> ?_) (λi=> ?_)<;>simp[i,e,o,f,h,s,u,F,c.hp,c])
  ·rintro d l ⟨c,e,o,f,h,s,u⟩;simp[e,o,f,h,s,u,x,c]
 ·rintro d a ⟨c,e,f,h⟩;simp[e,f,h,c.hp]
end
end Go.Proofs.YtmaeadedikngoaaGreatDoor
