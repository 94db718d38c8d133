/- Texts W02 to W04. -/
import Derived.Test.YtmaeadedikngoaaGreatDoorA15
set_option linter.all false
set_option maxRecDepth 100000
set_option maxHeartbeats 8000000
namespace Go.Proofs.YtmaeadedikngoaaGreatDoor
noncomputable section
open Go Go.TI
attribute [-simp] List.map_take List.map_drop List.map_append fH fh ej Bool.not_or Bool.not_and
attribute [simp] fG fj
def KV:nK Tryz.prog cx 246 (λa:dX=>[a.t]) (λ_=>True) (λ_=>EM):=by
 refine ju (tb:=⟨pt [],ht []⟩) fc fa (je 7 [] Tryz.func246) (λ_=>5) (λd e b=>by simp at b;exact dX.inj b) dC (by simp[Tryz.f246]) ?_;rintro a-f c;simp at c;simp[Tryz.f246,c]
def B9:nK Tryz.prog cx 264 (λc:Int=>[dG c]) (λ_=>True) (λ_=>EL):=by
 refine ju (tb:=⟨pt [],ht []⟩) fc fa (je 132109 [] Tryz.func264) (λ_=>5) (λe f d=>by simpa using d) dC (by simp[Tryz.f264]) ?_;rintro c-g a;simp at a;simp[Tryz.f264,a]
 repeat' (refine em (λb=> ?_) (λb=> ?_)<;>simp[b,a])
def oK:nK Tryz.prog cx 245 (λa:dX=>[a.t]) (λa=>a.w<=1099511627776) (λ_=>EM):=by
 refine Bc (λa=>a.w) λm k=> ?_;refine ju (tb:=⟨pt [(264,B9.jx),(109,w8),(245,k.jx)],ht []⟩) fc fa (je 18483898770635358239 [(2,[(2,4)])] Tryz.func245) (λa=>a.w+5) (λs n b=>by simp at b;exact dX.inj b) dC (by simp[Tryz.f245]) ?_;rintro a ⟨x,u⟩ c j;simp at j;obtain⟨_,⟨y,rfl⟩,o⟩:=B9.use a.op trivial;have hl:=dX.uN (l:=a.l);have v:=a.lr;simp[Tryz.f245,j,o,pM];refine em (λg=> ?_) (λg=> ?_)
 ·simp
 simp;refine fI a.l.length dB (λm c b=>ij 1 b/\b.get 0=some (dI 4 0 [a.t])/\dJ c 1 (.ptr 0 0 0 0)/\dJ c 4 (dG m)) ?_ ?_ dB ?_
 ·rintro r c b i q ⟨h,d,e,f⟩;obtain⟨_,⟨n,rfl⟩,p⟩:=k.use a.l[r] ⟨by have:=dX.vn (aC i);omega,by have:=dX.vn (aC i);omega⟩;simp[d,e,f,i,p]
  repeat' (refine em (λg=> ?_) (λg=> ?_)<;>simp[g,h.hp,d,e,f,h,q])
 ·rintro c b ⟨h,d,e,f⟩;simp[h.hp,d,e,f]
 ·simp
def yA:nK Tryz.prog cx 189 (λd:iw=>[d.t]) (λ_=>True) (λ_=>EM):=by
 refine ju (tb:=⟨pt [(109,w8)],ht []⟩) fc fa (je 1125902054326279 [] Tryz.func189) (λ_=>5) (λe f a=>by simp at a;exact iw.inj a) dC (by simp[Tryz.f189]) ?_;rintro g-h b;simp at b;simp[Tryz.f189,b,pM]
 repeat' (refine em (λc=> ?_) (λc=> ?_)<;>simp[c,pM])
def Do(n:Nat)(g:nK Tryz.prog cx 190 (λd:List dR=>[sl (d.map dR.t)]) (λd=>dR.ws d<=1099511627776/\dR.ws d<n) (λ_=>EM)):
 nK Tryz.prog cx 225 (λa:dR=>[a.t]) (λa=>a.w<=1099511627776/\a.w<n+1) (λ_=>EM):=by
 refine ju (tb:=⟨pt [(245,oK.jx),(109,w8),(190,g.jx),(246,KV.jx)],ht []⟩) fc fa (je 182687706027492332498828539273953093013162958911 [] Tryz.func225) (λ_=>5) (λq r l=>by simp at l;exact dR.inj l) dC (by simp[Tryz.f225]) ?_;rintro a ⟨m,p⟩ B f;simp at f;rw[a.lr]at m p;obtain⟨_,⟨s,rfl⟩,h⟩:=oK.use a.e dB;obtain⟨_,⟨u,rfl⟩,i⟩:=g.use a.body ⟨dB,dB⟩;obtain⟨_,⟨v,rfl⟩,j⟩:=g.use a.MW ⟨dB,dB⟩;obtain⟨_,⟨y,rfl⟩,k⟩:=KV.use a.e trivial
 match c:a.index with
 | []=>
  simp[Tryz.f225,f,c]
  repeat' (refine em (λb=> ?_) (λb=> ?_)<;>simp[b,pM,h,i,j,k,c])
 |x::A=>
  obtain⟨_,⟨z,rfl⟩,o⟩:=oK.use x (by rw[c,dX.j9]at m;omega);simp[Tryz.f225,f,c]
  repeat' (refine em (λb=> ?_) (λb=> ?_)<;>simp[b,pM,h,i,j,k,o,c])
def BP(e:Nat)(j:nK Tryz.prog cx 225 (λf:dR=>[f.t]) (λf=>f.w<=1099511627776/\f.w<e) (λ_=>EM)):
 nK Tryz.prog cx 190 (λl:List dR=>[sl (l.map dR.t)]) (λl=>dR.ws l<=1099511627776/\dR.ws l<e) (λ_=>EM):=by
 refine ju (tb:=⟨pt [(225,j.jx)],ht []⟩) fc fa (je 32909 [] Tryz.func190) (λl=>l.length+1) (λp k a=>jy (λ_ _=>dR.inj) (by simpa using a)) dC (by simp[Tryz.f190]) ?_;rintro l ⟨r,q⟩ b g;simp at g;have hl:=dR.uN (l:=l);simp[Tryz.f190];refine fI l.length dB (λe b a=>a=hE/\dJ b 0 (sl (l.map dR.t))/\dJ b 3 (dG e)) ?_ ?_ dB (by simp[g])
 ·rintro o b a i n ⟨rfl,c,d⟩;have:=dR.vn (aC i);obtain⟨_,⟨k,rfl⟩,m⟩:=j.use l[o] ⟨dB,dB⟩;simp[c,d,i,m]
  repeat' (refine em (λh=> ?_) (λh=> ?_)<;>simp[h,c,d,n])
 ·rintro b a ⟨rfl,c,d⟩;simp[c,d]
def xe:nK Tryz.prog cx 190 (λa:List dR=>[sl (a.map dR.t)]) (λa=>dR.ws a<=1099511627776) (λ_=>EM):=by
 have e:∀c,nK Tryz.prog cx 190 (λa:List dR=>[sl (a.map dR.t)]) (λa=>dR.ws a<=1099511627776/\dR.ws a<c) (λ_=>EM):=by
  intro c;induction c with
  |zero=>exact⟨λd b=>absurd b.2 (Nat.not_lt_zero _),λd b=>absurd b.2 (Nat.not_lt_zero _)⟩
  |succ c f=>exact BP (c+1) (Do c f)
 exact⟨λd b=>(e _).1 d ⟨b,dg _⟩,λd b=>(e _).2 d ⟨b,dg _⟩⟩
def Rz(a:fM):Prop:=a.jo.length<=1000000/\a.dM.length<=1000000/\∀b∈a.dM,b.locals.length<=1000000/\dR.ws b.body<=1000000
def Hj:nK Tryz.prog cx 141 (λy:fM=>[y.t]) Rz (λ_=>EM):=by
 refine ju (tb:=⟨pt [(189,yA.jx),(109,w8),(190,xe.jx)],ht []⟩) fc fa (je 72128100255664255 [] Tryz.func141) (λy=>1000005) (λE b e=>by simp at e;exact fM.inj e) dC (by simp[Tryz.f141]) ?_;rintro⟨l,i⟩ ⟨A,ht,x⟩ a w;simp at A ht x w;simp[Tryz.f141,w];refine fI l.length dB (λk a e=>ij 1 e/\e.get 0=some (dI 2 0 [fM.t ⟨l,i⟩])/\dJ a 1 (.ptr 0 0 0 0)/\dJ a 3 (dG k)) ?_ ?_ dB dC
 ·rintro j a e r u ⟨c,d,f,o⟩;obtain⟨_,⟨b,rfl⟩,s⟩:=yA.use l[j] trivial;simp[d,f,o,r,s]
  repeat' (refine em (λh=> ?_) (λh=> ?_)<;>simp[h,d,f,o,u,c.hp,c])
 rintro a e ⟨c,d,f,o⟩;simp[d,f,o];refine fI i.length dB (λk a e=>ij 1 e/\e.get 0=some (dI 2 0 [fM.t ⟨l,i⟩])/\dJ a 1 (.ptr 0 0 0 0)/\dJ a 4 (dG k)) ?_ ?_ dB (by simp[d,f,c])
 ·rintro j a e r u ⟨c,d,f,g⟩;have C:=c.ne (b:=0) dB;obtain⟨hl,F⟩:=x i[j] (aC r);obtain⟨_,⟨b,rfl⟩,s⟩:=xe.use i[j].body dB;simp[d,f,g,r,c.low];generalize i[j]=v at*
  have D:=(c.cons (dI 4 1 [v.t]));refine fI v.locals.length dB (λk a m=>ij 1 m/\m.get 0=some (dI 2 0 [fM.t ⟨l,i⟩])/\m.get e.size=some (dI 4 1 [v.t])/\dJ a 1 (.ptr 0 0 0 0)/\dJ a 4 (dG j)/\dJ a 5 (.ptr e.size 0 0 0)/\dJ a 6 (dG k)) ?_ ?_ dB (by simp[d,f,g,C,D])
  ·rintro k a m B z ⟨c,d,n,f,g,p,q⟩;simp[n,p,q,B,pM]
   repeat' (refine em (λh=> ?_) (λh=> ?_)<;>simp[h,d,n,f,g,p,q,z,c.hp,c])
  ·rintro a m ⟨c,d,n,f,g,p,q⟩;simp[n,p,q,pM,s]
   repeat' (refine em (λh=> ?_) (λh=> ?_)<;>simp[h,d,f,g,u,c.hp,c])
 ·rintro a e ⟨c,d,f,g⟩;simp[d,f,g,c.hp]
def Gv:∀(c:List (List Nat)) (b:List Nat) (a:Nat),sd c b a=-1\/∃d,d<c.length/\sd c b a=((a+d:Nat):Int)
 | [],b,a=> .inl rfl
 |x::c,b,a=>by
  rw[sd];by_cases f:x=b
  ·rw[aq f];exact .inr ⟨0,dC,dC⟩
  ·rw[ao f];rcases Gv c b (a+1)with e|⟨d,g,e⟩
   ·exact .inl e
   ·exact .inr ⟨d+1,by simpa using g,by rw[e];congr 1;omega⟩
def nd:iq:=⟨List iw×List Nat,λa=>[sl (a.1.map iw.t),.str a.2],λa=>a.1.length<=1099511627776,λa=> dG (sd (a.1.map iw.name) a.2 0),λa c b=>by
 simp at b;rw[jy (λ_ _=>iw.inj) b.1,b.2]⟩
def O8:nd.Ok Tryz.prog cx 191:=by
 refine iC (tb:=⟨pt [],ht []⟩) fc fa (je 262707 [] Tryz.func191) (λm=>m.1.length+1) (by simp[nd]) (by simp[nd,Tryz.f191]) ?_;rintro⟨h,j⟩ hl c k;simp[nd]at hl k|-;obtain⟨b,d⟩:=k;simp[Tryz.f191];refine fI h.length dB (λg c i=>i=hE/\dJ c 0 (sl (h.map iw.t))/\dJ c 1 (.str j)/\dJ c 5 (dG g)/\sd ((h.drop g).map iw.name) j g=sd (h.map iw.name) j 0) ?_ ?_ dB (by simp[b,d])
 ·rintro g c i l n ⟨rfl,b,d,e,a⟩;rw[aI l,aT,sd]at a;simp[b,d,e,l];refine em (λf=> ?_) (λf=> ?_)
  ·simp at f;rw[aq f]at a;simp[e,<-a]
  ·simp at f;rw[ao f]at a;simp[b,d,e,n,a]
 ·rintro c i ⟨rfl,b,d,e,a⟩;simp[sd]at a;simp[b,e,<-a]
def Bv{c:fN}(ht:c.p 191=some nd)(a:List iw)(b:List Nat)(hl:a.length<=1099511627776):rl Tryz.prog cx c 191 [sl (a.map iw.t),.str b]=some (dG (sd (a.map iw.name) b 0)):=iv ht O8 (a,b) hl
def lf:iq:=⟨List fT×List Nat,λa=>[sl (a.1.map fT.t),.str a.2],λa=>a.1.length<=1099511627776,λa=> dG (sd (a.1.map fT.name) a.2 0),λa c b=>by
 simp at b;rw[jy (λ_ _=>fT.inj) b.1,b.2]⟩
def Jm:lf.Ok Tryz.prog cx 192:=by
 refine iC (tb:=⟨pt [],ht []⟩) fc fa (je 262707 [] Tryz.func192) (λm=>m.1.length+1) (by simp[lf]) (by simp[lf,Tryz.f192]) ?_;rintro⟨h,j⟩ hl c k;simp[lf]at hl k|-;obtain⟨b,d⟩:=k;simp[Tryz.f192];refine fI h.length dB (λg c i=>i=hE/\dJ c 0 (sl (h.map fT.t))/\dJ c 1 (.str j)/\dJ c 5 (dG g)/\sd ((h.drop g).map fT.name) j g=sd (h.map fT.name) j 0) ?_ ?_ dB (by simp[b,d])
 ·rintro g c i l n ⟨rfl,b,d,e,a⟩;rw[aI l,aT,sd]at a;simp[b,d,e,l];refine em (λf=> ?_) (λf=> ?_)
  ·simp at f;rw[aq f]at a;simp[e,<-a]
  ·simp at f;rw[ao f]at a;simp[b,d,e,n,a]
 ·rintro c i ⟨rfl,b,d,e,a⟩;simp[sd]at a;simp[b,e,<-a]
def wL{c:fN}(ht:c.p 192=some lf)(a:List fT)(b:List Nat)(hl:a.length<=1099511627776):rl Tryz.prog cx c 192 [sl (a.map fT.t),.str b]=some (dG (sd (a.map fT.name) b 0)):=iv ht Jm (a,b) hl
def Hl:nK Tryz.prog cx 247 (λh:fM×Int×List Nat=>[h.1.t,dG h.2.1,.str h.2.2]) (λh=>Rz h.1) (λ_=>EL):=by
 refine ju (tb:=⟨pt [(110,Bf),(191,nd),(192,lf)],ht []⟩) fc fa (je 99132251962343631 [] Tryz.func247) (λ_=>5) (λh B c=>by simp at c;obtain⟨g,b,y⟩:=c;exact aP (fM.inj g) (aP b y)) dC (by simp[Tryz.f247]) ?_;rintro⟨⟨v,e⟩,d,m⟩ ⟨z,ht,s⟩ C x;simp at z ht s x;obtain⟨j,g,b⟩:=x;have f:=λ{tb:fN} (c:tb.p 191=some nd)=>Bv c v m dB;have i:=λ{tb:fN} (c:tb.p 192=some lf)=>wL c e m dB;have w:d<0\/(e.length:Int)<=d\/∃u:Nat,u<e.length/\d=u:=by
  by_cases q:d<0
  ·exact .inl q
  by_cases A:(e.length:Int)<=d
  ·exact .inr (.inl A)
  ·exact .inr (.inr ⟨d.toNat,dB,dB⟩)
 rcases Gv (v.map iw.name) m 0 with o|⟨u,n,o⟩
 ·simp only[o]at f;rcases w with q|q|⟨l,k,rfl⟩
  ·simp[Tryz.f247,j,g,b,f,i,show¬0<=d by omega]
   repeat' (refine em (λa=> ?_) (λa=> ?_)<;>simp[a])
  ·simp[Tryz.f247,j,g,b,f,i,show¬d<e.length by omega]
   repeat' (refine em (λa=> ?_) (λa=> ?_)<;>simp[a])
  ·have r:=λ{tb:fN} (c:tb.p 110=some Bf)=>Nr c e[l].locals m (by have:=(s e[l] (aC k)).1;omega);simp[Tryz.f247,j,g,b,k,r]
   repeat' (refine em (λa=> ?_) (λa=> ?_)<;>simp[a,b,f,i])
 ·simp at n o;simp only[o]at f;rcases w with q|q|⟨l,k,rfl⟩
  ·simp[Tryz.f247,j,g,b,f,show¬0<=d by omega]
   repeat' (refine em (λa=> ?_) (λa=> ?_)<;>simp[a,b,i,n])
  ·simp[Tryz.f247,j,g,b,f,show¬d<e.length by omega]
   repeat' (refine em (λa=> ?_) (λa=> ?_)<;>simp[a,b,i,n])
  ·have r:=λ{tb:fN} (c:tb.p 110=some Bf)=>Nr c e[l].locals m (by have:=(s e[l] (aC k)).1;omega);simp[Tryz.f247,j,g,b,k,r]
   repeat' (refine em (λa=> ?_) (λa=> ?_)<;>simp[a,b,f,i,n])
def zO:nK Tryz.prog cx 228 (λa:fM×Int×List Nat×Int×Int=>[a.1.t,dG a.2.1,.str a.2.2.1,dG a.2.2.2.1,dG a.2.2.2.2]) (λa=>Rz a.1) (λ_=>EL):=by
 refine ju (tb:=⟨pt [(247,Hl.jx)],ht []⟩) fc fa (je 33688639 [] Tryz.func228) (λ_=>5) (λa f c=>by simp at c;obtain⟨h,i,j,k,l⟩:=c;exact aP (fM.inj h) (aP i (aP j (aP k l)))) dC (by simp[Tryz.f228]) ?_;rintro⟨m,o,n,a,f⟩ e q b;simp at e b;obtain⟨_,⟨p,rfl⟩,g⟩:=Hl.use (m,o,n) e;simp[Tryz.f228,b,g]
 repeat' (refine em (λd=> ?_) (λd=> ?_)<;>simp[d,b])
def Et:nK Tryz.prog cx 230 (λa:Bool=>[.bool a]) (λ_=>True) (λ_=>EL):=by
 refine ju (tb:=⟨pt [],ht []⟩) fc fa (je 13 [] Tryz.func230) (λ_=>5) (λe a d=>by simpa using d) dC (by simp[Tryz.f230]) ?_;rintro a-f b;simp at b;simp[Tryz.f230,b]
 repeat' (refine em (λc=> ?_) (λc=> ?_)<;>simp[c])
def VC:nK Tryz.prog cx 227 (λa:Int×Int=>[dG a.1,dG a.2]) (λ_=>True) (λa f=>f= dG (if a.1=0 then a.2 else a.1)):=by
 refine ju (tb:=⟨pt [],ht []⟩) fc fa (je 83 [] Tryz.func227) (λ_=>5) (λa e b=>by simp at b;exact aP b.1 b.2) dC (by simp[Tryz.f227]) ?_;rintro⟨a,e⟩-g c;simp at c;simp[Tryz.f227,c];refine em (λd=> ?_) (λd=> ?_)<;>simp at d<;>simp[c,d]
def KS:nK Tryz.prog cx 248 (λa:dX=>[a.t]) (λa=>a.w<=1099511627776) (λ_=>HP):=by
 refine Bc (λa=>a.w) λq p=> ?_;refine ju (tb:=⟨pt [(248,p.jx)],ht []⟩) fc fa (je 8703 [] Tryz.func248) (λa=>a.w+5) (λk m b=>by simp at b;exact dX.inj b) dC (by simp[Tryz.f248]) ?_;rintro a ⟨A,y⟩ c n;simp at n;have hl:=dX.uN (l:=a.l);have z:=a.lr;simp[Tryz.f248,n];refine fI a.l.length dB (λq c b=>ij 1 b/\b.get 0=some (dI 4 0 [a.t])/\dJ c 1 (.ptr 0 0 0 0)/\(∃i,dJ c 4 (dG i))/\(∃i,dJ c 5 (dG i))/\dJ c 6 (dG q)) ?_ ?_ dB ?_
 ·rintro u c b o s ⟨j,d,e,⟨k,f⟩,⟨m,g⟩,h⟩;have:=dX.vn (aC o);obtain⟨_,⟨v,x,rfl⟩,r⟩:=p.use a.l[u] ⟨dB,dB⟩;simp[d,e,f,g,h,o,r,s,oh,j]
 ·rintro c b ⟨j,d,e,⟨k,f⟩,⟨m,g⟩,h⟩;simp[j.hp,d,e,f,g,h,oh]
 ·simp
def Eu:nK Tryz.prog cx 249 (λa:fM×Int×dX=>[a.1.t,dG a.2.1,a.2.2.t]) (λa=>Rz a.1/\a.2.2.w<=1099511627776) (λ_=>EL):=by
 refine Bc (λa=>a.2.2.w) λv u=> ?_;refine ju (tb:=⟨pt [(228,zO.jx),(249,u.jx)],ht []⟩) fc fa (je 8590200303 [] Tryz.func249) (λa=>a.2.2.w+5) (λa G c=>by simp at c;obtain⟨m,C,n⟩:=c;exact aP (fM.inj m) (aP C (dX.inj n))) dC (by simp[Tryz.f249]) ?_;rintro⟨i,j,b⟩ ⟨⟨h,F⟩,E⟩ d g;simp only at h F E;simp at g;have hl:=dX.uN (l:=b.l);have I:=b.lr;obtain⟨_,⟨K,rfl⟩,z⟩:=zO.use (i,j,b.name,8,1) h;obtain⟨_,⟨L,rfl⟩,A⟩:=zO.use (i,j,b.name,2,2) h;simp[Tryz.f249,g]
 repeat' (refine em (λe=> ?_) (λe=> ?_)<;>simp[e,g,z,A])
 all_goals
  refine QY b.l.length (λv d c=>ij 2 c/\c.get 0=some (dI 2 0 [i.t])/\c.get 1=some (dI 4 0 [b.t])/\dJ d 1 (dG j)/\dJ d 3 (.ptr 0 0 0 0)/\dJ d 5 (.ptr 1 0 0 0)/\(∃x,dJ d 7 (dG x))/\dJ d 8 (dG v)) ?_ dB (aw _) (by simp[g]);rintro s d c H ⟨r,y,k,m,n,o,⟨x,p⟩,q⟩;by_cases f:s<b.l.length
  ·have:=dX.vn (aC f);have D:=Ki f dB;obtain⟨_,⟨J,rfl⟩,B⟩:=u.use (i,j,b.l[s]) ⟨⟨h,dE⟩,dE⟩;simp[k,o,p,q,f]
   repeat' (refine em (λe=> ?_) (λe=> ?_)<;>simp[e,r,r.hp,y,k,m,n,o,p,q,f,B,D])
  ·simp[r.hp,k,o,p,q,f]
def Cb:nK Tryz.prog cx 229 (λa:fM×Int×dX=>[a.1.t,dG a.2.1,a.2.2.t]) (λa=>Rz a.1/\a.2.2.w<=1099511627776) (λ_=>EL):=by
 refine ju (tb:=⟨pt [(245,oK.jx),(248,KS.jx),(249,Eu.jx)],ht []⟩) fc fa (je 4196847 [] Tryz.func229) (λa=>5) (λa p e=>by simp at e;obtain⟨k,l,m⟩:=e;exact aP (fM.inj k) (aP l (dX.inj m))) dC (by simp[Tryz.f229]) ?_;rintro⟨n,o,c⟩ ⟨g,b⟩ v d;simp only at g b;simp at d;obtain⟨_,⟨q,rfl⟩,h⟩:=oK.use c b;obtain⟨_,⟨r,u,rfl⟩,i⟩:=KS.use c b;obtain⟨_,⟨s,rfl⟩,j⟩:=Eu.use (n,o,c) ⟨g,b⟩;simp[Tryz.f229,d,h]
 repeat' (refine em (λf=> ?_) (λf=> ?_)<;>simp[f,d,i,j])
def KU:nK Tryz.prog cx 144 (λl:List dR=>[sl (l.map dR.t)]) (λl=>dR.ws l<=1099511627776) (λ_=>EL):=by
 refine Bc (λl=>dR.ws l) λk h=> ?_;refine ju (tb:=⟨pt [(144,h.jx)],ht []⟩) fc fa (je 1053 [(5,[(6,10),(6,12)])] Tryz.func144) (λl=>l.length+1) (λq m b=>jy (λ_ _=>dR.inj) (by simpa using b)) dC (by simp[Tryz.f144]) ?_;rintro l ⟨u,s⟩ a f;simp at f;have hl:=dR.uN (l:=l);simp[Tryz.f144,f];refine fI l.length dB (λk a b=>b=hE/\dJ a 0 (sl (l.map dR.t))/\(∃i,dJ a 3 (dG i))/\dJ a 4 (dG k)) ?_ ?_ dB (by simp[f])
 ·rintro g a b j p ⟨rfl,c,⟨i,d⟩,e⟩;have:=dR.vn (aC j);rw[l[g].lr]at this;obtain⟨_,⟨m,rfl⟩,n⟩:=h.use l[g].body ⟨dB,dB⟩;obtain⟨_,⟨r,rfl⟩,o⟩:=h.use l[g].MW ⟨dB,dB⟩;simp[c,d,e,j,n,o,p,oh]
 ·rintro a b ⟨rfl,c,⟨i,d⟩,e⟩;simp[c,d,e]
def AG:nK Tryz.prog cx 143 (λC:fM=>[C.t]) Rz (λ_=>HP):=by
 refine ju (tb:=⟨pt [(110,Bf),(191,nd),(192,lf)],ht []⟩) fc fa (je 1237940043933112819970491391 [] Tryz.func143) (λC=>1000005) (λI b a=>by simp at a;exact fM.inj a) dC (by simp[Tryz.f143]) ?_;rintro⟨q,g⟩ ⟨G,ht,B⟩ d z;simp at G ht B z;simp[Tryz.f143,z];have y:=λ{tb:fN} (a:tb.p 191=some nd) k=>Bv a q k dB;have eT:=λ{tb:fN} (a:tb.p 192=some lf) k=>wL a g k dB;refine fI g.length dB (λj d a=>ij 1 a/\a.get 0=some (dI 2 0 [fM.t ⟨q,g⟩])/\dJ d 1 (.ptr 0 0 0 0)/\dJ d 4 (dG j)) ?_ ?_ dB dC
 ·rintro n d a m x ⟨c,e,f,r⟩;have v:=c.ne (b:=0) dB;have E:=λ{tb:fN} (a:tb.p 192=some lf) k=>wL a (g.take n) k (by rw[List.length_take];omega);simp[e,f,r,m,v,c.low,y,E,bD m]
  repeat' (refine em (λi=> ?_) (λi=> ?_)<;>simp[i,e,f,r,x,c.hp,c,v,ij.cons])
 rintro d a ⟨c,e,f,r⟩;simp[e,f,r];refine fI g.length dB (λj d a=>ij 1 a/\a.get 0=some (dI 2 0 [fM.t ⟨q,g⟩])/\dJ d 1 (.ptr 0 0 0 0)/\dJ d 6 (dG j)) ?_ ?_ dB (by simp[e,f,c])
 ·rintro n d a m x ⟨c,e,f,h⟩;have v:=c.ne (b:=0) dB;obtain⟨hl,J⟩:=B g[n] (aC m);simp[e,f,h,m,c.low];generalize g[n]=w at*
  have H:=(c.cons (dI 4 1 [w.t]));refine em (λi=> ?_) (λi=> ?_)
  ·simp[c.hp]
  simp;refine fI w.locals.length dB (λj d l=>ij 1 l/\l.get 0=some (dI 2 0 [fM.t ⟨q,g⟩])/\l.get a.size=some (dI 4 1 [w.t])/\dJ d 1 (.ptr 0 0 0 0)/\dJ d 6 (dG n)/\dJ d 7 (.ptr a.size 0 0 0)/\dJ d 8 (dG j)) ?_ ?_ dB (by simp[e,f,h,v,H])
  ·rintro j d l A F ⟨c,e,o,f,h,s,u⟩;have D:=λ{tb:fN} (a:tb.p 110=some Bf) k=>Nr a (w.locals.take j) k (by rw[List.length_take];omega);simp[e,o,f,s,u,A,y,eT,D,bD A]
   repeat' (refine em (λi=> ?_) (λi=> ?_)<;>simp[i,e,o,f,h,s,u,F,c.hp,c])
  ·rintro d l ⟨c,e,o,f,h,s,u⟩;simp[e,o,f,h,s,u,x,c]
 ·rintro d a ⟨c,e,f,h⟩;simp[e,f,h,c.hp]
end
end Go.Proofs.YtmaeadedikngoaaGreatDoor
