/- Texts W02 to W04. -/
import Derived.Test.YtmaeadedikngoaaGreatDoorA16
set_option linter.unusedVariables false
set_option linter.unusedSimpArgs false
set_option linter.defProp false
set_option maxRecDepth 100000
set_option maxHeartbeats 8000000
namespace Go.Proofs.YtmaeadedikngoaaGreatDoor
noncomputable section
open Go Go.TI
attribute [-simp] List.map_take List.map_drop List.map_append fj eG dY Bool.not_or Bool.not_and
attribute [simp] fh eJ
def JP:mU Tryz.prog cx 246 (λa:dK=>[a.t]) (λ_=>True) (λ_=>D1):=by
 refine iZ (tb:=⟨pt [],ht []⟩) ei eg (iL 7 [] Tryz.func246) (λ_=>5) (λd e b=>by simp at b;exact dK.inj b) dp (by simp[Tryz.f246]) ?_;rintro a-f c;simp at c;simp[Tryz.f246,c]
def Bv:mU Tryz.prog cx 264 (λc:Int=>[dw c]) (λ_=>True) (λ_=>D0):=by
 refine iZ (tb:=⟨pt [],ht []⟩) ei eg (iL 132109 [] Tryz.func264) (λ_=>5) (λe f d=>by simpa using d) dp (by simp[Tryz.f264]) ?_;rintro c-g a;simp at a;simp[Tryz.f264,a]
 repeat' (refine dU (λb=> ?_) (λb=> ?_)<;>simp[b,a])
def nW:mU Tryz.prog cx 245 (λa:dK=>[a.t]) (λa=>a.w<=1099511627776) (λ_=>D1):=by
 refine AD (λa=>a.w) λm k=> ?_;refine iZ (tb:=⟨pt [(264,Bv.jb),(109,wm),(245,k.jb)],ht []⟩) ei eg (iL 18483898770635358239 [(2,[(2,4)])] Tryz.func245) (λa=>a.w+5) (λs n b=>by simp at b;exact dK.inj b) dp (by simp[Tryz.f245]) ?_;rintro a ⟨x,u⟩ c j;simp at j;obtain⟨_,⟨y,rfl⟩,o⟩:=Bv.use a.op trivial;have hl:=dK.ue (l:=a.l);have v:=a.kP;simp[Tryz.f245,j,o,oU];refine dU (λg=> ?_) (λg=> ?_)
 ·simp
 simp;refine fc a.l.length dj (λm c b=>gu 1 b/\b.get 0=some (dy 4 0 [a.t])/\dz c 1 (.ptr 0 0 0 0)/\dz c 4 (dw m)) ?_ ?_ dj ?_
 ·rintro r c b i q ⟨h,d,e,f⟩;obtain⟨_,⟨n,rfl⟩,p⟩:=k.use a.l[r] ⟨by have:=dK.uE (aF i);omega,by have:=dK.uE (aF i);omega⟩;simp[d,e,f,i,p]
  repeat' (refine dU (λg=> ?_) (λg=> ?_)<;>simp[g,h.hp,d,e,f,h,q])
 ·rintro c b ⟨h,d,e,f⟩;simp[h.hp,d,e,f]
 ·simp
def xQ:mU Tryz.prog cx 189 (λd:gG=>[d.t]) (λ_=>True) (λ_=>D1):=by
 refine iZ (tb:=⟨pt [(109,wm)],ht []⟩) ei eg (iL 1125902054326279 [] Tryz.func189) (λ_=>5) (λe f a=>by simp at a;exact gG.inj a) dp (by simp[Tryz.f189]) ?_;rintro g-h b;simp at b;simp[Tryz.f189,b,oU]
 repeat' (refine dU (λc=> ?_) (λc=> ?_)<;>simp[c,oU])
def CG(n:Nat)(g:mU Tryz.prog cx 190 (λd:List dG=>[sl (d.map dG.t)]) (λd=>dG.ws d<=1099511627776/\dG.ws d<n) (λ_=>D1)):
 mU Tryz.prog cx 225 (λa:dG=>[a.t]) (λa=>a.w<=1099511627776/\a.w<n+1) (λ_=>D1):=by
 refine iZ (tb:=⟨pt [(245,nW.jb),(109,wm),(190,g.jb),(246,JP.jb)],ht []⟩) ei eg (iL 182687706027492332498828539273953093013162958911 [] Tryz.func225) (λ_=>5) (λq r l=>by simp at l;exact dG.inj l) dp (by simp[Tryz.f225]) ?_;rintro a ⟨m,p⟩ B f;simp at f;rw[a.kP]at m p;obtain⟨_,⟨s,rfl⟩,h⟩:=nW.use a.e dj;obtain⟨_,⟨u,rfl⟩,i⟩:=g.use a.body ⟨dj,dj⟩;obtain⟨_,⟨v,rfl⟩,j⟩:=g.use a.LJ ⟨dj,dj⟩;obtain⟨_,⟨y,rfl⟩,k⟩:=JP.use a.e trivial
 match c:a.index with
 | []=>
  simp[Tryz.f225,f,c]
  repeat' (refine dU (λb=> ?_) (λb=> ?_)<;>simp[b,oU,h,i,j,k,c])
 |x::A=>
  obtain⟨_,⟨z,rfl⟩,o⟩:=nW.use x (by rw[c,dK.jM]at m;omega);simp[Tryz.f225,f,c]
  repeat' (refine dU (λb=> ?_) (λb=> ?_)<;>simp[b,oU,h,i,j,k,o,c])
def Ba(e:Nat)(j:mU Tryz.prog cx 225 (λf:dG=>[f.t]) (λf=>f.w<=1099511627776/\f.w<e) (λ_=>D1)):
 mU Tryz.prog cx 190 (λl:List dG=>[sl (l.map dG.t)]) (λl=>dG.ws l<=1099511627776/\dG.ws l<e) (λ_=>D1):=by
 refine iZ (tb:=⟨pt [(225,j.jb)],ht []⟩) ei eg (iL 32909 [] Tryz.func190) (λl=>l.length+1) (λp k a=>jt (λ_ _=>dG.inj) (by simpa using a)) dp (by simp[Tryz.f190]) ?_;rintro l ⟨r,q⟩ b g;simp at g;have hl:=dG.ue (l:=l);simp[Tryz.f190];refine fc l.length dj (λe b a=>a=hE/\dz b 0 (sl (l.map dG.t))/\dz b 3 (dw e)) ?_ ?_ dj (by simp[g])
 ·rintro o b a i n ⟨rfl,c,d⟩;have:=dG.uE (aF i);obtain⟨_,⟨k,rfl⟩,m⟩:=j.use l[o] ⟨dj,dj⟩;simp[c,d,i,m]
  repeat' (refine dU (λh=> ?_) (λh=> ?_)<;>simp[h,c,d,n])
 ·rintro b a ⟨rfl,c,d⟩;simp[c,d]
def wv:mU Tryz.prog cx 190 (λa:List dG=>[sl (a.map dG.t)]) (λa=>dG.ws a<=1099511627776) (λ_=>D1):=by
 have e:∀c,mU Tryz.prog cx 190 (λa:List dG=>[sl (a.map dG.t)]) (λa=>dG.ws a<=1099511627776/\dG.ws a<c) (λ_=>D1):=by
  intro c;induction c with
  |zero=>exact⟨λd b=>absurd b.2 (Nat.not_lt_zero _),λd b=>absurd b.2 (Nat.not_lt_zero _)⟩
  |succ c f=>exact Ba (c+1) (CG c f)
 exact⟨λd b=>(e _).1 d ⟨b,cW _⟩,λd b=>(e _).2 d ⟨b,cW _⟩⟩
def Ql(a:fk):Prop:=a.iX.length<=1000000/\a.dB.length<=1000000/\∀b∈a.dB,b.locals.length<=1000000/\dG.ws b.body<=1000000
def Gh:mU Tryz.prog cx 141 (λy:fk=>[y.t]) Ql (λ_=>D1):=by
 refine iZ (tb:=⟨pt [(189,xQ.jb),(109,wm),(190,wv.jb)],ht []⟩) ei eg (iL 72128100255664255 [] Tryz.func141) (λy=>1000005) (λE b e=>by simp at e;exact fk.inj e) dp (by simp[Tryz.f141]) ?_;rintro⟨l,i⟩ ⟨A,ht,x⟩ a w;simp at A ht x w;simp[Tryz.f141,w];refine fc l.length dj (λk a e=>gu 1 e/\e.get 0=some (dy 2 0 [fk.t ⟨l,i⟩])/\dz a 1 (.ptr 0 0 0 0)/\dz a 3 (dw k)) ?_ ?_ dj dp
 ·rintro j a e r u ⟨c,d,f,o⟩;obtain⟨_,⟨b,rfl⟩,s⟩:=xQ.use l[j] trivial;simp[d,f,o,r,s]
  repeat' (refine dU (λh=> ?_) (λh=> ?_)<;>simp[h,d,f,o,u,c.hp,c])
 rintro a e ⟨c,d,f,o⟩;simp[d,f,o];refine fc i.length dj (λk a e=>gu 1 e/\e.get 0=some (dy 2 0 [fk.t ⟨l,i⟩])/\dz a 1 (.ptr 0 0 0 0)/\dz a 4 (dw k)) ?_ ?_ dj (by simp[d,f,c])
 ·rintro j a e r u ⟨c,d,f,g⟩;have C:=c.ne (b:=0) dj;obtain⟨hl,F⟩:=x i[j] (aF r);obtain⟨_,⟨b,rfl⟩,s⟩:=wv.use i[j].body dj;simp[d,f,g,r,c.low];generalize i[j]=v at*
  have D:=(c.cons (dy 4 1 [v.t]));refine fc v.locals.length dj (λk a m=>gu 1 m/\m.get 0=some (dy 2 0 [fk.t ⟨l,i⟩])/\m.get e.size=some (dy 4 1 [v.t])/\dz a 1 (.ptr 0 0 0 0)/\dz a 4 (dw j)/\dz a 5 (.ptr e.size 0 0 0)/\dz a 6 (dw k)) ?_ ?_ dj (by simp[d,f,g,C,D])
  ·rintro k a m B z ⟨c,d,n,f,g,p,q⟩;simp[n,p,q,B,oU]
   repeat' (refine dU (λh=> ?_) (λh=> ?_)<;>simp[h,d,n,f,g,p,q,z,c.hp,c])
  ·rintro a m ⟨c,d,n,f,g,p,q⟩;simp[n,p,q,oU,s]
   repeat' (refine dU (λh=> ?_) (λh=> ?_)<;>simp[h,d,f,g,u,c.hp,c])
 ·rintro a e ⟨c,d,f,g⟩;simp[d,f,g,c.hp]
def Fx:∀(c:List (List Nat)) (b:List Nat) (a:Nat),rj c b a=-1\/∃d,d<c.length/\rj c b a=((a+d:Nat):Int)
 | [],b,a=> .inl rfl
 |x::c,b,a=>by
  rw[rj];by_cases f:x=b
  ·rw[aq f];exact .inr ⟨0,dp,dp⟩
  ·rw[ao f];rcases Fx c b (a+1)with e|⟨d,g,e⟩
   ·exact .inl e
   ·exact .inr ⟨d+1,by simpa using g,by rw[e];congr 1;omega⟩
def mG:f7:=⟨List gG×List Nat,λa=>[sl (a.1.map gG.t),.str a.2],λa=>a.1.length<=1099511627776,λa=> dw (rj (a.1.map gG.name) a.2 0),λa c b=>by
 simp at b;rw[jt (λ_ _=>gG.inj) b.1,b.2]⟩
def NO:mG.Ok Tryz.prog cx 191:=by
 refine gH (tb:=⟨pt [],ht []⟩) ei eg (iL 262707 [] Tryz.func191) (λm=>m.1.length+1) (by simp[mG]) (by simp[mG,Tryz.f191]) ?_;rintro⟨h,j⟩ hl c k;simp[mG]at hl k|-;obtain⟨b,d⟩:=k;simp[Tryz.f191];refine fc h.length dj (λg c i=>i=hE/\dz c 0 (sl (h.map gG.t))/\dz c 1 (.str j)/\dz c 5 (dw g)/\rj ((h.drop g).map gG.name) j g=rj (h.map gG.name) j 0) ?_ ?_ dj (by simp[b,d])
 ·rintro g c i l n ⟨rfl,b,d,e,a⟩;rw[aI l,aR,rj]at a;simp[b,d,e,l];refine dU (λf=> ?_) (λf=> ?_)
  ·simp at f;rw[aq f]at a;simp[e,<-a]
  ·simp at f;rw[ao f]at a;simp[b,d,e,n,a]
 ·rintro c i ⟨rfl,b,d,e,a⟩;simp[rj]at a;simp[b,e,<-a]
def AU{c:fq}(ht:c.p 191=some mG)(a:List gG)(b:List Nat)(hl:a.length<=1099511627776):rl Tryz.prog cx c 191 [sl (a.map gG.t),.str b]=some (dw (rj (a.map gG.name) b 0)):=gF ht NO (a,b) hl
def kJ:f7:=⟨List fD×List Nat,λa=>[sl (a.1.map fD.t),.str a.2],λa=>a.1.length<=1099511627776,λa=> dw (rj (a.1.map fD.name) a.2 0),λa c b=>by
 simp at b;rw[jt (λ_ _=>fD.inj) b.1,b.2]⟩
def Il:kJ.Ok Tryz.prog cx 192:=by
 refine gH (tb:=⟨pt [],ht []⟩) ei eg (iL 262707 [] Tryz.func192) (λm=>m.1.length+1) (by simp[kJ]) (by simp[kJ,Tryz.f192]) ?_;rintro⟨h,j⟩ hl c k;simp[kJ]at hl k|-;obtain⟨b,d⟩:=k;simp[Tryz.f192];refine fc h.length dj (λg c i=>i=hE/\dz c 0 (sl (h.map fD.t))/\dz c 1 (.str j)/\dz c 5 (dw g)/\rj ((h.drop g).map fD.name) j g=rj (h.map fD.name) j 0) ?_ ?_ dj (by simp[b,d])
 ·rintro g c i l n ⟨rfl,b,d,e,a⟩;rw[aI l,aR,rj]at a;simp[b,d,e,l];refine dU (λf=> ?_) (λf=> ?_)
  ·simp at f;rw[aq f]at a;simp[e,<-a]
  ·simp at f;rw[ao f]at a;simp[b,d,e,n,a]
 ·rintro c i ⟨rfl,b,d,e,a⟩;simp[rj]at a;simp[b,e,<-a]
def vY{c:fq}(ht:c.p 192=some kJ)(a:List fD)(b:List Nat)(hl:a.length<=1099511627776):rl Tryz.prog cx c 192 [sl (a.map fD.t),.str b]=some (dw (rj (a.map fD.name) b 0)):=gF ht Il (a,b) hl
def Gj:mU Tryz.prog cx 247 (λh:fk×Int×List Nat=>[h.1.t,dw h.2.1,.str h.2.2]) (λh=>Ql h.1) (λ_=>D0):=by
 refine iZ (tb:=⟨pt [(110,AG),(191,mG),(192,kJ)],ht []⟩) ei eg (iL 99132251962343631 [] Tryz.func247) (λ_=>5) (λh B c=>by simp at c;obtain⟨g,b,y⟩:=c;exact aP (fk.inj g) (aP b y)) dp (by simp[Tryz.f247]) ?_;rintro⟨⟨v,e⟩,d,m⟩ ⟨z,ht,s⟩ C x;simp at z ht s x;obtain⟨j,g,b⟩:=x;have f:=λ{tb:fq} (c:tb.p 191=some mG)=>AU c v m dj;have i:=λ{tb:fq} (c:tb.p 192=some kJ)=>vY c e m dj;have w:d<0\/(e.length:Int)<=d\/∃u:Nat,u<e.length/\d=u:=by
  by_cases q:d<0
  ·exact .inl q
  by_cases A:(e.length:Int)<=d
  ·exact .inr (.inl A)
  ·exact .inr (.inr ⟨d.toNat,dj,dj⟩)
 rcases Fx (v.map gG.name) m 0 with o|⟨u,n,o⟩
 ·simp only[o]at f;rcases w with q|q|⟨l,k,rfl⟩
  ·simp[Tryz.f247,j,g,b,f,i,show¬0<=d by omega]
   repeat' (refine dU (λa=> ?_) (λa=> ?_)<;>simp[a])
  ·simp[Tryz.f247,j,g,b,f,i,show¬d<e.length by omega]
   repeat' (refine dU (λa=> ?_) (λa=> ?_)<;>simp[a])
  ·have r:=λ{tb:fq} (c:tb.p 110=some AG)=>Mg c e[l].locals m (by have:=(s e[l] (aF k)).1;omega);simp[Tryz.f247,j,g,b,k,r]
   repeat' (refine dU (λa=> ?_) (λa=> ?_)<;>simp[a,b,f,i])
 ·simp at n o;simp only[o]at f;rcases w with q|q|⟨l,k,rfl⟩
  ·simp[Tryz.f247,j,g,b,f,show¬0<=d by omega]
   repeat' (refine dU (λa=> ?_) (λa=> ?_)<;>simp[a,b,i,n])
  ·simp[Tryz.f247,j,g,b,f,show¬d<e.length by omega]
   repeat' (refine dU (λa=> ?_) (λa=> ?_)<;>simp[a,b,i,n])
  ·have r:=λ{tb:fq} (c:tb.p 110=some AG)=>Mg c e[l].locals m (by have:=(s e[l] (aF k)).1;omega);simp[Tryz.f247,j,g,b,k,r]
   repeat' (refine dU (λa=> ?_) (λa=> ?_)<;>simp[a,b,f,i,n])
def yT:mU Tryz.prog cx 228 (λa:fk×Int×List Nat×Int×Int=>[a.1.t,dw a.2.1,.str a.2.2.1,dw a.2.2.2.1,dw a.2.2.2.2]) (λa=>Ql a.1) (λ_=>D0):=by
 refine iZ (tb:=⟨pt [(247,Gj.jb)],ht []⟩) ei eg (iL 33688639 [] Tryz.func228) (λ_=>5) (λa f c=>by simp at c;obtain⟨h,i,j,k,l⟩:=c;exact aP (fk.inj h) (aP i (aP j (aP k l)))) dp (by simp[Tryz.f228]) ?_;rintro⟨m,o,n,a,f⟩ e q b;simp at e b;obtain⟨_,⟨p,rfl⟩,g⟩:=Gj.use (m,o,n) e;simp[Tryz.f228,b,g]
 repeat' (refine dU (λd=> ?_) (λd=> ?_)<;>simp[d,b])
def DJ:mU Tryz.prog cx 230 (λa:Bool=>[.bool a]) (λ_=>True) (λ_=>D0):=by
 refine iZ (tb:=⟨pt [],ht []⟩) ei eg (iL 13 [] Tryz.func230) (λ_=>5) (λe a d=>by simpa using d) dp (by simp[Tryz.f230]) ?_;rintro a-f b;simp at b;simp[Tryz.f230,b]
 repeat' (refine dU (λc=> ?_) (λc=> ?_)<;>simp[c])
def Uf:mU Tryz.prog cx 227 (λa:Int×Int=>[dw a.1,dw a.2]) (λ_=>True) (λa f=>f= dw (if a.1=0 then a.2 else a.1)):=by
 refine iZ (tb:=⟨pt [],ht []⟩) ei eg (iL 83 [] Tryz.func227) (λ_=>5) (λa e b=>by simp at b;exact aP b.1 b.2) dp (by simp[Tryz.f227]) ?_;rintro⟨a,e⟩-g c;simp at c;simp[Tryz.f227,c];refine dU (λd=> ?_) (λd=> ?_)<;>simp at d<;>simp[c,d]
def JM:mU Tryz.prog cx 248 (λa:dK=>[a.t]) (λa=>a.w<=1099511627776) (λ_=>GN):=by
 refine AD (λa=>a.w) λq p=> ?_;refine iZ (tb:=⟨pt [(248,p.jb)],ht []⟩) ei eg (iL 8703 [] Tryz.func248) (λa=>a.w+5) (λk m b=>by simp at b;exact dK.inj b) dp (by simp[Tryz.f248]) ?_;rintro a ⟨A,y⟩ c n;simp at n;have hl:=dK.ue (l:=a.l);have z:=a.kP;simp[Tryz.f248,n];refine fc a.l.length dj (λq c b=>gu 1 b/\b.get 0=some (dy 4 0 [a.t])/\dz c 1 (.ptr 0 0 0 0)/\(∃i,dz c 4 (dw i))/\(∃i,dz c 5 (dw i))/\dz c 6 (dw q)) ?_ ?_ dj ?_
 ·rintro u c b o s ⟨j,d,e,⟨k,f⟩,⟨m,g⟩,h⟩;have:=dK.uE (aF o);obtain⟨_,⟨v,x,rfl⟩,r⟩:=p.use a.l[u] ⟨dj,dj⟩;simp[d,e,f,g,h,o,r,s,nD,j]
 ·rintro c b ⟨j,d,e,⟨k,f⟩,⟨m,g⟩,h⟩;simp[j.hp,d,e,f,g,h,nD]
 ·simp
def DM:mU Tryz.prog cx 249 (λa:fk×Int×dK=>[a.1.t,dw a.2.1,a.2.2.t]) (λa=>Ql a.1/\a.2.2.w<=1099511627776) (λ_=>D0):=by
 refine AD (λa=>a.2.2.w) λv u=> ?_;refine iZ (tb:=⟨pt [(228,yT.jb),(249,u.jb)],ht []⟩) ei eg (iL 8590200303 [] Tryz.func249) (λa=>a.2.2.w+5) (λa G c=>by simp at c;obtain⟨m,C,n⟩:=c;exact aP (fk.inj m) (aP C (dK.inj n))) dp (by simp[Tryz.f249]) ?_;rintro⟨i,j,b⟩ ⟨⟨h,F⟩,E⟩ d g;simp only at h F E;simp at g;have hl:=dK.ue (l:=b.l);have I:=b.kP;obtain⟨_,⟨K,rfl⟩,z⟩:=yT.use (i,j,b.name,8,1) h;obtain⟨_,⟨L,rfl⟩,A⟩:=yT.use (i,j,b.name,2,2) h;simp[Tryz.f249,g]
 repeat' (refine dU (λe=> ?_) (λe=> ?_)<;>simp[e,g,z,A])
 all_goals
  refine PD b.l.length (λv d c=>gu 2 c/\c.get 0=some (dy 2 0 [i.t])/\c.get 1=some (dy 4 0 [b.t])/\dz d 1 (dw j)/\dz d 3 (.ptr 0 0 0 0)/\dz d 5 (.ptr 1 0 0 0)/\(∃x,dz d 7 (dw x))/\dz d 8 (dw v)) ?_ dj (aw _) (by simp[g]);rintro s d c H ⟨r,y,k,m,n,o,⟨x,p⟩,q⟩;by_cases f:s<b.l.length
  ·have:=dK.uE (aF f);have D:=Jf f dj;obtain⟨_,⟨J,rfl⟩,B⟩:=u.use (i,j,b.l[s]) ⟨⟨h,dt⟩,dt⟩;simp[k,o,p,q,f]
   repeat' (refine dU (λe=> ?_) (λe=> ?_)<;>simp[e,r,r.hp,y,k,m,n,o,p,q,f,B,D])
  ·simp[r.hp,k,o,p,q,f]
def Bx:mU Tryz.prog cx 229 (λa:fk×Int×dK=>[a.1.t,dw a.2.1,a.2.2.t]) (λa=>Ql a.1/\a.2.2.w<=1099511627776) (λ_=>D0):=by
 refine iZ (tb:=⟨pt [(245,nW.jb),(248,JM.jb),(249,DM.jb)],ht []⟩) ei eg (iL 4196847 [] Tryz.func229) (λa=>5) (λa p e=>by simp at e;obtain⟨k,l,m⟩:=e;exact aP (fk.inj k) (aP l (dK.inj m))) dp (by simp[Tryz.f229]) ?_;rintro⟨n,o,c⟩ ⟨g,b⟩ v d;simp only at g b;simp at d;obtain⟨_,⟨q,rfl⟩,h⟩:=nW.use c b;obtain⟨_,⟨r,u,rfl⟩,i⟩:=JM.use c b;obtain⟨_,⟨s,rfl⟩,j⟩:=DM.use (n,o,c) ⟨g,b⟩;simp[Tryz.f229,d,h]
 repeat' (refine dU (λf=> ?_) (λf=> ?_)<;>simp[f,d,i,j])
def JO:mU Tryz.prog cx 144 (λl:List dG=>[sl (l.map dG.t)]) (λl=>dG.ws l<=1099511627776) (λ_=>D0):=by
 refine AD (λl=>dG.ws l) λk h=> ?_;refine iZ (tb:=⟨pt [(144,h.jb)],ht []⟩) ei eg (iL 1053 [(5,[(6,10),(6,12)])] Tryz.func144) (λl=>l.length+1) (λq m b=>jt (λ_ _=>dG.inj) (by simpa using b)) dp (by simp[Tryz.f144]) ?_;rintro l ⟨u,s⟩ a f;simp at f;have hl:=dG.ue (l:=l);simp[Tryz.f144,f];refine fc l.length dj (λk a b=>b=hE/\dz a 0 (sl (l.map dG.t))/\(∃i,dz a 3 (dw i))/\dz a 4 (dw k)) ?_ ?_ dj (by simp[f])
 ·rintro g a b j p ⟨rfl,c,⟨i,d⟩,e⟩;have:=dG.uE (aF j);rw[l[g].kP]at this;obtain⟨_,⟨m,rfl⟩,n⟩:=h.use l[g].body ⟨dj,dj⟩;obtain⟨_,⟨r,rfl⟩,o⟩:=h.use l[g].LJ ⟨dj,dj⟩;simp[c,d,e,j,n,o,p,nD]
 ·rintro a b ⟨rfl,c,⟨i,d⟩,e⟩;simp[c,d,e]
def z7:mU Tryz.prog cx 143 (λC:fk=>[C.t]) Ql (λ_=>GN):=by
 refine iZ (tb:=⟨pt [(110,AG),(191,mG),(192,kJ)],ht []⟩) ei eg (iL 1237940043933112819970491391 [] Tryz.func143) (λC=>1000005) (λI b a=>by simp at a;exact fk.inj a) dp (by simp[Tryz.f143]) ?_;rintro⟨q,g⟩ ⟨G,ht,B⟩ d z;simp at G ht B z;simp[Tryz.f143,z];have y:=λ{tb:fq} (a:tb.p 191=some mG) k=>AU a q k dj;have eT:=λ{tb:fq} (a:tb.p 192=some kJ) k=>vY a g k dj;refine fc g.length dj (λj d a=>gu 1 a/\a.get 0=some (dy 2 0 [fk.t ⟨q,g⟩])/\dz d 1 (.ptr 0 0 0 0)/\dz d 4 (dw j)) ?_ ?_ dj dp
 ·rintro n d a m x ⟨c,e,f,r⟩;have v:=c.ne (b:=0) dj;have E:=λ{tb:fq} (a:tb.p 192=some kJ) k=>vY a (g.take n) k (by rw[List.length_take];omega);simp[e,f,r,m,v,c.low,y,E,bp m]
  repeat' (refine dU (λi=> ?_) (λi=> ?_)<;>simp[i,e,f,r,x,c.hp,c,v,gu.cons])
 rintro d a ⟨c,e,f,r⟩;simp[e,f,r];refine fc g.length dj (λj d a=>gu 1 a/\a.get 0=some (dy 2 0 [fk.t ⟨q,g⟩])/\dz d 1 (.ptr 0 0 0 0)/\dz d 6 (dw j)) ?_ ?_ dj (by simp[e,f,c])
 ·rintro n d a m x ⟨c,e,f,h⟩;have v:=c.ne (b:=0) dj;obtain⟨hl,J⟩:=B g[n] (aF m);simp[e,f,h,m,c.low];generalize g[n]=w at*
  have H:=(c.cons (dy 4 1 [w.t]));refine dU (λi=> ?_) (λi=> ?_)
  ·simp[c.hp]
  simp;refine fc w.locals.length dj (λj d l=>gu 1 l/\l.get 0=some (dy 2 0 [fk.t ⟨q,g⟩])/\l.get a.size=some (dy 4 1 [w.t])/\dz d 1 (.ptr 0 0 0 0)/\dz d 6 (dw n)/\dz d 7 (.ptr a.size 0 0 0)/\dz d 8 (dw j)) ?_ ?_ dj (by simp[e,f,h,v,H])
  ·rintro j d l A F ⟨c,e,o,f,h,s,u⟩;have D:=λ{tb:fq} (a:tb.p 110=some AG) k=>Mg a (w.locals.take j) k (by rw[List.length_take];omega);simp[e,o,f,s,u,A,y,eT,D,bp A]
   repeat' (refine dU (λi=> ?_) (λi=> ?_)<;>simp[i,e,o,f,h,s,u,F,c.hp,c])
  ·rintro d l ⟨c,e,o,f,h,s,u⟩;simp[e,o,f,h,s,u,x,c]
 ·rintro d a ⟨c,e,f,h⟩;simp[e,f,h,c.hp]
end
end Go.Proofs.YtmaeadedikngoaaGreatDoor
