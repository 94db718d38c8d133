/- Texts W02 to W04. -/
import Derived.Test.YtmaeadedikngoaaGreatDoorA15
set_option linter.all false
set_option maxRecDepth 100000
set_option maxHeartbeats 8000000
namespace Go.Proofs.YtmaeadedikngoaaGreatDoor
noncomputable section
open Go Go.TI
attribute [-simp] List.map_take List.map_drop List.map_append fG fg ei Bool.not_or Bool.not_and
attribute [simp] fF fh
def K7:nO Tryz.prog cx 246 (λa:dW=>[a.t]) (λ_=>True) (λ_=>ER):=by
 refine jt (tb:=⟨pt [],ht []⟩) fa eQ (iR 7 [] Tryz.func246) (λ_=>5) (λd e b=>by simp at b;exact dW.inj b) dA (by simp[Tryz.f246]) ?_;rintro a-f c;simp at c;simp[Tryz.f246,c]
def Ck:nO Tryz.prog cx 264 (λc:Int=>[dE c]) (λ_=>True) (λ_=>EQ):=by
 refine jt (tb:=⟨pt [],ht []⟩) fa eQ (iR 132109 [] Tryz.func264) (λ_=>5) (λe f d=>by simpa using d) dA (by simp[Tryz.f264]) ?_;rintro c-g a;simp at a;simp[Tryz.f264,a]
 repeat' (refine ee (λb=> ?_) (λb=> ?_)<;>simp[b,a])
def oR:nO Tryz.prog cx 245 (λa:dW=>[a.t]) (λa=>a.w<=1099511627776) (λ_=>ER):=by
 refine Bm (λa=>a.w) λm k=> ?_;refine jt (tb:=⟨pt [(264,Ck.jv),(109,w9),(245,k.jv)],ht []⟩) fa eQ (iR 18483898770635358239 [(2,[(2,4)])] Tryz.func245) (λa=>a.w+5) (λs n b=>by simp at b;exact dW.inj b) dA (by simp[Tryz.f245]) ?_;rintro a ⟨x,u⟩ c j;simp at j;obtain⟨_,⟨y,rfl⟩,o⟩:=Ck.use a.op trivial;have hl:=dW.uN (l:=a.l);have v:=a.lF;simp[Tryz.f245,j,o,pR];refine ee (λg=> ?_) (λg=> ?_)
 ·simp
 simp;refine fy a.l.length dz (λm c b=>ig 1 b/\b.get 0=some (dG 4 0 [a.t])/\dH c 1 (.ptr 0 0 0 0)/\dH c 4 (dE m)) ?_ ?_ dz ?_
 ·rintro r c b i q ⟨h,d,e,f⟩;obtain⟨_,⟨n,rfl⟩,p⟩:=k.use a.l[r] ⟨by have:=dW.vn (aC i);omega,by have:=dW.vn (aC i);omega⟩;simp[d,e,f,i,p]
  repeat' (refine ee (λg=> ?_) (λg=> ?_)<;>simp[g,h.hp,d,e,f,h,q])
 ·rintro c b ⟨h,d,e,f⟩;simp[h.hp,d,e,f]
 ·simp
def yD:nO Tryz.prog cx 189 (λd:iy=>[d.t]) (λ_=>True) (λ_=>ER):=by
 refine jt (tb:=⟨pt [(109,w9)],ht []⟩) fa eQ (iR 1125902054326279 [] Tryz.func189) (λ_=>5) (λe f a=>by simp at a;exact iy.inj a) dA (by simp[Tryz.f189]) ?_;rintro g-h b;simp at b;simp[Tryz.f189,b,pR]
 repeat' (refine ee (λc=> ?_) (λc=> ?_)<;>simp[c,pR])
def DA(n:Nat)(g:nO Tryz.prog cx 190 (λd:List dQ=>[sl (d.map dQ.t)]) (λd=>dQ.ws d<=1099511627776/\dQ.ws d<n) (λ_=>ER)):
 nO Tryz.prog cx 225 (λa:dQ=>[a.t]) (λa=>a.w<=1099511627776/\a.w<n+1) (λ_=>ER):=by
 refine jt (tb:=⟨pt [(245,oR.jv),(109,w9),(190,g.jv),(246,K7.jv)],ht []⟩) fa eQ (iR 182687706027492332498828539273953093013162958911 [] Tryz.func225) (λ_=>5) (λq r l=>by simp at l;exact dQ.inj l) dA (by simp[Tryz.f225]) ?_;rintro a ⟨m,p⟩ B f;simp at f;rw[a.lF]at m p;obtain⟨_,⟨s,rfl⟩,h⟩:=oR.use a.e dz;obtain⟨_,⟨u,rfl⟩,i⟩:=g.use a.body ⟨dz,dz⟩;obtain⟨_,⟨v,rfl⟩,j⟩:=g.use a.Nc ⟨dz,dz⟩;obtain⟨_,⟨y,rfl⟩,k⟩:=K7.use a.e trivial
 match c:a.index with
 | []=>
  simp[Tryz.f225,f,c]
  repeat' (refine ee (λb=> ?_) (λb=> ?_)<;>simp[b,pR,h,i,j,k,c])
 |x::A=>
  obtain⟨_,⟨z,rfl⟩,o⟩:=oR.use x (by rw[c,dW.j7]at m;omega);simp[Tryz.f225,f,c]
  repeat' (refine ee (λb=> ?_) (λb=> ?_)<;>simp[b,pR,h,i,j,k,o,c])
def BY(e:Nat)(j:nO Tryz.prog cx 225 (λf:dQ=>[f.t]) (λf=>f.w<=1099511627776/\f.w<e) (λ_=>ER)):
 nO Tryz.prog cx 190 (λl:List dQ=>[sl (l.map dQ.t)]) (λl=>dQ.ws l<=1099511627776/\dQ.ws l<e) (λ_=>ER):=by
 refine jt (tb:=⟨pt [(225,j.jv)],ht []⟩) fa eQ (iR 32909 [] Tryz.func190) (λl=>l.length+1) (λp k a=>jD (λ_ _=>dQ.inj) (by simpa using a)) dA (by simp[Tryz.f190]) ?_;rintro l ⟨r,q⟩ b g;simp at g;have hl:=dQ.uN (l:=l);simp[Tryz.f190];refine fy l.length dz (λe b a=>a=hE/\dH b 0 (sl (l.map dQ.t))/\dH b 3 (dE e)) ?_ ?_ dz (by simp[g])
 ·rintro o b a i n ⟨rfl,c,d⟩;have:=dQ.vn (aC i);obtain⟨_,⟨k,rfl⟩,m⟩:=j.use l[o] ⟨dz,dz⟩;simp[c,d,i,m]
  repeat' (refine ee (λh=> ?_) (λh=> ?_)<;>simp[h,c,d,n])
 ·rintro b a ⟨rfl,c,d⟩;simp[c,d]
def xf:nO Tryz.prog cx 190 (λa:List dQ=>[sl (a.map dQ.t)]) (λa=>dQ.ws a<=1099511627776) (λ_=>ER):=by
 have e:∀c,nO Tryz.prog cx 190 (λa:List dQ=>[sl (a.map dQ.t)]) (λa=>dQ.ws a<=1099511627776/\dQ.ws a<c) (λ_=>ER):=by
  intro c;induction c with
  |zero=>exact⟨λd b=>absurd b.2 (Nat.not_lt_zero _),λd b=>absurd b.2 (Nat.not_lt_zero _)⟩
  |succ c f=>exact BY (c+1) (DA c f)
 exact⟨λd b=>(e _).1 d ⟨b,df _⟩,λd b=>(e _).2 d ⟨b,df _⟩⟩
def RO(a:fK):Prop:=a.jq.length<=1000000/\a.dK.length<=1000000/\∀b∈a.dK,b.locals.length<=1000000/\dQ.ws b.body<=1000000
def Ht:nO Tryz.prog cx 141 (λy:fK=>[y.t]) RO (λ_=>ER):=by
 refine jt (tb:=⟨pt [(189,yD.jv),(109,w9),(190,xf.jv)],ht []⟩) fa eQ (iR 72128100255664255 [] Tryz.func141) (λy=>1000005) (λE b e=>by simp at e;exact fK.inj e) dA (by simp[Tryz.f141]) ?_;rintro⟨l,i⟩ ⟨A,ht,x⟩ a w;simp at A ht x w;simp[Tryz.f141,w];refine fy l.length dz (λk a e=>ig 1 e/\e.get 0=some (dG 2 0 [fK.t ⟨l,i⟩])/\dH a 1 (.ptr 0 0 0 0)/\dH a 3 (dE k)) ?_ ?_ dz dA
 ·rintro j a e r u ⟨c,d,f,o⟩;obtain⟨_,⟨b,rfl⟩,s⟩:=yD.use l[j] trivial;simp[d,f,o,r,s]
  repeat' (refine ee (λh=> ?_) (λh=> ?_)<;>simp[h,d,f,o,u,c.hp,c])
 rintro a e ⟨c,d,f,o⟩;simp[d,f,o];refine fy i.length dz (λk a e=>ig 1 e/\e.get 0=some (dG 2 0 [fK.t ⟨l,i⟩])/\dH a 1 (.ptr 0 0 0 0)/\dH a 4 (dE k)) ?_ ?_ dz (by simp[d,f,c])
 ·rintro j a e r u ⟨c,d,f,g⟩;have C:=c.ne (b:=0) dz;obtain⟨hl,F⟩:=x i[j] (aC r);obtain⟨_,⟨b,rfl⟩,s⟩:=xf.use i[j].body dz;simp[d,f,g,r,c.low];generalize i[j]=v at*
  have D:=(c.cons (dG 4 1 [v.t]));refine fy v.locals.length dz (λk a m=>ig 1 m/\m.get 0=some (dG 2 0 [fK.t ⟨l,i⟩])/\m.get e.size=some (dG 4 1 [v.t])/\dH a 1 (.ptr 0 0 0 0)/\dH a 4 (dE j)/\dH a 5 (.ptr e.size 0 0 0)/\dH a 6 (dE k)) ?_ ?_ dz (by simp[d,f,g,C,D])
  ·rintro k a m B z ⟨c,d,n,f,g,p,q⟩;simp[n,p,q,B,pR]
   repeat' (refine ee (λh=> ?_) (λh=> ?_)<;>simp[h,d,n,f,g,p,q,z,c.hp,c])
  ·rintro a m ⟨c,d,n,f,g,p,q⟩;simp[n,p,q,pR,s]
   repeat' (refine ee (λh=> ?_) (λh=> ?_)<;>simp[h,d,f,g,u,c.hp,c])
 ·rintro a e ⟨c,d,f,g⟩;simp[d,f,g,c.hp]
def GG:∀(c:List (List Nat)) (b:List Nat) (a:Nat),sj c b a=-1\/∃d,d<c.length/\sj c b a=((a+d:Nat):Int)
 | [],b,a=> .inl rfl
 |x::c,b,a=>by
  rw[sj];by_cases f:x=b
  ·rw[aq f];exact .inr ⟨0,dA,dA⟩
  ·rw[ao f];rcases GG c b (a+1)with e|⟨d,g,e⟩
   ·exact .inl e
   ·exact .inr ⟨d+1,by simpa using g,by rw[e];congr 1;omega⟩
def nh:hU:=⟨List iy×List Nat,λa=>[sl (a.1.map iy.t),.str a.2],λa=>a.1.length<=1099511627776,λa=> dE (sj (a.1.map iy.name) a.2 0),λa c b=>by
 simp at b;rw[jD (λ_ _=>iy.inj) b.1,b.2]⟩
def Po:nh.Ok Tryz.prog cx 191:=by
 refine iv (tb:=⟨pt [],ht []⟩) fa eQ (iR 262707 [] Tryz.func191) (λm=>m.1.length+1) (by simp[nh]) (by simp[nh,Tryz.f191]) ?_;rintro⟨h,j⟩ hl c k;simp[nh]at hl k|-;obtain⟨b,d⟩:=k;simp[Tryz.f191];refine fy h.length dz (λg c i=>i=hE/\dH c 0 (sl (h.map iy.t))/\dH c 1 (.str j)/\dH c 5 (dE g)/\sj ((h.drop g).map iy.name) j g=sj (h.map iy.name) j 0) ?_ ?_ dz (by simp[b,d])
 ·rintro g c i l n ⟨rfl,b,d,e,a⟩;rw[aJ l,aV,sj]at a;simp[b,d,e,l];refine ee (λf=> ?_) (λf=> ?_)
  ·simp at f;rw[aq f]at a;simp[e,<-a]
  ·simp at f;rw[ao f]at a;simp[b,d,e,n,a]
 ·rintro c i ⟨rfl,b,d,e,a⟩;simp[sj]at a;simp[b,e,<-a]
def BE{c:fJ}(ht:c.p 191=some nh)(a:List iy)(b:List Nat)(hl:a.length<=1099511627776):rl Tryz.prog cx c 191 [sl (a.map iy.t),.str b]=some (dE (sj (a.map iy.name) b 0)):=im ht Po (a,b) hl
def ls:hU:=⟨List fR×List Nat,λa=>[sl (a.1.map fR.t),.str a.2],λa=>a.1.length<=1099511627776,λa=> dE (sj (a.1.map fR.name) a.2 0),λa c b=>by
 simp at b;rw[jD (λ_ _=>fR.inj) b.1,b.2]⟩
def Jw:ls.Ok Tryz.prog cx 192:=by
 refine iv (tb:=⟨pt [],ht []⟩) fa eQ (iR 262707 [] Tryz.func192) (λm=>m.1.length+1) (by simp[ls]) (by simp[ls,Tryz.f192]) ?_;rintro⟨h,j⟩ hl c k;simp[ls]at hl k|-;obtain⟨b,d⟩:=k;simp[Tryz.f192];refine fy h.length dz (λg c i=>i=hE/\dH c 0 (sl (h.map fR.t))/\dH c 1 (.str j)/\dH c 5 (dE g)/\sj ((h.drop g).map fR.name) j g=sj (h.map fR.name) j 0) ?_ ?_ dz (by simp[b,d])
 ·rintro g c i l n ⟨rfl,b,d,e,a⟩;rw[aJ l,aV,sj]at a;simp[b,d,e,l];refine ee (λf=> ?_) (λf=> ?_)
  ·simp at f;rw[aq f]at a;simp[e,<-a]
  ·simp at f;rw[ao f]at a;simp[b,d,e,n,a]
 ·rintro c i ⟨rfl,b,d,e,a⟩;simp[sj]at a;simp[b,e,<-a]
def wM{c:fJ}(ht:c.p 192=some ls)(a:List fR)(b:List Nat)(hl:a.length<=1099511627776):rl Tryz.prog cx c 192 [sl (a.map fR.t),.str b]=some (dE (sj (a.map fR.name) b 0)):=im ht Jw (a,b) hl
def Hv:nO Tryz.prog cx 247 (λh:fK×Int×List Nat=>[h.1.t,dE h.2.1,.str h.2.2]) (λh=>RO h.1) (λ_=>EQ):=by
 refine jt (tb:=⟨pt [(110,Bp),(191,nh),(192,ls)],ht []⟩) fa eQ (iR 99132251962343631 [] Tryz.func247) (λ_=>5) (λh B c=>by simp at c;obtain⟨g,b,y⟩:=c;exact aR (fK.inj g) (aR b y)) dA (by simp[Tryz.f247]) ?_;rintro⟨⟨v,e⟩,d,m⟩ ⟨z,ht,s⟩ C x;simp at z ht s x;obtain⟨j,g,b⟩:=x;have f:=λ{tb:fJ} (c:tb.p 191=some nh)=>BE c v m dz;have i:=λ{tb:fJ} (c:tb.p 192=some ls)=>wM c e m dz;have w:d<0\/(e.length:Int)<=d\/∃u:Nat,u<e.length/\d=u:=by
  by_cases q:d<0
  ·exact .inl q
  by_cases A:(e.length:Int)<=d
  ·exact .inr (.inl A)
  ·exact .inr (.inr ⟨d.toNat,dz,dz⟩)
 rcases GG (v.map iy.name) m 0 with o|⟨u,n,o⟩
 ·simp only[o]at f;rcases w with q|q|⟨l,k,rfl⟩
  ·simp[Tryz.f247,j,g,b,f,i,show¬0<=d by omega]
   repeat' (refine ee (λa=> ?_) (λa=> ?_)<;>simp[a])
  ·simp[Tryz.f247,j,g,b,f,i,show¬d<e.length by omega]
   repeat' (refine ee (λa=> ?_) (λa=> ?_)<;>simp[a])
  ·have r:=λ{tb:fJ} (c:tb.p 110=some Bp)=>NI c e[l].locals m (by have:=(s e[l] (aC k)).1;omega);simp[Tryz.f247,j,g,b,k,r]
   repeat' (refine ee (λa=> ?_) (λa=> ?_)<;>simp[a,b,f,i])
 ·simp at n o;simp only[o]at f;rcases w with q|q|⟨l,k,rfl⟩
  ·simp[Tryz.f247,j,g,b,f,show¬0<=d by omega]
   repeat' (refine ee (λa=> ?_) (λa=> ?_)<;>simp[a,b,i,n])
  ·simp[Tryz.f247,j,g,b,f,show¬d<e.length by omega]
   repeat' (refine ee (λa=> ?_) (λa=> ?_)<;>simp[a,b,i,n])
  ·have r:=λ{tb:fJ} (c:tb.p 110=some Bp)=>NI c e[l].locals m (by have:=(s e[l] (aC k)).1;omega);simp[Tryz.f247,j,g,b,k,r]
   repeat' (refine ee (λa=> ?_) (λa=> ?_)<;>simp[a,b,f,i,n])
def z8:nO Tryz.prog cx 228 (λa:fK×Int×List Nat×Int×Int=>[a.1.t,dE a.2.1,.str a.2.2.1,dE a.2.2.2.1,dE a.2.2.2.2]) (λa=>RO a.1) (λ_=>EQ):=by
 refine jt (tb:=⟨pt [(247,Hv.jv)],ht []⟩) fa eQ (iR 33688639 [] Tryz.func228) (λ_=>5) (λa f c=>by simp at c;obtain⟨h,i,j,k,l⟩:=c;exact aR (fK.inj h) (aR i (aR j (aR k l)))) dA (by simp[Tryz.f228]) ?_;rintro⟨m,o,n,a,f⟩ e q b;simp at e b;obtain⟨_,⟨p,rfl⟩,g⟩:=Hv.use (m,o,n) e;simp[Tryz.f228,b,g]
 repeat' (refine ee (λd=> ?_) (λd=> ?_)<;>simp[d,b])
def EB:nO Tryz.prog cx 230 (λa:Bool=>[.bool a]) (λ_=>True) (λ_=>EQ):=by
 refine jt (tb:=⟨pt [],ht []⟩) fa eQ (iR 13 [] Tryz.func230) (λ_=>5) (λe a d=>by simpa using d) dA (by simp[Tryz.f230]) ?_;rintro a-f b;simp at b;simp[Tryz.f230,b]
 repeat' (refine ee (λc=> ?_) (λc=> ?_)<;>simp[c])
def VU:nO Tryz.prog cx 227 (λa:Int×Int=>[dE a.1,dE a.2]) (λ_=>True) (λa f=>f= dE (if a.1=0 then a.2 else a.1)):=by
 refine jt (tb:=⟨pt [],ht []⟩) fa eQ (iR 83 [] Tryz.func227) (λ_=>5) (λa e b=>by simp at b;exact aR b.1 b.2) dA (by simp[Tryz.f227]) ?_;rintro⟨a,e⟩-g c;simp at c;simp[Tryz.f227,c];refine ee (λd=> ?_) (λd=> ?_)<;>simp at d<;>simp[c,d]
def K4:nO Tryz.prog cx 248 (λa:dW=>[a.t]) (λa=>a.w<=1099511627776) (λ_=>HV):=by
 refine Bm (λa=>a.w) λq p=> ?_;refine jt (tb:=⟨pt [(248,p.jv)],ht []⟩) fa eQ (iR 8703 [] Tryz.func248) (λa=>a.w+5) (λk m b=>by simp at b;exact dW.inj b) dA (by simp[Tryz.f248]) ?_;rintro a ⟨A,y⟩ c n;simp at n;have hl:=dW.uN (l:=a.l);have z:=a.lF;simp[Tryz.f248,n];refine fy a.l.length dz (λq c b=>ig 1 b/\b.get 0=some (dG 4 0 [a.t])/\dH c 1 (.ptr 0 0 0 0)/\(∃i,dH c 4 (dE i))/\(∃i,dH c 5 (dE i))/\dH c 6 (dE q)) ?_ ?_ dz ?_
 ·rintro u c b o s ⟨j,d,e,⟨k,f⟩,⟨m,g⟩,h⟩;have:=dW.vn (aC o);obtain⟨_,⟨v,x,rfl⟩,r⟩:=p.use a.l[u] ⟨dz,dz⟩;simp[d,e,f,g,h,o,r,s,ou,j]
 ·rintro c b ⟨j,d,e,⟨k,f⟩,⟨m,g⟩,h⟩;simp[j.hp,d,e,f,g,h,ou]
 ·simp
def EC:nO Tryz.prog cx 249 (λa:fK×Int×dW=>[a.1.t,dE a.2.1,a.2.2.t]) (λa=>RO a.1/\a.2.2.w<=1099511627776) (λ_=>EQ):=by
 refine Bm (λa=>a.2.2.w) λv u=> ?_;refine jt (tb:=⟨pt [(228,z8.jv),(249,u.jv)],ht []⟩) fa eQ (iR 8590200303 [] Tryz.func249) (λa=>a.2.2.w+5) (λa G c=>by simp at c;obtain⟨m,C,n⟩:=c;exact aR (fK.inj m) (aR C (dW.inj n))) dA (by simp[Tryz.f249]) ?_;rintro⟨i,j,b⟩ ⟨⟨h,F⟩,E⟩ d g;simp only at h F E;simp at g;have hl:=dW.uN (l:=b.l);have I:=b.lF;obtain⟨_,⟨K,rfl⟩,z⟩:=z8.use (i,j,b.name,8,1) h;obtain⟨_,⟨L,rfl⟩,A⟩:=z8.use (i,j,b.name,2,2) h;simp[Tryz.f249,g]
 repeat' (refine ee (λe=> ?_) (λe=> ?_)<;>simp[e,g,z,A])
 all_goals
  refine Rb b.l.length (λv d c=>ig 2 c/\c.get 0=some (dG 2 0 [i.t])/\c.get 1=some (dG 4 0 [b.t])/\dH d 1 (dE j)/\dH d 3 (.ptr 0 0 0 0)/\dH d 5 (.ptr 1 0 0 0)/\(∃x,dH d 7 (dE x))/\dH d 8 (dE v)) ?_ dz (aw _) (by simp[g]);rintro s d c H ⟨r,y,k,m,n,o,⟨x,p⟩,q⟩;by_cases f:s<b.l.length
  ·have:=dW.vn (aC f);have D:=Kv f dz;obtain⟨_,⟨J,rfl⟩,B⟩:=u.use (i,j,b.l[s]) ⟨⟨h,dC⟩,dC⟩;simp[k,o,p,q,f]
   repeat' (refine ee (λe=> ?_) (λe=> ?_)<;>simp[e,r,r.hp,y,k,m,n,o,p,q,f,B,D])
  ·simp[r.hp,k,o,p,q,f]
def Cn:nO Tryz.prog cx 229 (λa:fK×Int×dW=>[a.1.t,dE a.2.1,a.2.2.t]) (λa=>RO a.1/\a.2.2.w<=1099511627776) (λ_=>EQ):=by
 refine jt (tb:=⟨pt [(245,oR.jv),(248,K4.jv),(249,EC.jv)],ht []⟩) fa eQ (iR 4196847 [] Tryz.func229) (λa=>5) (λa p e=>by simp at e;obtain⟨k,l,m⟩:=e;exact aR (fK.inj k) (aR l (dW.inj m))) dA (by simp[Tryz.f229]) ?_;rintro⟨n,o,c⟩ ⟨g,b⟩ v d;simp only at g b;simp at d;obtain⟨_,⟨q,rfl⟩,h⟩:=oR.use c b;obtain⟨_,⟨r,u,rfl⟩,i⟩:=K4.use c b;obtain⟨_,⟨s,rfl⟩,j⟩:=EC.use (n,o,c) ⟨g,b⟩;simp[Tryz.f229,d,h]
 repeat' (refine ee (λf=> ?_) (λf=> ?_)<;>simp[f,d,i,j])
def K6:nO Tryz.prog cx 144 (λl:List dQ=>[sl (l.map dQ.t)]) (λl=>dQ.ws l<=1099511627776) (λ_=>EQ):=by
 refine Bm (λl=>dQ.ws l) λk h=> ?_;refine jt (tb:=⟨pt [(144,h.jv)],ht []⟩) fa eQ (iR 1053 [(5,[(6,10),(6,12)])] Tryz.func144) (λl=>l.length+1) (λq m b=>jD (λ_ _=>dQ.inj) (by simpa using b)) dA (by simp[Tryz.f144]) ?_;rintro l ⟨u,s⟩ a f;simp at f;have hl:=dQ.uN (l:=l);simp[Tryz.f144,f];refine fy l.length dz (λk a b=>b=hE/\dH a 0 (sl (l.map dQ.t))/\(∃i,dH a 3 (dE i))/\dH a 4 (dE k)) ?_ ?_ dz (by simp[f])
 ·rintro g a b j p ⟨rfl,c,⟨i,d⟩,e⟩;have:=dQ.vn (aC j);rw[l[g].lF]at this;obtain⟨_,⟨m,rfl⟩,n⟩:=h.use l[g].body ⟨dz,dz⟩;obtain⟨_,⟨r,rfl⟩,o⟩:=h.use l[g].Nc ⟨dz,dz⟩;simp[c,d,e,j,n,o,p,ou]
 ·rintro a b ⟨rfl,c,⟨i,d⟩,e⟩;simp[c,d,e]
def AP:nO Tryz.prog cx 143 (λC:fK=>[C.t]) RO (λ_=>HV):=by
 refine jt (tb:=⟨pt [(110,Bp),(191,nh),(192,ls)],ht []⟩) fa eQ (iR 1237940043933112819970491391 [] Tryz.func143) (λC=>1000005) (λI b a=>by simp at a;exact fK.inj a) dA (by simp[Tryz.f143]) ?_;rintro⟨q,g⟩ ⟨G,ht,B⟩ d z;simp at G ht B z;simp[Tryz.f143,z];have y:=λ{tb:fJ} (a:tb.p 191=some nh) k=>BE a q k dz;have eT:=λ{tb:fJ} (a:tb.p 192=some ls) k=>wM a g k dz;refine fy g.length dz (λj d a=>ig 1 a/\a.get 0=some (dG 2 0 [fK.t ⟨q,g⟩])/\dH d 1 (.ptr 0 0 0 0)/\dH d 4 (dE j)) ?_ ?_ dz dA
 ·rintro n d a m x ⟨c,e,f,r⟩;have v:=c.ne (b:=0) dz;have E:=λ{tb:fJ} (a:tb.p 192=some ls) k=>wM a (g.take n) k (by rw[List.length_take];omega);simp[e,f,r,m,v,c.low,y,E,bD m]
  repeat' (refine ee (λi=> ?_) (λi=> ?_)<;>simp[i,e,f,r,x,c.hp,c,v,ig.cons])
 rintro d a ⟨c,e,f,r⟩;simp[e,f,r];refine fy g.length dz (λj d a=>ig 1 a/\a.get 0=some (dG 2 0 [fK.t ⟨q,g⟩])/\dH d 1 (.ptr 0 0 0 0)/\dH d 6 (dE j)) ?_ ?_ dz (by simp[e,f,c])
 ·rintro n d a m x ⟨c,e,f,h⟩;have v:=c.ne (b:=0) dz;obtain⟨hl,J⟩:=B g[n] (aC m);simp[e,f,h,m,c.low];generalize g[n]=w at*
  have H:=(c.cons (dG 4 1 [w.t]));refine ee (λi=> ?_) (λi=> ?_)
  ·simp[c.hp]
  simp;refine fy w.locals.length dz (λj d l=>ig 1 l/\l.get 0=some (dG 2 0 [fK.t ⟨q,g⟩])/\l.get a.size=some (dG 4 1 [w.t])/\dH d 1 (.ptr 0 0 0 0)/\dH d 6 (dE n)/\dH d 7 (.ptr a.size 0 0 0)/\dH d 8 (dE j)) ?_ ?_ dz (by simp[e,f,h,v,H])
  ·rintro j d l A F ⟨c,e,o,f,h,s,u⟩;have D:=λ{tb:fJ} (a:tb.p 110=some Bp) k=>NI a (w.locals.take j) k (by rw[List.length_take];omega);simp[e,o,f,s,u,A,y,eT,D,bD A]
   repeat' (refine ee (λi=> ?_) (λi=> ?_)<;>simp[i,e,o,f,h,s,u,F,c.hp,c])
  ·rintro d l ⟨c,e,o,f,h,s,u⟩;simp[e,o,f,h,s,u,x,c]
 ·rintro d a ⟨c,e,f,h⟩;simp[e,f,h,c.hp]
end
end Go.Proofs.YtmaeadedikngoaaGreatDoor
