/- Texts W02 to W04. -/
import Derived.Test.YtmaeadedikngoaaGreatDoorA16
set_option linter.unusedVariables false
set_option linter.unusedSimpArgs false
set_option maxRecDepth 100000
set_option maxHeartbeats 8000000
namespace Go.Proofs.YtmaeadedikngoaaGreatDoor
noncomputable section
open Go Go.TI
attribute [-simp] List.map_take List.map_drop List.map_append fi ei dT Bool.not_or Bool.not_and
attribute [simp] fh ew
theorem Jk:nZ Tryz.prog cx 246 (λa:dC=>[a.t]) (λ_=>True) (λ_=>Hc):=by
 refine jk (tb:=⟨pt [],ht []⟩) dX dU (iN 7 [] Tryz.func246) (λ_=>5) (λd e b=>by simp at b;exact dC.inj b) (by simp) (by simp[Tryz.f246]) ?_
 rintro a-f c
 simp at c
 simp[Tryz.f246,c]
theorem AX:nZ Tryz.prog cx 264 (λc:Int=>[.int .i64 c]) (λ_=>True) (λ_=>CZ):=by
 refine jk (tb:=⟨pt [],ht []⟩) dX dU (iN 132109 [] Tryz.func264) (λ_=>5) (λe f d=>by simpa using d) (by simp) (by simp[Tryz.f264]) ?_
 rintro c-g a
 simp at a
 simp[Tryz.f264,a]
 repeat' (refine dM (λb=> ?_) (λb=> ?_)<;>simp[b,a])
theorem nP:nZ Tryz.prog cx 245 (λa:dC=>[a.t]) (λa=>a.w<=1099511627776) (λ_=>Hc):=by
 refine zR (λa=>a.w) λm k=> ?_
 refine jk (tb:=⟨pt [(264,AX.jl),(109,vP),(245,k.jl)],ht []⟩) dX dU (iN 18483898770635358239 [(2,[(2,4)])] Tryz.func245) (λa=>a.w+5) (λs n b=>by simp at b;exact dC.inj b) (by simp) (by simp[Tryz.f245]) ?_
 rintro a ⟨x,u⟩ c j
 simp at j
 obtain⟨_,⟨y,rfl⟩,o⟩:=AX.use a.op trivial
 have hl:=dC.tM (l:=a.l)
 have v:=a.kJ
 simp[Tryz.f245,j,o,oM]
 refine dM (λg=> ?_) (λg=> ?_)
 ·simp
 simp
 refine eQ a.l.length (by omega) (λm c b=>gh 1 b/\b.get 0=some ⟨4,0,0,true,false,[a.t]⟩/\TI.dt c 1=some (.ptr 0 0 0 0)/\TI.dt c 4=some (.int .i64 m)) ?_ ?_ (by omega) ?_
 ·rintro r c b i q ⟨h,d,e,f⟩
  obtain⟨_,⟨n,rfl⟩,p⟩:=k.use a.l[r] ⟨by have:=dC.uk (aF i);omega,by have:=dC.uk (aF i);omega⟩
  simp[d,e,f,i,p]
  repeat' (refine dM (λg=> ?_) (λg=> ?_)<;>simp[g,h.hp,d,e,f,h,q])
 ·rintro c b ⟨h,d,e,f⟩
  simp[h.hp,d,e,f]
 ·simp
theorem xn:nZ Tryz.prog cx 189 (λd:f6=>[d.t]) (λ_=>True) (λ_=>Hc):=by
 refine jk (tb:=⟨pt [(109,vP)],ht []⟩) dX dU (iN 1125902054326279 [] Tryz.func189) (λ_=>5) (λe f a=>by simp at a;exact f6.inj a) (by simp) (by simp[Tryz.f189]) ?_
 rintro g-h b
 simp at b
 simp[Tryz.f189,b,oM]
 repeat' (refine dM (λc=> ?_) (λc=> ?_)<;>simp[c,oM])
theorem B7(n:Nat)(g:nZ Tryz.prog cx 190 (λd:List du=>[sl (d.map du.t)]) (λd=>du.ws d<=1099511627776/\du.ws d<n) (λ_=>Hc)):
 nZ Tryz.prog cx 225 (λa:du=>[a.t]) (λa=>a.w<=1099511627776/\a.w<n+1) (λ_=>Hc):=by
 refine jk (tb:=⟨pt [(245,nP.jl),(109,vP),(190,g.jl),(246,Jk.jl)],ht []⟩) dX dU (iN 182687706027492332498828539273953093013162958911 [] Tryz.func225) (λ_=>5) (λq r l=>by simp at l;exact du.inj l) (by simp) (by simp[Tryz.f225]) ?_
 rintro a ⟨m,p⟩ B f
 simp at f
 rw[a.kJ]at m p
 obtain⟨_,⟨s,rfl⟩,h⟩:=nP.use a.e (by omega)
 obtain⟨_,⟨u,rfl⟩,i⟩:=g.use a.body ⟨by omega,by omega⟩
 obtain⟨_,⟨v,rfl⟩,j⟩:=g.use a.K8 ⟨by omega,by omega⟩
 obtain⟨_,⟨y,rfl⟩,k⟩:=Jk.use a.e trivial
 match c:a.index with
 | []=>
  simp[Tryz.f225,f,c]
  repeat' (refine dM (λb=> ?_) (λb=> ?_)<;>simp[b,oM,h,i,j,k,c])
 |x::A=>
  obtain⟨_,⟨z,rfl⟩,o⟩:=nP.use x (by rw[c,dC.jA]at m;omega)
  simp[Tryz.f225,f,c]
  repeat' (refine dM (λb=> ?_) (λb=> ?_)<;>simp[b,oM,h,i,j,k,o,c])
theorem AE(e:Nat)(j:nZ Tryz.prog cx 225 (λf:du=>[f.t]) (λf=>f.w<=1099511627776/\f.w<e) (λ_=>Hc)):
 nZ Tryz.prog cx 190 (λl:List du=>[sl (l.map du.t)]) (λl=>du.ws l<=1099511627776/\du.ws l<e) (λ_=>Hc):=by
 refine jk (tb:=⟨pt [(225,j.jl)],ht []⟩) dX dU (iN 32909 [] Tryz.func190) (λl=>l.length+1) (λp k a=>ja (λ_ _=>du.inj) (by simpa using a)) (by simp) (by simp[Tryz.f190]) ?_
 rintro l ⟨r,q⟩ b g
 simp at g
 have hl:=du.tM (l:=l)
 simp[Tryz.f190]
 refine eQ l.length (by omega) (λe b a=>a=hE/\TI.dt b 0=some (sl (l.map du.t))/\TI.dt b 3=some (.int .i64 e)) ?_ ?_ (by omega) (by simp[g])
 ·rintro o b a i n ⟨rfl,c,d⟩
  have:=du.uk (aF i)
  obtain⟨_,⟨k,rfl⟩,m⟩:=j.use l[o] ⟨by omega,by omega⟩
  simp[c,d,i,m]
  repeat' (refine dM (λh=> ?_) (λh=> ?_)<;>simp[h,c,d,n])
 ·rintro b a ⟨rfl,c,d⟩
  simp[c,d]
theorem vX:nZ Tryz.prog cx 190 (λa:List du=>[sl (a.map du.t)]) (λa=>du.ws a<=1099511627776) (λ_=>Hc):=by
 have e:∀c,nZ Tryz.prog cx 190 (λa:List du=>[sl (a.map du.t)]) (λa=>du.ws a<=1099511627776/\du.ws a<c) (λ_=>Hc):=by
  intro c
  induction c with
  |zero=>exact⟨λd b=>absurd b.2 (Nat.not_lt_zero _),λd b=>absurd b.2 (Nat.not_lt_zero _)⟩
  |succ c f=>exact AE (c+1) (B7 c f)
 exact⟨λd b=>(e _).1 d ⟨b,cS _⟩,λd b=>(e _).2 d ⟨b,cS _⟩⟩
def Pp(a:ez):Prop:=a.iP.length<=1000000/\a.dp.length<=1000000/\∀b∈a.dp,b.locals.length<=1000000/\du.ws b.body<=1000000
theorem Fo:nZ Tryz.prog cx 141 (λy:ez=>[y.t]) Pp (λ_=>Hc):=by
 refine jk (tb:=⟨pt [(189,xn.jl),(109,vP),(190,vX.jl)],ht []⟩) dX dU (iN 72128100255664255 [] Tryz.func141) (λy=>1000005) (λE b e=>by simp at e;exact ez.inj e) (by simp) (by simp[Tryz.f141]) ?_
 rintro⟨l,i⟩ ⟨A,ht,x⟩ a w
 simp at A ht x w
 simp[Tryz.f141,w]
 refine eQ l.length (by omega) (λk a e=>gh 1 e/\e.get 0=some ⟨2,0,0,true,false,[ez.t ⟨l,i⟩]⟩/\TI.dt a 1=some (.ptr 0 0 0 0)/\TI.dt a 3=some (.int .i64 k)) ?_ ?_ (by omega) (by simp)
 ·rintro j a e r u ⟨c,d,f,o⟩
  obtain⟨_,⟨b,rfl⟩,s⟩:=xn.use l[j] trivial
  simp[d,f,o,r,s]
  repeat' (refine dM (λh=> ?_) (λh=> ?_)<;>simp[h,d,f,o,u,c.hp,c])
 rintro a e ⟨c,d,f,o⟩
 simp[d,f,o]
 refine eQ i.length (by omega) (λk a e=>gh 1 e/\e.get 0=some ⟨2,0,0,true,false,[ez.t ⟨l,i⟩]⟩/\TI.dt a 1=some (.ptr 0 0 0 0)/\TI.dt a 4=some (.int .i64 k)) ?_ ?_ (by omega) (by simp[d,f,c])
 ·rintro j a e r u ⟨c,d,f,g⟩
  have C:=c.ne (b:=0) (by omega)
  obtain⟨hl,F⟩:=x i[j] (aF r)
  obtain⟨_,⟨b,rfl⟩,s⟩:=vX.use i[j].body (by omega)
  simp[d,f,g,r,c.low]
  generalize i[j]=v at*
  have D:=(c.cons ⟨4,0,1,true,false,[v.t]⟩)
  refine eQ v.locals.length (by omega) (λk a m=>gh 1 m/\m.get 0=some ⟨2,0,0,true,false,[ez.t ⟨l,i⟩]⟩/\m.get e.size=some ⟨4,0,1,true,false,[v.t]⟩/\TI.dt a 1=some (.ptr 0 0 0 0)/\TI.dt a 4=some (.int .i64 j)/\TI.dt a 5=some (.ptr e.size 0 0 0)/\TI.dt a 6=some (.int .i64 k)) ?_ ?_ (by omega) (by simp[d,f,g,C,D])
  ·rintro k a m B z ⟨c,d,n,f,g,p,q⟩
   simp[n,p,q,B,oM]
   repeat' (refine dM (λh=> ?_) (λh=> ?_)<;>simp[h,d,n,f,g,p,q,z,c.hp,c])
  ·rintro a m ⟨c,d,n,f,g,p,q⟩
   simp[n,p,q,oM,s]
   repeat' (refine dM (λh=> ?_) (λh=> ?_)<;>simp[h,d,f,g,u,c.hp,c])
 ·rintro a e ⟨c,d,f,g⟩
  simp[d,f,g,c.hp]
theorem EM:∀(c:List (List Nat)) (b:List Nat) (a:Nat),qV c b a=-1\/∃d,d<c.length/\qV c b a=((a+d:Nat):Int)
 | [],b,a=> .inl rfl
 |x::c,b,a=>by
  rw[qV]
  by_cases f:x=b
  ·rw[aq f];exact .inr ⟨0,by simp,by simp⟩
  ·rw[ao f]
   rcases EM c b (a+1)with e|⟨d,g,e⟩
   ·exact .inl e
   ·exact .inr ⟨d+1,by simpa using g,by rw[e];congr 1;omega⟩
def mw:fK:=⟨List f6×List Nat,λa=>[sl (a.1.map f6.t),.str a.2],λa=>a.1.length<=1099511627776,λa=> .int .i64 (qV (a.1.map f6.name) a.2 0),λa c b=>by
 simp at b;rw[ja (λ_ _=>f6.inj) b.1,b.2]⟩
theorem M2:mw.Ok Tryz.prog cx 191:=by
 refine f8 (tb:=⟨pt [],ht []⟩) dX dU (iN 262707 [] Tryz.func191) (λm=>m.1.length+1) (by simp[mw]) (by simp[mw,Tryz.f191]) ?_
 rintro⟨h,j⟩ hl c k
 simp[mw]at hl k|-
 obtain⟨b,d⟩:=k
 simp[Tryz.f191]
 refine eQ h.length (by omega) (λg c i=>i=hE/\TI.dt c 0=some (sl (h.map f6.t))/\TI.dt c 1=some (.str j)/\TI.dt c 5=some (.int .i64 g)/\qV ((h.drop g).map f6.name) j g=qV (h.map f6.name) j 0) ?_ ?_ (by omega) (by simp[b,d])
 ·rintro g c i l n ⟨rfl,b,d,e,a⟩
  rw[aJ l,aU,qV]at a
  simp[b,d,e,l]
  refine dM (λf=> ?_) (λf=> ?_)
  ·simp at f;rw[aq f]at a
   simp[e,<-a]
  ·simp at f;rw[ao f]at a
   simp[b,d,e,n,a]
 ·rintro c i ⟨rfl,b,d,e,a⟩
  simp[qV]at a
  simp[b,e,<-a]
theorem Ak{c:eG}(ht:c.p 191=some mw)(a:List f6)(b:List Nat)(hl:a.length<=1099511627776):rl Tryz.prog cx c 191 [sl (a.map f6.t),.str b]=some (.int .i64 (qV (a.map f6.name) b 0)):=fR ht M2 (a,b) hl
def kC:fK:=⟨List eY×List Nat,λa=>[sl (a.1.map eY.t),.str a.2],λa=>a.1.length<=1099511627776,λa=> .int .i64 (qV (a.1.map eY.name) a.2 0),λa c b=>by
 simp at b;rw[ja (λ_ _=>eY.inj) b.1,b.2]⟩
theorem HO:kC.Ok Tryz.prog cx 192:=by
 refine f8 (tb:=⟨pt [],ht []⟩) dX dU (iN 262707 [] Tryz.func192) (λm=>m.1.length+1) (by simp[kC]) (by simp[kC,Tryz.f192]) ?_
 rintro⟨h,j⟩ hl c k
 simp[kC]at hl k|-
 obtain⟨b,d⟩:=k
 simp[Tryz.f192]
 refine eQ h.length (by omega) (λg c i=>i=hE/\TI.dt c 0=some (sl (h.map eY.t))/\TI.dt c 1=some (.str j)/\TI.dt c 5=some (.int .i64 g)/\qV ((h.drop g).map eY.name) j g=qV (h.map eY.name) j 0) ?_ ?_ (by omega) (by simp[b,d])
 ·rintro g c i l n ⟨rfl,b,d,e,a⟩
  rw[aJ l,aU,qV]at a
  simp[b,d,e,l]
  refine dM (λf=> ?_) (λf=> ?_)
  ·simp at f;rw[aq f]at a
   simp[e,<-a]
  ·simp at f;rw[ao f]at a
   simp[b,d,e,n,a]
 ·rintro c i ⟨rfl,b,d,e,a⟩
  simp[qV]at a
  simp[b,e,<-a]
theorem vt{c:eG}(ht:c.p 192=some kC)(a:List eY)(b:List Nat)(hl:a.length<=1099511627776):rl Tryz.prog cx c 192 [sl (a.map eY.t),.str b]=some (.int .i64 (qV (a.map eY.name) b 0)):=fR ht HO (a,b) hl
theorem Fs:nZ Tryz.prog cx 247 (λh:ez×Int×List Nat=>[h.1.t,.int .i64 h.2.1,.str h.2.2]) (λh=>Pp h.1) (λ_=>CZ):=by
 refine jk (tb:=⟨pt [(110,z7),(191,mw),(192,kC)],ht []⟩) dX dU (iN 99132251962343631 [] Tryz.func247) (λ_=>5) (λh B c=>by simp at c;obtain⟨g,b,y⟩:=c;exact aR (ez.inj g) (aR b y)) (by simp) (by simp[Tryz.f247]) ?_
 rintro⟨⟨v,e⟩,d,m⟩ ⟨z,ht,s⟩ C x
 simp at z ht s x
 obtain⟨j,g,b⟩:=x
 have f:=λ{tb:eG} (c:tb.p 191=some mw)=>Ak c v m (by omega)
 have i:=λ{tb:eG} (c:tb.p 192=some kC)=>vt c e m (by omega)
 have w:d<0\/(e.length:Int)<=d\/∃u:Nat,u<e.length/\d=u:=by
  by_cases q:d<0
  ·exact .inl q
  by_cases A:(e.length:Int)<=d
  ·exact .inr (.inl A)
  ·exact .inr (.inr ⟨d.toNat,by omega,by omega⟩)
 rcases EM (v.map f6.name) m 0 with o|⟨u,n,o⟩
 ·simp only[o]at f
  rcases w with q|q|⟨l,k,rfl⟩
  ·simp[Tryz.f247,j,g,b,f,i,show¬0<=d by omega]
   repeat' (refine dM (λa=> ?_) (λa=> ?_)<;>simp[a])
  ·simp[Tryz.f247,j,g,b,f,i,show¬d<e.length by omega]
   repeat' (refine dM (λa=> ?_) (λa=> ?_)<;>simp[a])
  ·have r:=λ{tb:eG} (c:tb.p 110=some z7)=>LB c e[l].locals m (by have:=(s e[l] (aF k)).1;omega)
   simp[Tryz.f247,j,g,b,k,r]
   repeat' (refine dM (λa=> ?_) (λa=> ?_)<;>simp[a,b,f,i])
 ·simp at n o
  simp only[o]at f
  rcases w with q|q|⟨l,k,rfl⟩
  ·simp[Tryz.f247,j,g,b,f,show¬0<=d by omega]
   repeat' (refine dM (λa=> ?_) (λa=> ?_)<;>simp[a,b,i,n])
  ·simp[Tryz.f247,j,g,b,f,show¬d<e.length by omega]
   repeat' (refine dM (λa=> ?_) (λa=> ?_)<;>simp[a,b,i,n])
  ·have r:=λ{tb:eG} (c:tb.p 110=some z7)=>LB c e[l].locals m (by have:=(s e[l] (aF k)).1;omega)
   simp[Tryz.f247,j,g,b,k,r]
   repeat' (refine dM (λa=> ?_) (λa=> ?_)<;>simp[a,b,f,i,n])
theorem yq:nZ Tryz.prog cx 228 (λa:ez×Int×List Nat×Int×Int=>[a.1.t,.int .i64 a.2.1,.str a.2.2.1,.int .i64 a.2.2.2.1,.int .i64 a.2.2.2.2]) (λa=>Pp a.1) (λ_=>CZ):=by
 refine jk (tb:=⟨pt [(247,Fs.jl)],ht []⟩) dX dU (iN 33688639 [] Tryz.func228) (λ_=>5) (λa f c=>by simp at c;obtain⟨h,i,j,k,l⟩:=c;exact aR (ez.inj h) (aR i (aR j (aR k l)))) (by simp) (by simp[Tryz.f228]) ?_
 rintro⟨m,o,n,a,f⟩ e q b
 simp at e b
 obtain⟨_,⟨p,rfl⟩,g⟩:=Fs.use (m,o,n) e
 simp[Tryz.f228,b,g]
 repeat' (refine dM (λd=> ?_) (λd=> ?_)<;>simp[d,b])
theorem CJ:nZ Tryz.prog cx 230 (λa:Bool=>[.bool a]) (λ_=>True) (λ_=>CZ):=by
 refine jk (tb:=⟨pt [],ht []⟩) dX dU (iN 13 [] Tryz.func230) (λ_=>5) (λe a d=>by simpa using d) (by simp) (by simp[Tryz.f230]) ?_
 rintro a-f b
 simp at b
 simp[Tryz.f230,b]
 repeat' (refine dM (λc=> ?_) (λc=> ?_)<;>simp[c])
theorem T3:nZ Tryz.prog cx 227 (λa:Int×Int=>[.int .i64 a.1,.int .i64 a.2]) (λ_=>True) (λa f=>f= .int .i64 (if a.1=0 then a.2 else a.1)):=by
 refine jk (tb:=⟨pt [],ht []⟩) dX dU (iN 83 [] Tryz.func227) (λ_=>5) (λa e b=>by simp at b;exact aR b.1 b.2) (by simp) (by simp[Tryz.f227]) ?_
 rintro⟨a,e⟩-g c
 simp at c
 simp[Tryz.f227,c]
 refine dM (λd=> ?_) (λd=> ?_)<;>simp at d<;>simp[c,d]
theorem Jh:nZ Tryz.prog cx 248 (λa:dC=>[a.t]) (λa=>a.w<=1099511627776) (λ_=>FV):=by
 refine zR (λa=>a.w) λq p=> ?_
 refine jk (tb:=⟨pt [(248,p.jl)],ht []⟩) dX dU (iN 8703 [] Tryz.func248) (λa=>a.w+5) (λk m b=>by simp at b;exact dC.inj b) (by simp) (by simp[Tryz.f248]) ?_
 rintro a ⟨A,y⟩ c n
 simp at n
 have hl:=dC.tM (l:=a.l)
 have z:=a.kJ
 simp[Tryz.f248,n]
 refine eQ a.l.length (by omega) (λq c b=>gh 1 b/\b.get 0=some ⟨4,0,0,true,false,[a.t]⟩/\TI.dt c 1=some (.ptr 0 0 0 0)/\(∃i,TI.dt c 4=some (.int .i64 i))/\(∃i,TI.dt c 5=some (.int .i64 i))/\TI.dt c 6=some (.int .i64 q)) ?_ ?_ (by omega) ?_
 ·rintro u c b o s ⟨j,d,e,⟨k,f⟩,⟨m,g⟩,h⟩
  have:=dC.uk (aF o)
  obtain⟨_,⟨v,x,rfl⟩,r⟩:=p.use a.l[u] ⟨by omega,by omega⟩
  simp[d,e,f,g,h,o,r,s,oH,j]
 ·rintro c b ⟨j,d,e,⟨k,f⟩,⟨m,g⟩,h⟩
  simp[j.hp,d,e,f,g,h,oH]
 ·simp
theorem CL:nZ Tryz.prog cx 249 (λa:ez×Int×dC=>[a.1.t,.int .i64 a.2.1,a.2.2.t]) (λa=>Pp a.1/\a.2.2.w<=1099511627776) (λ_=>CZ):=by
 refine zR (λa=>a.2.2.w) λv u=> ?_
 refine jk (tb:=⟨pt [(228,yq.jl),(249,u.jl)],ht []⟩) dX dU (iN 8590200303 [] Tryz.func249) (λa=>a.2.2.w+5) (λa G c=>by simp at c;obtain⟨m,C,n⟩:=c;exact aR (ez.inj m) (aR C (dC.inj n))) (by simp) (by simp[Tryz.f249]) ?_
 rintro⟨i,j,b⟩ ⟨⟨h,F⟩,E⟩ d g
 simp only at h F E
 simp at g
 have hl:=dC.tM (l:=b.l)
 have I:=b.kJ
 obtain⟨_,⟨K,rfl⟩,z⟩:=yq.use (i,j,b.name,8,1) h
 obtain⟨_,⟨L,rfl⟩,A⟩:=yq.use (i,j,b.name,2,2) h
 simp[Tryz.f249,g]
 repeat' (refine dM (λe=> ?_) (λe=> ?_)<;>simp[e,g,z,A])
 all_goals
  refine S6 b.l.length (λv d c=>gh 2 c/\c.get 0=some ⟨2,0,0,true,false,[i.t]⟩/\c.get 1=some ⟨4,0,0,true,false,[b.t]⟩/\TI.dt d 1=some (.int .i64 j)/\TI.dt d 3=some (.ptr 0 0 0 0)/\TI.dt d 5=some (.ptr 1 0 0 0)/\(∃x,TI.dt d 7=some (.int .i64 x))/\TI.dt d 8=some (.int .i64 v)) ?_ (by omega) (aw _) (by simp[g])
  rintro s d c H ⟨r,y,k,m,n,o,⟨x,p⟩,q⟩
  by_cases f:s<b.l.length
  ·have:=dC.uk (aF f)
   have D:=II f (by omega)
   obtain⟨_,⟨J,rfl⟩,B⟩:=u.use (i,j,b.l[s]) ⟨⟨h,by simp only;omega⟩,by simp only;omega⟩
   simp[k,o,p,q,f]
   repeat' (refine dM (λe=> ?_) (λe=> ?_)<;>simp[e,r,r.hp,y,k,m,n,o,p,q,f,B,D])
  ·simp[r.hp,k,o,p,q,f]
theorem AZ:nZ Tryz.prog cx 229 (λa:ez×Int×dC=>[a.1.t,.int .i64 a.2.1,a.2.2.t]) (λa=>Pp a.1/\a.2.2.w<=1099511627776) (λ_=>CZ):=by
 refine jk (tb:=⟨pt [(245,nP.jl),(248,Jh.jl),(249,CL.jl)],ht []⟩) dX dU (iN 4196847 [] Tryz.func229) (λa=>5) (λa p e=>by simp at e;obtain⟨k,l,m⟩:=e;exact aR (ez.inj k) (aR l (dC.inj m))) (by simp) (by simp[Tryz.f229]) ?_
 rintro⟨n,o,c⟩ ⟨g,b⟩ v d
 simp only at g b
 simp at d
 obtain⟨_,⟨q,rfl⟩,h⟩:=nP.use c b
 obtain⟨_,⟨r,u,rfl⟩,i⟩:=Jh.use c b
 obtain⟨_,⟨s,rfl⟩,j⟩:=CL.use (n,o,c) ⟨g,b⟩
 simp[Tryz.f229,d,h]
 repeat' (refine dM (λf=> ?_) (λf=> ?_)<;>simp[f,d,i,j])
theorem Jj:nZ Tryz.prog cx 144 (λl:List du=>[sl (l.map du.t)]) (λl=>du.ws l<=1099511627776) (λ_=>CZ):=by
 refine zR (λl=>du.ws l) λk h=> ?_
 refine jk (tb:=⟨pt [(144,h.jl)],ht []⟩) dX dU (iN 1053 [(5,[(6,10),(6,12)])] Tryz.func144) (λl=>l.length+1) (λq m b=>ja (λ_ _=>du.inj) (by simpa using b)) (by simp) (by simp[Tryz.f144]) ?_
 rintro l ⟨u,s⟩ a f
 simp at f
 have hl:=du.tM (l:=l)
 simp[Tryz.f144,f]
 refine eQ l.length (by omega) (λk a b=>b=hE/\TI.dt a 0=some (sl (l.map du.t))/\(∃i,TI.dt a 3=some (.int .i64 i))/\TI.dt a 4=some (.int .i64 k)) ?_ ?_ (by omega) (by simp[f])
 ·rintro g a b j p ⟨rfl,c,⟨i,d⟩,e⟩
  have:=du.uk (aF j)
  rw[l[g].kJ]at this
  obtain⟨_,⟨m,rfl⟩,n⟩:=h.use l[g].body ⟨by omega,by omega⟩
  obtain⟨_,⟨r,rfl⟩,o⟩:=h.use l[g].K8 ⟨by omega,by omega⟩
  simp[c,d,e,j,n,o,p,oH]
 ·rintro a b ⟨rfl,c,⟨i,d⟩,e⟩
  simp[c,d,e]
theorem zb:nZ Tryz.prog cx 143 (λC:ez=>[C.t]) Pp (λ_=>FV):=by
 refine jk (tb:=⟨pt [(110,z7),(191,mw),(192,kC)],ht []⟩) dX dU (iN 1237940043933112819970491391 [] Tryz.func143) (λC=>1000005) (λI b a=>by simp at a;exact ez.inj a) (by simp) (by simp[Tryz.f143]) ?_
 rintro⟨q,g⟩ ⟨G,ht,B⟩ d z
 simp at G ht B z
 simp[Tryz.f143,z]
 have y:=λ{tb:eG} (a:tb.p 191=some mw) k=>Ak a q k (by omega)
 have eT:=λ{tb:eG} (a:tb.p 192=some kC) k=>vt a g k (by omega)
 refine eQ g.length (by omega) (λj d a=>gh 1 a/\a.get 0=some ⟨2,0,0,true,false,[ez.t ⟨q,g⟩]⟩/\TI.dt d 1=some (.ptr 0 0 0 0)/\TI.dt d 4=some (.int .i64 j)) ?_ ?_ (by omega) (by simp)
 ·rintro n d a m x ⟨c,e,f,r⟩
  have v:=c.ne (b:=0) (by omega)
  have E:=λ{tb:eG} (a:tb.p 192=some kC) k=>vt a (g.take n) k (by rw[List.length_take];omega)
  simp[e,f,r,m,v,c.low,y,E,bC m]
  repeat' (refine dM (λi=> ?_) (λi=> ?_)<;>simp[i,e,f,r,x,c.hp,c,v,gh.cons])
 rintro d a ⟨c,e,f,r⟩
 simp[e,f,r]
 refine eQ g.length (by omega) (λj d a=>gh 1 a/\a.get 0=some ⟨2,0,0,true,false,[ez.t ⟨q,g⟩]⟩/\TI.dt d 1=some (.ptr 0 0 0 0)/\TI.dt d 6=some (.int .i64 j)) ?_ ?_ (by omega) (by simp[e,f,c])
 ·rintro n d a m x ⟨c,e,f,h⟩
  have v:=c.ne (b:=0) (by omega)
  obtain⟨hl,J⟩:=B g[n] (aF m)
  simp[e,f,h,m,c.low]
  generalize g[n]=w at*
  have H:=(c.cons ⟨4,0,1,true,false,[w.t]⟩)
  refine dM (λi=> ?_) (λi=> ?_)
  ·simp[c.hp]
  simp
  refine eQ w.locals.length (by omega) (λj d l=>gh 1 l/\l.get 0=some ⟨2,0,0,true,false,[ez.t ⟨q,g⟩]⟩/\l.get a.size=some ⟨4,0,1,true,false,[w.t]⟩/\TI.dt d 1=some (.ptr 0 0 0 0)/\TI.dt d 6=some (.int .i64 n)/\TI.dt d 7=some (.ptr a.size 0 0 0)/\TI.dt d 8=some (.int .i64 j)) ?_ ?_ (by omega) (by simp[e,f,h,v,H])
  ·rintro j d l A F ⟨c,e,o,f,h,s,u⟩
   have D:=λ{tb:eG} (a:tb.p 110=some z7) k=>LB a (w.locals.take j) k (by rw[List.length_take];omega)
   simp[e,o,f,s,u,A,y,eT,D,bC A]
   repeat' (refine dM (λi=> ?_) (λi=> ?_)<;>simp[i,e,o,f,h,s,u,F,c.hp,c])
  ·rintro d l ⟨c,e,o,f,h,s,u⟩
   simp[e,o,f,h,s,u,x,c]
 ·rintro d a ⟨c,e,f,h⟩
  simp[e,f,h,c.hp]
end
end Go.Proofs.YtmaeadedikngoaaGreatDoor
