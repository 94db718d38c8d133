/- W02 -/
import Derived.Test.YtbappgeamhmmbaaGreatDoorA14
set_option linter.all false
set_option maxRecDepth 100000
set_option maxHeartbeats 0
namespace Go.Proofs.YtbappgeamhmmbaaGreatDoor
noncomputable section
open Go Go.TI Tryz
attribute [-simp] List.map_take List.map_drop List.map_append fj ez TI.d8 Bool.not_or Bool.not_and
attribute [simp] fh eG
def JU:mW prog cx 270 (λa:dL=>[a.t]) (λ_=>True) (λ_=>FE):=by
 refine iS [] (iP 7 [] func270) (λ_=>5) (λd e b=>by simp at b;exact dL.inj b) ?_;rintro a-f c;simp at c;simp[f270,c]
def BZ:mW prog cx 288 (λc:Int=>[D c]) (λ_=>True) (λ_=>D7):=by
 refine iS [] (iP 132109 [] func288) (λ_=>5) (λe f d=>by simpa using d) ?_;rintro c-g a;simp at a;simp[f288,a]
 repeat' (refine dV (λb=>?_) (λb=>?_)<;>simp[b,a])
def nY:mW prog cx 269 (λa:dL=>[a.t]) (λa=>a.w<=1099511627776) (λ_=>FE):=by
 refine AY (λa=>a.w) λn m=>?_;refine iS [(288,BZ.ji),(122,yc),(269,m.ji)] (iP 18483898770635358239 [(2,[(2,4)])] func269) (λa=>a.w+5) (λs o b=>by simp at b;exact dL.inj b) ?_;rintro a ⟨x,u⟩ d j;simp at j;obtain⟨_,⟨y,rfl⟩,p⟩:=BZ.use a.op trivial;have hl:=dL.uf (l:=a.l);have v:=a.kQ;simp[f269,j,p,ni];refine dV (λh=>?_) (λh=>?_)
 ·simp
 simp;refine fc a.l.length B (λn d b=>gH 1 b/\b.get 0=some (Z 4 0 [a.t])/\dy d 1 (.ptr 0 0 0 0)/\dy d 4 (D n)) ?_ ?_ B ?_
 ·rintro r d b i k ⟨c,e,f,g⟩;obtain⟨_,⟨o,rfl⟩,q⟩:=m.use a.l[r] ⟨by have:=dL.uE (aD i);omega,by have:=dL.uE (aD i);omega⟩;simp[c.hp,e,f,g,i,q,k]
  repeat' (refine dV (λh=>?_) (λh=>?_)<;>simp[h,c.hp,e,f,g,c,k])
 ·rintro d b ⟨c,e,f,g⟩;simp[c.hp,e,f,g]
 ·simp
def yq:mW prog cx 207 (λd:gU=>[d.t]) (λ_=>True) (λ_=>FE):=by
 refine iS [(122,yc)] (iP 1125902054326279 [] func207) (λ_=>5) (λe f b=>by simp at b;exact gU.inj b) ?_;rintro g-h a;simp at a;simp[f207,a,ni]
 repeat' (refine dV (λc=>?_) (λc=>?_)<;>simp[c,a,ni])
def C9(o:Nat)(k:mW prog cx 208 (λj:List dH=>[sl (j.map dH.t)]) (λj=>dH.ws j<=1099511627776/\dH.ws j<o) (λ_=>FE)):
 mW prog cx 247 (λa:dH=>[a.t]) (λa=>a.w<=1099511627776/\a.w<o+1) (λ_=>FE):=by
 refine iS [(269,nY.ji),(122,yc),(208,k.ji),(270,JU.ji)] (iP 182687706027492332498828539273953093013162958911 [] func247) (λ_=>5) (λq r m=>by simp at m;exact dH.inj m) ?_;rintro a ⟨n,p⟩ C b;simp at b;rw[a.kQ]at n p;obtain⟨_,⟨s,rfl⟩,f⟩:=nY.use a.e B;obtain⟨_,⟨u,rfl⟩,g⟩:=k.use a.body ⟨B,B⟩;obtain⟨_,⟨v,rfl⟩,h⟩:=k.use a.LV ⟨B,B⟩;obtain⟨_,⟨y,rfl⟩,i⟩:=JU.use a.e trivial
 match d:a.index with
 | []=>
  simp[f247,b,ni,f,g,h,i,d]
  repeat' (refine dV (λc=>?_) (λc=>?_)<;>simp[c,b,ni,f,g,h,i,d])
 |x::A=>
  obtain⟨_,⟨z,rfl⟩,l⟩:=nY.use x (by rw[d,dL.jR]at n;omega);simp[f247,b,ni,f,g,h,i,l,d]
  repeat' (refine dV (λc=>?_) (λc=>?_)<;>simp[c,b,ni,f,g,h,i,l,d])
def BA(e:Nat)(k:mW prog cx 247 (λf:dH=>[f.t]) (λf=>f.w<=1099511627776/\f.w<e) (λ_=>FE)):
 mW prog cx 208 (λl:List dH=>[sl (l.map dH.t)]) (λl=>dH.ws l<=1099511627776/\dH.ws l<e) (λ_=>FE):=by
 refine iS [(247,k.ji)] (iP 32909 [] func208) (λl=>l.length+1) (λp m a=>jt (λ_ _=>dH.inj) (by simpa using a)) ?_;rintro l ⟨r,q⟩ b g;simp at g;have hl:=dH.uf (l:=l);simp[f208,g];refine fc l.length B (λe b a=>a=hE/\dy b 0 (sl (l.map dH.t))/\dy b 3 (D e)) ?_ ?_ B (by simp[g])
 ·rintro o b a j h ⟨rfl,c,d⟩;have:=dH.uE (aD j);obtain⟨_,⟨m,rfl⟩,n⟩:=k.use l[o] ⟨B,B⟩;simp[c,d,j,n,h]
  repeat' (refine dV (λi=>?_) (λi=>?_)<;>simp[i,c,d,h])
 ·rintro b a ⟨rfl,c,d⟩;simp[c,d]
def wL:mW prog cx 208 (λa:List dH=>[sl (a.map dH.t)]) (λa=>dH.ws a<=1099511627776) (λ_=>FE):=by
 have e:∀c,mW prog cx 208 (λa:List dH=>[sl (a.map dH.t)]) (λa=>dH.ws a<=1099511627776/\dH.ws a<c) (λ_=>FE):=by
  intro c;induction c with
  |zero=>exact⟨λd b=>absurd b.2 (Nat.not_lt_zero _),λd b=>absurd b.2 (Nat.not_lt_zero _)⟩
  |succ c f=>exact BA (c+1) (C9 c f)
 exact⟨λd b=>(e _).1 d ⟨b,cU _⟩,λd b=>(e _).2 d ⟨b,cU _⟩⟩
def Qx(a:fx):Prop:=a.jc.length<=1000000/\a.dC.length<=1000000/\∀b∈a.dC,b.locals.length<=1000000/\dH.ws b.body<=1000000
def Gf:mW prog cx 152 (λA:fx=>[A.t]) Qx (λ_=>FE):=by
 refine iS [(207,yq.ji),(122,yc),(208,wL.ji)] (iP 72128100255664255 [] func152) (λA=>1000005) (λG b f=>by simp at f;exact fx.inj f) ?_;rintro⟨m,i⟩ ⟨C,ht,z⟩ c w;simp at C ht z w;simp[f152,w];refine fc m.length B (λk c f=>gH 1 f/\f.get 0=some (Z 2 0 [fx.t ⟨m,i⟩])/\dy c 1 (.ptr 0 0 0 0)/\dy c 3 (D k)) ?_ ?_ B J
 ·rintro j c f s q ⟨a,d,e,r⟩;obtain⟨_,⟨b,rfl⟩,u⟩:=yq.use m[j] trivial;simp[d,e,r,s,u,q,a.hp]
  repeat' (refine dV (λh=>?_) (λh=>?_)<;>simp[h,d,e,r,q,a.hp,a])
 rintro c f ⟨a,d,e,r⟩;simp[d,e,r,a.hp];refine fc i.length B (λk c f=>gH 1 f/\f.get 0=some (Z 2 0 [fx.t ⟨m,i⟩])/\dy c 1 (.ptr 0 0 0 0)/\dy c 4 (D k)) ?_ ?_ B (by simp[d,e,a])
 ·rintro j c f s q ⟨a,d,e,g⟩;have y:=a.ne (b:=0) B;have⟨hl,H⟩:=z i[j] (aD s);obtain⟨_,⟨b,rfl⟩,u⟩:=wL.use i[j].body B;simp[d,e,g,s,y,a.low];generalize i[j]=v at*
  have F:=(a.cons (Z 4 1 [v.t]));refine fc v.locals.length B (λk c n=>gH 1 n/\n.get 0=some (Z 2 0 [fx.t ⟨m,i⟩])/\n.get f.size=some (Z 4 1 [v.t])/\dy c 1 (.ptr 0 0 0 0)/\dy c 4 (D j)/\dy c 5 (.ptr f.size 0 0 0)/\dy c 6 (D k)) ?_ ?_ B (by simp[d,e,g,y,F])
  ·rintro k c n E x ⟨a,d,l,e,g,o,p⟩;simp[d,l,e,g,o,p,E,x,ni,a.hp]
   repeat' (refine dV (λh=>?_) (λh=>?_)<;>simp[h,d,l,e,g,o,p,x,a.hp,a])
  ·rintro c n ⟨a,d,l,e,g,o,p⟩;simp[d,l,e,g,o,p,ni,a.hp,u,q]
   repeat' (refine dV (λh=>?_) (λh=>?_)<;>simp[h,d,l,e,g,o,p,q,a.hp,a])
 ·rintro c f ⟨a,d,e,g⟩;simp[d,e,g,a.hp]
def Fs:∀(c:List (List Nat)) (b:List Nat) (a:Nat),rm c b a=-1\/∃d,d<c.length/\rm c b a=((a+d:Nat):Int)
 | [],b,a=> .inl rfl
 |x::c,b,a=>by
  rw[rm];by_cases f:x=b
  ·rw[aq f];exact .inr ⟨0,J,J⟩
  ·rw[ao f];rcases Fs c b (a+1)with e|⟨d,g,e⟩
   ·exact .inl e
   ·exact .inr ⟨d+1,by simpa using g,by rw[e];congr 1;omega⟩
def nd:ge:=⟨List gU×List Nat,λa=>[sl (a.1.map gU.t),.str a.2],λa=>a.1.length<=1099511627776,λa=> D (rm (a.1.map gU.name) a.2 0),λa c b=>by
 simp at b;rw[jt (λ_ _=>gU.inj) b.1,b.2]⟩
def N2:nd.Ok prog cx 209:=by
 refine fR [] (iP 262707 [] func209) (λm=>m.1.length+1) (by simp[nd]) ?_;rintro⟨h,j⟩ hl d k;simp[nd]at hl k|-;obtain⟨b,c⟩:=k;simp[f209,b,c];refine fc h.length B (λg d i=>i=hE/\dy d 0 (sl (h.map gU.t))/\dy d 1 (.str j)/\dy d 5 (D g)/\rm ((h.drop g).map gU.name) j g=rm (h.map gU.name) j 0) ?_ ?_ B (by simp[b,c])
 ·rintro g d i l n ⟨rfl,b,c,e,a⟩;rw[aH l,aP,rm]at a;simp[b,c,e,l];refine dV (λf=>?_) (λf=>?_)
  ·simp at f;rw[aq f]at a;simp[e,<-a]
  ·simp at f;rw[ao f]at a;simp[b,c,e,n,a]
 ·rintro d i ⟨rfl,b,c,e,a⟩;simp[rm]at a;simp[b,c,e,<-a]
def Be{c:fw}(ht:c.p 209=some nd)(a:List gU)(b:List Nat)(hl:a.length<=1099511627776):rl prog cx c 209 [sl (a.map gU.t),.str b]=some (D (rm (a.map gU.name) b 0)):=gG ht N2 (a,b) hl
def ll:ge:=⟨List fJ×List Nat,λa=>[sl (a.1.map fJ.t),.str a.2],λa=>a.1.length<=1099511627776,λa=> D (rm (a.1.map fJ.name) a.2 0),λa c b=>by
 simp at b;rw[jt (λ_ _=>fJ.inj) b.1,b.2]⟩
def Io:ll.Ok prog cx 210:=by
 refine fR [] (iP 262707 [] func210) (λm=>m.1.length+1) (by simp[ll]) ?_;rintro⟨h,j⟩ hl d k;simp[ll]at hl k|-;obtain⟨b,c⟩:=k;simp[f210,b,c];refine fc h.length B (λg d i=>i=hE/\dy d 0 (sl (h.map fJ.t))/\dy d 1 (.str j)/\dy d 5 (D g)/\rm ((h.drop g).map fJ.name) j g=rm (h.map fJ.name) j 0) ?_ ?_ B (by simp[b,c])
 ·rintro g d i l n ⟨rfl,b,c,e,a⟩;rw[aH l,aP,rm]at a;simp[b,c,e,l];refine dV (λf=>?_) (λf=>?_)
  ·simp at f;rw[aq f]at a;simp[e,<-a]
  ·simp at f;rw[ao f]at a;simp[b,c,e,n,a]
 ·rintro d i ⟨rfl,b,c,e,a⟩;simp[rm]at a;simp[b,c,e,<-a]
def wu{c:fw}(ht:c.p 210=some ll)(a:List fJ)(b:List Nat)(hl:a.length<=1099511627776):rl prog cx c 210 [sl (a.map fJ.t),.str b]=some (D (rm (a.map fJ.name) b 0)):=gG ht Io (a,b) hl
def Gh:mW prog cx 271 (λl:fx×Int×List Nat=>[l.1.t,D l.2.1,.str l.2.2]) (λl=>Qx l.1) (λ_=>D7):=by
 refine iS [(123,BP),(209,nd),(210,ll)] (iP 99132251962343631 [] func271) (λ_=>5) (λl E g=>by simp at g;obtain⟨c,d,z⟩:=g;exact aI (fx.inj c) (aI d z)) ?_;rintro⟨⟨w,i⟩,h,o⟩ ⟨A,ht,u⟩ F y;simp at A ht u y;obtain⟨f,c,d⟩:=y;have b:=λ{k:fw} (g:k.p 209=some nd)=>Be g w o B;have e:=λ{k:fw} (g:k.p 210=some ll)=>wu g i o B;have x:h<0\/(i.length:Int)<=h\/∃v:Nat,v<i.length/\h=v:=by
  by_cases q:h<0
  ·exact .inl q
  by_cases C:(i.length:Int)<=h
  ·exact .inr (.inl C)
  ·exact .inr (.inr ⟨h.toNat,B,B⟩)
 rcases Fs (w.map gU.name) o 0 with r|⟨v,j,r⟩
 ·simp only[r]at b;rcases x with q|q|⟨n,m,rfl⟩
  ·simp[f271,f,c,d,b,e,show¬0<=h by omega]
   repeat' (refine dV (λa=>?_) (λa=>?_)<;>simp[a,f,c,d,b,e])
  ·simp[f271,f,c,d,b,e,show¬h<i.length by omega]
   repeat' (refine dV (λa=>?_) (λa=>?_)<;>simp[a,f,c,d,b,e])
  ·have s:=λ{k:fw} (g:k.p 123=some BP)=>Mt g i[n].locals o (by have:=(u i[n] (aD m)).1;omega);simp[f271,f,c,d,b,e,m,s]
   repeat' (refine dV (λa=>?_) (λa=>?_)<;>simp[a,f,c,d,b,e])
 ·simp at j r;simp only[r]at b;rcases x with q|q|⟨n,m,rfl⟩
  ·simp[f271,f,c,d,b,e,show¬0<=h by omega,j]
   repeat' (refine dV (λa=>?_) (λa=>?_)<;>simp[a,f,c,d,b,e,j])
  ·simp[f271,f,c,d,b,e,show¬h<i.length by omega,j]
   repeat' (refine dV (λa=>?_) (λa=>?_)<;>simp[a,f,c,d,b,e,j])
  ·have s:=λ{k:fw} (g:k.p 123=some BP)=>Mt g i[n].locals o (by have:=(u i[n] (aD m)).1;omega);simp[f271,f,c,d,b,e,m,j,s]
   repeat' (refine dV (λa=>?_) (λa=>?_)<;>simp[a,f,c,d,b,e,j])
def zw:mW prog cx 250 (λa:fx×Int×List Nat×Int×Int=>[a.1.t,D a.2.1,.str a.2.2.1,D a.2.2.2.1,D a.2.2.2.2]) (λa=>Qx a.1) (λ_=>D7):=by
 refine iS [(271,Gh.ji)] (iP 33688639 [] func250) (λ_=>5) (λa f c=>by simp at c;obtain⟨h,i,j,k,l⟩:=c;exact aI (fx.inj h) (aI i (aI j (aI k l)))) ?_;rintro⟨m,o,n,a,f⟩ e q b;simp at e b;obtain⟨_,⟨p,rfl⟩,g⟩:=Gh.use (m,o,n) e;simp[f250,b,g]
 repeat' (refine dV (λd=>?_) (λd=>?_)<;>simp[d,b])
def DU:mW prog cx 252 (λa:Bool=>[.bool a]) (λ_=>True) (λ_=>D7):=by
 refine iS [] (iP 13 [] func252) (λ_=>5) (λe a d=>by simpa using d) ?_;rintro a-f b;simp at b;simp[f252,b]
 repeat' (refine dV (λc=>?_) (λc=>?_)<;>simp[c,b])
def Vi:mW prog cx 249 (λa:Int×Int=>[D a.1,D a.2]) (λ_=>True) (λa f=>f= D (if a.1=0 then a.2 else a.1)):=by
 refine iS [] (iP 83 [] func249) (λ_=>5) (λa e b=>by simp at b;exact aI b.1 b.2) ?_;rintro⟨a,e⟩-g c;simp at c;simp[f249,c];refine dV (λd=>?_) (λd=>?_)<;>simp at d<;>simp[c,d]
def JR:mW prog cx 272 (λa:dL=>[a.t]) (λa=>a.w<=1099511627776) (λ_=>GN):=by
 refine AY (λa=>a.w) λq p=>?_;refine iS [(272,p.ji)] (iP 8703 [] func272) (λa=>a.w+5) (λk m b=>by simp at b;exact dL.inj b) ?_;rintro a ⟨A,y⟩ c n;simp at n;have hl:=dL.uf (l:=a.l);have z:=a.kQ;simp[f272,n];refine fc a.l.length B (λq c b=>gH 1 b/\b.get 0=some (Z 4 0 [a.t])/\dy c 1 (.ptr 0 0 0 0)/\(∃j,dy c 4 (D j))/\(∃j,dy c 5 (D j))/\dy c 6 (D q)) ?_ ?_ B ?_
 ·rintro u c b o s ⟨d,e,f,⟨k,g⟩,⟨m,h⟩,i⟩;have:=dL.uE (aD o);obtain⟨_,⟨v,x,rfl⟩,r⟩:=p.use a.l[u] ⟨B,B⟩;simp[d.hp,e,f,g,h,i,o,r,s,nG,d]
 ·rintro c b ⟨d,e,f,⟨k,g⟩,⟨m,h⟩,i⟩;simp[d.hp,e,f,g,h,i,nG]
 ·simp
def DV:mW prog cx 273 (λa:fx×Int×dL=>[a.1.t,D a.2.1,a.2.2.t]) (λa=>Qx a.1/\a.2.2.w<=1099511627776) (λ_=>D7):=by
 refine AY (λa=>a.2.2.w) λz y=>?_;refine iS [(250,zw.ji),(273,y.ji)] (iP 8590200303 [] func273) (λa=>a.2.2.w+5) (λa I c=>by simp at c;obtain⟨e,E,f⟩:=c;exact aI (fx.inj e) (aI E (dL.inj f))) ?_;rintro⟨m,n,b⟩ ⟨⟨k,H⟩,G⟩ d j;simp only at k H G;simp at j;have hl:=dL.uf (l:=b.l);have L:=b.kQ;obtain⟨_,⟨N,rfl⟩,u⟩:=zw.use (m,n,b.name,8,1) k;obtain⟨_,⟨O,rfl⟩,v⟩:=zw.use (m,n,b.name,2,2) k;simp[f273,j,u,v]
 repeat' (refine dV (λg=>?_) (λg=>?_)<;>simp[g,j,u,v])
 all_goals
  refine PR b.l.length (λz d c=>gH 2 c/\c.get 0=some (Z 2 0 [m.t])/\c.get 1=some (Z 4 0 [b.t])/\dy d 1 (D n)/\dy d 3 (.ptr 0 0 0 0)/\dy d 5 (.ptr 1 0 0 0)/\(∃A,dy d 7 (D A))/\dy d 8 (D z)) ?_ B (aw _) (by simp[j]);rintro x d c K ⟨i,o,p,e,f,q,⟨A,r⟩,s⟩;by_cases h:x<b.l.length
  ·have:=dL.uE (aD h);have F:=Jj h B;obtain⟨_,⟨M,rfl⟩,C⟩:=y.use (m,n,b.l[x]) ⟨⟨k,dq⟩,dq⟩;simp[i,o,p,e,f,q,r,s,h]
   repeat' (refine dV (λg=>?_) (λg=>?_)<;>simp[g,i,i.hp,o,p,e,f,q,r,s,h,C,F])
  ·simp[i,i.hp,o,p,e,f,q,r,s,h]
def B1:mW prog cx 251 (λa:fx×Int×dL=>[a.1.t,D a.2.1,a.2.2.t]) (λa=>Qx a.1/\a.2.2.w<=1099511627776) (λ_=>D7):=by
 refine iS [(269,nY.ji),(272,JR.ji),(273,DV.ji)] (iP 4196847 [] func251) (λa=>5) (λa p f=>by simp at f;obtain⟨k,l,m⟩:=f;exact aI (fx.inj k) (aI l (dL.inj m))) ?_;rintro⟨n,o,c⟩ ⟨h,b⟩ v d;simp only at h b;simp at d;obtain⟨_,⟨q,rfl⟩,e⟩:=nY.use c b;obtain⟨_,⟨r,u,rfl⟩,i⟩:=JR.use c b;obtain⟨_,⟨s,rfl⟩,j⟩:=DV.use (n,o,c) ⟨h,b⟩;simp[f251,d,e]
 repeat' (refine dV (λg=>?_) (λg=>?_)<;>simp[g,d,e,i,j])
def JT:mW prog cx 155 (λl:List dH=>[sl (l.map dH.t)]) (λl=>dH.ws l<=1099511627776) (λ_=>D7):=by
 refine AY (λl=>dH.ws l) λk h=>?_;refine iS [(155,h.ji)] (iP 1053 [(5,[(6,10),(6,12)])] func155) (λl=>l.length+1) (λq m b=>jt (λ_ _=>dH.inj) (by simpa using b)) ?_;rintro l ⟨u,s⟩ a f;simp at f;have hl:=dH.uf (l:=l);simp[f155,f];refine fc l.length B (λk a b=>b=hE/\dy a 0 (sl (l.map dH.t))/\(∃i,dy a 3 (D i))/\dy a 4 (D k)) ?_ ?_ B (by simp[f])
 ·rintro g a b j p ⟨rfl,c,⟨i,d⟩,e⟩;have:=dH.uE (aD j);rw[l[g].kQ]at this;obtain⟨_,⟨m,rfl⟩,n⟩:=h.use l[g].body ⟨B,B⟩;obtain⟨_,⟨r,rfl⟩,o⟩:=h.use l[g].LV ⟨B,B⟩;simp[c,d,e,j,n,o,p,nG]
 ·rintro a b ⟨rfl,c,⟨i,d⟩,e⟩;simp[c,d,e]
def Ax:mW prog cx 154 (λF:fx=>[F.t]) Qx (λ_=>GN):=by
 refine iS [(123,BP),(209,nd),(210,ll)] (iP 1237940043933112819970491391 [] func154) (λF=>1000005) (λM b a=>by simp at a;exact fx.inj a) ?_;rintro⟨s,h⟩ ⟨K,ht,E⟩ d A;simp at K ht E A;simp[f154,A];have z:=λ{l:fw} (a:l.p 209=some nd) k=>Be a s k B;have eT:=λ{l:fw} (a:l.p 210=some ll) k=>wu a h k B;refine fc h.length B (λj d a=>gH 1 a/\a.get 0=some (Z 2 0 [fx.t ⟨s,h⟩])/\dy d 1 (.ptr 0 0 0 0)/\dy d 4 (D j)) ?_ ?_ B J
 ·rintro q d a o y ⟨c,e,f,u⟩;have m:=c.ne (b:=0) B;have H:=λ{l:fw} (a:l.p 210=some ll) k=>wu a (h.take q) k (by rw[List.length_take];omega);simp[e,f,u,o,m,c.low,z,H,bm o]
  repeat' (refine dV (λi=>?_) (λi=>?_)<;>simp[i,e,f,u,y,c.hp,c,m,gH.cons])
 rintro d a ⟨c,e,f,u⟩;simp[e,f,u,c.hp];refine fc h.length B (λj d a=>gH 1 a/\a.get 0=some (Z 2 0 [fx.t ⟨s,h⟩])/\dy d 1 (.ptr 0 0 0 0)/\dy d 6 (D j)) ?_ ?_ B (by simp[e,f,c])
 ·rintro q d a o y ⟨c,e,f,g⟩;have m:=c.ne (b:=0) B;have⟨hl,N⟩:=E h[q] (aD o);simp[e,f,g,o,m,c.low];generalize h[q]=x at*
  have L:=(c.cons (Z 4 1 [x.t]));refine dV (λi=>?_) (λi=>?_)
  ·simp[e,f,g,m,c.hp]
  simp;refine fc x.locals.length B (λj d n=>gH 1 n/\n.get 0=some (Z 2 0 [fx.t ⟨s,h⟩])/\n.get a.size=some (Z 4 1 [x.t])/\dy d 1 (.ptr 0 0 0 0)/\dy d 6 (D q)/\dy d 7 (.ptr a.size 0 0 0)/\dy d 8 (D j)) ?_ ?_ B (by simp[e,f,g,m,L])
  ·rintro j d n C I ⟨c,e,r,f,g,v,w⟩;have G:=λ{l:fw} (a:l.p 123=some BP) k=>Mt a (x.locals.take j) k (by rw[List.length_take];omega);simp[e,r,f,g,v,w,C,z,eT,G,bm C]
   repeat' (refine dV (λi=>?_) (λi=>?_)<;>simp[i,e,r,f,g,v,w,I,c.hp,c])
  ·rintro d n ⟨c,e,r,f,g,v,w⟩;simp[e,r,f,g,v,w,c.hp,y,c]
 ·rintro d a ⟨c,e,f,g⟩;simp[e,f,g,c.hp]
