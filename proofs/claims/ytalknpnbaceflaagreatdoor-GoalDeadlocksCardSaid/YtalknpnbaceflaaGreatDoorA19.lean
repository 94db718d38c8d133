/- W02 -/
import Derived.Test.YtalknpnbaceflaaGreatDoorA11
import Derived.Test.YtalknpnbaceflaaGreatDoorA15
set_option linter.all false
set_option maxRecDepth 100000
set_option maxHeartbeats 0
namespace Go.Proofs.YtalknpnbaceflaaGreatDoor
noncomputable section
open Go Go.TI Tryz
attribute [-simp] List.map_take List.map_drop List.map_append ij gG fK Bool.not_or Bool.not_and
attribute [simp] ig gJ
def OW:pM prog cx 250 (λa:fF=>[a.t]) (λ_=>True) (λ_=>J7):=by
 refine jU [] (jF 7 [] func250) (λ_=>5) (λd e b=>by simp at b;exact fF.inj b) ?_;rintro a-f c;simp at c;simp[f250,c]
def FC:pM prog cx 268 (λc:Int=>[C c]) (λ_=>True) (λ_=>Ik):=by
 refine jU [] (jF 132109 [] func268) (λ_=>5) (λe f d=>by simpa using d) ?_;rintro c-g a;simp at a;simp[f268,a]
 repeat' (refine fN (λb=>?_) (λb=>?_)<;>simp[b,a])
def qO:pM prog cx 249 (λa:fF=>[a.t]) (λa=>a.w<=1099511627776) (λ_=>J7):=by
 refine Ej (λa=>a.w) λm k=>?_;refine jU [(268,FC.kc),(125,Bz),(249,k.kc)] (jF 18483898770635358239 [(2,[(2,4)])] func249) (λa=>a.w+5) (λs n b=>by simp at b;exact fF.inj b) ?_;rintro a ⟨x,u⟩ c j;simp at j;obtain⟨_,⟨y,rfl⟩,o⟩:=FC.use a.op trivial;have hl:=fF.xz (l:=a.l);have v:=a.nd;simp[f249,j,o,sJ];refine fN (λg=>?_) (λg=>?_)
 ·simp
 simp;refine ik a.l.length B (λm c b=>iQ 1 b/\b.get 0=some (X 4 0 [a.t])/\Y c 1 (.fc 0 0 0 0)/\Y c 4 (C m)) ?_ ?_ B ?_
 ·rintro r c b i q ⟨h,d,e,f⟩;obtain⟨_,⟨n,rfl⟩,p⟩:=k.use a.l[r] ⟨by have:=fF.yk (aG i);omega,by have:=fF.yk (aG i);omega⟩;simp[d,e,f,i,p]
  repeat' (refine fN (λg=>?_) (λg=>?_)<;>simp[g,h.hp,d,e,f,h,q])
 ·rintro c b ⟨h,d,e,f⟩;simp[h.hp,d,e,f]
 ·simp
def BN:pM prog cx 194 (λd:jo=>[d.t]) (λ_=>True) (λ_=>J7):=by
 refine jU [(125,Bz)] (jF 1125902054326279 [] func194) (λ_=>5) (λe f a=>by simp at a;exact jo.inj a) ?_;rintro g-h b;simp at b;simp[f194,b,sJ]
 repeat' (refine fN (λc=>?_) (λc=>?_)<;>simp[c,sJ])
def Hb(n:Nat)(g:pM prog cx 195 (λd:List eQ=>[sl (d.map eQ.t)]) (λd=>eQ.ws d<=1099511627776/\eQ.ws d<n) (λ_=>J7)):
 pM prog cx 229 (λa:eQ=>[a.t]) (λa=>a.w<=1099511627776/\a.w<n+1) (λ_=>J7):=by
 refine jU [(249,qO.kc),(125,Bz),(195,g.kc),(250,OW.kc)] (jF 182687706027492332498828539273953093013162958911 [] func229) (λ_=>5) (λq r l=>by simp at l;exact eQ.inj l) ?_;rintro a ⟨m,p⟩ D f;simp at f;rw[a.nd]at m p;obtain⟨_,⟨s,rfl⟩,h⟩:=qO.use a.e B;obtain⟨_,⟨u,rfl⟩,i⟩:=g.use a.body ⟨B,B⟩;obtain⟨_,⟨v,rfl⟩,j⟩:=g.use a.Rv ⟨B,B⟩;obtain⟨_,⟨y,rfl⟩,k⟩:=OW.use a.e trivial
 match c:a.index with
 | []=>
  simp[f229,f,c]
  repeat' (refine fN (λb=>?_) (λb=>?_)<;>simp[b,sJ,h,i,j,k,c])
 |x::A=>
  obtain⟨_,⟨z,rfl⟩,o⟩:=qO.use x (by rw[c,fF.lq]at m;omega);simp[f229,f,c]
  repeat' (refine fN (λb=>?_) (λb=>?_)<;>simp[b,sJ,h,i,j,k,o,c])
def EZ(e:Nat)(j:pM prog cx 229 (λf:eQ=>[f.t]) (λf=>f.w<=1099511627776/\f.w<e) (λ_=>J7)):
 pM prog cx 195 (λl:List eQ=>[sl (l.map eQ.t)]) (λl=>eQ.ws l<=1099511627776/\eQ.ws l<e) (λ_=>J7):=by
 refine jU [(229,j.kc)] (jF 32909 [] func195) (λl=>l.length+1) (λp k a=>jV (λ_ _=>eQ.inj) (by simpa using a)) ?_;rintro l ⟨r,q⟩ b g;simp at g;have hl:=eQ.xz (l:=l);simp[f195];refine ik l.length B (λe b a=>a=hE/\Y b 0 (sl (l.map eQ.t))/\Y b 3 (C e)) ?_ ?_ B (by simp[g])
 ·rintro o b a i n ⟨rfl,c,d⟩;have:=eQ.yk (aG i);obtain⟨_,⟨k,rfl⟩,m⟩:=j.use l[o] ⟨B,B⟩;simp[c,d,i,m]
  repeat' (refine fN (λh=>?_) (λh=>?_)<;>simp[h,c,d,n])
 ·rintro b a ⟨rfl,c,d⟩;simp[c,d]
def Ap:pM prog cx 195 (λa:List eQ=>[sl (a.map eQ.t)]) (λa=>eQ.ws a<=1099511627776) (λ_=>J7):=by
 have e:∀c,pM prog cx 195 (λa:List eQ=>[sl (a.map eQ.t)]) (λa=>eQ.ws a<=1099511627776/\eQ.ws a<c) (λ_=>J7):=by
  intro c;induction c with
  |zero=>exact⟨λd b=>absurd b.2 (Nat.not_lt_zero _),λd b=>absurd b.2 (Nat.not_lt_zero _)⟩
  |succ c f=>exact EZ (c+1) (Hb c f)
 exact⟨λd b=>(e _).1 d ⟨b,dx _⟩,λd b=>(e _).2 d ⟨b,dx _⟩⟩
def Wb(a:iA):Prop:=a.kf.length<=1000000/\a.ee.length<=1000000/\∀b∈a.ee,b.locals.length<=1000000/\eQ.ws b.body<=1000000
def KM:pM prog cx 152 (λy:iA=>[y.t]) Wb (λ_=>J7):=by
 refine jU [(194,BN.kc),(125,Bz),(195,Ap.kc)] (jF 72128100255664255 [] func152) (λy=>1000005) (λH b e=>by simp at e;exact iA.inj e) ?_;rintro⟨l,i⟩ ⟨A,ht,x⟩ a w;simp at A ht x w;simp[f152,w];refine ik l.length B (λk a e=>iQ 1 e/\e.get 0=some (X 2 0 [iA.t ⟨l,i⟩])/\Y a 1 (.fc 0 0 0 0)/\Y a 3 (C k)) ?_ ?_ B G
 ·rintro j a e r u ⟨c,d,f,o⟩;obtain⟨_,⟨b,rfl⟩,s⟩:=BN.use l[j] trivial;simp[d,f,o,r,s]
  repeat' (refine fN (λh=>?_) (λh=>?_)<;>simp[h,d,f,o,u,c.hp,c])
 rintro a e ⟨c,d,f,o⟩;simp[d,f,o];refine ik i.length B (λk a e=>iQ 1 e/\e.get 0=some (X 2 0 [iA.t ⟨l,i⟩])/\Y a 1 (.fc 0 0 0 0)/\Y a 4 (C k)) ?_ ?_ B (by simp[d,f,c])
 ·rintro j a e r u ⟨c,d,f,g⟩;have E:=c.ne (b:=0) B;have⟨hl,I⟩:=x i[j] (aG r);obtain⟨_,⟨b,rfl⟩,s⟩:=Ap.use i[j].body B;simp[d,f,g,r,c.low];generalize i[j]=v at*
  have F:=(c.cons (X 4 1 [v.t]));refine ik v.locals.length B (λk a m=>iQ 1 m/\m.get 0=some (X 2 0 [iA.t ⟨l,i⟩])/\m.get e.size=some (X 4 1 [v.t])/\Y a 1 (.fc 0 0 0 0)/\Y a 4 (C j)/\Y a 5 (.fc e.size 0 0 0)/\Y a 6 (C k)) ?_ ?_ B (by simp[d,f,g,E,F])
  ·rintro k a m D z ⟨c,d,n,f,g,p,q⟩;simp[n,p,q,D,sJ]
   repeat' (refine fN (λh=>?_) (λh=>?_)<;>simp[h,d,n,f,g,p,q,z,c.hp,c])
  ·rintro a m ⟨c,d,n,f,g,p,q⟩;simp[n,p,q,sJ,s]
   repeat' (refine fN (λh=>?_) (λh=>?_)<;>simp[h,d,f,g,u,c.hp,c])
 ·rintro a e ⟨c,d,f,g⟩;simp[d,f,g,c.hp]
def JV:∀(c:List (List Nat)) (b:List Nat) (a:Nat),uZ c b a=-1\/∃d,d<c.length/\uZ c b a=((a+d:Nat):Int)
 | [],b,a=> .inl rfl
 |x::c,b,a=>by
  rw[uZ];by_cases f:x=b
  ·rw[au f];exact .inr ⟨0,G,G⟩
  ·rw[Z f];rcases JV c b (a+1)with e|⟨d,g,e⟩
   ·exact .inl e
   ·exact .inr ⟨d+1,by simpa using g,by rw[e];congr 1;omega⟩
def pW:iK:=⟨List jo×List Nat,λa=>[sl (a.1.map jo.t),.str a.2],λa=>a.1.length<=1099511627776,λa=> C (uZ (a.1.map jo.name) a.2 0),λa c b=>by
 simp at b;rw[jV (λ_ _=>jo.inj) b.1,b.2]⟩
def T0:pW.Ok prog cx 196:=by
 refine iF [] (jF 262707 [] func196) (λm=>m.1.length+1) (by simp[pW]) ?_;rintro⟨h,j⟩ hl c k;simp[pW]at hl k|-;obtain⟨b,d⟩:=k;simp[f196];refine ik h.length B (λg c i=>i=hE/\Y c 0 (sl (h.map jo.t))/\Y c 1 (.str j)/\Y c 5 (C g)/\uZ ((h.drop g).map jo.name) j g=uZ (h.map jo.name) j 0) ?_ ?_ B (by simp[b,d])
 ·rintro g c i l n ⟨rfl,b,d,e,a⟩;rw[aJ l,aO,uZ]at a;simp[b,d,e,l];refine fN (λf=>?_) (λf=>?_)
  ·simp at f;rw[au f]at a;simp[e,<-a]
  ·simp at f;rw[Z f]at a;simp[b,d,e,n,a]
 ·rintro c i ⟨rfl,b,d,e,a⟩;simp[uZ]at a;simp[b,e,<-a]
def EE{c:io}(ht:c.p 196=some pW)(a:List jo)(b:List Nat)(hl:a.length<=1099511627776):rl prog cx c 196 [sl (a.map jo.t),.str b]=some (C (uZ (a.map jo.name) b 0)):=iN ht T0 (a,b) hl
def nH:iK:=⟨List iJ×List Nat,λa=>[sl (a.1.map iJ.t),.str a.2],λa=>a.1.length<=1099511627776,λa=> C (uZ (a.1.map iJ.name) a.2 0),λa c b=>by
 simp at b;rw[jV (λ_ _=>iJ.inj) b.1,b.2]⟩
def M3:nH.Ok prog cx 197:=by
 refine iF [] (jF 262707 [] func197) (λm=>m.1.length+1) (by simp[nH]) ?_;rintro⟨h,j⟩ hl c k;simp[nH]at hl k|-;obtain⟨b,d⟩:=k;simp[f197];refine ik h.length B (λg c i=>i=hE/\Y c 0 (sl (h.map iJ.t))/\Y c 1 (.str j)/\Y c 5 (C g)/\uZ ((h.drop g).map iJ.name) j g=uZ (h.map iJ.name) j 0) ?_ ?_ B (by simp[b,d])
 ·rintro g c i l n ⟨rfl,b,d,e,a⟩;rw[aJ l,aO,uZ]at a;simp[b,d,e,l];refine fN (λf=>?_) (λf=>?_)
  ·simp at f;rw[au f]at a;simp[e,<-a]
  ·simp at f;rw[Z f]at a;simp[b,d,e,n,a]
 ·rintro c i ⟨rfl,b,d,e,a⟩;simp[uZ]at a;simp[b,e,<-a]
def zL{c:io}(ht:c.p 197=some nH)(a:List iJ)(b:List Nat)(hl:a.length<=1099511627776):rl prog cx c 197 [sl (a.map iJ.t),.str b]=some (C (uZ (a.map iJ.name) b 0)):=iN ht M3 (a,b) hl
def KP:pM prog cx 251 (λi:iA×Int×List Nat=>[i.1.t,C i.2.1,.str i.2.2]) (λi=>Wb i.1) (λ_=>Ik):=by
 refine jU [(126,Fg),(196,pW),(197,nH)] (jF 99132251962343631 [] func251) (λ_=>5) (λi E c=>by simp at c;obtain⟨g,b,z⟩:=c;exact aD (iA.inj g) (aD b z)) ?_;rintro⟨⟨w,e⟩,d,n⟩ ⟨A,ht,u⟩ F y;simp at A ht u y;obtain⟨k,g,b⟩:=y;have f:=λ{h:io} (c:h.p 196=some pW)=>EE c w n B;have j:=λ{h:io} (c:h.p 197=some nH)=>zL c e n B;have x:d<0\/(e.length:Int)<=d\/∃v:Nat,v<e.length/\d=v:=by
  by_cases q:d<0
  ·exact .inl q
  by_cases D:(e.length:Int)<=d
  ·exact .inr (.inl D)
  ·exact .inr (.inr ⟨d.toNat,B,B⟩)
 rcases JV (w.map jo.name) n 0 with r|⟨v,o,r⟩
 ·simp only[r]at f;rcases x with q|q|⟨m,l,rfl⟩
  ·simp[f251,k,g,b,f,j,show¬0<=d by omega]
   repeat' (refine fN (λa=>?_) (λa=>?_)<;>simp[a])
  ·simp[f251,k,g,b,f,j,show¬d<e.length by omega]
   repeat' (refine fN (λa=>?_) (λa=>?_)<;>simp[a])
  ·have s:=λ{h:io} (c:h.p 126=some Fg)=>RW c e[m].locals n (by have:=(u e[m] (aG l)).1;omega);simp[f251,k,g,b,l,s]
   repeat' (refine fN (λa=>?_) (λa=>?_)<;>simp[a,b,f,j])
 ·simp at o r;simp only[r]at f;rcases x with q|q|⟨m,l,rfl⟩
  ·simp[f251,k,g,b,f,show¬0<=d by omega]
   repeat' (refine fN (λa=>?_) (λa=>?_)<;>simp[a,b,j,o])
  ·simp[f251,k,g,b,f,show¬d<e.length by omega]
   repeat' (refine fN (λa=>?_) (λa=>?_)<;>simp[a,b,j,o])
  ·have s:=λ{h:io} (c:h.p 126=some Fg)=>RW c e[m].locals n (by have:=(u e[m] (aG l)).1;omega);simp[f251,k,g,b,l,s]
   repeat' (refine fN (λa=>?_) (λa=>?_)<;>simp[a,b,f,j,o])
def CS:pM prog cx 232 (λa:iA×Int×List Nat×Int×Int=>[a.1.t,C a.2.1,.str a.2.2.1,C a.2.2.2.1,C a.2.2.2.2]) (λa=>Wb a.1) (λ_=>Ik):=by
 refine jU [(251,KP.kc)] (jF 33688639 [] func232) (λ_=>5) (λa f c=>by simp at c;obtain⟨h,i,j,k,l⟩:=c;exact aD (iA.inj h) (aD i (aD j (aD k l)))) ?_;rintro⟨m,o,n,a,f⟩ e q b;simp at e b;obtain⟨_,⟨p,rfl⟩,g⟩:=KP.use (m,o,n) e;simp[f232,b,g]
 repeat' (refine fN (λd=>?_) (λd=>?_)<;>simp[d,b])
def HX:pM prog cx 234 (λa:Bool=>[.ez a]) (λ_=>True) (λ_=>Ik):=by
 refine jU [] (jF 13 [] func234) (λ_=>5) (λe a d=>by simpa using d) ?_;rintro a-f b;simp at b;simp[f234,b]
 repeat' (refine fN (λc=>?_) (λc=>?_)<;>simp[c])
def fD:pM prog cx 231 (λa:Int×Int=>[C a.1,C a.2]) (λ_=>True) (λa f=>f= C (if a.1=0 then a.2 else a.1)):=by
 refine jU [] (jF 83 [] func231) (λ_=>5) (λa e b=>by simp at b;exact aD b.1 b.2) ?_;rintro⟨a,e⟩-g c;simp at c;simp[f231,c];refine fN (λd=>?_) (λd=>?_)<;>simp at d<;>simp[c,d]
def OT:pM prog cx 252 (λa:fF=>[a.t]) (λa=>a.w<=1099511627776) (λ_=>Lo):=by
 refine Ej (λa=>a.w) λq p=>?_;refine jU [(252,p.kc)] (jF 8703 [] func252) (λa=>a.w+5) (λk m b=>by simp at b;exact fF.inj b) ?_;rintro a ⟨A,y⟩ c n;simp at n;have hl:=fF.xz (l:=a.l);have z:=a.nd;simp[f252,n];refine ik a.l.length B (λq c b=>iQ 1 b/\b.get 0=some (X 4 0 [a.t])/\Y c 1 (.fc 0 0 0 0)/\(∃i,Y c 4 (C i))/\(∃i,Y c 5 (C i))/\Y c 6 (C q)) ?_ ?_ B ?_
 ·rintro u c b o s ⟨j,d,e,⟨k,f⟩,⟨m,g⟩,h⟩;have:=fF.yk (aG o);obtain⟨_,⟨v,x,rfl⟩,r⟩:=p.use a.l[u] ⟨B,B⟩;simp[d,e,f,g,h,o,r,s,qm,j]
 ·rintro c b ⟨j,d,e,⟨k,f⟩,⟨m,g⟩,h⟩;simp[j.hp,d,e,f,g,h,qm]
 ·simp
def HY:pM prog cx 253 (λa:iA×Int×fF=>[a.1.t,C a.2.1,a.2.2.t]) (λa=>Wb a.1/\a.2.2.w<=1099511627776) (λ_=>Ik):=by
 refine Ej (λa=>a.2.2.w) λv u=>?_;refine jU [(232,CS.kc),(253,u.kc)] (jF 8590200303 [] func253) (λa=>a.2.2.w+5) (λa J c=>by simp at c;obtain⟨m,E,n⟩:=c;exact aD (iA.inj m) (aD E (fF.inj n))) ?_;rintro⟨i,j,b⟩ ⟨⟨h,I⟩,H⟩ d g;simp only at h I H;simp at g;have hl:=fF.xz (l:=b.l);have L:=b.nd;obtain⟨_,⟨O,rfl⟩,z⟩:=CS.use (i,j,b.name,8,1) h;obtain⟨_,⟨P,rfl⟩,A⟩:=CS.use (i,j,b.name,2,2) h;simp[f253,g]
 repeat' (refine fN (λe=>?_) (λe=>?_)<;>simp[e,g,z,A])
 all_goals
  refine VD b.l.length (λv d c=>iQ 2 c/\c.get 0=some (X 2 0 [i.t])/\c.get 1=some (X 4 0 [b.t])/\Y d 1 (C j)/\Y d 3 (.fc 0 0 0 0)/\Y d 5 (.fc 1 0 0 0)/\(∃x,Y d 7 (C x))/\Y d 8 (C v)) ?_ B (ay _) (by simp[g]);rintro s d c K ⟨r,y,k,m,n,o,⟨x,p⟩,q⟩;by_cases f:s<b.l.length
  ·have:=fF.yk (aG f);have F:=Ob f B;obtain⟨_,⟨N,rfl⟩,D⟩:=u.use (i,j,b.l[s]) ⟨⟨h,dS⟩,dS⟩;simp[k,o,p,q,f]
   repeat' (refine fN (λe=>?_) (λe=>?_)<;>simp[e,r,r.hp,y,k,m,n,o,p,q,f,D,F])
  ·simp[r.hp,k,o,p,q,f]
def FE:pM prog cx 233 (λa:iA×Int×fF=>[a.1.t,C a.2.1,a.2.2.t]) (λa=>Wb a.1/\a.2.2.w<=1099511627776) (λ_=>Ik):=by
 refine jU [(249,qO.kc),(252,OT.kc),(253,HY.kc)] (jF 4196847 [] func233) (λa=>5) (λa p e=>by simp at e;obtain⟨k,l,m⟩:=e;exact aD (iA.inj k) (aD l (fF.inj m))) ?_;rintro⟨n,o,c⟩ ⟨g,b⟩ v d;simp only at g b;simp at d;obtain⟨_,⟨q,rfl⟩,h⟩:=qO.use c b;obtain⟨_,⟨r,u,rfl⟩,i⟩:=OT.use c b;obtain⟨_,⟨s,rfl⟩,j⟩:=HY.use (n,o,c) ⟨g,b⟩;simp[f233,d,h]
 repeat' (refine fN (λf=>?_) (λf=>?_)<;>simp[f,d,i,j])
def OV:pM prog cx 155 (λl:List eQ=>[sl (l.map eQ.t)]) (λl=>eQ.ws l<=1099511627776) (λ_=>Ik):=by
 refine Ej (λl=>eQ.ws l) λk h=>?_;refine jU [(155,h.kc)] (jF 1053 [(5,[(6,10),(6,12)])] func155) (λl=>l.length+1) (λq m b=>jV (λ_ _=>eQ.inj) (by simpa using b)) ?_;rintro l ⟨u,s⟩ a f;simp at f;have hl:=eQ.xz (l:=l);simp[f155,f];refine ik l.length B (λk a b=>b=hE/\Y a 0 (sl (l.map eQ.t))/\(∃i,Y a 3 (C i))/\Y a 4 (C k)) ?_ ?_ B (by simp[f])
 ·rintro g a b j p ⟨rfl,c,⟨i,d⟩,e⟩;have:=eQ.yk (aG j);rw[l[g].nd]at this;obtain⟨_,⟨m,rfl⟩,n⟩:=h.use l[g].body ⟨B,B⟩;obtain⟨_,⟨r,rfl⟩,o⟩:=h.use l[g].Rv ⟨B,B⟩;simp[c,d,e,j,n,o,p,qm]
 ·rintro a b ⟨rfl,c,⟨i,d⟩,e⟩;simp[c,d,e]
def DF:pM prog cx 154 (λF:iA=>[F.t]) Wb (λ_=>Lo):=by
 refine jU [(126,Fg),(196,pW),(197,nH)] (jF 1237940043933112819970491391 [] func154) (λF=>1000005) (λN b a=>by simp at a;exact iA.inj a) ?_;rintro⟨r,g⟩ ⟨K,ht,E⟩ d A;simp at K ht E A;simp[f154,A];have z:=λ{l:io} (a:l.p 196=some pW) k=>EE a r k B;have eT:=λ{l:io} (a:l.p 197=some nH) k=>zL a g k B;refine ik g.length B (λj d a=>iQ 1 a/\a.get 0=some (X 2 0 [iA.t ⟨r,g⟩])/\Y d 1 (.fc 0 0 0 0)/\Y d 4 (C j)) ?_ ?_ B G
 ·rintro o d a n y ⟨c,e,f,s⟩;have w:=c.ne (b:=0) B;have I:=λ{l:io} (a:l.p 197=some nH) k=>zL a (g.take o) k (by rw[List.length_take];omega);simp[e,f,s,n,w,c.low,z,I,bI n]
  repeat' (refine fN (λi=>?_) (λi=>?_)<;>simp[i,e,f,s,y,c.hp,c,w,iQ.cons])
 rintro d a ⟨c,e,f,s⟩;simp[e,f,s];refine ik g.length B (λj d a=>iQ 1 a/\a.get 0=some (X 2 0 [iA.t ⟨r,g⟩])/\Y d 1 (.fc 0 0 0 0)/\Y d 6 (C j)) ?_ ?_ B (by simp[e,f,c])
 ·rintro o d a n y ⟨c,e,f,h⟩;have w:=c.ne (b:=0) B;have⟨hl,O⟩:=E g[o] (aG n);simp[e,f,h,n,c.low];generalize g[o]=x at*
  have L:=(c.cons (X 4 1 [x.t]));refine fN (λi=>?_) (λi=>?_)
  ·simp[c.hp]
  simp;refine ik x.locals.length B (λj d m=>iQ 1 m/\m.get 0=some (X 2 0 [iA.t ⟨r,g⟩])/\m.get a.size=some (X 4 1 [x.t])/\Y d 1 (.fc 0 0 0 0)/\Y d 6 (C o)/\Y d 7 (.fc a.size 0 0 0)/\Y d 8 (C j)) ?_ ?_ B (by simp[e,f,h,w,L])
  ·rintro j d m D J ⟨c,e,q,f,h,u,v⟩;have H:=λ{l:io} (a:l.p 126=some Fg) k=>RW a (x.locals.take j) k (by rw[List.length_take];omega);simp[e,q,f,u,v,D,z,eT,H,bI D]
   repeat' (refine fN (λi=>?_) (λi=>?_)<;>simp[i,e,q,f,h,u,v,J,c.hp,c])
  ·rintro d m ⟨c,e,q,f,h,u,v⟩;simp[e,q,f,h,u,v,y,c]
 ·rintro d a ⟨c,e,f,h⟩;simp[e,f,h,c.hp]
