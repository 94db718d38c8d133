/- W02 -/
import Derived.Test.YtnfojkibhgjfmaaGreatDoorA13
set_option linter.all false
set_option maxRecDepth 100000
set_option maxHeartbeats 0
namespace Go.Proofs.YtnfojkibhgjfmaaGreatDoor
noncomputable section
open Go Go.TI Tryz
attribute [-simp] List.map_take List.map_drop List.map_append ij fU fH Bool.not_or Bool.not_and
def Qe:pI prog cx 284 (λa:fy=>[a.t]) (λ_=>True) (λ_=>E8):=by refine j2 [] (js 7 [] func284) (λ_=>5) (λd e b=>by simp at b;exact fy.inj b) ?_;rintro a-f c;simp at c;simp[f284,c]
def GJ:pI prog cx 305 (λc:Int=>[J c]) (λ_=>True) (λ_=>Ia):=by
 refine j2 [] (js 132109 [] func305) (λ_=>5) (λe f d=>iD d) ?_;rintro c-g a;simp at a;simp[f305,a]
 repeat' (refine fG (λb=>?_) (λb=>?_)<;>simp[b,a])
def rG:pI prog cx 283 (λa:fy=>[a.t]) (λa=>a.w<=1099511627776) (λ_=>E8):=by
 refine Fi (λa=>a.w) λj i=>?_;refine j2 [(305,GJ.jV),(150,Cm),(283,i.jV)] (js 18483898770635358239 [(2,[(2,4)])] func283) (λa=>a.w+5) (λq k b=>by simp at b;exact fy.inj b) ?_;rintro a ⟨x,u⟩ c n;simp at n;obtain⟨_,⟨y,rfl⟩,r⟩:=GJ.use a.op trivial;have hl:=fy.yi (l:=a.l);have v:=a.nG;simp[*,f283,tg];refine fG (λd=>?_) (λd=>?_);simp;simp;refine gW a.l.length G (λj c b=>iS 1 b/\b.get 0=D (dU 4 0 [a.t])/\TI.Y c 1=D (dY 0)/\TI.Y c 4=D (J j)) ?_ ?_ G ?_
 .rintro p c b h o ⟨e,f,g,m⟩;obtain⟨_,⟨k,rfl⟩,s⟩:=i.use a.l[p] ⟨iH (fy.yU (aH h)),iH (fy.yU (aH h))⟩;simp[*]
  repeat' (refine fG (λd=>?_) (λd=>?_)<;>simp[d,e.hp,f,g,m,e,o])
 rintro c b ⟨e,f,g⟩;simp[*,e.hp];simp
def CB:pI prog cx 209 (λd:jp=>[d.t]) (λ_=>True) (λ_=>E8):=by
 refine j2 [(150,Cm)] (js 1125902054326279 [] func209) (λ_=>5) (λe f a=>by simp at a;exact jp.inj a) ?_;rintro g-h b;simp at b;simp[f209,b,tg]
 repeat' (refine fG (λc=>?_) (λc=>?_)<;>simp[c,tg])
def If(m:Nat)(f:pI prog cx 210 (λc:List eY=>[sl (c.map eY.t)]) (λc=>eY.ws c<=1099511627776/\eY.ws c<m) (λ_=>E8)):
 pI prog cx 254 (λa:eY=>[a.t]) (λa=>a.w<=1099511627776/\a.w<m+1) (λ_=>E8):=by
 refine j2 [(283,rG.jV),(150,Cm),(210,f.jV),(284,Qe.jV)] (js 182687706027492332498828539273953093013162958911 [] func254) (λ_=>5) (λq r k=>by simp at k;exact eY.inj k) ?_;rintro a ⟨l,p⟩ B o;simp at o;rw[a.nG]at l p;obtain⟨_,⟨s,rfl⟩,g⟩:=rG.use a.e G;obtain⟨_,⟨u,rfl⟩,h⟩:=f.use a.body ⟨G,G⟩;obtain⟨_,⟨v,rfl⟩,i⟩:=f.use a.SS ⟨G,G⟩;obtain⟨_,⟨y,rfl⟩,j⟩:=Qe.use a.e trivial
 match d:a.index with
 | []=>
  simp[*,f254]
  repeat' (refine fG (λb=>?_) (λb=>?_)<;>simp[b,tg,g,h,i,j,d])
 |x::A=>
  obtain⟨_,⟨z,rfl⟩,n⟩:=rG.use x (by rw[d,fy.lq]at l;omega);simp[*,f254]
  repeat' (refine fG (λb=>?_) (λb=>?_)<;>simp[b,tg,g,h,i,j,n,d])
def F6(c:Nat)(h:pI prog cx 254 (λd:eY=>[d.t]) (λd=>d.w<=1099511627776/\d.w<c) (λ_=>E8)):
 pI prog cx 210 (λl:List eY=>[sl (l.map eY.t)]) (λl=>eY.ws l<=1099511627776/\eY.ws l<c) (λ_=>E8):=by
 refine j2 [(254,h.jV)] (js 32909 [] func210) (λl=>l.length+1) (λo i a=>j3 (λ_ _=>eY.inj) (iD a)) ?_;rintro l ⟨r,q⟩ b f;simp at f;have hl:=eY.yi (l:=l);simp[f210];refine gW l.length G (λc b a=>a=hE/\TI.Y b 0=D (sl (l.map eY.t))/\TI.Y b 3=D (J c)) ?_ ?_ G (by simp[f])
 .rintro n b a m k ⟨rfl,e,j⟩;have:=eY.yU (aH m);obtain⟨_,⟨i,rfl⟩,p⟩:=h.use l[n] ⟨G,G⟩;simp[*]
  repeat' (refine fG (λg=>?_) (λg=>?_)<;>simp[g,e,j,k])
 rintro b a ⟨rfl,e⟩;simp[e]
def A4:pI prog cx 210 (λa:List eY=>[sl (a.map eY.t)]) (λa=>eY.ws a<=1099511627776) (λ_=>E8):=by
 have e:∀c,pI prog cx 210 (λa:List eY=>[sl (a.map eY.t)]) (λa=>eY.ws a<=1099511627776/\eY.ws a<c) (λ_=>E8):=by
  intro c;induction c with
  |zero=>exact⟨λd b=>absurd b.2 (Nat.not_lt_zero _),λd b=>absurd b.2 (Nat.not_lt_zero _)⟩
  |succ c f=>exact F6 (c+1) (If c f)
 exact⟨λd b=>(e _).1 d ⟨b,dA _⟩,λd b=>(e _).2 d ⟨b,dA _⟩⟩
def XQ(a:iJ):Prop:=a.kr.length<=1000000/\a.d8.length<=1000000/\∀b∈a.d8,b.locals.length<=1000000/\eY.ws b.body<=1000000
def LF:pI prog cx 168 (λw:iJ=>[w.t]) XQ (λ_=>E8):=by
 refine j2 [(209,CB.jV),(150,Cm),(210,A4.jV)] (js 72128100255664255 [] func168) (λw=>1000005) (λB b d=>by simp at d;exact iJ.inj d) ?_;rintro⟨k,h⟩ ⟨A,ht,v⟩ a s;simp at A ht v s;simp[f168,s];refine gW k.length G (λj a d=>iS 1 d/\d.get 0=D (dU 2 0 [iJ.t ⟨k,h⟩])/\TI.Y a 1=D (dY 0)/\TI.Y a 3=D (J j)) ?_ ?_ G V
 .rintro i a d u n ⟨c,e,f,y⟩;obtain⟨_,⟨b,rfl⟩,x⟩:=CB.use k[i] trivial;simp[*]
  repeat' (refine fG (λg=>?_) (λg=>?_)<;>simp[g,e,f,y,n,c.hp,c])
 rintro a d ⟨c,e,f⟩;simp[*];refine gW h.length G (λj a d=>iS 1 d/\d.get 0=D (dU 2 0 [iJ.t ⟨k,h⟩])/\TI.Y a 1=D (dY 0)/\TI.Y a 4=D (J j)) ?_ ?_ G (by simp[*])
 .rintro i a d u n ⟨c,e,f⟩;have F:=c.ne (b:=0) G;have⟨hl,C⟩:=v h[i] (aH u);obtain⟨_,⟨b,rfl⟩,x⟩:=A4.use h[i].body G;simp[*,c.low];generalize h[i]=o at*
  have H:=(c.cons (dU 4 1 [o.t]));refine gW o.locals.length G (λj a l=>iS 1 l/\l.get 0=D (dU 2 0 [iJ.t ⟨k,h⟩])/\l.get d.size=D (dU 4 1 [o.t])/\TI.Y a 1=D (dY 0)/\TI.Y a 4=D (J i)/\TI.Y a 5=D (dY d.size)/\TI.Y a 6=D (J j)) ?_ ?_ G (by simp[*])
  .rintro j a l E z ⟨c,e,p,f,m,q,r⟩;simp[*,tg]
   repeat' (refine fG (λg=>?_) (λg=>?_)<;>simp[g,e,p,f,m,q,r,z,c.hp,c])
  .rintro a l ⟨c,e,p,f,m,q,r⟩;simp[*,tg]
   repeat' (refine fG (λg=>?_) (λg=>?_)<;>simp[g,e,f,m,n,c.hp,c])
 rintro a d ⟨c,e,f⟩;simp[*,c.hp]
def KT:∀(c:List (List Nat)) (b:List Nat) (a:Nat),vN c b a=-1\/∃d,d<c.length/\vN c b a=((a+d:Nat):Int)
 | [],b,a=> .inl rfl
 |x::c,b,a=>by
  rw[vN];by_cases f:x=b;rw[ax f];exact .inr ⟨0,V,V⟩;rw[aw f];rcases KT c b (a+1)with e|⟨d,g,e⟩
  exact .inl e;exact .inr ⟨d+1,iD g,by rw[e];congr 1;omega⟩
def qm:iE:=⟨List jp×List Nat,λa=>[sl (a.1.map jp.t),.str a.2],λa=>a.1.length<=1099511627776,λa=> J (vN (a.1.map jp.name) a.2 0),λa c b=>by
 simp at b;rw[j3 (λ_ _=>jp.inj) b.1,b.2]⟩
def Vd:qm.Ok prog cx 211:=by refine iz [] (js 262707 [] func211) (λk=>k.1.length+1) (by simp[qm]) ?_;rintro⟨e,h⟩ hl b j;simp[qm]at hl j|-;simp[f211];refine gW e.length G (λd b f=>f=hE/\TI.Y b 0=D (sl (e.map jp.t))/\TI.Y b 1=D (.str h)/\TI.Y b 5=D (J d)/\vN ((e.drop d).map jp.name) h d=vN (e.map jp.name) h 0) ?_ ?_ G (by simp[j]);rintro d b f m n ⟨rfl,i,l,g,a⟩;rw[aL m,aR,vN]at a;simp[*];refine fG (λc=>?_) (λc=>?_);simp at c;rw[ax c]at a;simp[g,<-a];simp at c;rw[aw c]at a;simp[*];rintro b f ⟨rfl,i,l,g,a⟩;simp[vN]at a;simp[i,g,<-a]
def FJ{c:ik}(ht:c.p 211=D qm)(a:List jp)(b:List Nat)(hl:a.length<=1099511627776):rl prog cx c 211 [sl (a.map jp.t),.str b]=D (J (vN (a.map jp.name) b 0)):=iF ht Vd (a,b) hl
def nN:iE:=⟨List iQ×List Nat,λa=>[sl (a.1.map iQ.t),.str a.2],λa=>a.1.length<=1099511627776,λa=> J (vN (a.1.map iQ.name) a.2 0),λa c b=>by
 simp at b;rw[j3 (λ_ _=>iQ.inj) b.1,b.2]⟩
def Oa:nN.Ok prog cx 212:=by refine iz [] (js 262707 [] func212) (λk=>k.1.length+1) (by simp[nN]) ?_;rintro⟨e,h⟩ hl b j;simp[nN]at hl j|-;simp[f212];refine gW e.length G (λd b f=>f=hE/\TI.Y b 0=D (sl (e.map iQ.t))/\TI.Y b 1=D (.str h)/\TI.Y b 5=D (J d)/\vN ((e.drop d).map iQ.name) h d=vN (e.map iQ.name) h 0) ?_ ?_ G (by simp[j]);rintro d b f m n ⟨rfl,i,l,g,a⟩;rw[aL m,aR,vN]at a;simp[*];refine fG (λc=>?_) (λc=>?_);simp at c;rw[ax c]at a;simp[g,<-a];simp at c;rw[aw c]at a;simp[*];rintro b f ⟨rfl,i,l,g,a⟩;simp[vN]at a;simp[i,g,<-a]
def AN{c:ik}(ht:c.p 212=D nN)(a:List iQ)(b:List Nat)(hl:a.length<=1099511627776):rl prog cx c 212 [sl (a.map iQ.t),.str b]=D (J (vN (a.map iQ.name) b 0)):=iF ht Oa (a,b) hl
def LL:pI prog cx 285 (λf:iJ×Int×List Nat=>[f.1.t,J f.2.1,.str f.2.2]) (λf=>XQ f.1) (λ_=>Ia):=by
 refine j2 [(151,Gt),(211,qm),(212,nN)] (js 99132251962343631 [] func285) (λ_=>5) (λf B b=>by simp at b;obtain⟨v,g,y⟩:=b;exact aG (iJ.inj v) (aG g y)) ?_;rintro⟨⟨s,d⟩,c,i⟩ ⟨z,ht,o⟩ E w;simp at z ht o w;obtain⟨C,v,g⟩:=w;have j:=λ{e:ik} (b:e.p 211=D qm)=>FJ b s i G;have k:=λ{e:ik} (b:e.p 212=D nN)=>AN b d i G;have u:c<0\/(d.length:Int)<=c\/∃r:Nat,r<d.length/\c=r:=by
  by_cases q:c<0;exact .inl q;by_cases A:(d.length:Int)<=c;exact .inr (.inl A);exact .inr (.inr ⟨c.toNat,G,G⟩)
 rcases KT (s.map jp.name) i 0 with m|⟨r,l,m⟩
 .simp[m]at j;rcases u with q|q|⟨h,n,rfl⟩
  .simp[*,f285,show¬0<=c by omega]
   repeat' (refine fG (λa=>?_) (λa=>?_)<;>simp[a])
  .simp[*,f285,show¬c<d.length by omega]
   repeat' (refine fG (λa=>?_) (λa=>?_)<;>simp[a])
  .have x:=λ{e:ik} (b:e.p 151=D Gt)=>Tu b d[h].locals i (iH (o d[h] (aH n)).1);simp[*,f285]
   repeat' (refine fG (λa=>?_) (λa=>?_)<;>simp[a,g,j,k])
 .simp at l m;simp[m]at j;rcases u with q|q|⟨h,n,rfl⟩
  .simp[*,f285,show¬0<=c by omega]
   repeat' (refine fG (λa=>?_) (λa=>?_)<;>simp[a,g,k,l])
  .simp[*,f285,show¬c<d.length by omega]
   repeat' (refine fG (λa=>?_) (λa=>?_)<;>simp[a,g,k,l])
  .have x:=λ{e:ik} (b:e.p 151=D Gt)=>Tu b d[h].locals i (iH (o d[h] (aH n)).1);simp[*,f285]
   repeat' (refine fG (λa=>?_) (λa=>?_)<;>simp[a,g,j,k,l])
def DT:pI prog cx 257 (λa:iJ×Int×List Nat×Int×Int=>[a.1.t,J a.2.1,.str a.2.2.1,J a.2.2.2.1,J a.2.2.2.2]) (λa=>XQ a.1) (λ_=>Ia):=by
 refine j2 [(285,LL.jV)] (js 33688639 [] func257) (λ_=>5) (λa f c=>by simp at c;obtain⟨h,i,j,k,l⟩:=c;exact aG (iJ.inj h) (aG i (aG j (aG k l)))) ?_;rintro⟨m,o,n,a,f⟩ e q b;simp at e b;obtain⟨_,⟨p,rfl⟩,g⟩:=LL.use (m,o,n) e;simp[f257,b,g]
 repeat' (refine fG (λd=>?_) (λd=>?_)<;>simp[d,b])
def IT:pI prog cx 259 (λa:Bool=>[.ej a]) (λ_=>True) (λ_=>Ia):=by
 refine j2 [] (js 13 [] func259) (λ_=>5) (λe a d=>iD d) ?_;rintro a-f b;simp at b;simp[f259,b]
 repeat' (refine fG (λc=>?_) (λc=>?_)<;>simp[c])
def abW:pI prog cx 256 (λa:Int×Int=>[J a.1,J a.2]) (λ_=>True) (λa f=>f= J (if a.1=0 then a.2 else a.1)):=by refine j2 [] (js 83 [] func256) (λ_=>5) (λa e b=>by simp at b;exact aG b.1 b.2) ?_;rintro⟨a,e⟩-g c;simp at c;simp[f256,c];refine fG (λd=>?_) (λd=>?_)<;>simp at d<;>simp[*]
def Qb:pI prog cx 286 (λa:fy=>[a.t]) (λa=>a.w<=1099511627776) (λ_=>Mn):=by refine Fi (λa=>a.w) λi h=>?_;refine j2 [(286,h.jV)] (js 8703 [] func286) (λa=>a.w+5) (λe f b=>by simp at b;exact fy.inj b) ?_;rintro a ⟨A,y⟩ c g;simp at g;have hl:=fy.yi (l:=a.l);have z:=a.nG;simp[f286,g];refine gW a.l.length G (λi c b=>iS 1 b/\b.get 0=D (dU 4 0 [a.t])/\TI.Y c 1=D (dY 0)/\(∃d,TI.Y c 4=D (J d))/\(∃d,TI.Y c 5=D (J d))/\TI.Y c 6=D (J i)) ?_ ?_ G ?_;rintro r c b q x ⟨j,k,m,⟨e,n⟩,⟨f,o⟩,p⟩;have:=fy.yU (aH q);obtain⟨_,⟨s,u,rfl⟩,v⟩:=h.use a.l[r] ⟨G,G⟩;simp[*,qI];rintro c b ⟨j,k,m,⟨e,n⟩,⟨f,o⟩,p⟩;simp[*,j.hp,qI];simp
def IU:pI prog cx 287 (λa:iJ×Int×fy=>[a.1.t,J a.2.1,a.2.2.t]) (λa=>XQ a.1/\a.2.2.w<=1099511627776) (λ_=>Ia):=by
 refine Fi (λa=>a.2.2.w) λq p=>?_;refine j2 [(257,DT.jV),(287,p.jV)] (js 8590200303 [] func287) (λa=>a.2.2.w+5) (λa I c=>by simp at c;obtain⟨i,z,j⟩:=c;exact aG (iJ.inj i) (aG z (fy.inj j))) ?_;rintro⟨g,h,b⟩ ⟨⟨f,H⟩,F⟩ d k
 dsimp at f H F
 simp at k;have hl:=fy.yi (l:=b.l);have L:=b.nG;obtain⟨_,⟨N,rfl⟩,v⟩:=DT.use (g,h,b.name,8,1) f;obtain⟨_,⟨O,rfl⟩,x⟩:=DT.use (g,h,b.name,2,2) f;simp[*,f287]
 repeat' (refine fG (λe=>?_) (λe=>?_)<;>simp[e,k,v,x])
 all_goals
  refine Xa b.l.length (λq d c=>iS 2 c/\c.get 0=D (dU 2 0 [g.t])/\c.get 1=D (dU 4 0 [b.t])/\TI.Y d 1=D (J h)/\TI.Y d 3=D (dY 0)/\TI.Y d 5=D (dY 1)/\(∃r,TI.Y d 7=D (J r))/\TI.Y d 8=D (J q)) ?_ G (aB _) (by simp[k]);rintro o d c K ⟨n,s,u,i,j,A,⟨r,B⟩,C⟩;by_cases m:o<b.l.length
  .have:=fy.yU (aH m);have E:=Pn m G;obtain⟨_,⟨M,rfl⟩,y⟩:=p.use (g,h,b.l[o]) ⟨⟨f,dQ⟩,dQ⟩;simp[*]
   repeat' (refine fG (λe=>?_) (λe=>?_)<;>simp[e,n,n.hp,s,u,i,j,A,B,C,m,y,E])
  simp[*,n.hp]
def GM:pI prog cx 258 (λa:iJ×Int×fy=>[a.1.t,J a.2.1,a.2.2.t]) (λa=>XQ a.1/\a.2.2.w<=1099511627776) (λ_=>Ia):=by
 refine j2 [(283,rG.jV),(286,Qb.jV),(287,IU.jV)] (js 4196847 [] func258) (λa=>5) (λa o d=>by simp at d;obtain⟨j,k,l⟩:=d;exact aG (iJ.inj j) (aG k (fy.inj l))) ?_;rintro⟨m,n,c⟩ ⟨g,b⟩ v e
 dsimp at g b
 simp at e;obtain⟨_,⟨q,rfl⟩,p⟩:=rG.use c b;obtain⟨_,⟨r,u,rfl⟩,h⟩:=Qb.use c b;obtain⟨_,⟨s,rfl⟩,i⟩:=IU.use (m,n,c) ⟨g,b⟩;simp[*,f258]
 repeat' (refine fG (λf=>?_) (λf=>?_)<;>simp[f,e,h,i])
def Qd:pI prog cx 171 (λl:List eY=>[sl (l.map eY.t)]) (λl=>eY.ws l<=1099511627776) (λ_=>Ia):=by refine Fi (λl=>eY.ws l) λg e=>?_;refine j2 [(171,e.jV)] (js 1053 [(5,[(6,10),(6,12)])] func171) (λl=>l.length+1) (λn h b=>j3 (λ_ _=>eY.inj) (iD b)) ?_;rintro l ⟨u,s⟩ a c;simp at c;have hl:=eY.yi (l:=l);simp[f171,c];refine gW l.length G (λg a b=>b=hE/\TI.Y a 0=D (sl (l.map eY.t))/\(∃f,TI.Y a 3=D (J f))/\TI.Y a 4=D (J g)) ?_ ?_ G (by simp[c]);rintro d a b m r ⟨rfl,i,⟨f,j⟩,k⟩;have:=eY.yU (aH m);rw[l[d].nG]at this;obtain⟨_,⟨h,rfl⟩,p⟩:=e.use l[d].body ⟨G,G⟩;obtain⟨_,⟨o,rfl⟩,q⟩:=e.use l[d].SS ⟨G,G⟩;simp[*,qI];rintro a b ⟨rfl,i,⟨f,j⟩,k⟩;simp[*]
def EK:pI prog cx 170 (λx:iJ=>[x.t]) XQ (λ_=>Mn):=by
 refine j2 [(151,Gt),(211,qm),(212,nN)] (js 1237940043933112819970491391 [] func170) (λx=>1000005) (λH b a=>by simp at a;exact iJ.inj a) ?_;rintro⟨n,e⟩ ⟨E,ht,w⟩ c s;simp at E ht w s;simp[f170,s];have K:=λ{k:ik} (a:k.p 211=D qm) j=>FJ a n j G;have eT:=λ{k:ik} (a:k.p 212=D nN) j=>AN a e j G;refine gW e.length G (λi c a=>iS 1 a/\a.get 0=D (dU 2 0 [iJ.t ⟨n,e⟩])/\TI.Y c 1=D (dY 0)/\TI.Y c 4=D (J i)) ?_ ?_ G V
 .rintro m c a q u ⟨d,f,g,y⟩;have v:=d.ne (b:=0) G;have L:=λ{k:ik} (a:k.p 212=D nN) j=>AN a (e.take m) j (by rw[List.length_take];omega);simp[*,d.low,bP q]
  repeat' (refine fG (λh=>?_) (λh=>?_)<;>simp[h,f,g,y,u,d.hp,d,v,iS.cons])
 rintro c a ⟨d,f,g⟩;simp[*];refine gW e.length G (λi c a=>iS 1 a/\a.get 0=D (dU 2 0 [iJ.t ⟨n,e⟩])/\TI.Y c 1=D (dY 0)/\TI.Y c 6=D (J i)) ?_ ?_ G (by simp[*])
 .rintro m c a q u ⟨d,f,g⟩;have v:=d.ne (b:=0) G;have⟨hl,M⟩:=w e[m] (aH q);simp[*,d.low];generalize e[m]=o at*
  have N:=(d.cons (dU 4 1 [o.t]));refine fG (λh=>?_) (λh=>?_);simp[*,d.hp];simp;refine gW o.locals.length G (λi c l=>iS 1 l/\l.get 0=D (dU 2 0 [iJ.t ⟨n,e⟩])/\l.get a.size=D (dU 4 1 [o.t])/\TI.Y c 1=D (dY 0)/\TI.Y c 6=D (J m)/\TI.Y c 7=D (dY a.size)/\TI.Y c 8=D (J i)) ?_ ?_ G (by simp[*])
  .rintro i c l F C ⟨d,f,r,g,z,A,B⟩;have I:=λ{k:ik} (a:k.p 151=D Gt) j=>Tu a (o.locals.take i) j (by rw[List.length_take];omega);simp[*,bP F]
   repeat' (refine fG (λh=>?_) (λh=>?_)<;>simp[h,f,r,g,z,A,B,C,d.hp,d])
  rintro c l ⟨d,f,r,g⟩;simp[*]
 rintro c a ⟨d,f,g⟩;simp[*,d.hp]
def wm:iE:=⟨fJ×List Nat,λa=>[a.1.t,.str a.2],λa=>a.1.cells.length<=1000000,λa=> J (vN (a.1.cells.map ji.name) a.2 0),λa c b=>by
 simp at b;rw[fJ.inj b.1,b.2]⟩
def Vn:wm.Ok prog cx 260:=by refine iz [] (js 1049655 [] func260) (λm=>m.1.cells.length+1) (by simp[wm]) ?_;rintro⟨f,j⟩ hl b h;simp[wm]at hl h|-;simp[f260,h];refine gW f.cells.length G (λe b d=>iS 1 d/\d.get 0=D (dU 6 0 [f.t])/\TI.Y b 1=D (.str j)/\TI.Y b 2=D (dY 0)/\TI.Y b 5=D (J e)/\vN ((f.cells.drop e).map ji.name) j e=vN (f.cells.map ji.name) j 0) ?_ ?_ G (by simp[h]);rintro e b d o p ⟨i,k,n,l,g,a⟩;rw[aL o,aR,vN]at a;simp[*];refine fG (λc=>?_) (λc=>?_);simp at c;rw[ax c]at a;simp[g,<-a,i.hp];simp at c;rw[aw c]at a;simp[*];rintro b d ⟨i,k,n,l,g,a⟩;simp[vN]at a;simp[k,l,g,<-a,i.hp]
def Q3{c:ik}(ht:c.p 260=D wm)(a:fJ)(b:List Nat)(hl:a.cells.length<=1000000):rl prog cx c 260 [a.t,.str b]=D (J (vN (a.cells.map ji.name) b 0)):=iF ht Vn (a,b) hl
def wa:iE:=⟨List jB×List Nat,λa=>[sl (a.1.map jB.t),.str a.2],λa=>a.1.length<=1000000,λa=> J (vN (a.1.map jB.name) a.2 0),λa c b=>by
 simp at b;rw[j3 (λ_ _=>jB.inj) b.1,b.2]⟩
def U2:wa.Ok prog cx 173:=by refine iz [] (js 262707 [] func173) (λk=>k.1.length+1) (by simp[wa]) ?_;rintro⟨e,h⟩ hl b j;simp[wa]at hl j|-;simp[f173];refine gW e.length G (λd b f=>f=hE/\TI.Y b 0=D (sl (e.map jB.t))/\TI.Y b 1=D (.str h)/\TI.Y b 5=D (J d)/\vN ((e.drop d).map jB.name) h d=vN (e.map jB.name) h 0) ?_ ?_ G (by simp[j]);rintro d b f m n ⟨rfl,i,l,g,a⟩;rw[aL m,aR,vN]at a;simp[*];refine fG (λc=>?_) (λc=>?_);simp at c;rw[ax c]at a;simp[g,<-a];simp at c;rw[aw c]at a;simp[*];rintro b f ⟨rfl,i,l,g,a⟩;simp[vN]at a;simp[i,g,<-a]
def Q0{c:ik}(ht:c.p 173=D wa)(a:List jB)(b:List Nat)(hl:a.length<=1000000):rl prog cx c 173 [sl (a.map jB.t),.str b]=D (J (vN (a.map jB.name) b 0)):=iF ht U2 (a,b) hl
def wN(W:fJ)(a:List (List Nat))(b:T)(c next:Int):List T:=
 [sl (W.cells.map ji.t),sl (W.fQ.map jB.t),sl (W.je.map j7.t),sl (W.fI.map T.str),sl (W.d8.map T.str),sl (W.jL.map jE.t),sl (a.map T.str),b,J c,J next]
structure Gn(W:fJ)(L:List (List Nat))(n:Nat)(h:H)(g:Nat):Prop where
 ok:iS 0 h
 fp:∀b,Fp h g b->b<h.size
 ex:∃ver ov ke next,∃O:List iN,h.get g=D (dU 10 ver [.eQ (wN W L ov ke next)])/\Gr h ov 6 (O.map iN.t)/\O.length=n
def Gn.lt{W:fJ}{c:List (List Nat)}{e:Nat}{b:H}{a:Nat}(d:Gn W c e b a):a<b.size:=d.fp a (.inl rfl)
def Gn.same{W:fJ}{f:List (List Nat)}{k:Nat}{c d:H}{b:Nat}(j:Gn W f k c b)(q:iS 0 d)(h:∀a,Fp c b a->d.get a=c.get a)(p:c.size<=d.size):Gn W f k d b:=by obtain⟨s,l,r,next,m,g,n,o⟩:=j.ex;have i:=h b (.inl rfl);exact⟨q,λa e=>by rw[jN i]at e;exact bO (j.fp a e) p,s,l,r,next,m,i▸g,n.mono λa e=>h a (.inr ⟨_,g,l,by simp[ir,T.cells,wN],e⟩),o⟩
theorem Gn.cons{W:fJ}{b:List (List Nat)}{e:Nat}{d:H}{c:Nat}(a:Gn W b e d c)(f:jI):Gn W b e (d.cons f) c:=
 a.same (a.ok.cons f) (λg h=>by rw[fg,aw (iH (a.fp g h))]) V 
def Gn.hr{W:fJ}{b:List (List Nat)}{e:Nat}{a:H}{c:Nat}(d:Gn W b e a c):Gn W b e (TI.hr a) c:=d.same d.ok.hr (λf _=>iI a f) (az _)
def Gn.out{W:fJ}{b:List (List Nat)}{e:Nat}{h a:H}{c:Nat}(d:Gn W b e a c):Gn W b e (mF h a) c:=d.same (d.ok.out h) (λf _=>iA h a f) (az _)
def Gn.L4{W:fJ}{a:List (List Nat)}{h b f:Nat}{c:H}{d:T}{q next:Int}{g:List iN}(k:Gn W a h c b)(l:c.get b=D (dU 10 f [.eQ (wN W a d q next)]))(gO:Gr c d 6 (g.map iN.t))(m:g.length=h)(e next':Int):
 Step b c (fF c b (dU 10 (f+1) [.eQ (wN W a d e next')]))/\Gn W a h (fF c b (dU 10 (f+1) [.eQ (wN W a d e next')])) b:=by
 obtain⟨i,n,o,p⟩:=Fq k.ok k.fp l (cells':=wN W a d e next') (λr j=>by
  simp[wN]at j|-;rcases j with rfl|rfl|rfl|rfl|rfl|rfl|rfl|rfl|rfl|rfl<;>simp) _ rfl
 exact⟨i,⟨i.ok.hp,i.ok.low,aB _⟩,n,f+1,d,e,next',g,o,p _ _ _ gO dR,m⟩
def Gn.app{W:fJ}{b:List (List Nat)}{n a f:Nat}{c d:H}{h j:T}{e next:Int}{g:List iN}{x:iN}(o:Gn W b n c a)(k:c.get a=D (dU 10 f [.eQ (wN W b h e next)]))(gO:Gr c h 6 (g.map iN.t))(r:g.length=n)(s:Fh c h 6 (g.map iN.t++[x.t]) j d):
 d.get a=D (dU 10 f [.eQ (wN W b h e next)])/\gJ c d a/\Step a c (fF d a (dU 10 (f+1) [.eQ (wN W b j e next)]))/\Gn W b (n+1) (fF d a (dU 10 (f+1) [.eQ (wN W b j e next)])) a:=by
 obtain⟨l,u⟩:=AD (i:=7) o.ok o.fp k rfl dR gO s.xt;obtain⟨m,p,q,v⟩:=u _ rfl;exact⟨l.trans k,il l,m,⟨m.ok.hp,m.ok.low,aB _⟩,p,f+1,j,e,next,g++[x],by rw[ez (l.trans k),ax rfl],List.map_append▸q,by simp[r]⟩
def Gn.elem{W:fJ}{k:List (List Nat)}{g c b d h:Nat}{f:Bool}{a:H}{e:List T}{i:Nat}{x:iN}(u:Gn W k g a c)(m:a.get b=D ⟨6,d,h,f,false,e⟩)(A:Fp a c b)(r:b≠c)
 (B:∃q n o next,∃j:List iN,a.get c=D (dU 10 q [.eQ (wN W k n o next)])/\n= .arr b d 0 g false/\e.take g=j.map iN.t/\j.length=g/\i<g):
 Step c a (fF a b ⟨6,d,h+1,f,false,e.set i x.t⟩)/\Gn W k g (fF a b ⟨6,d,h+1,f,false,e.set i x.t⟩) c:=by
 obtain⟨q,n,o,next,j,y,rfl,z,l,C⟩:=B;have p:=Step.afI u.ok m A r ⟨6,d,h+1,f,false,e.set i x.t⟩;have s:(fF a b ⟨6,d,h+1,f,false,e.set i x.t⟩).get c=a.get c:=by rw[ez m,aw (bE r)]
 refine⟨p,⟨p.ok.hp,p.ok.low,aB _⟩,λw v=>by rw[jN s]at v;rw[iB];exact u.fp w v,q,_,o,next,j.set i x,s▸y,.inr ⟨b,d,h+1,f,e.set i x.t,by simp[l],by rw[ez m,ax rfl],?_⟩,by simp[l]⟩;rw[aK,dq,l,List.take_set,z,bg]
structure H5 where
 (W:fJ) (L:List (List Nat)) (n g:Nat) (i:iN)
def x8(a:H5)(b:List T)(c:H):Prop:=b=[dY a.g,a.i.t]/\Gn a.W a.L a.n c a.g/\a.n<=100000000
def uH(a:H5)(e:List T)(c:H)(d:T)(b:H):Prop:=d= .tuple []/\Step a.g c b/\Gn a.W a.L (a.n+1) b a.g
def P9:(jS H5 x8 uH).Ok prog cx 113:=by
 refine jz (tb:=⟨pt [],ht []⟩) jk iX (js 11 [] func113) (λ_ _=>5) (λd L h C=>by obtain⟨rfl,_⟩:=C;simp[f113]) ?_;rintro⟨W,s,Q,i,d⟩ _ h ⟨rfl,f,B⟩ U z
 dsimp at f B
 simp at z;have O:=f.lt;have P:(i=h.size)=False:=dP;obtain⟨K,l,e,next,u,j,gO,y⟩:=f.ex;have k:=(f.hr.cons (dU 6 1 [iN.t ⟨d.op,d.a,d.b,d.c,d.n,e⟩]));have p:=k.cons (dU 6 0 [iN.t ⟨d.op,d.a,d.b,d.c,d.n,e⟩]);have I:=(Step.cons (w:=i) f.ok.hr f.lt (dU 6 1 [iN.t ⟨d.op,d.a,d.b,d.c,d.n,e⟩])).trans (Step.cons k.ok k.lt (dU 6 0 [iN.t ⟨d.op,d.a,d.b,d.c,d.n,e⟩]));have v:(((hr h).cons (dU 6 1 [iN.t ⟨d.op,d.a,d.b,d.c,d.n,e⟩])).cons (dU 6 0 [iN.t ⟨d.op,d.a,d.b,d.c,d.n,e⟩])).get i=D (dU 10 K [.eQ (wN W s l e next)]):=by
  rw[fg,aw dP,fg,aw dP,iI];exact j
 have o:Gr (((hr h).cons (dU 6 1 [iN.t ⟨d.op,d.a,d.b,d.c,d.n,e⟩])).cons (dU 6 0 [iN.t ⟨d.op,d.a,d.b,d.c,d.n,e⟩])) l 6 (u.map iN.t):=gO.mono λm A=>by
  have:m<h.size:=f.fp m (.inr ⟨_,j,l,by simp[ir,T.cells,wN],A⟩);rw[fg,aw dP,fg,aw dP,iI]
 obtain⟨S,N,M,g⟩:=o.app (cx:=cx) p.ok (x:= .arr (h.size+1) 0 0 1 false) (xs:=[iN.t ⟨d.op,d.a,d.b,d.c,d.n,e⟩]) QH rfl Y4 QH rfl rfl V d4 V V dP;obtain⟨E,R,F,H⟩:=p.app v o y g;have q:=(I.trans F).out;have r:=H.out (h:=h);simp[wN]at j E q r;simp[*,f113,g.gr.iW,g.gr.cells,fD];exact⟨rfl,q,r⟩
structure Pv where
 (W:fJ) (L:List (List Nat)) (n g:Nat) (e:fy) (d:Int)
def okW(W:fJ):Prop:=W.cells.length<=1000000/\W.fQ.length<=1000000/\W.je.length<=1000000/\W.fI.length<=1000000/\W.d8.length<=1000000/\∃a,a<W.cells.length/\vN (W.cells.map ji.name) [113] 0=a
def JP(a:Pv)(b:List T)(c:H):Prop:=b=[dY a.g,a.e.t,J a.d]/\Gn a.W a.L a.n c a.g/\okW a.W/\a.L.length<=1000000/\ME a.e/\a.n+a.e.w<=10000000
def akN(W:fJ)(e:List (List Nat))(d g b:Nat)(f c:H):Prop:=Step b f c/\∃a,d<a/\a<=d+g/\Gn W e a c b
def Fo(a:Pv)(f:List T)(b:H)(d:T)(c:H):Prop:=d= .tuple []/\akN a.W a.L a.n a.e.w a.g b c
def qU{d:ik}{l:Nat}{W:fJ}{e:List (List Nat)}{c a:Nat}{i:iN}{f:H}{m:af Oper}{j:aa Tmp}{k:List Oper}{o n:iP}{g:jD}(ht:d.h 113=D (jS H5 x8 uH))(r:Gn W e c f a)(q:c<=100000000)
 (p:∀b,Step a f b->Gn W e (c+1) b a->XK (some (.tuple [],b)) cx (rY prog cx d) l m j k o n g):XK (hl prog cx d 113 [dY a,i.t] f) cx (rY prog cx d) l m j k o n g:=
 jl P9 ht ⟨W,e,c,a,i⟩ ⟨rfl,r,q⟩ (by rintro _ b ⟨rfl,u,s⟩;exact p b u s)
def ahq{e:ik}{p:Nat}{W:fJ}{f:List (List Nat)}{d a:Nat}{l:iN}{b:H}{r:af Oper}{i:List (Nat×Nat)}{j:aa Tmp}{q:Op}{n:List Oper}{m:Nat}{o:List (Nat×Nat)}{k:List (Nat×H×H)}{u s:iP}{g:jD}(ht:e.h 113=D (jS H5 x8 uH))(x:Gn W f d b a)(w:d<=100000000)
 (v:∀c,Step a b c->Gn W f (d+1) c a->Xn (some (.tuple [],c)) cx (rY prog cx e) p r i j q n m o k u s b g):Xn (hl prog cx e 113 [dY a,l.t] b) cx (rY prog cx e) p r i j q n m o k u s b g:=
 ma P9 ht ⟨W,f,d,a,l⟩ ⟨rfl,x,w⟩ (by rintro _ c ⟨rfl,z,y⟩;exact v c z y)
def TB(c:Nat)(B:(jS Pv (λd a b=>JP d a b/\d.e.w<c) Fo).Ok prog cx 218):(jS Pv (λd a b=>JP d a b/\d.e.w<c+1) Fo).Ok prog cx 218:=by
 refine jz (tb:=⟨pt [(151,Gt),(260,wm)],ht [(113,jS H5 x8 uH),(218,jS Pv (λd a b=>JP d a b/\d.e.w<c) Fo)]⟩) jk iX (js 20282409606012871684182924853463 [] func218) (λ_ _=>5) (λd a b U=>by obtain⟨⟨rfl,_⟩,_⟩:=U;simp[f218]) ?_;rintro⟨W,q,n,s,r,H⟩ _ b ⟨⟨rfl,c,i,v,hE,R⟩,Q⟩ bW j
 dsimp at c i v hE R Q
 simp at j;obtain⟨ap,av,aA⟩:=j;obtain⟨m,bn,bp⟩:=i.2.2.2.2.2;have a8:=c.lt;have bs:(s=b.size)=False:=dP;obtain⟨bS,bA,bH,next,Y,K,gO,aN⟩:=c.ex;simp[wN]at K;have l:=c.hr.cons (dU 4 0 [r.t]);have l1:=Lb.new c.hr.lt c.hr.fp (dU 4 0 [r.t]);have o:=Step.cons c.ok.hr c.hr.lt (dU 4 0 [r.t]);have ae:=λ{tb:ik} (b:tb.p 151=D Gt) F=>Tu b q F G;have al:=λ{tb:ik} (b:tb.p 260=D wm) F=>Q3 b W F i.1;have a7:=r.nG;simp[*,f218];cases hE with
 |num a=>
  simp[*];refine qU V l G λu g f=>?_;simp;exact⟨rfl,(o.trans g).out,n+1,dQ,dQ,f.out⟩
 |nm a=>
  simp[*];refine fG (λP=>?_) (λP=>?_);simp[*];refine qU V l G λu g f=>?_;simp;exact⟨rfl,(o.trans g).out,n+1,dQ,dQ,f.out⟩;simp[*];refine qU V l G λu g f=>?_;simp;exact⟨rfl,(o.trans g).out,n+1,dQ,dQ,f.out⟩
 | @ix a j=>
  have N:(fy.mk 3 0 [113] [a]).w=1+a.w:=by rw[fy.nG];simp[fy.lq,fy.jX]
  simp[*];refine jl B V ⟨W,q,n,s,a,H⟩ ⟨⟨rfl,l,i,v,j,dQ⟩,dQ⟩ ?_;rintro _ M ⟨rfl,h,C,z,A,k⟩
  dsimp at h z A k
  have l2:=l1.step h;obtain⟨bT,bC,bN,bu,Z,L,an,aX⟩:=k.ex;simp[wN,qq]at L l2;simp[*,l2.get];refine qU V k G λu g f=>?_;simp;exact⟨rfl,((o.trans h).trans g).out,C+1,dQ,dQ,f.out⟩
 | @bin x a y bi j O=>
  have N:(fy.mk x 0 [] [a,y]).w=1+a.w+y.w:=by rw[fy.nG];simp[fy.lq,fy.jX];omega
  simp[*,show¬x=1 by omega,show¬x=2 by omega,show¬x=3 by omega];refine jl B V ⟨W,q,n,s,a,H⟩ ⟨⟨rfl,l,i,v,j,dQ⟩,dQ⟩ ?_;rintro _ M ⟨rfl,h,C,z,A,k⟩
  dsimp at h z A k
  have l2:=l1.step h;simp[qq]at l2;simp[*,l2.get,qI];refine jl B V ⟨W,q,C,s,y,_⟩ ⟨⟨rfl,k,i,v,O,dQ⟩,dQ⟩ ?_;rintro _ aE ⟨rfl,E,X,S,T,I⟩
  dsimp at E S T I
  have l3:=l2.step E;simp[*,l3.get,qI];refine qU V I G λu g f=>?_;simp;exact⟨rfl,(((o.trans h).trans E).trans g).out,X+1,dQ,dQ,f.out⟩
abbrev T6:mU:=jS Pv (λa b c=>JP a b c/\a.e.w<10000001) Fo
def X9:T6.Ok prog cx 218:=yE (λa:Pv=>a.e.w) TB 10000001
def MZ{g:ik}{n:Nat}{W:fJ}{f:List (List Nat)}{d b:Nat}{a:fy}{k:Int}{i:H}{o:af Oper}{l:aa Tmp}{m:List Oper}{q p:iP}{j:jD}(ht:g.h 218=D T6)(y:Gn W f d i b)(u:okW W)(s:f.length<=1000000)(v:ME a)(x:d+a.w<=10000000)
 (r:∀c e,Step b i c->d<e->e<=d+a.w->Gn W f e c b->XK (some (.tuple [],c)) cx (rY prog cx g) n o l m q p j):XK (hl prog cx g 218 [dY b,a.t,J k] i) cx (rY prog cx g) n o l m q p j:=
 jl X9 ht ⟨W,f,d,b,a,k⟩ ⟨⟨rfl,y,u,s,v,x⟩,dQ⟩ (by rintro _ c ⟨rfl,C,e,z,A,B⟩;exact r c e C z A B)
structure ISt where
 (W:fJ) (L:List (List Nat)) (n g:Nat) (s:eY)
def Gz(a:ISt)(b:List T)(c:H):Prop:=b=[dY a.g,a.s.t]/\Gn a.W a.L a.n c a.g/\okW a.W/\a.L.length<=1000000/\MS a.s/\a.n+a.s.w<=10000000
def Bu(a:ISt)(f:List T)(d:H)(e:T)(c:H):Prop:=e= .tuple []/\Step a.g d c/\∃b,a.n<=b/\b<=a.n+a.s.w/\Gn a.W a.L b c a.g
def Ol:(jS ISt (λv y a=>Gz v y a/\v.s.op=1) Bu).Ok prog cx 214:=by
 refine jz (tb:=⟨pt [(151,Gt),(260,wm)],ht [(113,jS H5 x8 uH),(218,T6)]⟩) jk iX (js 36893488147419136123 [] func214) (λ_ _=>5) (λv y a R=>by obtain⟨⟨rfl,_⟩,_⟩:=R;simp[f214]) ?_;rintro⟨W,F,n,I,g⟩ _ a ⟨⟨rfl,b,c,j,k,Q⟩,u⟩ bC o
 dsimp at b c j k Q u
 simp at o;obtain⟨m,aX,a7⟩:=c.2.2.2.2.2;have aN:=b.lt;have a8:(I=a.size)=False:=dP;obtain⟨bA,bn,bu,next,O,K,gO,aE⟩:=b.ex;simp[wN]at K;have B:=b.hr.cons (dU 11 0 [g.t]);have l1:=Lb.new b.hr.lt b.hr.fp (dU 11 0 [g.t]);have x:=Step.cons b.ok.hr b.hr.lt (dU 11 0 [g.t]);have ap:=λ{tb:ik} (a:tb.p 151=D Gt) i=>Tu a F i G;have av:=λ{tb:ik} (a:tb.p 260=D wm) i=>Q3 a W i c.1;have S:=g.nG;have A:=k.ex (.inl u);simp[*,f214];rcases q:g.index with _|⟨i,r⟩
 simp[*];refine MZ V B c j A G λM w d Z ae e=>?_;have l2:=l1.step d;simp[qq]at l2;obtain⟨an,Y,al,X,H,l,L,N⟩:=e.ex;simp[wN]at l;simp[*,l2.get];refine fG (λP=>?_) (λP=>?_);simp[o];refine qU V e G λz h f=>?_;simp;exact⟨rfl,((x.trans d).trans h).out,w+1,dQ,dQ,f.out⟩;simp[*,l2.get];refine qU V e G λz h f=>?_;simp;exact⟨rfl,((x.trans d).trans h).out,w+1,dQ,dQ,f.out⟩;have bi:=k.arr u (by rw[q];simp);have T:=k.ind i (by rw[q];simp);rw[q,fy.lq]at S;simp[*];refine MZ V B c j T G λM w d Z ae e=>?_;have l2:=l1.step d;simp[qq]at l2;simp[o,l2.get,qI];refine MZ V e c j A G λaA U E bp bs C=>?_;have l3:=l2.step E;obtain⟨an,Y,al,X,H,l,L,N⟩:=C.ex;simp[wN]at l;simp[*,l3.get,qI];refine qU V C G λz h f=>?_;simp;exact⟨rfl,(((x.trans d).trans E).trans h).out,U+1,dQ,dQ,f.out⟩
def JN:mU:=⟨λd a=>∃W c f b h,d=[dY b,.str h]/\Gn W c f a b/\okW W,λ_ a g e=>e=a/\Ia g⟩
def Vk:JN.Ok prog cx 217:=by refine Nv (tb:=⟨pt [],ht []⟩) jk iX (js 67117107 [] func217) false (λ_ _=>1000005) (λp c m=>by obtain⟨W,i,n,e,h,rfl,_⟩:=m;simp[f217]) ?_;rintro _ c ⟨W,i,n,e,h,rfl,b,k⟩ a g;simp at g;obtain⟨w,u,v,next,o,j,gO,q⟩:=b.ex;simp[wN]at j;have hl:=k.2.2.1;simp[f217];refine gW W.je.length G (λb a d=>d=hr c/\TI.Y a 0=D (dY e)/\TI.Y a 1=D (.str h)/\TI.Y a 5=D (J b)) ?_ ?_ G (by simp[g]);rintro t a d s r ⟨rfl,f⟩;simp[*];refine fG (λl=>?_) (λl=>?_);simp[f];exact tR c _ _ b.ok.hp (Fr.refl _ _) rfl ⟨rfl,V⟩;simp[*];rintro a d ⟨rfl,f⟩;simp[*];exact tR c _ _ b.ok.hp (Fr.refl _ _) rfl ⟨rfl,V⟩
def Gn.opn{W:fJ}{r:List (List Nat)}{a:Nat}{j:H}{h:Nat}(u:Gn W r a j h)(x:0<a):∃p o next,∃b:List iN,∃c g q k f,j.get h=D (dU 10 p [.eQ (wN W r (.arr c g 0 a false) o next)])/\j.get c=D ⟨6,g,q,k,false,f⟩/\c≠h/\Fp j h c/\f.take a=b.map iN.t/\b.length=a/\∀e,e<a->∃w:iN,f[e]? =D w.t:=by
 obtain⟨p,y,o,next,b,i,gO,n⟩:=u.ex;rcases gO with⟨_,d⟩|⟨c,g,q,k,f,rfl,d,m⟩;simp at d;subst d;simp at n;omega;rw[aK,n]at i m;refine⟨p,o,next,b,c,g,q,k,f,i,d,λv=>by subst v;rw[i]at d;simp at d,.inr ⟨_,i,.arr c g 0 a false,by simp[ir,T.cells,wN],rfl⟩,m,n,λe s=>⟨b[e],?_⟩⟩;have:(f.take a)[e]? =(b.map iN.t)[e]? :=by rw[m]
 rw[cP,ax s,br,aF (l:=b) G]at this;exact this
def X1(W:fJ)(e:List (List Nat))(d b g:Nat)(f c:H):Prop:=Step b f c/\∃a,d<=a/\a<=d+g/\Gn W e a c b
structure ahM where
 (W:fJ) (L:List (List Nat)) (n g:Nat) (l:List eY)
def abI(a:ahM)(b:List T)(c:H):Prop:=b=[dY a.g,sl (a.l.map eY.t)]/\Gn a.W a.L a.n c a.g/\okW a.W/\a.L.length<=1000000/\(∀d∈a.l,MS d)/\a.n+eY.ws a.l<=10000000
abbrev Ii(e:Nat):mU:=jS ahM (λa c b=>abI a c b/\eY.ws a.l<e) (λa _ b f d=>f= .tuple []/\X1 a.W a.L a.n a.g (eY.ws a.l) b d)
abbrev rSt(d:Nat):mU:=jS ISt (λa b c=>Gz a b c/\a.s.w<d) Bu
def QY{j:Nat}(z:(Ii j).Ok prog cx 112){g:ik}{n:Nat}{W:fJ}{f:List (List Nat)}{d b:Nat}{a:List eY}{i:H}{o:af Oper}{l:aa Tmp}{m:List Oper}{q p:iP}{k:jD}(ht:g.h 112=D (Ii j))(y:Gn W f d i b)(u:okW W)(s:f.length<=1000000)(x:∀E∈a,MS E)(w:d+eY.ws a<=10000000)(v:eY.ws a<j)
 (r:∀c e,Step b i c->d<=e->e<=d+eY.ws a->Gn W f e c b->XK (some (.tuple [],c)) cx (rY prog cx g) n o l m q p k):XK (hl prog cx g 112 [dY b,sl (a.map eY.t)] i) cx (rY prog cx g) n o l m q p k:=
 jl z ht ⟨W,f,d,b,a⟩ ⟨⟨rfl,y,u,s,x,w⟩,v⟩ (by rintro _ c ⟨rfl,a,e,A,B,C⟩;exact r c e a A B C)
def EY(al:Nat)(aN:(Ii al).Ok prog cx 112):(jS ISt (λi av P=>(Gz i av P/\i.s.w<al+1)/\(i.s.op=2\/i.s.op=3)) Bu).Ok prog cx 215:=by
 refine jz (tb:=⟨pt [],ht [(113,jS H5 x8 uH),(218,T6),(112,Ii al)]⟩) jk iX (js 590296373308659073275 [] func215) (λ_ _=>5) (λi av P b8=>by obtain⟨⟨⟨rfl,_⟩,_⟩,_⟩:=b8;simp[f215]) ?_;rintro⟨W,N,eo,k,Y⟩ _ P ⟨⟨⟨rfl,h,S,Q,R,b7⟩,bZ⟩,aE⟩ eL T
 dsimp at h S Q R b7 aE bZ
 simp at T;have ee:=h.lt;have ef:(k=P.size)=False:=dP;obtain⟨eF,eu,cX,next,O,bu,gO,ea⟩:=h.ex;simp[wN]at bu;have b9:=h.hr.cons (dU 11 0 [Y.t]);have l1:=Lb.new h.hr.lt h.hr.fp (dU 11 0 [Y.t]);have c1:=Step.cons h.ok.hr h.hr.lt (dU 11 0 [Y.t]);have eh:=Y.nG;have b6:=R.ex (by rcases aE with q|q<;>simp[q]);simp[*,f215,gO.len (cx:=cx)];refine MZ V b9 S Q b6 G λdi f bi p1 p2 aX=>?_;have l2:=l1.step bi;simp[qq]at l2;obtain⟨eH,ey,eC,er,c9,bA,bH,eb⟩:=aX.ex;simp[wN]at bA;simp[*,bH.len (cx:=cx)];refine qU V aX G λdk bn ca=>?_;have l3:=l2.step bn;simp[T,l3.get];refine QY aN V ca S Q R.bd G G λbT d bp p3 p4 a7=>?_;have l4:=l3.step bp;obtain⟨eI,eA,eD,cv,dd,aA,bN,bW⟩:=a7.ex;obtain⟨an,y⟩:=a7.L4 aA bN bW cX cv;simp[wN]at aA an y;have l5:=l4.step an;have ap:=(((c1.trans bi).trans bn).trans bp).trans an;simp[*,fD];generalize fF bT k _=dm at*
 simp[l5.get];refine fG (λae=>?_) (λae=>?_);simp[T];refine qU V y G λC Z F=>?_;obtain⟨K,I,H,z,v,A,L,B,M,e,g,m,l,r,E,p⟩:=F.opn G;obtain⟨x,U⟩:=p f G;have o:f<d+1:=G;obtain⟨j,u⟩:=F.elem (i:=f) (x:=⟨x.op,x.a,((d+1:Nat):Int),x.c,x.n,x.ke⟩) g l m ⟨K,_,I,H,z,e,rfl,r,E,o⟩;simp[wN]at e;simp[*];exact⟨rfl,((ap.trans Z).trans (by simpa using j)).out,d+1,dQ,dQ,(by simpa using u:Gn W N (d+1) _ k).out⟩;simp[l5.get];refine fG (λae=>?_) (λae=>?_);simp[T];obtain⟨K,I,H,z,v,A,L,B,M,e,g,m,l,r,E,p⟩:=y.opn G;obtain⟨x,U⟩:=p f G;have o:f<d:=G;obtain⟨j,u⟩:=y.elem (i:=f) (x:=⟨x.op,x.a,(d:Int),x.c,x.n,x.ke⟩) g l m ⟨K,_,I,H,z,e,rfl,r,E,o⟩;simp[wN]at e;simp[*];exact⟨rfl,(ap.trans (by simpa using j)).out,d,dQ,dQ,(by simpa using u:Gn W N d _ k).out⟩;obtain⟨eK,eB,eE,et,de,bC,bS,ec⟩:=y.ex;simp[wN]at bC;simp[*,bS.len (cx:=cx)];refine qU V y G λC Z F=>?_;have l6:=l5.step Z;obtain⟨K,I,H,z,v,A,L,B,M,e,g,m,l,r,E,p⟩:=F.opn G;obtain⟨x,U⟩:=p f G;have o:f<d+1:=G;obtain⟨j,u⟩:=F.elem (i:=f) (x:=⟨x.op,x.a,((d+1:Nat):Int),x.c,x.n,x.ke⟩) g l m ⟨K,_,I,H,z,e,rfl,r,E,o⟩;simp[wN]at e;simp[*];replace j:Step k C (fF C v ⟨6,A,L+1,B,false,M.set f (iN.t ⟨x.op,x.a,(d:Int)+1,x.c,x.n,x.ke⟩)⟩):=iD j;replace u:Gn W N (d+1) (fF C v ⟨6,A,L+1,B,false,M.set f (iN.t ⟨x.op,x.a,(d:Int)+1,x.c,x.n,x.ke⟩)⟩) k:=iD u;have l7:=l6.step j;generalize fF C v _=dn at*
 clear e g U;simp[l7.get];refine QY aN V u S Q R.el G G λds X c4 p5 p6 a8=>?_;have Ld:=((ap.trans Z).trans j).trans c4;obtain⟨c7,cL,cp,bs,v,A,L,B,M,e,g,m,l,r,bX,p⟩:=a8.opn G;obtain⟨x,U⟩:=p d G;have o:d<X:=G;obtain⟨c6,cb⟩:=a8.elem (i:=d) (x:=⟨x.op,(X:Int),x.b,x.c,x.n,x.ke⟩) g l m ⟨c7,_,cL,cp,bs,e,rfl,r,bX,o⟩;simp[wN]at e;simp[*];exact⟨rfl,(Ld.trans (by simpa using c6)).out,X,dQ,dQ,(by simpa using cb:Gn W N X _ k).out⟩
structure IAr where
 (W:fJ) (L:List (List Nat)) (n g:Nat) (s:eY) (a b o:Int)
def xQ(h:Nat)(I:(Ii h).Ok prog cx 112):(jS IAr (λc x e=>x=[dY c.g,c.s.t,J c.a,J c.b,J c.o]/\Gz ⟨c.W,c.L,c.n,c.g,c.s⟩ [dY c.g,c.s.t] e/\c.s.w<h+1) (λc _ e Q B=>Bu ⟨c.W,c.L,c.n,c.g,c.s⟩ [] e Q B)).Ok prog cx 216:=by
 refine jz (tb:=⟨pt [],ht [(113,jS H5 x8 uH),(112,Ii h)]⟩) jk iX (js 1119 [] func216) (λ_ _=>5) (λc v e H=>by obtain⟨rfl,_⟩:=H;simp[f216]) ?_;rintro⟨W,X,aX,y,f,v,ae,a7⟩ _ e ⟨rfl,⟨_,d,l,j,k,F⟩,E⟩ bu m
 dsimp at d l j k F E
 simp at m;have aA:=d.lt;have aE:(y=e.size)=False:=dP;obtain⟨bp,a8,R,next,Y,z,gO,av⟩:=d.ex;simp[wN]at z;have K:=d.hr.cons (dU 11 0 [f.t]);have l1:=Lb.new d.hr.lt d.hr.fp (dU 11 0 [f.t]);have S:=Step.cons d.ok.hr d.hr.lt (dU 11 0 [f.t]);have aN:=f.nG;simp[*,f216];refine qU V K G λal r M=>?_;have l3:=l1.step r;simp[qq]at l3;simp[m,l3.get];refine QY I V M l j k.bd G G λan O T p3 p4 p=>?_;obtain⟨bs,bi,bn,P,Z,i,A,C⟩:=p.ex;obtain⟨u,q⟩:=p.L4 i A C R P;simp[wN]at i u q;simp[*,fD];refine qU V q G λap U N=>?_;simp;exact⟨rfl,((((S.trans r).trans T).trans u).trans U).out,O+1,dQ,dQ,N.out⟩
def TO(i:Nat)(B:(rSt i).Ok prog cx 175):(Ii i).Ok prog cx 112:=by
 refine jz (tb:=⟨pt [],ht [(175,rSt i)]⟩) jk iX (js 275 [] func112) (λ_ _=>10000005) (λb E o A=>by obtain⟨⟨rfl,_⟩,_⟩:=A;simp[f112]) ?_;rintro⟨W,n,j,d,l⟩ _ o ⟨⟨rfl,g,s,q,r,z⟩,y⟩ c u
 dsimp at g s q r z y
 simp at u;have hl:=eY.yi (l:=l);simp[f112];refine gW l.length G (λb c e=>Step d (hr o) e/\(∃a,j<=a/\a<=j+eY.ws (l.take b)/\Gn W n a e d)/\TI.Y c 0=D (dY d)/\TI.Y c 1=D (sl (l.map eY.t))/\TI.Y c 4=D (J b)) ?_ ?_ G (by simp[u,Step.refl g.ok.hr];exact⟨j,az _,G,g.hr⟩);rintro b c e f H ⟨m,⟨a,w,k,h⟩,p⟩;have L:=eY.Jz l f;have K:=eY.Bi l (b+1);have I:=eY.yU (aH f);simp[*];refine jl B V ⟨W,n,a,d,l[b]⟩ ⟨⟨rfl,h,s,q,r _ (aH f),dQ⟩,dQ⟩ ?_;rintro _ F ⟨rfl,x,C,p1,p2,v⟩
 dsimp at x p1 p2 v
 simp[*];exact⟨m.trans x,C,G,G,v⟩;rintro c e ⟨m,⟨a,w,k,h⟩,p⟩;rw[aM]at k;simp[p];exact⟨m.out,a,w,k,h.out⟩
def XO(A:Nat)(P:(Ii A).Ok prog cx 112):(rSt (A+1)).Ok prog cx 175:=by
 obtain⟨F,bp⟩:=hlI Vk (λ_ _ _ _ I=>I);refine jz (tb:=⟨pt [(151,Gt),(173,wa)],ht [(113,jS H5 x8 uH),(218,T6),(214,jS ISt (λe Q i=>Gz e Q i/\e.s.op=1) Bu),(215,jS ISt (λe Q i=>(Gz e Q i/\e.s.w<A+1)/\(e.s.op=2\/e.s.op=3)) Bu),
  (216,jS IAr (λe aN i=>aN=[dY e.g,e.s.t,J e.a,J e.b,J e.o]/\Gz ⟨e.W,e.L,e.n,e.g,e.s⟩ [dY e.g,e.s.t] i/\e.s.w<A+1) (λe _ i r j=>Bu ⟨e.W,e.L,e.n,e.g,e.s⟩ [] i r j)),(217,JN)]⟩) jk iX (js 365376106316094180278949616271352870286206697499 [(11,[(1,9)]),(13,[(1,9)]),(15,[(1,9)]),(34,[(7,12),(7,14)])] func175) (λ_ _=>5) (λe Q i bA=>by obtain⟨⟨rfl,_⟩,_⟩:=bA;simp[f175]) ?_
 rintro⟨W,B,k,y,l⟩ _ i ⟨⟨rfl,I,x,E,H,M⟩,N⟩ eh an
 dsimp at I x E H M N
 simp at an;obtain⟨C,bn⟩:=an;have cL:=I.lt;have cX:(y=i.size)=False:=dP;obtain⟨ea,c7,dk,next,O,a7,gO,cb⟩:=I.ex;have av:=I.hr.cons (dU 11 0 [l.t]);have l1:=Lb.new I.hr.lt I.hr.fp (dU 11 0 [l.t]);have bS:=Step.cons I.ok.hr I.hr.lt (dU 11 0 [l.t]);have c1:=l.nG;obtain⟨eb,c9,dm,aE,bW,T,a8,bs⟩:=av.ex;obtain⟨Y,X⟩:=av.L4 T a8 bs aE aE;obtain⟨ec,dd,bN,bH,bX,U,bi,bu⟩:=X.ex;obtain⟨Z,f⟩:=X.L4 U bi bu bN (IntKind.i64.wrap (bH+1));have l3:=(l1.step Y).step Z;simp[wN,qq]at a7 T Y X U Z f l3;simp[f175,C,bn,T,fD,U,qI];have m:=(bS.trans Y).trans Z;have R:=λ{tb:ik} (ht:tb.h 217=D JN) K=>bp ht [dY y,.str K] _ ⟨W,B,k,y,K,rfl,f,x⟩;generalize fF (fF _ y _) y _=b9 at*
 obtain⟨ee,de,dn,c4,bZ,z,b7,cp⟩:=f.ex;simp[wN]at z;have aX:=λ{tb:ik} (i:tb.p 151=D Gt) K=>Tu i B K G;have eT:=λ{tb:ik} (i:tb.p 151=D Gt) K=>Tu i W.d8 K (iH x.2.2.2.2.1);have ae:=λ{tb:ik} (i:tb.p 151=D Gt) K=>Tu i W.fI K (iH x.2.2.2.1);have S:=λ{tb:ik} (i:tb.p 173=D wa) K=>Q0 i W.fQ K x.2.1;simp[z,l3.get]
 repeat' (refine fG (λap=>?_) (λap=>?_)<;>simp[ap,C,l3.get])
 .try simp[C,l3.get]
  refine jl Ol V ⟨W,B,k,y,l⟩ ⟨⟨rfl,f,x,E,H,M⟩,iD (‹decide (l.op=1)=true›)⟩ ?_;rintro _ j ⟨rfl,c,q,u,v,d⟩;simp;exact⟨rfl,(m.trans c).out,q,u,v,d.out⟩
 .try simp[C,l3.get]
  refine jl (EY A P) V ⟨W,B,k,y,l⟩ ⟨⟨⟨rfl,f,x,E,H,M⟩,N⟩,.inl (iD (‹decide (l.op=2)=true›))⟩ ?_;rintro _ j ⟨rfl,c,q,u,v,d⟩;simp;exact⟨rfl,(m.trans c).out,q,u,v,d.out⟩
 .try simp[C,l3.get]
  refine jl (EY A P) V ⟨W,B,k,y,l⟩ ⟨⟨⟨rfl,f,x,E,H,M⟩,N⟩,.inr (iD (‹decide (l.op=3)=true›))⟩ ?_;rintro _ j ⟨rfl,c,q,u,v,d⟩;simp;exact⟨rfl,(m.trans c).out,q,u,v,d.out⟩
 simp[l3.get,z,S];refine ma (xQ A P) V ⟨W,B,k,y,l,11,12,_⟩ ⟨rfl,⟨rfl,f,x,E,H,M⟩,N⟩ ?_;rintro _ j ⟨rfl,c,q,u,v,d⟩;simp;exact⟨rfl,(m.trans c).out,q,u,v,d.out⟩;simp[l3.get,z,S];refine ma (xQ A P) V ⟨W,B,k,y,l,13,14,_⟩ ⟨rfl,⟨rfl,f,x,E,H,M⟩,N⟩ ?_;rintro _ j ⟨rfl,c,q,u,v,d⟩;simp;exact⟨rfl,(m.trans c).out,q,u,v,d.out⟩;simp[l3.get,z,S];refine ma (xQ A P) V ⟨W,B,k,y,l,15,16,_⟩ ⟨rfl,⟨rfl,f,x,E,H,M⟩,N⟩ ?_;rintro _ j ⟨rfl,c,q,u,v,d⟩;simp;exact⟨rfl,(m.trans c).out,q,u,v,d.out⟩
 .try simp[C,l3.get,z]
  refine jl (xQ A P) V ⟨W,B,k,y,l,17,18,_⟩ ⟨rfl,⟨rfl,f,x,E,H,M⟩,N⟩ ?_;rintro _ j ⟨rfl,c,q,u,v,d⟩;simp;exact⟨rfl,(m.trans c).out,q,u,v,d.out⟩
 .try simp[C,l3.get,z]
  refine jl (xQ A P) V ⟨W,B,k,y,l,19,20,_⟩ ⟨rfl,⟨rfl,f,x,E,H,M⟩,N⟩ ?_;rintro _ j ⟨rfl,c,q,u,v,d⟩;simp;exact⟨rfl,(m.trans c).out,q,u,v,d.out⟩
 simp[R];refine qU V f G λj c d=>?_;simp;exact⟨rfl,(m.trans c).out,k+1,dQ,dQ,d.out⟩;simp[R];refine qU V f G λj c d=>?_;simp;exact⟨rfl,(m.trans c).out,k+1,dQ,dQ,d.out⟩;simp[R];refine qU V f G λj c d=>?_;simp;exact⟨rfl,(m.trans c).out,k+1,dQ,dQ,d.out⟩;simp[l3.get,z,eT];refine qU V f G λj c d=>?_;simp;exact⟨rfl,(m.trans c).out,k+1,dQ,dQ,d.out⟩;simp[l3.get,z,eT];refine qU V f G λj c d=>?_;simp;exact⟨rfl,(m.trans c).out,k+1,dQ,dQ,d.out⟩
 .try simp[C,l3.get,z]
  refine MZ V f x E (H.ex (.inr (.inr (.inr (iD (‹decide (l.op=14)=true›)))))) G λca bC c p1 p2 aA=>?_;obtain⟨ef,di,ds,c6,b6,al,b8,cv⟩:=aA.ex;simp[wN]at al;simp[C,(l3.step c).get,al,ae];refine qU V aA G λj bT d=>?_;simp;exact⟨rfl,((m.trans c).trans bT).out,bC+1,dQ,dQ,d.out⟩
 simp[C,l3.get,z,aX,ae];refine ahq V f G λj c d=>?_;simp;exact⟨rfl,(m.trans c).out,k+1,dQ,dQ,d.out⟩;exact⟨rfl,m.out,k,az _,dQ,f.out⟩
def RY(a:Nat):(Ii a).Ok prog cx 112:=by
 induction a with
 |zero=>intro d e ⟨f,_,b⟩;exact absurd b (Nat.not_lt_zero _)
 |succ a c=>exact TO (a+1) (XO a c)
def abD(a:iR):Prop:=∀c∈a.kh,∀b∈jT c,0<=b/\b<a.j1
def abq(a:iR):Prop:=0<=a.j1/\a.j1<=32/\abD a
def Gg(a:iN):(jT a).length<=3:=by
 unfold jT
 (repeat' split)<;>simp
def IQ:pI prog cx 154 (λa:fJ×Int×iR=>[a.1.t,J a.2.1,a.2.2.t]) (λa=>a.2.2.kh.length<=10000001) (λa=>SD (abq a.2.2)):=by
 refine j2 [(191,zo),(192,Gj),(193,rIn ()),(114,qz)] (js 348794743007212715313826391199890521722863 [] func154) (λa=>a.2.2.kh.length+5) (λa b h=>by simp at h;exact aG (fJ.inj h.1) (aG h.2.1 (iR.inj h.2.2))) ?_;rintro⟨u,R,e⟩ hl d N;simp at hl N;obtain⟨S,j,U⟩:=N;simp[f154,S,U];refine fG (λf=>?_) (λf=>?_);simp;simp at f;simp;refine gW e.kh.length G (λq d h=>iS 2 h/\h.get 0=D (dU 6 0 [u.t])/\h.get 1=D (dU 2 0 [e.t])/\TI.Y d 1=D (J R)/\TI.Y d 3=D (dY 0)/\TI.Y d 5=D (dY 1)/\TI.Y d 7=D (J e.kh.length)/\TI.Y d 8=D (J q)/\
  ∀L∈e.kh.take q,∀s∈jT L,0<=s/\s<e.j1) ?_ ?_ G ?_
 .rintro q d h P W ⟨i,l,m,j,n,o,k,p,E⟩;have H:=i.ne (b:=0) G;have Q:=i.ne (b:=1) G;have K:e.kh.take (q+1)=e.kh.take q++[e.kh[q]]:=aT P;have ae:=lK (a:=e.kh.length) (b:=1) G G;simp[l,m,n,o,k,p,P,H,Q,i.low,ae,Wp,adl,show e.kh.length<=140737488355328 by omega];generalize e.kh[q]=c at*
  refine fG (λf=>?_) (λf=>?_);simp[i.hp];clear f;have an:(decide (c.op=28)/\True/\True/\∃g:jE,g=g)\/(decide (c.op=28)=false/\jx c.ke u.jL.length=false/\True/\∃g:jE,g=g)\/(decide (c.op=28)=false/\jx c.ke u.jL.length/\lr c.ke=D c.ke.toNat/\∃g,u.jL[c.ke.toNat]? =D g):=by
   cases ap:decide (c.op=28);cases M:jx c.ke u.jL.length;exact .inr (.inl ⟨rfl,rfl,trivial,default,rfl⟩);have⟨g,al,av⟩:=jm M;exact .inr (.inr ⟨rfl,rfl,fO (fT.1 M).1,g,al⟩);exact .inl ⟨rfl,trivial,trivial,default,rfl⟩
  rcases an with⟨x,y,z,g,A⟩|⟨x,y,z,g,A⟩|⟨x,y,z,g,A⟩
  all_goals simp [l,j,n,H,x,y,z,A,yL,i.hp]
  all_goals
   refine fG (λf=>?_) (λf=>?_);simp[i.hp];simp[k,yL];clear f x y z A;refine fG (λf=>?_) (λf=>?_);simp[i.hp];simp[yt]
  all_goals
   refine gW (jT c).length (iH (Gg c)) (λr d v=>iS 2 v/\v.get 0=D (dU 6 0 [u.t])/\v.get 1=D (dU 2 0 [e.t])/\TI.Y d 1=D (J R)/\TI.Y d 3=D (dY 0)/\TI.Y d 5=D (dY 1)/\TI.Y d 7=D (J e.kh.length)/\TI.Y d 8=D (J q)/\
    TI.Y d 10=D (sl ((jT c).map (T.int .i64)))/\TI.Y d 11=D (J r)/\∀s∈(jT c).take r,0<=s/\s<e.j1) ?_ ?_ (iH (Gg c)) ⟨i.cons _,by simp[l,m,j,n,o,k,p,H,Q]⟩
   rintro r d v O X ⟨F,l,m,j,n,o,k,p,B,C,hr⟩;have K:(jT c).take (r+1)=(jT c).take r++[(jT c)[r]]:=aT O;simp[m,o,B,C,O,yL];generalize(jT c)[r]=s at*
   refine fG (λf=>?_) (λf=>?_);simp[F.hp];have Z:=VN.1 (show OJ s e.j1=true from iD f);simp[l,m,j,n,o,k,p,B,C,X,F,K];intro w I;rcases I with I|rfl
   exact hr w I;exact Z;rintro d v ⟨F,l,m,j,n,o,k,p,B,C,hr⟩;rw[aM]at hr;simp[l,m,j,n,o,k,p,B,C,W,F,K];intro L w;rcases w with w|rfl;exact E L w;exact hr
 rintro d h ⟨i,l,m,j,n,o,k,p,E⟩;rw[aM]at E;simp[k,p,i.hp];exact⟨f.1.1,f.1.2,E⟩;exact⟨⟨V,V,V⟩,by simp[j]⟩
def V8(a:kU):Prop:=li a.gG=true/\a.d8.length=a.gG.d8.length/\∀b∈a.d8,abq b
def AC:pI prog cx 102 (λa:kU=>[a.t]) (λa=>∀k∈a.d8,k.kh.length<=10000001) (λa=>SD (V8 a)):=by
 refine j2 [(95,Bm),(154,IQ.jV)] (js 17184194575 [] func102) (λa=>100) (λw n c=>by simp at c;exact kU.inj c) ?_;rintro a hl d p;simp at p;simp[f102,p,C1];refine fG (λh=>?_) (λh=>?_);simp;simp at h;have x:a.gG.d8.length<=4:=by
  have:=h.1;unfold li vY at this;simp[aC,aO]at this;omega
 have s:a.d8.length=a.gG.d8.length:=G;simp;refine gW a.d8.length G (λb d c=>iS 1 c/\c.get 0=D (dU 7 0 [a.t])/\TI.Y d 1=D (dY 0)/\TI.Y d 3=D (J b)/\∀k∈a.d8.take b,abq k) ?_ ?_ G ⟨⟨V,V,V⟩,V⟩;rintro b d c l r ⟨j,e,f,g,i⟩;have u:a.d8.take (b+1)=a.d8.take b++[a.d8[b]]:=aT l;obtain⟨_,⟨n,rfl,q⟩,o⟩:=IQ.use (a.gG,(b:Int),a.d8[b]) (hl _ (aH l));simp[e,f,g,l];generalize a.d8[b]=k at*
 dsimp at o q
 simp[o];cases n;simp[j.hp];simp[e,f,g,r,j,u];intro v m;rcases m with m|rfl
 exact i v m;exact q rfl;rintro d c ⟨j,e,f,g,i⟩;rw[aM]at i;simp[e,f,g,j.hp];exact⟨h.1,s,i⟩
section
attribute [-simp] size_cons
structure ZH where
 (i:iN) (s:gu) (a b:T) (es:List T) (lo hi N:Nat)
structure TOk(N r:Nat)(s:gu):Prop where
 rl:s.j1.length=r
 tl:s.lP.length=r
 tn:∀l∈s.lP,Tn N l
def Ue(c:ZH)(e:List T)(d:H):Prop:=e=[c.i.t,Fj c.s c.a c.b]/\E0 c.lo c.hi d c.a c.b c.es c.s/\c.hi<=d.size/\iS 0 d/\1<=c.i.op/\c.i.op<=5/\TOk c.N c.s.j1.length c.s/\c.s.j1.length<=1000/\c.N<=1000000
def PX(a:ZH)(k:List T)(e:H)(j:T)(c:H):Prop:=∃d f g i h,j= .tuple [Fj d f g,.ej h]/\E0 a.lo c.size c f g i d/\(∀b,b<e.size->(b<a.lo\/a.hi<=b)->c.get b=e.get b)/\iS e.size c/\(h->TOk a.N a.s.j1.length d/\d.ei=a.s.ei)
def E0.mono{g f lo' hi':Nat}{k h':H}{h i:T}{j:List T}{l:gu}(c:E0 g f k h i j l)(hl:lo'<=g)(n:f<=hi')(e:∀a,g<=a->a<f->h'.get a=k.get a):E0 lo' hi' h' h i j l:=
 ⟨c.ga.mono λa b=>e a (c.ba a b).1 (c.ba a b).2.1,c.gb.mono λa b=>e a (c.bb a b).1 (c.bb a b).2,c.el.imp λm o d=>⟨d.1.mono λa b=>e a (d.2 a b).1 (d.2 a b).2.1,λa b=>⟨iH (d.2 a b).1,iH (d.2 a b).2.1,(d.2 a b).2.2⟩⟩,λa b=>⟨iH (c.ba a b).1,iH (c.ba a b).2.1,(c.ba a b).2.2⟩,λa b=>⟨iH (c.bb a b).1,iH (c.bb a b).2⟩⟩
def E0.same{h g:Nat}{f:H}{c d:T}{e:List T}{b s':gu}(a:E0 h g f c d e b)(i:s'.j1=b.j1)(j:s'.lP=b.lP):E0 h g f c d e s':=⟨i▸a.ga,a.gb,j▸a.el,a.ba,a.bb⟩
def E0.zero(e d:Nat)(c:H):E0 e d c dT dT [] ⟨0,[],[],0⟩:=⟨Gr.nil _ _,Gr.nil _ _,.nil,V,V⟩
theorem d5{p:Prop}(h:p:=by unfold jT;simp[e]):p:=h
def UN:(jS ZH Ue PX).Ok prog cx 243:=by
 refine jz (tb:=⟨pt [(114,qz),(273,Bz.jV),(272,LD.jV),(274,IY.jV)],ht [(80,jS IUn Ud NW)]⟩) jk iX (js 9904163146420522906957187071 [(20,[(2,4),(2,6),(2,7),(2,8)]),(10,[(2,4),(2,6),(2,7),(2,8),(2,10),(2,12),(2,13),(2,14)]),(22,[(1,11),(3,11),(5,11),(7,11),(5,13),(7,13)])] func243) (λ_ _=>100) (λi an g fi=>by obtain⟨rfl,_⟩:=fi;simp[f243]) ?_;rintro⟨i,j,an,ap,U,ef,fe,N⟩ _ g ⟨rfl,h,fb,c7,fl,fo,z,hr,e7⟩ l dm
 dsimp at h fb fl fo z hr e7
 simp[Fj]at dm;simp[f243,dm,yt];generalize W:(((TI.hr g).cons _).cons _).cons _=q;have K:iS 0 q:=W▸((c7.hr.cons _).cons _).cons _;have gj:q.size=g.size+1+1+1:=by rw[<-W];rfl
 have aX:Nb g q:=W▸⟨((((Nb.refl c7.hr).cons _).cons _).cons _).ok,λd f=>(((((Nb.refl c7.hr).cons _).cons _).cons _).get d f).trans (iI g d)⟩;have R:q.get g.size=D (dU 6 0 [i.t]):=by rw[<-W];simp
 have S:q.get (g.size+1)=D (dU 4 0 [.eQ [J j.pC,an,ap,J j.ei]]):=by rw[<-W];simp
 have a7:q.get (g.size+1+1)=D (dU 4 0 [.eQ [J 0,dT,dT,J 0]]):=by rw[<-W];simp
 clear W;have ee:=h.ga.len (cx:=cx) q XL _ rfl;rw[aK]at ee;have e6:∀y,(fF q (g.size+1+1) y).get (g.size+1+1)=D y:=λy=>(ez a7 y _).trans (ax rfl);have gB:=Gg i;refine gW (jT i).length G (λZ l h'=>q=h'/\TI.Y l 2=D (dY g.size)/\TI.Y l 3=D (dY (g.size+1))/\TI.Y l 4=D (dY (g.size+1+1))/\TI.Y l 6=D (sl (iy (jT i)))/\TI.Y l 7=D (J Z)/\∀I∈(jT i).take Z,0<=I/\I<j.j1.length) ?_ ?_ G V;rintro Z l _ aN e8 ⟨rfl,r,s,B,bN,bS,F⟩;have fs:(jT i).take (Z+1)=(jT i).take Z++[(jT i)[Z]]:=aT aN;simp[s,bN,bS,aN,S,ee];generalize(jT i)[Z]=I at*
 refine fG (λbA=>?_) (λbA=>?_);simp[B,a7,e6,fD];refine⟨⟨0,[],[],0⟩,_,_,_,false,rfl,E0.zero _ _ _,λd f _=>?_,⟨(K.put _ _).out g|>.hp,(K.put _ _).out g|>.low,dP⟩,V⟩;rw[iA,ez a7,aw G];exact aX.get d f;simp at bA;simp[r,s,B,bN,bS,e8,fs];intro x c1;rcases c1 with c1|rfl
 exact F x c1;omega
 .rintro l _ ⟨rfl,r,s,B,bN,bS,F⟩;rw[aM]at F;simp[r,bN,bS,R];have b7:qk q 1 an (iy j.j1):= .inr (h.ga.mono λd f=>aX.get d (iH (h.ba d f).2.1));have b8:qk q 1 ap U:= .inr (h.gb.mono λd f=>aX.get d (iH (h.bb d f).2));have b6:∀I:Int,0<=I->I<j.j1.length->∃u e,j.lP[I.toNat]? =D u/\U[I.toNat]? =D e/\qk q 1 e (iy u)/\Tn N u:=λI r0 r1=>by
   have aN:I.toNat<j.lP.length:=iH z.tl;have⟨e,bX,k⟩:=h.el.get (aF aN);exact⟨_,e,aF aN,bX,k.1.mono λd f=>aX.get d (iH (k.2 d f).2.1),z.tn _ (aH aN)⟩
  refine lJ (λl E=>∃(v:Int) (eE:T) (w:T) (al:List Int),E8 eE/\Nb q E/\qk E 1 w (iy al)/\Tn N al/\jx i.a j.j1.length/\TI.Y l 2=D (dY g.size)/\TI.Y l 3=D (dY (g.size+1))/\TI.Y l 4=D (dY (g.size+1+1))/\TI.Y l 8=D (J v)/\TI.Y l 9=D eE/\TI.Y l 10=D w) (λbA=>?_) (λbA=>?_) ?_
  .simp[r,s,B,R,S,a7,fD,nT,K.hp,gj];refine⟨{j with pC:=i.a},an,ap,U,true,rfl,(h.mono (az _) dP λd _ f=>?_).same rfl rfl,λd f _=>?_,⟨(((K.put _ _).put _ _).out g).hp,(((K.put _ _).put _ _).out g).low,dP⟩,λ_=>⟨⟨rfl,z.tl,z.tn⟩,rfl⟩⟩
   all_goals (rw[iA,nT (iD K.hp) dP,aw G,ez S,aw G];exact aX.get d G)
  have gy:¬i.op=5:=iD bA;have f:i.op=1\/i.op=2\/i.op=3\/i.op=4:=G;rcases f with e|e|e|e
  have L:=F i.a d5;simp[r,s,B,R,e];exact⟨_,_,⟨_,rfl⟩,Nb.refl K,_,[],.inr (Gr.nil _ _),Tn.nil N,fT.2 ⟨L.1,G⟩,rfl,rfl,rfl⟩;have L:=F i.a d5;have C:=F i.b d5;have⟨p1,a8,bi⟩:=b7.idx (te:=JB) rfl rfl (i:=i.b.toNat) (x:= J j.j1[i.b.toNat]) (by simp[show i.b.toNat<j.j1.length by omega]) rfl;have⟨u,w,hl,bC,Q,O⟩:=b6 i.b C.1 C.2;have⟨p2,bn,bp⟩:=b8.idx (te:=pJ) rfl rfl bC Q.iW.2;simp[r,s,B,R,S,e,fO C.1,a8,bi,bn,bp];exact⟨_,_,⟨_,rfl⟩,Nb.refl K,_,u,Q,O,fT.2 ⟨L.1,G⟩,rfl,rfl,rfl⟩;have L:=F i.a d5;have C:=F i.b d5;have⟨p1,a8,bi⟩:=b7.idx (te:=JB) rfl rfl (i:=i.b.toNat) (x:= J j.j1[i.b.toNat]) (by simp[show i.b.toNat<j.j1.length by omega]) rfl;have⟨u,w,hl,bC,Q,O⟩:=b6 i.b C.1 C.2;have⟨p2,bn,bp⟩:=b8.idx (te:=pJ) rfl rfl bC Q.iW.2;obtain⟨_,⟨o,rfl⟩,cv⟩:=Bz.use i.n trivial;obtain⟨_,⟨gg,fC,rfl⟩,bs⟩:=LD.use (o,j.j1[i.b.toNat]) trivial
  dsimp at bs
  simp[r,s,B,R,S,e,fO C.1,a8,bi,bn,bp,cv,bs];exact⟨_,_,⟨_,rfl⟩,Nb.refl K,_,u,Q,O,fT.2 ⟨L.1,G⟩,rfl,rfl,rfl⟩;have L:=F i.a d5;have C:=F i.b d5;have cX:=F i.c d5;have⟨p1,a8,bi⟩:=b7.idx (te:=JB) rfl rfl (i:=i.b.toNat) (x:= J j.j1[i.b.toNat]) (by simp[show i.b.toNat<j.j1.length by omega]) rfl;have⟨p3,eL,eM⟩:=b7.idx (te:=JB) rfl rfl (i:=i.c.toNat) (x:= J j.j1[i.c.toNat]) (by simp[show i.c.toNat<j.j1.length by omega]) rfl;have⟨u,w,hl,bC,Q,O⟩:=b6 i.b C.1 C.2;have⟨l2,gi,gz,fv,er,eD⟩:=b6 i.c cX.1 cX.2;have⟨p2,bn,bp⟩:=b8.idx (te:=pJ) rfl rfl bC Q.iW.2;have⟨p4,eN,eO⟩:=b8.idx (te:=pJ) rfl rfl fv er.iW.2;obtain⟨_,⟨o,rfl⟩,cv⟩:=Bz.use i.n trivial;obtain⟨_,⟨gg,fC,rfl⟩,bs⟩:=IY.use (o,j.j1[i.b.toNat],j.j1[i.c.toNat]) trivial
  dsimp at bs
  simp[r,s,R,S,e,fO C.1,fO cX.1,a8,bi,bn,bp,eL,eM,eN,eO,cv,bs];refine jl LC V ⟨u,l2,w,gi⟩ ⟨rfl,Q,er,by have:=O.1;have:=eD.1;simp only;omega,K⟩ ?_;rintro I E ⟨fY,M,_⟩;simp[r,s,B];exact⟨_,_,⟨_,rfl⟩,M,_,_,fY,O.union eD,fT.2 ⟨L.1,G⟩,rfl,rfl,rfl⟩;rintro l E ⟨v,_,w,al,⟨fE,rfl⟩,M,fX,O,L,r,s,B,di,dk,de⟩;have ca:=(M.get _ G).trans R;have cb:=(M.get _ G).trans S;have dd:=(M.get _ G).trans a7;have gZ:=M.ok.sz;have⟨cL,p,cp,⟨gI,gn,gA⟩,gV,bH,P⟩:=kN (cx:=cx) (⟨M.ok.hp,M.ok.low,aB _⟩:iS 0 E) kE rfl nc kE rfl rfl V fX.jQ d1 (qN O.1);have X:=fT.1 L;have ae:Nb g p:=⟨⟨P.hp,P.low,G⟩,λd f=>(bH d G).trans ((M.get d G).trans (aX.get d f))⟩;have gk:=(bH _ G).trans ca;have eI:=(bH _ G).trans cb;have eK:=(bH _ G).trans dd;have⟨m,gm,gM,gv,gQ,bu,dn,aA,ds⟩:=(h.ga.mono (h':=p) λd f=>ae.get d (iH (h.ba d f).2.1)).CI (te:=JB) rfl (i:=i.a.toNat) (iD X.2);have⟨A,eP,gP,gw,gS,aE,e9,bW,ea⟩:=(h.gb.mono (h':=p) λd f=>ae.get d (iH (h.bb d f).2)).CI (te:=pJ) rfl (i:=i.a.toNat) (by rw[h.el.length,z.tl];exact X.2);simp at cp;have bZ:=(h.ba m bu).2.2;have ec:¬m=A:=λk=>bZ (k▸aE);have eh:=H.fN aA;have fB:=H.fN bW;have eo:=(h.ba m bu);have gF:=(h.bb A aE);have gD:=eo.1;have gE:=eo.2.1;have⟨e,bX,fW⟩:=h.el.get (aF (show i.a.toNat<j.lP.length from z.tl▸X.2));have eB:=wI (x:= .arr E.size cL 0 al.length false) fW.1.na;have fA:U[i.a.toNat]'(by rw[h.el.length,z.tl];exact X.2)=e:=by rw[aF (by rw[h.el.length,z.tl];exact X.2)]at bX;simpa using bX
  rw[fA]at ea;have eC:∀x:Int,ly (J x) 0 [J v]=D (J v):=λx=>rfl;have c9:∀d,d<E.size->gJ (E.cons (dU 1 0 [])) p d=true:=λd f=>il ((bH d f).trans d2);have et:=c9 g.size G;have eu:=c9 (g.size+1) G;have ey:=pj aA (show g.size≠m by omega);have eA:=pj aA (show g.size+1≠m by omega);have gd:=pj aA (show A≠m by omega);have eR:(g.size+1=m)=False:=dP;have eS:(g.size+1=A)=False:=dP;have eU:(g.size+1+1=m)=False:=dP;have eV:(g.size+1+1=A)=False:=dP;have eW:(A=m)=False:=dP;have l1:g.size+1<p.size:=G;have l2:g.size+1+1<p.size:=G;have eb:ap= .arr A eP 0 U.length false:=by
   have⟨_,_,_,_,k,e⟩:=(h.gb.mono (h':=p) λd f=>ae.get d (iH (h.bb d f).2)).box aE;rw[bW]at k;simp at k;rw[e,k.1]
  have ff:i.a.toNat<U.length:=by rw[h.el.length,z.tl];exact X.2
  simp at ds;simp[r,s,B,di,dk,de,ca,cb,cp,fO X.1,dn,eb,ff,aA,bW,eI,eK,ds,ea,eC,eB,et,eu,ey,eA,nT,P.hp,eh,fB,eR,eS,eU,eV,eW,l1,l2,fD,qI];clear cp c9 et eu ey eA gd ca cb dd r s B di dk de eB eC dn e9;have e0:=h.ga.mono (h':=p) λd f=>ae.get d (iH (h.ba d f).2.1);have e5:=h.gb.mono (h':=p) λd f=>ae.get d (iH (h.bb d f).2);rw[<-eb];generalize bT:fF (fF (fF (fF p m _) A _) (g.size+1) _) (g.size+1+1) _=av;have gX:av.size=p.size:=by rw[<-bT];simp
  have LG:iS 0 av:=bT▸(((P.put _ _).put _ _).put _ _).put _ _;have b9:∀d,av.get d=if d=g.size+1+1 then _ else if d=g.size+1 then _ else if d=A then _ else if d=m then _ else p.get d:=λd=>by
   rw[<-bT,nT (iD P.hp) dP,nT (iD P.hp) dP,nT (iD P.hp) dP,nT P.hp eh]
  clear bT;have Go:∀d,d≠g.size+1+1->d≠g.size+1->d≠A->d≠m->av.get d=p.get d:=λd fL fM fP fS=>by rw[b9,aw fL,aw fM,aw fP,aw fS]
  have eX:=e0.setAt bu aA i.a.toNat (J v) (h':=av) (by rw[b9,aw G,aw G,aw G,ax rfl]);have e4:=e5.setAt aE bW i.a.toNat (.arr E.size cL 0 al.length false) (h':=av) (by rw[b9,aw G,aw G,ax rfl]);have eF:∀d,fa an=D d->d=m:=λd f=>by rw[bu]at f;simpa using f.symm
  have eH:∀d,fa ap=D d->d=A:=λd f=>by rw[aE]at f;simpa using f.symm
  refine⟨⟨IntKind.i64.wrap (j.pC+1),j.j1.set i.a.toNat v,j.lP.set i.a.toNat al,j.ei⟩,an,ap,U.set i.a.toNat (.arr E.size cL 0 al.length false),fE,rfl,⟨?_,?_,?_,λd f=>?_,λd f=>?_⟩,λd f hr=>?_,⟨(LG.out g).hp,(LG.out g).low,dP⟩,λ_=>⟨⟨V,by simp;exact z.tl,λu hl=>?_⟩,rfl⟩⟩;have:=eX.out g;simpa[iy,bg]using this;exact e4.out g;refine h.el.set i.a.toNat ⟨.inr ?_,λd f=>?_⟩ λe u k=>⟨k.1.mono λd f=>?_,λd f=>?_⟩;have:=Gr.new ((Go E.size G G G G).trans gA);simpa using this.out g;simp at f;subst f;exact⟨by show ef<=_;omega,dP,λk=>iH (eF _ k),λk=>iH (eH _ k)⟩;have⟨bZ,ec,c4,c6⟩:=k.2 d f;rw[iA,Go d G G (λk=>c6 (k▸aE)) (λk=>c4 (k▸bu))];exact ae.get d G;have⟨bZ,ec,c4,c6⟩:=k.2 d f;exact⟨bZ,dP,c4,c6⟩;have:=h.ba d f;exact⟨this.1,dP,this.2.2⟩;have:=h.bb d f;exact⟨this.1,dP⟩;have hr:d<ef\/fe<=d:=hr;rw[iA,Go d G G G G];exact ae.get d f;rcases cw hl with k|rfl;exact z.tn u k;exact O
structure ISe where
 (c:iR) (s:gu) (a b:T) (es:List T) (lo hi N:Nat)
structure TBd(N:Nat)(s:gu):Prop where
 rl:s.j1.length<=1000
 tl:s.lP.length<=1000
 tn:∀l∈s.lP,Tn N l
def Uf(d:ISe)(f:List T)(e:H):Prop:=f=[d.c.t,Fj d.s d.a d.b]/\E0 d.lo d.hi e d.a d.b d.es d.s/\d.hi<=e.size/\iS 0 e/\TBd d.N d.s/\d.N<=1000000/\d.c.kh.length<=10000001
def GC(e:ISe)(h:List T)(c:H)(g:T)(d:H):Prop:=∃a f,g= .tuple [a.t,.ej f]/\TBd e.N a/\(a.ei=e.s.ei\/a.ei=0)/\d.size=c.size/\(∀b,b<c.size->d.get b=c.get b)/\iS 0 d
def Mo(d:List Int):∀a∈iy d,cn a=a/\kT a/\∀b,a≠ .eQ b:=λa c=>by obtain⟨e,_,rfl⟩:=List.mem_map.1 c;simp
def E0.fz{o m:Nat}{h:H}{g l:T}{p:List T}{e:gu}(c:E0 o m h g l p e)(k:Nat->Prop)(i:∀a,o<=a->a<m->k a):jr (FT h k 3) [J e.pC,g,l,J e.ei] e.cs:=
 .cons (iL ..) (.cons ((show qk h 1 g (iy e.j1)from .inr c.ga).ft (d:=1) (Mo _) λa b=>i a (c.ba a b).1 (c.ba a b).2.1)
  (.cons (c.gb.ft (λa b=>i a (c.bb a b).1 (c.bb a b).2) (c.el.acn (f:=λn=>sl (iy n)) λq n j=>j.1.ft (d:=0) (Mo _) λa b=>i a (j.2 a b).1 (j.2 a b).2.1)) (.cons (iL ..) .nil)))
def aaW{i:ISe}{args:List T}{b d:H}{e:List T}{s':gu}{ok:Bool}{Vq:Nat->Prop}(o:iS 0 b)(a:Nb b d)(l:∀c,Vq c->b.size<=c)(k:jr (FT d Vq 3) e s'.cs)(q:TBd i.N s')(n:s'.ei=i.s.ei\/s'.ei=0):BY b (.tuple [.eQ e,.ej ok]) d (GC i args b):=by have⟨p,h,j⟩:=FT.tup G l k ok;refine⟨a.ok.hp,a.ok.sz,λc r m _=> .inl (a.get c m),p,h,s',ok,by rw[j];rfl,q,n,rfl,λg f=>(CZ a.ok.hp a.ok.sz f).trans (a.get g f),o.cut a.ok.hp a.ok.sz⟩
def PK:gu:=⟨0,[],[],0⟩
def HB{d:ISe}{c:List T}{a b:H}(f:iS 0 a)(e:Nb a b):BY a (.tuple [.eQ [J 0,dT,dT,J 0],.ej false]) b (GC d c a):=
 aaW (s':=PK) (Vq:=λ_=>False) f e (λ_ g=>g.elim) (.cons (iL ..) (.cons (kc ..) (.cons (kc ..) (.cons (iL ..) .nil)))) ⟨by simp[PK],by simp[PK],by simp[PK]⟩ (.inr rfl)
structure SeS(c:iR)(s:gu)(N:Nat)(h h':H)(s':gu)(a' b':T)(es':List T)(ver:Nat):Prop where
 tx:E0 (h.size+1+1+1) h'.size h' a' b' es' s'
 nb:Nb h h'
 hz:h.size+1+1+1<=h'.size
 g2:h'.get h.size=D (dU 2 0 [c.t])
 g3:h'.get (h.size+1)=D (dU 4 ver [.eQ [J s'.pC,a',b',J s'.ei]])
 g4:h'.get (h.size+1+1)=D (dU 4 0 [.eQ [J 0,dT,dT,J 0]])
 to:TOk N s.j1.length s'
 ev:s'.ei=s.ei
def UP:(jS ISe Uf GC).Ok prog cx 195:=by
 refine uB (tb:=⟨pt [(241,Ay)],ht [(242,jS ICp Uk N1),(243,jS ZH Ue PX)]⟩) jk iX (js 1182933510117985879039 [] func195) (λA a=>10000005) (λi A a dk=>by obtain⟨rfl,_⟩:=dk;simp[f195]) ?_;rintro⟨b,d,A,U,bi,bS,bA,T⟩ _ a ⟨rfl,v,c9,ok,tb,bs,x⟩ z bu;simp only at v c9 tb bs x;simp[Fj]at bu;obtain⟨c4,L⟩:=bu;have bH:=λL:H=>v.ga.len (cx:=cx) L XL _ rfl;have bN:=λL:H=>v.gb.len (cx:=cx) L FZ _ rfl;rw[aK]at bH;rw[v.el.length]at bN;simp[f195,c4,L,bH,bN];generalize w:(((TI.hr a).cons _).cons _).cons _=u;have ef:iS 0 u:=w▸((ok.hr.cons _).cons _).cons _;have eK:u.size=a.size+1+1+1:=by rw[<-w];rfl
 have aA:Nb a u:=w▸⟨((((Nb.refl ok.hr).cons _).cons _).cons _).ok,λb x=>(((((Nb.refl ok.hr).cons _).cons _).cons _).get b x).trans (iI a b)⟩;have b9:u.get a.size=D (dU 2 0 [b.t]):=by rw[<-w];simp
 have a7:u.get (a.size+1)=D (dU 4 0 [.eQ [J d.pC,A,U,J d.ei]]):=by rw[<-w];simp
 have W:u.get (a.size+1+1)=D (dU 4 0 [.eQ [J 0,dT,dT,J 0]]):=by rw[<-w];simp
 clear w;have c1:∀c,(fF u (a.size+1+1) c).get (a.size+1+1)=D c:=λc=>(ez W c _).trans (ax rfl);refine fG (λN=>?_) (λN=>?_);simp[W,c1,fD];exact HB ok (aA.put W G _);simp at N;have ee:∀b,bS<=b->b<bA->u.get b=a.get b:=λb _ x=>aA.get b G;have aN:=v.mono (az _) (az _) ee;simp[a7];refine jl LU V ⟨d,A,U,bi⟩ ⟨rfl,⟨.inr aN.ga,.inr aN.gb,aN.el.imp λ_ _ r=>r.1,λe h he av=>?_⟩,ef,by have:=tb.rl;simp only;omega,by have:=tb.tl;simp only;omega,λl hl=>iH (tb.tn l hl).1⟩ ?_;rcases he with rfl|rfl|he;have:=(v.ba h av).2.1;omega;have:=(v.bb h av).2;omega;have⟨l,r,k⟩:=v.el.left he;have:=(k h av).2.1;omega;rintro _ g ⟨a1,p,es1,rfl,b7,y⟩;simp only at b7;have eH:=y.ok.sz;have ca:=(y.get _ G).trans b9;have B:=(y.get _ G).trans a7;have cb:=(y.get _ G).trans W;have bX:Nb a (fF g (a.size+1) (dU 4 1 [.eQ [J d.pC,a1,p,J d.ei]])):=(aA.trans y).put B G _;have er:=b7.mono (lo':=a.size+1+1+1) (hi':=(fF g (a.size+1) (dU 4 1 [.eQ [J d.pC,a1,p,J d.ei]])).size) (h':=fF g (a.size+1) (dU 4 1 [.eQ [J d.pC,a1,p,J d.ei]])) G V λb x _=>by rw[ez B,aw G]
 have eF:iS 0 g:=⟨y.ok.hp,y.ok.low,aB _⟩;have cp:(fF g (a.size+1) (dU 4 1 [.eQ [J d.pC,a1,p,J d.ei]])).get a.size=_:=(show(fF g (a.size+1) (dU 4 1 [.eQ [J d.pC,a1,p,J d.ei]])).get a.size=g.get a.size by rw[ez B,aw G]).trans ca;have cv:(fF g (a.size+1) (dU 4 1 [.eQ [J d.pC,a1,p,J d.ei]])).get (a.size+1)=_:=(ez B _ _).trans (ax rfl);have a8:(fF g (a.size+1) (dU 4 1 [.eQ [J d.pC,a1,p,J d.ei]])).get (a.size+1+1)=_:=(show(fF g (a.size+1) (dU 4 1 [.eQ [J d.pC,a1,p,J d.ei]])).get (a.size+1+1)=g.get (a.size+1+1)by rw[ez B,aw G]).trans cb;simp[Fj,B,fD];generalize fF g (a.size+1) _=eB at*
 refine gW (b.kh.length+1) G (λP z h'=>∃s I K X S,SeS b d T a h' s I K X S/\TI.Y z 2=D (dY a.size)/\TI.Y z 3=D (dY (a.size+1))/\TI.Y z 4=D (dY (a.size+1+1))/\TI.Y z 6=D (J P)) ?_ ?_ G ?_;rintro P z h' eC c6 ⟨s,I,K,X,S,⟨aX,q,dn,C,E,f,o,ap⟩,m⟩;have F:∀c,(fF h' (a.size+1+1) c).get (a.size+1+1)=D c:=λc=>(ez f c _).trans (ax rfl);have b6:iS 0 h':=⟨q.ok.hp,q.ok.low,aB _⟩;simp[m,C,E,show(P:Int)<=b.kh.length by omega];refine fG (λN=>?_) (λN=>?_);simp[m,f,F,fD];exact HB ok (q.put f G _);simp at N;have⟨j,M⟩:∃j:Nat,s.pC=j:=⟨s.pC.toNat,G⟩;have dd:j<b.kh.length:=G;have ec:(a.size=h'.size)=False:=dP;have bT:(a.size+1=h'.size)=False:=dP;have bW:(a.size+1+1=h'.size)=False:=dP;have de:=b6.low;simp[m,C,E,M,dd,de,AO];generalize b.kh[j]=h at*
 have eE:=q.cons (dU 6 1 [h.t]);have et:TBd T s:=⟨by have:=o.rl;have:=tb.rl;omega,by have:=o.tl;have:=tb.rl;omega,o.tn⟩;have eA:∀c,((fF h' (a.size+1+1) c).cons (dU 6 1 [h.t])).get (a.size+1+1)=D c:=λc=>by rw[fg,aw dP];exact F c
 refine fG (λae=>?_) (λae=>?_);have cX:∀c:jI,∀b,a.size+1+1+1<=b->b<h'.size->((fF h' (a.size+1+1) c).cons (dU 6 1 [h.t])).get b=h'.get b:=λc b eo aE=>by rw[fg,aw dP,ez f,aw G]
 simp[m,E,f,bT,bW,M,F,fD,show a.size+1+1<h'.size by omega];have:=aaW (i:=⟨b,d,A,U,bi,bS,bA,T⟩) (args:=[b.t,Fj d A U]) (ok:=true) ok ((q.put f G (dU 4 1 [.eQ [J s.pC,I,K,J s.ei]])).cons (dU 6 1 [h.t])) (λb x=>(show a.size<=b from x)) ((aX.mono (az _) (az _) (cX _)).fz (λb=>a.size<=b) λb r _=>by omega) et (.inl ap);rw[M]at this;exact this;simp at ae;have bC:1<=h.op/\h.op<=5:=by unfold Ar at ae;simpa using ae
 have di:decide ((P:Int)=b.kh.length)=decide (P=b.kh.length):=by rw[decide_eq_decide];omega
 simp[m,C,ec,di];refine fG (λdm=>?_) (λdm=>?_);simp[m,f,bW,fD,F,show a.size+1+1<h'.size by omega];exact HB ok ((q.put f G _).cons _);simp[m,E,bT,M];have eu:=aX.mono (h':=h'.cons (dU 6 1 [h.t])) (az _) (az _) λb _ r=>by rw[fg,aw G]
 refine jl UN V ⟨h,s,I,K,X,a.size+1+1+1,h'.size,T⟩ ⟨by simp[Fj,M],eu,V,b6.cons _,bC.1,bC.2,⟨rfl,by have:=o.rl;have:=o.tl;simp only;omega,o.tn⟩,by have:=tb.rl;have:=o.rl;simp only;omega,bs⟩ ?_;rintro _ n ⟨R,a2,an,AM,eh,rfl,b8,bn,Q,bp⟩;simp only[afz]at b8 bn Q bp;have eI:=Q.sz;have Z:∀b,b<a.size+1+1+1->n.get b=h'.get b:=λb r=>(bn b G (.inl r)).trans d2;have ds:=(Z a.size G).trans C;have O:=(Z (a.size+1) G).trans E;have al:=(Z (a.size+1+1) G).trans f;have eD:(a.size=n.size)=False:=dP;have ea:(a.size+1=n.size)=False:=dP;have eb:(a.size+1+1=n.size)=False:=dP;have bZ:Nb a n:=⟨⟨Q.hp,Q.low,G⟩,λb r=>(Z b G).trans (q.get b r)⟩;have cL:∀c,(fF n (a.size+1+1) c).get (a.size+1+1)=D c:=λc=>(ez al c _).trans (ax rfl);simp[Fj,Q.low,fD];cases eh;simp[m,al,eb,fD,cL,show a.size+1+1<n.size by omega];exact HB ok ((bZ.put al G _).cons _);have⟨t2,ey⟩:=bp rfl;simp[m,O,ea,fD,c6,show a.size+1<n.size by omega];have e:∀b,b<a.size+1+1+1->b≠a.size+1->((fF n (a.size+1) (dU 4 (S+1) [.eQ [J R.pC,a2,an,J R.ei]])).cons (dU 4 1 [.eQ [J R.pC,a2,an,J R.ei]])).get b=n.get b:=λb eo aE=>by rw[fg,aw dP,ez O,aw aE]
 refine⟨R,a2,an,AM,S+1,b8.mono (az _) V λb r aE=>?_,(bZ.put O G _).cons _,dP,(e _ G G).trans ds,?_,(e _ G G).trans al,⟨t2.rl▸o.rl,t2.tl▸o.rl,t2.tn⟩,ey▸ap⟩;rw[fg,aw dP,ez O,aw G];rw[fg,aw dP,ez O,ax rfl];rintro z h' ⟨s,I,K,X,S,⟨aX,q,dn,C,E,f,o,ap⟩,m⟩;have F:∀c,(fF h' (a.size+1+1) c).get (a.size+1+1)=D c:=λc=>(ez f c _).trans (ax rfl);have c7:((b.kh.length:Int)+1<=b.kh.length)=False:=dP;simp[m,C,f,F,fD,c7];exact HB ok (q.put f G _);simp;exact⟨d,a1,p,es1,1,er,bX,by have:=bX.ok.sz;have:=H.fN a8;omega,cp,cv,a8,⟨rfl,G,tb.tn⟩,rfl⟩
def AI:List Int:=[3,3,4,4,5,6,7,8,9,10,11,12,13,14,15,16,18,19,20,21,22,23,2]
def oY(a:Int):Int:=if a<6\/28<a then 0 else AI.getD (a-6).toNat 0
def Co:iE:=⟨Int,λa=>[J a],λa=>True,λa=> J (oY a),λa c b=>by simp at b;rw[b]⟩
def U4:Co.Ok prog cx 220:=by
 refine iz [] (js 1037 [] func220) (λj=>1) (by simp[Co]) ?_;rintro(b:Int) k n f;simp[Co]at f|-;by_cases h:b<6\/28<b;have e:oY b=0:=by unfold oY;rw[ax h]
 rcases h with h|h<;>simp[*,f220];have⟨a,g⟩:∃a:Nat,b=(a:Int)+6:=⟨(b-6).toNat,G⟩;subst g;have i:a<23:=G;have⟨c,e⟩:∃c,AI[a]? =D c:=⟨_,aF (show a<AI.length from i)⟩;have d:(AI.map (T.int .i64))[a]? =D (J c):=by rw[br,e];rfl
 have l:oY ((a:Int)+6)=c:=by
  unfold oY;rw[aw h,show((a:Int)+6-6).toNat=a by omega];simp[List.getD,e]
 have m:binop .sub (J ((a:Int)+6)) (J 6)=D (J (a:Int)):=by rw[lK G G];congr 2;omega
 simp[AI,aR,bL]at d;have⟨_,d⟩:=List.getElem?_eq_some_iff.1 d;simp[*,f220,show¬(a:Int)+6<6 by omega,show¬(28:Int)<(a:Int)+6 by omega]
def Zq{b:ik}(ht:b.p 220=D Co)(a:Int):rl prog cx b 220 [J a]=D (J (oY a)):=iF ht U4 a trivial
structure adF(c:kU)(s:jH):Prop where
 v:V8 c
 f:m9 c.gG s.gH
 cl:s.cells.length=c.gG.cells.length
 fu:s.fI.length=c.gG.fI.length
 th:s.d8.length=c.d8.length
 t:∀(i:Nat) (t:gu) (x:iR),s.d8[i]? =D t->c.d8[i]? =D x->0<=t.pC/\t.pC<x.kh.length/\t.j1.length=x.j1/\t.lP.length=x.j1
def MQ{a:kU}(b:V8 a):a.gG.je.length<=2/\a.d8.length<=4:=by have:=b.1;unfold li vY at this;simp[aC,aO]at this;have c:=b.2.1;omega
def LQ:pI prog cx 219 (λh:kU×jH=>[h.1.t,h.2.t]) (λh=>∀a∈h.1.d8,a.kh.length<=10000001) (λh=>SD (adF h.1 h.2)):=by
 refine j2 [(102,AC.jV),(134,wi)] (js 158456325028530997355645763711 [] func219) (λ_=>100) (λh b g=>by simp at g;exact aG (kU.inj g.1) (jH.inj g.2)) ?_;rintro⟨f,l⟩ w m v;replace w:∀a∈f.d8,a.kh.length<=10000001:=w;simp at v;obtain⟨_,⟨b,rfl,L⟩,B⟩:=AC.use f w;cases b;simp[f219,v,B];have C:=L rfl;have⟨W,X⟩:=MQ C;simp[f219,v,B,yu,show f.gG.je.length<=1099511627776 by omega];refine fG (λA=>?_) (λA=>?_);simp;simp[ci,aO]at A;obtain⟨⟨⟨P,S⟩,T⟩,U⟩:=A;simp;generalize p:(hE.cons _).cons _=u;have O:iS 2 u:=p▸⟨V,V,V⟩;have j:u.get 0=D (dU 7 0 [f.t]):=by rw[<-p];simp
 have n:u.get 1=D (dU 7 0 [l.t]):=by rw[<-p];simp
 clear p;refine gW f.d8.length G (λe m g=>iS 2 g/\g.get 0=D (dU 7 0 [f.t])/\g.get 1=D (dU 7 0 [l.t])/\(∀(d:Nat) (c:gu) (a:iR),d<e->l.d8[d]? =D c->f.d8[d]? =D a->0<=c.pC/\c.pC<a.kh.length/\c.j1.length=a.j1/\c.lP.length=a.j1)/\TI.Y m 2=D (dY 0)/\TI.Y m 3=D (dY 1)/\TI.Y m 5=D (J e)) ?_ ?_ G ?_;rintro e m g y K ⟨i,j,n,z,o⟩;have F:=i.ne (b:=0) G;have N:=i.ne (b:=1) G;have x:e<l.d8.length:=G;have⟨c,ht⟩:∃c,l.d8[e]? =D c:=⟨_,aF x⟩;have⟨a,k⟩:∃a,f.d8[e]? =D a:=⟨_,aF y⟩;have H:l.d8[e]=c:=by rw[aF x]at ht;simpa using ht
 have I:f.d8[e]=a:=by rw[aF y]at k;simpa using k
 simp[j,n,o,y,x,F,i.low,H,I];refine fG (λs=>?_) (λs=>?_);simp[i.hp];simp[ci,aO,bK]at s;simp[o,K];refine⟨i.cons _,by simpa[F]using j,by simpa[N]using n,λd Q R M q r=>?_⟩;rcases aW d e with E|E
 exact z d Q R E q r;have:d=e:=G;subst this;rw[ht]at q;rw[k]at r;simp[ay]at q r;subst q r;exact⟨G,G,s.1.2,s.2⟩;rintro m g ⟨i,j,n,z,o⟩;simp[j,o,i.hp];exact⟨C,P,G,G,G,λd c a ht k=>z d c a (List.getElem?_eq_some_iff.1 k).1 ht k⟩;exact⟨O,j,n,λd c a M=>by omega,V⟩
def LP:pI prog cx 261 (λa:Int×Int=>[J a.1,J a.2]) (λa=>True) (λ_=>Ia):=by refine j2 [] (js 4275 [] func261) (λ_=>10) (λa f b=>by simp at b;exact aG b.1 b.2) ?_;rintro⟨i,d⟩ _ h c;simp at c;by_cases g:d<1;simp[*,f261];simp[*,f261,Gf (show¬d=0 by omega)];refine fG (λe=>?_) (λe=>?_)<;>simp[c,qI]
def adD(a:iN)(b:gu):Prop:=(a.op=7\/a.op=9)->jx a.c b.j1.length=true
def GL:pI prog cx 221 (λb:iN×gu=>[b.1.t,b.2.t]) (λb=>adD b.1 b.2) (λ_=>Ia):=by
 refine j2 [(261,LP.jV)] (js 1099578740959 [(6,[(1,10)]),(8,[(1,10)])] func221) (λ_=>10) (λb u h=>by simp at h;exact aG (iN.inj h.1) (gu.inj h.2)) ?_;rintro⟨a,r⟩ c x j;replace c:adD a r:=c;simp at j;obtain⟨v,w⟩:=j;have⟨m,i⟩:=LP.fnI (γ:=Int×Int) id (λ_=>trivial);have i:∀{l:ik},l.p 261=D (wR prog cx 261 (λb:Int×Int=>[J b.1,J b.2]) (λb=>True) (λ_=>Ia))->∀g f,rl prog cx l 261 [J g,J f]=D (J (m (g,f))):=λht g f=>i ht (g,f);cases d:decide (a.op=7)with
 |true=>
  have⟨q,hr,_⟩:=jm (c (.inl (iD d)));have s:=fO (fT.1 (c (.inl (iD d)))).1;have o:decide (a.op=6)=false:=by
   have:a.op=7:=iD d;exact aS G
  have n:decide (a.op=27)=false:=by
   have:a.op=7:=iD d;exact aS G
  simp[*,f221,qI]
 |false=>
  cases e:decide (a.op=9)with
  |true=>
   have⟨q,hr,_⟩:=jm (c (.inr (iD e)));have s:=fO (fT.1 (c (.inr (iD e)))).1;have o:decide (a.op=6)=false:=by
    have:a.op=9:=iD e;exact aS G
   have n:decide (a.op=27)=false:=by
    have:a.op=9:=iD e;exact aS G
   simp[*,f221,qI]
  |false=>
   simp[*,f221]
   repeat' (refine fG (λk=>?_) (λk=>?_)<;>simp[k,d,e])
def Q8{a:H}(h:iS 0 a)(b:List Int)(hl:b.length<=1000000):∃f c,ju cx a 39 39 dT (sl (iy b))=be f c/\Gr c f 1 (iy b)/\Nb a c/\(∀d,fa f=D d->a.size<=d)/\(c=a\/c=a.cons ⟨1,0,0,false,false,iy b⟩):=by
 unfold ju rM oz;simp[kE,fj,nc,VL];rcases b with _|⟨g,b⟩
 exact⟨_,_,rfl,Gr.nil _ _,Nb.refl h,V,.inl rfl⟩;refine⟨.arr a.size 0 0 (iy (g::b)).length false,a.cons ⟨1,0,0,false,false,iy (g::b)⟩,?_,Gr.new (ep:=0) (ver:=0) (ex:=false) V,(Nb.refl h).cons _,λd e=>by simp at e;omega,.inr rfl⟩;rw[mB d1,iO];show km (a.jK 1 8 [] (iy (g::b)))=_;rw[rR d1 dR (by simp at hl|-;omega)];rfl
structure PeP(c:kU)(s:jH)(th:Int)(e:fR)(t:gu)(x:iR)(i:iN):Prop where
 f:adF c s
 n:jx th c.d8.length
 ht:s.d8[th.toNat]? =D t
 hx:c.d8[th.toNat]? =D x
 hi:x.kh[t.pC.toNat]? =D i
 k:e.fc=1\/e.fc=17\/(e.fc=oY i.op/\e.fc≠0)
def afs(a:Nat)(c:jH):Prop:=∀d∈c.d8,∀b∈d.lP,b.length<=a
def evN(a:Nat)(b:fR):Prop:=b.nH.length<=a/\b.vU.length<=a
def abP(c:kU)(f:jH)(h:Int)(e:T):Prop:=∃(a:fR) (b:Bool),e= .tuple [a.t,.ej b]/\evN 1000000 a/\(b->∃g i d,PeP c f h a g i d)
def Mp{f:kU}{m:jH}(g:adF f m){d:Int}(h:jx d f.d8.length):∃b a c,lr d=D d.toNat/\m.d8[d.toNat]? =D b/\f.d8[d.toNat]? =D a/\lr b.pC=D b.pC.toNat/\a.kh[b.pC.toNat]? =D c/\b.j1.length=a.j1/\b.lP.length=a.j1/\(∀e∈jT c,0<=e/\e<a.j1)/\a.j1<=32:=by have⟨a,i,_⟩:=jm h;have j:=h;rw[<-g.th]at j;have⟨b,ht,_⟩:=jm j;have⟨p1,p2,p3,p4⟩:=g.t _ _ _ ht i;have⟨c,k⟩:∃c,a.kh[b.pC.toNat]? =D c:=⟨_,aF G⟩;have l:=g.v.2.2 a (aD i);exact⟨b,a,c,fO (fT.1 h).1,ht,i,fO p1,k,p3,p4,λe hr=>l.2.2 c (aD k) e hr,l.2.1⟩
structure PJ(th:Int)(t:gu)(i:iN)(o:Int)(h':H)(dv:T)(d:List Int)(ver:Nat):Prop where
 ok:iS 6 h'
 b2:h'.get 2=D (dU 7 0 [.eQ [J 0,J 0,J 0,J 0,J 0,dT,dT]])
 b3:h'.get 3=D (dU 4 1 [t.t])
 b4:h'.get 4=D (dU 6 1 [i.t])
 b5:h'.get 5=D (dU 7 ver [.eQ [J th,J (oY i.op),J o,J 0,J i.ke,dv,dT]])
 g:Gr h' dv 1 (iy d)
 l:d.length<=1000000
 bx:∀c,fa dv=D c->6<=c
def PJ.app{p:Int}{t:gu}{j:iN}{o:Int}{h:H}{q:Nat}(e:PJ p t j o h dT [] q)(k:List Int)(hl:k.length<=1000000):∃c b,ju cx h 39 39 dT (sl (iy k))=be c b/\c.iW/\c.cells=[c]/\(∀a,a<6->b.get a=h.get a)/\iS 6 b/\
 ∀d,d=((dU 7 (q+1) [.eQ [J p,J (oY j.op),J o,J 0,J j.ke,c,dT]]):jI)->PJ p t j o (fF b 5 d) c k (q+1):=by
 have w:=e.ok.sz;have⟨c,b,u,m,l,r,_⟩:=Q8 ⟨e.ok.hp,e.ok.low,aB _⟩ k hl;have f:∀a,a<6->b.get a=h.get a:=λa i=>l.get a G;have s:iS 6 b:=⟨l.ok.hp,l.ok.low,aU w l.ok.sz⟩;have v:=(f 5 G).trans e.b5;have g:∀d a,(fF b 5 d).get a=if a=5 then some d else b.get a:=λd a=>ez v d a;refine⟨c,b,u,m.iW,m.cells,f,s,?_⟩;rintro d rfl;exact⟨s.put _ _,by rw[g,aw G];exact(f 2 G).trans e.b2,by rw[g,aw G];exact(f 3 G).trans e.b3,by rw[g,aw G];exact(f 4 G).trans e.b4,by rw[g,ax rfl],m.mono λa i=>by rw[g,aw (iH (r a i))],hl,λa i=>iH (r a i)⟩
def DV:pI prog cx 176 (λn:kU×jH×Int=>[n.1.t,n.2.1.t,J n.2.2]) (λn=>(∀x∈n.1.d8,x.kh.length<=10000001)/\afs 1000000 n.2.1) (λn=>abP n.1 n.2.1 n.2.2):=by
 refine j2 [(219,LQ.jV),(220,Co),(221,GL.jV)] (js 10633824283312870803151638865622599647 [(11,[(2,8),(4,8),(6,8)]),(14,[(2,3),(2,4)])] func176) (λ_=>100) (λn cX X=>by simp at X;exact aG (kU.inj X.1) (aG (jH.inj X.2.1) X.2.2)) ?_;rintro⟨d,s,p⟩ ⟨bW,b6⟩ N bS
 dsimp at bW b6
 simp at bS;obtain⟨c7,bi,L⟩:=bS;obtain⟨_,⟨cX,rfl,bT⟩,bH⟩:=LQ.use (d,s) bW
 dsimp at bT bH
 have bp:abP d s p (.tuple [fR.t ⟨0,0,0,0,0,[],[]⟩,.ej false]):=⟨_,_,rfl,⟨V,V⟩,V⟩;simp[f176,c7,bi,L,bH];refine fG (λbs=>?_) (λbs=>?_);simp;exact bp;simp[ci,bK]at bs;obtain⟨⟨rfl,cp⟩,eh⟩:=bs;have Z:=bT rfl;have bu:jx p d.d8.length:=fT.2 ⟨G,G⟩;have⟨y,x,e,b7,bA,b8,dm,b9,eb,ec,ca,ee⟩:=Mp Z bu;have di:jx p s.gH.d8.length:=by
  rw[(oN Z.f).2.2,<-Z.v.2.1];exact bu
 have⟨u,cL,_⟩:=jm di;simp[L,b7,bA,b8,dm,b9,cL];have al:∀z:fR,evN 1000000 z->(z.fc=1\/z.fc=17\/(z.fc=oY e.op/\z.fc≠0))->abP d s p (.tuple [z.t,.ej true]):=λz bi L=>⟨z,true,rfl,bi,λ_=>⟨y,x,e,Z,bu,bA,b8,b9,L⟩⟩;refine fG (λcp=>?_) (λcp=>?_);simp[L];exact al ⟨p,1,-1,0,-1,[],[]⟩ ⟨V,V⟩ (.inl rfl);cases aE:decide (u.jq=4)with
 |true=>
  simp[L,aE,b7,cL];exact al ⟨p,17,u.cond,0,e.ke,[],[]⟩ ⟨V,V⟩ (.inr (.inl rfl))
 |false=>
 cases bC:decide (u.jq=2)with
 |false=>
  simp[aE,bC];exact bp
 |true=>
  have bZ:∀r∈jT e,jx r y.lP.length:=λr hr=>by have:=ca r hr;exact fT.2 ⟨G,G⟩
  have dd:adD e y:=λk=>by
   have hr:e.c∈jT e:=by unfold jT;rcases k with k|k<;>simp[k]
   have:=ca _ hr;exact fT.2 ⟨G,G⟩
  obtain⟨_,⟨P,rfl⟩,bN⟩:=GL.use (e,y) dd
  dsimp at bN
  simp[aE,bC,Zq,bN];refine fG (λI=>?_) (λI=>?_);simp;exact bp;have bX:oY e.op≠0:=iD I;simp;generalize M:H.cons _ _=E;have an:iS 6 E:=M▸⟨V,V,V⟩;have c1:E.get 2=D (dU 7 0 [.eQ [J 0,J 0,J 0,J 0,J 0,dT,dT]]):=by rw[<-M];simp
  have S:E.get 3=D (dU 4 1 [y.t]):=by rw[<-M];simp
  have T:E.get 4=D (dU 6 1 [e.t]):=by rw[<-M];simp
  have w:∃aA,E.get 5=D (dU 7 aA [.eQ [J p,J (oY e.op),J P,J 0,J e.ke,dT,dT]]):=⟨3,by rw[<-M];simp⟩;clear M;obtain⟨ds,w⟩:=w;have ap:∀{r:Int},r∈jT e->∃j,lr r=D r.toNat/\y.lP[r.toNat]? =D j/\j.length<=1000000:=λ{r} hr=>by
   have⟨j,hl,_⟩:=jm (bZ r hr);exact⟨j,fO (fT.1 (bZ r hr)).1,hl,b6 y (aD bA) j (aD hl)⟩
  have ef:iS 0 E:=⟨an.hp,an.low,aB _⟩;have er:=an.sz;have ae:PJ p y e P E dT [] ds:=⟨an,c1,S,T,w,Gr.nil _ _,V,V⟩;refine lJ (λN h'=>∃W K aA,PJ p y e P h' W K aA/\TI.Y N 6=D (dY 2)/\TI.Y N 8=D (dY 3)/\TI.Y N 9=D (dY 4)/\TI.Y N 10=D (dY 5)) (λcv=>?_) (λcv=>?_) ?_;have c9:e.op=10:=iD cv;have⟨j,l1,l2,l3⟩:=ap (r:=e.a) (by unfold jT;simp[c9]);have⟨av,o,C,R,Q,A,cb,fin⟩:=ae.app j l3;have sv:=λd (m:d<6)=>il (A d m);have B:=(A 5 G).trans w;simp[S,T,w,l1,l2,C,R,Q,B,fD];exact⟨_,_,_,fin _ rfl⟩
  .cases U:decide (e.op=7)with
   |true=>
    have⟨j,l1,l2,l3⟩:=ap (r:=e.c) (by unfold jT;simp[show e.op=7 from iD U]);have⟨av,o,C,R,Q,A,cb,fin⟩:=ae.app j l3;have sv:=λd (m:d<6)=>il (A d m);have B:=(A 5 G).trans w;simp[U,S,T,w,l1,l2,C,R,Q,B,fD];exact⟨_,_,_,fin _ rfl⟩
   |false=>
   cases aN:decide (e.op=9)with
   |true=>
    have⟨j,l1,l2,l3⟩:=ap (r:=e.c) (by unfold jT;simp[show e.op=9 from iD aN]);have⟨av,o,C,R,Q,A,cb,fin⟩:=ae.app j l3;have sv:=λd (m:d<6)=>il (A d m);have B:=(A 5 G).trans w;simp[U,aN,S,T,w,l1,l2,C,R,Q,B,fD];exact⟨_,_,_,fin _ rfl⟩
   |false=>
    simp[U,aN];exact⟨_,_,_,ae⟩
  rintro N h' ⟨W,K,aA,i,bn⟩;have eo:=i.ok.sz;have dn:iS 0 h':=⟨i.ok.hp,i.ok.low,aB _⟩;simp[bn,i.b4];refine fG (λI=>?_) (λI=>?_);have de:e.op=8\/e.op=9\/e.op=26:=by
   simp[cj,aO]at I;omega
  have⟨j,l1,l2,l3⟩:=ap (r:=e.b) (by unfold jT;rcases de with k|k|k<;>simp[k]);have⟨av,o,C,a7,F,c4,_⟩:=Q8 dn j l3;have sv:=λd (m:d<6)=>il (F.get d G);have ea:=(F.get 2 G).trans i.b2;have B:=(F.get 5 G).trans i.b5;have O:∀h d,(fF o 5 h).get d=if d=5 then some h else o.get d:=λh d=>ez B h d;have a8:∀h q d,(fF (fF o 5 h) 2 q).get d=if d=2 then some q else if d=5 then some h else o.get d:=λh q d=>by
   rw[nT (by simp;exact F.ok.hp) (qN F.ok.sz),O]
  have aX:∀h q,TI.fz (fF (fF o 5 h) 2 q) W=D (sl (iy K)):=λh q=>(i.g.mono (h':=fF (fF o 5 h) 2 q) λd m=>by
   have⟨_,_,_,_,dk,_⟩:=i.g.box m;have:=i.bx d m;rw[a8,aw G,aw G];exact F.get d (H.fN dk)).fz V
  have c6:∀h q,TI.fz (fF (fF o 5 h) 2 q) av=D (sl (iy j)):=λh q=>(a7.mono (h':=fF (fF o 5 h) 2 q) λd m=>by
   have:=c4 d m;rw[a8,aw G,aw G]).fz V
  simp[bn,i.b3,i.b4,i.b5,l1,l2,C,a7.iW,a7.cells,ea,B,O,a8,aX,c6,fD,F.ok.hp];exact al ⟨p,oY e.op,P,0,e.ke,K,j⟩ ⟨i.l,l3⟩ (.inr (.inr ⟨rfl,bX⟩));have O:∀h d,(fF h' 2 h).get d=if d=2 then some h else h'.get d:=λh d=>ez i.b2 h d;have aX:∀h,TI.fz (fF h' 2 h) W=D (sl (iy K)):=λh=>(i.g.mono (h':=fF h' 2 h) λd m=>by
   have:=i.bx d m;rw[O,aw G]).fz V
  simp[bn,i.b2,i.b5,O,aX,fD,i.ok.hp];exact al ⟨p,oY e.op,P,0,e.ke,K,[]⟩ ⟨i.l,V⟩ (.inr (.inr ⟨rfl,bX⟩))
structure ZO(n0:Nat)(h':H)(ct:T)(es:List T)(ts:List gu)(lo hi:Nat->Nat):Prop where
 g:Gr h' ct 4 es
 l:es.length=ts.length
 e:∀(i:Nat) (e:T) (t:gu),es[i]? =D e->ts[i]? =D t->∃a b el,e=Fj t a b/\E0 (lo i) (hi i) h' a b el t
 m:∀i,i<ts.length->n0<=lo i/\hi i<=h'.size
 d:∀i j,i<j->j<ts.length->hi i<=lo j
 c:∀c,fa ct=D c->n0<=c/\∀i,i<ts.length->¬(lo i<=c/\c<hi i)
def ZO.mono{j:Nat}{f h':H}{k:T}{n:List T}{s:List gu}{q h:Nat->Nat}(b:ZO j f k n s q h)(C:f.size<=h'.size)(p:∀a,j<=a->a<f.size->h'.get a=f.get a):ZO j h' k n s q h:=
 ⟨b.g.mono λa r=>p a (b.c a r).1 (by have⟨_,_,_,_,z,_⟩:=b.g.box r;exact H.fN z),b.l,λi v B A o=>by
   have⟨t,u,y,w,x⟩:=b.e i v B A o;have E:=b.m i (by have:=(List.getElem?_eq_some_iff.1 o).1;exact this);exact⟨t,u,y,w,x.mono (az _) (az _) λa F I=>p a G G⟩,λi h=>iH (b.m i h),b.d,b.c⟩
def ZO.app{y:Nat}{o r E:H}{v B:T}{w:List T}{i:List gu}{I h:Nat->Nat}(f:ZO y o v w i I h)(Z:y<=o.size)(K:Nb o r){s t:T}{C:List T}{u:gu}(X:E0 o.size r.size r s t C u)(x:Xt r v 4 (w++[Fj u s t]) B E):
 ZO y E B (w++[Fj u s t]) (i++[u]) (λa=>if a=i.length then o.size else I a) (λa=>if a=i.length then r.size else h a):=by
 have al:=K.ok.sz;have an:=x.2.2.2.sz;have A:∀b,fa v=D b->b<o.size:=λb q=>by have⟨_,_,_,_,S,_⟩:=f.g.box q;exact H.fN S
 refine⟨x.1,by simp[f.l],λa O Y p k=>?_,λa h=>?_,λa F U W=>?_,λb q=>?_⟩;by_cases q:a=i.length;subst q;rw[cZ (az _),Nat.sub_self]at k;rw[cZ (f.l▸az _),f.l,Nat.sub_self]at p;simp at p k;subst p;subst k;refine⟨s,t,C,rfl,?_⟩;simp;exact X.mono (az _) (az _) λb L z=>x.2.1 b z λq=>iH (A b q);have h:a<i.length:=by have:=(List.getElem?_eq_some_iff.1 k).1;simp at this;omega
 rw[cH h]at k;rw[cH (f.l▸h)]at p;have⟨M,N,R,P,Q⟩:=f.e a O Y p k;have ae:=f.m a h;rw[aw q,aw q];exact⟨M,N,R,P,Q.mono (az _) (az _) λb L z=>(x.2.1 b G λq=>((f.c b q).2 a h ⟨L,z⟩)).trans (K.get b G)⟩;simp at h;by_cases q:a=i.length;rw[ax q,ax q];omega;rw[aw q,aw q];have:=f.m a G;omega;simp at W;by_cases q:F=i.length;rw[aw G,ax q];have:=f.m a G;omega;rw[aw G,aw q];exact f.d a F U G;rcases x.2.2.1 b q with q|q;refine⟨(f.c b q).1,λa h=>?_⟩;simp at h;by_cases j:a=i.length;rw[ax j,ax j];have:=A b q;omega;rw[aw j,aw j];exact(f.c b q).2 a G;refine⟨G,λa h=>?_⟩;simp at h;by_cases j:a=i.length;rw[ax j,ax j];omega;rw[aw j,aw j];have:=f.m a G;omega
def Nc{b f:Type}{c:f->b->Prop}{d:b->f}(e:∀x,c (d x) x):∀a:List b,jr c (a.map d) a
 | []=> .nil
 |x::a=> .cons (e x) (Nc e a)
def abL(a:jH)(d:List T)(c:H):Prop:=d=[a.t]/\iS 0 c/\IK a.gH [a.gH.t] c/\a.cells.length<=1000000/\a.fI.length<=1000000/\a.d8.length<=1000000/\∀b∈a.d8,b.j1.length<=1000000/\b.lP.length<=1000000/\∀e∈b.lP,e.length<=1000000
structure Cp9(s:jH)(h h':H)(c0 c2 c3 cc cf ct:T)(es:List T)(lo hi:Nat->Nat)(n0:Nat):Prop where
 nb:Nb h h'
 z:h.size<=n0
 zn:n0<=h'.size
 k0:c0.iW/\c0.cells=[c0]/\c2.iW/\c2.cells=[c2]/\c3.iW/\c3.cells=[c3]
 gc:Gr h' cc 1 (iy s.cells)
 gf:Gr h' cf 1 (iy s.fI)
 bc:∀c,fa cc=D c->h.size<=c/\c<n0
 bf:∀c,fa cf=D c->h.size<=c/\c<n0/\fa cc≠some c
 th:ZO n0 h' ct es s.d8 lo hi
def Uy(g:jH)(o:List T)(i:H)(n:T)(j:H):Prop:=∃a b c d e f h l k m,n= .eQ [a,J g.gH.tx,b,c,d,e,f]/\Cp9 g i j a b c d e f h l k m
structure Cq(s:jH)(h:H)(c0 c2 c3 cc cf:T)(q:Nat)(h':H)(k:Nat)(ct:T)(es:List T)(lo hi:Nat->Nat)(ver:Nat):Prop where
 nb:Nb h h'
 b1:h'.get h.size=D (dU 7 0 [s.t])
 b2:h'.get (h.size+1)=D (dU 7 0 [.eQ [dT,J 0,dT,dT,dT,dT,dT]])
 b3:h'.get q=D (dU 7 ver [.eQ [c0,J s.gH.tx,c2,c3,cc,cf,ct]])
 gc:Gr h' cc 1 (iy s.cells)
 gf:Gr h' cf 1 (iy s.fI)
 th:ZO (q+1) h' ct es (s.d8.take k) lo hi
def Vi:(jS jH abL Uy).Ok prog cx 194:=by
 refine jz (tb:=⟨pt [],ht [(29,jS iq IK N2),(242,jS ICp Uk N1)]⟩) jk iX (js 2097183 [(1,[(2,3),(2,5),(2,7),(6,7),(2,9),(6,9),(2,12),(6,12),(10,12)]),(5,[(1,7)])] func194) (λ_ _=>1000005) (λw r d eP=>by obtain⟨rfl,_⟩:=eP;simp[f194]) ?_;rintro h _ d ⟨rfl,e0,⟨_,_,p1,p2,p3,p4⟩,fS,fW,fY,eU⟩ O di;simp at di;have cp:=e0.hr;simp[f194,di];generalize K:H.cons _ _=I;have e6:iS 0 I:=K▸(cp.cons _).cons _;have gF:I.size=d.size+1+1:=by rw[<-K];rfl
 have eX:Nb d I:=K▸⟨(((Nb.refl cp).cons _).cons _).ok,λa k=>((((Nb.refl cp).cons _).cons _).get a k).trans (iI d a)⟩;have cX:I.get d.size=D (dU 7 0 [h.t]):=by rw[<-K];simp
 have c1:I.get (d.size+1)=D (dU 7 0 [.eQ [dT,J 0,dT,dT,dT,dT,dT]]):=by rw[<-K];simp
 clear K;refine ma GQ V h.gH ⟨rfl,e6,p1,p2,p3,p4⟩ ?_;rintro _ b ⟨s,u,v,fB,rfl,N,F⟩;have gw:=F.ok.sz;have dm:iS 0 b:=⟨F.ok.hp,F.ok.low,aB _⟩;have a1:=(F.get d.size G).trans cX;have a2:=(F.get (d.size+1) G).trans c1;have⟨av,al,bN,⟨gk,gn,bS⟩,er,Z,okB⟩:=kN (cx:=cx) (sz:=1) dm (x:=sl (h.cells.map (T.int .i64))) (xs:=h.cells.map (T.int .i64)) rO rfl Bb rO rfl rfl V V d1 dP;have⟨aA,P,ap,⟨gm,gv,aE⟩,fs,L,cb⟩:=kN (cx:=cx) (sz:=1) okB (x:=sl (h.fI.map (T.int .i64))) (xs:=h.fI.map (T.int .i64)) rO rfl Bb rO rfl rfl V V d1 dP;have c7:∀a,a<b.size->gJ (b.cons (dU 1 0 [])) al a=true:=λa k=>il ((Z a k).trans d2);have c9:∀a,a<al.size->gJ (al.cons (dU 1 0 [])) P a=true:=λa k=>il ((L a k).trans d2);have ec:=il (F.get d.size G);have ef:=c7 d.size G;have e7:=c9 d.size G;have eh:∀a,b.size+1<=a->gJ (b.cons (dU 1 0 [])) al a=true:=λa k=>jF (mG _ dP);have eo:∀a,b.size+2<=a->gJ (al.cons (dU 1 0 [])) P a=true:=λa k=>jF (mG _ dP);have cL:∀a,b.size<=a->gJ I b a=true:=λa k=>jF (mG _ G);have bH:=(Z d.size G).trans a1;have c4:=(L d.size G).trans bH;have c6:=(L (d.size+1) G).trans ((Z (d.size+1) G).trans a2);have gd:=dm.low;have gg:=okB.low;have gi:=cb.low;simp[aK]at bN ap bS aE;rw[er]at ap aE;have fl:(d.size=b.size)=False:=dP;have gy:(d.size+1=b.size)=False:=dP;have fo:(d.size=b.size+1)=False:=dP;have gz:(d.size+1=b.size+1)=False:=dP;have ee:=cL (b.size+1+1) G;have eN:s.iW/\s.cells=[s]/\u.iW/\u.cells=[u]/\v.iW/\v.cells=[v]:=⟨N.g0.iW,N.g0.cells,N.g2.iW,N.g2.cells,N.g3.iW,N.g3.cells⟩;obtain⟨eB,eC,eD,eE,eF,eH⟩:=eN;simp[Rt,a1,bN,ap,er,fs,bH,ec,ef,cL,eh,eo,fl,fo,ee];have gj:d.size+1<b.size+1+1:=G;have fv:P.size=b.size+1+1:=G;generalize W:P.cons ⟨7,0,0,true,false,_⟩=U;have fi:U.size=b.size+1+1+1:=by rw[<-W];simp[size_cons,fv]
 have e5:iS 0 U:=W▸iS.cons ⟨cb.hp,cb.low,aB _⟩ _;have bT:U.get (b.size+1+1)=D (dU 7 0 [.eQ [dT,J 0,dT,dT,dT,dT,dT]]):=by
  rw[<-W,fg,ax G]
 have dk:∀a,a<b.size+1+1->U.get a=P.get a:=λa k=>by rw[<-W,fg,aw G]
 generalize X:fF U _ _=E;have gE:E.size=b.size+1+1+1:=by rw[<-X,iB,fi]
 have ds:iS 0 E:=X▸e5.put _ _;have eI:=(show E.get (b.size+1+1)=D (dU 7 1 [.eQ [s,J h.gH.tx,u,v,.arr b.size av 0 h.cells.length false,.arr (b.size+1) aA 0 h.fI.length false,dT]])by rw[<-X];exact(ez bT _ _).trans (ax rfl));have M:∀a,a<b.size+1+1->E.get a=P.get a:=λa k=>by rw[<-X,ez bT,aw G];exact dk a k
 clear X W;have bW:Gr E (.arr b.size av 0 h.cells.length false) 1 (iy h.cells):=by
  have:=Gr.new (((M b.size G).trans (L b.size G)).trans bS);simpa using this
 have bX:Gr E (.arr (b.size+1) aA 0 h.fI.length false) 1 (iy h.fI):=by
  have:=Gr.new ((M (b.size+1) G).trans aE);simpa using this
 have eW:Nb d E:=⟨⟨ds.hp,ds.low,G⟩,λa k=>(M a G).trans ((L a G).trans ((Z a G).trans ((F.get a G).trans (eX.get a k))))⟩;have et:=(M d.size G).trans c4;have eu:=(M (d.size+1) G).trans c6;have an:∀a,fa (.arr b.size av 0 h.cells.length false)=D a->a=b.size:=λa i=>iD i.symm;have Q:∀a,fa (.arr (b.size+1) aA 0 h.fI.length false)=D a->a=b.size+1:=λa i=>iD i.symm;generalize T.arr b.size av 0 h.cells.length false=B at*
 generalize T.arr (b.size+1) aA 0 h.fI.length false=C at*
 have bs:∀a,fa B=D a->d.size<=a/\a<b.size+1+1+1:=λa i=>iH (an a i);have bu:∀a,fa C=D a->d.size<=a/\a<b.size+1+1+1/\fa B≠some a:=λa i=>⟨iH (Q a i),iH (Q a i),λcv=>by have:=an a cv;have:=Q a i;omega⟩;have ea:∀a,fa B=D a->a≠b.size+1+1/\a≠d.size+1:=λa i=>iH (an a i);have eb:∀a,fa C=D a->a≠b.size+1+1/\a≠d.size+1:=λa i=>iH (Q a i);clear an Q bN ap bS aE ec ef e7 cL eh eo ee Z L c7 c9 bH c4 c6 a1 a2 cX c1 M dk bT;generalize b.size+1+1=i at*
 have fC:=bW.iW;have fE:=bW.cells;have fL:=bX.iW;have fM:=bX.cells;refine pU h.d8.length (λo O h'=>∃p S bp bi ae,Cq h d s u v B C i h' o p S bp bi ae/\TI.Y O 1=D (dY d.size)/\TI.Y O 2=D (dY (d.size+1))/\TI.Y O 3=D (dY i)/\TI.Y O 4=D (J o)) ?_ G (aB _) ?_;rintro o O h' fX ⟨p,S,bp,bi,ae,f,bZ,dd,a7,b6⟩;simp[bZ,b6,f.b1];refine fG (λb7=>?_) (λb7=>?_);have b8:o<h.d8.length:=iD b7;have⟨m,bn⟩:∃m,h.d8[o]? =D m:=⟨_,aF b8⟩;have eO:h.d8[o]=m:=by rw[aF b8]at bn;simpa using bn
 have ca:=eU m (aD bn);simp[bZ,a7,b6,f.b1,f.b3,b8,eO];have e4:iS 0 h':=⟨f.nb.ok.hp,f.nb.ok.low,aB _⟩;refine ma LU V ⟨m,sl (iy m.j1),sl (m.lP.map tn1),m.lP.map tn1⟩ ⟨by rfl,⟨.inl rfl,.inl rfl,?_,?_⟩,e4,ca.1,ca.2.1,ca.2.2⟩ ?_;exact Nc (λeV=> .inl rfl) _;rintro e a (rfl|rfl|he) x;simp at x;simp at x;obtain⟨eV,_,rfl⟩:=List.mem_map.1 he;simp[tn1]at x;rintro _ aX ⟨r,A,fA,rfl,ff,q⟩;have cv:i+1<=h'.size:=iH (H.fN f.b3);have p3:=(q.get i G).trans f.b3;have eK:Gr aX p 4 S:=f.th.g.mono λa x=>q.get a (by have⟨_,_,_,_,eA,_⟩:=f.th.g.box x;exact H.fN eA);have⟨bA,a8,ey,z⟩:=eK.yA (cx:=cx) ⟨q.ok.hp,q.ok.low,aB _⟩ QJ rfl QG rfl V (x:=Fj m r A) rfl (by have:=f.th.l;simp at this;simp;omega);have fb:=il (q.get i G);have e9:∀a,a<aX.size->fa p≠some a->gJ (aX.cons (dU 4 0 [Fj m r A])) a8 a=true:=λa k b9=>il ((z.2.1 a k b9).trans d2);have bC:fa p≠some i:=λx=>iH (f.th.c i x).1;have e8:=e9 i (iH q.ok.sz) bC;have p4:=(z.2.1 i (iH q.ok.sz) bC).trans p3;have eL:(Fj m r A).iW/\(Fj m r A).cells=[J m.pC,r,A,J m.ei]:=by simp[Fj,T.cells]
 have fP:Fj m r A= .eQ [J m.pC,r,A,J m.ei]:=rfl;simp[a7,b6,ey,fb,eL,e8,p4,z.1.iW,z.1.cells,fD];rw[jf G G];simp;refine⟨o+1,G,G,⟨bA,S++[Fj m r A],λw=>if w=(h.d8.take o).length then h'.size else bp w,λw=>if w=(h.d8.take o).length then aX.size else bi w,ae+1,?_⟩,bZ,dd,a7,V⟩;have gB:=z.2.2.2.sz;have gD:=q.ok.sz;have gq:∀a,a<h'.size->a≠i->fa p≠some a->(fF a8 i (dU 7 (ae+1) [.eQ [s,J h.gH.tx,u,v,B,C,bA]])).get a=h'.get a:=λa k eR b9=>by
  rw[ez p4,aw eR,z.2.1 a G b9,q.get a k]
 have R:∀a,a<=i->fa p≠some a:=λa k x=>iH (f.th.c a x).1;have dn:iS 0 a8:=⟨z.2.2.2.hp,z.2.2.2.low,aB _⟩;refine⟨⟨⟨(dn.put _ _).hp,(dn.put _ _).low,by rw[iB];have:=f.nb.ok.sz;omega⟩,λa k=>(gq a G G (R a G)).trans (f.nb.get a k)⟩,
  (gq _ G G (R _ G)).trans f.b1,(gq _ G G (R _ G)).trans f.b2,(ez p4 _ _).trans (ax rfl),
  f.gc.mono λa x=>gq a (iH (bs a x)) (ea a x).1 (R a (iH (bs a x))),f.gf.mono λa x=>gq a (iH (bu a x)) (eb a x).1 (R a (iH (bu a x))),?_⟩
 have fe:=(f.th.app cv q ff z).mono (h':=fF a8 i (dU 7 (ae+1) [.eQ [s,J h.gH.tx,u,v,B,C,bA]])) (by rw[iB];exact az _) λa x _=>by rw[ez p4,aw G]
 have eS:h.d8.take (o+1)=h.d8.take o++[m]:=by rw[List.take_add_one,bn];rfl
 rw[eS];exact fe;have eM:o=h.d8.length:=by
  have:¬o<h.d8.length:=iD b7;omega
 subst eM;have de:=f.th;rw[aM]at de;have bC:∀a,fa p=D a->i+1<=a:=λa x=>(f.th.c a x).1;simp[dd,a7,f.b2,f.b3,fD,ez f.b2];have aN:∀a,a≠d.size+1->(mF d (fF h' (d.size+1) (dU 7 1 [.eQ [s,J h.gH.tx,u,v,B,C,p]]))).get a=h'.get a:=λa k=>by rw[iA,ez f.b2,aw k]
 refine⟨s,u,v,B,C,p,S,bp,bi,i+1,rfl,⟨⟨((iS.put (n:=0) ⟨f.nb.ok.hp,f.nb.ok.low,aB _⟩ _ _).out d).hp,((iS.put (n:=0) ⟨f.nb.ok.hp,f.nb.ok.low,aB _⟩ _ _).out d).low,by rw[xn,iB];exact f.nb.ok.sz⟩,λa k=>(aN a G).trans (f.nb.get a k)⟩,G,by rw[xn,iB];exact H.fN f.b3,⟨eB,eC,eD,eE,eF,eH⟩,
  f.gc.mono λa x=>aN a (ea a x).2,f.gf.mono λa x=>aN a (eb a x).2,bs,bu,de.mono (by rw[xn,iB];exact az _) λa x _=>aN a G⟩
 refine⟨dT,[],λ_=>0,λ_=>0,1,⟨eW,et,eu,eI,bW,bX,⟨Gr.nil _ _,rfl,V,V,V,V⟩⟩,V⟩
section
def W8{j:Out}{e f:jD}(o:W j e)(q:∀d h,e.n d h->f.n d h)(v:∀i d h,e.x i d h->f.x i d h)(u:∀d h,e.r d h->f.r d h):W j f:=by
 obtain⟨l,d,h,m,g⟩:=o;refine⟨l,d,h,m,?_⟩;cases l with
 |normal=>exact q d h g
 |exit i=>exact v i d h g
 |ret=>exact u d h g
def Xs{cx:Ctx}{cf:jU}{z y id:Nat}{u:DL}{t:Bool}{a b:Code}{m:Env->H->Out}{d:Env}{h:H}{f:jD}(l:iP->H->Prop)(v:CK (some (.ej t)) cx cf z y u a b d h (Kc m (vw id (BE (λd h=>d.tmps= .nil/\l d.vars h) f))))
 (B:∀o h,l o h->f.n ⟨o,.nil⟩ h):CK (some (.ej t)) cx cf z y u a b d h (Kc m (vw id f)):=by
 have q:∀d h,(d.tmps= .nil/\l d.vars h)->f.n d h:=λd h ⟨e,w⟩=>by obtain⟨o,C⟩:=d;dsimp at e w;subst e;exact B o h w
 have A:∀g,W g (vw id (BE (λd h=>d.tmps= .nil/\l d.vars h) f))->W g (vw id f):=λg r=>W8 r q (λi d h e=>by
  rw[CL]at e|-;split;rename_i j;rw[ax j]at e;exact q d h e;rename_i j;rw[aw j]at e;exact e) λ_ _ e=>e
 have x:∀g,W g (Kc m (vw id (BE (λd h=>d.tmps= .nil/\l d.vars h) f)))->W g (Kc m (vw id f)):=λg r=>W8 r (λd h e=>A _ e) (λi d h e=>by
  rw[acu,CL]at e|-;split;rename_i j;rw[ax j]at e;exact q d h e;rename_i j;rw[aw j]at e;exact e) λ_ _ e=>e
 cases t;exact x _ v;exact x _ v
structure StI(s:jH):Prop where
 l:s.gH.fQ.length<=1000/\s.gH.done.length<=1000/\s.gH.d8.length<=1000/\s.cells.length<=1000/\s.fI.length<=1000/\s.d8.length<=1000
 r:FN 4 s.gH
 a:s.gH.C9
 t:∀t∈s.d8,TBd 1000000 t
def evB(d:Nat)(s:jH):Prop:=∀t∈s.d8,0<=t.ei/\t.ei<=d
def afw(s:jH)(j:T):Prop:=∃(d:jH) (f:fR) (g:Bool),j= .tuple [d.t,f.t,.ej g]/\evN 1000000 f/\(g->StI d/\∀e:Nat,evB e s->evB (e+1) d)
def E0.Ql{lo l hi j:Nat}{h h':H}{a b:T}{es:List T}{s:gu}(t:E0 lo hi h a b es s)(hl:l<=lo)(r:hi<=j)(f:∀e,(e=a\/e=b\/e∈es)->∀c,fa e=D c->h'.get c=h.get c):E0 l j h' a b es s:=
 ⟨t.ga.mono λc d=>f a (.inl rfl) c d,t.gb.mono λc d=>f b (.inr (.inl rfl)) c d,t.el.imp_mem λm n u d=>⟨d.1.mono λc g=>f m (.inr (.inr n)) c g,λc g=>by
   have⟨v,w,o,q⟩:=d.2 c g;exact⟨G,G,o,q⟩⟩,λc d=>by have:=t.ba c d;exact⟨G,G,this.2.2⟩,λc d=>by have:=t.bb c d;exact⟨G,G⟩⟩
def E0.fzB{lo hi:Nat}{h:H}{a b:T}{es:List T}{s:gu}(t:E0 lo hi h a b es s)(o:Nat->Prop)(n:∀m,(m=a\/m=b\/m∈es)->∀c,fa m=D c->o c):jr (FT h o 3) [J s.pC,a,b,J s.ei] s.cs:=
 .cons (iL ..) (.cons ((show qk h 1 a (iy s.j1)from .inr t.ga).ft (d:=1) (Mo _) λc g=>n a (.inl rfl) c g)
  (.cons (t.gb.ft (λc g=>n b (.inr (.inl rfl)) c g) ((t.el.imp_mem (R':=λe j=>qk h 1 e (iy j)/\e∈es) λe q j l=>⟨l.1,q⟩).acn (f:=λj=>sl (iy j)) λe j l=>l.1.ft (d:=0) (Mo _) λc g=>n e (.inr (.inr l.2)) c g)) (.cons (iL ..) .nil)))
def FM{g j:Type}{l:g->j->Prop}:∀{e:List g} {f:List j},e.length=f.length->(∀(d:Nat) (a:g) (b:j),e[d]? =D a->f[d]? =D b->l a b)->jr l e f
 | [],[],_,_=> .nil
 |a::e,b::f,hl,h=> .cons (h 0 a b rfl rfl) (FM (iD hl) λd o q m n=>h (d+1) o q (iD m) (iD n))
 | [],_::_,hl,_=>by simp at hl
 |_::_,[],hl,_=>by simp at hl
structure SJ(c:kU)(s:jH)(ch:io)(i:iN)(S:iq)(k p n0:Nat)(cc cf ct:T)(es:List T)(lo hi:Nat->Nat)(a b:T)(el:List T)(t:gu)(h:H):Prop where
 ok:iS 0 h
 z:p+1+1<=h.size
 n7:7<=n0
 np:n0<=p
 b0:h.get 0=D (dU 7 0 [c.t])
 b1:h.get 1=D (dU 7 2 [.eQ [sl (S.fQ.map fk.t),J S.tx,sl (S.done.map T.ej),sl (S.d8.map ew.t),cc,cf,ct]])
 b2:h.get 2=D (dU 2 0 [ch.t])
 b3:h.get 3=D (dU 7 0 [.eQ [dT,J 0,dT,dT,dT,dT,dT]])
 b4:h.get 4=D (dU 7 0 [.eQ [J 0,J 0,J 0,J 0,J 0,dT,dT]])
 bq:h.get (p+1)=D (dU 6 1 [i.t])
 gc:∃l,Gr h cc 1 (iy l)/\l.length=s.cells.length
 gf:∃l,Gr h cf 1 (iy l)/\l.length=s.fI.length
 bc:∀c,fa cc=D c->7<=c/\c<n0
 bf:∀c,fa cf=D c->7<=c/\c<n0/\fa cc≠some c
 gt:Gr h ct 4 es
 l:es.length=s.d8.length
 m:∀j,j<s.d8.length->n0<=lo j/\hi j<=p
 d:∀i j,i<j->j<s.d8.length->hi i<=lo j
 bt:∀c,fa ct=D c->n0<=c/\c<p/\∀j,j<s.d8.length->¬(lo j<=c/\c<hi j)
 o:∀(j:Nat) (e:T) (u:gu),j≠k->es[j]? =D e->s.d8[j]? =D u->FT h (λc=>lo j<=c/\c<hi j) 4 e u.t
 hk:k<s.d8.length
 ek:∃x y,es[k]? =D (.eQ [J x,a,b,J y])
 tx:E0 7 h.size h a b el t
 xb:∀v,(v=a\/v=b\/v∈el)->∀c,fa v=D c->lo k<=c/\(c<hi k\/p+1<c)
section
variable {c:kU}{s:jH}{ch:io}{i:iN}{S:iq}{k p n0:Nat}{cc cf ct:T}{es:List T}{lo hi:Nat->Nat}{a b:T}{el Tt:List T}{t t':gu}{h h':H}
def SJ.gen(e:SJ c s ch i S k p n0 cc cf ct es lo hi a b el t h)(N:iS 0 h')(Y:h.size<=h'.size)(u:∀c,c<h.size->c≠5->c≠p->fa cc≠some c->fa cf≠some c->fa a≠some c->fa b≠some c->h'.get c=h.get c)
 (E:∃r,Gr h' cc 1 (iy r)/\r.length=s.cells.length) (F:∃r,Gr h' cf 1 (iy r)/\r.length=s.fI.length) (O:E0 7 h'.size h' a b Tt t') (Q:∀w,(w=a\/w=b\/w∈Tt)->∀c,fa w=D c->lo k<=c/\(c<hi k\/p+1<c)):
 SJ c s ch i S k p n0 cc cf ct es lo hi a b Tt t' h':=by
 have Z:=e.z;have L:=e.n7;have M:=e.np;have W:=e.m k e.hk;have v:∀q,q<7->fa cc≠some q/\fa cf≠some q/\fa a≠some q/\fa b≠some q:=λq g=>⟨λf=>iH (e.bc q f),λf=>iH (e.bf q f),λf=>iH (e.tx.ba q f).1,λf=>iH (e.tx.bb q f).1⟩;have n:∀q,q<7->q≠5->h'.get q=h.get q:=λq g I=>u q G I G (v q g).1 (v q g).2.1 (v q g).2.2.1 (v q g).2.2.2;have j:∀q,fa a=D q\/fa b=D q->lo k<=q/\(q<hi k\/p+1<q):=λq f=>f.elim (λf=>e.xb a (.inl rfl) q f) λf=>e.xb b (.inr (.inl rfl)) q f;refine⟨N,G,L,M,(n 0 G G).trans e.b0,(n 1 G G).trans e.b1,(n 2 G G).trans e.b2,(n 3 G G).trans e.b3,(n 4 G G).trans e.b4,?_,E,F,e.bc,e.bf,e.gt.mono λq f=>?_,e.l,e.m,e.d,e.bt,λi C P x K A=>?_,e.hk,e.ek,O,Q⟩;refine(u (p+1) G G G (λf=>?_) (λf=>?_) (λf=>?_) λf=>?_).trans e.bq;have:=e.bc _ f;omega;have:=e.bf _ f;omega;have:=j _ (.inl f);omega;have:=j _ (.inr f);omega;have B:=e.bt q f;have X:=B.2.2 k e.hk;refine u q G G G (λf=>?_) (λf=>?_) (λf=>?_) λf=>?_;have:=e.bc _ f;omega;have:=e.bf _ f;omega;have:=j _ (.inl f);omega;have:=j _ (.inr f);omega;have y:i<s.d8.length:=(List.getElem?_eq_some_iff.1 A).1;have U:=e.m i y;have R:hi i<=lo k\/hi k<=lo i:=by
  rcases Nat.lt_or_gt_of_ne x with q|q;exact .inl (e.d i k q e.hk);exact .inr (e.d k i q y)
 refine(e.o i C P x K A).mono λq g=>⟨g,u q G G G (λf=>?_) (λf=>?_) (λf=>?_) λf=>?_⟩;have:=e.bc _ f;omega;have:=e.bf _ f;omega;have:=j _ (.inl f);omega;have:=j _ (.inr f);omega
def SJ.mono(d:SJ c s ch i S k p n0 cc cf ct es lo hi a b el t h)(y:iS 0 h')(l:h.size<=h'.size)(g:∀c,c<h.size->c≠5->c≠p->h'.get c=h.get c):SJ c s ch i S k p n0 cc cf ct es lo hi a b el t h':=by
 have I:=d.z;have E:=d.n7;have F:=d.np;have C:=d.m k d.hk;have⟨l1,q,n⟩:=d.gc;have⟨l2,r,o⟩:=d.gf;refine d.gen y l (λc u v w _ _ _ _=>g c u v w) ⟨l1,q.mono λe f=>?_,n⟩ ⟨l2,r.mono λe f=>?_,o⟩ (d.tx.Ql (az _) l λB j e f=>?_) d.xb;have:=d.bc e f;exact g e G G G;have:=d.bf e f;exact g e G G G;have:=d.xb B j e f;have x:e<h.size:=by
  rcases j with rfl|rfl|j;exact(d.tx.ba e f).2.1;exact(d.tx.bb e f).2;have⟨_,A⟩:=d.tx.el.left j;exact(A.2 e f).2.1
 exact g e x G G 
def SJ.cell(e:SJ c s ch i S k p n0 cc cf ct es lo hi a b el t h){f n q:Nat}{o:Bool}{u:List T}(v:fa cc=D f)(w:h.get f=D ⟨1,n,q,o,false,u⟩)(g:Nat)(j:Int):SJ c s ch i S k p n0 cc cf ct es lo hi a b el t (fF h f ⟨1,n,q+1,o,false,u.set g (J j)⟩)/\∀d,d=5\/d=p->(fF h f ⟨1,n,q+1,o,false,u.set g (J j)⟩).get d=h.get d:=by have L:=e.n7;have M:=e.np;have I:=e.bc f v;have K:=e.m k e.hk;have⟨l1,A,y⟩:=e.gc;have⟨l2,B,z⟩:=e.gf;have l:∀d,(fF h f ⟨1,n,q+1,o,false,u.set g (J j)⟩).get d=if d=f then some ⟨1,n,q+1,o,false,u.set g (J j)⟩else h.get d:=λd=>ez w _ d;refine⟨e.gen (e.ok.put _ _) (by rw[iB];exact az _) (λd _ _ _ C _ _ _=>(l d).trans (aw λr=>C (by rw[r];exact v))) ⟨l1.set g j,?_,by simpa using y⟩ ⟨l2,B.mono λd r=>(l d).trans (aw λx=>(e.bf d r).2.2 (by rw[x];exact v)),z⟩ (e.tx.Ql (az _) (by rw[iB];exact az _) λF E d r=>(l d).trans (aw λx=>?_)) e.xb,λd hr=>(l d).trans (aw G)⟩;have:=A.setAt v w g (J j) ((l f).trans (ax rfl));simpa[iy,bg]using this;have:=e.xb F E d r;omega
def SJ.fut(e:SJ c s ch i S k p n0 cc cf ct es lo hi a b el t h){f n q:Nat}{o:Bool}{u:List T}(v:fa cf=D f)(w:h.get f=D ⟨1,n,q,o,false,u⟩)(g:Nat)(j:Int):SJ c s ch i S k p n0 cc cf ct es lo hi a b el t (fF h f ⟨1,n,q+1,o,false,u.set g (J j)⟩)/\∀d,d=5\/d=p->(fF h f ⟨1,n,q+1,o,false,u.set g (J j)⟩).get d=h.get d:=by have L:=e.n7;have M:=e.np;have y:=e.bf f v;have K:=e.m k e.hk;have⟨l1,B,z⟩:=e.gc;have⟨l2,C,A⟩:=e.gf;have l:∀d,(fF h f ⟨1,n,q+1,o,false,u.set g (J j)⟩).get d=if d=f then some ⟨1,n,q+1,o,false,u.set g (J j)⟩else h.get d:=λd=>ez w _ d;refine⟨e.gen (e.ok.put _ _) (by rw[iB];exact az _) (λd _ _ _ _ E _ _=>(l d).trans (aw λr=>E (by rw[r];exact v))) ⟨l1,B.mono λd r=>(l d).trans (aw λx=>y.2.2 (by rw[<-x];exact r)),z⟩ ⟨l2.set g j,?_,by simpa using A⟩ (e.tx.Ql (az _) (by rw[iB];exact az _) λI F d r=>(l d).trans (aw λx=>?_)) e.xb,λd hr=>(l d).trans (aw G)⟩;have:=C.setAt v w g (J j) ((l f).trans (ax rfl));simpa[iy,bg]using this;have:=e.xb I F d r;omega
end
def Ab{d k:Int}(h:oY d=k)(f:k≠0):(k=3->d=6\/d=7)/\(k=4->d=8\/d=9)/\(k=5->d=10)/\(k=22->d=26)/\(k=23->d=27):=by
 have g:6<=d/\d<=28:=by
  unfold oY at h;split at h;exact absurd h.symm f;omega
 have e:d=6\/d=7\/d=8\/d=9\/d=10\/d=11\/d=12\/d=13\/d=14\/d=15\/d=16\/d=17\/d=18\/d=19\/d=20\/d=21\/d=22\/d=23\/d=24\/d=25\/d=26\/d=27\/d=28:=G;rcases e with rfl|rfl|rfl|rfl|rfl|rfl|rfl|rfl|rfl|rfl|rfl|rfl|rfl|rfl|rfl|rfl|rfl|rfl|rfl|rfl|rfl|rfl|rfl<;>simp[oY,AI]at h<;>omega
def Nr(p:Nat)(d:iP):Prop:=TI.Y d 3=D (dY 0)/\TI.Y d 4=D (dY 1)/\TI.Y d 5=D (dY 2)/\TI.Y d 6=D (dY 3)/\TI.Y d 7=D (dY 4)/\TI.Y d 9=D (dY 5)/\TI.Y d 14=D (dY p)/\TI.Y d 15=D (dY (p+1))
def Ev9(d:fR)(h:H):Prop:=∃e f,h.get 5=D (dU 7 f [fR.t ⟨d.eG,d.fc,d.obj,e,d.ke,d.nH,d.vU⟩])
def Th9(p:Nat)(a b:T)(e f:Int)(h:H):Prop:=∃d,h.get p=D (dU 4 d [.eQ [J e,a,b,J f]])
def SJ.RI{c:kU}{s:jH}{ch:io}{i:iN}{S:iq}{k p n0:Nat}{cc cf ct:T}{es:List T}{lo hi:Nat->Nat}{a b:T}{el:List T}{t:gu}{h:H}(e:SJ c s ch i S k p n0 cc cf ct es lo hi a b el t h){u:jI}(j:h.get 5=D u){l m:Int}(ht:Th9 p a b l m h)(d:fR)(f:Int)(g:Nat):
 SJ c s ch i S k p n0 cc cf ct es lo hi a b el t (fF h 5 (dU 7 g [fR.t ⟨d.eG,d.fc,d.obj,f,d.ke,d.nH,d.vU⟩]))/\Ev9 d (fF h 5 (dU 7 g [fR.t ⟨d.eG,d.fc,d.obj,f,d.ke,d.nH,d.vU⟩]))/\Th9 p a b l m (fF h 5 (dU 7 g [fR.t ⟨d.eG,d.fc,d.obj,f,d.ke,d.nH,d.vU⟩])):=by
 have v:=e.n7;have w:=e.np;obtain⟨r,o⟩:=ht;exact⟨e.mono (e.ok.put _ _) (by rw[iB];exact az _) λq _ n _=>(ez j _ q).trans (aw n),⟨f,g,(ez j _ 5).trans (ax rfl)⟩,⟨r,(ez j _ p).trans ((aw G).trans o)⟩⟩
def akO(p:Nat)(ct:T)(m:Int)(h:H):Prop:=∃j d e l g n,h.get p=D (dU 4 n [.eQ [J j,d,e,J l]])/\d.iW/\d.cells=[d]/\e.iW/\e.cells=[e]/\jr (FT h (λf=>f<h.size/\f≠p/\7<=f/\fa ct≠some f) 3) [J j,d,e,J l] (gu.cs g)/\TBd 1000000 g/\(g.ei=m+1\/g.ei=0)
def LE:pI prog cx 155 (λa:kU×jH×io=>[a.1.t,a.2.1.t,a.2.2.t]) (λa=>(∀x∈a.1.d8,x.kh.length<=10000001)/\StI a.2.1/\evB 999000 a.2.1) (λa=>afw a.2.1):=by
 refine yF (tb:=⟨pt [(176,DV.jV),(35,uh)],ht [(194,jS jH abL Uy),(195,jS ISe Uf GC)]⟩) jk iX (js 12259964349774246101165194645239424850975965214878597119 [(41,[(1,2)])] func155) (λ_=>100) (λa b h=>by simp at h;exact aG (kU.inj h.1) (aG (jH.inj h.2.1) (io.inj h.2.2))) V nl9 ?_;rintro⟨c,s,ch⟩ ⟨gj,M,gi⟩ bN hj
 dsimp at gj M gi
 simp at hj;obtain⟨kn,aA,aE⟩:=hj;have k5:afs 1000000 s:=λt ht bH hl=>((M.t t ht).tn bH hl).1;obtain⟨_,⟨u,hL,rfl,kX,hC⟩,gV⟩:=DV.use (c,s,ch.eG) ⟨gj,k5⟩
 dsimp at gV hC
 have hB:afw s (.tuple [jH.t ⟨⟨[],0,[],[]⟩,[],[],[]⟩,fR.t ⟨0,0,0,0,0,[],[]⟩,.ej false]):=⟨_,_,_,rfl,⟨V,V⟩,V⟩;simp[f155,kn,aA,aE,gV];cases hL with
 |false=>
  simp;exact hB
 |true=>
 have⟨t,x,i,al⟩:=hC rfl;have⟨o4,pa⟩:=MQ al.f.v;have k4:RA s.gH:=⟨iH M.l,iH M.l,iH M.l,λbH hl=>iH (M.r.len M.a bH hl),M.a⟩;have gQ:rl prog cx ⟨pt [(176,DV.jV),(35,uh)],ht [(194,jS jH abL Uy),(195,jS ISe Uf GC)]⟩ 35 [c.gG.t,s.gH.t,J ch.eG,J u.fc,J u.obj,J ch.qW]=D (BV (c.gG,s.gH,ch.eG,u.fc,u.obj,ch.qW)):=
  iF V IZ (c.gG,s.gH,ch.eG,u.fc,u.obj,ch.qW) ⟨dQ,k4⟩
 cases gd:jM c.gG s.gH ch.eG u.fc u.obj with
 |false=>
  simp[gQ,BV,gd];exact hB
 |true=>
 simp[gQ,BV,gd];generalize kC:gY c.gG s.gH ch.eG u.fc u.obj ch.qW=h5 at*
 obtain⟨S,Z⟩:=h5;simp;have hl:=M.l;generalize bZ:H.cons _ _=b8;have hK:iS 0 b8:=bZ▸⟨V,V,V⟩;have m0:b8.size=7:=by rw[<-bZ];rfl
 have mj:b8.get 0=D (dU 7 0 [c.t]):=by rw[<-bZ];simp
 have mm:b8.get 1=D (dU 7 0 [s.t]):=by rw[<-bZ];simp
 have mq:b8.get 2=D (dU 2 0 [ch.t]):=by rw[<-bZ];simp
 have mx:b8.get 3=D (dU 7 0 [.eQ [dT,J 0,dT,dT,dT,dT,dT]]):=by rw[<-bZ];simp
 have mz:b8.get 4=D (dU 7 0 [.eQ [J 0,J 0,J 0,J 0,J 0,dT,dT]]):=by rw[<-bZ];simp
 have mA:b8.get 5=D (dU 7 1 [u.t]):=by rw[<-bZ];simp
 have mC:b8.get 6=D (dU 4 1 [S.t]):=by rw[<-bZ];simp
 clear bZ;refine jl Vi V s ⟨rfl,hK,⟨rfl,hK,G,G,G,λbH q=>iH (M.r.len M.a bH q)⟩,G,G,G,λX eh=>⟨iH (M.t X eh).rl,iH (M.t X eh).tl,λbH q=>((M.t X eh).tn bH q).1⟩⟩ ?_;rintro _ de ⟨m4,m5,nk,cc,cf,ct,es,lo,hi,n0,rfl,I⟩;have mS:=I.nb.ok.sz;have hZ:=I.z;rw[m0]at mS hZ;have a1:=(I.nb.get 1 G).trans mm;have a6:=(I.nb.get 6 G).trans mC;have a2:=(I.nb.get 2 G).trans mq;have a0:=(I.nb.get 0 G).trans mj;have⟨eN,nw,eO,c9,dd,nz⟩:=I.k0;have p1:∀y,(fF de 1 y).get 1=D y:=λy=>(ez a1 y _).trans (ax rfl);have p6:∀y,(fF de 1 y).get 6=de.get 6:=λy=>(ez a1 y _).trans (aw G);simp[a1,fD,p1,p6,a6];generalize eC:fF (fF de 1 _) 1 _=B;have pb:B.size=de.size:=by rw[<-eC];simp
 have lh:iS 0 de:=⟨I.nb.ok.hp,I.nb.ok.low,aB _⟩;have okB:iS 0 B:=eC▸(lh.put _ _).put _ _;have hO:=(show B.get 1=D (dU 7 2 [.eQ [sl (S.fQ.map fk.t),J S.tx,sl (S.done.map T.ej),sl (S.d8.map ew.t),cc,cf,ct]])by rw[<-eC];exact(ez (p1 _) _ _).trans (ax rfl));have c4:∀k,k≠1->B.get k=de.get k:=λk b9=>by rw[<-eC,ez (p1 _),aw b9,ez a1,aw b9]
 clear eC p1 p6;have hN:=(c4 0 G).trans a0;have hP:=(c4 2 G).trans a2;have lC:=(c4 5 G).trans ((I.nb.get 5 G).trans mA);have lz:=(c4 3 G).trans ((I.nb.get 3 G).trans mx);have lB:=(c4 4 G).trans ((I.nb.get 4 G).trans mz);have P:=I.th.mono (h':=B) G λk b9 _=>c4 k G;have b9:=al.n;rw[<-al.f.th]at b9;have⟨e6,ae⟩:=fT.1 b9;have c1:=al.ht;have fY:∃gX,es[ch.eG.toNat]? =D gX:=⟨_,aF (P.l▸ae)⟩;obtain⟨gX,eW⟩:=fY;obtain⟨a,b,el,rfl,ff⟩:=P.e _ _ _ eW c1;have⟨F,gZ,hX,ext,hY,t1,t2,t3,t4⟩:=P.g.CI (te:=PL) rfl (i:=ch.eG.toNat) (P.l▸ae);rw[show es[ch.eG.toNat]'(P.l▸ae)=Fj t a b by rw[aF (P.l▸ae)]at eW;simpa using eW]at t4;have ib:=okB.low;have m1:∀k,k<7->(k=B.size)=False:=λk b9=>by simp;omega
 have pn:∀k,k<7->(k=B.size+1)=False:=λk b9=>by simp;omega
 have aX:=al.hx;have hA:=al.hi;have⟨lw,oE,oI,oV⟩:=al.f.t _ _ _ c1 aX;have lG:=fO lw;simp[hN,hO,hP,t2,t3,t4,Fj,ib,fO e6,m1,aX,hA,lG];have oj:B.size<B.size+1:=G;generalize ef:fF ((B.cons _).cons _) (B.size+1) _=bu;have pc:bu.size=B.size+1+1:=by rw[<-ef,iB];rfl
 have lm:iS 0 bu:=ef▸((okB.cons _).cons _).put _ _;have hU:bu.get B.size=D (dU 4 1 [.eQ [J t.pC,a,b,J t.ei]]):=by rw[<-ef,nT ((okB.cons _).cons _).hp (by show _<B.size+1+1;omega),aw G,fg,aw (by show¬_=B.size+1;omega),fg,ax rfl]
 have lE:bu.get (B.size+1)=D (dU 6 1 [i.t]):=by rw[<-ef,nT ((okB.cons _).cons _).hp (by show _<B.size+1+1;omega),ax rfl]
 have hS:∀k,k<B.size->bu.get k=B.get k:=λk b9=>by
  rw[<-ef,nT ((okB.cons _).cons _).hp (by show _<B.size+1+1;omega),aw G,fg,aw (by show¬_=B.size+1;omega),fg,aw G]
 clear ef;have r5:=(hS 5 G).trans lC;have j6:∀y,(fF bu 5 y).get 5=D y:=λy=>(ez r5 y _).trans (ax rfl);simp[hU,r5,qI,j6];have lu:iS 0 (fF bu 5 (dU 7 2 [fR.t ⟨u.eG,u.fc,u.obj,Z,u.ke,u.nH,u.vU⟩])):=lm.put _ _;have eR:∀k,(fF bu 5 (dU 7 2 [fR.t ⟨u.eG,u.fc,u.obj,Z,u.ke,u.nH,u.vU⟩])).get k=_:=λk=>ez r5 _ k;have pm:(fF bu 5 (dU 7 2 [fR.t ⟨u.eG,u.fc,u.obj,Z,u.ke,u.nH,u.vU⟩])).size=bu.size:=iB ..;generalize fF bu 5 (dU 7 2 [fR.t ⟨u.eG,u.fc,u.obj,Z,u.ke,u.nH,u.vU⟩])=bA at*
 have nY:ch.eG.toNat<s.d8.length:=ae;have⟨oT,o3,ov,_,gD,gE,_,gF,_,_,hW,_⟩:=Mp al.f al.n;rw[c1]at gD;rw[aX]at gE;simp[ay]at gD gE;subst gD;subst gE;rw[hA]at gF;cases gF;have eE:∀K:Int,u.fc=K->K≠1->K≠17->K≠0->oY i.op=K:=λK aA aE bs cX=>by
  rcases al.k with q|q|q;omega;omega;omega
 have gg:=gd;unfold jM at gg;simp[aC]at gg;have e4:=gg.1.2;have hv:u.fc=3\/u.fc=4->jx u.obj s.cells.length=true:=λq=>by
  rw[al.f.cl];unfold ky at e4;rcases q with q|q<;>simpa[q]using e4
 have hy:u.fc=22\/u.fc=23->jx u.obj s.fI.length=true:=λq=>by
  rw[al.f.fu];unfold ky at e4;rcases q with q|q<;>simpa[q]using e4
 have hQ:u.fc=3\/u.fc=23\/u.fc=5->0<=i.a/\i.a<x.j1:=λq=>by
  refine hW _ ?_;unfold jT;rcases q with q|q|q
  rcases(Ab (eE 3 q G G G) G).1 rfl with k|k<;>simp[k];simp[(Ab (eE 23 q G G G) G).2.2.2.2 rfl];simp[(Ab (eE 5 q G G G) G).2.2.1 rfl]
 have hR:u.fc=4\/u.fc=22->0<=i.b/\i.b<x.j1:=λq=>by
  refine hW _ ?_;unfold jT;rcases q with q|q
  rcases(Ab (eE 4 q G G G) G).2.1 rfl with k|k<;>simp[k];simp[(Ab (eE 22 q G G G) G).2.2.2.1 rfl]
 have Q:SJ c s ch i S ch.eG.toNat B.size n0 cc cf ct es lo hi a b el t bA:=by
  have b6:∀k,k<B.size->k≠5->bA.get k=B.get k:=λk aA aE=>(eR k).trans ((aw aE).trans (hS k aA));have oA:=P.m _ ae;have lc:n0<=B.size:=iH I.zn;refine⟨lu,G,hZ,lc,(b6 0 G G).trans hN,(b6 1 G G).trans hO,(b6 2 G G).trans hP,(b6 3 G G).trans lz,(b6 4 G G).trans lB,?_,
   ⟨_,I.gc.mono λq x=>?_,V⟩,⟨_,I.gf.mono λq x=>?_,V⟩,λq x=>?_,λq x=>?_,P.g.mono λq x=>?_,P.l,P.m,P.d,λq x=>?_,λj u X eX fY eh=>?_,ae,⟨_,_,eW⟩,ff.Ql G G λa8 e5 q x=>?_,λa8 e5 q x=>?_⟩
  exact(eR _).trans ((aw G).trans lE);have:=I.bc q x;exact(b6 q G G).trans (c4 q G);have:=I.bf q x;exact(b6 q G G).trans (c4 q G);have:=I.bc q x;omega;have:=I.bf q x;exact⟨G,this.2.1,this.2.2⟩;have⟨_,_,_,_,fB,_⟩:=P.g.box x;have:=(P.c q x).1;exact b6 q (H.fN fB) G;have⟨_,_,_,_,fB,_⟩:=P.g.box x;exact⟨(P.c q x).1,H.fN fB,(P.c q x).2⟩;obtain⟨fo,fs,Tt,rfl,lM⟩:=P.e j u X fY eh;have k9:=P.m j (List.getElem?_eq_some_iff.1 eh).1;exact .inr (.inr ⟨_,_,rfl,(lM.mono (h':=bA) (az _) (az _) λq aA aE=>b6 q G G).fz _ λq aA aE=>⟨aA,aE⟩,rfl⟩)
  all_goals
   have hq:lo ch.eG.toNat<=q/\q<hi ch.eG.toNat:=by
    rcases e5 with rfl|rfl|e5;have:=ff.ba q x;omega;exact ff.bb q x;have⟨_,w⟩:=ff.el.left e5;have:=w.2 q x;exact⟨this.1,this.2.1⟩
  exact b6 q G G;exact⟨hq.1,.inl hq.2⟩
 refine Xs (λbN h=>Nr B.size bN/\(∃gy,TI.Y bN 16=D (J gy))/\SJ c s ch i S ch.eG.toNat B.size n0 cc cf ct es lo hi a b el t h/\Ev9 u h/\Th9 B.size a b t.pC t.ei h) ?_ ?_
 .have W:=(eR 5).trans (ax rfl);have ee:=(eR B.size).trans ((aw G).trans hU);have eL:Ev9 u bA:=⟨Z,2,W⟩;have cb:Th9 B.size a b t.pC t.ei bA:=⟨1,ee⟩;cases nn:decide (u.fc=1)with
  |true=>
   simp[ee,Nr];exact⟨Q,eL,cb⟩
  |false=>
  cases cv:decide (u.fc=16)with
  |true=>
   simp[cv,ee,Nr];exact⟨Q,eL,cb⟩
  |false=>
  cases c6:decide (u.fc=2)with
  |true=>
   simp[cv,c6,ee,Nr];exact⟨Q,eL,cb⟩
  |false=>
  cases c7:decide (u.fc=3)with
  |true=>
   have⟨l1,b7,ca⟩:=Q.gc;have bC:=fT.1 (hv (.inl (iD c7)));have⟨p1,U,bS⟩:=(show qk bA 1 cc (iy l1)from .inr b7).idx (te:=JB) rfl rfl (i:=u.obj.toNat) (x:= J l1[u.obj.toNat]) (by simp[ca,bC.2]) rfl;simp[cv,c6,c7,W,Q.b1,fO bC.1,U,bS,Nr];exact Q.RI W cb u _ _
  |false=>
  cases eb:decide (u.fc=23)with
  |true=>
   have⟨l1,b7,ca⟩:=Q.gf;have bC:=fT.1 (hy (.inr (iD eb)));have⟨p1,U,bS⟩:=(show qk bA 1 cf (iy l1)from .inr b7).idx (te:=JB) rfl rfl (i:=u.obj.toNat) (x:= J l1[u.obj.toNat]) (by simp[ca,bC.2]) rfl;simp[cv,c6,c7,eb,W,Q.b1,fO bC.1,U,bS,Nr];exact Q.RI W cb u _ _
  |false=>
  have fE:qk bA 1 a (iy t.j1):= .inr Q.tx.ga;have fe:∀x y:Int,ly (J x) 0 [J y]=D (J y):=λx y=>rfl;cases ec:decide (u.fc=4)with
  |true=>
   have gB:=hR (.inl (iD ec));have bC:=fT.1 (hv (.inr (iD ec)));have⟨p1,U,bS⟩:=fE.idx (te:=JB) rfl rfl (i:=i.b.toNat) (x:= J t.j1[i.b.toNat]) (by simp[show i.b.toNat<t.j1.length by omega]) rfl;have⟨a7,bi,t5⟩:=Q.RI W cb u t.j1[i.b.toNat] 3;have dd:=(ez W (dU 7 3 [fR.t ⟨u.eG,u.fc,u.obj,t.j1[i.b.toNat],u.ke,u.nH,u.vU⟩]) 5).trans (ax rfl);simp[cv,c6,c7,eb,ec,W,ee,Q.bq,fO gB.1,U,bS,Nr];generalize fF bA 5 (dU 7 3 [fR.t ⟨u.eG,u.fc,u.obj,t.j1[i.b.toNat],u.ke,u.nH,u.vU⟩])=aN at*
   have⟨l1,b7,ca⟩:=a7.gc;have⟨q,av,lW,ha,mg,gv,gw,eH,eI⟩:=b7.CI (te:=JB) rfl (i:=u.obj.toNat) (by simpa[ca]using bC.2);simp at eI;have⟨gn,eA⟩:=a7.cell gv eH u.obj.toNat t.j1[i.b.toNat];simp[a7.b1,dd,fO bC.1,gw,eH,eI,fe];obtain⟨gM,gP,gm⟩:=bi;obtain⟨er,dm⟩:=t5;exact⟨gn,⟨gM,gP,(eA 5 (.inl rfl)).trans gm⟩,er,(eA _ (.inr rfl)).trans dm⟩
  |false=>
  cases eu:decide (u.fc=22)with
  |true=>
   have gB:=hR (.inr (iD eu));have bC:=fT.1 (hy (.inl (iD eu)));have⟨p1,U,bS⟩:=fE.idx (te:=JB) rfl rfl (i:=i.b.toNat) (x:= J t.j1[i.b.toNat]) (by simp[show i.b.toNat<t.j1.length by omega]) rfl;have⟨a7,bi,t5⟩:=Q.RI W cb u t.j1[i.b.toNat] 3;have dd:=(ez W (dU 7 3 [fR.t ⟨u.eG,u.fc,u.obj,t.j1[i.b.toNat],u.ke,u.nH,u.vU⟩]) 5).trans (ax rfl);simp[cv,c6,c7,eb,ec,eu,W,ee,Q.bq,fO gB.1,U,bS,Nr];generalize fF bA 5 (dU 7 3 [fR.t ⟨u.eG,u.fc,u.obj,t.j1[i.b.toNat],u.ke,u.nH,u.vU⟩])=aN at*
   have⟨l1,b7,ca⟩:=a7.gf;have⟨q,av,lW,ha,mg,gv,gw,eH,eI⟩:=b7.CI (te:=JB) rfl (i:=u.obj.toNat) (by simpa[ca]using bC.2);simp at eI;have⟨gn,eA⟩:=a7.fut gv eH u.obj.toNat t.j1[i.b.toNat];simp[a7.b1,dd,fO bC.1,gw,eH,eI,fe];obtain⟨gM,gP,gm⟩:=bi;obtain⟨er,dm⟩:=t5;exact⟨gn,⟨gM,gP,(eA 5 (.inl rfl)).trans gm⟩,er,(eA _ (.inr rfl)).trans dm⟩
  |false=>
  cases fA:decide (u.fc=5)with
  |false=>
   simp[cv,c6,c7,eb,ec,eu,fA,Nr];exact⟨Q,eL,cb⟩
  |true=>
   have fb:=hQ (.inr (.inr (iD fA)));have⟨p1,U,bS⟩:=fE.idx (te:=JB) rfl rfl (i:=i.a.toNat) (x:= J t.j1[i.a.toNat]) (by simp[show i.a.toNat<t.j1.length by omega]) rfl;have⟨a7,bi,t5⟩:=Q.RI W cb u 1 3;have dd:=(ez W (dU 7 3 [fR.t ⟨u.eG,u.fc,u.obj,1,u.ke,u.nH,u.vU⟩]) 5).trans (ax rfl);simp[cv,c6,c7,eb,ec,eu,fA,W,Nr];generalize fF bA 5 (dU 7 3 [fR.t ⟨u.eG,u.fc,u.obj,1,u.ke,u.nH,u.vU⟩])=aN at*
   have⟨p1,U,bS⟩:=(show qk aN 1 a (iy t.j1)from .inr a7.tx.ga).idx (te:=JB) rfl rfl (i:=i.a.toNat) (x:= J t.j1[i.a.toNat]) (by simp[show i.a.toNat<t.j1.length by omega]) rfl;obtain⟨er,dm⟩:=t5;have⟨hF,lT,t6⟩:=a7.RI dd ⟨er,dm⟩ u 0 4;have ia:=hF.bq;simp[dm,a7.bq,fO fb.1,U,bS];refine fG (λq=>?_) (λq=>?_);simp[dd,ia];exact⟨hF,lT,t6⟩;simp;exact⟨a7,bi,er,dm⟩
 rintro bN h ⟨⟨bs,cX,aN,bT,bW,bX,bp,cL⟩,⟨dn,eU⟩,A,⟨a8,bi,bn⟩,cp,av⟩;simp[bX,bn];have oD:=A.ok;refine lJ (λbN h=>Nr B.size bN/\(∃gy,TI.Y bN 16=D (J gy))/\∃Tt t',t'.pC=t.pC/\t'.ei=t.ei/\TBd 1000000 t'/\SJ c s ch i S ch.eG.toNat B.size n0 cc cf ct es lo hi a b Tt t' h/\Ev9 u h/\Th9 B.size a b t.pC t.ei h) (λL=>?_) (λL=>?_) ?_;have fb:=hQ (by simpa[or_assoc]using(by simpa using L:u.fc=3\/u.fc=23).elim .inl λq=> .inr (.inl q));have nZ:el.length=t.lP.length:=A.tx.el.length;have kp:i.a.toNat<t.j1.length:=G;have kq:i.a.toNat<el.length:=G;have⟨an,jj,lX,jC,mi,eD,ks,fW,ho⟩:=A.tx.ga.CI (te:=JB) rfl (i:=i.a.toNat) (iD kp);simp at ho;have fe:∀x y:Int,ly (J x) 0 [J y]=D (J y):=λx y=>rfl;have lb:=A.n7;have oC:=A.np;have oi:=A.z;have hs:=A.tx.ba an eD;have n9:=A.xb a (.inl rfl) an eD;have n1:=A.m _ A.hk;simp[bX,bp,cL,av,bn,A.bq,fO fb.1,ks,fW,ho,fe];generalize k8:jI.mk 1 jj (lX+1) jC false (mi.set i.a.toNat (J a8))=ds at*
 have et:∀w,(fF h an ds).get w=if w=an then some ds else h.get w:=λw=>ez fW ds w;have lg:iS 0 (fF h an ds):=A.ok.put _ _;have o5:(fF h an ds).size=h.size:=iB ..;have ic:=(et B.size).trans ((aw G).trans av);have ie:=(et (B.size+1)).trans ((aw G).trans A.bq);have nu:=(et 5).trans ((aw G).trans bn);generalize nX:fF h an ds=O at*
 have eS:Gr O b 1 el:=A.tx.gb.mono λw hr=>(et w).trans (aw λx=>hs.2.2 (by rw[<-x];exact hr));have⟨ap,ey,fi,eM,fl,di,kD,eV,fX⟩:=(eS.mono (h':=O.cons (dU 1 0 [J t.ei])) λw hr=>by rw[fg,aw (iH (A.tx.bb w hr).2)]).CI (te:=pJ) rfl (i:=i.a.toNat) kq;have⟨nr,kK,lD⟩:=A.tx.el.get (aF (show i.a.toNat<t.lP.length by omega));have lF:=wI (x:= .arr O.size 0 0 1 false) lD.1.na;replace fX:=fX.trans ((aF _).symm.trans kK);have kF:b= .arr ap ey 0 el.length false:=by
  have⟨_,_,_,_,q,u⟩:=(eS.mono (h':=O.cons (dU 1 0 [J t.ei])) λw hr=>by rw[fg,aw (iH (A.tx.bb w hr).2)]).box di;rw[eV]at q;simp at q;rw[u,q.1]
 simp[bp,cL,eU,ic,ie,fO fb.1,kD,eV,fX,lF];have nF:=A.tx.bb ap di;have og:=A.xb b (.inr (.inl rfl)) ap di;have kB:an≠ap:=λq=>hs.2.2 (q▸di);have lp:iS 0 (fF (O.cons (dU 1 0 [J t.ei])) ap ⟨1,ey,fi+1,eM,false,fl.set i.a.toNat (.arr O.size 0 0 1 false)⟩):=(lg.cons _).put _ _;have pk:(fF (O.cons (dU 1 0 [J t.ei])) ap ⟨1,ey,fi+1,eM,false,fl.set i.a.toNat (.arr O.size 0 0 1 false)⟩).size=h.size+1:=by rw[iB];show O.size+1=_;omega
 have eK:∀w,(fF (O.cons (dU 1 0 [J t.ei])) ap ⟨1,ey,fi+1,eM,false,fl.set i.a.toNat (.arr O.size 0 0 1 false)⟩).get w=if w=ap then some ⟨1,ey,fi+1,eM,false,fl.set i.a.toNat (.arr O.size 0 0 1 false)⟩else if w=O.size then some (dU 1 0 [J t.ei])else if w=an then some ds else h.get w:=λw=>(ez eV _ w).trans (by rw[fg,et]);generalize fF (O.cons _) ap _=fP at*
 have kg:=(eS.mono (h':=O.cons (dU 1 0 [J t.ei])) λw hr=>by rw[fg,aw (iH (A.tx.bb w hr).2)]).setAt di eV i.a.toNat (.arr O.size 0 0 1 false) (h':=fP) ((eK ap).trans (ax rfl));have kd:=A.tx.ga.setAt eD fW i.a.toNat (J a8) (h':=fP) ((eK an).trans ((aw kB).trans ((aw G).trans ((ax rfl).trans (by rw[k8])))));have ea:∀w,w<h.size->w≠an->w≠ap->fP.get w=h.get w:=λw aA aE bs=>(eK w).trans ((aw bs).trans ((aw G).trans (aw aE)));have ih:∀w,fa a=D w->w=an:=λw hr=>by rw[eD]at hr;simpa using hr.symm
 have ii:∀w,fa b=D w->w=ap:=λw hr=>by rw[di]at hr;simpa using hr.symm
 have nM:=gi t (aD c1);have gk:=M.t t (aD c1);have e9:∀w,fa a≠some w->fa b≠some w->w≠an/\w≠ap:=λw aA aE=>⟨λx=>aA (x▸eD),λx=>aE (x▸di)⟩;refine⟨by simp[Nr,bs,cX,aN,bT,bW,bX,bp,cL],el.set i.a.toNat (.arr O.size 0 0 1 false),⟨t.pC,t.j1.set i.a.toNat a8,t.lP.set i.a.toNat [t.ei],t.ei⟩,rfl,rfl,⟨iD gk.rl,iD gk.tl,λbH hl=>?_⟩,
  A.gen lp G (λw aA aE bs _ _ bT bW=>ea w aA (e9 w bT bW).1 (e9 w bT bW).2) ?_ ?_ ⟨by simpa[iy,bg]using kd,kg,A.tx.el.set i.a.toNat ⟨.inr ?_,λw hr=>?_⟩ λu bH q=>⟨q.1.mono λw hr=>?_,λw hr=>?_⟩,λw hr=>?_,λw hr=>?_⟩ λZ hw w hr=>?_,⟨a8,bi,(ea 5 G G G).trans bn⟩,cp,(ea _ G G G).trans av⟩
 rcases cw hl with q|rfl;exact gk.tn bH q;exact⟨V,λx aX=>by simp at aX;subst aX;omega⟩;have⟨l1,eN,U⟩:=A.gc;exact⟨l1,eN.mono λw hr=>by have:=A.bc w hr;exact ea w G G G,U⟩;have⟨l1,eN,U⟩:=A.gf;exact⟨l1,eN.mono λw hr=>by have:=A.bf w hr;exact ea w G G G,U⟩;have:=Gr.new ((eK O.size).trans ((aw G).trans (ax rfl)));simpa using this;simp at hr;subst hr;exact⟨G,G,λq=>iH (ih _ q),λq=>iH (ii _ q)⟩;have⟨ae,hG,e7,e8⟩:=q.2 w hr;exact ea w hG (e9 w e7 e8).1 (e9 w e7 e8).2;have⟨ae,hG,e7,e8⟩:=q.2 w hr;exact⟨ae,G,e7,e8⟩;have:=A.tx.ba w hr;exact⟨this.1,G,this.2.2⟩;have:=A.tx.bb w hr;exact⟨this.1,G⟩;rcases hw with rfl|rfl|hw;exact A.xb _ (.inl rfl) w hr;exact A.xb _ (.inr (.inl rfl)) w hr;rcases cw hw with q|rfl;exact A.xb Z (.inr (.inr q)) w hr;simp at hr;subst hr;omega;simp[Nr,bs,cX,aN,bT,bW,bX,bp,cL,eU];exact⟨el,t,rfl,rfl,M.t _ (aD c1),A,⟨a8,bi,bn⟩,cp,av⟩;rintro bN h ⟨⟨bs,cX,aN,bT,bW,bX,bp,cL⟩,⟨dn,eU⟩,Tt,t',n2,n8,eo,A,⟨a8,bi,bn⟩,cp,av⟩;have eB:∀y,(fF h B.size y).get B.size=D y:=λy=>(ez av y _).trans (ax rfl);have hf:∀y,∀q,q<7->(fF h B.size y).get q=h.get q:=λy q L=>(ez av y _).trans (aw G);have hd:∀y C,(fF (fF h B.size y) B.size C).get B.size=D C:=λy C=>(ez (eB y) C _).trans (ax rfl);have fM:∀y C,∀q,q<7->(fF (fF h B.size y) B.size C).get q=h.get q:=λy C q L=>(ez (eB y) C _).trans ((aw G).trans (hf y q L));simp[bX,bp,eU,bn,av,qI,fD,eB,fM];have kF:=gi t (aD c1);have k7:IntKind.i64.wrap (t.ei+1)=t.ei+1:=by rw[<-kz,kI G G]
 rw[k7];have Sh:iS 0 (fF (fF h B.size (dU 4 (cp+1) [.eQ [J t.pC,a,b,J (t.ei+1)]])) B.size ⟨4,0,cp+1+1,true,false,[.eQ [J dn,a,b,J (t.ei+1)]]⟩):=(A.ok.put _ _).put _ _;have E:=A.mono Sh (by rw[iB,iB];exact az _) λq _ _ L=>by rw[ez (eB _),aw L,ez av,aw L]
 have gS:=(fM (dU 4 (cp+1) [.eQ [J t.pC,a,b,J (t.ei+1)]]) ⟨4,0,cp+1+1,true,false,[.eQ [J dn,a,b,J (t.ei+1)]]⟩ 5 G).trans bn;have gz:=hd (dU 4 (cp+1) [.eQ [J t.pC,a,b,J (t.ei+1)]]) ⟨4,0,cp+1+1,true,false,[.eQ [J dn,a,b,J (t.ei+1)]]⟩;generalize fF (fF h B.size _) B.size _=hg at*
 clear eB hf hd fM A av bn;refine lJ (λbN h=>Nr B.size bN/\SJ c s ch i S ch.eG.toNat B.size n0 cc cf ct es lo hi a b Tt t' h/\Ev9 u h/\akO B.size ct t.ei h) (λL=>?_) (λL=>?_) ?_;have k6:=aD aX;simp[bs,aN,bp,E.b0,E.b2,fO e6,aX,gz];refine jl UP V ⟨x,⟨dn,t'.j1,t'.lP,t.ei+1⟩,a,b,Tt,7,hg.size,1000000⟩ ⟨rfl,E.tx.same rfl rfl,az _,Sh,⟨eo.rl,eo.tl,eo.tn⟩,az _,gj x k6⟩ ?_;rintro _ hE ⟨X,hL,rfl,gI,hV,pf,fC,hJ⟩;have pd:=E.z;have hM:=(fC B.size G).trans gz;have fL:∀y,∀q,(fF hE B.size y).get q=if q=B.size then some y else hE.get q:=λy q=>ez hM y q;simp[Nr,bs,cX,aN,bT,bW,bX,bp,cL,hM,fD];have h4:=E.mono (h':=hE) hJ G λq L _ _=>fC q L;refine⟨h4.mono (hJ.put _ _) (by rw[iB];exact az _) λq _ _ L=>(fL _ q).trans (aw L),⟨a8,bi,(fL _ 5).trans ((aw G).trans ((fC 5 G).trans gS))⟩,X.pC,sl (iy X.j1),sl (X.lP.map tn1),X.ei,X,_,(fL _ _).trans (ax rfl),V,V,V,V,?_,gI,hV⟩;exact .cons (iL ..) (.cons (sa _ _ _ λx aX=>(Mo _ x aX).1) (.cons (sa _ _ _ λx aX=>by obtain⟨bH,_,rfl⟩:=List.mem_map.1 aX;simp[tn1]) (.cons (iL ..) .nil)));simp[Nr,bs,cX,aN,bT,bW,bX,bp,cL];refine⟨E,⟨a8,bi,gS⟩,_,_,_,_,⟨dn,t'.j1,t'.lP,t.ei+1⟩,_,gz,E.tx.ga.iW,E.tx.ga.cells,E.tx.gb.iW,E.tx.gb.cells,(E.tx.same (s':=⟨dn,t'.j1,t'.lP,t.ei+1⟩) rfl rfl).fzB _ λZ hw q x=>?_,⟨eo.rl,eo.tl,eo.tn⟩,.inl rfl⟩;have o0:=E.xb Z hw q x;have o1:=E.m _ E.hk;have o2:=E.n7;have mb:q<hg.size:=by
  rcases hw with rfl|rfl|hw;exact(E.tx.ba q x).2.1;exact(E.tx.bb q x).2;have⟨_,w⟩:=E.tx.el.left hw;exact(w.2 q x).2.1
 exact⟨mb,G,G,λy=>by have:=E.bt q y;have:=this.2.2 _ E.hk;omega⟩;rintro bN h ⟨⟨bs,cX,aN,bT,bW,bX,bp,cL⟩,A,⟨a8,bi,bn⟩,hH,fo,fs,hI,X,oW,lx,nA,nB,eS,nE,lS,gI,hV⟩;have⟨F,gZ,hX,ext,hY,t1,t2,t3,t4⟩:=A.gt.CI (te:=PL) rfl (i:=ch.eG.toNat) (A.l▸ae);have⟨ha,nv,k1⟩:=A.ek;replace t4:=t4.trans ((aF _).symm.trans k1);have m3:=A.bt F t1;have⟨l1,b7,ca⟩:=A.gc;have⟨l2,kk,k3⟩:=A.gf;generalize hD:jI.mk 4 gZ (hX+1) ext false (hY.set ch.eG.toNat (.eQ [J hH,fo,fs,J hI]))=R;have hb:∀q,(fF h F R).get q=if q=F then some R else h.get q:=λq=>ez t3 R q;have eP:∀q,q<7->(fF h F R).get q=h.get q:=λq L=>(hb q).trans (aw G);have h7:=(eP 1 G).trans A.b1;have fv:=(eP 3 G).trans A.b3;have m2:=(eP 4 G).trans A.b4;have h8:=(eP 5 G).trans bn;have eO:∀y q,(fF (fF h F R) 3 y).get q=if q=3 then some y else if q=F then some R else h.get q:=λy q=>(ez fv y q).trans (by rw[hb]);have c9:∀y C q,(fF (fF (fF h F R) 3 y) 4 C).get q=if q=4 then some C else if q=3 then some y else if q=F then some R else h.get q:=λy C q=>(ez ((eO y 4).trans ((aw G).trans ((aw G).trans A.b4))) C q).trans (by rw[eO]);have oB:(3=F)=False:=dP;have la:(4=F)=False:=dP;have sv:∀y,gJ (fF h F R) (fF (fF h F R) 3 y) 5:=λy=>pj fv G y;have jZ:∀y C,TI.fz (fF (fF (fF h F R) 3 y) 4 C) cc=D (sl (iy l1)):=λy C=>(b7.mono (h':=fF (fF (fF h F R) 3 y) 4 C) λq x=>by
  have:=A.bc q x;rw[c9,aw G,aw G,aw G]).fz V
 have j0:∀y C,TI.fz (fF (fF (fF h F R) 3 y) 4 C) cf=D (sl (iy l2)):=λy C=>(kk.mono (h':=fF (fF (fF h F R) 3 y) 4 C) λq x=>by
  have:=A.bf q x;rw[c9,aw G,aw G,aw G]).fz V
 have j5:∀y C,TI.fz (fF (fF (fF h F R) 3 y) 4 C) ct=D (sl ((s.d8.set ch.eG.toNat X).map gu.t)):=λy C=>by
  refine(A.gt.setAt t1 t3 ch.eG.toNat (.eQ [J hH,fo,fs,J hI]) (h':=fF (fF (fF h F R) 3 y) 4 C) (by rw[c9,aw G,aw G,ax rfl,hD])).MD (Vq:=λ_=>True) (d:=4) G (FM (by simp[A.l]) λj x Z eF hw=>?_);rw[br]at hw;obtain⟨lR,dk,rfl⟩:=Option.map_eq_some_iff.1 hw;by_cases eX:j=ch.eG.toNat;subst eX;rw[cR (A.l▸ae)]at eF;rw[cR ae]at dk;simp at eF dk;subst eF;subst dk;exact .inr (.inr ⟨_,_,rfl,lS.imp λ_ _ k=>k.mono λq L=>⟨trivial,by rw[c9,aw G,aw G,aw (λx=>L.2.2.2 (by rw[x];exact t1))]⟩,rfl⟩);rw[dh (λx=>eX x.symm)]at eF dk;have k9:=A.m j (List.getElem?_eq_some_iff.1 dk).1;have lb:=A.n7;refine(A.o j x lR eX eF dk).mono λq L=>⟨trivial,?_⟩;rw[c9,aw G,aw G,aw (λx=>(A.bt F t1).2.2 j (List.getElem?_eq_some_iff.1 dk).1 (by rw[<-x];exact L))]
 simp[cX,aN,bT,bW,bX,bp,A.b1,A.b2,fO e6,lx,t2,t3,t4,fD,hD,h7,fv,h8,eO,c9,la,A.b4,sv,jZ,j0,j5,A.ok.hp];have fS:S=(gY c.gG s.gH ch.eG u.fc u.obj ch.qW).1:=by rw[kC]
 have e0:=yx c.gG s.gH ch.eG u.fc u.obj ch.qW;rw[<-fS]at e0;refine⟨⟨S,l1,l2,s.d8.set ch.eG.toNat X⟩,⟨u.eG,u.fc,u.obj,a8,u.ke,u.nH,u.vU⟩,true,by simp[jH.t,jH.cs,bg],kX,λ_=>⟨⟨⟨by rw[e0.1];omega,by rw[e0.2.1];omega,by rw[e0.2.2];omega,by rw[ca];omega,by rw[k3];omega,dP⟩,?_,?_,λZ hw=>?_⟩,λN hh Z hw=>?_⟩⟩;rw[fS];refine BW M.r _ ⟨e6,?_⟩ _ _ _;have:=al.f.th;omega;rw[fS];exact yy M.a _ _ _ _ _;rcases cw hw with q|rfl;exact M.t Z q;exact gI;rcases cw hw with q|rfl;have:=hh Z q;omega;have:=hh t (aD c1);omega
end
end
def Sp9(f:H)(a:iq)(b c:List Int):Prop:=∃g d e,oQ f 2 7 g [(sl (a.fQ.map fk.t),none),(J a.tx,none),(sl (a.done.map T.ej),none),(sl (a.d8.map ew.t),none),(d,some (1,iy b)),(e,some (1,iy c)),(dT,none)]
structure Tt9(c:kU)(S:iq)(Cq F:List Int)(cc cf:T)(n1 k:Nat)(h:H)(ver:Nat)(ct:T)(es:List T)(ts:List gu)(lo hi:Nat->Nat):Prop where
 ok:iS 0 h
 n:3<=n1/\n1<=h.size
 b0:h.get 0=D (dU 7 0 [c.t])
 b1:h.get 1=D pX
 b2:h.get 2=D (dU 7 ver [.eQ [sl (S.fQ.map fk.t),J S.tx,sl (S.done.map T.ej),sl (S.d8.map ew.t),cc,cf,ct]])
 gc:Gr h cc 1 (iy Cq)
 gf:Gr h cf 1 (iy F)
 bx:∀q,fa cc=D q\/fa cf=D q->3<=q/\q<n1
 th:ZO n1 h ct es ts lo hi
 l:ts.length=k
 t:∀t∈ts,TBd 1000000 t/\t.ei=0
def ajs(b:T):Prop:=∃a:jH,b=a.t/\StI a/\evB 0 a
def IR:pI prog cx 104 (λk:kU=>[k.t]) (λk=>∀x∈k.d8,x.kh.length<=10000001) (λ_=>ajs):=by
 refine j2 [(102,AC.jV),(101,xa)] (js 4504699140047487 [] func104) (λ_=>1005) (λa b h=>by simp at h;exact kU.inj h) ?_;rintro k c6 r a8;simp at a8;obtain⟨_,⟨b,rfl,bi⟩,eD⟩:=AC.use k c6;cases b with
 |false=>
  simp[*,f104];exact⟨⟨⟨[],0,[],[]⟩,[],[],[]⟩,rfl,⟨V,λ_ h=>by simp at h,λ_ h=>by simp at h,V⟩,λ_ h=>by simp at h⟩
 |true=>
  have R:=bi rfl;have an:=kW R.1;obtain⟨eU,eV,eW,eX,e0,b7⟩:=an;have eN:k.d8.length<=4:=R.2.1▸b7;simp[*,f104,M0,show k.gG.fQ.length<=1000000 by omega,show k.gG.fI.length<=1000000 by omega,show k.gG.d8.length<=1000000 by omega];have a7:(m8 k.gG).fQ.length=k.gG.fQ.length/\(m8 k.gG).done.length=k.gG.fI.length/\(m8 k.gG).d8.length=k.gG.d8.length:=by simp[m8]
  have cL:FN 4 (m8 k.gG):=(y8 4 k.gG);have cX:(m8 k.gG).C9:=vX k.gG;generalize m8 k.gG=o at*
  refine gW k.gG.cells.length G (λs r h=>∃A,Sp9 h o A []/\A.length=s/\Lb 2 h 0 (dU 7 0 [k.t])/\Lb 2 h 1 pX/\TI.Y r 1=D (dY 0)/\TI.Y r 2=D (dY 1)/\TI.Y r 3=D (dY 2)/\TI.Y r 4=D (J s)) ?_ ?_ G ?_;rintro s r h al bT ⟨A,⟨ver,C,E,u⟩,cp,y,N,z⟩;have I:=u.get;simp at I;have⟨ee,h',av,v⟩:=(u.gr 4 rfl).mR (cx:=cx) (f:=T.int .i64) u.ok rO rfl Bb rfl V (λ_=>rfl) k.gG.cells[s].kH dP;have⟨bA,dm,bC⟩:=u.app 4 rfl v;have⟨P,U⟩:=bC _ rfl;simp only[aR,bL,cS,cJ]at bA P U;simp[*,y.get,fD,v.1.iW,v.1.cells];exact⟨A++[k.gG.cells[s].kH],⟨_,_,_,U⟩,dP,y.step P,N.step P⟩;rintro r h ⟨A,dn,cp,y,N,z⟩;simp[z,y.get];refine gW k.gG.fI.length G (λs r h=>∃F,Sp9 h o A F/\F.length=s/\Lb 2 h 0 (dU 7 0 [k.t])/\Lb 2 h 1 pX/\TI.Y r 1=D (dY 0)/\TI.Y r 2=D (dY 1)/\TI.Y r 3=D (dY 2)/\TI.Y r 5=D (J s)) ?_ ?_ G ?_;rintro s r h al bT ⟨F,⟨ver,C,E,u⟩,aX,y,N,z⟩;have I:=u.get;simp at I;have⟨ee,h',av,v⟩:=(u.gr 5 rfl).mR (cx:=cx) (f:=T.int .i64) u.ok rO rfl Bb rfl V (λ_=>rfl) 0 dP;have⟨bA,dm,bC⟩:=u.app 5 rfl v;have⟨P,U⟩:=bC _ rfl;simp only[aR,bL,cS,cJ]at bA P U;simp[*,y.get,fD,v.1.iW,v.1.cells];exact⟨F++[0],⟨_,_,_,U⟩,dP,y.step P,N.step P⟩;rintro r h ⟨F,⟨ver,C,E,u⟩,aX,y,N,z⟩;simp[z,y.get];have I:=u.get;simp at I;have X:=u.gr 4 rfl;have Z:=u.gr 5 rfl;have b9:∀q,fa C=D q\/fa E=D q->3<=q/\q<h.size:=λq M=>by
   have bn:Fp h 2 q:=by
    rcases M with x|x;exact u.FA (f:=(C,some (1,iy A))) V x;exact u.FA (f:=(E,some (1,iy F))) V x
   refine⟨?_,u.fp q bn⟩;have ef:q≠0:=λx=>y.nf (x▸bn);have eh:q≠1:=λx=>N.nf (x▸bn);have e4:q≠2:=λx=>by
    subst x;rcases M with x|x
    have⟨_,_,_,_,O,_⟩:=X.box x;rw[I]at O;simp at O;have⟨_,_,_,_,O,_⟩:=Z.box x;rw[I]at O;simp at O
   omega
  have eM:=H.fN I;have eK:=X.iW;have eu:=X.cells;have eL:=Z.iW;have ey:=Z.cells;refine gW k.d8.length G (λs r h'=>∃ver Q aA W bs bp,Tt9 k o A F C E h.size s h' ver Q aA W bs bp/\TI.Y r 1=D (dY 0)/\TI.Y r 2=D (dY 1)/\TI.Y r 3=D (dY 2)/\TI.Y r 6=D (J s)) ?_ ?_ (by have:=R.2.1;have:=b7;omega) ?_;rintro s r h' al bT ⟨ver,Q,aA,W,bs,bp,i,z,cb⟩;have⟨m,eO,eP⟩:∃m:Nat,k.d8[s].j1=m/\m<=32:=⟨k.d8[s].j1.toNat,by have:=R.2.2 _ (aH al);have:=this.1;omega,by have:=R.2.2 _ (aH al);have:=this.2.1;omega⟩;have eB:m*8<=70368744177664:=G;have eC:m*24<=70368744177664:=G;have cv:=i.n;have ef:∀q,q<3->(q=h'.size)=False:=λq M=>by simp;omega
  have eh:∀q,q<3->(q=h'.size+1)=False:=λq M=>by simp;omega
  have b6:=i.ok;have eS:=b6.low;have okM:iS 0 ((h'.cons ⟨1,0,0,true,false,ao m (J 0)⟩).cons ⟨1,0,0,true,false,ao m dT⟩):=(b6.cons _).cons _;have aE:∀q,((h'.cons ⟨1,0,0,true,false,ao m (J 0)⟩).cons ⟨1,0,0,true,false,ao m dT⟩).get q=if q=h'.size+1 then some ⟨1,0,0,true,false,ao m dT⟩else if q=h'.size then some ⟨1,0,0,true,false,ao m (J 0)⟩else h'.get q:=λq=>by rw[fg,fg];rfl
  have b8:((h'.cons ⟨1,0,0,true,false,ao m (J 0)⟩).cons ⟨1,0,0,true,false,ao m dT⟩).size=h'.size+1+1:=rfl;have bu:Nb h' ((h'.cons ⟨1,0,0,true,false,ao m (J 0)⟩).cons ⟨1,0,0,true,false,ao m dT⟩):=⟨⟨okM.hp,okM.low,G⟩,λq M=>(aE q).trans ((aw G).trans (aw G))⟩;have ca:=i.th.g.mono (h':=(h'.cons ⟨1,0,0,true,false,ao m (J 0)⟩).cons ⟨1,0,0,true,false,ao m dT⟩) λq x=>bu.get q (by have⟨_,_,_,_,O,_⟩:=i.th.g.box x;exact H.fN O);have⟨S,L,av,v⟩:=ca.yA (cx:=cx) okM QJ rfl QG rfl V (x:= .eQ [J 0,.arr h'.size 0 0 m false,.arr (h'.size+1) 0 0 m false,J 0]) rfl (by have:=i.th.l;have:=i.l;have:=R.2.1;simp;omega);simp only[b8]at av;have eo:=v.2.2.2.sz;rw[b8]at eo;have ap:∀q,fa Q=D q->h.size<=q:=λq x=>(i.th.c q x).1;have gN:∀q,q<h'.size->fa Q≠some q->L.get q=h'.get q:=λq M c7=>(v.2.1 q G c7).trans (bu.get q M);have aN:∀q,q<3->L.get q=h'.get q:=λq M=>gN q G λx=>iH (ap q x);have p2:=(aN 2 G).trans i.b2;simp[*,i.b0,i.b2,v.1.iW,v.1.cells,fD];have dk:iS 0 L:=⟨v.2.2.2.hp,v.2.2.2.low,aB _⟩;have B:∀q,(fF L 2 (dU 7 (ver+1) [.eQ [sl (o.fQ.map fk.t),J o.tx,sl (o.done.map T.ej),sl (o.d8.map ew.t),C,E,S]])).get q=if q=2 then some (dU 7 (ver+1) [.eQ [sl (o.fQ.map fk.t),J o.tx,sl (o.done.map T.ej),sl (o.d8.map ew.t),C,E,S]])else L.get q:=λq=>ez p2 _ q;have de:=dk.put 2 (dU 7 (ver+1) [.eQ [sl (o.fQ.map fk.t),J o.tx,sl (o.done.map T.ej),sl (o.d8.map ew.t),C,E,S]]);have e5:(fF L 2 (dU 7 (ver+1) [.eQ [sl (o.fQ.map fk.t),J o.tx,sl (o.done.map T.ej),sl (o.d8.map ew.t),C,E,S]])).size=L.size:=iB ..;generalize fF L 2 _=aX at*
  have eR:ao m (T.int .i64 0)=iy (ao m 0):=by simp[iy]
  have ea:E0 h'.size (h'.size+1+1) ((h'.cons ⟨1,0,0,true,false,ao m (J 0)⟩).cons ⟨1,0,0,true,false,ao m dT⟩) (.arr h'.size 0 0 m false) (.arr (h'.size+1) 0 0 m false) (ao m dT) ⟨0,ao m 0,ao m [],0⟩:=by
   refine⟨.inr ⟨h'.size,0,0,true,_,V,(aE _).trans ((aw G).trans (ax rfl)),V⟩,.inr ⟨h'.size+1,0,0,true,_,V,(aE _).trans (ax rfl),V⟩,FM V λj a b a8 bi=>?_,λq x=>?_,λq x=>?_⟩;have c1:=bU (aD a8);have c4:=bU (aD bi);subst c1;subst c4;exact⟨.inr (Gr.nil _ _),V⟩;simp at x;subst x;exact⟨az _,G,V⟩;simp at x;subst x;exact⟨G,G⟩
  have ds:=(i.th.app i.n.2 bu ea v).mono (h':=aX) G λq z _=>(B q).trans (aw G);refine⟨ver+1,S,_,_,_,_,⟨de,⟨i.n.1,G⟩,(B 0).trans ((aw G).trans ((aN 0 G).trans i.b0)),(B 1).trans ((aw G).trans ((aN 1 G).trans i.b1)),(B 2).trans (ax rfl),i.gc.mono λq x=>?_,i.gf.mono λq x=>?_,i.bx,ds,by simp[i.l],λK ht=>?_⟩⟩;have:=i.bx q (.inl x);exact(B q).trans ((aw G).trans (gN q G λp=>iH (ap q p)));have:=i.bx q (.inr x);exact(B q).trans ((aw G).trans (gN q G λp=>iH (ap q p)));rcases List.mem_append.1 ht with q|q;exact i.t K q;simp at q;subst q;exact⟨⟨dP,dP,λbZ hl=>by have:=bU hl;subst this;exact Tn.nil _⟩,rfl⟩;rintro r h' ⟨ver,Q,aA,W,bs,bp,i,z,cb⟩;have bW:=i.b1;unfold pX at bW;have B:∀p q,(fF h' 1 p).get q=if q=1 then some p else h'.get q:=λp q=>ez bW p q;have cv:=i.n;have eF:∀p,TI.fz (fF h' 1 p) C=D (sl (iy A)):=λp=>(i.gc.mono (h':=fF h' 1 p) λq x=>by have:=i.bx q (.inl x);rw[B,aw G]).fz V;have eH:∀p,TI.fz (fF h' 1 p) E=D (sl (iy F)):=λp=>(i.gf.mono (h':=fF h' 1 p) λq x=>by have:=i.bx q (.inr x);rw[B,aw G]).fz V;have eI:∀p,TI.fz (fF h' 1 p) Q=D (sl (W.map gu.t)):=λp=>by
   have bN:=i.th.mono (h':=fF h' 1 p) (by rw[iB];exact az _) λq z _=>by rw[B,aw G]
   refine bN.g.MD (Vq:=λ_=>True) (d:=4) G (FM (by simp[bN.l]) λj x w dd an=>?_);rw[br]at an;obtain⟨ec,c9,rfl⟩:=Option.map_eq_some_iff.1 an;obtain⟨er,et,eE,rfl,eb⟩:=bN.e j x ec dd c9;exact .inr (.inr ⟨_,_,rfl,eb.fz _ λ_ _ _=>trivial,rfl⟩)
  simp[*,i.b0,i.b2,fD,i.ok.hp];have hl:=i.l;refine⟨⟨o,A,F,W⟩,rfl,⟨⟨by rw[a7.1];omega,by rw[a7.2.1];omega,by rw[a7.2.2];omega,dQ,dQ,dQ⟩,cL,cX,λK ht=>(i.t K ht).1⟩,λK ht=>iH (i.t K ht).2⟩;refine⟨ver,dT,[],[],λ_=>0,λ_=>0,⟨u.ok,⟨G,az _⟩,y.get,N.get,I,X,Z,b9,⟨Gr.nil _ _,rfl,V,V,V,V⟩,rfl,V⟩,by simp[z]⟩;exact⟨[],dn,rfl,y,N,by simp[z]⟩
  .generalize ae:H.cons _ _=bS;have di:iS 0 bS:=ae▸⟨V,V,V⟩;have bH:=oQ.start (h:=bS) (w:=2) (szw:=7) (ver:=1) (F:=[(sl (o.fQ.map fk.t),none),(J o.tx,none),(sl (o.done.map T.ej),none),(sl (o.d8.map ew.t),none),(dT,some (1,[])),(dT,some (1,[])),(dT,none)]) di (by rw[<-ae];simp) (λf bX=>by
    simp only[cz,cV,or_false]at bX;rcases bX with rfl|rfl|rfl|rfl|rfl|rfl|rfl
    iterate 4 exact .inl ⟨rfl,V⟩
    iterate 2 exact .inr ⟨rfl,1,rfl,dR⟩
    exact .inl ⟨rfl,rfl⟩)
   exact⟨[],⟨1,_,_,bH.1⟩,rfl,⟨by rw[<-ae];simp,λx=>absurd (bH.2 0 x) G⟩,⟨by rw[<-ae];simp[pX],λx=>absurd (bH.2 1 x) G⟩,V⟩
section
attribute [-simp] size_cons
structure IFr where
 (c:kU) (s:jH) (L:List io)
def aaB(a:IFr)(b:List T)(d:H):Prop:=b=[a.c.t,a.s.t,dT,sl (a.L.map io.t)]/\iS 0 d/\(∀e∈a.c.d8,e.kh.length<=10000001)/\StI a.s/\evB 0 a.s/\a.L.length<=80
def Uu(i:IFr)(h:List T)(c:H)(f:T)(d:H):Prop:=∃(a:List fR) (g:jH) (b:T),f= .tuple [b,g.t]/\Gr d b 7 (a.map fR.t)/\(∀e,fa b=D e->c.size<=e)/\Nb c d/\OV a/\a.length<=80
structure Fr9(c:kU)(h0:H)(n:Nat)(h:H)(s:jH)(l:List fR)(v:T)(ver:Nat):Prop where
 nb:Nb h0 h
 z:h0.size+3<=h.size
 b0:h.get h0.size=D (dU 7 0 [c.t])
 b1:h.get (h0.size+1)=D (dU 7 ver [s.t])
 b2:h.get (h0.size+1+1)=D pX
 g:Gr h v 7 (l.map fR.t)
 bx:∀q,fa v=D q->h0.size+3<=q
 st:StI s
 ev:evB n s
 es:OV l
 l:l.length<=n
def Fr9.ok{c:kU}{d a:H}{g:Nat}{h:jH}{f:List fR}{j:T}{k:Nat}(b:Fr9 c d g a h f j k):iS 0 a:=⟨b.nb.ok.hp,b.nb.ok.low,aB _⟩
def U8:(jS IFr aaB Uu).Ok prog cx 103:=by
 refine jz (tb:=⟨pt [(155,LE.jV)],ht []⟩) jk iX (js 68723687231 [(4,[(6,11),(6,12)])] func103) (λ_ _=>1005) (λi Q d bH=>by obtain⟨rfl,_⟩:=bH;simp[f103]) ?_;rintro⟨r,j,C⟩ _ c ⟨rfl,ae,U,X,T,bp⟩ o w
 dsimp at U X T bp
 simp at w;have N:=ae.hr;simp[f103,w];have cb:=ae.low;generalize p:((H.cons _ _).cons _).cons _=u;have cp:iS 0 u:=p▸((N.cons _).cons _).cons _;have c7:u.size=c.size+1+1+1:=by rw[<-p];rfl
 have bS:Nb c u:=p▸⟨((((Nb.refl N).cons _).cons _).cons _).ok,λr bs=>(((((Nb.refl N).cons _).cons _).cons _).get r bs).trans (iI c r)⟩;have b6:u.get c.size=D (dU 7 0 [r.t]):=by rw[<-p];simp
 have b7:u.get (c.size+1)=D (dU 7 0 [j.t]):=by rw[<-p];simp
 have b8:u.get (c.size+1+1)=D pX:=by rw[<-p];simp[pX]
 clear p;refine pU C.length (λm o d=>∃j x A n,Fr9 r c m d j x A n/\TI.Y o 4=D (dY c.size)/\TI.Y o 5=D (dY (c.size+1))/\TI.Y o 9=D (dY (c.size+1+1))/\TI.Y o 2=D A/\TI.Y o 3=D (sl (C.map io.t))/\TI.Y o 10=D (J m)) ?_ G (aB _) ?_;rintro m o d ca ⟨j,x,A,n,b,s⟩;have Z:=b.g.len (cx:=cx) d abk _ rfl;rw[aK]at Z;simp[s,Z];refine fG (λe=>?_) (λe=>?_);have bC:m<C.length:=by simp at e;exact e.1
 have bN:=b.z;have a7:evB 999000 j:=λO ht=>iH (b.ev O ht);obtain⟨_,⟨q,E,bW,rfl,bA,W⟩,R⟩:=LE.use (r,j,C[m]) ⟨U,b.st,a7⟩
 dsimp at R W
 have cv:(c.size=d.size)=False:=by simp<;>omega
 have cX:(c.size+1=d.size)=False:=by simp<;>omega
 have cL:(c.size=d.size+1)=False:=by simp<;>omega
 have c1:(c.size+1=d.size+1)=False:=by simp<;>omega
 simp[s,b.b0,b.b1,bC,R,b.ok.low];generalize F:fF _ (d.size+1) _=h;have M:iS 0 ((d.cons (dU 7 1 [q.t])).cons (dU 7 0 [.eQ [J 0,J 0,J 0,J 0,J 0,dT,dT]])):=(b.ok.cons _).cons _;have L:iS 0 h:=F▸M.put _ _;have b9:h.size=d.size+1+1:=by rw[<-F,iB];rfl
 have I:∀a,h.get a=if a=d.size+1 then some (dU 7 1 [E.t])else if a=d.size then some (dU 7 1 [q.t])else d.get a:=λa=>by
  rw[<-F,nT M.hp (by show _<d.size+1+1;omega)];split;rfl;rw[fg,aw (by assumption),fg]
 clear F M;have Go:∀a,a<d.size->h.get a=d.get a:=λa e=>(I a).trans ((aw G).trans (aw G));have a0:=(Go c.size G).trans b.b0;have a1:=(Go (c.size+1) G).trans b.b1;have a2:=(Go (c.size+1+1) G).trans b.b2;have an:=(I d.size).trans ((aw G).trans (ax rfl));have al:=(I (d.size+1)).trans (ax rfl);have gA:=b.g.mono (h':=h) λa f=>by have⟨_,_,_,_,a8,_⟩:=b.g.box f;exact Go a (H.fN a8)
 cases bW;simp[s,qI];rw[<-kz,kI G G];exact⟨m+1,G,G,j,x,A,⟨n,⟨⟨⟨L.hp,L.low,G⟩,λa e=>(Go a G).trans (b.nb.get a e)⟩,G,a0,a1,a2,gA,b.bx,b.st,λO ht=>iH (b.ev O ht),b.es,iH b.l⟩⟩,rfl,V⟩;have⟨bX,aX⟩:=W rfl;have bT:iS 0 (fF h (c.size+1) (dU 7 (n+1) [q.t])):=L.put _ _;have k:∀a,(fF h (c.size+1) (dU 7 (n+1) [q.t])).get a=if a=c.size+1 then some (dU 7 (n+1) [q.t])else h.get a:=λa=>ez a1 _ a;have c4:(fF h (c.size+1) (dU 7 (n+1) [q.t])).size=d.size+1+1:=by rw[iB];exact b9
 simp[s,an,a1];generalize fF h (c.size+1) _=S at*
 have ap:=(k c.size).trans ((aw G).trans a0);have av:=(k (c.size+1)).trans (ax rfl);have aA:=(k (c.size+1+1)).trans ((aw G).trans a2);have aE:=(k (d.size+1)).trans ((aw G).trans al);have bi:=gA.mono (h':=S) λa f=>(k a).trans (aw (iH (b.bx a f)));have⟨bZ,bn,aN,v⟩:=bi.mR (cx:=cx) bT V3 rfl V2 rfl V (λ_=>rfl) E (qN b.l);simp[s,aE,aN,qI];rw[<-kz,kI G G];have c6:=v.2.2.2.sz;have B:∀a,a<c.size+3->bn.get a=S.get a:=λa e=>v.2.1 a G λf=>iH (b.bx a f);exact⟨m+1,G,G,q,x++[E],bZ,⟨n+1,⟨⟨⟨v.2.2.2.hp,v.2.2.2.low,G⟩,λa e=>(B a G).trans ((k a).trans ((aw G).trans ((Go a G).trans (b.nb.get a e))))⟩,G,(B c.size G).trans ap,(B (c.size+1) G).trans av,(B (c.size+1+1) G).trans aA,v.1,λa f=>by
  rcases v.2.2.1 a f with y|y;exact b.bx a y;omega,bX,aX m b.ev,λQ w=>by
  rcases List.mem_append.1 w with y|y;exact b.es Q y;simp at y;subst y;exact bA,qN b.l⟩⟩,rfl,V⟩
 have K:=b.b2;unfold pX at K;have bN:=b.z;have k:∀y a,(fF d (c.size+1+1) y).get a=if a=c.size+1+1 then some y else d.get a:=λy a=>ez K y a;simp[s,b.b1,K,fD,k];have P:∀a,a≠c.size+1+1->(mF c (fF d (c.size+1+1) (dU 7 1 [j.t]))).get a=d.get a:=λa e=>by rw[iA,k,aw e]
 exact⟨x,j,A,rfl,b.g.mono λa f=>P a (iH (b.bx a f)),λa f=>iH (b.bx a f),⟨⟨((b.ok.put _ _).out c).hp,((b.ok.put _ _).out c).low,by rw[xn,iB];exact b.nb.ok.sz⟩,λa e=>(P a G).trans (b.nb.get a e)⟩,b.es,iH b.l⟩;exact⟨j,[],_,_,⟨bS,G,b6,b7,b8,Gr.nil _ _,V,X,T,λ_ h=>by simp at h,az _⟩,by simp[w]⟩
end
def aa4(a:H)(j:Nat):Prop:=∃i d e f c g h,∃b:List eY,a.get j=D (dU 6 i [.eQ [d,e,f,c,g,h]])/\Gr a c 11 (b.map eY.t)/\b.length<=1000000/\iS 0 a
def JL:mU:=⟨λd a=>∃b c e h,d=[dY b,J c,J e,.str h]/\aa4 a b,λ_ a g f=>f=a/\E8 g⟩
def U5:JL.Ok prog cx 255:=by
 refine Nv (tb:=⟨pt [],ht []⟩) jk iX (js 70368744310543 [] func255) false (λ_ _=>1000005) (λP b M=>by obtain⟨f,q,e,y,rfl,_⟩:=M;simp[f255]) ?_;rintro _ b ⟨f,q,e,y,rfl,ap,Q,R,S,s,T,U,g,l,i,hl,n⟩ d w;simp at w;have m:=H.fN l;simp[f255];refine gW g.length G (λj d c=>Fr b.size (hr b) c/\iS 0 c/\TI.Y d 0=D (dY f)/\TI.Y d 1=D (J q)/\TI.Y d 2=D (J e)/\TI.Y d 3=D (.str y)/\TI.Y d 9=D (J j)) ?_ ?_ G (by simp[w,Fr.refl,n.hr])
 .rintro j d c L I ⟨a,o,v,B,C,E,F⟩;have A:=(a.get f m).trans ((iI b f).trans l);have h:Gr c s 11 (g.map eY.t):=i.mono λe k=>by have⟨_,_,_,_,p,_⟩:=i.box k;rw[a.get e (H.fN p),iI]
  have K:j<(g.map eY.t).length:=iD L;have⟨z,W,av,X,aA,ae,al,N,O⟩:=h.CI (te:=K8) rfl K;have Z:=Nat.ne_of_lt (bO m a.size);simp at O;have an:(z=c.size)=False:=by simp;have:=H.fN N;omega
  simp[*,h.len (cx:=cx),o.low];have u:=a.trans (Fr.cons (lo:=b.size) (by have:b.size<=c.size:=a.size;omega) (dU 11 1 [g[j].t]))
  repeat' (refine fG (λx=>?_) (λx=>?_)<;>simp[x,v,B,C,E,F,I,u,o.cons])
  exact tR b _ _ n.hp u (r:= .ej true) rfl ⟨rfl,V⟩
 rintro d c ⟨a,o,v⟩;have A:=(a.get f m).trans ((iI b f).trans l);have h:Gr c s 11 (g.map eY.t):=i.mono λe k=>by have⟨_,_,_,_,p,_⟩:=i.box k;rw[a.get e (H.fN p),iI]
 simp[*,h.len (cx:=cx)];exact tR b _ _ n.hp a (r:= .ej false) rfl ⟨rfl,V⟩
structure Wk(p:iJ)(A:List eY)(n:Nat)(h:H)(w:Nat):Prop where
 ok:iS 0 h
 fp:∀b,Fp h w b->b<h.size
 ex:∃ver t av sv ev,∃S E:List (List Nat),h.get w=D (dU 6 ver [.eQ [sl (p.kr.map jp.t),sl (p.d8.map iQ.t),J t,av,sv,ev]])/\
  Gr h av 11 (A.map eY.t)/\Gr h sv 1 (S.map T.str)/\Gr h ev 1 (E.map T.str)/\S.length<=n/\E.length<=n/\∀b,fa sv=D b->fa ev≠some b
def Wk.ins{k:iJ}{a:List eY}{j:Nat}{b:H}{d:Nat}(c:Wk k a j b d)(i:a.length<=1000000):aa4 b d:=by have⟨l,o,e,sv,f,n,m,g,h,_⟩:=c.ex;exact⟨l,_,_,_,e,sv,f,a,g,h,i,c.ok⟩
def wG{c:H}{d:Nat}{a:jI}(f:c.get d=D a){v:T}(g:v∈ir a.gU){b:Nat}(e:fa v=D b):Fp c d b:= .inr ⟨a,f,v,g,e⟩
theorem d3{p:Prop}(h:p:=by simp[ir,T.cells]):p:=h
def Wk.same{m:iJ}{h:List eY}{l k:Nat}{c d:H}{g:Nat}(j:Wk m h l c g)(B:l<=k)(w:iS 0 d)(f:∀a,Fp c g a->d.get a=c.get a)(v:c.size<=d.size):Wk m h k d g:=by have⟨y,x,p,sv,q,o,n,e,r,s,t,z,A,u⟩:=j.ex;have i:=f g (.inl rfl);refine⟨w,λa b=>by rw[jN i]at b;exact bO (j.fp a b) v,y,x,p,sv,q,o,n,i▸e,?_,?_,?_,G,G,u⟩;exact r.mono λa b=>f a (wG e d3 b);exact s.mono λa b=>f a (wG e d3 b);exact t.mono λa b=>f a (wG e d3 b)
def Wk.lt{f:iJ}{c:List eY}{e:Nat}{b:H}{a:Nat}(d:Wk f c e b a):a<b.size:=d.fp a (.inl rfl)
theorem Wk.cons{e:iJ}{b:List eY}{d:Nat}{c:H}{w:Nat}(a:Wk e b d c w)(f:jI):Wk e b d (c.cons f) w:=
 a.same (az _) (a.ok.cons f) (λg h=>by rw[fg,aw (iH (a.fp g h))]) V 
def Wk.hr{e:iJ}{b:List eY}{d:Nat}{a:H}{f:Nat}(c:Wk e b d a f):Wk e b d (TI.hr a) f:=c.same (az _) c.ok.hr (λg _=>iI a g) (az _)
def Wk.out{e:iJ}{b:List eY}{d m:Nat}{h a:H}{f:Nat}(c:Wk e b d a f)(i:d<=m):Wk e b m (mF h a) f:=c.same i (c.ok.out h) (λg _=>iA h a g) (az _)
def Wk.spawn{a:iJ}{m:List eY}{k d h:Nat}{c f:H}{g:Int}{e sv b l:T}{j n:List (List Nat)}{w:List Nat}(u:Wk a m k c d)(o:c.get d=D (dU 6 h [.eQ [sl (a.kr.map jp.t),sl (a.d8.map iQ.t),J g,e,sv,b]]))
 (gA:Gr c e 11 (m.map eY.t)) (s:Gr c sv 1 (j.map T.str)) (C:Gr c b 1 (n.map T.str)) (I:j.length<=k) (K:n.length<=k) (B:∀r,fa sv=D r->fa b≠some r) (E:Fh c sv 1 (j.map T.str++[.str w]) l f):
 f.get d=D (dU 6 h [.eQ [sl (a.kr.map jp.t),sl (a.d8.map iQ.t),J g,e,sv,b]])/\gJ c f d/\
  Step d c (fF f d (dU 6 (h+1) [.eQ [sl (a.kr.map jp.t),sl (a.d8.map iQ.t),J g,e,l,b]]))/\
  Wk a m (k+1) (fF f d (dU 6 (h+1) [.eQ [sl (a.kr.map jp.t),sl (a.d8.map iQ.t),J g,e,l,b]])) d:=by
 have⟨p,F⟩:=AD (i:=4) u.ok u.fp o rfl dR s E.xt;have⟨q,z,A,v⟩:=F _ rfl;have⟨a1,a2⟩:=v e 11 _ V gA (s.ne gA dR) dR;have⟨x,y⟩:=v b 1 _ V C B dR;exact⟨p.trans o,il p,q,⟨q.ok.hp,q.ok.low,aB _⟩,z,h+1,g,e,l,b,j++[w],n,by rw[ez (p.trans o),ax rfl],a1,List.map_append▸A,x,dP,G,y⟩
def Wk.set{a:iJ}{o:List eY}{m c k:Nat}{b h:H}{j:Int}{d sv g n:T}{p l:List (List Nat)}{x:List Nat}(f:Wk a o m b c)(q:b.get c=D (dU 6 k [.eQ [sl (a.kr.map jp.t),sl (a.d8.map iQ.t),J j,d,sv,g]]))
 (gA:Gr b d 11 (o.map eY.t)) (E:Gr b sv 1 (p.map T.str)) (v:Gr b g 1 (l.map T.str)) (K:p.length<=m) (L:l.length<=m) (C:∀e,fa sv=D e->fa g≠some e) (F:Fh b g 1 (l.map T.str++[.str x]) n h):
 h.get c=D (dU 6 k [.eQ [sl (a.kr.map jp.t),sl (a.d8.map iQ.t),J j,d,sv,g]])/\gJ b h c/\
  Step c b (fF h c (dU 6 (k+1) [.eQ [sl (a.kr.map jp.t),sl (a.d8.map iQ.t),J j,d,sv,n]]))/\
  Wk a o (m+1) (fF h c (dU 6 (k+1) [.eQ [sl (a.kr.map jp.t),sl (a.d8.map iQ.t),J j,d,sv,n]])) c:=by
 have⟨s,I⟩:=AD (i:=5) f.ok f.fp q rfl dR v F.xt;have⟨u,A,B,w⟩:=I _ rfl;have⟨a1,a2⟩:=w d 11 _ V gA (v.ne gA dR) dR;have⟨y,z⟩:=w sv 1 _ V E (λe r f=>C e f r) dR;exact⟨s.trans q,il s,u,⟨u.ok.hp,u.ok.low,aB _⟩,A,k+1,j,d,sv,n,p,l++[x],by rw[ez (s.trans q),ax rfl],a1,y,List.map_append▸B,G,dP,λe r f=>z e f r⟩
def Wk.adx{a:iJ}{h:List eY}{k d g:Nat}{c e:H}{f:Int}{j sv b l:T}{n m:List (List Nat)}{x:eY}(v:Wk a h k c d)(o:c.get d=D (dU 6 g [.eQ [sl (a.kr.map jp.t),sl (a.d8.map iQ.t),J f,j,sv,b]]))
 (gA:Gr c j 11 (h.map eY.t)) (u:Gr c sv 1 (n.map T.str)) (s:Gr c b 1 (m.map T.str)) (B:n.length<=k) (C:m.length<=k) (E:∀r,fa sv=D r->fa b≠some r) (F:Fh c j 11 (h.map eY.t++[x.t]) l e):
 e.get d=D (dU 6 g [.eQ [sl (a.kr.map jp.t),sl (a.d8.map iQ.t),J f,j,sv,b]])/\gJ c e d/\
  Step d c (fF e d (dU 6 (g+1) [.eQ [sl (a.kr.map jp.t),sl (a.d8.map iQ.t),J f,l,sv,b]]))/\
  Wk a (h++[x]) k (fF e d (dU 6 (g+1) [.eQ [sl (a.kr.map jp.t),sl (a.d8.map iQ.t),J f,l,sv,b]])) d:=by
 have⟨p,I⟩:=AD (i:=3) v.ok v.fp o rfl dR gA F.xt;have⟨q,z,A,w⟩:=I _ rfl;have⟨a1,a2⟩:=w sv 1 _ V u (gA.ne u dR) dR;have⟨y,K⟩:=w b 1 _ V s (gA.ne s dR) dR;exact⟨p.trans o,il p,q,⟨q.ok.hp,q.ok.low,aB _⟩,z,g+1,f,l,sv,b,n,m,by rw[ez (p.trans o),ax rfl],List.map_append▸A,a1,y,B,C,E⟩
def Wk.back{b:iJ}{p:List eY}{o i k:Nat}{d:H}{j:Int}{m sv f h:T}{r q:List (List Nat)}{K:eY}(g:Wk b (p++[K]) o d i)(c:d.get i=D (dU 6 k [.eQ [sl (b.kr.map jp.t),sl (b.d8.map iQ.t),J j,m,sv,f]]))
 (F:Gr d sv 1 (r.map T.str)) (E:Gr d f 1 (q.map T.str)) (A:r.length<=o) (B:q.length<=o) (C:∀e,fa sv=D e->fa f≠some e) (gA:Gr d h 11 (p.map eY.t)) (n:fa h=fa m):
   Step i d (fF d i (dU 6 (k+1) [.eQ [sl (b.kr.map jp.t),sl (b.d8.map iQ.t),J j,h,sv,f]]))/\
   Wk b p o (fF d i (dU 6 (k+1) [.eQ [sl (b.kr.map jp.t),sl (b.d8.map iQ.t),J j,h,sv,f]])) i:=by
 have w:=Step.put g.ok c (dU 6 (k+1) [.eQ [sl (b.kr.map jp.t),sl (b.d8.map iQ.t),J j,h,sv,f]]) (λv l e a=>by
  simp[ir,T.cells]at l;rcases l with rfl|rfl|rfl|rfl|rfl|rfl
  simp at a;simp at a;simp at a;exact .inl (wG c (v:=m) d3 (n▸a));exact .inl (wG c (v:=v) d3 a);exact .inl (wG c (v:=v) d3 a))
 have u:∀{v:T} {x:Nat} {y:List T},Gr d v x y->x≠6->Gr (fF d i (dU 6 (k+1) [.eQ [sl (b.kr.map jp.t),sl (b.d8.map iQ.t),J j,h,sv,f]])) v x y:=λz I=>z.mono λe n=>by
  have⟨_,_,_,_,a,_⟩:=z.box n;rw[ez c,aw (λg=>by subst g;rw[c]at a;simp at a;exact I a.1.symm)]
 refine⟨w,⟨w.ok.hp,w.ok.low,aB _⟩,λe a=>?_,k+1,j,h,sv,f,r,q,by rw[ez c,ax rfl],u gA dR,u F dR,u E dR,A,B,C⟩;rw[iB];rcases a with rfl|⟨L,s,v,l,a⟩
 exact g.lt;rw[ez c,ax rfl]at s;cases s;simp[ir,T.cells]at l;rcases l with rfl|rfl|rfl|rfl|rfl|rfl
 simp at a;simp at a;simp at a;exact g.fp e (wG c (v:=m) d3 (n▸a));exact g.fp e (wG c (v:=v) d3 a);exact g.fp e (wG c (v:=v) d3 a)
def Wk.eG{b:iJ}{n:List eY}{m h k:Nat}{d:H}{K:Int}{f sv e:T}{p o:List (List Nat)}(l:Wk b n m d h)(g:d.get h=D (dU 6 k [.eQ [sl (b.kr.map jp.t),sl (b.d8.map iQ.t),J K,f,sv,e]]))
 (gA:Gr d f 11 (n.map eY.t)) (E:Gr d sv 1 (p.map T.str)) (C:Gr d e 1 (o.map T.str)) (z:p.length<=m) (A:o.length<=m) (B:∀c,fa sv=D c->fa e≠some c) (j:Int):
   Step h d (fF d h (dU 6 (k+1) [.eQ [sl (b.kr.map jp.t),sl (b.d8.map iQ.t),J j,f,sv,e]]))/\
   Wk b n m (fF d h (dU 6 (k+1) [.eQ [sl (b.kr.map jp.t),sl (b.d8.map iQ.t),J j,f,sv,e]])) h:=by
 have y:∀v∈ [sl (b.kr.map jp.t),sl (b.d8.map iQ.t),J j,f,sv,e],∀c,fa v=D c->Fp d h c:=λv i c a=>by
  simp at i;rcases i with rfl|rfl|rfl|rfl|rfl|rfl
  simp at a;simp at a;simp at a;exact wG g (v:=v) d3 a;exact wG g (v:=v) d3 a;exact wG g (v:=v) d3 a
 have s:=Step.put l.ok g (dU 6 (k+1) [.eQ [sl (b.kr.map jp.t),sl (b.d8.map iQ.t),J j,f,sv,e]]) (λv i c a=> .inl (y v (by simpa[ir,T.cells]using i) c a));have r:∀{v:T} {u:Nat} {w:List T},Gr d v u w->u≠6->Gr (fF d h (dU 6 (k+1) [.eQ [sl (b.kr.map jp.t),sl (b.d8.map iQ.t),J j,f,sv,e]])) v u w:=λx I=>x.mono λc F=>by
  have⟨_,_,_,_,a,_⟩:=x.box F;rw[ez g,aw (λl=>by subst l;rw[g]at a;simp at a;exact I a.1.symm)]
 refine⟨s,⟨s.ok.hp,s.ok.low,aB _⟩,λc a=>?_,k+1,j,f,sv,e,p,o,by rw[ez g,ax rfl],r gA dR,r E dR,r C dR,z,A,B⟩;rw[iB];rcases a with rfl|⟨L,q,v,i,a⟩
 exact l.lt;rw[ez g,ax rfl]at q;cases q;exact l.fp c (y v (by simpa[ir,T.cells]using i) c a)
structure adE where
 (p:iJ) (A:List eY) (n w:Nat) (s:eY)
def abJ(a:adE)(c:List T)(d:H):Prop:=c=[dY a.w,a.s.t]/\Wk a.p a.A a.n d a.w/\XQ a.p/\a.n<=10000000/\a.s.w<=1000000/\a.A.length<=1000000/\
 (9<=a.s.op/\a.s.op<=11->∃b,b<a.p.kr.length/\vN (a.p.kr.map jp.name) a.s.name 0=b)
def PY(a:adE)(e:List T)(c:H)(d:T)(b:H):Prop:=Ia d/\Step a.w c b/\Wk a.p a.A (a.n+1) b a.w
noncomputable abbrev afG:mU:=jS adE abJ PY
def af1:afG.Ok prog cx 213:=by
 obtain⟨H,bX⟩:=hlB U5 (λ_ _ _ _ o=>o);refine jz (tb:=⟨pt [(257,DT.jV),(258,GM.jV),(256,abW.jV),(259,IT.jV),(151,Gt),(211,qm),(212,nN)],ht [(255,JL)]⟩) jk iX (js 14474012017383023515249485065460760621927424225494418519668988771800801378299 [(1,[(7,9)]),(8,[(4,5),(4,8)]),(9,[(4,5),(4,8),(4,9),(4,10),(4,12),(11,12),(4,15),(11,15)]),(28,[(2,7)]),(49,[(4,5),(4,8)])] func213) (λ_ _=>5) (λi l h b7=>by obtain⟨rfl,_⟩:=b7;simp[f213]) ?_;rintro⟨d,A,n,f,a⟩ _ h ⟨rfl,k,u,b6,b8,ap,aE⟩ eB av
 dsimp at k u b6 b8 ap aE
 simp at av;obtain⟨bW,ec⟩:=av;have s:=(k.hr.cons (dU 11 0 [a.t])).cons (dU 2 1 [d.t]);have c1:Step f h (mF h (((hr h).cons (dU 11 0 [a.t])).cons (dU 2 1 [d.t]))):=
  ((Step.cons k.ok.hr k.lt _).trans (Step.cons (k.hr.cons _).ok (k.hr.cons _).lt _)).out
 have cX:Step f (hr h) (((hr h).cons (dU 11 0 [a.t])).cons (dU 2 1 [d.t])):=(Step.cons k.ok.hr k.lt _).trans (Step.cons (k.hr.cons _).ok (k.hr.cons _).lt _);have c6:=s.out (h:=h) (m:=n+1) G;have I:∀o:Int,9<=o/\o<=11->decide (a.op=o)->∃m:Nat,m<d.kr.length/\vN (d.kr.map jp.name) a.name 0=m:=λo ee K=>aE (by simp at K;omega);have bZ:=λ{tb:ik} (ht:tb.h 255=D JL) l b w=>bX ht [dY f,J l,J b,.str w] _ ⟨f,l,b,w,rfl,s.ins ap⟩;have et:=k.lt;have eo:(f=h.size)=False:=dP;have er:(f=h.size+1)=False:=dP;have bS:(((hr h).cons (dU 11 0 [a.t])).cons (dU 2 1 [d.t])).get f=h.get f:=by simp[*]
 obtain⟨eA,w,bn,sv,bH,S,E,C,gA,an,al,X,Y,Z⟩:=s.ex;have bN:=bS.symm.trans C;have eb:=an.qY V;have ea:=al.qY V;have dn:=λ{tb:ik} (h:tb.p 151=D Gt) x=>Tu h S x G;have dm:=λ{tb:ik} (h:tb.p 151=D Gt) x=>Tu h E x G;obtain⟨Nw,L⟩:=DT.fnI (λc:List Nat×Int×Int=>(d,w,c)) (λ_=>u);have L:=λ{tb:ik} (ht:tb.p 257=D DT.jV) x l b=>L ht (x,l,b);obtain⟨c7,bA⟩:=IT.fnI (λb:Bool=>b) (λ_=>trivial);have bC:∀{tb:ik},tb.p 256=D abW.jV->∀l b,rl prog cx tb 256 [J l,J b]=D (J (if l=0 then b else l)):=λht l b=>by
  obtain⟨_,rfl,K⟩:=abW.use (l,b) trivial;exact K ht
 have b9:=a.nG;obtain⟨_,⟨eu,rfl⟩,bu⟩:=GM.use (d,w,a.e) ⟨u,dQ⟩;have eT:=λ{tb:ik} (h:tb.p 212=D nN) x=>AN h d.d8 x (iH u.2.1);have bs:=λ{tb:ik} (h:tb.p 211=D qm) x=>FJ h d.kr x (iH u.1);simp[*,f213];have R:(((hr h).cons (dU 11 0 [a.t])).cons (dU 2 1 [d.t])).get h.size=D (dU 11 0 [a.t]):=V;have U:(((hr h).cons (dU 11 0 [a.t])).cons (dU 2 1 [d.t])).get (h.size+1)=D (dU 2 1 [d.t]):=V;have aX:(((hr h).cons (dU 11 0 [a.t])).cons (dU 2 1 [d.t])).size=h.size+2:=V;generalize(((hr h).cons (dU 11 0 [a.t])).cons (dU 2 1 [d.t]))=j at*
 generalize H [T.eZ f 0 0 0,T.int IntKind.i64 7,T.int IntKind.i64 7,T.str []] j=c9;generalize H [T.eZ f 0 0 0,T.int IntKind.i64 8,T.int IntKind.i64 8,T.str []] j=dd;generalize H [T.eZ f 0 0 0,T.int IntKind.i64 3,T.int IntKind.i64 3,T.str []] j=de;have M:=(show(j.cons (dU 1 0 [.str a.name])).get f=j.get f from by rw[fg,aw G]).trans C;have F:=s.cons (dU 1 0 [.str a.name]);have a8:=cX.trans (Step.cons s.ok s.lt (dU 1 0 [.str a.name]));have P:∀{v:T} {bi:Nat} {W:List T},v=bn\/v=sv\/v=bH->Gr j v bi W->Gr (j.cons (dU 1 0 [.str a.name])) v bi W:=λca g=>g.mono λb aA=>by
  have:b<j.size:=s.fp b (wG C (v:=_) (by rcases ca with rfl|rfl|rfl<;>simp[ir,T.cells]) aA);rw[fg,aw G]
 have O:=P V an;have N:=P V al;have ae:=P V gA
 repeat' (refine fG (λq=>?_) (λq=>?_)<;>simp[q,bW,C,R,U,bZ,L,bA,bC,bu,eT,bs,PY,c1,c6])
 rcases aN:a.index with _|⟨x,r⟩;rename_i q;simp[aN]at q;obtain⟨_,⟨ey,rfl⟩,ds⟩:=GM.use (d,w,x) ⟨u,by simp only;rw[aN,fy.lq]at b9;omega⟩;simp[*]
 iterate 3
  obtain⟨m,ef,eh⟩:∃m,m<d.kr.length/\vN (d.kr.map jp.name) a.name 0=m:=by first|exact I 9 G (by assumption)|exact I 10 G (by assumption)|exact I 11 G (by assumption)
  simp[*]
 simp[*];refine fG (λq=>?_) (λq=>?_);simp[*];obtain⟨c4,bT,bp,y⟩:=O.app (cx:=cx) F.ok (x:= .arr (h.size+2) 0 0 1 false) (xs:=[.str a.name]) un rfl xL un rfl rfl V (by rw[iU];simp[aX]) d1 V dP;obtain⟨cp,cb,B,Q⟩:=F.spawn M ae O N X Y Z y;have z:=y.gr;have cv:=(a8.trans B).out;have cL:=Q.out (h:=h) (az _);simp[*,z.iW,z.cells,fD];obtain⟨c4,bT,bp,y⟩:=N.app (cx:=cx) F.ok (x:= .arr (h.size+2) 0 0 1 false) (xs:=[.str a.name]) un rfl xL un rfl rfl V (by rw[iU];simp[aX]) d1 V dP;obtain⟨cp,cb,B,Q⟩:=F.set M ae O N X Y Z y;have z:=y.gr;have cv:=(a8.trans B).out;have cL:=Q.out (h:=h) (az _);have a7:∀b,h.size<=b->¬Fp (j.cons (dU 1 0 [.str a.name])) f b:=λb aA o=>by rw[jN (M.trans bN.symm)]at o;have:=k.fp b o;omega
 have di:=(B.get h.size dP (a7 _ (az _))).trans ((show(j.cons (dU 1 0 [.str a.name])).get h.size=j.get h.size by rw[fg,aw G]).trans R);have dk:=(B.get (h.size+1) dP (a7 _ G)).trans ((show(j.cons (dU 1 0 [.str a.name])).get (h.size+1)=j.get (h.size+1)by rw[fg,aw G]).trans U);simp[*];refine fG (λq=>?_) (λq=>?_)<;>simp[*,z.iW,z.cells,fD]
structure Py where
 (p:iJ) (A:List eY) (n w:Nat) (l:List eY)
def JQ(a:Py)(c:List T)(d:H):Prop:=c=[dY a.w,sl (a.l.map eY.t)]/\Wk a.p a.A a.n d a.w/\XQ a.p/\a.n+eY.ws a.l<=10000000/\eY.ws a.l<=1000000/\a.A.length<=6/\(∀e∈a.l,MS e)/\
 ∃b,b<a.p.kr.length/\vN (a.p.kr.map jp.name) [99] 0=b
def Cw(a:Py)(e:List T)(c:H)(d:T)(b:H):Prop:=Mn d/\Step a.w c b/\Wk a.p a.A (a.n+eY.ws a.l) b a.w
def WS(z:Nat)(bT:(jS Py (λf a m=>JQ f a m/\eY.ws f.l<z) Cw).Ok prog cx 172):(jS Py (λf a m=>JQ f a m/\eY.ws f.l<z+1) Cw).Ok prog cx 172:=by
 refine jz (tb:=⟨pt [],ht [(213,afG),(172,jS Py (λf a m=>JQ f a m/\eY.ws f.l<z) Cw)]⟩) jk iX (js 151115745466229840684019 [(10,[(8,12),(9,12)])] func172) (λ_ _=>1000005) (λf a m dn=>by obtain⟨⟨rfl,_⟩,_⟩:=dn;simp[f172]) ?_;rintro⟨H,c,n,j,l⟩ _ m ⟨⟨rfl,a8,O,dm,eb,de,bA,N⟩,dk⟩ A bC
 dsimp at a8 O dm eb de bA N dk
 simp at bC;have hl:=eY.yi (l:=l);simp[f172];refine gW l.length G (λz A F=>Step j (hr m) F/\Wk H c (n+eY.ws (l.take z)) F j/\TI.Y A 0=D (dY j)/\TI.Y A 1=D (sl (l.map eY.t))/\TI.Y A 6=D (J z)) ?_ ?_ G (by simp[bC,eY.jX,a8.hr,Step.refl a8.ok.hr]);rintro f A F aA bH ⟨aN,s,i⟩;have bS:=eY.Jz l aA;have eH:=eY.Bi l (f+1);have aE:=bA l[f] (aH aA);simp[i,aA,s.ok.low];generalize l[f]=d at*
 have eF:=d.nG;refine jl af1 V ⟨H,c,n+eY.ws (l.take f),j,d⟩ ⟨rfl,s.cons _,O,dQ,dQ,dQ,λq=>by simp only;rw[aE.cond q];exact N⟩ ?_;rintro _ p ⟨⟨e,rfl⟩,aX,k⟩
 dsimp at aX k
 have l7:=(Lb.new s.lt s.fp (dU 11 1 [d.t])).step aX;have b6:=(aN.trans (Step.cons s.ok s.lt _)).trans aX;have⟨eO,eN,cb,sv,cv,S,E,K,gA,c9,c7,c1,c4,c6⟩:=k.ex;have bu:∀r,Mn r->Cw ⟨H,c,n,j,l⟩ [dY j,sl (l.map eY.t)] m r (mF m p):=λr hr=>⟨hr,b6.out,k.out dQ⟩;have an:=jf (a:=(c.length:Int)) (b:=1) G G;simp[i,K,gA.len (cx:=cx),an];refine fG (λo=>?_) (λo=>?_);simp[l7.get];exact bu _ V;have eD:c.length<=5:=by simp at o;omega
 simp;refine fG (λo=>?_) (λo=>?_);simp[l7.get];exact bu _ V;have eI:(j=p.size)=False:=by simp;have:=k.lt;omega
 have eC:(F.size=p.size)=False:=by simp;have:=l7.lt;omega
 have b8:=k.cons (dU 11 0 [.eQ [J 0,J 0,.str [],.str [],dT,J 0,J 0,.str [],dT,dT,dT]]);have ee:=b6.trans (Step.cons k.ok k.lt (dU 11 0 [.eQ [J 0,J 0,.str [],.str [],dT,J 0,J 0,.str [],dT,dT,dT]]));have cX:=(show(p.cons (dU 11 0 [.eQ [J 0,J 0,.str [],.str [],dT,J 0,J 0,.str [],dT,dT,dT]])).get j=p.get j by rw[fg,aw (iH k.lt)]).trans K;have L:∀{v:T} {b7:Nat} {bs:List T},v=cb\/v=sv\/v=cv->Gr p v b7 bs->Gr (p.cons (dU 11 0 [.eQ [J 0,J 0,.str [],.str [],dT,J 0,J 0,.str [],dT,dT,dT]])) v b7 bs:=λea g=>g.mono λb an=>by
  have:b<p.size:=k.fp b (wG K (v:=_) (by rcases ea with rfl|rfl|rfl<;>simp[ir,T.cells]) an);rw[fg,aw G]
 have⟨Q,eB,bp,bn⟩:=(L V gA).app (cx:=cx) b8.ok (x:= .arr p.size 0 0 1 false) (xs:=[.eQ [J 0,J 0,.str [],.str [],dT,J 0,J 0,.str [],dT,dT,dT]]) CX rfl CW CX rfl rfl V d4 d1 V dP;obtain⟨b,ey,eP,eA,rfl,M,eE⟩:=id bn;have a2:=bn.set M c.length d.t;have ds:(List.map eY.t c++[T.eQ [J 0,J 0,.str [],.str [],dT,J 0,J 0,.str [],dT,dT,dT]]).set c.length d.t=List.map eY.t c++[d.t]:=V;rw[ds]at a2;simp[aY,aK,aZ,cW]at a2 bp;have⟨P,eM,bX,ec⟩:=b8.adx cX (L V gA) (L V c9) (L V c7) c1 c4 c6 a2;have bN:b≠j:=λq=>by subst q;rw[ez M,ax rfl]at P;simp at P
 have bW:=(l7.step (Step.cons k.ok k.lt _)).step bX;simp[i,K,l7.get,gA.len (cx:=cx),bp,M,fD,P,EB P _ bN,EB M _ (bE bN),bW.get];refine jl bT V ⟨H,c++[d],n+eY.ws (l.take f)+1,j,d.body⟩ ⟨⟨rfl,ec,O,dQ,dQ,dP,aE.bd,N⟩,dQ⟩ ?_;rintro _ dd ⟨⟨et,eK,rfl⟩,a7,bi⟩
 dsimp at a7 bi
 have ef:=ee.trans bX;have l4:=bW.step a7;have Ld:=ef.trans a7;simp;refine fG (λo=>?_) (λo=>?_);simp[i,l4.get];refine jl bT V ⟨H,c++[d],n+eY.ws (l.take f)+1+eY.ws d.body,j,d.SS⟩ ⟨⟨rfl,bi,O,dQ,dQ,dP,aE.el,N⟩,dQ⟩ ?_;rintro _ al ⟨⟨eu,eL,rfl⟩,bZ,B⟩
 dsimp at bZ B
 replace Ld:=Ld.trans bZ;simp[i];have⟨er,eo,cp,eh,cL,ca,b9,u,C,ae,Z,U,W,X⟩:=B.ex;have⟨Q,R,h,ap⟩:=C.cut (cx:=cx) (ty:=PM) (te:=K8) rfl CW rfl (n:=c.length) V V;have h:Gr al Q 11 (c.map eY.t):=by rw[List.map_append,dg V]at h;rwa[bR V]at h
 have⟨I,y⟩:=B.back u ae Z U W X h ap;have di:(c++[d]).length=c.length+1:=V;have w:=lK (a:=((c++[d]).length:Int)) (b:=1) G G;have av:((c++[d]).length:Int)-1=(c.length:Int):=V;rw[av]at w;simp[i,u,C.len (cx:=cx)];simp at w;simp[w,R,h.iW,h.cells,fD,u];refine fG (λo=>?_) (λo=>?_);simp;exact⟨V,(Ld.trans I).out,y.out dQ⟩;simp[i,bH];exact⟨Ld.trans I,bS▸y.same G y.ok (λ_ _=>rfl) (az _)⟩;have B:=bi;generalize dd=al at*
 simp[i];have⟨er,eo,cp,eh,cL,ca,b9,u,C,ae,Z,U,W,X⟩:=B.ex;have⟨Q,R,h,ap⟩:=C.cut (cx:=cx) (ty:=PM) (te:=K8) rfl CW rfl (n:=c.length) V V;have h:Gr al Q 11 (c.map eY.t):=by rw[List.map_append,dg V]at h;rwa[bR V]at h
 have⟨I,y⟩:=B.back u ae Z U W X h ap;have di:(c++[d]).length=c.length+1:=V;have w:=lK (a:=((c++[d]).length:Int)) (b:=1) G G;have av:((c++[d]).length:Int)-1=(c.length:Int):=V;rw[av]at w;simp[i,u,C.len (cx:=cx)];simp at w;simp[w,R,h.iW,h.cells,fD,u];refine fG (λo=>?_) (λo=>?_);simp;exact⟨V,(Ld.trans I).out,y.out dQ⟩;simp[i,bH];exact⟨Ld.trans I,bS▸y.same G y.ok (λ_ _=>rfl) (az _)⟩;rintro A F ⟨aN,s,i⟩;rw[aM]at s;simp[i];exact⟨V,aN.out,s.out (az _)⟩
def IV:pI prog cx 169 (λa:List jp=>[sl (a.map jp.t)]) (λa=>a.length<=1000000) (λ_=>Mn):=by
 refine j2 [(211,qm)] (js 1242795222330225588904675325 [] func169) (λK=>1000005) (λB C c=>j3 (λ_ _=>jp.inj) (iD c)) ?_;rintro a hl b r;simp at r;simp[f169];refine gW a.length G (λx b c=>iS 0 c/\TI.Y b 0=D (sl (a.map jp.t))/\(∃d,TI.Y b 4=D (J d))/\(∃d,TI.Y b 5=D (J d))/\(∃d,TI.Y b 6=D (J d))/\(∃d,TI.Y b 7=D (J d))/\TI.Y b 8=D (J x)) ?_ ?_ G (by simp[r];exact⟨V,V,V⟩)
 .rintro g b c k s ⟨e,i,⟨E,m⟩,⟨F,n⟩,⟨H,o⟩,⟨I,q⟩,j⟩;have l:=λ{z:ik} (c:z.p 211=D qm) A=>FJ c (a.take g) A (by rw[List.length_take];omega);simp[*,e.low,bP k];rcases KT ((a.take g).map jp.name) a[g].on 0 with h|⟨y,v,h⟩
  .generalize a[g]=u at*
   repeat' (refine fG (λf=>?_) (λf=>?_)<;>simp[f,i,m,n,o,q,j,e.hp,e.cons,l,bP k,qI,s,h])
  .simp at v h;have w:y<a.length:=G;generalize a[g]=u at*
   repeat' (refine fG (λf=>?_) (λf=>?_)<;>simp[f,i,m,n,o,q,j,e.hp,e.cons,l,bP k,qI,s,h,w])
 rintro b c ⟨e,i,_,_,_,_,j⟩;simp[*,e.hp]
def LG(a:iJ):Prop:=XQ a/\(a.d8.map λb=>eY.ws b.body).sum<=1000000/\(∀b∈a.d8,∀d∈b.body,MS d)/\∃c,c<a.kr.length/\vN (a.kr.map jp.name) [99] 0=c
def tu(a:List iQ):Nat:=(a.map λb=>eY.ws b.body).sum
def kY:pI prog cx 110 (λa:iJ=>[a.t]) LG (λ_=>Mn):=by
 have aN:=yE (λi:Py=>eY.ws i.l) WS 1000001;refine yF (tb:=⟨pt [(168,LF.jV),(169,IV.jV),(170,EK.jV),(171,Qd.jV)],ht [(172,jS Py (λi y b=>JQ i y b/\eY.ws i.l<1000001) Cw)]⟩) jk iX (js 19342850151455133005856767 [] func110) (λa=>1000005) (λy j b=>by simp at b;exact iJ.inj b) V nl9 ?_;rintro a ⟨m,aA,al,an⟩ d B;simp at B;obtain⟨_,⟨bi,rfl⟩,M⟩:=LF.use a m;obtain⟨_,⟨bA,bH,rfl⟩,N⟩:=IV.use a.kr m.1;obtain⟨_,⟨bC,bN,rfl⟩,O⟩:=EK.use a m;have hl:=m.2.1;simp[f110,B,M];refine fG (λf=>?_) (λf=>?_);simp;simp[N];refine fG (λf=>?_) (λf=>?_);simp;simp;refine fG (λf=>?_) (λf=>?_);simp;simp[O];refine fG (λf=>?_) (λf=>?_);simp;simp;refine gW a.d8.length G (λn d b=>b=hE.cons (dU 2 0 [a.t])/\TI.Y d 1=D (dY 0)/\(∃p,TI.Y d 8=D (J p))/\TI.Y d 9=D (J n)) ?_ ?_ G V;rintro i d b k u ⟨rfl,g,⟨p,r⟩,s⟩;obtain⟨_,⟨c,rfl⟩,P⟩:=Qd.use a.d8[i].body (iH (m.2.2 _ (aH k)).2);simp[g,r,s,k,P,qI,u];rintro d b ⟨rfl,g,⟨p,r⟩,s⟩;simp[g,r,s];refine fG (λf=>?_) (λf=>?_);simp;simp[g];have av:∀{i:Nat} (H:i<a.d8.length),tu (a.d8.take (i+1))=tu (a.d8.take i)+eY.ws a.d8[i].body:=λ{i} H=>by
  unfold tu;rw[aT H,List.map_append,List.sum_append];simp
 have ap:∀i,tu (a.d8.take i)<=1000000:=λi=>by
  have:tu a.d8<=1000000:=aA;have ae:tu a.d8=tu (a.d8.take i)+tu (a.d8.drop i):=by unfold tu;rw[<-List.sum_append,<-List.map_append,da]
  omega
 refine gW a.d8.length G (λn d b=>Wk a [] (tu (a.d8.take n)) b 1/\Lb 1 b 0 (dU 2 0 [a.t])/\TI.Y d 1=D (dY 0)/\TI.Y d 10=D (dY 1)/\TI.Y d 11=D (J n)) ?_ ?_ G ?_;rintro i d b k u ⟨q,o,g⟩;have Z:=av k;have bp:=ap (i+1);have⟨bu,bs,a8,sv,bn,S,E,A,gA,X,W,Q,R,U⟩:=q.ex;have⟨aX,a7⟩:=q.eG A gA X W Q R U i;have K:=o.step aX;simp[o.get,g,k,A,fD,K.get];refine jl aN V ⟨a,[],tu (a.d8.take i),1,a.d8[i].body⟩ ⟨⟨rfl,a7,m,dQ,dQ,V,al _ (aH k),an⟩,dQ⟩ ?_;rintro _ ae ⟨⟨e,p,rfl⟩,L,x⟩
 dsimp at L x
 have aE:=K.step L;simp;refine fG (λf=>?_) (λf=>?_);simp[x.ok.hp];simp[g,u];exact⟨Z▸x,aE⟩;rintro d b ⟨q,o,g⟩;simp[o.get,g,q.ok.hp];have F:((hE.cons (dU 2 0 [a.t])).cons (dU 6 0 [.eQ [sl (a.kr.map jp.t),sl (a.d8.map iQ.t),J 0,dT,dT,dT]])).get 1=D (dU 6 0 [.eQ [sl (a.kr.map jp.t),sl (a.d8.map iQ.t),J 0,dT,dT,dT]]):=V;have C:∀j,Fp ((hE.cons (dU 2 0 [a.t])).cons (dU 6 0 [.eQ [sl (a.kr.map jp.t),sl (a.d8.map iQ.t),J 0,dT,dT,dT]])) 1 j->j=1:=λj h=>by
  rcases h with rfl|⟨z,w,v,I,h⟩;rfl;rw[F]at w;cases w;simp[ir,T.cells]at I;rcases I with rfl|rfl|rfl|rfl|rfl|rfl<;>simp at h
 simp[g];exact⟨⟨⟨V,V,V⟩,λj h=>by rw[C j h];simp,0,0,_,_,_,[],[],F,Gr.nil _ _,Gr.nil _ _,Gr.nil _ _,V,V,V⟩,V,λh=>absurd (C 0 h) dR⟩
structure ISi where
 (O:List jE) (v:T) (t n:Int) (l:List eY)
def afQ(a:ISi)(c:List T)(b:H):Prop:=c=[a.v,J a.t,J a.n,sl (a.l.map eY.t)]/\Gr b a.v 3 (a.O.map jE.t)/\iS 0 b/\a.O.length+eY.ws a.l<=10000000
def abM(a:ISi)(h:List T)(d:H)(g:T)(e:H):Prop:=∃c f,∃b:List jE,g= .tuple [c,J f]/\b.length<=a.O.length+eY.ws a.l/\Xt d a.v 3 (b.map jE.t) c e
abbrev rSi(d:Nat):mU:=jS ISi (λa b c=>afQ a b c/\eY.ws a.l<d) abM
def NO(y:Nat)(C:(rSi y).Ok prog cx 174):(rSi (y+1)).Ok prog cx 174:=by
 refine jz (tb:=⟨pt [],ht [(174,rSi y)]⟩) jk iX (js 18191 [] func174) (λ_ _=>10000005) (λa Z i N=>by obtain⟨⟨rfl,_⟩,_⟩:=N;simp[f174]) ?_;rintro⟨s,r,k,O,l⟩ _ i ⟨⟨rfl,z,Q,M⟩,L⟩ b A
 dsimp at z M L
 simp at A;have hl:=eY.yi (l:=l);have W:Xt (hr i) r 3 (s.map jE.t) r (hr i):=Xt.refl (z.mono λH _=>iI i H) Q.hr;simp[f174];refine gW l.length G (λa b u=>∃m g,∃c:List jE,TI.Y b 0=D m/\TI.Y b 1=D (J k)/\TI.Y b 2=D (J g)/\TI.Y b 3=D (sl (l.map eY.t))/\TI.Y b 10=D (J a)/\c.length<=s.length+eY.ws (l.take a)/\Xt (hr i) r 3 (c.map jE.t) m u) ?_ ?_ G ⟨r,O,s,by simp[A,W]⟩;rintro a b u x K ⟨m,g,c,v,j,p,e,d,w,h⟩;have aA:=eY.Jz l x;have av:=eY.Bi l (a+1);have⟨T,ae,I,n⟩:=h.1.mR (cx:=cx) (f:=jE.t) ⟨h.2.2.2.hp,h.2.2.2.low,aB _⟩ ac5 rfl Y6 rfl V V (⟨k,g,l[a].DX⟩:jE) dP;simp[v,j,p,e,d,x];have B:l[a]? =D l[a]:=aF x;generalize l[a]=q at*
 have ap:=q.nG;simp[j,p,e,d,I,qI,B,n.1.qY,Fk];refine jl C V ⟨c++[⟨k,g,q.DX⟩],T,k,_,q.body⟩ ⟨⟨rfl,n.1,⟨n.2.2.2.hp,n.2.2.2.low,aB _⟩,dP⟩,dQ⟩ ?_;rintro _ al ⟨U,P,E,rfl,R,o⟩;simp[aY]at R;simp[j,e,d,B,o.1.qY,Fk];refine jl C V ⟨E,U,k,P,q.SS⟩ ⟨⟨rfl,o.1,⟨o.2.2.2.hp,o.2.2.2.low,aB _⟩,dQ⟩,dQ⟩ ?_;rintro _ an ⟨aN,aE,F,rfl,S,X⟩
 dsimp at S
 simp[j,e,d,K];exact⟨F,G,((h.trans n).trans o).trans X⟩;rintro b u ⟨m,g,c,v,j,p,e,d,w,h⟩;rw[aM]at w;simp[v,p,e,d];exact⟨m,g,c,rfl,w,h.out⟩
def R7:(rSi 10000001).Ok prog cx 174:=yE (λa:ISi=>eY.ws a.l) NO 10000001
def e04(c:iJ):Int:=Classical.epsilon λa=>∃b,kY.jV.R c= .tuple [J a,J b]
def l04(a:iJ):Int:=Classical.epsilon λb=>kY.jV.R a= .tuple [J (e04 a),J b]
def c04{c:ik}(ht:c.p 110=D kY.jV)(p:iJ)(b:LG p):rl prog cx c 110 [p.t]=D (.tuple [J (e04 p),J (l04 p)]):=by have e:∃a,kY.jV.R p= .tuple [J (e04 p),J a]:=Classical.epsilon_spec (p:=λd=>∃a,kY.jV.R p= .tuple [J d,J a]) (kY.2 p b);exact(iF ht kY.1 p b).trans (cd some (Classical.epsilon_spec e))
def Sh(b:iJ):Prop:=LG b/\b.kr.length<=100/\(∀a∈b.kr,a.size<=4)/\∃a∈b.kr,a.fc=1/\a.name=[113]
def WoS(m:H)(a n f:Nat)(e:List ji):Prop:=∃o g h i j k l,∃(Lk:List jB) (b:List j7) (c Th:List (List Nat)) (d:List jE),oQ m 2 6 o [(g,some (5,e.map ji.t)),(h,some (2,Lk.map jB.t)),(i,some (2,b.map j7.t)),(j,some (1,c.map T.str)),(k,some (1,Th.map T.str)),(l,some (3,d.map jE.t))]/\
 Lk.length<=a/\b.length<=a/\c.length<=a/\Th.length<=n/\d.length<=f
def WoS.le{e:H}{b c f d:Nat}{a:List ji}(r:WoS e b f d a)(x:b<=c):WoS e c f d a:=by obtain⟨t,j,k,l,m,n,o,Lk,g,h,Th,i,s,u,v,w,p,q⟩:=r;exact⟨t,j,k,l,m,n,o,Lk,g,h,Th,i,s,G,G,G,p,q⟩
def Om(b:List Nat)(a:List ji):Prop:=b∈a.map ji.name
def K4:jI:=(dU 6 0 [.eQ [dT,dT,dT,dT,dT,dT]])
def GH:pI prog cx 111 (λd:iJ=>[d.t]) Sh (λd r=>∃W:fJ,r=W.t/\(e04 d=0->okW W)):=by
 refine yF (tb:=⟨pt [(110,kY.jV),(173,wa)],ht [(174,rSi 10000001)]⟩) jk iX (js 316913254556860716756833993695 [(21,[(1,8),(3,8)])] func111) (λd=>1000005) (λa b h=>by simp at h;exact iJ.inj h) V nl9 ?_;rintro d ⟨bA,eE,bs,ea⟩ j b7;simp at b7;have c1:=λ{tb:ik} (ht:tb.p 110=D kY.jV)=>c04 ht d bA;have hl:=bA.1.1;simp[f111,b7,c1];refine fG (λbH=>?_) (λbH=>?_);simp at bH;simp[bH];exact⟨⟨[],[],[],[],[],[]⟩,rfl⟩;simp;refine gW d.kr.length G (λi j h=>∃x,WoS h i 0 0 x/\Lb 2 h 0 (dU 2 0 [d.t])/\Lb 2 h 1 K4/\x.length<=4*i/\(∀c∈d.kr.take i,c.fc=1->Om c.name x)/\TI.Y j 1=D (dY 0)/\TI.Y j 2=D (dY 1)/\TI.Y j 3=D (dY 2)/\TI.Y j 6=D (J i)) ?_ ?_ G ?_;rintro i j h ap al ⟨x,⟨ver,B,L,C,E,H,y,Lk,O,P,Th,K,e,aA,aE,aN,S,U⟩,o,v,c9,av,u⟩;have R:=e.get;simp at R;have eH:(0=h.size)=False:=qN e.lt;have eI:(2=h.size)=False:=qN e.lt;have bn:∀c∈d.kr.take (i+1),c∈d.kr.take i\/c=d.kr[i]:=λc bs=>by
  rw[aT ap]at bs;exact(List.mem_append.1 bs).imp id λq=>List.mem_singleton.1 q
 have eL:=bs d.kr[i] (aH ap);simp[u,ap,o.get,e.ok.low];generalize d.kr[i]=c at*
 have z:=e.cons (dU 6 1 [c.t]);have cL:=Step.cons e.ok e.lt (dU 6 1 [c.t]);have l7:=Lb.new e.lt e.fp (dU 6 1 [c.t]);replace o:=o.step cL;replace v:=v.step cL;have bi:(h.cons (dU 6 1 [c.t])).get 2=h.get 2:=by rw[fg,aw (iH e.lt)]
 rw[R]at bi;generalize eK:h.size=bT at*
 generalize h.cons (dU 6 1 [c.t])=eu at*
 by_cases ee:c.fc=1\/c.fc=2;have bp:∃N:Nat,max c.size 1=N/\1<=N/\N<=4:=⟨(max c.size 1).toNat,G,G,G⟩;obtain⟨N,bp,de,eD⟩:=bp;rcases ee with hk|hk<;>(
  simp[hk];refine gW N G (λk j h=>∃ae,WoS h i 0 0 ae/\Lb 2 h 0 (dU 2 0 [d.t])/\Lb 2 h 1 K4/\Lb 2 h bT (dU 6 1 [c.t])/\ae.length<=4*i+k/\(∀n,Om n x->Om n ae)/\(1<=k->Om c.name ae)/\TI.Y j 1=D (dY 0)/\TI.Y j 2=D (dY 1)/\TI.Y j 3=D (dY 2)/\TI.Y j 6=D (J i)/\TI.Y j 7=D (dY bT)/\TI.Y j 8=D (J k)) ?_ ?_ G ⟨x,⟨ver,B,L,C,E,H,y,Lk,O,P,Th,K,z,aA,aE,aN,S,U⟩,o,v,l7,G,λ_ h=>h,λh=>by omega,by simp[u]⟩;rintro k j h dn dk ⟨ae,⟨ver,B,L,C,E,H,y,Lk,O,P,Th,K,e,aA,aE,aN,S,U⟩,o,v,l7,dd,an,bu,u⟩;have R:=e.get;simp at R;have eF:(k:Int)<max c.size 1:=G;have⟨X,aX,M,l⟩:=(e.gr 0 rfl).mR (cx:=cx) (f:=ji.t) e.ok ac7 rfl Y7 rfl V V (⟨c.name,k,c.size,decide (c.fc=2),c.kH⟩:ji) dP;have⟨s,a7,I⟩:=e.app 0 rfl l;have⟨g,m⟩:=I _ rfl;simp at s g m;simp[hk]at M;simp[hk,u,l7.get,R,dn,bp,M,s,fD,l.1.iW,l.1.cells,dk];exact⟨_,⟨ver+1,X,L,C,E,H,y,Lk,O,P,Th,K,m,aA,aE,aN,S,U⟩,o.step g,v.step g,l7.step g,dP,λn bN=>by have:=an n bN;unfold Om at*;rw[List.map_append];exact dz _ this,by unfold Om;simp⟩;rintro j h ⟨ae,et,o,v,l7,dd,an,bu,u⟩;simp[hk,u,l7.get,bp,al];exact⟨ae,et.le G,o,v,G,λA Z ds=>by
   rcases bn A Z with q|rfl;exact an _ (av A q ds);exact bu de⟩)
 have ef:¬c.fc=1/\¬c.fc=2:=G;by_cases b9:c.fc=3;have⟨X,aX,M,l⟩:=(z.gr 1 rfl).mR (cx:=cx) (f:=jB.t) z.ok V4 rfl QI rfl V V (⟨c.name,false⟩:jB) dP;have⟨s,a7,I⟩:=z.app 1 rfl l;have⟨g,m⟩:=I _ rfl;simp at s g m;simp[b9,u,l7.get,bi,al,M,s,fD,l.1.iW,l.1.cells];exact⟨x,⟨ver+1,B,X,C,E,H,y,_,O,P,Th,K,m,dP,G,G,S,U⟩,o.step g,v.step g,G,λA Z hk=>av A ((bn A Z).resolve_right λQ=>by subst Q;omega) hk⟩;by_cases ca:c.fc=4;have⟨X,aX,M,l⟩:=(z.gr 1 rfl).mR (cx:=cx) (f:=jB.t) z.ok V4 rfl QI rfl V V (⟨c.name,true⟩:jB) dP;have⟨s,a7,I⟩:=z.app 1 rfl l;have⟨g,m⟩:=I _ rfl;simp at s g m;simp[ca,u,l7.get,bi,al,M,s,fD,l.1.iW,l.1.cells];exact⟨x,⟨ver+1,B,X,C,E,H,y,_,O,P,Th,K,m,dP,G,G,S,U⟩,o.step g,v.step g,G,λA Z hk=>av A ((bn A Z).resolve_right λQ=>by subst Q;omega) hk⟩;by_cases cb:c.fc=5;have c6:=(z.gr 1 rfl).qY V;have c4:=λ{tb:ik} (h:tb.p 173=D wa)=>Q0 h Lk c.on G;have⟨X,aX,M,l⟩:=(z.gr 2 rfl).mR (cx:=cx) (f:=j7.t) z.ok ac6 rfl Y8 rfl V V (⟨c.name,vN (Lk.map jB.name) c.on 0⟩:j7) dP;have⟨s,a7,I⟩:=z.app 2 rfl l;have⟨g,m⟩:=I _ rfl;simp at s g m;simp[cb,u,l7.get,bi,al,M,s,fD,l.1.iW,l.1.cells,c6,c4];exact⟨x,⟨ver+1,B,L,X,E,H,y,Lk,_,P,Th,K,m,G,dP,G,S,U⟩,o.step g,v.step g,G,λA Z hk=>av A ((bn A Z).resolve_right λQ=>by subst Q;omega) hk⟩;have⟨X,aX,M,l⟩:=(z.gr 3 rfl).mR (cx:=cx) (f:=T.str) z.ok un rfl xL rfl V V (c.name) dP;have⟨s,a7,I⟩:=z.app 3 rfl l;have⟨g,m⟩:=I _ rfl;simp at s g m;simp[ef,b9,ca,cb,u,l7.get,bi,al,M,s,fD,l.1.iW,l.1.cells];exact⟨x,⟨ver+1,B,L,C,X,H,y,Lk,O,_,Th,K,m,G,G,dP,S,U⟩,o.step g,v.step g,G,λA Z hk=>av A ((bn A Z).resolve_right λQ=>by subst Q;omega) hk⟩;rintro j h ⟨x,⟨ver,B,L,C,E,H,y,Lk,O,P,Th,K,e,aA,aE,aN,S,U⟩,o,v,c9,av,u,bZ,b6⟩;have eM:=bA.1.2.1;have ec:∀{i:Nat} (b8:i<d.d8.length),tu (d.d8.take (i+1))=tu (d.d8.take i)+eY.ws d.d8[i].body:=λ{i} b8=>by
  unfold tu;rw[aT b8,List.map_append,List.sum_append];simp
 have eb:∀i,tu (d.d8.take i)<=1000000:=λi=>by
  have:tu d.d8<=1000000:=bA.2.1;have bZ:tu d.d8=tu (d.d8.take i)+tu (d.d8.drop i):=by unfold tu;rw[<-List.sum_append,<-List.map_append,da]
  omega
 simp[u,b6,o.get];refine gW d.d8.length G (λi j h=>WoS h 1000000 i (tu (d.d8.take i)) x/\Lb 2 h 0 (dU 2 0 [d.t])/\Lb 2 h 1 K4/\TI.Y j 1=D (dY 0)/\TI.Y j 2=D (dY 1)/\TI.Y j 3=D (dY 2)/\TI.Y j 9=D (J i)) ?_ ?_ G ⟨⟨ver,B,L,C,E,H,y,Lk,O,P,Th,K,e,G,G,G,S,by simpa[tu]using U⟩,o,v,by simp[u,bZ,b6]⟩;rintro i j h ap al ⟨⟨ver,B,L,C,E,H,y,Lk,O,P,Th,K,e,aA,aE,aN,S,U⟩,o,v,u⟩;have ey:=ec ap;have eA:=eb (i+1);have R:=e.get;simp at R;have⟨X,aX,M,l⟩:=(e.gr 4 rfl).mR (cx:=cx) (f:=T.str) e.ok un rfl xL rfl V V (d.d8[i].name) dP;have⟨s,a7,I⟩:=e.app 4 rfl l;have⟨g,m⟩:=I _ rfl;simp at s g m;simp[u,ap,o.get,R,M,s,fD,l.1.iW,l.1.cells];have cp:=o.step g;have eh:=v.step g;have bX:=m.get;simp at bX;generalize fF aX 2 _=eB at*
 simp[u,ap,cp.get,bX,(m.gr 5 rfl).qY,Fk];refine jl R7 V ⟨K,y,i,0,d.d8[i].body⟩ ⟨⟨rfl,m.gr 5 rfl,m.ok,dQ⟩,dQ⟩ ?_;rintro _ eC ⟨er,eN,cX,rfl,di,bC⟩
 dsimp at di bC
 have⟨s,a7,I⟩:=m.app 5 rfl bC;have⟨Ld,cv⟩:=I _ rfl;simp at s Ld cv;simp[u,s,fD,bC.1.iW,bC.1.cells,al];exact⟨⟨ver+1+1,B,L,C,E,X,er,Lk,O,P,_,cX,cv,aA,aE,aN,dP,G⟩,cp.step Ld,eh.step Ld⟩;rintro j h ⟨⟨ver,B,L,C,E,H,y,Lk,O,P,Th,K,e,aA,aE,aN,S,U⟩,o,v,u⟩;have R:=e.get;simp at R;have a8:=e.rx v (dU 6 1 [.eQ [B,L,C,E,H,y]]);have bS:=v.get;unfold K4 at bS;have c7:(fF h 1 (dU 6 1 [.eQ [B,L,C,E,H,y]])).get 1=_:=(ez bS _ 1).trans (ax rfl);simp[u,o.get,R,bS,fD,c7,(a8.gr 0 rfl).fz V,(a8.gr 1 rfl).fz V,(a8.gr 2 rfl).fz V,(a8.gr 3 rfl).fz V,(a8.gr 4 rfl).fz V,(a8.gr 5 rfl).fz V];refine⟨⟨_,rfl,λ_=>⟨dQ,dQ,dQ,dQ,dQ,?_⟩⟩,e.ok.hp⟩;obtain⟨c,dm,hk,bu⟩:=ea;have an:=av c (aM▸dm) hk;unfold Om at an;rw[bu]at an;rcases KT (x.map ji.name) [113] 0 with Q|⟨n,bN,Q⟩;have:=KU (x.map ji.name) [113] 0;rw[Q,eq_true an]at this;simp at this;exact⟨n,iD bN,by rw[Q];simp⟩;have⟨eo,bW⟩:=oQ.start (h:=((hE.cons (dU 2 0 [d.t])).cons K4).cons K4) (w:=2) (szw:=6) (ver:=0) (F:=[(dT,some (5,[])),(dT,some (2,[])),(dT,some (2,[])),(dT,some (1,[])),(dT,some (1,[])),(dT,some (3,[]))]) ⟨V,V,V⟩ (by simp[K4]) V;exact⟨[],⟨0,_,_,_,_,_,_,[],[],[],[],[],eo,V,V,V,V,V⟩,⟨V,λq=>absurd (bW 0 q) dR⟩,⟨by simp[K4],λq=>absurd (bW 1 q) dR⟩,V⟩
def eT(a:Int×T):T:= .eQ [.int .i64 a.1,a.2]
def ahj{e:H}{c:Nat->Prop}{g:Int}{b d f:Nat}{a:List iN}(h:c b)(j:e.jQ (.arr b d 0 f false)=some (a.map iN.t)):FT e c 4 (eT (g,.arr b d 0 f false)) (iR.t ⟨g,a⟩):=by
 have i:∀a:List iN,jr (FT e c 2) (a.map iN.t) (a.map iN.t):=λa=>by
  induction a with
  |nil=>exact .nil
  |cons l a k=>exact .cons (.inr (.inr ⟨_,_,rfl,.cons (iL ..) (.cons (iL ..) (.cons (iL ..) (.cons (iL ..) (.cons (iL ..) (.cons (iL ..) .nil))))),rfl⟩)) k
 exact .inr (.inr ⟨_,_,rfl,.cons (iL ..) (.cons (.inr (.inl ⟨b,d,0,f,false,_,_,rfl,h,j,i a,rfl⟩)) .nil),rfl⟩)
def PcS(W:fJ)(a:H)(f:Nat):Prop:=∃g e,∃b:List (Int×T),∃d:List iR,oQ a 2 7 g [(sl (W.cells.map ji.t),none),(sl (W.fQ.map jB.t),none),(sl (W.je.map j7.t),none),(sl (W.fI.map T.str),none),(sl (W.d8.map T.str),none),(sl (W.jL.map jE.t),none),(e,some (2,b.map eT))]/\
 jr (FT a (λc=>2<c/\c<a.size/\¬Fp a 2 c) 4) (b.map eT) (d.map iR.t)/\b.length=f/\∀h∈d,h.kh.length<=10000001
def VR{h:H}{w:Nat}{x:jI}(f:h.get w=some x)(g:∀b∈ir x.gU,fa b=none)(c:Nat)(e:Fp h w c):c=w:=by rcases e with a|⟨j,d,b,i,a⟩;exact a;rw[f]at d;cases d;rw[g b i]at a;simp at a
structure Kp(h h':H):Prop where
 sz:h.size<h'.size
 get:∀b,b<h.size->h'.get b=h.get b
 fp:∀b,Fp h' h.size b->h.size<=b
def Kp.step{c f g:H}(b:Kp c f)(e:Step c.size f g):Kp c g:=
 ⟨bO b.sz e.ok.sz,λa d=>(e.get a (iH b.sz) λh=>iH (b.fp a h)).trans (b.get a d),λa d=>(e.fp a d).elim (b.fp a) λh=>iH b.sz⟩
def Kp.new{h:H}(g:iS 0 h)(W:fJ)(a:List (List Nat))(c:Int):Kp h (h.cons ⟨10,0,0,true,false,[.eQ (wN W a (.em [] false) 0 c)]⟩)/\Gn W a 0 (h.cons ⟨10,0,0,true,false,[.eQ (wN W a (.em [] false) 0 c)]⟩) h.size:=by
 have f:=VR (h:=h.cons ⟨10,0,0,true,false,[.eQ (wN W a (.em [] false) 0 c)]⟩) (w:=h.size) (x:=⟨10,0,0,true,false,[.eQ (wN W a (.em [] false) 0 c)]⟩) (by rw[fg,ax rfl]) (λi e=>by
  simp[ir,wN,T.cells]at e;rcases e with rfl|rfl|rfl|rfl|rfl|rfl|rfl|rfl|rfl|rfl<;>simp)
 exact⟨⟨V,λb d=>by rw[fg,aw G],λb d=>f b d▸az _⟩,g.cons _,λb d=>by rw[f b d];simp,0,.em [] false,0,c,[],by rw[fg,ax rfl],Gr.nil _ _,rfl⟩
structure Sn(h h':H):Prop where
 ok:iS 0 h'
 size:h'.size=h.size+1
 get:∀c,c<h.size->h'.get c=h.get c
def Sn.new{h:H}(c:iS 0 h)(a:jI):Sn h (h.cons a):=⟨c.cons a,V,λd e=>by rw[fg,aw G]⟩
theorem Sn.put{a b:H}(d:Sn a b){x:jI}(g:b.get a.size=some x)(e:jI):Sn a (fF b a.size e):=⟨d.ok.put _ e,by rw[iB];exact d.size,λc f=>by rw[ez g,aw G];exact d.get c f⟩
def MV:jI:=⟨7,0,0,true,false,[.eQ [.em [] false,.em [] false,.em [] false,.em [] false,.em [] false,.em [] false,.em [] false]]⟩
def EL:pI prog cx 55 (λc:iJ=>[c.t]) (λc=>Sh c/\c.d8.length<=100) (λc k=>∃(b:kU) (e l:Int),k= .tuple [b.t,.int .i64 e,.int .i64 l]/\∀A∈b.d8,A.kh.length<=10000001):=by
 refine yF (tb:=⟨pt [(110,kY.jV),(111,GH.jV),(114,qz)],ht [(112,Ii 10000001),(113,jS H5 x8 uH)]⟩) jk iX (js 19808249554385699031857790975 [] func55) (λc=>10000005) (λN j h=>by simp at h;exact iJ.inj h) V nl9 ?_;rintro c ⟨bS,eU⟩ a bT;simp at bT;have a8:=bS.1;have c1:=λ{tb:ik} (ht:tb.p 110=some kY.jV)=>c04 ht c a8;obtain⟨_,⟨W,rfl,aN⟩,c4⟩:=GH.use c bS;simp[f55,bT,c1];refine fG (λR=>?_) (λR=>?_);simp at R;simp[R];exact⟨⟨⟨[],[],[],[],[],[]⟩,[]⟩,rfl,V⟩;have aN:=aN (iD R);simp[c4];refine gW c.d8.length G (λi a h=>PcS W h i/\Lb 2 h 0 ⟨2,0,0,true,false,[c.t]⟩/\Lb 2 h 1 MV/\TI.Y a 1=some (.eZ 0 0 0 0)/\TI.Y a 2=some (.eZ 1 0 0 0)/\TI.Y a 7=some (.eZ 2 0 0 0)/\(∃al:Int,TI.Y a 8=some (.int .i64 al))/\TI.Y a 9=some (.int .i64 i)) ?_ ?_ G ?_
 .rintro i a h S dk ⟨cb,M,L,o,aA,P,⟨al,bN⟩,Q⟩;have e6:=cb;obtain⟨ver,an,E,X,g,N,hE,aX⟩:=cb;have K:=g.get;simp at K;have ef:(0=h.size)=False:=qN g.lt;have eO:(2=h.size)=False:=qN g.lt;simp[o,P,bN,Q,S,M.get,K,ef];have ht:=a8.1.2.2 c.d8[i] (aH S);have ee:=a8.2.2.1 c.d8[i] (aH S);have eV:c.d8[i]? =some c.d8[i]:=aF S;generalize c.d8[i]=cL at*
  have⟨r,eh⟩:=Kp.new g.ok W cL.locals al;refine QY (RY 10000001) V eh aN ht.1 ee G G λeE b9 ey eX e0 b7=>?_;replace r:=r.step ey;have⟨fb,e5,e8,bn,eC,gA,c9,di⟩:=b7.ex;have⟨Ld,eo⟩:=b7.L4 gA c9 di (-1) bn;replace r:=r.step Ld;simp[wN]at gA;simp[gA,fD];refine qU (i:=⟨28,0,0,0,0,0⟩) V eo G λy eA b8=>?_;replace r:=r.step eA;have⟨fe,e9,e4,cX,j,O,ff,eD,eB,gC,av,eI,ea,b6,eF,eb⟩:=b8.opn G;have eP:(y.size=h.size)=False:=qN r.sz;have bW:j<y.size:=H.fN av;have eK:=r.fp j ea;have ca:=b8.ok;simp[wN]at gC;have eN:b9+1<=1000001:=G;generalize b9+1=C at*
  generalize bX:h.size=I at*
  simp[gC,ca.low];refine gW C G (λZ a s=>∃(k:Int) (x:Nat),Sn y s/\s.get y.size=some ⟨2,0,x,true,false,[.eQ [.int .i64 k,.arr j O 0 C false]]⟩/\TI.Y a 1=some (.eZ 0 0 0 0)/\TI.Y a 2=some (.eZ 1 0 0 0)/\TI.Y a 7=some (.eZ 2 0 0 0)/\TI.Y a 8=some (.int .i64 bn)/\TI.Y a 9=some (.int .i64 i)/\TI.Y a 10=some (.eZ I 0 0 0)/\TI.Y a 11=some (.eZ y.size 0 0 0)/\TI.Y a 12=some (.int .i64 Z)) ?_ ?_ G ?_
  .rintro Z a s bZ dm ⟨k,x,m,u,o⟩;have ap:=(m.get I (bX▸r.sz)).trans gC;have dd:=(m.get j bW).trans av;have⟨A,bi⟩:=eb Z bZ;simp[o,ap,dd,bZ,bi,yt];have eR:(jT A).length<=3:=by unfold jT;(repeat' split)<;>simp
   refine gW (jT A).length G (λn a s=>∃(k:Int) (x:Nat),Sn y s/\s.get y.size=some ⟨2,0,x,true,false,[.eQ [.int .i64 k,.arr j O 0 C false]]⟩/\TI.Y a 1=some (.eZ 0 0 0 0)/\TI.Y a 2=some (.eZ 1 0 0 0)/\TI.Y a 7=some (.eZ 2 0 0 0)/\TI.Y a 8=some (.int .i64 bn)/\TI.Y a 9=some (.int .i64 i)/\TI.Y a 10=some (.eZ I 0 0 0)/\TI.Y a 11=some (.eZ y.size 0 0 0)/\TI.Y a 12=some (.int .i64 Z)/\TI.Y a 13=some (sl ((jT A).map (T.int .i64)))/\TI.Y a 14=some (.int .i64 n)) ?_ ?_ G ⟨k,x,m,u,by simp[o]⟩;rintro n a s a7 dn ⟨k,x,m,u,o⟩;simp[o,a7,u,qI,fD];exact⟨m.put u _,⟨_,_,(ez u _ _).trans (ax rfl)⟩,by simpa[qI]using dn⟩;rintro a s ⟨k,x,m,u,o⟩;simp[o,dm];exact⟨m,k,x,u⟩
  rintro a s ⟨k,x,m,u,o⟩;have B:∀b,b<h.size->s.get b=h.get b:=λb v=>(m.get b (iH r.sz)).trans (r.get b v);have bp:=g.step m.ok λb v=>B b (g.fp b v);have bH:=bp.get;simp at bH;have⟨bs,aE,bA,bu⟩:=(bp.gr 6 rfl).mR (cx:=cx) (f:=eT) m.ok Zb rfl Y3 rfl V (λA=>rfl) (k,.arr j O 0 C false) dP;have⟨cp,e7,er⟩:=bp.app 6 rfl bu;have⟨z,cv⟩:=er _ rfl;simp at cp z cv;simp[eT]at bA;have ap:=(m.get I (bX▸r.sz)).trans gC;simp[ap,o,u,bH,bA,cp,fD,bu.1.iW,bu.1.cells,dk];have eS:=m.size;have eL:=r.sz;have U:=jN (B 2 g.lt);have ds:∀b,b<I->¬Fp h 2 b->(fF aE 2 _).get b=h.get b:=λb v a7=>(z.get b G (by rw[U];exact a7)).trans (B b G);have eM:=g.lt;refine⟨⟨_,bs,E++[(k,.arr j O 0 C false)],X++[⟨k,cX⟩],iD cv,?_,dP,λA bi=>?_⟩,(M.mp (B 2 g.lt) (B 0 M.lt)).step z,(L.mp (B 2 g.lt) (B 1 L.lt)).step z⟩;rw[List.map_append,List.map_append];have eW:s.size<=(fF aE 2 (⟨7,0,ver+1,true,false,[.eQ [sl (W.cells.map ji.t),sl (W.fQ.map jB.t),sl (W.je.map j7.t),sl (W.fI.map T.str),sl (W.d8.map T.str),sl (W.jL.map jE.t),bs]]⟩:jI)).size:=z.ok.sz;refine jr.append (N.ft λb v=>⟨⟨v.1,G,λq=>?_⟩,ds b v.2.1 v.2.2⟩) (.cons (ahj ⟨G,G,λq=>?_⟩ ?_) .nil);rcases z.fp b q with q|q;rw[U]at q;exact v.2.2 q;omega;rcases z.fp j q with q|q;rw[U]at q;have:=g.fp j q;omega;omega;have de:(fF aE 2 (⟨7,0,ver+1,true,false,[.eQ [sl (W.cells.map ji.t),sl (W.fQ.map jB.t),sl (W.je.map j7.t),sl (W.fI.map T.str),sl (W.d8.map T.str),sl (W.jL.map jE.t),bs]]⟩:jI)).get j=_:=((z.get j G λq=>by rw[U]at q;have:=g.fp j q;omega).trans (m.get j bW)).trans av;have ec:C<=eB.length:=by
   have:=cd List.length b6;rw[List.length_take,aK]at this;omega
  rw[iU,de];simp[ec,b6];rcases List.mem_append.1 bi with q|q;exact aX A q;rw[List.mem_singleton.1 q];simp only;omega;exact⟨cL.locals.length,1,Sn.new ca _,V,by simp[o,aA,P,Q]⟩
 rintro a h ⟨⟨ver,an,E,X,g,N,hE,aX⟩,M,L,o,aA,P,⟨al,bN⟩,Q⟩;have K:=g.get;simp at K;have ae:=L.get;unfold MV at ae;have eu:=g.rx L ⟨7,0,1,true,false,[.eQ [sl (W.cells.map ji.t),sl (W.fQ.map jB.t),sl (W.je.map j7.t),sl (W.fI.map T.str),sl (W.d8.map T.str),sl (W.jL.map jE.t),an]]⟩;have c7:(fF h 1 ⟨7,0,1,true,false,[.eQ [sl (W.cells.map ji.t),sl (W.fQ.map jB.t),sl (W.je.map j7.t),sl (W.fI.map T.str),sl (W.d8.map T.str),sl (W.jL.map jE.t),an]]⟩).get 1=_:=(ez ae _ 1).trans (ax rfl);have c6:=(eu.gr 6 rfl).MD (d:=4) G (N.ft (V':=λ_=>True) λj eH=>⟨trivial,by rw[ez ae,aw G]⟩);simp[o,aA,P,Q,M.get,K,ae,fD,c7,c6];exact⟨⟨⟨W,X⟩,rfl,aX⟩,g.ok.hp⟩;have⟨et,bC⟩:=oQ.start (h:=((hE.cons ⟨2,0,0,true,false,[c.t]⟩).cons MV).cons ⟨7,0,1,true,false,[.eQ [sl (W.cells.map ji.t),sl (W.fQ.map jB.t),sl (W.je.map j7.t),sl (W.fI.map T.str),sl (W.d8.map T.str),sl (W.jL.map jE.t),.em [] false]]⟩) (w:=2) (szw:=7) (ver:=1) (F:=[(sl (W.cells.map ji.t),none),(sl (W.fQ.map jB.t),none),(sl (W.je.map j7.t),none),(sl (W.fI.map T.str),none),(sl (W.d8.map T.str),none),(sl (W.jL.map jE.t),none),(.em [] false,some (2,[]))]) ⟨V,V,V⟩ (by simp[MV]) V;exact⟨⟨_,_,[],[],et,.nil,rfl,V⟩,⟨V,λq=>absurd (bC 0 q) dR⟩,⟨by simp[MV],λq=>absurd (bC 1 q) dR⟩,V⟩
section
attribute [-simp] size_cons
def thT(a:List Nat×T×T):T:= .eQ [.str a.1,J 0,a.2.1,a.2.2]
def Yb(a:iQ):Prop:=a.locals.length<=10/\eY.ws a.body<=100000/\∀b∈a.body,MS b
def PgV(c:Nat)(b:H)(a:Nat):Prop:=4<a/\a<c/\¬Fp b 2 a/\¬Fp b 3 a
def Pg(e:Nat)(b:H)(f:Nat):Prop:=∃h a,∃d:List (List Nat×T×T),∃c:List iQ,oQ b 3 2 h [(sl (yQ.map jp.t),none),(a,some (4,d.map thT))]/\
 jr (FT b (PgV e b) 10) (d.map thT) (c.map iQ.t)/\c.length=f/\(∀g∈c,Yb g)/\(∀a,Fp b 3 a->a=3\/4<a)/\∀a,Fp b 3 a->¬Fp b 2 a
def Pg.step{f j:Nat}{b e:H}(r:Pg f b j)(c:Step 2 b e)(x:f<=b.size):Pg f e j:=by obtain⟨w,d,m,n,l,o,s,t,u,k⟩:=r;have⟨v,p⟩:=l.other k c;have h:e.get 3=b.get 3:=c.get 3 l.lt (k 3 (.inl rfl));refine⟨w,d,m,n,v,o.ft λg a=>⟨⟨a.1,a.2.1,λq=>?_,by rw[jN h];exact a.2.2.2⟩,c.get g (by have:=a.2.1;omega) a.2.2.1⟩,s,t,λd i=>by rw[jN h]at i;exact u d i,p⟩;rcases c.fp g q with q|q;exact a.2.2.1 q;have:=a.2.1;omega
def Pg.wide{c d e:Nat}{b:H}(j:Pg c b e)(o:c<=d):Pg d b e:=by obtain⟨m,i,f,g,l,h,k⟩:=j;exact⟨m,i,f,g,l,h.ft λn a=>⟨⟨a.1,iH a.2.1,a.2.2⟩,rfl⟩,k⟩
def nms:List (List Nat):=[[109,97,105,110],[116,49],[116,50],[116,51]]
def GU:jI:=⟨1,0,0,true,false,nms.map T.str⟩
def IE:jI:=(dU 2 0 [.eQ [dT,dT]])
structure RdM(L:List Int)(h:H)(i:Nat):Prop where
 k:Mk L 0 h 2 1
 pg:Pg h.size h i
 re:Lb 2 h 0 IE
 nm:Lb 2 h 4 GU
def XP(i:List Int){c:H}(d:c=((((hE.cons IE).cons (dU 2 0 [.eQ [sl (i.map (T.int .u8)),J 0]])).cons (dU 8 0 [.eQ (vS 1 0 20 false false false false dT)])).cons (dU 2 1 [.eQ [sl (yQ.map jp.t),dT]]))):
 Mk i 0 c 2 1/\Pg 4 c 0/\Lb 2 c 0 IE/\c.size=4:=by
 have m:iS 0 c:=by subst d;exact⟨V,V,V⟩
 have k:c.get 2=D (dU 8 0 [.eQ (vS 1 0 20 false false false false dT)]):=by subst d;simp
 have f:∀a,Fp c 2 a->a=2\/a=1:=by
  rintro a (rfl|⟨p,g,o,l,b⟩);exact .inl rfl
  .rw[k]at g;cases g;simp[ir,T.cells,vS]at l;rcases l with rfl|rfl|rfl|rfl|rfl|rfl|rfl|rfl<;>first|(have b:(none:aa Nat)=D a:=b;simp at b;done)|(have b:some 1=D a:=b;simp at b;exact .inr b.symm)
 have⟨n,j⟩:=oQ.start (h:=c) (w:=3) (szw:=2) (ver:=1) (F:=[(sl (yQ.map jp.t),none),(dT,some (4,[]))]) m (by subst d;simp) V;refine⟨⟨m,λa e=>?_,⟨0,0,by subst d;simp,Int.le_refl _⟩,0,0,20,false,false,false,false,dT,[],k,Gr.nil _ _,rfl⟩,⟨1,dT,[],[],n,.nil,rfl,V,λa e=> .inl (j a e),λa e b=>?_⟩,⟨by subst d;simp[IE],λb=>?_⟩,by subst d;simp⟩;have:=f a e;subst d;simp;omega;have:=f a b;have:=j a e;omega;have:=f 0 b;omega
def Rx(a:Int)(b:List Nat):eY:=⟨a,0,b,[],[],⟨0,0,[],[]⟩,[],[]⟩
def spT(a:Int)(b:List Nat):T:= .eQ [J a,J 0,.str b,.str [],dT,J 0,J 0,.str [],dT,dT,dT]
def aal{e:H}{c:Nat->Prop}(a:Int)(b:List Nat)(d:Nat):FT e c (d+2) (spT a b) (Rx a b).t:=
 .inr (.inr ⟨_,(Rx a b).cs,rfl,.cons (iL ..) (.cons (iL ..) (.cons (lI ..) (.cons (lI ..) (.cons (kc ..) (.cons (iL ..) (.cons (iL ..) (.cons (lI ..) (.cons (kc ..) (.cons (kc ..) (.cons (kc ..) .nil)))))))))),eY.pY _⟩)
def aak{k:Int}{nm:List Nat}(d:k=12\/k=13):MS (Rx k nm)/\(Rx k nm).w<=wd 2:=by refine⟨.mk (λa=>by unfold Rx at a;simp at a;omega) (λa=>by unfold Rx at a;simp at a;omega) (λc b=>by unfold Rx at b;simp at b) (λa=>by unfold Rx at a;simp at a;omega) (λc b=>by unfold Rx at b;simp at b) (λc b=>by unfold Rx at b;simp at b),?_⟩;rw[eY.nG,fy.nG];unfold Rx wd;simp only[eY.vC,eY.O0,eY.yw,eY.BN,eY.jX,fy.jX,fy.Kb];omega
def FT.stmt{i:H}{g:Nat->Prop}{d:Nat}{c:T}{f:eY}(b:FT i g d c f.t):c.cells.length=11:=by
 cases d with
 |zero=>exact b.elim
 |succ d=>
  rw[f.pY]at b;rcases b with⟨j,k,a⟩|⟨_,_,_,_,_,_,h,_,_,_,_,a⟩|⟨e,n,rfl,l,a⟩
  .cases c<;>first|exact absurd rfl (k _)|(rw[pS]at a;rename_i m b;cases m<;>simp[sl]at a;done)|(simp at a;done)|(simp[kT]at j;done)
  cases h<;>simp[sl]at a;simp[T.eQ.injEq]at a;subst a;rw[show(T.eQ e).cells=e from rfl,l.length];rfl
structure Th(L:List Int)(hC:H)(nm:List Nat)(bl cnt:Nat)(h:H)(v:T)(ver:Nat)(l:List eY):Prop where
 sv:SV (hC.size+1) h.size h 2 6 v l
 k:Mk L 0 h 2 1
 st:Step 2 hC h
 l8:Lb 2 h hC.size (dU 4 ver [.eQ [.str nm,J 0,.arr bl 0 0 2 false,v]])
 ms:∀s∈l,MS s/\s.w<=wd 2
 len:l.length<=cnt
 z:2<hC.size
theorem Th.cons{d:List Int}{h g:H}{j:List Nat}{e f m:Nat}{l:T}{i:List eY}(a:Th d h j e f g l m i)(c:jI):Th d h j e f (g.cons c) l m i:=by have b:=Step.cons a.k.ok a.k.lt c;exact⟨(a.sv.step b (az _)).wide (az _) V,a.k.cons c,a.st.trans b,a.l8.step b,a.ms,a.len,a.z⟩
def Th.step{c:List Int}{h g d:H}{j:List Nat}{e f l:Nat}{k:T}{i:List eY}(a:Th c h j e f g k l i)(b:Step 2 g d)(m:Mk c 0 d 2 1):Th c h j e f d k l i:=
 ⟨(a.sv.step b (az _)).wide (az _) b.ok.sz,m,a.st.trans b,a.l8.step b,a.ms,a.len,a.z⟩
def Th.more{e:List Int}{i h:H}{j:List Nat}{f g m d:Nat}{c:T}{b:List eY}(a:Th e i j f g h c d b)(l:g<=m):∃c d b,Th e i j f m h c d b:=⟨c,d,b,a.sv,a.k,a.st,a.l8,a.ms,aU a.len l,a.z⟩
def Vf{Xq:List iQ}(hl:Xq.length<=4)(b:∀a∈Xq,Yb a):Sh ⟨yQ,Xq⟩:=by
 refine⟨⟨⟨by simp[yQ],dQ,λa ht=>⟨iH (b a ht).1,iH (b a ht).2.1⟩⟩,?_,λa ht=>(b a ht).2.2,7,by simp[yQ],by simp[yQ,vN]⟩,by simp[yQ],by simp[yQ],⟨1,0,[113],2,0,[]⟩,by simp[yQ],rfl,rfl⟩;have d:∀Xq:List iQ,(∀a∈Xq,Yb a)->tu Xq<=Xq.length*100000:=by
  intro Xq;induction Xq with
  |nil=>intro _;simp[tu]
  |cons e Xq c=>
   intro b;have f:=c λa ht=>b a (by simp[ht]);have g:=(b e V).2.1;unfold tu at*
   simp[aR,List.sum_cons,aZ];omega
 have:=d Xq b;unfold tu at this;simp only;omega
def aa1{b:H}{a c:T}(i:SL a []\/∃d e h,a= .arr d e 0 h false)(f:rI a)(g:b.jQ c=D []):ju cx b 203 203 a c=be a b:=by unfold ju rM oz;rw[CX,fj,fj];simp[CW,g,fj];show(iT (fits _ []) (km (iT (rI a) (some (a,b)))))=_;rw[f];rfl
def Th.app{o:List Int}{c f:H}{i:List Nat}{h p n m:Nat}{l x:T}{xs:List T}{r l2:List eY}(b:Th o c i h p f l m r)(v:f.jQ x=D xs)(s:jr (FT f (Nw (c.size+1) f.size f 2 l) 8) xs (l2.map eY.t))(N:∀j∈l2,MS j/\j.w<=wd 2)(Y:l2.length<=n)(X:p+n<=1000):
 ∃e a,ju cx f 203 203 l x=be e a/\a.get c.size=f.get c.size/\e.iW/\e.cells=[e]/\Th o c i h (p+n) (fF a c.size (dU 4 (m+1) [.eQ [.str i,J 0,.arr h 0 0 2 false,e]])) e (m+1) (r++l2):=by
 have fin:∀e a,SV (c.size+1) a.size a 2 6 e (r++l2)->Mk o 0 a 2 1->Step 2 c a->Lb 2 a c.size (dU 4 m [.eQ [.str i,J 0,.arr h 0 0 2 false,l]])->Th o c i h (p+n) (fF a c.size (dU 4 (m+1) [.eQ [.str i,J 0,.arr h 0 0 2 false,e]])) e (m+1) (r++l2):=λe a P E Q g=>
  ⟨by rw[iB];exact P.rx g (.inl (dA _)) _,E.rx g _,Step.rx E.ok g _ _ Q (az _),⟨(ez g.get _ _).trans (ax rfl),by rw[jN (show(fF a c.size _).get 2=a.get 2 by rw[ez g.get,aw (bE g.ne)])];exact g.nf⟩,λj L=>(List.mem_append.1 L).elim (b.ms j) (N j),by rw[aY];have:=b.len;omega,b.z⟩
 by_cases B:xs=[];subst B;have:l2=[]:=by cases l2 with|nil=>rfl|cons=>cases s
 subst this;have⟨W,u,_⟩:=b.sv;refine⟨l,f,?_,rfl,u.iW,u.cells,fin l f (by rw[bJ];exact b.sv) b.k b.st b.l8⟩;rcases u with⟨rfl,rfl⟩|⟨S,U,_,_,_,rfl,_⟩
 exact aa1 (.inl (ZC _ _)) rfl v;exact aa1 (.inr ⟨_,_,_,rfl⟩) rfl v;have F:∀q∈xs,q.cells.length=11:=λq I=>by
  have⟨Z,K,M⟩:=s.Md I;obtain⟨j,_,rfl⟩:=List.mem_map.1 K;exact FT.stmt (d:=8) M
 have⟨e,a,q,y,O,R,C⟩:=b.sv.app b.k (iH b.l8.lt) (az _) v s F B (iH b.len);have A:=C c.size (dA _);refine⟨e,a,q,A,y.gc.1,y.gc.2,fin e a y O (R c b.st G) ⟨A.trans b.l8.get,?_⟩⟩;rw[jN (C 2 (iH b.z))];exact b.l8.nf
def ahh{y:List Int}{F b d:H}{m:List Nat}{e an N I i:Nat}{w M:T}{l9:List eY}{n:List (List Nat×T×T)}{l:List iQ}(g:Th y F m e 7 b w an l9)(Y:Lb 2 b 0 IE)(W:Lb 2 b 4 GU)
 (o:Lb 2 b e (dU 1 0 [.str [97],.str [98]])) (ae:oQ d 3 2 N [(sl (yQ.map jp.t),none),(M,some (4,(n++[(m,T.arr e 0 0 2 false,w)]).map thT))]) (f:Step 3 b d) (O:jr (FT b (PgV i b) 10) (n.map thT) (l.map iQ.t)) (R:∀v∈l,Yb v)
 (A:∀a,Fp b 3 a->a=3\/4<a) (z:∀a,Fp b 3 a->¬Fp b 2 a) (av:l.length=I) (P:∀a,Fp b 3 a->a<i\/a=3) (ap:4<i) (aA:i<=F.size) (Q:4<e/\i<=e):RdM y d (I+1):=by
 have aE:=g.l8.lt;have al:b.size<=d.size:=f.ok.sz;have X:iS 0 d:=⟨f.ok.hp,f.ok.low,aB _⟩;have C:∀a,Fp b 2 a->d.get a=b.get a:=λa c=>f.get a (g.k.fp a c) λq=>z a q c;have p:=C 2 (.inl rfl);have U:∀a,a<=4->a≠3->¬Fp b 3 a:=λa j h q=>(A a q).elim h λq=>by omega
 have L:∀a x,Lb 2 b a x->a<=4->a≠3->Lb 2 d a x:=λa x u j h=>⟨(f.get a u.lt (U a j h)).trans u.get,by rw[jN p];exact u.nf⟩;have s:∀a,4<a->a<b.size->¬Fp b 2 a->¬Fp b 3 a->PgV d.size d a/\d.get a=b.get a:=λa j h E r=>⟨⟨j,G,by rw[jN p];exact E,λq=>(f.fp a q).elim r λq=>by omega⟩,f.get a h r⟩;have B:∀a,Fp b 3 a->a<i\/a=3:=λa c=>P a c;refine⟨g.k.same X al C,⟨N,M,n++[(m,T.arr e 0 0 2 false,w)],l++[⟨m,0,[[97],[98]],l9⟩],ae,?_,dP,λv ht=>?_,λa c=>?_,λa c q=>?_⟩,L 0 _ Y G G,L 4 _ W G G⟩;rw[List.map_append,List.map_append];refine jr.append (O.ft λa c=>s a c.1 (iH c.2.1) c.2.2.1 c.2.2.2) (.cons ?_ .nil);have K:=s e Q.1 o.lt o.nf λq=>(B e q).elim (λq=>by omega) λq=>by omega
 refine .inr (.inr ⟨_,_,rfl,.cons (lI ..) (.cons (iL ..) (.cons (.inr (.inl ⟨e,0,0,2,false,[.str [97],.str [98]],[.str [97],.str [98]],rfl,K.1,?_,.cons (lI ..) (.cons (lI ..) .nil),rfl⟩)) (.cons (g.sv.ft.mono λa c=>s a (iH c.1) c.2.1 c.2.2.1 λq=>(B a q).elim (λq=>iH c.1) λq=>iH c.1) .nil))),rfl⟩);rw[iU,K.2,o.get];simp;rcases List.mem_append.1 ht with q|q;exact R v q;rw[List.mem_singleton.1 q];refine⟨V,?_,λZ S=>(g.ms Z S).1⟩;have j:=B2 g.ms;have h:=g.len;have E:l9.length*wd 2<=7*wd 2:=bD _ h;have r:wd 2=10000:=rfl;simp only;omega;rcases f.fp a c with q|q;exact A a q;exact .inr G;rw[jN p]at q;rcases f.fp a c with k|k
 exact z a k q;have:=g.k.fp a q;omega
def U0:pI prog cx 105 (λA:List Int=>[sl (A.map (T.int .u8))]) okB (λA r=>∃cp:iJ,r=cp.t/\Sh cp/\cp.d8.length<=100):=by
 refine yF (tb:=⟨pt [(156,Gq),(159,NT),(158,RH),(110,kY.jV)],ht [(91,jS De yc vi),(157,rMs 11)]⟩) jk iX (js 2535301804919368649890680801277 [(15,[(1,7),(1,9)])] func105) (λ_=>1000) (λa b g=>by simp at g;exact j3 (λ_ _ g=>iD g) g) V nl9 ?_;rintro A bs c ec;simp at ec;simp[f105,ec,WA];generalize l:(((H.cons (H.cons hE _) _).cons _).cons _:H)=gS;obtain⟨ca,gi,gv,gP⟩:=XP A l.symm;clear l;refine vK V ca.tp ca.ok G G bs λbA e hd t2 eB=>?_;obtain⟨aA,eH⟩:=ca.tape eB t2;have gj:=gi.step eH G;have eS:e.size=4:=eB.size.trans gP;have eW:binop .add (J 2) (J bA)=D (J ((2+bA:Nat):Int)):=by rw[jf G G];simp
 simp[eW,eS];have hh:2+bA<=4:=G;generalize b7:2+bA=n at*
 refine gW n G (λj c g=>RdM A g j/\TI.Y c 2=D (dY 0)/\TI.Y c 3=D (dY 2)/\TI.Y c 4=D (dY 3)/\TI.Y c 5=D (J n)/\TI.Y c 6=D (.arr 4 0 0 4 false)/\TI.Y c 7=D (J j)) ?_ ?_ G ?_
 .rintro j c g fs e9 ⟨⟨av,bC,aX,nm⟩,e⟩;obtain⟨bH,h,left,set,c1,bN,b9,er,bu,o,an,hl⟩:=av.ex;obtain⟨W,I⟩:=av.set (th':=j) (left':=left) (se':=set) (tx':=c1) (at2:=bN) (lp':=b9) o an hl;have cb:=nm.step W;have eA:=aX.step W;simp[vS]at o W I cb eA;have ff:j<4:=G;obtain⟨U,fE⟩:∃s,nms[j]? =D s:=⟨nms[j]'(by show j<4;omega),aF (by show j<4;omega)⟩;simp[e,fs,o,fD];generalize fF g 2 _=i at*
  have dk:=cb.get;unfold GU at dk;have fo:i.low<=i.size+1:=Nat.le_succ_of_le I.ok.low;simp[e,dk,fE,ff,fo];have hj:=I.lt;have cv:=Step.cons I.ok I.lt (dU 1 0 [.str [97],.str [98]]);have aE:=I.cons (dU 1 0 [.str [97],.str [98]]);have fP:=Lb.new I.lt I.fp (dU 1 0 [.str [97],.str [98]]);have a7:=W.trans cv;have K:Th A (i.cons (dU 1 0 [.str [97],.str [98]])) U i.size 0 ((i.cons (dU 1 0 [.str [97],.str [98]])).cons (dU 4 1 [.eQ [.str U,J 0,.arr i.size 0 0 2 false,dT]])) dT 1 []:=
   ⟨SV.nil _ _ _ _ _,aE.cons _,Step.cons aE.ok aE.lt _,iD (Lb.new aE.lt aE.fp (dU 4 1 [.eQ [.str U,J 0,.arr i.size 0 0 2 false,dT]])),V,V,dP⟩
  have fe:i.size+1=(i.cons (dU 1 0 [.str [97],.str [98]])).size:=rfl;simp only[fe];generalize ha:i.cons (dU 1 0 [.str [97],.str [98]])=u at*
  refine lJ (λc N=>∃X bH S,Th A u U i.size 3 N X bH S/\TI.Y c 2=D (dY 0)/\TI.Y c 3=D (dY 2)/\TI.Y c 4=D (dY 3)/\TI.Y c 5=D (J n)/\TI.Y c 6=D (.arr 4 0 0 4 false)/\TI.Y c 7=D (J j)/\TI.Y c 8=D (dY u.size)) (λl=>?_) (λl=>?_) ?_;simp;refine pU n (λk c N=>1<=k/\(∃X bH S,Th A u U i.size (k-1) N X bH S/\TI.Y c 2=D (dY 0)/\TI.Y c 3=D (dY 2)/\TI.Y c 4=D (dY 3)/\TI.Y c 5=D (J n)/\TI.Y c 6=D (.arr 4 0 0 4 false)/\TI.Y c 7=D (J j)/\TI.Y c 8=D (dY u.size))/\TI.Y c 9=D (J k)) ?_ G (k:=1) G ⟨az _,⟨_,_,_,K,by simp[e]⟩,V⟩;rintro k c N hb ⟨fi,⟨X,eP,S,h,e⟩,ea⟩;have R:=h.l8.get;have fX:=(nm.step a7).step h.st;have dm:=fX.get;unfold GU at dm;have hg:decide ((k:Int)<n)=decide (k<n):=by rw[decide_eq_decide];omega
  simp[e,ea];refine fG (λl=>?_) (λl=>?_);have b7:k<n:=iD l;have fl:k<4:=G;obtain⟨aN,fC⟩:∃s,nms[k]? =D s:=⟨nms[k]'(by show k<4;omega),aF (by show k<4;omega)⟩;have bp:=h.cons (dU 11 0 [spT 12 aN]);obtain⟨eO,bX,F,gA,Z,ae,L⟩:=bp.app (x:= .arr N.size 0 0 1 false) (xs:=[spT 12 aN]) (l2:=[Rx 12 aN]) (n:=1) d4 (.cons (aal 12 aN 6) .nil) (by simp[aak (k:=12) (nm:=aN) (.inl rfl)]) V G;have bW:=gA.trans bp.l8.get;have ds:(u.size=N.size)=False:=qN h.l8.lt;simp[spT]at F;simp[e,ea,dm,fC,fl,R,F,bW,fD,Z,ae];have e5:binop .add (J (k:Int)) (J 1)=D (J ((k+1:Nat):Int)):=by rw[jf G G];simp
  simp[e,e5];exact⟨k+1,G,G,G,⟨eO,_,_,(show k+1-1=k-1+1 by omega)▸L⟩,V⟩;have b7:k=n:=by simp at l;omega
  subst b7;simp[e];exact⟨X,eP,S,h.sv,h.k,h.st,h.l8,h.ms,iH h.len,h.z⟩;simp[e];exact⟨_,_,_,K.sv,K.k,K.st,K.l8,K.ms,iH K.len,K.z⟩
  .rintro c N ⟨X,eP,S,h,e⟩;have R:=h.l8.get;obtain⟨gI,th',left,gz,c1,bN,b9,er,bu,o,an,hl⟩:=h.k.ex;simp[vS]at o;simp[e,R,o];clear o an hl;refine Pf V h.k.tp h.k.ok G G bs λap bZ fi eN eC=>?_;obtain⟨et,eI⟩:=h.k.tape eC eN;have bi:=h.step eI et;have bS:binop .add (J 1) (J ap)=D (J ((1+ap:Nat):Int)):=by rw[jf G G];simp
   have gD:=il (bi.l8.get.trans R.symm);simp[bS,gD];refine ma (ajM 11) V ⟨A,2,1,0,2,1+ap⟩ ⟨⟨V,et,bs,V,V,dQ⟩,V⟩ ?_;rintro hy hE ⟨l2,a8,ef,fB,eu,cL⟩
   dsimp at a8 ef fB eu cL
   have cX:=bi.step cL eu;obtain⟨gQ,de,c7,gn⟩:=a8;have hA:=bi.l8.lt;obtain⟨eO,bX,F,gA,Z,ae,L⟩:=cX.app (n:=3) de.jQ (c7.ft λM B=>⟨⟨iH B.1,B.2.1,B.2.2.1,bi.sv.box (iH B.1)⟩,rfl⟩) ef G G;have a8:=il (cX.l8.get.trans bi.l8.get.symm);have di:=gA.trans cX.l8.get;have eL:=il gA;clear gA eC eI cL eN c7 de gn;cases ee:decide (j=0)
   case' false=>
    simp[e,F,di,eL,a8,fD,Z,ae,ee];generalize fF bX u.size _=O at*
    obtain⟨c4,eR,l9,v⟩:=L.more (m:=7) G
   case' true=>
    simp[e,F,di,eL,a8,fD,Z,ae,ee];generalize fF bX u.size _=O at*
    obtain⟨gI,th',left,gz,c1,bN,b9,er,bu,o,an,hl⟩:=L.k.ex;simp[vS]at o;simp[o];clear o an hl;refine vK V L.k.tp L.k.ok G G bs λfM b6 hf gE gy=>?_;obtain⟨fS,gB⟩:=L.k.tape gy gE;have bn:=L.step gB fS;have e7:=bn.l8.get;have eo:=((nm.step a7).step bn.st).get;unfold GU at eo;simp;refine fG (λl=> ?gd) (λl=> ?gg)
    case' gg=>
     simp;generalize b6=O at*
     obtain⟨c4,eR,l9,v⟩:=bn.more (m:=7) G
    case' gd=>
     have bp:=bn.cons (dU 11 0 [spT 13 [116,49]]);obtain⟨hs,e8,F,gA,Z,ae,gF⟩:=bp.app (x:= .arr b6.size 0 0 1 false) (xs:=[spT 13 [116,49]]) (l2:=[Rx 13 [116,49]]) (n:=1) d4 (.cons (aal 13 [116,49] 6) .nil) (by simp[aak (k:=13) (nm:=[116,49]) (.inr rfl)]) V G;have bW:=gA.trans bp.l8.get;have ds:(u.size=b6.size)=False:=qN bn.l8.lt;have fA:nms[1]? =D [116,49]:=rfl;simp[spT]at F;simp[e,eo,fA,e7,F,bW,fD,Z,ae];generalize fF e8 u.size _=O at*
     obtain⟨c4,eR,l9,v⟩:=gF.more (m:=7) G
   all_goals
    have gk:=bC.step (a7.trans v.st) (az _);have gw:=(eA.step cv).step v.st;have fY:=(cb.step cv).step v.st;have R:=v.l8.get;have eU:=fP.step v.st;obtain⟨gM,c9,E,Xq,C,al,eb,b8,bT,dd⟩:=gk;have Q:=C.get;simp at Q;have ds:(u.size=O.size)=False:=qN v.l8.lt;have e6:∀M,Fp O 3 M->M<g.size:=λM B=>by
     obtain⟨_,_,_,_,eE,_,_,_,_,eV⟩:=bC;have eX:O.get 3=g.get 3:=(a7.trans v.st).get 3 eE.lt (eV 3 (.inl rfl));rw[jN eX]at B;exact eE.fp M B
    have gV:(3=O.size)=False:=qN C.lt;have gX:E.length=j:=by have:=al.length;simp at this;omega
    obtain⟨hv,gZ,eT,c6⟩:=(C.gr 1 rfl).mR (cx:=cx) (f:=thT) C.ok Za rfl Y5 rfl V (λx=>rfl) (U,.arr i.size 0 0 2 false,c4) dP;obtain⟨ey,hq,gm⟩:=C.app 1 rfl c6;obtain⟨eK,eF⟩:=gm _ rfl;simp at ey eK eF;simp[thT]at eT;simp[e,Q,R,eT,ey,fD,c6.1.iW,c6.1.cells,e9];exact ahh v gw fY eU eF eK al b8 bT dd eb (λM B=> .inl (e6 M B)) (iH nm.lt) (iH a7.ok.sz) ⟨by have:=nm.lt;have:=W.ok.sz;omega,W.ok.sz⟩
 rintro c g ⟨⟨av,bC,aX,nm⟩,e⟩;obtain⟨gM,c9,E,Xq,C,al,eb,b8,bT,dd⟩:=bC;have Q:=C.get;simp at Q;have P:=aX.get;unfold IE at P;have bZ:=Vf (Xq:=Xq) G b8;have e0:=(C.gr 1 rfl).MD (d:=10) G al;have bS:=λ{tb:ik} (ht:tb.p 110=D kY.jV)=>c04 ht ⟨yQ,Xq⟩ bZ.1;simp[e,Q,e0,bS];have fW:(0=g.size)=False:=qN aX.lt;have dn:∀y,(fF g 0 y).get 0=D y:=λy=>(ez P y 0).trans (ax rfl);refine fG (λl=>?_) (λl=>?_);have ap:(g.size=g.size+1+1)=False:=by simp<;>omega
 have fM:(g.size+1=g.size+1+1)=False:=V;have ho:(g.size=g.size+1)=False:=V;simp[e,P,WA,Zn,xP,fW,dn,fD,aX.lt,iU,BI,fg,ap];have fv:∀eM∈ [(⟨[109,97,105,110],0,[[97],[98]],[Ib [120] [] ⟨1,1,[],[]⟩]⟩:iQ)],Yb eM:=λeM ht=>by
  rw[List.mem_singleton.1 ht];have fL:(Ib [120] [] ⟨1,1,[],[]⟩).w<=wd 0:=Q6 (by rw[fy.jX];omega) (by rw[fy.nG];simp[fy.jX]);refine⟨V,?_,λs bu=>?_⟩;simp[eY.lq,eY.jX];unfold wd at fL;omega;rw[List.mem_singleton.1 bu];exact HV V (.num 1) (λq=>absurd rfl q)
 exact⟨⟨⟨yQ,[⟨[109,97,105,110],0,[[97],[98]],[Ib [120] [] ⟨1,1,[],[]⟩]⟩]⟩,rfl,Vf V fv,V⟩,av.ok.hp⟩;have l3:Lb 3 g 0 (dU 2 0 [.eQ [dT,dT]]):=⟨P,λq=>(bT 0 q).elim G G⟩;have e4:=((C.rx l3 (dU 2 1 [.eQ [sl (yQ.map jp.t),c9]])).gr 1 rfl).MD (d:=10) G (al.ft (V':=λ_=>True) λb fb=>⟨trivial,by rw[ez P,aw (iH fb.1)]⟩);simp[e,Q,P,fD,dn,e4];exact⟨⟨⟨yQ,Xq⟩,rfl,bZ,dQ⟩,av.ok.hp⟩;have eD:=Step.cons aA.ok aA.lt GU;have eh:=Lb.new aA.lt aA.fp GU;rw[eS]at eh;simp;exact⟨⟨aA.cons _,(gj.step eD G).wide dP,(gv.step eH).step eD,eh⟩,G⟩
end
def IW:pI prog cx 51 (λa:List Int=>[sl (a.map (T.int .u8))]) (λa=>okB a/\a.length<=1000000) (λa p=>∃c:List io,p=sl (c.map io.t)/\c.length=a.length):=by refine j2 [] (js 285 [] func51) (λa=>a.length+5) (λq r b=>by simp at b;exact j3 (λ_ _ b=>iD b) b) ?_;rintro a ⟨⟨_,n⟩,x⟩ e m;simp at m;simp[f51];refine gW a.length G (λd e b=>∃g,∃c:List io,Gr b g 2 (c.map io.t)/\iS 0 b/\c.length=d/\TI.Y e 0=D (sl (a.map (T.int .u8)))/\TI.Y e 3=D g/\TI.Y e 4=D (J d)) ?_ ?_ G ⟨dT,[],Gr.nil _ _,by exact⟨V,V,V⟩,rfl,by simp[m]⟩;rintro d e b o y ⟨g,c,h,i,l,k⟩;have z:=n a[d] (aH o);have s: -9223372036854775808<=a[d]:=G;have u:a[d]<9223372036854775808:=G;have⟨A,w,v,j⟩:=h.mR (cx:=cx) (f:=io.t) i KA rfl Kz rfl V (λ_=>rfl) (⟨a[d].tmod 4,IntKind.i64.wrap ((IntKind.i64.wrap (a[d].tdiv 4)).tmod 5-1)⟩:io) dP;simp[*,Gf (show¬(4:Int)=0 by omega),abG (show¬(4:Int)=0 by omega),Gf (show¬(5:Int)=0 by omega),tv];exact⟨_,_,j.1,⟨j.2.2.2.hp,j.2.2.2.low,aB _⟩,dP,rfl⟩;rintro e b ⟨g,c,h,i,l,k⟩;simp[k];exact⟨_,⟨c,rfl,l⟩,i.hp,by rw[Kr g h.iW,h.qY V]⟩
