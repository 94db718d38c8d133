/- W02 -/
import Derived.Test.YtdpclhaknmicoaaGreatDoorA11
import Derived.Test.YtdpclhaknmicoaaGreatDoorA8
set_option linter.all false
set_option maxRecDepth 100000
set_option maxHeartbeats 0
namespace Go.Proofs.YtdpclhaknmicoaaGreatDoor
noncomputable section
open Go Go.TI Tryz
attribute [-simp] List.map_take List.map_drop List.map_append ik gu fI Bool.not_or Bool.not_and
def Pu:p8 prog cx 273 (λa:fJ=>[a.t]) (λ_=>True) (λ_=>MR):=by refine jX [] (jz 7 [] func273) (λ_=>5) (λd e b=>by simp at b;exact fJ.inj b) ?_;rintro a-f c;simp at c;simp[f273,c]
def Gj:p8 prog cx 294 (λc:Int=>[M c]) (λ_=>True) (λ_=>IU):=by
 refine jX [] (jz 132109 [] func294) (λ_=>5) (λe f d=>iC d) ?_;rintro c-g a;simp at a;simp[f294,a]
 repeat' (refine fO (λb=>?_) (λb=>?_)<;>simp[b,a])
def rQ:p8 prog cx 272 (λa:fJ=>[a.t]) (λa=>a.w<=1099511627776) (λ_=>MR):=by
 refine EV (λa=>a.w) λj i=>?_;refine jX [(294,Gj.kx),(129,Cf),(272,i.kx)] (jz 18483898770635358239 [(2,[(2,4)])] func272) (λa=>a.w+5) (λq k b=>by simp at b;exact fJ.inj b) ?_;rintro a ⟨x,u⟩ c n;simp at n;obtain⟨_,⟨y,rfl⟩,r⟩:=Gj.use a.op trivial;have hl:=fJ.yf (l:=a.l);have v:=a.nN;simp[*,f272,tT];refine fO (λd=>?_) (λd=>?_);simp;simp;refine io a.l.length J (λj c b=>jk 1 b/\b.get 0=G (eg 4 0 [a.t])/\jg c 1 0/\iS c 4 j) ?_ ?_ J ?_
 .rintro p c b h o ⟨e,f,g,m⟩;obtain⟨_,⟨k,rfl⟩,s⟩:=i.use a.l[p] ⟨iV (fJ.yP (aG h)),iV (fJ.yP (aG h))⟩;simp[*]
  repeat' (refine fO (λd=>?_) (λd=>?_)<;>simp[d,e.hp,f,g,m,e,o])
 rintro c b ⟨e,f,g⟩;simp[*,e.hp];simp
def Cx:p8 prog cx 197 (λd:js=>[d.t]) (λ_=>True) (λ_=>MR):=by
 refine jX [(129,Cf)] (jz 1125902054326279 [] func197) (λ_=>5) (λe f a=>by simp at a;exact js.inj a) ?_;rintro g-h b;simp at b;simp[f197,b,tT]
 repeat' (refine fO (λc=>?_) (λc=>?_)<;>simp[c,tT])
def HM(m:Nat)(f:p8 prog cx 198 (λc:List fk=>[sl (c.map fk.t)]) (λc=>fk.ws c<=1099511627776/\fk.ws c<m) (λ_=>MR)):
 p8 prog cx 243 (λa:fk=>[a.t]) (λa=>a.w<=1099511627776/\a.w<m+1) (λ_=>MR):=by
 refine jX [(272,rQ.kx),(129,Cf),(198,f.kx),(273,Pu.kx)] (jz 182687706027492332498828539273953093013162958911 [] func243) (λ_=>5) (λq r k=>by simp at k;exact fk.inj k) ?_;rintro a ⟨l,p⟩ B o;simp at o;rw[a.nN]at l p;obtain⟨_,⟨s,rfl⟩,g⟩:=rQ.use a.e J;obtain⟨_,⟨u,rfl⟩,h⟩:=f.use a.body ⟨J,J⟩;obtain⟨_,⟨v,rfl⟩,i⟩:=f.use a.RR ⟨J,J⟩;obtain⟨_,⟨y,rfl⟩,j⟩:=Pu.use a.e trivial
 match d:a.index with
 | []=>
  simp[*,f243]
  repeat' (refine fO (λb=>?_) (λb=>?_)<;>simp[b,tT,g,h,i,j,d])
 |x::A=>
  obtain⟨_,⟨z,rfl⟩,n⟩:=rQ.use x (by rw[d,fJ.ly]at l;omega);simp[*,f243]
  repeat' (refine fO (λb=>?_) (λb=>?_)<;>simp[b,tT,g,h,i,j,n,d])
def FF(c:Nat)(h:p8 prog cx 243 (λd:fk=>[d.t]) (λd=>d.w<=1099511627776/\d.w<c) (λ_=>MR)):
 p8 prog cx 198 (λl:List fk=>[sl (l.map fk.t)]) (λl=>fk.ws l<=1099511627776/\fk.ws l<c) (λ_=>MR):=by
 refine jX [(243,h.kx)] (jz 32909 [] func198) (λl=>l.length+1) (λo i a=>jD (λ_ _=>fk.inj) (iC a)) ?_;rintro l ⟨r,q⟩ b f;simp at f;have hl:=fk.yf (l:=l);simp[f198];refine io l.length J (λc b a=>a=hE/\ka b 0 (sl (l.map fk.t))/\iS b 3 c) ?_ ?_ J (by simp[f])
 .rintro n b a m k ⟨rfl,e,j⟩;have:=fk.yP (aG m);obtain⟨_,⟨i,rfl⟩,p⟩:=h.use l[n] ⟨J,J⟩;simp[*]
  repeat' (refine fO (λg=>?_) (λg=>?_)<;>simp[g,e,j,k])
 rintro b a ⟨rfl,e⟩;simp[e]
def AW:p8 prog cx 198 (λa:List fk=>[sl (a.map fk.t)]) (λa=>fk.ws a<=1099511627776) (λ_=>MR):=by
 have e:∀c,p8 prog cx 198 (λa:List fk=>[sl (a.map fk.t)]) (λa=>fk.ws a<=1099511627776/\fk.ws a<c) (λ_=>MR):=by
  intro c;induction c with
  |zero=>exact⟨λd b=>absurd b.2 (Nat.not_lt_zero _),λd b=>absurd b.2 (Nat.not_lt_zero _)⟩
  |succ c f=>exact FF (c+1) (HM c f)
 exact⟨λd b=>(e _).1 d ⟨b,dE _⟩,λd b=>(e _).2 d ⟨b,dE _⟩⟩
def WF(a:iH):Prop:=a.kr.length<=1000000/\a.eY.length<=1000000/\∀b∈a.eY,b.locals.length<=1000000/\fk.ws b.body<=1000000
def Lh:p8 prog cx 151 (λw:iH=>[w.t]) WF (λ_=>MR):=by
 refine jX [(197,Cx.kx),(129,Cf),(198,AW.kx)] (jz 72128100255664255 [] func151) (λw=>1000005) (λB b d=>by simp at d;exact iH.inj d) ?_;rintro⟨k,h⟩ ⟨A,ht,v⟩ a s;simp at A ht v s;simp[f151,s];refine io k.length J (λj a d=>jk 1 d/\d.get 0=G (eg 2 0 [iH.t ⟨k,h⟩])/\jg a 1 0/\iS a 3 j) ?_ ?_ J Y
 .rintro i a d u n ⟨c,e,f,y⟩;obtain⟨_,⟨b,rfl⟩,x⟩:=Cx.use k[i] trivial;simp[*]
  repeat' (refine fO (λg=>?_) (λg=>?_)<;>simp[g,e,f,y,n,c.hp,c])
 rintro a d ⟨c,e,f⟩;simp[*];refine io h.length J (λj a d=>jk 1 d/\d.get 0=G (eg 2 0 [iH.t ⟨k,h⟩])/\jg a 1 0/\iS a 4 j) ?_ ?_ J (by simp[*])
 .rintro i a d u n ⟨c,e,f⟩;have E:=c.ne (b:=0) J;have⟨hl,C⟩:=v h[i] (aG u);obtain⟨_,⟨b,rfl⟩,x⟩:=AW.use h[i].body J;simp[*,c.low];generalize h[i]=o at*
  have F:=(c.cons (eg 4 1 [o.t]));refine io o.locals.length J (λj a l=>jk 1 l/\l.get 0=G (eg 2 0 [iH.t ⟨k,h⟩])/\l.get d.size=G (eg 4 1 [o.t])/\jg a 1 0/\iS a 4 i/\jg a 5 d.size/\iS a 6 j) ?_ ?_ J (by simp[*])
  .rintro j a l D z ⟨c,e,p,f,m,q,r⟩;simp[*,tT]
   repeat' (refine fO (λg=>?_) (λg=>?_)<;>simp[g,e,p,f,m,q,r,z,c.hp,c])
  .rintro a l ⟨c,e,p,f,m,q,r⟩;simp[*,tT]
   repeat' (refine fO (λg=>?_) (λg=>?_)<;>simp[g,e,f,m,n,c.hp,c])
 rintro a d ⟨c,e,f⟩;simp[*,c.hp]
def Ks:∀(c:List (List Nat)) (b:List Nat) (a:Nat),uO c b a=-1\/∃d,d<c.length/\uO c b a=((a+d:Nat):Int)
 | [],b,a=> .inl rfl
 |x::c,b,a=>by
  rw[uO];by_cases f:x=b;rw[au f];exact .inr ⟨0,Y,Y⟩;rw[aq f];rcases Ks c b (a+1)with e|⟨d,g,e⟩
  exact .inl e;exact .inr ⟨d+1,iC g,by rw[e];congr 1;omega⟩
def qD:iF:=⟨List js×List Nat,λa=>[sl (a.1.map js.t),.str a.2],λa=>a.1.length<=1099511627776,λa=> M (uO (a.1.map js.name) a.2 0),λa c b=>by
 simp at b;rw[jD (λ_ _=>js.inj) b.1,b.2]⟩
def Uc:qD.Ok prog cx 199:=by refine iD [] (jz 262707 [] func199) (λk=>k.1.length+1) (by simp[qD]) ?_;rintro⟨e,h⟩ hl b j;simp[qD]at hl j|-;simp[f199];refine io e.length J (λd b f=>f=hE/\ka b 0 (sl (e.map js.t))/\ka b 1 (.str h)/\iS b 5 d/\uO ((e.drop d).map js.name) h d=uO (e.map js.name) h 0) ?_ ?_ J (by simp[j]);rintro d b f m n ⟨rfl,i,l,g,a⟩;rw[aJ m,aS,uO]at a;simp[*];refine fO (λc=>?_) (λc=>?_);simp at c;rw[au c]at a;simp[g,<-a];simp at c;rw[aq c]at a;simp[*];rintro b f ⟨rfl,i,l,g,a⟩;simp[uO]at a;simp[i,g,<-a]
def Fd{c:iq}(ht:c.p 199=G qD)(a:List js)(b:List Nat)(hl:a.length<=1099511627776):rl prog cx c 199 [sl (a.map js.t),.str b]=G (M (uO (a.map js.name) b 0)):=iL ht Uc (a,b) hl
def oa:iF:=⟨List iQ×List Nat,λa=>[sl (a.1.map iQ.t),.str a.2],λa=>a.1.length<=1099511627776,λa=> M (uO (a.1.map iQ.name) a.2 0),λa c b=>by
 simp at b;rw[jD (λ_ _=>iQ.inj) b.1,b.2]⟩
def Nx:oa.Ok prog cx 200:=by refine iD [] (jz 262707 [] func200) (λk=>k.1.length+1) (by simp[oa]) ?_;rintro⟨e,h⟩ hl b j;simp[oa]at hl j|-;simp[f200];refine io e.length J (λd b f=>f=hE/\ka b 0 (sl (e.map iQ.t))/\ka b 1 (.str h)/\iS b 5 d/\uO ((e.drop d).map iQ.name) h d=uO (e.map iQ.name) h 0) ?_ ?_ J (by simp[j]);rintro d b f m n ⟨rfl,i,l,g,a⟩;rw[aJ m,aS,uO]at a;simp[*];refine fO (λc=>?_) (λc=>?_);simp at c;rw[au c]at a;simp[g,<-a];simp at c;rw[aq c]at a;simp[*];rintro b f ⟨rfl,i,l,g,a⟩;simp[uO]at a;simp[i,g,<-a]
def AD{c:iq}(ht:c.p 200=G oa)(a:List iQ)(b:List Nat)(hl:a.length<=1099511627776):rl prog cx c 200 [sl (a.map iQ.t),.str b]=G (M (uO (a.map iQ.name) b 0)):=iL ht Nx (a,b) hl
def Lm:p8 prog cx 274 (λf:iH×Int×List Nat=>[f.1.t,M f.2.1,.str f.2.2]) (λf=>WF f.1) (λ_=>IU):=by
 refine jX [(130,FU),(199,qD),(200,oa)] (jz 99132251962343631 [] func274) (λ_=>5) (λf B b=>by simp at b;obtain⟨v,g,y⟩:=b;exact aD (iH.inj v) (aD g y)) ?_;rintro⟨⟨s,d⟩,c,i⟩ ⟨z,ht,o⟩ D w;simp at z ht o w;obtain⟨C,v,g⟩:=w;have j:=λ{e:iq} (b:e.p 199=G qD)=>Fd b s i J;have k:=λ{e:iq} (b:e.p 200=G oa)=>AD b d i J;have u:c<0\/(d.length:Int)<=c\/∃r:Nat,r<d.length/\c=r:=by
  by_cases q:c<0;exact .inl q;by_cases A:(d.length:Int)<=c;exact .inr (.inl A);exact .inr (.inr ⟨c.toNat,J,J⟩)
 rcases Ks (s.map js.name) i 0 with m|⟨r,l,m⟩
 .simp[m]at j;rcases u with q|q|⟨h,n,rfl⟩
  .simp[*,f274,show¬0<=c by omega]
   repeat' (refine fO (λa=>?_) (λa=>?_)<;>simp[a])
  .simp[*,f274,show¬c<d.length by omega]
   repeat' (refine fO (λa=>?_) (λa=>?_)<;>simp[a])
  .have x:=λ{e:iq} (b:e.p 130=G FU)=>Sk b d[h].locals i (iV (o d[h] (aG n)).1);simp[*,f274]
   repeat' (refine fO (λa=>?_) (λa=>?_)<;>simp[a,g,j,k])
 .simp at l m;simp[m]at j;rcases u with q|q|⟨h,n,rfl⟩
  .simp[*,f274,show¬0<=c by omega]
   repeat' (refine fO (λa=>?_) (λa=>?_)<;>simp[a,g,k,l])
  .simp[*,f274,show¬c<d.length by omega]
   repeat' (refine fO (λa=>?_) (λa=>?_)<;>simp[a,g,k,l])
  .have x:=λ{e:iq} (b:e.p 130=G FU)=>Sk b d[h].locals i (iV (o d[h] (aG n)).1);simp[*,f274]
   repeat' (refine fO (λa=>?_) (λa=>?_)<;>simp[a,g,j,k,l])
def DB:p8 prog cx 246 (λa:iH×Int×List Nat×Int×Int=>[a.1.t,M a.2.1,.str a.2.2.1,M a.2.2.2.1,M a.2.2.2.2]) (λa=>WF a.1) (λ_=>IU):=by
 refine jX [(274,Lm.kx)] (jz 33688639 [] func246) (λ_=>5) (λa f c=>by simp at c;obtain⟨h,i,j,k,l⟩:=c;exact aD (iH.inj h) (aD i (aD j (aD k l)))) ?_;rintro⟨m,o,n,a,f⟩ e q b;simp at e b;obtain⟨_,⟨p,rfl⟩,g⟩:=Lm.use (m,o,n) e;simp[f246,b,g]
 repeat' (refine fO (λd=>?_) (λd=>?_)<;>simp[d,b])
def IC:p8 prog cx 248 (λa:Bool=>[.bool a]) (λ_=>True) (λ_=>IU):=by
 refine jX [] (jz 13 [] func248) (λ_=>5) (λe a d=>iC d) ?_;rintro a-f b;simp at b;simp[f248,b]
 repeat' (refine fO (λc=>?_) (λc=>?_)<;>simp[c])
def aaV:p8 prog cx 245 (λa:Int×Int=>[M a.1,M a.2]) (λ_=>True) (λa f=>f= M (if a.1=0 then a.2 else a.1)):=by refine jX [] (jz 83 [] func245) (λ_=>5) (λa e b=>by simp at b;exact aD b.1 b.2) ?_;rintro⟨a,e⟩-g c;simp at c;simp[f245,c];refine fO (λd=>?_) (λd=>?_)<;>simp at d<;>simp[*]
def Pr:p8 prog cx 275 (λa:fJ=>[a.t]) (λa=>a.w<=1099511627776) (λ_=>LS):=by refine EV (λa=>a.w) λi h=>?_;refine jX [(275,h.kx)] (jz 8703 [] func275) (λa=>a.w+5) (λe f b=>by simp at b;exact fJ.inj b) ?_;rintro a ⟨A,y⟩ c g;simp at g;have hl:=fJ.yf (l:=a.l);have z:=a.nN;simp[f275,g];refine io a.l.length J (λi c b=>jk 1 b/\b.get 0=G (eg 4 0 [a.t])/\jg c 1 0/\(∃d,iS c 4 d)/\(∃d,iS c 5 d)/\iS c 6 i) ?_ ?_ J ?_;rintro r c b q x ⟨j,k,m,⟨e,n⟩,⟨f,o⟩,p⟩;have:=fJ.yP (aG q);obtain⟨_,⟨s,u,rfl⟩,v⟩:=h.use a.l[r] ⟨J,J⟩;simp[*,tz];rintro c b ⟨j,k,m,⟨e,n⟩,⟨f,o⟩,p⟩;simp[*,j.hp,tz];simp
def ID:p8 prog cx 276 (λa:iH×Int×fJ=>[a.1.t,M a.2.1,a.2.2.t]) (λa=>WF a.1/\a.2.2.w<=1099511627776) (λ_=>IU):=by
 refine EV (λa=>a.2.2.w) λq p=>?_;refine jX [(246,DB.kx),(276,p.kx)] (jz 8590200303 [] func276) (λa=>a.2.2.w+5) (λa H c=>by simp at c;obtain⟨i,z,j⟩:=c;exact aD (iH.inj i) (aD z (fJ.inj j))) ?_;rintro⟨g,h,b⟩ ⟨⟨f,F⟩,E⟩ d k
 dsimp at f F E
 simp at k;have hl:=fJ.yf (l:=b.l);have K:=b.nN;obtain⟨_,⟨N,rfl⟩,v⟩:=DB.use (g,h,b.name,8,1) f;obtain⟨_,⟨O,rfl⟩,x⟩:=DB.use (g,h,b.name,2,2) f;simp[*,f276]
 repeat' (refine fO (λe=>?_) (λe=>?_)<;>simp[e,k,v,x])
 all_goals
  refine VW b.l.length (λq d c=>jk 2 c/\c.get 0=G (eg 2 0 [g.t])/\c.get 1=G (eg 4 0 [b.t])/\iS d 1 h/\jg d 3 0/\jg d 5 1/\(∃r,iS d 7 r)/\iS d 8 q) ?_ J (az _) (by simp[k]);rintro o d c I ⟨n,s,u,i,j,A,⟨r,B⟩,C⟩;by_cases m:o<b.l.length
  .have:=fJ.yP (aG m);have D:=OH m J;obtain⟨_,⟨L,rfl⟩,y⟩:=p.use (g,h,b.l[o]) ⟨⟨f,dZ⟩,dZ⟩;simp[*]
   repeat' (refine fO (λe=>?_) (λe=>?_)<;>simp[e,n,n.hp,s,u,i,j,A,B,C,m,y,D])
  simp[*,n.hp]
def Gl:p8 prog cx 247 (λa:iH×Int×fJ=>[a.1.t,M a.2.1,a.2.2.t]) (λa=>WF a.1/\a.2.2.w<=1099511627776) (λ_=>IU):=by
 refine jX [(272,rQ.kx),(275,Pr.kx),(276,ID.kx)] (jz 4196847 [] func247) (λa=>5) (λa o d=>by simp at d;obtain⟨i,j,k⟩:=d;exact aD (iH.inj i) (aD j (fJ.inj k))) ?_;rintro⟨m,n,b⟩ ⟨l,c⟩ v e;simp at e;obtain⟨_,⟨q,rfl⟩,p⟩:=rQ.use b c;obtain⟨_,⟨r,u,rfl⟩,g⟩:=Pr.use b c;obtain⟨_,⟨s,rfl⟩,h⟩:=ID.use (m,n,b) ⟨l,c⟩;simp[*,f247]
 repeat' (refine fO (λf=>?_) (λf=>?_)<;>simp[f,e,g,h])
def Pt:p8 prog cx 154 (λl:List fk=>[sl (l.map fk.t)]) (λl=>fk.ws l<=1099511627776) (λ_=>IU):=by refine EV (λl=>fk.ws l) λg e=>?_;refine jX [(154,e.kx)] (jz 1053 [(5,[(6,10),(6,12)])] func154) (λl=>l.length+1) (λn h b=>jD (λ_ _=>fk.inj) (iC b)) ?_;rintro l ⟨u,s⟩ a c;simp at c;have hl:=fk.yf (l:=l);simp[f154,c];refine io l.length J (λg a b=>b=hE/\ka a 0 (sl (l.map fk.t))/\(∃f,iS a 3 f)/\iS a 4 g) ?_ ?_ J (by simp[c]);rintro d a b m r ⟨rfl,i,⟨f,j⟩,k⟩;have:=fk.yP (aG m);rw[l[d].nN]at this;obtain⟨_,⟨h,rfl⟩,p⟩:=e.use l[d].body ⟨J,J⟩;obtain⟨_,⟨o,rfl⟩,q⟩:=e.use l[d].RR ⟨J,J⟩;simp[*,tz];rintro a b ⟨rfl,i,⟨f,j⟩,k⟩;simp[*]
def Er:p8 prog cx 153 (λx:iH=>[x.t]) WF (λ_=>LS):=by
 refine jX [(130,FU),(199,qD),(200,oa)] (jz 1237940043933112819970491391 [] func153) (λx=>1000005) (λF b a=>by simp at a;exact iH.inj a) ?_;rintro⟨n,e⟩ ⟨D,ht,w⟩ c s;simp at D ht w s;simp[f153,s];have I:=λ{k:iq} (a:k.p 199=G qD) j=>Fd a n j J;refine io e.length J (λi c a=>jk 1 a/\a.get 0=G (eg 2 0 [iH.t ⟨n,e⟩])/\jg c 1 0/\iS c 4 i) ?_ ?_ J Y
 .rintro m c a q u ⟨d,f,g,y⟩;have v:=d.ne (b:=0) J;have K:=λ{k:iq} (a:k.p 200=G oa) j=>AD a (e.take m) j (by rw[List.length_take];omega);simp[*,d.low,bQ q]
  repeat' (refine fO (λh=>?_) (λh=>?_)<;>simp[h,f,g,y,u,d.hp,d,v,jk.cons])
 rintro c a ⟨d,f,g⟩;simp[*];refine io e.length J (λi c a=>jk 1 a/\a.get 0=G (eg 2 0 [iH.t ⟨n,e⟩])/\jg c 1 0/\iS c 6 i) ?_ ?_ J (by simp[*])
 .rintro m c a q u ⟨d,f,g⟩;have v:=d.ne (b:=0) J;have⟨hl,L⟩:=w e[m] (aG q);simp[*,d.low];generalize e[m]=o at*
  have N:=(d.cons (eg 4 1 [o.t]));refine fO (λh=>?_) (λh=>?_);simp[*,d.hp];simp;refine io o.locals.length J (λi c l=>jk 1 l/\l.get 0=G (eg 2 0 [iH.t ⟨n,e⟩])/\l.get a.size=G (eg 4 1 [o.t])/\jg c 1 0/\iS c 6 m/\jg c 7 a.size/\iS c 8 i) ?_ ?_ J (by simp[*])
  .rintro i c l E C ⟨d,f,r,g,z,A,B⟩;have H:=λ{k:iq} (a:k.p 130=G FU) j=>Sk a (o.locals.take i) j (by rw[List.length_take];omega);simp[*,(λ{k:iq} (a:k.p 200=G oa) j=>AD a e j J),bQ E]
   repeat' (refine fO (λh=>?_) (λh=>?_)<;>simp[h,f,r,g,z,A,B,C,d.hp,d])
  rintro c l ⟨d,f,r,g⟩;simp[*]
 rintro c a ⟨d,f,g⟩;simp[*,d.hp]
def wB:iF:=⟨fU×List Nat,λa=>[a.1.t,.str a.2],λa=>a.1.cells.length<=1000000,λa=> M (uO (a.1.cells.map jm.name) a.2 0),λa c b=>by
 simp at b;rw[fU.inj b.1,b.2]⟩
def Um:wB.Ok prog cx 249:=by refine iD [] (jz 1049655 [] func249) (λm=>m.1.cells.length+1) (by simp[wB]) ?_;rintro⟨f,j⟩ hl b h;simp[wB]at hl h|-;simp[f249,h];refine io f.cells.length J (λe b d=>jk 1 d/\d.get 0=G (eg 6 0 [f.t])/\ka b 1 (.str j)/\jg b 2 0/\iS b 5 e/\uO ((f.cells.drop e).map jm.name) j e=uO (f.cells.map jm.name) j 0) ?_ ?_ J (by simp[h]);rintro e b d o p ⟨i,k,n,l,g,a⟩;rw[aJ o,aS,uO]at a;simp[*];refine fO (λc=>?_) (λc=>?_);simp at c;rw[au c]at a;simp[g,<-a,i.hp];simp at c;rw[aq c]at a;simp[*];rintro b d ⟨i,k,n,l,g,a⟩;simp[uO]at a;simp[k,l,g,<-a,i.hp]
def Qi{c:iq}(ht:c.p 249=G wB)(a:fU)(b:List Nat)(hl:a.cells.length<=1000000):rl prog cx c 249 [a.t,.str b]=G (M (uO (a.cells.map jm.name) b 0)):=iL ht Um (a,b) hl
def wu:iF:=⟨List jI×List Nat,λa=>[sl (a.1.map jI.t),.str a.2],λa=>a.1.length<=1000000,λa=> M (uO (a.1.map jI.name) a.2 0),λa c b=>by
 simp at b;rw[jD (λ_ _=>jI.inj) b.1,b.2]⟩
def TY:wu.Ok prog cx 156:=by refine iD [] (jz 262707 [] func156) (λk=>k.1.length+1) (by simp[wu]) ?_;rintro⟨e,h⟩ hl b j;simp[wu]at hl j|-;simp[f156];refine io e.length J (λd b f=>f=hE/\ka b 0 (sl (e.map jI.t))/\ka b 1 (.str h)/\iS b 5 d/\uO ((e.drop d).map jI.name) h d=uO (e.map jI.name) h 0) ?_ ?_ J (by simp[j]);rintro d b f m n ⟨rfl,i,l,g,a⟩;rw[aJ m,aS,uO]at a;simp[*];refine fO (λc=>?_) (λc=>?_);simp at c;rw[au c]at a;simp[g,<-a];simp at c;rw[aq c]at a;simp[*];rintro b f ⟨rfl,i,l,g,a⟩;simp[uO]at a;simp[i,g,<-a]
def Qf{c:iq}(ht:c.p 156=G wu)(a:List jI)(b:List Nat)(hl:a.length<=1000000):rl prog cx c 156 [sl (a.map jI.t),.str b]=G (M (uO (a.map jI.name) b 0)):=iL ht TY (a,b) hl
def wU(W:fU)(a:List (List Nat))(b:T)(c next:Int):List T:=
 [sl (W.cells.map jm.t),sl (W.fT.map jI.t),sl (W.jl.map ke.t),sl (W.fR.map T.str),sl (W.eY.map T.str),sl (W.jM.map jJ.t),sl (a.map T.str),b,M c,M next]
structure Gn(W:fU)(L:List (List Nat))(n:Nat)(h:H)(g:Nat):Prop where
 ok:jk 0 h
 fp:∀b,Fp h g b->b<h.size
 ex:∃ver ov j7 next,∃O:List iK,h.get g=G (eg 10 ver [.agg (wU W L ov j7 next)])/\Gr h ov 6 (O.map iK.t)/\O.length=n/\∀x∈O,cI x
def Gn.lt{W:fU}{c:List (List Nat)}{e:Nat}{b:H}{a:Nat}(d:Gn W c e b a):a<b.size:=d.fp a (.inl rfl)
def Gn.same{W:fU}{f:List (List Nat)}{k:Nat}{c d:H}{b:Nat}(j:Gn W f k c b)(q:jk 0 d)(h:∀a,Fp c b a->d.get a=c.get a)(p:c.size<=d.size):Gn W f k d b:=by obtain⟨s,l,r,next,m,g,n,o⟩:=j.ex;have i:=h b (.inl rfl);exact⟨q,λa e=>by rw[jY i]at e;exact bS (j.fp a e) p,s,l,r,next,m,i▸g,n.mono λa e=>h a (.inr ⟨_,g,l,by simp[iy,T.cells,wU],e⟩),o⟩
theorem Gn.cons{W:fU}{b:List (List Nat)}{e:Nat}{d:H}{c:Nat}(a:Gn W b e d c)(f:jO):Gn W b e (d.cons f) c:=
 a.same (a.ok.cons f) (λg h=>by rw[fH,aq (iV (a.fp g h))]) Y 
def Gn.hr{W:fU}{b:List (List Nat)}{e:Nat}{a:H}{c:Nat}(d:Gn W b e a c):Gn W b e (TI.hr a) c:=d.same d.ok.hr (λf _=>iZ a f) (ay _)
def Gn.out{W:fU}{b:List (List Nat)}{e:Nat}{h a:H}{c:Nat}(d:Gn W b e a c):Gn W b e (mV h a) c:=d.same (d.ok.out h) (λf _=>iJ h a f) (ay _)
def Gn.LC{W:fU}{a:List (List Nat)}{h b g:Nat}{c:H}{d:T}{q next:Int}{e:List iK}(k:Gn W a h c b)(l:c.get b=G (eg 10 g [.agg (wU W a d q next)]))(gO:Gr c d 6 (e.map iK.t))(m:e.length=h/\∀r∈e,cI r)(f next':Int):
 Step b c (fQ c b (eg 10 (g+1) [.agg (wU W a d f next')]))/\Gn W a h (fQ c b (eg 10 (g+1) [.agg (wU W a d f next')])) b:=by
 obtain⟨i,n,o,p⟩:=Jz k.ok k.fp l (cells':=wU W a d f next') (λs j=>by
  simp[wU]at j|-;rcases j with rfl|rfl|rfl|rfl|rfl|rfl|rfl|rfl|rfl|rfl<;>simp) _ rfl
 exact⟨i,⟨i.ok.hp,i.ok.low,az _⟩,n,g+1,d,f,next',e,o,p _ _ _ gO d6,m⟩
def Gn.app{W:fU}{b:List (List Nat)}{n a g:Nat}{c e:H}{h j:T}{f next:Int}{d:List iK}{x:iK}(q:Gn W b n c a)(k:c.get a=G (eg 10 g [.agg (wU W b h f next)]))(gO:Gr c h 6 (d.map iK.t))(o:d.length=n/\∀x∈d,cI x)(v:cI x)(u:EU c h 6 (d.map iK.t++[x.t]) j e):
 e.get a=G (eg 10 g [.agg (wU W b h f next)])/\il c e a/\Step a c (fQ e a (eg 10 (g+1) [.agg (wU W b j f next)]))/\Gn W b (n+1) (fQ e a (eg 10 (g+1) [.agg (wU W b j f next)])) a:=by
 obtain⟨l,z⟩:=Ar (i:=7) q.ok q.fp k rfl d6 gO u.xt;obtain⟨m,r,s,B⟩:=z _ rfl;exact⟨l.trans k,iw l,m,⟨m.ok.hp,m.ok.low,az _⟩,r,g+1,j,f,next,d++[x],by rw[fj (l.trans k),au rfl],List.map_append▸s,by simp[o.1],λA w=>(List.mem_append.1 w).elim (o.2 A) λy=>List.mem_singleton.1 y▸v⟩
def Gn.elem{W:fU}{m:List (List Nat)}{g c b d h:Nat}{f:Bool}{a:H}{e:List T}{i:Nat}{x:iK}(v:Gn W m g a c)(n:a.get b=G ⟨6,d,h,f,false,e⟩)(A:Fp a c b)(s:b≠c)
 (B:∃r o p next,∃j:List iK,a.get c=G (eg 10 r [.agg (wU W m o p next)])/\o= .arr b d 0 g false/\e.take g=j.map iK.t/\(j.length=g/\∀x∈j,cI x)/\i<g) (C:cI x):
 Step c a (fQ a b ⟨6,d,h+1,f,false,e.set i x.t⟩)/\Gn W m g (fQ a b ⟨6,d,h+1,f,false,e.set i x.t⟩) c:=by
 obtain⟨r,o,p,next,j,y,rfl,z,k,F⟩:=B;have q:=Step.aeF v.ok n A s ⟨6,d,h+1,f,false,e.set i x.t⟩;have u:(fQ a b ⟨6,d,h+1,f,false,e.set i x.t⟩).get c=a.get c:=by rw[fj n,aq (bH s)]
 refine⟨q,⟨q.ok.hp,q.ok.low,az _⟩,λw l=>by rw[jY u]at l;rw[iB];exact v.fp w l,r,_,p,next,j.set i x,u▸y,.inr ⟨b,d,h+1,f,e.set i x.t,by simp[k.1],by rw[fj n,au rfl],?_⟩,by simp[k.1],λE D=>(bP D).elim (k.2 E) λl=>l▸C⟩;rw[aL,dG,k.1,List.take_set,z,aY]
structure HF where
 (W:fU) (L:List (List Nat)) (n g:Nat) (i:iK)
def xZ(a:HF)(b:List T)(c:H):Prop:=b=[ez a.g,a.i.t]/\Gn a.W a.L a.n c a.g/\a.n<=100000000/\cI a.i
def uV(a:HF)(e:List T)(c:H)(d:T)(b:H):Prop:=d= .tuple []/\Step a.g c b/\Gn a.W a.L (a.n+1) b a.g
def Pq:(kW HF xZ uV).Ok prog cx 91:=by
 refine jP [] [] (jz 11 [] func91) 5 ?_;rintro⟨W,u,P,i,d⟩ _ h ⟨rfl,f,C,p⟩ S A
 dsimp at f C p
 simp at A;have N:=f.lt;have O:(i=h.size)=False:=dY;obtain⟨I,l,e,next,v,j,gO,z⟩:=f.ex;have k:=(f.hr.cons (eg 6 1 [iK.t ⟨d.op,d.a,d.b,d.c,d.n,e⟩]));have q:=k.cons (eg 6 0 [iK.t ⟨d.op,d.a,d.b,d.c,d.n,e⟩]);have H:=(Step.cons (w:=i) f.ok.hr f.lt (eg 6 1 [iK.t ⟨d.op,d.a,d.b,d.c,d.n,e⟩])).trans (Step.cons k.ok k.lt (eg 6 0 [iK.t ⟨d.op,d.a,d.b,d.c,d.n,e⟩]));have y:(((hr h).cons (eg 6 1 [iK.t ⟨d.op,d.a,d.b,d.c,d.n,e⟩])).cons (eg 6 0 [iK.t ⟨d.op,d.a,d.b,d.c,d.n,e⟩])).get i=G (eg 10 I [.agg (wU W u l e next)]):=by
  rw[fH,aq dY,fH,aq dY,iZ];exact j
 have o:Gr (((hr h).cons (eg 6 1 [iK.t ⟨d.op,d.a,d.b,d.c,d.n,e⟩])).cons (eg 6 0 [iK.t ⟨d.op,d.a,d.b,d.c,d.n,e⟩])) l 6 (v.map iK.t):=gO.mono λm B=>by
  have:m<h.size:=f.fp m (.inr ⟨_,j,l,by simp[iy,T.cells,wU],B⟩);rw[fH,aq dY,fH,aq dY,iZ]
 obtain⟨R,L,K,g⟩:=o.app (cx:=cx) q.ok (x:= .arr (h.size+1) 0 0 1 false) (xs:=[iK.t ⟨d.op,d.a,d.b,d.c,d.n,e⟩]) PZ rfl X5 PZ rfl rfl Y d4 Y Y dY;obtain⟨D,Q,E,F⟩:=q.app y o z (show cI ⟨d.op,d.a,d.b,d.c,d.n,e⟩from p) g;have r:=(H.trans E).out;have s:=F.out (h:=h);simp[wU]at j D r s;simp[*,f91,g.gr.je,g.gr.cells,fN];exact⟨rfl,r,s⟩
structure OR where
 (W:fU) (L:List (List Nat)) (n g:Nat) (e:fJ) (d:Int)
def okW(W:fU):Prop:=W.cells.length<=1000000/\W.fT.length<=1000000/\W.jl.length<=1000000/\W.fR.length<=1000000/\W.eY.length<=1000000/\∃a,a<W.cells.length/\uO (W.cells.map jm.name) [113] 0=a
def Jp(a:OR)(b:List T)(c:H):Prop:=b=[ez a.g,a.e.t,M a.d]/\Gn a.W a.L a.n c a.g/\okW a.W/\a.L.length<=1000000/\ME a.e/\a.n+a.e.w<=10000000
def ajH(W:fU)(e:List (List Nat))(d g b:Nat)(f c:H):Prop:=Step b f c/\∃a,d<a/\a<=d+g/\Gn W e a c b
def E1(a:OR)(f:List T)(b:H)(d:T)(c:H):Prop:=d= .tuple []/\ajH a.W a.L a.n a.e.w a.g b c
def rh{d:iq}{l:Nat}{W:fU}{e:List (List Nat)}{c a:Nat}{i:iK}{f:H}{m:af Oper}{j:aa Tmp}{k:List Oper}{o n:iM}{g:jH}(ht:d.h 91=G (kW HF xZ uV))(s:Gn W e c f a)(r:c<=100000000)
 (p:∀b,Step a f b->Gn W e (c+1) b a->XK (some (.tuple [],b)) cx (r7 prog cx d) l m j k o n g) (q:cI i:=by simp[cI]):XK (hl prog cx d 91 [ez a,i.t] f) cx (r7 prog cx d) l m j k o n g:=
 jy Pq ht ⟨W,e,c,a,i⟩ ⟨rfl,s,r,q⟩ (by rintro _ b ⟨rfl,v,u⟩;exact p b v u)
def agm{e:iq}{p:Nat}{W:fU}{f:List (List Nat)}{d a:Nat}{g:iK}{b:H}{r:af Oper}{j:List (Nat×Nat)}{k:aa Tmp}{q:Op}{n:List Oper}{m:Nat}{o:List (Nat×Nat)}{l:List (Nat×H×H)}{u s:iM}{i:jH}(ht:e.h 91=G (kW HF xZ uV))(y:Gn W f d b a)(x:d<=100000000)
 (v:∀c,Step a b c->Gn W f (d+1) c a->V9 (some (.tuple [],c)) cx (r7 prog cx e) p r j k q n m o l u s b i) (w:cI g:=by simp[cI]):V9 (hl prog cx e 91 [ez a,g.t] b) cx (r7 prog cx e) p r j k q n m o l u s b i:=
 mZ Pq ht ⟨W,f,d,a,g⟩ ⟨rfl,y,x,w⟩ (by rintro _ c ⟨rfl,A,z⟩;exact v c A z)
def Su(b:Nat)(B:(kW OR (λg a c=>Jp g a c/\g.e.w<b) E1).Ok prog cx 206):(kW OR (λg a c=>Jp g a c/\g.e.w<b+1) E1).Ok prog cx 206:=by
 refine jP [(130,FU),(249,wB)] [(91,kW HF xZ uV),(206,kW OR (λg a c=>Jp g a c/\g.e.w<b) E1)] (jz 20282409606012871684182924853463 [] func206) 5 ?_;rintro⟨W,q,n,s,r,H⟩ _ c ⟨⟨rfl,b,i,v,hE,S⟩,R⟩ bW j
 dsimp at b i v hE S R
 simp at j;obtain⟨ao,ap,ar⟩:=j;obtain⟨m,a7,a8⟩:=i.2.2.2.2.2;have aN:=b.lt;have bi:(s=c.size)=False:=dY;obtain⟨bN,br,bu,next,X,K,gO,ax⟩:=b.ex;simp[wU]at K;have l:=b.hr.cons (eg 4 0 [r.t]);have l1:=Lb.new b.hr.lt b.hr.fp (eg 4 0 [r.t]);have o:=Step.cons b.ok.hr b.hr.lt (eg 4 0 [r.t]);have ae:=λ{E:iq} (c:E.p 130=G FU) F=>Sk c q F J;have al:=λ{E:iq} (c:E.p 249=G wB) F=>Qi c W F i.1;have aE:=r.nN;simp[*,f206];cases hE with
 |num a hr=>
  simp[*];refine rh Y l J (λu f d=>?_) λ_=>hr;simp;exact⟨rfl,(o.trans f).out,n+1,dZ,dZ,d.out⟩
 |nm a=>
  simp[*];refine fO (λQ=>?_) (λQ=>?_);simp[*];refine rh Y l J λu f d=>?_;simp;exact⟨rfl,(o.trans f).out,n+1,dZ,dZ,d.out⟩;simp[*];refine rh Y l J λu f d=>?_;simp;exact⟨rfl,(o.trans f).out,n+1,dZ,dZ,d.out⟩
 | @ix a j=>
  have O:(fJ.mk 3 0 [113] [a]).w=1+a.w:=by rw[fJ.nN];simp[fJ.ly,fJ.jW]
  simp[*];refine jy B Y ⟨W,q,n,s,a,H⟩ ⟨⟨rfl,l,i,v,j,dZ⟩,dZ⟩ ?_;rintro _ N ⟨rfl,h,C,z,A,k⟩
  dsimp at h z A k
  have l2:=l1.step h;obtain⟨bT,bs,bA,bn,Z,L,an,aA⟩:=k.ex;simp[wU,uX]at L l2;simp[*,l2.get];refine rh Y k J λu f d=>?_;simp;exact⟨rfl,((o.trans h).trans f).out,C+1,dZ,dZ,d.out⟩
 | @bin x a y aX j P=>
  have O:(fJ.mk x 0 [] [a,y]).w=1+a.w+y.w:=by rw[fJ.nN];simp[fJ.ly,fJ.jW];omega
  simp[*,show¬x=1 by omega,show¬x=2 by omega,show¬x=3 by omega];refine jy B Y ⟨W,q,n,s,a,H⟩ ⟨⟨rfl,l,i,v,j,dZ⟩,dZ⟩ ?_;rintro _ N ⟨rfl,h,C,z,A,k⟩
  dsimp at h z A k
  have l2:=l1.step h;simp[uX]at l2;simp[*,l2.get,tz];refine jy B Y ⟨W,q,C,s,y,_⟩ ⟨⟨rfl,k,i,v,P,dZ⟩,dZ⟩ ?_;rintro _ av ⟨rfl,D,V,T,U,I⟩
  dsimp at D T U I
  have l3:=l2.step D;simp[*,l3.get,tz];refine rh Y I J λu f d=>?_;simp;exact⟨rfl,(((o.trans h).trans D).trans f).out,V+1,dZ,dZ,d.out⟩
abbrev S4:mM:=kW OR (λa b c=>Jp a b c/\a.e.w<10000001) E1
def W4:S4.Ok prog cx 206:=AH (λa:OR=>a.e.w) Su 10000001
def Mw{g:iq}{n:Nat}{W:fU}{f:List (List Nat)}{d b:Nat}{a:fJ}{k:Int}{i:H}{o:af Oper}{l:aa Tmp}{m:List Oper}{q p:iM}{j:jH}(ht:g.h 206=G S4)(y:Gn W f d i b)(u:okW W)(s:f.length<=1000000)(v:ME a)(x:d+a.w<=10000000)
 (r:∀c e,Step b i c->d<e->e<=d+a.w->Gn W f e c b->XK (some (.tuple [],c)) cx (r7 prog cx g) n o l m q p j):XK (hl prog cx g 206 [ez b,a.t,M k] i) cx (r7 prog cx g) n o l m q p j:=
 jy W4 ht ⟨W,f,d,b,a,k⟩ ⟨⟨rfl,y,u,s,v,x⟩,dZ⟩ (by rintro _ c ⟨rfl,C,e,z,A,B⟩;exact r c e C z A B)
structure ISt where
 (W:fU) (L:List (List Nat)) (n g:Nat) (s:fk)
def F0(a:ISt)(b:List T)(c:H):Prop:=b=[ez a.g,a.s.t]/\Gn a.W a.L a.n c a.g/\okW a.W/\a.L.length<=1000000/\MS a.s/\a.n+a.s.w<=10000000
def Bk(a:ISt)(f:List T)(d:H)(e:T)(c:H):Prop:=e= .tuple []/\Step a.g d c/\∃b,a.n<=b/\b<=a.n+a.s.w/\Gn a.W a.L b c a.g
def NI:(kW ISt (λA H b=>F0 A H b/\A.s.op=1) Bk).Ok prog cx 202:=by
 refine jP [(130,FU),(249,wB)] [(91,kW HF xZ uV),(206,S4)] (jz 36893488147419136123 [] func202) 5 ?_;rintro⟨W,E,n,I,g⟩ _ b ⟨⟨rfl,a,c,j,k,R⟩,u⟩ bs o
 dsimp at a c j k R u
 simp at o;obtain⟨m,aA,aE⟩:=c.2.2.2.2.2;have ax:=a.lt;have aN:(I=b.size)=False:=dY;obtain⟨br,a7,bn,next,O,K,gO,av⟩:=a.ex;simp[wU]at K;have B:=a.hr.cons (eg 11 0 [g.t]);have l1:=Lb.new a.hr.lt a.hr.fp (eg 11 0 [g.t]);have w:=Step.cons a.ok.hr a.hr.lt (eg 11 0 [g.t]);have ao:=λ{x:iq} (b:x.p 130=G FU) i=>Sk b E i J;have ap:=λ{x:iq} (b:x.p 249=G wB) i=>Qi b W i c.1;have S:=g.nN;have z:=k.ex (.inl u);simp[*,f202];rcases q:g.index with _|⟨i,r⟩
 simp[*];refine Mw Y B c j z J λN v d Z ae e=>?_;have l2:=l1.step d;simp[uX]at l2;obtain⟨an,X,al,V,F,l,L,P⟩:=e.ex;simp[wU]at l;simp[*,l2.get];refine fO (λQ=>?_) (λQ=>?_);simp[o];refine rh Y e J λy h f=>?_;simp;exact⟨rfl,((w.trans d).trans h).out,v+1,dZ,dZ,f.out⟩;simp[*,l2.get];refine rh Y e J λy h f=>?_;simp;exact⟨rfl,((w.trans d).trans h).out,v+1,dZ,dZ,f.out⟩;have aX:=k.arr u (by rw[q];simp);have T:=k.ind i (by rw[q];simp);rw[q,fJ.ly]at S;simp[*];refine Mw Y B c j T J λN v d Z ae e=>?_;have l2:=l1.step d;simp[uX]at l2;simp[o,l2.get,tz];refine Mw Y e c j z J λar U D a8 bi C=>?_;have l3:=l2.step D;obtain⟨an,X,al,V,F,l,L,P⟩:=C.ex;simp[wU]at l;simp[*,l3.get,tz];refine rh Y C J λy h f=>?_;simp;exact⟨rfl,(((w.trans d).trans D).trans h).out,U+1,dZ,dZ,f.out⟩
def Jo:mM:=⟨λd a=>∃W c f b h,d=[ez b,.str h]/\Gn W c f a b/\okW W,λ_ a g e=>e=a/\IU g⟩
def Uj:Jo.Ok prog cx 205:=by refine MY (tb:=⟨pt [],ht []⟩) ml kl (jz 67117107 [] func205) false (λ_ _=>1000005) (λp c m=>by obtain⟨W,i,n,e,h,rfl,_⟩:=m;simp[f205]) ?_;rintro _ c ⟨W,i,n,e,h,rfl,b,k⟩ a g;simp at g;obtain⟨w,u,v,next,o,j,gO,q⟩:=b.ex;simp[wU]at j;have hl:=k.2.2.1;simp[f205];refine io W.jl.length J (λb a d=>d=hr c/\jg a 0 e/\ka a 1 (.str h)/\iS a 5 b) ?_ ?_ J (by simp[g]);rintro t a d s r ⟨rfl,f⟩;simp[*];refine fO (λl=>?_) (λl=>?_);simp[f];exact ug c _ _ b.ok.hp (Fr.refl _ _) rfl ⟨rfl,Y⟩;simp[*];rintro a d ⟨rfl,f⟩;simp[*];exact ug c _ _ b.ok.hp (Fr.refl _ _) rfl ⟨rfl,Y⟩
def Gn.opn{W:fU}{s:List (List Nat)}{b:Nat}{k:H}{i:Nat}(u:Gn W s b k i)(w:0<b):∃q p next,∃a:List iK,∃c h r m g,k.get i=G (eg 10 q [.agg (wU W s (.arr c h 0 b false) p next)])/\k.get c=G ⟨6,h,r,m,false,g⟩/\c≠i/\Fp k i c/\g.take b=a.map iK.t/\(a.length=b/\∀l∈a,cI l)/\∀d,d<b->∃l:iK,g[d]? =G l.t/\cI l:=by
 obtain⟨q,x,p,next,a,j,gO,f⟩:=u.ex;rcases gO with⟨_,e⟩|⟨c,h,r,m,g,rfl,e,n⟩;simp at e;subst e;have:=f.1;simp at this;omega;rw[aL,f.1]at j n;refine⟨q,p,next,a,c,h,r,m,g,j,e,λv=>by subst v;rw[j]at e;simp at e,.inr ⟨_,j,.arr c h 0 b false,by simp[iy,T.cells,wU],rfl⟩,n,f,λd o=>⟨a[d]'(f.1▸o),?_,f.2 _ (aG _)⟩⟩;have:(g.take b)[d]? =(a.map iK.t)[d]? :=by rw[n]
 rw[cM,au o,bw,aF (f.1▸o:d<a.length)]at this;exact this
def WU(W:fU)(e:List (List Nat))(d b g:Nat)(f c:H):Prop:=Step b f c/\∃a,d<=a/\a<=d+g/\Gn W e a c b
structure agI where
 (W:fU) (L:List (List Nat)) (n g:Nat) (l:List fk)
def aaI(a:agI)(b:List T)(c:H):Prop:=b=[ez a.g,sl (a.l.map fk.t)]/\Gn a.W a.L a.n c a.g/\okW a.W/\a.L.length<=1000000/\(∀d∈a.l,MS d)/\a.n+fk.ws a.l<=10000000
abbrev HR(e:Nat):mM:=kW agI (λa c b=>aaI a c b/\fk.ws a.l<e) (λa _ b f d=>f= .tuple []/\WU a.W a.L a.n a.g (fk.ws a.l) b d)
abbrev rSt(d:Nat):mM:=kW ISt (λa b c=>F0 a b c/\a.s.w<d) Bk
def Qd{j:Nat}(z:(HR j).Ok prog cx 90){g:iq}{n:Nat}{W:fU}{f:List (List Nat)}{d b:Nat}{a:List fk}{i:H}{o:af Oper}{l:aa Tmp}{m:List Oper}{q p:iM}{k:jH}(ht:g.h 90=G (HR j))(y:Gn W f d i b)(u:okW W)(s:f.length<=1000000)(x:∀D∈a,MS D)(w:d+fk.ws a<=10000000)(v:fk.ws a<j)
 (r:∀c e,Step b i c->d<=e->e<=d+fk.ws a->Gn W f e c b->XK (some (.tuple [],c)) cx (r7 prog cx g) n o l m q p k):XK (hl prog cx g 90 [ez b,sl (a.map fk.t)] i) cx (r7 prog cx g) n o l m q p k:=
 jy z ht ⟨W,f,d,b,a⟩ ⟨⟨rfl,y,u,s,x,w⟩,v⟩ (by rintro _ c ⟨rfl,a,e,A,B,C⟩;exact r c e a A B C)
def EE(al:Nat)(av:(HR al).Ok prog cx 90):(kW ISt (λi bi Z=>(F0 i bi Z/\i.s.w<al+1)/\(i.s.op=2\/i.s.op=3)) Bk).Ok prog cx 203:=by
 refine jP [] [(91,kW HF xZ uV),(206,S4),(90,HR al)] (jz 590296373308659073275 [] func203) 5 ?_;rintro⟨W,P,eo,l,V⟩ _ Z ⟨⟨⟨rfl,j,S,Q,R,b7⟩,bZ⟩,ar⟩ eL T
 dsimp at j S Q R b7 ar bZ
 simp at T;have ef:=j.lt;have eh:(l=Z.size)=False:=dY;obtain⟨eG,ey,c1,next,O,bn,gO,eb⟩:=j.ex;simp[wU]at bn;have b8:=j.hr.cons (eg 11 0 [V.t]);have l1:=Lb.new j.hr.lt j.hr.fp (eg 11 0 [V.t]);have c4:=Step.cons j.ok.hr j.hr.lt (eg 11 0 [V.t]);have ej:=V.nN;have b6:=R.ex (by rcases ar with q|q<;>simp[q]);simp[*,f203,gO.len (cx:=cx)];refine Mw Y b8 S Q b6 J λdk f aN p1 p2 ax=>?_;have l2:=l1.step aN;simp[uX]at l2;obtain⟨eH,eA,eD,et,dd,br,bu,ec⟩:=ax.ex;simp[wU]at br;simp[*,bu.len (cx:=cx)];refine rh Y ax J λdm aX b9=>?_;have l3:=l2.step aX;simp[T,l3.get];refine Qd av Y b9 S Q R.bd J J λbT d a7 p3 p4 aA=>?_;have l4:=l3.step a7;obtain⟨eI,eB,eE,cp,de,ap,bA,bW⟩:=aA.ex;obtain⟨an,z⟩:=aA.LC ap bA bW c1 cp;simp[wU]at ap an z;have l5:=l4.step an;have ao:=(((c4.trans aN).trans aX).trans a7).trans an;simp[*,fN];generalize fQ bT l _=dn at*
 simp[l5.get];refine fO (λae=>?_) (λae=>?_);simp[T];refine rh Y z J λD X F=>?_;obtain⟨K,I,H,A,y,B,L,C,N,e,g,o,m,u,E,r⟩:=F.opn J;obtain⟨x,h⟩:=r f J;have p:f<d+1:=J;obtain⟨k,v⟩:=F.elem (i:=f) (x:=⟨x.op,x.a,((d+1:Nat):Int),x.c,x.n,x.j7⟩) g m o ⟨K,_,I,H,A,e,rfl,u,E,p⟩ h.2;simp[wU]at e;simp[*];exact⟨rfl,((ao.trans X).trans (by simpa using k)).out,d+1,dZ,dZ,(by simpa using v:Gn W P (d+1) _ l).out⟩;simp[l5.get];refine fO (λae=>?_) (λae=>?_);simp[T];obtain⟨K,I,H,A,y,B,L,C,N,e,g,o,m,u,E,r⟩:=z.opn J;obtain⟨x,h⟩:=r f J;have p:f<d:=J;obtain⟨k,v⟩:=z.elem (i:=f) (x:=⟨x.op,x.a,(d:Int),x.c,x.n,x.j7⟩) g m o ⟨K,_,I,H,A,e,rfl,u,E,p⟩ h.2;simp[wU]at e;simp[*];exact⟨rfl,(ao.trans (by simpa using k)).out,d,dZ,dZ,(by simpa using v:Gn W P d _ l).out⟩;obtain⟨eK,eC,eF,eu,di,bs,bN,ee⟩:=z.ex;simp[wU]at bs;simp[*,bN.len (cx:=cx)];refine rh Y z J λD X F=>?_;have l6:=l5.step X;obtain⟨K,I,H,A,y,B,L,C,N,e,g,o,m,u,E,r⟩:=F.opn J;obtain⟨x,h⟩:=r f J;have p:f<d+1:=J;obtain⟨k,v⟩:=F.elem (i:=f) (x:=⟨x.op,x.a,((d+1:Nat):Int),x.c,x.n,x.j7⟩) g m o ⟨K,_,I,H,A,e,rfl,u,E,p⟩ h.2;simp[wU]at e;simp[*];replace k:Step l D (fQ D y ⟨6,B,L+1,C,false,N.set f (iK.t ⟨x.op,x.a,(d:Int)+1,x.c,x.n,x.j7⟩)⟩):=iC k;replace v:Gn W P (d+1) (fQ D y ⟨6,B,L+1,C,false,N.set f (iK.t ⟨x.op,x.a,(d:Int)+1,x.c,x.n,x.j7⟩)⟩) l:=iC v;have l7:=l6.step k;generalize fQ D y _=ds at*
 clear e g h;simp[l7.get];refine Qd av Y v S Q R.el J J λea U c6 p5 p6 aE=>?_;have KM:=((ao.trans X).trans k).trans c6;obtain⟨c9,cL,cb,a8,y,B,L,C,N,e,g,o,m,u,bX,r⟩:=aE.opn J;obtain⟨x,h⟩:=r d J;have p:d<U:=J;obtain⟨c7,ca⟩:=aE.elem (i:=d) (x:=⟨x.op,(U:Int),x.b,x.c,x.n,x.j7⟩) g m o ⟨c9,_,cL,cb,a8,e,rfl,u,bX,p⟩ h.2;simp[wU]at e;simp[*];exact⟨rfl,(KM.trans (by simpa using c7)).out,U,dZ,dZ,(by simpa using ca:Gn W P U _ l).out⟩
structure IAr where
 (W:fU) (L:List (List Nat)) (n g:Nat) (s:fk) (a b o:Int)
def xS(h:Nat)(I:(HR h).Ok prog cx 90):(kW IAr (λc x e=>x=[ez c.g,c.s.t,M c.a,M c.b,M c.o]/\F0 ⟨c.W,c.L,c.n,c.g,c.s⟩ [ez c.g,c.s.t] e/\c.s.w<h+1/\c.a≠1/\c.b≠1) (λc _ e R B=>Bk ⟨c.W,c.L,c.n,c.g,c.s⟩ [] e R B)).Ok prog cx 204:=by
 refine jP [] [(91,kW HF xZ uV),(90,HR h)] (jz 1119 [] func204) 5 ?_;rintro⟨W,X,aN,y,f,al,an,aX⟩ _ e ⟨rfl,⟨_,d,m,k,l,E⟩,D,F,H⟩ bs p
 dsimp at d m k l E D
 simp at p;have ax:=d.lt;have aA:(y=e.size)=False:=dY;obtain⟨bn,a7,S,next,Z,z,gO,av⟩:=d.ex;simp[wU]at z;have K:=d.hr.cons (eg 11 0 [f.t]);have l1:=Lb.new d.hr.lt d.hr.fp (eg 11 0 [f.t]);have T:=Step.cons d.ok.hr d.hr.lt (eg 11 0 [f.t]);have aE:=f.nN;simp[*,f204];refine rh Y K J (λao u N=>?_) λi=>absurd i F;have l3:=l1.step u;simp[uX]at l3;simp[p,l3.get];refine Qd I Y N m k l.bd J J λap P U p3 p4 q=>?_;obtain⟨br,a8,bi,Q,ae,j,A,C⟩:=q.ex;obtain⟨v,r⟩:=q.LC j A C S Q;simp[wU]at j v r;simp[*,fN];refine rh Y r J (λar V O=>?_) λi=>absurd i H;simp;exact⟨rfl,((((T.trans u).trans U).trans v).trans V).out,P+1,dZ,dZ,O.out⟩
def SF(i:Nat)(A:(rSt i).Ok prog cx 158):(HR i).Ok prog cx 90:=by
 refine jP [] [(158,rSt i)] (jz 275 [] func90) 10000005 ?_;rintro⟨W,n,j,d,l⟩ _ x ⟨⟨rfl,g,r,p,q,z⟩,y⟩ b s
 dsimp at g r p q z y
 simp at s;have hl:=fk.yf (l:=l);simp[f90];refine io l.length J (λc b e=>Step d (hr x) e/\(∃a,j<=a/\a<=j+fk.ws (l.take c)/\Gn W n a e d)/\jg b 0 d/\ka b 1 (sl (l.map fk.t))/\iS b 4 c) ?_ ?_ J (by simp[s,Step.refl g.ok.hr];exact⟨j,ay _,J,g.hr⟩);rintro c b e f D ⟨m,⟨a,v,k,h⟩,o⟩;have H:=fk.Jg l f;have F:=fk.Ba l (c+1);have E:=fk.yP (aG f);simp[*];refine jy A Y ⟨W,n,a,d,l[c]⟩ ⟨⟨rfl,h,r,p,q _ (aG f),dZ⟩,dZ⟩ ?_;rintro _ C ⟨rfl,w,B,p1,p2,u⟩
 dsimp at w p1 p2 u
 simp[*];exact⟨m.trans w,B,J,J,u⟩;rintro b e ⟨m,⟨a,v,k,h⟩,o⟩;rw[aI]at k;simp[o];exact⟨m.out,a,v,k,h.out⟩
def WC(A:Nat)(P:(HR A).Ok prog cx 90):(rSt (A+1)).Ok prog cx 158:=by
 obtain⟨F,a8⟩:=hlI Uj (λ_ _ _ _ H=>H);refine wP (tb:=⟨pt [(130,FU),(156,wu)],ht [(91,kW HF xZ uV),(206,S4),(202,kW ISt (λc Q i=>F0 c Q i/\c.s.op=1) Bk),(203,kW ISt (λc Q i=>(F0 c Q i/\c.s.w<A+1)/\(c.s.op=2\/c.s.op=3)) Bk),
  (204,kW IAr (λc ax i=>ax=[ez c.g,c.s.t,M c.a,M c.b,M c.o]/\F0 ⟨c.W,c.L,c.n,c.g,c.s⟩ [ez c.g,c.s.t] i/\c.s.w<A+1/\c.a≠1/\c.b≠1) (λc _ i r j=>Bk ⟨c.W,c.L,c.n,c.g,c.s⟩ [] i r j)),(205,Jo)]⟩) ml kl (jz 365376106316094180278949616271352870286206697499 [(11,[(1,9)]),(13,[(1,9)]),(15,[(1,9)]),(34,[(7,12),(7,14)])] func158) (λ_ _=>5) (λc Q i br=>by obtain⟨⟨rfl,_⟩,_⟩:=br;simp[f158]) ?_
 rintro⟨W,B,k,y,l⟩ _ i ⟨⟨rfl,H,x,D,E,K⟩,N⟩ eo an
 dsimp at H x D E K N
 simp at an;obtain⟨C,a7⟩:=an;have c1:=H.lt;have c4:(y=i.size)=False:=dY;obtain⟨ec,dd,dn,next,O,aE,gO,cb⟩:=H.ex;have ap:=H.hr.cons (eg 11 0 [l.t]);have l1:=Lb.new H.hr.lt H.hr.fp (eg 11 0 [l.t]);have bN:=Step.cons H.ok.hr H.hr.lt (eg 11 0 [l.t]);have c6:=l.nN;obtain⟨ee,de,ds,av,bW,T,aN,bi⟩:=ap.ex;obtain⟨X,V⟩:=ap.LC T aN bi av av;obtain⟨ef,di,bA,bu,bX,U,aX,bn⟩:=V.ex;obtain⟨Z,f⟩:=V.LC U aX bn bA (IntKind.i64.wrap (bu+1));have l3:=(l1.step X).step Z;simp[wU,uX]at aE T X V U Z f l3;simp[f158,C,a7,T,fN,U,tz];have m:=(bN.trans X).trans Z;have R:=λ{tb:iq} (ht:tb.h 205=G Jo) I=>a8 ht [ez y,.str I] _ ⟨W,B,k,y,I,rfl,f,x⟩;generalize fQ (fQ _ y _) y _=b9 at*
 obtain⟨eh,dk,ea,c7,bZ,z,b7,cp⟩:=f.ex;simp[wU]at z;have aA:=λ{tb:iq} (i:tb.p 130=G FU) I=>Sk i B I J;have eT:=λ{tb:iq} (i:tb.p 130=G FU) I=>Sk i W.eY I (iV x.2.2.2.2.1);have ae:=λ{tb:iq} (i:tb.p 130=G FU) I=>Sk i W.fR I (iV x.2.2.2.1);have S:=λ{tb:iq} (i:tb.p 156=G wu) I=>Qf i W.fT I x.2.1;simp[z,l3.get]
 repeat' (refine fO (λao=>?_) (λao=>?_)<;>simp[ao,C,l3.get])
 .try simp[C,l3.get]
  refine jy NI Y ⟨W,B,k,y,l⟩ ⟨⟨rfl,f,x,D,E,K⟩,iC (‹decide (l.op=1)=true›)⟩ ?_;rintro _ j ⟨rfl,d,q,u,v,e⟩;simp;exact⟨rfl,(m.trans d).out,q,u,v,e.out⟩
 .try simp[C,l3.get]
  refine jy (EE A P) Y ⟨W,B,k,y,l⟩ ⟨⟨⟨rfl,f,x,D,E,K⟩,N⟩,.inl (iC (‹decide (l.op=2)=true›))⟩ ?_;rintro _ j ⟨rfl,d,q,u,v,e⟩;simp;exact⟨rfl,(m.trans d).out,q,u,v,e.out⟩
 .try simp[C,l3.get]
  refine jy (EE A P) Y ⟨W,B,k,y,l⟩ ⟨⟨⟨rfl,f,x,D,E,K⟩,N⟩,.inr (iC (‹decide (l.op=3)=true›))⟩ ?_;rintro _ j ⟨rfl,d,q,u,v,e⟩;simp;exact⟨rfl,(m.trans d).out,q,u,v,e.out⟩
 simp[l3.get,z,S];refine mZ (xS A P) Y ⟨W,B,k,y,l,11,12,_⟩ ⟨rfl,⟨rfl,f,x,D,E,K⟩,N,Y,Y⟩ ?_;rintro _ j ⟨rfl,d,q,u,v,e⟩;simp;exact⟨rfl,(m.trans d).out,q,u,v,e.out⟩;simp[l3.get,z,S];refine mZ (xS A P) Y ⟨W,B,k,y,l,13,14,_⟩ ⟨rfl,⟨rfl,f,x,D,E,K⟩,N,Y,Y⟩ ?_;rintro _ j ⟨rfl,d,q,u,v,e⟩;simp;exact⟨rfl,(m.trans d).out,q,u,v,e.out⟩;simp[l3.get,z,S];refine mZ (xS A P) Y ⟨W,B,k,y,l,15,16,_⟩ ⟨rfl,⟨rfl,f,x,D,E,K⟩,N,Y,Y⟩ ?_;rintro _ j ⟨rfl,d,q,u,v,e⟩;simp;exact⟨rfl,(m.trans d).out,q,u,v,e.out⟩
 .try simp[C,l3.get,z]
  refine jy (xS A P) Y ⟨W,B,k,y,l,17,18,_⟩ ⟨rfl,⟨rfl,f,x,D,E,K⟩,N,Y,Y⟩ ?_;rintro _ j ⟨rfl,d,q,u,v,e⟩;simp;exact⟨rfl,(m.trans d).out,q,u,v,e.out⟩
 .try simp[C,l3.get,z]
  refine jy (xS A P) Y ⟨W,B,k,y,l,19,20,_⟩ ⟨rfl,⟨rfl,f,x,D,E,K⟩,N,Y,Y⟩ ?_;rintro _ j ⟨rfl,d,q,u,v,e⟩;simp;exact⟨rfl,(m.trans d).out,q,u,v,e.out⟩
 simp[R];refine rh Y f J λj d e=>?_;simp;exact⟨rfl,(m.trans d).out,k+1,dZ,dZ,e.out⟩;simp[R];refine rh Y f J λj d e=>?_;simp;exact⟨rfl,(m.trans d).out,k+1,dZ,dZ,e.out⟩;simp[R];refine rh Y f J λj d e=>?_;simp;exact⟨rfl,(m.trans d).out,k+1,dZ,dZ,e.out⟩;simp[l3.get,z,eT];refine rh Y f J λj d e=>?_;simp;exact⟨rfl,(m.trans d).out,k+1,dZ,dZ,e.out⟩;simp[l3.get,z,eT];refine rh Y f J λj d e=>?_;simp;exact⟨rfl,(m.trans d).out,k+1,dZ,dZ,e.out⟩
 .try simp[C,l3.get,z]
  refine Mw Y f x D (E.ex (.inr (.inr (.inr (iC (‹decide (l.op=14)=true›)))))) J λca bs d p1 p2 ar=>?_;obtain⟨ej,dm,eb,c9,b6,al,b8,cL⟩:=ar.ex;simp[wU]at al;simp[C,(l3.step d).get,al,ae];refine rh Y ar J λj bT e=>?_;simp;exact⟨rfl,((m.trans d).trans bT).out,bs+1,dZ,dZ,e.out⟩
 simp[C,l3.get,z,aA,ae];refine agm Y f J λj d e=>?_;simp;exact⟨rfl,(m.trans d).out,k+1,dZ,dZ,e.out⟩;exact⟨rfl,m.out,k,ay _,dZ,f.out⟩
def Q9(a:Nat):(HR a).Ok prog cx 90:=by
 induction a with
 |zero=>intro d e ⟨f,_,b⟩;exact absurd b (Nat.not_lt_zero _)
 |succ a c=>exact SF (a+1) (WC a c)
def aaF(a:iR):Prop:=∀c∈a.j3,∀b∈jQ c,0<=b/\b<a.jT
def aau(a:iR):Prop:=0<=a.jT/\a.jT<=32/\aaF a
def FK(a:iK):(jQ a).length<=3:=by
 unfold jQ
 (repeat' split)<;>simp
def Iz:p8 prog cx 136 (λa:fU×Int×iR=>[a.1.t,M a.2.1,a.2.2.t]) (λa=>a.2.2.j3.length<=10000001) (λa=>GI (aau a.2.2)):=by
 refine jX [(179,za),(180,FM),(181,rIn ()),(92,qK)] (jz 348794743007212715313826391199890521722863 [] func136) (λa=>a.2.2.j3.length+5) (λa b h=>by simp at h;exact aD (fU.inj h.1) (aD h.2.1 (iR.inj h.2.2))) ?_;rintro⟨u,R,e⟩ hl d N;simp at hl N;obtain⟨S,j,U⟩:=N;simp[f136,S,U];refine fO (λf=>?_) (λf=>?_);simp;simp at f;simp;refine io e.j3.length J (λq d h=>jk 2 h/\h.get 0=G (eg 6 0 [u.t])/\h.get 1=G (eg 2 0 [e.t])/\iS d 1 R/\jg d 3 0/\jg d 5 1/\iS d 7 e.j3.length/\iS d 8 q/\
  ∀K∈e.j3.take q,∀s∈jQ K,0<=s/\s<e.jT) ?_ ?_ J ?_
 .rintro q d h P V ⟨i,l,m,j,n,o,k,p,D⟩;have F:=i.ne (b:=0) J;have Q:=i.ne (b:=1) J;have I:e.j3.take (q+1)=e.j3.take q++[e.j3[q]]:=aM P;have Z:=my (a:=e.j3.length) (b:=1) J J;simp[l,m,n,o,k,p,P,F,Q,i.low,Z,Vr,acd,show e.j3.length<=140737488355328 by omega];generalize e.j3[q]=c at*
  refine fO (λf=>?_) (λf=>?_);simp[i.hp];clear f;have al:(decide (c.op=28)/\True/\True/\∃g:jJ,g=g)\/(decide (c.op=28)=false/\jB c.j7 u.jM.length=false/\True/\∃g:jJ,g=g)\/(decide (c.op=28)=false/\jB c.j7 u.jM.length/\mQ c.j7=G c.j7.toNat/\∃g,u.jM[c.j7.toNat]? =G g):=by
   cases an:decide (c.op=28);cases L:jB c.j7 u.jM.length;exact .inr (.inl ⟨rfl,rfl,trivial,default,rfl⟩);have⟨g,ae,ao⟩:=jt L;exact .inr (.inr ⟨rfl,rfl,fZ (gG.1 L).1,g,ae⟩);exact .inl ⟨rfl,trivial,trivial,default,rfl⟩
  rcases al with⟨x,y,z,g,A⟩|⟨x,y,z,g,A⟩|⟨x,y,z,g,A⟩
  all_goals simp [l,j,n,F,x,y,z,A,yG,i.hp]
  all_goals
   refine fO (λf=>?_) (λf=>?_);simp[i.hp];simp[k,yG];clear f x y z A;refine fO (λf=>?_) (λf=>?_);simp[i.hp];simp[yo]
  all_goals
   refine io (jQ c).length (iV (FK c)) (λr d v=>jk 2 v/\v.get 0=G (eg 6 0 [u.t])/\v.get 1=G (eg 2 0 [e.t])/\iS d 1 R/\jg d 3 0/\jg d 5 1/\iS d 7 e.j3.length/\iS d 8 q/\
    ka d 10 (sl ((jQ c).map (T.int .i64)))/\iS d 11 r/\∀s∈(jQ c).take r,0<=s/\s<e.jT) ?_ ?_ (iV (FK c)) ⟨i.cons _,by simp[l,m,j,n,o,k,p,F,Q]⟩
   rintro r d v O W ⟨E,l,m,j,n,o,k,p,B,C,hr⟩;have I:(jQ c).take (r+1)=(jQ c).take r++[(jQ c)[r]]:=aM O;simp[m,o,B,C,O,yG];generalize(jQ c)[r]=s at*
   refine fO (λf=>?_) (λf=>?_);simp[E.hp];have X:=UN.1 (show N3 s e.jT=true from iC f);simp[l,m,j,n,o,k,p,B,C,W,E,I];intro w H;rcases H with H|rfl
   exact hr w H;exact X;rintro d v ⟨E,l,m,j,n,o,k,p,B,C,hr⟩;rw[aI]at hr;simp[l,m,j,n,o,k,p,B,C,V,E,I];intro K w;rcases w with w|rfl;exact D K w;exact hr
 rintro d h ⟨i,l,m,j,n,o,k,p,D⟩;rw[aI]at D;simp[k,p,i.hp];exact⟨f.1.1,f.1.2,D⟩;exact⟨⟨Y,Y,Y⟩,by simp[j]⟩
def U9(a:lj):Prop:=lY a.gY=true/\a.eY.length=a.gY.eY.length/\∀b∈a.eY,aau b
def Aq:p8 prog cx 81 (λa:lj=>[a.t]) (λa=>∀k∈a.eY,k.j3.length<=10000001) (λa=>GI (U9 a)):=by
 refine jX [(77,Dm),(136,Iz.kx)] (jz 17184194575 [] func81) (λa=>100) (λw n c=>by simp at c;exact lj.inj c) ?_;rintro a hl d p;simp at p;simp[f81,p,Ms];refine fO (λh=>?_) (λh=>?_);simp;simp at h;have x:a.gY.eY.length<=4:=by
  have:=h.1;unfold lY wq at this;simp[aC,aP]at this;omega
 have s:a.eY.length=a.gY.eY.length:=J;simp;refine io a.eY.length J (λb d c=>jk 1 c/\c.get 0=G (eg 7 0 [a.t])/\jg d 1 0/\iS d 3 b/\∀k∈a.eY.take b,aau k) ?_ ?_ J ⟨⟨Y,Y,Y⟩,Y⟩;rintro b d c l r ⟨j,e,f,g,i⟩;have u:a.eY.take (b+1)=a.eY.take b++[a.eY[b]]:=aM l;obtain⟨_,⟨n,rfl,q⟩,o⟩:=Iz.use (a.gY,(b:Int),a.eY[b]) (hl _ (aG l));simp[e,f,g,l];generalize a.eY[b]=k at*
 dsimp at o q
 simp[o];cases n;simp[j.hp];simp[e,f,g,r,j,u];intro v m;rcases m with m|rfl
 exact i v m;exact q rfl;rintro d c ⟨j,e,f,g,i⟩;rw[aI]at i;simp[e,f,g,j.hp];exact⟨h.1,s,i⟩
