/- Texts X13 to WOb. -/
import Derived.Test.YtmaeadedikngoaaGreatDoorA37
import Derived.Test.YtmaeadedikngoaaGreatDoorA38
set_option linter.all false
set_option maxRecDepth 100000
set_option maxHeartbeats 8000000
namespace Go.Proofs.YtmaeadedikngoaaGreatDoor
noncomputable section
open Go Go.TI
attribute [-simp] List.map_take List.map_drop List.map_append fw eQ dZ Bool.not_or Bool.not_and
attribute [simp] fq eY
def Pz(a:Int):Prop:=0<=a/\a<256
structure PT(v:mc):Prop where
 p:okB v.program
 q:okB v.schedule
 s:okB v.Dg
 z:Pz v.size
 w:Pz v.uy
def Ny:m6 Tryz.prog cx 8 (λb:mc=>[b.t,dy 16]) PT (λ_=>Sa):=by
 refine jd (tb:=⟨pt [(18,Em.jf),(19,Dp.jf),(20,Du.jf)],ht []⟩) ew ej (iQ 17592186046583 [(3,[(9,10)])] Tryz.func8) (λ_=>105) (λa U n=>by simp at n;exact mc.inj n) dt (by simp[Tryz.f8]) ?_;rintro b d ae r;simp at r;obtain⟨F,o⟩:=r;obtain⟨T,an⟩:=d.z;obtain⟨R,al⟩:=d.w;obtain⟨_,⟨B,rfl,G⟩,h⟩:=Em.use (b.Dg,(1+b.size% 16).toNat) ⟨d.s,dw⟩;obtain⟨_,⟨i,rfl,H⟩,l⟩:=Em.use ([],0) ⟨⟨dt,dt⟩,dt⟩;obtain⟨_,⟨Q,rfl,D,hl⟩,eT⟩:=Dp.use (b.program,b.schedule.take (min b.schedule.length 80)) ⟨d.p,⟨by have:=d.q.1;simp;omega,λS P=>d.q.2 S (bw P)⟩,du⟩;obtain⟨_,⟨c,V,rfl,O⟩,g⟩:=Du.use (Q,(1+b.size% 16).toNat) ⟨D,dw,dw,dw⟩;simp only at eT g h l;rw[show(((1+b.size% 16).toNat:Nat):Int)=1+b.size% 16 by omega]at g h;have N:∀e:Int,0<=e->e<1000->IntKind.i64.wrap e=e:=λe Y Z=>by rw[<-jn,ju dq dq]
 have m:b.size.tmod 16=b.size% 16:=Int.tmod_eq_emod_of_nonneg T;have y: -9223372036854775808<=b.size:=dq;have A:b.size<9223372036854775808:=dq;have x:=yQ (k:= .i64) (a:=b.size) (show¬(16:Int)=0 by omega);have j:=N (1+b.size% 16) dq dq;simp[Tryz.f8,F];refine dW (λM=> ?_) (λM=> ?_)
 ·simp[o,y,A,x,nJ,m,j,h];exact⟨B,rfl,G⟩
 obtain⟨k,I,J⟩:∃k:Nat,min (b.schedule.length:Int) 80=k/\k=min b.schedule.length 80:=⟨_,dq,rfl⟩;rw[<-J]at eT;simp[o,I,show k<=b.schedule.length by omega,eT,y,A,x,nJ,m,j,g];refine dW (λu=> ?_) (λu=> ?_)
 ·have C:=λ{tb:fy} (ht:tb.p 18=some Em.jf)=>(show rl Tryz.prog cx tb 18 [.fR,dy 0]=some i.t from l ht);simp[C];exact⟨i,rfl,H⟩
 have K:c≠ []:=by simpa using u
 have W:0<c.length:=by rcases c with _|_<;>simp at K|-
 have E:b.uy.tmod (c.length:Int)=b.uy% (c.length:Int):=Int.tmod_eq_emod_of_nonneg R;have L:0<=b.uy% (c.length:Int):=Int.emod_nonneg _ dq;have X:b.uy% (c.length:Int)<c.length:=Int.emod_lt_of_pos _ dq;obtain⟨f,v⟩:∃f,c[(b.uy% (c.length:Int)).toNat]? =some f:=⟨_,az dq⟩;simp[show-9223372036854775808<=b.uy by omega,show b.uy<9223372036854775808 by omega,yQ (show¬(c.length:Int)=0 by omega),E,ei L,v];exact⟨f,rfl,O f (ax v)⟩
end
noncomputable section
open Go Go.TI
attribute [-simp] List.map_take List.map_drop List.map_append
@[simp] theorem PA (a:List T):dO (sl a)=none:=by cases a<;>rfl
def sv(a b:aa iN):Bool:=match a,b with|none,_=>true|some _,none=>false|some a,some b=>decide (a.ver=b.ver)
@[simp] theorem aaF (a b:iN):sv (some a) (some b)=decide (a.ver=b.ver):=id rfl
def ky(b c:H)(a:Nat):eJ b c a=sv (b.get a) (c.get a):=by
 unfold eJ sv;cases b.get a with
 |none=>rfl
 |some d=>cases c.get a<;>simp
def Bo:gu:=⟨Int×Nat,λa=>[dy a.1,dy a.2],λa=>True,λa=> .bool (iT a.1 a.2),λa c b=>by simp at b;rw[b.1,show a.2=c.2 by omega]⟩
def Uu:Bo.Ok Tryz.prog cx 31:=by
 refine gX (tb:=⟨pt [],ht []⟩) ew ej (iQ 19 [] Tryz.func31) (λf=>1) (by simp[Bo]) (by simp[Bo,Tryz.f31]) ?_;rintro⟨e,g⟩ _ h a;simp[Bo]at a|-;obtain⟨b,c⟩:=a;by_cases d:0<=e<;>simp[Tryz.f31,b,c,d,iT]
def Tz{c:fy}(ht:c.p 31=some Bo)(a:Int)(b:Nat):rl Tryz.prog cx c 31 [dy a,dy b]=some (.bool (iT a b)):=gU ht Uu (a,b) trivial
def Az:gu:=⟨ed,λa=>[a.t],λa=>True,λa=> .bool (vx a),λa c b=>by simp at b;rw[ed.inj b]⟩
def QY:Az.Ok Tryz.prog cx 28:=by
 refine gX (tb:=⟨pt [],ht []⟩) ew ej (iQ 7 [] Tryz.func28) (λd=>1) (by simp[Az]) (by simp[Az,Tryz.f28]) ?_;rintro(b:ed) _ e a;simp[Az]at a|-;by_cases c:b.kind=3<;>simp[Tryz.f28,a,c,vx]
def Jg{b:fy}(ht:b.p 28=some Az)(a:ed):rl Tryz.prog cx b 28 [a.t]=some (.bool (vx a)):=gU ht QY a trivial
def Uz:Az.Ok Tryz.prog cx 131:=by
 refine gX (tb:=⟨pt [],ht []⟩) ew ej (iQ 7 [] Tryz.func131) (λd=>1) (by simp[Az]) (by simp[Az,Tryz.f131]) ?_;rintro(b:ed) _ e a;simp[Az]at a|-;by_cases c:b.kind=3<;>simp[Tryz.f131,a,c,vx]
def Py{b:fy}(ht:b.p 131=some Az)(a:ed):rl Tryz.prog cx b 131 [a.t]=some (.bool (vx a)):=gU ht Uz a trivial
def vD:gu:=⟨Int,λa=>[dy a],λa=>True,λa=> .bool (pL a),λa c b=>by simp at b;rw[b]⟩
def Nx:vD.Ok Tryz.prog cx 88:=by
 refine gX (tb:=⟨pt [],ht []⟩) ew ej (iQ 29 [] Tryz.func88) (λh=>1) (by simp[vD]) (by simp[vD,Tryz.f88]) ?_;rintro(b:Int) _ i a;simp[vD]at a|-;by_cases c:b=6
 ·simp[Tryz.f88,a,c,pL]
 by_cases d:b=8
 ·simp[Tryz.f88,a,d,pL]
 by_cases e:b=10
 ·simp[Tryz.f88,a,e,pL]
 by_cases f:b=17
 ·simp[Tryz.f88,a,f,pL]
 by_cases g:b=21<;>simp[Tryz.f88,a,c,d,e,f,g,pL]
def RH{b:fy}(ht:b.p 88=some vD)(a:Int):rl Tryz.prog cx b 88 [dy a]=some (.bool (pL a)):=gU ht Nx a trivial
def w8:gu:=⟨ed×ed,λa=>[a.1.t,a.2.t],λa=>True,λa=> .bool (kj a.1 a.2),λa c b=>by simp at b;rw[ed.inj b.1,ed.inj b.2]⟩
def Ls:w8.Ok Tryz.prog cx 61:=by
 refine gX (tb:=⟨pt [(28,Az)],ht []⟩) ew ej (iQ 31 [] Tryz.func61) (λa=>1) (by simp[w8]) (by simp[w8,Tryz.f61]) ?_;rintro⟨a,e⟩ _ j f;simp[w8]at f|-;obtain⟨b,c⟩:=f;cases d:vx a with
 |false=>simp[Tryz.f61,b,c,Jg,d,kj]
 |true=>
  cases g:vx e with
  |false=>simp[Tryz.f61,b,c,Jg,d,g,kj]
  |true=>
   cases h:decide (a.obj=e.obj)<;>cases i:decide (a.kind=4)<;>simp[Tryz.f61,b,c,Jg,d,g,h,i,kj]
def Cw{c:fy}(ht:c.p 61=some w8)(a b:ed):rl Tryz.prog cx c 61 [a.t,b.t]=some (.bool (kj a b)):=gU ht Ls (a,b) trivial
def qj:gu:=⟨fM×Int×Int,λa=>[a.1.t,dy a.2.1,dy a.2.2],λa=>iT a.2.1 a.1.w.dK.length=true/\iT a.2.2 a.1.w.dK.length=true,λa=> .bool (kj (qn a.1.w.dK a.2.1) (qn a.1.w.dK a.2.2)),λa c b=>by simp at b;rw[fM.inj b.1,b.2.1,b.2.2]⟩
def N6:qj.Ok Tryz.prog cx 87:=by
 refine gX (tb:=⟨pt [(131,Az)],ht []⟩) ew ej (iQ 463 [(1,[(8,14),(10,14),(11,14)])] Tryz.func87) (λb=>1) (by simp[qj]) (by simp[qj,Tryz.f87]) ?_;rintro⟨m,p,q⟩ c t a;simp[qj]at c a|-;obtain⟨e,f,g⟩:=a;obtain⟨b,a,n⟩:=iu c.1;obtain⟨d,h,o⟩:=iu c.2;have i:=ei (fj.1 c.1).1;have j:=ei (fj.1 c.2).1;rw[show qn m.w.dK p=b by simp[qn,n],show qn m.w.dK q=d by simp[qn,o]];cases k:vx b with
 |false=>simp[Tryz.f87,e,f,g,i,j,a,h,Py,ky,k,kj]
 |true=>
  cases l:vx d with
  |false=>simp[Tryz.f87,e,f,g,i,j,a,h,Py,ky,k,l,kj]
  |true=>
   cases r:decide (b.obj=d.obj)<;>cases s:decide (b.kind=4)<;>simp[Tryz.f87,e,f,g,i,j,a,h,Py,ky,k,l,r,s,kj]
def A3{d:fy}(ht:d.p 87=some qj)(a:fM)(b c:Int)(e:iT b a.w.dK.length=true)(f:iT c a.w.dK.length=true):rl Tryz.prog cx d 87 [a.t,dy b,dy c]=some (.bool (kj (qn a.w.dK b) (qn a.w.dK c))):=gU ht N6 (a,b,c) ⟨e,f⟩
end
noncomputable section
open Go Go.TI
end
noncomputable section
open Go Go.TI
attribute [-simp] List.map_take List.map_drop List.map_append fw eQ dZ Bool.not_or Bool.not_and
attribute [simp] fq eY
attribute [-simp] size_cons
def rU{e:dU}{d:fk}{a:Int}(h:mr e d=true)(c:iT a e.dY.length=true):∃b,jX a=some a.toNat/\d.dY[a.toNat]? =some b/\ml d a=b:=by
 rw[<-(nO h).1]at c;obtain⟨b,f,g⟩:=iu c;exact⟨b,ei (fj.1 c).1,f,by simp[ml,g]⟩
def A0{d:dU}{e:fk}{b:Int}(g:mr d e=true)(h:iT b d.fZ.length=true):∃a c,jX b=some b.toNat/\d.fZ[b.toNat]? =some a/\jX a.kl=some a.kl.toNat/\e.dY[a.kl.toNat]? =some c/\rh d e b=c:=by
 obtain⟨a,f,i⟩:=iu h;obtain⟨c,j,k,l⟩:=rU g (rf g f);exact⟨a,c,ei (fj.1 h).1,f,j,k,by simp[rh,i,l]⟩
def wV{e:dU}{d:fk}{a:Int}(h:mr e d=true)(c:iT a e.dE.length=true):∃b,jX a=some a.toNat/\d.dE[a.toNat]? =some b/\pf d a=b:=by
 rw[<-(nO h).2.2]at c;obtain⟨b,f,g⟩:=iu c;exact⟨b,ei (fj.1 c).1,f,by simp[pf,g]⟩
def kL.at{b:eZ}(j:kL b){i:Int}(c:iT i b.dK.length=true):∃a:ed,b.dK[i.toNat]? =some a/\jX i=some i.toNat/\b.gx.e i=a/\iT a.dQ b.eK.dE.length=true/\jD b.eK a.kind a.obj=true:=by
 obtain⟨a,d,f,g,h⟩:=j.ok.e c;exact⟨a,d,ei (fj.1 c).1,f,g,h⟩
def kL.rd{w:eZ}(c:kL w){b:Int}(g:iT b w.dK.length=true):(∀d∈(w.gx.s b).dY,d.eg.length<=2000)/\(w.gx.s b).D0:=by
 have e:=c.sm.ow (w:=w.eK) (w.dK.take b.toNat);rw[(c.ok.s g).1];exact⟨λd hl=>by have f:=e.r d hl;have h:=c.ok.len;simp at f;omega,e.a⟩
def I3(a:d8)(b:H):fdW b 0 Qq a.t=some (.val a.fF.t b):=by
 unfold d8.t d8.cs fk.t fk.cs;simp[-fk.fold,-d8.fold]
def t9:gu:=⟨eZ×Int×Int,λa=>[a.1.t,dy a.2.1,dy a.2.2],λa=>kL a.1/\iT a.2.1 a.1.dK.length=true/\iT a.2.2 a.1.dK.length=true,λa=> .bool (a.1.gx.rH a.2.1 a.2.2),λa c b=>by simp at b;rw[eZ.inj b.1,b.2.1,b.2.2]⟩
def Oe:t9.Ok Tryz.prog cx 57:=by
 refine gX (tb:=⟨pt [(62,kO),(56,Bq)],ht []⟩) ew ej (iQ 77371547675299043809952719 [(1,[(6,12),(8,12),(9,12)])] Tryz.func57) (λ_=>10) (by simp[t9]) (by simp[t9,Tryz.f57]) ?_;rintro⟨d,l,q⟩ ⟨g,m,u⟩ X t;simp only at g m u;simp[t9]at t|-;obtain⟨M,r,N⟩:=t;obtain⟨R,J,K,L,V,W⟩:=g.at m;obtain⟨b,G,H,I,U,k⟩:=g.at u;obtain⟨z,j⟩:=g.ok.s m;have y:=(g.rd m).1;have O:=λ{tb:fy} (ht:tb.p 62=some kO)=>zG ht xf d l g;generalize ow d.eK d.jK (d.dK.take l.toNat)=A at*
 rw[z]at y j;have a:=GX.rH.eq_1 d.gx l q;rw[I,L,z,show d.gx.w=d.eK from rfl]at a;generalize d.gx.rH l q=S at*
 simp[Tryz.f57,M,r,N,G,H,J,K,ky];refine dW (λn=> ?_) (λn=> ?_)
 ·simp at n;simp[a,n]
 have P:¬b.dQ=R.dQ:=by simpa using n
 rw[ao P]at a;simp[r,O,I3];have v:∀c:dV,A.fF.dY[b.obj.toNat]? =some c->c.eg.length<=1099511627776:=λc hl=>by have:=y c (ax hl);omega
 cases x:decide (b.kind=6)with
 |true=>
  have e:b.kind=6:=by simpa using x
  obtain⟨c,l1,l2,l3⟩:=rU j (kA k dq);have hl:=v c l2;rw[aq (.inl e),l3]at a;simp[l1,l2,Ps,hl,a]
 |false=>
  cases f:decide (b.kind=10)with
  |true=>
   have e:b.kind=10:=by simpa using f
   obtain⟨c,l1,l2,l3⟩:=rU j (kA k dq);have hl:=v c l2;rw[aq (.inr e),l3]at a;simp[f,l1,l2,Ps,hl,a]
  |false=>
   have Q:¬(b.kind=6\/b.kind=10):=by simp at x f;omega
   rw[ao Q]at a;cases h:decide (b.kind=8)with
   |true=>
    have e:b.kind=8:=by simpa using h
    obtain⟨c,l1,l2,l3⟩:=rU j (kA k dq);rw[aq e,l3]at a;simp[f,h,l1,l2,a]
   |false=>
    rw[ao (by simpa using h)]at a;cases i:decide (b.kind=17)with
    |true=>
     have e:b.kind=17:=by simpa using i
     obtain⟨T,c,B,C,D,E,F⟩:=A0 j (nG k dq);rw[aq e,F]at a;simp[f,h,i,B,C,D,E,a]
    |false=>
     rw[ao (by simpa using i)]at a;cases o:decide (b.kind=21)with
     |true=>
      rw[aq (by simpa using o)]at a;simp[f,h,i,o,a]
     |false=>
      rw[ao (by simpa using o)]at a;simp[f,h,i,o,a]
def Fq(d:GX){lo hi:Int}{a b:Nat}(c:ed->Bool)(e:lo=a)(f:hi=b):d.TA lo hi c=((d.ev.drop a).take (b-a)).all c:=by
 unfold GX.TA;rw[e,f,show((b:Int)-a).toNat=b-a by omega];rfl
def D1{d:ed->Bool}{c:List ed}{a b:Nat}{e:ed}(f:c[a]? =some e)(g:a<b):((c.drop a).take (b-a)).all d=(d e&&((c.drop (a+1)).take (b-(a+1))).all d):=by
 obtain⟨hl,rfl⟩:=List.getElem?_eq_some_iff.1 f;rw[aI hl,show b-a=(b-(a+1))+1 by omega,List.take_succ_cons,cA]
def kL.nat{c:eZ}{a:Int}(d:iT a c.dK.length=true):∃b:Nat,a=b/\b<c.dK.length:=by
 have:=fj.1 d;exact⟨a.toNat,dq,this.2⟩
def vK:gu:=⟨eZ×jy,λe=>[e.1.t,e.2.t],λe=>kL e.1/\iT e.2.a e.1.dK.length=true/\iT e.2.b e.1.dK.length=true,λe=> .bool (decide (e.2.c=0)&&decide (e.2.d=0)&&decide (e.2.kG=[])&&e.1.gx.QB e.2.a e.2.b),λe g f=>by simp at f;rw[eZ.inj f.1,jy.inj f.2]⟩
def NH:vK.Ok Tryz.prog cx 32:=by
 refine gX (tb:=⟨pt [(61,w8)],ht []⟩) ew ej (iQ 127 [(1,[(7,14),(9,14),(10,14),(11,14)])] Tryz.func32) (λ_=>10) (by simp[vK]) (by simp[vK,Tryz.f32]) ?_;rintro⟨a,⟨A,f,g,q,z,B⟩⟩ ⟨c,n,o⟩ C l;simp only at n o;replace c:kL a:=c;simp[vK]at l|-;obtain⟨j,k⟩:=l;obtain⟨d,a1,a2,a3,a4,a5⟩:=c.at n;obtain⟨u,h,i,p,x,y⟩:=c.at o;have e:=GX.QB.eq_1 a.gx f g;rw[a3,p,show a.gx.w=a.eK from rfl]at e;generalize a.gx.QB f g=v at*
 cases b:kj d u with
 |false=>
  simp[Tryz.f32,j,k,a1,a2,h,i,ky,Cw,b,e]
 |true=>
  have r:d.kind=3\/d.kind=4:=by unfold kj vx at b;simp at b;exact b.1.1.1
  have m:iT d.obj a.eK.cells.length=true:=by unfold jD at a5;rw[ao dq,aq r]at a5;exact a5
  obtain⟨q,s,t⟩:=iu m;simp[Tryz.f32,j,k,a1,a2,h,i,ky,Cw,b,e,s,t,ei (fj.1 m).1]
  ac_rfl
def DV(a:fk)(b:H):fdW b 3 KS a.t=some (.val (sl (a.dE.map dG.t)) b):=by
 unfold fk.t fk.cs;simp[-fk.fold]
def vL:gu:=⟨eZ×jy,λe=>[e.1.t,e.2.t],λe=>kL e.1/\iT e.2.a e.1.dK.length=true/\iT e.2.b e.1.dK.length=true,λe=> .bool (decide (e.2.c=0)&&decide (e.2.d=0)&&decide (e.2.kG=[])&&e.1.gx.Qf e.2.a e.2.b),λe g f=>by simp at f;rw[eZ.inj f.1,jy.inj f.2]⟩
def NP:vL.Ok Tryz.prog cx 33:=by
 refine gX (tb:=⟨pt [(62,kO)],ht []⟩) ew ej (iQ 309637306140417614782923263 [(1,[(7,14),(9,14),(10,14),(11,14)]),(9,[(3,7)])] Tryz.func33) (λ_=>100) (by simp[vL]) (by simp[vL,Tryz.f33]) ?_;rintro⟨c,⟨an,a,b,U,V,C⟩⟩ ⟨h,w,A⟩ i K;simp only at w A;replace h:kL c:=h;simp[vL]at K|-;obtain⟨W,J⟩:=K;obtain⟨E,a1,a2,a3,a4,a5⟩:=h.at w;obtain⟨x,G,bk,R,T,bl⟩:=h.at A;obtain⟨N,O⟩:=h.ok.s w;have ae:=λ{tb:fy} (ht:tb.p 62=some kO)=>zG ht xf c a h;generalize ow c.eK c.jK (c.dK.take a.toNat)=S at*
 rw[N]at O;obtain⟨z,a7,a8,bi⟩:=wV O T;have f:=GX.Qf.eq_1 c.gx a b;rw[a3,R,N,bi]at f;generalize c.gx.Qf a b=P at*
 obtain⟨e,rfl,bB⟩:=kL.nat w;obtain⟨d,rfl,bH⟩:=kL.nat A;have bT:=h.ok.len;rw[cE]at a1 G;simp[Tryz.f33,W,J,a1,G,ky];refine dW (λv=> ?_) (λv=> ?_)
 ·have:(decide (U=0)&&decide (V=0)&&decide (C=[])&&P)=false:=by
   rw[cj];intro n;rw[f]at n;simp only[aB,bP,aO,bL,bj]at n v;obtain⟨⟨⟨J,o⟩,q⟩,⟨⟨⟨⟨⟨⟨⟨bu,y⟩,r⟩,u⟩,X⟩,bz⟩,bn⟩,bs⟩⟩:=n;subst q;simp[o,r,u,X]at v;omega
  simp[this]
 simp only[bI,Bool.and_eq_false_iff,bU,bj,aO]at v;obtain⟨⟨⟨⟨⟨⟨⟨ap,av⟩,aA⟩,aE⟩,aN⟩,aX⟩,a6⟩,b6⟩:=v;have hl:C=[]:=by cases C<;>simp at aA|-
 have bC:d<e:=dq;subst ap av hl;have al:=Fq c.gx (lo:=(d:Int)+1) (hi:=e) (a:=d+1) (b:=e) (λj=> !decide (j.dQ=x.dQ)) dq rfl;rw[al,show c.gx.ev=c.dK from rfl,aT (show(d:Int)<e by omega),aT aN,aT aX,aM a6,show(decide (E.kind=18)||decide (E.kind=19))=true by simpa using aE]at f;simp;generalize m:(((hE.cons _).cons _).cons _).cons _=l;have F:l.get 0=some (dA 15 0 [c.t]):=by rw[<-m];simp
 have H:l.get 1=some (dA 6 0 [jy.t ⟨an,e,d,0,0,[]⟩]):=by rw[<-m];simp
 have Q:l.get 2=some (dA 7 1 [E.t]):=by rw[<-m];simp
 have I:l.get 3=some (dA 7 1 [x.t]):=by rw[<-m];simp
 have M:Hp l:=by rw[<-m];simp
 clear m;have Z:binop .add (dy (d:Int)) (dy 1)=some (dy ((d:Int)+1)):=il dq dq;simp[Z];refine yC e (λk i n=>l=n/\d+1<=k/\((c.dK.drop k).take (e-k)).all (λj=> !decide (j.dQ=x.dQ))=((c.dK.drop (d+1)).take (e-(d+1))).all (λj=> !decide (j.dQ=x.dQ))/\dB i 2 (.ptr 0 0 0 0)/\dB i 3 (.ptr 1 0 0 0)/\dB i 5 (.ptr 2 0 0 0)/\dB i 6 (.ptr 3 0 0 0)/\dB i 7 (dy k)) ?_ dq (k:=d+1) dq ?_
 ·rintro k i _ bN ⟨rfl,bS,g,o,q,y,r,u⟩;by_cases B:k<e
  ·have L:k<c.dK.length:=dq;have Y:binop .add (dy (k:Int)) (dy 1)=some (dy ((k:Int)+1)):=il dq dq;rw[D1 (az L) B]at g;simp[F,H,I,o,q,r,u,B,L];generalize c.dK[k]=j at*
   refine dW (λD=> ?_) (λD=> ?_)
   ·rw[D]at g;rw[<-g]at f;simp[f,M]
   ·rw[D]at g;simp[o,q,y,r,u,Y];exact⟨k+1,dq,dq,dq,by simpa using g,dt⟩
  ·rw[show e-k=0 by omega]at g;rw[<-g]at f;simp at f;simp[F,H,Q,I,o,q,y,r,u,B,ae,I3,DV,a7,a8];exact⟨M,f.symm⟩
 ·simp
def qy:gu:=⟨eZ×jy,λe=>[e.1.t,e.2.t],λe=>kL e.1/\iT e.2.a e.1.dK.length=true/\iT e.2.b e.1.dK.length=true/\iT e.2.c e.1.dK.length=true/\iT e.2.d e.1.dK.length=true,λe=> .bool (decide (e.2.kG=[])&&e.1.gx.Jj e.2.a e.2.b e.2.c e.2.d),λe g f=>by simp at f;rw[eZ.inj f.1,jy.inj f.2]⟩
def Iy:qy.Ok Tryz.prog cx 34:=by
 refine gX (tb:=⟨pt [(62,kO),(61,w8)],ht []⟩) ew ej (iQ 324518867979139826586741578400767 [(3,[(7,28),(9,28),(10,28),(11,28),(13,28),(15,28),(16,28),(17,28),(19,28),(21,28),(22,28),(23,28),(13,29),(15,29),(16,29),(17,29),(19,29),(21,29),(22,29),(23,29),(19,30),(21,30),(22,30),(23,30)]),(11,[(3,7)])] Tryz.func34) (λ_=>100) (by simp[qy]) (by simp[qy,Tryz.f34]) ?_;rintro⟨c,⟨bn,a,b,x,A,G⟩⟩ ⟨i,B,E,T,U⟩ m Q;simp only at B E T U;replace i:kL c:=i;simp[qy]at Q|-;obtain⟨aE,aN⟩:=Q;obtain⟨n,a1,a2,a3,a4,a5⟩:=i.at B;obtain⟨y,K,b6,Z,b7,b8⟩:=i.at E;obtain⟨u,ae,al,an,b9,ca⟩:=i.at T;obtain⟨v,ap,av,aA,cb,ce⟩:=i.at U;obtain⟨X,Y⟩:=i.ok.s B;have bk:=λ{tb:fy} (ht:tb.p 62=some kO)=>zG ht xf c a i;generalize ow c.eK c.jK (c.dK.take a.toNat)=S at*
 rw[X]at Y;obtain⟨z,bN,bS,bT⟩:=wV Y a4;have f:=GX.Jj.eq_1 c.gx a b x A;rw[a3,Z,an,aA,X,bT]at f;generalize c.gx.Jj a b x A=I at*
 obtain⟨g,rfl,cv⟩:=kL.nat B;obtain⟨e,rfl,cy⟩:=kL.nat E;have c4:=i.ok.len;rw[cE]at a1 K;simp[Tryz.f34,aE,aN];refine dW (λd=> ?_) (λd=> ?_)
 ·have:(decide (G=[])&&I)=false:=by
   rw[cj];intro h;rw[f]at h;simp only[aB,bP,aO,bL,bj]at h d;obtain⟨o,⟨⟨⟨⟨⟨⟨⟨⟨a7,q⟩,O⟩,P⟩,a8⟩,l⟩,N⟩,aX⟩,a6⟩⟩:=h;subst o;simp at d;omega
  simp[this]
 simp only[bI,bj]at d;obtain⟨⟨bs,c6⟩,c7⟩:=d;have hl:G=[]:=by cases G<;>simp at bs|-
 have cp:g<e:=dq;subst hl;simp[a1,K,ae,al,ap,av,ky,Cw];refine dW (λd=> ?_) (λd=> ?_)
 ·have:I=false:=by
   rw[cj];intro h;rw[f]at h;simp only[aB,bP,aO,bL,bj]at h d;obtain⟨⟨⟨⟨⟨⟨⟨⟨a7,q⟩,O⟩,P⟩,a8⟩,l⟩,N⟩,aX⟩,a6⟩:=h;simp[O,P,l,N]at d;omega
  simp[this]
 simp only[bI,bU,bj,aO]at d;obtain⟨⟨⟨⟨bu,bz⟩,bB⟩,bC⟩,bH⟩:=d;have bl:=Fq c.gx (lo:=(g:Int)) (hi:=e) (a:=g) (b:=e) (GX.ym n.dQ) rfl rfl;rw[bl,show c.gx.ev=c.dK from rfl,aT (show(g:Int)<e by omega),aT (show x<=A by omega),aT bu,aT bz,aM bB,bC,bH]at f;simp;generalize w:(((((hE.cons _).cons _).cons _).cons _).cons _).cons _=r;have J:r.get 0=some (dA 15 0 [c.t]):=by rw[<-w];simp
 have L:r.get 1=some (dA 6 0 [jy.t ⟨bn,g,e,x,A,[]⟩]):=by rw[<-w];simp
 have M:r.get 2=some (dA 7 1 [n.t]):=by rw[<-w];simp
 have W:Hp r:=by rw[<-w];simp
 clear w;refine yC e (λk m h=>r=h/\g<=k/\((c.dK.drop k).take (e-k)).all (GX.ym n.dQ)=((c.dK.drop g).take (e-g)).all (GX.ym n.dQ)/\dB m 2 (.ptr 0 0 0 0)/\dB m 3 (.ptr 1 0 0 0)/\dB m 5 (.ptr 2 0 0 0)/\dB m 9 (dy k)) ?_ dq (k:=g) dq ?_
 ·rintro k m _ cL ⟨rfl,c1,j,D,o,q,l⟩;by_cases F:k<e
  ·have V:k<c.dK.length:=dq;have bi:binop .add (dy (k:Int)) (dy 1)=some (dy ((k:Int)+1)):=il dq dq;rw[D1 (az V) F]at j;simp[J,L,M,D,o,q,l,F,V];generalize c.dK[k]=C at*
   have R:GX.ym n.dQ C= !(decide (C.dQ=n.dQ)&&decide (C.kind=15)):=rfl;refine dW (λH=> ?_) (λH=> ?_)
   ·rw[R,H]at j;rw[<-j]at f;simp at f;simp[f,W]
   ·rw[R,H]at j;simp[D,o,q,l,bi];exact⟨k+1,dq,dq,dq,by simpa using j,dt⟩
  ·rw[show e-k=0 by omega]at j;rw[<-j]at f;simp at f;simp[J,L,M,D,o,q,l,F,bk,I3,DV,bN,bS];exact⟨W,f.symm⟩
 ·simp
def RO{d:fy}(ht:d.p 57=some t9)(a:eZ)(c b:Int)(g:kL a)(e:iT c a.dK.length=true)(f:iT b a.dK.length=true):rl Tryz.prog cx d 57 [a.t,dy c,dy b]=some (.bool (a.gx.rH c b)):=gU ht Oe (a,c,b) ⟨g,e,f⟩
def yn(c:GX)(d:Int->Int->Bool)(a:List Int)(b:Nat):Bool:=
 !decide (a.getD b 0<a.getD 0 0)&&d (a.getD ((b+1)% a.length) 0) (a.getD b 0)&&(List.range b).all λf=> !decide ((c.e (a.getD b 0)).dQ=(c.e (a.getD f 0)).dQ)
def Hn{d:GX}{e:Int->Int->Bool}{b:List Int}(f:2<=b.length)(g:b.length<=4)(h:∀a<b.length,iT (b.getD a 0) d.ev.length=true)(i:∀a<b.length,yn d e b a=true):d.Mq e b=true:=by
 unfold GX.Mq;simp only[aB,aO];refine⟨⟨⟨f,g⟩,List.all_eq_true.2 λk j=> ?_⟩,List.all_eq_true.2 λa c=>i a (List.mem_range.1 c)⟩;obtain⟨a,c,rfl⟩:=List.mem_iff_getElem.1 j;have:=h a c;simpa[List.getD,c]using this
def nP{e:GX}{f:Int->Int->Bool}{a:List Int}(h:a.length<2\/4<a.length\/(∃b<a.length,iT (a.getD b 0) e.ev.length=false)\/∃b<a.length,yn e f a b=false):e.Mq f a=false:=by
 rw[cj];intro d;unfold GX.Mq at d;simp only[aB,aO]at d;obtain⟨⟨⟨j,k⟩,g⟩,i⟩:=d;rcases h with h|h|⟨b,c,h⟩|⟨b,c,h⟩
 ·omega
 ·omega
 ·have:=List.all_eq_true.1 g (a.getD b 0) (by simp[List.getD,c]);rw[h]at this;simp at this
 ·have:=List.all_eq_true.1 i b (List.mem_range.2 c);unfold yn at h;rw[h]at this;simp at this
def JK(a b:Nat)(d:b≠0)(c:a<9223372036854775808):binop .rem (dy (a:Int)) (dy (b:Int))=some (dy ((a% b:Nat):Int)):=by
 rw[yQ dq];rfl
def vN:gu:=⟨eZ×jy,λa=>[a.1.t,a.2.t],λa=>kL a.1/\a.2.kG.length<=1000000,λa=> .bool (a.1.gx.dead a.1.gx.rH a.2),λa c b=>by simp at b;rw[eZ.inj b.1,jy.inj b.2]⟩
def N1:vN.Ok Tryz.prog cx 30:=by
 refine gX (tb:=⟨pt [(57,t9),(31,Bo)],ht []⟩) ew ej (iQ 2596148777438049903812084076904959 [] Tryz.func30) (λ_=>100) (by simp[vN]) (by simp[vN,Tryz.f30]) ?_;rintro⟨d,⟨S,z,A,B,C,a⟩⟩ ⟨u,aE⟩ f U;simp only at aE;replace u:kL d:=u;simp[vN]at U|-;obtain⟨ae,P⟩:=U;have n:d.gx.dead d.gx.rH ⟨S,z,A,B,C,a⟩=(decide (z=0)&&decide (A=0)&&decide (B=0)&&decide (C=0)&&d.gx.Mq d.gx.rH a):=rfl;generalize d.gx.dead d.gx.rH ⟨S,z,A,B,C,a⟩=Y at*
 simp[Tryz.f30,ae,P];refine dW (λL=> ?_) (λL=> ?_)
 ·have:Y=false:=by
   rw[cj];intro h;rw[n]at h;simp only[aB,aO]at h;obtain⟨⟨⟨⟨P,i⟩,j⟩,al⟩,g⟩:=h;simp[P,i,j,al]at L;rw[nP dq]at g;simp at g
  simp[this]
 simp only[bI,bU,bj,aO]at L;obtain⟨⟨⟨⟨⟨aN,aX⟩,a6⟩,a7⟩,bn⟩,bs⟩:=L;have av:2<=a.length:=dq;have aA:a.length<=4:=dq;have bk:=u.ok.len;rw[aN,aX,a6,a7]at n;simp at n;simp;generalize F:(hE.cons _).cons _=r;have M:r.get 0=some (dA 15 0 [d.t]):=by rw[<-F];simp
 have N:r.get 1=some (dA 6 0 [jy.t ⟨S,z,A,B,C,a⟩]):=by rw[<-F];simp
 have K:Hp r:=by rw[<-F];simp
 clear F;refine fh a.length dq (λb f h=>r=h/\(∀c<b,iT (a.getD c 0) d.dK.length=true)/\dB f 2 (.ptr 0 0 0 0)/\dB f 3 (.ptr 1 0 0 0)/\dB f 5 (dy a.length)/\dB f 6 (dy b)) ?_ ?_ dq ?_
 ·rintro b f _ m G ⟨rfl,I,i,j,g,D⟩;have s:a.getD b 0=a[b]:=by simp[List.getD,m]
  simp[M,N,i,j,g,D,m,Tz];refine dW (λl=> ?_) (λl=> ?_)
  ·rw[nP (.inr (.inr (.inl ⟨b,m,by rw[s];exact(by simpa using l:iT a[b] d.dK.length=false)⟩)))]at n;simp[n,K]
  ·simp[i,j,g,D,G];intro c q;rcases aD c b with h|h
   ·simpa using I c h
   ·rw[show c=b by omega];simpa[m]using l
 ·rintro f _ ⟨rfl,I,i,j,g,D⟩;simp[g,D];have H:∀c (q:c<a.length),iT a[c] d.dK.length=true:=λc q=>by simpa[List.getD,q]using I c q
  refine fh a.length dq (λb f h=>r=h/\(∀c<b,yn d.gx d.gx.rH a c=true)/\dB f 2 (.ptr 0 0 0 0)/\dB f 3 (.ptr 1 0 0 0)/\dB f 5 (dy a.length)/\dB f 7 (dy b)) ?_ ?_ dq ?_
  ·rintro b f _ m G ⟨rfl,Q,i,j,g,o⟩;have s:∀c (q:c<a.length),a.getD c 0=a[c]:=λc q=>by simp[List.getD,q]
   have O:0<a.length:=dq;have W:=JK (b+1) a.length dq dq;have J:(b+1)% a.length<a.length:=Nat.mod_lt _ O;have v:yn d.gx d.gx.rH a b=(!decide (a[b]<a[0])&&d.gx.rH (a[(b+1)% a.length]'J) a[b]&&(List.range b).all λk=> !decide ((d.gx.e a[b]).dQ=(d.gx.e (a.getD k 0)).dQ)):=by unfold yn;rw[s _ m,s _ O,s _ J]
   generalize(b+1)% a.length=X at*
   have Z:=λ{tb:fy} (ht:tb.p 57=some t9)=>RO ht d a[X] a[b] u (H X J) (H b m);obtain⟨x,a1,a2,a3,a4,a5⟩:=u.at (H b m);rw[a3]at v;simp at W;simp[M,N,i,j,g,o,m,G,O,W,J,Z];refine dW (λl=> ?_) (λl=> ?_)
   ·have:yn d.gx d.gx.rH a b=false:=by
     rw[v,cj];intro h;simp only[aB,bL,bj]at h;simp[h.1.2]at l;omega
    rw[nP (.inr (.inr (.inr ⟨b,m,this⟩)))]at n;simp[n,K]
   ·simp only[bI,bU,bj]at l;rw[l.2,aM l.1]at v;simp;refine fh b dq (λk f h=>r=h/\(∀c<k,decide (x.dQ=(d.gx.e (a.getD c 0)).dQ)=false)/\dB f 2 (.ptr 0 0 0 0)/\dB f 3 (.ptr 1 0 0 0)/\dB f 5 (dy a.length)/\dB f 7 (dy b)/\dB f 8 (dy k)) ?_ ?_ dq ?_
    ·rintro k f _ V an ⟨rfl,R,i,j,g,o,E⟩;have w:k<a.length:=dq;obtain⟨y,a8,bi,T,bu,bz⟩:=u.at (H k w);simp[M,N,i,j,o,E,V,w,m,a1,a2,a8,bi];have bl:(d.gx.e (a.getD k 0)).dQ=y.dQ:=by rw[s k w,T]
     refine dW (λl=> ?_) (λl=> ?_)
     ·have:yn d.gx d.gx.rH a b=false:=by
       rw[v];simp;exact⟨k,V,by simpa[w,T]using l⟩
      rw[nP (.inr (.inr (.inr ⟨b,m,this⟩)))]at n;simp[n,K]
     ·simp[i,j,g,o,E,an];intro c q;rcases aD c k with h|h
      ·simpa using R c h
      ·rw[show c=k by omega];simp[w,T];simpa using l
    ·rintro f _ ⟨rfl,R,i,j,g,o,E⟩;simp[i,j,g,o,E,G];intro c q;rcases aD c b with h|h
     ·exact Q c h
     ·rw[show c=b by omega,v];simp;intro k ap;simpa using R k ap
    ·simp[i,j,g,o]
  ·rintro f _ ⟨rfl,Q,i,j,g,o⟩;rw[Hn av aA I Q]at n;simp[g,o,n,K]
  ·simp[i,j,g]
 ·simp
def sU:gu:=⟨eZ×jy,λa=>[a.1.t,a.2.t],λa=>kL a.1/\a.2.kG.length<=1000000,λa=> .bool (a.1.gx.vR a.2),λa c b=>by simp at b;rw[eZ.inj b.1,jy.inj b.2]⟩
def Lh:sU.Ok Tryz.prog cx 15:=by
 refine gX (tb:=⟨pt [(31,Bo),(30,vN),(32,vK),(33,vL),(34,qy)],ht []⟩) ew ej (iQ 9302967882613055 [] Tryz.func15) (λ_=>100) (by simp[sU]) (by simp[sU,Tryz.f15]) ?_;rintro⟨f,e⟩ ⟨h,v⟩ E u;simp only at v;replace h:kL f:=h;simp[sU]at u|-;obtain⟨r,s⟩:=u;have g:=GX.vR.eq_1 f.gx e;simp only[show∀w,f.gx.Al w=iT w f.dK.length from λ_=>rfl]at g;generalize f.gx.vR e=D at*
 have A:∀{tb:fy},tb.p 30=some vN->rl Tryz.prog cx tb 30 [f.t,e.t]=some (.bool (f.gx.dead f.gx.rH e)):=λht=>gU ht N1 (f,e) ⟨h,v⟩;cases o:decide (e.kind=2)with
 |true=>
  rw[aq (by simpa using o)]at g;simp[Tryz.f15,r,s,o,A,g]
 |false=>
  rw[ao (by simpa using o)]at g;simp[Tryz.f15,r,s,o,Tz];refine dW (λl=> ?_) (λl=> ?_)
  ·rw[ao (by intro j;simp only[aB]at j;simp[j.1.1.1,j.1.1.2,j.1.2,j.2]at l)]at g;simp[g]
  simp only[bI,bU]at l;obtain⟨⟨⟨m,n⟩,x⟩,y⟩:=l;rw[aq (by rw[m,n,x,y];rfl)]at g;have C:∀{tb:fy},tb.p 32=some vK->rl Tryz.prog cx tb 32 [f.t,e.t]=some (.bool (decide (e.c=0)&&decide (e.d=0)&&decide (e.kG=[])&&f.gx.QB e.a e.b)):=λht=>gU ht NH (f,e) ⟨h,m,n⟩;have B:∀{tb:fy},tb.p 33=some vL->rl Tryz.prog cx tb 33 [f.t,e.t]=some (.bool (decide (e.c=0)&&decide (e.d=0)&&decide (e.kG=[])&&f.gx.Qf e.a e.b)):=λht=>gU ht NP (f,e) ⟨h,m,n⟩;have z:∀{tb:fy},tb.p 34=some qy->rl Tryz.prog cx tb 34 [f.t,e.t]=some (.bool (decide (e.kG=[])&&f.gx.Jj e.a e.b e.c e.d)):=λht=>gU ht Iy (f,e) ⟨h,m,n,x,y⟩;cases i:decide (e.kind=1)with
  |true=>
   rw[aq (by simpa using i)]at g;simp[i,C,g]
  |false=>
   rw[ao (by simpa using i)]at g;cases k:decide (e.kind=3)with
   |true=>
    rw[aq (by simpa using k)]at g;simp[i,k,B,g]
   |false=>
    rw[ao (by simpa using k)]at g;cases q:decide (e.kind=4)with
    |true=>
     rw[aq (by simpa using q)]at g;simp[i,k,q,z,g]
    |false=>
     rw[ao (by simpa using q)]at g;simp[i,k,q,g]
def Ph{c:fy}(ht:c.p 15=some sU)(b:eZ)(a:jy)(d:kL b)(hl:a.kG.length<=1000000):rl Tryz.prog cx c 15 [b.t,a.t]=some (.bool (b.gx.vR a)):=gU ht Lh (b,a) ⟨d,hl⟩
def Le:pX.Ok Tryz.prog cx 122:=by
 refine gX (tb:=⟨pt [],ht []⟩) ew ej (iQ 19 [] Tryz.func122) (λf=>1) (by simp[pX]) (by simp[pX,Tryz.f122]) ?_;rintro⟨e,g⟩ _ h a;simp[pX]at a|-;obtain⟨b,c⟩:=a;by_cases d:0<=e<;>simp[Tryz.f122,b,c,d,iT]
def yw{c:fy}(ht:c.p 122=some pX)(a:Int)(b:Nat):rl Tryz.prog cx c 122 [dy a,dy b]=some (.bool (iT a b)):=gU ht Le (a,b) trivial
def yV:gu:=⟨dU×fk,λa=>[a.1.t,a.2.t],λa=>mr a.1 a.2=true/\a.1.fZ.length<=1000000,λa=> .bool true,λa b c=>rfl⟩
def QU:yV.Ok Tryz.prog cx 121:=by
 refine gX (tb:=⟨pt [(122,pX)],ht []⟩) ew ej (iQ 35315368591455 [] Tryz.func121) (λv=>1000005) (by simp[yV]) (by simp[yV,Tryz.f121]) ?_;rintro⟨e,w⟩ ⟨h,r⟩ a l;simp only at h r;simp[yV]at l|-;obtain⟨o,p⟩:=l;obtain⟨l1,l2,l3⟩:=nO h;simp[Tryz.f121,o,p,l1,l2,l3];refine fh e.fZ.length dq (λn a d=>gF 2 d/\d.get 0=some (dA 6 0 [e.t])/\dB a 2 (.ptr 0 0 0 0)/\dB a 33 (sl (e.fZ.map iF.t))/\dB a 34 (dy e.fZ.length)/\dB a 35 (dy n)) ?_ ?_ dq ⟨by exact⟨dt,dt,dt⟩,dt⟩
 ·rintro n a d m q ⟨c,i,j,k,f,g⟩;have s:=rf h (az m);have u:=c.ne (b:=0) dq;simp[i,j,k,f,g,m,u,c.low,yw,s,q];exact c.cons _
 ·rintro a d ⟨c,i,j,k,f,g⟩;simp[f,g,c.hp]
def tg:gu:=⟨dU×Int×Int,λa=>[a.1.t,dy a.2.1,dy a.2.2],λa=>jD a.1 a.2.1 a.2.2=true,λa=> .bool true,λa b c=>rfl⟩
def Lz:tg.Ok Tryz.prog cx 123:=by
 refine gX (tb:=⟨pt [(122,pX)],ht []⟩) ew ej (iQ 606826398900554784047567 [] Tryz.func123) (λl=>1) (by simp[tg]) (by simp[tg,Tryz.f123]) ?_;rintro⟨k,a,j⟩ b m f;replace b:jD k a j=true:=b;simp[tg]at f|-;obtain⟨c,d,e⟩:=f;have hr:=tv b;have g:a=1\/a=2\/a=3\/a=4\/a=5\/a=6\/a=7\/a=8\/a=9\/a=10\/a=11\/a=12\/a=13\/a=14\/a=15\/a=16\/a=17\/a=18\/a=19\/a=20\/a=21\/a=22\/a=23:=dq;rcases g with rfl|rfl|rfl|rfl|rfl|rfl|rfl|rfl|rfl|rfl|rfl|rfl|rfl|rfl|rfl|rfl|rfl|rfl|rfl|rfl|rfl|rfl|rfl
 case inr.inr.inr.inr.inr.inl|inr.inr.inr.inr.inr.inr.inl|inr.inr.inr.inr.inr.inr.inr.inl|inr.inr.inr.inr.inr.inr.inr.inr.inl|inr.inr.inr.inr.inr.inr.inr.inr.inr.inl|inr.inr.inr.inr.inr.inr.inr.inr.inr.inr.inl=>
  have hl:=kA b dq;obtain⟨n,h,i⟩:=iu hl;simp[jD,i]at b;simp[Tryz.f123,c,d,e,yw,hl,h,b,ei (fj.1 hl).1]
 all_goals
  simp[jD]at b;simp[Tryz.f123,c,d,e,yw,b]
def Gi:m6 Tryz.prog cx 132 (λb:List Int×Int=>[sl (b.1.map (T.int .i64)),dy b.2]) (λb=>b.1.length<=1000000) (λb r=>∃o,r= dy o/\(0<=o↔b.2∈b.1)):=by
 refine jd (tb:=⟨pt [],ht []⟩) ew ej (iQ 66483 [] Tryz.func132) (λ_=>1000005) (λb s a=>by simp at a;exact aP (jw (λ_ _ a=>by simpa using a) a.1) a.2) dt (by simp[Tryz.f132]) ?_;rintro⟨f,p⟩ hl c m;replace hl:f.length<=1000000:=hl;simp at m;obtain⟨d,e⟩:=m;simp[Tryz.f132,d];refine fh f.length dq (λl c a=>a=hE/\p∉f.take l/\dB c 0 (sl (f.map (T.int .i64)))/\dB c 1 (dy p)/\dB c 7 (dy f.length)/\dB c 8 (dy l)) ?_ ?_ dq (by simp[d,e])
 ·rintro l c a j q ⟨rfl,k,d,e,h,i⟩;simp[d,e,h,i,j];refine dW (λg=> ?_) (λg=> ?_)
  ·simp at g;simp;subst g;exact aF j
  ·simp at g;simp[d,e,h,i,q];intro n;rw[aU j,List.mem_append,List.mem_singleton]at n;exact n.elim k g
 ·rintro c a ⟨rfl,k,d,e,h,i⟩;simp[h,i];simpa using k
def oK:gu:=⟨List Int×Int,λa=>[sl (a.1.map (T.int .i64)),dy a.2],λa=>a.1.length<=1000000,λa=> .bool (decide (a.2∈a.1)),λa c b=>by simp at b;rw[jw (λ_ _ b=>by simpa using b) b.1,b.2]⟩
def Ix:oK.Ok Tryz.prog cx 89:=by
 refine gX (tb:=⟨pt [(132,Gi.jf)],ht []⟩) ew ej (iQ 19 [] Tryz.func89) (λh=>1) (by simp[oK]) (by simp[oK,Tryz.f89]) ?_;rintro⟨b,g⟩ hl j a;replace hl:b.length<=1000000:=hl;simp[oK]at a|-;obtain⟨d,e⟩:=a;obtain⟨_,⟨i,rfl,f⟩,c⟩:=Gi.use (b,g) hl;simp[Tryz.f89,d,e,c];exact f
def zx{c:fy}(ht:c.p 89=some oK)(a:List Int)(b:Int)(hl:a.length<=1000000):rl Tryz.prog cx c 89 [sl (a.map (T.int .i64)),dy b]=some (.bool (decide (b∈a))):=gU ht Ix (a,b) hl
structure EnF(w:dU)(s:fk)(t k o:Int):Prop where
 f:mr w s=true
 th:iT t w.dE.length=true
 n:jD w k o=true
 e:AY w s t k o=true
 c:w.fZ.length<=1000000
 r:∀l∈s.dY,l.eg.length<=1000000
def vJ:gu:=⟨dU×fk×Int×Int×Int,λa=>[a.1.t,a.2.1.t,dy a.2.2.1,dy a.2.2.2.1,dy a.2.2.2.2],λa=>EnF a.1 a.2.1 a.2.2.1 a.2.2.2.1 a.2.2.2.2/\a.2.2.2.1≠1/\a.2.2.2.1≠17,λa=> .bool true,λa b c=>rfl⟩
def NG:vJ.Ok Tryz.prog cx 124:=by
 refine gX (tb:=⟨pt [(89,oK)],ht []⟩) ew ej (iQ 5868843906288553182383292937158044313155908148351 [] Tryz.func124) (λx=>1) (by simp[vJ]) (by simp[vJ,Tryz.f124]) ?_;rintro⟨F,C,D,a,B⟩ ⟨⟨g,ht,h,b,u,hr⟩,v,w⟩ E m;simp only at g ht h b u hr v w;simp[vJ]at m|-;obtain⟨d,e,i,f,j⟩:=m;have A:=tv h;obtain⟨l1,l2,l3⟩:=nO g;have c:a=2\/a=3\/a=4\/a=5\/a=12\/a=13\/(a=6\/a=7\/a=8\/a=9\/a=10\/a=11)\/(a=14\/a=15)\/(a=16\/a=18\/a=19)\/(a=20\/a=21)\/(a=22\/a=23):=dq;rcases c with rfl|rfl|rfl|rfl|rfl|rfl|c|c|c|c|c
 case inr.inr.inr.inr.inr.inr.inl=>
  obtain⟨k,a1,a2,a3⟩:=rU g (kA h dq);have hl:=hr k (ax a2);rcases c with rfl|rfl|rfl|rfl|rfl|rfl<;>simp[AY,a3]at b<;>simp[Tryz.f124,d,e,i,f,j,a1,a2,b,zx,hl]
 case inr.inr.inr.inr.inr.inr.inr.inl=>
  obtain⟨k,a1,a2,a3⟩:=wV g ht;rcases c with rfl|rfl<;>simp[AY,a3]at b<;>simp[Tryz.f124,d,e,i,f,a1,a2,b]
 case inr.inr.inr.inr.inr.inr.inr.inr.inl=>
  obtain⟨y,k,n,o,p,q,r⟩:=A0 g (nG h dq);rcases c with rfl|rfl|rfl<;>simp[AY,r]at b<;>simp[Tryz.f124,d,e,i,f,j,n,o,p,q,b]
 case inr.inr.inr.inr.inr.inr.inr.inr.inr.inl=>
  obtain⟨k,a1,a2,a3⟩:=wV g (v7 h dq);rcases c with rfl|rfl<;>simp[AY,a3]at b<;>simp[Tryz.f124,d,e,i,f,j,a1,a2,b]
 case inr.inr.inr.inr.inr.inr.inr.inr.inr.inr=>
  have l:=qz h dq;rw[<-l2]at l;obtain⟨z,s,t⟩:=iu l;rcases c with rfl|rfl<;>simp[AY,Cm,t]at b<;>simp[Tryz.f124,d,e,f,j,s,b,ei (fj.1 l).1]
 all_goals
  simp[AY]at b;simp[Tryz.f124,d,e,i,f,b]
def oJ:gu:=⟨dU×fk×Int×Int×Int,λa=>[a.1.t,a.2.1.t,dy a.2.2.1,dy a.2.2.2.1,dy a.2.2.2.2],λa=>EnF a.1 a.2.1 a.2.2.1 a.2.2.2.1 a.2.2.2.2,λa=> .bool true,λa b c=>rfl⟩
def Iw:oJ.Ok Tryz.prog cx 79:=by
 refine gX (tb:=⟨pt [(121,yV),(122,pX),(123,tg),(124,vJ)],ht []⟩) ew ej (iQ 4605278686335 [] Tryz.func79) (λF=>1) (by simp[oJ]) (by simp[oJ,Tryz.f79]) ?_;rintro⟨c,e,k,b,d⟩ f I n;replace f:EnF c e k b d:=f;obtain⟨j,ht,o,a,D,hr⟩:=id f;simp[oJ]at n|-;obtain⟨B,C,l,m,i⟩:=n;have y:∀{tb:fy},tb.p 121=some yV->rl Tryz.prog cx tb 121 [c.t,e.t]=some (.bool true):=λht=>gU ht QU (c,e) ⟨j,D⟩;have z:∀{tb:fy},tb.p 123=some tg->rl Tryz.prog cx tb 123 [c.t,dy b,dy d]=some (.bool true):=λht=>gU ht Lz (c,b,d) o;obtain⟨q,a1,a2,a3⟩:=wV j ht;simp[Tryz.f79,B,C,l,m,i,y,z,yw,ht,a1,a2];by_cases g:b=1
 ·subst g;simp[AY,a3]at a;simp[a]
 by_cases h:b=17
 ·subst h;obtain⟨G,H,s,u,v,w,x⟩:=A0 j (nG o dq);simp[AY,a3,x]at a;simp[i,a,s,u,v,w]
 have A:∀{tb:fy},tb.p 124=some vJ->rl Tryz.prog cx tb 124 [c.t,e.t,dy k,dy b,dy d]=some (.bool true):=λht=>gU ht NG (c,e,k,b,d) ⟨f,g,h⟩;have E:q.iA=2:=by
  unfold AY at a;rw[ao g,ao h,a3]at a;by_cases r:q.iA=2
  ·exact r
  ·rw[aq r]at a;simp at a
 simp[l,m,i,g,h,E,A]
def L3{a:fy}(ht:a.p 79=some oJ){w:dU}{s:fk}{t k o:Int}(b:EnF w s t k o):rl Tryz.prog cx a 79 [w.t,s.t,dy t,dy k,dy o]=some (.bool true):=gU ht Iw (w,s,t,k,o) b
end
noncomputable section
open Go Go.TI
attribute [-simp] List.map_take List.map_drop List.map_append
def mo(c:Nat)(b:List Int):Bool:=b.all λa=>iT a c
def nV:gu:=⟨fM×List Int,λa=>[a.1.t,sl (a.2.map (T.int .i64))],λa=>a.2.length<=1099511627776,λa=> .bool (mo a.1.w.dK.length a.2),λa c b=>by simp at b;rw[fM.inj b.1,jw dt b.2]⟩
def Nu:nV.Ok Tryz.prog cx 51:=by
 refine gX (tb:=⟨pt [],ht []⟩) ew ej (iQ 4196311 [] Tryz.func51) (λo=>o.2.length+1) (by simp[nV]) (by simp[nV,Tryz.f51]) ?_;rintro⟨e,b⟩ hl d m;simp[nV]at hl m|-;obtain⟨p,q⟩:=m;simp[Tryz.f51,p,q];refine fh b.length dq (λc d j=>j=H.cons hE (dA 16 0 [e.t])/\dB d 2 (.ptr 0 0 0 0)/\dB d 7 (sl (b.map (T.int .i64)))/\dB d 8 (dy b.length)/\dB d 9 (dy c)/\mo e.w.dK.length (b.drop c)=mo e.w.dK.length b) ?_ ?_ dq dt
 ·rintro c d j i r ⟨rfl,k,h,f,g,a⟩;rw[aI i]at a;simp only[mo,cA]at a;by_cases l:b[c]<0
  ·have:iT b[c] e.w.dK.length=false:=by simp[iT];omega
   rw[this,Bool.false_and]at a;simp[h,f,g,i,l,mo,a.symm]
  ·by_cases n:(e.w.dK.length:Int)<=b[c]
   ·have:iT b[c] e.w.dK.length=false:=by simp[iT];omega
    rw[this,Bool.false_and]at a;simp[k,h,f,g,i,l,n,mo,a.symm]
   ·have:iT b[c] e.w.dK.length=true:=by simp[iT];omega
    rw[this,bK]at a;simp[k,h,f,g,i,r,l,n,mo,a]
 ·rintro d j ⟨rfl,k,h,f,g,a⟩;simp[mo]at a;simp[f,g,mo];exact a
def Fl{c:fy}(ht:c.p 51=some nV)(b:fM)(a:List Int)(hl:a.length<=1099511627776):rl Tryz.prog cx c 51 [b.t,sl (a.map (T.int .i64))]=some (.bool (mo b.w.dK.length a)):=gU ht Nu (b,a) hl
def rj{d:fy}(ht:d.p 51=some nV)(a:fM)(b c:Int):rl Tryz.prog cx d 51 [a.t,sl [dy b,dy c]]=some (.bool (iT b a.w.dK.length&&iT c a.w.dK.length)):=by
 have:=Fl ht a [b,c] dt;simpa[mo]using this
def z9(a:eZ)(b c:Int):Bool:=iT b a.dK.length&&iT c a.dK.length&&decide (b<c)&&kj (qn a.dK b) (qn a.dK c)&& !decide ((qn a.dK b).dQ=(qn a.dK c).dQ)&& !((wO a.eK.cells (qn a.dK b).obj).getD default).sK
def FD(b:eZ):Prop:=∀a∈b.dK,vx a=true->iT a.obj b.eK.cells.length=true
def wX:gu:=⟨fM×Int×Int,λa=>[a.1.t,dy a.2.1,dy a.2.2],λa=>FD a.1.w,λa=> .bool (z9 a.1.w a.2.1 a.2.2),λa c b=>by simp at b;rw[fM.inj b.1,b.2.1,b.2.2]⟩
def QM:wX.Ok Tryz.prog cx 48:=by
 refine gX (tb:=⟨pt [(51,nV),(87,qj)],ht []⟩) ew ej (iQ 67109327 [(3,[(8,14),(10,14),(11,14)])] Tryz.func48) (λb=>1) (by simp[wX]) (by simp[wX,Tryz.f48]) ?_;rintro⟨j,d,e⟩ r E c;simp[wX]at r c|-;obtain⟨g,h,i⟩:=c;cases l:(iT d j.w.dK.length&&iT e j.w.dK.length)with
 |false=>simp[Tryz.f48,g,h,i,rj,l,z9,f7]
 |true=>
  have a:=l;rw[aB]at a;obtain⟨b,c,t⟩:=iu a.1;obtain⟨k,v,x⟩:=iu a.2;have A:=ei (fj.1 a.1).1;have B:=ei (fj.1 a.2).1;have n:qn j.w.dK d=b:=by simp[qn,t]
  have o:qn j.w.dK e=k:=by simp[qn,x]
  by_cases m:e<=d
  ·have:¬d<e:=dq;simp[Tryz.f48,g,h,i,rj,l,m,z9,f7,this]
  ·have p:d<e:=dq;cases f:kj b k with
   |false=>simp[Tryz.f48,g,h,i,rj,m,z9,f7,p,A3,a.1,a.2,n,o,f]
   |true=>
    have u:vx b=true:=by unfold kj at f;simp at f;exact f.1.1.1
    have q:=r b (ax c) u;obtain⟨D,y,z⟩:=iu q;have s:=ei (fj.1 q).1;cases C:decide (b.dQ=k.dQ)<;>
     simp[Tryz.f48,g,h,i,rj,m,z9,f7,p,A3,a.1,a.2,n,o,f,C,A,B,c,v,y,z,s,ky]
def Vw{d:fy}(ht:d.p 48=some wX)(a:fM)(b c:Int)(e:FD a.w):rl Tryz.prog cx d 48 [a.t,dy b,dy c]=some (.bool (z9 a.w b c)):=gU ht QM (a,b,c) e
end
noncomputable section
open Go Go.TI
attribute [-simp] List.map_take List.map_drop List.map_append fw eQ dZ Bool.not_or Bool.not_and
attribute [simp] fq eY
attribute [-simp] size_cons
structure zK(x:fM):Prop where
 w:kL x.w
 s:x.Bd=x.w.gx.st
def zK.st{a:fM}(c:zK a){e:Int}(d:iT e a.w.dK.length=true):∃b,a.Bd[e.toNat]? =some b/\a.w.gx.s e=b/\mr a.w.eK b=true/\(∀h∈b.dY,h.eg.length<=2000):=by
 obtain⟨f,i⟩:=c.w.ok.s d;have g:=c.w.ok.st (fj.1 d).2;refine⟨_,by rw[c.s];exact g,f,by rw[<-f];exact i,by rw[<-f];exact(c.w.rd d).1⟩
def qP:gu:=⟨fM×Int×Int,λa=>[a.1.t,dy a.2.1,dy a.2.2],λa=>zK a.1/\iT a.2.1 a.1.w.dK.length=true/\iT a.2.2 a.1.w.dK.length=true,λa=> .bool (a.1.w.gx.vn a.2.1 a.2.2),λa c b=>by simp at b;rw[fM.inj b.1,b.2.1,b.2.2]⟩
def Lv:qP.Ok Tryz.prog cx 55:=by
 refine gX (tb:=⟨pt [(88,vD),(89,oK)],ht []⟩) ew ej (iQ 36051629065113551 [(1,[(8,14),(10,14),(11,14)])] Tryz.func55) (λ_=>10) (by simp[qP]) (by simp[qP,Tryz.f55]) ?_;rintro⟨f,i,h⟩ ⟨p,u,A⟩ Z z;simp only at p u A;simp[qP]at z|-;obtain⟨M,k,N⟩:=z;obtain⟨v,L,j,y,X,Y⟩:=p.w.at u;obtain⟨c,I,J,K,W,n⟩:=p.w.at A;obtain⟨D,r,S,s,T⟩:=p.st u;have a:=GX.rH.eq_1 f.w.gx i h;rw[K,y,S,show f.w.gx.w=f.w.eK from rfl]at a;have t:f.w.gx.vn i h=(pL v.kind&&f.w.gx.rH i h):=by rw[<-y];rfl
 generalize f.w.gx.vn i h=C at*
 generalize f.w.gx.rH i h=U at*
 simp[Tryz.f55,M,k,N,I,J,L,j,RH,ky];refine dW (λl=> ?_) (λl=> ?_)
 ·have:C=false:=by
   rw[t];cases P:pL v.kind with
   |false=>rfl
   |true=>
    rw[P]at l;have ht:c.dQ=v.dQ:=by simpa using l
    rw[aq ht]at a;rw[a];rfl
  simp[this]
 simp only[bI,bU,bj]at l;obtain⟨O,Q⟩:=l;rw[Q,bK]at t;subst t;rw[ao O]at a;simp;have o:∀b:dV,b∈D.dY->b.eg.length<=1000000:=λb hl=>by have:=T b hl;omega
 cases B:decide (c.kind=6)with
 |true=>
  have d:c.kind=6:=by simpa using B
  obtain⟨b,l1,l2,l3⟩:=rU s (kA n dq);have hl:=o b (ax l2);rw[aq (.inl d),l3]at a;simp[k,l1,l2,r,j,zx,hl,a]
 |false=>
  cases e:decide (c.kind=10)with
  |true=>
   have d:c.kind=10:=by simpa using e
   obtain⟨b,l1,l2,l3⟩:=rU s (kA n dq);have hl:=o b (ax l2);rw[aq (.inr d),l3]at a;simp[k,e,l1,l2,r,j,zx,hl,a]
  |false=>
   have R:¬(c.kind=6\/c.kind=10):=by simp at B e;omega
   rw[ao R]at a;cases g:decide (c.kind=8)with
   |true=>
    have d:c.kind=8:=by simpa using g
    obtain⟨b,l1,l2,l3⟩:=rU s (kA n dq);rw[aq d,l3]at a;have hl:=o b (ax l2);simp[k,e,g,l1,l2,r,j,a]
   |false=>
    rw[ao (by simpa using g)]at a;cases m:decide (c.kind=17)with
    |true=>
     have d:c.kind=17:=by simpa using m
     obtain⟨V,b,E,F,G,x,H⟩:=A0 s (nG n dq);rw[aq d,H]at a;have hl:=o b (ax x);simp[k,e,g,m,E,F,G,x,r,j,a]
    |false=>
     rw[ao (by simpa using m)]at a;cases q:decide (c.kind=21)with
     |true=>
      rw[aq (by simpa using q)]at a;simp[e,g,m,q,a]
     |false=>
      rw[ao (by simpa using q)]at a;simp[e,g,m,q,a]
def yS:gu:=⟨fM×Int×Int,λa=>[a.1.t,dy a.2.1,dy a.2.2],λa=>zK a.1,λa=> .bool ((iT a.2.1 a.1.w.dK.length&&iT a.2.2 a.1.w.dK.length)&&a.1.w.gx.Qf a.2.1 a.2.2),λa c b=>by simp at b;rw[fM.inj b.1,b.2.1,b.2.2]⟩
def QP:yS.Ok Tryz.prog cx 50:=by
 refine gX (tb:=⟨pt [(51,nV)],ht []⟩) ew ej (iQ 1238093369775042453301102031 [(3,[(8,14),(10,14),(11,14)])] Tryz.func50) (λ_=>100) (by simp[yS]) (by simp[yS,Tryz.f50]) ?_;rintro⟨f,a,b⟩ p h J;replace p:zK f:=p;simp[yS]at J|-;obtain⟨D,i,u⟩:=J;cases z:(iT a f.w.dK.length&&iT b f.w.dK.length)with
 |false=>simp[Tryz.f50,D,i,u,rj,z,f7]
 |true=>
  have N:=z;rw[aB]at N;obtain⟨G,K⟩:=N;obtain⟨H,a1,a2,a3,a4,a5⟩:=p.w.at G;obtain⟨A,I,a7,R,T,a8⟩:=p.w.at K;obtain⟨S,O,av,aA,bH⟩:=p.st G;obtain⟨P,aN,aX,a6⟩:=wV aA T;have d:=GX.Qf.eq_1 f.w.gx a b;rw[a3,R,av,a6]at d;generalize f.w.gx.Qf a b=Q at*
  obtain⟨e,rfl,bu⟩:=kL.nat G;obtain⟨c,rfl,bB⟩:=kL.nat K;have bC:=p.w.ok.len;rw[cE]at a1 I O;by_cases bz:c<e;rotate_left
  ·rw[aM (show¬(c:Int)<e by omega)]at d;simp[Tryz.f50,D,i,u,rj,z,f7,d,show e<=c by omega]
  have X:=Fq f.w.gx (lo:=(c:Int)+1) (hi:=e) (a:=c+1) (b:=e) (λo=> !decide (o.dQ=A.dQ)) dq rfl;rw[X,show f.w.gx.ev=f.w.dK from rfl,aT (show(c:Int)<e by omega)]at d;have W:binop .add (dy (c:Int)) (dy 1)=some (dy ((c:Int)+1)):=il dq dq;have aE:jX ((c:Int)+1)=some (c+1):=by have:=ei (show(0:Int)<=((c+1:Nat):Int)by omega);simpa using this
  simp[Tryz.f50,D,i,u,rj,z,f7,show¬e<=c by omega,a1,I,ky];refine dW (λs=> ?_) (λs=> ?_)
  ·have:Q=false:=by
    rw[cj];intro g;rw[d]at g;simp only[aB,bP,aO,bL,bj]at g s;obtain⟨⟨⟨⟨⟨⟨⟨_,bl⟩,U⟩,r⟩,l⟩,bn⟩,bi⟩,bk⟩:=g;simp[U,r,l]at s;omega
   simp[this]
  simp only[bI,Bool.and_eq_false_iff,bU,bj,aO]at s;obtain⟨⟨⟨ae,al⟩,an⟩,ap⟩:=s;rw[aT al,aT an,aM ap,show(decide (H.kind=18)||decide (H.kind=19))=true by simpa using ae]at d;simp[-List.length_take,-List.length_drop,i,u,W,aE,show c+1<=e by omega,show e<=f.w.dK.length by omega];have bs:((f.w.dK.drop (c+1)).take (e-(c+1))).length<=16:=du;generalize(f.w.dK.drop (c+1)).take (e-(c+1))=n at*
  refine fh n.length dq (λy h g=>gF 4 g/\g.get 0=some (dA 16 0 [f.t])/\g.get 2=some (dA 7 1 [H.t])/\g.get 3=some (dA 7 1 [A.t])/\((n.drop y).all λo=> !decide (o.dQ=A.dQ))=(n.all λo=> !decide (o.dQ=A.dQ))/\dB h 1 (dy e)/\dB h 3 (.ptr 0 0 0 0)/\dB h 7 (.ptr 2 0 0 0)/\dB h 8 (.ptr 3 0 0 0)/\dB h 67 (sl (n.map ed.t))/\dB h 68 (dy n.length)/\dB h 69 (dy y)) ?_ ?_ dq ?_
  ·rintro y h g L V ⟨j,B,C,q,k,i,E,r,l,F,v,x⟩;have Y:=j.ne (b:=0) dq;have Z:=j.ne (b:=2) dq;have M:=j.ne (b:=3) dq;rw[aI L,cA]at k;simp[q,l,F,v,x,M,j.low,L];generalize n[y]=o at*
   refine dW (λm=> ?_) (λm=> ?_)
   ·rw[m]at k;rw[<-k]at d;simp at d;simp[d,j.hp]
   ·rw[m]at k;simp[i,E,r,l,F,v,x,V];exact⟨j.cons _,by simp[B,Y],by simp[C,Z],by simp[q,M],by simpa using k⟩
  ·rintro h g ⟨j,B,C,q,k,i,E,r,l,F,v,x⟩;rw[dh]at k;rw[<-k]at d;simp at d;simp[B,q,i,E,l,v,x,O,aN,aX];refine dW (λm=> ?_) (λm=> ?_)
   ·rw[show decide (P.iA=3)=false by simpa using m]at d;simp at d;simp[d,j.hp]
   ·rw[show decide (P.iA=3)=true by simpa using m]at d;simp at d;simp[C,q,r,l,j.hp,d]
  ·simp[i]
def vP:gu:=⟨fM×Int×Int,λa=>[a.1.t,dy a.2.1,dy a.2.2],λa=>zK a.1/\iT a.2.1 a.1.w.dK.length=true/\iT a.2.2 a.1.w.dK.length=true,λa=> .bool (a.1.w.gx.VJ a.2.1 a.2.2),λa c b=>by simp at b;rw[fM.inj b.1,b.2.1,b.2.2]⟩
def Of:vP.Ok Tryz.prog cx 25:=by
 refine gX (tb:=⟨pt [],ht []⟩) ew ej (iQ 18463641368405213903 [] Tryz.func25) (λ_=>100) (by simp[vP]) (by simp[vP,Tryz.f25]) ?_;rintro⟨g,a,b⟩ ⟨l,p,z⟩ h D;simp only at l p z;simp[vP]at D|-;obtain⟨C,u,v⟩:=D;obtain⟨i,a1,a2,a3,a4,a5⟩:=l.w.at p;obtain⟨V,B,X,I,Y,Z⟩:=l.w.at z;obtain⟨W,G,O,P,aA⟩:=l.st p;obtain⟨R,S,T,U⟩:=wV P a4;have d:=GX.VJ.eq_1 g.w.gx a b;rw[a3,I,O,U]at d;generalize g.w.gx.VJ a b=H at*
 obtain⟨c,rfl,al⟩:=kL.nat p;obtain⟨e,rfl,ap⟩:=kL.nat z;have av:=l.w.ok.len;rw[cE]at a1 B G;have L:=Fq g.w.gx (lo:=(c:Int)+1) (hi:=e) (a:=c+1) (b:=e) (GX.ym i.dQ) dq rfl;rw[L,show g.w.gx.ev=g.w.dK from rfl]at d;have K:binop .add (dy (c:Int)) (dy 1)=some (dy ((c:Int)+1)):=il dq dq;have Q:jX ((c:Int)+1)=some (c+1):=by have:=ei (show(0:Int)<=((c+1:Nat):Int)by omega);simpa using this
 by_cases an:c<e;rotate_left
 ·rw[aM (show¬(c:Int)<e by omega)]at d;simp[Tryz.f25,C,u,v,d,show e<=c by omega,a1]
 rw[aT (show(c:Int)<e by omega),bK]at d;simp[Tryz.f25,C,u,v,show¬e<=c by omega,a1,B,G,S,T];refine dW (λk=> ?_) (λk=> ?_)
 ·have:H=false:=by
   rw[d];cases M:decide (V.dQ=i.dQ)<;>cases N:R.atomic<;>simp[M,N]at k|-
  simp[this]
 simp only[bI,bU]at k;rw[k.1,k.2]at d;simp[-List.length_take,-List.length_drop,u,v,K,Q,show c+1<=e by omega,show e<=g.w.dK.length by omega];have ae:((g.w.dK.drop (c+1)).take (e-(c+1))).length<=16:=du;generalize(g.w.dK.drop (c+1)).take (e-(c+1))=j at*
 refine fh j.length dq (λq h s=>gF 1 s/\(j.drop q).all (GX.ym i.dQ)=j.all (GX.ym i.dQ)/\dB h 7 (dy i.dQ)/\dB h 50 (sl (j.map ed.t))/\dB h 51 (dy j.length)/\dB h 52 (dy q)) ?_ ?_ dq ?_
 ·rintro q h s F J ⟨m,f,y,x,n,o⟩;rw[aI F,cA]at f;simp[y,x,n,o,m.low,F];generalize j[q]=r at*
  have E:GX.ym i.dQ r= !(decide (r.dQ=i.dQ)&&decide (r.kind=15)):=rfl;refine dW (λA=> ?_) (λA=> ?_)
  ·rw[E,A]at f;rw[<-f]at d;simp at d;simp[d,m.hp]
  ·rw[E,A]at f;simp[y,x,n,o,J];exact⟨m.cons _,by simpa using f⟩
 ·rintro h s ⟨m,f,y,x,n,o⟩;rw[dh]at f;rw[<-f]at d;simp at d;simp[n,o,m.hp,d]
 ·simp
def s7:gu:=⟨fM×jy,λe=>[e.1.t,e.2.t],λe=>zK e.1/\iT e.2.a e.1.w.dK.length=true/\iT e.2.b e.1.w.dK.length=true/\iT e.2.c e.1.w.dK.length=true/\iT e.2.d e.1.w.dK.length=true,λe=> .bool (e.1.w.gx.VD e.2.a e.2.b e.2.c e.2.d),λe g f=>by simp at f;rw[fM.inj f.1,jy.inj f.2]⟩
def Lu:s7.Ok Tryz.prog cx 52:=by
 refine gX (tb:=⟨pt [(87,qj)],ht []⟩) ew ej (iQ 63 [] Tryz.func52) (λ_=>100) (by simp[s7]) (by simp[s7,Tryz.f52]) ?_;rintro⟨a,⟨E,b,c,d,f,F⟩⟩ ⟨g,h,o,i,j⟩ I n;simp only at g h o i j;simp[s7]at n|-;obtain⟨x,y⟩:=n;obtain⟨J,a1,a2,a3,a4,a5⟩:=g.w.at h;obtain⟨G,q,r,s,A,B⟩:=g.w.at i;obtain⟨H,t,u,v,C,D⟩:=g.w.at j;have m:=GX.VD.eq_1 a.w.gx b c d f;have k:=λ{tb:fy} (ht:tb.p 87=some qj)=>A3 ht a b d h i;have l:=λ{tb:fy} (ht:tb.p 87=some qj)=>A3 ht a f c j o;rw[show qn a.w.dK b=a.w.gx.e b from rfl,show qn a.w.dK d=a.w.gx.e d from rfl]at k;rw[show qn a.w.dK f=a.w.gx.e f from rfl,show qn a.w.dK c=a.w.gx.e c from rfl]at l;generalize a.w.gx.VD b c d f=z at*
 generalize kj (a.w.gx.e b) (a.w.gx.e d)=p1 at*
 generalize kj (a.w.gx.e f) (a.w.gx.e c)=p2 at*
 rw[a3,s,v]at m;simp[Tryz.f52,x,y,a1,a2,q,r,t,u,k,l,m]
def vO:gu:=⟨fM×List Int,λa=>[a.1.t,sl (a.2.map (T.int .i64))],λa=>zK a.1/\a.2.length<=1000000,λa=> .bool (a.1.w.gx.Mq a.1.w.gx.vn a.2),λa c b=>by simp at b;rw[fM.inj b.1,jw dt b.2]⟩
def Pu{d:fy}(ht:d.p 55=some qP)(a:fM)(c b:Int)(g:zK a)(e:iT c a.w.dK.length=true)(f:iT b a.w.dK.length=true):rl Tryz.prog cx d 55 [a.t,dy c,dy b]=some (.bool (a.w.gx.vn c b)):=gU ht Lv (a,c,b) ⟨g,e,f⟩
def N4:vO.Ok Tryz.prog cx 49:=by
 refine gX (tb:=⟨pt [(55,qP),(51,nV)],ht []⟩) ew ej (iQ 2361217299907134620023 [] Tryz.func49) (λ_=>100) (by simp[vO]) (by simp[vO,Tryz.f49]) ?_;rintro⟨f,a⟩ ⟨C,a8⟩ g V;simp only at C a8;simp[vO]at V|-;obtain⟨aA,i⟩:=V;have bu:=C.w.ok.len;obtain⟨D,s⟩:∃D,f.w.gx.Mq f.w.gx.vn a=D:=⟨_,rfl⟩;rw[s];simp[Tryz.f49,aA,i,Fl,show a.length<=1099511627776 by omega];refine dW (λB=> ?_) (λB=> ?_)
 ·have:D=false:=by
   rw[<-s];simp only[bP,aO,bL]at B;rcases B with(h|h)|h
   ·exact nP dq
   ·exact nP dq
   ·unfold mo at h;rw[List.all_eq_false]at h;obtain⟨d,v,bk⟩:=h;obtain⟨b,ae,rfl⟩:=List.mem_iff_getElem.1 v;exact nP (.inr (.inr (.inl ⟨b,ae,by simp[List.getD,ae];exact(by simpa using bk:iT a[b] f.w.dK.length=false)⟩)))
  simp[this]
 simp only[bI,bU,bj]at B;obtain⟨⟨bz,bB⟩,an⟩:=B;have a6:2<=a.length:=dq;have a7:a.length<=4:=dq;have z:∀c (j:c<a.length),iT a[c] f.w.dK.length=true:=λc j=>by
  unfold mo at an;exact List.all_eq_true.1 an _ (aF j)
 have bi:∀c<a.length,iT (a.getD c 0) f.w.gx.ev.length=true:=λc j=>by simp[List.getD,j];exact z c j
 simp[i];generalize O:H.cons _ _=G;have U:G.get 0=some (dA 16 0 [f.t]):=by rw[<-O];simp
 have S:Hp G:=by rw[<-O];simp
 clear O;refine fh a.length dq (λb g h=>G=h/\(∀c<b,yn f.w.gx f.w.gx.vn a c=true)/\dB g 1 (sl (a.map (T.int .i64)))/\dB g 2 (.ptr 0 0 0 0)/\dB g 23 (sl (a.map (T.int .i64)))/\dB g 24 (dy a.length)/\dB g 25 (dy b)) ?_ ?_ dq ?_
 ·rintro b g _ A W ⟨rfl,P,i,l,r,n,o⟩;have R:∀c (j:c<a.length),a.getD c 0=a[c]:=λc j=>by simp[List.getD,j]
  have K:0<a.length:=dq;have al:=JK (b+1) a.length dq dq;have J:(b+1)% a.length<a.length:=Nat.mod_lt _ K;have u:yn f.w.gx f.w.gx.vn a b=(!decide (a[b]<a[0])&&f.w.gx.vn (a[(b+1)% a.length]'J) a[b]&&(List.range b).all λd=> !decide ((f.w.gx.e a[b]).dQ=(f.w.gx.e (a.getD d 0)).dQ)):=by unfold yn;rw[R _ A,R _ K,R _ J]
  generalize(b+1)% a.length=m at*
  have av:=λ{tb:fy} (ht:tb.p 55=some qP)=>Pu ht f a[m] a[b] C (z m J) (z b A);obtain⟨x,a1,a2,a3,a4,a5⟩:=C.w.at (z b A);rw[a3]at u;simp at al;have X:yn f.w.gx f.w.gx.vn a b=false->D=false:=λh=>by rw[<-s];exact nP (.inr (.inr (.inr ⟨b,A,h⟩)))
  simp[U,i,l,r,n,o,A,W,K,al,J,av];refine dW (λk=> ?_) (λk=> ?_)
  ·have:yn f.w.gx f.w.gx.vn a b=false:=by
    rw[u,cj];intro h;simp only[aB,bL,bj]at h;simp[h.1.2]at k;omega
   simp[X this,S]
  ·simp only[bI,bU,bj]at k;rw[k.2,aM k.1]at u;simp[-List.length_take,i,show b<=a.length by omega];obtain⟨q,N⟩:∃q,q=a.take b:=⟨_,rfl⟩;rw[<-N];have aX:q.length=b:=by rw[N];simp;omega
   have bl:∀d (v:d<q.length) (hl:d<a.length),q[d]=a[d]:=λd v hl=>by subst N;exact List.getElem_take
   refine fh b dq (λd g h=>G=h/\(∀c<d,decide (x.dQ=(f.w.gx.e (a.getD c 0)).dQ)=false)/\dB g 1 (sl (a.map (T.int .i64)))/\dB g 2 (.ptr 0 0 0 0)/\dB g 6 (dy a[b])/\dB g 23 (sl (a.map (T.int .i64)))/\dB g 24 (dy a.length)/\dB g 25 (dy b)/\dB g 51 (sl (q.map (T.int .i64)))/\dB g 52 (dy b)/\dB g 53 (dy d)) ?_ ?_ dq ?_
   ·rintro d g _ Z aN ⟨rfl,Q,i,l,M,r,n,o,L,E,F⟩;have I:d<a.length:=dq;obtain⟨y,bn,bs,ap,bC,bH⟩:=C.w.at (z d I);have Y:d<q.length:=dq;have aE:=bl d Y I;simp[U,l,M,L,E,F,Z,Y,aE,a1,a2,bn,bs];refine dW (λk=> ?_) (λk=> ?_)
    ·have:yn f.w.gx f.w.gx.vn a b=false:=by
      rw[u];simp;exact⟨d,Z,by simpa[I,ap]using k⟩
     simp[X this,S]
    ·simp[i,l,M,r,n,o,L,E,F,aN];intro c j;rcases aD c d with h|h
     ·simpa using Q c h
     ·rw[show c=d by omega];simp[I,ap];simpa using k
   ·rintro g _ ⟨rfl,Q,i,l,M,r,n,o,L,E,F⟩;simp[i,l,r,n,o,E,F,W];intro c j;rcases aD c b with h|h
    ·exact P c h
    ·rw[show c=b by omega,u];simp;intro d v;simpa using Q d v
   ·simp[i,l,r,n,o,aX]
 ·rintro g _ ⟨rfl,P,i,l,r,n,o⟩;rw[Hn a6 a7 bi P]at s;simp[n,o,s.symm,S]
 ·simp[i]
def kL.cells{a:eZ}(g:kL a):FD a:=λd h e=>by
 obtain⟨i,f⟩:=cP h;have hl:i<a.dK.length:=(List.getElem?_eq_some_iff.1 f).1;obtain⟨k,b,l,m,n,c⟩:=g.at (i:=i) (fj.2 ⟨dq,by simpa using hl⟩);rw[cE,f]at b;simp only[ar]at b;subst b;have j:d.kind=3\/d.kind=4:=by unfold vx at e;simpa using e
 unfold jD at c;rw[ao dq,aq j]at c;exact c
def Hy{f:fy}(ht:f.p 51=some nV)(a:fM)(b c d e:Int):rl Tryz.prog cx f 51 [a.t,sl [dy b,dy c,dy d,dy e]]=some (.bool (iT b a.w.dK.length&&iT c a.w.dK.length&&iT d a.w.dK.length&&iT e a.w.dK.length)):=by
 have:=Fl ht a [b,c,d,e] dt;simpa[mo,Bool.and_assoc]using this
def M0{a:fM}(d:zK a)(b c:Int):z9 a.w b c=((iT b a.w.dK.length&&iT c a.w.dK.length)&&a.w.gx.QB b c):=by
 unfold z9 GX.QB GX.e eZ.gx;cases iT b a.w.dK.length<;>cases iT c a.w.dK.length<;>simp
 ac_rfl
def vI:gu:=⟨fM×jy,λa=>[a.1.t,a.2.t],λa=>zK a.1/\a.2.kG.length<=1000000,λa=> .bool (a.1.w.gx.vG a.2),λa c b=>by simp at b;rw[fM.inj b.1,jy.inj b.2]⟩
def NA:vI.Ok Tryz.prog cx 23:=by
 refine gX (tb:=⟨pt [(48,wX),(49,vO),(50,yS),(51,nV),(25,vP),(52,s7)],ht []⟩) ew ej (iQ 2417851783344448572752095 [] Tryz.func23) (λ_=>100) (by simp[vI]) (by simp[vI,Tryz.f23]) ?_;rintro⟨f,e⟩ ⟨i,u⟩ F s;simp only at i u;simp[vI]at s|-;obtain⟨k,l⟩:=s;have g:=GX.vG.eq_1 f.w.gx e;simp only[show∀v,f.w.gx.Al v=iT v f.w.dK.length from λ_=>rfl]at g;generalize f.w.gx.vG e=E at*
 cases h:decide (e.kind=1)with
 |true=>
  rw[aq (by simpa using h)]at g;have n:∀{tb:fy},tb.p 48=some wX->rl Tryz.prog cx tb 48 [f.t,dy e.a,dy e.b]=some (.bool ((iT e.a f.w.dK.length&&iT e.b f.w.dK.length)&&f.w.gx.QB e.a e.b)):=λht=>by rw[<-M0 i];exact Vw ht f e.a e.b i.w.cells
  simp[Tryz.f23,k,l,h,n,g]
  try ac_rfl
 |false=>
  rw[ao (by simpa using h)]at g;cases j:decide (e.kind=2)with
  |true=>
   rw[aq (by simpa using j)]at g;have n:∀{tb:fy},tb.p 49=some vO->rl Tryz.prog cx tb 49 [f.t,sl (e.kG.map (T.int .i64))]=some (.bool (f.w.gx.Mq f.w.gx.vn e.kG)):=λht=>gU ht N4 (f,e.kG) ⟨i,u⟩;simp[Tryz.f23,k,l,h,j,n,g,GX.dead]
  |false=>
   rw[ao (by simpa using j)]at g;cases m:decide (e.kind=3)with
   |true=>
    rw[aq (by simpa using m)]at g;have n:∀{tb:fy},tb.p 50=some yS->rl Tryz.prog cx tb 50 [f.t,dy e.a,dy e.b]=some (.bool ((iT e.a f.w.dK.length&&iT e.b f.w.dK.length)&&f.w.gx.Qf e.a e.b)):=λht=>gU ht QP (f,e.a,e.b) i;simp[Tryz.f23,k,l,h,j,m,n,g]
    try ac_rfl
   |false=>
    rw[ao (by simpa using m)]at g;cases o:decide (e.kind=4)with
    |false=>
     rw[ao (by simpa using o)]at g;simp[Tryz.f23,k,l,h,j,m,o,g]
    |true=>
     rw[aq (by simpa using o)]at g;cases q:(iT e.a f.w.dK.length&&iT e.b f.w.dK.length&&iT e.c f.w.dK.length&&iT e.d f.w.dK.length)with
     |false=>
      rw[q]at g;cases r:decide (e.kG=[])<;>simp[Tryz.f23,k,l,h,j,m,o,Hy,f7,q,g,r]
     |true=>
      rw[q]at g;have z:=q;simp only[aB]at z;obtain⟨⟨⟨x,y⟩,C⟩,D⟩:=z;have A:∀{tb:fy},tb.p 25=some vP->rl Tryz.prog cx tb 25 [f.t,dy e.a,dy e.b]=some (.bool (f.w.gx.VJ e.a e.b)):=λht=>gU ht Of (f,e.a,e.b) ⟨i,x,y⟩;have B:∀{tb:fy},tb.p 52=some s7->rl Tryz.prog cx tb 52 [f.t,e.t]=some (.bool (f.w.gx.VD e.a e.b e.c e.d)):=λht=>gU ht Lu (f,e) ⟨i,x,y,C,D⟩;cases r:decide (e.kG=[])<;>simp[Tryz.f23,k,l,h,j,m,o,Hy,f7,q,A,B,g,r]
def RJ{c:fy}(ht:c.p 23=some vI)(b:fM)(a:jy)(d:zK b)(hl:a.kG.length<=1000000):rl Tryz.prog cx c 23 [b.t,a.t]=some (.bool (b.w.gx.vG a)):=gU ht NA (b,a) ⟨d,hl⟩
structure Qh where
 (v:T) (es:List T)
def Ab(e:Nat)(a:Qh)(c:List T)(b:H):Prop:=c=[a.v]/\b.jg a.v=some a.es/\(∀d∈a.es,d.cells.length=e)/\a.es.length<=1000000/\gF 0 b
def uV(f:Nat)(e:Qh)(g:List T)(b:H)(d:T)(c:H):Prop:=Gr c d f e.es/\Nb b c/\∀a,dO d=some a->b.size<=a
def xr{a bytes:Nat}{l:aj}(x:CI Tryz.prog cx l (.clone a bytes))(v:1<=bytes)(w:bytes<=1000):(js Qh (Ab a) (uV a)).Ok Tryz.prog cx l:=by
 intro i b ⟨⟨p,e⟩,y⟩;have n:∀h:Qh,Ab a h i b->∃d c,Bw (.clone a bytes) i b=some (d,c)/\uV a h i b d c:=by
  rintro⟨p,e⟩ ⟨rfl,g,m,hl,o⟩;simp only at g m hl;show∃d c,(dM (b.jg p) λe=>List.casesOn e (some (dz,b)) λ_ _=>b.iY a bytes [] e)=some (d,c)/\_;rw[g,dR];cases e with
  |nil=>exact⟨_,_,rfl,Gr.nil _ _,Nb.refl o,λr j=>by simp at j⟩
  |cons F E=>
   refine⟨_,_,ou m v (aS (Nat.mul_le_mul hl w) dq),Gr.new (ep:=0) (ver:=0) (ex:=false) dt,(Nb.refl o).cons _,λr j=>by simp at j;omega⟩
 obtain⟨d,c,k,C⟩:=n _ y;refine⟨d,c,λh g=> ?_,λq A B s z u=>x _ _ _ _ k q A B s z u⟩;obtain⟨r2,D,f,t⟩:=n h g;rw[k]at f;simp only[ar,ay]at f;rw[f.1,f.2];exact t
def Oa:(js Qh (Ab 1) (uV 1)).Ok Tryz.prog cx 54:=xr (vk (fn:=Tryz.f54) (t:=38) (tb:=4) (te:=FF) ej Tryz.func54 dC dC dC dC dC dC dC) dx (bytes:=8) dx 
def Ob:(js Qh (Ab 1) (uV 1)).Ok Tryz.prog cx 125:=xr (vk (fn:=Tryz.f125) (t:=33) (tb:=4) (te:=Xz) ej Tryz.func125 dC dC dC dC dC dC dC) dx (bytes:=1) dx 
def N8:(js Qh (Ab 3) (uV 3)).Ok Tryz.prog cx 126:=xr (vk (fn:=Tryz.f126) (t:=34) (tb:=4) (te:=zQ) ej Tryz.func126 dC dC dC dC dC dC dC) dx (bytes:=24) dx 
def LkG(f:H)(d:Nat->Prop)(e:T)(c:dV):Prop:=∃a,e= .agg [dy c.iK,a]/\Gr f a 1 (gG c.eg)/\∀b,dO a=some b->d b
def LkD(b:List T):Prop:=∀(c d:Nat) (e f g h:T) (a:Nat),b[c]? =some (.agg [g,e])->b[d]? =some (.agg [h,f])->dO e=some a->dO f=some a->c=d
def S9(c:fk)(j:List T)(h:H)(i:T)(b:H):Prop:=∃d e f g,i=MC c d e f/\AJ h.size b.size b d e f g c/\Nb h b/\iv (LkG b λa=>h.size<=a/\a<b.size/\dO d≠some a/\dO e≠some a/\dO f≠some a) g c.dY/\LkD g
structure ClO(S:fk)(h h':H)(i:Nat)(es:List T)(ver:Nat):Prop where
 nb:Nb h h'
 z:h.size+3<=h'.size
 b0:h'.get h.size=some (dA 4 0 [S.t])
 b1:h'.get (h.size+1)=some (dA 4 0 [.agg [dz,dy 0,dz,dz]])
 b2:h'.get (h.size+1+1)=some ⟨2,0,ver,true,false,es⟩
 l:es.length=S.dY.length
 c:∀e∈es,∃x y,e= .agg [x,y]
 d:LkD es
 bd:∀(j:Nat) (o x:T) (c:Nat),es[j]? =some (.agg [o,x])->dO x=some c->c<h'.size
 a:iv (LkG h' λk=>h.size+3<=k/\k<h'.size) (es.take i) (S.dY.take i)
def N9:(js fk Dk S9).Ok Tryz.prog cx 80:=by
 refine jo (tb:=⟨pt [],ht [(54,js Qh (Ab 1) (uV 1)),(125,js Qh (Ab 1) (uV 1)),(126,js Qh (Ab 3) (uV 3))]⟩) ew ej (iQ 30783 [(5,[(3,6)])] Tryz.func80) (λ_ _=>1000005) (λl a d c4=>by obtain⟨rfl,_⟩:=c4;simp[Tryz.f80]) ?_;rintro f _ d ⟨rfl,de,hl,ea,ht,hr⟩ z b6;simp at b6;have ca:=de.hr;simp[Tryz.f80,b6,show f.dY.length*32<=70368744177664 by omega];refine fh f.dY.length dq (λl z i=>∃v ver,ClO f d i l v ver/\dB z 1 (.ptr d.size 0 0 0)/\dB z 2 (.ptr (d.size+1) 0 0 0)/\dB z 3 (.arr (d.size+1+1) 0 0 f.dY.length false)/\dB z 11 (sl (f.dY.map dV.t))/\dB z 12 (dy f.dY.length)/\dB z 13 (dy l)) ?_ ?_ dq ?_
 ·rintro l z i aN cL ⟨v,ver,⟨x,c7,Z,a7,a8,aE,bz,bB,aA,Y⟩,S,bu,ap,bs,al,an⟩;have a6:gF 0 i:=⟨x.ok.hp,x.ok.low,aw _⟩;have eb:=hr f.dY[l] (aF aN);have c6:f.dY.take (l+1)=f.dY.take l++[f.dY[l]]:=aU aN;obtain⟨ds,dv,c1⟩:=bz v[l] (aF dq);have ec:(d.size+1+1=i.size)=False:=du;have dd:=a6.low;simp[ap,bs,al,an,aN,dd];generalize f.dY[l]=w at*
  have bN:=a6.cons (dA 2 1 [w.t]);refine lP Oa dt ⟨sl (gG w.eg),gG w.eg⟩ ⟨rfl,dt,by simp[T.cells],du,bN⟩ ?_;rintro r L ⟨G,y,av⟩;simp only at G;have dm:=y.ok.sz;simp at dm;have aX:L.get (d.size+1+1)=some ⟨2,0,ver,true,false,v⟩:=(y.get (d.size+1+1) du).trans (by rw[dP,ao dq];exact a8);have ef:eJ (i.cons (dA 2 1 [w.t])) L (d.size+1+1)=true:=ff (y.get _ du);have dk:eJ (i.cons (dA 2 1 [w.t])) L i.size=true:=ff (y.get _ dt);simp[S,bu,ap,bs,al,an,G.gJ,G.cells,aX,dk,aN,aE,c1,dS,cL];have ae:∀c,c<i.size->c≠d.size+1+1->(dT L (d.size+1+1) ⟨2,0,ver+1,true,false,v.set l (.agg [dy w.iK,r])⟩).get c=i.get c:=λc e M=>by
   rw[dI aX,ao M];exact(y.get c du).trans (by rw[dP,ao dq])
  have dn:=x.ok.sz;refine⟨v.set l (.agg [dy w.iK,r]),ver+1,⟨⟨(⟨y.ok.hp,y.ok.low,aw _⟩:gF 0 L).put _ _|>.hp,(⟨y.ok.hp,y.ok.low,aw _⟩:gF 0 L).put _ _|>.low,du⟩,λc e=>(ae c dq dq).trans (x.get c e)⟩,du,(ae _ dq dq).trans Z,(ae _ dq dq).trans a7,by rw[dI aX,aq rfl],by simpa using aE,λC D=> ?_,?_,?_,?_⟩
  ·rcases bV D with q|q
   ·exact bz C q
   ·exact⟨_,_,q⟩
  ·intro N k B g o b9 c h A j p;rw[bQ]at h A;split at h<;>split at A
   ·omega
   ·split at h
    ·simp only[ar,T.agg.injEq,aJ,and_true]at h;have:=av c (by rw[h.2];exact j);have:=aA k _ _ c A p;simp at*;omega
    ·simp at h
   ·split at A
    ·simp only[ar,T.agg.injEq,aJ,and_true]at A;have:=av c (by rw[A.2];exact p);have:=aA N _ _ c h j;simp at*;omega
    ·simp at A
   ·exact bB N k B g o b9 c h A j p
  ·intro N o B c h j;rw[bQ]at h;rw[fJ];split at h
   ·split at h
    ·simp only[ar,T.agg.injEq,aJ,and_true]at h;obtain⟨_,_,_,_,p,_⟩:=G.box (b:=c) (by rw[h.2];exact j);exact H.ez p
    ·simp at h
   ·have:=aA N _ _ c h j;omega
  ·rw[c6,aU du];refine iv.append ?_ (.cons ?_ .nil)
   ·rw[List.take_set_of_le (au _)];exact Y.imp λC m ⟨X,P,Q,u⟩=>⟨X,P,Q.mono λc e=>ae c (u c e).2 (by have:=(u c e).1;omega),λc e=>⟨(u c e).1,by have:=(u c e).2;simp;omega⟩⟩
   ·simp only[List.getElem_set_self];refine⟨r,rfl,(G.mono λc e=>by rw[dI aX,ao (by have:=av c e;simp at this;omega)]),λc e=>⟨by have:=av c e;simp at this;omega,?_⟩⟩;obtain⟨_,_,_,_,p,_⟩:=G.box e;have:=H.ez p;simpa using this
 ·rintro z i ⟨v,ver,⟨x,c7,Z,a7,a8,aE,bz,bB,aA,Y⟩,S,bu,ap,bs,al,an⟩;have a6:gF 0 i:=⟨x.ok.hp,x.ok.low,aw _⟩;have bl:∀g c,(dT i d.size g).get c=if c=d.size then some g else i.get c:=λg c=>dI Z g c;simp[S,ap,al,an,Z,bl];obtain⟨J,U⟩:∃J,J=dT i d.size (dA 4 1 [.agg [.arr (d.size+1+1) 0 0 f.dY.length false,dy f.tx,sl (f.done.map T.bool),sl (f.dE.map dG.t)]]):=⟨_,rfl⟩;have eh:J.size=i.size:=by rw[U];simp
  have di:gF 0 J:=by rw[U];exact a6.put _ _
  have gA:∀c,c≠d.size->J.get c=i.get c:=λc e=>by rw[U,bl,ao e]
  have cv:J.get d.size=some (dA 4 1 [.agg [.arr (d.size+1+1) 0 0 f.dY.length false,dy f.tx,sl (f.done.map T.bool),sl (f.dE.map dG.t)]]):=by rw[U,bl,aq rfl]
  rw[<-U];refine gY Ob dt ⟨sl (f.done.map T.bool),f.done.map T.bool⟩ ⟨rfl,dt,by intro C D;obtain⟨b,_,rfl⟩:=List.mem_map.1 D;rfl,du,di⟩ ?_;rintro F s ⟨R,O,cb⟩;simp only at R;have eo:=O.ok.sz;have b7:=(O.get d.size dq).trans cv;have bn:∀g c,(dT s d.size g).get c=if c=d.size then some g else s.get c:=λg c=>dI b7 g c;simp[S,R.gJ,R.cells,b7,bn,dS];obtain⟨K,V⟩:∃K,K=dT s d.size (dA 4 2 [.agg [.arr (d.size+1+1) 0 0 f.dY.length false,dy f.tx,F,sl (f.dE.map dG.t)]]):=⟨_,rfl⟩;have er:K.size=s.size:=by rw[V];simp
  have bN:gF 0 K:=by rw[V];exact(⟨O.ok.hp,O.ok.low,aw _⟩:gF 0 s).put _ _
  have bk:∀c,c≠d.size->K.get c=s.get c:=λc e=>by rw[V,bn,ao e]
  have cy:K.get d.size=some (dA 4 2 [.agg [.arr (d.size+1+1) 0 0 f.dY.length false,dy f.tx,F,sl (f.dE.map dG.t)]]):=by rw[V,bn,aq rfl]
  rw[<-V];refine gY N8 dt ⟨sl (f.dE.map dG.t),f.dE.map dG.t⟩ ⟨rfl,dt,by intro C D;obtain⟨b,_,rfl⟩:=List.mem_map.1 D;rfl,du,bN⟩ ?_;rintro W n ⟨gT,E,ce⟩;simp only at gT;have et:=E.ok.sz;have N3:gF 0 n:=⟨E.ok.hp,E.ok.low,aw _⟩;have b8:=(E.get d.size dq).trans cy;have c9:n.get (d.size+1)=_:=(E.get (d.size+1) dq).trans ((bk _ dq).trans ((O.get _ dq).trans ((gA _ dq).trans a7)));have bT:∀g c,(dT n d.size g).get c=if c=d.size then some g else n.get c:=λg c=>dI b8 g c;have I:∀g B c,(dT (dT n d.size g) (d.size+1) B).get c=if c=d.size+1 then some B else if c=d.size then some g else n.get c:=λg B c=>by
   rw[lY (by simp[N3.hp]) du,bT]
  simp[S,bu,gT.gJ,gT.cells,b8,c9,bT,I,dS];rw[bF dq,aL]at Y;have bi:∀c,c<i.size->c≠d.size->n.get c=i.get c:=λc e M=>(E.get c dq).trans ((bk c M).trans ((O.get c dq).trans (gA c M)));have cp:∀c,c<s.size->c≠d.size->n.get c=s.get c:=λc e M=>(E.get c dq).trans (bk c M);have dn:=x.ok.sz;have bC:∀c,dO F=some c->i.size<=c/\c<s.size:=λc e=>⟨by have:=cb c e;omega,by obtain⟨_,_,_,_,p,_⟩:=R.box e;exact H.ez p⟩;have bH:∀c,dO W=some c->s.size<=c/\c<n.size:=λc e=>⟨by have:=ce c e;omega,by obtain⟨_,_,_,_,p,_⟩:=gT.box e;exact H.ez p⟩;have bS:iv (LkG (lL d (dT (dT n d.size (dA 4 3 [.agg [.arr (d.size+1+1) 0 0 f.dY.length false,dy f.tx,F,W]])) (d.size+1) (dA 4 1 [.agg [.arr (d.size+1+1) 0 0 f.dY.length false,dy f.tx,F,W]]))) λc=>d.size<=c/\c<n.size/\dO (.arr (d.size+1+1) 0 0 f.dY.length false)≠some c/\dO F≠some c/\dO W≠some c) v f.dY:=Y.imp λC w ⟨X,P,Q,u⟩=>⟨X,P,Q.mono λc e=>by
   have:=u c e;rw[fO,I,ao dq,ao dq,bi _ dq dq],λc e=>by
   have:=u c e;exact⟨dq,dq,du,λq=>by have:=bC c q;omega,λq=>by have:=bH c q;omega⟩⟩
  refine⟨.arr (d.size+1+1) 0 0 f.dY.length false,F,W,v,rfl,⟨?_,R.mono λc e=> ?_,gT.mono λc e=> ?_,bS.imp λC w ⟨X,P,Q,u⟩=>⟨X,P,.inr Q,by simpa using u⟩,λc e=> ?_⟩,⟨⟨?_,?_,?_⟩,λc e=> ?_⟩,by simpa using bS,bB⟩
  ·rw[<-aE];exact Gr.new (ep:=0) (ver:=ver) (ex:=true) (by rw[fO,I,ao dq,ao dq,bi _ dq dq];exact a8)
  ·have:=bC c e;rw[fO,I,ao dq,ao dq,cp _ dq dq]
  ·have:=bH c e;rw[fO,I,ao dq,ao dq]
  ·simp;rcases e with q|q|q
   ·simp at q;omega
   ·have:=bC c q;omega
   ·have:=bH c q;omega
  ·exact(((N3.put _ _).put _ _).out d).hp
  ·exact(((N3.put _ _).put _ _).out d).low
  ·simp;omega
  ·rw[fO,I,ao dq,ao dq,bi _ dq dq];exact x.get c e
 ·simp;refine⟨List.replicate f.dY.length (.agg [dy 0,dz]),0,⟨(((Nb.refl ca).cons _).cons _).cons _|>.ok,λc e=>(((((Nb.refl ca).cons _).cons _).cons _).get c e).trans (f9 d c)⟩,dt,dt,dt,dt,dt,λC D=>⟨_,_,(bO D)⟩,?_,?_,.nil⟩
  ·intro N k B g o b9 c h _ j _;have:=bO (ax h);simp only[T.agg.injEq,aJ,and_true]at this;rw[this.2]at j;simp at j
  ·intro N o B c h j;have:=bO (ax h);simp only[T.agg.injEq,aJ,and_true]at this;rw[this.2]at j;simp at j
end
end Go.Proofs.YtmaeadedikngoaaGreatDoor
