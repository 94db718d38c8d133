/- Texts X13 to WOb. -/
import Derived.Test.YtmaeadedikngoaaGreatDoorA37
import Derived.Test.YtmaeadedikngoaaGreatDoorA38
set_option linter.unusedVariables false
set_option linter.unusedSimpArgs false
set_option linter.defProp false
set_option maxRecDepth 100000
set_option maxHeartbeats 8000000
namespace Go.Proofs.YtmaeadedikngoaaGreatDoor
noncomputable section
open Go Go.TI
attribute [-simp] List.map_take List.map_drop List.map_append fj eG dY Bool.not_or Bool.not_and
attribute [simp] fh eJ
def byV(a:Int):Prop:=0<=a/\a<256
structure PI(v:mn):Prop where
 p:okB v.program
 q:okB v.schedule
 s:okB v.Dw
 z:byV v.size
 w:byV v.uq
def Nl:mU Tryz.prog cx 8 (λb:mn=>[b.t,dw 16]) PI (λ_=>RZ):=by
 refine iZ (tb:=⟨pt [(18,EB.jb),(19,DF.jb),(20,DI.jb)],ht []⟩) ei eg (iL 17592186046583 [(3,[(9,10)])] Tryz.func8) (λ_=>105) (λa U n=>by simp at n;exact mn.inj n) dp (by simp[Tryz.f8]) ?_;rintro b d ae r;simp at r;obtain⟨F,o⟩:=r;obtain⟨T,an⟩:=d.z;obtain⟨R,al⟩:=d.w;obtain⟨_,⟨B,rfl,G⟩,h⟩:=EB.use (b.Dw,(1+b.size% 16).toNat) ⟨d.s,dt⟩;obtain⟨_,⟨i,rfl,H⟩,l⟩:=EB.use ([],0) ⟨⟨dp,dp⟩,dp⟩;obtain⟨_,⟨Q,rfl,D,hl⟩,eT⟩:=DF.use (b.program,b.schedule.take (min b.schedule.length 80)) ⟨d.p,⟨by have:=d.q.1;simp;omega,λS P=>d.q.2 S (bw P)⟩,dq⟩;obtain⟨_,⟨c,V,rfl,O⟩,g⟩:=DI.use (Q,(1+b.size% 16).toNat) ⟨D,dt,dt,dt⟩;simp only at eT g h l;rw[show(((1+b.size% 16).toNat:Nat):Int)=1+b.size% 16 by omega]at g h;have N:∀e:Int,0<=e->e<1000->IntKind.i64.wrap e=e:=λe Y Z=>by rw[<-ji,jr dj dj]
 have m:b.size.tmod 16=b.size% 16:=Int.tmod_eq_emod_of_nonneg T;have y: -9223372036854775808<=b.size:=dj;have A:b.size<9223372036854775808:=dj;have x:=CJ (k:= .i64) (a:=b.size) (show¬(16:Int)=0 by omega);have j:=N (1+b.size% 16) dj dj;simp[Tryz.f8,F];refine dU (λM=> ?_) (λM=> ?_)
 ·simp[o,y,A,x,nD,m,j,h];exact⟨B,rfl,G⟩
 obtain⟨k,I,J⟩:∃k:Nat,min (b.schedule.length:Int) 80=k/\k=min b.schedule.length 80:=⟨_,dj,rfl⟩;rw[<-J]at eT;simp[o,I,show k<=b.schedule.length by omega,eT,y,A,x,nD,m,j,g];refine dU (λu=> ?_) (λu=> ?_)
 ·have C:=λ{tb:fq} (ht:tb.p 18=some EB.jb)=>(show rl Tryz.prog cx tb 18 [.fO,dw 0]=some i.t from l ht);simp[C];exact⟨i,rfl,H⟩
 have K:c≠ []:=by simpa using u
 have W:0<c.length:=by rcases c with _|_<;>simp at K|-
 have E:b.uq.tmod (c.length:Int)=b.uq% (c.length:Int):=Int.tmod_eq_emod_of_nonneg R;have L:0<=b.uq% (c.length:Int):=Int.emod_nonneg _ dj;have X:b.uq% (c.length:Int)<c.length:=Int.emod_lt_of_pos _ dj;obtain⟨f,v⟩:∃f,c[(b.uq% (c.length:Int)).toNat]? =some f:=⟨_,az dj⟩;simp[show-9223372036854775808<=b.uq by omega,show b.uq<9223372036854775808 by omega,CJ (show¬(c.length:Int)=0 by omega),E,ed L,v];exact⟨f,rfl,O f (ax v)⟩
end
noncomputable section
open Go Go.TI
attribute [-simp] List.map_take List.map_drop List.map_append
@[simp] theorem Pq (a:List T):dL (sl a)=none:=by cases a<;>rfl
def sv(a b:aa iJ):Bool:=match a,b with|none,_=>true|some _,none=>false|some a,some b=>decide (a.ver=b.ver)
@[simp] theorem aav (a b:iJ):sv (some a) (some b)=decide (a.ver=b.ver):=id rfl
def ku(b c:H)(a:Nat):ew b c a=sv (b.get a) (c.get a):=by
 unfold ew sv;cases b.get a with
 |none=>rfl
 |some d=>cases c.get a<;>simp
def Bg:f7:=⟨Int×Nat,λa=>[dw a.1,dw a.2],λa=>True,λa=> .bool (iP a.1 a.2),λa c b=>by simp at b;rw[b.1,show a.2=c.2 by omega]⟩
def Ui:Bg.Ok Tryz.prog cx 31:=by
 refine gH (tb:=⟨pt [],ht []⟩) ei eg (iL 19 [] Tryz.func31) (λf=>1) (by simp[Bg]) (by simp[Bg,Tryz.f31]) ?_;rintro⟨e,g⟩ _ h a;simp[Bg]at a|-;obtain⟨b,c⟩:=a;by_cases d:0<=e<;>simp[Tryz.f31,b,c,d,iP]
def Ti{c:fq}(ht:c.p 31=some Bg)(a:Int)(b:Nat):rl Tryz.prog cx c 31 [dw a,dw b]=some (.bool (iP a b)):=gF ht Ui (a,b) trivial
def Ar:f7:=⟨dX,λa=>[a.t],λa=>True,λa=> .bool (vj a),λa c b=>by simp at b;rw[dX.inj b]⟩
def QN:Ar.Ok Tryz.prog cx 28:=by
 refine gH (tb:=⟨pt [],ht []⟩) ei eg (iL 7 [] Tryz.func28) (λd=>1) (by simp[Ar]) (by simp[Ar,Tryz.f28]) ?_;rintro(b:dX) _ e a;simp[Ar]at a|-;by_cases c:b.kind=3<;>simp[Tryz.f28,a,c,vj]
def I9{b:fq}(ht:b.p 28=some Ar)(a:dX):rl Tryz.prog cx b 28 [a.t]=some (.bool (vj a)):=gF ht QN a trivial
def Un:Ar.Ok Tryz.prog cx 131:=by
 refine gH (tb:=⟨pt [],ht []⟩) ei eg (iL 7 [] Tryz.func131) (λd=>1) (by simp[Ar]) (by simp[Ar,Tryz.f131]) ?_;rintro(b:dX) _ e a;simp[Ar]at a|-;by_cases c:b.kind=3<;>simp[Tryz.f131,a,c,vj]
def Po{b:fq}(ht:b.p 131=some Ar)(a:dX):rl Tryz.prog cx b 131 [a.t]=some (.bool (vj a)):=gF ht Un a trivial
def vm:f7:=⟨Int,λa=>[dw a],λa=>True,λa=> .bool (pH a),λa c b=>by simp at b;rw[b]⟩
def Nk:vm.Ok Tryz.prog cx 88:=by
 refine gH (tb:=⟨pt [],ht []⟩) ei eg (iL 29 [] Tryz.func88) (λh=>1) (by simp[vm]) (by simp[vm,Tryz.f88]) ?_;rintro(b:Int) _ i a;simp[vm]at a|-;by_cases c:b=6
 ·simp[Tryz.f88,a,c,pH]
 by_cases d:b=8
 ·simp[Tryz.f88,a,d,pH]
 by_cases e:b=10
 ·simp[Tryz.f88,a,e,pH]
 by_cases f:b=17
 ·simp[Tryz.f88,a,f,pH]
 by_cases g:b=21<;>simp[Tryz.f88,a,c,d,e,f,g,pH]
def Rw{b:fq}(ht:b.p 88=some vm)(a:Int):rl Tryz.prog cx b 88 [dw a]=some (.bool (pH a)):=gF ht Nk a trivial
def wS:f7:=⟨dX×dX,λa=>[a.1.t,a.2.t],λa=>True,λa=> .bool (kc a.1 a.2),λa c b=>by simp at b;rw[dX.inj b.1,dX.inj b.2]⟩
def Lh:wS.Ok Tryz.prog cx 61:=by
 refine gH (tb:=⟨pt [(28,Ar)],ht []⟩) ei eg (iL 31 [] Tryz.func61) (λa=>1) (by simp[wS]) (by simp[wS,Tryz.f61]) ?_;rintro⟨a,e⟩ _ j f;simp[wS]at f|-;obtain⟨b,c⟩:=f;cases d:vj a with
 |false=>simp[Tryz.f61,b,c,I9,d,kc]
 |true=>
  cases g:vj e with
  |false=>simp[Tryz.f61,b,c,I9,d,g,kc]
  |true=>
   cases h:decide (a.obj=e.obj)<;>cases i:decide (a.kind=4)<;>simp[Tryz.f61,b,c,I9,d,g,h,i,kc]
def Cn{c:fq}(ht:c.p 61=some wS)(a b:dX):rl Tryz.prog cx c 61 [a.t,b.t]=some (.bool (kc a b)):=gF ht Lh (a,b) trivial
def qd:f7:=⟨fI×Int×Int,λa=>[a.1.t,dw a.2.1,dw a.2.2],λa=>iP a.2.1 a.1.w.dH.length=true/\iP a.2.2 a.1.w.dH.length=true,λa=> .bool (kc (qj a.1.w.dH a.2.1) (qj a.1.w.dH a.2.2)),λa c b=>by simp at b;rw[fI.inj b.1,b.2.1,b.2.2]⟩
def NU:qd.Ok Tryz.prog cx 87:=by
 refine gH (tb:=⟨pt [(131,Ar)],ht []⟩) ei eg (iL 463 [(1,[(8,14),(10,14),(11,14)])] Tryz.func87) (λb=>1) (by simp[qd]) (by simp[qd,Tryz.f87]) ?_;rintro⟨m,p,q⟩ c t a;simp[qd]at c a|-;obtain⟨e,f,g⟩:=a;obtain⟨b,a,n⟩:=im c.1;obtain⟨d,h,o⟩:=im c.2;have i:=ed (ff.1 c.1).1;have j:=ed (ff.1 c.2).1;rw[show qj m.w.dH p=b by simp[qj,n],show qj m.w.dH q=d by simp[qj,o]];cases k:vj b with
 |false=>simp[Tryz.f87,e,f,g,i,j,a,h,Po,ku,k,kc]
 |true=>
  cases l:vj d with
  |false=>simp[Tryz.f87,e,f,g,i,j,a,h,Po,ku,k,l,kc]
  |true=>
   cases r:decide (b.obj=d.obj)<;>cases s:decide (b.kind=4)<;>simp[Tryz.f87,e,f,g,i,j,a,h,Po,ku,k,l,r,s,kc]
def AV{d:fq}(ht:d.p 87=some qd)(a:fI)(b c:Int)(e:iP b a.w.dH.length=true)(f:iP c a.w.dH.length=true):rl Tryz.prog cx d 87 [a.t,dw b,dw c]=some (.bool (kc (qj a.w.dH b) (qj a.w.dH c))):=gF ht NU (a,b,c) ⟨e,f⟩
end
noncomputable section
open Go Go.TI
end
noncomputable section
open Go Go.TI
attribute [-simp] List.map_take List.map_drop List.map_append fj eG dY Bool.not_or Bool.not_and
attribute [simp] fh eJ
attribute [-simp] size_cons
def rO{e:dR}{d:fg}{a:Int}(h:ml e d=true)(c:iP a e.dV.length=true):∃b,jT a=some a.toNat/\d.dV[a.toNat]? =some b/\ma d a=b:=by
 rw[<-(nK h).1]at c;obtain⟨b,f,g⟩:=im c;exact⟨b,ed (ff.1 c).1,f,by simp[ma,g]⟩
def AS{d:dR}{e:fg}{b:Int}(g:ml d e=true)(h:iP b d.fV.length=true):∃a c,jT b=some b.toNat/\d.fV[b.toNat]? =some a/\jT a.ke=some a.ke.toNat/\e.dV[a.ke.toNat]? =some c/\qY d e b=c:=by
 obtain⟨a,f,i⟩:=im h;obtain⟨c,j,k,l⟩:=rO g (qW g f);exact⟨a,c,ed (ff.1 h).1,f,j,k,by simp[qY,i,l]⟩
def wL{e:dR}{d:fg}{a:Int}(h:ml e d=true)(c:iP a e.dB.length=true):∃b,jT a=some a.toNat/\d.dB[a.toNat]? =some b/\o6 d a=b:=by
 rw[<-(nK h).2.2]at c;obtain⟨b,f,g⟩:=im c;exact⟨b,ed (ff.1 c).1,f,by simp[o6,g]⟩
def kH.at{b:eK}(j:kH b){i:Int}(c:iP i b.dH.length=true):∃a:dX,b.dH[i.toNat]? =some a/\jT i=some i.toNat/\b.gx.e i=a/\iP a.dN b.ez.dB.length=true/\jy b.ez a.kind a.obj=true:=by
 obtain⟨a,d,f,g,h⟩:=j.ok.e c;exact⟨a,d,ed (ff.1 c).1,f,g,h⟩
def kH.rd{w:eK}(c:kH w){b:Int}(g:iP b w.dH.length=true):(∀d∈(w.gx.s b).dV,d.d8.length<=2000)/\(w.gx.s b).Ee:=by
 have e:=c.sm.oo (w:=w.ez) (w.dH.take b.toNat);rw[(c.ok.s g).1];exact⟨λd hl=>by have f:=e.r d hl;have h:=c.ok.len;simp at f;omega,e.a⟩
def IU(a:dW)(b:H):fdW b 0 Qg a.t=some (.val a.fx.t b):=by
 unfold dW.t dW.cs fg.t fg.cs;simp[-fg.fold,-dW.fold]
def tU:f7:=⟨eK×Int×Int,λa=>[a.1.t,dw a.2.1,dw a.2.2],λa=>kH a.1/\iP a.2.1 a.1.dH.length=true/\iP a.2.2 a.1.dH.length=true,λa=> .bool (a.1.gx.rD a.2.1 a.2.2),λa c b=>by simp at b;rw[eK.inj b.1,b.2.1,b.2.2]⟩
def N3:tU.Ok Tryz.prog cx 57:=by
 refine gH (tb:=⟨pt [(62,kK),(56,Bi)],ht []⟩) ei eg (iL 77371547675299043809952719 [(1,[(6,12),(8,12),(9,12)])] Tryz.func57) (λ_=>10) (by simp[tU]) (by simp[tU,Tryz.f57]) ?_;rintro⟨d,l,q⟩ ⟨g,m,u⟩ X t;simp only at g m u;simp[tU]at t|-;obtain⟨M,r,N⟩:=t;obtain⟨R,J,K,L,V,W⟩:=g.at m;obtain⟨b,G,H,I,U,k⟩:=g.at u;obtain⟨z,j⟩:=g.ok.s m;have y:=(g.rd m).1;have O:=λ{tb:fq} (ht:tb.p 62=some kK)=>zq ht wZ d l g;generalize oo d.ez d.jG (d.dH.take l.toNat)=A at*
 rw[z]at y j;have a:=GX.rD.eq_1 d.gx l q;rw[I,L,z,show d.gx.w=d.ez from rfl]at a;generalize d.gx.rD l q=S at*
 simp[Tryz.f57,M,r,N,G,H,J,K,ku];refine dU (λn=> ?_) (λn=> ?_)
 ·simp at n;simp[a,n]
 have P:¬b.dN=R.dN:=by simpa using n
 rw[ao P]at a;simp[r,O,IU];have v:∀c:dS,A.fx.dV[b.obj.toNat]? =some c->c.d8.length<=1099511627776:=λc hl=>by have:=y c (ax hl);omega
 cases x:decide (b.kind=6)with
 |true=>
  have e:b.kind=6:=by simpa using x
  obtain⟨c,l1,l2,l3⟩:=rO j (kw k dj);have hl:=v c l2;rw[aq (.inl e),l3]at a;simp[l1,l2,Ph,hl,a]
 |false=>
  cases f:decide (b.kind=10)with
  |true=>
   have e:b.kind=10:=by simpa using f
   obtain⟨c,l1,l2,l3⟩:=rO j (kw k dj);have hl:=v c l2;rw[aq (.inr e),l3]at a;simp[f,l1,l2,Ph,hl,a]
  |false=>
   have Q:¬(b.kind=6\/b.kind=10):=by simp at x f;omega
   rw[ao Q]at a;cases h:decide (b.kind=8)with
   |true=>
    have e:b.kind=8:=by simpa using h
    obtain⟨c,l1,l2,l3⟩:=rO j (kw k dj);rw[aq e,l3]at a;simp[f,h,l1,l2,a]
   |false=>
    rw[ao (by simpa using h)]at a;cases i:decide (b.kind=17)with
    |true=>
     have e:b.kind=17:=by simpa using i
     obtain⟨T,c,B,C,D,E,F⟩:=AS j (ny k dj);rw[aq e,F]at a;simp[f,h,i,B,C,D,E,a]
    |false=>
     rw[ao (by simpa using i)]at a;cases o:decide (b.kind=21)with
     |true=>
      rw[aq (by simpa using o)]at a;simp[f,h,i,o,a]
     |false=>
      rw[ao (by simpa using o)]at a;simp[f,h,i,o,a]
def Ft(d:GX){lo hi:Int}{a b:Nat}(c:dX->Bool)(e:lo=a)(f:hi=b):d.Tj lo hi c=((d.ev.drop a).take (b-a)).all c:=by
 unfold GX.Tj;rw[e,f,show((b:Int)-a).toNat=b-a by omega];rfl
def Ef{d:dX->Bool}{c:List dX}{a b:Nat}{e:dX}(f:c[a]? =some e)(g:a<b):((c.drop a).take (b-a)).all d=(d e&&((c.drop (a+1)).take (b-(a+1))).all d):=by
 obtain⟨hl,rfl⟩:=List.getElem?_eq_some_iff.1 f;rw[aI hl,show b-a=(b-(a+1))+1 by omega,List.take_succ_cons,cy]
def kH.nat{c:eK}{a:Int}(d:iP a c.dH.length=true):∃b:Nat,a=b/\b<c.dH.length:=by
 have:=ff.1 d;exact⟨a.toNat,dj,this.2⟩
def vx:f7:=⟨eK×jo,λe=>[e.1.t,e.2.t],λe=>kH e.1/\iP e.2.a e.1.dH.length=true/\iP e.2.b e.1.dH.length=true,λe=> .bool (decide (e.2.c=0)&&decide (e.2.d=0)&&decide (e.2.kF=[])&&e.1.gx.Qp e.2.a e.2.b),λe g f=>by simp at f;rw[eK.inj f.1,jo.inj f.2]⟩
def Nu:vx.Ok Tryz.prog cx 32:=by
 refine gH (tb:=⟨pt [(61,wS)],ht []⟩) ei eg (iL 127 [(1,[(7,14),(9,14),(10,14),(11,14)])] Tryz.func32) (λ_=>10) (by simp[vx]) (by simp[vx,Tryz.f32]) ?_;rintro⟨a,⟨A,f,g,q,z,B⟩⟩ ⟨c,n,o⟩ C l;simp only at n o;replace c:kH a:=c;simp[vx]at l|-;obtain⟨j,k⟩:=l;obtain⟨d,a1,a2,a3,a4,a5⟩:=c.at n;obtain⟨u,h,i,p,x,y⟩:=c.at o;have e:=GX.Qp.eq_1 a.gx f g;rw[a3,p,show a.gx.w=a.ez from rfl]at e;generalize a.gx.Qp f g=v at*
 cases b:kc d u with
 |false=>
  simp[Tryz.f32,j,k,a1,a2,h,i,ku,Cn,b,e]
 |true=>
  have r:d.kind=3\/d.kind=4:=by unfold kc vj at b;simp at b;exact b.1.1.1
  have m:iP d.obj a.ez.cells.length=true:=by unfold jy at a5;rw[ao dj,aq r]at a5;exact a5
  obtain⟨q,s,t⟩:=im m;simp[Tryz.f32,j,k,a1,a2,h,i,ku,Cn,b,e,s,t,ed (ff.1 m).1]
  ac_rfl
def D9(a:fg)(b:H):fdW b 3 KJ a.t=some (.val (sl (a.dB.map dD.t)) b):=by
 unfold fg.t fg.cs;simp[-fg.fold]
def vy:f7:=⟨eK×jo,λe=>[e.1.t,e.2.t],λe=>kH e.1/\iP e.2.a e.1.dH.length=true/\iP e.2.b e.1.dH.length=true,λe=> .bool (decide (e.2.c=0)&&decide (e.2.d=0)&&decide (e.2.kF=[])&&e.1.gx.PZ e.2.a e.2.b),λe g f=>by simp at f;rw[eK.inj f.1,jo.inj f.2]⟩
def ND:vy.Ok Tryz.prog cx 33:=by
 refine gH (tb:=⟨pt [(62,kK)],ht []⟩) ei eg (iL 309637306140417614782923263 [(1,[(7,14),(9,14),(10,14),(11,14)]),(9,[(3,7)])] Tryz.func33) (λ_=>100) (by simp[vy]) (by simp[vy,Tryz.f33]) ?_;rintro⟨c,⟨an,a,b,U,V,C⟩⟩ ⟨h,w,A⟩ i K;simp only at w A;replace h:kH c:=h;simp[vy]at K|-;obtain⟨W,J⟩:=K;obtain⟨E,a1,a2,a3,a4,a5⟩:=h.at w;obtain⟨x,G,bk,R,T,bl⟩:=h.at A;obtain⟨N,O⟩:=h.ok.s w;have ae:=λ{tb:fq} (ht:tb.p 62=some kK)=>zq ht wZ c a h;generalize oo c.ez c.jG (c.dH.take a.toNat)=S at*
 rw[N]at O;obtain⟨z,a7,a8,bi⟩:=wL O T;have f:=GX.PZ.eq_1 c.gx a b;rw[a3,R,N,bi]at f;generalize c.gx.PZ a b=P at*
 obtain⟨e,rfl,bB⟩:=kH.nat w;obtain⟨d,rfl,bH⟩:=kH.nat A;have bT:=h.ok.len;rw[cC]at a1 G;simp[Tryz.f33,W,J,a1,G,ku];refine dU (λv=> ?_) (λv=> ?_)
 ·have:(decide (U=0)&&decide (V=0)&&decide (C=[])&&P)=false:=by
   rw[cj];intro n;rw[f]at n;simp only[aB,bP,aO,bL,bj]at n v;obtain⟨⟨⟨J,o⟩,q⟩,⟨⟨⟨⟨⟨⟨⟨bu,y⟩,r⟩,u⟩,X⟩,bz⟩,bn⟩,bs⟩⟩:=n;subst q;simp[o,r,u,X]at v;omega
  simp[this]
 simp only[bI,Bool.and_eq_false_iff,bU,bj,aO]at v;obtain⟨⟨⟨⟨⟨⟨⟨ap,av⟩,aA⟩,aE⟩,aN⟩,aX⟩,a6⟩,b6⟩:=v;have hl:C=[]:=by cases C<;>simp at aA|-
 have bC:d<e:=dj;subst ap av hl;have al:=Ft c.gx (lo:=(d:Int)+1) (hi:=e) (a:=d+1) (b:=e) (λj=> !decide (j.dN=x.dN)) dj rfl;rw[al,show c.gx.ev=c.dH from rfl,aT (show(d:Int)<e by omega),aT aN,aT aX,aM a6,show(decide (E.kind=18)||decide (E.kind=19))=true by simpa using aE]at f;simp;generalize m:(((hE.cons _).cons _).cons _).cons _=l;have F:l.get 0=some (dy 15 0 [c.t]):=by rw[<-m];simp
 have H:l.get 1=some (dy 6 0 [jo.t ⟨an,e,d,0,0,[]⟩]):=by rw[<-m];simp
 have Q:l.get 2=some (dy 7 1 [E.t]):=by rw[<-m];simp
 have I:l.get 3=some (dy 7 1 [x.t]):=by rw[<-m];simp
 have M:Hp l:=by rw[<-m];simp
 clear m;have Z:binop .add (dw (d:Int)) (dw 1)=some (dw ((d:Int)+1)):=gY dj dj;simp[Z];refine yt e (λk i n=>l=n/\d+1<=k/\((c.dH.drop k).take (e-k)).all (λj=> !decide (j.dN=x.dN))=((c.dH.drop (d+1)).take (e-(d+1))).all (λj=> !decide (j.dN=x.dN))/\dz i 2 (.ptr 0 0 0 0)/\dz i 3 (.ptr 1 0 0 0)/\dz i 5 (.ptr 2 0 0 0)/\dz i 6 (.ptr 3 0 0 0)/\dz i 7 (dw k)) ?_ dj (k:=d+1) dj ?_
 ·rintro k i _ bN ⟨rfl,bS,g,o,q,y,r,u⟩;by_cases B:k<e
  ·have L:k<c.dH.length:=dj;have Y:binop .add (dw (k:Int)) (dw 1)=some (dw ((k:Int)+1)):=gY dj dj;rw[Ef (az L) B]at g;simp[F,H,I,o,q,r,u,B,L];generalize c.dH[k]=j at*
   refine dU (λD=> ?_) (λD=> ?_)
   ·rw[D]at g;rw[<-g]at f;simp[f,M]
   ·rw[D]at g;simp[o,q,y,r,u,Y];exact⟨k+1,dj,dj,dj,by simpa using g,dp⟩
  ·rw[show e-k=0 by omega]at g;rw[<-g]at f;simp at f;simp[F,H,Q,I,o,q,y,r,u,B,ae,IU,D9,a7,a8];exact⟨M,f.symm⟩
 ·simp
def qt:f7:=⟨eK×jo,λe=>[e.1.t,e.2.t],λe=>kH e.1/\iP e.2.a e.1.dH.length=true/\iP e.2.b e.1.dH.length=true/\iP e.2.c e.1.dH.length=true/\iP e.2.d e.1.dH.length=true,λe=> .bool (decide (e.2.kF=[])&&e.1.gx.Jc e.2.a e.2.b e.2.c e.2.d),λe g f=>by simp at f;rw[eK.inj f.1,jo.inj f.2]⟩
def Ir:qt.Ok Tryz.prog cx 34:=by
 refine gH (tb:=⟨pt [(62,kK),(61,wS)],ht []⟩) ei eg (iL 324518867979139826586741578400767 [(3,[(7,28),(9,28),(10,28),(11,28),(13,28),(15,28),(16,28),(17,28),(19,28),(21,28),(22,28),(23,28),(13,29),(15,29),(16,29),(17,29),(19,29),(21,29),(22,29),(23,29),(19,30),(21,30),(22,30),(23,30)]),(11,[(3,7)])] Tryz.func34) (λ_=>100) (by simp[qt]) (by simp[qt,Tryz.f34]) ?_;rintro⟨c,⟨bn,a,b,x,A,G⟩⟩ ⟨i,B,E,T,U⟩ m Q;simp only at B E T U;replace i:kH c:=i;simp[qt]at Q|-;obtain⟨aE,aN⟩:=Q;obtain⟨n,a1,a2,a3,a4,a5⟩:=i.at B;obtain⟨y,K,b6,Z,b7,b8⟩:=i.at E;obtain⟨u,ae,al,an,b9,ca⟩:=i.at T;obtain⟨v,ap,av,aA,cb,ce⟩:=i.at U;obtain⟨X,Y⟩:=i.ok.s B;have bk:=λ{tb:fq} (ht:tb.p 62=some kK)=>zq ht wZ c a i;generalize oo c.ez c.jG (c.dH.take a.toNat)=S at*
 rw[X]at Y;obtain⟨z,bN,bS,bT⟩:=wL Y a4;have f:=GX.Jc.eq_1 c.gx a b x A;rw[a3,Z,an,aA,X,bT]at f;generalize c.gx.Jc a b x A=I at*
 obtain⟨g,rfl,cL⟩:=kH.nat B;obtain⟨e,rfl,c1⟩:=kH.nat E;have c7:=i.ok.len;rw[cC]at a1 K;simp[Tryz.f34,aE,aN];refine dU (λd=> ?_) (λd=> ?_)
 ·have:(decide (G=[])&&I)=false:=by
   rw[cj];intro h;rw[f]at h;simp only[aB,bP,aO,bL,bj]at h d;obtain⟨o,⟨⟨⟨⟨⟨⟨⟨⟨a7,q⟩,O⟩,P⟩,a8⟩,l⟩,N⟩,aX⟩,a6⟩⟩:=h;subst o;simp at d;omega
  simp[this]
 simp only[bI,bj]at d;obtain⟨⟨bs,c9⟩,dd⟩:=d;have hl:G=[]:=by cases G<;>simp at bs|-
 have cp:g<e:=dj;subst hl;simp[a1,K,ae,al,ap,av,ku,Cn];refine dU (λd=> ?_) (λd=> ?_)
 ·have:I=false:=by
   rw[cj];intro h;rw[f]at h;simp only[aB,bP,aO,bL,bj]at h d;obtain⟨⟨⟨⟨⟨⟨⟨⟨a7,q⟩,O⟩,P⟩,a8⟩,l⟩,N⟩,aX⟩,a6⟩:=h;simp[O,P,l,N]at d;omega
  simp[this]
 simp only[bI,bU,bj,aO]at d;obtain⟨⟨⟨⟨bu,bz⟩,bB⟩,bC⟩,bH⟩:=d;have bl:=Ft c.gx (lo:=(g:Int)) (hi:=e) (a:=g) (b:=e) (GX.ye n.dN) rfl rfl;rw[bl,show c.gx.ev=c.dH from rfl,aT (show(g:Int)<e by omega),aT (show x<=A by omega),aT bu,aT bz,aM bB,bC,bH]at f;simp;generalize w:(((((hE.cons _).cons _).cons _).cons _).cons _).cons _=r;have J:r.get 0=some (dy 15 0 [c.t]):=by rw[<-w];simp
 have L:r.get 1=some (dy 6 0 [jo.t ⟨bn,g,e,x,A,[]⟩]):=by rw[<-w];simp
 have M:r.get 2=some (dy 7 1 [n.t]):=by rw[<-w];simp
 have W:Hp r:=by rw[<-w];simp
 clear w;refine yt e (λk m h=>r=h/\g<=k/\((c.dH.drop k).take (e-k)).all (GX.ye n.dN)=((c.dH.drop g).take (e-g)).all (GX.ye n.dN)/\dz m 2 (.ptr 0 0 0 0)/\dz m 3 (.ptr 1 0 0 0)/\dz m 5 (.ptr 2 0 0 0)/\dz m 9 (dw k)) ?_ dj (k:=g) dj ?_
 ·rintro k m _ c4 ⟨rfl,c6,j,D,o,q,l⟩;by_cases F:k<e
  ·have V:k<c.dH.length:=dj;have bi:binop .add (dw (k:Int)) (dw 1)=some (dw ((k:Int)+1)):=gY dj dj;rw[Ef (az V) F]at j;simp[J,L,M,D,o,q,l,F,V];generalize c.dH[k]=C at*
   have R:GX.ye n.dN C= !(decide (C.dN=n.dN)&&decide (C.kind=15)):=rfl;refine dU (λH=> ?_) (λH=> ?_)
   ·rw[R,H]at j;rw[<-j]at f;simp at f;simp[f,W]
   ·rw[R,H]at j;simp[D,o,q,l,bi];exact⟨k+1,dj,dj,dj,by simpa using j,dp⟩
  ·rw[show e-k=0 by omega]at j;rw[<-j]at f;simp at f;simp[J,L,M,D,o,q,l,F,bk,IU,D9,bN,bS];exact⟨W,f.symm⟩
 ·simp
def RC{d:fq}(ht:d.p 57=some tU)(a:eK)(c b:Int)(g:kH a)(e:iP c a.dH.length=true)(f:iP b a.dH.length=true):rl Tryz.prog cx d 57 [a.t,dw c,dw b]=some (.bool (a.gx.rD c b)):=gF ht N3 (a,c,b) ⟨g,e,f⟩
def yf(c:GX)(d:Int->Int->Bool)(a:List Int)(b:Nat):Bool:=
 !decide (a.getD b 0<a.getD 0 0)&&d (a.getD ((b+1)% a.length) 0) (a.getD b 0)&&(List.range b).all λf=> !decide ((c.e (a.getD b 0)).dN=(c.e (a.getD f 0)).dN)
def Hf{d:GX}{e:Int->Int->Bool}{b:List Int}(f:2<=b.length)(g:b.length<=4)(h:∀a<b.length,iP (b.getD a 0) d.ev.length=true)(i:∀a<b.length,yf d e b a=true):d.Mf e b=true:=by
 unfold GX.Mf;simp only[aB,aO];refine⟨⟨⟨f,g⟩,List.all_eq_true.2 λk j=> ?_⟩,List.all_eq_true.2 λa c=>i a (List.mem_range.1 c)⟩;obtain⟨a,c,rfl⟩:=List.mem_iff_getElem.1 j;have:=h a c;simpa[List.getD,c]using this
def nL{e:GX}{f:Int->Int->Bool}{a:List Int}(h:a.length<2\/4<a.length\/(∃b<a.length,iP (a.getD b 0) e.ev.length=false)\/∃b<a.length,yf e f a b=false):e.Mf f a=false:=by
 rw[cj];intro d;unfold GX.Mf at d;simp only[aB,aO]at d;obtain⟨⟨⟨j,k⟩,g⟩,i⟩:=d;rcases h with h|h|⟨b,c,h⟩|⟨b,c,h⟩
 ·omega
 ·omega
 ·have:=List.all_eq_true.1 g (a.getD b 0) (by simp[List.getD,c]);rw[h]at this;simp at this
 ·have:=List.all_eq_true.1 i b (List.mem_range.2 c);unfold yf at h;rw[h]at this;simp at this
def JA(a b:Nat)(d:b≠0)(c:a<9223372036854775808):binop .rem (dw (a:Int)) (dw (b:Int))=some (dw ((a% b:Nat):Int)):=by
 rw[CJ dj];rfl
def vC:f7:=⟨eK×jo,λa=>[a.1.t,a.2.t],λa=>kH a.1/\a.2.kF.length<=1000000,λa=> .bool (a.1.gx.dead a.1.gx.rD a.2),λa c b=>by simp at b;rw[eK.inj b.1,jo.inj b.2]⟩
def NP:vC.Ok Tryz.prog cx 30:=by
 refine gH (tb:=⟨pt [(57,tU),(31,Bg)],ht []⟩) ei eg (iL 2596148777438049903812084076904959 [] Tryz.func30) (λ_=>100) (by simp[vC]) (by simp[vC,Tryz.f30]) ?_;rintro⟨d,⟨S,z,A,B,C,a⟩⟩ ⟨u,aE⟩ f U;simp only at aE;replace u:kH d:=u;simp[vC]at U|-;obtain⟨ae,P⟩:=U;have n:d.gx.dead d.gx.rD ⟨S,z,A,B,C,a⟩=(decide (z=0)&&decide (A=0)&&decide (B=0)&&decide (C=0)&&d.gx.Mf d.gx.rD a):=rfl;generalize d.gx.dead d.gx.rD ⟨S,z,A,B,C,a⟩=Y at*
 simp[Tryz.f30,ae,P];refine dU (λL=> ?_) (λL=> ?_)
 ·have:Y=false:=by
   rw[cj];intro h;rw[n]at h;simp only[aB,aO]at h;obtain⟨⟨⟨⟨P,i⟩,j⟩,al⟩,g⟩:=h;simp[P,i,j,al]at L;rw[nL dj]at g;simp at g
  simp[this]
 simp only[bI,bU,bj,aO]at L;obtain⟨⟨⟨⟨⟨aN,aX⟩,a6⟩,a7⟩,bn⟩,bs⟩:=L;have av:2<=a.length:=dj;have aA:a.length<=4:=dj;have bk:=u.ok.len;rw[aN,aX,a6,a7]at n;simp at n;simp;generalize F:(hE.cons _).cons _=r;have M:r.get 0=some (dy 15 0 [d.t]):=by rw[<-F];simp
 have N:r.get 1=some (dy 6 0 [jo.t ⟨S,z,A,B,C,a⟩]):=by rw[<-F];simp
 have K:Hp r:=by rw[<-F];simp
 clear F;refine fc a.length dj (λb f h=>r=h/\(∀c<b,iP (a.getD c 0) d.dH.length=true)/\dz f 2 (.ptr 0 0 0 0)/\dz f 3 (.ptr 1 0 0 0)/\dz f 5 (dw a.length)/\dz f 6 (dw b)) ?_ ?_ dj ?_
 ·rintro b f _ m G ⟨rfl,I,i,j,g,D⟩;have s:a.getD b 0=a[b]:=by simp[List.getD,m]
  simp[M,N,i,j,g,D,m,Ti];refine dU (λl=> ?_) (λl=> ?_)
  ·rw[nL (.inr (.inr (.inl ⟨b,m,by rw[s];exact(by simpa using l:iP a[b] d.dH.length=false)⟩)))]at n;simp[n,K]
  ·simp[i,j,g,D,G];intro c q;rcases aD c b with h|h
   ·simpa using I c h
   ·rw[show c=b by omega];simpa[m]using l
 ·rintro f _ ⟨rfl,I,i,j,g,D⟩;simp[g,D];have H:∀c (q:c<a.length),iP a[c] d.dH.length=true:=λc q=>by simpa[List.getD,q]using I c q
  refine fc a.length dj (λb f h=>r=h/\(∀c<b,yf d.gx d.gx.rD a c=true)/\dz f 2 (.ptr 0 0 0 0)/\dz f 3 (.ptr 1 0 0 0)/\dz f 5 (dw a.length)/\dz f 7 (dw b)) ?_ ?_ dj ?_
  ·rintro b f _ m G ⟨rfl,Q,i,j,g,o⟩;have s:∀c (q:c<a.length),a.getD c 0=a[c]:=λc q=>by simp[List.getD,q]
   have O:0<a.length:=dj;have W:=JA (b+1) a.length dj dj;have J:(b+1)% a.length<a.length:=Nat.mod_lt _ O;have v:yf d.gx d.gx.rD a b=(!decide (a[b]<a[0])&&d.gx.rD (a[(b+1)% a.length]'J) a[b]&&(List.range b).all λk=> !decide ((d.gx.e a[b]).dN=(d.gx.e (a.getD k 0)).dN)):=by unfold yf;rw[s _ m,s _ O,s _ J]
   generalize(b+1)% a.length=X at*
   have Z:=λ{tb:fq} (ht:tb.p 57=some tU)=>RC ht d a[X] a[b] u (H X J) (H b m);obtain⟨x,a1,a2,a3,a4,a5⟩:=u.at (H b m);rw[a3]at v;simp at W;simp[M,N,i,j,g,o,m,G,O,W,J,Z];refine dU (λl=> ?_) (λl=> ?_)
   ·have:yf d.gx d.gx.rD a b=false:=by
     rw[v,cj];intro h;simp only[aB,bL,bj]at h;simp[h.1.2]at l;omega
    rw[nL (.inr (.inr (.inr ⟨b,m,this⟩)))]at n;simp[n,K]
   ·simp only[bI,bU,bj]at l;rw[l.2,aM l.1]at v;simp;refine fc b dj (λk f h=>r=h/\(∀c<k,decide (x.dN=(d.gx.e (a.getD c 0)).dN)=false)/\dz f 2 (.ptr 0 0 0 0)/\dz f 3 (.ptr 1 0 0 0)/\dz f 5 (dw a.length)/\dz f 7 (dw b)/\dz f 8 (dw k)) ?_ ?_ dj ?_
    ·rintro k f _ V an ⟨rfl,R,i,j,g,o,E⟩;have w:k<a.length:=dj;obtain⟨y,a8,bi,T,bu,bz⟩:=u.at (H k w);simp[M,N,i,j,o,E,V,w,m,a1,a2,a8,bi];have bl:(d.gx.e (a.getD k 0)).dN=y.dN:=by rw[s k w,T]
     refine dU (λl=> ?_) (λl=> ?_)
     ·have:yf d.gx d.gx.rD a b=false:=by
       rw[v];simp;exact⟨k,V,by simpa[w,T]using l⟩
      rw[nL (.inr (.inr (.inr ⟨b,m,this⟩)))]at n;simp[n,K]
     ·simp[i,j,g,o,E,an];intro c q;rcases aD c k with h|h
      ·simpa using R c h
      ·rw[show c=k by omega];simp[w,T];simpa using l
    ·rintro f _ ⟨rfl,R,i,j,g,o,E⟩;simp[i,j,g,o,E,G];intro c q;rcases aD c b with h|h
     ·exact Q c h
     ·rw[show c=b by omega,v];simp;intro k ap;simpa using R k ap
    ·simp[i,j,g,o]
  ·rintro f _ ⟨rfl,Q,i,j,g,o⟩;rw[Hf av aA I Q]at n;simp[g,o,n,K]
  ·simp[i,j,g]
 ·simp
def sL:f7:=⟨eK×jo,λa=>[a.1.t,a.2.t],λa=>kH a.1/\a.2.kF.length<=1000000,λa=> .bool (a.1.gx.vR a.2),λa c b=>by simp at b;rw[eK.inj b.1,jo.inj b.2]⟩
def K5:sL.Ok Tryz.prog cx 15:=by
 refine gH (tb:=⟨pt [(31,Bg),(30,vC),(32,vx),(33,vy),(34,qt)],ht []⟩) ei eg (iL 9302967882613055 [] Tryz.func15) (λ_=>100) (by simp[sL]) (by simp[sL,Tryz.f15]) ?_;rintro⟨f,e⟩ ⟨h,v⟩ E u;simp only at v;replace h:kH f:=h;simp[sL]at u|-;obtain⟨r,s⟩:=u;have g:=GX.vR.eq_1 f.gx e;simp only[show∀w,f.gx.Ae w=iP w f.dH.length from λ_=>rfl]at g;generalize f.gx.vR e=D at*
 have A:∀{tb:fq},tb.p 30=some vC->rl Tryz.prog cx tb 30 [f.t,e.t]=some (.bool (f.gx.dead f.gx.rD e)):=λht=>gF ht NP (f,e) ⟨h,v⟩;cases o:decide (e.kind=2)with
 |true=>
  rw[aq (by simpa using o)]at g;simp[Tryz.f15,r,s,o,A,g]
 |false=>
  rw[ao (by simpa using o)]at g;simp[Tryz.f15,r,s,o,Ti];refine dU (λl=> ?_) (λl=> ?_)
  ·rw[ao (by intro j;simp only[aB]at j;simp[j.1.1.1,j.1.1.2,j.1.2,j.2]at l)]at g;simp[g]
  simp only[bI,bU]at l;obtain⟨⟨⟨m,n⟩,x⟩,y⟩:=l;rw[aq (by rw[m,n,x,y];rfl)]at g;have C:∀{tb:fq},tb.p 32=some vx->rl Tryz.prog cx tb 32 [f.t,e.t]=some (.bool (decide (e.c=0)&&decide (e.d=0)&&decide (e.kF=[])&&f.gx.Qp e.a e.b)):=λht=>gF ht Nu (f,e) ⟨h,m,n⟩;have B:∀{tb:fq},tb.p 33=some vy->rl Tryz.prog cx tb 33 [f.t,e.t]=some (.bool (decide (e.c=0)&&decide (e.d=0)&&decide (e.kF=[])&&f.gx.PZ e.a e.b)):=λht=>gF ht ND (f,e) ⟨h,m,n⟩;have z:∀{tb:fq},tb.p 34=some qt->rl Tryz.prog cx tb 34 [f.t,e.t]=some (.bool (decide (e.kF=[])&&f.gx.Jc e.a e.b e.c e.d)):=λht=>gF ht Ir (f,e) ⟨h,m,n,x,y⟩;cases i:decide (e.kind=1)with
  |true=>
   rw[aq (by simpa using i)]at g;simp[i,C,g]
  |false=>
   rw[ao (by simpa using i)]at g;cases k:decide (e.kind=3)with
   |true=>
    rw[aq (by simpa using k)]at g;simp[i,k,B,g]
   |false=>
    rw[ao (by simpa using k)]at g;cases q:decide (e.kind=4)with
    |true=>
     rw[aq (by simpa using q)]at g;simp[i,k,q,z,g]
    |false=>
     rw[ao (by simpa using q)]at g;simp[i,k,q,g]
def O6{c:fq}(ht:c.p 15=some sL)(b:eK)(a:jo)(d:kH b)(hl:a.kF.length<=1000000):rl Tryz.prog cx c 15 [b.t,a.t]=some (.bool (b.gx.vR a)):=gF ht K5 (b,a) ⟨d,hl⟩
def K2:pT.Ok Tryz.prog cx 122:=by
 refine gH (tb:=⟨pt [],ht []⟩) ei eg (iL 19 [] Tryz.func122) (λf=>1) (by simp[pT]) (by simp[pT,Tryz.f122]) ?_;rintro⟨e,g⟩ _ h a;simp[pT]at a|-;obtain⟨b,c⟩:=a;by_cases d:0<=e<;>simp[Tryz.f122,b,c,d,iP]
def yn{c:fq}(ht:c.p 122=some pT)(a:Int)(b:Nat):rl Tryz.prog cx c 122 [dw a,dw b]=some (.bool (iP a b)):=gF ht K2 (a,b) trivial
def yL:f7:=⟨dR×fg,λa=>[a.1.t,a.2.t],λa=>ml a.1 a.2=true/\a.1.fV.length<=1000000,λa=> .bool true,λa b c=>rfl⟩
def QI:yL.Ok Tryz.prog cx 121:=by
 refine gH (tb:=⟨pt [(122,pT)],ht []⟩) ei eg (iL 35315368591455 [] Tryz.func121) (λv=>1000005) (by simp[yL]) (by simp[yL,Tryz.f121]) ?_;rintro⟨e,w⟩ ⟨h,r⟩ a l;simp only at h r;simp[yL]at l|-;obtain⟨o,p⟩:=l;obtain⟨l1,l2,l3⟩:=nK h;simp[Tryz.f121,o,p,l1,l2,l3];refine fc e.fV.length dj (λn a d=>gu 2 d/\d.get 0=some (dy 6 0 [e.t])/\dz a 2 (.ptr 0 0 0 0)/\dz a 33 (sl (e.fV.map iB.t))/\dz a 34 (dw e.fV.length)/\dz a 35 (dw n)) ?_ ?_ dj ⟨by exact⟨dp,dp,dp⟩,dp⟩
 ·rintro n a d m q ⟨c,i,j,k,f,g⟩;have s:=qW h (az m);have u:=c.ne (b:=0) dj;simp[i,j,k,f,g,m,u,c.low,yn,s,q];exact c.cons _
 ·rintro a d ⟨c,i,j,k,f,g⟩;simp[f,g,c.hp]
def sW:f7:=⟨dR×Int×Int,λa=>[a.1.t,dw a.2.1,dw a.2.2],λa=>jy a.1 a.2.1 a.2.2=true,λa=> .bool true,λa b c=>rfl⟩
def Lp:sW.Ok Tryz.prog cx 123:=by
 refine gH (tb:=⟨pt [(122,pT)],ht []⟩) ei eg (iL 606826398900554784047567 [] Tryz.func123) (λl=>1) (by simp[sW]) (by simp[sW,Tryz.f123]) ?_;rintro⟨k,a,j⟩ b m f;replace b:jy k a j=true:=b;simp[sW]at f|-;obtain⟨c,d,e⟩:=f;have hr:=ta b;have g:a=1\/a=2\/a=3\/a=4\/a=5\/a=6\/a=7\/a=8\/a=9\/a=10\/a=11\/a=12\/a=13\/a=14\/a=15\/a=16\/a=17\/a=18\/a=19\/a=20\/a=21\/a=22\/a=23:=dj;rcases g with rfl|rfl|rfl|rfl|rfl|rfl|rfl|rfl|rfl|rfl|rfl|rfl|rfl|rfl|rfl|rfl|rfl|rfl|rfl|rfl|rfl|rfl|rfl
 case inr.inr.inr.inr.inr.inl|inr.inr.inr.inr.inr.inr.inl|inr.inr.inr.inr.inr.inr.inr.inl|inr.inr.inr.inr.inr.inr.inr.inr.inl|inr.inr.inr.inr.inr.inr.inr.inr.inr.inl|inr.inr.inr.inr.inr.inr.inr.inr.inr.inr.inl=>
  have hl:=kw b dj;obtain⟨n,h,i⟩:=im hl;simp[jy,i]at b;simp[Tryz.f123,c,d,e,yn,hl,h,b,ed (ff.1 hl).1]
 all_goals
  simp[jy]at b;simp[Tryz.f123,c,d,e,yn,b]
def Gl:mU Tryz.prog cx 132 (λb:List Int×Int=>[sl (b.1.map (T.int .i64)),dw b.2]) (λb=>b.1.length<=1000000) (λb r=>∃o,r= dw o/\(0<=o↔b.2∈b.1)):=by
 refine iZ (tb:=⟨pt [],ht []⟩) ei eg (iL 66483 [] Tryz.func132) (λ_=>1000005) (λb s a=>by simp at a;exact aP (jt (λ_ _ a=>by simpa using a) a.1) a.2) dp (by simp[Tryz.f132]) ?_;rintro⟨f,p⟩ hl c m;replace hl:f.length<=1000000:=hl;simp at m;obtain⟨d,e⟩:=m;simp[Tryz.f132,d];refine fc f.length dj (λl c a=>a=hE/\p∉f.take l/\dz c 0 (sl (f.map (T.int .i64)))/\dz c 1 (dw p)/\dz c 7 (dw f.length)/\dz c 8 (dw l)) ?_ ?_ dj (by simp[d,e])
 ·rintro l c a j q ⟨rfl,k,d,e,h,i⟩;simp[d,e,h,i,j];refine dU (λg=> ?_) (λg=> ?_)
  ·simp at g;simp;subst g;exact aF j
  ·simp at g;simp[d,e,h,i,q];intro n;rw[aU j,List.mem_append,List.mem_singleton]at n;exact n.elim k g
 ·rintro c a ⟨rfl,k,d,e,h,i⟩;simp[h,i];simpa using k
def oG:f7:=⟨List Int×Int,λa=>[sl (a.1.map (T.int .i64)),dw a.2],λa=>a.1.length<=1000000,λa=> .bool (decide (a.2∈a.1)),λa c b=>by simp at b;rw[jt (λ_ _ b=>by simpa using b) b.1,b.2]⟩
def Iq:oG.Ok Tryz.prog cx 89:=by
 refine gH (tb:=⟨pt [(132,Gl.jb)],ht []⟩) ei eg (iL 19 [] Tryz.func89) (λh=>1) (by simp[oG]) (by simp[oG,Tryz.f89]) ?_;rintro⟨b,g⟩ hl j a;replace hl:b.length<=1000000:=hl;simp[oG]at a|-;obtain⟨d,e⟩:=a;obtain⟨_,⟨i,rfl,f⟩,c⟩:=Gl.use (b,g) hl;simp[Tryz.f89,d,e,c];exact f
def zp{c:fq}(ht:c.p 89=some oG)(a:List Int)(b:Int)(hl:a.length<=1000000):rl Tryz.prog cx c 89 [sl (a.map (T.int .i64)),dw b]=some (.bool (decide (b∈a))):=gF ht Iq (a,b) hl
structure EnF(w:dR)(s:fg)(t k o:Int):Prop where
 f:ml w s=true
 th:iP t w.dB.length=true
 n:jy w k o=true
 e:AQ w s t k o=true
 c:w.fV.length<=1000000
 r:∀l∈s.dV,l.d8.length<=1000000
def vw:f7:=⟨dR×fg×Int×Int×Int,λa=>[a.1.t,a.2.1.t,dw a.2.2.1,dw a.2.2.2.1,dw a.2.2.2.2],λa=>EnF a.1 a.2.1 a.2.2.1 a.2.2.2.1 a.2.2.2.2/\a.2.2.2.1≠1/\a.2.2.2.1≠17,λa=> .bool true,λa b c=>rfl⟩
def Nt:vw.Ok Tryz.prog cx 124:=by
 refine gH (tb:=⟨pt [(89,oG)],ht []⟩) ei eg (iL 5868843906288553182383292937158044313155908148351 [] Tryz.func124) (λx=>1) (by simp[vw]) (by simp[vw,Tryz.f124]) ?_;rintro⟨F,C,D,a,B⟩ ⟨⟨g,ht,h,b,u,hr⟩,v,w⟩ E m;simp only at g ht h b u hr v w;simp[vw]at m|-;obtain⟨d,e,i,f,j⟩:=m;have A:=ta h;obtain⟨l1,l2,l3⟩:=nK g;have c:a=2\/a=3\/a=4\/a=5\/a=12\/a=13\/(a=6\/a=7\/a=8\/a=9\/a=10\/a=11)\/(a=14\/a=15)\/(a=16\/a=18\/a=19)\/(a=20\/a=21)\/(a=22\/a=23):=dj;rcases c with rfl|rfl|rfl|rfl|rfl|rfl|c|c|c|c|c
 case inr.inr.inr.inr.inr.inr.inl=>
  obtain⟨k,a1,a2,a3⟩:=rO g (kw h dj);have hl:=hr k (ax a2);rcases c with rfl|rfl|rfl|rfl|rfl|rfl<;>simp[AQ,a3]at b<;>simp[Tryz.f124,d,e,i,f,j,a1,a2,b,zp,hl]
 case inr.inr.inr.inr.inr.inr.inr.inl=>
  obtain⟨k,a1,a2,a3⟩:=wL g ht;rcases c with rfl|rfl<;>simp[AQ,a3]at b<;>simp[Tryz.f124,d,e,i,f,a1,a2,b]
 case inr.inr.inr.inr.inr.inr.inr.inr.inl=>
  obtain⟨y,k,n,o,p,q,r⟩:=AS g (ny h dj);rcases c with rfl|rfl|rfl<;>simp[AQ,r]at b<;>simp[Tryz.f124,d,e,i,f,j,n,o,p,q,b]
 case inr.inr.inr.inr.inr.inr.inr.inr.inr.inl=>
  obtain⟨k,a1,a2,a3⟩:=wL g (vP h dj);rcases c with rfl|rfl<;>simp[AQ,a3]at b<;>simp[Tryz.f124,d,e,i,f,j,a1,a2,b]
 case inr.inr.inr.inr.inr.inr.inr.inr.inr.inr=>
  have l:=qu h dj;rw[<-l2]at l;obtain⟨z,s,t⟩:=im l;rcases c with rfl|rfl<;>simp[AQ,Cc,t]at b<;>simp[Tryz.f124,d,e,f,j,s,b,ed (ff.1 l).1]
 all_goals
  simp[AQ]at b;simp[Tryz.f124,d,e,i,f,b]
def oF:f7:=⟨dR×fg×Int×Int×Int,λa=>[a.1.t,a.2.1.t,dw a.2.2.1,dw a.2.2.2.1,dw a.2.2.2.2],λa=>EnF a.1 a.2.1 a.2.2.1 a.2.2.2.1 a.2.2.2.2,λa=> .bool true,λa b c=>rfl⟩
def Ip:oF.Ok Tryz.prog cx 79:=by
 refine gH (tb:=⟨pt [(121,yL),(122,pT),(123,sW),(124,vw)],ht []⟩) ei eg (iL 4605278686335 [] Tryz.func79) (λF=>1) (by simp[oF]) (by simp[oF,Tryz.f79]) ?_;rintro⟨c,e,k,b,d⟩ f I n;replace f:EnF c e k b d:=f;obtain⟨j,ht,o,a,D,hr⟩:=id f;simp[oF]at n|-;obtain⟨B,C,l,m,i⟩:=n;have y:∀{tb:fq},tb.p 121=some yL->rl Tryz.prog cx tb 121 [c.t,e.t]=some (.bool true):=λht=>gF ht QI (c,e) ⟨j,D⟩;have z:∀{tb:fq},tb.p 123=some sW->rl Tryz.prog cx tb 123 [c.t,dw b,dw d]=some (.bool true):=λht=>gF ht Lp (c,b,d) o;obtain⟨q,a1,a2,a3⟩:=wL j ht;simp[Tryz.f79,B,C,l,m,i,y,z,yn,ht,a1,a2];by_cases g:b=1
 ·subst g;simp[AQ,a3]at a;simp[a]
 by_cases h:b=17
 ·subst h;obtain⟨G,H,s,u,v,w,x⟩:=AS j (ny o dj);simp[AQ,a3,x]at a;simp[i,a,s,u,v,w]
 have A:∀{tb:fq},tb.p 124=some vw->rl Tryz.prog cx tb 124 [c.t,e.t,dw k,dw b,dw d]=some (.bool true):=λht=>gF ht Nt (c,e,k,b,d) ⟨f,g,h⟩;have E:q.iv=2:=by
  unfold AQ at a;rw[ao g,ao h,a3]at a;by_cases r:q.iv=2
  ·exact r
  ·rw[aq r]at a;simp at a
 simp[l,m,i,g,h,E,A]
def LQ{a:fq}(ht:a.p 79=some oF){w:dR}{s:fg}{t k o:Int}(b:EnF w s t k o):rl Tryz.prog cx a 79 [w.t,s.t,dw t,dw k,dw o]=some (.bool true):=gF ht Ip (w,s,t,k,o) b
end
noncomputable section
open Go Go.TI
attribute [-simp] List.map_take List.map_drop List.map_append
def mg(c:Nat)(b:List Int):Bool:=b.all λa=>iP a c
def nS:f7:=⟨fI×List Int,λa=>[a.1.t,sl (a.2.map (T.int .i64))],λa=>a.2.length<=1099511627776,λa=> .bool (mg a.1.w.dH.length a.2),λa c b=>by simp at b;rw[fI.inj b.1,jt dp b.2]⟩
def Ni:nS.Ok Tryz.prog cx 51:=by
 refine gH (tb:=⟨pt [],ht []⟩) ei eg (iL 4196311 [] Tryz.func51) (λo=>o.2.length+1) (by simp[nS]) (by simp[nS,Tryz.f51]) ?_;rintro⟨e,b⟩ hl d m;simp[nS]at hl m|-;obtain⟨p,q⟩:=m;simp[Tryz.f51,p,q];refine fc b.length dj (λc d j=>j=H.cons hE (dy 16 0 [e.t])/\dz d 2 (.ptr 0 0 0 0)/\dz d 7 (sl (b.map (T.int .i64)))/\dz d 8 (dw b.length)/\dz d 9 (dw c)/\mg e.w.dH.length (b.drop c)=mg e.w.dH.length b) ?_ ?_ dj dp
 ·rintro c d j i r ⟨rfl,k,h,f,g,a⟩;rw[aI i]at a;simp only[mg,cy]at a;by_cases l:b[c]<0
  ·have:iP b[c] e.w.dH.length=false:=by simp[iP];omega
   rw[this,Bool.false_and]at a;simp[h,f,g,i,l,mg,a.symm]
  ·by_cases n:(e.w.dH.length:Int)<=b[c]
   ·have:iP b[c] e.w.dH.length=false:=by simp[iP];omega
    rw[this,Bool.false_and]at a;simp[k,h,f,g,i,l,n,mg,a.symm]
   ·have:iP b[c] e.w.dH.length=true:=by simp[iP];omega
    rw[this,bK]at a;simp[k,h,f,g,i,r,l,n,mg,a]
 ·rintro d j ⟨rfl,k,h,f,g,a⟩;simp[mg]at a;simp[f,g,mg];exact a
def Fo{c:fq}(ht:c.p 51=some nS)(b:fI)(a:List Int)(hl:a.length<=1099511627776):rl Tryz.prog cx c 51 [b.t,sl (a.map (T.int .i64))]=some (.bool (mg b.w.dH.length a)):=gF ht Ni (b,a) hl
def qZ{d:fq}(ht:d.p 51=some nS)(a:fI)(b c:Int):rl Tryz.prog cx d 51 [a.t,sl [dw b,dw c]]=some (.bool (iP b a.w.dH.length&&iP c a.w.dH.length)):=by
 have:=Fo ht a [b,c] dp;simpa[mg]using this
def zO(a:eK)(b c:Int):Bool:=iP b a.dH.length&&iP c a.dH.length&&decide (b<c)&&kc (qj a.dH b) (qj a.dH c)&& !decide ((qj a.dH b).dN=(qj a.dH c).dN)&& !((wG a.ez.cells (qj a.dH b).obj).getD default).sq
def FF(b:eK):Prop:=∀a∈b.dH,vj a=true->iP a.obj b.ez.cells.length=true
def wN:f7:=⟨fI×Int×Int,λa=>[a.1.t,dw a.2.1,dw a.2.2],λa=>FF a.1.w,λa=> .bool (zO a.1.w a.2.1 a.2.2),λa c b=>by simp at b;rw[fI.inj b.1,b.2.1,b.2.2]⟩
def QA:wN.Ok Tryz.prog cx 48:=by
 refine gH (tb:=⟨pt [(51,nS),(87,qd)],ht []⟩) ei eg (iL 67109327 [(3,[(8,14),(10,14),(11,14)])] Tryz.func48) (λb=>1) (by simp[wN]) (by simp[wN,Tryz.f48]) ?_;rintro⟨j,d,e⟩ r E c;simp[wN]at r c|-;obtain⟨g,h,i⟩:=c;cases l:(iP d j.w.dH.length&&iP e j.w.dH.length)with
 |false=>simp[Tryz.f48,g,h,i,qZ,l,zO,fW]
 |true=>
  have a:=l;rw[aB]at a;obtain⟨b,c,t⟩:=im a.1;obtain⟨k,v,x⟩:=im a.2;have A:=ed (ff.1 a.1).1;have B:=ed (ff.1 a.2).1;have n:qj j.w.dH d=b:=by simp[qj,t]
  have o:qj j.w.dH e=k:=by simp[qj,x]
  by_cases m:e<=d
  ·have:¬d<e:=dj;simp[Tryz.f48,g,h,i,qZ,l,m,zO,fW,this]
  ·have p:d<e:=dj;cases f:kc b k with
   |false=>simp[Tryz.f48,g,h,i,qZ,m,zO,fW,p,AV,a.1,a.2,n,o,f]
   |true=>
    have u:vj b=true:=by unfold kc at f;simp at f;exact f.1.1.1
    have q:=r b (ax c) u;obtain⟨D,y,z⟩:=im q;have s:=ed (ff.1 q).1;cases C:decide (b.dN=k.dN)<;>
     simp[Tryz.f48,g,h,i,qZ,m,zO,fW,p,AV,a.1,a.2,n,o,f,C,A,B,c,v,y,z,s,ku]
def Vl{d:fq}(ht:d.p 48=some wN)(a:fI)(b c:Int)(e:FF a.w):rl Tryz.prog cx d 48 [a.t,dw b,dw c]=some (.bool (zO a.w b c)):=gF ht QA (a,b,c) e
end
noncomputable section
open Go Go.TI
attribute [-simp] List.map_take List.map_drop List.map_append fj eG dY Bool.not_or Bool.not_and
attribute [simp] fh eJ
attribute [-simp] size_cons
structure zv(x:fI):Prop where
 w:kH x.w
 s:x.A5=x.w.gx.st
def zv.st{a:fI}(c:zv a){e:Int}(d:iP e a.w.dH.length=true):∃b,a.A5[e.toNat]? =some b/\a.w.gx.s e=b/\ml a.w.ez b=true/\(∀h∈b.dV,h.d8.length<=2000):=by
 obtain⟨f,i⟩:=c.w.ok.s d;have g:=c.w.ok.st (ff.1 d).2;refine⟨_,by rw[c.s];exact g,f,by rw[<-f];exact i,by rw[<-f];exact(c.w.rd d).1⟩
def qK:f7:=⟨fI×Int×Int,λa=>[a.1.t,dw a.2.1,dw a.2.2],λa=>zv a.1/\iP a.2.1 a.1.w.dH.length=true/\iP a.2.2 a.1.w.dH.length=true,λa=> .bool (a.1.w.gx.vf a.2.1 a.2.2),λa c b=>by simp at b;rw[fI.inj b.1,b.2.1,b.2.2]⟩
def Ll:qK.Ok Tryz.prog cx 55:=by
 refine gH (tb:=⟨pt [(88,vm),(89,oG)],ht []⟩) ei eg (iL 36051629065113551 [(1,[(8,14),(10,14),(11,14)])] Tryz.func55) (λ_=>10) (by simp[qK]) (by simp[qK,Tryz.f55]) ?_;rintro⟨f,i,h⟩ ⟨p,u,A⟩ Z z;simp only at p u A;simp[qK]at z|-;obtain⟨M,k,N⟩:=z;obtain⟨v,L,j,y,X,Y⟩:=p.w.at u;obtain⟨c,I,J,K,W,n⟩:=p.w.at A;obtain⟨D,r,S,s,T⟩:=p.st u;have a:=GX.rD.eq_1 f.w.gx i h;rw[K,y,S,show f.w.gx.w=f.w.ez from rfl]at a;have t:f.w.gx.vf i h=(pH v.kind&&f.w.gx.rD i h):=by rw[<-y];rfl
 generalize f.w.gx.vf i h=C at*
 generalize f.w.gx.rD i h=U at*
 simp[Tryz.f55,M,k,N,I,J,L,j,Rw,ku];refine dU (λl=> ?_) (λl=> ?_)
 ·have:C=false:=by
   rw[t];cases P:pH v.kind with
   |false=>rfl
   |true=>
    rw[P]at l;have ht:c.dN=v.dN:=by simpa using l
    rw[aq ht]at a;rw[a];rfl
  simp[this]
 simp only[bI,bU,bj]at l;obtain⟨O,Q⟩:=l;rw[Q,bK]at t;subst t;rw[ao O]at a;simp;have o:∀b:dS,b∈D.dV->b.d8.length<=1000000:=λb hl=>by have:=T b hl;omega
 cases B:decide (c.kind=6)with
 |true=>
  have d:c.kind=6:=by simpa using B
  obtain⟨b,l1,l2,l3⟩:=rO s (kw n dj);have hl:=o b (ax l2);rw[aq (.inl d),l3]at a;simp[k,l1,l2,r,j,zp,hl,a]
 |false=>
  cases e:decide (c.kind=10)with
  |true=>
   have d:c.kind=10:=by simpa using e
   obtain⟨b,l1,l2,l3⟩:=rO s (kw n dj);have hl:=o b (ax l2);rw[aq (.inr d),l3]at a;simp[k,e,l1,l2,r,j,zp,hl,a]
  |false=>
   have R:¬(c.kind=6\/c.kind=10):=by simp at B e;omega
   rw[ao R]at a;cases g:decide (c.kind=8)with
   |true=>
    have d:c.kind=8:=by simpa using g
    obtain⟨b,l1,l2,l3⟩:=rO s (kw n dj);rw[aq d,l3]at a;have hl:=o b (ax l2);simp[k,e,g,l1,l2,r,j,a]
   |false=>
    rw[ao (by simpa using g)]at a;cases m:decide (c.kind=17)with
    |true=>
     have d:c.kind=17:=by simpa using m
     obtain⟨V,b,E,F,G,x,H⟩:=AS s (ny n dj);rw[aq d,H]at a;have hl:=o b (ax x);simp[k,e,g,m,E,F,G,x,r,j,a]
    |false=>
     rw[ao (by simpa using m)]at a;cases q:decide (c.kind=21)with
     |true=>
      rw[aq (by simpa using q)]at a;simp[e,g,m,q,a]
     |false=>
      rw[ao (by simpa using q)]at a;simp[e,g,m,q,a]
def yI:f7:=⟨fI×Int×Int,λa=>[a.1.t,dw a.2.1,dw a.2.2],λa=>zv a.1,λa=> .bool ((iP a.2.1 a.1.w.dH.length&&iP a.2.2 a.1.w.dH.length)&&a.1.w.gx.PZ a.2.1 a.2.2),λa c b=>by simp at b;rw[fI.inj b.1,b.2.1,b.2.2]⟩
def QD:yI.Ok Tryz.prog cx 50:=by
 refine gH (tb:=⟨pt [(51,nS)],ht []⟩) ei eg (iL 1238093369775042453301102031 [(3,[(8,14),(10,14),(11,14)])] Tryz.func50) (λ_=>100) (by simp[yI]) (by simp[yI,Tryz.f50]) ?_;rintro⟨f,a,b⟩ p h J;replace p:zv f:=p;simp[yI]at J|-;obtain⟨D,i,u⟩:=J;cases z:(iP a f.w.dH.length&&iP b f.w.dH.length)with
 |false=>simp[Tryz.f50,D,i,u,qZ,z,fW]
 |true=>
  have N:=z;rw[aB]at N;obtain⟨G,K⟩:=N;obtain⟨H,a1,a2,a3,a4,a5⟩:=p.w.at G;obtain⟨A,I,a7,R,T,a8⟩:=p.w.at K;obtain⟨S,O,av,aA,bH⟩:=p.st G;obtain⟨P,aN,aX,a6⟩:=wL aA T;have d:=GX.PZ.eq_1 f.w.gx a b;rw[a3,R,av,a6]at d;generalize f.w.gx.PZ a b=Q at*
  obtain⟨e,rfl,bu⟩:=kH.nat G;obtain⟨c,rfl,bB⟩:=kH.nat K;have bC:=p.w.ok.len;rw[cC]at a1 I O;by_cases bz:c<e;rotate_left
  ·rw[aM (show¬(c:Int)<e by omega)]at d;simp[Tryz.f50,D,i,u,qZ,z,fW,d,show e<=c by omega]
  have X:=Ft f.w.gx (lo:=(c:Int)+1) (hi:=e) (a:=c+1) (b:=e) (λo=> !decide (o.dN=A.dN)) dj rfl;rw[X,show f.w.gx.ev=f.w.dH from rfl,aT (show(c:Int)<e by omega)]at d;have W:binop .add (dw (c:Int)) (dw 1)=some (dw ((c:Int)+1)):=gY dj dj;have aE:jT ((c:Int)+1)=some (c+1):=by have:=ed (show(0:Int)<=((c+1:Nat):Int)by omega);simpa using this
  simp[Tryz.f50,D,i,u,qZ,z,fW,show¬e<=c by omega,a1,I,ku];refine dU (λs=> ?_) (λs=> ?_)
  ·have:Q=false:=by
    rw[cj];intro g;rw[d]at g;simp only[aB,bP,aO,bL,bj]at g s;obtain⟨⟨⟨⟨⟨⟨⟨_,bl⟩,U⟩,r⟩,l⟩,bn⟩,bi⟩,bk⟩:=g;simp[U,r,l]at s;omega
   simp[this]
  simp only[bI,Bool.and_eq_false_iff,bU,bj,aO]at s;obtain⟨⟨⟨ae,al⟩,an⟩,ap⟩:=s;rw[aT al,aT an,aM ap,show(decide (H.kind=18)||decide (H.kind=19))=true by simpa using ae]at d;simp[-List.length_take,-List.length_drop,i,u,W,aE,show c+1<=e by omega,show e<=f.w.dH.length by omega];have bs:((f.w.dH.drop (c+1)).take (e-(c+1))).length<=16:=dq;generalize(f.w.dH.drop (c+1)).take (e-(c+1))=n at*
  refine fc n.length dj (λy h g=>gu 4 g/\g.get 0=some (dy 16 0 [f.t])/\g.get 2=some (dy 7 1 [H.t])/\g.get 3=some (dy 7 1 [A.t])/\((n.drop y).all λo=> !decide (o.dN=A.dN))=(n.all λo=> !decide (o.dN=A.dN))/\dz h 1 (dw e)/\dz h 3 (.ptr 0 0 0 0)/\dz h 7 (.ptr 2 0 0 0)/\dz h 8 (.ptr 3 0 0 0)/\dz h 67 (sl (n.map dX.t))/\dz h 68 (dw n.length)/\dz h 69 (dw y)) ?_ ?_ dj ?_
  ·rintro y h g L V ⟨j,B,C,q,k,i,E,r,l,F,v,x⟩;have Y:=j.ne (b:=0) dj;have Z:=j.ne (b:=2) dj;have M:=j.ne (b:=3) dj;rw[aI L,cy]at k;simp[q,l,F,v,x,M,j.low,L];generalize n[y]=o at*
   refine dU (λm=> ?_) (λm=> ?_)
   ·rw[m]at k;rw[<-k]at d;simp at d;simp[d,j.hp]
   ·rw[m]at k;simp[i,E,r,l,F,v,x,V];exact⟨j.cons _,by simp[B,Y],by simp[C,Z],by simp[q,M],by simpa using k⟩
  ·rintro h g ⟨j,B,C,q,k,i,E,r,l,F,v,x⟩;rw[df]at k;rw[<-k]at d;simp at d;simp[B,q,i,E,l,v,x,O,aN,aX];refine dU (λm=> ?_) (λm=> ?_)
   ·rw[show decide (P.iv=3)=false by simpa using m]at d;simp at d;simp[d,j.hp]
   ·rw[show decide (P.iv=3)=true by simpa using m]at d;simp at d;simp[C,q,r,l,j.hp,d]
  ·simp[i]
def vH:f7:=⟨fI×Int×Int,λa=>[a.1.t,dw a.2.1,dw a.2.2],λa=>zv a.1/\iP a.2.1 a.1.w.dH.length=true/\iP a.2.2 a.1.w.dH.length=true,λa=> .bool (a.1.w.gx.Vy a.2.1 a.2.2),λa c b=>by simp at b;rw[fI.inj b.1,b.2.1,b.2.2]⟩
def N4:vH.Ok Tryz.prog cx 25:=by
 refine gH (tb:=⟨pt [],ht []⟩) ei eg (iL 18463641368405213903 [] Tryz.func25) (λ_=>100) (by simp[vH]) (by simp[vH,Tryz.f25]) ?_;rintro⟨g,a,b⟩ ⟨l,p,z⟩ h D;simp only at l p z;simp[vH]at D|-;obtain⟨C,u,v⟩:=D;obtain⟨i,a1,a2,a3,a4,a5⟩:=l.w.at p;obtain⟨V,B,X,I,Y,Z⟩:=l.w.at z;obtain⟨W,G,O,P,aA⟩:=l.st p;obtain⟨R,S,T,U⟩:=wL P a4;have d:=GX.Vy.eq_1 g.w.gx a b;rw[a3,I,O,U]at d;generalize g.w.gx.Vy a b=H at*
 obtain⟨c,rfl,al⟩:=kH.nat p;obtain⟨e,rfl,ap⟩:=kH.nat z;have av:=l.w.ok.len;rw[cC]at a1 B G;have L:=Ft g.w.gx (lo:=(c:Int)+1) (hi:=e) (a:=c+1) (b:=e) (GX.ye i.dN) dj rfl;rw[L,show g.w.gx.ev=g.w.dH from rfl]at d;have K:binop .add (dw (c:Int)) (dw 1)=some (dw ((c:Int)+1)):=gY dj dj;have Q:jT ((c:Int)+1)=some (c+1):=by have:=ed (show(0:Int)<=((c+1:Nat):Int)by omega);simpa using this
 by_cases an:c<e;rotate_left
 ·rw[aM (show¬(c:Int)<e by omega)]at d;simp[Tryz.f25,C,u,v,d,show e<=c by omega,a1]
 rw[aT (show(c:Int)<e by omega),bK]at d;simp[Tryz.f25,C,u,v,show¬e<=c by omega,a1,B,G,S,T];refine dU (λk=> ?_) (λk=> ?_)
 ·have:H=false:=by
   rw[d];cases M:decide (V.dN=i.dN)<;>cases N:R.atomic<;>simp[M,N]at k|-
  simp[this]
 simp only[bI,bU]at k;rw[k.1,k.2]at d;simp[-List.length_take,-List.length_drop,u,v,K,Q,show c+1<=e by omega,show e<=g.w.dH.length by omega];have ae:((g.w.dH.drop (c+1)).take (e-(c+1))).length<=16:=dq;generalize(g.w.dH.drop (c+1)).take (e-(c+1))=j at*
 refine fc j.length dj (λq h s=>gu 1 s/\(j.drop q).all (GX.ye i.dN)=j.all (GX.ye i.dN)/\dz h 7 (dw i.dN)/\dz h 50 (sl (j.map dX.t))/\dz h 51 (dw j.length)/\dz h 52 (dw q)) ?_ ?_ dj ?_
 ·rintro q h s F J ⟨m,f,y,x,n,o⟩;rw[aI F,cy]at f;simp[y,x,n,o,m.low,F];generalize j[q]=r at*
  have E:GX.ye i.dN r= !(decide (r.dN=i.dN)&&decide (r.kind=15)):=rfl;refine dU (λA=> ?_) (λA=> ?_)
  ·rw[E,A]at f;rw[<-f]at d;simp at d;simp[d,m.hp]
  ·rw[E,A]at f;simp[y,x,n,o,J];exact⟨m.cons _,by simpa using f⟩
 ·rintro h s ⟨m,f,y,x,n,o⟩;rw[df]at f;rw[<-f]at d;simp at d;simp[n,o,m.hp,d]
 ·simp
def sR:f7:=⟨fI×jo,λe=>[e.1.t,e.2.t],λe=>zv e.1/\iP e.2.a e.1.w.dH.length=true/\iP e.2.b e.1.w.dH.length=true/\iP e.2.c e.1.w.dH.length=true/\iP e.2.d e.1.w.dH.length=true,λe=> .bool (e.1.w.gx.Vs e.2.a e.2.b e.2.c e.2.d),λe g f=>by simp at f;rw[fI.inj f.1,jo.inj f.2]⟩
def Lj:sR.Ok Tryz.prog cx 52:=by
 refine gH (tb:=⟨pt [(87,qd)],ht []⟩) ei eg (iL 63 [] Tryz.func52) (λ_=>100) (by simp[sR]) (by simp[sR,Tryz.f52]) ?_;rintro⟨a,⟨E,b,c,d,f,F⟩⟩ ⟨g,h,o,i,j⟩ I n;simp only at g h o i j;simp[sR]at n|-;obtain⟨x,y⟩:=n;obtain⟨J,a1,a2,a3,a4,a5⟩:=g.w.at h;obtain⟨G,q,r,s,A,B⟩:=g.w.at i;obtain⟨H,t,u,v,C,D⟩:=g.w.at j;have m:=GX.Vs.eq_1 a.w.gx b c d f;have k:=λ{tb:fq} (ht:tb.p 87=some qd)=>AV ht a b d h i;have l:=λ{tb:fq} (ht:tb.p 87=some qd)=>AV ht a f c j o;rw[show qj a.w.dH b=a.w.gx.e b from rfl,show qj a.w.dH d=a.w.gx.e d from rfl]at k;rw[show qj a.w.dH f=a.w.gx.e f from rfl,show qj a.w.dH c=a.w.gx.e c from rfl]at l;generalize a.w.gx.Vs b c d f=z at*
 generalize kc (a.w.gx.e b) (a.w.gx.e d)=p1 at*
 generalize kc (a.w.gx.e f) (a.w.gx.e c)=p2 at*
 rw[a3,s,v]at m;simp[Tryz.f52,x,y,a1,a2,q,r,t,u,k,l,m]
def vD:f7:=⟨fI×List Int,λa=>[a.1.t,sl (a.2.map (T.int .i64))],λa=>zv a.1/\a.2.length<=1000000,λa=> .bool (a.1.w.gx.Mf a.1.w.gx.vf a.2),λa c b=>by simp at b;rw[fI.inj b.1,jt dp b.2]⟩
def Pj{d:fq}(ht:d.p 55=some qK)(a:fI)(c b:Int)(g:zv a)(e:iP c a.w.dH.length=true)(f:iP b a.w.dH.length=true):rl Tryz.prog cx d 55 [a.t,dw c,dw b]=some (.bool (a.w.gx.vf c b)):=gF ht Ll (a,c,b) ⟨g,e,f⟩
def NS:vD.Ok Tryz.prog cx 49:=by
 refine gH (tb:=⟨pt [(55,qK),(51,nS)],ht []⟩) ei eg (iL 2361217299907134620023 [] Tryz.func49) (λ_=>100) (by simp[vD]) (by simp[vD,Tryz.f49]) ?_;rintro⟨f,a⟩ ⟨C,a8⟩ g V;simp only at C a8;simp[vD]at V|-;obtain⟨aA,i⟩:=V;have bu:=C.w.ok.len;obtain⟨D,s⟩:∃D,f.w.gx.Mf f.w.gx.vf a=D:=⟨_,rfl⟩;rw[s];simp[Tryz.f49,aA,i,Fo,show a.length<=1099511627776 by omega];refine dU (λB=> ?_) (λB=> ?_)
 ·have:D=false:=by
   rw[<-s];simp only[bP,aO,bL]at B;rcases B with(h|h)|h
   ·exact nL dj
   ·exact nL dj
   ·unfold mg at h;rw[List.all_eq_false]at h;obtain⟨d,v,bk⟩:=h;obtain⟨b,ae,rfl⟩:=List.mem_iff_getElem.1 v;exact nL (.inr (.inr (.inl ⟨b,ae,by simp[List.getD,ae];exact(by simpa using bk:iP a[b] f.w.dH.length=false)⟩)))
  simp[this]
 simp only[bI,bU,bj]at B;obtain⟨⟨bz,bB⟩,an⟩:=B;have a6:2<=a.length:=dj;have a7:a.length<=4:=dj;have z:∀c (j:c<a.length),iP a[c] f.w.dH.length=true:=λc j=>by
  unfold mg at an;exact List.all_eq_true.1 an _ (aF j)
 have bi:∀c<a.length,iP (a.getD c 0) f.w.gx.ev.length=true:=λc j=>by simp[List.getD,j];exact z c j
 simp[i];generalize O:H.cons _ _=G;have U:G.get 0=some (dy 16 0 [f.t]):=by rw[<-O];simp
 have S:Hp G:=by rw[<-O];simp
 clear O;refine fc a.length dj (λb g h=>G=h/\(∀c<b,yf f.w.gx f.w.gx.vf a c=true)/\dz g 1 (sl (a.map (T.int .i64)))/\dz g 2 (.ptr 0 0 0 0)/\dz g 23 (sl (a.map (T.int .i64)))/\dz g 24 (dw a.length)/\dz g 25 (dw b)) ?_ ?_ dj ?_
 ·rintro b g _ A W ⟨rfl,P,i,l,r,n,o⟩;have R:∀c (j:c<a.length),a.getD c 0=a[c]:=λc j=>by simp[List.getD,j]
  have K:0<a.length:=dj;have al:=JA (b+1) a.length dj dj;have J:(b+1)% a.length<a.length:=Nat.mod_lt _ K;have u:yf f.w.gx f.w.gx.vf a b=(!decide (a[b]<a[0])&&f.w.gx.vf (a[(b+1)% a.length]'J) a[b]&&(List.range b).all λd=> !decide ((f.w.gx.e a[b]).dN=(f.w.gx.e (a.getD d 0)).dN)):=by unfold yf;rw[R _ A,R _ K,R _ J]
  generalize(b+1)% a.length=m at*
  have av:=λ{tb:fq} (ht:tb.p 55=some qK)=>Pj ht f a[m] a[b] C (z m J) (z b A);obtain⟨x,a1,a2,a3,a4,a5⟩:=C.w.at (z b A);rw[a3]at u;simp at al;have X:yf f.w.gx f.w.gx.vf a b=false->D=false:=λh=>by rw[<-s];exact nL (.inr (.inr (.inr ⟨b,A,h⟩)))
  simp[U,i,l,r,n,o,A,W,K,al,J,av];refine dU (λk=> ?_) (λk=> ?_)
  ·have:yf f.w.gx f.w.gx.vf a b=false:=by
    rw[u,cj];intro h;simp only[aB,bL,bj]at h;simp[h.1.2]at k;omega
   simp[X this,S]
  ·simp only[bI,bU,bj]at k;rw[k.2,aM k.1]at u;simp[-List.length_take,i,show b<=a.length by omega];obtain⟨q,N⟩:∃q,q=a.take b:=⟨_,rfl⟩;rw[<-N];have aX:q.length=b:=by rw[N];simp;omega
   have bl:∀d (v:d<q.length) (hl:d<a.length),q[d]=a[d]:=λd v hl=>by subst N;exact List.getElem_take
   refine fc b dj (λd g h=>G=h/\(∀c<d,decide (x.dN=(f.w.gx.e (a.getD c 0)).dN)=false)/\dz g 1 (sl (a.map (T.int .i64)))/\dz g 2 (.ptr 0 0 0 0)/\dz g 6 (dw a[b])/\dz g 23 (sl (a.map (T.int .i64)))/\dz g 24 (dw a.length)/\dz g 25 (dw b)/\dz g 51 (sl (q.map (T.int .i64)))/\dz g 52 (dw b)/\dz g 53 (dw d)) ?_ ?_ dj ?_
   ·rintro d g _ Z aN ⟨rfl,Q,i,l,M,r,n,o,L,E,F⟩;have I:d<a.length:=dj;obtain⟨y,bn,bs,ap,bC,bH⟩:=C.w.at (z d I);have Y:d<q.length:=dj;have aE:=bl d Y I;simp[U,l,M,L,E,F,Z,Y,aE,a1,a2,bn,bs];refine dU (λk=> ?_) (λk=> ?_)
    ·have:yf f.w.gx f.w.gx.vf a b=false:=by
      rw[u];simp;exact⟨d,Z,by simpa[I,ap]using k⟩
     simp[X this,S]
    ·simp[i,l,M,r,n,o,L,E,F,aN];intro c j;rcases aD c d with h|h
     ·simpa using Q c h
     ·rw[show c=d by omega];simp[I,ap];simpa using k
   ·rintro g _ ⟨rfl,Q,i,l,M,r,n,o,L,E,F⟩;simp[i,l,r,n,o,E,F,W];intro c j;rcases aD c b with h|h
    ·exact P c h
    ·rw[show c=b by omega,u];simp;intro d v;simpa using Q d v
   ·simp[i,l,r,n,o,aX]
 ·rintro g _ ⟨rfl,P,i,l,r,n,o⟩;rw[Hf a6 a7 bi P]at s;simp[n,o,s.symm,S]
 ·simp[i]
def kH.cells{a:eK}(g:kH a):FF a:=λd h e=>by
 obtain⟨i,f⟩:=cN h;have hl:i<a.dH.length:=(List.getElem?_eq_some_iff.1 f).1;obtain⟨k,b,l,m,n,c⟩:=g.at (i:=i) (ff.2 ⟨dj,by simpa using hl⟩);rw[cC,f]at b;simp only[ar]at b;subst b;have j:d.kind=3\/d.kind=4:=by unfold vj at e;simpa using e
 unfold jy at c;rw[ao dj,aq j]at c;exact c
def Ho{f:fq}(ht:f.p 51=some nS)(a:fI)(b c d e:Int):rl Tryz.prog cx f 51 [a.t,sl [dw b,dw c,dw d,dw e]]=some (.bool (iP b a.w.dH.length&&iP c a.w.dH.length&&iP d a.w.dH.length&&iP e a.w.dH.length)):=by
 have:=Fo ht a [b,c,d,e] dp;simpa[mg,Bool.and_assoc]using this
def MO{a:fI}(d:zv a)(b c:Int):zO a.w b c=((iP b a.w.dH.length&&iP c a.w.dH.length)&&a.w.gx.Qp b c):=by
 unfold zO GX.Qp GX.e eK.gx;cases iP b a.w.dH.length<;>cases iP c a.w.dH.length<;>simp
 ac_rfl
def vq:f7:=⟨fI×jo,λa=>[a.1.t,a.2.t],λa=>zv a.1/\a.2.kF.length<=1000000,λa=> .bool (a.1.w.gx.vG a.2),λa c b=>by simp at b;rw[fI.inj b.1,jo.inj b.2]⟩
def No:vq.Ok Tryz.prog cx 23:=by
 refine gH (tb:=⟨pt [(48,wN),(49,vD),(50,yI),(51,nS),(25,vH),(52,sR)],ht []⟩) ei eg (iL 2417851783344448572752095 [] Tryz.func23) (λ_=>100) (by simp[vq]) (by simp[vq,Tryz.f23]) ?_;rintro⟨f,e⟩ ⟨i,u⟩ F s;simp only at i u;simp[vq]at s|-;obtain⟨k,l⟩:=s;have g:=GX.vG.eq_1 f.w.gx e;simp only[show∀v,f.w.gx.Ae v=iP v f.w.dH.length from λ_=>rfl]at g;generalize f.w.gx.vG e=E at*
 cases h:decide (e.kind=1)with
 |true=>
  rw[aq (by simpa using h)]at g;have n:∀{tb:fq},tb.p 48=some wN->rl Tryz.prog cx tb 48 [f.t,dw e.a,dw e.b]=some (.bool ((iP e.a f.w.dH.length&&iP e.b f.w.dH.length)&&f.w.gx.Qp e.a e.b)):=λht=>by rw[<-MO i];exact Vl ht f e.a e.b i.w.cells
  simp[Tryz.f23,k,l,h,n,g]
  try ac_rfl
 |false=>
  rw[ao (by simpa using h)]at g;cases j:decide (e.kind=2)with
  |true=>
   rw[aq (by simpa using j)]at g;have n:∀{tb:fq},tb.p 49=some vD->rl Tryz.prog cx tb 49 [f.t,sl (e.kF.map (T.int .i64))]=some (.bool (f.w.gx.Mf f.w.gx.vf e.kF)):=λht=>gF ht NS (f,e.kF) ⟨i,u⟩;simp[Tryz.f23,k,l,h,j,n,g,GX.dead]
  |false=>
   rw[ao (by simpa using j)]at g;cases m:decide (e.kind=3)with
   |true=>
    rw[aq (by simpa using m)]at g;have n:∀{tb:fq},tb.p 50=some yI->rl Tryz.prog cx tb 50 [f.t,dw e.a,dw e.b]=some (.bool ((iP e.a f.w.dH.length&&iP e.b f.w.dH.length)&&f.w.gx.PZ e.a e.b)):=λht=>gF ht QD (f,e.a,e.b) i;simp[Tryz.f23,k,l,h,j,m,n,g]
    try ac_rfl
   |false=>
    rw[ao (by simpa using m)]at g;cases o:decide (e.kind=4)with
    |false=>
     rw[ao (by simpa using o)]at g;simp[Tryz.f23,k,l,h,j,m,o,g]
    |true=>
     rw[aq (by simpa using o)]at g;cases q:(iP e.a f.w.dH.length&&iP e.b f.w.dH.length&&iP e.c f.w.dH.length&&iP e.d f.w.dH.length)with
     |false=>
      rw[q]at g;cases r:decide (e.kF=[])<;>simp[Tryz.f23,k,l,h,j,m,o,Ho,fW,q,g,r]
     |true=>
      rw[q]at g;have z:=q;simp only[aB]at z;obtain⟨⟨⟨x,y⟩,C⟩,D⟩:=z;have A:∀{tb:fq},tb.p 25=some vH->rl Tryz.prog cx tb 25 [f.t,dw e.a,dw e.b]=some (.bool (f.w.gx.Vy e.a e.b)):=λht=>gF ht N4 (f,e.a,e.b) ⟨i,x,y⟩;have B:∀{tb:fq},tb.p 52=some sR->rl Tryz.prog cx tb 52 [f.t,e.t]=some (.bool (f.w.gx.Vs e.a e.b e.c e.d)):=λht=>gF ht Lj (f,e) ⟨i,x,y,C,D⟩;cases r:decide (e.kF=[])<;>simp[Tryz.f23,k,l,h,j,m,o,Ho,fW,q,A,B,g,r]
def Ry{c:fq}(ht:c.p 23=some vq)(b:fI)(a:jo)(d:zv b)(hl:a.kF.length<=1000000):rl Tryz.prog cx c 23 [b.t,a.t]=some (.bool (b.w.gx.vG a)):=gF ht No (b,a) ⟨d,hl⟩
structure P7 where
 (v:T) (es:List T)
def zR(e:Nat)(a:P7)(c:List T)(b:H):Prop:=c=[a.v]/\b.jc a.v=some a.es/\(∀d∈a.es,d.cells.length=e)/\a.es.length<=1000000/\gu 0 b
def uP(f:Nat)(e:P7)(g:List T)(b:H)(d:T)(c:H):Prop:=Gr c d f e.es/\Nb b c/\∀a,dL d=some a->b.size<=a
def xh{a bytes:Nat}{l:aj}(x:CA Tryz.prog cx l (.clone a bytes))(v:1<=bytes)(w:bytes<=1000):(jp P7 (zR a) (uP a)).Ok Tryz.prog cx l:=by
 intro i b ⟨⟨p,e⟩,y⟩;have n:∀h:P7,zR a h i b->∃d c,Bn (.clone a bytes) i b=some (d,c)/\uP a h i b d c:=by
  rintro⟨p,e⟩ ⟨rfl,g,m,hl,o⟩;simp only at g m hl;show∃d c,(dJ (b.jc p) λe=>List.casesOn e (some (dx,b)) λ_ _=>b.iU a bytes [] e)=some (d,c)/\_;rw[g,dO];cases e with
  |nil=>exact⟨_,_,rfl,Gr.nil _ _,Nb.refl o,λr j=>by simp at j⟩
  |cons F E=>
   refine⟨_,_,om m v (aS (Nat.mul_le_mul hl w) dj),Gr.new (ep:=0) (ver:=0) (ex:=false) dp,(Nb.refl o).cons _,λr j=>by simp at j;omega⟩
 obtain⟨d,c,k,C⟩:=n _ y;refine⟨d,c,λh g=> ?_,λq A B s z u=>x _ _ _ _ k q A B s z u⟩;obtain⟨r2,D,f,t⟩:=n h g;rw[k]at f;simp only[ar,ay]at f;rw[f.1,f.2];exact t
def NZ:(jp P7 (zR 1) (uP 1)).Ok Tryz.prog cx 54:=xh (u7 (fn:=Tryz.f54) (t:=38) (tb:=4) (te:=FI) eg Tryz.func54 (by kernel_rfl) (by kernel_rfl) (by kernel_rfl) (by kernel_rfl) (by kernel_rfl) (by kernel_rfl) (by kernel_rfl)) du (bytes:=8) du 
def N0:(jp P7 (zR 1) (uP 1)).Ok Tryz.prog cx 125:=xh (u7 (fn:=Tryz.f125) (t:=33) (tb:=4) (te:=Xo) eg Tryz.func125 (by kernel_rfl) (by kernel_rfl) (by kernel_rfl) (by kernel_rfl) (by kernel_rfl) (by kernel_rfl) (by kernel_rfl)) du (bytes:=1) du 
def NW:(jp P7 (zR 3) (uP 3)).Ok Tryz.prog cx 126:=xh (u7 (fn:=Tryz.f126) (t:=34) (tb:=4) (te:=zG) eg Tryz.func126 (by kernel_rfl) (by kernel_rfl) (by kernel_rfl) (by kernel_rfl) (by kernel_rfl) (by kernel_rfl) (by kernel_rfl)) du (bytes:=24) du 
def LkG(f:H)(d:Nat->Prop)(e:T)(c:dS):Prop:=∃a,e= .agg [dw c.iF,a]/\Gr f a 1 (ge c.d8)/\∀b,dL a=some b->d b
def LkD(b:List T):Prop:=∀(c d:Nat) (e f g h:T) (a:Nat),b[c]? =some (.agg [g,e])->b[d]? =some (.agg [h,f])->dL e=some a->dL f=some a->c=d
def SP(c:fg)(j:List T)(h:H)(i:T)(b:H):Prop:=∃d e f g,i=Mq c d e f/\AB h.size b.size b d e f g c/\Nb h b/\io (LkG b λa=>h.size<=a/\a<b.size/\dL d≠some a/\dL e≠some a/\dL f≠some a) g c.dV/\LkD g
structure ClO(S:fg)(h h':H)(i:Nat)(es:List T)(ver:Nat):Prop where
 nb:Nb h h'
 z:h.size+3<=h'.size
 b0:h'.get h.size=some (dy 4 0 [S.t])
 b1:h'.get (h.size+1)=some (dy 4 0 [.agg [dx,dw 0,dx,dx]])
 b2:h'.get (h.size+1+1)=some ⟨2,0,ver,true,false,es⟩
 l:es.length=S.dV.length
 c:∀e∈es,∃x y,e= .agg [x,y]
 d:LkD es
 bd:∀(j:Nat) (o x:T) (c:Nat),es[j]? =some (.agg [o,x])->dL x=some c->c<h'.size
 a:io (LkG h' λk=>h.size+3<=k/\k<h'.size) (es.take i) (S.dV.take i)
def NY:(jp fg DB SP).Ok Tryz.prog cx 80:=by
 refine jk (tb:=⟨pt [],ht [(54,jp P7 (zR 1) (uP 1)),(125,jp P7 (zR 1) (uP 1)),(126,jp P7 (zR 3) (uP 3))]⟩) ei eg (iL 30783 [(5,[(3,6)])] Tryz.func80) (λ_ _=>1000005) (λl a d c7=>by obtain⟨rfl,_⟩:=c7;simp[Tryz.f80]) ?_;rintro f _ d ⟨rfl,dk,hl,ec,ht,hr⟩ z b6;simp at b6;have ca:=dk.hr;simp[Tryz.f80,b6,show f.dV.length*32<=70368744177664 by omega];refine fc f.dV.length dj (λl z i=>∃v ver,ClO f d i l v ver/\dz z 1 (.ptr d.size 0 0 0)/\dz z 2 (.ptr (d.size+1) 0 0 0)/\dz z 3 (.arr (d.size+1+1) 0 0 f.dV.length false)/\dz z 11 (sl (f.dV.map dS.t))/\dz z 12 (dw f.dV.length)/\dz z 13 (dw l)) ?_ ?_ dj ?_
 ·rintro l z i aN c4 ⟨v,ver,⟨x,dd,Z,a7,a8,aE,bz,bB,aA,Y⟩,S,bu,ap,bs,al,an⟩;have a6:gu 0 i:=⟨x.ok.hp,x.ok.low,aw _⟩;have ef:=hr f.dV[l] (aF aN);have c9:f.dV.take (l+1)=f.dV.take l++[f.dV[l]]:=aU aN;obtain⟨ea,eb,c6⟩:=bz v[l] (aF dj);have eh:(d.size+1+1=i.size)=False:=dq;have di:=a6.low;simp[ap,bs,al,an,aN,di];generalize f.dV[l]=w at*
  have bN:=a6.cons (dy 2 1 [w.t]);refine lJ NZ dp ⟨sl (ge w.d8),ge w.d8⟩ ⟨rfl,dp,by simp[T.cells],dq,bN⟩ ?_;rintro r L ⟨G,y,av⟩;simp only at G;have ds:=y.ok.sz;simp at ds;have aX:L.get (d.size+1+1)=some ⟨2,0,ver,true,false,v⟩:=(y.get (d.size+1+1) dq).trans (by rw[dM,ao dj];exact a8);have eo:ew (i.cons (dy 2 1 [w.t])) L (d.size+1+1)=true:=eZ (y.get _ dq);have dn:ew (i.cons (dy 2 1 [w.t])) L i.size=true:=eZ (y.get _ dp);simp[S,bu,ap,bs,al,an,G.gD,G.cells,aX,dn,aN,aE,c6,dP,c4];have ae:∀c,c<i.size->c≠d.size+1+1->(dQ L (d.size+1+1) ⟨2,0,ver+1,true,false,v.set l (.agg [dw w.iF,r])⟩).get c=i.get c:=λc e M=>by
   rw[dE aX,ao M];exact(y.get c dq).trans (by rw[dM,ao dj])
  have dv:=x.ok.sz;refine⟨v.set l (.agg [dw w.iF,r]),ver+1,⟨⟨(⟨y.ok.hp,y.ok.low,aw _⟩:gu 0 L).put _ _|>.hp,(⟨y.ok.hp,y.ok.low,aw _⟩:gu 0 L).put _ _|>.low,dq⟩,λc e=>(ae c dj dj).trans (x.get c e)⟩,dq,(ae _ dj dj).trans Z,(ae _ dj dj).trans a7,by rw[dE aX,aq rfl],by simpa using aE,λC D=> ?_,?_,?_,?_⟩
  ·rcases bV D with q|q
   ·exact bz C q
   ·exact⟨_,_,q⟩
  ·intro N k B g o b9 c h A j p;rw[bQ]at h A;split at h<;>split at A
   ·omega
   ·split at h
    ·simp only[ar,T.agg.injEq,aJ,and_true]at h;have:=av c (by rw[h.2];exact j);have:=aA k _ _ c A p;simp at*;omega
    ·simp at h
   ·split at A
    ·simp only[ar,T.agg.injEq,aJ,and_true]at A;have:=av c (by rw[A.2];exact p);have:=aA N _ _ c h j;simp at*;omega
    ·simp at A
   ·exact bB N k B g o b9 c h A j p
  ·intro N o B c h j;rw[bQ]at h;rw[fG];split at h
   ·split at h
    ·simp only[ar,T.agg.injEq,aJ,and_true]at h;obtain⟨_,_,_,_,p,_⟩:=G.box (b:=c) (by rw[h.2];exact j);exact H.ej p
    ·simp at h
   ·have:=aA N _ _ c h j;omega
  ·rw[c9,aU dq];refine io.append ?_ (.cons ?_ .nil)
   ·rw[List.take_set_of_le (au _)];exact Y.imp λC m ⟨X,P,Q,u⟩=>⟨X,P,Q.mono λc e=>ae c (u c e).2 (by have:=(u c e).1;omega),λc e=>⟨(u c e).1,by have:=(u c e).2;simp;omega⟩⟩
   ·simp only[List.getElem_set_self];refine⟨r,rfl,(G.mono λc e=>by rw[dE aX,ao (by have:=av c e;simp at this;omega)]),λc e=>⟨by have:=av c e;simp at this;omega,?_⟩⟩;obtain⟨_,_,_,_,p,_⟩:=G.box e;have:=H.ej p;simpa using this
 ·rintro z i ⟨v,ver,⟨x,dd,Z,a7,a8,aE,bz,bB,aA,Y⟩,S,bu,ap,bs,al,an⟩;have a6:gu 0 i:=⟨x.ok.hp,x.ok.low,aw _⟩;have bl:∀g c,(dQ i d.size g).get c=if c=d.size then some g else i.get c:=λg c=>dE Z g c;simp[S,ap,al,an,Z,bl];obtain⟨J,U⟩:∃J,J=dQ i d.size (dy 4 1 [.agg [.arr (d.size+1+1) 0 0 f.dV.length false,dw f.tx,sl (f.done.map T.bool),sl (f.dB.map dD.t)]]):=⟨_,rfl⟩;have er:J.size=i.size:=by rw[U];simp
  have dm:gu 0 J:=by rw[U];exact a6.put _ _
  have gA:∀c,c≠d.size->J.get c=i.get c:=λc e=>by rw[U,bl,ao e]
  have cL:J.get d.size=some (dy 4 1 [.agg [.arr (d.size+1+1) 0 0 f.dV.length false,dw f.tx,sl (f.done.map T.bool),sl (f.dB.map dD.t)]]):=by rw[U,bl,aq rfl]
  rw[<-U];refine gJ N0 dp ⟨sl (f.done.map T.bool),f.done.map T.bool⟩ ⟨rfl,dp,by intro C D;obtain⟨b,_,rfl⟩:=List.mem_map.1 D;rfl,dq,dm⟩ ?_;rintro F s ⟨R,O,cb⟩;simp only at R;have et:=O.ok.sz;have b7:=(O.get d.size dj).trans cL;have bn:∀g c,(dQ s d.size g).get c=if c=d.size then some g else s.get c:=λg c=>dE b7 g c;simp[S,R.gD,R.cells,b7,bn,dP];obtain⟨K,V⟩:∃K,K=dQ s d.size (dy 4 2 [.agg [.arr (d.size+1+1) 0 0 f.dV.length false,dw f.tx,F,sl (f.dB.map dD.t)]]):=⟨_,rfl⟩;have eu:K.size=s.size:=by rw[V];simp
  have bN:gu 0 K:=by rw[V];exact(⟨O.ok.hp,O.ok.low,aw _⟩:gu 0 s).put _ _
  have bk:∀c,c≠d.size->K.get c=s.get c:=λc e=>by rw[V,bn,ao e]
  have c1:K.get d.size=some (dy 4 2 [.agg [.arr (d.size+1+1) 0 0 f.dV.length false,dw f.tx,F,sl (f.dB.map dD.t)]]):=by rw[V,bn,aq rfl]
  rw[<-V];refine gJ NW dp ⟨sl (f.dB.map dD.t),f.dB.map dD.t⟩ ⟨rfl,dp,by intro C D;obtain⟨b,_,rfl⟩:=List.mem_map.1 D;rfl,dq,bN⟩ ?_;rintro W n ⟨gT,E,ce⟩;simp only at gT;have ey:=E.ok.sz;have NR:gu 0 n:=⟨E.ok.hp,E.ok.low,aw _⟩;have b8:=(E.get d.size dj).trans c1;have de:n.get (d.size+1)=_:=(E.get (d.size+1) dj).trans ((bk _ dj).trans ((O.get _ dj).trans ((gA _ dj).trans a7)));have bT:∀g c,(dQ n d.size g).get c=if c=d.size then some g else n.get c:=λg c=>dE b8 g c;have I:∀g B c,(dQ (dQ n d.size g) (d.size+1) B).get c=if c=d.size+1 then some B else if c=d.size then some g else n.get c:=λg B c=>by
   rw[md (by simp[NR.hp]) dq,bT]
  simp[S,bu,gT.gD,gT.cells,b8,de,bT,I,dP];rw[bF dj,aL]at Y;have bi:∀c,c<i.size->c≠d.size->n.get c=i.get c:=λc e M=>(E.get c dj).trans ((bk c M).trans ((O.get c dj).trans (gA c M)));have cp:∀c,c<s.size->c≠d.size->n.get c=s.get c:=λc e M=>(E.get c dj).trans (bk c M);have dv:=x.ok.sz;have bC:∀c,dL F=some c->i.size<=c/\c<s.size:=λc e=>⟨by have:=cb c e;omega,by obtain⟨_,_,_,_,p,_⟩:=R.box e;exact H.ej p⟩;have bH:∀c,dL W=some c->s.size<=c/\c<n.size:=λc e=>⟨by have:=ce c e;omega,by obtain⟨_,_,_,_,p,_⟩:=gT.box e;exact H.ej p⟩;have bS:io (LkG (lA d (dQ (dQ n d.size (dy 4 3 [.agg [.arr (d.size+1+1) 0 0 f.dV.length false,dw f.tx,F,W]])) (d.size+1) (dy 4 1 [.agg [.arr (d.size+1+1) 0 0 f.dV.length false,dw f.tx,F,W]]))) λc=>d.size<=c/\c<n.size/\dL (.arr (d.size+1+1) 0 0 f.dV.length false)≠some c/\dL F≠some c/\dL W≠some c) v f.dV:=Y.imp λC w ⟨X,P,Q,u⟩=>⟨X,P,Q.mono λc e=>by
   have:=u c e;rw[fK,I,ao dj,ao dj,bi _ dj dj],λc e=>by
   have:=u c e;exact⟨dj,dj,dq,λq=>by have:=bC c q;omega,λq=>by have:=bH c q;omega⟩⟩
  refine⟨.arr (d.size+1+1) 0 0 f.dV.length false,F,W,v,rfl,⟨?_,R.mono λc e=> ?_,gT.mono λc e=> ?_,bS.imp λC w ⟨X,P,Q,u⟩=>⟨X,P,.inr Q,by simpa using u⟩,λc e=> ?_⟩,⟨⟨?_,?_,?_⟩,λc e=> ?_⟩,by simpa using bS,bB⟩
  ·rw[<-aE];exact Gr.new (ep:=0) (ver:=ver) (ex:=true) (by rw[fK,I,ao dj,ao dj,bi _ dj dj];exact a8)
  ·have:=bC c e;rw[fK,I,ao dj,ao dj,cp _ dj dj]
  ·have:=bH c e;rw[fK,I,ao dj,ao dj]
  ·simp;rcases e with q|q|q
   ·simp at q;omega
   ·have:=bC c q;omega
   ·have:=bH c q;omega
  ·exact(((NR.put _ _).put _ _).out d).hp
  ·exact(((NR.put _ _).put _ _).out d).low
  ·simp;omega
  ·rw[fK,I,ao dj,ao dj,bi _ dj dj];exact x.get c e
 ·simp;refine⟨List.replicate f.dV.length (.agg [dw 0,dx]),0,⟨(((Nb.refl ca).cons _).cons _).cons _|>.ok,λc e=>(((((Nb.refl ca).cons _).cons _).cons _).get c e).trans (fX d c)⟩,dp,dp,dp,dp,dp,λC D=>⟨_,_,(bO D)⟩,?_,?_,.nil⟩
  ·intro N k B g o b9 c h _ j _;have:=bO (ax h);simp only[T.agg.injEq,aJ,and_true]at this;rw[this.2]at j;simp at j
  ·intro N o B c h j;have:=bO (ax h);simp only[T.agg.injEq,aJ,and_true]at this;rw[this.2]at j;simp at j
end
end Go.Proofs.YtmaeadedikngoaaGreatDoor
