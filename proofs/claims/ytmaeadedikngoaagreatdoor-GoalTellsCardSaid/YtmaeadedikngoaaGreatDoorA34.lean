/- Texts X13 to WGc. -/
import Derived.Test.YtmaeadedikngoaaGreatDoorA32
import Derived.Test.YtmaeadedikngoaaGreatDoorA33
set_option linter.all false
set_option maxRecDepth 100000
set_option maxHeartbeats 8000000
namespace Go.Proofs.YtmaeadedikngoaaGreatDoor
noncomputable section
open Go Go.TI
attribute [-simp] List.map_take List.map_drop List.map_append fG fg ei Bool.not_or Bool.not_and
attribute [simp] fF fh
def byV(a:Int):Prop:=0<=a/\a<256
structure Rg(v:mD):Prop where
 p:okB v.program
 q:okB v.schedule
 s:okB v.Eo
 z:byV v.size
 w:byV v.uZ
def OS:nO Tryz.prog cx 8 (λb:mD=>[b.t,dE 16]) Rg (λ_=>TV):=by
 refine jt (tb:=⟨pt [(18,Fw.jv),(19,Ew.jv),(20,EA.jv)],ht []⟩) fa eQ (iR 17592186046583 [(3,[(9,10)])] Tryz.func8) (λ_=>105) (λa U n=>by simp at n;exact mD.inj n) dA (by simp[Tryz.f8]) ?_;rintro b d ae r;simp at r;obtain⟨F,o⟩:=r;obtain⟨T,an⟩:=d.z;obtain⟨R,al⟩:=d.w;obtain⟨_,⟨B,rfl,G⟩,h⟩:=Fw.use (b.Eo,(1+b.size% 16).toNat) ⟨d.s,dC⟩;obtain⟨_,⟨i,rfl,H⟩,l⟩:=Fw.use ([],0) ⟨⟨dA,dA⟩,dA⟩;obtain⟨_,⟨Q,rfl,D,hl⟩,eT⟩:=Ew.use (b.program,b.schedule.take (min b.schedule.length 80)) ⟨d.p,⟨by have:=d.q.1;simp;omega,λS P=>d.q.2 S (bF P)⟩,dB⟩;obtain⟨_,⟨c,V,rfl,O⟩,g⟩:=EA.use (Q,(1+b.size% 16).toNat) ⟨D,dC,dC,dC⟩;simp only at eT g h l;rw[show(((1+b.size% 16).toNat:Nat):Int)=1+b.size% 16 by omega]at g h;have N:∀e:Int,0<=e->e<1000->IntKind.i64.wrap e=e:=λe Y Z=>by rw[<-jF,jI dz dz]
 have m:b.size.tmod 16=b.size% 16:=Int.tmod_eq_emod_of_nonneg T;have y: -9223372036854775808<=b.size:=dz;have A:b.size<9223372036854775808:=dz;have x:=DD (k:= .i64) (a:=b.size) (show¬(16:Int)=0 by omega);have j:=N (1+b.size% 16) dz dz;simp[Tryz.f8,F];refine ee (λM=> ?_) (λM=> ?_)
 ·simp[o,y,A,x,ou,m,j,h];exact⟨B,rfl,G⟩
 obtain⟨k,I,J⟩:∃k:Nat,min (b.schedule.length:Int) 80=k/\k=min b.schedule.length 80:=⟨_,dz,rfl⟩;rw[<-J]at eT;simp[o,I,show k<=b.schedule.length by omega,eT,y,A,x,ou,m,j,g];refine ee (λu=> ?_) (λu=> ?_)
 ·have C:=λ{tb:fJ} (ht:tb.p 18=some Fw.jv)=>(show rl Tryz.prog cx tb 18 [.gu,dE 0]=some i.t from l ht);simp[C];exact⟨i,rfl,H⟩
 have K:c≠ []:=by simpa using u
 have W:0<c.length:=by rcases c with _|_<;>simp at K|-
 have E:b.uZ.tmod (c.length:Int)=b.uZ% (c.length:Int):=Int.tmod_eq_emod_of_nonneg R;have L:0<=b.uZ% (c.length:Int):=Int.emod_nonneg _ dz;have X:b.uZ% (c.length:Int)<c.length:=Int.emod_lt_of_pos _ dz;obtain⟨f,v⟩:∃f,c[(b.uZ% (c.length:Int)).toNat]? =some f:=⟨_,az dz⟩;simp[show-9223372036854775808<=b.uZ by omega,show b.uZ<9223372036854775808 by omega,DD (show¬(c.length:Int)=0 by omega),E,eK L,v];exact⟨f,rfl,O f (ax v)⟩
end
noncomputable section
open Go Go.TI
attribute [-simp] List.map_take List.map_drop List.map_append
@[simp] theorem QV (a:List T):dS (sl a)=none:=by cases a<;>rfl
def sv(a b:aa iZ):Bool:=match a,b with|none,_=>true|some _,none=>false|some a,some b=>decide (a.ver=b.ver)
@[simp] theorem acf (a b:iZ):sv (some a) (some b)=decide (a.ver=b.ver):=id rfl
def kU(b c:H)(a:Nat):fc b c a=sv (b.get a) (c.get a):=by
 unfold fc sv;cases b.get a with
 |none=>rfl
 |some d=>cases c.get a<;>simp
def B5:hU:=⟨Int×Nat,λa=>[dE a.1,dE a.2],λa=>True,λa=> .bool (je a.1 a.2),λa c b=>by simp at b;rw[b.1,show a.2=c.2 by omega]⟩
def VX:B5.Ok Tryz.prog cx 31:=by
 refine iv (tb:=⟨pt [],ht []⟩) fa eQ (iR 19 [] Tryz.func31) (λf=>1) (by simp[B5]) (by simp[B5,Tryz.f31]) ?_;rintro⟨e,g⟩ _ h a;simp[B5]at a|-;obtain⟨b,c⟩:=a;by_cases d:0<=e<;>simp[Tryz.f31,b,c,d,je]
def UY{c:fJ}(ht:c.p 31=some B5)(a:Int)(b:Nat):rl Tryz.prog cx c 31 [dE a,dE b]=some (.bool (je a b)):=im ht VX (a,b) trivial
def zO:hU:=⟨ez,λa=>[a.t],λa=>True,λa=> .bool (mo a),λa c b=>by simp at b;rw[ez.inj b]⟩
def Sp:zO.Ok Tryz.prog cx 28:=by
 refine iv (tb:=⟨pt [],ht []⟩) fa eQ (iR 7 [] Tryz.func28) (λd=>1) (by simp[zO]) (by simp[zO,Tryz.f28]) ?_;rintro(b:ez) _ e a;simp[zO]at a|-;by_cases c:b.kind=3<;>simp[Tryz.f28,a,c,mo]
def Gz{b:fJ}(ht:b.p 28=some zO)(a:ez):rl Tryz.prog cx b 28 [a.t]=some (.bool (mo a)):=im ht Sp a trivial
def V3:zO.Ok Tryz.prog cx 131:=by
 refine iv (tb:=⟨pt [],ht []⟩) fa eQ (iR 7 [] Tryz.func131) (λd=>1) (by simp[zO]) (by simp[zO,Tryz.f131]) ?_;rintro(b:ez) _ e a;simp[zO]at a|-;by_cases c:b.kind=3<;>simp[Tryz.f131,a,c,mo]
def QT{b:fJ}(ht:b.p 131=some zO)(a:ez):rl Tryz.prog cx b 131 [a.t]=some (.bool (mo a)):=im ht V3 a trivial
def wn:hU:=⟨Int,λa=>[dE a],λa=>True,λa=> .bool (qr a),λa c b=>by simp at b;rw[b]⟩
def OR:wn.Ok Tryz.prog cx 88:=by
 refine iv (tb:=⟨pt [],ht []⟩) fa eQ (iR 29 [] Tryz.func88) (λh=>1) (by simp[wn]) (by simp[wn,Tryz.f88]) ?_;rintro(b:Int) _ i a;simp[wn]at a|-;by_cases c:b=6
 ·simp[Tryz.f88,a,c,qr]
 by_cases d:b=8
 ·simp[Tryz.f88,a,d,qr]
 by_cases e:b=10
 ·simp[Tryz.f88,a,e,qr]
 by_cases f:b=17
 ·simp[Tryz.f88,a,f,qr]
 by_cases g:b=21<;>simp[Tryz.f88,a,c,d,e,f,g,qr]
def Tm{b:fJ}(ht:b.p 88=some wn)(a:Int):rl Tryz.prog cx b 88 [dE a]=some (.bool (qr a)):=im ht OR a trivial
def xG:hU:=⟨ez×ez,λa=>[a.1.t,a.2.t],λa=>True,λa=> .bool (kC a.1 a.2),λa c b=>by simp at b;rw[ez.inj b.1,ez.inj b.2]⟩
def MI:xG.Ok Tryz.prog cx 61:=by
 refine iv (tb:=⟨pt [(28,zO)],ht []⟩) fa eQ (iR 31 [] Tryz.func61) (λa=>1) (by simp[xG]) (by simp[xG,Tryz.f61]) ?_;rintro⟨a,e⟩ _ j f;simp[xG]at f|-;obtain⟨b,c⟩:=f;cases d:mo a with
 |false=>simp[Tryz.f61,b,c,Gz,d,kC]
 |true=>
  cases g:mo e with
  |false=>simp[Tryz.f61,b,c,Gz,d,g,kC]
  |true=>
   cases h:decide (a.obj=e.obj)<;>cases i:decide (a.kind=4)<;>simp[Tryz.f61,b,c,Gz,d,g,h,i,kC]
def De{c:fJ}(ht:c.p 61=some xG)(a b:ez):rl Tryz.prog cx c 61 [a.t,b.t]=some (.bool (kC a b)):=im ht MI (a,b) trivial
def qT:hU:=⟨fI×Int×Int,λa=>[a.1.t,dE a.2.1,dE a.2.2],λa=>je a.2.1 a.1.w.dO.length=true/\je a.2.2 a.1.w.dO.length=true,λa=> .bool (kC (qz a.1.w.dO a.2.1) (qz a.1.w.dO a.2.2)),λa c b=>by simp at b;rw[fI.inj b.1,b.2.1,b.2.2]⟩
def Pu:qT.Ok Tryz.prog cx 87:=by
 refine iv (tb:=⟨pt [(131,zO)],ht []⟩) fa eQ (iR 463 [(1,[(8,14),(10,14),(11,14)])] Tryz.func87) (λb=>1) (by simp[qT]) (by simp[qT,Tryz.f87]) ?_;rintro⟨m,p,q⟩ c t a;simp[qT]at c a|-;obtain⟨e,f,g⟩:=a;obtain⟨b,a,n⟩:=iI c.1;obtain⟨d,h,o⟩:=iI c.2;have i:=eK (fq.1 c.1).1;have j:=eK (fq.1 c.2).1;rw[show qz m.w.dO p=b by simp[qz,n],show qz m.w.dO q=d by simp[qz,o]];cases k:mo b with
 |false=>simp[Tryz.f87,e,f,g,i,j,a,h,QT,kU,k,kC]
 |true=>
  cases l:mo d with
  |false=>simp[Tryz.f87,e,f,g,i,j,a,h,QT,kU,k,l,kC]
  |true=>
   cases r:decide (b.obj=d.obj)<;>cases s:decide (b.kind=4)<;>simp[Tryz.f87,e,f,g,i,j,a,h,QT,kU,k,l,r,s,kC]
def BF{d:fJ}(ht:d.p 87=some qT)(a:fI)(b c:Int)(e:je b a.w.dO.length=true)(f:je c a.w.dO.length=true):rl Tryz.prog cx d 87 [a.t,dE b,dE c]=some (.bool (kC (qz a.w.dO b) (qz a.w.dO c))):=im ht Pu (a,b,c) ⟨e,f⟩
end
noncomputable section
open Go Go.TI
def Ad{d:f6->Bool}{b c:f6}(a:c∈iN d b):c=b/\d b=true:=by
 unfold iN at a;split at a
 ·simp at a;exact⟨a,by assumption⟩
 ·simp at a
def MW{e:GX}{c:f6}(h:c∈e.nV):
 (∃a b,c=gR a b/\e.vR c=true)\/(∃a f,c=gC f/\f∈e.Aw a)\/(∃a b,c=gL a b/\e.vR c=true)\/(∃a b g i,c=gA a b g i/\e.vR c=true):=by
 unfold GX.nV at h;simp only[List.mem_append]at h;rcases h with((h|h)|h)|h
 ·rw[cF]at h;obtain⟨a,_,h⟩:=h;rw[cF]at h;obtain⟨b,_,h⟩:=h;obtain⟨rfl,d⟩:=Ad h;exact .inl ⟨a,b,rfl,d⟩
 ·rw[cF]at h;obtain⟨a,_,h⟩:=h;rw[List.mem_map]at h;obtain⟨f,j,rfl⟩:=h;exact .inr (.inl ⟨a,f,rfl,j⟩)
 ·rw[cF]at h;obtain⟨a,_,h⟩:=h;rw[cF]at h;obtain⟨b,_,h⟩:=h;obtain⟨rfl,d⟩:=Ad h;exact .inr (.inr (.inl ⟨a,b,rfl,d⟩))
 ·rw[cF]at h;obtain⟨a,_,h⟩:=h;rw[cF]at h;obtain⟨b,_,h⟩:=h;split at h
  ·rw[cF]at h;obtain⟨g,_,h⟩:=h;rw[cF]at h;obtain⟨i,_,h⟩:=h;obtain⟨rfl,d⟩:=Ad h;exact .inr (.inr (.inr ⟨a,b,g,i,rfl,d⟩))
  ·simp at h
def GX.JQ{e:GX}{d:f6}(f:d∈e.nV):e.vR d=true:=by
 rcases MW f with⟨b,c,rfl,a⟩|⟨b,i,rfl,a⟩|⟨b,c,rfl,a⟩|⟨b,c,g,h,rfl,a⟩
 ·exact a
 ·exact(Lq _ _ _ a).1
 ·exact a
 ·exact a
def abN(a:eZ):aa GX:=if a.dO.length<=16/\a.fj.dK.length<=4 then(Xw a.fj a.jY.fM a.dO).map λb=>⟨a.fj,a.dO,b⟩else none
def vd.Xw{b:eZ}(a:vd b):abN b=some b.gx:=by
 unfold abN;rw[aq ⟨a.len,a.ph⟩,Q0 _ _ a.run];rfl
end
noncomputable section
open Go Go.TI
attribute [-simp] List.map_take List.map_drop List.map_append fG fg ei Bool.not_or Bool.not_and
attribute [simp] fF fh
attribute [-simp] size_cons
def sR{e:d8}{d:fH}{a:Int}(h:mQ e d=true)(c:je a e.em.length=true):∃b,kj a=some a.toNat/\d.em[a.toNat]? =some b/\mK d a=b:=by
 rw[<-(oD h).1]at c;obtain⟨b,f,g⟩:=iI c;exact⟨b,eK (fq.1 c).1,f,by simp[mK,g]⟩
def BC{d:d8}{e:fH}{b:Int}(g:mQ d e=true)(h:je b d.gW.length=true):∃a c,kj b=some b.toNat/\d.gW[b.toNat]? =some a/\kj a.kJ=some a.kJ.toNat/\e.em[a.kJ.toNat]? =some c/\r9 d e b=c:=by
 obtain⟨a,f,i⟩:=iI h;obtain⟨c,j,k,l⟩:=sR g (r7 g f);exact⟨a,c,eK (fq.1 h).1,f,j,k,by simp[r9,i,l]⟩
def xy{e:d8}{d:fH}{a:Int}(h:mQ e d=true)(c:je a e.dK.length=true):∃b,kj a=some a.toNat/\d.dK[a.toNat]? =some b/\pW d a=b:=by
 rw[<-(oD h).2.2]at c;obtain⟨b,f,g⟩:=iI c;exact⟨b,eK (fq.1 c).1,f,by simp[pW,g]⟩
def kq.at{b:eZ}(j:kq b){i:Int}(c:je i b.dO.length=true):∃a:ez,b.dO[i.toNat]? =some a/\kj i=some i.toNat/\b.gx.e i=a/\je a.dT b.fj.dK.length=true/\jQ b.fj a.kind a.obj=true:=by
 obtain⟨a,d,f,g,h⟩:=j.ok.e c;exact⟨a,d,eK (fq.1 c).1,f,g,h⟩
def kq.rd{w:eZ}(c:kq w){b:Int}(g:je b w.dO.length=true):(∀d∈(w.gx.s b).em,d.eJ.length<=2000)/\(w.gx.s b).E4:=by
 have e:=c.sm.o9 (w:=w.fj) (w.dO.take b.toNat);rw[(c.ok.s g).1];exact⟨λd hl=>by have f:=e.r d hl;have h:=c.ok.len;simp at f;omega,e.a⟩
def Ka(a:ej)(b:H):fdW b 0 RI a.t=some (.val a.fM.t b):=by
 unfold ej.t ej.cs fH.t fH.cs;simp[-fH.fold,-ej.fold]
def qV:hU:=⟨eZ×Int×Int,λa=>[a.1.t,dE a.2.1,dE a.2.2],λa=>kq a.1/\je a.2.1 a.1.dO.length=true/\je a.2.2 a.1.dO.length=true,λa=> .bool (a.1.gx.nK a.2.1 a.2.2),λa c b=>by simp at b;rw[eZ.inj b.1,b.2.1,b.2.2]⟩
def PB:qV.Ok Tryz.prog cx 57:=by
 refine iv (tb:=⟨pt [(62,lx),(56,Ba)],ht []⟩) fa eQ (iR 77371547675299043809952719 [(1,[(6,12),(8,12),(9,12)])] Tryz.func57) (λ_=>10) (by simp[qV]) (by simp[qV,Tryz.f57]) ?_;rintro⟨d,l,q⟩ ⟨g,m,u⟩ X t;simp only at g m u;simp[qV]at t|-;obtain⟨M,r,N⟩:=t;obtain⟨R,J,K,L,V,W⟩:=g.at m;obtain⟨b,G,H,I,U,k⟩:=g.at u;obtain⟨z,j⟩:=g.ok.s m;have y:=(g.rd m).1;have O:=λ{tb:fJ} (ht:tb.p 62=some lx)=>Ay ht xM d l g;generalize o9 d.fj d.jY (d.dO.take l.toNat)=A at*
 rw[z]at y j;have a:=GX.nK.eq_1 d.gx l q;rw[I,L,z,show d.gx.w=d.fj from rfl]at a;generalize d.gx.nK l q=S at*
 simp[Tryz.f57,M,r,N,G,H,J,K,kU];refine ee (λn=> ?_) (λn=> ?_)
 ·simp at n;simp[a,n]
 have P:¬b.dT=R.dT:=by simpa using n
 rw[ao P]at a;simp[r,O,Ka];have v:∀c:ed,A.fM.em[b.obj.toNat]? =some c->c.eJ.length<=1099511627776:=λc hl=>by have:=y c (ax hl);omega
 cases x:decide (b.kind=6)with
 |true=>
  have e:b.kind=6:=by simpa using x
  obtain⟨c,l1,l2,l3⟩:=sR j (kV k dz);have hl:=v c l2;rw[aq (.inl e),l3]at a;simp[l1,l2,Nj,hl,a]
 |false=>
  cases f:decide (b.kind=10)with
  |true=>
   have e:b.kind=10:=by simpa using f
   obtain⟨c,l1,l2,l3⟩:=sR j (kV k dz);have hl:=v c l2;rw[aq (.inr e),l3]at a;simp[f,l1,l2,Nj,hl,a]
  |false=>
   have Q:¬(b.kind=6\/b.kind=10):=by simp at x f;omega
   rw[ao Q]at a;cases h:decide (b.kind=8)with
   |true=>
    have e:b.kind=8:=by simpa using h
    obtain⟨c,l1,l2,l3⟩:=sR j (kV k dz);rw[aq e,l3]at a;simp[f,h,l1,l2,a]
   |false=>
    rw[ao (by simpa using h)]at a;cases i:decide (b.kind=17)with
    |true=>
     have e:b.kind=17:=by simpa using i
     obtain⟨T,c,B,C,D,E,F⟩:=BC j (oo k dz);rw[aq e,F]at a;simp[f,h,i,B,C,D,E,a]
    |false=>
     rw[ao (by simpa using i)]at a;cases o:decide (b.kind=21)with
     |true=>
      rw[aq (by simpa using o)]at a;simp[f,h,i,o,a]
     |false=>
      rw[ao (by simpa using o)]at a;simp[f,h,i,o,a]
def GC(d:GX){lo hi:Int}{a b:Nat}(c:ez->Bool)(e:lo=a)(f:hi=b):d.UZ lo hi c=((d.ev.drop a).take (b-a)).all c:=by
 unfold GX.UZ;rw[e,f,show((b:Int)-a).toNat=b-a by omega];rfl
def E5{d:ez->Bool}{c:List ez}{a b:Nat}{e:ez}(f:c[a]? =some e)(g:a<b):((c.drop a).take (b-a)).all d=(d e&&((c.drop (a+1)).take (b-(a+1))).all d):=by
 obtain⟨hl,rfl⟩:=List.getElem?_eq_some_iff.1 f;rw[aJ hl,show b-a=(b-(a+1))+1 by omega,List.take_succ_cons,cE]
def kq.nat{c:eZ}{a:Int}(d:je a c.dO.length=true):∃b:Nat,a=b/\b<c.dO.length:=by
 have:=fq.1 d;exact⟨a.toNat,dz,this.2⟩
def wt:hU:=⟨eZ×f6,λe=>[e.1.t,e.2.t],λe=>kq e.1/\je e.2.a e.1.dO.length=true/\je e.2.b e.1.dO.length=true,λe=> .bool (decide (e.2.c=0)&&decide (e.2.d=0)&&decide (e.2.jJ=[])&&e.1.gx.Rv e.2.a e.2.b),λe g f=>by simp at f;rw[eZ.inj f.1,f6.inj f.2]⟩
def OZ:wt.Ok Tryz.prog cx 32:=by
 refine iv (tb:=⟨pt [(61,xG)],ht []⟩) fa eQ (iR 127 [(1,[(7,14),(9,14),(10,14),(11,14)])] Tryz.func32) (λ_=>10) (by simp[wt]) (by simp[wt,Tryz.f32]) ?_;rintro⟨a,⟨A,f,g,q,z,B⟩⟩ ⟨c,n,o⟩ C l;simp only at n o;replace c:kq a:=c;simp[wt]at l|-;obtain⟨j,k⟩:=l;obtain⟨d,a1,a2,a3,a4,a5⟩:=c.at n;obtain⟨u,h,i,p,x,y⟩:=c.at o;have e:=GX.Rv.eq_1 a.gx f g;rw[a3,p,show a.gx.w=a.fj from rfl]at e;generalize a.gx.Rv f g=v at*
 cases b:kC d u with
 |false=>
  simp[Tryz.f32,j,k,a1,a2,h,i,kU,De,b,e]
 |true=>
  have r:d.kind=3\/d.kind=4:=by unfold kC mo at b;simp at b;exact b.1.1.1
  have m:je d.obj a.fj.cells.length=true:=by unfold jQ at a5;rw[ao dz,aq r]at a5;exact a5
  obtain⟨q,s,t⟩:=iI m;simp[Tryz.f32,j,k,a1,a2,h,i,kU,De,b,e,s,t,eK (fq.1 m).1]
  ac_rfl
def EZ(a:fH)(b:H):fdW b 3 L7 a.t=some (.val (sl (a.dK.map dN.t)) b):=by
 unfold fH.t fH.cs;simp[-fH.fold]
def wu:hU:=⟨eZ×f6,λe=>[e.1.t,e.2.t],λe=>kq e.1/\je e.2.a e.1.dO.length=true/\je e.2.b e.1.dO.length=true,λe=> .bool (decide (e.2.c=0)&&decide (e.2.d=0)&&decide (e.2.jJ=[])&&e.1.gx.PR e.2.a e.2.b),λe g f=>by simp at f;rw[eZ.inj f.1,f6.inj f.2]⟩
def Pb:wu.Ok Tryz.prog cx 33:=by
 refine iv (tb:=⟨pt [(62,lx)],ht []⟩) fa eQ (iR 309637306140417614782923263 [(1,[(7,14),(9,14),(10,14),(11,14)]),(9,[(3,7)])] Tryz.func33) (λ_=>100) (by simp[wu]) (by simp[wu,Tryz.f33]) ?_;rintro⟨c,⟨an,a,b,U,V,C⟩⟩ ⟨h,w,A⟩ i K;simp only at w A;replace h:kq c:=h;simp[wu]at K|-;obtain⟨W,J⟩:=K;obtain⟨E,a1,a2,a3,a4,a5⟩:=h.at w;obtain⟨x,G,bk,R,T,bn⟩:=h.at A;obtain⟨N,O⟩:=h.ok.s w;have ae:=λ{tb:fJ} (ht:tb.p 62=some lx)=>Ay ht xM c a h;generalize o9 c.fj c.jY (c.dO.take a.toNat)=S at*
 rw[N]at O;obtain⟨z,a7,a8,bi⟩:=xy O T;have f:=GX.PR.eq_1 c.gx a b;rw[a3,R,N,bi]at f;generalize c.gx.PR a b=P at*
 obtain⟨e,rfl,bB⟩:=kq.nat w;obtain⟨d,rfl,bH⟩:=kq.nat A;have bT:=h.ok.len;rw[cJ]at a1 G;simp[Tryz.f33,W,J,a1,G,kU];refine ee (λv=> ?_) (λv=> ?_)
 ·have:(decide (U=0)&&decide (V=0)&&decide (C=[])&&P)=false:=by
   rw[cv];intro n;rw[f]at n;simp only[aB,bV,aK,bR,bw]at n v;obtain⟨⟨⟨J,o⟩,q⟩,⟨⟨⟨⟨⟨⟨⟨bu,y⟩,r⟩,u⟩,X⟩,bz⟩,bp⟩,bs⟩⟩:=n;subst q;simp[o,r,u,X]at v;omega
  simp[this]
 simp only[bM,Bool.and_eq_false_iff,bZ,bw,aK]at v;obtain⟨⟨⟨⟨⟨⟨⟨ap,av⟩,aA⟩,aE⟩,aN⟩,aX⟩,a6⟩,bX⟩:=v;have hl:C=[]:=by cases C<;>simp at aA|-
 have bC:d<e:=dz;subst ap av hl;have al:=GC c.gx (lo:=(d:Int)+1) (hi:=e) (a:=d+1) (b:=e) (λj=> !decide (j.dT=x.dT)) dz rfl;rw[al,show c.gx.ev=c.dO from rfl,aY (show(d:Int)<e by omega),aY aN,aY aX,aP a6,show(decide (E.kind=18)||decide (E.kind=19))=true by simpa using aE]at f;simp;generalize m:(((hE.cons _).cons _).cons _).cons _=l;have F:l.get 0=some (dG 15 0 [c.t]):=by rw[<-m];simp
 have H:l.get 1=some (dG 6 0 [f6.t ⟨an,e,d,0,0,[]⟩]):=by rw[<-m];simp
 have Q:l.get 2=some (dG 7 1 [E.t]):=by rw[<-m];simp
 have I:l.get 3=some (dG 7 1 [x.t]):=by rw[<-m];simp
 have M:Hp l:=by rw[<-m];simp
 clear m;have Z:binop .add (dE (d:Int)) (dE 1)=some (dE ((d:Int)+1)):=ik dz dz;simp[Z];refine nz e (λk i n=>l=n/\d+1<=k/\((c.dO.drop k).take (e-k)).all (λj=> !decide (j.dT=x.dT))=((c.dO.drop (d+1)).take (e-(d+1))).all (λj=> !decide (j.dT=x.dT))/\dH i 2 (.ptr 0 0 0 0)/\dH i 3 (.ptr 1 0 0 0)/\dH i 5 (.ptr 2 0 0 0)/\dH i 6 (.ptr 3 0 0 0)/\dH i 7 (dE k)) ?_ dz (k:=d+1) dz ?_
 ·rintro k i _ bN ⟨rfl,bS,g,o,q,y,r,u⟩;by_cases B:k<e
  ·have L:k<c.dO.length:=dz;have Y:binop .add (dE (k:Int)) (dE 1)=some (dE ((k:Int)+1)):=ik dz dz;rw[E5 (az L) B]at g;simp[F,H,I,o,q,r,u,B,L];generalize c.dO[k]=j at*
   refine ee (λD=> ?_) (λD=> ?_)
   ·rw[D]at g;rw[<-g]at f;simp[f,M]
   ·rw[D]at g;simp[o,q,y,r,u,Y];exact⟨k+1,dz,dz,dz,by simpa using g,dA⟩
  ·rw[show e-k=0 by omega]at g;rw[<-g]at f;simp at f;simp[F,H,Q,I,o,q,y,r,u,B,ae,Ka,EZ,a7,a8];exact⟨M,f.symm⟩
 ·simp
def rm:hU:=⟨eZ×f6,λe=>[e.1.t,e.2.t],λe=>kq e.1/\je e.2.a e.1.dO.length=true/\je e.2.b e.1.dO.length=true/\je e.2.c e.1.dO.length=true/\je e.2.d e.1.dO.length=true,λe=> .bool (decide (e.2.jJ=[])&&e.1.gx.Iy e.2.a e.2.b e.2.c e.2.d),λe g f=>by simp at f;rw[eZ.inj f.1,f6.inj f.2]⟩
def JF:rm.Ok Tryz.prog cx 34:=by
 refine iv (tb:=⟨pt [(62,lx),(61,xG)],ht []⟩) fa eQ (iR 324518867979139826586741578400767 [(3,[(7,28),(9,28),(10,28),(11,28),(13,28),(15,28),(16,28),(17,28),(19,28),(21,28),(22,28),(23,28),(13,29),(15,29),(16,29),(17,29),(19,29),(21,29),(22,29),(23,29),(19,30),(21,30),(22,30),(23,30)]),(11,[(3,7)])] Tryz.func34) (λ_=>100) (by simp[rm]) (by simp[rm,Tryz.f34]) ?_;rintro⟨c,⟨bp,a,b,x,A,G⟩⟩ ⟨i,B,E,T,U⟩ m Q;simp only at B E T U;replace i:kq c:=i;simp[rm]at Q|-;obtain⟨aE,aN⟩:=Q;obtain⟨n,a1,a2,a3,a4,a5⟩:=i.at B;obtain⟨y,K,bX,Z,b6,b7⟩:=i.at E;obtain⟨u,ae,al,an,b8,b9⟩:=i.at T;obtain⟨v,ap,av,aA,ca,cb⟩:=i.at U;obtain⟨X,Y⟩:=i.ok.s B;have bk:=λ{tb:fJ} (ht:tb.p 62=some lx)=>Ay ht xM c a i;generalize o9 c.fj c.jY (c.dO.take a.toNat)=S at*
 rw[X]at Y;obtain⟨z,bN,bS,bT⟩:=xy Y a4;have f:=GX.Iy.eq_1 c.gx a b x A;rw[a3,Z,an,aA,X,bT]at f;generalize c.gx.Iy a b x A=I at*
 obtain⟨g,rfl,cp⟩:=kq.nat B;obtain⟨e,rfl,cL⟩:=kq.nat E;have c4:=i.ok.len;rw[cJ]at a1 K;simp[Tryz.f34,aE,aN];refine ee (λd=> ?_) (λd=> ?_)
 ·have:(decide (G=[])&&I)=false:=by
   rw[cv];intro h;rw[f]at h;simp only[aB,bV,aK,bR,bw]at h d;obtain⟨o,⟨⟨⟨⟨⟨⟨⟨⟨a7,q⟩,O⟩,P⟩,a8⟩,l⟩,N⟩,aX⟩,a6⟩⟩:=h;subst o;simp at d;omega
  simp[this]
 simp only[bM,bw]at d;obtain⟨⟨bs,c6⟩,c7⟩:=d;have hl:G=[]:=by cases G<;>simp at bs|-
 have ce:g<e:=dz;subst hl;simp[a1,K,ae,al,ap,av,kU,De];refine ee (λd=> ?_) (λd=> ?_)
 ·have:I=false:=by
   rw[cv];intro h;rw[f]at h;simp only[aB,bV,aK,bR,bw]at h d;obtain⟨⟨⟨⟨⟨⟨⟨⟨a7,q⟩,O⟩,P⟩,a8⟩,l⟩,N⟩,aX⟩,a6⟩:=h;simp[O,P,l,N]at d;omega
  simp[this]
 simp only[bM,bZ,bw,aK]at d;obtain⟨⟨⟨⟨bu,bz⟩,bB⟩,bC⟩,bH⟩:=d;have bn:=GC c.gx (lo:=(g:Int)) (hi:=e) (a:=g) (b:=e) (GX.yS n.dT) rfl rfl;rw[bn,show c.gx.ev=c.dO from rfl,aY (show(g:Int)<e by omega),aY (show x<=A by omega),aY bu,aY bz,aP bB,bC,bH]at f;simp;generalize w:(((((hE.cons _).cons _).cons _).cons _).cons _).cons _=r;have J:r.get 0=some (dG 15 0 [c.t]):=by rw[<-w];simp
 have L:r.get 1=some (dG 6 0 [f6.t ⟨bp,g,e,x,A,[]⟩]):=by rw[<-w];simp
 have M:r.get 2=some (dG 7 1 [n.t]):=by rw[<-w];simp
 have W:Hp r:=by rw[<-w];simp
 clear w;refine nz e (λk m h=>r=h/\g<=k/\((c.dO.drop k).take (e-k)).all (GX.yS n.dT)=((c.dO.drop g).take (e-g)).all (GX.yS n.dT)/\dH m 2 (.ptr 0 0 0 0)/\dH m 3 (.ptr 1 0 0 0)/\dH m 5 (.ptr 2 0 0 0)/\dH m 9 (dE k)) ?_ dz (k:=g) dz ?_
 ·rintro k m _ cX ⟨rfl,c1,j,D,o,q,l⟩;by_cases F:k<e
  ·have V:k<c.dO.length:=dz;have bi:binop .add (dE (k:Int)) (dE 1)=some (dE ((k:Int)+1)):=ik dz dz;rw[E5 (az V) F]at j;simp[J,L,M,D,o,q,l,F,V];generalize c.dO[k]=C at*
   have R:GX.yS n.dT C= !(decide (C.dT=n.dT)&&decide (C.kind=15)):=rfl;refine ee (λH=> ?_) (λH=> ?_)
   ·rw[R,H]at j;rw[<-j]at f;simp at f;simp[f,W]
   ·rw[R,H]at j;simp[D,o,q,l,bi];exact⟨k+1,dz,dz,dz,by simpa using j,dA⟩
  ·rw[show e-k=0 by omega]at j;rw[<-j]at f;simp at f;simp[J,L,M,D,o,q,l,F,bk,Ka,EZ,bN,bS];exact⟨W,f.symm⟩
 ·simp
def LJ{d:fJ}(ht:d.p 57=some qV)(a:eZ)(c b:Int)(g:kq a)(e:je c a.dO.length=true)(f:je b a.dO.length=true):rl Tryz.prog cx d 57 [a.t,dE c,dE b]=some (.bool (a.gx.nK c b)):=im ht PB (a,c,b) ⟨g,e,f⟩
def yT(c:GX)(d:Int->Int->Bool)(a:List Int)(b:Nat):Bool:=
 !decide (a.getD b 0<a.getD 0 0)&&d (a.getD ((b+1)% a.length) 0) (a.getD b 0)&&(List.range b).all λf=> !decide ((c.e (a.getD b 0)).dT=(c.e (a.getD f 0)).dT)
def Ij{d:GX}{e:Int->Int->Bool}{b:List Int}(f:2<=b.length)(g:b.length<=4)(h:∀a<b.length,je (b.getD a 0) d.ev.length=true)(i:∀a<b.length,yT d e b a=true):d.Gk e b=true:=by
 unfold GX.Gk;simp only[aB,aK];refine⟨⟨⟨f,g⟩,List.all_eq_true.2 λk j=> ?_⟩,List.all_eq_true.2 λa c=>i a (List.mem_range.1 c)⟩;obtain⟨a,c,rfl⟩:=List.mem_iff_getElem.1 j;have:=h a c;simpa[List.getD,c]using this
def oE{e:GX}{f:Int->Int->Bool}{a:List Int}(h:a.length<2\/4<a.length\/(∃b<a.length,je (a.getD b 0) e.ev.length=false)\/∃b<a.length,yT e f a b=false):e.Gk f a=false:=by
 rw[cv];intro d;unfold GX.Gk at d;simp only[aB,aK]at d;obtain⟨⟨⟨j,k⟩,g⟩,i⟩:=d;rcases h with h|h|⟨b,c,h⟩|⟨b,c,h⟩
 ·omega
 ·omega
 ·have:=List.all_eq_true.1 g (a.getD b 0) (by simp[List.getD,c]);rw[h]at this;simp at this
 ·have:=List.all_eq_true.1 i b (List.mem_range.2 c);unfold yT at h;rw[h]at this;simp at this
def KT(a b:Nat)(d:b≠0)(c:a<9223372036854775808):binop .rem (dE (a:Int)) (dE (b:Int))=some (dE ((a% b:Nat):Int)):=by
 rw[DD dz];rfl
def wx:hU:=⟨eZ×f6,λa=>[a.1.t,a.2.t],λa=>kq a.1/\a.2.jJ.length<=1000000,λa=> .bool (a.1.gx.dead a.1.gx.nK a.2),λa c b=>by simp at b;rw[eZ.inj b.1,f6.inj b.2]⟩
def Pp:wx.Ok Tryz.prog cx 30:=by
 refine iv (tb:=⟨pt [(57,qV),(31,B5)],ht []⟩) fa eQ (iR 2596148777438049903812084076904959 [] Tryz.func30) (λ_=>100) (by simp[wx]) (by simp[wx,Tryz.f30]) ?_;rintro⟨d,⟨S,z,A,B,C,a⟩⟩ ⟨u,aE⟩ f U;simp only at aE;replace u:kq d:=u;simp[wx]at U|-;obtain⟨ae,P⟩:=U;have n:d.gx.dead d.gx.nK ⟨S,z,A,B,C,a⟩=(decide (z=0)&&decide (A=0)&&decide (B=0)&&decide (C=0)&&d.gx.Gk d.gx.nK a):=rfl;generalize d.gx.dead d.gx.nK ⟨S,z,A,B,C,a⟩=Y at*
 simp[Tryz.f30,ae,P];refine ee (λL=> ?_) (λL=> ?_)
 ·have:Y=false:=by
   rw[cv];intro h;rw[n]at h;simp only[aB,aK]at h;obtain⟨⟨⟨⟨P,i⟩,j⟩,al⟩,g⟩:=h;simp[P,i,j,al]at L;rw[oE dz]at g;simp at g
  simp[this]
 simp only[bM,bZ,bw,aK]at L;obtain⟨⟨⟨⟨⟨aN,aX⟩,a6⟩,a7⟩,bp⟩,bs⟩:=L;have av:2<=a.length:=dz;have aA:a.length<=4:=dz;have bk:=u.ok.len;rw[aN,aX,a6,a7]at n;simp at n;simp;generalize F:(hE.cons _).cons _=r;have M:r.get 0=some (dG 15 0 [d.t]):=by rw[<-F];simp
 have N:r.get 1=some (dG 6 0 [f6.t ⟨S,z,A,B,C,a⟩]):=by rw[<-F];simp
 have K:Hp r:=by rw[<-F];simp
 clear F;refine fy a.length dz (λb f h=>r=h/\(∀c<b,je (a.getD c 0) d.dO.length=true)/\dH f 2 (.ptr 0 0 0 0)/\dH f 3 (.ptr 1 0 0 0)/\dH f 5 (dE a.length)/\dH f 6 (dE b)) ?_ ?_ dz ?_
 ·rintro b f _ m G ⟨rfl,I,i,j,g,D⟩;have s:a.getD b 0=a[b]:=by simp[List.getD,m]
  simp[M,N,i,j,g,D,m,UY];refine ee (λl=> ?_) (λl=> ?_)
  ·rw[oE (.inr (.inr (.inl ⟨b,m,by rw[s];exact(by simpa using l:je a[b] d.dO.length=false)⟩)))]at n;simp[n,K]
  ·simp[i,j,g,D,G];intro c q;rcases aF c b with h|h
   ·simpa using I c h
   ·rw[show c=b by omega];simpa[m]using l
 ·rintro f _ ⟨rfl,I,i,j,g,D⟩;simp[g,D];have H:∀c (q:c<a.length),je a[c] d.dO.length=true:=λc q=>by simpa[List.getD,q]using I c q
  refine fy a.length dz (λb f h=>r=h/\(∀c<b,yT d.gx d.gx.nK a c=true)/\dH f 2 (.ptr 0 0 0 0)/\dH f 3 (.ptr 1 0 0 0)/\dH f 5 (dE a.length)/\dH f 7 (dE b)) ?_ ?_ dz ?_
  ·rintro b f _ m G ⟨rfl,Q,i,j,g,o⟩;have s:∀c (q:c<a.length),a.getD c 0=a[c]:=λc q=>by simp[List.getD,q]
   have O:0<a.length:=dz;have W:=KT (b+1) a.length dz dz;have J:(b+1)% a.length<a.length:=Nat.mod_lt _ O;have v:yT d.gx d.gx.nK a b=(!decide (a[b]<a[0])&&d.gx.nK (a[(b+1)% a.length]'J) a[b]&&(List.range b).all λk=> !decide ((d.gx.e a[b]).dT=(d.gx.e (a.getD k 0)).dT)):=by unfold yT;rw[s _ m,s _ O,s _ J]
   generalize(b+1)% a.length=X at*
   have Z:=λ{tb:fJ} (ht:tb.p 57=some qV)=>LJ ht d a[X] a[b] u (H X J) (H b m);obtain⟨x,a1,a2,a3,a4,a5⟩:=u.at (H b m);rw[a3]at v;simp at W;simp[M,N,i,j,g,o,m,G,O,W,J,Z];refine ee (λl=> ?_) (λl=> ?_)
   ·have:yT d.gx d.gx.nK a b=false:=by
     rw[v,cv];intro h;simp only[aB,bR,bw]at h;simp[h.1.2]at l;omega
    rw[oE (.inr (.inr (.inr ⟨b,m,this⟩)))]at n;simp[n,K]
   ·simp only[bM,bZ,bw]at l;rw[l.2,aP l.1]at v;simp;refine fy b dz (λk f h=>r=h/\(∀c<k,decide (x.dT=(d.gx.e (a.getD c 0)).dT)=false)/\dH f 2 (.ptr 0 0 0 0)/\dH f 3 (.ptr 1 0 0 0)/\dH f 5 (dE a.length)/\dH f 7 (dE b)/\dH f 8 (dE k)) ?_ ?_ dz ?_
    ·rintro k f _ V an ⟨rfl,R,i,j,g,o,E⟩;have w:k<a.length:=dz;obtain⟨y,a8,bi,T,bu,bz⟩:=u.at (H k w);simp[M,N,i,j,o,E,V,w,m,a1,a2,a8,bi];have bn:(d.gx.e (a.getD k 0)).dT=y.dT:=by rw[s k w,T]
     refine ee (λl=> ?_) (λl=> ?_)
     ·have:yT d.gx d.gx.nK a b=false:=by
       rw[v];simp;exact⟨k,V,by simpa[w,T]using l⟩
      rw[oE (.inr (.inr (.inr ⟨b,m,this⟩)))]at n;simp[n,K]
     ·simp[i,j,g,o,E,an];intro c q;rcases aF c k with h|h
      ·simpa using R c h
      ·rw[show c=k by omega];simp[w,T];simpa using l
    ·rintro f _ ⟨rfl,R,i,j,g,o,E⟩;simp[i,j,g,o,E,G];intro c q;rcases aF c b with h|h
     ·exact Q c h
     ·rw[show c=b by omega,v];simp;intro k ap;simpa using R k ap
    ·simp[i,j,g,o]
  ·rintro f _ ⟨rfl,Q,i,j,g,o⟩;rw[Ij av aA I Q]at n;simp[g,o,n,K]
  ·simp[i,j,g]
 ·simp
def oM:hU:=⟨eZ×f6,λa=>[a.1.t,a.2.t],λa=>kq a.1/\a.2.jJ.length<=1000000,λa=> .bool (a.1.gx.vR a.2),λa c b=>by simp at b;rw[eZ.inj b.1,f6.inj b.2]⟩
def Mx:oM.Ok Tryz.prog cx 15:=by
 refine iv (tb:=⟨pt [(31,B5),(30,wx),(32,wt),(33,wu),(34,rm)],ht []⟩) fa eQ (iR 9302967882613055 [] Tryz.func15) (λ_=>100) (by simp[oM]) (by simp[oM,Tryz.f15]) ?_;rintro⟨f,e⟩ ⟨h,v⟩ E u;simp only at v;replace h:kq f:=h;simp[oM]at u|-;obtain⟨r,s⟩:=u;have g:=GX.vR.eq_1 f.gx e;simp only[show∀w,f.gx.AV w=je w f.dO.length from λ_=>rfl]at g;generalize f.gx.vR e=D at*
 have A:∀{tb:fJ},tb.p 30=some wx->rl Tryz.prog cx tb 30 [f.t,e.t]=some (.bool (f.gx.dead f.gx.nK e)):=λht=>im ht Pp (f,e) ⟨h,v⟩;cases o:decide (e.kind=2)with
 |true=>
  rw[aq (by simpa using o)]at g;simp[Tryz.f15,r,s,o,A,g]
 |false=>
  rw[ao (by simpa using o)]at g;simp[Tryz.f15,r,s,o,UY];refine ee (λl=> ?_) (λl=> ?_)
  ·rw[ao (by intro j;simp only[aB]at j;simp[j.1.1.1,j.1.1.2,j.1.2,j.2]at l)]at g;simp[g]
  simp only[bM,bZ]at l;obtain⟨⟨⟨m,n⟩,x⟩,y⟩:=l;rw[aq (by rw[m,n,x,y];rfl)]at g;have C:∀{tb:fJ},tb.p 32=some wt->rl Tryz.prog cx tb 32 [f.t,e.t]=some (.bool (decide (e.c=0)&&decide (e.d=0)&&decide (e.jJ=[])&&f.gx.Rv e.a e.b)):=λht=>im ht OZ (f,e) ⟨h,m,n⟩;have B:∀{tb:fJ},tb.p 33=some wu->rl Tryz.prog cx tb 33 [f.t,e.t]=some (.bool (decide (e.c=0)&&decide (e.d=0)&&decide (e.jJ=[])&&f.gx.PR e.a e.b)):=λht=>im ht Pb (f,e) ⟨h,m,n⟩;have z:∀{tb:fJ},tb.p 34=some rm->rl Tryz.prog cx tb 34 [f.t,e.t]=some (.bool (decide (e.jJ=[])&&f.gx.Iy e.a e.b e.c e.d)):=λht=>im ht JF (f,e) ⟨h,m,n,x,y⟩;cases i:decide (e.kind=1)with
  |true=>
   rw[aq (by simpa using i)]at g;simp[i,C,g]
  |false=>
   rw[ao (by simpa using i)]at g;cases k:decide (e.kind=3)with
   |true=>
    rw[aq (by simpa using k)]at g;simp[i,k,B,g]
   |false=>
    rw[ao (by simpa using k)]at g;cases q:decide (e.kind=4)with
    |true=>
     rw[aq (by simpa using q)]at g;simp[i,k,q,z,g]
    |false=>
     rw[ao (by simpa using q)]at g;simp[i,k,q,g]
def Iu{c:fJ}(ht:c.p 15=some oM)(b:eZ)(a:f6)(d:kq b)(hl:a.jJ.length<=1000000):rl Tryz.prog cx c 15 [b.t,a.t]=some (.bool (b.gx.vR a)):=im ht Mx (b,a) ⟨d,hl⟩
def gT(e:f6):T:= .agg [dE e.kind,dE e.a,dE e.b,dE e.c,dE e.d,dF]
structure IPt where
 (w:eZ) (g:f6) (v:T) (es:List T)
def Us(a:IPt)(c:List T)(b:H):Prop:=c=[a.w.t,a.v,gT a.g]/\Gr b a.v 6 a.es/\ig 0 b/\kq a.w/\a.es.length<=1000000/\a.g.jJ=[]
def Fo(a:IPt)(e:List T)(b:H)(d:T)(c:H):Prop:=Xt b a.v 6 (a.es++if a.w.gx.vR a.g=true then [gT a.g]else []) d c
def Fx:(jw IPt Us Fo).Ok Tryz.prog cx 26:=by
 refine jo (tb:=⟨pt [(15,oM)],ht []⟩) fa eQ (iR 623 [] Tryz.func26) (λw f=>10) (λH w f D=>by obtain⟨rfl,_⟩:=D;simp[Tryz.f26]) ?_;rintro⟨g,e,n,z⟩ _ f ⟨rfl,o,v,u,hl,k⟩ K s;simp only at o u hl k;simp[gT]at s;obtain⟨A,q,B⟩:=s;have C:T.agg [dE e.kind,dE e.a,dE e.b,dE e.c,dE e.d,.gu]=e.t:=by unfold f6.t f6.cs;rw[k];rfl
 have j:=λ{tb:fJ} (ht:tb.p 15=some oM)=>Iu ht g e u (by rw[k];simp);rw[<-C]at j;generalize r:g.gx.vR e=F at j;have h:Xt (TI.hr f) n 6 z n (((TI.hr f).cons (dG 15 0 [g.t])).cons (dG 6 0 [gT e])):=((Xt.refl (o.mono λy _=>gh f y) v.hr).cons _).cons _;have m:ig 0 (((TI.hr f).cons (dG 15 0 [g.t])).cons (dG 6 0 [gT e])):=(v.hr.cons _).cons _;obtain⟨J,G,i,x⟩:=h.1.wh (cx:=cx) m Kj rfl Ki rfl dA (x:=gT e) rfl dB;have E:=h.trans x;unfold gT at i h m;have I:=m.low
 change iO cx _ _ _ n (.arr (f.size+1+1) 0 0 1 false)=_ at i
 simp[Tryz.f26,A,B,j];refine ee (λl=> ?_) (λl=> ?_)
 ·subst l;simp[q,i];unfold Fo;simp only[r,bh];exact E.out
 ·subst l;simp[q];unfold Fo;simp only[r];simpa using h.out
abbrev Ah(a:List Int):List T:=a.map (T.int .i64)
def IK(d c:H)(f b:T)(e:List Int):Prop:=Gr c b 1 (Ah e)/\∀a,dS b=some a->d.size<=a/\a<c.size/\dS f≠some a
def Xt.nb{e f g:H}{j h:T}{i:Nat}{d:List T}(b:Xt e j i d h f)(a:Nb f g):Xt e j i d h g:=by
 have p:=b.2.2.2.sz;refine⟨b.1.mono λk l=> ?_,λc m n=>(a.get c dz).trans (b.2.1 c m n),b.2.2.1,a.ok.hp,a.ok.low,aS p a.ok.sz⟩;obtain⟨_,_,_,_,o,_⟩:=b.1.box l;exact a.get k (H.ew o)
def IK.nb{g f h:H}{k e:T}{i:List Int}(a:IK g f k e i)(j:Nb f h):IK g h k e i:=
 ⟨a.1.mono λd l=>j.get d (a.2 d l).2.1,λb c=>⟨(a.2 b c).1,bE (a.2 b c).2.1 j.ok.sz,(a.2 b c).2.2⟩⟩
def IK.xt{h g i:H}{l r2 f:T}{k:List Int}{o:Nat}{m:List T}(a:IK h g l f k)(d:Xt g l o m r2 i):IK h i r2 f k:=
 ⟨a.1.mono λe j=>d.2.1 e (a.2 e j).2.1 (a.2 e j).2.2,λb c=>⟨(a.2 b c).1,bE (a.2 b c).2.1 d.2.2.2.sz,λn=>(d.2.2.1 b n).elim (a.2 b c).2.2 (λp=>by have:=(a.2 b c).2.1;omega)⟩⟩
def IK.fin{a g f:H}{i e:T}{h:List Int}(b:IK g f i e h)(j:a.size<=g.size):IK a (lO a f) i e h:=⟨b.1.out a,λc d=>⟨aS j (b.2 c d).1,(b.2 c d).2.1,(b.2 c d).2.2⟩⟩
structure XG where
 (w:eZ) (p:List Int) (pv v:T) (es:List T)
def cyR(a:XG):List (List Int):=yi a.w.gx.ev.length (λb=>a.w.gx.vR (gC b)) (λb c=> !decide (c∈b)&&a.w.gx.nK c (kX b)) (4-a.p.length) a.p
def Ot(a:XG)(d:List T)(b:H):Prop:=d=[a.w.t,a.pv,a.v]/\Gr b a.pv 1 (Ah a.p)/\Gr b a.v 1 a.es/\(∀c,dS a.pv=some c->dS a.v≠some c)/\ig 0 b/\kq a.w/\1<=a.p.length/\a.p.length<=4/\(∀e∈a.p,je e a.w.dO.length=true)/\a.es.length+(cyR a).length<=1000000
def Jo(a:XG)(f:List T)(b:H)(e:T)(c:H):Prop:=∃d,Xt b a.v 1 (a.es++d) e c/\iB (IK b c e) d (cyR a)
def aav(k:Nat):(jw XG (λi S h=>Ot i S h/\5-i.p.length<k) Jo).Ok Tryz.prog cx 27:=by
 refine uY (λi:XG=>5-i.p.length) (λm eB=> ?_) k;refine jo (tb:=⟨pt [(15,oM),(56,Ba),(57,qV)],ht [(27,jw XG (λi S h=>Ot i S h/\5-i.p.length<m) Jo)]⟩) fa eQ (iR 140738563147983 [(9,[(0,3),(3,5),(0,6)])] Tryz.func27) (λS h=>100) (λi S h er=>by obtain⟨⟨rfl,_⟩,_⟩:=er;simp[Tryz.f27]) ?_;rintro⟨c,a,w,y,es⟩ _ h ⟨⟨rfl,M,Z,ca,bn,W,et,eu,ae,a7⟩,ef⟩ z bS;simp only at M Z ca W et eu ae a7 ef;simp at bS;obtain⟨dn,s,D⟩:=bS;have bC:∀{tb:fJ},tb.p 15=some oM->rl Tryz.prog cx tb 15 [c.t,f6.t ⟨2,0,0,0,0,a⟩]=some (.bool (c.gx.vR (gC a))):=λht=>Iu ht c (gC a) W (by simp[gC];omega);generalize N:(TI.hr h).cons (dG 15 0 [c.t])=j;have cL:ig h.size j:=by rw[<-N];exact(⟨bn.hr.hp,bn.hr.low,au _⟩:ig h.size (TI.hr h)).cons _
 have aA:j.size=h.size+1:=by rw[<-N];rfl
 have bB:j.get h.size=some (dG 15 0 [c.t]):=by rw[<-N];simp
 have bN:∀o,o<h.size->j.get o=h.get o:=λo F=>by rw[<-N,dV,ao dB];exact gh h o
 have cb:∀b,dS w=some b->b<h.size:=λb u=>by obtain⟨_,_,_,_,A,_⟩:=M.box u;exact H.ew A
 have an:∀b,dS y=some b->b<h.size:=λb u=>by obtain⟨_,_,_,_,A,_⟩:=Z.box u;exact H.ew A
 have Y:Gr j w 1 (Ah a):=M.mono λb u=>bN b (cb b u);have a6:Gr j y 1 es:=Z.mono λb u=>bN b (an b u);have ap:ig 0 j:=⟨cL.hp,cL.low,aw _⟩;have dk:TI.fz j w=some (sl (Ah a)):=Y.fz dA;have eN:TI.qJ j w=some (sl (Ah a)):=Y.qJ dA;have eR:∀l:List T,l.length=a.length->a.length<=4->l.length*8<=70368744177664:=by intros;omega
 generalize dv:c.gx.vR (gC a)=V at bC;simp[Tryz.f27,dn,s,N,M.il,M.cells,dk,bB,bC];refine ll (λz d=>∃r n,Xt j y 1 (es++n) r d/\iB (IK j d r) n (if V=true then [a]else [])/\dH z 1 w/\dH z 2 r/\dH z 3 (.ptr h.size 0 0 0)) (λI=> ?_) (λI=> ?_) ?_
 ·obtain⟨aN,B,L,⟨eL,eM,gA⟩,Q,J,E⟩:=kQ (cx:=cx) (sz:=1) ap (x:=w) (xs:=Ah a) ko rfl nc ko rfl rfl dA Y.jf (by simp[T.cells]) dB;have dm:Gr B y 1 es:=a6.mono λb u=>J b (by have:=an b u;omega);obtain⟨eI,d,e,x⟩:=dm.wh (cx:=cx) E Qk rfl ko rfl dA (x:= .arr j.size aN 0 a.length false) rfl dB;have eC:=E.low;have eX:=ap.low;simp at L gA;rw[aA]at L Q;rw[Q,aA]at e;have ce:Nb j B:=⟨⟨E.hp,E.low,dz⟩,J⟩;have r1:IK j B y (.arr j.size aN 0 a.length false) a:=by
   have g:=Gr.new (h:=B) (b:=j.size) (es:=Ah a) gA;rw[aG]at g;exact⟨g,λo F=>by simp at F;subst F;exact⟨au _,dz,λq=>by have:=an _ q;omega⟩⟩
  have c6:=(Xt.nb (Xt.refl a6 ap) ce).trans x;have r2:=r1.xt x;rw[aA]at c6 r2;simp[s,D,aA,Q,L,e];exact⟨eI,_,c6,by rw[I];exact .cons r2 .nil,rfl⟩
 ·simp[s,D];exact⟨y,[],by simpa using Xt.refl a6 ap,by rw[I];exact .nil,rfl⟩
 rintro z d ⟨r,n,x,C,s,D,G⟩;have c1:Xt (TI.hr h) y 1 es y j:=by rw[<-N];exact(Xt.refl (Z.mono λb _=>gh h b) bn.hr).cons _
 have bk:=λs:H=>M.len (cx:=cx) s nH _ rfl;rw[aG]at bk;simp[s,bk];have O:cyR ⟨c,a,w,y,es⟩=yi c.dO.length (λa=>c.gx.vR (gC a)) (λa v=> !decide (v∈a)&&c.gx.nK v (kX a)) (4-a.length) a:=rfl;rw[<-dv]at C;refine ee (λI=> ?_) (λI=> ?_)
 ·simp[D];simp at I;refine⟨n,(c1.trans x).out,?_⟩;rw[O,show 4-a.length=0 by omega,yi];exact C.imp λ_ _ q=>q.fin dz
 simp at I;obtain⟨R,ds⟩:∃R,4-a.length=R+1:=⟨3-a.length,dz⟩;rw[ds,yi]at O;obtain⟨p0,b9⟩:∃p0:Nat,a[0]? =some (p0:Int)/\p0<c.dO.length:=by
  have:=fq.1 (ae a[0] (aC dz));exact⟨a[0].toNat,by rw[az dz];congr 1;omega,dz⟩
 have eV:=W.ok.len;have ec:(a.getD 0 0).toNat=p0:=by simp[List.getD,b9.1]
 rw[ec]at O;have bi:a.length-1<a.length:=dz;have b7:kX a=a[a.length-1]:=by simp[kX,List.getD,bi]
 have eh:je (kX a) c.dO.length=true:=by rw[b7];exact ae _ (aC bi)
 have av:∀{r:T} {n:List T} {d:H},Xt j y 1 (es++n) r d->oG d 1 w (Ah a):=λx=> .inr (Y.mono λb u=>x.2.1 b (by have:=cb b u;omega) (ca b u));obtain⟨e0,c7,c9⟩:=(av x).idx (te:=Dw) rfl rfl (i:=0) (x:= dE p0) (by simp[b9.1]) rfl;have ea:binop .add (dE (p0:Int)) (dE 1)=some (dE ((p0:Int)+1)):=ik dz dz;have ey:binop .sub (dE (a.length:Int)) (dE 1)=some (dE ((a.length-1:Nat):Int)):=by rw[kF dz dz];congr 2;omega
 generalize b6:(λ(v:Nat)=>if(!decide ((v:Int)∈a)&&c.gx.nK v (kX a))=true then yi c.dO.length (λa=>c.gx.vR (gC a)) (λa v=> !decide (v∈a)&&c.gx.nK v (kX a)) R (a++[(v:Int)])else [])=f at O;simp[s,c7,c9,ea];refine nz c.dO.length (λk z d=>p0+1<=k/\∃r n,Xt j y 1 (es++n) r d/\iB (IK j d r) n ((if c.gx.vR (gC a)=true then [a]else [])++(List.range' (p0+1) (k-(p0+1))).flatMap f)/\dH z 1 w/\dH z 2 r/\dH z 3 (.ptr h.size 0 0 0)/\dH z 7 (dE k)) ?_ dz (k:=p0+1) dz ?_
 ·rintro k z d eS ⟨eP,r,n,x,C,s,D,G,U⟩;have bp:=(x.2.1 h.size dz λq=>by have:=an _ q;omega).trans bB;have cp:ig 0 d:=⟨x.2.2.2.hp,x.2.2.2.low,aw _⟩;by_cases b8:k<c.dO.length
  ·have bT:binop .add (dE (k:Int)) (dE 1)=some (dE ((k:Int)+1)):=ik dz dz;obtain⟨e4,dd,de⟩:=(av x).idx (te:=Dw) rfl rfl (i:=a.length-1) (x:= dE (kX a)) (by rw[b7];simp[bi]) rfl;have aX:TI.qJ d w=some (sl (Ah a)):=(av x).qJ dA dA;have di:=λ{tb:fJ} (ht:tb.p 57=some qV)=>LJ ht c k (kX a) W (fq.2 ⟨dz,dz⟩) eh;simp[s,G,U,bp,b8,bk,ey,dd,de,aX,di,Nj,show a.length<=1099511627776 by omega];refine ee (λq=> ?_) (λq=> ?_)
   ·obtain⟨aN,B,L,⟨eL,eM,gA⟩,Q,J,E⟩:=kQ (cx:=cx) (sz:=1) cp (x:=w) (xs:=Ah a) ko rfl nc ko rfl rfl dA (av x).jf (by simp[T.cells]) dB;have ce:Nb d B:=⟨⟨E.hp,E.low,dz⟩,J⟩;have aX:=Gr.new (h:=B) (b:=d.size) (es:=Ah a) gA;obtain⟨cX,bu,aE,P⟩:=aX.nd (cx:=cx) (f:=T.int .i64) E ko rfl nc rfl dA (λx=>rfl) (k:Int) dB;have eC:=E.low;have eW:=cp.low;simp at L aE;rw[Q]at aE;have al:h.size<d.size:=by have:=x.2.2.2.sz;omega
    have bH:∀o,o<d.size->bu.get o=d.get o:=λo F=>(P.2.1 o dz dB).trans (J o F);have eE:fc (d.cons (dG 1 0 [])) B h.size=true:=fk ((J _ al).trans (by rw[dV,ao dz]));have eF:fc (d.cons (dG 1 0 [])) B (d.size+1)=true:=jd (lz _ dA);have eH:fc (B.cons (dG 1 0 [dE k])) bu h.size=true:=fk ((bH _ al).trans (by rw[dV,ao dz];exact(J _ al).symm));have X:Nb d bu:=⟨⟨P.2.2.2.hp,P.2.2.2.low,by have:=P.2.2.2.sz;omega⟩,bH⟩;simp[s,D,G,U,bp,L,aE,Q,eE,eF,eH];have c4:=Xt.nb x X;have a8:f k=yi c.dO.length (λa=>c.gx.vR (gC a)) (λa v=> !decide (v∈a)&&c.gx.nK v (kX a)) R (a++[(k:Int)]):=by rw[<-b6];simp only;rw[aq q]
    have bX:cyR ⟨c,a++[(k:Int)],cX,r,es++n⟩=f k:=by rw[a8];unfold cyR;simp only[aT,List.length_singleton];rw[show 4-(a.length+1)=R by omega];rfl
    have eA:iw (p0+1) c.dO.length=List.range' (p0+1) (k-(p0+1))++k::List.range' (k+1) (c.dO.length-(k+1)):=by
     unfold iw;rw[show c.dO.length-(p0+1)=(k-(p0+1))+(c.dO.length-k)by omega,<-List.range'_append_1,show p0+1+(k-(p0+1))=k by omega,show c.dO.length-k=(c.dO.length-(k+1))+1 by omega,List.range'_succ]
    have eo:=C.length;have eb:(es++n).length+(f k).length<=1000000:=by
     rw[O,eA]at a7;simp only[aT,cQ,aQ]at a7 eo|-;omega
    refine li eB dA ⟨c,a++[(k:Int)],cX,r,es++n⟩ ⟨⟨rfl,P.1,c4.1,λb u hr=> ?_,⟨X.ok.hp,X.ok.low,aw _⟩,W,dA,dB,λK A=> ?_,by rw[bX];exact eb⟩,dB⟩ ?_
    ·obtain⟨_,_,_,_,A,_⟩:=x.1.box hr;have:=H.ew A;rcases P.2.2.1 b u with q|q
     ·simp at q;omega
     ·omega
    ·simp at A;rcases A with A|rfl
     ·exact ae K A
     ·show je (k:Int) c.dO.length=true;exact fq.2 ⟨dz,dz⟩
    rintro r3 eO ⟨eD,bs,bz⟩;rw[bX]at bz;have e6:=bs.2.2.2.sz;have eU:h.size+1<=d.size:=al;have e5:=X.ok.sz;simp[s,G,U,bT];refine⟨k+1,dz,dz,dz,r3,n++eD,?_,?_,rfl,dA⟩
    ·have:=c4.trans bs;rw[aI]at this;exact this
    ·rw[show k+1-(p0+1)=(k-(p0+1))+1 by omega,List.range'_concat,show p0+1+1*(k-(p0+1))=k by omega,cQ,<-aI];refine iB.append (C.imp λ_ _ K=>(K.nb X).xt bs) ?_;simp only[aQ,cj,bL];exact bz.imp λ_ _ K=>⟨K.1,λo F=>⟨by have:=(K.2 o F).1;omega,(K.2 o F).2⟩⟩
   ·simp[s,D,G,U,bT];have a8:f k=[]:=by rw[<-b6];simp only;rw[ao (by rw[q];simp)]
    refine⟨k+1,dz,dz,dz,r,n,x,?_,rfl,dA⟩;rw[show k+1-(p0+1)=(k-(p0+1))+1 by omega,List.range'_concat,show p0+1+1*(k-(p0+1))=k by omega,cQ];simpa[a8]using C
  ·simp[D,G,U,bp,b8];refine⟨n,(c1.trans x).out,?_⟩;rw[O];unfold iw;rw[show k=c.dO.length by omega]at C;exact C.imp λ_ _ q=>q.fin dz
 ·exact⟨dz,r,n,x,by simpa using C,by simp[s,D,G]⟩
def zw:hU:=⟨f6,λa=>[a.t,a.t],λa=>a.jJ.length<=1000000,λa=> .bool true,λb c d=>rfl⟩
def R7:zw.Ok Tryz.prog cx 17:=by
 refine iv (tb:=⟨pt [(36,pz)],ht []⟩) fa eQ (iR 31 [] Tryz.func17) (λ_=>10) (by simp[zw]) (by simp[zw,Tryz.f17]) ?_;rintro(a:f6) hl f b;simp[zw]at b hl|-;obtain⟨d,e⟩:=b;have c:=λ{tb:fJ} (ht:tb.p 36=some pz)=>Nh ht a.jJ a.jJ dz dz;simp[Tryz.f17,d,e,c]
def zv:hU:=⟨List f6,λa=>[sl (a.map f6.t),sl (a.map f6.t)],λa=>a.length<=1000000/\∀b∈a,b.jJ.length<=1000000,λb=> .bool true,λc d e=>rfl⟩
def R1:zv.Ok Tryz.prog cx 9:=by
 refine iv (tb:=⟨pt [(17,zw)],ht []⟩) fa eQ (iR 67126323 [] Tryz.func9) (λ_=>1000005) (by simp[zv]) (by simp[zv,Tryz.f9]) ?_;rintro(b:List f6) ⟨hl,l⟩ c h;simp[zv]at h|-;obtain⟨a,d⟩:=h;simp[Tryz.f9,a,d];refine fy b.length dz (λe c f=>f=hE/\dH c 0 (sl (b.map f6.t))/\dH c 1 (sl (b.map f6.t))/\dH c 5 (dE e)) ?_ ?_ dz (by simp[a,d])
 ·rintro e c f i k ⟨rfl,a,d,g⟩;have j:∀{tb:fJ},tb.p 17=some zw->rl Tryz.prog cx tb 17 [b[e].t,b[e].t]=some (.bool true):=λht=>im ht R7 b[e] (l _ (aC i));simp[a,d,g,i,k,j]
 ·rintro c f ⟨rfl,a,d,g⟩;simp[a,g]
def jN{a b:Nat}(c:a<b):iw a b=a::iw (a+1) b:=by
 unfold iw;rw[show b-a=(b-(a+1))+1 by omega,List.range'_succ]
def kr{a b:Nat}(c:b<=a):iw a b=[]:=by unfold iw;rw[show b-a=0 by omega];rfl
def BR(a:Nat):List.range a=iw 0 a:=by unfold iw;rw[List.range_eq_range'];rfl
def mh{d i:Type}(b:Nat){f:d->List i}:∀{l:List d},(∀a∈l,(f a).length<=b)->(l.flatMap f).length<=l.length*b:=by
 intro l;induction l with
 |nil=>intro _;simp
 |cons a l g=>
  intro c;rw[aQ,aT,bj,cd];have j:=c a dA;have k:=g λh e=>c h (by simp[e]);omega
def BS(b a:Nat):(iw b a).length<=a:=by unfold iw;simp
def Gj{n:Nat}(e:n<=16){ok:List Int->Bool}{go:List Int->Int->Bool}:∀(a:Nat) (b:List Int),(yi n ok go a b).length<=17^a:=by
 intro a;induction a with
 |zero=>intro b;unfold yi;split<;>simp
 |succ a g=>
  intro b;unfold yi;rw[aT];have h:(if ok b=true then [b]else []).length<=1:=by split<;>simp
  have i:=mh (17^a) (l:=iw ((b.getD 0 0).toNat+1) n) (f:=λ(c:Nat)=>if go b c=true then yi n ok go a (b++[(c:Int)])else []) λm _=>by
   split
   ·exact g _
   ·simp
  have d:=BS ((b.getD 0 0).toNat+1) n;have j:=aW (17^a) (aS d e);have k:0<17^a:=Nat.pow_pos dz;rw[Nat.pow_succ];omega
def EP(b:f6->Bool)(a:f6):(iN b a).length<=1:=by unfold iN;split<;>simp
def Ab(a:GX)(m:a.n<=16):a.nV.length<=100000+80000:=by
 unfold GX.nV;simp only[aT];have two:∀h:Nat->Nat->f6,((List.range a.n).flatMap λ(b:Nat)=>(List.range a.n).flatMap λ(c:Nat)=>iN a.vR (h b c)).length<=256:=λh=>by
  have j:=mh 16 (l:=List.range a.n) (f:=λ(b:Nat)=>(List.range a.n).flatMap λ(c:Nat)=>iN a.vR (h b c)) λb _=>by
   have k:=mh 1 (l:=List.range a.n) (f:=λ(c:Nat)=>iN a.vR (h b c)) λc _=>EP _ _;rw[dx]at k;omega
  rw[dx]at j;omega
 have j:=two gR;have k:=two gL;have p:((List.range a.n).flatMap λ(b:Nat)=>(a.Aw b).map gC).length<=16*4913:=by
  have i:=mh 4913 (l:=List.range a.n) (f:=λ(b:Nat)=>(a.Aw b).map gC) λb _=>by
   rw[aG];exact Gj (show a.ev.length<=16 from m) 3 _
  rw[dx]at i;omega
 have q:((List.range a.n).flatMap λ(b:Nat)=>(iw (b+1) a.n).flatMap λ(c:Nat)=>if(a.e b).dT=(a.e c).dT/\mo (a.e b)=true/\mo (a.e c)=true then(List.range a.n).flatMap λ(d:Nat)=>(iw d a.n).flatMap λ(g:Nat)=>iN a.vR (gA b c d g)else []).length<=16*(16*256):=by
  have i:=mh (16*256) (l:=List.range a.n) (f:=λ(b:Nat)=>(iw (b+1) a.n).flatMap λ(c:Nat)=>if(a.e b).dT=(a.e c).dT/\mo (a.e b)=true/\mo (a.e c)=true then(List.range a.n).flatMap λ(d:Nat)=>(iw d a.n).flatMap λ(g:Nat)=>iN a.vR (gA b c d g)else []) λb _=>by
   have r:=mh 256 (l:=iw (b+1) a.n) (f:=λ(c:Nat)=>if(a.e b).dT=(a.e c).dT/\mo (a.e b)=true/\mo (a.e c)=true then(List.range a.n).flatMap λ(d:Nat)=>(iw d a.n).flatMap λ(g:Nat)=>iN a.vR (gA b c d g)else []) λc _=>by
    split
    ·have o:=mh 16 (l:=List.range a.n) (f:=λ(d:Nat)=>(iw d a.n).flatMap λ(g:Nat)=>iN a.vR (gA b c d g)) λd _=>by
      have s:=mh 1 (l:=iw d a.n) (f:=λ(g:Nat)=>iN a.vR (gA b c d g)) λg _=>EP _ _;have:=BS d a.n;omega
     rw[dx]at o;omega
    ·simp
   have:=BS (b+1) a.n;omega
  rw[dx]at i;omega
 omega
structure BI(w:eZ)(h:H)(v:T)(es:List T)(gs:List f6):Prop where
 g:Gr h v 6 es
 a:iB (FT h (λc=>1<=c/\c<h.size/\dS v≠some c) 4) es (gs.map f6.t)
 ok:ig 1 h
 b0:h.get 0=some (dG 15 0 [w.t])
 v0:dS v≠some 0
def BI.step{o:eZ}{m d:H}{n j:T}{g h:List T}{l gs2:List f6}(c:BI o m n g l)(b:Xt m n 6 (g++h) j d)(p:iB (FT d (λf=>1<=f/\f<d.size/\dS j≠some f) 4) h (gs2.map f6.t)):BI o d j (g++h) (l++gs2):=by
 have r:=c.ok.sz;have s:=b.2.2.2.sz;refine⟨b.1,?_,⟨b.2.2.2.hp,b.2.2.2.low,dz⟩,(b.2.1 0 dz c.v0).trans c.b0,λi=>(b.2.2.1 0 i).elim c.v0 dz⟩;rw[List.map_append];exact(c.a.imp λ_ _ q=>q.mono λk e=>⟨⟨e.1,dz,λi=>(b.2.2.1 k i).elim e.2.2 dz⟩,b.2.1 k e.2.1 e.2.2⟩).append p
def abi{d:H}{b:Nat->Prop}{a:f6}(e:a.jJ=[])(c:Nat):FT d b (c+2) (gT a) a.t:=by
 refine .inr (.inr ⟨_,_,rfl,.cons (fQ ..) (.cons (fQ ..) (.cons (fQ ..) (.cons (fQ ..) (.cons (fQ ..) (.cons (jh _ _ _ _) .nil))))),?_⟩);unfold f6.t f6.cs;rw[e];rfl
def BI.put{b:eZ}{f g:H}{h i:T}{d:List T}{e:List f6}{a:f6}(k:BI b f h d e)(j:a.jJ=[])(x:Xt f h 6 (d++if b.gx.vR a=true then [gT a]else []) i g):∃wU,BI b g i wU (e++iN b.gx.vR a):=by
 refine⟨_,k.step x ?_⟩;unfold iN;split
 ·exact .cons (abi j 2) .nil
 ·exact .nil
def BI.len{b:eZ}{g:H}{l:T}{c:List T}{d f:List f6}(k:BI b g l c d)(j:b.dO.length<=16)(i:d++f=b.gx.nV):c.length<=1000000:=by
 have h:=k.a.length;have e:=Ab b.gx j;rw[<-i]at e;simp at h e;omega
def wv:hU:=⟨eZ,λa=>[a.t],λa=>kq a,λa=>sl (a.gx.nV.map f6.t),λc d b=>by simp at b;rw[eZ.inj b]⟩
def ky{a b:Nat}(c:a<b)(d:b<=16):binop .add (dE (a:Int)) (dE 1)=some (dE ((a:Int)+1)):=ik dz dz 
def Gr.abq{a:H}{h:Nat->Prop}{g:T}{j c:Nat}{d e:List T}(f:Gr a g j d)(i:c<=11)(b:iB (FT a h c) d e):TI.qJ a g=some (sl e):=by
 have:=f.Ic i b;rcases f with⟨rfl,rfl⟩|⟨k,l,p,m,q,rfl,n,o⟩
 ·cases b;rfl
 ·rwa[Gb]
def abc{b:eZ}{a:Nat}(c:a<b.dO.length):b.gx.e (a:Int)=b.dO[a]:=by
 unfold GX.e qz wV eZ.gx;simp[c]
def BI.nb{l:eZ}{i j:H}{k:T}{f:List T}{h:List f6}(b:BI l i k f h)(c:Nb i j):BI l j k f h:=by
 have o:=b.ok.sz;have p:=c.ok.sz;exact⟨b.g.mono λe d=>by obtain⟨_,_,_,_,n,_⟩:=b.g.box d;exact c.get e (H.ew n),b.a.imp λ_ _ m=>m.mono λe d=>⟨⟨d.1,dz,d.2.2⟩,c.get e d.2.1⟩,⟨c.ok.hp,c.ok.low,dz⟩,(c.get 0 dz).trans b.b0,b.v0⟩
def h1E:H:=hE.cons (dG 0 0 [])
def gcT(a:T):T:= .agg [dE 2,dE 0,dE 0,dE 0,dE 0,a]
def BI.Gk{j:eZ}{f b:H}{g i a:T}{e:List T}{h:List f6}{c:List Int}(o:BI j f g e h)(p:IK h1E f g a c)(k:Xt f g 6 (e++[gcT a]) i b):BI j b i (e++[gcT a]) (h++[gC c]):=by
 refine o.step k (.cons (.inr (.inr ⟨_,_,rfl,.cons (fQ ..) (.cons (fQ ..) (.cons (fQ ..) (.cons (fQ ..) (.cons (fQ ..) (.cons (?_:FT b _ 3 a (sl (Ah c))) .nil))))),rfl⟩)) .nil);have r2:=p.xt k;exact(show oG b 1 a (Ah c)from .inr r2.1).ft (d:=1) (λr n=>by obtain⟨q,_,rfl⟩:=List.mem_map.1 n;simp) λl m=>r2.2 l m
def Pd:wv.Ok Tryz.prog cx 11:=by
 refine iv (tb:=⟨pt [(28,zO)],ht [(26,jw IPt Us Fo),(27,jw XG (λG m r=>Ot G m r/\5-G.p.length<6) Jo)]⟩) fa eQ (iR 43282986612756070113897410875122319359 [] Tryz.func11) (λ_=>10000) (by simp[wv]) (by simp[wv,Tryz.f11]) ?_;rintro(b:eZ) M c bu;replace M:kq b:=M;simp[wv]at bu|-;have T:=M.ok.len;obtain⟨n,c7⟩:∃n,n=b.dO.length:=⟨_,rfl⟩;have ae:b.gx.nV=((iw 0 n).flatMap λ(m:Nat)=>(iw 0 n).flatMap λ(d:Nat)=>iN b.gx.vR (gR m d))++(((iw 0 n).flatMap λ(m:Nat)=>(b.gx.Aw m).map gC)++(((iw 0 n).flatMap λ(m:Nat)=>(iw 0 n).flatMap λ(d:Nat)=>iN b.gx.vR (gL m d))++
  ((iw 0 n).flatMap λ(m:Nat)=>(iw (m+1) n).flatMap λ(d:Nat)=>if(b.gx.e m).dT=(b.gx.e d).dT/\mo (b.gx.e m)=true/\mo (b.gx.e d)=true then(iw 0 n).flatMap λ(o:Nat)=>(iw o n).flatMap λ(w:Nat)=>iN b.gx.vR (gA m d o w)else []))):=by
  unfold GX.nV;rw[show b.gx.n=n from c7.symm,BR];simp only[aI]
 generalize cb:((iw 0 n).flatMap λ(m:Nat)=>(iw (m+1) n).flatMap λ(d:Nat)=>if(b.gx.e m).dT=(b.gx.e d).dT/\mo (b.gx.e m)=true/\mo (b.gx.e d)=true then(iw 0 n).flatMap λ(o:Nat)=>(iw o n).flatMap λ(w:Nat)=>iN b.gx.vR (gA m d o w)else [])=aE at ae;generalize ca:((iw 0 n).flatMap λ(m:Nat)=>(iw 0 n).flatMap λ(d:Nat)=>iN b.gx.vR (gL m d))++aE=aA at ae;generalize b9:((iw 0 n).flatMap λ(m:Nat)=>(b.gx.Aw m).map gC)++aA=bi at ae;have c6:(b.dO.length:Int)=n:=dz;simp[Tryz.f11,bu,c6];refine nz n (λk c r=>∃h l j,BI b r h l j/\j++(((iw k n).flatMap λ(m:Nat)=>(iw 0 n).flatMap λ(d:Nat)=>iN b.gx.vR (gR m d))++bi)=b.gx.nV/\dH c 1 (.ptr 0 0 0 0)/\dH c 3 h/\dH c 4 (dE n)/\dH c 5 (dE k)) ?_ dz (k:=0) dz ?_
 ·rintro k c r a6 ⟨h,l,j,i,f,t,v,q,s⟩;by_cases z:k<n
  ·have I:=ky z dz;rw[jN z,aQ,aI]at f;simp[q,s,z];refine nz n (λu c r=>∃h l j,BI b r h l j/\j++(((iw u n).flatMap λ(d:Nat)=>iN b.gx.vR (gR k d))++(((iw (k+1) n).flatMap λ(m:Nat)=>(iw 0 n).flatMap λ(d:Nat)=>iN b.gx.vR (gR m d))++bi))=b.gx.nV/\dH c 1 (.ptr 0 0 0 0)/\dH c 3 h/\dH c 4 (dE n)/\dH c 5 (dE k)/\dH c 6 (dE u)) ?_ dz (k:=0) dz ⟨h,l,j,i,f,by simp[t,v,q,s]⟩;rintro u c r bB ⟨h,l,j,i,f,t,v,q,s,A⟩;have S:=i.len T f;by_cases B:u<n
   ·have R:=ky B dz;rw[jN B,aQ,aI,<-aI]at f;simp[t,v,q,s,A,B,i.b0];refine iq Fx dA ⟨b,gR k u,h,l⟩ ⟨rfl,i.g,⟨i.ok.hp,i.ok.low,aw _⟩,M,S,rfl⟩ ?_;rintro Y F x;obtain⟨wU,E⟩:=i.put rfl x;simp[t,q,s,A,R];exact⟨u+1,dz,dz,Y,wU,_,E,f,rfl,dA⟩
   ·rw[kr (show n<=u by omega)]at f;simp[t,v,q,s,A,B,I];exact⟨k+1,dz,dz,h,l,j,i,f,rfl,dA⟩
  ·rw[kr (show n<=k by omega)]at f;simp[q,s,z];clear z s;rw[<-b9]at f;refine nz n (λk c r=>∃h l j,BI b r h l j/\j++(((iw k n).flatMap λ(m:Nat)=>(b.gx.Aw m).map gC)++aA)=b.gx.nV/\dH c 1 (.ptr 0 0 0 0)/\dH c 3 h/\dH c 4 (dE n)/\dH c 7 (dE k)) ?_ dz (k:=0) dz ⟨h,l,j,i,by simpa using f,by simp[t,v,q]⟩;rintro k c r a6 ⟨h,l,j,i,f,t,v,q,s⟩;by_cases z:k<n
   ·have I:=ky z dz;rw[jN z,aQ,aI]at f;simp[t,q,s,z,i.b0];have ea:=i.ok.sz;have bS:=i.ok.cons (dG 1 0 [dE k]);refine iq (aav 6) dA ⟨b,[(k:Int)],.arr r.size 0 0 1 false,dF,[]⟩ ⟨⟨rfl,.inr ⟨r.size,0,0,true,[dE k],rfl,dA,rfl⟩,Gr.nil _ _,λd C=>by simp,⟨bS.hp,bS.low,aw _⟩,M,dA,dA,λy W=> ?_,?_⟩,dA⟩ ?_
    ·rw[List.mem_singleton.1 W];exact fq.2 ⟨dz,dC⟩
    ·have:=Gj (n:=b.gx.ev.length) T (ok:=λp=>b.gx.vR (gC p)) (go:=λp u=> !decide (u∈p)&&b.gx.nK u (kX p)) 3 [(k:Int)];exact aS (Nat.add_le_add_left (show _<=4913 from this) 0) dz
    rintro N F ⟨Q,x,V⟩;replace V:iB (IK (r.cons (dG 1 0 [dE k])) F N) Q (b.gx.Aw k):=V;have ds:(b.gx.Aw k).length<=4913:=Gj (show b.gx.ev.length<=16 from T) 3 _;generalize b.gx.Aw k=P at*
    have bX:=x.2.2.2.sz;simp at bX;have bN:Nb r F:=⟨⟨x.2.2.2.hp,x.2.2.2.low,dz⟩,λo al=>(x.2.1 o dB dA).trans (by rw[dV,ao dz])⟩;have E:=i.nb bN;have a8:∀d,dS h=some d->d<r.size:=λd C=>by obtain⟨_,_,_,_,W,_⟩:=i.g.box C;exact H.ew W
    have bH:Q.length=P.length:=V.length;have U:iB (IK h1E F h) Q P:=V.imp λe D y=>⟨y.1,λo al=>⟨by have:=(y.2 o al).1;simp at this;show 1<=o;omega,(y.2 o al).2.1,λa7=>by have:=(y.2 o al).1;have:=a8 o a7;simp at*;omega⟩⟩;simp;have O:Gr F N 1 Q:=x.1;have J:∀d,dS N=some d->d<F.size/\dS h≠some d:=λd C=>⟨by obtain⟨_,_,_,_,W,_⟩:=x.1.box C;exact H.ew W,λa7=>(x.2.2.1 d C).elim dA (λD=>by have:=a8 d a7;simp at D;omega)⟩;clear x V i bN a8 bX;refine fy P.length dz (λG c r=>∃h l j,BI b r h l j/\j++((P.drop G).map gC++(((iw (k+1) n).flatMap λ(m:Nat)=>(b.gx.Aw m).map gC)++aA))=b.gx.nV/\Gr r N 1 Q/\(∀d,dS N=some d->d<r.size/\dS h≠some d)/\iB (IK h1E r h) Q P/\dH c 1 (.ptr 0 0 0 0)/\dH c 3 h/\dH c 4 (dE n)/\dH c 7 (dE k)/\dH c 8 N/\dH c 9 (dE G)) ?_ ?_ dz ⟨h,l,j,E,f,O,J,U,by simp[t,v,q,s]⟩
    ·rintro G c r aX c1 ⟨h,l,j,i,f,O,J,U,t,v,q,s,L,aN⟩;have S:=i.len T f;rw[aJ aX,aV,cG,<-List.singleton_append,<-aI]at f;obtain⟨e,c4,av⟩:=U.get (k:=G) (y:=P[G]) (az aX);have X:=λt:H=>O.len (cx:=cx) t IZ _ rfl;rw[bH]at X;obtain⟨bT,b7,b8⟩:=(show oG r 1 N Q from .inr O).idx (te:=nH) rfl rfl c4 av.1.cells;have c9:ig 0 r:=⟨i.ok.hp,i.ok.low,aw _⟩;obtain⟨di,F,bp,Z⟩:=i.g.wh (cx:=cx) c9 Kj rfl Ki rfl dA (x:=gcT e) rfl dB;have E:=i.Gk av Z;unfold gcT at bp;have dv:=i.ok.low;simp[t,v,q,s,L,aN,X,aX,b7,b8,av.1.il,av.1.cells,bp,c1];rw[aI]at f;exact⟨di,l++[gcT e],j++[gC P[G]],E,by simpa using f,O.mono λd C=>Z.2.1 d (J d C).1 (J d C).2,λd C=>⟨by have:=Z.2.2.2.sz;have:=(J d C).1;omega,λD=>(Z.2.2.1 d D).elim (J d C).2 (by have:=(J d C).1;omega)⟩,U.imp λ_ _ y=>y.xt Z,rfl⟩
    ·rintro c r ⟨h,l,j,i,f,O,J,U,t,v,q,s,L,aN⟩;have X:=λt:H=>O.len (cx:=cx) t IZ _ rfl;rw[bH]at X;simp[t,v,q,s,L,aN,X,I];refine⟨k+1,dz,dz,h,l,j,i,by simpa using f,rfl,dA⟩
   ·rw[kr (show n<=k by omega)]at f;simp[q,s,z];clear z s;rw[<-ca]at f;refine nz n (λk c r=>∃h l j,BI b r h l j/\j++(((iw k n).flatMap λ(m:Nat)=>(iw 0 n).flatMap λ(d:Nat)=>iN b.gx.vR (gL m d))++aE)=b.gx.nV/\dH c 1 (.ptr 0 0 0 0)/\dH c 3 h/\dH c 4 (dE n)/\dH c 10 (dE k)) ?_ dz (k:=0) dz ⟨h,l,j,i,by simpa using f,by simp[t,v,q]⟩;rintro k c r a6 ⟨h,l,j,i,f,t,v,q,s⟩;by_cases z:k<n
    ·have I:=ky z dz;rw[jN z,aQ,aI]at f;simp[q,s,z];refine nz n (λu c r=>∃h l j,BI b r h l j/\j++(((iw u n).flatMap λ(d:Nat)=>iN b.gx.vR (gL k d))++(((iw (k+1) n).flatMap λ(m:Nat)=>(iw 0 n).flatMap λ(d:Nat)=>iN b.gx.vR (gL m d))++aE))=b.gx.nV/\dH c 1 (.ptr 0 0 0 0)/\dH c 3 h/\dH c 4 (dE n)/\dH c 10 (dE k)/\dH c 11 (dE u)) ?_ dz (k:=0) dz ⟨h,l,j,i,f,by simp[t,v,q,s]⟩;rintro u c r bB ⟨h,l,j,i,f,t,v,q,s,A⟩;have S:=i.len T f;by_cases B:u<n
     ·have R:=ky B dz;rw[jN B,aQ,aI,<-aI]at f;simp[t,v,q,s,A,B,i.b0];refine iq Fx dA ⟨b,gL k u,h,l⟩ ⟨rfl,i.g,⟨i.ok.hp,i.ok.low,aw _⟩,M,S,rfl⟩ ?_;rintro Y F x;obtain⟨wU,E⟩:=i.put rfl x;simp[t,q,s,A,R];exact⟨u+1,dz,dz,Y,wU,_,E,f,rfl,dA⟩
     ·rw[kr (show n<=u by omega)]at f;simp[t,v,q,s,A,B,I];exact⟨k+1,dz,dz,h,l,j,i,f,rfl,dA⟩
    ·rw[kr (show n<=k by omega)]at f;simp[q,s,z];clear z s;rw[<-cb]at f;refine nz n (λk c r=>∃h l j,BI b r h l j/\j++((iw k n).flatMap λ(m:Nat)=>(iw (m+1) n).flatMap λ(d:Nat)=>if(b.gx.e m).dT=(b.gx.e d).dT/\mo (b.gx.e m)=true/\mo (b.gx.e d)=true then(iw 0 n).flatMap λ(o:Nat)=>(iw o n).flatMap λ(w:Nat)=>iN b.gx.vR (gA m d o w)else [])=b.gx.nV/\dH c 1 (.ptr 0 0 0 0)/\dH c 3 h/\dH c 4 (dE n)/\dH c 12 (dE k)) ?_ dz (k:=0) dz ⟨h,l,j,i,by simpa using f,by simp[t,v,q]⟩;rintro k c r a6 ⟨h,l,j,i,f,t,v,q,s⟩;by_cases z:k<n
     ·have I:=ky z dz;rw[jN z,aQ]at f;simp[q,s,z,I];generalize cp:((iw (k+1) n).flatMap λ(m:Nat)=>(iw (m+1) n).flatMap λ(d:Nat)=>if(b.gx.e m).dT=(b.gx.e d).dT/\mo (b.gx.e m)=true/\mo (b.gx.e d)=true then(iw 0 n).flatMap λ(o:Nat)=>(iw o n).flatMap λ(w:Nat)=>iN b.gx.vR (gA m d o w)else [])=bn at f;refine nz n (λu c r=>k<u/\∃h l j,BI b r h l j/\j++(((iw u n).flatMap λ(d:Nat)=>if(b.gx.e k).dT=(b.gx.e d).dT/\mo (b.gx.e k)=true/\mo (b.gx.e d)=true then(iw 0 n).flatMap λ(o:Nat)=>(iw o n).flatMap λ(w:Nat)=>iN b.gx.vR (gA k d o w)else [])++bn)=b.gx.nV/\dH c 1 (.ptr 0 0 0 0)/\dH c 3 h/\dH c 4 (dE n)/\dH c 12 (dE k)/\dH c 13 (dE u)) ?_ dz (k:=k+1) dz ⟨dz,h,l,j,i,f,by simp[t,v,q,s]⟩;rintro u c r bB ⟨dn,h,l,j,i,f,t,v,q,s,A⟩;by_cases B:u<n
      ·have R:=ky B dz;have bC:k<b.dO.length:=dz;have bz:u<b.dO.length:=dz;rw[jN B,aQ,aI]at f;generalize bs:((iw (u+1) n).flatMap λ(d:Nat)=>if(b.gx.e k).dT=(b.gx.e d).dT/\mo (b.gx.e k)=true/\mo (b.gx.e d)=true then(iw 0 n).flatMap λ(o:Nat)=>(iw o n).flatMap λ(w:Nat)=>iN b.gx.vR (gA k d o w)else [])++bn=bk at f;rw[abc bC,abc bz]at f;simp[t,q,s,A,B,i.b0,bC,bz,Gz];refine ee (λD=> ?_) (λD=> ?_)
       ·rw[ao (by rintro⟨bT,dd,de⟩;simp[bT,dd,de]at D)]at f;simp[t,v,q,s,A,R];rw[cD,<-bs]at f;exact⟨u+1,dz,dz,dz,h,l,j,i,f,rfl,dA⟩
       ·rw[aq (by simp at D;exact⟨D.1.1,D.1.2,D.2⟩)]at f;simp;refine nz n (λo c r=>∃h l j,BI b r h l j/\j++(((iw o n).flatMap λ(o:Nat)=>(iw o n).flatMap λ(w:Nat)=>iN b.gx.vR (gA k u o w))++bk)=b.gx.nV/\dH c 1 (.ptr 0 0 0 0)/\dH c 3 h/\dH c 4 (dE n)/\dH c 12 (dE k)/\dH c 13 (dE u)/\dH c 14 (dE o)) ?_ dz (k:=0) dz ⟨h,l,j,i,f,by simp[t,v,q,s,A]⟩;rintro o c r dk ⟨h,l,j,i,f,t,v,q,s,A,K⟩;by_cases an:o<n
        ·have cL:=ky an dz;rw[jN an,aQ,aI]at f;simp[q,K,an];generalize ce:((iw (o+1) n).flatMap λ(o:Nat)=>(iw o n).flatMap λ(w:Nat)=>iN b.gx.vR (gA k u o w))++bk=b6 at f;refine nz n (λw c r=>∃h l j,BI b r h l j/\j++(((iw w n).flatMap λ(w:Nat)=>iN b.gx.vR (gA k u o w))++b6)=b.gx.nV/\dH c 1 (.ptr 0 0 0 0)/\dH c 3 h/\dH c 4 (dE n)/\dH c 12 (dE k)/\dH c 13 (dE u)/\dH c 14 (dE o)/\dH c 15 (dE w)) ?_ dz (k:=o) dz ⟨h,l,j,i,f,by simp[t,v,q,s,A,K]⟩;rintro w c r dm ⟨h,l,j,i,f,t,v,q,s,A,K,L⟩;have S:=i.len T f;by_cases ap:w<n
         ·have cX:=ky ap dz;rw[jN ap,aQ,aI,<-aI]at f;simp[t,v,q,s,A,K,L,ap,i.b0];refine iq Fx dA ⟨b,gA k u o w,h,l⟩ ⟨rfl,i.g,⟨i.ok.hp,i.ok.low,aw _⟩,M,S,rfl⟩ ?_;rintro Y F x;obtain⟨wU,E⟩:=i.put rfl x;simp[t,q,s,A,K,L,cX];exact⟨w+1,dz,dz,Y,wU,_,E,f,rfl,dA⟩
         ·rw[kr (show n<=w by omega)]at f;simp[t,v,q,s,A,K,L,ap,cL];exact⟨o+1,dz,dz,h,l,j,i,by rw[ce];exact f,rfl,dA⟩
        ·rw[kr (show n<=o by omega)]at f;simp[t,v,q,s,A,K,an,R];exact⟨u+1,dz,dz,dz,h,l,j,i,by rw[bs];exact f,rfl,dA⟩
      ·rw[kr (show n<=u by omega)]at f;simp[t,v,q,s,A,B,I];exact⟨k+1,dz,dz,h,l,j,i,by rw[cp];exact f,rfl,dA⟩
     ·rw[kr (show n<=k by omega)]at f;simp[v,q,s,z];rw[cj,bL]at f;rw[Qa h i.g.il,Gr.abq i.g dz i.a,f];exact⟨i.ok.hp,rfl⟩
 ·exact⟨dF,[],[],⟨Gr.nil _ _,.nil,by exact⟨dA,dA,dA⟩,dA,dA⟩,ae.symm,dA⟩
def Ms:qI.Ok Tryz.prog cx 122:=by
 refine iv (tb:=⟨pt [],ht []⟩) fa eQ (iR 19 [] Tryz.func122) (λf=>1) (by simp[qI]) (by simp[qI,Tryz.f122]) ?_;rintro⟨e,g⟩ _ h a;simp[qI]at a|-;obtain⟨b,c⟩:=a;by_cases d:0<=e<;>simp[Tryz.f122,b,c,d,je]
def y9{c:fJ}(ht:c.p 122=some qI)(a:Int)(b:Nat):rl Tryz.prog cx c 122 [dE a,dE b]=some (.bool (je a b)):=im ht Ms (a,b) trivial
def zJ:hU:=⟨d8×fH,λa=>[a.1.t,a.2.t],λa=>mQ a.1 a.2=true/\a.1.gW.length<=1000000,λa=> .bool true,λa b c=>rfl⟩
def Sj:zJ.Ok Tryz.prog cx 121:=by
 refine iv (tb:=⟨pt [(122,qI)],ht []⟩) fa eQ (iR 35315368591455 [] Tryz.func121) (λv=>1000005) (by simp[zJ]) (by simp[zJ,Tryz.f121]) ?_;rintro⟨e,w⟩ ⟨h,r⟩ a l;simp only at h r;simp[zJ]at l|-;obtain⟨o,p⟩:=l;obtain⟨l1,l2,l3⟩:=oD h;simp[Tryz.f121,o,p,l1,l2,l3];refine fy e.gW.length dz (λn a d=>ig 2 d/\d.get 0=some (dG 6 0 [e.t])/\dH a 2 (.ptr 0 0 0 0)/\dH a 33 (sl (e.gW.map iU.t))/\dH a 34 (dE e.gW.length)/\dH a 35 (dE n)) ?_ ?_ dz ⟨by exact⟨dA,dA,dA⟩,dA⟩
 ·rintro n a d m q ⟨c,i,j,k,f,g⟩;have s:=r7 h (az m);have u:=c.ne (b:=0) dz;simp[i,j,k,f,g,m,u,c.low,y9,s,q];exact c.cons _
 ·rintro a d ⟨c,i,j,k,f,g⟩;simp[f,g,c.hp]
def tZ:hU:=⟨d8×Int×Int,λa=>[a.1.t,dE a.2.1,dE a.2.2],λa=>jQ a.1 a.2.1 a.2.2=true,λa=> .bool true,λa b c=>rfl⟩
def MP:tZ.Ok Tryz.prog cx 123:=by
 refine iv (tb:=⟨pt [(122,qI)],ht []⟩) fa eQ (iR 606826398900554784047567 [] Tryz.func123) (λl=>1) (by simp[tZ]) (by simp[tZ,Tryz.f123]) ?_;rintro⟨k,a,j⟩ b m f;replace b:jQ k a j=true:=b;simp[tZ]at f|-;obtain⟨c,d,e⟩:=f;have hr:=uc b;have g:a=1\/a=2\/a=3\/a=4\/a=5\/a=6\/a=7\/a=8\/a=9\/a=10\/a=11\/a=12\/a=13\/a=14\/a=15\/a=16\/a=17\/a=18\/a=19\/a=20\/a=21\/a=22\/a=23:=dz;rcases g with rfl|rfl|rfl|rfl|rfl|rfl|rfl|rfl|rfl|rfl|rfl|rfl|rfl|rfl|rfl|rfl|rfl|rfl|rfl|rfl|rfl|rfl|rfl
 case inr.inr.inr.inr.inr.inl|inr.inr.inr.inr.inr.inr.inl|inr.inr.inr.inr.inr.inr.inr.inl|inr.inr.inr.inr.inr.inr.inr.inr.inl|inr.inr.inr.inr.inr.inr.inr.inr.inr.inl|inr.inr.inr.inr.inr.inr.inr.inr.inr.inr.inl=>
  have hl:=kV b dz;obtain⟨n,h,i⟩:=iI hl;simp[jQ,i]at b;simp[Tryz.f123,c,d,e,y9,hl,h,b,eK (fq.1 hl).1]
 all_goals
  simp[jQ]at b;simp[Tryz.f123,c,d,e,y9,b]
def Hx:nO Tryz.prog cx 132 (λb:List Int×Int=>[sl (b.1.map (T.int .i64)),dE b.2]) (λb=>b.1.length<=1000000) (λb r=>∃o,r= dE o/\(0<=o↔b.2∈b.1)):=by
 refine jt (tb:=⟨pt [],ht []⟩) fa eQ (iR 66483 [] Tryz.func132) (λ_=>1000005) (λb s a=>by simp at a;exact aR (jD (λ_ _ a=>by simpa using a) a.1) a.2) dA (by simp[Tryz.f132]) ?_;rintro⟨f,p⟩ hl c m;replace hl:f.length<=1000000:=hl;simp at m;obtain⟨d,e⟩:=m;simp[Tryz.f132,d];refine fy f.length dz (λl c a=>a=hE/\p∉f.take l/\dH c 0 (sl (f.map (T.int .i64)))/\dH c 1 (dE p)/\dH c 7 (dE f.length)/\dH c 8 (dE l)) ?_ ?_ dz (by simp[d,e])
 ·rintro l c a j q ⟨rfl,k,d,e,h,i⟩;simp[d,e,h,i,j];refine ee (λg=> ?_) (λg=> ?_)
  ·simp at g;simp;subst g;exact aC j
  ·simp at g;simp[d,e,h,i,q];intro n;rw[aZ j,List.mem_append,List.mem_singleton]at n;exact n.elim k g
 ·rintro c a ⟨rfl,k,d,e,h,i⟩;simp[h,i];simpa using k
def pB:hU:=⟨List Int×Int,λa=>[sl (a.1.map (T.int .i64)),dE a.2],λa=>a.1.length<=1000000,λa=> .bool (decide (a.2∈a.1)),λa c b=>by simp at b;rw[jD (λ_ _ b=>by simpa using b) b.1,b.2]⟩
def JC:pB.Ok Tryz.prog cx 89:=by
 refine iv (tb:=⟨pt [(132,Hx.jv)],ht []⟩) fa eQ (iR 19 [] Tryz.func89) (λh=>1) (by simp[pB]) (by simp[pB,Tryz.f89]) ?_;rintro⟨b,g⟩ hl j a;replace hl:b.length<=1000000:=hl;simp[pB]at a|-;obtain⟨d,e⟩:=a;obtain⟨_,⟨i,rfl,f⟩,c⟩:=Hx.use (b,g) hl;simp[Tryz.f89,d,e,c];exact f
def Ax{c:fJ}(ht:c.p 89=some pB)(a:List Int)(b:Int)(hl:a.length<=1000000):rl Tryz.prog cx c 89 [sl (a.map (T.int .i64)),dE b]=some (.bool (decide (b∈a))):=im ht JC (a,b) hl
structure EnF(w:d8)(s:fH)(t k o:Int):Prop where
 f:mQ w s=true
 th:je t w.dK.length=true
 n:jQ w k o=true
 e:BA w s t k o=true
 c:w.gW.length<=1000000
 r:∀l∈s.em,l.eJ.length<=1000000
def wq:hU:=⟨d8×fH×Int×Int×Int,λa=>[a.1.t,a.2.1.t,dE a.2.2.1,dE a.2.2.2.1,dE a.2.2.2.2],λa=>EnF a.1 a.2.1 a.2.2.1 a.2.2.2.1 a.2.2.2.2/\a.2.2.2.1≠1/\a.2.2.2.1≠17,λa=> .bool true,λa b c=>rfl⟩
def OY:wq.Ok Tryz.prog cx 124:=by
 refine iv (tb:=⟨pt [(89,pB)],ht []⟩) fa eQ (iR 5868843906288553182383292937158044313155908148351 [] Tryz.func124) (λx=>1) (by simp[wq]) (by simp[wq,Tryz.f124]) ?_;rintro⟨F,C,D,a,B⟩ ⟨⟨g,ht,h,b,u,hr⟩,v,w⟩ E m;simp only at g ht h b u hr v w;simp[wq]at m|-;obtain⟨d,e,i,f,j⟩:=m;have A:=uc h;obtain⟨l1,l2,l3⟩:=oD g;have c:a=2\/a=3\/a=4\/a=5\/a=12\/a=13\/(a=6\/a=7\/a=8\/a=9\/a=10\/a=11)\/(a=14\/a=15)\/(a=16\/a=18\/a=19)\/(a=20\/a=21)\/(a=22\/a=23):=dz;rcases c with rfl|rfl|rfl|rfl|rfl|rfl|c|c|c|c|c
 case inr.inr.inr.inr.inr.inr.inl=>
  obtain⟨k,a1,a2,a3⟩:=sR g (kV h dz);have hl:=hr k (ax a2);rcases c with rfl|rfl|rfl|rfl|rfl|rfl<;>simp[BA,a3]at b<;>simp[Tryz.f124,d,e,i,f,j,a1,a2,b,Ax,hl]
 case inr.inr.inr.inr.inr.inr.inr.inl=>
  obtain⟨k,a1,a2,a3⟩:=xy g ht;rcases c with rfl|rfl<;>simp[BA,a3]at b<;>simp[Tryz.f124,d,e,i,f,a1,a2,b]
 case inr.inr.inr.inr.inr.inr.inr.inr.inl=>
  obtain⟨y,k,n,o,p,q,r⟩:=BC g (oo h dz);rcases c with rfl|rfl|rfl<;>simp[BA,r]at b<;>simp[Tryz.f124,d,e,i,f,j,n,o,p,q,b]
 case inr.inr.inr.inr.inr.inr.inr.inr.inr.inl=>
  obtain⟨k,a1,a2,a3⟩:=xy g (wG h dz);rcases c with rfl|rfl<;>simp[BA,a3]at b<;>simp[Tryz.f124,d,e,i,f,j,a1,a2,b]
 case inr.inr.inr.inr.inr.inr.inr.inr.inr.inr=>
  have l:=rx h dz;rw[<-l2]at l;obtain⟨z,s,t⟩:=iI l;rcases c with rfl|rfl<;>simp[BA,C4,t]at b<;>simp[Tryz.f124,d,e,f,j,s,b,eK (fq.1 l).1]
 all_goals
  simp[BA]at b;simp[Tryz.f124,d,e,i,f,b]
def pA:hU:=⟨d8×fH×Int×Int×Int,λa=>[a.1.t,a.2.1.t,dE a.2.2.1,dE a.2.2.2.1,dE a.2.2.2.2],λa=>EnF a.1 a.2.1 a.2.2.1 a.2.2.2.1 a.2.2.2.2,λa=> .bool true,λa b c=>rfl⟩
def JB:pA.Ok Tryz.prog cx 79:=by
 refine iv (tb:=⟨pt [(121,zJ),(122,qI),(123,tZ),(124,wq)],ht []⟩) fa eQ (iR 4605278686335 [] Tryz.func79) (λF=>1) (by simp[pA]) (by simp[pA,Tryz.f79]) ?_;rintro⟨c,e,k,b,d⟩ f I n;replace f:EnF c e k b d:=f;obtain⟨j,ht,o,a,D,hr⟩:=id f;simp[pA]at n|-;obtain⟨B,C,l,m,i⟩:=n;have y:∀{tb:fJ},tb.p 121=some zJ->rl Tryz.prog cx tb 121 [c.t,e.t]=some (.bool true):=λht=>im ht Sj (c,e) ⟨j,D⟩;have z:∀{tb:fJ},tb.p 123=some tZ->rl Tryz.prog cx tb 123 [c.t,dE b,dE d]=some (.bool true):=λht=>im ht MP (c,b,d) o;obtain⟨q,a1,a2,a3⟩:=xy j ht;simp[Tryz.f79,B,C,l,m,i,y,z,y9,ht,a1,a2];by_cases g:b=1
 ·subst g;simp[BA,a3]at a;simp[a]
 by_cases h:b=17
 ·subst h;obtain⟨G,H,s,u,v,w,x⟩:=BC j (oo o dz);simp[BA,a3,x]at a;simp[i,a,s,u,v,w]
 have A:∀{tb:fJ},tb.p 124=some wq->rl Tryz.prog cx tb 124 [c.t,e.t,dE k,dE b,dE d]=some (.bool true):=λht=>im ht OY (c,e,k,b,d) ⟨f,g,h⟩;have E:q.iL=2:=by
  unfold BA at a;rw[ao g,ao h,a3]at a;by_cases r:q.iL=2
  ·exact r
  ·rw[aq r]at a;simp at a
 simp[l,m,i,g,h,E,A]
def Nk{a:fJ}(ht:a.p 79=some pA){w:d8}{s:fH}{t k o:Int}(b:EnF w s t k o):rl Tryz.prog cx a 79 [w.t,s.t,dE t,dE k,dE o]=some (.bool true):=im ht JB (w,s,t,k,o) b
end
noncomputable section
open Go Go.TI
attribute [-simp] List.map_take List.map_drop List.map_append
def mO(c:Nat)(b:List Int):Bool:=b.all λa=>je a c
def oL:hU:=⟨fI×List Int,λa=>[a.1.t,sl (a.2.map (T.int .i64))],λa=>a.2.length<=1099511627776,λa=> .bool (mO a.1.w.dO.length a.2),λa c b=>by simp at b;rw[fI.inj b.1,jD dA b.2]⟩
def OP:oL.Ok Tryz.prog cx 51:=by
 refine iv (tb:=⟨pt [],ht []⟩) fa eQ (iR 4196311 [] Tryz.func51) (λo=>o.2.length+1) (by simp[oL]) (by simp[oL,Tryz.f51]) ?_;rintro⟨e,b⟩ hl d m;simp[oL]at hl m|-;obtain⟨p,q⟩:=m;simp[Tryz.f51,p,q];refine fy b.length dz (λc d j=>j=H.cons hE (dG 16 0 [e.t])/\dH d 2 (.ptr 0 0 0 0)/\dH d 7 (sl (b.map (T.int .i64)))/\dH d 8 (dE b.length)/\dH d 9 (dE c)/\mO e.w.dO.length (b.drop c)=mO e.w.dO.length b) ?_ ?_ dz dA
 ·rintro c d j i r ⟨rfl,k,h,f,g,a⟩;rw[aJ i]at a;simp only[mO,cE]at a;by_cases l:b[c]<0
  ·have:je b[c] e.w.dO.length=false:=by simp[je];omega
   rw[this,Bool.false_and]at a;simp[h,f,g,i,l,mO,a.symm]
  ·by_cases n:(e.w.dO.length:Int)<=b[c]
   ·have:je b[c] e.w.dO.length=false:=by simp[je];omega
    rw[this,Bool.false_and]at a;simp[k,h,f,g,i,l,n,mO,a.symm]
   ·have:je b[c] e.w.dO.length=true:=by simp[je];omega
    rw[this,bP]at a;simp[k,h,f,g,i,r,l,n,mO,a]
 ·rintro d j ⟨rfl,k,h,f,g,a⟩;simp[mO]at a;simp[f,g,mO];exact a
def Gx{c:fJ}(ht:c.p 51=some oL)(b:fI)(a:List Int)(hl:a.length<=1099511627776):rl Tryz.prog cx c 51 [b.t,sl (a.map (T.int .i64))]=some (.bool (mO b.w.dO.length a)):=im ht OP (b,a) hl
def sa{d:fJ}(ht:d.p 51=some oL)(a:fI)(b c:Int):rl Tryz.prog cx d 51 [a.t,sl [dE b,dE c]]=some (.bool (je b a.w.dO.length&&je c a.w.dO.length)):=by
 have:=Gx ht a [b,c] dA;simpa[mO]using this
def AL(a:eZ)(b c:Int):Bool:=je b a.dO.length&&je c a.dO.length&&decide (b<c)&&kC (qz a.dO b) (qz a.dO c)&& !decide ((qz a.dO b).dT=(qz a.dO c).dT)&& !((wV a.fj.cells (qz a.dO b).obj).getD default).tJ
def GN(b:eZ):Prop:=∀a∈b.dO,mo a=true->je a.obj b.fj.cells.length=true
def xz:hU:=⟨fI×Int×Int,λa=>[a.1.t,dE a.2.1,dE a.2.2],λa=>GN a.1.w,λa=> .bool (AL a.1.w a.2.1 a.2.2),λa c b=>by simp at b;rw[fI.inj b.1,b.2.1,b.2.2]⟩
def R8:xz.Ok Tryz.prog cx 48:=by
 refine iv (tb:=⟨pt [(51,oL),(87,qT)],ht []⟩) fa eQ (iR 67109327 [(3,[(8,14),(10,14),(11,14)])] Tryz.func48) (λb=>1) (by simp[xz]) (by simp[xz,Tryz.f48]) ?_;rintro⟨j,d,e⟩ r E c;simp[xz]at r c|-;obtain⟨g,h,i⟩:=c;cases l:(je d j.w.dO.length&&je e j.w.dO.length)with
 |false=>simp[Tryz.f48,g,h,i,sa,l,AL,gH]
 |true=>
  have a:=l;rw[aB]at a;obtain⟨b,c,t⟩:=iI a.1;obtain⟨k,v,x⟩:=iI a.2;have A:=eK (fq.1 a.1).1;have B:=eK (fq.1 a.2).1;have n:qz j.w.dO d=b:=by simp[qz,t]
  have o:qz j.w.dO e=k:=by simp[qz,x]
  by_cases m:e<=d
  ·have:¬d<e:=dz;simp[Tryz.f48,g,h,i,sa,l,m,AL,gH,this]
  ·have p:d<e:=dz;cases f:kC b k with
   |false=>simp[Tryz.f48,g,h,i,sa,m,AL,gH,p,BF,a.1,a.2,n,o,f]
   |true=>
    have u:mo b=true:=by unfold kC at f;simp at f;exact f.1.1.1
    have q:=r b (ax c) u;obtain⟨D,y,z⟩:=iI q;have s:=eK (fq.1 q).1;cases C:decide (b.dT=k.dT)<;>
     simp[Tryz.f48,g,h,i,sa,m,AL,gH,p,BF,a.1,a.2,n,o,f,C,A,B,c,v,y,z,s,kU]
def Xe{d:fJ}(ht:d.p 48=some xz)(a:fI)(b c:Int)(e:GN a.w):rl Tryz.prog cx d 48 [a.t,dE b,dE c]=some (.bool (AL a.w b c)):=im ht R8 (a,b,c) e
end
noncomputable section
open Go Go.TI
attribute [-simp] List.map_take List.map_drop List.map_append fG fg ei Bool.not_or Bool.not_and
attribute [simp] fF fh
attribute [-simp] size_cons
structure wX(x:fI):Prop where
 w:kq x.w
 s:x.BT=x.w.gx.st
def wX.st{a:fI}(c:wX a){e:Int}(d:je e a.w.dO.length=true):∃b,a.BT[e.toNat]? =some b/\a.w.gx.s e=b/\mQ a.w.fj b=true/\(∀h∈b.em,h.eJ.length<=2000):=by
 obtain⟨f,i⟩:=c.w.ok.s d;have g:=c.w.ok.st (fq.1 d).2;refine⟨_,by rw[c.s];exact g,f,by rw[<-f];exact i,by rw[<-f];exact(c.w.rd d).1⟩
def oP:hU:=⟨fI×Int×Int,λa=>[a.1.t,dE a.2.1,dE a.2.2],λa=>wX a.1/\je a.2.1 a.1.w.dO.length=true/\je a.2.2 a.1.w.dO.length=true,λa=> .bool (a.1.w.gx.qB a.2.1 a.2.2),λa c b=>by simp at b;rw[fI.inj b.1,b.2.1,b.2.2]⟩
def ML:oP.Ok Tryz.prog cx 55:=by
 refine iv (tb:=⟨pt [(88,wn),(89,pB)],ht []⟩) fa eQ (iR 36051629065113551 [(1,[(8,14),(10,14),(11,14)])] Tryz.func55) (λ_=>10) (by simp[oP]) (by simp[oP,Tryz.f55]) ?_;rintro⟨f,i,h⟩ ⟨p,u,A⟩ Z z;simp only at p u A;simp[oP]at z|-;obtain⟨M,k,N⟩:=z;obtain⟨v,L,j,y,X,Y⟩:=p.w.at u;obtain⟨c,I,J,K,W,n⟩:=p.w.at A;obtain⟨D,r,S,s,T⟩:=p.st u;have a:=GX.nK.eq_1 f.w.gx i h;rw[K,y,S,show f.w.gx.w=f.w.fj from rfl]at a;have t:f.w.gx.qB i h=(qr v.kind&&f.w.gx.nK i h):=by rw[<-y];rfl
 generalize f.w.gx.qB i h=C at*
 generalize f.w.gx.nK i h=U at*
 simp[Tryz.f55,M,k,N,I,J,L,j,Tm,kU];refine ee (λl=> ?_) (λl=> ?_)
 ·have:C=false:=by
   rw[t];cases P:qr v.kind with
   |false=>rfl
   |true=>
    rw[P]at l;have ht:c.dT=v.dT:=by simpa using l
    rw[aq ht]at a;rw[a];rfl
  simp[this]
 simp only[bM,bZ,bw]at l;obtain⟨O,Q⟩:=l;rw[Q,bP]at t;subst t;rw[ao O]at a;simp;have o:∀b:ed,b∈D.em->b.eJ.length<=1000000:=λb hl=>by have:=T b hl;omega
 cases B:decide (c.kind=6)with
 |true=>
  have d:c.kind=6:=by simpa using B
  obtain⟨b,l1,l2,l3⟩:=sR s (kV n dz);have hl:=o b (ax l2);rw[aq (.inl d),l3]at a;simp[k,l1,l2,r,j,Ax,hl,a]
 |false=>
  cases e:decide (c.kind=10)with
  |true=>
   have d:c.kind=10:=by simpa using e
   obtain⟨b,l1,l2,l3⟩:=sR s (kV n dz);have hl:=o b (ax l2);rw[aq (.inr d),l3]at a;simp[k,e,l1,l2,r,j,Ax,hl,a]
  |false=>
   have R:¬(c.kind=6\/c.kind=10):=by simp at B e;omega
   rw[ao R]at a;cases g:decide (c.kind=8)with
   |true=>
    have d:c.kind=8:=by simpa using g
    obtain⟨b,l1,l2,l3⟩:=sR s (kV n dz);rw[aq d,l3]at a;have hl:=o b (ax l2);simp[k,e,g,l1,l2,r,j,a]
   |false=>
    rw[ao (by simpa using g)]at a;cases m:decide (c.kind=17)with
    |true=>
     have d:c.kind=17:=by simpa using m
     obtain⟨V,b,E,F,G,x,H⟩:=BC s (oo n dz);rw[aq d,H]at a;have hl:=o b (ax x);simp[k,e,g,m,E,F,G,x,r,j,a]
    |false=>
     rw[ao (by simpa using m)]at a;cases q:decide (c.kind=21)with
     |true=>
      rw[aq (by simpa using q)]at a;simp[e,g,m,q,a]
     |false=>
      rw[ao (by simpa using q)]at a;simp[e,g,m,q,a]
def zx:hU:=⟨fI×Int×Int,λa=>[a.1.t,dE a.2.1,dE a.2.2],λa=>wX a.1,λa=> .bool ((je a.2.1 a.1.w.dO.length&&je a.2.2 a.1.w.dO.length)&&a.1.w.gx.PR a.2.1 a.2.2),λa c b=>by simp at b;rw[fI.inj b.1,b.2.1,b.2.2]⟩
def Sb:zx.Ok Tryz.prog cx 50:=by
 refine iv (tb:=⟨pt [(51,oL)],ht []⟩) fa eQ (iR 1238093369775042453301102031 [(3,[(8,14),(10,14),(11,14)])] Tryz.func50) (λ_=>100) (by simp[zx]) (by simp[zx,Tryz.f50]) ?_;rintro⟨f,a,b⟩ p h J;replace p:wX f:=p;simp[zx]at J|-;obtain⟨D,i,u⟩:=J;cases z:(je a f.w.dO.length&&je b f.w.dO.length)with
 |false=>simp[Tryz.f50,D,i,u,sa,z,gH]
 |true=>
  have N:=z;rw[aB]at N;obtain⟨G,K⟩:=N;obtain⟨H,a1,a2,a3,a4,a5⟩:=p.w.at G;obtain⟨A,I,a7,R,T,a8⟩:=p.w.at K;obtain⟨S,O,av,aA,bH⟩:=p.st G;obtain⟨P,aN,aX,a6⟩:=xy aA T;have d:=GX.PR.eq_1 f.w.gx a b;rw[a3,R,av,a6]at d;generalize f.w.gx.PR a b=Q at*
  obtain⟨e,rfl,bu⟩:=kq.nat G;obtain⟨c,rfl,bB⟩:=kq.nat K;have bC:=p.w.ok.len;rw[cJ]at a1 I O;by_cases bz:c<e;rotate_left
  ·rw[aP (show¬(c:Int)<e by omega)]at d;simp[Tryz.f50,D,i,u,sa,z,gH,d,show e<=c by omega]
  have X:=GC f.w.gx (lo:=(c:Int)+1) (hi:=e) (a:=c+1) (b:=e) (λo=> !decide (o.dT=A.dT)) dz rfl;rw[X,show f.w.gx.ev=f.w.dO from rfl,aY (show(c:Int)<e by omega)]at d;have W:binop .add (dE (c:Int)) (dE 1)=some (dE ((c:Int)+1)):=ik dz dz;have aE:kj ((c:Int)+1)=some (c+1):=by have:=eK (show(0:Int)<=((c+1:Nat):Int)by omega);simpa using this
  simp[Tryz.f50,D,i,u,sa,z,gH,show¬e<=c by omega,a1,I,kU];refine ee (λs=> ?_) (λs=> ?_)
  ·have:Q=false:=by
    rw[cv];intro g;rw[d]at g;simp only[aB,bV,aK,bR,bw]at g s;obtain⟨⟨⟨⟨⟨⟨⟨_,bn⟩,U⟩,r⟩,l⟩,bp⟩,bi⟩,bk⟩:=g;simp[U,r,l]at s;omega
   simp[this]
  simp only[bM,Bool.and_eq_false_iff,bZ,bw,aK]at s;obtain⟨⟨⟨ae,al⟩,an⟩,ap⟩:=s;rw[aY al,aY an,aP ap,show(decide (H.kind=18)||decide (H.kind=19))=true by simpa using ae]at d;simp[-List.length_take,-List.length_drop,i,u,W,aE,show c+1<=e by omega,show e<=f.w.dO.length by omega];have bs:((f.w.dO.drop (c+1)).take (e-(c+1))).length<=16:=dB;generalize(f.w.dO.drop (c+1)).take (e-(c+1))=n at*
  refine fy n.length dz (λy h g=>ig 4 g/\g.get 0=some (dG 16 0 [f.t])/\g.get 2=some (dG 7 1 [H.t])/\g.get 3=some (dG 7 1 [A.t])/\((n.drop y).all λo=> !decide (o.dT=A.dT))=(n.all λo=> !decide (o.dT=A.dT))/\dH h 1 (dE e)/\dH h 3 (.ptr 0 0 0 0)/\dH h 7 (.ptr 2 0 0 0)/\dH h 8 (.ptr 3 0 0 0)/\dH h 67 (sl (n.map ez.t))/\dH h 68 (dE n.length)/\dH h 69 (dE y)) ?_ ?_ dz ?_
  ·rintro y h g L V ⟨j,B,C,q,k,i,E,r,l,F,v,x⟩;have Y:=j.ne (b:=0) dz;have Z:=j.ne (b:=2) dz;have M:=j.ne (b:=3) dz;rw[aJ L,cE]at k;simp[q,l,F,v,x,M,j.low,L];generalize n[y]=o at*
   refine ee (λm=> ?_) (λm=> ?_)
   ·rw[m]at k;rw[<-k]at d;simp at d;simp[d,j.hp]
   ·rw[m]at k;simp[i,E,r,l,F,v,x,V];exact⟨j.cons _,by simp[B,Y],by simp[C,Z],by simp[q,M],by simpa using k⟩
  ·rintro h g ⟨j,B,C,q,k,i,E,r,l,F,v,x⟩;rw[du]at k;rw[<-k]at d;simp at d;simp[B,q,i,E,l,v,x,O,aN,aX];refine ee (λm=> ?_) (λm=> ?_)
   ·rw[show decide (P.iL=3)=false by simpa using m]at d;simp at d;simp[d,j.hp]
   ·rw[show decide (P.iL=3)=true by simpa using m]at d;simp at d;simp[C,q,r,l,j.hp,d]
  ·simp[i]
def sK:hU:=⟨fI×Int×Int,λa=>[a.1.t,dE a.2.1,dE a.2.2],λa=>wX a.1/\je a.2.1 a.1.w.dO.length=true/\je a.2.2 a.1.w.dO.length=true,λa=> .bool (a.1.w.gx.Iz a.2.1 a.2.2),λa c b=>by simp at b;rw[fI.inj b.1,b.2.1,b.2.2]⟩
def HH:sK.Ok Tryz.prog cx 25:=by
 refine iv (tb:=⟨pt [],ht []⟩) fa eQ (iR 18463641368405213903 [] Tryz.func25) (λ_=>100) (by simp[sK]) (by simp[sK,Tryz.f25]) ?_;rintro⟨g,a,b⟩ ⟨l,p,z⟩ h D;simp only at l p z;simp[sK]at D|-;obtain⟨C,u,v⟩:=D;obtain⟨i,a1,a2,a3,a4,a5⟩:=l.w.at p;obtain⟨V,B,X,I,Y,Z⟩:=l.w.at z;obtain⟨W,G,O,P,aA⟩:=l.st p;obtain⟨R,S,T,U⟩:=xy P a4;have d:=GX.Iz.eq_1 g.w.gx a b;rw[a3,I,O,U]at d;generalize g.w.gx.Iz a b=H at*
 obtain⟨c,rfl,al⟩:=kq.nat p;obtain⟨e,rfl,ap⟩:=kq.nat z;have av:=l.w.ok.len;rw[cJ]at a1 B G;have L:=GC g.w.gx (lo:=(c:Int)+1) (hi:=e) (a:=c+1) (b:=e) (GX.yS i.dT) dz rfl;rw[L,show g.w.gx.ev=g.w.dO from rfl]at d;have K:binop .add (dE (c:Int)) (dE 1)=some (dE ((c:Int)+1)):=ik dz dz;have Q:kj ((c:Int)+1)=some (c+1):=by have:=eK (show(0:Int)<=((c+1:Nat):Int)by omega);simpa using this
 by_cases an:c<e;rotate_left
 ·rw[aP (show¬(c:Int)<e by omega)]at d;simp[Tryz.f25,C,u,v,d,show e<=c by omega,a1]
 rw[aY (show(c:Int)<e by omega),bP]at d;simp[Tryz.f25,C,u,v,show¬e<=c by omega,a1,B,G,S,T];refine ee (λk=> ?_) (λk=> ?_)
 ·have:H=false:=by
   rw[d];cases M:decide (V.dT=i.dT)<;>cases N:R.atomic<;>simp[M,N]at k|-
  simp[this]
 simp only[bM,bZ]at k;rw[k.1,k.2]at d;simp[-List.length_take,-List.length_drop,u,v,K,Q,show c+1<=e by omega,show e<=g.w.dO.length by omega];have ae:((g.w.dO.drop (c+1)).take (e-(c+1))).length<=16:=dB;generalize(g.w.dO.drop (c+1)).take (e-(c+1))=j at*
 refine fy j.length dz (λq h s=>ig 1 s/\(j.drop q).all (GX.yS i.dT)=j.all (GX.yS i.dT)/\dH h 7 (dE i.dT)/\dH h 50 (sl (j.map ez.t))/\dH h 51 (dE j.length)/\dH h 52 (dE q)) ?_ ?_ dz ?_
 ·rintro q h s F J ⟨m,f,y,x,n,o⟩;rw[aJ F,cE]at f;simp[y,x,n,o,m.low,F];generalize j[q]=r at*
  have E:GX.yS i.dT r= !(decide (r.dT=i.dT)&&decide (r.kind=15)):=rfl;refine ee (λA=> ?_) (λA=> ?_)
  ·rw[E,A]at f;rw[<-f]at d;simp at d;simp[d,m.hp]
  ·rw[E,A]at f;simp[y,x,n,o,J];exact⟨m.cons _,by simpa using f⟩
 ·rintro h s ⟨m,f,y,x,n,o⟩;rw[du]at f;rw[<-f]at d;simp at d;simp[n,o,m.hp,d]
 ·simp
def tV:hU:=⟨fI×f6,λe=>[e.1.t,e.2.t],λe=>wX e.1/\je e.2.a e.1.w.dO.length=true/\je e.2.b e.1.w.dO.length=true/\je e.2.c e.1.w.dO.length=true/\je e.2.d e.1.w.dO.length=true,λe=> .bool (e.1.w.gx.Xm e.2.a e.2.b e.2.c e.2.d),λe g f=>by simp at f;rw[fI.inj f.1,f6.inj f.2]⟩
def MK:tV.Ok Tryz.prog cx 52:=by
 refine iv (tb:=⟨pt [(87,qT)],ht []⟩) fa eQ (iR 63 [] Tryz.func52) (λ_=>100) (by simp[tV]) (by simp[tV,Tryz.f52]) ?_;rintro⟨a,⟨E,b,c,d,f,F⟩⟩ ⟨g,h,o,i,j⟩ I n;simp only at g h o i j;simp[tV]at n|-;obtain⟨x,y⟩:=n;obtain⟨J,a1,a2,a3,a4,a5⟩:=g.w.at h;obtain⟨G,q,r,s,A,B⟩:=g.w.at i;obtain⟨H,t,u,v,C,D⟩:=g.w.at j;have m:=GX.Xm.eq_1 a.w.gx b c d f;have k:=λ{tb:fJ} (ht:tb.p 87=some qT)=>BF ht a b d h i;have l:=λ{tb:fJ} (ht:tb.p 87=some qT)=>BF ht a f c j o;rw[show qz a.w.dO b=a.w.gx.e b from rfl,show qz a.w.dO d=a.w.gx.e d from rfl]at k;rw[show qz a.w.dO f=a.w.gx.e f from rfl,show qz a.w.dO c=a.w.gx.e c from rfl]at l;generalize a.w.gx.Xm b c d f=z at*
 generalize kC (a.w.gx.e b) (a.w.gx.e d)=p1 at*
 generalize kC (a.w.gx.e f) (a.w.gx.e c)=p2 at*
 rw[a3,s,v]at m;simp[Tryz.f52,x,y,a1,a2,q,r,t,u,k,l,m]
def wy:hU:=⟨fI×List Int,λa=>[a.1.t,sl (a.2.map (T.int .i64))],λa=>wX a.1/\a.2.length<=1000000,λa=> .bool (a.1.w.gx.Gk a.1.w.gx.qB a.2),λa c b=>by simp at b;rw[fI.inj b.1,jD dA b.2]⟩
def Ix{d:fJ}(ht:d.p 55=some oP)(a:fI)(c b:Int)(g:wX a)(e:je c a.w.dO.length=true)(f:je b a.w.dO.length=true):rl Tryz.prog cx d 55 [a.t,dE c,dE b]=some (.bool (a.w.gx.qB c b)):=im ht ML (a,c,b) ⟨g,e,f⟩
def Ps:wy.Ok Tryz.prog cx 49:=by
 refine iv (tb:=⟨pt [(55,oP),(51,oL)],ht []⟩) fa eQ (iR 2361217299907134620023 [] Tryz.func49) (λ_=>100) (by simp[wy]) (by simp[wy,Tryz.f49]) ?_;rintro⟨f,a⟩ ⟨C,a8⟩ g V;simp only at C a8;simp[wy]at V|-;obtain⟨aA,i⟩:=V;have bu:=C.w.ok.len;obtain⟨D,s⟩:∃D,f.w.gx.Gk f.w.gx.qB a=D:=⟨_,rfl⟩;rw[s];simp[Tryz.f49,aA,i,Gx,show a.length<=1099511627776 by omega];refine ee (λB=> ?_) (λB=> ?_)
 ·have:D=false:=by
   rw[<-s];simp only[bV,aK,bR]at B;rcases B with(h|h)|h
   ·exact oE dz
   ·exact oE dz
   ·unfold mO at h;rw[List.all_eq_false]at h;obtain⟨d,v,bk⟩:=h;obtain⟨b,ae,rfl⟩:=List.mem_iff_getElem.1 v;exact oE (.inr (.inr (.inl ⟨b,ae,by simp[List.getD,ae];exact(by simpa using bk:je a[b] f.w.dO.length=false)⟩)))
  simp[this]
 simp only[bM,bZ,bw]at B;obtain⟨⟨bz,bB⟩,an⟩:=B;have a6:2<=a.length:=dz;have a7:a.length<=4:=dz;have z:∀c (j:c<a.length),je a[c] f.w.dO.length=true:=λc j=>by
  unfold mO at an;exact List.all_eq_true.1 an _ (aC j)
 have bi:∀c<a.length,je (a.getD c 0) f.w.gx.ev.length=true:=λc j=>by simp[List.getD,j];exact z c j
 simp[i];generalize O:H.cons _ _=G;have U:G.get 0=some (dG 16 0 [f.t]):=by rw[<-O];simp
 have S:Hp G:=by rw[<-O];simp
 clear O;refine fy a.length dz (λb g h=>G=h/\(∀c<b,yT f.w.gx f.w.gx.qB a c=true)/\dH g 1 (sl (a.map (T.int .i64)))/\dH g 2 (.ptr 0 0 0 0)/\dH g 23 (sl (a.map (T.int .i64)))/\dH g 24 (dE a.length)/\dH g 25 (dE b)) ?_ ?_ dz ?_
 ·rintro b g _ A W ⟨rfl,P,i,l,r,n,o⟩;have R:∀c (j:c<a.length),a.getD c 0=a[c]:=λc j=>by simp[List.getD,j]
  have K:0<a.length:=dz;have al:=KT (b+1) a.length dz dz;have J:(b+1)% a.length<a.length:=Nat.mod_lt _ K;have u:yT f.w.gx f.w.gx.qB a b=(!decide (a[b]<a[0])&&f.w.gx.qB (a[(b+1)% a.length]'J) a[b]&&(List.range b).all λd=> !decide ((f.w.gx.e a[b]).dT=(f.w.gx.e (a.getD d 0)).dT)):=by unfold yT;rw[R _ A,R _ K,R _ J]
  generalize(b+1)% a.length=m at*
  have av:=λ{tb:fJ} (ht:tb.p 55=some oP)=>Ix ht f a[m] a[b] C (z m J) (z b A);obtain⟨x,a1,a2,a3,a4,a5⟩:=C.w.at (z b A);rw[a3]at u;simp at al;have X:yT f.w.gx f.w.gx.qB a b=false->D=false:=λh=>by rw[<-s];exact oE (.inr (.inr (.inr ⟨b,A,h⟩)))
  simp[U,i,l,r,n,o,A,W,K,al,J,av];refine ee (λk=> ?_) (λk=> ?_)
  ·have:yT f.w.gx f.w.gx.qB a b=false:=by
    rw[u,cv];intro h;simp only[aB,bR,bw]at h;simp[h.1.2]at k;omega
   simp[X this,S]
  ·simp only[bM,bZ,bw]at k;rw[k.2,aP k.1]at u;simp[-List.length_take,i,show b<=a.length by omega];obtain⟨q,N⟩:∃q,q=a.take b:=⟨_,rfl⟩;rw[<-N];have aX:q.length=b:=by rw[N];simp;omega
   have bn:∀d (v:d<q.length) (hl:d<a.length),q[d]=a[d]:=λd v hl=>by subst N;exact List.getElem_take
   refine fy b dz (λd g h=>G=h/\(∀c<d,decide (x.dT=(f.w.gx.e (a.getD c 0)).dT)=false)/\dH g 1 (sl (a.map (T.int .i64)))/\dH g 2 (.ptr 0 0 0 0)/\dH g 6 (dE a[b])/\dH g 23 (sl (a.map (T.int .i64)))/\dH g 24 (dE a.length)/\dH g 25 (dE b)/\dH g 51 (sl (q.map (T.int .i64)))/\dH g 52 (dE b)/\dH g 53 (dE d)) ?_ ?_ dz ?_
   ·rintro d g _ Z aN ⟨rfl,Q,i,l,M,r,n,o,L,E,F⟩;have I:d<a.length:=dz;obtain⟨y,bp,bs,ap,bC,bH⟩:=C.w.at (z d I);have Y:d<q.length:=dz;have aE:=bn d Y I;simp[U,l,M,L,E,F,Z,Y,aE,a1,a2,bp,bs];refine ee (λk=> ?_) (λk=> ?_)
    ·have:yT f.w.gx f.w.gx.qB a b=false:=by
      rw[u];simp;exact⟨d,Z,by simpa[I,ap]using k⟩
     simp[X this,S]
    ·simp[i,l,M,r,n,o,L,E,F,aN];intro c j;rcases aF c d with h|h
     ·simpa using Q c h
     ·rw[show c=d by omega];simp[I,ap];simpa using k
   ·rintro g _ ⟨rfl,Q,i,l,M,r,n,o,L,E,F⟩;simp[i,l,r,n,o,E,F,W];intro c j;rcases aF c b with h|h
    ·exact P c h
    ·rw[show c=b by omega,u];simp;intro d v;simpa using Q d v
   ·simp[i,l,r,n,o,aX]
 ·rintro g _ ⟨rfl,P,i,l,r,n,o⟩;rw[Ij a6 a7 bi P]at s;simp[n,o,s.symm,S]
 ·simp[i]
def kq.cells{a:eZ}(g:kq a):GN a:=λd h e=>by
 obtain⟨i,f⟩:=cT h;have hl:i<a.dO.length:=(List.getElem?_eq_some_iff.1 f).1;obtain⟨k,b,l,m,n,c⟩:=g.at (i:=i) (fq.2 ⟨dz,by simpa using hl⟩);rw[cJ,f]at b;simp only[ar]at b;subst b;have j:d.kind=3\/d.kind=4:=by unfold mo at e;simpa using e
 unfold jQ at c;rw[ao dz,aq j]at c;exact c
def It{f:fJ}(ht:f.p 51=some oL)(a:fI)(b c d e:Int):rl Tryz.prog cx f 51 [a.t,sl [dE b,dE c,dE d,dE e]]=some (.bool (je b a.w.dO.length&&je c a.w.dO.length&&je d a.w.dO.length&&je e a.w.dO.length)):=by
 have:=Gx ht a [b,c,d,e] dA;simpa[mO,Bool.and_assoc]using this
def Od{a:fI}(d:wX a)(b c:Int):AL a.w b c=((je b a.w.dO.length&&je c a.w.dO.length)&&a.w.gx.Rv b c):=by
 unfold AL GX.Rv GX.e eZ.gx;cases je b a.w.dO.length<;>cases je c a.w.dO.length<;>simp
 ac_rfl
def uy:hU:=⟨fI×f6,λa=>[a.1.t,a.2.t],λa=>wX a.1/\a.2.jJ.length<=1000000,λa=> .bool (a.1.w.gx.vG a.2),λa c b=>by simp at b;rw[fI.inj b.1,f6.inj b.2]⟩
def OT:uy.Ok Tryz.prog cx 23:=by
 refine iv (tb:=⟨pt [(48,xz),(49,wy),(50,zx),(51,oL),(25,sK),(52,tV)],ht []⟩) fa eQ (iR 2417851783344448572752095 [] Tryz.func23) (λ_=>100) (by simp[uy]) (by simp[uy,Tryz.f23]) ?_;rintro⟨f,e⟩ ⟨i,u⟩ F s;simp only at i u;simp[uy]at s|-;obtain⟨k,l⟩:=s;have g:=GX.vG.eq_1 f.w.gx e;simp only[show∀v,f.w.gx.AV v=je v f.w.dO.length from λ_=>rfl]at g;generalize f.w.gx.vG e=E at*
 cases h:decide (e.kind=1)with
 |true=>
  rw[aq (by simpa using h)]at g;have n:∀{tb:fJ},tb.p 48=some xz->rl Tryz.prog cx tb 48 [f.t,dE e.a,dE e.b]=some (.bool ((je e.a f.w.dO.length&&je e.b f.w.dO.length)&&f.w.gx.Rv e.a e.b)):=λht=>by rw[<-Od i];exact Xe ht f e.a e.b i.w.cells
  simp[Tryz.f23,k,l,h,n,g]
  try ac_rfl
 |false=>
  rw[ao (by simpa using h)]at g;cases j:decide (e.kind=2)with
  |true=>
   rw[aq (by simpa using j)]at g;have n:∀{tb:fJ},tb.p 49=some wy->rl Tryz.prog cx tb 49 [f.t,sl (e.jJ.map (T.int .i64))]=some (.bool (f.w.gx.Gk f.w.gx.qB e.jJ)):=λht=>im ht Ps (f,e.jJ) ⟨i,u⟩;simp[Tryz.f23,k,l,h,j,n,g,GX.dead]
  |false=>
   rw[ao (by simpa using j)]at g;cases m:decide (e.kind=3)with
   |true=>
    rw[aq (by simpa using m)]at g;have n:∀{tb:fJ},tb.p 50=some zx->rl Tryz.prog cx tb 50 [f.t,dE e.a,dE e.b]=some (.bool ((je e.a f.w.dO.length&&je e.b f.w.dO.length)&&f.w.gx.PR e.a e.b)):=λht=>im ht Sb (f,e.a,e.b) i;simp[Tryz.f23,k,l,h,j,m,n,g]
    try ac_rfl
   |false=>
    rw[ao (by simpa using m)]at g;cases o:decide (e.kind=4)with
    |false=>
     rw[ao (by simpa using o)]at g;simp[Tryz.f23,k,l,h,j,m,o,g]
    |true=>
     rw[aq (by simpa using o)]at g;cases q:(je e.a f.w.dO.length&&je e.b f.w.dO.length&&je e.c f.w.dO.length&&je e.d f.w.dO.length)with
     |false=>
      rw[q]at g;cases r:decide (e.jJ=[])<;>simp[Tryz.f23,k,l,h,j,m,o,It,gH,q,g,r]
     |true=>
      rw[q]at g;have z:=q;simp only[aB]at z;obtain⟨⟨⟨x,y⟩,C⟩,D⟩:=z;have A:∀{tb:fJ},tb.p 25=some sK->rl Tryz.prog cx tb 25 [f.t,dE e.a,dE e.b]=some (.bool (f.w.gx.Iz e.a e.b)):=λht=>im ht HH (f,e.a,e.b) ⟨i,x,y⟩;have B:∀{tb:fJ},tb.p 52=some tV->rl Tryz.prog cx tb 52 [f.t,e.t]=some (.bool (f.w.gx.Xm e.a e.b e.c e.d)):=λht=>im ht MK (f,e) ⟨i,x,y,C,D⟩;cases r:decide (e.jJ=[])<;>simp[Tryz.f23,k,l,h,j,m,o,It,gH,q,A,B,g,r]
def To{c:fJ}(ht:c.p 23=some uy)(b:fI)(a:f6)(d:wX b)(hl:a.jJ.length<=1000000):rl Tryz.prog cx c 23 [b.t,a.t]=some (.bool (b.w.gx.vG a)):=im ht OT (b,a) ⟨d,hl⟩
end
end Go.Proofs.YtmaeadedikngoaaGreatDoor
