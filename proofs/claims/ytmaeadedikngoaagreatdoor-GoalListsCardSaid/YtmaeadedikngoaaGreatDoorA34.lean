/- Texts X13 to WOe. -/
import Derived.Test.YtmaeadedikngoaaGreatDoorA32
import Derived.Test.YtmaeadedikngoaaGreatDoorA33
set_option linter.all false
set_option maxRecDepth 100000
set_option maxHeartbeats 8000000
namespace Go.Proofs.YtmaeadedikngoaaGreatDoor
noncomputable section
open Go Go.TI
attribute [-simp] List.map_take List.map_drop List.map_append fH fh ej Bool.not_or Bool.not_and
attribute [simp] fG fj
def byV(a:Int):Prop:=0<=a/\a<256
structure Q2(v:mN):Prop where
 p:okB v.program
 q:okB v.schedule
 s:okB v.Eg
 z:byV v.size
 w:byV v.uY
def OG:nK Tryz.prog cx 8 (λb:mN=>[b.t,dG 16]) Q2 (λ_=>TF):=by
 refine ju (tb:=⟨pt [(18,Fj.jx),(19,Ep.jx),(20,Es.jx)],ht []⟩) fc fa (je 17592186046583 [(3,[(9,10)])] Tryz.func8) (λ_=>105) (λa U n=>by simp at n;exact mN.inj n) dC (by simp[Tryz.f8]) ?_;rintro b d ae r;simp at r;obtain⟨F,o⟩:=r;obtain⟨T,an⟩:=d.z;obtain⟨R,al⟩:=d.w;obtain⟨_,⟨B,rfl,G⟩,h⟩:=Fj.use (b.Eg,(1+b.size% 16).toNat) ⟨d.s,dE⟩;obtain⟨_,⟨i,rfl,H⟩,l⟩:=Fj.use ([],0) ⟨⟨dC,dC⟩,dC⟩;obtain⟨_,⟨Q,rfl,D,hl⟩,eT⟩:=Ep.use (b.program,b.schedule.take (min b.schedule.length 80)) ⟨d.p,⟨by have:=d.q.1;simp;omega,λS P=>d.q.2 S (bE P)⟩,dD⟩;obtain⟨_,⟨c,V,rfl,O⟩,g⟩:=Es.use (Q,(1+b.size% 16).toNat) ⟨D,dE,dE,dE⟩;simp only at eT g h l;rw[show(((1+b.size% 16).toNat:Nat):Int)=1+b.size% 16 by omega]at g h;have N:∀e:Int,0<=e->e<1000->IntKind.i64.wrap e=e:=λe Y Z=>by rw[<-jI,jL dB dB]
 have m:b.size.tmod 16=b.size% 16:=Int.tmod_eq_emod_of_nonneg T;have y: -9223372036854775808<=b.size:=dB;have A:b.size<9223372036854775808:=dB;have x:=Dt (k:= .i64) (a:=b.size) (show¬(16:Int)=0 by omega);have j:=N (1+b.size% 16) dB dB;simp[Tryz.f8,F];refine em (λM=> ?_) (λM=> ?_)
 ·simp[o,y,A,x,oh,m,j,h];exact⟨B,rfl,G⟩
 obtain⟨k,I,J⟩:∃k:Nat,min (b.schedule.length:Int) 80=k/\k=min b.schedule.length 80:=⟨_,dB,rfl⟩;rw[<-J]at eT;simp[o,I,show k<=b.schedule.length by omega,eT,y,A,x,oh,m,j,g];refine em (λu=> ?_) (λu=> ?_)
 ·have C:=λ{tb:fN} (ht:tb.p 18=some Fj.jx)=>(show rl Tryz.prog cx tb 18 [.gu,dG 0]=some i.t from l ht);simp[C];exact⟨i,rfl,H⟩
 have K:c≠ []:=by simpa using u
 have W:0<c.length:=by rcases c with _|_<;>simp at K|-
 have E:b.uY.tmod (c.length:Int)=b.uY% (c.length:Int):=Int.tmod_eq_emod_of_nonneg R;have L:0<=b.uY% (c.length:Int):=Int.emod_nonneg _ dB;have X:b.uY% (c.length:Int)<c.length:=Int.emod_lt_of_pos _ dB;obtain⟨f,v⟩:∃f,c[(b.uY% (c.length:Int)).toNat]? =some f:=⟨_,aB dB⟩;simp[show-9223372036854775808<=b.uY by omega,show b.uY<9223372036854775808 by omega,Dt (show¬(c.length:Int)=0 by omega),E,eQ L,v];exact⟨f,rfl,O f (ax v)⟩
end
noncomputable section
open Go Go.TI
attribute [-simp] List.map_take List.map_drop List.map_append
@[simp] theorem QG (a:List T):dU (sl a)=none:=by cases a<;>rfl
def sv(a b:aa iY):Bool:=match a,b with|none,_=>true|some _,none=>false|some a,some b=>decide (a.ver=b.ver)
@[simp] theorem ab1 (a b:iY):sv (some a) (some b)=decide (a.ver=b.ver):=id rfl
def ph(b c:H)(a:Nat):ff b c a=sv (b.get a) (c.get a):=by
 unfold ff sv;cases b.get a with
 |none=>rfl
 |some d=>cases c.get a<;>simp
def L3:iq:=⟨eK,λa=>[a.t],λa=>True,λa=> .bool (qY a),λa c b=>by simp at b;rw[eK.inj b]⟩
def VK:L3.Ok Tryz.prog cx 131:=by
 refine iC (tb:=⟨pt [],ht []⟩) fc fa (je 7 [] Tryz.func131) (λd=>1) (by simp[L3]) (by simp[L3,Tryz.f131]) ?_;rintro(b:eK) _ e a;simp[L3]at a|-;by_cases c:b.kind=3<;>simp[Tryz.f131,a,c,qY]
def QC{b:fN}(ht:b.p 131=some L3)(a:eK):rl Tryz.prog cx b 131 [a.t]=some (.bool (qY a)):=iv ht VK a trivial
def wt:iq:=⟨Int,λa=>[dG a],λa=>True,λa=> .bool (qp a),λa c b=>by simp at b;rw[b]⟩
def OD:wt.Ok Tryz.prog cx 88:=by
 refine iC (tb:=⟨pt [],ht []⟩) fc fa (je 29 [] Tryz.func88) (λh=>1) (by simp[wt]) (by simp[wt,Tryz.f88]) ?_;rintro(b:Int) _ i a;simp[wt]at a|-;by_cases c:b=6
 ·simp[Tryz.f88,a,c,qp]
 by_cases d:b=8
 ·simp[Tryz.f88,a,d,qp]
 by_cases e:b=10
 ·simp[Tryz.f88,a,e,qp]
 by_cases f:b=17
 ·simp[Tryz.f88,a,f,qp]
 by_cases g:b=21<;>simp[Tryz.f88,a,c,d,e,f,g,qp]
def S9{b:fN}(ht:b.p 88=some wt)(a:Int):rl Tryz.prog cx b 88 [dG a]=some (.bool (qp a)):=iv ht OD a trivial
def qQ:iq:=⟨fJ×Int×Int,λa=>[a.1.t,dG a.2.1,dG a.2.2],λa=>jt a.2.1 a.1.w.dS.length=true/\jt a.2.2 a.1.w.dS.length=true,λa=> .bool (lV (qV a.1.w.dS a.2.1) (qV a.1.w.dS a.2.2)),λa c b=>by simp at b;rw[fJ.inj b.1,b.2.1,b.2.2]⟩
def Pd:qQ.Ok Tryz.prog cx 87:=by
 refine iC (tb:=⟨pt [(131,L3)],ht []⟩) fc fa (je 463 [(1,[(8,14),(10,14),(11,14)])] Tryz.func87) (λb=>1) (by simp[qQ]) (by simp[qQ,Tryz.f87]) ?_;rintro⟨m,p,q⟩ c t a;simp[qQ]at c a|-;obtain⟨e,f,g⟩:=a;obtain⟨b,a,n⟩:=iK c.1;obtain⟨d,h,o⟩:=iK c.2;have i:=eQ (fw.1 c.1).1;have j:=eQ (fw.1 c.2).1;rw[show qV m.w.dS p=b by simp[qV,n],show qV m.w.dS q=d by simp[qV,o]];cases k:qY b with
 |false=>simp[Tryz.f87,e,f,g,i,j,a,h,QC,ph,k,lV]
 |true=>
  cases l:qY d with
  |false=>simp[Tryz.f87,e,f,g,i,j,a,h,QC,ph,k,l,lV]
  |true=>
   cases r:decide (b.obj=d.obj)<;>cases s:decide (b.kind=4)<;>simp[Tryz.f87,e,f,g,i,j,a,h,QC,ph,k,l,r,s,lV]
def Bw{d:fN}(ht:d.p 87=some qQ)(a:fJ)(b c:Int)(e:jt b a.w.dS.length=true)(f:jt c a.w.dS.length=true):rl Tryz.prog cx d 87 [a.t,dG b,dG c]=some (.bool (lV (qV a.w.dS b) (qV a.w.dS c))):=iv ht Pd (a,b,c) ⟨e,f⟩
end
noncomputable section
open Go Go.TI
def lexB:List Int->List Int->Bool
 | [],[]=>false
 | [],_::_=>true
 |_::_,[]=>false
 |a::c,b::d=>if a=b then lexB c d else decide (a<b)
def F0(e:ik):List Int:=[e.kind,e.a,e.b,e.c,e.d]++e.jD
def uZ(a b:ik):Bool:=lexB (F0 a) (F0 b)
def HH(a b c:List Int):lexB (a++b) (a++c)=lexB b c:=by
 induction a with
 |nil=>rfl
 |cons e a d=>simp only[co,lexB,bg,d]
def li{b c:Int}{d e:List Int}(a:b<c\/(b=c/\lexB d e=true)):lexB (b::d) (c::e)=true:=by
 unfold lexB;rcases a with a|⟨a,f⟩
 ·rw[ao dB];simpa using a
 ·rw[aq a];exact f
def ug{f g:ik}(e:f.kind<g.kind\/(f.kind=g.kind/\(f.a<g.a\/(f.a=g.a/\(f.b<g.b\/(f.b=g.b/\(f.c<g.c\/(f.c=g.c/\(f.d<g.d\/(f.d=g.d/\lexB f.jD g.jD=true)))))))))):uZ f g=true:=by
 unfold uZ F0;simp only[co,cz];rcases e with e|⟨h,e⟩
 ·exact li (.inl e)
 refine li (.inr ⟨h,?_⟩);rcases e with e|⟨h,e⟩
 ·exact li (.inl e)
 refine li (.inr ⟨h,?_⟩);rcases e with e|⟨h,e⟩
 ·exact li (.inl e)
 refine li (.inr ⟨h,?_⟩);rcases e with e|⟨h,e⟩
 ·exact li (.inl e)
 refine li (.inr ⟨h,?_⟩);rcases e with e|⟨h,e⟩
 ·exact li (.inl e)
 exact li (.inr ⟨h,e⟩)
def qd{f g:ik}(e:f.kind<g.kind\/(f.kind=g.kind/\(f.a<g.a\/(f.a=g.a/\(f.b<g.b\/(f.b=g.b/\(f.c<g.c\/(f.c=g.c/\f.d<g.d)))))))):uZ f g=true:=by
 refine ug ?_;rcases e with e|⟨h,e|⟨i,e|⟨j,e|⟨k,e⟩⟩⟩⟩
 ·exact .inl e
 ·exact .inr ⟨h,.inl e⟩
 ·exact .inr ⟨h,.inr ⟨i,.inl e⟩⟩
 ·exact .inr ⟨h,.inr ⟨i,.inr ⟨j,.inl e⟩⟩⟩
 ·exact .inr ⟨h,.inr ⟨i,.inr ⟨j,.inr ⟨k,.inl e⟩⟩⟩⟩
def yR{e:Nat}{f:List Int->Bool}{go:List Int->Int->Bool}{c:Nat}{a b:List Int}(d:b∈wU e f go c a):∃g,b=a++g:=(F9 c a b d).2
def J4{l:Nat}{m:List Int->Bool}{go:List Int->Int->Bool}:∀(d:Nat) (h:List Int),(wU l m go d h).Pairwise λb e=>lexB b e=true:=by
 intro d;induction d with
 |zero=>
  intro h;unfold wU;split<;>simp
 |succ d k=>
  intro h;unfold wU;rw[List.pairwise_append];refine⟨by split<;>simp,?_,?_⟩
  ·rw[cU];refine⟨λi _=> ?_,?_⟩
   ·split
    ·exact k _
    ·exact List.Pairwise.nil
   ·unfold js;refine(List.pairwise_lt_range' 1 dB).imp λ{b e} n p f q g=> ?_;split at f
    ·split at g
     ·obtain⟨j,rfl⟩:=yR f;obtain⟨o,rfl⟩:=yR g;rw[aV,aV,HH];exact li (.inl dB)
     ·simp at g
    ·simp at f
  ·intro b c e a;split at c
   ·simp only[List.mem_singleton]at c;subst c;rw[aO]at a;obtain⟨i,_,a⟩:=a;split at a
    ·obtain⟨j,rfl⟩:=yR a;have:=HH b [] ((i:Int)::j);rw[bL]at this;rw[aV];exact this
    ·simp at a
   ·simp at c
def FA(d:ik->Bool)(c:ik):(jr d c).Pairwise λa b=>uZ a b=true:=by unfold jr;split<;>simp
def jP{d:ik->Bool}{b c:ik}(a:c∈jr d b):c=b/\d b=true:=by
 unfold jr at a;split at a
 ·simp at a;exact⟨a,by assumption⟩
 ·simp at a
def vL{e:ik->Bool}{c:Nat->ik}{d:List Nat}(hl:d.Pairwise (· < ·))(g:∀b a,b<a->uZ (c b) (c a)=true):(d.flatMap λ(a:Nat)=>jr e (c a)).Pairwise λb a=>uZ b a=true:=by
 rw[cU];refine⟨λ_ _=>FA e _,hl.imp λ{b a} f j h k i=> ?_⟩;rw[(jP h).1,(jP i).1];exact g b a f
def Ky(a b:Nat):(js a b).Pairwise (· < ·):=List.pairwise_lt_range' 1 dB 
def rF(a:Nat):(List.range a).Pairwise (· < ·):=List.pairwise_lt_range
def MG{e:GX}{c:ik}(h:c∈e.vS):
 (∃a b,c=gR a b/\e.vR c=true)\/(∃a f,c=gC f/\f∈e.Id a)\/(∃a b,c=gL a b/\e.vR c=true)\/(∃a b g i,c=gA a b g i/\e.vR c=true):=by
 unfold GX.vS at h;simp only[cF]at h;rcases h with((h|h)|h)|h
 ·rw[aO]at h;obtain⟨a,_,h⟩:=h;rw[aO]at h;obtain⟨b,_,h⟩:=h;obtain⟨rfl,d⟩:=jP h;exact .inl ⟨a,b,rfl,d⟩
 ·rw[aO]at h;obtain⟨a,_,h⟩:=h;rw[cu]at h;obtain⟨f,j,rfl⟩:=h;exact .inr (.inl ⟨a,f,rfl,j⟩)
 ·rw[aO]at h;obtain⟨a,_,h⟩:=h;rw[aO]at h;obtain⟨b,_,h⟩:=h;obtain⟨rfl,d⟩:=jP h;exact .inr (.inr (.inl ⟨a,b,rfl,d⟩))
 ·rw[aO]at h;obtain⟨a,_,h⟩:=h;rw[aO]at h;obtain⟨b,_,h⟩:=h;split at h
  ·rw[aO]at h;obtain⟨g,_,h⟩:=h;rw[aO]at h;obtain⟨i,_,h⟩:=h;obtain⟨rfl,d⟩:=jP h;exact .inr (.inr (.inr ⟨a,b,g,i,rfl,d⟩))
  ·simp at h
def GX.xN{e:GX}{d:ik}(f:d∈e.vS):e.vR d=true:=by
 rcases MG f with⟨b,c,rfl,a⟩|⟨b,i,rfl,a⟩|⟨b,c,rfl,a⟩|⟨b,c,g,h,rfl,a⟩
 ·exact a
 ·exact(F9 _ _ _ a).1
 ·exact a
 ·exact a
def GX.HG(k:GX):k.vS.Pairwise λf g=>uZ f g=true:=by
 unfold GX.vS;rw[List.pairwise_append,List.pairwise_append,List.pairwise_append];refine⟨⟨⟨?_,?_,?_⟩,?_,?_⟩,?_,?_⟩
 ·rw[cU];refine⟨λf _=>vL (rF _) λg h s=>qd (by simp[gR];omega),(rF _).imp λ{f g} q l d j b=> ?_⟩;rw[aO]at d b;obtain⟨h,_,d⟩:=d;obtain⟨i,_,b⟩:=b;rw[(jP d).1,(jP b).1];exact qd (by simp[gR];omega)
 ·rw[cU];refine⟨λf _=> ?_,(rF _).imp λ{f g} q l d j b=> ?_⟩
  ·rw[List.pairwise_map];exact(J4 3 [(f:Int)]).imp λ{o y} w=>ug (by unfold gC;simp only;simp[w])
  ·rw[cu]at d b;obtain⟨o,v,rfl⟩:=d;obtain⟨y,x,rfl⟩:=b;obtain⟨C,rfl⟩:=yR v;obtain⟨D,rfl⟩:=yR x;refine ug ?_;unfold gC;simp only[true_and,co,cz];simp;exact li (.inl dB)
 ·intro r a p c;rw[aO]at a c;obtain⟨f,_,a⟩:=a;obtain⟨g,_,c⟩:=c;rw[aO]at a;obtain⟨h,_,a⟩:=a;rw[cu]at c;obtain⟨o,_,rfl⟩:=c;rw[(jP a).1];exact ug (.inl (by unfold gR gC;simp))
 ·rw[cU];refine⟨λf _=>vL (rF _) λg h s=>qd (by simp[gL];omega),(rF _).imp λ{f g} q l d j b=> ?_⟩;rw[aO]at d b;obtain⟨h,_,d⟩:=d;obtain⟨i,_,b⟩:=b;rw[(jP d).1,(jP b).1];exact qd (by simp[gL];omega)
 ·intro r a p c;rw[aO]at c;obtain⟨g,_,c⟩:=c;rw[aO]at c;obtain⟨h,_,c⟩:=c;rw[(jP c).1];refine ug (.inl ?_);rw[cF]at a;rcases a with a|a
  ·rw[aO]at a;obtain⟨f,_,a⟩:=a;rw[aO]at a;obtain⟨i,_,a⟩:=a;rw[(jP a).1];unfold gR gL;simp
  ·rw[aO]at a;obtain⟨f,_,a⟩:=a;rw[cu]at a;obtain⟨o,_,rfl⟩:=a;unfold gC gL;simp
 ·have m:∀(f g:Nat) (j:ik),j∈(if(k.e f).dZ=(k.e g).dZ/\qY (k.e f)=true/\qY (k.e g)=true then(List.range k.n).flatMap λ(h:Nat)=>(js h k.n).flatMap λ(i:Nat)=>jr k.vR (gA f g h i)else [])->∃h i:Nat,j=gA f g h i:=by
   intro f g j b;split at b
   ·rw[aO]at b;obtain⟨h,_,b⟩:=b;rw[aO]at b;obtain⟨i,_,b⟩:=b;exact⟨h,i,(jP b).1⟩
   ·simp at b
  rw[cU];refine⟨λf _=> ?_,(rF _).imp λ{f g} q l d j b=> ?_⟩
  ·rw[cU];refine⟨λg _=> ?_,(Ky _ _).imp λ{g h} s l d j b=> ?_⟩
   ·split
    ·rw[cU];refine⟨λh _=>vL (Ky _ _) λi t B=>qd (by simp[gA];omega),(rF _).imp λ{h i} A l d j b=> ?_⟩;rw[aO]at d b;obtain⟨t,_,d⟩:=d;obtain⟨z,_,b⟩:=b;rw[(jP d).1,(jP b).1];exact qd (by simp[gA];omega)
    ·exact List.Pairwise.nil
   ·obtain⟨_,_,rfl⟩:=m _ _ _ d;obtain⟨_,_,rfl⟩:=m _ _ _ b;exact qd (by simp[gA];omega)
  ·rw[aO]at d b;obtain⟨h,_,d⟩:=d;obtain⟨i,_,b⟩:=b;obtain⟨_,_,rfl⟩:=m _ _ _ d;obtain⟨_,_,rfl⟩:=m _ _ _ b;exact qd (by simp[gA];omega)
 ·intro r a p c;rw[aO]at c;obtain⟨f,_,c⟩:=c;rw[aO]at c;obtain⟨g,_,c⟩:=c;have u:p.kind=4:=by
   split at c
   ·rw[aO]at c;obtain⟨h,_,c⟩:=c;rw[aO]at c;obtain⟨i,_,c⟩:=c;rw[(jP c).1];rfl
   ·simp at c
  refine ug (.inl ?_);rw[u];simp only[cF]at a;rcases a with(a|a)|a
  ·rw[aO]at a;obtain⟨f,_,a⟩:=a;rw[aO]at a;obtain⟨i,_,a⟩:=a;rw[(jP a).1];unfold gR;simp
  ·rw[aO]at a;obtain⟨f,_,a⟩:=a;rw[cu]at a;obtain⟨o,_,rfl⟩:=a;unfold gC;simp
  ·rw[aO]at a;obtain⟨f,_,a⟩:=a;rw[aO]at a;obtain⟨i,_,a⟩:=a;rw[(jP a).1];unfold gL;simp
def PR{g:Nat}{h:List Int->Bool}:∀(d:List Int) (c:Nat) (a:List Int),d.length<=c->a≠ []->(∀b∈d,(a.getD 0 0)<b/\b<g/\0<=a.getD 0 0)->h (a++d)=true->a++d∈wU g h (λ_ _=>true) c a:=by
 intro d;induction d with
 |nil=>
  intro c a _ _ _ e;rw[bL]at e|-;cases c with
  |zero=>unfold wU;rw[aq e];simp
  |succ c=>unfold wU;rw[aq e];simp
 |cons b d n=>
  intro c a f l hr e;cases c with
  |zero=>simp at f
  |succ c=>
   unfold wU;rw[cF];right;obtain⟨o,p,q⟩:=hr b dC;have k:((b.toNat:Nat):Int)=b:=dB;refine List.mem_flatMap.2 ⟨b.toNat,?_,?_⟩
   ·unfold js;rw[List.mem_range'_1];omega
   ·rw[aq rfl,k];have i:(a++[b]).getD 0 0=a.getD 0 0:=by
     have:=List.length_pos_iff.2 l;simp only[List.getD,bY this]
    have:=n c (a++[b]) (by simp at f;omega) dC (λm j=>by rw[i];exact hr m (by simp[j])) (by simpa using e);simpa using this
def GX.PW(c:GX)(e:Nat):c.Id e=wU c.ev.length (λa=>c.vR (gC a)) (λ_ _=>true) 3 [(e:Int)]:=by
 unfold GX.Id;have g:=Ga (n:=c.ev.length) (ok:=λa=>c.vR (gC a)) (go:=λa b=>decide (a=[])||(!decide (b∈a)&&c.wV b (mY a))) (λa k j f=>by
  by_cases d:a=[]
  ·simp[d]
  ·rw[GX.Nv]at f;obtain⟨h,i⟩:=GX.CW d f;simp[h,i]) 3 [(e:Int)]
 rw[J5 (go:=λa b=> !decide (b∈a)&&c.wV b (mY a)) (go':=λa b=>decide (a=[])||(!decide (b∈a)&&c.wV b (mY a))) (λa j d=>by simp[d]) 3 _ dC,g]
def Bl{d:GX}{b:Int}(a:d.z9 b=true):∃c:Nat,b=c/\c<d.n:=by
 unfold GX.z9 at a;rw[fw]at a;exact⟨b.toNat,dB,a.2⟩
def GX.MF{v:GX}{n:ik}(a:v.vR n=true):n∈v.vS:=by
 obtain⟨k,g,h,i,j,w⟩:=n;have p:=a;unfold GX.vR at a;unfold GX.vS;simp only[cF];simp only at a;split at a
 ·rename_i e;subst e;unfold GX.dead at a;simp only[ay,aJ]at a;obtain⟨⟨⟨⟨rfl,rfl⟩,rfl⟩,rfl⟩,a⟩:=a;left;left;right;have r:=a;unfold GX.Ie at a;simp only[ay,aJ,cv,bQ]at a;obtain⟨⟨⟨z,A⟩,s⟩,B⟩:=a;cases w with
  |nil=>simp at z
  |cons b f=>
   obtain⟨L,M⟩:=fw.1 (s b dC);refine List.mem_flatMap.2 ⟨b.toNat,by rw[bQ];exact M,List.mem_map.2 ⟨b::f,?_,rfl⟩⟩;rw[GX.PW,show((b.toNat:Nat):Int)=b by omega];refine PR f 3 [b] (by simp at A;omega) dC (λO G=> ?_) (by rw[GX.Nv];exact r);obtain⟨m,H,rfl⟩:=List.getElem_of_mem G;obtain⟨p1,p2⟩:=fw.1 (s f[m] dC);obtain⟨⟨o,_⟩,y⟩:=B (m+1) dD;have l:=y 0 dB;have c:(b::f).getD (m+1) 0=f[m]:=by simp[List.getD,H]
   have d:(b::f).getD 0 0=b:=by simp[List.getD]
   rw[c,d]at o l;have x:([b]:List Int).getD 0 0=b:=by simp[List.getD]
   rw[x];simp only[ci,bU]at o l;refine⟨?_,dB,L⟩;rcases Int.lt_or_eq_of_le (Int.not_lt.1 o)with k|k
   ·exact k
   ·rw[k]at l;exact absurd rfl l
 ·split at a
  ·rename_i u;simp only[ay]at u;obtain⟨⟨⟨C,D⟩,r⟩,F⟩:=u;obtain⟨g,rfl,q⟩:=Bl C;obtain⟨h,rfl,t⟩:=Bl D;obtain⟨i,rfl,E⟩:=Bl r;obtain⟨j,rfl,N⟩:=Bl F;split at a
   ·rename_i e;subst e;simp only[ay,aJ]at a;obtain⟨⟨⟨c,d⟩,rfl⟩,_⟩:=a;have c:i=0:=dB;have d:j=0:=dB;subst c d;left;left;left;exact List.mem_flatMap.2 ⟨g,by rw[bQ];exact q,List.mem_flatMap.2 ⟨h,by rw[bQ];exact t,by unfold jr;rw[aq (by exact p)];exact List.mem_singleton.2 rfl⟩⟩
   ·split at a
    ·rename_i e;subst e;simp only[ay,aJ]at a;obtain⟨⟨⟨c,d⟩,rfl⟩,_⟩:=a;have c:i=0:=dB;have d:j=0:=dB;subst c d;left;right;exact List.mem_flatMap.2 ⟨g,by rw[bQ];exact q,List.mem_flatMap.2 ⟨h,by rw[bQ];exact t,by unfold jr;rw[aq (by exact p)];exact List.mem_singleton.2 rfl⟩⟩
    ·split at a
     ·rename_i e;subst e;simp only[ay,aJ]at a;obtain⟨rfl,a⟩:=a;unfold GX.QF lV at a;simp only[ay,aJ]at a;obtain⟨⟨⟨⟨⟨⟨⟨⟨P,Q⟩,I⟩,_⟩,_⟩,J⟩,K⟩,_⟩,_⟩:=a;right;refine List.mem_flatMap.2 ⟨g,by rw[bQ];exact q,List.mem_flatMap.2 ⟨h,?_,?_⟩⟩
      ·unfold js;rw[List.mem_range'_1];omega
      ·rw[aq ⟨I,J.1.1.1,K.1.1.2⟩];refine List.mem_flatMap.2 ⟨i,by rw[bQ];exact E,List.mem_flatMap.2 ⟨j,?_,?_⟩⟩
       ·unfold js;rw[List.mem_range'_1];omega
       ·unfold jr;rw[aq (by exact p)];exact List.mem_singleton.2 rfl
     ·simp at a
  ·simp at a
def abA(a:fF):aa GX:=if a.dS.length<=16/\a.fq.dM.length<=4 then(Xj a.fq a.j7.fO a.dS).map λb=>⟨a.fq,a.dS,b⟩else none
def vd.Xj{b:fF}(a:vd b):abA b=some b.gx:=by
 unfold abA;rw[aq ⟨a.len,a.oZ⟩,QM _ _ a.run];rfl
end
noncomputable section
open Go Go.TI
attribute [-simp] List.map_take List.map_drop List.map_append fH fh ej Bool.not_or Bool.not_and
attribute [simp] fG fj
attribute [-simp] size_cons
def yH{e:ee}{d:fK}{a:Int}(h:mK e d=true)(c:jt a e.ew.length=true):∃b,ka a=some a.toNat/\d.ew[a.toNat]? =some b/\mE d a=b:=by
 rw[<-(ou h).1]at c;obtain⟨b,f,g⟩:=iK c;exact⟨b,eQ (fw.1 c).1,f,by simp[mE,g]⟩
def Gh{d:ee}{e:fK}{b:Int}(g:mK d e=true)(h:jt b d.gW.length=true):∃a c,ka b=some b.toNat/\d.gW[b.toNat]? =some a/\ka a.kG=some a.kG.toNat/\e.ew[a.kG.toNat]? =some c/\r6 d e b=c:=by
 obtain⟨a,f,i⟩:=iK h;obtain⟨c,j,k,l⟩:=yH g (rY g f);exact⟨a,c,eQ (fw.1 h).1,f,j,k,by simp[r6,i,l]⟩
def BI{e:ee}{d:fK}{a:Int}(h:mK e d=true)(c:jt a e.dM.length=true):∃b,ka a=some a.toNat/\d.dM[a.toNat]? =some b/\pS d a=b:=by
 rw[<-(ou h).2.2]at c;obtain⟨b,f,g⟩:=iK c;exact⟨b,eQ (fw.1 c).1,f,by simp[pS,g]⟩
def ny.at{b:fF}(j:ny b){i:Int}(c:jt i b.dS.length=true):∃a:eK,b.dS[i.toNat]? =some a/\ka i=some i.toNat/\b.gx.e i=a/\jt a.dZ b.fq.dM.length=true/\j1 b.fq a.kind a.obj=true:=by
 obtain⟨a,d,f,g,h⟩:=j.ok.e c;exact⟨a,d,eQ (fw.1 c).1,f,g,h⟩
def ny.rd{w:fF}(c:ny w){b:Int}(g:jt b w.dS.length=true):(∀d∈(w.gx.s b).ew,d.eY.length<=2000)/\(w.gx.s b).EY:=by
 have e:=c.sm.qz (w:=w.fq) (w.dS.take b.toNat);rw[(c.ok.s g).1];exact⟨λd hl=>by have f:=e.r d hl;have h:=c.ok.len;simp at f;omega,e.a⟩
def QE(d:GX){lo hi:Int}{a b:Nat}(c:eK->Bool)(e:lo=a)(f:hi=b):d.UJ lo hi c=((d.ev.drop a).take (b-a)).all c:=by
 unfold GX.UJ;rw[e,f,show((b:Int)-a).toNat=b-a by omega];rfl
def ny.nat{c:fF}{a:Int}(d:jt a c.dS.length=true):∃b:Nat,a=b/\b<c.dS.length:=by
 have:=fw.1 d;exact⟨a.toNat,dB,this.2⟩
def Gb(c:GX)(d:Int->Int->Bool)(a:List Int)(b:Nat):Bool:=
 !decide (a.getD b 0<a.getD 0 0)&&d (a.getD ((b+1)% a.length) 0) (a.getD b 0)&&(List.range b).all λf=> !decide ((c.e (a.getD b 0)).dZ=(c.e (a.getD f 0)).dZ)
def PT{d:GX}{e:Int->Int->Bool}{b:List Int}(f:2<=b.length)(g:b.length<=4)(h:∀a<b.length,jt (b.getD a 0) d.ev.length=true)(i:∀a<b.length,Gb d e b a=true):d.Ie e b=true:=by
 unfold GX.Ie;simp only[ay,aJ];refine⟨⟨⟨f,g⟩,List.all_eq_true.2 λk j=> ?_⟩,List.all_eq_true.2 λa c=>i a (List.mem_range.1 c)⟩;obtain⟨a,c,rfl⟩:=List.mem_iff_getElem.1 j;have:=h a c;simpa[List.getD,c]using this
def wK{e:GX}{f:Int->Int->Bool}{a:List Int}(h:a.length<2\/4<a.length\/(∃b<a.length,jt (a.getD b 0) e.ev.length=false)\/∃b<a.length,Gb e f a b=false):e.Ie f a=false:=by
 rw[du];intro d;unfold GX.Ie at d;simp only[ay,aJ]at d;obtain⟨⟨⟨j,k⟩,g⟩,i⟩:=d;rcases h with h|h|⟨b,c,h⟩|⟨b,c,h⟩
 ·omega
 ·omega
 ·have:=List.all_eq_true.1 g (a.getD b 0) (by simp[List.getD,c]);rw[h]at this;simp at this
 ·have:=List.all_eq_true.1 i b (List.mem_range.2 c);unfold Gb at h;rw[h]at this;simp at this
def RB(a b:Nat)(d:b≠0)(c:a<9223372036854775808):binop .rem (dG (a:Int)) (dG (b:Int))=some (dG ((a% b:Nat):Int)):=by
 rw[Dt dB];rfl
def Me:qG.Ok Tryz.prog cx 122:=by
 refine iC (tb:=⟨pt [],ht []⟩) fc fa (je 19 [] Tryz.func122) (λf=>1) (by simp[qG]) (by simp[qG,Tryz.f122]) ?_;rintro⟨e,g⟩ _ h a;simp[qG]at a|-;obtain⟨b,c⟩:=a;by_cases d:0<=e<;>simp[Tryz.f122,b,c,d,jt]
def yZ{c:fN}(ht:c.p 122=some qG)(a:Int)(b:Nat):rl Tryz.prog cx c 122 [dG a,dG b]=some (.bool (jt a b)):=iv ht Me (a,b) trivial
def zw:iq:=⟨ee×fK,λa=>[a.1.t,a.2.t],λa=>mK a.1 a.2=true/\a.1.gW.length<=1000000,λa=> .bool true,λa b c=>rfl⟩
def R0:zw.Ok Tryz.prog cx 121:=by
 refine iC (tb:=⟨pt [(122,qG)],ht []⟩) fc fa (je 35315368591455 [] Tryz.func121) (λv=>1000005) (by simp[zw]) (by simp[zw,Tryz.f121]) ?_;rintro⟨e,w⟩ ⟨h,r⟩ a l;simp only at h r;simp[zw]at l|-;obtain⟨o,p⟩:=l;obtain⟨l1,l2,l3⟩:=ou h;simp[Tryz.f121,o,p,l1,l2,l3];refine fI e.gW.length dB (λn a d=>ij 2 d/\d.get 0=some (dI 6 0 [e.t])/\dJ a 2 (.ptr 0 0 0 0)/\dJ a 33 (sl (e.gW.map iT.t))/\dJ a 34 (dG e.gW.length)/\dJ a 35 (dG n)) ?_ ?_ dB ⟨by exact⟨dC,dC,dC⟩,dC⟩
 ·rintro n a d m q ⟨c,i,j,k,f,g⟩;have s:=rY h (aB m);have u:=c.ne (b:=0) dB;simp[i,j,k,f,g,m,u,c.low,yZ,s,q];exact c.cons _
 ·rintro a d ⟨c,i,j,k,f,g⟩;simp[f,g,c.hp]
def tZ:iq:=⟨ee×Int×Int,λa=>[a.1.t,dG a.2.1,dG a.2.2],λa=>j1 a.1 a.2.1 a.2.2=true,λa=> .bool true,λa b c=>rfl⟩
def My:tZ.Ok Tryz.prog cx 123:=by
 refine iC (tb:=⟨pt [(122,qG)],ht []⟩) fc fa (je 606826398900554784047567 [] Tryz.func123) (λl=>1) (by simp[tZ]) (by simp[tZ,Tryz.f123]) ?_;rintro⟨k,a,j⟩ b m f;replace b:j1 k a j=true:=b;simp[tZ]at f|-;obtain⟨c,d,e⟩:=f;have hr:=uc b;have g:a=1\/a=2\/a=3\/a=4\/a=5\/a=6\/a=7\/a=8\/a=9\/a=10\/a=11\/a=12\/a=13\/a=14\/a=15\/a=16\/a=17\/a=18\/a=19\/a=20\/a=21\/a=22\/a=23:=dB;rcases g with rfl|rfl|rfl|rfl|rfl|rfl|rfl|rfl|rfl|rfl|rfl|rfl|rfl|rfl|rfl|rfl|rfl|rfl|rfl|rfl|rfl|rfl|rfl
 case inr.inr.inr.inr.inr.inl|inr.inr.inr.inr.inr.inr.inl|inr.inr.inr.inr.inr.inr.inr.inl|inr.inr.inr.inr.inr.inr.inr.inr.inl|inr.inr.inr.inr.inr.inr.inr.inr.inr.inl|inr.inr.inr.inr.inr.inr.inr.inr.inr.inr.inl=>
  have hl:=mV b dB;obtain⟨n,h,i⟩:=iK hl;simp[j1,i]at b;simp[Tryz.f123,c,d,e,yZ,hl,h,b,eQ (fw.1 hl).1]
 all_goals
  simp[j1]at b;simp[Tryz.f123,c,d,e,yZ,b]
def Hn:nK Tryz.prog cx 132 (λb:List Int×Int=>[sl (b.1.map (T.int .i64)),dG b.2]) (λb=>b.1.length<=1000000) (λb r=>∃o,r= dG o/\(0<=o↔b.2∈b.1)):=by
 refine ju (tb:=⟨pt [],ht []⟩) fc fa (je 66483 [] Tryz.func132) (λ_=>1000005) (λb s a=>by simp at a;exact aP (jy (λ_ _ a=>by simpa using a) a.1) a.2) dC (by simp[Tryz.f132]) ?_;rintro⟨f,p⟩ hl c m;replace hl:f.length<=1000000:=hl;simp at m;obtain⟨d,e⟩:=m;simp[Tryz.f132,d];refine fI f.length dB (λl c a=>a=hE/\p∉f.take l/\dJ c 0 (sl (f.map (T.int .i64)))/\dJ c 1 (dG p)/\dJ c 7 (dG f.length)/\dJ c 8 (dG l)) ?_ ?_ dB (by simp[d,e])
 ·rintro l c a j q ⟨rfl,k,d,e,h,i⟩;simp[d,e,h,i,j];refine em (λg=> ?_) (λg=> ?_)
  ·simp at g;simp;subst g;exact aC j
  ·simp at g;simp[d,e,h,i,q];intro n;rw[aW j,cF,List.mem_singleton]at n;exact n.elim k g
 ·rintro c a ⟨rfl,k,d,e,h,i⟩;simp[h,i];simpa using k
def pq:iq:=⟨List Int×Int,λa=>[sl (a.1.map (T.int .i64)),dG a.2],λa=>a.1.length<=1000000,λa=> .bool (decide (a.2∈a.1)),λa c b=>by simp at b;rw[jy (λ_ _ b=>by simpa using b) b.1,b.2]⟩
def Js:pq.Ok Tryz.prog cx 89:=by
 refine iC (tb:=⟨pt [(132,Hn.jx)],ht []⟩) fc fa (je 19 [] Tryz.func89) (λh=>1) (by simp[pq]) (by simp[pq,Tryz.f89]) ?_;rintro⟨b,g⟩ hl j a;replace hl:b.length<=1000000:=hl;simp[pq]at a|-;obtain⟨d,e⟩:=a;obtain⟨_,⟨i,rfl,f⟩,c⟩:=Hn.use (b,g) hl;simp[Tryz.f89,d,e,c];exact f
def Ap{c:fN}(ht:c.p 89=some pq)(a:List Int)(b:Int)(hl:a.length<=1000000):rl Tryz.prog cx c 89 [sl (a.map (T.int .i64)),dG b]=some (.bool (decide (b∈a))):=iv ht Js (a,b) hl
structure EnF(w:ee)(s:fK)(t k o:Int):Prop where
 f:mK w s=true
 th:jt t w.dM.length=true
 n:j1 w k o=true
 e:Bq w s t k o=true
 c:w.gW.length<=1000000
 r:∀l∈s.ew,l.eY.length<=1000000
def wu:iq:=⟨ee×fK×Int×Int×Int,λa=>[a.1.t,a.2.1.t,dG a.2.2.1,dG a.2.2.2.1,dG a.2.2.2.2],λa=>EnF a.1 a.2.1 a.2.2.1 a.2.2.2.1 a.2.2.2.2/\a.2.2.2.1≠1/\a.2.2.2.1≠17,λa=> .bool true,λa b c=>rfl⟩
def ON:wu.Ok Tryz.prog cx 124:=by
 refine iC (tb:=⟨pt [(89,pq)],ht []⟩) fc fa (je 5868843906288553182383292937158044313155908148351 [] Tryz.func124) (λx=>1) (by simp[wu]) (by simp[wu,Tryz.f124]) ?_;rintro⟨F,C,D,a,B⟩ ⟨⟨g,ht,h,b,u,hr⟩,v,w⟩ E m;simp only at g ht h b u hr v w;simp[wu]at m|-;obtain⟨d,e,i,f,j⟩:=m;have A:=uc h;obtain⟨l1,l2,l3⟩:=ou g;have c:a=2\/a=3\/a=4\/a=5\/a=12\/a=13\/(a=6\/a=7\/a=8\/a=9\/a=10\/a=11)\/(a=14\/a=15)\/(a=16\/a=18\/a=19)\/(a=20\/a=21)\/(a=22\/a=23):=dB;rcases c with rfl|rfl|rfl|rfl|rfl|rfl|c|c|c|c|c
 case inr.inr.inr.inr.inr.inr.inl=>
  obtain⟨k,a1,a2,a3⟩:=yH g (mV h dB);have hl:=hr k (ax a2);rcases c with rfl|rfl|rfl|rfl|rfl|rfl<;>simp[Bq,a3]at b<;>simp[Tryz.f124,d,e,i,f,j,a1,a2,b,Ap,hl]
 case inr.inr.inr.inr.inr.inr.inr.inl=>
  obtain⟨k,a1,a2,a3⟩:=BI g ht;rcases c with rfl|rfl<;>simp[Bq,a3]at b<;>simp[Tryz.f124,d,e,i,f,a1,a2,b]
 case inr.inr.inr.inr.inr.inr.inr.inr.inl=>
  obtain⟨y,k,n,o,p,q,r⟩:=Gh g (py h dB);rcases c with rfl|rfl|rfl<;>simp[Bq,r]at b<;>simp[Tryz.f124,d,e,i,f,j,n,o,p,q,b]
 case inr.inr.inr.inr.inr.inr.inr.inr.inr.inl=>
  obtain⟨k,a1,a2,a3⟩:=BI g (wE h dB);rcases c with rfl|rfl<;>simp[Bq,a3]at b<;>simp[Tryz.f124,d,e,i,f,j,a1,a2,b]
 case inr.inr.inr.inr.inr.inr.inr.inr.inr.inr=>
  have l:=rj h dB;rw[<-l2]at l;obtain⟨z,s,t⟩:=iK l;rcases c with rfl|rfl<;>simp[Bq,CU,t]at b<;>simp[Tryz.f124,d,e,f,j,s,b,eQ (fw.1 l).1]
 all_goals
  simp[Bq]at b;simp[Tryz.f124,d,e,i,f,b]
def po:iq:=⟨ee×fK×Int×Int×Int,λa=>[a.1.t,a.2.1.t,dG a.2.2.1,dG a.2.2.2.1,dG a.2.2.2.2],λa=>EnF a.1 a.2.1 a.2.2.1 a.2.2.2.1 a.2.2.2.2,λa=> .bool true,λa b c=>rfl⟩
def Jr:po.Ok Tryz.prog cx 79:=by
 refine iC (tb:=⟨pt [(121,zw),(122,qG),(123,tZ),(124,wu)],ht []⟩) fc fa (je 4605278686335 [] Tryz.func79) (λF=>1) (by simp[po]) (by simp[po,Tryz.f79]) ?_;rintro⟨c,e,k,b,d⟩ f I n;replace f:EnF c e k b d:=f;obtain⟨j,ht,o,a,D,hr⟩:=id f;simp[po]at n|-;obtain⟨B,C,l,m,i⟩:=n;have y:∀{tb:fN},tb.p 121=some zw->rl Tryz.prog cx tb 121 [c.t,e.t]=some (.bool true):=λht=>iv ht R0 (c,e) ⟨j,D⟩;have z:∀{tb:fN},tb.p 123=some tZ->rl Tryz.prog cx tb 123 [c.t,dG b,dG d]=some (.bool true):=λht=>iv ht My (c,b,d) o;obtain⟨q,a1,a2,a3⟩:=BI j ht;simp[Tryz.f79,B,C,l,m,i,y,z,yZ,ht,a1,a2];by_cases g:b=1
 ·subst g;simp[Bq,a3]at a;simp[a]
 by_cases h:b=17
 ·subst h;obtain⟨G,H,s,u,v,w,x⟩:=Gh j (py o dB);simp[Bq,a3,x]at a;simp[i,a,s,u,v,w]
 have A:∀{tb:fN},tb.p 124=some wu->rl Tryz.prog cx tb 124 [c.t,e.t,dG k,dG b,dG d]=some (.bool true):=λht=>iv ht ON (c,e,k,b,d) ⟨f,g,h⟩;have E:q.iN=2:=by
  unfold Bq at a;rw[ao g,ao h,a3]at a;by_cases r:q.iN=2
  ·exact r
  ·rw[aq r]at a;simp at a
 simp[l,m,i,g,h,E,A]
def M2{a:fN}(ht:a.p 79=some po){w:ee}{s:fK}{t k o:Int}(b:EnF w s t k o):rl Tryz.prog cx a 79 [w.t,s.t,dG t,dG k,dG o]=some (.bool true):=iv ht Jr (w,s,t,k,o) b
end
noncomputable section
open Go Go.TI
attribute [-simp] List.map_take List.map_drop List.map_append
def mH(c:Nat)(b:List Int):Bool:=b.all λa=>jt a c
def oF:iq:=⟨fJ×List Int,λa=>[a.1.t,sl (a.2.map (T.int .i64))],λa=>a.2.length<=1099511627776,λa=> .bool (mH a.1.w.dS.length a.2),λa c b=>by simp at b;rw[fJ.inj b.1,jy dC b.2]⟩
def Oz:oF.Ok Tryz.prog cx 51:=by
 refine iC (tb:=⟨pt [],ht []⟩) fc fa (je 4196311 [] Tryz.func51) (λo=>o.2.length+1) (by simp[oF]) (by simp[oF,Tryz.f51]) ?_;rintro⟨e,b⟩ hl d m;simp[oF]at hl m|-;obtain⟨p,q⟩:=m;simp[Tryz.f51,p,q];refine fI b.length dB (λc d j=>j=H.cons hE (dI 16 0 [e.t])/\dJ d 2 (.ptr 0 0 0 0)/\dJ d 7 (sl (b.map (T.int .i64)))/\dJ d 8 (dG b.length)/\dJ d 9 (dG c)/\mH e.w.dS.length (b.drop c)=mH e.w.dS.length b) ?_ ?_ dB dC
 ·rintro c d j i r ⟨rfl,k,h,f,g,a⟩;rw[aI i]at a;simp only[mH,cJ]at a;by_cases l:b[c]<0
  ·have:jt b[c] e.w.dS.length=false:=by simp[jt];omega
   rw[this,Bool.false_and]at a;simp[h,f,g,i,l,mH,a.symm]
  ·by_cases n:(e.w.dS.length:Int)<=b[c]
   ·have:jt b[c] e.w.dS.length=false:=by simp[jt];omega
    rw[this,Bool.false_and]at a;simp[k,h,f,g,i,l,n,mH,a.symm]
   ·have:jt b[c] e.w.dS.length=true:=by simp[jt];omega
    rw[this,bO]at a;simp[k,h,f,g,i,r,l,n,mH,a]
 ·rintro d j ⟨rfl,k,h,f,g,a⟩;simp[mH]at a;simp[f,g,mH];exact a
def Gp{c:fN}(ht:c.p 51=some oF)(b:fJ)(a:List Int)(hl:a.length<=1099511627776):rl Tryz.prog cx c 51 [b.t,sl (a.map (T.int .i64))]=some (.bool (mH b.w.dS.length a)):=iv ht Oz (b,a) hl
def r7{d:fN}(ht:d.p 51=some oF)(a:fJ)(b c:Int):rl Tryz.prog cx d 51 [a.t,sl [dG b,dG c]]=some (.bool (jt b a.w.dS.length&&jt c a.w.dS.length)):=by
 have:=Gp ht a [b,c] dC;simpa[mH]using this
def AC(a:fF)(b c:Int):Bool:=jt b a.dS.length&&jt c a.dS.length&&decide (b<c)&&lV (qV a.dS b) (qV a.dS c)&& !decide ((qV a.dS b).dZ=(qV a.dS c).dZ)&& !((xr a.fq.cells (qV a.dS b).obj).getD default).tK
def GC(b:fF):Prop:=∀a∈b.dS,qY a=true->jt a.obj b.fq.cells.length=true
def xy:iq:=⟨fJ×Int×Int,λa=>[a.1.t,dG a.2.1,dG a.2.2],λa=>GC a.1.w,λa=> .bool (AC a.1.w a.2.1 a.2.2),λa c b=>by simp at b;rw[fJ.inj b.1,b.2.1,b.2.2]⟩
def RP:xy.Ok Tryz.prog cx 48:=by
 refine iC (tb:=⟨pt [(51,oF),(87,qQ)],ht []⟩) fc fa (je 67109327 [(3,[(8,14),(10,14),(11,14)])] Tryz.func48) (λb=>1) (by simp[xy]) (by simp[xy,Tryz.f48]) ?_;rintro⟨j,d,e⟩ r E c;simp[xy]at r c|-;obtain⟨g,h,i⟩:=c;cases l:(jt d j.w.dS.length&&jt e j.w.dS.length)with
 |false=>simp[Tryz.f48,g,h,i,r7,l,AC,gH]
 |true=>
  have a:=l;rw[ay]at a;obtain⟨b,c,t⟩:=iK a.1;obtain⟨k,v,x⟩:=iK a.2;have A:=eQ (fw.1 a.1).1;have B:=eQ (fw.1 a.2).1;have n:qV j.w.dS d=b:=by simp[qV,t]
  have o:qV j.w.dS e=k:=by simp[qV,x]
  by_cases m:e<=d
  ·have:¬d<e:=dB;simp[Tryz.f48,g,h,i,r7,l,m,AC,gH,this]
  ·have p:d<e:=dB;cases f:lV b k with
   |false=>simp[Tryz.f48,g,h,i,r7,m,AC,gH,p,Bw,a.1,a.2,n,o,f]
   |true=>
    have u:qY b=true:=by unfold lV at f;simp at f;exact f.1.1.1
    have q:=r b (ax c) u;obtain⟨D,y,z⟩:=iK q;have s:=eQ (fw.1 q).1;cases C:decide (b.dZ=k.dZ)<;>
     simp[Tryz.f48,g,h,i,r7,m,AC,gH,p,Bw,a.1,a.2,n,o,f,C,A,B,c,v,y,z,s,ph]
def WP{d:fN}(ht:d.p 48=some xy)(a:fJ)(b c:Int)(e:GC a.w):rl Tryz.prog cx d 48 [a.t,dG b,dG c]=some (.bool (AC a.w b c)):=iv ht RP (a,b,c) e
end
noncomputable section
open Go Go.TI
attribute [-simp] List.map_take List.map_drop List.map_append fH fh ej Bool.not_or Bool.not_and
attribute [simp] fG fj
attribute [-simp] size_cons
def m9{a b:Nat}(c:a<b):js a b=a::js (a+1) b:=by
 unfold js;rw[show b-a=(b-(a+1))+1 by omega,List.range'_succ]
def ox{a b:Nat}(c:b<=a):js a b=[]:=by unfold js;rw[show b-a=0 by omega];rfl
def IN(a:Nat):List.range a=js 0 a:=by unfold js;rw[List.range_eq_range'];rfl
def ma{d i:Type}(b:Nat){f:d->List i}:∀{l:List d},(∀a∈l,(f a).length<=b)->(l.flatMap f).length<=l.length*b:=by
 intro l;induction l with
 |nil=>intro _;simp
 |cons a l g=>
  intro c;rw[bA,aU,bh,bX];have j:=c a dC;have k:=g λh e=>c h (by simp[e]);omega
def BH(b a:Nat):(js b a).length<=a:=by unfold js;simp
def SD{c:Nat}(h:c<=16){d:List Int->Bool}{go:List Int->Int->Bool}:∀(a:Nat) (b:List Int),(wU c d go a b).length<=17^a:=by
 intro a;induction a with
 |zero=>intro b;unfold wU;split<;>simp
 |succ a i=>
  intro b;unfold wU;rw[aU];have j:(if d b=true then [b]else []).length<=1:=by split<;>simp
  have k:=ma (17^a) (l:=js ((b.getD 0 0).toNat+1) c) (f:=λ(e:Nat)=>if go b e=true then wU c d go a (b++[(e:Int)])else []) λo _=>by
   split
   ·exact i _
   ·simp
  have g:=BH ((b.getD 0 0).toNat+1) c;have m:=aY (17^a) (aS g h);have n:0<17^a:=Nat.pow_pos dB;rw[Nat.pow_succ];omega
def EK(b:ik->Bool)(a:ik):(jr b a).length<=1:=by unfold jr;split<;>simp
def EH(a:GX)(m:a.n<=16):a.vS.length<=100000+80000:=by
 unfold GX.vS;simp only[aU];have two:∀h:Nat->Nat->ik,((List.range a.n).flatMap λ(b:Nat)=>(List.range a.n).flatMap λ(c:Nat)=>jr a.vR (h b c)).length<=256:=λh=>by
  have j:=ma 16 (l:=List.range a.n) (f:=λ(b:Nat)=>(List.range a.n).flatMap λ(c:Nat)=>jr a.vR (h b c)) λb _=>by
   have k:=ma 1 (l:=List.range a.n) (f:=λ(c:Nat)=>jr a.vR (h b c)) λc _=>EK _ _;rw[dz]at k;omega
  rw[dz]at j;omega
 have j:=two gR;have k:=two gL;have p:((List.range a.n).flatMap λ(b:Nat)=>(a.Id b).map gC).length<=16*4913:=by
  have i:=ma 4913 (l:=List.range a.n) (f:=λ(b:Nat)=>(a.Id b).map gC) λb _=>by
   rw[aG];exact SD (show a.ev.length<=16 from m) 3 _
  rw[dz]at i;omega
 have q:((List.range a.n).flatMap λ(b:Nat)=>(js (b+1) a.n).flatMap λ(c:Nat)=>if(a.e b).dZ=(a.e c).dZ/\qY (a.e b)=true/\qY (a.e c)=true then(List.range a.n).flatMap λ(d:Nat)=>(js d a.n).flatMap λ(g:Nat)=>jr a.vR (gA b c d g)else []).length<=16*(16*256):=by
  have i:=ma (16*256) (l:=List.range a.n) (f:=λ(b:Nat)=>(js (b+1) a.n).flatMap λ(c:Nat)=>if(a.e b).dZ=(a.e c).dZ/\qY (a.e b)=true/\qY (a.e c)=true then(List.range a.n).flatMap λ(d:Nat)=>(js d a.n).flatMap λ(g:Nat)=>jr a.vR (gA b c d g)else []) λb _=>by
   have r:=ma 256 (l:=js (b+1) a.n) (f:=λ(c:Nat)=>if(a.e b).dZ=(a.e c).dZ/\qY (a.e b)=true/\qY (a.e c)=true then(List.range a.n).flatMap λ(d:Nat)=>(js d a.n).flatMap λ(g:Nat)=>jr a.vR (gA b c d g)else []) λc _=>by
    split
    ·have o:=ma 16 (l:=List.range a.n) (f:=λ(d:Nat)=>(js d a.n).flatMap λ(g:Nat)=>jr a.vR (gA b c d g)) λd _=>by
      have s:=ma 1 (l:=js d a.n) (f:=λ(g:Nat)=>jr a.vR (gA b c d g)) λg _=>EK _ _;have:=BH d a.n;omega
     rw[dz]at o;omega
    ·simp
   have:=BH (b+1) a.n;omega
  rw[dz]at i;omega
 omega
structure wm(x:fJ):Prop where
 w:ny x.w
 s:x.BK=x.w.gx.st
def wm.st{a:fJ}(c:wm a){e:Int}(d:jt e a.w.dS.length=true):∃b,a.BK[e.toNat]? =some b/\a.w.gx.s e=b/\mK a.w.fq b=true/\(∀h∈b.ew,h.eY.length<=2000):=by
 obtain⟨f,i⟩:=c.w.ok.s d;have g:=c.w.ok.st (fw.1 d).2;refine⟨_,by rw[c.s];exact g,f,by rw[<-f];exact i,by rw[<-f];exact(c.w.rd d).1⟩
def oI:iq:=⟨fJ×Int×Int,λa=>[a.1.t,dG a.2.1,dG a.2.2],λa=>wm a.1/\jt a.2.1 a.1.w.dS.length=true/\jt a.2.2 a.1.w.dS.length=true,λa=> .bool (a.1.w.gx.qy a.2.1 a.2.2),λa c b=>by simp at b;rw[fJ.inj b.1,b.2.1,b.2.2]⟩
def Mt:oI.Ok Tryz.prog cx 55:=by
 refine iC (tb:=⟨pt [(88,wt),(89,pq)],ht []⟩) fc fa (je 36051629065113551 [(1,[(8,14),(10,14),(11,14)])] Tryz.func55) (λ_=>10) (by simp[oI]) (by simp[oI,Tryz.f55]) ?_;rintro⟨f,i,h⟩ ⟨p,u,A⟩ Z z;simp only at p u A;simp[oI]at z|-;obtain⟨M,k,N⟩:=z;obtain⟨v,L,j,y,X,Y⟩:=p.w.at u;obtain⟨c,I,J,K,W,n⟩:=p.w.at A;obtain⟨D,r,S,s,T⟩:=p.st u;have a:=GX.wV.eq_1 f.w.gx i h;rw[K,y,S,show f.w.gx.w=f.w.fq from rfl]at a;have t:f.w.gx.qy i h=(qp v.kind&&f.w.gx.wV i h):=by rw[<-y];rfl
 generalize f.w.gx.qy i h=C at*
 generalize f.w.gx.wV i h=U at*
 simp[Tryz.f55,M,k,N,I,J,L,j,S9,ph];refine em (λl=> ?_) (λl=> ?_)
 ·have:C=false:=by
   rw[t];cases P:qp v.kind with
   |false=>rfl
   |true=>
    rw[P]at l;have ht:c.dZ=v.dZ:=by simpa using l
    rw[aq ht]at a;rw[a];rfl
  simp[this]
 simp only[cr,cK,bU]at l;obtain⟨O,Q⟩:=l;rw[Q,bO]at t;subst t;rw[ao O]at a;simp;have o:∀b:eg,b∈D.ew->b.eY.length<=1000000:=λb hl=>by have:=T b hl;omega
 cases B:decide (c.kind=6)with
 |true=>
  have d:c.kind=6:=by simpa using B
  obtain⟨b,l1,l2,l3⟩:=yH s (mV n dB);have hl:=o b (ax l2);rw[aq (.inl d),l3]at a;simp[k,l1,l2,r,j,Ap,hl,a]
 |false=>
  cases e:decide (c.kind=10)with
  |true=>
   have d:c.kind=10:=by simpa using e
   obtain⟨b,l1,l2,l3⟩:=yH s (mV n dB);have hl:=o b (ax l2);rw[aq (.inr d),l3]at a;simp[k,e,l1,l2,r,j,Ap,hl,a]
  |false=>
   have R:¬(c.kind=6\/c.kind=10):=by simp at B e;omega
   rw[ao R]at a;cases g:decide (c.kind=8)with
   |true=>
    have d:c.kind=8:=by simpa using g
    obtain⟨b,l1,l2,l3⟩:=yH s (mV n dB);rw[aq d,l3]at a;have hl:=o b (ax l2);simp[k,e,g,l1,l2,r,j,a]
   |false=>
    rw[ao (by simpa using g)]at a;cases m:decide (c.kind=17)with
    |true=>
     have d:c.kind=17:=by simpa using m
     obtain⟨V,b,E,F,G,x,H⟩:=Gh s (py n dB);rw[aq d,H]at a;have hl:=o b (ax x);simp[k,e,g,m,E,F,G,x,r,j,a]
    |false=>
     rw[ao (by simpa using m)]at a;cases q:decide (c.kind=21)with
     |true=>
      rw[aq (by simpa using q)]at a;simp[e,g,m,q,a]
     |false=>
      rw[ao (by simpa using q)]at a;simp[e,g,m,q,a]
def zr:iq:=⟨fJ×Int×Int,λa=>[a.1.t,dG a.2.1,dG a.2.2],λa=>wm a.1,λa=> .bool ((jt a.2.1 a.1.w.dS.length&&jt a.2.2 a.1.w.dS.length)&&a.1.w.gx.VW a.2.1 a.2.2),λa c b=>by simp at b;rw[fJ.inj b.1,b.2.1,b.2.2]⟩
def RS:zr.Ok Tryz.prog cx 50:=by
 refine iC (tb:=⟨pt [(51,oF)],ht []⟩) fc fa (je 1238093369775042453301102031 [(3,[(8,14),(10,14),(11,14)])] Tryz.func50) (λ_=>100) (by simp[zr]) (by simp[zr,Tryz.f50]) ?_;rintro⟨f,a,b⟩ p h J;replace p:wm f:=p;simp[zr]at J|-;obtain⟨D,i,u⟩:=J;cases z:(jt a f.w.dS.length&&jt b f.w.dS.length)with
 |false=>simp[Tryz.f50,D,i,u,r7,z,gH]
 |true=>
  have N:=z;rw[ay]at N;obtain⟨G,K⟩:=N;obtain⟨H,a1,a2,a3,a4,a5⟩:=p.w.at G;obtain⟨A,I,a7,R,T,a8⟩:=p.w.at K;obtain⟨S,O,av,aA,bH⟩:=p.st G;obtain⟨P,aN,aX,a6⟩:=BI aA T;have d:=GX.VW.eq_1 f.w.gx a b;rw[a3,R,av,a6]at d;generalize f.w.gx.VW a b=Q at*
  obtain⟨e,rfl,bu⟩:=ny.nat G;obtain⟨c,rfl,bB⟩:=ny.nat K;have bC:=p.w.ok.len;rw[da]at a1 I O;by_cases bz:c<e;rotate_left
  ·rw[aR (show¬(c:Int)<e by omega)]at d;simp[Tryz.f50,D,i,u,r7,z,gH,d,show e<=c by omega]
  have X:=QE f.w.gx (lo:=(c:Int)+1) (hi:=e) (a:=c+1) (b:=e) (λo=> !decide (o.dZ=A.dZ)) dB rfl;rw[X,show f.w.gx.ev=f.w.dS from rfl,bI (show(c:Int)<e by omega)]at d;have W:binop .add (dG (c:Int)) (dG 1)=some (dG ((c:Int)+1)):=iy dB dB;have aE:ka ((c:Int)+1)=some (c+1):=by have:=eQ (show(0:Int)<=((c+1:Nat):Int)by omega);simpa using this
  simp[Tryz.f50,D,i,u,r7,z,gH,show¬e<=c by omega,a1,I,ph];refine em (λs=> ?_) (λs=> ?_)
  ·have:Q=false:=by
    rw[du];intro g;rw[d]at g;simp only[ay,cm,aJ,ci,bU]at g s;obtain⟨⟨⟨⟨⟨⟨⟨_,bn⟩,U⟩,r⟩,l⟩,bp⟩,bi⟩,bk⟩:=g;simp[U,r,l]at s;omega
   simp[this]
  simp only[cr,Bool.and_eq_false_iff,cK,bU,aJ]at s;obtain⟨⟨⟨ae,al⟩,an⟩,ap⟩:=s;rw[bI al,bI an,aR ap,show(decide (H.kind=18)||decide (H.kind=19))=true by simpa using ae]at d;simp[-List.length_take,-List.length_drop,i,u,W,aE,show c+1<=e by omega,show e<=f.w.dS.length by omega];have bs:((f.w.dS.drop (c+1)).take (e-(c+1))).length<=16:=dD;generalize(f.w.dS.drop (c+1)).take (e-(c+1))=n at*
  refine fI n.length dB (λy h g=>ij 4 g/\g.get 0=some (dI 16 0 [f.t])/\g.get 2=some (dI 7 1 [H.t])/\g.get 3=some (dI 7 1 [A.t])/\((n.drop y).all λo=> !decide (o.dZ=A.dZ))=(n.all λo=> !decide (o.dZ=A.dZ))/\dJ h 1 (dG e)/\dJ h 3 (.ptr 0 0 0 0)/\dJ h 7 (.ptr 2 0 0 0)/\dJ h 8 (.ptr 3 0 0 0)/\dJ h 67 (sl (n.map eK.t))/\dJ h 68 (dG n.length)/\dJ h 69 (dG y)) ?_ ?_ dB ?_
  ·rintro y h g L V ⟨j,B,C,q,k,i,E,r,l,F,v,x⟩;have Y:=j.ne (b:=0) dB;have Z:=j.ne (b:=2) dB;have M:=j.ne (b:=3) dB;rw[aI L,cJ]at k;simp[q,l,F,v,x,M,j.low,L];generalize n[y]=o at*
   refine em (λm=> ?_) (λm=> ?_)
   ·rw[m]at k;rw[<-k]at d;simp at d;simp[d,j.hp]
   ·rw[m]at k;simp[i,E,r,l,F,v,x,V];exact⟨j.cons _,by simp[B,Y],by simp[C,Z],by simp[q,M],by simpa using k⟩
  ·rintro h g ⟨j,B,C,q,k,i,E,r,l,F,v,x⟩;rw[dx]at k;rw[<-k]at d;simp at d;simp[B,q,i,E,l,v,x,O,aN,aX];refine em (λm=> ?_) (λm=> ?_)
   ·rw[show decide (P.iN=3)=false by simpa using m]at d;simp at d;simp[d,j.hp]
   ·rw[show decide (P.iN=3)=true by simpa using m]at d;simp at d;simp[C,q,r,l,j.hp,d]
  ·simp[i]
def sL:iq:=⟨fJ×Int×Int,λa=>[a.1.t,dG a.2.1,dG a.2.2],λa=>wm a.1/\jt a.2.1 a.1.w.dS.length=true/\jt a.2.2 a.1.w.dS.length=true,λa=> .bool (a.1.w.gx.Ir a.2.1 a.2.2),λa c b=>by simp at b;rw[fJ.inj b.1,b.2.1,b.2.2]⟩
def Hz:sL.Ok Tryz.prog cx 25:=by
 refine iC (tb:=⟨pt [],ht []⟩) fc fa (je 18463641368405213903 [] Tryz.func25) (λ_=>100) (by simp[sL]) (by simp[sL,Tryz.f25]) ?_;rintro⟨g,a,b⟩ ⟨l,p,z⟩ h D;simp only at l p z;simp[sL]at D|-;obtain⟨C,u,v⟩:=D;obtain⟨i,a1,a2,a3,a4,a5⟩:=l.w.at p;obtain⟨V,B,X,I,Y,Z⟩:=l.w.at z;obtain⟨W,G,O,P,aA⟩:=l.st p;obtain⟨R,S,T,U⟩:=BI P a4;have d:=GX.Ir.eq_1 g.w.gx a b;rw[a3,I,O,U]at d;generalize g.w.gx.Ir a b=H at*
 obtain⟨c,rfl,al⟩:=ny.nat p;obtain⟨e,rfl,ap⟩:=ny.nat z;have av:=l.w.ok.len;rw[da]at a1 B G;have L:=QE g.w.gx (lo:=(c:Int)+1) (hi:=e) (a:=c+1) (b:=e) (GX.D7 i.dZ) dB rfl;rw[L,show g.w.gx.ev=g.w.dS from rfl]at d;have K:binop .add (dG (c:Int)) (dG 1)=some (dG ((c:Int)+1)):=iy dB dB;have Q:ka ((c:Int)+1)=some (c+1):=by have:=eQ (show(0:Int)<=((c+1:Nat):Int)by omega);simpa using this
 by_cases an:c<e;rotate_left
 ·rw[aR (show¬(c:Int)<e by omega)]at d;simp[Tryz.f25,C,u,v,d,show e<=c by omega,a1]
 rw[bI (show(c:Int)<e by omega),bO]at d;simp[Tryz.f25,C,u,v,show¬e<=c by omega,a1,B,G,S,T];refine em (λk=> ?_) (λk=> ?_)
 ·have:H=false:=by
   rw[d];cases M:decide (V.dZ=i.dZ)<;>cases N:R.atomic<;>simp[M,N]at k|-
  simp[this]
 simp only[cr,cK]at k;rw[k.1,k.2]at d;simp[-List.length_take,-List.length_drop,u,v,K,Q,show c+1<=e by omega,show e<=g.w.dS.length by omega];have ae:((g.w.dS.drop (c+1)).take (e-(c+1))).length<=16:=dD;generalize(g.w.dS.drop (c+1)).take (e-(c+1))=j at*
 refine fI j.length dB (λq h s=>ij 1 s/\(j.drop q).all (GX.D7 i.dZ)=j.all (GX.D7 i.dZ)/\dJ h 7 (dG i.dZ)/\dJ h 50 (sl (j.map eK.t))/\dJ h 51 (dG j.length)/\dJ h 52 (dG q)) ?_ ?_ dB ?_
 ·rintro q h s F J ⟨m,f,y,x,n,o⟩;rw[aI F,cJ]at f;simp[y,x,n,o,m.low,F];generalize j[q]=r at*
  have E:GX.D7 i.dZ r= !(decide (r.dZ=i.dZ)&&decide (r.kind=15)):=rfl;refine em (λA=> ?_) (λA=> ?_)
  ·rw[E,A]at f;rw[<-f]at d;simp at d;simp[d,m.hp]
  ·rw[E,A]at f;simp[y,x,n,o,J];exact⟨m.cons _,by simpa using f⟩
 ·rintro h s ⟨m,f,y,x,n,o⟩;rw[dx]at f;rw[<-f]at d;simp at d;simp[n,o,m.hp,d]
 ·simp
def tW:iq:=⟨fJ×ik,λe=>[e.1.t,e.2.t],λe=>wm e.1/\jt e.2.a e.1.w.dS.length=true/\jt e.2.b e.1.w.dS.length=true/\jt e.2.c e.1.w.dS.length=true/\jt e.2.d e.1.w.dS.length=true,λe=> .bool (e.1.w.gx.Xa e.2.a e.2.b e.2.c e.2.d),λe g f=>by simp at f;rw[fJ.inj f.1,ik.inj f.2]⟩
def Ms:tW.Ok Tryz.prog cx 52:=by
 refine iC (tb:=⟨pt [(87,qQ)],ht []⟩) fc fa (je 63 [] Tryz.func52) (λ_=>100) (by simp[tW]) (by simp[tW,Tryz.f52]) ?_;rintro⟨a,⟨E,b,c,d,f,F⟩⟩ ⟨g,h,o,i,j⟩ I n;simp only at g h o i j;simp[tW]at n|-;obtain⟨x,y⟩:=n;obtain⟨J,a1,a2,a3,a4,a5⟩:=g.w.at h;obtain⟨G,q,r,s,A,B⟩:=g.w.at i;obtain⟨H,t,u,v,C,D⟩:=g.w.at j;have m:=GX.Xa.eq_1 a.w.gx b c d f;have k:=λ{tb:fN} (ht:tb.p 87=some qQ)=>Bw ht a b d h i;have l:=λ{tb:fN} (ht:tb.p 87=some qQ)=>Bw ht a f c j o;rw[show qV a.w.dS b=a.w.gx.e b from rfl,show qV a.w.dS d=a.w.gx.e d from rfl]at k;rw[show qV a.w.dS f=a.w.gx.e f from rfl,show qV a.w.dS c=a.w.gx.e c from rfl]at l;generalize a.w.gx.Xa b c d f=z at*
 generalize lV (a.w.gx.e b) (a.w.gx.e d)=p1 at*
 generalize lV (a.w.gx.e f) (a.w.gx.e c)=p2 at*
 rw[a3,s,v]at m;simp[Tryz.f52,x,y,a1,a2,q,r,t,u,k,l,m]
def ww:iq:=⟨fJ×List Int,λa=>[a.1.t,sl (a.2.map (T.int .i64))],λa=>wm a.1/\a.2.length<=1000000,λa=> .bool (a.1.w.gx.Ie a.1.w.gx.qy a.2),λa c b=>by simp at b;rw[fJ.inj b.1,jy dC b.2]⟩
def Iq{d:fN}(ht:d.p 55=some oI)(a:fJ)(c b:Int)(g:wm a)(e:jt c a.w.dS.length=true)(f:jt b a.w.dS.length=true):rl Tryz.prog cx d 55 [a.t,dG c,dG b]=some (.bool (a.w.gx.qy c b)):=iv ht Mt (a,c,b) ⟨g,e,f⟩
def Pb:ww.Ok Tryz.prog cx 49:=by
 refine iC (tb:=⟨pt [(55,oI),(51,oF)],ht []⟩) fc fa (je 2361217299907134620023 [] Tryz.func49) (λ_=>100) (by simp[ww]) (by simp[ww,Tryz.f49]) ?_;rintro⟨f,a⟩ ⟨C,a8⟩ g V;simp only at C a8;simp[ww]at V|-;obtain⟨aA,i⟩:=V;have bu:=C.w.ok.len;obtain⟨D,s⟩:∃D,f.w.gx.Ie f.w.gx.qy a=D:=⟨_,rfl⟩;rw[s];simp[Tryz.f49,aA,i,Gp,show a.length<=1099511627776 by omega];refine em (λB=> ?_) (λB=> ?_)
 ·have:D=false:=by
   rw[<-s];simp only[cm,aJ,ci]at B;rcases B with(h|h)|h
   ·exact wK dB
   ·exact wK dB
   ·unfold mH at h;rw[List.all_eq_false]at h;obtain⟨d,v,bk⟩:=h;obtain⟨b,ae,rfl⟩:=List.mem_iff_getElem.1 v;exact wK (.inr (.inr (.inl ⟨b,ae,by simp[List.getD,ae];exact(by simpa using bk:jt a[b] f.w.dS.length=false)⟩)))
  simp[this]
 simp only[cr,cK,bU]at B;obtain⟨⟨bz,bB⟩,an⟩:=B;have a6:2<=a.length:=dB;have a7:a.length<=4:=dB;have z:∀c (j:c<a.length),jt a[c] f.w.dS.length=true:=λc j=>by
  unfold mH at an;exact List.all_eq_true.1 an _ (aC j)
 have bi:∀c<a.length,jt (a.getD c 0) f.w.gx.ev.length=true:=λc j=>by simp[List.getD,j];exact z c j
 simp[i];generalize O:H.cons _ _=G;have U:G.get 0=some (dI 16 0 [f.t]):=by rw[<-O];simp
 have S:Hp G:=by rw[<-O];simp
 clear O;refine fI a.length dB (λb g h=>G=h/\(∀c<b,Gb f.w.gx f.w.gx.qy a c=true)/\dJ g 1 (sl (a.map (T.int .i64)))/\dJ g 2 (.ptr 0 0 0 0)/\dJ g 23 (sl (a.map (T.int .i64)))/\dJ g 24 (dG a.length)/\dJ g 25 (dG b)) ?_ ?_ dB ?_
 ·rintro b g _ A W ⟨rfl,P,i,l,r,n,o⟩;have R:∀c (j:c<a.length),a.getD c 0=a[c]:=λc j=>by simp[List.getD,j]
  have K:0<a.length:=dB;have al:=RB (b+1) a.length dB dB;have J:(b+1)% a.length<a.length:=Nat.mod_lt _ K;have u:Gb f.w.gx f.w.gx.qy a b=(!decide (a[b]<a[0])&&f.w.gx.qy (a[(b+1)% a.length]'J) a[b]&&(List.range b).all λd=> !decide ((f.w.gx.e a[b]).dZ=(f.w.gx.e (a.getD d 0)).dZ)):=by unfold Gb;rw[R _ A,R _ K,R _ J]
  generalize(b+1)% a.length=m at*
  have av:=λ{tb:fN} (ht:tb.p 55=some oI)=>Iq ht f a[m] a[b] C (z m J) (z b A);obtain⟨x,a1,a2,a3,a4,a5⟩:=C.w.at (z b A);rw[a3]at u;simp at al;have X:Gb f.w.gx f.w.gx.qy a b=false->D=false:=λh=>by rw[<-s];exact wK (.inr (.inr (.inr ⟨b,A,h⟩)))
  simp[U,i,l,r,n,o,A,W,K,al,J,av];refine em (λk=> ?_) (λk=> ?_)
  ·have:Gb f.w.gx f.w.gx.qy a b=false:=by
    rw[u,du];intro h;simp only[ay,ci,bU]at h;simp[h.1.2]at k;omega
   simp[X this,S]
  ·simp only[cr,cK,bU]at k;rw[k.2,aR k.1]at u;simp[-List.length_take,i,show b<=a.length by omega];obtain⟨q,N⟩:∃q,q=a.take b:=⟨_,rfl⟩;rw[<-N];have aX:q.length=b:=by rw[N];simp;omega
   have bn:∀d (v:d<q.length) (hl:d<a.length),q[d]=a[d]:=λd v hl=>by subst N;exact List.getElem_take
   refine fI b dB (λd g h=>G=h/\(∀c<d,decide (x.dZ=(f.w.gx.e (a.getD c 0)).dZ)=false)/\dJ g 1 (sl (a.map (T.int .i64)))/\dJ g 2 (.ptr 0 0 0 0)/\dJ g 6 (dG a[b])/\dJ g 23 (sl (a.map (T.int .i64)))/\dJ g 24 (dG a.length)/\dJ g 25 (dG b)/\dJ g 51 (sl (q.map (T.int .i64)))/\dJ g 52 (dG b)/\dJ g 53 (dG d)) ?_ ?_ dB ?_
   ·rintro d g _ Z aN ⟨rfl,Q,i,l,M,r,n,o,L,E,F⟩;have I:d<a.length:=dB;obtain⟨y,bp,bs,ap,bC,bH⟩:=C.w.at (z d I);have Y:d<q.length:=dB;have aE:=bn d Y I;simp[U,l,M,L,E,F,Z,Y,aE,a1,a2,bp,bs];refine em (λk=> ?_) (λk=> ?_)
    ·have:Gb f.w.gx f.w.gx.qy a b=false:=by
      rw[u];simp;exact⟨d,Z,by simpa[I,ap]using k⟩
     simp[X this,S]
    ·simp[i,l,M,r,n,o,L,E,F,aN];intro c j;rcases aF c d with h|h
     ·simpa using Q c h
     ·rw[show c=d by omega];simp[I,ap];simpa using k
   ·rintro g _ ⟨rfl,Q,i,l,M,r,n,o,L,E,F⟩;simp[i,l,r,n,o,E,F,W];intro c j;rcases aF c b with h|h
    ·exact P c h
    ·rw[show c=b by omega,u];simp;intro d v;simpa using Q d v
   ·simp[i,l,r,n,o,aX]
 ·rintro g _ ⟨rfl,P,i,l,r,n,o⟩;rw[PT a6 a7 bi P]at s;simp[n,o,s.symm,S]
 ·simp[i]
def ny.cells{a:fF}(g:ny a):GC a:=λd h e=>by
 obtain⟨i,f⟩:=cT h;have hl:i<a.dS.length:=(List.getElem?_eq_some_iff.1 f).1;obtain⟨k,b,l,m,n,c⟩:=g.at (i:=i) (fw.2 ⟨dB,by simpa using hl⟩);rw[da,f]at b;simp only[ar]at b;subst b;have j:d.kind=3\/d.kind=4:=by unfold qY at e;simpa using e
 unfold j1 at c;rw[ao dB,aq j]at c;exact c
def In{f:fN}(ht:f.p 51=some oF)(a:fJ)(b c d e:Int):rl Tryz.prog cx f 51 [a.t,sl [dG b,dG c,dG d,dG e]]=some (.bool (jt b a.w.dS.length&&jt c a.w.dS.length&&jt d a.w.dS.length&&jt e a.w.dS.length)):=by
 have:=Gp ht a [b,c,d,e] dC;simpa[mH,Bool.and_assoc]using this
def N2{a:fJ}(d:wm a)(b c:Int):AC a.w b c=((jt b a.w.dS.length&&jt c a.w.dS.length)&&a.w.gx.XL b c):=by
 unfold AC GX.XL GX.e fF.gx;cases jt b a.w.dS.length<;>cases jt c a.w.dS.length<;>simp
 ac_rfl
def sK:iq:=⟨fJ×ik,λa=>[a.1.t,a.2.t],λa=>wm a.1/\a.2.jD.length<=1000000,λa=> .bool (a.1.w.gx.vG a.2),λa c b=>by simp at b;rw[fJ.inj b.1,ik.inj b.2]⟩
def OI:sK.Ok Tryz.prog cx 23:=by
 refine iC (tb:=⟨pt [(48,xy),(49,ww),(50,zr),(51,oF),(25,sL),(52,tW)],ht []⟩) fc fa (je 2417851783344448572752095 [] Tryz.func23) (λ_=>100) (by simp[sK]) (by simp[sK,Tryz.f23]) ?_;rintro⟨f,e⟩ ⟨i,u⟩ F s;simp only at i u;simp[sK]at s|-;obtain⟨k,l⟩:=s;have g:=GX.vG.eq_1 f.w.gx e;simp only[show∀v,f.w.gx.z9 v=jt v f.w.dS.length from λ_=>rfl]at g;generalize f.w.gx.vG e=E at*
 cases h:decide (e.kind=1)with
 |true=>
  rw[aq (by simpa using h)]at g;have n:∀{tb:fN},tb.p 48=some xy->rl Tryz.prog cx tb 48 [f.t,dG e.a,dG e.b]=some (.bool ((jt e.a f.w.dS.length&&jt e.b f.w.dS.length)&&f.w.gx.XL e.a e.b)):=λht=>by rw[<-N2 i];exact WP ht f e.a e.b i.w.cells
  simp[Tryz.f23,k,l,h,n,g]
  try ac_rfl
 |false=>
  rw[ao (by simpa using h)]at g;cases j:decide (e.kind=2)with
  |true=>
   rw[aq (by simpa using j)]at g;have n:∀{tb:fN},tb.p 49=some ww->rl Tryz.prog cx tb 49 [f.t,sl (e.jD.map (T.int .i64))]=some (.bool (f.w.gx.Ie f.w.gx.qy e.jD)):=λht=>iv ht Pb (f,e.jD) ⟨i,u⟩;simp[Tryz.f23,k,l,h,j,n,g,GX.dead]
  |false=>
   rw[ao (by simpa using j)]at g;cases m:decide (e.kind=3)with
   |true=>
    rw[aq (by simpa using m)]at g;have n:∀{tb:fN},tb.p 50=some zr->rl Tryz.prog cx tb 50 [f.t,dG e.a,dG e.b]=some (.bool ((jt e.a f.w.dS.length&&jt e.b f.w.dS.length)&&f.w.gx.VW e.a e.b)):=λht=>iv ht RS (f,e.a,e.b) i;simp[Tryz.f23,k,l,h,j,m,n,g]
    try ac_rfl
   |false=>
    rw[ao (by simpa using m)]at g;cases o:decide (e.kind=4)with
    |false=>
     rw[ao (by simpa using o)]at g;simp[Tryz.f23,k,l,h,j,m,o,g]
    |true=>
     rw[aq (by simpa using o)]at g;cases q:(jt e.a f.w.dS.length&&jt e.b f.w.dS.length&&jt e.c f.w.dS.length&&jt e.d f.w.dS.length)with
     |false=>
      rw[q]at g;cases r:decide (e.jD=[])<;>simp[Tryz.f23,k,l,h,j,m,o,In,gH,q,g,r]
     |true=>
      rw[q]at g;have z:=q;simp only[ay]at z;obtain⟨⟨⟨x,y⟩,C⟩,D⟩:=z;have A:∀{tb:fN},tb.p 25=some sL->rl Tryz.prog cx tb 25 [f.t,dG e.a,dG e.b]=some (.bool (f.w.gx.Ir e.a e.b)):=λht=>iv ht Hz (f,e.a,e.b) ⟨i,x,y⟩;have B:∀{tb:fN},tb.p 52=some tW->rl Tryz.prog cx tb 52 [f.t,e.t]=some (.bool (f.w.gx.Xa e.a e.b e.c e.d)):=λht=>iv ht Ms (f,e) ⟨i,x,y,C,D⟩;cases r:decide (e.jD=[])<;>simp[Tryz.f23,k,l,h,j,m,o,In,gH,q,A,B,g,r]
def Ls{c:fN}(ht:c.p 23=some sK)(b:fJ)(a:ik)(d:wm b)(hl:a.jD.length<=1000000):rl Tryz.prog cx c 23 [b.t,a.t]=some (.bool (b.w.gx.vG a)):=iv ht OI (b,a) ⟨d,hl⟩
structure Q5 where
 (v:T) (es:List T)
def yu(e:Nat)(a:Q5)(c:List T)(b:H):Prop:=c=[a.v]/\b.ji a.v=some a.es/\(∀d∈a.es,d.cells.length=e)/\a.es.length<=1000000/\ij 0 b
def uG(f:Nat)(e:Q5)(g:List T)(b:H)(d:T)(c:H):Prop:=Gr c d f e.es/\Nb b c/\∀a,dU d=some a->b.size<=a
def xW{a bytes:Nat}{l:aj}(x:Dh Tryz.prog cx l (.clone a bytes))(v:1<=bytes)(w:bytes<=1000):(jF Q5 (yu a) (uG a)).Ok Tryz.prog cx l:=by
 intro i b ⟨⟨p,e⟩,y⟩;have n:∀h:Q5,yu a h i b->∃d c,B2 (.clone a bytes) i b=some (d,c)/\uG a h i b d c:=by
  rintro⟨p,e⟩ ⟨rfl,g,m,hl,o⟩;simp only at g m hl;show∃d c,(dV (b.ji p) λe=>List.casesOn e (some (dH,b)) λ_ _=>b.jb a bytes [] e)=some (d,c)/\_;rw[g,dY];cases e with
  |nil=>exact⟨_,_,rfl,Gr.nil _ _,Nb.refl o,λr j=>by simp at j⟩
  |cons F E=>
   refine⟨_,_,oU m v (aS (Nat.mul_le_mul hl w) dB),Gr.new (ep:=0) (ver:=0) (ex:=false) dC,(Nb.refl o).cons _,λr j=>by simp at j;omega⟩
 obtain⟨d,c,k,C⟩:=n _ y;refine⟨d,c,λh g=> ?_,λq A B s z u=>x _ _ _ _ k q A B s z u⟩;obtain⟨r2,D,f,t⟩:=n h g;rw[k]at f;simp only[ar,az]at f;rw[f.1,f.2];exact t
def Hy:(jF Q5 (yu 1) (uG 1)).Ok Tryz.prog cx 54:=xW (we (fn:=Tryz.f54) (t:=38) (tb:=4) (te:=Ed) fa Tryz.func54 dK dK dK dK dK dK dK) dF (bytes:=8) dF 
def Pi:(jF Q5 (yu 1) (uG 1)).Ok Tryz.prog cx 125:=xW (we (fn:=Tryz.f125) (t:=33) (tb:=4) (te:=YW) fa Tryz.func125 dK dK dK dK dK dK dK) dF (bytes:=1) dF 
def Pf:(jF Q5 (yu 3) (uG 3)).Ok Tryz.prog cx 126:=xW (we (fn:=Tryz.f126) (t:=34) (tb:=4) (te:=Av) fa Tryz.func126 dK dK dK dK dK dK dK) dF (bytes:=24) dF 
def LkG(f:H)(d:Nat->Prop)(e:T)(c:eg):Prop:=∃a,e= .agg [dG c.iW,a]/\Gr f a 1 (gD c.eY)/\∀b,dU a=some b->d b
def LkD(b:List T):Prop:=∀(c d:Nat) (e f g h:T) (a:Nat),b[c]? =some (.agg [g,e])->b[d]? =some (.agg [h,f])->dU e=some a->dU f=some a->c=d
def Up(c:fK)(j:List T)(h:H)(i:T)(b:H):Prop:=∃d e f g,i=NF c d e f/\Ba h.size b.size b d e f g c/\Nb h b/\iG (LkG b λa=>h.size<=a/\a<b.size/\dU d≠some a/\dU e≠some a/\dU f≠some a) g c.ew/\LkD g
structure ClO(S:fK)(h h':H)(i:Nat)(es:List T)(ver:Nat):Prop where
 nb:Nb h h'
 z:h.size+3<=h'.size
 b0:h'.get h.size=some (dI 4 0 [S.t])
 b1:h'.get (h.size+1)=some (dI 4 0 [.agg [dH,dG 0,dH,dH]])
 b2:h'.get (h.size+1+1)=some ⟨2,0,ver,true,false,es⟩
 l:es.length=S.ew.length
 c:∀e∈es,∃x y,e= .agg [x,y]
 d:LkD es
 bd:∀(j:Nat) (o x:T) (c:Nat),es[j]? =some (.agg [o,x])->dU x=some c->c<h'.size
 a:iG (LkG h' λk=>h.size+3<=k/\k<h'.size) (es.take i) (S.ew.take i)
def Ph:(jF fK El Up).Ok Tryz.prog cx 80:=by
 refine jv (tb:=⟨pt [],ht [(54,jF Q5 (yu 1) (uG 1)),(125,jF Q5 (yu 1) (uG 1)),(126,jF Q5 (yu 3) (uG 3))]⟩) fc fa (je 30783 [(5,[(3,6)])] Tryz.func80) (λ_ _=>1000005) (λl a d c4=>by obtain⟨rfl,_⟩:=c4;simp[Tryz.f80]) ?_;rintro f _ d ⟨rfl,de,hl,ea,ht,hr⟩ z b6;simp at b6;have ca:=de.hr;simp[Tryz.f80,b6,show f.ew.length*32<=70368744177664 by omega];refine fI f.ew.length dB (λl z i=>∃v ver,ClO f d i l v ver/\dJ z 1 (.ptr d.size 0 0 0)/\dJ z 2 (.ptr (d.size+1) 0 0 0)/\dJ z 3 (.arr (d.size+1+1) 0 0 f.ew.length false)/\dJ z 11 (sl (f.ew.map eg.t))/\dJ z 12 (dG f.ew.length)/\dJ z 13 (dG l)) ?_ ?_ dB ?_
 ·rintro l z i aN cX ⟨v,ver,⟨x,c7,Z,a7,a8,aE,bz,bB,aA,Y⟩,S,bu,ap,bs,al,an⟩;have a6:ij 0 i:=⟨x.ok.hp,x.ok.low,aw _⟩;have eb:=hr f.ew[l] (aC aN);have c6:f.ew.take (l+1)=f.ew.take l++[f.ew[l]]:=aW aN;obtain⟨ds,dv,c1⟩:=bz v[l] (aC dB);have ec:(d.size+1+1=i.size)=False:=dD;have dd:=a6.low;simp[ap,bs,al,an,aN,dd];generalize f.ew[l]=w at*
  have bN:=a6.cons (dI 2 1 [w.t]);refine kZ Hy dC ⟨sl (gD w.eY),gD w.eY⟩ ⟨rfl,dC,by simp[T.cells],dD,bN⟩ ?_;rintro r L ⟨G,y,av⟩;simp only at G;have dm:=y.ok.sz;simp at dm;have aX:L.get (d.size+1+1)=some ⟨2,0,ver,true,false,v⟩:=(y.get (d.size+1+1) dD).trans (by rw[dW,ao dB];exact a8);have ef:ff (i.cons (dI 2 1 [w.t])) L (d.size+1+1)=true:=fk (y.get _ dD);have dk:ff (i.cons (dI 2 1 [w.t])) L i.size=true:=fk (y.get _ dC);simp[S,bu,ap,bs,al,an,G.im,G.cells,aX,dk,aN,aE,c1,ed,cX];have ae:∀c,c<i.size->c≠d.size+1+1->(d8 L (d.size+1+1) ⟨2,0,ver+1,true,false,v.set l (.agg [dG w.iW,r])⟩).get c=i.get c:=λc e M=>by
   rw[dQ aX,ao M];exact(y.get c dD).trans (by rw[dW,ao dB])
  have dn:=x.ok.sz;refine⟨v.set l (.agg [dG w.iW,r]),ver+1,⟨⟨(⟨y.ok.hp,y.ok.low,aw _⟩:ij 0 L).put _ _|>.hp,(⟨y.ok.hp,y.ok.low,aw _⟩:ij 0 L).put _ _|>.low,dD⟩,λc e=>(ae c dB dB).trans (x.get c e)⟩,dD,(ae _ dB dB).trans Z,(ae _ dB dB).trans a7,by rw[dQ aX,aq rfl],by simpa using aE,λC D=> ?_,?_,?_,?_⟩
  ·rcases bZ D with q|q
   ·exact bz C q
   ·exact⟨_,_,q⟩
  ·intro N k B g o b9 c h A j p;rw[bV]at h A;split at h<;>split at A
   ·omega
   ·split at h
    ·simp only[ar,T.agg.injEq,aK,and_true]at h;have:=av c (by rw[h.2];exact j);have:=aA k _ _ c A p;simp at*;omega
    ·simp at h
   ·split at A
    ·simp only[ar,T.agg.injEq,aK,and_true]at A;have:=av c (by rw[A.2];exact p);have:=aA N _ _ c h j;simp at*;omega
    ·simp at A
   ·exact bB N k B g o b9 c h A j p
  ·intro N o B c h j;rw[bV]at h;rw[fV];split at h
   ·split at h
    ·simp only[ar,T.agg.injEq,aK,and_true]at h;obtain⟨_,_,_,_,p,_⟩:=G.box (b:=c) (by rw[h.2];exact j);exact H.eJ p
    ·simp at h
   ·have:=aA N _ _ c h j;omega
  ·rw[c6,aW dD];refine iG.append ?_ (.cons ?_ .nil)
   ·rw[List.take_set_of_le (au _)];exact Y.imp λC m ⟨X,P,Q,u⟩=>⟨X,P,Q.mono λc e=>ae c (u c e).2 (by have:=(u c e).1;omega),λc e=>⟨(u c e).1,by have:=(u c e).2;simp;omega⟩⟩
   ·simp only[List.getElem_set_self];refine⟨r,rfl,(G.mono λc e=>by rw[dQ aX,ao (by have:=av c e;simp at this;omega)]),λc e=>⟨by have:=av c e;simp at this;omega,?_⟩⟩;obtain⟨_,_,_,_,p,_⟩:=G.box e;have:=H.eJ p;simpa using this
 ·rintro z i ⟨v,ver,⟨x,c7,Z,a7,a8,aE,bz,bB,aA,Y⟩,S,bu,ap,bs,al,an⟩;have a6:ij 0 i:=⟨x.ok.hp,x.ok.low,aw _⟩;have bn:∀g c,(d8 i d.size g).get c=if c=d.size then some g else i.get c:=λg c=>dQ Z g c;simp[S,ap,al,an,Z,bn];obtain⟨J,U⟩:∃J,J=d8 i d.size (dI 4 1 [.agg [.arr (d.size+1+1) 0 0 f.ew.length false,dG f.tx,sl (f.done.map T.bool),sl (f.dM.map dP.t)]]):=⟨_,rfl⟩;have eh:J.size=i.size:=by rw[U];simp
  have di:ij 0 J:=by rw[U];exact a6.put _ _
  have gA:∀c,c≠d.size->J.get c=i.get c:=λc e=>by rw[U,bn,ao e]
  have cy:J.get d.size=some (dI 4 1 [.agg [.arr (d.size+1+1) 0 0 f.ew.length false,dG f.tx,sl (f.done.map T.bool),sl (f.dM.map dP.t)]]):=by rw[U,bn,aq rfl]
  rw[<-U];refine iu Pi dC ⟨sl (f.done.map T.bool),f.done.map T.bool⟩ ⟨rfl,dC,by intro C D;obtain⟨b,_,rfl⟩:=List.mem_map.1 D;rfl,dD,di⟩ ?_;rintro F s ⟨R,O,cb⟩;simp only at R;have eo:=O.ok.sz;have b7:=(O.get d.size dB).trans cy;have bp:∀g c,(d8 s d.size g).get c=if c=d.size then some g else s.get c:=λg c=>dQ b7 g c;simp[S,R.im,R.cells,b7,bp,ed];obtain⟨K,V⟩:∃K,K=d8 s d.size (dI 4 2 [.agg [.arr (d.size+1+1) 0 0 f.ew.length false,dG f.tx,F,sl (f.dM.map dP.t)]]):=⟨_,rfl⟩;have er:K.size=s.size:=by rw[V];simp
  have bN:ij 0 K:=by rw[V];exact(⟨O.ok.hp,O.ok.low,aw _⟩:ij 0 s).put _ _
  have bk:∀c,c≠d.size->K.get c=s.get c:=λc e=>by rw[V,bp,ao e]
  have cL:K.get d.size=some (dI 4 2 [.agg [.arr (d.size+1+1) 0 0 f.ew.length false,dG f.tx,F,sl (f.dM.map dP.t)]]):=by rw[V,bp,aq rfl]
  rw[<-V];refine iu Pf dC ⟨sl (f.dM.map dP.t),f.dM.map dP.t⟩ ⟨rfl,dC,by intro C D;obtain⟨b,_,rfl⟩:=List.mem_map.1 D;rfl,dD,bN⟩ ?_;rintro W n ⟨gT,E,ce⟩;simp only at gT;have et:=E.ok.sz;have Pa:ij 0 n:=⟨E.ok.hp,E.ok.low,aw _⟩;have b8:=(E.get d.size dB).trans cL;have c9:n.get (d.size+1)=_:=(E.get (d.size+1) dB).trans ((bk _ dB).trans ((O.get _ dB).trans ((gA _ dB).trans a7)));have bT:∀g c,(d8 n d.size g).get c=if c=d.size then some g else n.get c:=λg c=>dQ b8 g c;have I:∀g B c,(d8 (d8 n d.size g) (d.size+1) B).get c=if c=d.size+1 then some B else if c=d.size then some g else n.get c:=λg B c=>by
   rw[m6 (by simp[Pa.hp]) dD,bT]
  simp[S,bu,gT.im,gT.cells,b8,c9,bT,I,ed];rw[bJ dB,aL]at Y;have bi:∀c,c<i.size->c≠d.size->n.get c=i.get c:=λc e M=>(E.get c dB).trans ((bk c M).trans ((O.get c dB).trans (gA c M)));have cp:∀c,c<s.size->c≠d.size->n.get c=s.get c:=λc e M=>(E.get c dB).trans (bk c M);have dn:=x.ok.sz;have bC:∀c,dU F=some c->i.size<=c/\c<s.size:=λc e=>⟨by have:=cb c e;omega,by obtain⟨_,_,_,_,p,_⟩:=R.box e;exact H.eJ p⟩;have bH:∀c,dU W=some c->s.size<=c/\c<n.size:=λc e=>⟨by have:=ce c e;omega,by obtain⟨_,_,_,_,p,_⟩:=gT.box e;exact H.eJ p⟩;have bS:iG (LkG (lM d (d8 (d8 n d.size (dI 4 3 [.agg [.arr (d.size+1+1) 0 0 f.ew.length false,dG f.tx,F,W]])) (d.size+1) (dI 4 1 [.agg [.arr (d.size+1+1) 0 0 f.ew.length false,dG f.tx,F,W]]))) λc=>d.size<=c/\c<n.size/\dU (.arr (d.size+1+1) 0 0 f.ew.length false)≠some c/\dU F≠some c/\dU W≠some c) v f.ew:=Y.imp λC w ⟨X,P,Q,u⟩=>⟨X,P,Q.mono λc e=>by
   have:=u c e;rw[fQ,I,ao dB,ao dB,bi _ dB dB],λc e=>by
   have:=u c e;exact⟨dB,dB,dD,λq=>by have:=bC c q;omega,λq=>by have:=bH c q;omega⟩⟩
  refine⟨.arr (d.size+1+1) 0 0 f.ew.length false,F,W,v,rfl,⟨?_,R.mono λc e=> ?_,gT.mono λc e=> ?_,bS.imp λC w ⟨X,P,Q,u⟩=>⟨X,P,.inr Q,by simpa using u⟩,λc e=> ?_⟩,⟨⟨?_,?_,?_⟩,λc e=> ?_⟩,by simpa using bS,bB⟩
  ·rw[<-aE];exact Gr.new (ep:=0) (ver:=ver) (ex:=true) (by rw[fQ,I,ao dB,ao dB,bi _ dB dB];exact a8)
  ·have:=bC c e;rw[fQ,I,ao dB,ao dB,cp _ dB dB]
  ·have:=bH c e;rw[fQ,I,ao dB,ao dB]
  ·simp;rcases e with q|q|q
   ·simp at q;omega
   ·have:=bC c q;omega
   ·have:=bH c q;omega
  ·exact(((Pa.put _ _).put _ _).out d).hp
  ·exact(((Pa.put _ _).put _ _).out d).low
  ·simp;omega
  ·rw[fQ,I,ao dB,ao dB,bi _ dB dB];exact x.get c e
 ·simp;refine⟨List.replicate f.ew.length (.agg [dG 0,dH]),0,⟨(((Nb.refl ca).cons _).cons _).cons _|>.ok,λc e=>(((((Nb.refl ca).cons _).cons _).cons _).get c e).trans (gF d c)⟩,dC,dC,dC,dC,dC,λC D=>⟨_,_,(bR D)⟩,?_,?_,.nil⟩
  ·intro N k B g o b9 c h _ j _;have:=bR (ax h);simp only[T.agg.injEq,aK,and_true]at this;rw[this.2]at j;simp at j
  ·intro N o B c h j;have:=bR (ax h);simp only[T.agg.injEq,aK,and_true]at this;rw[this.2]at j;simp at j
def uy:iq:=⟨dP×Int,λa=>[a.1.t,dG a.2],λa=>True,λa=> .bool (decide (a.1.iN=3)&&decide (a.1.cond=a.2)),λa c b=>by simp at b;rw[dP.inj b.1,b.2]⟩
def OB:uy.Ok Tryz.prog cx 130:=by
 refine iC (tb:=⟨pt [],ht []⟩) fc fa (je 23 [] Tryz.func130) (λd=>1) (by simp[uy]) (by simp[uy,Tryz.f130]) ?_;rintro⟨f,e⟩ _ g a;simp[uy]at a|-;obtain⟨b,c⟩:=a;simp[Tryz.f130,b,c]
def Lq{c:fN}(ht:c.p 130=some uy)(a:dP)(b:Int):rl Tryz.prog cx c 130 [a.t,dG b]=some (.bool (decide (a.iN=3)&&decide (a.cond=b))):=iv ht OB (a,b) trivial
def LP(d:Int):∀(a c:List dP) (b:Nat),iz d (a++c) b=iz d a b++iz d c (b+a.length):=by
 intro a;induction a with
 |nil=>intro c b;rfl
 |cons f a e=>intro c b;simp only[co,iz,e,bh];rw[show b+(a.length+1)=b+1+a.length by omega];split<;>rfl
def BE(c:Int)(b:List dP){a:Nat}(d:a<b.length):iz c (b.take (a+1)) 0=iz c (b.take a) 0++(if b[a].iN=3/\b[a].cond=c then [(a:Int)]else []):=by
 rw[aW d,LP,List.length_take,cE dB];simp[iz]
def mU(a:Int)(W:List Int):Int:=if a∈W then a else W.headD (-1)
structure IC where
 (S:fK) (c0 c2 c3:T) (c wk:Int)
structure Xl(h h':H)(c3:T)(l:List dP):Prop where
 g:Gr h' c3 3 (l.map dP.t)
 ok:ij h.size h'
 fr:∀c,c<h.size->dU c3≠some c->h'.get c=h.get c
def Ug(a:IC)(d:List T)(b:H):Prop:=d=[NF a.S a.c0 a.c2 a.c3,dG a.c,dG a.wk]/\Gr b a.c3 3 (a.S.dM.map dP.t)/\ij 0 b/\a.S.dM.length<=1000000
def Oj(a:IC)(g:List T)(d:H)(f:T)(e:H):Prop:=∃b,f= dG b/\b=mU a.wk (iz a.c a.S.dM 0)/\Xl d e a.c3 (if iz a.c a.S.dM 0=[]then a.S.dM else a.S.dM.modify b.toNat (kx 4))
def Mb{wk:Int}{W:List Int}{b:Nat}(d:∀c∈W,0<=c/\c<b):mU wk (W++[(b:Int)])=if mU wk W<0\/(b:Int)=wk then(b:Int)else mU wk W:=by
 unfold mU;by_cases a:wk∈W
 ·have:=d wk a;rw[aq (by simp[a]),aq a,ao dB]
 ·rw[ao a];by_cases e:(b:Int)=wk
  ·subst e;rw[aq dC,aq (.inr rfl)]
  ·rw[ao (by simp[a];omega)];cases W with
   |nil=>simp
   |cons c W=>have:=d c dC;simp;intro f;omega
def OP:(jF IC Ug Oj).Ok Tryz.prog cx 85:=by
 refine jv (tb:=⟨pt [(130,uy)],ht []⟩) fc fa (je 9126837199 [] Tryz.func85) (λ_ _=>1000005) (λi a d bk=>by obtain⟨rfl,_⟩:=bk;simp[Tryz.f85]) ?_;rintro⟨⟨L,aN,bz,b⟩,Y,Z,K,c,wk⟩ _ d ⟨rfl,m,aE,hl⟩ g al;simp only at m hl;simp[NF]at al;obtain⟨a6,h,p⟩:=al;have av:=λh:H=>m.len (cx:=cx) h NB _ rfl;rw[aG]at av;have X:∀e,dU K=some e->e<d.size:=λe bi=>by obtain⟨_,_,_,_,bn,_⟩:=m.box bi;exact H.eJ bn
 simp[Tryz.f85,a6,av];refine fI b.length dB (λi g h'=>Nb d h'/\d.size<h'.size/\h'.get d.size=some (dI 4 0 [.agg [Y,dG aN,Z,K]])/\dJ g 1 (dG c)/\dJ g 2 (dG wk)/\dJ g 3 (.ptr d.size 0 0 0)/\dJ g 7 (dG (mU wk (iz c (b.take i) 0)))/\dJ g 11 K/\dJ g 12 (dG b.length)/\dJ g 13 (dG i)) ?_ ?_ dB ?_
 ·rintro i g h' Q an ⟨f,bp,J,h,p,I,n,G,z,A⟩;have v:ij 0 h':=⟨f.ok.hp,f.ok.low,aw _⟩;obtain⟨e,M,U,N,aX,C,r,j,R⟩:=m.at (x:=b[i].t) (i:=i) (by simp[Q]);rw[aG]at C R;subst C;have o:=(f.get e (H.eJ r)).trans r;have bB:(e=h'.size)=False:=by have:=H.eJ o;simp;omega
  have bs:=v.low;have T:=BE c b Q;simp[h,p,n,G,z,A,Q,o,j,bs,Lq];generalize b[i]=l at*
  have a7:∀x∈iz c (b.take i) 0,0<=x/\x<i:=λx j=>by
   obtain⟨u,y,D⟩:=tJ j;simp at D;omega
  have O:=Mb (wk:=wk) a7;have aA:=f.cons (dI 3 1 [l.t]);have V:(h'.cons (dI 3 1 [l.t])).get d.size=some (dI 4 0 [.agg [Y,dG aN,Z,.arr e M 0 b.length false]]):=by rw[dW,ao dB];exact J
  refine em (λq=> ?_) (λq=> ?_)
  ·simp only[ay,cm,aJ]at q;rw[aq ⟨q.1.1,q.1.2⟩]at T;rw[aq q.2,<-T]at O;simp[h,p,I,G,z,A,an];exact⟨aA,dB,by simpa using V,O.symm⟩
  ·simp[h,p,I,n,G,z,A,an];refine⟨aA,dB,by simpa using V,?_⟩;rw[T];split
   ·rename_i ap;simp only[Bool.and_eq_false_iff,cr,bU]at q;rw[O,ao];rcases q with(q|q)|q
    ·exact absurd ap.1 q
    ·exact absurd ap.2 q
    ·rintro(k|k)
     ·exact q.1 k
     ·exact q.2 k
   ·simp
 ·rintro g h' ⟨f,bp,J,h,p,I,n,G,z,A⟩;rw[aL]at n;simp[n,z,A];have v:ij 0 h':=⟨f.ok.hp,f.ok.low,aw _⟩;refine em (λq=> ?_) (λq=> ?_)
  ·have q:0<=mU wk (iz c b 0):=by simpa using q
   have s:mU wk (iz c b 0)∈iz c b 0:=by
    generalize iz c b 0=W at*
    unfold mU at*
    split
    ·assumption
    ·rename_i E;rw[ao E]at q;cases W with
     |nil=>simp at q
     |cons x W=>simp
   obtain⟨u,y,D⟩:=tJ s;have S:iz c b 0≠ []:=λk=>by rw[k]at s;simp at s
   obtain⟨l,ht⟩:∃l,b[u]? =some l:=⟨_,aB D⟩;obtain⟨e,M,U,N,aX,C,r,j,R⟩:=m.at (x:=l.t) (i:=u) (by simp[ht]);rw[aG]at C R;subst C;have o:=(f.get e (H.eJ r)).trans r;simp at y;simp[I,n,J,y,o,j,D];refine⟨_,rfl,y.symm,?_⟩;simp only;rw[ao S,da,oe ht];have bu:=H.eJ r;refine⟨?_,⟨((v.put e _).out d).hp,((v.put e _).out d).low,dD⟩,λF B E=> ?_⟩
   ·have ae:=(m.mono (h':=h') λw P=>f.get w (X w P)).setAt rfl o u (kx 4 l).t (h':=lM d (d8 h' e ⟨3,M,U+1,N,false,aX.set u (kx 4 l).t⟩)) (ver2:=U+1) (ex2:=N) (by rw[fQ,dQ o,aq rfl]);rw[<-bW]at ae;exact ae
   ·simp at E;rw[fQ,dQ o,ao dB];exact f.get F B
  ·have q:¬0<=mU wk (iz c b 0):=by simpa using q
   have S:iz c b 0=[]:=by
    generalize a8:iz c b 0=W at*
    have s:∀x∈W,0<=x:=λx j=>by rw[<-a8]at j;obtain⟨u,y,D⟩:=tJ j;omega
    unfold mU at q;split at q
    ·rename_i E;exact absurd (s _ E) q
    ·cases W with
     |nil=>rfl
     |cons x W=>have:=s x dC;simp at q;omega
   simp[n];refine⟨_,rfl,rfl,?_⟩;simp only;rw[aq S];exact⟨(m.mono (h':=h') λw P=>f.get w (X w P)).out d,⟨(v.out d).hp,(v.out d).low,dD⟩,λF B _=>(fQ d h' F).trans (f.get F B)⟩
 ·simp;exact⟨⟨((Nb.refl aE.hr).cons _).ok,λc B=>(((Nb.refl aE.hr).cons _).get c B).trans (gF d c)⟩,h,p,by simp[mU,iz]⟩
def Ce(b:Int)(a:dP):dP:=if a.iN=3/\a.cond=b then kx 4 a else a
def Uh(a:IC)(d:List T)(b:H):Prop:=d=[NF a.S a.c0 a.c2 a.c3,dG a.c]/\Gr b a.c3 3 (a.S.dM.map dP.t)/\ij 0 b/\a.S.dM.length<=1000000
def Ol(a:IC)(f:List T)(b:H)(e:T)(d:H):Prop:=e= dG (iz a.c a.S.dM 0).length/\Xl b d a.c3 (a.S.dM.map (Ce a.c))
def Hk:(jF IC Uh Ol).Ok Tryz.prog cx 86:=by
 refine jv (tb:=⟨pt [(130,uy)],ht []⟩) fc fa (je 270071 [] Tryz.func86) (λ_ _=>1000005) (λi a d a7=>by obtain⟨rfl,_⟩:=a7;simp[Tryz.f86]) ?_;rintro⟨⟨L,bp,bu,b⟩,an,ap,v,e,bH⟩ _ d ⟨rfl,C,Z,hl⟩ l T;simp only at C hl;simp[NF]at T;obtain⟨aE,m⟩:=T;have Y:=λm:H=>C.len (cx:=cx) m NB _ rfl;rw[aG]at Y;have R:∀f,dU v=some f->f<d.size:=λf E=>by obtain⟨_,_,_,_,bi,_⟩:=C.box E;exact H.eJ bi
 simp[Tryz.f86,aE,Y];refine fI b.length dB (λi l h'=>ij d.size h'/\d.size<h'.size/\h'.get d.size=some (dI 4 0 [.agg [an,dG bp,ap,v]])/\(∀c,c<d.size->dU v≠some c->h'.get c=d.get c)/\Gr h' v 3 (((b.take i).map (Ce e)++b.drop i).map dP.t)/\dJ l 1 (dG e)/\dJ l 2 (.ptr d.size 0 0 0)/\dJ l 5 (dG (iz e (b.take i) 0).length)/\dJ l 9 v/\dJ l 10 (dG b.length)/\dJ l 11 (dG i)) ?_ ?_ dB ?_
 ·rintro i l h' n U ⟨u,P,I,B,r,m,K,z,D,w,y⟩;have bn:ij 0 h':=⟨u.hp,u.low,aw _⟩;have W:((b.take i).map (Ce e)++b.drop i)[i]? =some b[i]:=by
   rw[cD dD];simp[cE (show i<=b.length by omega),n]
  obtain⟨f,av,al,S,bs,V,M,X,a6⟩:=r.at (x:=b[i].t) (i:=i) (by simp[W]);have aX:(((b.take i).map (Ce e)++b.drop i).map dP.t).length=b.length:=dD;rw[aX]at V a6;subst V;have bB:(f=h'.size)=False:=by have:=H.eJ M;simp;omega
  have E:f<d.size:=R f rfl;have bk:=bn.low;have F:=BE e b n;have bz:(iz e (b.take i) 0).length<=i:=by have:=BF e (b.take i) 0;simp at this;omega
  have aN:binop .add (dG ((iz e (b.take i) 0).length:Int)) (dG 1)=some (dG (((iz e (b.take i) 0).length:Int)+1)):=iy dB dB;have O:(b.take (i+1)).map (Ce e)++b.drop (i+1)=((b.take i).map (Ce e)++b.drop i).set i (Ce e b[i]):=by
   rw[List.set_append_right _ _ dD,aW n,List.map_append,aI n];simp[cE (show i<=b.length by omega)];rw[aI n];rfl
  simp[m,D,w,y,n,M,X,bk,Lq];have A:Ce e b[i]=if b[i].iN=3/\b[i].cond=e then kx 4 b[i]else b[i]:=rfl;generalize b[i]=h at*
  have ae:=u.cons (dI 3 1 [h.t]);have q:∀c,c<h'.size->(h'.cons (dI 3 1 [h.t])).get c=h'.get c:=λc g=>by rw[dW,ao dB]
  refine em (λp=> ?_) (λp=> ?_)
  ·simp only[ay,aJ]at p;rw[aq p]at F A;have N:=(q f dB).trans M;have Q:=(q d.size P).trans I;have bC:(f=d.size)=False:=dD;simp[m,K,z,D,w,y,Q,N,X,n,aN,U];have J:∀G c,(d8 (h'.cons (dI 3 1 [h.t])) f G).get c=if c=f then some G else(h'.cons (dI 3 1 [h.t])).get c:=λG c=>dQ N G c;refine⟨ae.put _ _,dB,by rw[J,ao dB];exact Q,λc g s=>by rw[J,ao (λp=>s p.symm),q c dB];exact B c g (by simpa using s),?_,by rw[F];simp⟩;have aA:=r.mono (h':=h'.cons (dI 3 1 [h.t])) λc g=>q c (by simp at g;omega);have:=aA.setAt rfl N i (kx 4 h).t (h':=d8 (h'.cons (dI 3 1 [h.t])) f ⟨3,av,al+1,S,false,bs.set i (kx 4 h).t⟩) (ver2:=al+1) (ex2:=S) (by rw[J,aq rfl]);rw[<-bW,<-A,<-O]at this;rw[A]at this;exact this
  ·rw[ao (by simpa using p)]at F A;simp[m,K,z,D,w,y,U];refine⟨ae,dB,by simpa using(q d.size P).trans I,λc g s=>by rw[ao dB];exact B c g (by simpa using s),?_,by rw[F];simp⟩;have a8:((b.take i).map (Ce e)++b.drop i).set i h=(b.take i).map (Ce e)++b.drop i:=by
    apply c8;intro j;rw[bV];split
    ·rename_i k;subst k;rw[W];simp;omega
    ·rfl
   rw[A,a8]at O;have:=r.mono (h':=h'.cons (dI 3 1 [h.t])) λc g=>q c (by simp at g;omega);rw[<-O]at this;simpa using this
 ·rintro l h' ⟨u,P,I,B,r,m,K,z,D,w,y⟩;rw[aL,dx,bL]at r;rw[aL]at z;simp[z,w,y];exact⟨rfl,r.out d,⟨(u.out d).hp,(u.out d).low,dD⟩,λc g s=>(fQ d h' c).trans (B c g s)⟩
 ·simp;exact⟨⟨Z.hr.hp,Z.hr.low,au _⟩|>λ(o:ij d.size (TI.hr d))=>o.cons _,λc g _ p=>by omega,(C.mono (h':=TI.hr d) λf _=>gF d f).mono λf E=>by rw[dW,ao (by have:=R f E;simp;omega)],m,by simp[iz]⟩
structure UU(h h':H)(v:T)(l:List Int):Prop where
 g:Gr h' v 1 (gD l)
 ok:ij h.size h'
 fr:∀c,c<h.size->dU v≠some c->h'.get c=h.get c
def OS:nK Tryz.prog cx 219 (λa:Int=>[dG a]) (λ_=>True) (λ_ d=>d= .bool false):=by
 refine ju (tb:=⟨pt [],ht []⟩) fc fa (je 5 [] Tryz.func219) (λ_=>10) (λa e c=>by simpa using c) dC (by simp[Tryz.f219]) ?_;rintro(a:Int) _ f b;simp at b;simp[Tryz.f219,b]
def Ej:iq:=⟨Int×Int,λa=>[dG a.1,dG a.2],λa=>True,λa=> .bool (decide (a.1<a.2)),λa c b=>by simp at b;rw[b.1,b.2]⟩
def VD:Ej.Ok Tryz.prog cx 172:=by
 refine iC (tb:=⟨pt [(219,OS.jx)],ht []⟩) fc fa (je 19 [] Tryz.func172) (λa=>1) (by simp[Ej]) (by simp[Ej,Tryz.f172]) ?_;rintro⟨a,c⟩ _ h b;simp[Ej]at b|-;obtain⟨e,f⟩:=b;obtain⟨_,rfl,d⟩:=OS.use a trivial;obtain⟨_,rfl,g⟩:=OS.use c trivial;simp[Tryz.f172,e,f,d]
def Qt{c:fN}(ht:c.p 172=some Ej)(a b:Int):rl Tryz.prog cx c 172 [dG a,dG b]=some (.bool (decide (a<b))):=iv ht VD (a,b) trivial
structure Q4 where
 (A:List Int) (t:Int) (v:T)
def Ui(a:Q4)(c:List T)(b:H):Prop:=c=[a.v,dG 0,dG ((a.A++[a.t]).length:Nat)]/\Gr b a.v 1 (gD (a.A++[a.t]))/\ij 0 b/\IE a.A/\a.t∉a.A/\a.A.length<=10
def Fg(a:Q4)(d:List T)(b:H)(e:T)(c:H):Prop:=UU b c a.v (lY a.A a.t)
def JJ{d:Int}:∀{b a:List Int},(∀c∈b,c<d)->(∀c∈a,d<c)->lY (b++a) d=b++d::a:=by
 intro b;induction b with
 |nil=>
  intro a _ e;cases a with
  |nil=>rfl
  |cons f a=>have:=e f dC;simp[lY];rw[ao dB,ao dB]
 |cons c b i=>intro a g e;have:=g c dC;simp only[co,lY];rw[aq this,i (λf h=>g f (by simp[h])) e]
def LU{b:List Int}{c:Int}{a:Nat}(d:a<b.length):((gD (b.take (a+1)++c::b.drop (a+1))).set (a+1) (dG b[a])).set a (dG c)=gD (b.take a++c::b.drop a):=by
 have e:(b.take a).length=a:=dD;rw[aW d,aI d];simp only[gD,List.map_append,aT,aV,co,cz];have f:(List.map (T.int .i64) (b.take a)).length=a:=by simpa using e
 rw[List.set_append_right _ _ dB,List.set_append_right _ _ dB,f];simp
def Mq:(jF Q4 Ui Fg).Ok Tryz.prog cx 166:=by
 refine jv (tb:=⟨pt [(172,Ej)],ht []⟩) fc fa (je 1073746119 [] Tryz.func166) (λ_ _=>100) (λi a e av=>by obtain⟨rfl,_⟩:=av;simp[Tryz.f166]) ?_;rintro⟨b,f,o⟩ _ e ⟨rfl,Y,G,N,ht,hl⟩ h al;simp only at Y N ht hl;simp at al;obtain⟨p,n,m⟩:=al;simp[Tryz.f166,n];have bu:Gr (TI.hr e) o 1 (gD (b++[f])):=Y.mono λl _=>gF e l;have bi:binop .add (dG 0) (dG 1)=some (dG 1):=iy dB dB;simp[bi];refine sr (b.length+1) (λk h h'=>1<=k/\UU e (lM e h') o (if k<=b.length then b++[f]else lY b f)/\ij e.size h'/\dJ h 0 o/\dJ h 1 (dG 0)/\dJ h 2 (dG ((b.length:Int)+1))/\dJ h 6 (dG k)) ?_ dB (k:=1) dB ?_
 ·rintro k h h' b6 ⟨bT,v,H,p,n,m,q⟩;have b9:ij 0 h':=⟨H.hp,H.low,aw _⟩;by_cases b7:k<b.length+1
  ·have O:binop .add (dG (k:Int)) (dG 1)=some (dG ((k:Int)+1)):=iy dB dB;rw[aq dB]at v;have M:Gr h' o 1 (gD (b++[f])):=v.g.mono λl _=>(fQ e h' l).symm;have bz:binop .sub (dG (k:Int)) (dG 1)=some (dG ((k-1:Nat):Int)):=by rw[kN dB dB];congr 2;omega
   simp[m,q,show(k:Int)<b.length+1 by omega];by_cases ap:k<b.length
   ·obtain⟨p1,J,K⟩:=(show oX h' 1 o _ from .inr M).idx (te:=Ed) rfl rfl (i:=k) (x:= dG b[k]) (by simp[List.getElem?_append,ap]) rfl;obtain⟨p2,aX,a6⟩:=(show oX h' 1 o _ from .inr M).idx (te:=Ed) rfl rfl (i:=k-1) (x:= dG b[k-1]) (by simp[List.getElem?_append,show k-1<b.length by omega]) rfl;have S:¬b[k]<b[k-1]:=by
     have:=List.pairwise_iff_getElem.1 N (k-1) k dB ap dB;omega
    refine sr 1 (λ_ h j=>h'=j/\dJ h 0 o/\dJ h 1 (dG 0)/\dJ h 2 (dG ((b.length:Int)+1))/\dJ h 6 (dG k)/\dJ h 7 (dG k)) ?_ dB (k:=0) dB (by simp[p,n,m,q]);rintro _ h _ _ ⟨rfl,p,n,m,q,z⟩;simp[p,n,m,q,z,J,K,aX,a6,bz,Qt,S,O];exact⟨k+1,dB,dB,dB,by rw[aq dB];exact v,H,dC⟩
   ·have bn:k=b.length:=dB;subst bn;have bk:=v.fr;refine sr b.length (λV h j=>∃r,r+V=b.length/\Gr j o 1 (gD (b.take r++f::b.drop r))/\ij e.size j/\(∀d,d<e.size->dU o≠some d->j.get d=e.get d)/\(∀x∈b.drop r,f<x)/\dJ h 0 o/\dJ h 1 (dG 0)/\dJ h 2 (dG ((b.length:Int)+1))/\dJ h 6 (dG b.length)/\dJ h 7 (dG r)) ?_ dB (k:=0) dB ⟨b.length,dB,by simpa using M,H,λd A u=>(fQ e h' d).symm.trans (bk d A u),dC,by simp[p,n,m,q]⟩;rintro V h j av ⟨r,bS,F,s,X,an,p,n,m,q,z⟩;have ca:ij 0 j:=⟨s.hp,s.low,aw _⟩;have fin:(∀x∈b.take r,x<f)->UU e (lM e j) o (lY b f):=λhl=>by
     have E:=JJ hl an;rw[cR]at E;rw[E];exact⟨F.out e,⟨(s.out e).hp,(s.out e).low,by simp;exact s.sz⟩,λd A u=>(fQ e j d).trans (X d A u)⟩
    cases r with
    |zero=>
     simp[p,n,m,q,z,O];exact⟨b.length+1,dB,dB,dB,by rw[ao dB];exact fin dC,s,dC⟩
    |succ c=>
     have C:c<b.length:=dB;have a8:(gD (b.take (c+1)++f::b.drop (c+1))).length=b.length+1:=dD;have J:(b.take (c+1)++f::b.drop (c+1))[c+1]? =some f:=by rw[cD dD];simp[cE (show c+1<=b.length by omega)]
     have K:(b.take (c+1)++f::b.drop (c+1))[c]? =some b[c]:=by rw[bY dD];simp[C]
     obtain⟨l,L,D,w,I,P,B,aE,bp⟩:=F.at (x:= dG f) (i:=c+1) (by rw[aQ,J];rfl);obtain⟨bB,bC,cb,bH,ce,Q,R,U,S⟩:=F.at (x:= dG b[c]) (i:=c) (by rw[aQ,K];rfl);rw[P]at Q;simp at Q;obtain⟨rfl,rfl⟩:=Q;rw[B]at R;simp at R;obtain⟨rfl,rfl,rfl⟩:=R;rw[a8]at P bp S;subst P;have aA:binop .sub (dG ((c:Int)+1)) (dG 1)=some (dG (c:Int)):=by rw[kN dB dB];congr 2;omega
     have aN:ka ((c:Int)+1)=some (c+1):=by have:=eQ (show(0:Int)<=((c+1:Nat):Int)by omega);simpa using this
     by_cases T:f<b[c]
     ·have y:∀t d,(d8 j l t).get d=if d=l then some t else j.get d:=λt d=>dQ B t d;have ae:∀t W d,(d8 (d8 j l t) l W).get d=if d=l then some W else j.get d:=λt W d=>by
       rw[dQ (x:=t) (by rw[y,aq rfl]),y];split<;>rfl
      have bs:∀x,(I.set (c+1) x)[c]? =some (dG b[c]):=λx=>by rw[bV,ao dB];exact U
      simp[p,n,m,q,z,aA,aN,B,aE,U,show c+1<b.length+1 by omega,show c<b.length+1 by omega,show(0:Int)<(c:Int)+1 by omega,Qt,T,y,bs];have a7:=F.setAt rfl B (c+1) (dG b[c]) (h':=d8 j l ⟨1,L,D+1,w,false,I.set (c+1) (dG b[c])⟩) (ver2:=D+1) (ex2:=w) (by rw[y,aq rfl]);have Z:=a7.setAt rfl (by rw[y,aq rfl]) c (dG f) (h':=d8 (d8 j l ⟨1,L,D+1,w,false,I.set (c+1) (dG b[c])⟩) l ⟨1,L,D+1+1,w,false,(I.set (c+1) (dG b[c])).set c (dG f)⟩) (ver2:=D+1+1) (ex2:=w) (by rw[ae,aq rfl]);rw[LU C]at Z;refine⟨V+1,dB,dB,c,dB,Z,(s.put _ _).put _ _,λd A u=>by rw[ae,ao (λE=>u E.symm)];exact X d A (by simpa using u),λx hx=> ?_,rfl⟩;rw[aI C]at hx;rcases List.mem_cons.1 hx with rfl|hx
      ·exact T
      ·exact an x hx
     ·simp[p,n,m,q,z,aA,aN,B,aE,U,show c+1<b.length+1 by omega,show c<b.length+1 by omega,show(0:Int)<(c:Int)+1 by omega,Qt,T,O];refine⟨b.length+1,dB,dB,dB,?_,s,dC⟩;rw[ao dB];refine fin λx hx=> ?_;obtain⟨i,bN,rfl⟩:=List.mem_take_iff_getElem.1 hx;have b8:b[c]≠f:=λk=>ht (by rw[<-k];exact aC C);rcases aF i c with k|k
      ·have:=List.pairwise_iff_getElem.1 N i c dB C k;omega
      ·have:i=c:=dB;subst this;omega
  ·rw[ao dB]at v;simp[m,q,show¬(k:Int)<b.length+1 by omega];exact v
 ·exact⟨dB,by
   have:(if 1<=b.length then b++[f]else lY b f)=b++[f]:=by
    split
    ·rfl
    ·rw[show b=[]from bj dB];rfl
   rw[this];exact⟨bu.out e,⟨(G.hr.out e).hp,(G.hr.out e).low,au _⟩,λd _ _=>(fQ e _ d).trans (gF e d)⟩,⟨G.hr.hp,G.hr.low,au _⟩,by simp[p,n,m]⟩
def Ue(a:Q4×Int)(c:List T)(b:H):Prop:=c=[a.1.v,dG 0,dG ((a.1.A++[a.1.t]).length:Nat),dG a.2]/\Gr b a.1.v 1 (gD (a.1.A++[a.1.t]))/\ij 0 b/\IE a.1.A/\a.1.t∉a.1.A/\a.1.A.length<=10
def Oh(a:Q4×Int)(d:List T)(b:H)(e:T)(c:H):Prop:=UU b c a.1.v (lY a.1.A a.1.t)
def UU.out{h c:H}{e:T}{d:List Int}(a:UU (TI.hr h) c e d):UU h (lM h c) e d:=⟨a.g.out h,⟨(a.ok.out h).hp,(a.ok.out h).low,by have:=a.ok.sz;simpa using this⟩,λb f i=>(fQ h c b).trans ((a.fr b (by simpa using f) i).trans (gF h b))⟩
def aaf:(jF (Q4×Int) Ue Oh).Ok Tryz.prog cx 127:=by
 refine jv (tb:=⟨pt [],ht [(166,jF Q4 Ui Fg)]⟩) fc fa (je 10384593871817177683247510831234831 [] Tryz.func127) (λ_ _=>100) (λw t c o=>by obtain⟨rfl,_⟩:=o;simp[Tryz.f127]) ?_;rintro⟨⟨a,l,g⟩,x⟩ _ c ⟨rfl,h,s,i,ht,hl⟩ b j;simp only at h i ht hl;simp at j;obtain⟨d,e,f,v⟩:=j;have q:binop .sub (dG ((a.length:Int)+1)) (dG 0)=some (dG ((a.length:Int)+1)):=by rw[kN dB dB];simp
 have p:Gr (TI.hr c) g 1 (gD (a++[l])):=h.mono λm _=>gF c m;simp[Tryz.f127];refine sr 1 (λ_ b n=>TI.hr c=n/\dJ b 0 g/\dJ b 1 (dG 0)/\dJ b 2 (dG ((a.length:Int)+1))) ?_ dB (k:=0) dB (by simp[d,e,f]);rintro _ b _ _ ⟨rfl,d,e,f⟩;simp[d,e,f,q,show(a.length:Int)+1<=12 by omega];refine iu Mq dC ⟨a,l,g⟩ ⟨dC,p,s.hr,i,ht,hl⟩ ?_;rintro y u r;simp;exact r.out
def cv8(b:H)(a:Int)(c:0<=a)(d:a<256):Yd cx b 272 5 ty5 (.int .u64 a)=some (.val (.int .u8 a) b):=by
 refine Gf PZ rfl ?_;rw[jI];unfold IntKind.wrap;simp[IntKind.bits,IntKind.signed];omega
def KT:nK Tryz.prog cx 176 (λa:Nat=>[.int .u64 a]) (λa=>a<=11) (λ_=>EL):=by
 refine ju (tb:=⟨pt [],ht []⟩) fc fa (je 16661 [] Tryz.func176) (λ_=>10) (λe f c=>by simp at c;omega) dC (by simp[Tryz.f176]) ?_;rintro(a:Nat) g h b;simp at b;have d:a=0\/a=1\/a=2\/a=3\/a=4\/a=5\/a=6\/a=7\/a=8\/a=9\/a=10\/a=11:=dB;rcases d with rfl|rfl|rfl|rfl|rfl|rfl|rfl|rfl|rfl|rfl|rfl|rfl<;>simp at b<;>simp[Tryz.f176,b,cv8,oh]
def QZ{c:iX}{g h:Nat}{d:DL}(i b:Code)(e:Env)(f:H)(a:iO):W (jG cx c h g d (.cond (.const (Value.bool false)) i b) e f) a=W (jG cx c h g d b e f) a:=rfl
def Us:nK Tryz.prog cx 128 (λa:Nat=>[.int .u64 a]) (λa=>a<=11) (λ_=>EL):=by
 refine ju (tb:=⟨pt [(176,KT.jx)],ht []⟩) fc fa (je 5 [] Tryz.func128) (λ_=>10) (λf g d=>by simp at d;omega) dC (by simp[Tryz.f128]) ?_;rintro(a:Nat) e i b;simp at b;obtain⟨_,⟨h,rfl⟩,c⟩:=KT.use a e;simp[Tryz.f128,b,c,QZ]
def Ud(a:Q4)(c:List T)(b:H):Prop:=c=[a.v]/\Gr b a.v 1 (gD (a.A++[a.t]))/\ij 0 b/\IE a.A/\a.t∉a.A/\a.A.length<=10
def cvu(b:H)(a:Int)(c:0<=a)(d:a<256):Yd cx b 3 220 ND (dG a)=some (.val (.int .u64 a) b):=by
 refine Gf SE rfl ?_;rw[jI];unfold IntKind.wrap;simp[IntKind.bits,IntKind.signed];omega
def VA:(jF Q4 Ud Fg).Ok Tryz.prog cx 81:=by
 refine jv (tb:=⟨pt [(128,Us.jx)],ht [(127,jF (Q4×Int) Ue Oh)]⟩) fc fa (je 5 [] Tryz.func81) (λ_ _=>100) (λs q c l=>by obtain⟨rfl,_⟩:=l;simp[Tryz.f81]) ?_;rintro⟨a,h,i⟩ _ c ⟨rfl,b,p,e,ht,hl⟩ u f;simp only at b e ht hl;simp at f;have g:=λk:H=>b.len (cx:=cx) k nL _ rfl;simp at g;have m:Gr (TI.hr c) i 1 (gD (a++[h])):=b.mono λj _=>gF c j;obtain⟨_,⟨o,rfl⟩,d⟩:=Us.use (a.length+1) dB;simp at d;simp[Tryz.f81,f,g,cvu,show(a.length:Int)+1<256 by omega,show(0:Int)<=(a.length:Int)+1 by omega,d];refine iu aaf dC (⟨a,h,i⟩,o) ⟨dC,m,p.hr,e,ht,hl⟩ ?_;rintro t r n;simp;exact UU.out n
structure ICo where
 (l:List Int) (v:T)
def Un(a:ICo)(c:List T)(b:H):Prop:=c=[a.v]/\Gr b a.v 1 (gD a.l)/\ij 0 b/\IE a.l/\a.l.length<=1000
def Ou(c:ICo)(e:List T)(a:H)(d:T)(b:H):Prop:=d=c.v/\Nb a b
def Mr:(jF ICo Un Ou).Ok Tryz.prog cx 82:=by
 refine jv (tb:=⟨pt [],ht []⟩) fc fa (je 17596514574653 [] Tryz.func82) (λ_ _=>1005) (λi D a A=>by obtain⟨rfl,_⟩:=A;simp[Tryz.f82]) ?_;rintro⟨b,f⟩ _ a ⟨rfl,h,C,m,hl⟩ g c;simp only at h m hl;simp at c;have e:=λw:H=>h.len (cx:=cx) w nL _ rfl;rw[aG]at e;have n:Gr (TI.hr a) f 1 (gD b):=h.mono λq _=>gF a q;have o:Nb a (lM a (TI.hr a)):=(Nb.refl C.hr).out;simp[Tryz.f82,c,e];refine em (λp=> ?_) (λp=> ?_)
 ·simp[c];exact⟨rfl,o⟩
 have G:2<=b.length:=by simp at p;omega
 simp;refine sr b.length (λk g v=>TI.hr a=v/\1<=k/\dJ g 0 f/\dJ g 3 (dG k)) ?_ dB (k:=1) dB (by simp[c]);rintro k g _ F ⟨rfl,E,j,l⟩;by_cases d:k<b.length
 ·have y:binop .add (dG (k:Int)) (dG 1)=some (dG ((k:Int)+1)):=iy dB dB;have B:binop .sub (dG (k:Int)) (dG 1)=some (dG ((k-1:Nat):Int)):=by rw[kN dB dB];congr 2;omega
  obtain⟨p1,r,s⟩:=(show oX (TI.hr a) 1 f _ from .inr n).idx (te:=Ed) rfl rfl (i:=k) (x:= dG b[k]) (by simp[d]) rfl;obtain⟨p2,t,u⟩:=(show oX (TI.hr a) 1 f _ from .inr n).idx (te:=Ed) rfl rfl (i:=k-1) (x:= dG b[k-1]) (by simp[show k-1<b.length by omega]) rfl;have z:¬b[k]=b[k-1]:=by
   have:=List.pairwise_iff_getElem.1 m (k-1) k dB d dB;omega
  simp[j,l,e,d,B,r,s,t,u,z,y];exact⟨k+1,dB,dB,dB,dC⟩
 ·simp[j,l,e,d];exact⟨rfl,o⟩
end
end Go.Proofs.YtmaeadedikngoaaGreatDoor
