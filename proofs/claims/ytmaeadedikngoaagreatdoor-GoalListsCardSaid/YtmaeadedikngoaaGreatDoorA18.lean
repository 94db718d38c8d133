/- Texts W08h to W08h. -/
import Derived.Test.YtmaeadedikngoaaGreatDoorA17
set_option linter.all false
set_option maxRecDepth 100000
set_option maxHeartbeats 8000000
namespace Go.Proofs.YtmaeadedikngoaaGreatDoor
noncomputable section
open Go Go.TI
attribute [-simp] List.map_take List.map_drop List.map_append fH fh ej Bool.not_or Bool.not_and
attribute [simp] fG fj
attribute [-simp] size_cons
def tJ{e d:Int}:∀{b:List dP} {c:Nat},d∈iz e b c->∃a:Nat,d=((c+a:Nat):Int)/\a<b.length:=by
 intro b;induction b with
 |nil=>intro c h;simp[iz]at h
 |cons k b j=>
  intro c h;rw[iz]at h;have f:d∈iz e b (c+1)->∃a:Nat,d=((c+a:Nat):Int)/\a<(k::b).length:=λh=>by
   obtain⟨a,g,i⟩:=j h;exact⟨a+1,by rw[g];simp;omega,by simpa using i⟩
  split at h
  ·rcases List.mem_cons.1 h with rfl|h
   ·exact⟨0,dC,dC⟩
   ·exact f h
  ·exact f h
def BF(c:Int):∀(a:List dP) (b:Nat),(iz c a b).length<=a.length:=by
 intro a;induction a with
 |nil=>intro b;simp[iz]
 |cons e a d=>intro b;rw[iz];have:=d (b+1);split<;>simp<;>omega
def MA(T:List dP)(b:List Int):List dP:=b.foldl (λT (a:Int)=>T.modify a.toNat (kx 4)) T
def Sf(g:Int):∀(c b:List dP),MA (b++c) (iz g c b.length)=b++c.map λe=>if e.iN=3/\e.cond=g then kx 4 e else e:=by
 intro c;induction c with
 |nil=>intro b;simp[iz,MA]
 |cons d c i=>
  intro b;rw[iz];split
  ·rename_i f;unfold MA;rw[List.foldl_cons];have j:(b++d::c).modify ((b.length:Int).toNat) (kx 4)=(b++[kx 4 d])++c:=by
    rw[oe (a:=d) dC];simp
   rw[j];have:=i (b++[kx 4 d]);simp only[aU,bh,cZ]at this;unfold MA at this;rw[this];simp[f]
  ·rename_i f;have:=i (b++[d]);simp only[aU,bh,cZ]at this;simp only[aV,List.singleton_append]at this;rw[this];simp[f]
def Se(a:List Int):∀T,(MA T a).length=T.length:=by
 induction a with
 |nil=>intro T;rfl
 |cons c a b=>intro T;show(MA (T.modify c.toNat (kx 4)) a).length=_;rw[b];simp
def Pp(T:List dP)(b:List Int){a:Nat}(c:a<b.length):MA T (b.take (a+1))=(MA T (b.take a)).modify b[a].toNat (kx 4):=by
 rw[aW c];unfold MA;rw[List.foldl_append];rfl
def Bj{c:Type}(b:List c)(a:Nat)(d e:c->c):(b.modify a d).modify a e=b.modify a λi=>e (d i):=by
 apply c8;intro f;simp only[List.getElem?_modify];by_cases g:a=f
 ·simp[g];cases b[f]? <;>rfl
 ·simp[g]
structure Bs(c0 c2 c3:T)(h:H)(es:List T)(S:fK)(ver:Nat):Prop where
 sy:Ba 3 h.size h c0 c2 c3 es S
 ok:ij 0 h
 g1:h.get 1=some (dI 4 ver [.agg [c0,dG S.tx,c2,c3]])
 g2:h.get 2=some (dI 4 0 [.agg [dH,dG 0,dH,dH]])
section
variable {c0 c2 c3:T}{h h':H}{es:List T}{S:fK}{ver:Nat}
def Bs.nb(b:Bs c0 c2 c3 h es S ver)(a:Nb h h'):Bs c0 c2 c3 h' es S ver:=
 ⟨b.sy.mono a.ok.sz λc _ d=>a.get c d,⟨a.ok.hp,a.ok.low,aw _⟩,(a.get _ (H.eJ b.g1)).trans b.g1,(a.get _ (H.eJ b.g2)).trans b.g2⟩
def Bs.put(d:Bs c0 c2 c3 h es S ver){a:Nat}{x:iY}(f:h.get a=some x)(j:3<=a){g:iY}{e:List T}{b:fK}(i:Ba 3 h.size (d8 h a g) c0 c2 c3 e b)(ht:b.tx=S.tx):Bs c0 c2 c3 (d8 h a g) e b ver:=
 ⟨by rw[fV];exact i,d.ok.put _ _,by rw[dQ f,ao dB,ht];exact d.g1,by rw[dQ f,ao dB];exact d.g2⟩
def Bs.oZ(c:Bs c0 c2 c3 h es S ver){a e k:Nat}{f:Bool}{l:List T}(g:dU c3=some a)(j:h.get a=some ⟨3,e,k,f,false,l⟩){i:Nat}{me:dP}(m:S.dM[i]? =some me)(d:dP->dP):
 Bs c0 c2 c3 (d8 h a ⟨3,e,k+1,f,false,l.set i (d me).t⟩) es {S with dM:=S.dM.modify i d} ver:=by
 have:=c.put j (c.sy.b a (.inr (.inr g))).1 (c.sy.oZ g j i (d me)) rfl;rw[oe m];exact this
def Bs.qt(g:Bs c0 c2 c3 h es S ver){d i m:Nat}{j:Bool}{n:List T}(k:dU c0=some d)(l:h.get d=some ⟨2,i,m,j,false,n⟩){c:Nat}{f:eg}(hl:S.ew[c]? =some f)(e:eg->eg){rv:T}(hr:oX h 1 rv (gD (e f).eY))(o:∀a,dU rv=some a->3<=a/\a<h.size/\dU c0≠some a/\dU c2≠some a/\dU c3≠some a):
 Bs c0 c2 c3 (d8 h d ⟨2,i,m+1,j,false,n.set c (.agg [dG (e f).iW,rv])⟩) (es.set c (.agg [dG (e f).iW,rv])) {S with ew:=S.ew.modify c e} ver:=by
 have:=g.put l (g.sy.b d (.inl k)).1 (g.sy.qt k l c hr o) rfl;rw[oe hl];exact this
def Bs.Yc(c:Bs c0 c2 c3 h es S ver){a f k:Nat}{g:Bool}{l:List T}(i:dU c2=some a)(j:h.get a=some ⟨1,f,k,g,false,l⟩)(d:Nat)(e:Bool):Bs c0 c2 c3 (d8 h a ⟨1,f,k+1,g,false,l.set d (.bool e)⟩) es {S with done:=S.done.set d e} ver:=
 c.put j (c.sy.b a (.inr (.inl i))).1 (c.sy.Yc i j d e) rfl
def Bs.tx(a:Bs c0 c2 c3 h es S ver)(b:Int):Bs c0 c2 c3 (d8 h 1 (dI 4 (ver+1) [.agg [c0,dG b,c2,c3]])) es {S with tx:=b} (ver+1):=
 ⟨by rw[fV];exact(a.sy.tx b).mono (au _) λc d _=>by rw[dQ a.g1,ao dB],a.ok.put _ _,by rw[dQ a.g1,aq rfl],by rw[dQ a.g1,ao dB];exact a.g2⟩
end
structure ApJ(w:ee)(s:fK)(t k o wk:Int)(c0 c2 c3:T)(h:H)(n:Int):Prop where
 ex:∃S es ver,fg w s t k o wk=(S,n)/\Bs c0 c2 c3 h es S ver
def UZ:fK:=⟨[],0,[],[]⟩
def x7(a:ee×fK×Int×Int×Int×Int):T:=if jR a.1 a.2.1 a.2.2.1 a.2.2.2.1 a.2.2.2.2.1=true then .tuple [(fg a.1 a.2.1 a.2.2.1 a.2.2.2.1 a.2.2.2.2.1 a.2.2.2.2.2).1.t,dG (fg a.1 a.2.1 a.2.2.1 a.2.2.2.1 a.2.2.2.2.1 a.2.2.2.2.2).2,.bool true]else .tuple [UZ.t,dG 0,.bool false]
def NK(a:fK):Prop:=a.ew.length<=1000000/\a.done.length<=1000000/\a.dM.length<=1000000/\(∀b∈a.ew,b.eY.length<=1000000)/\a.EY
def tj:iq:=⟨ee×fK×Int×Int×Int×Int,λa=>[a.1.t,a.2.1.t,dG a.2.2.1,dG a.2.2.2.1,dG a.2.2.2.2.1,dG a.2.2.2.2.2],λa=>a.1.gW.length<=1099511627776/\NK a.2.1,x7,λa b h=>by
 obtain⟨a1,a2,a3,a4,a5,c⟩:=a;obtain⟨d,e,f,g,i,j⟩:=b;simp at h;rw[ee.inj h.1,fK.inj h.2.1,h.2.2.1,h.2.2.2.1,h.2.2.2.2.1,h.2.2.2.2.2]⟩
def EA:tj.Ok Tryz.prog cx 107:=by
 refine iC (tb:=⟨pt [(104,nZ),(56,Dv)],ht [(154,jF fK El Jg),(155,jF IUn N8 Jc),(156,jF IWo Uc Og),(153,jF IWt Ub Of)]⟩) fc fa (je 829180818552508142370930303613581122868418894632663968482586879 [(17,[(1,11)]),(19,[(1,10)]),(30,[(4,9)]),(33,[(4,8)])] Tryz.func107) (λ_=>1000005) (by simp[tj]) (by simp[tj,Tryz.f107]) ?_;rintro⟨q,a,d,k,e,r⟩ ⟨c4,hl,eD,ht,hr,eA⟩ C ey;simp at c4 hl eD ht hr eA;simp[tj,x7]at ey|-;obtain⟨et,aX,I,cX,F,eu⟩:=ey;have eN:a.sm:=⟨dB,dB,dB,λj u=>by have:=hr j u;omega⟩;cases c9:jR q a d k e with
 |false=>
  simp[Tryz.f107,et,aX,I,cX,F,xY,c4,eN,c9];rfl
 |true=>
  have dd:=c9;unfold jR at dd;simp only[ay]at dd;obtain⟨⟨⟨eE,eH⟩,bS⟩,_⟩:=dd;obtain⟨eU,gw,eV⟩:=ou eE;simp[Tryz.f107,et,aX,I,cX,F,xY,c4,eN,c9];generalize a7:((hE.cons _).cons _).cons _=bu;have gv:ij 0 bu:=by rw[<-a7];exact⟨dC,dC,dC⟩
  have gI:bu.size=3:=by rw[<-a7];rfl
  have e4:bu.get 0=some (dI 6 0 [q.t]):=by rw[<-a7];simp
  have e5:bu.get 1=some (dI 4 0 [a.t]):=by rw[<-a7];simp
  have e6:bu.get 2=some (dI 4 0 [.agg [dH,dG 0,dH,dH]]):=by rw[<-a7];simp
  clear a7;refine iu Hu dC a ⟨rfl,gv,hl,eD,ht,hr⟩ ?_;rintro _ b8 ⟨c0,c2,c3,es,rfl,eX,bk⟩;rw[gI]at eX;have gY:=bk.ok.sz;have gp:ij 0 b8:=⟨bk.ok.hp,bk.ok.low,aw _⟩;have bs:=(bk.get 1 dB).trans e5;have e9:=(bk.get 0 dB).trans e4;have fb:=(bk.get 2 dB).trans e6;have c:Bs c0 c2 c3 (d8 b8 1 (dI 4 1 [.agg [c0,dG a.tx,c2,c3]])) es a 1:=⟨by rw[fV];exact eX.mono (au _) λo u _=>by rw[dQ bs,ao dB],gp.put _ _,by rw[dQ bs,aq rfl],by rw[dQ bs,ao dB];exact fb⟩;have er:(d8 b8 1 (dI 4 1 [.agg [c0,dG a.tx,c2,c3]])).get 0=some (dI 6 0 [q.t]):=by rw[dQ bs,ao dB];exact e9
  simp[NF,bs,cX];generalize d8 b8 1 _=a6 at*
  have eI:=eH;rw[<-eV]at eI;obtain⟨me,J,gP⟩:=iK eI;have bn:=eQ (fw.1 eH).1;refine lq (λC ae=>∃n,ApJ q a d k e r c0 c2 c3 ae n/\dJ C 7 (.ptr 1 0 0 0)/\dJ C 12 (.ptr 2 0 0 0)/\dJ C 15 (dG n)) (λal=> ?_) (λal=> ?_) ?_
  ·have al:k=1:=by simpa using al
   subst al
   ·obtain⟨D,ep,av,ex,aA,w,l,s,m⟩:=c.sy.g3.at (x:=me.t) (i:=d.toNat) (by simp[J]);rw[aG]at w m;subst w;simp[I,c.g1,bn,l,s,m];exact⟨_,_,_,show fg q a d 1 e r=(a.oZ d (kx 2),0)by simp[fg],c.oZ rfl l J (kx 2)⟩
  ·have al:¬k=1:=by simpa using al
   rcases uc bS with g|rfl|rfl|rfl|rfl|rfl|rfl|rfl|rfl|g|g|g|g
   ·exact absurd g al
   ·obtain⟨D,ep,av,ex,aA,w,l,s,m⟩:=c.sy.g3.at (x:=me.t) (i:=d.toNat) (by simp[J]);rw[aG]at w m;subst w;simp[I,c.g1,bn,l,s,m];exact⟨_,_,_,show fg q a d 2 e r=(a.oZ d (kx 5),0)by simp[fg],c.oZ rfl l J (kx 5)⟩
   ·simp;exact⟨_,_,_,show fg q a d 3 e r=(a,0)by simp[fg],c⟩
   ·simp;exact⟨_,_,_,show fg q a d 4 e r=(a,0)by simp[fg],c⟩
   ·simp;exact⟨_,_,_,show fg q a d 5 e r=(a,0)by simp[fg],c⟩
   ·simp[I,c.g1,ed];exact⟨_,_,_,show fg q a d 12 e r=({a with tx:=d},0)by simp[fg],c.tx d⟩
   ·simp[c.g1,ed];exact⟨_,_,_,show fg q a d 13 e r=({a with tx:=-1},0)by simp[fg],c.tx (-1)⟩
   ·obtain⟨D,ep,av,ex,aA,w,l,s,m⟩:=c.sy.g3.at (x:=me.t) (i:=d.toNat) (by simp[J]);rw[aG]at w m;subst w;simp[I,c.g1,bn,l,s,m];exact⟨_,_,_,show fg q a d 14 e r=(a.oZ d (λx=>{x with atomic:=true}),0)by simp[fg],c.oZ rfl l J (λx=>{x with atomic:=true})⟩
   ·obtain⟨D,ep,av,ex,aA,w,l,s,m⟩:=c.sy.g3.at (x:=me.t) (i:=d.toNat) (by simp[J]);rw[aG]at w m;subst w;simp[I,c.g1,bn,l,s,m];exact⟨_,_,_,show fg q a d 15 e r=(a.oZ d (λx=>{x with atomic:=false}),0)by simp[fg],c.oZ rfl l J (λx=>{x with atomic:=false})⟩
   ·have G:=mV bS g;rw[<-eU]at G;obtain⟨V,K,fY⟩:=iK G;have E:=eQ (fw.1 G).1;obtain⟨B,c7,rv,rfl,U,ap⟩:=c.sy.el.get K;obtain⟨D,ep,av,ex,aA,rfl,l,s,m⟩:=c.sy.g0.at c7;have bz:=H.eJ l;have gM:=(c.sy.b D (.inl rfl)).1;have ds:(1=a6.size)=False:=by have:=H.eJ c.g1;simp;omega
    have gQ:(D=a6.size)=False:=dD;have gj:=hr V (ax K);have eR:∀o,dU rv=some o->o<a6.size:=λo u=>(ap o u).2.1;rcases g with rfl|rfl|rfl|rfl|rfl|rfl
    ·simp[I,F,c.g1,E,l,s,m];exact⟨_,_,_,show fg q a d 6 e r=(a.qt e (λj=>{j with iW:=d}),0)by simp[fg],c.qt rfl l K (λj=>{j with iW:=d}) U ap⟩
    ·simp[F,c.g1,E,l,s,m];exact⟨_,_,_,show fg q a d 7 e r=(a.qt e (λj=>{j with iW:=-1}),0)by simp[fg],c.qt rfl l K (λj=>{j with iW:=-1}) U ap⟩
    ·simp[I,F,c.g1,E,l,s,m];refine kZ Hg dC ⟨V.eY,[d],rv,.arr a6.size 0 0 1 false⟩ ⟨rfl,U.mono λo u=>by rw[dW,ao (by have:=eR o u;omega)],.inr (Gr.new (ep:=0) (ver:=0) (ex:=true) (es:=[dG d]) dC),dD,c.ok.cons _⟩ ?_;rintro M Z ⟨v,P,eb⟩;have eS:Nb a6 Z:=((Nb.refl c.ok).cons (dI 1 0 [dG d])).trans P;have O:=c.nb eS;have bC:=(eS.get D bz).trans l;have ef:=fk (P.get 1 (by have:=H.eJ c.g1;simp;omega));simp only at v;rw[IP (eA V (ax K))]at v;have ec:∀o,dU M=some o->o<Z.size:=λo u=>by
      rcases v with rfl|g
      ·simp at u
      ·obtain⟨_,_,_,_,k,_⟩:=g.box u;exact H.eJ k
     simp[E,bC,s,m,ef,ed,v.im.1,v.im.2];exact⟨_,_,_,show fg q a d 8 e r=(a.qt e (λj=>{j with eY:=lY j.eY d}),0)by simp[fg],O.qt rfl bC K (λj=>{j with eY:=lY j.eY d}) v λo u=>by
      have eP:=eb o u;simp at eP;have dn:=ec o u;exact⟨dB,dn,λB=>by simp at B;omega,λB=>by have:=(c.sy.b o (.inr (.inl B))).2;omega,λB=>by have:=(c.sy.b o (.inr (.inr B))).2;omega⟩⟩
    ·simp[I,F,c.g1,E,l,s,m];refine kZ Jl dC ⟨V.eY,rv,d⟩ ⟨rfl,U,eR,gj,c.ok⟩ ?_;rintro M Z ⟨v,P,eb⟩;have O:=c.nb P;have bC:=(P.get D bz).trans l;have ef:=fk (P.get 1 (H.eJ c.g1));simp only at v;have ec:∀o,dU M=some o->o<Z.size:=λo u=>by
      rcases v with rfl|g
      ·simp at u
      ·obtain⟨_,_,_,_,k,_⟩:=g.box u;exact H.eJ k
     simp[E,bC,s,m,ef,ed,v.im.1,v.im.2];exact⟨_,_,_,show fg q a d 9 e r=(a.qt e (λj=>{j with eY:=j.eY.filter λM=> !decide (M=d)}),0)by simp[fg],O.qt rfl bC K (λj=>{j with eY:=j.eY.filter λM=> !decide (M=d)}) v λo u=>by
      have eP:=eb o u;have dn:=ec o u;exact⟨dB,dn,λB=>by simp at B;omega,λB=>by have:=(c.sy.b o (.inr (.inl B))).2;omega,λB=>by have:=(c.sy.b o (.inr (.inr B))).2;omega⟩⟩
    ·simp[I,F,c.g1,E,l,s,m];exact⟨_,_,_,show fg q a d 10 e r=(a.qt e (λj=>{j with iW:=d}),0)by simp[fg],c.qt rfl l K (λj=>{j with iW:=d}) U ap⟩
    ·simp[F,c.g1,E,l,s,m];exact⟨_,_,_,show fg q a d 11 e r=(a.qt e (λj=>{j with iW:=-1}),0)by simp[fg],c.qt rfl l K (λj=>{j with iW:=-1}) U ap⟩
   ·have G:=py bS g;obtain⟨o,c6,eC⟩:=iK G;have bN:=rY eE c6;rw[<-eU]at bN;obtain⟨V,K,fY⟩:=iK bN;have E:=eQ (fw.1 G).1;have e0:=eQ (fw.1 bN).1;obtain⟨B,c7,rv,rfl,U,ap⟩:=c.sy.el.get K;obtain⟨D,ep,av,ex,aA,rfl,l,s,m⟩:=c.sy.g0.at c7;obtain⟨aE,eo,gz,fo,cb,w,a8,ca,de⟩:=c.sy.g3.at (x:=me.t) (i:=d.toNat) (by simp[J]);rw[aG]at w de;subst w;have bz:=H.eJ l;have eB:=H.eJ a8;have ds:(1=D)=False:=by have:=(c.sy.b D (.inl rfl)).1;simp;omega
    have gn:(1=aE)=False:=by have:=(c.sy.b aE (.inr (.inr rfl))).1;simp;omega
    have dv:(aE=D)=False:=by simp;rintro rfl;rw[l]at a8;simp at a8
    have eO:∀x,(cb.set d.toNat x)[d.toNat]? =some x:=λx=>by
     have:d.toNat<cb.length:=by
      rcases aF d.toNat cb.length with k|k
      ·exact k
      ·rw[aM k]at ca;simp at ca
     rw[bV];simp[this]
    have bH:∀A,(d8 a6 D A).get aE=some ⟨3,eo,gz,fo,false,cb⟩:=λA=>by rw[dQ l,ao (by simpa using dv)];exact a8
    have eW:=λA z=>mR (bH A) (show 1≠aE by simpa using gn) z;have eh:=λ(f:eg->eg) (u:(f V).eY=V.eY)=>c.qt rfl l K f (rv:=rv) (by rw[u];exact U) ap;rcases g with rfl|rfl|rfl|rfl
    ·have cp:=(eh (λj=>{j with iW:=-1}) rfl).oZ rfl (bH _) J (λx=>{x with iN:=3});have bp:=cp.oZ (me:=(λx=>{x with iN:=3}) me) rfl ((dQ (bH _) _ _).trans (aq rfl)) (i:=d.toNat) (by simp[J]) (λx=>{x with cond:=e});simp only[Bj,List.set_set]at bp;simp[I,F,er,c.g1,E,e0,bn,c6,l,a8,s,ca,m,de,m6,c.ok.hp,bz,eB,ds,dv,eO,eW];exact⟨_,_,_,show fg q a d 16 e r=((a.qt o.kG λj=>{j with iW:=-1}).oZ d (λx=>{x with iN:=3,cond:=e}),0)by simp[fg,eC],bp⟩
    ·have cp:=(eh (λj=>{j with iW:=d}) rfl).oZ rfl (bH _) J (λx=>{x with iN:=2});have bp:=cp.oZ (me:=(λx=>{x with iN:=2}) me) rfl ((dQ (bH _) _ _).trans (aq rfl)) (i:=d.toNat) (by simp[J]) (λx=>{x with cond:=0});simp only[Bj,List.set_set]at bp;simp[I,F,er,c.g1,E,e0,bn,c6,l,a8,s,ca,m,de,m6,c.ok.hp,bz,eB,ds,dv,eO,eW];exact⟨_,_,_,show fg q a d 17 e r=((a.qt o.kG λj=>{j with iW:=d}).oZ d (λx=>{x with iN:=2,cond:=0}),0)by simp[fg,eC],bp⟩
    ·simp[F,c.g1];refine iu B8 dC ⟨a,_,_,_,e⟩ ⟨rfl,c.sy.g3,ht,c.ok⟩ ?_;rintro M Z ⟨v,P,_⟩;simp only at v;have O:=c.nb P;have dk:=BF e a.dM 0;have R:=λaX:H=>v.len (cx:=cx) aX nL _ rfl;rw[aG]at R;simp[R];refine em (λan=> ?_) (λan=> ?_)
     ·have bT:0<(iz e a.dM 0).length:=by simpa using an
      obtain⟨p,b6,b7⟩:=v.idx (te:=Ed) rfl rfl (i:=0) (x:= dG (iz e a.dM 0)[0]) (by simp[bT]) rfl;have fC:=v.rn (f:=T.int .i64) (λ_=>by simp) (λ_=>rfl);have fe:=λ{tb:fN} (ht:tb.p 56=some Dv)=>WY ht (iz e a.dM 0) r dB;have eF:(iz e a.dM 0).headD (-1)=(iz e a.dM 0)[0]:=by
       clear b6 b7 v R dk;generalize iz e a.dM 0=j at*
       cases j with
       |nil=>simp at bT
       |cons x j=>simp
      simp[eu,b6,b7,fC,fe];have L:∃y:Nat,yg e r a.dM=y/\y<a.dM.length:=by
       have bN:yg e r a.dM∈iz e a.dM 0:=by
        unfold yg;split
        ·assumption
        ·rw[eF];exact aC bT
       obtain⟨y,B,Q⟩:=tJ bN;exact⟨y,by simpa using B,Q⟩
      obtain⟨y,di,Q⟩:=L;refine lq (λC ae=>ae=Z/\dJ C 17 (dG y)/\dJ C 7 (.ptr 1 0 0 0)/\dJ C 12 (.ptr 2 0 0 0)) (λan=> ?_) (λan=> ?_) ?_
      ·simp[eu];rw[<-di];unfold yg;rw[aq (by simpa using an)]
      ·simp;rw[<-di,<-eF];unfold yg;rw[ao (by simpa using an)]
      ·rintro C _ ⟨rfl,fS,Y,X⟩;obtain⟨N,L⟩:∃N,a.dM[y]? =some N:=⟨_,aB Q⟩;obtain⟨e8,fi,gB,fs,gE,bB,bi,dm,gi⟩:=O.sy.g3.at (x:=N.t) (i:=y) (by simp[L]);simp at bB;obtain⟨rfl,rfl⟩:=bB;simp[Y,X,fS,O.g1,bi,dm,Q];exact⟨_,_,_,show fg q a d 18 e r=(a.oZ y (kx 4),(y:Int))by
        rw[<-di];unfold fg;simp;intro u;rw[u]at bT;simp at bT,O.oZ rfl bi L (kx 4)⟩
     ·have gm:iz e a.dM 0=[]:=by
       have:¬0<(iz e a.dM 0).length:=by simpa using an
       exact bj dB
      simp;exact⟨_,_,_,show fg q a d 18 e r=(a,-1)by simp[fg,gm],O⟩
    ·simp[F,c.g1];refine iu B8 dC ⟨a,_,_,_,e⟩ ⟨rfl,c.sy.g3,ht,c.ok⟩ ?_;rintro M Z ⟨v,P,gy⟩;simp only at v;have O:=c.nb P;have dk:=BF e a.dM 0;have R:=λaX:H=>v.len (cx:=cx) aX nL _ rfl;rw[aG]at R;have eM:∀x∈iz e a.dM 0,∃y:Nat,x=y/\y<a.dM.length:=λx s=>by
      obtain⟨y,B,Q⟩:=tJ s;exact⟨y,by simpa using B,Q⟩
     have c1:=Sf e a.dM [];simp only[cz,cZ]at c1;have b9:∃j,j=iz e a.dM 0:=⟨_,rfl⟩;obtain⟨j,b9⟩:=b9;rw[<-b9]at v dk eM c1 R;simp;refine fI j.length dB (λi C h'=>Bs (.arr D ep 0 es.length false) c2 (.arr aE eo 0 a.dM.length false) h' es {a with dM:=MA a.dM (j.take i)} 1/\oX h' 1 M (gD j)/\dJ C 7 (.ptr 1 0 0 0)/\dJ C 12 (.ptr 2 0 0 0)/\dJ C 18 M/\dJ C 19 (dG i)) ?_ ?_ dB ⟨by simpa[MA]using O,v,dC⟩
     ·rintro i C h' m gd ⟨aN,ea,Y,X,cy,cL⟩;obtain⟨y,Q,eL⟩:=eM j[i] (aC m);obtain⟨N,L⟩:∃N,(MA a.dM (j.take i))[y]? =some N:=⟨_,aB (by rw[Se];exact eL)⟩;obtain⟨e8,fi,gB,fs,gE,bB,bi,dm,gi⟩:=aN.sy.g3.at (x:=N.t) (i:=y) (by simp[L]);simp at bB;obtain⟨rfl,rfl,_⟩:=bB;obtain⟨p,b6,b7⟩:=ea.idx (te:=Ed) rfl rfl (i:=i) (x:= dG y) (by simp[m,Q]) rfl;have e7:=aN.oZ rfl bi L (kx 4);simp[Y,X,cy,cL,R,m,b6,b7,aN.g1,bi,dm,eL,gd];refine⟨?_,ea.mono λo u=>by rw[dQ bi,ao (by have:=gy o u;omega)]⟩;rw[Pp a.dM j m,Q];exact e7
     ·rintro C h' ⟨aN,ea,Y,X,cy,cL⟩;rw[aL]at aN;simp[Y,X,cy,cL,R];exact⟨_,_,_,show fg q a d 19 e r=({a with dM:=MA a.dM j},(j.length:Int))by rw[c1];simp[fg,<-b9],aN⟩
   ·have G:=wE bS g;rw[<-eV]at G;obtain⟨N,L,gk⟩:=iK G;have E:=eQ (fw.1 G).1;rcases g with rfl|rfl
    ·obtain⟨D,ep,av,ex,aA,w,l,s,m⟩:=c.sy.g3.at (x:=N.t) (i:=e.toNat) (by simp[L]);rw[aG]at w m;subst w;simp[F,c.g1,E,l,s,m];exact⟨_,_,_,show fg q a d 20 e r=(a.oZ e (kx 1),0)by simp[fg],c.oZ rfl l L (kx 1)⟩
    ·simp;exact⟨_,_,_,show fg q a d 21 e r=(a,0)by simp[fg],c⟩
   ·have G:=rj bS g;rw[<-gw]at G;obtain⟨N,L,gk⟩:=iK G;have E:=eQ (fw.1 G).1;rcases g with rfl|rfl
    ·obtain⟨D,ep,av,ex,aA,w,l,s,m⟩:=c.sy.g2.at (x:= .bool N) (i:=e.toNat) (by simp[L]);rw[aG]at w m;subst w;simp[F,c.g1,E,l,s,m];exact⟨_,_,_,show fg q a d 22 e r=({a with done:=a.done.set e.toNat true},0)by simp[fg],c.Yc rfl l e.toNat true⟩
    ·simp;exact⟨_,_,_,show fg q a d 23 e r=(a,0)by simp[fg],c⟩
  ·rintro C ae ⟨n,⟨S,fl,ver,gg,W⟩,Y,X,fL⟩;obtain⟨gS,gV,gX⟩:=W.sy.fz;have fE:∀A,(d8 ae 2 A).get 2=some A:=λA=>(dQ W.g2 A _).trans (aq rfl);have ce:∀A,Ba 3 ae.size (d8 ae 2 A) c0 c2 c3 fl S:=λA=>W.sy.mono (au _) λo u _=>by rw[dQ W.g2,ao dB]
   have fv:=λA=>(ce A).fz.1;have fA:=λA=>(ce A).fz.2.1;have fB:=λA=>(ce A).fz.2.2;simp[Y,X,fL,W.g1,W.g2,fE,ed,fv,fA,fB,gg,W.ok.hp]
end
end Go.Proofs.YtmaeadedikngoaaGreatDoor
