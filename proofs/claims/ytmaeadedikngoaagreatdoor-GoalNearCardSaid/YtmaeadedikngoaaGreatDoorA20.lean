/- Texts W08h to W08h. -/
import Derived.Test.YtmaeadedikngoaaGreatDoorA19
set_option linter.all false
set_option maxRecDepth 100000
set_option maxHeartbeats 8000000
namespace Go.Proofs.YtmaeadedikngoaaGreatDoor
noncomputable section
open Go Go.TI
attribute [-simp] List.map_take List.map_drop List.map_append fw eQ dZ Bool.not_or Bool.not_and
attribute [simp] fq eY
attribute [-simp] size_cons
def sJ{e d:Int}:∀{b:List dG} {c:Nat},d∈hU e b c->∃a:Nat,d=((c+a:Nat):Int)/\a<b.length:=by
 intro b;induction b with
 |nil=>intro c h;simp[hU]at h
 |cons k b j=>
  intro c h;rw[hU]at h;have f:d∈hU e b (c+1)->∃a:Nat,d=((c+a:Nat):Int)/\a<(k::b).length:=λh=>by
   obtain⟨a,g,i⟩:=j h;exact⟨a+1,by rw[g];simp;omega,by simpa using i⟩
  split at h
  ·rcases List.mem_cons.1 h with rfl|h
   ·exact⟨0,dt,dt⟩
   ·exact f h
  ·exact f h
def Bb(c:Int):∀(a:List dG) (b:Nat),(hU c a b).length<=a.length:=by
 intro a;induction a with
 |nil=>intro b;simp[hU]
 |cons e a d=>intro b;rw[hU];have:=d (b+1);split<;>simp<;>omega
def LB(T:List dG)(b:List Int):List dG:=b.foldl (λT (a:Int)=>T.modify a.toNat (kc 4)) T
def Q4(g:Int):∀(c b:List dG),LB (b++c) (hU g c b.length)=b++c.map λe=>if e.iA=3/\e.cond=g then kc 4 e else e:=by
 intro c;induction c with
 |nil=>intro b;simp[hU,LB]
 |cons d c i=>
  intro b;rw[hU];split
  ·rename_i f;unfold LB;rw[List.foldl_cons];have j:(b++d::c).modify ((b.length:Int).toNat) (kc 4)=(b++[kc 4 d])++c:=by
    rw[nH (a:=d) dt];simp
   rw[j];have:=i (b++[kc 4 d]);simp only[bh,aZ,cT]at this;unfold LB at this;rw[this];simp[f]
  ·rename_i f;have:=i (b++[d]);simp only[bh,aZ,cT]at this;simp only[cr,List.singleton_append]at this;rw[this];simp[f]
def Q3(a:List Int):∀T,(LB T a).length=T.length:=by
 induction a with
 |nil=>intro T;rfl
 |cons c a b=>intro T;show(LB (T.modify c.toNat (kc 4)) a).length=_;rw[b];simp
def Oj(T:List dG)(b:List Int){a:Nat}(c:a<b.length):LB T (b.take (a+1))=(LB T (b.take a)).modify b[a].toNat (kc 4):=by
 rw[aU c];unfold LB;rw[List.foldl_append];rfl
def AS{c:Type}(b:List c)(a:Nat)(d e:c->c):(b.modify a d).modify a e=b.modify a λi=>e (d i):=by
 apply cU;intro f;simp only[List.getElem?_modify];by_cases g:a=f
 ·simp[g];cases b[f]? <;>rfl
 ·simp[g]
structure Bs(c0 c2 c3:T)(h:H)(es:List T)(S:fk)(ver:Nat):Prop where
 sy:AJ 3 h.size h c0 c2 c3 es S
 ok:gF 0 h
 g1:h.get 1=some (dA 4 ver [.agg [c0,dy S.tx,c2,c3]])
 g2:h.get 2=some (dA 4 0 [.agg [dz,dy 0,dz,dz]])
section
variable {c0 c2 c3:T}{h h':H}{es:List T}{S:fk}{ver:Nat}
def Bs.nb(b:Bs c0 c2 c3 h es S ver)(a:Nb h h'):Bs c0 c2 c3 h' es S ver:=
 ⟨b.sy.mono a.ok.sz λc _ d=>a.get c d,⟨a.ok.hp,a.ok.low,aw _⟩,(a.get _ (H.ez b.g1)).trans b.g1,(a.get _ (H.ez b.g2)).trans b.g2⟩
def Bs.put(d:Bs c0 c2 c3 h es S ver){a:Nat}{x:iN}(f:h.get a=some x)(j:3<=a){g:iN}{e:List T}{b:fk}(i:AJ 3 h.size (dT h a g) c0 c2 c3 e b)(ht:b.tx=S.tx):Bs c0 c2 c3 (dT h a g) e b ver:=
 ⟨by rw[fJ];exact i,d.ok.put _ _,by rw[dI f,ao dq,ht];exact d.g1,by rw[dI f,ao dq];exact d.g2⟩
def Bs.oE(c:Bs c0 c2 c3 h es S ver){a e k:Nat}{f:Bool}{l:List T}(g:dO c3=some a)(j:h.get a=some ⟨3,e,k,f,false,l⟩){i:Nat}{me:dG}(m:S.dE[i]? =some me)(d:dG->dG):
 Bs c0 c2 c3 (dT h a ⟨3,e,k+1,f,false,l.set i (d me).t⟩) es {S with dE:=S.dE.modify i d} ver:=by
 have:=c.put j (c.sy.b a (.inr (.inr g))).1 (c.sy.oE g j i (d me)) rfl;rw[nH m];exact this
def Bs.pO(g:Bs c0 c2 c3 h es S ver){d i m:Nat}{j:Bool}{n:List T}(k:dO c0=some d)(l:h.get d=some ⟨2,i,m,j,false,n⟩){c:Nat}{f:dV}(hl:S.dY[c]? =some f)(e:dV->dV){rv:T}(hr:oS h 1 rv (gG (e f).eg))(o:∀a,dO rv=some a->3<=a/\a<h.size/\dO c0≠some a/\dO c2≠some a/\dO c3≠some a):
 Bs c0 c2 c3 (dT h d ⟨2,i,m+1,j,false,n.set c (.agg [dy (e f).iK,rv])⟩) (es.set c (.agg [dy (e f).iK,rv])) {S with dY:=S.dY.modify c e} ver:=by
 have:=g.put l (g.sy.b d (.inl k)).1 (g.sy.pO k l c hr o) rfl;rw[nH hl];exact this
def Bs.WE(c:Bs c0 c2 c3 h es S ver){a f k:Nat}{g:Bool}{l:List T}(i:dO c2=some a)(j:h.get a=some ⟨1,f,k,g,false,l⟩)(d:Nat)(e:Bool):Bs c0 c2 c3 (dT h a ⟨1,f,k+1,g,false,l.set d (.bool e)⟩) es {S with done:=S.done.set d e} ver:=
 c.put j (c.sy.b a (.inr (.inl i))).1 (c.sy.WE i j d e) rfl
def Bs.tx(a:Bs c0 c2 c3 h es S ver)(b:Int):Bs c0 c2 c3 (dT h 1 (dA 4 (ver+1) [.agg [c0,dy b,c2,c3]])) es {S with tx:=b} (ver+1):=
 ⟨by rw[fJ];exact(a.sy.tx b).mono (au _) λc d _=>by rw[dI a.g1,ao dq],a.ok.put _ _,by rw[dI a.g1,aq rfl],by rw[dI a.g1,ao dq];exact a.g2⟩
end
structure ApJ(w:dU)(s:fk)(t k o wk:Int)(c0 c2 c3:T)(h:H)(n:Int):Prop where
 ex:∃S es ver,eG w s t k o wk=(S,n)/\Bs c0 c2 c3 h es S ver
def TR:fk:=⟨[],0,[],[]⟩
def xy(a:dU×fk×Int×Int×Int×Int):T:=if jM a.1 a.2.1 a.2.2.1 a.2.2.2.1 a.2.2.2.2.1=true then .tuple [(eG a.1 a.2.1 a.2.2.1 a.2.2.2.1 a.2.2.2.2.1 a.2.2.2.2.2).1.t,dy (eG a.1 a.2.1 a.2.2.1 a.2.2.2.1 a.2.2.2.2.1 a.2.2.2.2.2).2,.bool true]else .tuple [TR.t,dy 0,.bool false]
def MJ(a:fk):Prop:=a.dY.length<=1000000/\a.done.length<=1000000/\a.dE.length<=1000000/\(∀b∈a.dY,b.eg.length<=1000000)/\a.D0
def sk:gu:=⟨dU×fk×Int×Int×Int×Int,λa=>[a.1.t,a.2.1.t,dy a.2.2.1,dy a.2.2.2.1,dy a.2.2.2.2.1,dy a.2.2.2.2.2],λa=>a.1.fZ.length<=1099511627776/\MJ a.2.1,xy,λa b h=>by
 obtain⟨a1,a2,a3,a4,a5,c⟩:=a;obtain⟨d,e,f,g,i,j⟩:=b;simp at h;rw[dU.inj h.1,fk.inj h.2.1,h.2.2.1,h.2.2.2.1,h.2.2.2.2.1,h.2.2.2.2.2]⟩
def DB:sk.Ok Tryz.prog cx 107:=by
 refine gX (tb:=⟨pt [(104,nC),(56,Bq)],ht [(154,js fk Dk In),(155,js IUn M6 Ik),(156,js IWo SP Nf),(153,js IWt SO Nd)]⟩) ew ej (iQ 829180818552508142370930303613581122868418894632663968482586879 [(17,[(1,11)]),(19,[(1,10)]),(30,[(4,9)]),(33,[(4,8)])] Tryz.func107) (λ_=>1000005) (by simp[sk]) (by simp[sk,Tryz.f107]) ?_;rintro⟨q,a,d,k,e,r⟩ ⟨c4,hl,eD,ht,hr,eA⟩ C ey;simp at c4 hl eD ht hr eA;simp[sk,xy]at ey|-;obtain⟨et,aX,I,cL,F,eu⟩:=ey;have eN:a.sm:=⟨dq,dq,dq,λj u=>by have:=hr j u;omega⟩;cases c9:jM q a d k e with
 |false=>
  simp[Tryz.f107,et,aX,I,cL,F,xv,c4,eN,c9];rfl
 |true=>
  have dd:=c9;unfold jM at dd;simp only[aB]at dd;obtain⟨⟨⟨eE,eH⟩,bS⟩,_⟩:=dd;obtain⟨eU,gm,eV⟩:=nO eE;simp[Tryz.f107,et,aX,I,cL,F,xv,c4,eN,c9];generalize a7:((hE.cons _).cons _).cons _=bu;have gk:gF 0 bu:=by rw[<-a7];exact⟨dt,dt,dt⟩
  have gy:bu.size=3:=by rw[<-a7];rfl
  have e1:bu.get 0=some (dA 6 0 [q.t]):=by rw[<-a7];simp
  have e2:bu.get 1=some (dA 4 0 [a.t]):=by rw[<-a7];simp
  have e3:bu.get 2=some (dA 4 0 [.agg [dz,dy 0,dz,dz]]):=by rw[<-a7];simp
  clear a7;refine gY Gp dt a ⟨rfl,gk,hl,eD,ht,hr⟩ ?_;rintro _ b8 ⟨c0,c2,c3,es,rfl,eX,bk⟩;rw[gy]at eX;have gQ:=bk.ok.sz;have gj:gF 0 b8:=⟨bk.ok.hp,bk.ok.low,aw _⟩;have bs:=(bk.get 1 dq).trans e2;have e6:=(bk.get 0 dq).trans e1;have e7:=(bk.get 2 dq).trans e3;have c:Bs c0 c2 c3 (dT b8 1 (dA 4 1 [.agg [c0,dy a.tx,c2,c3]])) es a 1:=⟨by rw[fJ];exact eX.mono (au _) λo u _=>by rw[dI bs,ao dq],gj.put _ _,by rw[dI bs,aq rfl],by rw[dI bs,ao dq];exact e7⟩;have er:(dT b8 1 (dA 4 1 [.agg [c0,dy a.tx,c2,c3]])).get 0=some (dA 6 0 [q.t]):=by rw[dI bs,ao dq];exact e6
  simp[MC,bs,cL];generalize dT b8 1 _=a6 at*
  have eI:=eH;rw[<-eV]at eI;obtain⟨me,J,gB⟩:=iu eI;have bl:=ei (fj.1 eH).1;refine kS (λC ae=>∃n,ApJ q a d k e r c0 c2 c3 ae n/\dB C 7 (.ptr 1 0 0 0)/\dB C 12 (.ptr 2 0 0 0)/\dB C 15 (dy n)) (λal=> ?_) (λal=> ?_) ?_
  ·have al:k=1:=by simpa using al
   subst al
   ·obtain⟨D,ep,av,ex,aA,w,l,s,m⟩:=c.sy.g3.at (x:=me.t) (i:=d.toNat) (by simp[J]);rw[aH]at w m;subst w;simp[I,c.g1,bl,l,s,m];exact⟨_,_,_,show eG q a d 1 e r=(a.oE d (kc 2),0)by simp[eG],c.oE rfl l J (kc 2)⟩
  ·have al:¬k=1:=by simpa using al
   rcases tv bS with g|rfl|rfl|rfl|rfl|rfl|rfl|rfl|rfl|g|g|g|g
   ·exact absurd g al
   ·obtain⟨D,ep,av,ex,aA,w,l,s,m⟩:=c.sy.g3.at (x:=me.t) (i:=d.toNat) (by simp[J]);rw[aH]at w m;subst w;simp[I,c.g1,bl,l,s,m];exact⟨_,_,_,show eG q a d 2 e r=(a.oE d (kc 5),0)by simp[eG],c.oE rfl l J (kc 5)⟩
   ·simp;exact⟨_,_,_,show eG q a d 3 e r=(a,0)by simp[eG],c⟩
   ·simp;exact⟨_,_,_,show eG q a d 4 e r=(a,0)by simp[eG],c⟩
   ·simp;exact⟨_,_,_,show eG q a d 5 e r=(a,0)by simp[eG],c⟩
   ·simp[I,c.g1,dS];exact⟨_,_,_,show eG q a d 12 e r=({a with tx:=d},0)by simp[eG],c.tx d⟩
   ·simp[c.g1,dS];exact⟨_,_,_,show eG q a d 13 e r=({a with tx:=-1},0)by simp[eG],c.tx (-1)⟩
   ·obtain⟨D,ep,av,ex,aA,w,l,s,m⟩:=c.sy.g3.at (x:=me.t) (i:=d.toNat) (by simp[J]);rw[aH]at w m;subst w;simp[I,c.g1,bl,l,s,m];exact⟨_,_,_,show eG q a d 14 e r=(a.oE d (λx=>{x with atomic:=true}),0)by simp[eG],c.oE rfl l J (λx=>{x with atomic:=true})⟩
   ·obtain⟨D,ep,av,ex,aA,w,l,s,m⟩:=c.sy.g3.at (x:=me.t) (i:=d.toNat) (by simp[J]);rw[aH]at w m;subst w;simp[I,c.g1,bl,l,s,m];exact⟨_,_,_,show eG q a d 15 e r=(a.oE d (λx=>{x with atomic:=false}),0)by simp[eG],c.oE rfl l J (λx=>{x with atomic:=false})⟩
   ·have G:=kA bS g;rw[<-eU]at G;obtain⟨V,K,fC⟩:=iu G;have E:=ei (fj.1 G).1;obtain⟨B,c7,rv,rfl,U,ap⟩:=c.sy.el.get K;obtain⟨D,ep,av,ex,aA,rfl,l,s,m⟩:=c.sy.g0.at c7;have bz:=H.ez l;have gz:=(c.sy.b D (.inl rfl)).1;have ds:(1=a6.size)=False:=by have:=H.ez c.g1;simp;omega
    have gE:(D=a6.size)=False:=du;have fY:=hr V (ax K);have eR:∀o,dO rv=some o->o<a6.size:=λo u=>(ap o u).2.1;rcases g with rfl|rfl|rfl|rfl|rfl|rfl
    ·simp[I,F,c.g1,E,l,s,m];exact⟨_,_,_,show eG q a d 6 e r=(a.pO e (λj=>{j with iK:=d}),0)by simp[eG],c.pO rfl l K (λj=>{j with iK:=d}) U ap⟩
    ·simp[F,c.g1,E,l,s,m];exact⟨_,_,_,show eG q a d 7 e r=(a.pO e (λj=>{j with iK:=-1}),0)by simp[eG],c.pO rfl l K (λj=>{j with iK:=-1}) U ap⟩
    ·simp[I,F,c.g1,E,l,s,m];refine lP Ga dt ⟨V.eg,[d],rv,.arr a6.size 0 0 1 false⟩ ⟨rfl,U.mono λo u=>by rw[dP,ao (by have:=eR o u;omega)],.inr (Gr.new (ep:=0) (ver:=0) (ex:=true) (es:=[dy d]) dt),du,c.ok.cons _⟩ ?_;rintro M Z ⟨v,P,eb⟩;have eS:Nb a6 Z:=((Nb.refl c.ok).cons (dA 1 0 [dy d])).trans P;have O:=c.nb eS;have bC:=(eS.get D bz).trans l;have ef:=ff (P.get 1 (by have:=H.ez c.g1;simp;omega));simp only at v;rw[HW (eA V (ax K))]at v;have ec:∀o,dO M=some o->o<Z.size:=λo u=>by
      rcases v with rfl|g
      ·simp at u
      ·obtain⟨_,_,_,_,k,_⟩:=g.box u;exact H.ez k
     simp[E,bC,s,m,ef,dS,v.gJ.1,v.gJ.2];exact⟨_,_,_,show eG q a d 8 e r=(a.pO e (λj=>{j with eg:=lH j.eg d}),0)by simp[eG],O.pO rfl bC K (λj=>{j with eg:=lH j.eg d}) v λo u=>by
      have eP:=eb o u;simp at eP;have dn:=ec o u;exact⟨dq,dn,λB=>by simp at B;omega,λB=>by have:=(c.sy.b o (.inr (.inl B))).2;omega,λB=>by have:=(c.sy.b o (.inr (.inr B))).2;omega⟩⟩
    ·simp[I,F,c.g1,E,l,s,m];refine lP Ir dt ⟨V.eg,rv,d⟩ ⟨rfl,U,eR,fY,c.ok⟩ ?_;rintro M Z ⟨v,P,eb⟩;have O:=c.nb P;have bC:=(P.get D bz).trans l;have ef:=ff (P.get 1 (H.ez c.g1));simp only at v;have ec:∀o,dO M=some o->o<Z.size:=λo u=>by
      rcases v with rfl|g
      ·simp at u
      ·obtain⟨_,_,_,_,k,_⟩:=g.box u;exact H.ez k
     simp[E,bC,s,m,ef,dS,v.gJ.1,v.gJ.2];exact⟨_,_,_,show eG q a d 9 e r=(a.pO e (λj=>{j with eg:=j.eg.filter λM=> !decide (M=d)}),0)by simp[eG],O.pO rfl bC K (λj=>{j with eg:=j.eg.filter λM=> !decide (M=d)}) v λo u=>by
      have eP:=eb o u;have dn:=ec o u;exact⟨dq,dn,λB=>by simp at B;omega,λB=>by have:=(c.sy.b o (.inr (.inl B))).2;omega,λB=>by have:=(c.sy.b o (.inr (.inr B))).2;omega⟩⟩
    ·simp[I,F,c.g1,E,l,s,m];exact⟨_,_,_,show eG q a d 10 e r=(a.pO e (λj=>{j with iK:=d}),0)by simp[eG],c.pO rfl l K (λj=>{j with iK:=d}) U ap⟩
    ·simp[F,c.g1,E,l,s,m];exact⟨_,_,_,show eG q a d 11 e r=(a.pO e (λj=>{j with iK:=-1}),0)by simp[eG],c.pO rfl l K (λj=>{j with iK:=-1}) U ap⟩
   ·have G:=nG bS g;obtain⟨o,c6,eC⟩:=iu G;have bN:=rf eE c6;rw[<-eU]at bN;obtain⟨V,K,fC⟩:=iu bN;have E:=ei (fj.1 G).1;have e0:=ei (fj.1 bN).1;obtain⟨B,c7,rv,rfl,U,ap⟩:=c.sy.el.get K;obtain⟨D,ep,av,ex,aA,rfl,l,s,m⟩:=c.sy.g0.at c7;obtain⟨aE,eo,gp,fe,cb,w,a8,ca,de⟩:=c.sy.g3.at (x:=me.t) (i:=d.toNat) (by simp[J]);rw[aH]at w de;subst w;have bz:=H.ez l;have eB:=H.ez a8;have ds:(1=D)=False:=by have:=(c.sy.b D (.inl rfl)).1;simp;omega
    have gi:(1=aE)=False:=by have:=(c.sy.b aE (.inr (.inr rfl))).1;simp;omega
    have dv:(aE=D)=False:=by simp;rintro rfl;rw[l]at a8;simp at a8
    have eO:∀x,(cb.set d.toNat x)[d.toNat]? =some x:=λx=>by
     have:d.toNat<cb.length:=by
      rcases aD d.toNat cb.length with k|k
      ·exact k
      ·rw[aK k]at ca;simp at ca
     rw[bQ];simp[this]
    have bH:∀A,(dT a6 D A).get aE=some ⟨3,eo,gp,fe,false,cb⟩:=λA=>by rw[dI l,ao (by simpa using dv)];exact a8
    have eW:=λA z=>mB (bH A) (show 1≠aE by simpa using gi) z;have eh:=λ(f:dV->dV) (u:(f V).eg=V.eg)=>c.pO rfl l K f (rv:=rv) (by rw[u];exact U) ap;rcases g with rfl|rfl|rfl|rfl
    ·have cp:=(eh (λj=>{j with iK:=-1}) rfl).oE rfl (bH _) J (λx=>{x with iA:=3});have bn:=cp.oE (me:=(λx=>{x with iA:=3}) me) rfl ((dI (bH _) _ _).trans (aq rfl)) (i:=d.toNat) (by simp[J]) (λx=>{x with cond:=e});simp only[AS,List.set_set]at bn;simp[I,F,er,c.g1,E,e0,bl,c6,l,a8,s,ca,m,de,lY,c.ok.hp,bz,eB,ds,dv,eO,eW];exact⟨_,_,_,show eG q a d 16 e r=((a.pO o.kl λj=>{j with iK:=-1}).oE d (λx=>{x with iA:=3,cond:=e}),0)by simp[eG,eC],bn⟩
    ·have cp:=(eh (λj=>{j with iK:=d}) rfl).oE rfl (bH _) J (λx=>{x with iA:=2});have bn:=cp.oE (me:=(λx=>{x with iA:=2}) me) rfl ((dI (bH _) _ _).trans (aq rfl)) (i:=d.toNat) (by simp[J]) (λx=>{x with cond:=0});simp only[AS,List.set_set]at bn;simp[I,F,er,c.g1,E,e0,bl,c6,l,a8,s,ca,m,de,lY,c.ok.hp,bz,eB,ds,dv,eO,eW];exact⟨_,_,_,show eG q a d 17 e r=((a.pO o.kl λj=>{j with iK:=d}).oE d (λx=>{x with iA:=2,cond:=0}),0)by simp[eG,eC],bn⟩
    ·simp[F,c.g1];refine gY BC dt ⟨a,_,_,_,e⟩ ⟨rfl,c.sy.g3,ht,c.ok⟩ ?_;rintro M Z ⟨v,P,_⟩;simp only at v;have O:=c.nb P;have dk:=Bb e a.dE 0;have R:=λaX:H=>v.len (cx:=cx) aX p8 _ rfl;rw[aH]at R;simp[R];refine dW (λan=> ?_) (λan=> ?_)
     ·have bT:0<(hU e a.dE 0).length:=by simpa using an
      obtain⟨p,b6,b7⟩:=v.idx (te:=FF) rfl rfl (i:=0) (x:= dy (hU e a.dE 0)[0]) (by simp[bT]) rfl;have fs:=v.rF (f:=T.int .i64) (λ_=>by simp) (λ_=>rfl);have e8:=λ{tb:fy} (ht:tb.p 56=some Bq)=>Ps ht (hU e a.dE 0) r dq;have eF:(hU e a.dE 0).headD (-1)=(hU e a.dE 0)[0]:=by
       clear b6 b7 v R dk;generalize hU e a.dE 0=j at*
       cases j with
       |nil=>simp at bT
       |cons x j=>simp
      simp[eu,b6,b7,fs,e8];have L:∃y:Nat,xG e r a.dE=y/\y<a.dE.length:=by
       have bN:xG e r a.dE∈hU e a.dE 0:=by
        unfold xG;split
        ·assumption
        ·rw[eF];exact aF bT
       obtain⟨y,B,Q⟩:=sJ bN;exact⟨y,by simpa using B,Q⟩
      obtain⟨y,di,Q⟩:=L;refine kS (λC ae=>ae=Z/\dB C 17 (dy y)/\dB C 7 (.ptr 1 0 0 0)/\dB C 12 (.ptr 2 0 0 0)) (λan=> ?_) (λan=> ?_) ?_
      ·simp[eu];rw[<-di];unfold xG;rw[aq (by simpa using an)]
      ·simp;rw[<-di,<-eF];unfold xG;rw[ao (by simpa using an)]
      ·rintro C _ ⟨rfl,fB,Y,X⟩;obtain⟨N,L⟩:∃N,a.dE[y]? =some N:=⟨_,az Q⟩;obtain⟨e5,e9,gv,fi,gw,bB,bi,dm,fS⟩:=O.sy.g3.at (x:=N.t) (i:=y) (by simp[L]);simp at bB;obtain⟨rfl,rfl⟩:=bB;simp[Y,X,fB,O.g1,bi,dm,Q];exact⟨_,_,_,show eG q a d 18 e r=(a.oE y (kc 4),(y:Int))by
        rw[<-di];unfold eG;simp;intro u;rw[u]at bT;simp at bT,O.oE rfl bi L (kc 4)⟩
     ·have gg:hU e a.dE 0=[]:=by
       have:¬0<(hU e a.dE 0).length:=by simpa using an
       exact aY dq
      simp;exact⟨_,_,_,show eG q a d 18 e r=(a,-1)by simp[eG,gg],O⟩
    ·simp[F,c.g1];refine gY BC dt ⟨a,_,_,_,e⟩ ⟨rfl,c.sy.g3,ht,c.ok⟩ ?_;rintro M Z ⟨v,P,gn⟩;simp only at v;have O:=c.nb P;have dk:=Bb e a.dE 0;have R:=λaX:H=>v.len (cx:=cx) aX p8 _ rfl;rw[aH]at R;have eM:∀x∈hU e a.dE 0,∃y:Nat,x=y/\y<a.dE.length:=λx s=>by
      obtain⟨y,B,Q⟩:=sJ s;exact⟨y,by simpa using B,Q⟩
     have c1:=Q4 e a.dE [];simp only[List.nil_append,cT]at c1;have b9:∃j,j=hU e a.dE 0:=⟨_,rfl⟩;obtain⟨j,b9⟩:=b9;rw[<-b9]at v dk eM c1 R;simp;refine fh j.length dq (λi C h'=>Bs (.arr D ep 0 es.length false) c2 (.arr aE eo 0 a.dE.length false) h' es {a with dE:=LB a.dE (j.take i)} 1/\oS h' 1 M (gG j)/\dB C 7 (.ptr 1 0 0 0)/\dB C 12 (.ptr 2 0 0 0)/\dB C 18 M/\dB C 19 (dy i)) ?_ ?_ dq ⟨by simpa[LB]using O,v,dt⟩
     ·rintro i C h' m fE ⟨aN,ea,Y,X,cv,cy⟩;obtain⟨y,Q,eL⟩:=eM j[i] (aF m);obtain⟨N,L⟩:∃N,(LB a.dE (j.take i))[y]? =some N:=⟨_,az (by rw[Q3];exact eL)⟩;obtain⟨e5,e9,gv,fi,gw,bB,bi,dm,fS⟩:=aN.sy.g3.at (x:=N.t) (i:=y) (by simp[L]);simp at bB;obtain⟨rfl,rfl,_⟩:=bB;obtain⟨p,b6,b7⟩:=ea.idx (te:=FF) rfl rfl (i:=i) (x:= dy y) (by simp[m,Q]) rfl;have e4:=aN.oE rfl bi L (kc 4);simp[Y,X,cv,cy,R,m,b6,b7,aN.g1,bi,dm,eL,fE];refine⟨?_,ea.mono λo u=>by rw[dI bi,ao (by have:=gn o u;omega)]⟩;rw[Oj a.dE j m,Q];exact e4
     ·rintro C h' ⟨aN,ea,Y,X,cv,cy⟩;rw[aL]at aN;simp[Y,X,cv,cy,R];exact⟨_,_,_,show eG q a d 19 e r=({a with dE:=LB a.dE j},(j.length:Int))by rw[c1];simp[eG,<-b9],aN⟩
   ·have G:=v7 bS g;rw[<-eV]at G;obtain⟨N,L,gd⟩:=iu G;have E:=ei (fj.1 G).1;rcases g with rfl|rfl
    ·obtain⟨D,ep,av,ex,aA,w,l,s,m⟩:=c.sy.g3.at (x:=N.t) (i:=e.toNat) (by simp[L]);rw[aH]at w m;subst w;simp[F,c.g1,E,l,s,m];exact⟨_,_,_,show eG q a d 20 e r=(a.oE e (kc 1),0)by simp[eG],c.oE rfl l L (kc 1)⟩
    ·simp;exact⟨_,_,_,show eG q a d 21 e r=(a,0)by simp[eG],c⟩
   ·have G:=qz bS g;rw[<-gm]at G;obtain⟨N,L,gd⟩:=iu G;have E:=ei (fj.1 G).1;rcases g with rfl|rfl
    ·obtain⟨D,ep,av,ex,aA,w,l,s,m⟩:=c.sy.g2.at (x:= .bool N) (i:=e.toNat) (by simp[L]);rw[aH]at w m;subst w;simp[F,c.g1,E,l,s,m];exact⟨_,_,_,show eG q a d 22 e r=({a with done:=a.done.set e.toNat true},0)by simp[eG],c.WE rfl l e.toNat true⟩
    ·simp;exact⟨_,_,_,show eG q a d 23 e r=(a,0)by simp[eG],c⟩
  ·rintro C ae ⟨n,⟨S,fb,ver,fL,W⟩,Y,X,fA⟩;obtain⟨gI,gM,gP⟩:=W.sy.fz;have fv:∀A,(dT ae 2 A).get 2=some A:=λA=>(dI W.g2 A _).trans (aq rfl);have ce:∀A,AJ 3 ae.size (dT ae 2 A) c0 c2 c3 fb S:=λA=>W.sy.mono (au _) λo u _=>by rw[dI W.g2,ao dq]
   have fl:=λA=>(ce A).fz.1;have fm:=λA=>(ce A).fz.2.1;have fo:=λA=>(ce A).fz.2.2;simp[Y,X,fA,W.g1,W.g2,fv,dS,fl,fm,fo,fL,W.ok.hp]
end
end Go.Proofs.YtmaeadedikngoaaGreatDoor
