/- Texts W08h to W08h. -/
import Derived.Test.YtmaeadedikngoaaGreatDoorA17
set_option linter.all false
set_option maxRecDepth 100000
set_option maxHeartbeats 8000000
namespace Go.Proofs.YtmaeadedikngoaaGreatDoor
noncomputable section
open Go Go.TI
attribute [-simp] List.map_take List.map_drop List.map_append fG fg ei Bool.not_or Bool.not_and
attribute [simp] fF fh
attribute [-simp] size_cons
def tI{e d:Int}:∀{b:List dN} {c:Nat},d∈iz e b c->∃a:Nat,d=((c+a:Nat):Int)/\a<b.length:=by
 intro b;induction b with
 |nil=>intro c h;simp[iz]at h
 |cons k b j=>
  intro c h;rw[iz]at h;have f:d∈iz e b (c+1)->∃a:Nat,d=((c+a:Nat):Int)/\a<(k::b).length:=λh=>by
   obtain⟨a,g,i⟩:=j h;exact⟨a+1,by rw[g];simp;omega,by simpa using i⟩
  split at h
  ·rcases List.mem_cons.1 h with rfl|h
   ·exact⟨0,dA,dA⟩
   ·exact f h
  ·exact f h
def BQ(c:Int):∀(a:List dN) (b:Nat),(iz c a b).length<=a.length:=by
 intro a;induction a with
 |nil=>intro b;simp[iz]
 |cons e a d=>intro b;rw[iz];have:=d (b+1);split<;>simp<;>omega
def MR(T:List dN)(b:List Int):List dN:=b.foldl (λT (a:Int)=>T.modify a.toNat (kz 4)) T
def Sw(g:Int):∀(c b:List dN),MR (b++c) (iz g c b.length)=b++c.map λe=>if e.iL=3/\e.cond=g then kz 4 e else e:=by
 intro c;induction c with
 |nil=>intro b;simp[iz,MR]
 |cons d c i=>
  intro b;rw[iz];split
  ·rename_i f;unfold MR;rw[List.foldl_cons];have j:(b++d::c).modify ((b.length:Int).toNat) (kz 4)=(b++[kz 4 d])++c:=by
    rw[oq (a:=d) dA];simp
   rw[j];have:=i (b++[kz 4 d]);simp only[aT,bj,cY]at this;unfold MR at this;rw[this];simp[f]
  ·rename_i f;have:=i (b++[d]);simp only[aT,bj,cY]at this;simp only[aI,List.singleton_append]at this;rw[this];simp[f]
def Sv(a:List Int):∀T,(MR T a).length=T.length:=by
 induction a with
 |nil=>intro T;rfl
 |cons c a b=>intro T;show(MR (T.modify c.toNat (kz 4)) a).length=_;rw[b];simp
def PF(T:List dN)(b:List Int){a:Nat}(c:a<b.length):MR T (b.take (a+1))=(MR T (b.take a)).modify b[a].toNat (kz 4):=by
 rw[aZ c];unfold MR;rw[List.foldl_append];rfl
def Bu{c:Type}(b:List c)(a:Nat)(d e:c->c):(b.modify a d).modify a e=b.modify a λi=>e (d i):=by
 apply cZ;intro f;simp only[List.getElem?_modify];by_cases g:a=f
 ·simp[g];cases b[f]? <;>rfl
 ·simp[g]
structure Bs(c0 c2 c3:T)(h:H)(es:List T)(S:fH)(ver:Nat):Prop where
 sy:Bk 3 h.size h c0 c2 c3 es S
 ok:ig 0 h
 g1:h.get 1=some (dG 4 ver [.agg [c0,dE S.tx,c2,c3]])
 g2:h.get 2=some (dG 4 0 [.agg [dF,dE 0,dF,dF]])
section
variable {c0 c2 c3:T}{h h':H}{es:List T}{S:fH}{ver:Nat}
def Bs.nb(b:Bs c0 c2 c3 h es S ver)(a:Nb h h'):Bs c0 c2 c3 h' es S ver:=
 ⟨b.sy.mono a.ok.sz λc _ d=>a.get c d,⟨a.ok.hp,a.ok.low,aw _⟩,(a.get _ (H.ew b.g1)).trans b.g1,(a.get _ (H.ew b.g2)).trans b.g2⟩
def Bs.put(d:Bs c0 c2 c3 h es S ver){a:Nat}{x:iZ}(f:h.get a=some x)(j:3<=a){g:iZ}{e:List T}{b:fH}(i:Bk 3 h.size (dY h a g) c0 c2 c3 e b)(ht:b.tx=S.tx):Bs c0 c2 c3 (dY h a g) e b ver:=
 ⟨by rw[fU];exact i,d.ok.put _ _,by rw[dP f,ao dz,ht];exact d.g1,by rw[dP f,ao dz];exact d.g2⟩
def Bs.ph(c:Bs c0 c2 c3 h es S ver){a e k:Nat}{f:Bool}{l:List T}(g:dS c3=some a)(j:h.get a=some ⟨3,e,k,f,false,l⟩){i:Nat}{me:dN}(m:S.dK[i]? =some me)(d:dN->dN):
 Bs c0 c2 c3 (dY h a ⟨3,e,k+1,f,false,l.set i (d me).t⟩) es {S with dK:=S.dK.modify i d} ver:=by
 have:=c.put j (c.sy.b a (.inr (.inr g))).1 (c.sy.ph g j i (d me)) rfl;rw[oq m];exact this
def Bs.qv(g:Bs c0 c2 c3 h es S ver){d i m:Nat}{j:Bool}{n:List T}(k:dS c0=some d)(l:h.get d=some ⟨2,i,m,j,false,n⟩){c:Nat}{f:ed}(hl:S.em[c]? =some f)(e:ed->ed){rv:T}(hr:oG h 1 rv (gF (e f).eJ))(o:∀a,dS rv=some a->3<=a/\a<h.size/\dS c0≠some a/\dS c2≠some a/\dS c3≠some a):
 Bs c0 c2 c3 (dY h d ⟨2,i,m+1,j,false,n.set c (.agg [dE (e f).iX,rv])⟩) (es.set c (.agg [dE (e f).iX,rv])) {S with em:=S.em.modify c e} ver:=by
 have:=g.put l (g.sy.b d (.inl k)).1 (g.sy.qv k l c hr o) rfl;rw[oq hl];exact this
def Bs.Yo(c:Bs c0 c2 c3 h es S ver){a f k:Nat}{g:Bool}{l:List T}(i:dS c2=some a)(j:h.get a=some ⟨1,f,k,g,false,l⟩)(d:Nat)(e:Bool):Bs c0 c2 c3 (dY h a ⟨1,f,k+1,g,false,l.set d (.bool e)⟩) es {S with done:=S.done.set d e} ver:=
 c.put j (c.sy.b a (.inr (.inl i))).1 (c.sy.Yo i j d e) rfl
def Bs.tx(a:Bs c0 c2 c3 h es S ver)(b:Int):Bs c0 c2 c3 (dY h 1 (dG 4 (ver+1) [.agg [c0,dE b,c2,c3]])) es {S with tx:=b} (ver+1):=
 ⟨by rw[fU];exact(a.sy.tx b).mono (au _) λc d _=>by rw[dP a.g1,ao dz],a.ok.put _ _,by rw[dP a.g1,aq rfl],by rw[dP a.g1,ao dz];exact a.g2⟩
end
structure ApJ(w:d8)(s:fH)(t k o wk:Int)(c0 c2 c3:T)(h:H)(n:Int):Prop where
 ex:∃S es ver,ff w s t k o wk=(S,n)/\Bs c0 c2 c3 h es S ver
def Ve:fH:=⟨[],0,[],[]⟩
def yc(a:d8×fH×Int×Int×Int×Int):T:=if jR a.1 a.2.1 a.2.2.1 a.2.2.2.1 a.2.2.2.2.1=true then .tuple [(ff a.1 a.2.1 a.2.2.1 a.2.2.2.1 a.2.2.2.2.1 a.2.2.2.2.2).1.t,dE (ff a.1 a.2.1 a.2.2.1 a.2.2.2.1 a.2.2.2.2.1 a.2.2.2.2.2).2,.bool true]else .tuple [Ve.t,dE 0,.bool false]
def NW(a:fH):Prop:=a.em.length<=1000000/\a.done.length<=1000000/\a.dK.length<=1000000/\(∀b∈a.em,b.eJ.length<=1000000)/\a.E4
def tj:hU:=⟨d8×fH×Int×Int×Int×Int,λa=>[a.1.t,a.2.1.t,dE a.2.2.1,dE a.2.2.2.1,dE a.2.2.2.2.1,dE a.2.2.2.2.2],λa=>a.1.gW.length<=1099511627776/\NW a.2.1,yc,λa b h=>by
 obtain⟨a1,a2,a3,a4,a5,c⟩:=a;obtain⟨d,e,f,g,i,j⟩:=b;simp at h;rw[d8.inj h.1,fH.inj h.2.1,h.2.2.1,h.2.2.2.1,h.2.2.2.2.1,h.2.2.2.2.2]⟩
def EH:tj.Ok Tryz.prog cx 107:=by
 refine iv (tb:=⟨pt [(104,og),(56,Ba)],ht [(154,jw fH Es Jq),(155,jw IUn Oj Jl),(156,jw IWo Uq Ow),(153,jw IWt Up Ov)]⟩) fa eQ (iR 829180818552508142370930303613581122868418894632663968482586879 [(17,[(1,11)]),(19,[(1,10)]),(30,[(4,9)]),(33,[(4,8)])] Tryz.func107) (λ_=>1000005) (by simp[tj]) (by simp[tj,Tryz.f107]) ?_;rintro⟨q,a,d,k,e,r⟩ ⟨c4,hl,eD,ht,hr,eA⟩ C ey;simp at c4 hl eD ht hr eA;simp[tj,yc]at ey|-;obtain⟨et,aX,I,cX,F,eu⟩:=ey;have eN:a.sm:=⟨dz,dz,dz,λj u=>by have:=hr j u;omega⟩;cases c9:jR q a d k e with
 |false=>
  simp[Tryz.f107,et,aX,I,cX,F,x6,c4,eN,c9];rfl
 |true=>
  have dd:=c9;unfold jR at dd;simp only[aB]at dd;obtain⟨⟨⟨eE,eH⟩,bS⟩,_⟩:=dd;obtain⟨eU,gv,eV⟩:=oD eE;simp[Tryz.f107,et,aX,I,cX,F,x6,c4,eN,c9];generalize a7:((hE.cons _).cons _).cons _=bu;have gp:ig 0 bu:=by rw[<-a7];exact⟨dA,dA,dA⟩
  have gE:bu.size=3:=by rw[<-a7];rfl
  have e4:bu.get 0=some (dG 6 0 [q.t]):=by rw[<-a7];simp
  have e5:bu.get 1=some (dG 4 0 [a.t]):=by rw[<-a7];simp
  have e6:bu.get 2=some (dG 4 0 [.agg [dF,dE 0,dF,dF]]):=by rw[<-a7];simp
  clear a7;refine iq HC dA a ⟨rfl,gp,hl,eD,ht,hr⟩ ?_;rintro _ b7 ⟨c0,c2,c3,es,rfl,eX,bk⟩;rw[gE]at eX;have gX:=bk.ok.sz;have gn:ig 0 b7:=⟨bk.ok.hp,bk.ok.low,aw _⟩;have bs:=(bk.get 1 dz).trans e5;have e9:=(bk.get 0 dz).trans e4;have fb:=(bk.get 2 dz).trans e6;have c:Bs c0 c2 c3 (dY b7 1 (dG 4 1 [.agg [c0,dE a.tx,c2,c3]])) es a 1:=⟨by rw[fU];exact eX.mono (au _) λo u _=>by rw[dP bs,ao dz],gn.put _ _,by rw[dP bs,aq rfl],by rw[dP bs,ao dz];exact fb⟩;have er:(dY b7 1 (dG 4 1 [.agg [c0,dE a.tx,c2,c3]])).get 0=some (dG 6 0 [q.t]):=by rw[dP bs,ao dz];exact e9
  simp[NR,bs,cX];generalize dY b7 1 _=a6 at*
  have eI:=eH;rw[<-eV]at eI;obtain⟨me,J,gM⟩:=iI eI;have bn:=eK (fq.1 eH).1;refine ll (λC ae=>∃n,ApJ q a d k e r c0 c2 c3 ae n/\dH C 7 (.ptr 1 0 0 0)/\dH C 12 (.ptr 2 0 0 0)/\dH C 15 (dE n)) (λal=> ?_) (λal=> ?_) ?_
  ·have al:k=1:=by simpa using al
   subst al
   ·obtain⟨D,ep,av,ex,aA,w,l,s,m⟩:=c.sy.g3.at (x:=me.t) (i:=d.toNat) (by simp[J]);rw[aG]at w m;subst w;simp[I,c.g1,bn,l,s,m];exact⟨_,_,_,show ff q a d 1 e r=(a.ph d (kz 2),0)by simp[ff],c.ph rfl l J (kz 2)⟩
  ·have al:¬k=1:=by simpa using al
   rcases uc bS with g|rfl|rfl|rfl|rfl|rfl|rfl|rfl|rfl|g|g|g|g
   ·exact absurd g al
   ·obtain⟨D,ep,av,ex,aA,w,l,s,m⟩:=c.sy.g3.at (x:=me.t) (i:=d.toNat) (by simp[J]);rw[aG]at w m;subst w;simp[I,c.g1,bn,l,s,m];exact⟨_,_,_,show ff q a d 2 e r=(a.ph d (kz 5),0)by simp[ff],c.ph rfl l J (kz 5)⟩
   ·simp;exact⟨_,_,_,show ff q a d 3 e r=(a,0)by simp[ff],c⟩
   ·simp;exact⟨_,_,_,show ff q a d 4 e r=(a,0)by simp[ff],c⟩
   ·simp;exact⟨_,_,_,show ff q a d 5 e r=(a,0)by simp[ff],c⟩
   ·simp[I,c.g1,dZ];exact⟨_,_,_,show ff q a d 12 e r=({a with tx:=d},0)by simp[ff],c.tx d⟩
   ·simp[c.g1,dZ];exact⟨_,_,_,show ff q a d 13 e r=({a with tx:=-1},0)by simp[ff],c.tx (-1)⟩
   ·obtain⟨D,ep,av,ex,aA,w,l,s,m⟩:=c.sy.g3.at (x:=me.t) (i:=d.toNat) (by simp[J]);rw[aG]at w m;subst w;simp[I,c.g1,bn,l,s,m];exact⟨_,_,_,show ff q a d 14 e r=(a.ph d (λx=>{x with atomic:=true}),0)by simp[ff],c.ph rfl l J (λx=>{x with atomic:=true})⟩
   ·obtain⟨D,ep,av,ex,aA,w,l,s,m⟩:=c.sy.g3.at (x:=me.t) (i:=d.toNat) (by simp[J]);rw[aG]at w m;subst w;simp[I,c.g1,bn,l,s,m];exact⟨_,_,_,show ff q a d 15 e r=(a.ph d (λx=>{x with atomic:=false}),0)by simp[ff],c.ph rfl l J (λx=>{x with atomic:=false})⟩
   ·have G:=kV bS g;rw[<-eU]at G;obtain⟨V,K,fX⟩:=iI G;have E:=eK (fq.1 G).1;obtain⟨B,c7,rv,rfl,U,ap⟩:=c.sy.el.get K;obtain⟨D,ep,av,ex,aA,rfl,l,s,m⟩:=c.sy.g0.at c7;have bz:=H.ew l;have gI:=(c.sy.b D (.inl rfl)).1;have ds:(1=a6.size)=False:=by have:=H.ew c.g1;simp;omega
    have gP:(D=a6.size)=False:=dB;have gi:=hr V (ax K);have eR:∀o,dS rv=some o->o<a6.size:=λo u=>(ap o u).2.1;rcases g with rfl|rfl|rfl|rfl|rfl|rfl
    ·simp[I,F,c.g1,E,l,s,m];exact⟨_,_,_,show ff q a d 6 e r=(a.qv e (λj=>{j with iX:=d}),0)by simp[ff],c.qv rfl l K (λj=>{j with iX:=d}) U ap⟩
    ·simp[F,c.g1,E,l,s,m];exact⟨_,_,_,show ff q a d 7 e r=(a.qv e (λj=>{j with iX:=-1}),0)by simp[ff],c.qv rfl l K (λj=>{j with iX:=-1}) U ap⟩
    ·simp[I,F,c.g1,E,l,s,m];refine li Ho dA ⟨V.eJ,[d],rv,.arr a6.size 0 0 1 false⟩ ⟨rfl,U.mono λo u=>by rw[dV,ao (by have:=eR o u;omega)],.inr (Gr.new (ep:=0) (ver:=0) (ex:=true) (es:=[dE d]) dA),dB,c.ok.cons _⟩ ?_;rintro M Z ⟨v,P,eb⟩;have eS:Nb a6 Z:=((Nb.refl c.ok).cons (dG 1 0 [dE d])).trans P;have O:=c.nb eS;have bC:=(eS.get D bz).trans l;have ef:=fk (P.get 1 (by have:=H.ew c.g1;simp;omega));simp only at v;rw[IX (eA V (ax K))]at v;have ec:∀o,dS M=some o->o<Z.size:=λo u=>by
      rcases v with rfl|g
      ·simp at u
      ·obtain⟨_,_,_,_,k,_⟩:=g.box u;exact H.ew k
     simp[E,bC,s,m,ef,dZ,v.il.1,v.il.2];exact⟨_,_,_,show ff q a d 8 e r=(a.qv e (λj=>{j with eJ:=mf j.eJ d}),0)by simp[ff],O.qv rfl bC K (λj=>{j with eJ:=mf j.eJ d}) v λo u=>by
      have eP:=eb o u;simp at eP;have dn:=ec o u;exact⟨dz,dn,λB=>by simp at B;omega,λB=>by have:=(c.sy.b o (.inr (.inl B))).2;omega,λB=>by have:=(c.sy.b o (.inr (.inr B))).2;omega⟩⟩
    ·simp[I,F,c.g1,E,l,s,m];refine li Jv dA ⟨V.eJ,rv,d⟩ ⟨rfl,U,eR,gi,c.ok⟩ ?_;rintro M Z ⟨v,P,eb⟩;have O:=c.nb P;have bC:=(P.get D bz).trans l;have ef:=fk (P.get 1 (H.ew c.g1));simp only at v;have ec:∀o,dS M=some o->o<Z.size:=λo u=>by
      rcases v with rfl|g
      ·simp at u
      ·obtain⟨_,_,_,_,k,_⟩:=g.box u;exact H.ew k
     simp[E,bC,s,m,ef,dZ,v.il.1,v.il.2];exact⟨_,_,_,show ff q a d 9 e r=(a.qv e (λj=>{j with eJ:=j.eJ.filter λM=> !decide (M=d)}),0)by simp[ff],O.qv rfl bC K (λj=>{j with eJ:=j.eJ.filter λM=> !decide (M=d)}) v λo u=>by
      have eP:=eb o u;have dn:=ec o u;exact⟨dz,dn,λB=>by simp at B;omega,λB=>by have:=(c.sy.b o (.inr (.inl B))).2;omega,λB=>by have:=(c.sy.b o (.inr (.inr B))).2;omega⟩⟩
    ·simp[I,F,c.g1,E,l,s,m];exact⟨_,_,_,show ff q a d 10 e r=(a.qv e (λj=>{j with iX:=d}),0)by simp[ff],c.qv rfl l K (λj=>{j with iX:=d}) U ap⟩
    ·simp[F,c.g1,E,l,s,m];exact⟨_,_,_,show ff q a d 11 e r=(a.qv e (λj=>{j with iX:=-1}),0)by simp[ff],c.qv rfl l K (λj=>{j with iX:=-1}) U ap⟩
   ·have G:=oo bS g;obtain⟨o,c6,eC⟩:=iI G;have bN:=r7 eE c6;rw[<-eU]at bN;obtain⟨V,K,fX⟩:=iI bN;have E:=eK (fq.1 G).1;have e0:=eK (fq.1 bN).1;obtain⟨B,c7,rv,rfl,U,ap⟩:=c.sy.el.get K;obtain⟨D,ep,av,ex,aA,rfl,l,s,m⟩:=c.sy.g0.at c7;obtain⟨aE,eo,gy,fo,ca,w,a8,b9,de⟩:=c.sy.g3.at (x:=me.t) (i:=d.toNat) (by simp[J]);rw[aG]at w de;subst w;have bz:=H.ew l;have eB:=H.ew a8;have ds:(1=D)=False:=by have:=(c.sy.b D (.inl rfl)).1;simp;omega
    have gm:(1=aE)=False:=by have:=(c.sy.b aE (.inr (.inr rfl))).1;simp;omega
    have dv:(aE=D)=False:=by simp;rintro rfl;rw[l]at a8;simp at a8
    have eO:∀x,(ca.set d.toNat x)[d.toNat]? =some x:=λx=>by
     have:d.toNat<ca.length:=by
      rcases aF d.toNat ca.length with k|k
      ·exact k
      ·rw[aM k]at b9;simp at b9
     rw[bW];simp[this]
    have bH:∀A,(dY a6 D A).get aE=some ⟨3,eo,gy,fo,false,ca⟩:=λA=>by rw[dP l,ao (by simpa using dv)];exact a8
    have eW:=λA z=>mW (bH A) (show 1≠aE by simpa using gm) z;have eh:=λ(f:ed->ed) (u:(f V).eJ=V.eJ)=>c.qv rfl l K f (rv:=rv) (by rw[u];exact U) ap;rcases g with rfl|rfl|rfl|rfl
    ·have ce:=(eh (λj=>{j with iX:=-1}) rfl).ph rfl (bH _) J (λx=>{x with iL:=3});have bp:=ce.ph (me:=(λx=>{x with iL:=3}) me) rfl ((dP (bH _) _ _).trans (aq rfl)) (i:=d.toNat) (by simp[J]) (λx=>{x with cond:=e});simp only[Bu,List.set_set]at bp;simp[I,F,er,c.g1,E,e0,bn,c6,l,a8,s,b9,m,de,mM,c.ok.hp,bz,eB,ds,dv,eO,eW];exact⟨_,_,_,show ff q a d 16 e r=((a.qv o.kJ λj=>{j with iX:=-1}).ph d (λx=>{x with iL:=3,cond:=e}),0)by simp[ff,eC],bp⟩
    ·have ce:=(eh (λj=>{j with iX:=d}) rfl).ph rfl (bH _) J (λx=>{x with iL:=2});have bp:=ce.ph (me:=(λx=>{x with iL:=2}) me) rfl ((dP (bH _) _ _).trans (aq rfl)) (i:=d.toNat) (by simp[J]) (λx=>{x with cond:=0});simp only[Bu,List.set_set]at bp;simp[I,F,er,c.g1,E,e0,bn,c6,l,a8,s,b9,m,de,mM,c.ok.hp,bz,eB,ds,dv,eO,eW];exact⟨_,_,_,show ff q a d 17 e r=((a.qv o.kJ λj=>{j with iX:=d}).ph d (λx=>{x with iL:=2,cond:=0}),0)by simp[ff,eC],bp⟩
    ·simp[F,c.g1];refine iq Cj dA ⟨a,_,_,_,e⟩ ⟨rfl,c.sy.g3,ht,c.ok⟩ ?_;rintro M Z ⟨v,P,_⟩;simp only at v;have O:=c.nb P;have dk:=BQ e a.dK 0;have R:=λaX:H=>v.len (cx:=cx) aX nH _ rfl;rw[aG]at R;simp[R];refine ee (λan=> ?_) (λan=> ?_)
     ·have bT:0<(iz e a.dK 0).length:=by simpa using an
      obtain⟨p,bX,b6⟩:=v.idx (te:=Dw) rfl rfl (i:=0) (x:= dE (iz e a.dK 0)[0]) (by simp[bT]) rfl;have fC:=v.qJ (f:=T.int .i64) (λ_=>by simp) (λ_=>rfl);have fe:=λ{tb:fJ} (ht:tb.p 56=some Ba)=>Nj ht (iz e a.dK 0) r dz;have eF:(iz e a.dK 0).headD (-1)=(iz e a.dK 0)[0]:=by
       clear bX b6 v R dk;generalize iz e a.dK 0=j at*
       cases j with
       |nil=>simp at bT
       |cons x j=>simp
      simp[eu,bX,b6,fC,fe];have L:∃y:Nat,yj e r a.dK=y/\y<a.dK.length:=by
       have bN:yj e r a.dK∈iz e a.dK 0:=by
        unfold yj;split
        ·assumption
        ·rw[eF];exact aC bT
       obtain⟨y,B,Q⟩:=tI bN;exact⟨y,by simpa using B,Q⟩
      obtain⟨y,di,Q⟩:=L;refine ll (λC ae=>ae=Z/\dH C 17 (dE y)/\dH C 7 (.ptr 1 0 0 0)/\dH C 12 (.ptr 2 0 0 0)) (λan=> ?_) (λan=> ?_) ?_
      ·simp[eu];rw[<-di];unfold yj;rw[aq (by simpa using an)]
      ·simp;rw[<-di,<-eF];unfold yj;rw[ao (by simpa using an)]
      ·rintro C _ ⟨rfl,fS,Y,X⟩;obtain⟨N,L⟩:∃N,a.dK[y]? =some N:=⟨_,az Q⟩;obtain⟨e8,fi,gz,fs,gB,bB,bi,dm,gg⟩:=O.sy.g3.at (x:=N.t) (i:=y) (by simp[L]);simp at bB;obtain⟨rfl,rfl⟩:=bB;simp[Y,X,fS,O.g1,bi,dm,Q];exact⟨_,_,_,show ff q a d 18 e r=(a.ph y (kz 4),(y:Int))by
        rw[<-di];unfold ff;simp;intro u;rw[u]at bT;simp at bT,O.ph rfl bi L (kz 4)⟩
     ·have gk:iz e a.dK 0=[]:=by
       have:¬0<(iz e a.dK 0).length:=by simpa using an
       exact bm dz
      simp;exact⟨_,_,_,show ff q a d 18 e r=(a,-1)by simp[ff,gk],O⟩
    ·simp[F,c.g1];refine iq Cj dA ⟨a,_,_,_,e⟩ ⟨rfl,c.sy.g3,ht,c.ok⟩ ?_;rintro M Z ⟨v,P,gw⟩;simp only at v;have O:=c.nb P;have dk:=BQ e a.dK 0;have R:=λaX:H=>v.len (cx:=cx) aX nH _ rfl;rw[aG]at R;have eM:∀x∈iz e a.dK 0,∃y:Nat,x=y/\y<a.dK.length:=λx s=>by
      obtain⟨y,B,Q⟩:=tI s;exact⟨y,by simpa using B,Q⟩
     have c1:=Sw e a.dK [];simp only[cD,cY]at c1;have b8:∃j,j=iz e a.dK 0:=⟨_,rfl⟩;obtain⟨j,b8⟩:=b8;rw[<-b8]at v dk eM c1 R;simp;refine fy j.length dz (λi C h'=>Bs (.arr D ep 0 es.length false) c2 (.arr aE eo 0 a.dK.length false) h' es {a with dK:=MR a.dK (j.take i)} 1/\oG h' 1 M (gF j)/\dH C 7 (.ptr 1 0 0 0)/\dH C 12 (.ptr 2 0 0 0)/\dH C 18 M/\dH C 19 (dE i)) ?_ ?_ dz ⟨by simpa[MR]using O,v,dA⟩
     ·rintro i C h' m fY ⟨aN,ea,Y,X,cp,cL⟩;obtain⟨y,Q,eL⟩:=eM j[i] (aC m);obtain⟨N,L⟩:∃N,(MR a.dK (j.take i))[y]? =some N:=⟨_,az (by rw[Sv];exact eL)⟩;obtain⟨e8,fi,gz,fs,gB,bB,bi,dm,gg⟩:=aN.sy.g3.at (x:=N.t) (i:=y) (by simp[L]);simp at bB;obtain⟨rfl,rfl,_⟩:=bB;obtain⟨p,bX,b6⟩:=ea.idx (te:=Dw) rfl rfl (i:=i) (x:= dE y) (by simp[m,Q]) rfl;have e7:=aN.ph rfl bi L (kz 4);simp[Y,X,cp,cL,R,m,bX,b6,aN.g1,bi,dm,eL,fY];refine⟨?_,ea.mono λo u=>by rw[dP bi,ao (by have:=gw o u;omega)]⟩;rw[PF a.dK j m,Q];exact e7
     ·rintro C h' ⟨aN,ea,Y,X,cp,cL⟩;rw[aO]at aN;simp[Y,X,cp,cL,R];exact⟨_,_,_,show ff q a d 19 e r=({a with dK:=MR a.dK j},(j.length:Int))by rw[c1];simp[ff,<-b8],aN⟩
   ·have G:=wG bS g;rw[<-eV]at G;obtain⟨N,L,gj⟩:=iI G;have E:=eK (fq.1 G).1;rcases g with rfl|rfl
    ·obtain⟨D,ep,av,ex,aA,w,l,s,m⟩:=c.sy.g3.at (x:=N.t) (i:=e.toNat) (by simp[L]);rw[aG]at w m;subst w;simp[F,c.g1,E,l,s,m];exact⟨_,_,_,show ff q a d 20 e r=(a.ph e (kz 1),0)by simp[ff],c.ph rfl l L (kz 1)⟩
    ·simp;exact⟨_,_,_,show ff q a d 21 e r=(a,0)by simp[ff],c⟩
   ·have G:=rx bS g;rw[<-gv]at G;obtain⟨N,L,gj⟩:=iI G;have E:=eK (fq.1 G).1;rcases g with rfl|rfl
    ·obtain⟨D,ep,av,ex,aA,w,l,s,m⟩:=c.sy.g2.at (x:= .bool N) (i:=e.toNat) (by simp[L]);rw[aG]at w m;subst w;simp[F,c.g1,E,l,s,m];exact⟨_,_,_,show ff q a d 22 e r=({a with done:=a.done.set e.toNat true},0)by simp[ff],c.Yo rfl l e.toNat true⟩
    ·simp;exact⟨_,_,_,show ff q a d 23 e r=(a,0)by simp[ff],c⟩
  ·rintro C ae ⟨n,⟨S,fl,ver,gd,W⟩,Y,X,fL⟩;obtain⟨gQ,gS,gV⟩:=W.sy.fz;have fE:∀A,(dY ae 2 A).get 2=some A:=λA=>(dP W.g2 A _).trans (aq rfl);have cb:∀A,Bk 3 ae.size (dY ae 2 A) c0 c2 c3 fl S:=λA=>W.sy.mono (au _) λo u _=>by rw[dP W.g2,ao dz]
   have fv:=λA=>(cb A).fz.1;have fA:=λA=>(cb A).fz.2.1;have fB:=λA=>(cb A).fz.2.2;simp[Y,X,fL,W.g1,W.g2,fE,dZ,fv,fA,fB,gd,W.ok.hp]
end
end Go.Proofs.YtmaeadedikngoaaGreatDoor
