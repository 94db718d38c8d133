/- Texts W08h to W08h. -/
import Derived.Test.YtmaeadedikngoaaGreatDoorA22
set_option linter.unusedVariables false
set_option linter.unusedSimpArgs false
set_option maxRecDepth 100000
set_option maxHeartbeats 8000000
namespace Go.Proofs.YtmaeadedikngoaaGreatDoor
noncomputable section
open Go Go.TI
attribute [-simp] List.map_take List.map_drop List.map_append fi ei dT Bool.not_or Bool.not_and
attribute [simp] fh ew
attribute [-simp] size_cons
theorem rV{e d:Int}:∀{b:List dx} {c:Nat},d∈gu e b c->∃a:Nat,d=((c+a:Nat):Int)/\a<b.length:=by
 intro b
 induction b with
 |nil=>intro c h;simp[gu]at h
 |cons k b j=>
  intro c h
  rw[gu]at h
  have f:d∈gu e b (c+1)->∃a:Nat,d=((c+a:Nat):Int)/\a<(k::b).length:=λh=>by
   obtain⟨a,g,i⟩:=j h
   exact⟨a+1,by rw[g];simp;omega,by simpa using i⟩
  split at h
  ·rcases List.mem_cons.1 h with rfl|h
   ·exact⟨0,by simp,by simp⟩
   ·exact f h
  ·exact f h
theorem Av(c:Int):∀(a:List dx) (b:Nat),(gu c a b).length<=a.length:=by
 intro a
 induction a with
 |nil=>intro b;simp[gu]
 |cons e a d=>intro b;rw[gu];have:=d (b+1);split<;>simp<;>omega
def KS(T:List dx)(b:List Int):List dx:=b.foldl (λT (a:Int)=>T.modify a.toNat (j1 4)) T
theorem PZ(g:Int):∀(c b:List dx),KS (b++c) (gu g c b.length)=b++c.map λe=>if e.im=3/\e.cond=g then j1 4 e else e:=by
 intro c
 induction c with
 |nil=>intro b;simp[gu,KS]
 |cons d c i=>
  intro b
  rw[gu]
  split
  ·rename_i f
   unfold KS
   rw[List.foldl_cons]
   have j:(b++d::c).modify ((b.length:Int).toNat) (j1 4)=(b++[j1 4 d])++c:=by
    rw[ng (a:=d) (by simp)]
    simp
   rw[j]
   have:=i (b++[j1 4 d])
   simp only[aP,aZ,cP]at this
   unfold KS at this
   rw[this];simp[f]
  ·rename_i f
   have:=i (b++[d])
   simp only[aP,aZ,cP]at this
   simp only[aI,List.singleton_append]at this
   rw[this];simp[f]
theorem PY(a:List Int):∀T,(KS T a).length=T.length:=by
 induction a with
 |nil=>intro T;rfl
 |cons c a b=>intro T;show(KS (T.modify c.toNat (j1 4)) a).length=_;rw[b];simp
theorem Nk(T:List dx)(b:List Int){a:Nat}(c:a<b.length):KS T (b.take (a+1))=(KS T (b.take a)).modify b[a].toNat (j1 4):=by
 rw[bj c];unfold KS;rw[List.foldl_append];rfl
theorem Ab{c:Type}(b:List c)(a:Nat)(d e:c->c):(b.modify a d).modify a e=b.modify a λi=>e (d i):=by
 apply cV
 intro f
 simp only[List.getElem?_modify]
 by_cases g:a=f
 ·simp[g];cases b[f]? <;>rfl
 ·simp[g]
structure Bs(c0 c2 c3:T)(h:H)(es:List T)(S:ej)(ver:Nat):Prop where
 sy:zO 3 h.size h c0 c2 c3 es S
 ok:gh 0 h
 g1:h.get 1=some ⟨4,0,ver,true,false,[.agg [c0,.int .i64 S.tx,c2,c3]]⟩
 g2:h.get 2=some ⟨4,0,0,true,false,[.agg [.dq [] false,.int .i64 0,.dq [] false,.dq [] false]]⟩
section
variable {c0 c2 c3:T}{h h':H}{es:List T}{S:ej}{ver:Nat}
theorem Bs.nb(b:Bs c0 c2 c3 h es S ver)(a:Nb h h'):Bs c0 c2 c3 h' es S ver:=
 ⟨b.sy.mono a.ok.sz λc _ d=>a.get c d,⟨a.ok.hp,a.ok.low,aw _⟩,(a.get _ (H.dL b.g1)).trans b.g1,(a.get _ (H.dL b.g2)).trans b.g2⟩
theorem Bs.put(c:Bs c0 c2 c3 h es S ver){a:Nat}{x:iE}(e:h.get a=some x)(i:3<=a){f:iE}{d:List T}{b:ej}(g:zO 3 h.size (dI h a f) c0 c2 c3 d b)(ht:b.tx=S.tx):Bs c0 c2 c3 (dI h a f) d b ver:=
 ⟨by rw[fc];exact g,c.ok.put _ _,by rw[dy e,ao (by omega),ht];exact c.g1,by rw[dy e,ao (by omega)];exact c.g2⟩
theorem Bs.oc(c:Bs c0 c2 c3 h es S ver){a e k:Nat}{f:Bool}{l:List T}(g:dE c3=some a)(j:h.get a=some ⟨3,e,k,f,false,l⟩){i:Nat}{me:dx}(m:S.dp[i]? =some me)(d:dx->dx):
 Bs c0 c2 c3 (dI h a ⟨3,e,k+1,f,false,l.set i (d me).t⟩) es {S with dp:=S.dp.modify i d} ver:=by
 have:=c.put j (c.sy.b a (.inr (.inr g))).1 (c.sy.oc g j i (d me)) rfl
 rw[ng m];exact this
theorem Bs.pA(g:Bs c0 c2 c3 h es S ver){d i m:Nat}{j:Bool}{n:List T}(k:dE c0=some d)(l:h.get d=some ⟨2,i,m,j,false,n⟩){c:Nat}{f:dF}(hl:S.dP[c]? =some f)(e:dF->dF){rv:T}(hr:nz h 1 rv (fD (e f).dQ))(o:∀a,dE rv=some a->3<=a/\a<h.size/\dE c0≠some a/\dE c2≠some a/\dE c3≠some a):
 Bs c0 c2 c3 (dI h d ⟨2,i,m+1,j,false,n.set c (.agg [.int .i64 (e f).iw,rv])⟩) (es.set c (.agg [.int .i64 (e f).iw,rv])) {S with dP:=S.dP.modify c e} ver:=by
 have:=g.put l (g.sy.b d (.inl k)).1 (g.sy.pA k l c hr o) rfl
 rw[ng hl];exact this
theorem Bs.WP(c:Bs c0 c2 c3 h es S ver){a f k:Nat}{g:Bool}{l:List T}(i:dE c2=some a)(j:h.get a=some ⟨1,f,k,g,false,l⟩)(d:Nat)(e:Bool):Bs c0 c2 c3 (dI h a ⟨1,f,k+1,g,false,l.set d (.bool e)⟩) es {S with done:=S.done.set d e} ver:=
 c.put j (c.sy.b a (.inr (.inl i))).1 (c.sy.WP i j d e) rfl
theorem Bs.tx(a:Bs c0 c2 c3 h es S ver)(b:Int):Bs c0 c2 c3 (dI h 1 ⟨4,0,ver+1,true,false,[.agg [c0,.int .i64 b,c2,c3]]⟩) es {S with tx:=b} (ver+1):=
 ⟨by rw[fc];exact(a.sy.tx b).mono (au _) λc d _=>by rw[dy a.g1,ao (by omega)],a.ok.put _ _,by rw[dy a.g1,aq rfl],by rw[dy a.g1,ao (by omega)];exact a.g2⟩
end
structure ApJ(w:dJ)(s:ej)(t k o wk:Int)(c0 c2 c3:T)(h:H)(n:Int):Prop where
 ex:∃S es ver,dV w s t k o wk=(S,n)/\Bs c0 c2 c3 h es S ver
def Tg:ej:=⟨[],0,[],[]⟩
def wW(a:dJ×ej×Int×Int×Int×Int):T:=if jo a.1 a.2.1 a.2.2.1 a.2.2.2.1 a.2.2.2.2.1=true then .tuple [(dV a.1 a.2.1 a.2.2.1 a.2.2.2.1 a.2.2.2.2.1 a.2.2.2.2.2).1.t,.int .i64 (dV a.1 a.2.1 a.2.2.1 a.2.2.2.1 a.2.2.2.2.1 a.2.2.2.2.2).2,.bool true]else .tuple [Tg.t,.int .i64 0,.bool false]
def LO(a:ej):Prop:=a.dP.length<=1000000/\a.done.length<=1000000/\a.dp.length<=1000000/\(∀b∈a.dP,b.dQ.length<=1000000)/\a.Dc
def rL:fK:=⟨dJ×ej×Int×Int×Int×Int,λa=>[a.1.t,a.2.1.t,.int .i64 a.2.2.1,.int .i64 a.2.2.2.1,.int .i64 a.2.2.2.2.1,.int .i64 a.2.2.2.2.2],λa=>a.1.fP.length<=1099511627776/\LO a.2.1,wW,λa b h=>by
 obtain⟨a1,a2,a3,a4,a5,c⟩:=a
 obtain⟨d,e,f,g,i,j⟩:=b
 simp at h
 rw[dJ.inj h.1,ej.inj h.2.1,h.2.2.1,h.2.2.2.1,h.2.2.2.2.1,h.2.2.2.2.2]⟩
theorem CQ:rL.Ok Tryz.prog cx 107:=by
 refine f8 (tb:=⟨pt [(104,nc),(56,zu)],ht [(154,jM ej CC HK),(155,jM IUn Mb HF),(156,jM IWo Sk Mj),(153,jM IWt Sj Mi)]⟩) dX dU (iN 829180818552508142370930303613581122868418894632663968482586879 [(17,[(1,11)]),(19,[(1,10)]),(30,[(4,9)]),(33,[(4,8)])] Tryz.func107) (λ_=>1000005) (by simp[rL]) (by simp[rL,Tryz.f107]) ?_
 rintro⟨q,a,d,k,e,r⟩ ⟨c7,hl,eH,ht,hr,eD⟩ C eC
 simp at c7 hl eH ht hr eD
 simp[rL,wW]at eC|-
 obtain⟨eA,aX,I,c4,F,eB⟩:=eC
 have eR:a.sm:=⟨by omega,by omega,by omega,λj u=>by have:=hr j u;omega⟩
 cases de:jo q a d k e with
 |false=>
  simp[Tryz.f107,eA,aX,I,c4,F,wT,c7,eR,de]
  rfl
 |true=>
  have di:=de
  unfold jo at di
  simp only[ay]at di
  obtain⟨⟨⟨eI,eM⟩,bX⟩,_⟩:=di
  obtain⟨eX,gE,e0⟩:=nq eI
  simp[Tryz.f107,eA,aX,I,c4,F,wT,c7,eR,de]
  generalize a7:((hE.cons _).cons _).cons _=bu
  have gB:gh 0 bu:=by rw[<-a7];exact⟨by simp,by simp,by simp⟩
  have gS:bu.size=3:=by rw[<-a7];rfl
  have e7:bu.get 0=some ⟨6,0,0,true,false,[q.t]⟩:=by rw[<-a7];simp
  have e8:bu.get 1=some ⟨4,0,0,true,false,[a.t]⟩:=by rw[<-a7];simp
  have e9:bu.get 2=some ⟨4,0,0,true,false,[.agg [.dq [] false,.int .i64 0,.dq [] false,.dq [] false]]⟩:=by rw[<-a7];simp
  clear a7
  refine gd FB (by simp) a ⟨rfl,gB,hl,eH,ht,hr⟩ ?_
  rintro _ b9 ⟨c0,c2,c3,es,rfl,e5,bk⟩
  rw[gS]at e5
  have hd:=bk.ok.sz
  have gz:gh 0 b9:=⟨bk.ok.hp,bk.ok.low,aw _⟩
  have bs:=(bk.get 1 (by omega)).trans e8
  have fl:=(bk.get 0 (by omega)).trans e7
  have fo:=(bk.get 2 (by omega)).trans e9
  have c:Bs c0 c2 c3 (dI b9 1 ⟨4,0,1,true,false,[.agg [c0,.int .i64 a.tx,c2,c3]]⟩) es a 1:=⟨by rw[fc];exact e5.mono (au _) λo u _=>by rw[dy bs,ao (by omega)],gz.put _ _,by rw[dy bs,aq rfl],by rw[dy bs,ao (by omega)];exact fo⟩
  have ey:(dI b9 1 ⟨4,0,1,true,false,[.agg [c0,.int .i64 a.tx,c2,c3]]⟩).get 0=some ⟨6,0,0,true,false,[q.t]⟩:=by rw[dy bs,ao (by omega)];exact fl
  simp[LJ,bs,c4]
  generalize dI b9 1 _=a6 at*
  have eN:=eM
  rw[<-e0]at eN
  obtain⟨me,J,gX⟩:=ij eN
  have bn:=dS (ed.1 eM).1
  refine m6 (λC ae=>∃n,ApJ q a d k e r c0 c2 c3 ae n/\TI.dt C 7=some (.ptr 1 0 0 0)/\TI.dt C 12=some (.ptr 2 0 0 0)/\TI.dt C 15=some (.int .i64 n)) (λal=> ?_) (λal=> ?_) ?_
  ·have al:k=1:=by simpa using al
   subst al
   ·obtain⟨D,ep,av,ex,aA,w,l,s,m⟩:=c.sy.g3.at (x:=me.t) (i:=d.toNat) (by simp[J])
    rw[aH]at w m
    subst w
    simp[I,c.g1,bn,l,s,m]
    exact⟨_,_,_,show dV q a d 1 e r=(a.oc d (j1 2),0)by simp[dV],c.oc rfl l J (j1 2)⟩
  ·have al:¬k=1:=by simpa using al
   rcases sH bX with g|rfl|rfl|rfl|rfl|rfl|rfl|rfl|rfl|g|g|g|g
   ·exact absurd g al
   ·obtain⟨D,ep,av,ex,aA,w,l,s,m⟩:=c.sy.g3.at (x:=me.t) (i:=d.toNat) (by simp[J])
    rw[aH]at w m
    subst w
    simp[I,c.g1,bn,l,s,m]
    exact⟨_,_,_,show dV q a d 2 e r=(a.oc d (j1 5),0)by simp[dV],c.oc rfl l J (j1 5)⟩
   ·simp
    exact⟨_,_,_,show dV q a d 3 e r=(a,0)by simp[dV],c⟩
   ·simp
    exact⟨_,_,_,show dV q a d 4 e r=(a,0)by simp[dV],c⟩
   ·simp
    exact⟨_,_,_,show dV q a d 5 e r=(a,0)by simp[dV],c⟩
   ·simp[I,c.g1,dG]
    exact⟨_,_,_,show dV q a d 12 e r=({a with tx:=d},0)by simp[dV],c.tx d⟩
   ·simp[c.g1,dG]
    exact⟨_,_,_,show dV q a d 13 e r=({a with tx:=-1},0)by simp[dV],c.tx (-1)⟩
   ·obtain⟨D,ep,av,ex,aA,w,l,s,m⟩:=c.sy.g3.at (x:=me.t) (i:=d.toNat) (by simp[J])
    rw[aH]at w m
    subst w
    simp[I,c.g1,bn,l,s,m]
    exact⟨_,_,_,show dV q a d 14 e r=(a.oc d (λx=>{x with atomic:=true}),0)by simp[dV],c.oc rfl l J (λx=>{x with atomic:=true})⟩
   ·obtain⟨D,ep,av,ex,aA,w,l,s,m⟩:=c.sy.g3.at (x:=me.t) (i:=d.toNat) (by simp[J])
    rw[aH]at w m
    subst w
    simp[I,c.g1,bn,l,s,m]
    exact⟨_,_,_,show dV q a d 15 e r=(a.oc d (λx=>{x with atomic:=false}),0)by simp[dV],c.oc rfl l J (λx=>{x with atomic:=false})⟩
   ·have G:=kr bX g
    rw[<-eX]at G
    obtain⟨V,K,gj⟩:=ij G
    have E:=dS (ed.1 G).1
    obtain⟨B,dd,rv,rfl,U,ap⟩:=c.sy.el.get K
    obtain⟨D,ep,av,ex,aA,rfl,l,s,m⟩:=c.sy.g0.at dd
    have bv:=H.dL l
    have gV:=(c.sy.b D (.inl rfl)).1
    have ea:(1=a6.size)=False:=by have:=H.dL c.g1;simp;omega
    have gZ:(D=a6.size)=False:=by simp;omega
    have gp:=hr V (az K)
    have eV:∀o,dE rv=some o->o<a6.size:=λo u=>(ap o u).2.1
    rcases g with rfl|rfl|rfl|rfl|rfl|rfl
    ·simp[I,F,c.g1,E,l,s,m]
     exact⟨_,_,_,show dV q a d 6 e r=(a.pA e (λj=>{j with iw:=d}),0)by simp[dV],c.pA rfl l K (λj=>{j with iw:=d}) U ap⟩
    ·simp[F,c.g1,E,l,s,m]
     exact⟨_,_,_,show dV q a d 7 e r=(a.pA e (λj=>{j with iw:=-1}),0)by simp[dV],c.pA rfl l K (λj=>{j with iw:=-1}) U ap⟩
    ·simp[I,F,c.g1,E,l,s,m]
     refine kA Fj (by simp) ⟨V.dQ,[d],rv,.arr a6.size 0 0 1 false⟩ ⟨rfl,U.mono λo u=>by rw[dH,ao (by have:=eV o u;omega)],.inr (Gr.new (ep:=0) (ver:=0) (ex:=true) (es:=[.int .i64 d]) (by simp)),by simp;omega,c.ok.cons _⟩ ?_
     rintro M Z ⟨v,P,eh⟩
     have eW:Nb a6 Z:=((Nb.refl c.ok).cons ⟨1,0,0,true,false,[.int .i64 d]⟩).trans P
     have O:=c.nb eW
     have bB:=(eW.get D bv).trans l
     have er:=ee (P.get 1 (by have:=H.dL c.g1;simp;omega))
     simp only at v
     rw[Hj (eD V (az K))]at v
     have eo:∀o,dE M=some o->o<Z.size:=λo u=>by
      rcases v with rfl|g
      ·simp at u
      ·obtain⟨_,_,_,_,k,_⟩:=g.box u;exact H.dL k
     simp[E,bB,s,m,er,dG,v.fT.1,v.fT.2]
     exact⟨_,_,_,show dV q a d 8 e r=(a.pA e (λj=>{j with dQ:=lf j.dQ d}),0)by simp[dV],O.pA rfl bB K (λj=>{j with dQ:=lf j.dQ d}) v λo u=>by
      have eU:=eh o u
      simp at eU
      have dv:=eo o u
      exact⟨by omega,dv,λB=>by simp at B;omega,λB=>by have:=(c.sy.b o (.inr (.inl B))).2;omega,λB=>by have:=(c.sy.b o (.inr (.inr B))).2;omega⟩⟩
    ·simp[I,F,c.g1,E,l,s,m]
     refine kA HN (by simp) ⟨V.dQ,rv,d⟩ ⟨rfl,U,eV,gp,c.ok⟩ ?_
     rintro M Z ⟨v,P,eh⟩
     have O:=c.nb P
     have bB:=(P.get D bv).trans l
     have er:=ee (P.get 1 (H.dL c.g1))
     simp only at v
     have eo:∀o,dE M=some o->o<Z.size:=λo u=>by
      rcases v with rfl|g
      ·simp at u
      ·obtain⟨_,_,_,_,k,_⟩:=g.box u;exact H.dL k
     simp[E,bB,s,m,er,dG,v.fT.1,v.fT.2]
     exact⟨_,_,_,show dV q a d 9 e r=(a.pA e (λj=>{j with dQ:=j.dQ.filter λM=> !decide (M=d)}),0)by simp[dV],O.pA rfl bB K (λj=>{j with dQ:=j.dQ.filter λM=> !decide (M=d)}) v λo u=>by
      have eU:=eh o u
      have dv:=eo o u
      exact⟨by omega,dv,λB=>by simp at B;omega,λB=>by have:=(c.sy.b o (.inr (.inl B))).2;omega,λB=>by have:=(c.sy.b o (.inr (.inr B))).2;omega⟩⟩
    ·simp[I,F,c.g1,E,l,s,m]
     exact⟨_,_,_,show dV q a d 10 e r=(a.pA e (λj=>{j with iw:=d}),0)by simp[dV],c.pA rfl l K (λj=>{j with iw:=d}) U ap⟩
    ·simp[F,c.g1,E,l,s,m]
     exact⟨_,_,_,show dV q a d 11 e r=(a.pA e (λj=>{j with iw:=-1}),0)by simp[dV],c.pA rfl l K (λj=>{j with iw:=-1}) U ap⟩
   ·have G:=nd bX g
    obtain⟨o,c9,eF⟩:=ij G
    have bT:=qO eI c9
    rw[<-eX]at bT
    obtain⟨V,K,gj⟩:=ij bT
    have E:=dS (ed.1 G).1
    have e6:=dS (ed.1 bT).1
    obtain⟨B,dd,rv,rfl,U,ap⟩:=c.sy.el.get K
    obtain⟨D,ep,av,ex,aA,rfl,l,s,m⟩:=c.sy.g0.at dd
    obtain⟨aE,eu,gM,fB,ce,w,a8,cb,dk⟩:=c.sy.g3.at (x:=me.t) (i:=d.toNat) (by simp[J])
    rw[aH]at w dk
    subst w
    have bv:=H.dL l
    have eE:=H.dL a8
    have ea:(1=D)=False:=by have:=(c.sy.b D (.inl rfl)).1;simp;omega
    have gy:(1=aE)=False:=by have:=(c.sy.b aE (.inr (.inr rfl))).1;simp;omega
    have eb:(aE=D)=False:=by simp;rintro rfl;rw[l]at a8;simp at a8
    have eS:∀x,(ce.set d.toNat x)[d.toNat]? =some x:=λx=>by
     have:d.toNat<ce.length:=by
      rcases aD d.toNat ce.length with k|k
      ·exact k
      ·rw[aM k]at cb;simp at cb
     rw[cm];simp[this]
    have bN:∀A,(dI a6 D A).get aE=some ⟨3,eu,gM,fB,false,ce⟩:=λA=>by rw[dy l,ao (by simpa using eb)];exact a8
    have e4:=λA z=>mg (bN A) (show 1≠aE by simpa using gy) z
    have et:=λ(f:dF->dF) (u:(f V).dQ=V.dQ)=>c.pA rfl l K f (rv:=rv) (by rw[u];exact U) ap
    rcases g with rfl|rfl|rfl|rfl
    ·have cL:=(et (λj=>{j with iw:=-1}) rfl).oc rfl (bN _) J (λx=>{x with im:=3})
     have bp:=cL.oc (me:=(λx=>{x with im:=3}) me) rfl ((dy (bN _) _ _).trans (aq rfl)) (i:=d.toNat) (by simp[J]) (λx=>{x with cond:=e})
     simp only[Ab,List.set_set]at bp
     simp[I,F,ey,c.g1,E,e6,bn,c9,l,a8,s,cb,m,dk,ph,c.ok.hp,bv,eE,ea,eb,eS,e4]
     exact⟨_,_,_,show dV q a d 16 e r=((a.pA o.kP λj=>{j with iw:=-1}).oc d (λx=>{x with im:=3,cond:=e}),0)by simp[dV,eF],bp⟩
    ·have cL:=(et (λj=>{j with iw:=d}) rfl).oc rfl (bN _) J (λx=>{x with im:=2})
     have bp:=cL.oc (me:=(λx=>{x with im:=2}) me) rfl ((dy (bN _) _ _).trans (aq rfl)) (i:=d.toNat) (by simp[J]) (λx=>{x with cond:=0})
     simp only[Ab,List.set_set]at bp
     simp[I,F,ey,c.g1,E,e6,bn,c9,l,a8,s,cb,m,dk,ph,c.ok.hp,bv,eE,ea,eb,eS,e4]
     exact⟨_,_,_,show dV q a d 17 e r=((a.pA o.kP λj=>{j with iw:=d}).oc d (λx=>{x with im:=2,cond:=0}),0)by simp[dV,eF],bp⟩
    ·simp[F,c.g1]
     refine gd AW (by simp) ⟨a,_,_,_,e⟩ ⟨rfl,c.sy.g3,ht,c.ok⟩ ?_
     rintro M Z ⟨v,P,_⟩
     simp only at v
     have O:=c.nb P
     have dn:=Av e a.dp 0
     have R:=λaX:H=>v.len (cx:=cx) aX m8 _ rfl
     rw[aH]at R
     simp[R]
     refine dM (λan=> ?_) (λan=> ?_)
     ·have b6:0<(gu e a.dp 0).length:=by simpa using an
      obtain⟨p,b7,b8⟩:=v.idx (te:=Dj) rfl rfl (i:=0) (x:= .int .i64 (gu e a.dp 0)[0]) (by simp[b6]) rfl
      have fX:=v.pq (f:=T.int .i64) (λ_=>by simp) (λ_=>rfl)
      have fs:=λ{tb:eG} (ht:tb.p 56=some zu)=>Lg ht (gu e a.dp 0) r (by omega)
      have eL:(gu e a.dp 0).headD (-1)=(gu e a.dp 0)[0]:=by
       clear b7 b8 v R dn
       generalize gu e a.dp 0=j at*
       cases j with
       |nil=>simp at b6
       |cons x j=>simp
      simp[eB,b7,b8,fX,fs]
      have L:∃y:Nat,w8 e r a.dp=y/\y<a.dp.length:=by
       have bT:w8 e r a.dp∈gu e a.dp 0:=by
        unfold w8
        split
        ·assumption
        ·rw[eL];exact aF b6
       obtain⟨y,B,Q⟩:=rV bT
       exact⟨y,by simpa using B,Q⟩
      obtain⟨y,dm,Q⟩:=L
      refine m6 (λC ae=>ae=Z/\TI.dt C 17=some (.int .i64 y)/\TI.dt C 7=some (.ptr 1 0 0 0)/\TI.dt C 12=some (.ptr 2 0 0 0)) (λan=> ?_) (λan=> ?_) ?_
      ·simp[eB]
       rw[<-dm];unfold w8;rw[aq (by simpa using an)]
      ·simp
       rw[<-dm,<-eL];unfold w8;rw[ao (by simpa using an)]
      ·rintro C _ ⟨rfl,gi,Y,X⟩
       obtain⟨N,L⟩:∃N,a.dp[y]? =some N:=⟨_,aB Q⟩
       obtain⟨fe,fv,gP,fC,gQ,bz,bi,ds,gn⟩:=O.sy.g3.at (x:=N.t) (i:=y) (by simp[L])
       simp at bz
       obtain⟨rfl,rfl⟩:=bz
       simp[Y,X,gi,O.g1,bi,ds,Q]
       exact⟨_,_,_,show dV q a d 18 e r=(a.oc y (j1 4),(y:Int))by
        rw[<-dm];unfold dV;simp;intro u;rw[u]at b6;simp at b6,O.oc rfl bi L (j1 4)⟩
     ·have gw:gu e a.dp 0=[]:=by
       have:¬0<(gu e a.dp 0).length:=by simpa using an
       exact bh (by omega)
      simp
      exact⟨_,_,_,show dV q a d 18 e r=(a,-1)by simp[dV,gw],O⟩
    ·simp[F,c.g1]
     refine gd AW (by simp) ⟨a,_,_,_,e⟩ ⟨rfl,c.sy.g3,ht,c.ok⟩ ?_
     rintro M Z ⟨v,P,gI⟩
     simp only at v
     have O:=c.nb P
     have dn:=Av e a.dp 0
     have R:=λaX:H=>v.len (cx:=cx) aX m8 _ rfl
     rw[aH]at R
     have eP:∀x∈gu e a.dp 0,∃y:Nat,x=y/\y<a.dp.length:=λx s=>by
      obtain⟨y,B,Q⟩:=rV s
      exact⟨y,by simpa using B,Q⟩
     have c6:=PZ e a.dp []
     simp only[cy,cP]at c6
     have ca:∃j,j=gu e a.dp 0:=⟨_,rfl⟩
     obtain⟨j,ca⟩:=ca
     rw[<-ca]at v dn eP c6 R
     simp
     refine eQ j.length (by omega) (λi C h'=>Bs (.arr D ep 0 es.length false) c2 (.arr aE eu 0 a.dp.length false) h' es {a with dp:=KS a.dp (j.take i)} 1/\nz h' 1 M (fD j)/\TI.dt C 7=some (.ptr 1 0 0 0)/\TI.dt C 12=some (.ptr 2 0 0 0)/\TI.dt C 18=some M/\TI.dt C 19=some (.int .i64 i)) ?_ ?_ (by omega) ⟨by simpa[KS]using O,v,by simp⟩
     ·rintro i C h' m gk ⟨aN,ef,Y,X,cX,c1⟩
      obtain⟨y,Q,eO⟩:=eP j[i] (aF m)
      obtain⟨N,L⟩:∃N,(KS a.dp (j.take i))[y]? =some N:=⟨_,aB (by rw[PY];exact eO)⟩
      obtain⟨fe,fv,gP,fC,gQ,bz,bi,ds,gn⟩:=aN.sy.g3.at (x:=N.t) (i:=y) (by simp[L])
      simp at bz
      obtain⟨rfl,rfl,_⟩:=bz
      obtain⟨p,b7,b8⟩:=ef.idx (te:=Dj) rfl rfl (i:=i) (x:= .int .i64 y) (by simp[m,Q]) rfl
      have fb:=aN.oc rfl bi L (j1 4)
      simp[Y,X,cX,c1,R,m,b7,b8,aN.g1,bi,ds,eO,gk]
      refine⟨?_,ef.mono λo u=>by rw[dy bi,ao (by have:=gI o u;omega)]⟩
      rw[Nk a.dp j m,Q];exact fb
     ·rintro C h' ⟨aN,ef,Y,X,cX,c1⟩
      rw[aQ]at aN
      simp[Y,X,cX,c1,R]
      exact⟨_,_,_,show dV q a d 19 e r=({a with dp:=KS a.dp j},(j.length:Int))by rw[c6];simp[dV,<-ca],aN⟩
   ·have G:=vi bX g
    rw[<-e0]at G
    obtain⟨N,L,gv⟩:=ij G
    have E:=dS (ed.1 G).1
    rcases g with rfl|rfl
    ·obtain⟨D,ep,av,ex,aA,w,l,s,m⟩:=c.sy.g3.at (x:=N.t) (i:=e.toNat) (by simp[L])
     rw[aH]at w m
     subst w
     simp[F,c.g1,E,l,s,m]
     exact⟨_,_,_,show dV q a d 20 e r=(a.oc e (j1 1),0)by simp[dV],c.oc rfl l L (j1 1)⟩
    ·simp
     exact⟨_,_,_,show dV q a d 21 e r=(a,0)by simp[dV],c⟩
   ·have G:=qh bX g
    rw[<-gE]at G
    obtain⟨N,L,gv⟩:=ij G
    have E:=dS (ed.1 G).1
    rcases g with rfl|rfl
    ·obtain⟨D,ep,av,ex,aA,w,l,s,m⟩:=c.sy.g2.at (x:= .bool N) (i:=e.toNat) (by simp[L])
     rw[aH]at w m
     subst w
     simp[F,c.g1,E,l,s,m]
     exact⟨_,_,_,show dV q a d 22 e r=({a with done:=a.done.set e.toNat true},0)by simp[dV],c.WP rfl l e.toNat true⟩
    ·simp
     exact⟨_,_,_,show dV q a d 23 e r=(a,0)by simp[dV],c⟩
  ·rintro C ae ⟨n,⟨S,fA,ver,gm,W⟩,Y,X,gg⟩
   obtain⟨ha,hb,hc⟩:=W.sy.fz
   have fY:∀A,(dI ae 2 A).get 2=some A:=λA=>(dy W.g2 A _).trans (aq rfl)
   have cp:∀A,zO 3 ae.size (dI ae 2 A) c0 c2 c3 fA S:=λA=>W.sy.mono (au _) λo u _=>by rw[dy W.g2,ao (by omega)]
   have fE:=λA=>(cp A).fz.1
   have fL:=λA=>(cp A).fz.2.1
   have fS:=λA=>(cp A).fz.2.2
   simp[Y,X,gg,W.g1,W.g2,fY,dG,fE,fL,fS,gm,W.ok.hp]
end
end Go.Proofs.YtmaeadedikngoaaGreatDoor
