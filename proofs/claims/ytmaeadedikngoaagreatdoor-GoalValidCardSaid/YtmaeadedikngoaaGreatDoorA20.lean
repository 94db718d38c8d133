/- Texts W08h to W08h. -/
import Derived.Test.YtmaeadedikngoaaGreatDoorA19
set_option linter.unusedVariables false
set_option linter.unusedSimpArgs false
set_option linter.defProp false
set_option maxRecDepth 100000
set_option maxHeartbeats 8000000
namespace Go.Proofs.YtmaeadedikngoaaGreatDoor
noncomputable section
open Go Go.TI
attribute [-simp] List.map_take List.map_drop List.map_append fj eG dY Bool.not_or Bool.not_and
attribute [simp] fh eJ
attribute [-simp] size_cons
def so{e d:Int}:∀{b:List dD} {c:Nat},d∈gU e b c->∃a:Nat,d=((c+a:Nat):Int)/\a<b.length:=by
 intro b;induction b with
 |nil=>intro c h;simp[gU]at h
 |cons k b j=>
  intro c h;rw[gU]at h;have f:d∈gU e b (c+1)->∃a:Nat,d=((c+a:Nat):Int)/\a<(k::b).length:=λh=>by
   obtain⟨a,g,i⟩:=j h;exact⟨a+1,by rw[g];simp;omega,by simpa using i⟩
  split at h
  ·rcases List.mem_cons.1 h with rfl|h
   ·exact⟨0,dp,dp⟩
   ·exact f h
  ·exact f h
def A3(c:Int):∀(a:List dD) (b:Nat),(gU c a b).length<=a.length:=by
 intro a;induction a with
 |nil=>intro b;simp[gU]
 |cons e a d=>intro b;rw[gU];have:=d (b+1);split<;>simp<;>omega
def Lr(T:List dD)(b:List Int):List dD:=b.foldl (λT (a:Int)=>T.modify a.toNat (j7 4)) T
def QT(g:Int):∀(c b:List dD),Lr (b++c) (gU g c b.length)=b++c.map λe=>if e.iv=3/\e.cond=g then j7 4 e else e:=by
 intro c;induction c with
 |nil=>intro b;simp[gU,Lr]
 |cons d c i=>
  intro b;rw[gU];split
  ·rename_i f;unfold Lr;rw[List.foldl_cons];have j:(b++d::c).modify ((b.length:Int).toNat) (j7 4)=(b++[j7 4 d])++c:=by
    rw[nz (a:=d) dp];simp
   rw[j];have:=i (b++[j7 4 d]);simp only[bh,aZ,cR]at this;unfold Lr at this;rw[this];simp[f]
  ·rename_i f;have:=i (b++[d]);simp only[bh,aZ,cR]at this;simp only[cr,List.singleton_append]at this;rw[this];simp[f]
def QS(a:List Int):∀T,(Lr T a).length=T.length:=by
 induction a with
 |nil=>intro T;rfl
 |cons c a b=>intro T;show(Lr (T.modify c.toNat (j7 4)) a).length=_;rw[b];simp
def N8(T:List dD)(b:List Int){a:Nat}(c:a<b.length):Lr T (b.take (a+1))=(Lr T (b.take a)).modify b[a].toNat (j7 4):=by
 rw[aU c];unfold Lr;rw[List.foldl_append];rfl
def AK{c:Type}(b:List c)(a:Nat)(d e:c->c):(b.modify a d).modify a e=b.modify a λi=>e (d i):=by
 apply cS;intro f;simp only[List.getElem?_modify];by_cases g:a=f
 ·simp[g];cases b[f]? <;>rfl
 ·simp[g]
structure Bs(c0 c2 c3:T)(h:H)(es:List T)(S:fg)(ver:Nat):Prop where
 sy:AB 3 h.size h c0 c2 c3 es S
 ok:gu 0 h
 g1:h.get 1=some (dy 4 ver [.agg [c0,dw S.tx,c2,c3]])
 g2:h.get 2=some (dy 4 0 [.agg [dx,dw 0,dx,dx]])
section
variable {c0 c2 c3:T}{h h':H}{es:List T}{S:fg}{ver:Nat}
def Bs.nb(b:Bs c0 c2 c3 h es S ver)(a:Nb h h'):Bs c0 c2 c3 h' es S ver:=
 ⟨b.sy.mono a.ok.sz λc _ d=>a.get c d,⟨a.ok.hp,a.ok.low,aw _⟩,(a.get _ (H.ej b.g1)).trans b.g1,(a.get _ (H.ej b.g2)).trans b.g2⟩
def Bs.put(d:Bs c0 c2 c3 h es S ver){a:Nat}{x:iJ}(f:h.get a=some x)(j:3<=a){g:iJ}{e:List T}{b:fg}(i:AB 3 h.size (dQ h a g) c0 c2 c3 e b)(ht:b.tx=S.tx):Bs c0 c2 c3 (dQ h a g) e b ver:=
 ⟨by rw[fG];exact i,d.ok.put _ _,by rw[dE f,ao dj,ht];exact d.g1,by rw[dE f,ao dj];exact d.g2⟩
def Bs.ox(c:Bs c0 c2 c3 h es S ver){a e k:Nat}{f:Bool}{l:List T}(g:dL c3=some a)(j:h.get a=some ⟨3,e,k,f,false,l⟩){i:Nat}{me:dD}(m:S.dB[i]? =some me)(d:dD->dD):
 Bs c0 c2 c3 (dQ h a ⟨3,e,k+1,f,false,l.set i (d me).t⟩) es {S with dB:=S.dB.modify i d} ver:=by
 have:=c.put j (c.sy.b a (.inr (.inr g))).1 (c.sy.ox g j i (d me)) rfl;rw[nz m];exact this
def Bs.pK(g:Bs c0 c2 c3 h es S ver){d i m:Nat}{j:Bool}{n:List T}(k:dL c0=some d)(l:h.get d=some ⟨2,i,m,j,false,n⟩){c:Nat}{f:dS}(hl:S.dV[c]? =some f)(e:dS->dS){rv:T}(hr:oO h 1 rv (ge (e f).d8))(o:∀a,dL rv=some a->3<=a/\a<h.size/\dL c0≠some a/\dL c2≠some a/\dL c3≠some a):
 Bs c0 c2 c3 (dQ h d ⟨2,i,m+1,j,false,n.set c (.agg [dw (e f).iF,rv])⟩) (es.set c (.agg [dw (e f).iF,rv])) {S with dV:=S.dV.modify c e} ver:=by
 have:=g.put l (g.sy.b d (.inl k)).1 (g.sy.pK k l c hr o) rfl;rw[nz hl];exact this
def Bs.Ws(c:Bs c0 c2 c3 h es S ver){a f k:Nat}{g:Bool}{l:List T}(i:dL c2=some a)(j:h.get a=some ⟨1,f,k,g,false,l⟩)(d:Nat)(e:Bool):Bs c0 c2 c3 (dQ h a ⟨1,f,k+1,g,false,l.set d (.bool e)⟩) es {S with done:=S.done.set d e} ver:=
 c.put j (c.sy.b a (.inr (.inl i))).1 (c.sy.Ws i j d e) rfl
def Bs.tx(a:Bs c0 c2 c3 h es S ver)(b:Int):Bs c0 c2 c3 (dQ h 1 (dy 4 (ver+1) [.agg [c0,dw b,c2,c3]])) es {S with tx:=b} (ver+1):=
 ⟨by rw[fG];exact(a.sy.tx b).mono (au _) λc d _=>by rw[dE a.g1,ao dj],a.ok.put _ _,by rw[dE a.g1,aq rfl],by rw[dE a.g1,ao dj];exact a.g2⟩
end
structure ApJ(w:dR)(s:fg)(t k o wk:Int)(c0 c2 c3:T)(h:H)(n:Int):Prop where
 ex:∃S es ver,em w s t k o wk=(S,n)/\Bs c0 c2 c3 h es S ver
def TE:fg:=⟨[],0,[],[]⟩
def xn(a:dR×fg×Int×Int×Int×Int):T:=if jI a.1 a.2.1 a.2.2.1 a.2.2.2.1 a.2.2.2.2.1=true then .tuple [(em a.1 a.2.1 a.2.2.1 a.2.2.2.1 a.2.2.2.2.1 a.2.2.2.2.2).1.t,dw (em a.1 a.2.1 a.2.2.1 a.2.2.2.1 a.2.2.2.2.1 a.2.2.2.2.2).2,.bool true]else .tuple [TE.t,dw 0,.bool false]
def My(a:fg):Prop:=a.dV.length<=1000000/\a.done.length<=1000000/\a.dB.length<=1000000/\(∀b∈a.dV,b.d8.length<=1000000)/\a.Ee
def r8:f7:=⟨dR×fg×Int×Int×Int×Int,λa=>[a.1.t,a.2.1.t,dw a.2.2.1,dw a.2.2.2.1,dw a.2.2.2.2.1,dw a.2.2.2.2.2],λa=>a.1.fV.length<=1099511627776/\My a.2.1,xn,λa b h=>by
 obtain⟨a1,a2,a3,a4,a5,c⟩:=a;obtain⟨d,e,f,g,i,j⟩:=b;simp at h;rw[dR.inj h.1,fg.inj h.2.1,h.2.2.1,h.2.2.2.1,h.2.2.2.2.1,h.2.2.2.2.2]⟩
def DS:r8.Ok Tryz.prog cx 107:=by
 refine gH (tb:=⟨pt [(104,nj),(56,Bi)],ht [(154,jp fg DB Ig),(155,jp IUn MV Id),(156,jp IWo Sz M2),(153,jp IWt Sy M1)]⟩) ei eg (iL 829180818552508142370930303613581122868418894632663968482586879 [(17,[(1,11)]),(19,[(1,10)]),(30,[(4,9)]),(33,[(4,8)])] Tryz.func107) (λ_=>1000005) (by simp[r8]) (by simp[r8,Tryz.f107]) ?_;rintro⟨q,a,d,k,e,r⟩ ⟨c7,hl,eF,ht,hr,eC⟩ C eB;simp at c7 hl eF ht hr eC;simp[r8,xn]at eB|-;obtain⟨ey,aX,I,c4,F,eA⟩:=eB;have eP:a.sm:=⟨dj,dj,dj,λj u=>by have:=hr j u;omega⟩;cases de:jI q a d k e with
 |false=>
  simp[Tryz.f107,ey,aX,I,c4,F,xj,c7,eP,de];rfl
 |true=>
  have di:=de;unfold jI at di;simp only[aB]at di;obtain⟨⟨⟨eH,eL⟩,bS⟩,_⟩:=di;obtain⟨eW,gp,eX⟩:=nK eH;simp[Tryz.f107,ey,aX,I,c4,F,xj,c7,eP,de];generalize a7:((hE.cons _).cons _).cons _=bu;have gn:gu 0 bu:=by rw[<-a7];exact⟨dp,dp,dp⟩
  have gB:bu.size=3:=by rw[<-a7];rfl
  have e3:bu.get 0=some (dy 6 0 [q.t]):=by rw[<-a7];simp
  have e4:bu.get 1=some (dy 4 0 [a.t]):=by rw[<-a7];simp
  have e5:bu.get 2=some (dy 4 0 [.agg [dx,dw 0,dx,dx]]):=by rw[<-a7];simp
  clear a7;refine gJ Gt dp a ⟨rfl,gn,hl,eF,ht,hr⟩ ?_;rintro _ b8 ⟨c0,c2,c3,es,rfl,e1,bk⟩;rw[gB]at e1;have gV:=bk.ok.sz;have gm:gu 0 b8:=⟨bk.ok.hp,bk.ok.low,aw _⟩;have bs:=(bk.get 1 dj).trans e4;have e8:=(bk.get 0 dj).trans e3;have e9:=(bk.get 2 dj).trans e5;have c:Bs c0 c2 c3 (dQ b8 1 (dy 4 1 [.agg [c0,dw a.tx,c2,c3]])) es a 1:=⟨by rw[fG];exact e1.mono (au _) λo u _=>by rw[dE bs,ao dj],gm.put _ _,by rw[dE bs,aq rfl],by rw[dE bs,ao dj];exact e9⟩;have eu:(dQ b8 1 (dy 4 1 [.agg [c0,dw a.tx,c2,c3]])).get 0=some (dy 6 0 [q.t]):=by rw[dE bs,ao dj];exact e8
  simp[Mq,bs,c4];generalize dQ b8 1 _=a6 at*
  have eM:=eL;rw[<-eX]at eM;obtain⟨me,J,gI⟩:=im eM;have bl:=ed (ff.1 eL).1;refine lh (λC ae=>∃n,ApJ q a d k e r c0 c2 c3 ae n/\dz C 7 (.ptr 1 0 0 0)/\dz C 12 (.ptr 2 0 0 0)/\dz C 15 (dw n)) (λal=> ?_) (λal=> ?_) ?_
  ·have al:k=1:=by simpa using al
   subst al
   ·obtain⟨D,ep,av,ex,aA,w,l,s,m⟩:=c.sy.g3.at (x:=me.t) (i:=d.toNat) (by simp[J]);rw[aH]at w m;subst w;simp[I,c.g1,bl,l,s,m];exact⟨_,_,_,show em q a d 1 e r=(a.ox d (j7 2),0)by simp[em],c.ox rfl l J (j7 2)⟩
  ·have al:¬k=1:=by simpa using al
   rcases ta bS with g|rfl|rfl|rfl|rfl|rfl|rfl|rfl|rfl|g|g|g|g
   ·exact absurd g al
   ·obtain⟨D,ep,av,ex,aA,w,l,s,m⟩:=c.sy.g3.at (x:=me.t) (i:=d.toNat) (by simp[J]);rw[aH]at w m;subst w;simp[I,c.g1,bl,l,s,m];exact⟨_,_,_,show em q a d 2 e r=(a.ox d (j7 5),0)by simp[em],c.ox rfl l J (j7 5)⟩
   ·simp;exact⟨_,_,_,show em q a d 3 e r=(a,0)by simp[em],c⟩
   ·simp;exact⟨_,_,_,show em q a d 4 e r=(a,0)by simp[em],c⟩
   ·simp;exact⟨_,_,_,show em q a d 5 e r=(a,0)by simp[em],c⟩
   ·simp[I,c.g1,dP];exact⟨_,_,_,show em q a d 12 e r=({a with tx:=d},0)by simp[em],c.tx d⟩
   ·simp[c.g1,dP];exact⟨_,_,_,show em q a d 13 e r=({a with tx:=-1},0)by simp[em],c.tx (-1)⟩
   ·obtain⟨D,ep,av,ex,aA,w,l,s,m⟩:=c.sy.g3.at (x:=me.t) (i:=d.toNat) (by simp[J]);rw[aH]at w m;subst w;simp[I,c.g1,bl,l,s,m];exact⟨_,_,_,show em q a d 14 e r=(a.ox d (λx=>{x with atomic:=true}),0)by simp[em],c.ox rfl l J (λx=>{x with atomic:=true})⟩
   ·obtain⟨D,ep,av,ex,aA,w,l,s,m⟩:=c.sy.g3.at (x:=me.t) (i:=d.toNat) (by simp[J]);rw[aH]at w m;subst w;simp[I,c.g1,bl,l,s,m];exact⟨_,_,_,show em q a d 15 e r=(a.ox d (λx=>{x with atomic:=false}),0)by simp[em],c.ox rfl l J (λx=>{x with atomic:=false})⟩
   ·have G:=kw bS g;rw[<-eW]at G;obtain⟨V,K,fL⟩:=im G;have E:=ed (ff.1 G).1;obtain⟨B,dd,rv,rfl,U,ap⟩:=c.sy.el.get K;obtain⟨D,ep,av,ex,aA,rfl,l,s,m⟩:=c.sy.g0.at dd;have bz:=H.ej l;have gE:=(c.sy.b D (.inl rfl)).1;have ea:(1=a6.size)=False:=by have:=H.ej c.g1;simp;omega
    have gM:(D=a6.size)=False:=dq;have gg:=hr V (ax K);have eU:∀o,dL rv=some o->o<a6.size:=λo u=>(ap o u).2.1;rcases g with rfl|rfl|rfl|rfl|rfl|rfl
    ·simp[I,F,c.g1,E,l,s,m];exact⟨_,_,_,show em q a d 6 e r=(a.pK e (λj=>{j with iF:=d}),0)by simp[em],c.pK rfl l K (λj=>{j with iF:=d}) U ap⟩
    ·simp[F,c.g1,E,l,s,m];exact⟨_,_,_,show em q a d 7 e r=(a.pK e (λj=>{j with iF:=-1}),0)by simp[em],c.pK rfl l K (λj=>{j with iF:=-1}) U ap⟩
    ·simp[I,F,c.g1,E,l,s,m];refine lJ Ge dp ⟨V.d8,[d],rv,.arr a6.size 0 0 1 false⟩ ⟨rfl,U.mono λo u=>by rw[dM,ao (by have:=eU o u;omega)],.inr (Gr.new (ep:=0) (ver:=0) (ex:=true) (es:=[dw d]) dp),dq,c.ok.cons _⟩ ?_;rintro M Z ⟨v,P,ef⟩;have eV:Nb a6 Z:=((Nb.refl c.ok).cons (dy 1 0 [dw d])).trans P;have O:=c.nb eV;have bC:=(eV.get D bz).trans l;have eo:=eZ (P.get 1 (by have:=H.ej c.g1;simp;omega));simp only at v;rw[HP (eC V (ax K))]at v;have eh:∀o,dL M=some o->o<Z.size:=λo u=>by
      rcases v with rfl|g
      ·simp at u
      ·obtain⟨_,_,_,_,k,_⟩:=g.box u;exact H.ej k
     simp[E,bC,s,m,eo,dP,v.gD.1,v.gD.2];exact⟨_,_,_,show em q a d 8 e r=(a.pK e (λj=>{j with d8:=lx j.d8 d}),0)by simp[em],O.pK rfl bC K (λj=>{j with d8:=lx j.d8 d}) v λo u=>by
      have eS:=ef o u;simp at eS;have dv:=eh o u;exact⟨dj,dv,λB=>by simp at B;omega,λB=>by have:=(c.sy.b o (.inr (.inl B))).2;omega,λB=>by have:=(c.sy.b o (.inr (.inr B))).2;omega⟩⟩
    ·simp[I,F,c.g1,E,l,s,m];refine lJ Ik dp ⟨V.d8,rv,d⟩ ⟨rfl,U,eU,gg,c.ok⟩ ?_;rintro M Z ⟨v,P,ef⟩;have O:=c.nb P;have bC:=(P.get D bz).trans l;have eo:=eZ (P.get 1 (H.ej c.g1));simp only at v;have eh:∀o,dL M=some o->o<Z.size:=λo u=>by
      rcases v with rfl|g
      ·simp at u
      ·obtain⟨_,_,_,_,k,_⟩:=g.box u;exact H.ej k
     simp[E,bC,s,m,eo,dP,v.gD.1,v.gD.2];exact⟨_,_,_,show em q a d 9 e r=(a.pK e (λj=>{j with d8:=j.d8.filter λM=> !decide (M=d)}),0)by simp[em],O.pK rfl bC K (λj=>{j with d8:=j.d8.filter λM=> !decide (M=d)}) v λo u=>by
      have eS:=ef o u;have dv:=eh o u;exact⟨dj,dv,λB=>by simp at B;omega,λB=>by have:=(c.sy.b o (.inr (.inl B))).2;omega,λB=>by have:=(c.sy.b o (.inr (.inr B))).2;omega⟩⟩
    ·simp[I,F,c.g1,E,l,s,m];exact⟨_,_,_,show em q a d 10 e r=(a.pK e (λj=>{j with iF:=d}),0)by simp[em],c.pK rfl l K (λj=>{j with iF:=d}) U ap⟩
    ·simp[F,c.g1,E,l,s,m];exact⟨_,_,_,show em q a d 11 e r=(a.pK e (λj=>{j with iF:=-1}),0)by simp[em],c.pK rfl l K (λj=>{j with iF:=-1}) U ap⟩
   ·have G:=ny bS g;obtain⟨o,c9,eE⟩:=im G;have bN:=qW eH c9;rw[<-eW]at bN;obtain⟨V,K,fL⟩:=im bN;have E:=ed (ff.1 G).1;have e2:=ed (ff.1 bN).1;obtain⟨B,dd,rv,rfl,U,ap⟩:=c.sy.el.get K;obtain⟨D,ep,av,ex,aA,rfl,l,s,m⟩:=c.sy.g0.at dd;obtain⟨aE,et,gw,fl,cb,w,a8,ca,dk⟩:=c.sy.g3.at (x:=me.t) (i:=d.toNat) (by simp[J]);rw[aH]at w dk;subst w;have bz:=H.ej l;have eD:=H.ej a8;have ea:(1=D)=False:=by have:=(c.sy.b D (.inl rfl)).1;simp;omega
    have gk:(1=aE)=False:=by have:=(c.sy.b aE (.inr (.inr rfl))).1;simp;omega
    have eb:(aE=D)=False:=by simp;rintro rfl;rw[l]at a8;simp at a8
    have eR:∀x,(cb.set d.toNat x)[d.toNat]? =some x:=λx=>by
     have:d.toNat<cb.length:=by
      rcases aD d.toNat cb.length with k|k
      ·exact k
      ·rw[aK k]at ca;simp at ca
     rw[bQ];simp[this]
    have bH:∀A,(dQ a6 D A).get aE=some ⟨3,et,gw,fl,false,cb⟩:=λA=>by rw[dE l,ao (by simpa using eb)];exact a8
    have e0:=λA z=>mv (bH A) (show 1≠aE by simpa using gk) z;have er:=λ(f:dS->dS) (u:(f V).d8=V.d8)=>c.pK rfl l K f (rv:=rv) (by rw[u];exact U) ap;rcases g with rfl|rfl|rfl|rfl
    ·have cp:=(er (λj=>{j with iF:=-1}) rfl).ox rfl (bH _) J (λx=>{x with iv:=3});have bn:=cp.ox (me:=(λx=>{x with iv:=3}) me) rfl ((dE (bH _) _ _).trans (aq rfl)) (i:=d.toNat) (by simp[J]) (λx=>{x with cond:=e});simp only[AK,List.set_set]at bn;simp[I,F,eu,c.g1,E,e2,bl,c9,l,a8,s,ca,m,dk,md,c.ok.hp,bz,eD,ea,eb,eR,e0];exact⟨_,_,_,show em q a d 16 e r=((a.pK o.ke λj=>{j with iF:=-1}).ox d (λx=>{x with iv:=3,cond:=e}),0)by simp[em,eE],bn⟩
    ·have cp:=(er (λj=>{j with iF:=d}) rfl).ox rfl (bH _) J (λx=>{x with iv:=2});have bn:=cp.ox (me:=(λx=>{x with iv:=2}) me) rfl ((dE (bH _) _ _).trans (aq rfl)) (i:=d.toNat) (by simp[J]) (λx=>{x with cond:=0});simp only[AK,List.set_set]at bn;simp[I,F,eu,c.g1,E,e2,bl,c9,l,a8,s,ca,m,dk,md,c.ok.hp,bz,eD,ea,eb,eR,e0];exact⟨_,_,_,show em q a d 17 e r=((a.pK o.ke λj=>{j with iF:=d}).ox d (λx=>{x with iv:=2,cond:=0}),0)by simp[em,eE],bn⟩
    ·simp[F,c.g1];refine gJ Bu dp ⟨a,_,_,_,e⟩ ⟨rfl,c.sy.g3,ht,c.ok⟩ ?_;rintro M Z ⟨v,P,_⟩;simp only at v;have O:=c.nb P;have dn:=A3 e a.dB 0;have R:=λaX:H=>v.len (cx:=cx) aX pX _ rfl;rw[aH]at R;simp[R];refine dU (λan=> ?_) (λan=> ?_)
     ·have bT:0<(gU e a.dB 0).length:=by simpa using an
      obtain⟨p,b6,b7⟩:=v.idx (te:=FI) rfl rfl (i:=0) (x:= dw (gU e a.dB 0)[0]) (by simp[bT]) rfl;have fA:=v.ry (f:=T.int .i64) (λ_=>by simp) (λ_=>rfl);have fb:=λ{tb:fq} (ht:tb.p 56=some Bi)=>Ph ht (gU e a.dB 0) r dj;have eI:(gU e a.dB 0).headD (-1)=(gU e a.dB 0)[0]:=by
       clear b6 b7 v R dn;generalize gU e a.dB 0=j at*
       cases j with
       |nil=>simp at bT
       |cons x j=>simp
      simp[eA,b6,b7,fA,fb];have L:∃y:Nat,xw e r a.dB=y/\y<a.dB.length:=by
       have bN:xw e r a.dB∈gU e a.dB 0:=by
        unfold xw;split
        ·assumption
        ·rw[eI];exact aF bT
       obtain⟨y,B,Q⟩:=so bN;exact⟨y,by simpa using B,Q⟩
      obtain⟨y,dm,Q⟩:=L;refine lh (λC ae=>ae=Z/\dz C 17 (dw y)/\dz C 7 (.ptr 1 0 0 0)/\dz C 12 (.ptr 2 0 0 0)) (λan=> ?_) (λan=> ?_) ?_
      ·simp[eA];rw[<-dm];unfold xw;rw[aq (by simpa using an)]
      ·simp;rw[<-dm,<-eI];unfold xw;rw[ao (by simpa using an)]
      ·rintro C _ ⟨rfl,fE,Y,X⟩;obtain⟨N,L⟩:∃N,a.dB[y]? =some N:=⟨_,az Q⟩;obtain⟨e7,fe,gy,fm,gz,bB,bi,ds,gd⟩:=O.sy.g3.at (x:=N.t) (i:=y) (by simp[L]);simp at bB;obtain⟨rfl,rfl⟩:=bB;simp[Y,X,fE,O.g1,bi,ds,Q];exact⟨_,_,_,show em q a d 18 e r=(a.ox y (j7 4),(y:Int))by
        rw[<-dm];unfold em;simp;intro u;rw[u]at bT;simp at bT,O.ox rfl bi L (j7 4)⟩
     ·have gj:gU e a.dB 0=[]:=by
       have:¬0<(gU e a.dB 0).length:=by simpa using an
       exact aY dj
      simp;exact⟨_,_,_,show em q a d 18 e r=(a,-1)by simp[em,gj],O⟩
    ·simp[F,c.g1];refine gJ Bu dp ⟨a,_,_,_,e⟩ ⟨rfl,c.sy.g3,ht,c.ok⟩ ?_;rintro M Z ⟨v,P,gv⟩;simp only at v;have O:=c.nb P;have dn:=A3 e a.dB 0;have R:=λaX:H=>v.len (cx:=cx) aX pX _ rfl;rw[aH]at R;have eO:∀x∈gU e a.dB 0,∃y:Nat,x=y/\y<a.dB.length:=λx s=>by
      obtain⟨y,B,Q⟩:=so s;exact⟨y,by simpa using B,Q⟩
     have c6:=QT e a.dB [];simp only[List.nil_append,cR]at c6;have b9:∃j,j=gU e a.dB 0:=⟨_,rfl⟩;obtain⟨j,b9⟩:=b9;rw[<-b9]at v dn eO c6 R;simp;refine fc j.length dj (λi C h'=>Bs (.arr D ep 0 es.length false) c2 (.arr aE et 0 a.dB.length false) h' es {a with dB:=Lr a.dB (j.take i)} 1/\oO h' 1 M (ge j)/\dz C 7 (.ptr 1 0 0 0)/\dz C 12 (.ptr 2 0 0 0)/\dz C 18 M/\dz C 19 (dw i)) ?_ ?_ dj ⟨by simpa[Lr]using O,v,dp⟩
     ·rintro i C h' m fS ⟨aN,ec,Y,X,cL,c1⟩;obtain⟨y,Q,eN⟩:=eO j[i] (aF m);obtain⟨N,L⟩:∃N,(Lr a.dB (j.take i))[y]? =some N:=⟨_,az (by rw[QS];exact eN)⟩;obtain⟨e7,fe,gy,fm,gz,bB,bi,ds,gd⟩:=aN.sy.g3.at (x:=N.t) (i:=y) (by simp[L]);simp at bB;obtain⟨rfl,rfl,_⟩:=bB;obtain⟨p,b6,b7⟩:=ec.idx (te:=FI) rfl rfl (i:=i) (x:= dw y) (by simp[m,Q]) rfl;have e6:=aN.ox rfl bi L (j7 4);simp[Y,X,cL,c1,R,m,b6,b7,aN.g1,bi,ds,eN,fS];refine⟨?_,ec.mono λo u=>by rw[dE bi,ao (by have:=gv o u;omega)]⟩;rw[N8 a.dB j m,Q];exact e6
     ·rintro C h' ⟨aN,ec,Y,X,cL,c1⟩;rw[aL]at aN;simp[Y,X,cL,c1,R];exact⟨_,_,_,show em q a d 19 e r=({a with dB:=Lr a.dB j},(j.length:Int))by rw[c6];simp[em,<-b9],aN⟩
   ·have G:=vP bS g;rw[<-eX]at G;obtain⟨N,L,gi⟩:=im G;have E:=ed (ff.1 G).1;rcases g with rfl|rfl
    ·obtain⟨D,ep,av,ex,aA,w,l,s,m⟩:=c.sy.g3.at (x:=N.t) (i:=e.toNat) (by simp[L]);rw[aH]at w m;subst w;simp[F,c.g1,E,l,s,m];exact⟨_,_,_,show em q a d 20 e r=(a.ox e (j7 1),0)by simp[em],c.ox rfl l L (j7 1)⟩
    ·simp;exact⟨_,_,_,show em q a d 21 e r=(a,0)by simp[em],c⟩
   ·have G:=qu bS g;rw[<-gp]at G;obtain⟨N,L,gi⟩:=im G;have E:=ed (ff.1 G).1;rcases g with rfl|rfl
    ·obtain⟨D,ep,av,ex,aA,w,l,s,m⟩:=c.sy.g2.at (x:= .bool N) (i:=e.toNat) (by simp[L]);rw[aH]at w m;subst w;simp[F,c.g1,E,l,s,m];exact⟨_,_,_,show em q a d 22 e r=({a with done:=a.done.set e.toNat true},0)by simp[em],c.Ws rfl l e.toNat true⟩
    ·simp;exact⟨_,_,_,show em q a d 23 e r=(a,0)by simp[em],c⟩
  ·rintro C ae ⟨n,⟨S,fi,ver,fY,W⟩,Y,X,fC⟩;obtain⟨gP,gQ,gS⟩:=W.sy.fz;have fB:∀A,(dQ ae 2 A).get 2=some A:=λA=>(dE W.g2 A _).trans (aq rfl);have ce:∀A,AB 3 ae.size (dQ ae 2 A) c0 c2 c3 fi S:=λA=>W.sy.mono (au _) λo u _=>by rw[dE W.g2,ao dj]
   have fo:=λA=>(ce A).fz.1;have fs:=λA=>(ce A).fz.2.1;have fv:=λA=>(ce A).fz.2.2;simp[Y,X,fC,W.g1,W.g2,fB,dP,fo,fs,fv,fY,W.ok.hp]
end
end Go.Proofs.YtmaeadedikngoaaGreatDoor
