/- Texts W01e to TiCopy. -/
import Derived.Test.YtmaeadedikngoaaGreatDoorA15
set_option linter.all false
set_option maxRecDepth 100000
set_option maxHeartbeats 8000000
namespace Go.Proofs.YtmaeadedikngoaaGreatDoor
noncomputable section
open Go Go.TI
attribute [-simp] List.map_take List.map_drop List.map_append fH fh ej Bool.not_or Bool.not_and
attribute [simp] fG fj
def xF:kU:=⟨λe a=>∃d c b f i,e=[.ptr b 0 0 0,.str i]/\Mk d c a b f/\c<=100,λ_ a h g=>g=a/\EM h⟩
def RZ:xF.Ok Tryz.prog cx 212:=by
 refine IK (tb:=⟨pt [(110,Bf)],ht []⟩) fc fa (je 19 [] Tryz.func212) false (λ_ _=>5) (λq a k=>by obtain⟨e,o,n,f,p,rfl,_⟩:=k;simp[Tryz.f212]) ?_;rintro _ a ⟨e,o,n,f,p,rfl,d,s⟩ y c;simp at c;obtain⟨i,j⟩:=c;obtain⟨x,v,left,set,w,r,u,t,l,b,h,hl⟩:=d.ex;simp only[so]at b;have m:=(h.mono (h':=hr a) λg _=>gF a g).rn dC;simp[Tryz.f212,i,j,b,m,Nr,show l.length<=1099511627776 by omega];exact qf a _ _ d.ok.hp (Fr.refl _ _) rfl ⟨rfl,dC⟩
def aeG{d:H}{b:Nat->Prop}(h:dR)(c:Nat):iG (FT d b (c+1)) h.cs h.cs:=by
 have f:∀a:List dX,FT d b (c+1) (sl (a.map dX.t)) (sl (a.map dX.t)):=λa=>o7 _ _ _ λi e=>by obtain⟨j,_,rfl⟩:=List.mem_map.1 e;simp
 have g:∀a:List dR,FT d b (c+1) (sl (a.map dR.t)) (sl (a.map dR.t)):=λa=>o7 _ _ _ λi e=>by obtain⟨j,_,rfl⟩:=List.mem_map.1 e;simp
 exact .cons (f9 ..) (.cons (f9 ..) (.cons (kj ..) (.cons (kj ..) (.cons (f _) (.cons (f9 ..) (.cons (f9 ..) (.cons (kj ..) (.cons (f _) (.cons (g _) (.cons (g _) .nil))))))))))
def HB{i:UV}{args:List T}{a c:H}{r:iY}{cs:List T}{s:dR}(e:Lb i.m c a.size r)(g:Mk i.L i.n c i.m i.b)(p:Step i.m (TI.hr a) c)(hl:cs.length=11)(j:iG (FT c (Nw (a.size+1) c.size c i.m .kw) (2*i.d+3)) cs s.cs)(k:MS s)(o:s.w<=wd i.d):
 (d8 c a.size (dI 11 1 [.agg cs])).get a.size=some (dI 11 1 [.agg cs])/\Ff i args a (.agg cs) (lM a (d8 c a.size (dI 11 1 [.agg cs]))):=by
 have l:(d8 c a.size (dI 11 1 [.agg cs])).get i.m=c.get i.m:=by rw[dQ e.get,ao (bm e.ne)]
 have q:=Step.sk g.ok e (dI 11 1 [.agg cs]) _ p (au _);refine⟨(dQ e.get _ _).trans (aq rfl),cs,s,rfl,hl,?_,k,o,(g.sk e _).out,q.out⟩;refine .inr (.inr ⟨cs,s.cs,rfl,j.ft λh f=>⟨⟨by have:=f.1;omega,by have:=f.2.1;simp;omega,?_,KZ h⟩,?_⟩,s.nD⟩)
 ·rw[iV (fQ a _ i.m),iV l];exact f.2.2.1
 ·rw[fQ,dQ e.get,ao (by have:=f.1;omega)]
def Dl(c:List Nat)(b:List dX)(a:dX):dR:=⟨1,0,c,[],b,a,[],[]⟩
def C9{d:List Nat}{b:List dX}{c:dX}(g:∀i∈b,ME i)(f:ME c)(h:b≠ []->d=[113]):MS (Dl d b c):=
 .mk (λa=>by unfold Dl at a;simp at a) (λ_ a=>h a) g (λ_=>f) (λe a=>by unfold Dl at a;simp at a) (λe a=>by unfold Dl at a;simp at a)
def Ly{nm:List Nat}{ix:List dX}{e:dX}{d:Nat}(a:dX.ws ix<=20)(b:e.w<=20):(Dl nm ix e).w<=wd d:=by
 have:=BA d;rw[dR.lr];unfold Dl;simp only[dR.rV,dR.JX,dR.uU,dR.xV,dR.iQ];omega
def mf{i:UV}{args:List T}{c d:H}{k:iY}{nm:List Nat}{a:dX}(g:Lb i.m d c.size k)(h:Mk i.L i.n d i.m i.b)(j:Step i.m (TI.hr c) d)(e:ME a)(f:a.w<=20):
 (d8 d c.size (dI 11 1 [.agg [dG 1,dG 0,.str nm,.str [],sl [],dG a.op,dG a.n,.str a.name,sl (a.l.map dX.t),sl [],sl []]])).get c.size=some (dI 11 1 [.agg [dG 1,dG 0,.str nm,.str [],sl [],dG a.op,dG a.n,.str a.name,sl (a.l.map dX.t),sl [],sl []]])/\
 Ff i args c (.agg [dG 1,dG 0,.str nm,.str [],sl [],dG a.op,dG a.n,.str a.name,sl (a.l.map dX.t),sl [],sl []]) (lM c (d8 d c.size (dI 11 1 [.agg [dG 1,dG 0,.str nm,.str [],sl [],dG a.op,dG a.n,.str a.name,sl (a.l.map dX.t),sl [],sl []]]))):=
 HB (s:=Dl nm [] a) g h j rfl (aeG (Dl nm [] a) _) (C9 dC e (λc=>absurd rfl c)) (Ly (by rw[dX.iQ];omega) f)
def _root_.Go.TI.Lb.put{d:Nat}{b:H}{a c:Nat}{x g:iY}(f:Lb d b a x)(l2:Lb d b c g)(e:a≠c)(h:iY):Lb d (d8 b c h) a x:=f.kS (by rw[dQ l2.get,ao (bm l2.ne)]) (by rw[dQ l2.get,ao e])
def T8{n:List Int}{q:Nat}{k b:H}{c o a:Nat}{w:iY}(p:Mk n q b c o)(e:Lb c b a w)(v:Step c (TI.hr k) b)(r:k.size<=a)(d:iY):
 Mk n q (d8 b a d) c o/\Lb c (d8 b a d) a d/\Step c (TI.hr k) (d8 b a d)/\(∀g m,g≠a->Lb c b g m->Lb c (d8 b a d) g m)/\∀i h j l f,SV i h b c j l f->a<i\/h<=a->SV i h (d8 b a d) c j l f:=
 ⟨p.sk e d,⟨(dQ e.get d a).trans (aq rfl),by rw[iV (show(d8 b a d).get c=b.get c by rw[dQ e.get,ao (bm e.ne)])];exact e.nf⟩,Step.sk p.ok e d _ v r,λg m s f=>f.put e s d,λi h j l f t u=>t.sk e u d⟩
def ly{o:List Int}{q:Nat}{m a:H}{b p:Nat}(g:Mk o q a b p)(s:Step b (TI.hr m) a)(c e:iY):
 Mk o q (d8 (a.cons c) a.size e) b p/\Lb b (d8 (a.cons c) a.size e) a.size e/\Step b (TI.hr m) (d8 (a.cons c) a.size e)/\(∀h l,Lb b a h l->Lb b (d8 (a.cons c) a.size e) h l)/\∀j f i k d,SV j f a b i k d->f<=a.size->SV j f (d8 (a.cons c) a.size e) b i k d:=by
 have n:=Step.cons g.ok g.lt c;have v:=Lb.new g.lt g.fp c;have t:m.size<=a.size:=by simpa using s.ok.sz
 obtain⟨w,x,y,z,A⟩:=T8 (g.cons c) v (s.trans n) t e;exact⟨w,x,y,λh l d=>z h l (by have:=d.lt;omega) (d.step n),λj f i k d u r=>A j f i k d (u.step n r) (.inr r)⟩
def SV.gc{h e:Nat}{d:H}{i c:Nat}{a:T}{g:List dR}(f:SV h e d i c a g):a.im=true/\a.cells=[a]:=by
 obtain⟨j,b,_⟩:=f;exact⟨b.im,b.cells⟩
def SV.cell{g e c d:Nat}{b:H}{h a:Nat}{i:T}{f:List dR}(l:SV g e b h (2*a+2) i f)(j:c<=g)(k:e<=d):FT b (Nw c d b h .kw) (2*(a+1)+3) i (sl (f.map dR.t)):=by
 have:=(l.wide j k).ft;rw[show 2*(a+1)+3=2*a+2+3 by omega];exact this
def wX{a:List dR}{W:Nat}(c:∀b∈a,MS b/\b.w<=W):dR.ws a<=a.length*W:=by
 induction a with
 |nil=>rw[dR.iQ];omega
 |cons f a e=>
  have g:=e λb d=>c b (cG _ d);have h:=(c f dC).2;rw[dR.j9,bh,bX];omega
def pN{k:List Int}{c m o d cnt:Nat}{args:List T}{a b:H}{p:iY}{op:Int}{nm:List Nat}{e:dX}{f g h:T}{j le:List dR}(z:Lb c b a.size p)(A:Mk k o b c m)(B:Step c (TI.hr a) b)
 (q:FT b (Nw (a.size+1) b.size b c .kw) (2*(d+1)+3) g (sl (j.map dR.t))) (r:FT b (Nw (a.size+1) b.size b c .kw) (2*(d+1)+3) h (sl (le.map dR.t))) (u:FT b (Nw (a.size+1) b.size b c .kw) (2*(d+1)+3) f (sl (e.l.map dX.t)))
 (D:2<=op/\op<=8) (hE:op<=3->ME e) (E:e.w<=20) (v:∀s∈j,MS s) (x:∀s∈le,MS s) (C:dR.ws j+dR.ws le<=5*wd d):
 (d8 b a.size (dI 11 1 [.agg [dG op,dG 0,.str nm,.str [],dH,dG e.op,dG e.n,.str e.name,f,g,h]])).get a.size=some (dI 11 1 [.agg [dG op,dG 0,.str nm,.str [],dH,dG e.op,dG e.n,.str e.name,f,g,h]])/\
 Ff ⟨k,c,m,o,d+1,cnt⟩ args a (.agg [dG op,dG 0,.str nm,.str [],dH,dG e.op,dG e.n,.str e.name,f,g,h]) (lM a (d8 b a.size (dI 11 1 [.agg [dG op,dG 0,.str nm,.str [],dH,dG e.op,dG e.n,.str e.name,f,g,h]]))):=
 HB (i:=⟨k,c,m,o,d+1,cnt⟩) (s:=⟨op,0,nm,[],[],e,j,le⟩) z A B rfl
  (.cons (f9 ..) (.cons (f9 ..) (.cons (kj ..) (.cons (kj ..) (.cons (jh ..) (.cons (f9 ..) (.cons (f9 ..) (.cons (kj ..) (.cons u (.cons q (.cons r .nil)))))))))))
  (.mk (λa=>by simp at a;omega) (λa=>by simp at a;omega) (λp y=>by simp at y) (λa=>by simp at a;exact hE dB) v x)
  (by
    have:=BA d;rw[dR.lr,Kv];simp only[dR.rV,dR.JX,dR.uU,dR.xV,dX.iQ];omega)
def SV.deep{f d:Nat}{c:H}{g a b:Nat}{h:T}{e:List dR}(m:SV f d c g a h e)(o:a<=b):SV f d c g b h e:=by
 obtain⟨j,l,i,n⟩:=m;exact⟨j,l,i.imp λ_ _ k=>k.deep dB,n⟩
def YA(a:Nat):wd 0<=wd a:=BA a
def SV.lit{g:List Int}{m:Nat}{a:H}{b j d:Nat}{es:List T}{l:List dR}(e:Mk g m a b j)(i:∀k h,iG (FT k h (d+2)) es (l.map dR.t)):SV a.size (a.size+1) (a.cons ⟨11,0,0,true,false,es⟩) b d (.arr a.size 0 0 es.length false) l:=by
 refine⟨es,.inr ⟨a.size,0,0,true,es,rfl,by rw[dW,aq rfl],aL⟩,i _ _,λn f=> ?_⟩;simp at f;subst f;refine⟨au _,dg _,λc=> ?_⟩;rw[iV (show(a.cons ⟨11,0,0,true,false,es⟩).get b=a.get b by rw[dW,ao (by have:=e.lt;omega)])]at c;have:=e.fp _ c;omega
def A6(a:Int):dR:=⟨a,0,[99],[],[],⟨0,0,[],[]⟩,[],[]⟩
def Qd{d:H}{b:Nat->Prop}(a:Int)(c:Nat):FT d b (c+2) (.agg [dG a,dG 0,.str [99],.str [],dH,dG 0,dG 0,.str [],dH,dH,dH]) (A6 a).t:=
 .inr (.inr ⟨_,(A6 a).cs,rfl,.cons (f9 ..) (.cons (f9 ..) (.cons (kj ..) (.cons (kj ..) (.cons (jh ..) (.cons (f9 ..) (.cons (f9 ..) (.cons (kj ..) (.cons (jh ..) (.cons (jh ..) (.cons (jh ..) .nil)))))))))),dR.nD _⟩)
def Qc{c:Int}(e:9<=c/\c<=11):MS (A6 c):= .mk (λ_=>rfl) (λb=>by unfold A6 at b;simp at b;omega) (λd a=>by unfold A6 at a;simp at a) (λb=>by unfold A6 at b;simp at b;omega) (λd a=>by unfold A6 at a;simp at a) (λd a=>by unfold A6 at a;simp at a)
def UI(a:Int):(A6 a).w=5:=by
 rw[dR.lr,dX.lr];unfold A6;simp only[dR.rV,dR.JX,dR.uU,dR.xV,dR.iQ,dX.iQ,dX.Fw]
def BJ{b c a:Int}(d:b-c=a)(e: -9223372036854775808<=a)(f:a<9223372036854775808):binop .sub (dG b) (dG c)=some (dG a):=by
 subst d;rw[uv,<-jI,jL e f]
def za{b c a:Int}(d:b+c=a)(e: -9223372036854775808<=a)(f:a<9223372036854775808):binop .add (dG b) (dG c)=some (dG a):=by
 subst d;rw[oh,<-jI,jL e f]
def aaA(k:Nat)(cX:(Vo k).Ok Tryz.prog cx 118)(ds:(rBk k).Ok Tryz.prog cx 213):(rMt (k+1)).Ok Tryz.prog cx 165:=by
 obtain⟨gp,cL⟩:=hlB RZ λ_ _ _ _ I=>I;have O:=O6 11;refine jv (tb:=⟨pt [(120,G6),(211,I5),(210,I6),(119,I8)],ht [(63,jF zf uF rM),(209,N4 11),(118,Vo k),(213,rBk k),(212,xF)]⟩) fc fa (je 521481210427296124309566527199867809678935259509485941609668421502669740186866579200068820979 [(5,[(0,5),(2,5),(3,5)]),(7,[(0,5),(0,9),(6,9),(7,9)])] Tryz.func165) (λ_ _=>10) (λi a I fv=>by obtain⟨⟨rfl,_⟩,_⟩:=fv;simp[Tryz.f165]) ?_;rintro⟨o,b,p,r,d,cnt⟩ _ I ⟨⟨rfl,bC,E,fb,fo,e9⟩,fe⟩ gV eC;simp only at bC E fb fo e9 fe;simp at eC;obtain⟨u,bk⟩:=eC;have eE:(b=I.size)=False:=by have:=bC.lt;simp;omega
 have F:=Step.cons bC.hr.ok bC.hr.lt (dI 11 0 [.agg [dG 0,dG 0,.str [],.str [],dH,dG 0,dG 0,.str [],dH,dH,dH]]);have D:Lb b _ I.size _:=Lb.new bC.hr.lt bC.hr.fp (dI 11 0 [.agg [dG 0,dG 0,.str [],.str [],dH,dG 0,dG 0,.str [],dH,dH,dH]]);have eb:=bC.hr.cons (dI 11 0 [.agg [dG 0,dG 0,.str [],.str [],dH,dG 0,dG 0,.str [],dH,dH,dH]]);obtain⟨b8,ap,left,set,N,al,aE,bN,G,C,X,hl⟩:=eb.ex;obtain⟨dd,cb⟩:=eb.set (th':=ap) (left':=IntKind.i64.wrap (left-1)) (se':=set) (tx':=N) (at2:=al) (lp':=aE) C X hl;replace D:=D.step dd;replace F:=F.trans dd;simp only[so]at C dd cb D F;have di:=C;rw[dW,nV,ao (by have:=bC.lt;omega),gF]at di;simp[Tryz.f165,u,di,eE,uv,ed];generalize d8 ((hr I).cons _) b _=gv at*
 clear C di X eb dd eE;obtain⟨b8,ap,left,set,N,al,aE,bN,G,C,X,hl⟩:=cb.ex;simp only[so]at C;simp[C];refine r8 dC cb.tp cb.ok dB dB E λW V gz t2 eP=> ?_;obtain⟨c,ef⟩:=cb.tape eP t2;replace D:=D.step ef;replace F:=F.trans ef;clear C X cb t2 eP ef hl;obtain⟨b8,ap,left,set,N,al,aE,bN,G,C,X,hl⟩:=c.ex;have c6:=C;simp only[so]at C;simp[u,bk,C];rcases(by omega:W=0\/W=1\/W=2\/W=3\/W=4\/W=5\/W=6\/W=7\/W=8\/W=9\/W=10\/W=11\/W=12\/W=13\/W=14\/W=15\/W=16\/W=17)with rfl|rfl|rfl|rfl|rfl|rfl|rfl|rfl|rfl|rfl|rfl|rfl|rfl|rfl|rfl|rfl|rfl|rfl
 iterate 4
  ·simp[u];have K:=c.cons (dI 1 0 [.str [120],.str [121],.str [120],.str [118]]);have M:=Step.cons c.ok c.lt (dI 1 0 [.str [120],.str [121],.str [120],.str [118]]);refine kZ O dC ⟨o,b,p,r,1⟩ ⟨⟨rfl,K,E,dC⟩,dC⟩ ?_;rintro _ hE ⟨e,rfl,A,B,j,f⟩;simp only at B j f;obtain⟨z,g⟩:=K.tape f j;have m:=(D.step M).step g;have fin:=λnm=>mf (i:=⟨o,b,p,r,d,cnt⟩) (args:=[.ptr b 0 0 0,dG d]) (nm:=nm) m z ((F.trans M).trans g) A dB;have er:ff (V.cons (dI 1 0 [.str [120],.str [121],.str [120],.str [118]])) hE V.size=true:=fk (f.get _ (by have:=c.tp.lt;omega));simp[sq,m.get,er,λnm=>(fin nm).1];exact(fin _).2
 ·have fl:(b=V.size)=False:=by have:=c.lt;simp;omega
  simp[u,C,fl];have K:=c.cons (dI 1 0 [.str [97],.str [98]]);have M:=Step.cons c.ok c.lt (dI 1 0 [.str [97],.str [98]]);refine Kd dC K.tp K.ok dB dB E λY bB ca t4 aN=> ?_;obtain⟨ae,bz⟩:=K.tape aN t4;have gO:bB.get V.size=some (dI 1 0 [.str [97],.str [98]]):=(aN.get _ (by have:=c.tp.lt;omega)).trans dC;have gn:ff (V.cons (dI 1 0 [.str [97],.str [98]])) bB V.size=true:=fk (aN.get _ (by have:=c.tp.lt;omega));obtain⟨nm,e5⟩:∃nm:List Nat,([.str [97],.str [98]]:List T)[Y]? =some (.str nm):=by
   rcases(by omega:Y=0\/Y=1)with rfl|rfl<;>exact⟨_,rfl⟩
  generalize([.str [97],.str [98]]:List T)=e4 at*
  have ca:Y<2:=dB;simp[u,gO,e5,ca,gn];refine kZ O dC ⟨o,b,p,r,1⟩ ⟨⟨rfl,ae,E,dC⟩,dC⟩ ?_;rintro _ hE ⟨e,rfl,A,B,j,f⟩;simp only at B j f;obtain⟨z,g⟩:=ae.tape f j;have m:=((D.step M).step bz).step g;have fin:=mf (i:=⟨o,b,p,r,d,cnt⟩) (args:=[.ptr b 0 0 0,dG d]) (nm:=nm) m z (((F.trans M).trans bz).trans g) A dB;have er:ff bB hE V.size=true:=fk (f.get _ (by have:=c.tp.lt;omega));have gS:ff (V.cons ⟨1,0,0,true,false,e4⟩) hE V.size=true:=fk ((f.get _ (by have:=c.tp.lt;omega)).trans (aN.get _ (by have:=c.tp.lt;omega)));simp[sq,m.get,er,fin.1];exact fin.2
 ·simp[u];refine iu O dC ⟨o,b,p,r,0⟩ ⟨⟨rfl,c,E,dC⟩,dC⟩ ?_;rintro _ hE ⟨e,rfl,A,B,j,f⟩;simp only at B j f;obtain⟨z,g⟩:=c.tape f j;have eO:=z.cons (dI 4 0 [e.t]);have eU:=Step.cons z.ok z.lt (dI 4 0 [e.t]);simp[u];refine iu O dC ⟨o,b,p,r,1⟩ ⟨⟨rfl,eO,E,dC⟩,dC⟩ ?_;rintro _ eA ⟨cy,rfl,e7,fA,eX,c9⟩;simp only at fA eX c9;obtain⟨fY,eh⟩:=eO.tape c9 eX;have eM:=((D.step g).step eU).step eh;have gB:=g.ok.sz;have gI:=D.lt;have e6:eA.get hE.size=some (dI 4 0 [e.t]):=(c9.get _ (by have:=z.tp.lt;omega)).trans dC;have fB:=c9.size;simp at fB;have fs:¬Fp eA b hE.size:=λq=>by
   rcases eh.fp _ q with q|q
   ·rw[iV (show(hE.cons (dI 4 0 [e.t])).get b=hE.get b by rw[dW,ao (by have:=z.lt;omega)])]at q;have:=z.fp _ q;omega
   ·simp at q;omega
  have fin:=HB (i:=⟨o,b,p,r,d,cnt⟩) (args:=[.ptr b 0 0 0,dG d]) (cs:=[dG 1,dG 0,.str [113],.str [],.arr hE.size 0 0 1 false,dG cy.op,dG cy.n,.str cy.name,sl (cy.l.map dX.t),dH,dH]) (s:=Dl [113] [e] cy) eM fY (((F.trans g).trans eU).trans eh) rfl
   (.cons (f9 ..) (.cons (f9 ..) (.cons (kj ..) (.cons (kj ..) (.cons (.inr (.inl ⟨hE.size,0,0,1,false,[e.t],[e.t],rfl,⟨dB,dB,fs,KZ _⟩,by rw[gH,e6];simp,.cons (e.ft _) .nil,rfl⟩)) (.cons (f9 ..) (.cons (f9 ..) (.cons (kj ..) (.cons (o7 _ _ _ λx bu=>by obtain⟨y,_,rfl⟩:=List.mem_map.1 bu;simp) (.cons (jh ..) (.cons (jh ..) .nil)))))))))))
   (C9 (by simpa using A) e7 dC) (Ly (by rw[dX.j9,dX.iQ];omega) dB)
  simp[eM.get,fin.1];exact fin.2
 ·simp[bk];refine em (λa6=> ?_) (λa6=> ?_)
  ·simp at a6;obtain⟨d,rfl⟩:∃e,d=e+1:=⟨d-1,dB⟩;have av:binop .sub (dG ((d:Int)+1)) (dG 1)=some (dG d):=by
    rw[uv,<-jI,jL dB dB];simp
   simp[u];refine iu O dC ⟨o,b,p,r,1⟩ ⟨⟨rfl,c,E,dC⟩,dC⟩ ?_;rintro _ hE ⟨e,rfl,A,B,j,f⟩;simp only at B j f;obtain⟨z,g⟩:=c.tape f j;simp[u,bk,av];refine iu cX dC ⟨o,b,p,r,d,1⟩ ⟨⟨rfl,z,E,dE,dE,dC⟩,dE⟩ ?_;rintro v an ⟨l,sv,H,P,Q,L⟩;simp only at sv H P Q L;have Z:=(D.step g).step L;have bp:=(F.trans g).trans L;have S:=sv.gc;obtain⟨uJ,bi,bz,bS,b7⟩:=ly Q bp (dI 11 0 [.agg [dG 0,dG 0,.str [],.str [],dH,dG 0,dG 0,.str [],dH,dH,dH]]) (dI 11 1 [.agg [dG 2,dG 0,.str [],.str [],dH,dG e.op,dG e.n,.str e.name,sl (e.l.map dX.t),v,dH]]);have bn:=bS _ _ Z;have b6:=b7 _ _ _ _ _ sv (au _);obtain⟨b8,ap,left,set,N,al,aE,bN,G,C,X,hl⟩:=uJ.ex;simp only[so]at C;simp[u,S.1,S.2,C];generalize d8 (an.cons _) an.size _=c7 at*
   refine r8 dC uJ.tp uJ.ok dB dB E λY bB ca t4 aN=> ?_;obtain⟨ae,aX⟩:=uJ.tape aN t4;have l4:=bi.step aX;have dv:=bn.step aX;have bH:=bz.trans aX;have gM:=uJ.lt;have fC:an.size<c7.size:=bi.lt;have eW:=b6.step aX dB;have gE:=aN.size;have gw:I.size<an.size:=Z.lt;have eB:I.size<hE.size:=(D.step g).lt;simp;refine em (λfi=> ?_) (λfi=> ?_)
   ·simp[u,bk,av];refine iu cX dC ⟨o,b,p,r,d,1⟩ ⟨⟨rfl,ae,E,dE,dE,dC⟩,dE⟩ ?_;rintro gm gy ⟨l2,eo,dn,eF,mkV,Va⟩;simp only at eo dn eF mkV Va;have eu:=eo.gc;obtain⟨gd,fE,bT,gg,e0⟩:=T8 mkV (l4.step Va) (bH.trans Va) dB (dI 11 2 [.agg [dG 2,dG 0,.str [],.str [],dH,dG e.op,dG e.n,.str e.name,sl (e.l.map dX.t),v,gm]]);have eN:=gg _ _ dB (dv.step Va);have gi:=e0 _ _ _ _ _ (eW.step Va dB) (.inr (au _));have gj:=e0 _ _ _ _ _ eo (.inl dB);have gP:=Va.ok.sz;have fin:=pN (cnt:=cnt) (args:=[.ptr b 0 0 0,dG (d+1:Nat)]) (op:=2) (nm:=[]) (e:=e) eN gd bT (gi.cell eB dD) (gj.cell dB dC) (o7 _ _ _ λx bu=>by obtain⟨y,_,rfl⟩:=List.mem_map.1 bu;simp) dB (λ_=>A) dB (λs G=>(H s G).1) (λs G=>(dn s G).1) (by
     have b9:=wX H;have gX:=wX dn;have:=aY (wd d) P;have:=aY (wd d) eF;omega)
    simp[(l4.step Va).get,fE.get,ed,eu.1,eu.2,eN.get,fin.1];exact fin.2
   ·have fin:=pN (cnt:=cnt) (args:=[.ptr b 0 0 0,dG (d+1:Nat)]) (op:=2) (nm:=[]) (e:=e) (le:=[]) dv ae bH (eW.cell eB dB) (jh _ _ _ false) (o7 _ _ _ λx bu=>by obtain⟨y,_,rfl⟩:=List.mem_map.1 bu;simp) dB (λ_=>A) dB (λs G=>(H s G).1) dC (by
     have b9:=wX H;have:=aY (wd d) P;rw[dR.iQ];omega)
    simp[l4.get,dv.get,ed,fin.1];exact fin.2
  ·simp[u];refine iu O dC ⟨o,b,p,r,1⟩ ⟨⟨rfl,c,E,dC⟩,dC⟩ ?_;rintro _ hE ⟨e,rfl,A,B,j,f⟩;simp only at B j f;obtain⟨z,g⟩:=c.tape f j;have m:=D.step g;have fin:=mf (i:=⟨o,b,p,r,d,cnt⟩) (args:=[.ptr b 0 0 0,dG d]) (nm:=[120]) m z (F.trans g) A dB;simp[sq,m.get,fin.1];exact fin.2
 ·simp[bk];refine em (λa6=> ?_) (λa6=> ?_)
  ·simp at a6;obtain⟨d,rfl⟩:∃e,d=e+1:=⟨d-1,dB⟩;have av:binop .sub (dG ((d:Int)+1)) (dG 1)=some (dG d):=by
    rw[uv,<-jI,jL dB dB];simp
   obtain⟨M,K⟩:=c.set (th':=ap) (left':=left) (se':=set) (tx':=N) (at2:=al) (lp':=true) c6 X hl;simp only[so]at M K;simp[u,C,ed];generalize d8 V b _=dk at*
   have aA:=D.step M;have bp:=F.trans M;simp[u,bk,Ta,Tb,W7,av];refine iu cX dC ⟨o,b,p,r,d,1⟩ ⟨⟨rfl,K,E,dE,dE,dC⟩,dE⟩ ?_;rintro v an ⟨l,sv,H,P,Q,L⟩;simp only at sv H P Q L;have Z:=aA.step L;have bz:=bp.trans L;have ec:=Step.cons Q.ok Q.lt (dI 11 0 [(Dl [98] [] ⟨6,0,[],[⟨2,0,[98],[]⟩,⟨1,1,[],[]⟩]⟩).t]);have fC:=L.ok.sz;obtain⟨gk,ey,et,eV,fL,eR,_⟩:=(sv.step ec (au _)).app (Q.cons (dI 11 0 [(Dl [98] [] ⟨6,0,[],[⟨2,0,[98],[]⟩,⟨1,1,[],[]⟩]⟩).t])) (x:= .arr an.size 0 0 1 false) (xs:=[(Dl [98] [] ⟨6,0,[],[⟨2,0,[98],[]⟩,⟨1,1,[],[]⟩]⟩).t]) (l2:=[Dl [98] [] ⟨6,0,[],[⟨2,0,[98],[]⟩,⟨1,1,[],[]⟩]⟩]) dD dC (by rw[gH];simp) (.cons (dR.ft _ _) .nil) dC dC dD;have bH:=eR _ (bz.trans ec) (by simpa using bp.ok.sz);have l3:=aA.step (eR _ (L.trans ec) (au _));have S:=eV.gc;obtain⟨uJ,bi,bT,bS,b7⟩:=ly fL bH (dI 11 0 [.agg [dG 0,dG 0,.str [],.str [],dH,dG 0,dG 0,.str [],dH,dH,dH]]) (dI 11 1 [.agg [dG 3,dG 0,.str [],.str [],dH,dG 13,dG 0,.str [],sl [(dX.mk 2 0 [98] []).t,(dX.mk 1 2 [] []).t],gk,dH]]);have bn:=bS _ _ l3;have b6:=b7 _ _ _ _ _ eV (au _);simp only[Dl]at et;simp[u,Ta,Tb,W7,sq,et,S.1,S.2];generalize d8 (ey.cons _) ey.size _=c7 at*
   obtain⟨b8,ap,left,set,N,al,gQ,bN,G,C,X,hl⟩:=uJ.ex;obtain⟨U,c1⟩:=uJ.set (th':=ap) (left':=left) (se':=set) (tx':=N) (at2:=al) (lp':=aE) C X hl;have e8:=aA.lt;have eH:=bi.lt;have eI:=U.ok.sz;have fin:=pN (cnt:=cnt) (args:=[.ptr b 0 0 0,dG (d+1:Nat)]) (op:=3) (nm:=[]) (e:=⟨13,0,[],[⟨2,0,[98],[]⟩,⟨1,2,[],[]⟩]⟩) (le:=[]) (bn.step U) c1 (bT.trans U) ((b6.step U dB).cell e8 dB) (jh _ _ _ false) (o7 _ _ _ λx bu=>by obtain⟨y,_,rfl⟩:=List.mem_map.1 bu;simp) dB (λ_=> .bin dB (.nm _) (.num _)) (by simp[dX.lr,dX.j9,dX.iQ]) (λs G=>(List.mem_append.1 G).elim (λq=>(H s q).1) λq=>by rw[List.mem_singleton.1 q];exact C9 dC (.bin dB (.nm _) (.num _)) (λI=>absurd rfl I)) dC (by
    have b9:=wX H;have:=aY (wd d) P;have:=Ly (nm:=[98]) (ix:=[]) (e:=⟨6,0,[],[⟨2,0,[98],[]⟩,⟨1,1,[],[]⟩]⟩) (d:=d) (by rw[dX.iQ];omega) (by simp[dX.lr,dX.j9,dX.iQ]);rw[dR.II,dR.j9,dR.iQ];omega)
   have gT:=(bi.step U).get;have gR:=(bn.step U).get;simp only[so]at C gT gR fin;simp[C,gT,gR,ed];simp at fin;simp[fin.1];exact fin.2
  ·simp[u];refine iu O dC ⟨o,b,p,r,1⟩ ⟨⟨rfl,c,E,dC⟩,dC⟩ ?_;rintro _ hE ⟨e,rfl,A,B,j,f⟩;simp only at B j f;obtain⟨z,g⟩:=c.tape f j;have m:=D.step g;have fin:=mf (i:=⟨o,b,p,r,d,cnt⟩) (args:=[.ptr b 0 0 0,dG d]) (nm:=[120]) m z (F.trans g) A dB;simp[sq,m.get,fin.1];exact fin.2
 iterate 2
  ·by_cases J:(decide (0<d)&&decide (0<left)&& !N)=true
   ·simp at J;obtain⟨⟨a6,a7⟩,a8⟩:=J;subst a8;obtain⟨d,rfl⟩:∃e,d=e+1:=⟨d-1,dB⟩;have av:binop .sub (dG ((d:Int)+1)) (dG 1)=some (dG d):=by
     rw[uv,<-jI,jL dB dB];simp
    have K:=c.cons (dI 1 0 [.str [109],.str [110]]);have bs:=λ{tb:fN} (ht:tb.h 212=some xF) s=>cL ht [.ptr b 0 0 0,.str s] (V.cons (dI 1 0 [.str [109],.str [110]])) ⟨o,r,b,p,s,rfl,K,dB⟩;have M:=Step.cons c.ok c.lt (dI 1 0 [.str [109],.str [110]]);have aA:=D.step M;have ce:binop .sub (dG 8) (dG 8)=some (dG 0):=BJ dB dB dB;have cp:binop .sub (dG 9) (dG 8)=some (dG 1):=BJ dB dB dB;simp[u,a7,bs,ce,cp];refine em (λR=> ?_) (λR=> ?_)
    ·simp[u,bk,ce,cp];have fS:=K.cons (dI 1 0 [.str [109],.str [110]]);have eS:=Step.cons K.ok K.lt (dI 1 0 [.str [109],.str [110]]);have eL:=aA.step eS;simp[av];refine iu ds dC ⟨o,b,p,r,d,_⟩ ⟨⟨rfl,fS,E,dE,dE⟩,dE⟩ ?_;rintro v an ⟨l,sv,H,P,Q,L⟩;simp only at sv H P Q L;have S:=sv.gc;have Z:=eL.step L;have fin:=λnm=>pN (cnt:=cnt) (args:=[.ptr b 0 0 0,dG (d+1:Nat)]) (op:=4) (nm:=nm) (e:=⟨0,0,[],[]⟩) (le:=[]) Z Q (((F.trans M).trans eS).trans L) (sv.cell eL.lt (au _)) (jh _ _ _ false) (jh _ _ _ false) dB (λI=>by omega) (by simp[dX.lr,dX.iQ]) (λs G=>(H s G).1) dC (by
      have b9:=wX H;have:=aY (wd d) P;rw[dR.iQ];omega)
     simp only[dX.vN,dX.Fs,dX.oL]at fin;simp[S.1,S.2,Z.get,λnm=>(fin nm).1];exact(fin _).2
    ·simp[u];refine iu O dC ⟨o,b,p,r,1⟩ ⟨⟨rfl,K,E,dC⟩,dC⟩ ?_;rintro _ hE ⟨e,rfl,A,B,j,f⟩;simp only at B j f;obtain⟨z,g⟩:=K.tape f j;have m:=aA.step g;have fin:=mf (i:=⟨o,b,p,r,d+1,cnt⟩) (args:=[.ptr b 0 0 0,dG d]) (nm:=[120]) m z ((F.trans M).trans g) A dB;simp[sq,m.get,fin.1];exact fin.2
   ·have J:(decide (0<d)&&decide (0<left)&& !N)=false:=by simpa using J
    simp[u,J];refine iu O dC ⟨o,b,p,r,1⟩ ⟨⟨rfl,c,E,dC⟩,dC⟩ ?_;rintro _ hE ⟨e,rfl,A,B,j,f⟩;simp only at B j f;obtain⟨z,g⟩:=c.tape f j;have m:=D.step g;have fin:=mf (i:=⟨o,b,p,r,d,cnt⟩) (args:=[.ptr b 0 0 0,dG d]) (nm:=[120]) m z (F.trans g) A dB;simp[sq,m.get,fin.1];exact fin.2
 ·by_cases J:(decide (0<d)&&decide (0<left)&& !N)=true
  ·simp at J;obtain⟨⟨a6,a7⟩,a8⟩:=J;subst a8;obtain⟨d,rfl⟩:∃e,d=e+1:=⟨d-1,dB⟩;have av:binop .sub (dG ((d:Int)+1)) (dG 1)=some (dG d):=by
    rw[uv,<-jI,jL dB dB];simp
   have bs:=λ{tb:fN} (ht:tb.h 212=some xF) s=>cL ht [.ptr b 0 0 0,.str s] V ⟨o,r,b,p,s,rfl,c,dB⟩;have ce:binop .sub (dG 10) (dG 10)=some (dG 0):=BJ dB dB dB;have cp:binop .add (dG 0) (dG 5)=some (dG 5):=za dB dB dB;simp[u,a7,bs];refine em (λR=> ?_) (λR=> ?_)
   ·simp[u,bk,ce,cp,av];refine iu ds dC ⟨o,b,p,r,d,_⟩ ⟨⟨rfl,c,E,dE,dE⟩,dE⟩ ?_;rintro v an ⟨l,sv,H,P,Q,L⟩;simp only at sv H P Q L;have S:=sv.gc;have Z:=D.step L;have fin:=λnm=>pN (cnt:=cnt) (args:=[.ptr b 0 0 0,dG (d+1:Nat)]) (op:=5) (nm:=nm) (e:=⟨0,0,[],[]⟩) (le:=[]) Z Q (F.trans L) (sv.cell D.lt (au _)) (jh _ _ _ false) (jh _ _ _ false) dB (λI=>by omega) (by simp[dX.lr,dX.iQ]) (λs G=>(H s G).1) dC (by
     have b9:=wX H;have:=aY (wd d) P;rw[dR.iQ];omega)
    simp only[dX.vN,dX.Fs,dX.oL]at fin;simp[S.1,S.2,Z.get,λnm=>(fin nm).1];exact(fin _).2
   ·simp[u];refine iu O dC ⟨o,b,p,r,1⟩ ⟨⟨rfl,c,E,dC⟩,dC⟩ ?_;rintro _ hE ⟨e,rfl,A,B,j,f⟩;simp only at B j f;obtain⟨z,g⟩:=c.tape f j;have m:=D.step g;have fin:=mf (i:=⟨o,b,p,r,d+1,cnt⟩) (args:=[.ptr b 0 0 0,dG d]) (nm:=[120]) m z (F.trans g) A dB;simp[sq,m.get,fin.1];exact fin.2
  ·have J:(decide (0<d)&&decide (0<left)&& !N)=false:=by simpa using J
   simp[u,J];refine iu O dC ⟨o,b,p,r,1⟩ ⟨⟨rfl,c,E,dC⟩,dC⟩ ?_;rintro _ hE ⟨e,rfl,A,B,j,f⟩;simp only at B j f;obtain⟨z,g⟩:=c.tape f j;have m:=D.step g;have fin:=mf (i:=⟨o,b,p,r,d,cnt⟩) (args:=[.ptr b 0 0 0,dG d]) (nm:=[120]) m z (F.trans g) A dB;simp[sq,m.get,fin.1];exact fin.2
 ·by_cases J:(decide (0<d)&&decide (0<left)&& !N)=true
  ·simp at J;obtain⟨⟨a6,a7⟩,a8⟩:=J;subst a8;obtain⟨d,rfl⟩:∃e,d=e+1:=⟨d-1,dB⟩;have av:binop .sub (dG ((d:Int)+1)) (dG 1)=some (dG d):=by
    rw[uv,<-jI,jL dB dB];simp
   have bs:=λ{tb:fN} (ht:tb.h 212=some xF) s=>cL ht [.ptr b 0 0 0,.str s] V ⟨o,r,b,p,s,rfl,c,dB⟩;have ce:binop .sub (dG 11) (dG 10)=some (dG 1):=BJ dB dB dB;have cp:binop .add (dG 1) (dG 5)=some (dG 6):=za dB dB dB;simp[u,a7,bs];refine em (λR=> ?_) (λR=> ?_)
   ·simp[u,bk,ce,cp,av];refine iu ds dC ⟨o,b,p,r,d,_⟩ ⟨⟨rfl,c,E,dE,dE⟩,dE⟩ ?_;rintro v an ⟨l,sv,H,P,Q,L⟩;simp only at sv H P Q L;have S:=sv.gc;have Z:=D.step L;have fin:=λnm=>pN (cnt:=cnt) (args:=[.ptr b 0 0 0,dG (d+1:Nat)]) (op:=6) (nm:=nm) (e:=⟨0,0,[],[]⟩) (le:=[]) Z Q (F.trans L) (sv.cell D.lt (au _)) (jh _ _ _ false) (jh _ _ _ false) dB (λI=>by omega) (by simp[dX.lr,dX.iQ]) (λs G=>(H s G).1) dC (by
     have b9:=wX H;have:=aY (wd d) P;rw[dR.iQ];omega)
    simp only[dX.vN,dX.Fs,dX.oL]at fin;simp[S.1,S.2,Z.get,λnm=>(fin nm).1];exact(fin _).2
   ·simp[u];refine iu O dC ⟨o,b,p,r,1⟩ ⟨⟨rfl,c,E,dC⟩,dC⟩ ?_;rintro _ hE ⟨e,rfl,A,B,j,f⟩;simp only at B j f;obtain⟨z,g⟩:=c.tape f j;have m:=D.step g;have fin:=mf (i:=⟨o,b,p,r,d+1,cnt⟩) (args:=[.ptr b 0 0 0,dG d]) (nm:=[120]) m z (F.trans g) A dB;simp[sq,m.get,fin.1];exact fin.2
  ·have J:(decide (0<d)&&decide (0<left)&& !N)=false:=by simpa using J
   simp[u,J];refine iu O dC ⟨o,b,p,r,1⟩ ⟨⟨rfl,c,E,dC⟩,dC⟩ ?_;rintro _ hE ⟨e,rfl,A,B,j,f⟩;simp only at B j f;obtain⟨z,g⟩:=c.tape f j;have m:=D.step g;have fin:=mf (i:=⟨o,b,p,r,d,cnt⟩) (args:=[.ptr b 0 0 0,dG d]) (nm:=[120]) m z (F.trans g) A dB;simp[sq,m.get,fin.1];exact fin.2
 ·simp;refine em (λR=> ?_) (λR=> ?_)
  ·simp at R;obtain⟨⟨a6,a7⟩,a8⟩:=R;obtain⟨d,rfl⟩:∃e,d=e+1:=⟨d-1,dB⟩;have av:binop .sub (dG ((d:Int)+1)) (dG 1)=some (dG d):=by
    rw[uv,<-jI,jL dB dB];simp
   obtain⟨M,K⟩:=c.set (th':=ap) (left':=left) (se':=set) (tx':=true) (at2:=al) (lp':=aE) c6 X hl;simp only[so]at M K;simp[u,C,ed];generalize d8 V b _=dk at*
   have aA:=D.step M;have bp:=F.trans M;obtain⟨b8,ap,left,set,N,al,aE,bN,G,C,X,hl⟩:=K.ex;simp only[so]at C;simp[C];refine r8 dC K.tp K.ok dB dB E λY bB ca t4 aN=> ?_;obtain⟨ae,aX⟩:=K.tape aN t4;have l4:=aA.step aX;have de:binop .add (dG 1) (dG Y)=some (dG ((1+Y:Nat):Int)):=za dC dB dB;simp[de];refine iu cX dC ⟨o,b,p,r,0,1+Y⟩ ⟨⟨dC,ae,E,dC,dE,dE⟩,dE⟩ ?_;rintro v an ⟨l,sv,H,P,Q,L⟩;simp only at sv H P Q L;replace P:l.length<=2:=dB;replace sv:=sv.deep (show 2*0+2<=2*d+2 by omega);replace H:∀s∈l,MS s/\s.w<=wd d:=λs G=>⟨(H s G).1,aS (H s G).2 (YA d)⟩;have Z:=l4.step L;have bH:=(bp.trans aX).trans L;have S:=sv.gc;obtain⟨uJ,bi,bT,bS,b7⟩:=ly Q bH (dI 11 0 [.agg [dG 0,dG 0,.str [],.str [],dH,dG 0,dG 0,.str [],dH,dH,dH]]) (dI 11 1 [.agg [dG 7,dG 0,.str [],.str [],dH,dG 0,dG 0,.str [],dH,v,dH]]);have bn:=bS _ _ Z;have b6:=b7 _ _ _ _ _ sv (au _);simp[u,S.1,S.2];generalize d8 (an.cons _) an.size _=c7 at*
   obtain⟨b8,ap,left,set,N,al,aE,bN,G,C,X,hl⟩:=uJ.ex;obtain⟨U,c1⟩:=uJ.set (th':=ap) (left':=left) (se':=set) (tx':=false) (at2:=al) (lp':=aE) C X hl;have eH:=bi.lt;have eI:=U.ok.sz;have fin:=pN (cnt:=cnt) (args:=[.ptr b 0 0 0,dG (d+1:Nat)]) (op:=7) (nm:=[]) (e:=⟨0,0,[],[]⟩) (le:=[]) (bn.step U) c1 (bT.trans U) ((b6.step U dB).cell l4.lt dB) (jh _ _ _ false) (jh _ _ _ false) dB (λI=>by omega) (by simp[dX.lr,dX.iQ]) (λs G=>(H s G).1) dC (by
    have b9:=wX H;have:=aY (wd d) P;rw[dR.iQ];omega)
   have gT:=(bi.step U).get;have gR:=(bn.step U).get;simp only[so,dX.vN,dX.Fs,dX.oL]at C gT gR fin;simp[C,gT,gR,ed,fin.1];exact fin.2
  ·simp[u];refine iu O dC ⟨o,b,p,r,1⟩ ⟨⟨rfl,c,E,dC⟩,dC⟩ ?_;rintro _ hE ⟨e,rfl,A,B,j,f⟩;simp only at B j f;obtain⟨z,g⟩:=c.tape f j;have m:=D.step g;have fin:=mf (i:=⟨o,b,p,r,d,cnt⟩) (args:=[.ptr b 0 0 0,dG d]) (nm:=[120]) m z (F.trans g) A dB;simp[sq,m.get,fin.1];exact fin.2
 ·simp[u,C];refine em (λR=> ?_) (λR=> ?_)
  ·simp at R;obtain⟨⟨⟨a6,a7⟩,a8⟩,eD⟩:=R;obtain⟨d,rfl⟩:∃e,d=e+1:=⟨d-1,dB⟩;have av:binop .sub (dG ((d:Int)+1)) (dG 1)=some (dG d):=by
    rw[uv,<-jI,jL dB dB];simp
   obtain⟨M,K⟩:=c.set (th':=ap) (left':=left) (se':=set) (tx':=N) (at2:=true) (lp':=aE) c6 X hl;simp only[so]at M K;simp[u,bk,C,ed,av];generalize d8 V b _=dk at*
   have aA:=D.step M;have bp:=F.trans M;refine iu cX dC ⟨o,b,p,r,d,2⟩ ⟨⟨rfl,K,E,dE,dE,dC⟩,dE⟩ ?_;rintro v an ⟨l,sv,H,P,Q,L⟩;simp only at sv H P Q L;have Z:=aA.step L;have bH:=bp.trans L;have S:=sv.gc;obtain⟨uJ,bi,bT,bS,b7⟩:=ly Q bH (dI 11 0 [.agg [dG 0,dG 0,.str [],.str [],dH,dG 0,dG 0,.str [],dH,dH,dH]]) (dI 11 1 [.agg [dG 8,dG 0,.str [],.str [],dH,dG 0,dG 0,.str [],dH,v,dH]]);have bn:=bS _ _ Z;have b6:=b7 _ _ _ _ _ sv (au _);simp[u,S.1,S.2];generalize d8 (an.cons _) an.size _=c7 at*
   obtain⟨b8,ap,left,set,N,al,aE,bN,G,C,X,hl⟩:=uJ.ex;obtain⟨U,c1⟩:=uJ.set (th':=ap) (left':=left) (se':=set) (tx':=N) (at2:=false) (lp':=aE) C X hl;have eH:=bi.lt;have eI:=U.ok.sz;have fin:=pN (cnt:=cnt) (args:=[.ptr b 0 0 0,dG (d+1:Nat)]) (op:=8) (nm:=[]) (e:=⟨0,0,[],[]⟩) (le:=[]) (bn.step U) c1 (bT.trans U) ((b6.step U dB).cell aA.lt dB) (jh _ _ _ false) (jh _ _ _ false) dB (λI=>by omega) (by simp[dX.lr,dX.iQ]) (λs G=>(H s G).1) dC (by
    have b9:=wX H;have:=aY (wd d) P;rw[dR.iQ];omega)
   have gT:=(bi.step U).get;have gR:=(bn.step U).get;simp only[so,dX.vN,dX.Fs,dX.oL]at C gT gR fin;simp[C,gT,gR,ed,fin.1];exact fin.2
  ·simp[u];refine iu O dC ⟨o,b,p,r,1⟩ ⟨⟨rfl,c,E,dC⟩,dC⟩ ?_;rintro _ hE ⟨e,rfl,A,B,j,f⟩;simp only at B j f;obtain⟨z,g⟩:=c.tape f j;have m:=D.step g;have fin:=mf (i:=⟨o,b,p,r,d,cnt⟩) (args:=[.ptr b 0 0 0,dG d]) (nm:=[120]) m z (F.trans g) A dB;simp[sq,m.get,fin.1];exact fin.2
 ·by_cases J:(decide (0<d)&&decide (0<left)&& !N&& !al)=true
  ·simp at J;obtain⟨⟨⟨a6,a7⟩,a8⟩,eD⟩:=J;subst a8;subst eD;obtain⟨d,rfl⟩:∃e,d=e+1:=⟨d-1,dB⟩;have bs:=λ{tb:fN} (ht:tb.h 212=some xF) s=>cL ht [.ptr b 0 0 0,.str s] V ⟨o,r,b,p,s,rfl,c,dB⟩;simp[u,C,a7,bs];refine em (λR=> ?_) (λR=> ?_)
   ·simp[Tb,sq];have dm:(I.size=V.size)=False:=by have:=D.lt;simp;omega
    have sv:=SV.lit (d:=2*d+2) (l:=[A6 9,Dl [97] [] ⟨2,0,[120],[]⟩]) (es:=[.agg [dG 9,dG 0,.str [99],.str [],dH,dG 0,dG 0,.str [],dH,dH,dH],(Dl [97] [] ⟨2,0,[120],[]⟩).t]) c (λ_ _=> .cons (Qd _ _) (.cons (dR.ft _ _) .nil));have c4:=Step.cons c.ok c.lt (dI 11 0 [.agg [dG 9,dG 0,.str [99],.str [],dH,dG 0,dG 0,.str [],dH,dH,dH],(Dl [97] [] ⟨2,0,[120],[]⟩).t]);have ea:=D.step c4;have fin:=pN (cnt:=cnt) (args:=[.ptr b 0 0 0,dG (d+1:Nat)]) (op:=4) (nm:=[109]) (e:=⟨0,0,[],[]⟩) (le:=[]) ea (c.cons _) (F.trans c4) (sv.cell D.lt dC) (jh _ _ _ false) (jh _ _ _ false) dB (λI=>by omega) (by simp[dX.lr,dX.iQ]) (λs G=>by
     rcases List.mem_cons.1 G with rfl|G
     ·exact Qc dB
     ·rw[List.mem_singleton.1 G];exact C9 dC (.nm _) (λI=>absurd rfl I)) dC (by
     have:=BA d;simp[dR.j9,dR.iQ,UI,Dl,dR.lr (dR.mk 1 0 [97] [] [] (dX.mk 2 0 [120] []) [] []),dX.lr,dX.iQ];omega)
    simp only[dX.vN,dX.Fs,dX.oL,Dl]at fin;simp at fin;simp[dm,D.get,fin.1];exact fin.2
   ·simp[u];refine iu O dC ⟨o,b,p,r,1⟩ ⟨⟨rfl,c,E,dC⟩,dC⟩ ?_;rintro _ hE ⟨e,rfl,A,B,j,f⟩;simp only at B j f;obtain⟨z,g⟩:=c.tape f j;have m:=D.step g;have fin:=mf (i:=⟨o,b,p,r,d+1,cnt⟩) (args:=[.ptr b 0 0 0,dG d]) (nm:=[120]) m z (F.trans g) A dB;simp[sq,m.get,fin.1];exact fin.2
  ·have J:(decide (0<d)&&decide (0<left)&& !N&& !al)=false:=by simpa using J
   simp[u,C,J];refine iu O dC ⟨o,b,p,r,1⟩ ⟨⟨rfl,c,E,dC⟩,dC⟩ ?_;rintro _ hE ⟨e,rfl,A,B,j,f⟩;simp only at B j f;obtain⟨z,g⟩:=c.tape f j;have m:=D.step g;have fin:=mf (i:=⟨o,b,p,r,d,cnt⟩) (args:=[.ptr b 0 0 0,dG d]) (nm:=[120]) m z (F.trans g) A dB;simp[sq,m.get,fin.1];exact fin.2
 ·by_cases J:(decide (0<d)&&decide (0<left)&& !N)=true
  ·simp at J;obtain⟨⟨a6,a7⟩,a8⟩:=J;subst a8
   skip
   obtain⟨d,rfl⟩:∃e,d=e+1:=⟨d-1,dB⟩;have bs:=λ{tb:fN} (ht:tb.h 212=some xF) s=>cL ht [.ptr b 0 0 0,.str s] V ⟨o,r,b,p,s,rfl,c,dB⟩;simp[u,a7,bs];refine em (λR=> ?_) (λR=> ?_)
   ·simp[u,C];refine r8 dC c.tp c.ok dB dB E λY bB ca t4 aN=> ?_;obtain⟨ae,aX⟩:=c.tape aN t4;have l4:=D.step aX;have de:binop .add (dG 10) (dG Y)=some (dG (10+Y)):=za dC dB dB;simp[de];have dm:(I.size=bB.size)=False:=by have:=l4.lt;simp;omega
    have sv:=SV.lit (d:=2*d+2) (l:=[A6 (10+Y)]) (es:=[.agg [dG (10+Y),dG 0,.str [99],.str [],dH,dG 0,dG 0,.str [],dH,dH,dH]]) ae (λ_ _=> .cons (Qd _ _) .nil);have c4:=Step.cons ae.ok ae.lt (dI 11 0 [.agg [dG (10+Y),dG 0,.str [99],.str [],dH,dG 0,dG 0,.str [],dH,dH,dH]]);have ea:=l4.step c4;have fin:=pN (cnt:=cnt) (args:=[.ptr b 0 0 0,dG (d+1:Nat)]) (op:=4) (nm:=[109]) (e:=⟨0,0,[],[]⟩) (le:=[]) ea (ae.cons _) ((F.trans aX).trans c4) (sv.cell l4.lt dC) (jh _ _ _ false) (jh _ _ _ false) dB (λI=>by omega) (by simp[dX.lr,dX.iQ]) (λs G=>by rw[List.mem_singleton.1 G];exact Qc dB) dC (by
     have:=BA d;simp[dR.j9,dR.iQ,UI];omega)
    simp only[dX.vN,dX.Fs,dX.oL]at fin;simp at fin;simp[dm,l4.get,fin.1];exact fin.2
   ·simp[u];refine iu O dC ⟨o,b,p,r,1⟩ ⟨⟨rfl,c,E,dC⟩,dC⟩ ?_;rintro _ hE ⟨e,rfl,A,B,j,f⟩;simp only at B j f;obtain⟨z,g⟩:=c.tape f j;have m:=D.step g;have fin:=mf (i:=⟨o,b,p,r,d+1,cnt⟩) (args:=[.ptr b 0 0 0,dG d]) (nm:=[120]) m z (F.trans g) A dB;simp[sq,m.get,fin.1];exact fin.2
  ·have J:(decide (0<d)&&decide (0<left)&& !N)=false:=by simpa using J
   simp[u,J];refine iu O dC ⟨o,b,p,r,1⟩ ⟨⟨rfl,c,E,dC⟩,dC⟩ ?_;rintro _ hE ⟨e,rfl,A,B,j,f⟩;simp only at B j f;obtain⟨z,g⟩:=c.tape f j;have m:=D.step g;have fin:=mf (i:=⟨o,b,p,r,d,cnt⟩) (args:=[.ptr b 0 0 0,dG d]) (nm:=[120]) m z (F.trans g) A dB;simp[sq,m.get,fin.1];exact fin.2
 ·simp[u,C];refine em (λR=> ?_) (λR=> ?_)
  ·obtain⟨M,K⟩:=c.set (th':=ap) (left':=left) (se':=true) (tx':=N) (at2:=al) (lp':=aE) c6 X hl;simp only[so]at M K;simp[u,C,ed];generalize d8 V b _=dk at*
   have aA:=D.step M;have bp:=F.trans M;refine iu O dC ⟨o,b,p,r,1⟩ ⟨⟨rfl,K,E,dC⟩,dC⟩ ?_;rintro _ hE ⟨e,rfl,A,B,j,f⟩;simp only at B j f;obtain⟨z,g⟩:=K.tape f j;have m:=aA.step g;have fin:=HB (i:=⟨o,b,p,r,d,cnt⟩) (args:=[.ptr b 0 0 0,dG d]) (cs:=[dG 14,dG 0,.str [102],.str [],dH,dG e.op,dG e.n,.str e.name,sl (e.l.map dX.t),dH,dH]) (s:=⟨14,0,[102],[],[],e,[],[]⟩) m z (bp.trans g) rfl
    (.cons (f9 ..) (.cons (f9 ..) (.cons (kj ..) (.cons (kj ..) (.cons (jh ..) (.cons (f9 ..) (.cons (f9 ..) (.cons (kj ..) (.cons (o7 _ _ _ λx bu=>by obtain⟨y,_,rfl⟩:=List.mem_map.1 bu;simp) (.cons (jh ..) (.cons (jh ..) .nil)))))))))))
    (.mk (λI=>by simp at I) (λI=>by simp at I) dC (λ_=>A) dC dC) (by
      have:=BA d;rw[dR.lr];simp only[dR.rV,dR.JX,dR.uU,dR.xV,dR.iQ,dX.iQ];omega)
   simp[m.get,fin.1];exact fin.2
  ·simp[u];refine iu O dC ⟨o,b,p,r,1⟩ ⟨⟨rfl,c,E,dC⟩,dC⟩ ?_;rintro _ hE ⟨e,rfl,A,B,j,f⟩;simp only at B j f;obtain⟨z,g⟩:=c.tape f j;have m:=D.step g;have fin:=mf (i:=⟨o,b,p,r,d,cnt⟩) (args:=[.ptr b 0 0 0,dG d]) (nm:=[120]) m z (F.trans g) A dB;simp[sq,m.get,fin.1];exact fin.2
 ·cases N with
  |true=>
   simp[u,C];refine iu O dC ⟨o,b,p,r,1⟩ ⟨⟨rfl,c,E,dC⟩,dC⟩ ?_;rintro _ hE ⟨e,rfl,A,B,j,f⟩;simp only at B j f;obtain⟨z,g⟩:=c.tape f j;have m:=D.step g;have fin:=mf (i:=⟨o,b,p,r,d,cnt⟩) (args:=[.ptr b 0 0 0,dG d]) (nm:=[120]) m z (F.trans g) A dB;simp[sq,m.get,fin.1];exact fin.2
  |false=>
   simp[u,C];refine r8 dC c.tp c.ok dB dB E λY bB ca t4 aN=> ?_;obtain⟨ae,aX⟩:=c.tape aN t4;have l4:=D.step aX;have bz:=F.trans aX;simp;refine em (λR=> ?_) (λR=> ?_)
   ·have fin:=HB (i:=⟨o,b,p,r,d,cnt⟩) (args:=[.ptr b 0 0 0,dG d]) (cs:=[dG 15,dG 0,.str [97],.str [102],dH,dG 0,dG 0,.str [],dH,dH,dH]) (s:=⟨15,0,[97],[102],[],⟨0,0,[],[]⟩,[],[]⟩) l4 ae bz rfl
     (.cons (f9 ..) (.cons (f9 ..) (.cons (kj ..) (.cons (kj ..) (.cons (jh ..) (.cons (f9 ..) (.cons (f9 ..) (.cons (kj ..) (.cons (jh ..) (.cons (jh ..) (.cons (jh ..) .nil)))))))))))
     (.mk (λI=>by simp at I) (λI=>by simp at I) dC (λI=>by simp at I) dC dC) (by
       have:=BA d;rw[dR.lr,dX.lr];simp only[dR.rV,dR.JX,dR.uU,dR.xV,dR.iQ,dX.iQ,dX.Fw];omega)
    simp[l4.get,fin.1];exact fin.2
   ·simp[u];refine iu O dC ⟨o,b,p,r,1⟩ ⟨⟨rfl,ae,E,dC⟩,dC⟩ ?_;rintro _ hE ⟨e,rfl,A,B,j,f⟩;simp only at B j f;obtain⟨z,g⟩:=ae.tape f j;have m:=l4.step g;have fin:=mf (i:=⟨o,b,p,r,d,cnt⟩) (args:=[.ptr b 0 0 0,dG d]) (nm:=[120]) m z (bz.trans g) A dB;simp[sq,m.get,fin.1];exact fin.2
def adM(a:Nat):(Vo a).Ok Tryz.prog cx 118:=
 wQ (λc:UV=>c.d) (λa b=>aaB (a+1) (aaA a b (abx a b))) a
end
end Go.Proofs.YtmaeadedikngoaaGreatDoor
namespace Go.TI
noncomputable section
@[simp] theorem ZO (a:H) (b:iY):(a.cons b).size=a.size+1:=id rfl
def iG.HI{b h:Type}{c:b->h->Prop}{e:List b}{f:List h}(j:iG c e f){g:b}(d:g∈e):∃a∈f,c g a:=by
 induction j with
 |nil=>simp at d
 |cons i _ l=>
  rcases List.mem_cons.1 d with rfl|q
  ·exact⟨_,dC,i⟩
  ·obtain⟨a,k,m⟩:=l q;exact⟨a,by simp[k],m⟩
section
variable {cx:Ctx}{cf:iX}{mask n:Nat}{dl:DL}
def abE{f:Out}{e:Env->H->Prop}{c:iO}(i:W f (xO e c))(j:∀a b,e a b->c.n a b):W f c:=by
 obtain⟨g,a,b,h,d⟩:=i;refine⟨g,a,b,h,?_⟩;cases g with
 |normal=>exact j a b d
 |exit k=>exact d
 |ret=>exact d
def QX{g:Out}{d:iO}(e:fX->H->Prop)(i:W g (xO (λb a=>b.tmps= .nil/\e b.vars a) d))(j:∀c a,e c a->d.n ⟨c,.nil⟩ a):W g d:=
 abE i λb a ⟨h,f⟩=>by obtain⟨c,k⟩:=b;simp only at h f;subst h;exact j c a f
def lq{f:Bool}{g h:Code}{b:Env}{a:H}{d:iO}(c:fX->H->Prop)(k:f=true->W (jG cx cf n mask dl g b a) (xO (λb a=>b.tmps= .nil/\c b.vars a) d))(l:f=false->W (jG cx cf n mask dl h b a) (xO (λb a=>b.tmps= .nil/\c b.vars a) d))
 (i:∀j a,c j a->d.n ⟨j,.nil⟩ a):CK (some (.bool f)) cx cf n mask dl g h b a d:=by
 refine em (λe=> ?_) (λe=> ?_)
 ·exact QX c (k e) i
 ·exact QX c (l e) i
end
end
noncomputable section
@[simp] theorem afx (a:Nat):(a=a+1)=False:=dC 
@[simp] theorem afw (a:Nat):(a=a+1+1)=False:=dD 
@[simp] theorem afv (a:Nat):(a=a+1+1+1)=False:=dD 
@[simp] theorem afu (a:Nat):(a=a+1+1+1+1)=False:=dD 
@[simp] theorem afs (a:Nat):(a=a+1+1+1+1+1)=False:=dD 
def Ct{c:H}{b:T}{d:List T}(a:c.ji b=some d)(f:iY):(c.cons f).ji b=some d:=by
 cases b<;>first|exact a|(simp[H.ji]at a;done)|skip
 rename_i g h k j i;rw[gH]at a|-;obtain⟨l,e,_⟩:=dL.1 a;rw[dW,ao (by have:=H.eJ e;omega)];exact a
def lP{cx:Ctx}{a:H}{sz:Nat}(E:ij 0 a){g h f:ab}{m n b:Ty}(s:cx.ty g=some m)(t:m.u= .slice f)(v:cx.ty f=some b)(w:cx.ty h=some n)(y:n.u= .slice f)(j:b.size=sz)(A:1<=b.bytes)
 {x:T} {xs:List T} (D:a.ji x=some xs) (k:∀q∈xs,q.cells.length=sz) (C:xs.length*b.bytes<=70368744177664):
 ∃i d,iM cx (a.cons ⟨sz,0,0,true,false,[]⟩) g h (.arr a.size 0 0 0 false) x=some (.val (.arr a.size i 0 xs.length false) d)/\(∃F r,d.get a.size=some ⟨sz,i,F,r,false,xs⟩)/\d.size=a.size+1/\(∀c,c<a.size->d.get c=a.get c)/\ij 0 d:=by
 have z:iM cx (a.cons ⟨sz,0,0,true,false,[]⟩) g h (.arr a.size 0 0 0 false) x=jz ((a.cons ⟨sz,0,0,true,false,[]⟩).append b.size b.bytes (.arr a.size 0 0 0 false) xs):=by
  unfold iM oP mh;rw[s,dY,w,dY];simp only[t,v,y,Ct D,dY];rw[j,mp k,ir]
 rw[z,j];have l:=E.cons ⟨sz,0,0,true,false,[]⟩;have e:(a.cons ⟨sz,0,0,true,false,[]⟩).get a.size=some ⟨sz,0,0,true,false,[]⟩:=dC;cases xs with
 |nil=>exact⟨0,a.cons ⟨sz,0,0,true,false,[]⟩,rfl,⟨0,true,e⟩,rfl,λc B=>by rw[dW,ao dB],l⟩
 |cons o p=>
  refine⟨1,d8 (a.cons ⟨sz,0,0,true,false,[]⟩) a.size ⟨sz,1,1,false,false,o::p⟩,?_,⟨1,false,by rw[dQ e,aq rfl]⟩,by rw[fV];rfl,λc B=>by rw[dQ e,ao dB,dW,ao dB],l.put _ _⟩;show jz ((a.cons ⟨sz,0,0,true,false,[]⟩).mt sz b.bytes a.size 0 ([]:List T).length (o::p))=_;rw[wi e k A (by simpa using C)];rfl
def oX(c:H)(d:Nat)(b:T)(a:List T):Prop:=b=sl a\/Gr c b d a
def oX.ji{b:H}{e:Nat}{c:T}{a:List T}(d:oX b e c a):b.ji c=some a:=by
 rcases d with rfl|g
 ·simp
 ·exact g.ji
def oX.mono{d h':H}{e:Nat}{b:T}{c:List T}(h:oX d e b c)(g:∀a,dU b=some a->h'.get a=d.get a):oX h' e b c:=h.imp id λf=>f.mono g
def oX.len{cx:Ctx}{h:H}{j:Nat}{f:T}{a:List T}(i:oX h j f a)(b:H)(d:Ty)(e:ab)(c:d.u= .slice e):DA cx b d f=some (.val (.int .i64 a.length) b):=by
 rcases i with rfl|g
 ·cases a with
  |nil=>exact MH _ _ c
  |cons l k=>exact EI _ _ _ _ c
 ·exact g.len b d e c
def oX.im{c:H}{e:Nat}{a:T}{b:List T}(d:oX c e a b):a.im=true/\a.cells=[a]:=by
 rcases d with rfl|g
 ·cases b<;>exact⟨rfl,rfl⟩
 ·exact⟨g.im,g.cells⟩
def oX.idx{c:H}{k:T}{a:List T}(r:oX c 1 k a){te:Ty}(f:te.size=1)(p:te.isAgg=false){i:Nat}{x:T}(b:a[i]? =some x)(d:x.cells=[x]):∃j,kH c te k i=some (.val j c)/\c.load te j=some x:=by
 have hr:ko te [x]=some x:=by unfold ko;rw[p];rfl
 have e:i<a.length:=by
  rcases aF i a.length with q|q
  ·exact q
  ·rw[aM q]at b;simp at b
 rcases r with rfl|g
 ·refine⟨.jB x.cells,?_,?_⟩
  ·cases a with
   |nil=>simp at b
   |cons l h=>rw[show sl (l::h)= .dN (l::h) false from rfl,MM,b];simp[d,f]
  ·rw[d];exact hr
 ·obtain⟨s,t,v,u,w,_,m,o,n⟩:=g.JG f e;refine⟨_,m,?_⟩;have:a[i]=x:=by rw[aB e]at b;simpa using b
  rw[VY,o];simp[n,this,d,hr]
def oX.ft{h:H}{V:Nat->Prop}{s d:Nat}{f:T}{b:List T}(r:oX h s f b)(e:∀a∈b,cn a=a/\jW a=true/\∀k,a≠ .agg k)(i:∀c,dU f=some c->V c):FT h V (d+2) f (sl b):=by
 rcases r with rfl|g
 ·exact o7 _ _ _ λa o=>(e a o).1
 ·have j:=g.ji;rcases g with⟨rfl,rfl⟩|⟨c,l,w,u,x,rfl,m,n⟩
  ·exact jh _ _ _ _
  ·refine .inr (.inl ⟨c,l,0,_,false,b,b,rfl,i c rfl,j,?_,rfl⟩);clear j i n m;induction b with
   |nil=>exact .nil
   |cons a v q=>exact .cons (.inl ⟨(e a dC).2.1,(e a dC).2.2,(e a dC).1.symm⟩) (q λt p=>e t (by simp[p]))
structure Nb(h h':H):Prop where
 ok:ij h.size h'
 get:∀c,c<h.size->h'.get c=h.get c
def Nb.refl{a:H}(b:ij 0 a):Nb a a:=⟨⟨b.hp,b.low,au _⟩,λ_ _=>rfl⟩
def Nb.trans{d e f:H}(b:Nb d e)(a:Nb e f):Nb d f:=⟨⟨a.ok.hp,a.ok.low,aS b.ok.sz a.ok.sz⟩,λc g=>(a.get c (bG g b.ok.sz)).trans (b.get c g)⟩
def Nb.cons{b c:H}(a:Nb b c)(d:iY):Nb b (c.cons d):=⟨a.ok.cons d,λe f=>by rw[dW,ao (by have:=a.ok.sz;omega)];exact a.get e f⟩
def Nb.put{b d:H}(e:Nb b d){a:Nat}{x:iY}(h:d.get a=some x)(i:b.size<=a)(f:iY):Nb b (d8 d a f):=⟨e.ok.put a f,λc g=>by rw[dQ h,ao dB];exact e.get c g⟩
def Nb.step{c f:H}(b:Nb c f){d:Nat}(g:d<c.size):Step d c f:=⟨b.ok,λe a _=>b.get e a,λe a=>by rw[iV (b.get d g)]at a;exact .inl a⟩
def Nb.hr{a d:H}(b:Nb (TI.hr a) d):Nb a d:=⟨b.ok,λc e=>(b.get c e).trans (gF a c)⟩
def Nb.out{h b:H}(c:Nb (TI.hr h) b):Nb h (lM h b):=⟨c.ok.out h,λa d=>(fQ h b a).trans ((c.get a d).trans (gF h a))⟩
def Gr.new{h:H}{b sz ep ver:Nat}{ex:Bool}{es:List T}(a:h.get b=some ⟨sz,ep,ver,ex,false,es⟩):Gr h (.arr b ep 0 es.length false) sz es:= .inr ⟨b,ep,ver,ex,es,rfl,a,aL⟩
def nS.one{h:H}{w szw ver i0:Nat}{F:List (T×aa (Nat×List T))}(s:ij 0 h)(i:h.get w=some ⟨szw,0,ver,true,false,[.agg (F.map (·.1))]⟩)(o:∀a∈F,Xs h szw a)(f:∀(b:Nat) e,F[b]? =some e->dU e.1≠none->b=i0):
 nS h w szw ver F/\∀d,Fp h w d->d=w\/∃a,F[i0]? =some a/\dU a.1=some d:=by
 refine⟨⟨s,i,o,λb r q e l m n d t u=>q ((f b e m (by rw[t];simp)).trans (f r l n (by rw[u];simp)).symm)⟩,λd c=> ?_⟩;rcases c with c|⟨x,g,v,k,c⟩
 ·exact .inl c
 ·rw[i]at g;simp only[ar]at g;subst g;simp only[fx,bA,cA,bL,T.cells]at k;obtain⟨a,p,rfl⟩:=List.mem_map.1 k;obtain⟨b,j⟩:=cT p;have:=f b a j (by rw[c];simp);subst this;exact .inr ⟨a,j,c⟩
section
variable {cx:Ctx}{cf:iX}{mask:Nat}
@[simp low] theorem abW (n:aa Nat) (l:T) (j:af Oper) (a:List (Nat×Nat)) (f:aa Tmp) (h:List Oper) (b:Nat) (i:List (Nat×Nat)) (c:List (Nat×H×H)) (m k:fX) (g:H) (e:iO) (q:lA a b=false) (p:(c.all λd=> !Aa a d.1 b)=true):DLK n l cx cf mask j a f h b i c m k g e=Rm l cx cf mask j a f h (b+1) i c m k g e:=by
 cases n with
 |none=>rfl
 |some o=>
  have hl:mD a b o c=True:=by
   simp only[eq_iff_iff,iff_true];intro d s r;have:=List.all_eq_true.1 p d s;rw[r]at this;simp at this
  rw[Rc,hl,q,true_and];rfl
end
def BQ{a x:T}(c:∀b,a≠ .agg b):ml a 0 [x]=some x:=by
 cases a<;>first|rfl|exact absurd rfl (c _)
def oX.na{h:H}{sz:Nat}{b:T}{a:List T}(d:oX h sz b a):∀c,b≠ .agg c:=by
 rcases d with rfl|g
 ·cases a<;>simp[sl]
 ·rcases g with⟨rfl,_⟩|⟨e,f,j,i,k,rfl,_⟩<;>simp
def Gr.setAt{j h':H}{f:T}{k a l b s ver2:Nat}{n ex2:Bool}{i h:List T}(o:Gr j f k i)(d:dU f=some a)(q:j.get a=some ⟨l,b,s,n,false,h⟩)(e:Nat)(g:T)(r:h'.get a=some ⟨l,b,ver2,ex2,false,h.set e g⟩):Gr h' f k (i.set e g):=by
 rcases o with⟨rfl,_⟩|⟨m,t,v,u,w,rfl,c,p⟩
 ·simp at d
 ·simp only[wN,ar]at d;subst d;rw[q]at c;simp only[ar,iY.mk.injEq]at c;obtain⟨rfl,rfl,rfl,rfl,_,rfl⟩:=c;exact .inr ⟨m,b,ver2,ex2,h.set e g,by rw[cS],r,by rw[cS,List.take_set,p]⟩
def iG.set{d e:Type}{f c:d->e->Prop}{i:List d}{j:List e}(b:iG f i j)(a:Nat){k:d}{l:e}(m:c k l)(h:∀b g,f b g->c b g):iG c (i.set a k) (j.set a l):=by
 induction b generalizing a with
 |nil=>exact .nil
 |cons o p n=>
  cases a with
  |zero=>exact .cons m (p.imp h)
  |succ a=>exact .cons (h _ _ o) (n a)
def iG.VT{b c j:Type}{d:b->c->Prop}{e:b->j->Prop}{f:c->j}{h:List b}{i:List c}(a:iG d h i)(k:∀a g,d a g->e a (f g)):iG e h (i.map f):=by
 induction a with
 |nil=>exact .nil
 |cons m n l=>exact .cons (k _ _ m) l
def FT.tup{c:H}{f:Nat->Prop}{d h:Nat}(l:h<=11)(k:∀a,f a->d<=a){b g:List T}(m:iG (FT c f h) b g)(a:Bool):∃i,jl c d (.tuple [.agg b,.bool a])=some i/\cn i= .tuple [.agg g,.bool a]:=by
 obtain⟨r0,e,j⟩:=FT.top l k m;refine⟨.tuple [r0,.bool a],?_,?_⟩
 ·have e:kr c d (.agg b)=some r0:=e;show(dV (fP (kr c d) [.agg b,.bool a]) λn=>some (T.tuple n))=_;rw[jK,e];rfl
 ·rw[us];simp[j]
def Gr.ft{c:H}{V:Nat->Prop}{e:T}{m d:Nat}{a b:List T}(i:Gr c e m a)(k:∀h,dU e=some h->V h)(f:iG (FT c V d) a b):FT c V (d+1) e (sl b):=by
 have l:=i.ji;rcases i with⟨rfl,rfl⟩|⟨g,j,q,n,r,rfl,o,p⟩
 ·cases f;exact jh _ _ _ _
 ·exact .inr (.inl ⟨g,j,0,_,false,a,b,rfl,k g rfl,l,f,rfl⟩)
def Gr.at{j:H}{m x:T}{l i:Nat}{a:List T}(n:Gr j m l a)(g:a[i]? =some x):∃c d h e b,m= .arr c d 0 a.length false/\j.get c=some ⟨l,d,h,e,false,b⟩/\b[i]? =some x/\i<a.length:=by
 have f:i<a.length:=by
  rcases aF i a.length with k|k
  ·exact k
  ·rw[aM k]at g;simp at g
 rcases n with⟨rfl,rfl⟩|⟨c,d,h,e,b,rfl,o,p⟩
 ·simp at f
 ·refine⟨c,d,h,e,b,rfl,o,?_,f⟩;have:(b.take a.length)[i]? =a[i]? :=by rw[p]
  rw[bM,aq f,g]at this;exact this
def oX.rn{h:H}{l:Nat}{e:Type}{f:e->T}{d:T}{c:List e}(k:oX h l d (c.map f))(i:∀a,cn (f a)=f a)(j:∀a,xh h 11 (f a)=some (f a)):TI.rn h d=some (sl (c.map f)):=by
 rcases k with rfl|g
 ·cases c with
  |nil=>rfl
  |cons a b=>
   show TI.rn h (.dN (f a::b.map f) false)=_;have:=K6 (h:=h) (f a::b.map f) false;rw[show(f a::b.map f).map cn=f a::b.map f from by simp[i]]at this;exact this
 ·exact g.rn j
def mR{b:H}{a c:Nat}{f:iY}(e:b.get a=some f)(d:c≠a)(g:iY):ff b (d8 b a g) c=true:=fk (by rw[dQ e,ao d])
def m6{c:H}{b:Nat}(f:Hp c)(e:b<c.size)(d:iY)(a:Nat):(d8 c b d).get a=if a=b then some d else c.get a:=get_put f e d a
@[simp] theorem afA (a:Nat):(a<a+1+1)=True:=dD 
@[simp] theorem afz (a:Nat):(a<a+1+1+1)=True:=dD 
@[simp] theorem afy (a:Nat):(a<a+1+1+1+1)=True:=dD 
@[simp high] theorem aeI {e:ai} {cx:Ctx} (d:fN) (b:aj) (a:List T) (c:H) (f:d.p b=none):qW e cx d b a c=hl e cx d b a c:=by
 unfold qW;cases QI c a with
 |none=>rfl
 |some g=>simp only[Be f]
def jc{b c:H}{a:Nat}(d:b.get a=none):ff b c a=true:=by unfold ff;rw[d]
def ll(b:H){a:Nat}(d:b.size<=a):b.get a=none:=by
 cases c:b.get a with
 |none=>rfl
 |some e=>have:=H.eJ c;omega
def Gr.Dc{cx:Ctx}{a:H}{h:T}{b:Nat}{f:List T}(q:Gr a h b f)(l:ij 0 a){g i:ab}{m d:Ty}(j:cx.ty g=some m)(k:m.u= .slice i)(r:cx.ty i=some d)(v:d.size=b)(s:1<=d.bytes){x:T}(w:x.cells.length=b)(t:(f.length+1)*d.bytes<=70368744177664):
 ∃e c,iM cx (a.cons ⟨b,0,0,true,false,[x]⟩) g g h (.arr a.size 0 0 1 false)=some (.val e c)/\Xt a h b (f++[x]) e c:=by
 have n:=(Xt.refl q l).cons ⟨b,0,0,true,false,[x]⟩;obtain⟨e,c,p,o⟩:=Gr.app (cx:=cx) n.1 (l.cons _) (x:= .arr a.size 0 0 1 false) (xs:=[x]) j k r j k v s (by rw[gH];simp) (by simpa using w) dC (by simpa using t);exact⟨e,c,p,n.trans o.xt⟩
end
end Go.TI
