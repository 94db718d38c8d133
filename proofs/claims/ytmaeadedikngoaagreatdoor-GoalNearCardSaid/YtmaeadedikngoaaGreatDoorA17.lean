/- Texts W01e to TiCopy. -/
import Derived.Test.YtmaeadedikngoaaGreatDoorA16
set_option linter.all false
set_option maxRecDepth 100000
set_option maxHeartbeats 8000000
namespace Go.Proofs.YtmaeadedikngoaaGreatDoor
noncomputable section
open Go Go.TI
attribute [-simp] List.map_take List.map_drop List.map_append fw eQ dZ Bool.not_or Bool.not_and
attribute [simp] fq eY
def w7:kH:=⟨λe a=>∃d c b f i,e=[.ptr b 0 0 0,.str i]/\Mk d c a b f/\c<=100,λ_ a h g=>g=a/\DM h⟩
def QT:w7.Ok Tryz.prog cx 212:=by
 refine HT (tb:=⟨pt [(110,AO)],ht []⟩) ew ej (iQ 19 [] Tryz.func212) false (λ_ _=>5) (λq a k=>by obtain⟨e,o,n,f,p,rfl,_⟩:=k;simp[Tryz.f212]) ?_;rintro _ a ⟨e,o,n,f,p,rfl,d,s⟩ y c;simp at c;obtain⟨i,j⟩:=c;obtain⟨x,v,left,set,w,r,u,t,l,b,h,hl⟩:=d.ex;simp only[rE]at b;have m:=(h.mono (h':=hr a) λg _=>f9 a g).rF dt;simp[Tryz.f212,i,j,b,m,Mr,show l.length<=1099511627776 by omega];exact pA a _ _ d.ok.hp (Fr.refl _ _) rfl ⟨rfl,dt⟩
def ac9{d:H}{b:Nat->Prop}(h:dJ)(c:Nat):iv (FT d b (c+1)) h.cs h.cs:=by
 have f:∀a:List dN,FT d b (c+1) (sl (a.map dN.t)) (sl (a.map dN.t)):=λa=>oz _ _ _ λi e=>by obtain⟨j,_,rfl⟩:=List.mem_map.1 e;simp
 have g:∀a:List dJ,FT d b (c+1) (sl (a.map dJ.t)) (sl (a.map dJ.t)):=λa=>oz _ _ _ λi e=>by obtain⟨j,_,rfl⟩:=List.mem_map.1 e;simp
 exact .cons (fW ..) (.cons (fW ..) (.cons (jV ..) (.cons (jV ..) (.cons (f _) (.cons (fW ..) (.cons (fW ..) (.cons (jV ..) (.cons (f _) (.cons (g _) (.cons (g _) .nil))))))))))
def Gv{i:TN}{args:List T}{a c:H}{r:iN}{cs:List T}{s:dJ}(e:Lb i.m c a.size r)(g:Mk i.L i.n c i.m i.b)(p:Step i.m (TI.hr a) c)(hl:cs.length=11)(j:iv (FT c (Nw (a.size+1) c.size c i.m .ka) (2*i.d+3)) cs s.cs)(k:MS s)(o:s.w<=wd i.d):
 (dT c a.size (dA 11 1 [.agg cs])).get a.size=some (dA 11 1 [.agg cs])/\Ei i args a (.agg cs) (lL a (dT c a.size (dA 11 1 [.agg cs]))):=by
 have l:(dT c a.size (dA 11 1 [.agg cs])).get i.m=c.get i.m:=by rw[dI e.get,ao (bg e.ne)]
 have q:=Step.rD g.ok e (dA 11 1 [.agg cs]) _ p (au _);refine⟨(dI e.get _ _).trans (aq rfl),cs,s,rfl,hl,?_,k,o,(g.rD e _).out,q.out⟩;refine .inr (.inr ⟨cs,s.cs,rfl,j.ft λh f=>⟨⟨by have:=f.1;omega,by have:=f.2.1;simp;omega,?_,J2 h⟩,?_⟩,s.mT⟩)
 ·rw[iJ (fO a _ i.m),iJ l];exact f.2.2.1
 ·rw[fO,dI e.get,ao (by have:=f.1;omega)]
def CN(c:List Nat)(b:List dN)(a:dN):dJ:=⟨1,0,c,[],b,a,[],[]⟩
def CB{d:List Nat}{b:List dN}{c:dN}(g:∀i∈b,ME i)(f:ME c)(h:b≠ []->d=[113]):MS (CN d b c):=
 .mk (λa=>by unfold CN at a;simp at a) (λ_ a=>h a) g (λ_=>f) (λe a=>by unfold CN at a;simp at a) (λe a=>by unfold CN at a;simp at a)
def KB{nm:List Nat}{ix:List dN}{e:dN}{d:Nat}(a:dN.ws ix<=20)(b:e.w<=20):(CN nm ix e).w<=wd d:=by
 have:=A6 d;rw[dJ.kU];unfold CN;simp only[dJ.qY,dJ.I7,dJ.uu,dJ.xq,dJ.iD];omega
def lN{i:TN}{args:List T}{c d:H}{k:iN}{nm:List Nat}{a:dN}(g:Lb i.m d c.size k)(h:Mk i.L i.n d i.m i.b)(j:Step i.m (TI.hr c) d)(e:ME a)(f:a.w<=20):
 (dT d c.size (dA 11 1 [.agg [dy 1,dy 0,.str nm,.str [],sl [],dy a.op,dy a.n,.str a.name,sl (a.l.map dN.t),sl [],sl []]])).get c.size=some (dA 11 1 [.agg [dy 1,dy 0,.str nm,.str [],sl [],dy a.op,dy a.n,.str a.name,sl (a.l.map dN.t),sl [],sl []]])/\
 Ei i args c (.agg [dy 1,dy 0,.str nm,.str [],sl [],dy a.op,dy a.n,.str a.name,sl (a.l.map dN.t),sl [],sl []]) (lL c (dT d c.size (dA 11 1 [.agg [dy 1,dy 0,.str nm,.str [],sl [],dy a.op,dy a.n,.str a.name,sl (a.l.map dN.t),sl [],sl []]]))):=
 Gv (s:=CN nm [] a) g h j rfl (ac9 (CN nm [] a) _) (CB dt e (λc=>absurd rfl c)) (KB (by rw[dN.iD];omega) f)
def _root_.Go.TI.Lb.put{d:Nat}{b:H}{a c:Nat}{x g:iN}(f:Lb d b a x)(l2:Lb d b c g)(e:a≠c)(h:iN):Lb d (dT b c h) a x:=f.kE (by rw[dI l2.get,ao (bg l2.ne)]) (by rw[dI l2.get,ao e])
def SH{n:List Int}{q:Nat}{k b:H}{c o a:Nat}{w:iN}(p:Mk n q b c o)(e:Lb c b a w)(v:Step c (TI.hr k) b)(r:k.size<=a)(d:iN):
 Mk n q (dT b a d) c o/\Lb c (dT b a d) a d/\Step c (TI.hr k) (dT b a d)/\(∀g m,g≠a->Lb c b g m->Lb c (dT b a d) g m)/\∀i h j l f,SV i h b c j l f->a<i\/h<=a->SV i h (dT b a d) c j l f:=
 ⟨p.rD e d,⟨(dI e.get d a).trans (aq rfl),by rw[iJ (show(dT b a d).get c=b.get c by rw[dI e.get,ao (bg e.ne)])];exact e.nf⟩,Step.rD p.ok e d _ v r,λg m s f=>f.put e s d,λi h j l f t u=>t.rD e u d⟩
def kX{o:List Int}{q:Nat}{m a:H}{b p:Nat}(g:Mk o q a b p)(s:Step b (TI.hr m) a)(c e:iN):
 Mk o q (dT (a.cons c) a.size e) b p/\Lb b (dT (a.cons c) a.size e) a.size e/\Step b (TI.hr m) (dT (a.cons c) a.size e)/\(∀h l,Lb b a h l->Lb b (dT (a.cons c) a.size e) h l)/\∀j f i k d,SV j f a b i k d->f<=a.size->SV j f (dT (a.cons c) a.size e) b i k d:=by
 have n:=Step.cons g.ok g.lt c;have v:=Lb.new g.lt g.fp c;have t:m.size<=a.size:=by simpa using s.ok.sz
 obtain⟨w,x,y,z,A⟩:=SH (g.cons c) v (s.trans n) t e;exact⟨w,x,y,λh l d=>z h l (by have:=d.lt;omega) (d.step n),λj f i k d u r=>A j f i k d (u.step n r) (.inr r)⟩
def SV.gc{h e:Nat}{d:H}{i c:Nat}{a:T}{g:List dJ}(f:SV h e d i c a g):a.gJ=true/\a.cells=[a]:=by
 obtain⟨j,b,_⟩:=f;exact⟨b.gJ,b.cells⟩
def SV.cell{g e c d:Nat}{b:H}{h a:Nat}{i:T}{f:List dJ}(l:SV g e b h (2*a+2) i f)(j:c<=g)(k:e<=d):FT b (Nw c d b h .ka) (2*(a+1)+3) i (sl (f.map dJ.t)):=by
 have:=(l.wide j k).ft;rw[show 2*(a+1)+3=2*a+2+3 by omega];exact this
def wu{a:List dJ}{W:Nat}(c:∀b∈a,MS b/\b.w<=W):dJ.ws a<=a.length*W:=by
 induction a with
 |nil=>rw[dJ.iD];omega
 |cons f a e=>
  have g:=e λb d=>c b (cz _ d);have h:=(c f dt).2;rw[dJ.jQ,aZ,bX];omega
def o7{k:List Int}{c m o d cnt:Nat}{args:List T}{a b:H}{p:iN}{op:Int}{nm:List Nat}{e:dN}{f g h:T}{j le:List dJ}(z:Lb c b a.size p)(A:Mk k o b c m)(B:Step c (TI.hr a) b)
 (q:FT b (Nw (a.size+1) b.size b c .ka) (2*(d+1)+3) g (sl (j.map dJ.t))) (r:FT b (Nw (a.size+1) b.size b c .ka) (2*(d+1)+3) h (sl (le.map dJ.t))) (u:FT b (Nw (a.size+1) b.size b c .ka) (2*(d+1)+3) f (sl (e.l.map dN.t)))
 (D:2<=op/\op<=8) (hE:op<=3->ME e) (E:e.w<=20) (v:∀s∈j,MS s) (x:∀s∈le,MS s) (C:dJ.ws j+dJ.ws le<=5*wd d):
 (dT b a.size (dA 11 1 [.agg [dy op,dy 0,.str nm,.str [],dz,dy e.op,dy e.n,.str e.name,f,g,h]])).get a.size=some (dA 11 1 [.agg [dy op,dy 0,.str nm,.str [],dz,dy e.op,dy e.n,.str e.name,f,g,h]])/\
 Ei ⟨k,c,m,o,d+1,cnt⟩ args a (.agg [dy op,dy 0,.str nm,.str [],dz,dy e.op,dy e.n,.str e.name,f,g,h]) (lL a (dT b a.size (dA 11 1 [.agg [dy op,dy 0,.str nm,.str [],dz,dy e.op,dy e.n,.str e.name,f,g,h]]))):=
 Gv (i:=⟨k,c,m,o,d+1,cnt⟩) (s:=⟨op,0,nm,[],[],e,j,le⟩) z A B rfl
  (.cons (fW ..) (.cons (fW ..) (.cons (jV ..) (.cons (jV ..) (.cons (iU ..) (.cons (fW ..) (.cons (fW ..) (.cons (jV ..) (.cons u (.cons q (.cons r .nil)))))))))))
  (.mk (λa=>by simp at a;omega) (λa=>by simp at a;omega) (λp y=>by simp at y) (λa=>by simp at a;exact hE dq) v x)
  (by
    have:=A6 d;rw[dJ.kU,Jy];simp only[dJ.qY,dJ.I7,dJ.uu,dJ.xq,dN.iD];omega)
def SV.deep{f d:Nat}{c:H}{g a b:Nat}{h:T}{e:List dJ}(m:SV f d c g a h e)(o:a<=b):SV f d c g b h e:=by
 obtain⟨j,l,i,n⟩:=m;exact⟨j,l,i.imp λ_ _ k=>k.deep dq,n⟩
def Xb(a:Nat):wd 0<=wd a:=A6 a
def SV.lit{g:List Int}{m:Nat}{a:H}{b j d:Nat}{es:List T}{l:List dJ}(e:Mk g m a b j)(i:∀k h,iv (FT k h (d+2)) es (l.map dJ.t)):SV a.size (a.size+1) (a.cons ⟨11,0,0,true,false,es⟩) b d (.arr a.size 0 0 es.length false) l:=by
 refine⟨es,.inr ⟨a.size,0,0,true,es,rfl,by rw[dP,aq rfl],aL⟩,i _ _,λn f=> ?_⟩;simp at f;subst f;refine⟨au _,cY _,λc=> ?_⟩;rw[iJ (show(a.cons ⟨11,0,0,true,false,es⟩).get b=a.get b by rw[dP,ao (by have:=e.lt;omega)])]at c;have:=e.fp _ c;omega
def AF(a:Int):dJ:=⟨a,0,[99],[],[],⟨0,0,[],[]⟩,[],[]⟩
def O6{d:H}{b:Nat->Prop}(a:Int)(c:Nat):FT d b (c+2) (.agg [dy a,dy 0,.str [99],.str [],dz,dy 0,dy 0,.str [],dz,dz,dz]) (AF a).t:=
 .inr (.inr ⟨_,(AF a).cs,rfl,.cons (fW ..) (.cons (fW ..) (.cons (jV ..) (.cons (jV ..) (.cons (iU ..) (.cons (fW ..) (.cons (fW ..) (.cons (jV ..) (.cons (iU ..) (.cons (iU ..) (.cons (iU ..) .nil)))))))))),dJ.mT _⟩)
def O0{c:Int}(e:9<=c/\c<=11):MS (AF c):= .mk (λ_=>rfl) (λb=>by unfold AF at b;simp at b;omega) (λd a=>by unfold AF at a;simp at a) (λb=>by unfold AF at b;simp at b;omega) (λd a=>by unfold AF at a;simp at a) (λd a=>by unfold AF at a;simp at a)
def Tx(a:Int):(AF a).w=5:=by
 rw[dJ.kU,dN.kU];unfold AF;simp only[dJ.qY,dJ.I7,dJ.uu,dJ.xq,dJ.iD,dN.iD,dN.Eu]
def De{b c a:Int}(d:b-c=a)(e: -9223372036854775808<=a)(f:a<9223372036854775808):binop .sub (dy b) (dy c)=some (dy a):=by
 subst d;rw[tU,<-jn,ju e f]
def yB{b c a:Int}(d:b+c=a)(e: -9223372036854775808<=a)(f:a<9223372036854775808):binop .add (dy b) (dy c)=some (dy a):=by
 subst d;rw[nJ,<-jn,ju e f]
def Zc(k:Nat)(cL:(Ue k).Ok Tryz.prog cx 118)(ds:(rBk k).Ok Tryz.prog cx 213):(rMt (k+1)).Ok Tryz.prog cx 165:=by
 obtain⟨gj,cy⟩:=hlB QT λ_ _ _ _ I=>I;have O:=NY 11;refine jo (tb:=⟨pt [(120,F0),(211,Id),(210,Ie),(119,Ig)],ht [(63,js yF ue qR),(209,M2 11),(118,Ue k),(213,rBk k),(212,w7)]⟩) ew ej (iQ 521481210427296124309566527199867809678935259509485941609668421502669740186866579200068820979 [(5,[(0,5),(2,5),(3,5)]),(7,[(0,5),(0,9),(6,9),(7,9)])] Tryz.func165) (λ_ _=>10) (λi a I fl=>by obtain⟨⟨rfl,_⟩,_⟩:=fl;simp[Tryz.f165]) ?_;rintro⟨o,b,p,r,d,cnt⟩ _ I ⟨⟨rfl,bC,E,e7,fe,e6⟩,e8⟩ gM eC;simp only at bC E e7 fe e6 e8;simp at eC;obtain⟨u,bk⟩:=eC;have eE:(b=I.size)=False:=by have:=bC.lt;simp;omega
 have F:=Step.cons bC.hr.ok bC.hr.lt (dA 11 0 [.agg [dy 0,dy 0,.str [],.str [],dz,dy 0,dy 0,.str [],dz,dz,dz]]);have D:Lb b _ I.size _:=Lb.new bC.hr.lt bC.hr.fp (dA 11 0 [.agg [dy 0,dy 0,.str [],.str [],dz,dy 0,dy 0,.str [],dz,dz,dz]]);have eb:=bC.hr.cons (dA 11 0 [.agg [dy 0,dy 0,.str [],.str [],dz,dy 0,dy 0,.str [],dz,dz,dz]]);obtain⟨b8,ap,left,set,N,al,aE,bN,G,C,X,hl⟩:=eb.ex;obtain⟨dd,cb⟩:=eb.set (th':=ap) (left':=IntKind.i64.wrap (left-1)) (se':=set) (tx':=N) (at2:=al) (lp':=aE) C X hl;replace D:=D.step dd;replace F:=F.trans dd;simp only[rE]at C dd cb D F;have di:=C;rw[dP,nq,ao (by have:=bC.lt;omega),f9]at di;simp[Tryz.f165,u,di,eE,tU,dS];generalize dT ((hr I).cons _) b _=gk at*
 clear C di X eb dd eE;obtain⟨b8,ap,left,set,N,al,aE,bN,G,C,X,hl⟩:=cb.ex;simp only[rE]at C;simp[C];refine rk dt cb.tp cb.ok dq dq E λW V gp t2 eP=> ?_;obtain⟨c,ef⟩:=cb.tape eP t2;replace D:=D.step ef;replace F:=F.trans ef;clear C X cb t2 eP ef hl;obtain⟨b8,ap,left,set,N,al,aE,bN,G,C,X,hl⟩:=c.ex;have c6:=C;simp only[rE]at C;simp[u,bk,C];rcases(by omega:W=0\/W=1\/W=2\/W=3\/W=4\/W=5\/W=6\/W=7\/W=8\/W=9\/W=10\/W=11\/W=12\/W=13\/W=14\/W=15\/W=16\/W=17)with rfl|rfl|rfl|rfl|rfl|rfl|rfl|rfl|rfl|rfl|rfl|rfl|rfl|rfl|rfl|rfl|rfl|rfl
 iterate 4
  ·simp[u];have K:=c.cons (dA 1 0 [.str [120],.str [121],.str [120],.str [118]]);have M:=Step.cons c.ok c.lt (dA 1 0 [.str [120],.str [121],.str [120],.str [118]]);refine lP O dt ⟨o,b,p,r,1⟩ ⟨⟨rfl,K,E,dt⟩,dt⟩ ?_;rintro _ hE ⟨e,rfl,A,B,j,f⟩;simp only at B j f;obtain⟨z,g⟩:=K.tape f j;have m:=(D.step M).step g;have fin:=λnm=>lN (i:=⟨o,b,p,r,d,cnt⟩) (args:=[.ptr b 0 0 0,dy d]) (nm:=nm) m z ((F.trans M).trans g) A dq;have er:eJ (V.cons (dA 1 0 [.str [120],.str [121],.str [120],.str [118]])) hE V.size=true:=ff (f.get _ (by have:=c.tp.lt;omega));simp[rG,m.get,er,λnm=>(fin nm).1];exact(fin _).2
 ·have fb:(b=V.size)=False:=by have:=c.lt;simp;omega
  simp[u,C,fb];have K:=c.cons (dA 1 0 [.str [97],.str [98]]);have M:=Step.cons c.ok c.lt (dA 1 0 [.str [97],.str [98]]);refine Jf dt K.tp K.ok dq dq E λY bB ca t4 aN=> ?_;obtain⟨ae,bz⟩:=K.tape aN t4;have gO:bB.get V.size=some (dA 1 0 [.str [97],.str [98]]):=(aN.get _ (by have:=c.tp.lt;omega)).trans dt;have gi:eJ (V.cons (dA 1 0 [.str [97],.str [98]])) bB V.size=true:=ff (aN.get _ (by have:=c.tp.lt;omega));obtain⟨nm,e2⟩:∃nm:List Nat,([.str [97],.str [98]]:List T)[Y]? =some (.str nm):=by
   rcases(by omega:Y=0\/Y=1)with rfl|rfl<;>exact⟨_,rfl⟩
  generalize([.str [97],.str [98]]:List T)=e1 at*
  have ca:Y<2:=dq;simp[u,gO,e2,ca,gi];refine lP O dt ⟨o,b,p,r,1⟩ ⟨⟨rfl,ae,E,dt⟩,dt⟩ ?_;rintro _ hE ⟨e,rfl,A,B,j,f⟩;simp only at B j f;obtain⟨z,g⟩:=ae.tape f j;have m:=((D.step M).step bz).step g;have fin:=lN (i:=⟨o,b,p,r,d,cnt⟩) (args:=[.ptr b 0 0 0,dy d]) (nm:=nm) m z (((F.trans M).trans bz).trans g) A dq;have er:eJ bB hE V.size=true:=ff (f.get _ (by have:=c.tp.lt;omega));have gI:eJ (V.cons ⟨1,0,0,true,false,e1⟩) hE V.size=true:=ff ((f.get _ (by have:=c.tp.lt;omega)).trans (aN.get _ (by have:=c.tp.lt;omega)));simp[rG,m.get,er,fin.1];exact fin.2
 ·simp[u];refine gY O dt ⟨o,b,p,r,0⟩ ⟨⟨rfl,c,E,dt⟩,dt⟩ ?_;rintro _ hE ⟨e,rfl,A,B,j,f⟩;simp only at B j f;obtain⟨z,g⟩:=c.tape f j;have eO:=z.cons (dA 4 0 [e.t]);have eU:=Step.cons z.ok z.lt (dA 4 0 [e.t]);simp[u];refine gY O dt ⟨o,b,p,r,1⟩ ⟨⟨rfl,eO,E,dt⟩,dt⟩ ?_;rintro _ eA ⟨cv,rfl,e4,fm,eX,c9⟩;simp only at fm eX c9;obtain⟨fC,eh⟩:=eO.tape c9 eX;have eM:=((D.step g).step eU).step eh;have gv:=g.ok.sz;have gy:=D.lt;have e3:eA.get hE.size=some (dA 4 0 [e.t]):=(c9.get _ (by have:=z.tp.lt;omega)).trans dt;have fo:=c9.size;simp at fo;have fi:¬Fp eA b hE.size:=λq=>by
   rcases eh.fp _ q with q|q
   ·rw[iJ (show(hE.cons (dA 4 0 [e.t])).get b=hE.get b by rw[dP,ao (by have:=z.lt;omega)])]at q;have:=z.fp _ q;omega
   ·simp at q;omega
  have fin:=Gv (i:=⟨o,b,p,r,d,cnt⟩) (args:=[.ptr b 0 0 0,dy d]) (cs:=[dy 1,dy 0,.str [113],.str [],.arr hE.size 0 0 1 false,dy cv.op,dy cv.n,.str cv.name,sl (cv.l.map dN.t),dz,dz]) (s:=CN [113] [e] cv) eM fC (((F.trans g).trans eU).trans eh) rfl
   (.cons (fW ..) (.cons (fW ..) (.cons (jV ..) (.cons (jV ..) (.cons (.inr (.inl ⟨hE.size,0,0,1,false,[e.t],[e.t],rfl,⟨dq,dq,fi,J2 _⟩,by rw[f7,e3];simp,.cons (e.ft _) .nil,rfl⟩)) (.cons (fW ..) (.cons (fW ..) (.cons (jV ..) (.cons (oz _ _ _ λx bu=>by obtain⟨y,_,rfl⟩:=List.mem_map.1 bu;simp) (.cons (iU ..) (.cons (iU ..) .nil)))))))))))
   (CB (by simpa using A) e4 dt) (KB (by rw[dN.jQ,dN.iD];omega) dq)
  simp[eM.get,fin.1];exact fin.2
 ·simp[bk];refine dW (λa6=> ?_) (λa6=> ?_)
  ·simp at a6;obtain⟨d,rfl⟩:∃e,d=e+1:=⟨d-1,dq⟩;have av:binop .sub (dy ((d:Int)+1)) (dy 1)=some (dy d):=by
    rw[tU,<-jn,ju dq dq];simp
   simp[u];refine gY O dt ⟨o,b,p,r,1⟩ ⟨⟨rfl,c,E,dt⟩,dt⟩ ?_;rintro _ hE ⟨e,rfl,A,B,j,f⟩;simp only at B j f;obtain⟨z,g⟩:=c.tape f j;simp[u,bk,av];refine gY cL dt ⟨o,b,p,r,d,1⟩ ⟨⟨rfl,z,E,dw,dw,dt⟩,dw⟩ ?_;rintro v an ⟨l,sv,H,P,Q,L⟩;simp only at sv H P Q L;have Z:=(D.step g).step L;have bn:=(F.trans g).trans L;have S:=sv.gc;obtain⟨uh,bi,bz,bS,b7⟩:=kX Q bn (dA 11 0 [.agg [dy 0,dy 0,.str [],.str [],dz,dy 0,dy 0,.str [],dz,dz,dz]]) (dA 11 1 [.agg [dy 2,dy 0,.str [],.str [],dz,dy e.op,dy e.n,.str e.name,sl (e.l.map dN.t),v,dz]]);have bl:=bS _ _ Z;have b6:=b7 _ _ _ _ _ sv (au _);obtain⟨b8,ap,left,set,N,al,aE,bN,G,C,X,hl⟩:=uh.ex;simp only[rE]at C;simp[u,S.1,S.2,C];generalize dT (an.cons _) an.size _=c7 at*
   refine rk dt uh.tp uh.ok dq dq E λY bB ca t4 aN=> ?_;obtain⟨ae,aX⟩:=uh.tape aN t4;have l4:=bi.step aX;have dv:=bl.step aX;have bH:=bz.trans aX;have gz:=uh.lt;have fs:an.size<c7.size:=bi.lt;have eW:=b6.step aX dq;have gw:=aN.size;have gm:I.size<an.size:=Z.lt;have eB:I.size<hE.size:=(D.step g).lt;simp;refine dW (λe9=> ?_) (λe9=> ?_)
   ·simp[u,bk,av];refine gY cL dt ⟨o,b,p,r,d,1⟩ ⟨⟨rfl,ae,E,dw,dw,dt⟩,dw⟩ ?_;rintro gg gn ⟨l2,eo,dn,eF,mkV,T0⟩;simp only at eo dn eF mkV T0;have eu:=eo.gc;obtain⟨fE,fv,bT,fL,e0⟩:=SH mkV (l4.step T0) (bH.trans T0) dq (dA 11 2 [.agg [dy 2,dy 0,.str [],.str [],dz,dy e.op,dy e.n,.str e.name,sl (e.l.map dN.t),v,gg]]);have eN:=fL _ _ dq (dv.step T0);have fS:=e0 _ _ _ _ _ (eW.step T0 dq) (.inr (au _));have fY:=e0 _ _ _ _ _ eo (.inl dq);have gB:=T0.ok.sz;have fin:=o7 (cnt:=cnt) (args:=[.ptr b 0 0 0,dy (d+1:Nat)]) (op:=2) (nm:=[]) (e:=e) eN fE bT (fS.cell eB du) (fY.cell dq dt) (oz _ _ _ λx bu=>by obtain⟨y,_,rfl⟩:=List.mem_map.1 bu;simp) dq (λ_=>A) dq (λs G=>(H s G).1) (λs G=>(dn s G).1) (by
     have b9:=wu H;have gP:=wu dn;have:=aW (wd d) P;have:=aW (wd d) eF;omega)
    simp[(l4.step T0).get,fv.get,dS,eu.1,eu.2,eN.get,fin.1];exact fin.2
   ·have fin:=o7 (cnt:=cnt) (args:=[.ptr b 0 0 0,dy (d+1:Nat)]) (op:=2) (nm:=[]) (e:=e) (le:=[]) dv ae bH (eW.cell eB dq) (iU _ _ _ false) (oz _ _ _ λx bu=>by obtain⟨y,_,rfl⟩:=List.mem_map.1 bu;simp) dq (λ_=>A) dq (λs G=>(H s G).1) dt (by
     have b9:=wu H;have:=aW (wd d) P;rw[dJ.iD];omega)
    simp[l4.get,dv.get,dS,fin.1];exact fin.2
  ·simp[u];refine gY O dt ⟨o,b,p,r,1⟩ ⟨⟨rfl,c,E,dt⟩,dt⟩ ?_;rintro _ hE ⟨e,rfl,A,B,j,f⟩;simp only at B j f;obtain⟨z,g⟩:=c.tape f j;have m:=D.step g;have fin:=lN (i:=⟨o,b,p,r,d,cnt⟩) (args:=[.ptr b 0 0 0,dy d]) (nm:=[120]) m z (F.trans g) A dq;simp[rG,m.get,fin.1];exact fin.2
 ·simp[bk];refine dW (λa6=> ?_) (λa6=> ?_)
  ·simp at a6;obtain⟨d,rfl⟩:∃e,d=e+1:=⟨d-1,dq⟩;have av:binop .sub (dy ((d:Int)+1)) (dy 1)=some (dy d):=by
    rw[tU,<-jn,ju dq dq];simp
   obtain⟨M,K⟩:=c.set (th':=ap) (left':=left) (se':=set) (tx':=N) (at2:=al) (lp':=true) c6 X hl;simp only[rE]at M K;simp[u,C,dS];generalize dT V b _=dk at*
   have aA:=D.step M;have bn:=F.trans M;simp[u,bk,RL,RM,VA,av];refine gY cL dt ⟨o,b,p,r,d,1⟩ ⟨⟨rfl,K,E,dw,dw,dt⟩,dw⟩ ?_;rintro v an ⟨l,sv,H,P,Q,L⟩;simp only at sv H P Q L;have Z:=aA.step L;have bz:=bn.trans L;have ec:=Step.cons Q.ok Q.lt (dA 11 0 [(CN [98] [] ⟨6,0,[],[⟨2,0,[98],[]⟩,⟨1,1,[],[]⟩]⟩).t]);have fs:=L.ok.sz;obtain⟨gd,ey,et,eV,fA,eR,_⟩:=(sv.step ec (au _)).app (Q.cons (dA 11 0 [(CN [98] [] ⟨6,0,[],[⟨2,0,[98],[]⟩,⟨1,1,[],[]⟩]⟩).t])) (x:= .arr an.size 0 0 1 false) (xs:=[(CN [98] [] ⟨6,0,[],[⟨2,0,[98],[]⟩,⟨1,1,[],[]⟩]⟩).t]) (l2:=[CN [98] [] ⟨6,0,[],[⟨2,0,[98],[]⟩,⟨1,1,[],[]⟩]⟩]) du dt (by rw[f7];simp) (.cons (dJ.ft _ _) .nil) dt dt du;have bH:=eR _ (bz.trans ec) (by simpa using bn.ok.sz);have l3:=aA.step (eR _ (L.trans ec) (au _));have S:=eV.gc;obtain⟨uh,bi,bT,bS,b7⟩:=kX fA bH (dA 11 0 [.agg [dy 0,dy 0,.str [],.str [],dz,dy 0,dy 0,.str [],dz,dz,dz]]) (dA 11 1 [.agg [dy 3,dy 0,.str [],.str [],dz,dy 13,dy 0,.str [],sl [(dN.mk 2 0 [98] []).t,(dN.mk 1 2 [] []).t],gd,dz]]);have bl:=bS _ _ l3;have b6:=b7 _ _ _ _ _ eV (au _);simp only[CN]at et;simp[u,RL,RM,VA,rG,et,S.1,S.2];generalize dT (ey.cons _) ey.size _=c7 at*
   obtain⟨b8,ap,left,set,N,al,gE,bN,G,C,X,hl⟩:=uh.ex;obtain⟨U,c1⟩:=uh.set (th':=ap) (left':=left) (se':=set) (tx':=N) (at2:=al) (lp':=aE) C X hl;have e5:=aA.lt;have eH:=bi.lt;have eI:=U.ok.sz;have fin:=o7 (cnt:=cnt) (args:=[.ptr b 0 0 0,dy (d+1:Nat)]) (op:=3) (nm:=[]) (e:=⟨13,0,[],[⟨2,0,[98],[]⟩,⟨1,2,[],[]⟩]⟩) (le:=[]) (bl.step U) c1 (bT.trans U) ((b6.step U dq).cell e5 dq) (iU _ _ _ false) (oz _ _ _ λx bu=>by obtain⟨y,_,rfl⟩:=List.mem_map.1 bu;simp) dq (λ_=> .bin dq (.nm _) (.num _)) (by simp[dN.kU,dN.jQ,dN.iD]) (λs G=>(List.mem_append.1 G).elim (λq=>(H s q).1) λq=>by rw[List.mem_singleton.1 q];exact CB dt (.bin dq (.nm _) (.num _)) (λI=>absurd rfl I)) dt (by
    have b9:=wu H;have:=aW (wd d) P;have:=KB (nm:=[98]) (ix:=[]) (e:=⟨6,0,[],[⟨2,0,[98],[]⟩,⟨1,1,[],[]⟩]⟩) (d:=d) (by rw[dN.iD];omega) (by simp[dN.kU,dN.jQ,dN.iD]);rw[dJ.HR,dJ.jQ,dJ.iD];omega)
   have gT:=(bi.step U).get;have gR:=(bl.step U).get;simp only[rE]at C gT gR fin;simp[C,gT,gR,dS];simp at fin;simp[fin.1];exact fin.2
  ·simp[u];refine gY O dt ⟨o,b,p,r,1⟩ ⟨⟨rfl,c,E,dt⟩,dt⟩ ?_;rintro _ hE ⟨e,rfl,A,B,j,f⟩;simp only at B j f;obtain⟨z,g⟩:=c.tape f j;have m:=D.step g;have fin:=lN (i:=⟨o,b,p,r,d,cnt⟩) (args:=[.ptr b 0 0 0,dy d]) (nm:=[120]) m z (F.trans g) A dq;simp[rG,m.get,fin.1];exact fin.2
 iterate 2
  ·by_cases J:(decide (0<d)&&decide (0<left)&& !N)=true
   ·simp at J;obtain⟨⟨a6,a7⟩,a8⟩:=J;subst a8;obtain⟨d,rfl⟩:∃e,d=e+1:=⟨d-1,dq⟩;have av:binop .sub (dy ((d:Int)+1)) (dy 1)=some (dy d):=by
     rw[tU,<-jn,ju dq dq];simp
    have K:=c.cons (dA 1 0 [.str [109],.str [110]]);have bs:=λ{tb:fy} (ht:tb.h 212=some w7) s=>cy ht [.ptr b 0 0 0,.str s] (V.cons (dA 1 0 [.str [109],.str [110]])) ⟨o,r,b,p,s,rfl,K,dq⟩;have M:=Step.cons c.ok c.lt (dA 1 0 [.str [109],.str [110]]);have aA:=D.step M;have ce:binop .sub (dy 8) (dy 8)=some (dy 0):=De dq dq dq;have cp:binop .sub (dy 9) (dy 8)=some (dy 1):=De dq dq dq;simp[u,a7,bs,ce,cp];refine dW (λR=> ?_) (λR=> ?_)
    ·simp[u,bk,ce,cp];have fB:=K.cons (dA 1 0 [.str [109],.str [110]]);have eS:=Step.cons K.ok K.lt (dA 1 0 [.str [109],.str [110]]);have eL:=aA.step eS;simp[av];refine gY ds dt ⟨o,b,p,r,d,_⟩ ⟨⟨rfl,fB,E,dw,dw⟩,dw⟩ ?_;rintro v an ⟨l,sv,H,P,Q,L⟩;simp only at sv H P Q L;have S:=sv.gc;have Z:=eL.step L;have fin:=λnm=>o7 (cnt:=cnt) (args:=[.ptr b 0 0 0,dy (d+1:Nat)]) (op:=4) (nm:=nm) (e:=⟨0,0,[],[]⟩) (le:=[]) Z Q (((F.trans M).trans eS).trans L) (sv.cell eL.lt (au _)) (iU _ _ _ false) (iU _ _ _ false) dq (λI=>by omega) (by simp[dN.kU,dN.iD]) (λs G=>(H s G).1) dt (by
      have b9:=wu H;have:=aW (wd d) P;rw[dJ.iD];omega)
     simp only[dN.uX,dN.Er,dN.oc]at fin;simp[S.1,S.2,Z.get,λnm=>(fin nm).1];exact(fin _).2
    ·simp[u];refine gY O dt ⟨o,b,p,r,1⟩ ⟨⟨rfl,K,E,dt⟩,dt⟩ ?_;rintro _ hE ⟨e,rfl,A,B,j,f⟩;simp only at B j f;obtain⟨z,g⟩:=K.tape f j;have m:=aA.step g;have fin:=lN (i:=⟨o,b,p,r,d+1,cnt⟩) (args:=[.ptr b 0 0 0,dy d]) (nm:=[120]) m z ((F.trans M).trans g) A dq;simp[rG,m.get,fin.1];exact fin.2
   ·have J:(decide (0<d)&&decide (0<left)&& !N)=false:=by simpa using J
    simp[u,J];refine gY O dt ⟨o,b,p,r,1⟩ ⟨⟨rfl,c,E,dt⟩,dt⟩ ?_;rintro _ hE ⟨e,rfl,A,B,j,f⟩;simp only at B j f;obtain⟨z,g⟩:=c.tape f j;have m:=D.step g;have fin:=lN (i:=⟨o,b,p,r,d,cnt⟩) (args:=[.ptr b 0 0 0,dy d]) (nm:=[120]) m z (F.trans g) A dq;simp[rG,m.get,fin.1];exact fin.2
 ·by_cases J:(decide (0<d)&&decide (0<left)&& !N)=true
  ·simp at J;obtain⟨⟨a6,a7⟩,a8⟩:=J;subst a8;obtain⟨d,rfl⟩:∃e,d=e+1:=⟨d-1,dq⟩;have av:binop .sub (dy ((d:Int)+1)) (dy 1)=some (dy d):=by
    rw[tU,<-jn,ju dq dq];simp
   have bs:=λ{tb:fy} (ht:tb.h 212=some w7) s=>cy ht [.ptr b 0 0 0,.str s] V ⟨o,r,b,p,s,rfl,c,dq⟩;have ce:binop .sub (dy 10) (dy 10)=some (dy 0):=De dq dq dq;have cp:binop .add (dy 0) (dy 5)=some (dy 5):=yB dq dq dq;simp[u,a7,bs];refine dW (λR=> ?_) (λR=> ?_)
   ·simp[u,bk,ce,cp,av];refine gY ds dt ⟨o,b,p,r,d,_⟩ ⟨⟨rfl,c,E,dw,dw⟩,dw⟩ ?_;rintro v an ⟨l,sv,H,P,Q,L⟩;simp only at sv H P Q L;have S:=sv.gc;have Z:=D.step L;have fin:=λnm=>o7 (cnt:=cnt) (args:=[.ptr b 0 0 0,dy (d+1:Nat)]) (op:=5) (nm:=nm) (e:=⟨0,0,[],[]⟩) (le:=[]) Z Q (F.trans L) (sv.cell D.lt (au _)) (iU _ _ _ false) (iU _ _ _ false) dq (λI=>by omega) (by simp[dN.kU,dN.iD]) (λs G=>(H s G).1) dt (by
     have b9:=wu H;have:=aW (wd d) P;rw[dJ.iD];omega)
    simp only[dN.uX,dN.Er,dN.oc]at fin;simp[S.1,S.2,Z.get,λnm=>(fin nm).1];exact(fin _).2
   ·simp[u];refine gY O dt ⟨o,b,p,r,1⟩ ⟨⟨rfl,c,E,dt⟩,dt⟩ ?_;rintro _ hE ⟨e,rfl,A,B,j,f⟩;simp only at B j f;obtain⟨z,g⟩:=c.tape f j;have m:=D.step g;have fin:=lN (i:=⟨o,b,p,r,d+1,cnt⟩) (args:=[.ptr b 0 0 0,dy d]) (nm:=[120]) m z (F.trans g) A dq;simp[rG,m.get,fin.1];exact fin.2
  ·have J:(decide (0<d)&&decide (0<left)&& !N)=false:=by simpa using J
   simp[u,J];refine gY O dt ⟨o,b,p,r,1⟩ ⟨⟨rfl,c,E,dt⟩,dt⟩ ?_;rintro _ hE ⟨e,rfl,A,B,j,f⟩;simp only at B j f;obtain⟨z,g⟩:=c.tape f j;have m:=D.step g;have fin:=lN (i:=⟨o,b,p,r,d,cnt⟩) (args:=[.ptr b 0 0 0,dy d]) (nm:=[120]) m z (F.trans g) A dq;simp[rG,m.get,fin.1];exact fin.2
 ·by_cases J:(decide (0<d)&&decide (0<left)&& !N)=true
  ·simp at J;obtain⟨⟨a6,a7⟩,a8⟩:=J;subst a8;obtain⟨d,rfl⟩:∃e,d=e+1:=⟨d-1,dq⟩;have av:binop .sub (dy ((d:Int)+1)) (dy 1)=some (dy d):=by
    rw[tU,<-jn,ju dq dq];simp
   have bs:=λ{tb:fy} (ht:tb.h 212=some w7) s=>cy ht [.ptr b 0 0 0,.str s] V ⟨o,r,b,p,s,rfl,c,dq⟩;have ce:binop .sub (dy 11) (dy 10)=some (dy 1):=De dq dq dq;have cp:binop .add (dy 1) (dy 5)=some (dy 6):=yB dq dq dq;simp[u,a7,bs];refine dW (λR=> ?_) (λR=> ?_)
   ·simp[u,bk,ce,cp,av];refine gY ds dt ⟨o,b,p,r,d,_⟩ ⟨⟨rfl,c,E,dw,dw⟩,dw⟩ ?_;rintro v an ⟨l,sv,H,P,Q,L⟩;simp only at sv H P Q L;have S:=sv.gc;have Z:=D.step L;have fin:=λnm=>o7 (cnt:=cnt) (args:=[.ptr b 0 0 0,dy (d+1:Nat)]) (op:=6) (nm:=nm) (e:=⟨0,0,[],[]⟩) (le:=[]) Z Q (F.trans L) (sv.cell D.lt (au _)) (iU _ _ _ false) (iU _ _ _ false) dq (λI=>by omega) (by simp[dN.kU,dN.iD]) (λs G=>(H s G).1) dt (by
     have b9:=wu H;have:=aW (wd d) P;rw[dJ.iD];omega)
    simp only[dN.uX,dN.Er,dN.oc]at fin;simp[S.1,S.2,Z.get,λnm=>(fin nm).1];exact(fin _).2
   ·simp[u];refine gY O dt ⟨o,b,p,r,1⟩ ⟨⟨rfl,c,E,dt⟩,dt⟩ ?_;rintro _ hE ⟨e,rfl,A,B,j,f⟩;simp only at B j f;obtain⟨z,g⟩:=c.tape f j;have m:=D.step g;have fin:=lN (i:=⟨o,b,p,r,d+1,cnt⟩) (args:=[.ptr b 0 0 0,dy d]) (nm:=[120]) m z (F.trans g) A dq;simp[rG,m.get,fin.1];exact fin.2
  ·have J:(decide (0<d)&&decide (0<left)&& !N)=false:=by simpa using J
   simp[u,J];refine gY O dt ⟨o,b,p,r,1⟩ ⟨⟨rfl,c,E,dt⟩,dt⟩ ?_;rintro _ hE ⟨e,rfl,A,B,j,f⟩;simp only at B j f;obtain⟨z,g⟩:=c.tape f j;have m:=D.step g;have fin:=lN (i:=⟨o,b,p,r,d,cnt⟩) (args:=[.ptr b 0 0 0,dy d]) (nm:=[120]) m z (F.trans g) A dq;simp[rG,m.get,fin.1];exact fin.2
 ·simp;refine dW (λR=> ?_) (λR=> ?_)
  ·simp at R;obtain⟨⟨a6,a7⟩,a8⟩:=R;obtain⟨d,rfl⟩:∃e,d=e+1:=⟨d-1,dq⟩;have av:binop .sub (dy ((d:Int)+1)) (dy 1)=some (dy d):=by
    rw[tU,<-jn,ju dq dq];simp
   obtain⟨M,K⟩:=c.set (th':=ap) (left':=left) (se':=set) (tx':=true) (at2:=al) (lp':=aE) c6 X hl;simp only[rE]at M K;simp[u,C,dS];generalize dT V b _=dk at*
   have aA:=D.step M;have bn:=F.trans M;obtain⟨b8,ap,left,set,N,al,aE,bN,G,C,X,hl⟩:=K.ex;simp only[rE]at C;simp[C];refine rk dt K.tp K.ok dq dq E λY bB ca t4 aN=> ?_;obtain⟨ae,aX⟩:=K.tape aN t4;have l4:=aA.step aX;have de:binop .add (dy 1) (dy Y)=some (dy ((1+Y:Nat):Int)):=yB dt dq dq;simp[de];refine gY cL dt ⟨o,b,p,r,0,1+Y⟩ ⟨⟨dt,ae,E,dt,dw,dw⟩,dw⟩ ?_;rintro v an ⟨l,sv,H,P,Q,L⟩;simp only at sv H P Q L;replace P:l.length<=2:=dq;replace sv:=sv.deep (show 2*0+2<=2*d+2 by omega);replace H:∀s∈l,MS s/\s.w<=wd d:=λs G=>⟨(H s G).1,aS (H s G).2 (Xb d)⟩;have Z:=l4.step L;have bH:=(bn.trans aX).trans L;have S:=sv.gc;obtain⟨uh,bi,bT,bS,b7⟩:=kX Q bH (dA 11 0 [.agg [dy 0,dy 0,.str [],.str [],dz,dy 0,dy 0,.str [],dz,dz,dz]]) (dA 11 1 [.agg [dy 7,dy 0,.str [],.str [],dz,dy 0,dy 0,.str [],dz,v,dz]]);have bl:=bS _ _ Z;have b6:=b7 _ _ _ _ _ sv (au _);simp[u,S.1,S.2];generalize dT (an.cons _) an.size _=c7 at*
   obtain⟨b8,ap,left,set,N,al,aE,bN,G,C,X,hl⟩:=uh.ex;obtain⟨U,c1⟩:=uh.set (th':=ap) (left':=left) (se':=set) (tx':=false) (at2:=al) (lp':=aE) C X hl;have eH:=bi.lt;have eI:=U.ok.sz;have fin:=o7 (cnt:=cnt) (args:=[.ptr b 0 0 0,dy (d+1:Nat)]) (op:=7) (nm:=[]) (e:=⟨0,0,[],[]⟩) (le:=[]) (bl.step U) c1 (bT.trans U) ((b6.step U dq).cell l4.lt dq) (iU _ _ _ false) (iU _ _ _ false) dq (λI=>by omega) (by simp[dN.kU,dN.iD]) (λs G=>(H s G).1) dt (by
    have b9:=wu H;have:=aW (wd d) P;rw[dJ.iD];omega)
   have gT:=(bi.step U).get;have gR:=(bl.step U).get;simp only[rE,dN.uX,dN.Er,dN.oc]at C gT gR fin;simp[C,gT,gR,dS,fin.1];exact fin.2
  ·simp[u];refine gY O dt ⟨o,b,p,r,1⟩ ⟨⟨rfl,c,E,dt⟩,dt⟩ ?_;rintro _ hE ⟨e,rfl,A,B,j,f⟩;simp only at B j f;obtain⟨z,g⟩:=c.tape f j;have m:=D.step g;have fin:=lN (i:=⟨o,b,p,r,d,cnt⟩) (args:=[.ptr b 0 0 0,dy d]) (nm:=[120]) m z (F.trans g) A dq;simp[rG,m.get,fin.1];exact fin.2
 ·simp[u,C];refine dW (λR=> ?_) (λR=> ?_)
  ·simp at R;obtain⟨⟨⟨a6,a7⟩,a8⟩,eD⟩:=R;obtain⟨d,rfl⟩:∃e,d=e+1:=⟨d-1,dq⟩;have av:binop .sub (dy ((d:Int)+1)) (dy 1)=some (dy d):=by
    rw[tU,<-jn,ju dq dq];simp
   obtain⟨M,K⟩:=c.set (th':=ap) (left':=left) (se':=set) (tx':=N) (at2:=true) (lp':=aE) c6 X hl;simp only[rE]at M K;simp[u,bk,C,dS,av];generalize dT V b _=dk at*
   have aA:=D.step M;have bn:=F.trans M;refine gY cL dt ⟨o,b,p,r,d,2⟩ ⟨⟨rfl,K,E,dw,dw,dt⟩,dw⟩ ?_;rintro v an ⟨l,sv,H,P,Q,L⟩;simp only at sv H P Q L;have Z:=aA.step L;have bH:=bn.trans L;have S:=sv.gc;obtain⟨uh,bi,bT,bS,b7⟩:=kX Q bH (dA 11 0 [.agg [dy 0,dy 0,.str [],.str [],dz,dy 0,dy 0,.str [],dz,dz,dz]]) (dA 11 1 [.agg [dy 8,dy 0,.str [],.str [],dz,dy 0,dy 0,.str [],dz,v,dz]]);have bl:=bS _ _ Z;have b6:=b7 _ _ _ _ _ sv (au _);simp[u,S.1,S.2];generalize dT (an.cons _) an.size _=c7 at*
   obtain⟨b8,ap,left,set,N,al,aE,bN,G,C,X,hl⟩:=uh.ex;obtain⟨U,c1⟩:=uh.set (th':=ap) (left':=left) (se':=set) (tx':=N) (at2:=false) (lp':=aE) C X hl;have eH:=bi.lt;have eI:=U.ok.sz;have fin:=o7 (cnt:=cnt) (args:=[.ptr b 0 0 0,dy (d+1:Nat)]) (op:=8) (nm:=[]) (e:=⟨0,0,[],[]⟩) (le:=[]) (bl.step U) c1 (bT.trans U) ((b6.step U dq).cell aA.lt dq) (iU _ _ _ false) (iU _ _ _ false) dq (λI=>by omega) (by simp[dN.kU,dN.iD]) (λs G=>(H s G).1) dt (by
    have b9:=wu H;have:=aW (wd d) P;rw[dJ.iD];omega)
   have gT:=(bi.step U).get;have gR:=(bl.step U).get;simp only[rE,dN.uX,dN.Er,dN.oc]at C gT gR fin;simp[C,gT,gR,dS,fin.1];exact fin.2
  ·simp[u];refine gY O dt ⟨o,b,p,r,1⟩ ⟨⟨rfl,c,E,dt⟩,dt⟩ ?_;rintro _ hE ⟨e,rfl,A,B,j,f⟩;simp only at B j f;obtain⟨z,g⟩:=c.tape f j;have m:=D.step g;have fin:=lN (i:=⟨o,b,p,r,d,cnt⟩) (args:=[.ptr b 0 0 0,dy d]) (nm:=[120]) m z (F.trans g) A dq;simp[rG,m.get,fin.1];exact fin.2
 ·by_cases J:(decide (0<d)&&decide (0<left)&& !N&& !al)=true
  ·simp at J;obtain⟨⟨⟨a6,a7⟩,a8⟩,eD⟩:=J;subst a8;subst eD;obtain⟨d,rfl⟩:∃e,d=e+1:=⟨d-1,dq⟩;have bs:=λ{tb:fy} (ht:tb.h 212=some w7) s=>cy ht [.ptr b 0 0 0,.str s] V ⟨o,r,b,p,s,rfl,c,dq⟩;simp[u,C,a7,bs];refine dW (λR=> ?_) (λR=> ?_)
   ·simp[RM,rG];have dm:(I.size=V.size)=False:=by have:=D.lt;simp;omega
    have sv:=SV.lit (d:=2*d+2) (l:=[AF 9,CN [97] [] ⟨2,0,[120],[]⟩]) (es:=[.agg [dy 9,dy 0,.str [99],.str [],dz,dy 0,dy 0,.str [],dz,dz,dz],(CN [97] [] ⟨2,0,[120],[]⟩).t]) c (λ_ _=> .cons (O6 _ _) (.cons (dJ.ft _ _) .nil));have c4:=Step.cons c.ok c.lt (dA 11 0 [.agg [dy 9,dy 0,.str [99],.str [],dz,dy 0,dy 0,.str [],dz,dz,dz],(CN [97] [] ⟨2,0,[120],[]⟩).t]);have ea:=D.step c4;have fin:=o7 (cnt:=cnt) (args:=[.ptr b 0 0 0,dy (d+1:Nat)]) (op:=4) (nm:=[109]) (e:=⟨0,0,[],[]⟩) (le:=[]) ea (c.cons _) (F.trans c4) (sv.cell D.lt dt) (iU _ _ _ false) (iU _ _ _ false) dq (λI=>by omega) (by simp[dN.kU,dN.iD]) (λs G=>by
     rcases List.mem_cons.1 G with rfl|G
     ·exact O0 dq
     ·rw[List.mem_singleton.1 G];exact CB dt (.nm _) (λI=>absurd rfl I)) dt (by
     have:=A6 d;simp[dJ.jQ,dJ.iD,Tx,CN,dJ.kU (dJ.mk 1 0 [97] [] [] (dN.mk 2 0 [120] []) [] []),dN.kU,dN.iD];omega)
    simp only[dN.uX,dN.Er,dN.oc,CN]at fin;simp at fin;simp[dm,D.get,fin.1];exact fin.2
   ·simp[u];refine gY O dt ⟨o,b,p,r,1⟩ ⟨⟨rfl,c,E,dt⟩,dt⟩ ?_;rintro _ hE ⟨e,rfl,A,B,j,f⟩;simp only at B j f;obtain⟨z,g⟩:=c.tape f j;have m:=D.step g;have fin:=lN (i:=⟨o,b,p,r,d+1,cnt⟩) (args:=[.ptr b 0 0 0,dy d]) (nm:=[120]) m z (F.trans g) A dq;simp[rG,m.get,fin.1];exact fin.2
  ·have J:(decide (0<d)&&decide (0<left)&& !N&& !al)=false:=by simpa using J
   simp[u,C,J];refine gY O dt ⟨o,b,p,r,1⟩ ⟨⟨rfl,c,E,dt⟩,dt⟩ ?_;rintro _ hE ⟨e,rfl,A,B,j,f⟩;simp only at B j f;obtain⟨z,g⟩:=c.tape f j;have m:=D.step g;have fin:=lN (i:=⟨o,b,p,r,d,cnt⟩) (args:=[.ptr b 0 0 0,dy d]) (nm:=[120]) m z (F.trans g) A dq;simp[rG,m.get,fin.1];exact fin.2
 ·by_cases J:(decide (0<d)&&decide (0<left)&& !N)=true
  ·simp at J;obtain⟨⟨a6,a7⟩,a8⟩:=J;subst a8
   skip
   obtain⟨d,rfl⟩:∃e,d=e+1:=⟨d-1,dq⟩;have bs:=λ{tb:fy} (ht:tb.h 212=some w7) s=>cy ht [.ptr b 0 0 0,.str s] V ⟨o,r,b,p,s,rfl,c,dq⟩;simp[u,a7,bs];refine dW (λR=> ?_) (λR=> ?_)
   ·simp[u,C];refine rk dt c.tp c.ok dq dq E λY bB ca t4 aN=> ?_;obtain⟨ae,aX⟩:=c.tape aN t4;have l4:=D.step aX;have de:binop .add (dy 10) (dy Y)=some (dy (10+Y)):=yB dt dq dq;simp[de];have dm:(I.size=bB.size)=False:=by have:=l4.lt;simp;omega
    have sv:=SV.lit (d:=2*d+2) (l:=[AF (10+Y)]) (es:=[.agg [dy (10+Y),dy 0,.str [99],.str [],dz,dy 0,dy 0,.str [],dz,dz,dz]]) ae (λ_ _=> .cons (O6 _ _) .nil);have c4:=Step.cons ae.ok ae.lt (dA 11 0 [.agg [dy (10+Y),dy 0,.str [99],.str [],dz,dy 0,dy 0,.str [],dz,dz,dz]]);have ea:=l4.step c4;have fin:=o7 (cnt:=cnt) (args:=[.ptr b 0 0 0,dy (d+1:Nat)]) (op:=4) (nm:=[109]) (e:=⟨0,0,[],[]⟩) (le:=[]) ea (ae.cons _) ((F.trans aX).trans c4) (sv.cell l4.lt dt) (iU _ _ _ false) (iU _ _ _ false) dq (λI=>by omega) (by simp[dN.kU,dN.iD]) (λs G=>by rw[List.mem_singleton.1 G];exact O0 dq) dt (by
     have:=A6 d;simp[dJ.jQ,dJ.iD,Tx];omega)
    simp only[dN.uX,dN.Er,dN.oc]at fin;simp at fin;simp[dm,l4.get,fin.1];exact fin.2
   ·simp[u];refine gY O dt ⟨o,b,p,r,1⟩ ⟨⟨rfl,c,E,dt⟩,dt⟩ ?_;rintro _ hE ⟨e,rfl,A,B,j,f⟩;simp only at B j f;obtain⟨z,g⟩:=c.tape f j;have m:=D.step g;have fin:=lN (i:=⟨o,b,p,r,d+1,cnt⟩) (args:=[.ptr b 0 0 0,dy d]) (nm:=[120]) m z (F.trans g) A dq;simp[rG,m.get,fin.1];exact fin.2
  ·have J:(decide (0<d)&&decide (0<left)&& !N)=false:=by simpa using J
   simp[u,J];refine gY O dt ⟨o,b,p,r,1⟩ ⟨⟨rfl,c,E,dt⟩,dt⟩ ?_;rintro _ hE ⟨e,rfl,A,B,j,f⟩;simp only at B j f;obtain⟨z,g⟩:=c.tape f j;have m:=D.step g;have fin:=lN (i:=⟨o,b,p,r,d,cnt⟩) (args:=[.ptr b 0 0 0,dy d]) (nm:=[120]) m z (F.trans g) A dq;simp[rG,m.get,fin.1];exact fin.2
 ·simp[u,C];refine dW (λR=> ?_) (λR=> ?_)
  ·obtain⟨M,K⟩:=c.set (th':=ap) (left':=left) (se':=true) (tx':=N) (at2:=al) (lp':=aE) c6 X hl;simp only[rE]at M K;simp[u,C,dS];generalize dT V b _=dk at*
   have aA:=D.step M;have bn:=F.trans M;refine gY O dt ⟨o,b,p,r,1⟩ ⟨⟨rfl,K,E,dt⟩,dt⟩ ?_;rintro _ hE ⟨e,rfl,A,B,j,f⟩;simp only at B j f;obtain⟨z,g⟩:=K.tape f j;have m:=aA.step g;have fin:=Gv (i:=⟨o,b,p,r,d,cnt⟩) (args:=[.ptr b 0 0 0,dy d]) (cs:=[dy 14,dy 0,.str [102],.str [],dz,dy e.op,dy e.n,.str e.name,sl (e.l.map dN.t),dz,dz]) (s:=⟨14,0,[102],[],[],e,[],[]⟩) m z (bn.trans g) rfl
    (.cons (fW ..) (.cons (fW ..) (.cons (jV ..) (.cons (jV ..) (.cons (iU ..) (.cons (fW ..) (.cons (fW ..) (.cons (jV ..) (.cons (oz _ _ _ λx bu=>by obtain⟨y,_,rfl⟩:=List.mem_map.1 bu;simp) (.cons (iU ..) (.cons (iU ..) .nil)))))))))))
    (.mk (λI=>by simp at I) (λI=>by simp at I) dt (λ_=>A) dt dt) (by
      have:=A6 d;rw[dJ.kU];simp only[dJ.qY,dJ.I7,dJ.uu,dJ.xq,dJ.iD,dN.iD];omega)
   simp[m.get,fin.1];exact fin.2
  ·simp[u];refine gY O dt ⟨o,b,p,r,1⟩ ⟨⟨rfl,c,E,dt⟩,dt⟩ ?_;rintro _ hE ⟨e,rfl,A,B,j,f⟩;simp only at B j f;obtain⟨z,g⟩:=c.tape f j;have m:=D.step g;have fin:=lN (i:=⟨o,b,p,r,d,cnt⟩) (args:=[.ptr b 0 0 0,dy d]) (nm:=[120]) m z (F.trans g) A dq;simp[rG,m.get,fin.1];exact fin.2
 ·cases N with
  |true=>
   simp[u,C];refine gY O dt ⟨o,b,p,r,1⟩ ⟨⟨rfl,c,E,dt⟩,dt⟩ ?_;rintro _ hE ⟨e,rfl,A,B,j,f⟩;simp only at B j f;obtain⟨z,g⟩:=c.tape f j;have m:=D.step g;have fin:=lN (i:=⟨o,b,p,r,d,cnt⟩) (args:=[.ptr b 0 0 0,dy d]) (nm:=[120]) m z (F.trans g) A dq;simp[rG,m.get,fin.1];exact fin.2
  |false=>
   simp[u,C];refine rk dt c.tp c.ok dq dq E λY bB ca t4 aN=> ?_;obtain⟨ae,aX⟩:=c.tape aN t4;have l4:=D.step aX;have bz:=F.trans aX;simp;refine dW (λR=> ?_) (λR=> ?_)
   ·have fin:=Gv (i:=⟨o,b,p,r,d,cnt⟩) (args:=[.ptr b 0 0 0,dy d]) (cs:=[dy 15,dy 0,.str [97],.str [102],dz,dy 0,dy 0,.str [],dz,dz,dz]) (s:=⟨15,0,[97],[102],[],⟨0,0,[],[]⟩,[],[]⟩) l4 ae bz rfl
     (.cons (fW ..) (.cons (fW ..) (.cons (jV ..) (.cons (jV ..) (.cons (iU ..) (.cons (fW ..) (.cons (fW ..) (.cons (jV ..) (.cons (iU ..) (.cons (iU ..) (.cons (iU ..) .nil)))))))))))
     (.mk (λI=>by simp at I) (λI=>by simp at I) dt (λI=>by simp at I) dt dt) (by
       have:=A6 d;rw[dJ.kU,dN.kU];simp only[dJ.qY,dJ.I7,dJ.uu,dJ.xq,dJ.iD,dN.iD,dN.Eu];omega)
    simp[l4.get,fin.1];exact fin.2
   ·simp[u];refine gY O dt ⟨o,b,p,r,1⟩ ⟨⟨rfl,ae,E,dt⟩,dt⟩ ?_;rintro _ hE ⟨e,rfl,A,B,j,f⟩;simp only at B j f;obtain⟨z,g⟩:=ae.tape f j;have m:=l4.step g;have fin:=lN (i:=⟨o,b,p,r,d,cnt⟩) (args:=[.ptr b 0 0 0,dy d]) (nm:=[120]) m z (bz.trans g) A dq;simp[rG,m.get,fin.1];exact fin.2
def acf(a:Nat):(Ue a).Ok Tryz.prog cx 118:=
 yG (λc:TN=>c.d) (λa b=>Zd (a+1) (Zc a b (aac a b))) a
end
end Go.Proofs.YtmaeadedikngoaaGreatDoor
namespace Go.TI
noncomputable section
@[simp] theorem Yq (a:H) (b:iN):(a.cons b).size=a.size+1:=id rfl
def iv.GA{b h:Type}{c:b->h->Prop}{e:List b}{f:List h}(j:iv c e f){g:b}(d:g∈e):∃a∈f,c g a:=by
 induction j with
 |nil=>simp at d
 |cons i _ l=>
  rcases List.mem_cons.1 d with rfl|q
  ·exact⟨_,dt,i⟩
  ·obtain⟨a,k,m⟩:=l q;exact⟨a,by simp[k],m⟩
section
variable {cx:Ctx}{cf:iL}{mask n:Nat}{dl:DL}
def aai{f:Out}{e:Env->H->Prop}{c:iB}(i:W f (xi e c))(j:∀a b,e a b->c.n a b):W f c:=by
 obtain⟨g,a,b,h,d⟩:=i;refine⟨g,a,b,h,?_⟩;cases g with
 |normal=>exact j a b d
 |exit k=>exact d
 |ret=>exact d
def PO{g:Out}{d:iB}(e:fN->H->Prop)(i:W g (xi (λb a=>b.tmps= .nil/\e b.vars a) d))(j:∀c a,e c a->d.n ⟨c,.nil⟩ a):W g d:=
 aai i λb a ⟨h,f⟩=>by obtain⟨c,k⟩:=b;simp only at h f;subst h;exact j c a f
def kS{f:Bool}{g h:Code}{b:Env}{a:H}{d:iB}(c:fN->H->Prop)(k:f=true->W (jm cx cf n mask dl g b a) (xi (λb a=>b.tmps= .nil/\c b.vars a) d))(l:f=false->W (jm cx cf n mask dl h b a) (xi (λb a=>b.tmps= .nil/\c b.vars a) d))
 (i:∀j a,c j a->d.n ⟨j,.nil⟩ a):CK (some (.bool f)) cx cf n mask dl g h b a d:=by
 refine dW (λe=> ?_) (λe=> ?_)
 ·exact PO c (k e) i
 ·exact PO c (l e) i
end
end
noncomputable section
@[simp] theorem adZ (a:Nat):(a=a+1)=False:=dt 
@[simp] theorem adY (a:Nat):(a=a+1+1)=False:=du 
@[simp] theorem adX (a:Nat):(a=a+1+1+1)=False:=du 
@[simp] theorem adW (a:Nat):(a=a+1+1+1+1)=False:=du 
@[simp] theorem adV (a:Nat):(a=a+1+1+1+1+1)=False:=du 
def IM{c:H}{b:T}{d:List T}(a:c.jg b=some d)(f:iN):(c.cons f).jg b=some d:=by
 cases b<;>first|exact a|(simp[H.jg]at a;done)|skip
 rename_i g h k j i;rw[f7]at a|-;obtain⟨l,e,_⟩:=dD.1 a;rw[dP,ao (by have:=H.ez e;omega)];exact a
def lz{cx:Ctx}{a:H}{sz:Nat}(E:gF 0 a){g h f:ab}{m n b:Ty}(s:cx.ty g=some m)(t:m.u= .slice f)(v:cx.ty f=some b)(w:cx.ty h=some n)(y:n.u= .slice f)(j:b.size=sz)(A:1<=b.bytes)
 {x:T} {xs:List T} (D:a.jg x=some xs) (k:∀q∈xs,q.cells.length=sz) (C:xs.length*b.bytes<=70368744177664):
 ∃i d,iO cx (a.cons ⟨sz,0,0,true,false,[]⟩) g h (.arr a.size 0 0 0 false) x=some (.val (.arr a.size i 0 xs.length false) d)/\(∃F r,d.get a.size=some ⟨sz,i,F,r,false,xs⟩)/\d.size=a.size+1/\(∀c,c<a.size->d.get c=a.get c)/\gF 0 d:=by
 have z:iO cx (a.cons ⟨sz,0,0,true,false,[]⟩) g h (.arr a.size 0 0 0 false) x=jp ((a.cons ⟨sz,0,0,true,false,[]⟩).append b.size b.bytes (.arr a.size 0 0 0 false) xs):=by
  unfold iO pR nc;rw[s,dR,w,dR];simp only[t,v,y,IM D,dR];rw[j,ni k,ij]
 rw[z,j];have l:=E.cons ⟨sz,0,0,true,false,[]⟩;have e:(a.cons ⟨sz,0,0,true,false,[]⟩).get a.size=some ⟨sz,0,0,true,false,[]⟩:=dt;cases xs with
 |nil=>exact⟨0,a.cons ⟨sz,0,0,true,false,[]⟩,rfl,⟨0,true,e⟩,rfl,λc B=>by rw[dP,ao dq],l⟩
 |cons o p=>
  refine⟨1,dT (a.cons ⟨sz,0,0,true,false,[]⟩) a.size ⟨sz,1,1,false,false,o::p⟩,?_,⟨1,false,by rw[dI e,aq rfl]⟩,by rw[fJ];rfl,λc B=>by rw[dI e,ao dq,dP,ao dq],l.put _ _⟩;show jp ((a.cons ⟨sz,0,0,true,false,[]⟩).ma sz b.bytes a.size 0 ([]:List T).length (o::p))=_;rw[vq e k A (by simpa using C)];rfl
def oS(c:H)(d:Nat)(b:T)(a:List T):Prop:=b=sl a\/Gr c b d a
def oS.jg{b:H}{e:Nat}{c:T}{a:List T}(d:oS b e c a):b.jg c=some a:=by
 rcases d with rfl|g
 ·simp
 ·exact g.jg
def oS.mono{d h':H}{e:Nat}{b:T}{c:List T}(h:oS d e b c)(g:∀a,dO b=some a->h'.get a=d.get a):oS h' e b c:=h.imp id λf=>f.mono g
def oS.len{cx:Ctx}{h:H}{j:Nat}{f:T}{a:List T}(i:oS h j f a)(b:H)(d:Ty)(e:ab)(c:d.u= .slice e):CX cx b d f=some (.val (.int .i64 a.length) b):=by
 rcases i with rfl|g
 ·cases a with
  |nil=>exact LF _ _ c
  |cons l k=>exact DH _ _ _ _ c
 ·exact g.len b d e c
def oS.gJ{c:H}{e:Nat}{a:T}{b:List T}(d:oS c e a b):a.gJ=true/\a.cells=[a]:=by
 rcases d with rfl|g
 ·cases b<;>exact⟨rfl,rfl⟩
 ·exact⟨g.gJ,g.cells⟩
def oS.idx{c:H}{k:T}{a:List T}(r:oS c 1 k a){te:Ty}(f:te.size=1)(p:te.isAgg=false){i:Nat}{x:T}(b:a[i]? =some x)(d:x.cells=[x]):∃j,km c te k i=some (.val j c)/\c.load te j=some x:=by
 have hr:j2 te [x]=some x:=by unfold j2;rw[p];rfl
 have e:i<a.length:=by
  rcases aD i a.length with q|q
  ·exact q
  ·rw[aK q]at b;simp at b
 rcases r with rfl|g
 ·refine⟨.ji x.cells,?_,?_⟩
  ·cases a with
   |nil=>simp at b
   |cons l h=>rw[show sl (l::h)= .dF (l::h) false from rfl,LL,b];simp[d,f]
  ·rw[d];exact hr
 ·obtain⟨s,t,v,u,w,_,m,o,n⟩:=g.IK f e;refine⟨_,m,?_⟩;have:a[i]=x:=by rw[az e]at b;simpa using b
  rw[UM,o];simp[n,this,d,hr]
def oS.ft{h:H}{V:Nat->Prop}{s d:Nat}{f:T}{b:List T}(r:oS h s f b)(e:∀a∈b,cn a=a/\jI a=true/\∀k,a≠ .agg k)(i:∀c,dO f=some c->V c):FT h V (d+2) f (sl b):=by
 rcases r with rfl|g
 ·exact oz _ _ _ λa o=>(e a o).1
 ·have j:=g.jg;rcases g with⟨rfl,rfl⟩|⟨c,l,w,u,x,rfl,m,n⟩
  ·exact iU _ _ _ _
  ·refine .inr (.inl ⟨c,l,0,_,false,b,b,rfl,i c rfl,j,?_,rfl⟩);clear j i n m;induction b with
   |nil=>exact .nil
   |cons a v q=>exact .cons (.inl ⟨(e a dt).2.1,(e a dt).2.2,(e a dt).1.symm⟩) (q λt p=>e t (by simp[p]))
structure Nb(h h':H):Prop where
 ok:gF h.size h'
 get:∀c,c<h.size->h'.get c=h.get c
def Nb.refl{a:H}(b:gF 0 a):Nb a a:=⟨⟨b.hp,b.low,au _⟩,λ_ _=>rfl⟩
def Nb.trans{d e f:H}(b:Nb d e)(a:Nb e f):Nb d f:=⟨⟨a.ok.hp,a.ok.low,aS b.ok.sz a.ok.sz⟩,λc g=>(a.get c (bE g b.ok.sz)).trans (b.get c g)⟩
def Nb.cons{b c:H}(a:Nb b c)(d:iN):Nb b (c.cons d):=⟨a.ok.cons d,λe f=>by rw[dP,ao (by have:=a.ok.sz;omega)];exact a.get e f⟩
def Nb.put{b d:H}(e:Nb b d){a:Nat}{x:iN}(h:d.get a=some x)(i:b.size<=a)(f:iN):Nb b (dT d a f):=⟨e.ok.put a f,λc g=>by rw[dI h,ao dq];exact e.get c g⟩
def Nb.step{c f:H}(b:Nb c f){d:Nat}(g:d<c.size):Step d c f:=⟨b.ok,λe a _=>b.get e a,λe a=>by rw[iJ (b.get d g)]at a;exact .inl a⟩
def Nb.hr{a d:H}(b:Nb (TI.hr a) d):Nb a d:=⟨b.ok,λc e=>(b.get c e).trans (f9 a c)⟩
def Nb.out{h b:H}(c:Nb (TI.hr h) b):Nb h (lL h b):=⟨c.ok.out h,λa d=>(fO h b a).trans ((c.get a d).trans (f9 h a))⟩
def Gr.new{b:H}{a c ep ver:Nat}{ex:Bool}{es:List T}(d:b.get a=some ⟨c,ep,ver,ex,false,es⟩):Gr b (.arr a ep 0 es.length false) c es:= .inr ⟨a,ep,ver,ex,es,rfl,d,aL⟩
def mW.one{h:H}{w szw ver i0:Nat}{F:List (T×aa (Nat×List T))}(s:gF 0 h)(i:h.get w=some ⟨szw,0,ver,true,false,[.agg (F.map (·.1))]⟩)(o:∀a∈F,VV h szw a)(f:∀(b:Nat) e,F[b]? =some e->dO e.1≠none->b=i0):
 mW h w szw ver F/\∀d,Fp h w d->d=w\/∃a,F[i0]? =some a/\dO a.1=some d:=by
 refine⟨⟨s,i,o,λb r q e l m n d t u=>q ((f b e m (by rw[t];simp)).trans (f r l n (by rw[u];simp)).symm)⟩,λd c=> ?_⟩;rcases c with c|⟨x,g,v,k,c⟩
 ·exact .inl c
 ·rw[i]at g;simp only[ar]at g;subst g;simp only[fa,cD,cZ,cg,T.cells]at k;obtain⟨a,p,rfl⟩:=List.mem_map.1 k;obtain⟨b,j⟩:=cP p;have:=f b a j (by rw[c];simp);subst this;exact .inr ⟨a,j,c⟩
section
variable {cx:Ctx}{cf:iL}{mask:Nat}
@[simp low] theorem aaA (n:aa Nat) (l:T) (j:af Oper) (a:List (Nat×Nat)) (f:aa Tmp) (h:List Oper) (b:Nat) (i:List (Nat×Nat)) (c:List (Nat×H×H)) (m k:fN) (g:H) (e:iB) (q:kZ a b=false) (p:(c.all λd=> !zk a d.1 b)=true):DLK n l cx cf mask j a f h b i c m k g e=Qj l cx cf mask j a f h (b+1) i c m k g e:=by
 cases n with
 |none=>rfl
 |some o=>
  have hl:mh a b o c=True:=by
   simp only[eq_iff_iff,iff_true];intro d s r;have:=List.all_eq_true.1 p d s;rw[r]at this;simp at this
  rw[P8,hl,q,true_and];rfl
end
def Ia{a x:T}(c:∀b,a≠ .agg b):mz a 0 [x]=some x:=by
 cases a<;>first|rfl|exact absurd rfl (c _)
def oS.na{d:H}{f:Nat}{b:T}{a:List T}(e:oS d f b a):∀c,b≠ .agg c:=by
 rcases e with rfl|g
 ·cases a<;>simp[sl]
 ·rcases g with⟨rfl,_⟩|⟨h,i,k,j,l,rfl,_⟩<;>simp
def Gr.setAt{j h':H}{f:T}{k a l b s ver2:Nat}{n ex2:Bool}{i h:List T}(o:Gr j f k i)(d:dO f=some a)(q:j.get a=some ⟨l,b,s,n,false,h⟩)(e:Nat)(g:T)(r:h'.get a=some ⟨l,b,ver2,ex2,false,h.set e g⟩):Gr h' f k (i.set e g):=by
 rcases o with⟨rfl,_⟩|⟨m,t,v,u,w,rfl,c,p⟩
 ·simp at d
 ·simp only[wj,ar]at d;subst d;rw[q]at c;simp only[ar,iN.mk.injEq]at c;obtain⟨rfl,rfl,rfl,rfl,_,rfl⟩:=c;exact .inr ⟨m,b,ver2,ex2,h.set e g,by rw[cO],r,by rw[cO,List.take_set,p]⟩
def iv.set{d e:Type}{f c:d->e->Prop}{i:List d}{j:List e}(b:iv f i j)(a:Nat){k:d}{l:e}(m:c k l)(h:∀b g,f b g->c b g):iv c (i.set a k) (j.set a l):=by
 induction b generalizing a with
 |nil=>exact .nil
 |cons o p n=>
  cases a with
  |zero=>exact .cons m (p.imp h)
  |succ a=>exact .cons (h _ _ o) (n a)
def iv.UI{b c j:Type}{d:b->c->Prop}{e:b->j->Prop}{f:c->j}{h:List b}{i:List c}(a:iv d h i)(k:∀a g,d a g->e a (f g)):iv e h (i.map f):=by
 induction a with
 |nil=>exact .nil
 |cons m n l=>exact .cons (k _ _ m) l
def FT.tup{c:H}{f:Nat->Prop}{d h:Nat}(l:h<=11)(k:∀a,f a->d<=a){b g:List T}(m:iv (FT c f h) b g)(a:Bool):∃i,iX c d (.tuple [.agg b,.bool a])=some i/\cn i= .tuple [.agg g,.bool a]:=by
 obtain⟨r0,e,j⟩:=FT.top l k m;refine⟨.tuple [r0,.bool a],?_,?_⟩
 ·have e:j3 c d (.agg b)=some r0:=e;show(dM (fD (j3 c d) [.agg b,.bool a]) λn=>some (T.tuple n))=_;rw[jr,e];rfl
 ·rw[tR];simp[j]
def Gr.ft{c:H}{V:Nat->Prop}{e:T}{m d:Nat}{a b:List T}(i:Gr c e m a)(k:∀h,dO e=some h->V h)(f:iv (FT c V d) a b):FT c V (d+1) e (sl b):=by
 have l:=i.jg;rcases i with⟨rfl,rfl⟩|⟨g,j,q,n,r,rfl,o,p⟩
 ·cases f;exact iU _ _ _ _
 ·exact .inr (.inl ⟨g,j,0,_,false,a,b,rfl,k g rfl,l,f,rfl⟩)
def Gr.at{j:H}{m x:T}{l i:Nat}{a:List T}(n:Gr j m l a)(g:a[i]? =some x):∃c d h e b,m= .arr c d 0 a.length false/\j.get c=some ⟨l,d,h,e,false,b⟩/\b[i]? =some x/\i<a.length:=by
 have f:i<a.length:=by
  rcases aD i a.length with k|k
  ·exact k
  ·rw[aK k]at g;simp at g
 rcases n with⟨rfl,rfl⟩|⟨c,d,h,e,b,rfl,o,p⟩
 ·simp at f
 ·refine⟨c,d,h,e,b,rfl,o,?_,f⟩;have:(b.take a.length)[i]? =a[i]? :=by rw[p]
  rw[bJ,aq f,g]at this;exact this
def oS.rF{h:H}{l:Nat}{e:Type}{f:e->T}{d:T}{c:List e}(k:oS h l d (c.map f))(i:∀a,cn (f a)=f a)(j:∀a,wG h 11 (f a)=some (f a)):TI.rF h d=some (sl (c.map f)):=by
 rcases k with rfl|g
 ·cases c with
  |nil=>rfl
  |cons a b=>
   show TI.rF h (.dF (f a::b.map f) false)=_;have:=Kb (h:=h) (f a::b.map f) false;rw[show(f a::b.map f).map cn=f a::b.map f from by simp[i]]at this;exact this
 ·exact g.rF j
def mB{b:H}{a c:Nat}{f:iN}(e:b.get a=some f)(d:c≠a)(g:iN):eJ b (dT b a g) c=true:=ff (by rw[dI e,ao d])
def lY{c:H}{b:Nat}(f:Hp c)(e:b<c.size)(d:iN)(a:Nat):(dT c b d).get a=if a=b then some d else c.get a:=get_put f e d a
@[simp] theorem ad2 (a:Nat):(a<a+1+1)=True:=du 
@[simp] theorem ad1 (a:Nat):(a<a+1+1+1)=True:=du 
@[simp] theorem ad0 (a:Nat):(a<a+1+1+1+1)=True:=du 
@[simp high] theorem adb {e:ai} {cx:Ctx} (d:fy) (b:aj) (a:List T) (c:H) (f:d.p b=none):qp e cx d b a c=hl e cx d b a c:=by
 unfold qp;cases PC c a with
 |none=>rfl
 |some g=>simp only[AN f]
def iV{b c:H}{a:Nat}(d:b.get a=none):eJ b c a=true:=by unfold eJ;rw[d]
def lm(b:H){a:Nat}(d:b.size<=a):b.get a=none:=by
 cases c:b.get a with
 |none=>rfl
 |some e=>have:=H.ez c;omega
def Gr.Fx{cx:Ctx}{a:H}{h:T}{b:Nat}{f:List T}(q:Gr a h b f)(l:gF 0 a){g i:ab}{m d:Ty}(j:cx.ty g=some m)(k:m.u= .slice i)(r:cx.ty i=some d)(v:d.size=b)(s:1<=d.bytes){x:T}(w:x.cells.length=b)(t:(f.length+1)*d.bytes<=70368744177664):
 ∃e c,iO cx (a.cons ⟨b,0,0,true,false,[x]⟩) g g h (.arr a.size 0 0 1 false)=some (.val e c)/\Xt a h b (f++[x]) e c:=by
 have n:=(Xt.refl q l).cons ⟨b,0,0,true,false,[x]⟩;obtain⟨e,c,p,o⟩:=Gr.app (cx:=cx) n.1 (l.cons _) (x:= .arr a.size 0 0 1 false) (xs:=[x]) j k r j k v s (by rw[f7];simp) (by simpa using w) dt (by simpa using t);exact⟨e,c,p,n.trans o.xt⟩
end
end Go.TI
