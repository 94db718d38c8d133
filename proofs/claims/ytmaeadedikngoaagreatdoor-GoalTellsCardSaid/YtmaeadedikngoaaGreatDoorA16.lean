/- Texts W01e to TiCopy. -/
import Derived.Test.YtmaeadedikngoaaGreatDoorA15
set_option linter.all false
set_option maxRecDepth 100000
set_option maxHeartbeats 8000000
namespace Go.Proofs.YtmaeadedikngoaaGreatDoor
noncomputable section
open Go Go.TI
attribute [-simp] List.map_take List.map_drop List.map_append fG fg ei Bool.not_or Bool.not_and
attribute [simp] fF fh
def xF:lf:=⟨λe a=>∃d c b f i,e=[.ptr b 0 0 0,.str i]/\Mk d c a b f/\c<=100,λ_ a h g=>g=a/\ER h⟩
def Sh:xF.Ok Tryz.prog cx 212:=by
 refine IU (tb:=⟨pt [(110,Bp)],ht []⟩) fa eQ (iR 19 [] Tryz.func212) false (λ_ _=>5) (λq a k=>by obtain⟨e,o,n,f,p,rfl,_⟩:=k;simp[Tryz.f212]) ?_;rintro _ a ⟨e,o,n,f,p,rfl,d,s⟩ y c;simp at c;obtain⟨i,j⟩:=c;obtain⟨x,v,left,set,w,r,u,t,l,b,h,hl⟩:=d.ex;simp only[sr]at b;have m:=(h.mono (h':=hr a) λg _=>gh a g).qJ dA;simp[Tryz.f212,i,j,b,m,NI,show l.length<=1099511627776 by omega];exact qh a _ _ d.ok.hp (Fr.refl _ _) rfl ⟨rfl,dA⟩
def aeP{d:H}{b:Nat->Prop}(h:dQ)(c:Nat):iB (FT d b (c+1)) h.cs h.cs:=by
 have f:∀a:List dW,FT d b (c+1) (sl (a.map dW.t)) (sl (a.map dW.t)):=λa=>pj _ _ _ λi e=>by obtain⟨j,_,rfl⟩:=List.mem_map.1 e;simp
 have g:∀a:List dQ,FT d b (c+1) (sl (a.map dQ.t)) (sl (a.map dQ.t)):=λa=>pj _ _ _ λi e=>by obtain⟨j,_,rfl⟩:=List.mem_map.1 e;simp
 exact .cons (fQ ..) (.cons (fQ ..) (.cons (ke ..) (.cons (ke ..) (.cons (f _) (.cons (fQ ..) (.cons (fQ ..) (.cons (ke ..) (.cons (f _) (.cons (g _) (.cons (g _) .nil))))))))))
def HJ{i:Va}{args:List T}{a c:H}{r:iZ}{cs:List T}{s:dQ}(e:Lb i.m c a.size r)(g:Mk i.L i.n c i.m i.b)(p:Step i.m (TI.hr a) c)(hl:cs.length=11)(j:iB (FT c (Nw (a.size+1) c.size c i.m .kx) (2*i.d+3)) cs s.cs)(k:MS s)(o:s.w<=wd i.d):
 (dY c a.size (dG 11 1 [.agg cs])).get a.size=some (dG 11 1 [.agg cs])/\Fq i args a (.agg cs) (lO a (dY c a.size (dG 11 1 [.agg cs]))):=by
 have l:(dY c a.size (dG 11 1 [.agg cs])).get i.m=c.get i.m:=by rw[dP e.get,ao (bo e.ne)]
 have q:=Step.sq g.ok e (dG 11 1 [.agg cs]) _ p (au _);refine⟨(dP e.get _ _).trans (aq rfl),cs,s,rfl,hl,?_,k,o,(g.sq e _).out,q.out⟩;refine .inr (.inr ⟨cs,s.cs,rfl,j.ft λh f=>⟨⟨by have:=f.1;omega,by have:=f.2.1;simp;omega,?_,Ld h⟩,?_⟩,s.nI⟩)
 ·rw[iW (fO a _ i.m),iW l];exact f.2.2.1
 ·rw[fO,dP e.get,ao (by have:=f.1;omega)]
def Dy(c:List Nat)(b:List dW)(a:dW):dQ:=⟨1,0,c,[],b,a,[],[]⟩
def Dj{d:List Nat}{b:List dW}{c:dW}(g:∀i∈b,ME i)(f:ME c)(h:b≠ []->d=[113]):MS (Dy d b c):=
 .mk (λa=>by unfold Dy at a;simp at a) (λ_ a=>h a) g (λ_=>f) (λe a=>by unfold Dy at a;simp at a) (λe a=>by unfold Dy at a;simp at a)
def LM{nm:List Nat}{ix:List dW}{e:dW}{d:Nat}(a:dW.ws ix<=20)(b:e.w<=20):(Dy nm ix e).w<=wd d:=by
 have:=BL d;rw[dQ.lF];unfold Dy;simp only[dQ.rZ,dQ.Ke,dQ.uU,dQ.xX,dQ.iQ];omega
def mn{i:Va}{args:List T}{c d:H}{k:iZ}{nm:List Nat}{a:dW}(g:Lb i.m d c.size k)(h:Mk i.L i.n d i.m i.b)(j:Step i.m (TI.hr c) d)(e:ME a)(f:a.w<=20):
 (dY d c.size (dG 11 1 [.agg [dE 1,dE 0,.str nm,.str [],sl [],dE a.op,dE a.n,.str a.name,sl (a.l.map dW.t),sl [],sl []]])).get c.size=some (dG 11 1 [.agg [dE 1,dE 0,.str nm,.str [],sl [],dE a.op,dE a.n,.str a.name,sl (a.l.map dW.t),sl [],sl []]])/\
 Fq i args c (.agg [dE 1,dE 0,.str nm,.str [],sl [],dE a.op,dE a.n,.str a.name,sl (a.l.map dW.t),sl [],sl []]) (lO c (dY d c.size (dG 11 1 [.agg [dE 1,dE 0,.str nm,.str [],sl [],dE a.op,dE a.n,.str a.name,sl (a.l.map dW.t),sl [],sl []]]))):=
 HJ (s:=Dy nm [] a) g h j rfl (aeP (Dy nm [] a) _) (Dj dA e (λc=>absurd rfl c)) (LM (by rw[dW.iQ];omega) f)
def _root_.Go.TI.Lb.put{d:Nat}{b:H}{a c:Nat}{x g:iZ}(f:Lb d b a x)(l2:Lb d b c g)(e:a≠c)(h:iZ):Lb d (dY b c h) a x:=f.kY (by rw[dP l2.get,ao (bo l2.ne)]) (by rw[dP l2.get,ao e])
def Um{n:List Int}{q:Nat}{k b:H}{c o a:Nat}{w:iZ}(p:Mk n q b c o)(e:Lb c b a w)(v:Step c (TI.hr k) b)(r:k.size<=a)(d:iZ):
 Mk n q (dY b a d) c o/\Lb c (dY b a d) a d/\Step c (TI.hr k) (dY b a d)/\(∀g m,g≠a->Lb c b g m->Lb c (dY b a d) g m)/\∀i h j l f,SV i h b c j l f->a<i\/h<=a->SV i h (dY b a d) c j l f:=
 ⟨p.sq e d,⟨(dP e.get d a).trans (aq rfl),by rw[iW (show(dY b a d).get c=b.get c by rw[dP e.get,ao (bo e.ne)])];exact e.nf⟩,Step.sq p.ok e d _ v r,λg m s f=>f.put e s d,λi h j l f t u=>t.sq e u d⟩
def lJ{o:List Int}{q:Nat}{m a:H}{b p:Nat}(g:Mk o q a b p)(s:Step b (TI.hr m) a)(c e:iZ):
 Mk o q (dY (a.cons c) a.size e) b p/\Lb b (dY (a.cons c) a.size e) a.size e/\Step b (TI.hr m) (dY (a.cons c) a.size e)/\(∀h l,Lb b a h l->Lb b (dY (a.cons c) a.size e) h l)/\∀j f i k d,SV j f a b i k d->f<=a.size->SV j f (dY (a.cons c) a.size e) b i k d:=by
 have n:=Step.cons g.ok g.lt c;have v:=Lb.new g.lt g.fp c;have t:m.size<=a.size:=by simpa using s.ok.sz
 obtain⟨w,x,y,z,A⟩:=Um (g.cons c) v (s.trans n) t e;exact⟨w,x,y,λh l d=>z h l (by have:=d.lt;omega) (d.step n),λj f i k d u r=>A j f i k d (u.step n r) (.inr r)⟩
def SV.gc{h e:Nat}{d:H}{i c:Nat}{a:T}{g:List dQ}(f:SV h e d i c a g):a.il=true/\a.cells=[a]:=by
 obtain⟨j,b,_⟩:=f;exact⟨b.il,b.cells⟩
def SV.cell{g e c d:Nat}{b:H}{h a:Nat}{i:T}{f:List dQ}(l:SV g e b h (2*a+2) i f)(j:c<=g)(k:e<=d):FT b (Nw c d b h .kx) (2*(a+1)+3) i (sl (f.map dQ.t)):=by
 have:=(l.wide j k).ft;rw[show 2*(a+1)+3=2*a+2+3 by omega];exact this
def wY{a:List dQ}{W:Nat}(c:∀b∈a,MS b/\b.w<=W):dQ.ws a<=a.length*W:=by
 induction a with
 |nil=>rw[dQ.iQ];omega
 |cons f a e=>
  have g:=e λb d=>c b (cC _ d);have h:=(c f dA).2;rw[dQ.j7,bj,cd];omega
def pS{k:List Int}{c m o d cnt:Nat}{args:List T}{a b:H}{p:iZ}{op:Int}{nm:List Nat}{e:dW}{f g h:T}{j le:List dQ}(z:Lb c b a.size p)(A:Mk k o b c m)(B:Step c (TI.hr a) b)
 (q:FT b (Nw (a.size+1) b.size b c .kx) (2*(d+1)+3) g (sl (j.map dQ.t))) (r:FT b (Nw (a.size+1) b.size b c .kx) (2*(d+1)+3) h (sl (le.map dQ.t))) (u:FT b (Nw (a.size+1) b.size b c .kx) (2*(d+1)+3) f (sl (e.l.map dW.t)))
 (D:2<=op/\op<=8) (hE:op<=3->ME e) (E:e.w<=20) (v:∀s∈j,MS s) (x:∀s∈le,MS s) (C:dQ.ws j+dQ.ws le<=5*wd d):
 (dY b a.size (dG 11 1 [.agg [dE op,dE 0,.str nm,.str [],dF,dE e.op,dE e.n,.str e.name,f,g,h]])).get a.size=some (dG 11 1 [.agg [dE op,dE 0,.str nm,.str [],dF,dE e.op,dE e.n,.str e.name,f,g,h]])/\
 Fq ⟨k,c,m,o,d+1,cnt⟩ args a (.agg [dE op,dE 0,.str nm,.str [],dF,dE e.op,dE e.n,.str e.name,f,g,h]) (lO a (dY b a.size (dG 11 1 [.agg [dE op,dE 0,.str nm,.str [],dF,dE e.op,dE e.n,.str e.name,f,g,h]]))):=
 HJ (i:=⟨k,c,m,o,d+1,cnt⟩) (s:=⟨op,0,nm,[],[],e,j,le⟩) z A B rfl
  (.cons (fQ ..) (.cons (fQ ..) (.cons (ke ..) (.cons (ke ..) (.cons (jh ..) (.cons (fQ ..) (.cons (fQ ..) (.cons (ke ..) (.cons u (.cons q (.cons r .nil)))))))))))
  (.mk (λa=>by simp at a;omega) (λa=>by simp at a;omega) (λp y=>by simp at y) (λa=>by simp at a;exact hE dz) v x)
  (by
    have:=BL d;rw[dQ.lF,KH];simp only[dQ.rZ,dQ.Ke,dQ.uU,dQ.xX,dW.iQ];omega)
def SV.deep{f d:Nat}{c:H}{g a b:Nat}{h:T}{e:List dQ}(m:SV f d c g a h e)(o:a<=b):SV f d c g b h e:=by
 obtain⟨j,l,i,n⟩:=m;exact⟨j,l,i.imp λ_ _ k=>k.deep dz,n⟩
def YM(a:Nat):wd 0<=wd a:=BL a
def SV.lit{g:List Int}{m:Nat}{a:H}{b j d:Nat}{es:List T}{l:List dQ}(e:Mk g m a b j)(i:∀k h,iB (FT k h (d+2)) es (l.map dQ.t)):SV a.size (a.size+1) (a.cons ⟨11,0,0,true,false,es⟩) b d (.arr a.size 0 0 es.length false) l:=by
 refine⟨es,.inr ⟨a.size,0,0,true,es,rfl,by rw[dV,aq rfl],aO⟩,i _ _,λn f=> ?_⟩;simp at f;subst f;refine⟨au _,df _,λc=> ?_⟩;rw[iW (show(a.cons ⟨11,0,0,true,false,es⟩).get b=a.get b by rw[dV,ao (by have:=e.lt;omega)])]at c;have:=e.fp _ c;omega
def Bg(a:Int):dQ:=⟨a,0,[99],[],[],⟨0,0,[],[]⟩,[],[]⟩
def Qu{d:H}{b:Nat->Prop}(a:Int)(c:Nat):FT d b (c+2) (.agg [dE a,dE 0,.str [99],.str [],dF,dE 0,dE 0,.str [],dF,dF,dF]) (Bg a).t:=
 .inr (.inr ⟨_,(Bg a).cs,rfl,.cons (fQ ..) (.cons (fQ ..) (.cons (ke ..) (.cons (ke ..) (.cons (jh ..) (.cons (fQ ..) (.cons (fQ ..) (.cons (ke ..) (.cons (jh ..) (.cons (jh ..) (.cons (jh ..) .nil)))))))))),dQ.nI _⟩)
def Qt{c:Int}(e:9<=c/\c<=11):MS (Bg c):= .mk (λ_=>rfl) (λb=>by unfold Bg at b;simp at b;omega) (λd a=>by unfold Bg at a;simp at a) (λb=>by unfold Bg at b;simp at b;omega) (λd a=>by unfold Bg at a;simp at a) (λd a=>by unfold Bg at a;simp at a)
def UX(a:Int):(Bg a).w=5:=by
 rw[dQ.lF,dW.lF];unfold Bg;simp only[dQ.rZ,dQ.Ke,dQ.uU,dQ.xX,dQ.iQ,dW.iQ,dW.FJ]
def Em{b c a:Int}(d:b-c=a)(e: -9223372036854775808<=a)(f:a<9223372036854775808):binop .sub (dE b) (dE c)=some (dE a):=by
 subst d;rw[uu,<-jF,jI e f]
def zf{b c a:Int}(d:b+c=a)(e: -9223372036854775808<=a)(f:a<9223372036854775808):binop .add (dE b) (dE c)=some (dE a):=by
 subst d;rw[ou,<-jF,jI e f]
def aaK(k:Nat)(cX:(VG k).Ok Tryz.prog cx 118)(ds:(rBk k).Ok Tryz.prog cx 213):(rMt (k+1)).Ok Tryz.prog cx 165:=by
 obtain⟨gn,cL⟩:=hlB Sh λ_ _ _ _ I=>I;have O:=Pm 11;refine jo (tb:=⟨pt [(120,Hf),(211,Je),(210,Jf),(119,Jh)],ht [(63,jw zi uF rQ),(209,Of 11),(118,VG k),(213,rBk k),(212,xF)]⟩) fa eQ (iR 521481210427296124309566527199867809678935259509485941609668421502669740186866579200068820979 [(5,[(0,5),(2,5),(3,5)]),(7,[(0,5),(0,9),(6,9),(7,9)])] Tryz.func165) (λ_ _=>10) (λi a I fv=>by obtain⟨⟨rfl,_⟩,_⟩:=fv;simp[Tryz.f165]) ?_;rintro⟨o,b,p,r,d,cnt⟩ _ I ⟨⟨rfl,bC,E,fb,fo,e9⟩,fe⟩ gS eC;simp only at bC E fb fo e9 fe;simp at eC;obtain⟨u,bk⟩:=eC;have eE:(b=I.size)=False:=by have:=bC.lt;simp;omega
 have F:=Step.cons bC.hr.ok bC.hr.lt (dG 11 0 [.agg [dE 0,dE 0,.str [],.str [],dF,dE 0,dE 0,.str [],dF,dF,dF]]);have D:Lb b _ I.size _:=Lb.new bC.hr.lt bC.hr.fp (dG 11 0 [.agg [dE 0,dE 0,.str [],.str [],dF,dE 0,dE 0,.str [],dF,dF,dF]]);have eb:=bC.hr.cons (dG 11 0 [.agg [dE 0,dE 0,.str [],.str [],dF,dE 0,dE 0,.str [],dF,dF,dF]]);obtain⟨b7,ap,left,set,N,al,aE,bN,G,C,X,hl⟩:=eb.ex;obtain⟨dd,ca⟩:=eb.set (th':=ap) (left':=IntKind.i64.wrap (left-1)) (se':=set) (tx':=N) (at2:=al) (lp':=aE) C X hl;replace D:=D.step dd;replace F:=F.trans dd;simp only[sr]at C dd ca D F;have di:=C;rw[dV,oa,ao (by have:=bC.lt;omega),gh]at di;simp[Tryz.f165,u,di,eE,uu,dZ];generalize dY ((hr I).cons _) b _=gp at*
 clear C di X eb dd eE;obtain⟨b7,ap,left,set,N,al,aE,bN,G,C,X,hl⟩:=ca.ex;simp only[sr]at C;simp[C];refine sd dA ca.tp ca.ok dz dz E λW V gy t2 eP=> ?_;obtain⟨c,ef⟩:=ca.tape eP t2;replace D:=D.step ef;replace F:=F.trans ef;clear C X ca t2 eP ef hl;obtain⟨b7,ap,left,set,N,al,aE,bN,G,C,X,hl⟩:=c.ex;have c6:=C;simp only[sr]at C;simp[u,bk,C];rcases(by omega:W=0\/W=1\/W=2\/W=3\/W=4\/W=5\/W=6\/W=7\/W=8\/W=9\/W=10\/W=11\/W=12\/W=13\/W=14\/W=15\/W=16\/W=17)with rfl|rfl|rfl|rfl|rfl|rfl|rfl|rfl|rfl|rfl|rfl|rfl|rfl|rfl|rfl|rfl|rfl|rfl
 iterate 4
  ·simp[u];have K:=c.cons (dG 1 0 [.str [120],.str [121],.str [120],.str [118]]);have M:=Step.cons c.ok c.lt (dG 1 0 [.str [120],.str [121],.str [120],.str [118]]);refine li O dA ⟨o,b,p,r,1⟩ ⟨⟨rfl,K,E,dA⟩,dA⟩ ?_;rintro _ hE ⟨e,rfl,A,B,j,f⟩;simp only at B j f;obtain⟨z,g⟩:=K.tape f j;have m:=(D.step M).step g;have fin:=λnm=>mn (i:=⟨o,b,p,r,d,cnt⟩) (args:=[.ptr b 0 0 0,dE d]) (nm:=nm) m z ((F.trans M).trans g) A dz;have er:fc (V.cons (dG 1 0 [.str [120],.str [121],.str [120],.str [118]])) hE V.size=true:=fk (f.get _ (by have:=c.tp.lt;omega));simp[sw,m.get,er,λnm=>(fin nm).1];exact(fin _).2
 ·have fl:(b=V.size)=False:=by have:=c.lt;simp;omega
  simp[u,C,fl];have K:=c.cons (dG 1 0 [.str [97],.str [98]]);have M:=Step.cons c.ok c.lt (dG 1 0 [.str [97],.str [98]]);refine Kq dA K.tp K.ok dz dz E λY bB b9 t4 aN=> ?_;obtain⟨ae,bz⟩:=K.tape aN t4;have gO:bB.get V.size=some (dG 1 0 [.str [97],.str [98]]):=(aN.get _ (by have:=c.tp.lt;omega)).trans dA;have gm:fc (V.cons (dG 1 0 [.str [97],.str [98]])) bB V.size=true:=fk (aN.get _ (by have:=c.tp.lt;omega));obtain⟨nm,e5⟩:∃nm:List Nat,([.str [97],.str [98]]:List T)[Y]? =some (.str nm):=by
   rcases(by omega:Y=0\/Y=1)with rfl|rfl<;>exact⟨_,rfl⟩
  generalize([.str [97],.str [98]]:List T)=e4 at*
  have b9:Y<2:=dz;simp[u,gO,e5,b9,gm];refine li O dA ⟨o,b,p,r,1⟩ ⟨⟨rfl,ae,E,dA⟩,dA⟩ ?_;rintro _ hE ⟨e,rfl,A,B,j,f⟩;simp only at B j f;obtain⟨z,g⟩:=ae.tape f j;have m:=((D.step M).step bz).step g;have fin:=mn (i:=⟨o,b,p,r,d,cnt⟩) (args:=[.ptr b 0 0 0,dE d]) (nm:=nm) m z (((F.trans M).trans bz).trans g) A dz;have er:fc bB hE V.size=true:=fk (f.get _ (by have:=c.tp.lt;omega));have gQ:fc (V.cons ⟨1,0,0,true,false,e4⟩) hE V.size=true:=fk ((f.get _ (by have:=c.tp.lt;omega)).trans (aN.get _ (by have:=c.tp.lt;omega)));simp[sw,m.get,er,fin.1];exact fin.2
 ·simp[u];refine iq O dA ⟨o,b,p,r,0⟩ ⟨⟨rfl,c,E,dA⟩,dA⟩ ?_;rintro _ hE ⟨e,rfl,A,B,j,f⟩;simp only at B j f;obtain⟨z,g⟩:=c.tape f j;have eO:=z.cons (dG 4 0 [e.t]);have eU:=Step.cons z.ok z.lt (dG 4 0 [e.t]);simp[u];refine iq O dA ⟨o,b,p,r,1⟩ ⟨⟨rfl,eO,E,dA⟩,dA⟩ ?_;rintro _ eA ⟨cp,rfl,e7,fA,eX,c9⟩;simp only at fA eX c9;obtain⟨fX,eh⟩:=eO.tape c9 eX;have eM:=((D.step g).step eU).step eh;have gz:=g.ok.sz;have gE:=D.lt;have e6:eA.get hE.size=some (dG 4 0 [e.t]):=(c9.get _ (by have:=z.tp.lt;omega)).trans dA;have fB:=c9.size;simp at fB;have fs:¬Fp eA b hE.size:=λq=>by
   rcases eh.fp _ q with q|q
   ·rw[iW (show(hE.cons (dG 4 0 [e.t])).get b=hE.get b by rw[dV,ao (by have:=z.lt;omega)])]at q;have:=z.fp _ q;omega
   ·simp at q;omega
  have fin:=HJ (i:=⟨o,b,p,r,d,cnt⟩) (args:=[.ptr b 0 0 0,dE d]) (cs:=[dE 1,dE 0,.str [113],.str [],.arr hE.size 0 0 1 false,dE cp.op,dE cp.n,.str cp.name,sl (cp.l.map dW.t),dF,dF]) (s:=Dy [113] [e] cp) eM fX (((F.trans g).trans eU).trans eh) rfl
   (.cons (fQ ..) (.cons (fQ ..) (.cons (ke ..) (.cons (ke ..) (.cons (.inr (.inl ⟨hE.size,0,0,1,false,[e.t],[e.t],rfl,⟨dz,dz,fs,Ld _⟩,by rw[gH,e6];simp,.cons (e.ft _) .nil,rfl⟩)) (.cons (fQ ..) (.cons (fQ ..) (.cons (ke ..) (.cons (pj _ _ _ λx bu=>by obtain⟨y,_,rfl⟩:=List.mem_map.1 bu;simp) (.cons (jh ..) (.cons (jh ..) .nil)))))))))))
   (Dj (by simpa using A) e7 dA) (LM (by rw[dW.j7,dW.iQ];omega) dz)
  simp[eM.get,fin.1];exact fin.2
 ·simp[bk];refine ee (λa6=> ?_) (λa6=> ?_)
  ·simp at a6;obtain⟨d,rfl⟩:∃e,d=e+1:=⟨d-1,dz⟩;have av:binop .sub (dE ((d:Int)+1)) (dE 1)=some (dE d):=by
    rw[uu,<-jF,jI dz dz];simp
   simp[u];refine iq O dA ⟨o,b,p,r,1⟩ ⟨⟨rfl,c,E,dA⟩,dA⟩ ?_;rintro _ hE ⟨e,rfl,A,B,j,f⟩;simp only at B j f;obtain⟨z,g⟩:=c.tape f j;simp[u,bk,av];refine iq cX dA ⟨o,b,p,r,d,1⟩ ⟨⟨rfl,z,E,dC,dC,dA⟩,dC⟩ ?_;rintro v an ⟨l,sv,H,P,Q,L⟩;simp only at sv H P Q L;have Z:=(D.step g).step L;have bp:=(F.trans g).trans L;have S:=sv.gc;obtain⟨uJ,bi,bz,bS,b6⟩:=lJ Q bp (dG 11 0 [.agg [dE 0,dE 0,.str [],.str [],dF,dE 0,dE 0,.str [],dF,dF,dF]]) (dG 11 1 [.agg [dE 2,dE 0,.str [],.str [],dF,dE e.op,dE e.n,.str e.name,sl (e.l.map dW.t),v,dF]]);have bn:=bS _ _ Z;have bX:=b6 _ _ _ _ _ sv (au _);obtain⟨b7,ap,left,set,N,al,aE,bN,G,C,X,hl⟩:=uJ.ex;simp only[sr]at C;simp[u,S.1,S.2,C];generalize dY (an.cons _) an.size _=c7 at*
   refine sd dA uJ.tp uJ.ok dz dz E λY bB b9 t4 aN=> ?_;obtain⟨ae,aX⟩:=uJ.tape aN t4;have l4:=bi.step aX;have dv:=bn.step aX;have bH:=bz.trans aX;have gI:=uJ.lt;have fC:an.size<c7.size:=bi.lt;have eW:=bX.step aX dz;have gB:=aN.size;have gv:I.size<an.size:=Z.lt;have eB:I.size<hE.size:=(D.step g).lt;simp;refine ee (λfi=> ?_) (λfi=> ?_)
   ·simp[u,bk,av];refine iq cX dA ⟨o,b,p,r,d,1⟩ ⟨⟨rfl,ae,E,dC,dC,dA⟩,dC⟩ ?_;rintro gk gw ⟨l2,eo,dn,eF,mkV,Vr⟩;simp only at eo dn eF mkV Vr;have eu:=eo.gc;obtain⟨fY,fE,bT,gd,e0⟩:=Um mkV (l4.step Vr) (bH.trans Vr) dz (dG 11 2 [.agg [dE 2,dE 0,.str [],.str [],dF,dE e.op,dE e.n,.str e.name,sl (e.l.map dW.t),v,gk]]);have eN:=gd _ _ dz (dv.step Vr);have gg:=e0 _ _ _ _ _ (eW.step Vr dz) (.inr (au _));have gi:=e0 _ _ _ _ _ eo (.inl dz);have gM:=Vr.ok.sz;have fin:=pS (cnt:=cnt) (args:=[.ptr b 0 0 0,dE (d+1:Nat)]) (op:=2) (nm:=[]) (e:=e) eN fY bT (gg.cell eB dB) (gi.cell dz dA) (pj _ _ _ λx bu=>by obtain⟨y,_,rfl⟩:=List.mem_map.1 bu;simp) dz (λ_=>A) dz (λs G=>(H s G).1) (λs G=>(dn s G).1) (by
     have b8:=wY H;have gV:=wY dn;have:=aW (wd d) P;have:=aW (wd d) eF;omega)
    simp[(l4.step Vr).get,fE.get,dZ,eu.1,eu.2,eN.get,fin.1];exact fin.2
   ·have fin:=pS (cnt:=cnt) (args:=[.ptr b 0 0 0,dE (d+1:Nat)]) (op:=2) (nm:=[]) (e:=e) (le:=[]) dv ae bH (eW.cell eB dz) (jh _ _ _ false) (pj _ _ _ λx bu=>by obtain⟨y,_,rfl⟩:=List.mem_map.1 bu;simp) dz (λ_=>A) dz (λs G=>(H s G).1) dA (by
     have b8:=wY H;have:=aW (wd d) P;rw[dQ.iQ];omega)
    simp[l4.get,dv.get,dZ,fin.1];exact fin.2
  ·simp[u];refine iq O dA ⟨o,b,p,r,1⟩ ⟨⟨rfl,c,E,dA⟩,dA⟩ ?_;rintro _ hE ⟨e,rfl,A,B,j,f⟩;simp only at B j f;obtain⟨z,g⟩:=c.tape f j;have m:=D.step g;have fin:=mn (i:=⟨o,b,p,r,d,cnt⟩) (args:=[.ptr b 0 0 0,dE d]) (nm:=[120]) m z (F.trans g) A dz;simp[sw,m.get,fin.1];exact fin.2
 ·simp[bk];refine ee (λa6=> ?_) (λa6=> ?_)
  ·simp at a6;obtain⟨d,rfl⟩:∃e,d=e+1:=⟨d-1,dz⟩;have av:binop .sub (dE ((d:Int)+1)) (dE 1)=some (dE d):=by
    rw[uu,<-jF,jI dz dz];simp
   obtain⟨M,K⟩:=c.set (th':=ap) (left':=left) (se':=set) (tx':=N) (at2:=al) (lp':=true) c6 X hl;simp only[sr]at M K;simp[u,C,dZ];generalize dY V b _=dk at*
   have aA:=D.step M;have bp:=F.trans M;simp[u,bk,Tq,Tr,Xj,av];refine iq cX dA ⟨o,b,p,r,d,1⟩ ⟨⟨rfl,K,E,dC,dC,dA⟩,dC⟩ ?_;rintro v an ⟨l,sv,H,P,Q,L⟩;simp only at sv H P Q L;have Z:=aA.step L;have bz:=bp.trans L;have ec:=Step.cons Q.ok Q.lt (dG 11 0 [(Dy [98] [] ⟨6,0,[],[⟨2,0,[98],[]⟩,⟨1,1,[],[]⟩]⟩).t]);have fC:=L.ok.sz;obtain⟨gj,ey,et,eV,fL,eR,_⟩:=(sv.step ec (au _)).app (Q.cons (dG 11 0 [(Dy [98] [] ⟨6,0,[],[⟨2,0,[98],[]⟩,⟨1,1,[],[]⟩]⟩).t])) (x:= .arr an.size 0 0 1 false) (xs:=[(Dy [98] [] ⟨6,0,[],[⟨2,0,[98],[]⟩,⟨1,1,[],[]⟩]⟩).t]) (l2:=[Dy [98] [] ⟨6,0,[],[⟨2,0,[98],[]⟩,⟨1,1,[],[]⟩]⟩]) dB dA (by rw[gH];simp) (.cons (dQ.ft _ _) .nil) dA dA dB;have bH:=eR _ (bz.trans ec) (by simpa using bp.ok.sz);have l3:=aA.step (eR _ (L.trans ec) (au _));have S:=eV.gc;obtain⟨uJ,bi,bT,bS,b6⟩:=lJ fL bH (dG 11 0 [.agg [dE 0,dE 0,.str [],.str [],dF,dE 0,dE 0,.str [],dF,dF,dF]]) (dG 11 1 [.agg [dE 3,dE 0,.str [],.str [],dF,dE 13,dE 0,.str [],sl [(dW.mk 2 0 [98] []).t,(dW.mk 1 2 [] []).t],gj,dF]]);have bn:=bS _ _ l3;have bX:=b6 _ _ _ _ _ eV (au _);simp only[Dy]at et;simp[u,Tq,Tr,Xj,sw,et,S.1,S.2];generalize dY (ey.cons _) ey.size _=c7 at*
   obtain⟨b7,ap,left,set,N,al,gP,bN,G,C,X,hl⟩:=uJ.ex;obtain⟨U,c1⟩:=uJ.set (th':=ap) (left':=left) (se':=set) (tx':=N) (at2:=al) (lp':=aE) C X hl;have e8:=aA.lt;have eH:=bi.lt;have eI:=U.ok.sz;have fin:=pS (cnt:=cnt) (args:=[.ptr b 0 0 0,dE (d+1:Nat)]) (op:=3) (nm:=[]) (e:=⟨13,0,[],[⟨2,0,[98],[]⟩,⟨1,2,[],[]⟩]⟩) (le:=[]) (bn.step U) c1 (bT.trans U) ((bX.step U dz).cell e8 dz) (jh _ _ _ false) (pj _ _ _ λx bu=>by obtain⟨y,_,rfl⟩:=List.mem_map.1 bu;simp) dz (λ_=> .bin dz (.nm _) (.num _)) (by simp[dW.lF,dW.j7,dW.iQ]) (λs G=>(List.mem_append.1 G).elim (λq=>(H s q).1) λq=>by rw[List.mem_singleton.1 q];exact Dj dA (.bin dz (.nm _) (.num _)) (λI=>absurd rfl I)) dA (by
    have b8:=wY H;have:=aW (wd d) P;have:=LM (nm:=[98]) (ix:=[]) (e:=⟨6,0,[],[⟨2,0,[98],[]⟩,⟨1,1,[],[]⟩]⟩) (d:=d) (by rw[dW.iQ];omega) (by simp[dW.lF,dW.j7,dW.iQ]);rw[dQ.IS,dQ.j7,dQ.iQ];omega)
   have gT:=(bi.step U).get;have gR:=(bn.step U).get;simp only[sr]at C gT gR fin;simp[C,gT,gR,dZ];simp at fin;simp[fin.1];exact fin.2
  ·simp[u];refine iq O dA ⟨o,b,p,r,1⟩ ⟨⟨rfl,c,E,dA⟩,dA⟩ ?_;rintro _ hE ⟨e,rfl,A,B,j,f⟩;simp only at B j f;obtain⟨z,g⟩:=c.tape f j;have m:=D.step g;have fin:=mn (i:=⟨o,b,p,r,d,cnt⟩) (args:=[.ptr b 0 0 0,dE d]) (nm:=[120]) m z (F.trans g) A dz;simp[sw,m.get,fin.1];exact fin.2
 iterate 2
  ·by_cases J:(decide (0<d)&&decide (0<left)&& !N)=true
   ·simp at J;obtain⟨⟨a6,a7⟩,a8⟩:=J;subst a8;obtain⟨d,rfl⟩:∃e,d=e+1:=⟨d-1,dz⟩;have av:binop .sub (dE ((d:Int)+1)) (dE 1)=some (dE d):=by
     rw[uu,<-jF,jI dz dz];simp
    have K:=c.cons (dG 1 0 [.str [109],.str [110]]);have bs:=λ{tb:fJ} (ht:tb.h 212=some xF) s=>cL ht [.ptr b 0 0 0,.str s] (V.cons (dG 1 0 [.str [109],.str [110]])) ⟨o,r,b,p,s,rfl,K,dz⟩;have M:=Step.cons c.ok c.lt (dG 1 0 [.str [109],.str [110]]);have aA:=D.step M;have cb:binop .sub (dE 8) (dE 8)=some (dE 0):=Em dz dz dz;have ce:binop .sub (dE 9) (dE 8)=some (dE 1):=Em dz dz dz;simp[u,a7,bs,cb,ce];refine ee (λR=> ?_) (λR=> ?_)
    ·simp[u,bk,cb,ce];have fS:=K.cons (dG 1 0 [.str [109],.str [110]]);have eS:=Step.cons K.ok K.lt (dG 1 0 [.str [109],.str [110]]);have eL:=aA.step eS;simp[av];refine iq ds dA ⟨o,b,p,r,d,_⟩ ⟨⟨rfl,fS,E,dC,dC⟩,dC⟩ ?_;rintro v an ⟨l,sv,H,P,Q,L⟩;simp only at sv H P Q L;have S:=sv.gc;have Z:=eL.step L;have fin:=λnm=>pS (cnt:=cnt) (args:=[.ptr b 0 0 0,dE (d+1:Nat)]) (op:=4) (nm:=nm) (e:=⟨0,0,[],[]⟩) (le:=[]) Z Q (((F.trans M).trans eS).trans L) (sv.cell eL.lt (au _)) (jh _ _ _ false) (jh _ _ _ false) dz (λI=>by omega) (by simp[dW.lF,dW.iQ]) (λs G=>(H s G).1) dA (by
      have b8:=wY H;have:=aW (wd d) P;rw[dQ.iQ];omega)
     simp only[dW.vM,dW.FE,dW.oS]at fin;simp[S.1,S.2,Z.get,λnm=>(fin nm).1];exact(fin _).2
    ·simp[u];refine iq O dA ⟨o,b,p,r,1⟩ ⟨⟨rfl,K,E,dA⟩,dA⟩ ?_;rintro _ hE ⟨e,rfl,A,B,j,f⟩;simp only at B j f;obtain⟨z,g⟩:=K.tape f j;have m:=aA.step g;have fin:=mn (i:=⟨o,b,p,r,d+1,cnt⟩) (args:=[.ptr b 0 0 0,dE d]) (nm:=[120]) m z ((F.trans M).trans g) A dz;simp[sw,m.get,fin.1];exact fin.2
   ·have J:(decide (0<d)&&decide (0<left)&& !N)=false:=by simpa using J
    simp[u,J];refine iq O dA ⟨o,b,p,r,1⟩ ⟨⟨rfl,c,E,dA⟩,dA⟩ ?_;rintro _ hE ⟨e,rfl,A,B,j,f⟩;simp only at B j f;obtain⟨z,g⟩:=c.tape f j;have m:=D.step g;have fin:=mn (i:=⟨o,b,p,r,d,cnt⟩) (args:=[.ptr b 0 0 0,dE d]) (nm:=[120]) m z (F.trans g) A dz;simp[sw,m.get,fin.1];exact fin.2
 ·by_cases J:(decide (0<d)&&decide (0<left)&& !N)=true
  ·simp at J;obtain⟨⟨a6,a7⟩,a8⟩:=J;subst a8;obtain⟨d,rfl⟩:∃e,d=e+1:=⟨d-1,dz⟩;have av:binop .sub (dE ((d:Int)+1)) (dE 1)=some (dE d):=by
    rw[uu,<-jF,jI dz dz];simp
   have bs:=λ{tb:fJ} (ht:tb.h 212=some xF) s=>cL ht [.ptr b 0 0 0,.str s] V ⟨o,r,b,p,s,rfl,c,dz⟩;have cb:binop .sub (dE 10) (dE 10)=some (dE 0):=Em dz dz dz;have ce:binop .add (dE 0) (dE 5)=some (dE 5):=zf dz dz dz;simp[u,a7,bs];refine ee (λR=> ?_) (λR=> ?_)
   ·simp[u,bk,cb,ce,av];refine iq ds dA ⟨o,b,p,r,d,_⟩ ⟨⟨rfl,c,E,dC,dC⟩,dC⟩ ?_;rintro v an ⟨l,sv,H,P,Q,L⟩;simp only at sv H P Q L;have S:=sv.gc;have Z:=D.step L;have fin:=λnm=>pS (cnt:=cnt) (args:=[.ptr b 0 0 0,dE (d+1:Nat)]) (op:=5) (nm:=nm) (e:=⟨0,0,[],[]⟩) (le:=[]) Z Q (F.trans L) (sv.cell D.lt (au _)) (jh _ _ _ false) (jh _ _ _ false) dz (λI=>by omega) (by simp[dW.lF,dW.iQ]) (λs G=>(H s G).1) dA (by
     have b8:=wY H;have:=aW (wd d) P;rw[dQ.iQ];omega)
    simp only[dW.vM,dW.FE,dW.oS]at fin;simp[S.1,S.2,Z.get,λnm=>(fin nm).1];exact(fin _).2
   ·simp[u];refine iq O dA ⟨o,b,p,r,1⟩ ⟨⟨rfl,c,E,dA⟩,dA⟩ ?_;rintro _ hE ⟨e,rfl,A,B,j,f⟩;simp only at B j f;obtain⟨z,g⟩:=c.tape f j;have m:=D.step g;have fin:=mn (i:=⟨o,b,p,r,d+1,cnt⟩) (args:=[.ptr b 0 0 0,dE d]) (nm:=[120]) m z (F.trans g) A dz;simp[sw,m.get,fin.1];exact fin.2
  ·have J:(decide (0<d)&&decide (0<left)&& !N)=false:=by simpa using J
   simp[u,J];refine iq O dA ⟨o,b,p,r,1⟩ ⟨⟨rfl,c,E,dA⟩,dA⟩ ?_;rintro _ hE ⟨e,rfl,A,B,j,f⟩;simp only at B j f;obtain⟨z,g⟩:=c.tape f j;have m:=D.step g;have fin:=mn (i:=⟨o,b,p,r,d,cnt⟩) (args:=[.ptr b 0 0 0,dE d]) (nm:=[120]) m z (F.trans g) A dz;simp[sw,m.get,fin.1];exact fin.2
 ·by_cases J:(decide (0<d)&&decide (0<left)&& !N)=true
  ·simp at J;obtain⟨⟨a6,a7⟩,a8⟩:=J;subst a8;obtain⟨d,rfl⟩:∃e,d=e+1:=⟨d-1,dz⟩;have av:binop .sub (dE ((d:Int)+1)) (dE 1)=some (dE d):=by
    rw[uu,<-jF,jI dz dz];simp
   have bs:=λ{tb:fJ} (ht:tb.h 212=some xF) s=>cL ht [.ptr b 0 0 0,.str s] V ⟨o,r,b,p,s,rfl,c,dz⟩;have cb:binop .sub (dE 11) (dE 10)=some (dE 1):=Em dz dz dz;have ce:binop .add (dE 1) (dE 5)=some (dE 6):=zf dz dz dz;simp[u,a7,bs];refine ee (λR=> ?_) (λR=> ?_)
   ·simp[u,bk,cb,ce,av];refine iq ds dA ⟨o,b,p,r,d,_⟩ ⟨⟨rfl,c,E,dC,dC⟩,dC⟩ ?_;rintro v an ⟨l,sv,H,P,Q,L⟩;simp only at sv H P Q L;have S:=sv.gc;have Z:=D.step L;have fin:=λnm=>pS (cnt:=cnt) (args:=[.ptr b 0 0 0,dE (d+1:Nat)]) (op:=6) (nm:=nm) (e:=⟨0,0,[],[]⟩) (le:=[]) Z Q (F.trans L) (sv.cell D.lt (au _)) (jh _ _ _ false) (jh _ _ _ false) dz (λI=>by omega) (by simp[dW.lF,dW.iQ]) (λs G=>(H s G).1) dA (by
     have b8:=wY H;have:=aW (wd d) P;rw[dQ.iQ];omega)
    simp only[dW.vM,dW.FE,dW.oS]at fin;simp[S.1,S.2,Z.get,λnm=>(fin nm).1];exact(fin _).2
   ·simp[u];refine iq O dA ⟨o,b,p,r,1⟩ ⟨⟨rfl,c,E,dA⟩,dA⟩ ?_;rintro _ hE ⟨e,rfl,A,B,j,f⟩;simp only at B j f;obtain⟨z,g⟩:=c.tape f j;have m:=D.step g;have fin:=mn (i:=⟨o,b,p,r,d+1,cnt⟩) (args:=[.ptr b 0 0 0,dE d]) (nm:=[120]) m z (F.trans g) A dz;simp[sw,m.get,fin.1];exact fin.2
  ·have J:(decide (0<d)&&decide (0<left)&& !N)=false:=by simpa using J
   simp[u,J];refine iq O dA ⟨o,b,p,r,1⟩ ⟨⟨rfl,c,E,dA⟩,dA⟩ ?_;rintro _ hE ⟨e,rfl,A,B,j,f⟩;simp only at B j f;obtain⟨z,g⟩:=c.tape f j;have m:=D.step g;have fin:=mn (i:=⟨o,b,p,r,d,cnt⟩) (args:=[.ptr b 0 0 0,dE d]) (nm:=[120]) m z (F.trans g) A dz;simp[sw,m.get,fin.1];exact fin.2
 ·simp;refine ee (λR=> ?_) (λR=> ?_)
  ·simp at R;obtain⟨⟨a6,a7⟩,a8⟩:=R;obtain⟨d,rfl⟩:∃e,d=e+1:=⟨d-1,dz⟩;have av:binop .sub (dE ((d:Int)+1)) (dE 1)=some (dE d):=by
    rw[uu,<-jF,jI dz dz];simp
   obtain⟨M,K⟩:=c.set (th':=ap) (left':=left) (se':=set) (tx':=true) (at2:=al) (lp':=aE) c6 X hl;simp only[sr]at M K;simp[u,C,dZ];generalize dY V b _=dk at*
   have aA:=D.step M;have bp:=F.trans M;obtain⟨b7,ap,left,set,N,al,aE,bN,G,C,X,hl⟩:=K.ex;simp only[sr]at C;simp[C];refine sd dA K.tp K.ok dz dz E λY bB b9 t4 aN=> ?_;obtain⟨ae,aX⟩:=K.tape aN t4;have l4:=aA.step aX;have de:binop .add (dE 1) (dE Y)=some (dE ((1+Y:Nat):Int)):=zf dA dz dz;simp[de];refine iq cX dA ⟨o,b,p,r,0,1+Y⟩ ⟨⟨dA,ae,E,dA,dC,dC⟩,dC⟩ ?_;rintro v an ⟨l,sv,H,P,Q,L⟩;simp only at sv H P Q L;replace P:l.length<=2:=dz;replace sv:=sv.deep (show 2*0+2<=2*d+2 by omega);replace H:∀s∈l,MS s/\s.w<=wd d:=λs G=>⟨(H s G).1,aS (H s G).2 (YM d)⟩;have Z:=l4.step L;have bH:=(bp.trans aX).trans L;have S:=sv.gc;obtain⟨uJ,bi,bT,bS,b6⟩:=lJ Q bH (dG 11 0 [.agg [dE 0,dE 0,.str [],.str [],dF,dE 0,dE 0,.str [],dF,dF,dF]]) (dG 11 1 [.agg [dE 7,dE 0,.str [],.str [],dF,dE 0,dE 0,.str [],dF,v,dF]]);have bn:=bS _ _ Z;have bX:=b6 _ _ _ _ _ sv (au _);simp[u,S.1,S.2];generalize dY (an.cons _) an.size _=c7 at*
   obtain⟨b7,ap,left,set,N,al,aE,bN,G,C,X,hl⟩:=uJ.ex;obtain⟨U,c1⟩:=uJ.set (th':=ap) (left':=left) (se':=set) (tx':=false) (at2:=al) (lp':=aE) C X hl;have eH:=bi.lt;have eI:=U.ok.sz;have fin:=pS (cnt:=cnt) (args:=[.ptr b 0 0 0,dE (d+1:Nat)]) (op:=7) (nm:=[]) (e:=⟨0,0,[],[]⟩) (le:=[]) (bn.step U) c1 (bT.trans U) ((bX.step U dz).cell l4.lt dz) (jh _ _ _ false) (jh _ _ _ false) dz (λI=>by omega) (by simp[dW.lF,dW.iQ]) (λs G=>(H s G).1) dA (by
    have b8:=wY H;have:=aW (wd d) P;rw[dQ.iQ];omega)
   have gT:=(bi.step U).get;have gR:=(bn.step U).get;simp only[sr,dW.vM,dW.FE,dW.oS]at C gT gR fin;simp[C,gT,gR,dZ,fin.1];exact fin.2
  ·simp[u];refine iq O dA ⟨o,b,p,r,1⟩ ⟨⟨rfl,c,E,dA⟩,dA⟩ ?_;rintro _ hE ⟨e,rfl,A,B,j,f⟩;simp only at B j f;obtain⟨z,g⟩:=c.tape f j;have m:=D.step g;have fin:=mn (i:=⟨o,b,p,r,d,cnt⟩) (args:=[.ptr b 0 0 0,dE d]) (nm:=[120]) m z (F.trans g) A dz;simp[sw,m.get,fin.1];exact fin.2
 ·simp[u,C];refine ee (λR=> ?_) (λR=> ?_)
  ·simp at R;obtain⟨⟨⟨a6,a7⟩,a8⟩,eD⟩:=R;obtain⟨d,rfl⟩:∃e,d=e+1:=⟨d-1,dz⟩;have av:binop .sub (dE ((d:Int)+1)) (dE 1)=some (dE d):=by
    rw[uu,<-jF,jI dz dz];simp
   obtain⟨M,K⟩:=c.set (th':=ap) (left':=left) (se':=set) (tx':=N) (at2:=true) (lp':=aE) c6 X hl;simp only[sr]at M K;simp[u,bk,C,dZ,av];generalize dY V b _=dk at*
   have aA:=D.step M;have bp:=F.trans M;refine iq cX dA ⟨o,b,p,r,d,2⟩ ⟨⟨rfl,K,E,dC,dC,dA⟩,dC⟩ ?_;rintro v an ⟨l,sv,H,P,Q,L⟩;simp only at sv H P Q L;have Z:=aA.step L;have bH:=bp.trans L;have S:=sv.gc;obtain⟨uJ,bi,bT,bS,b6⟩:=lJ Q bH (dG 11 0 [.agg [dE 0,dE 0,.str [],.str [],dF,dE 0,dE 0,.str [],dF,dF,dF]]) (dG 11 1 [.agg [dE 8,dE 0,.str [],.str [],dF,dE 0,dE 0,.str [],dF,v,dF]]);have bn:=bS _ _ Z;have bX:=b6 _ _ _ _ _ sv (au _);simp[u,S.1,S.2];generalize dY (an.cons _) an.size _=c7 at*
   obtain⟨b7,ap,left,set,N,al,aE,bN,G,C,X,hl⟩:=uJ.ex;obtain⟨U,c1⟩:=uJ.set (th':=ap) (left':=left) (se':=set) (tx':=N) (at2:=false) (lp':=aE) C X hl;have eH:=bi.lt;have eI:=U.ok.sz;have fin:=pS (cnt:=cnt) (args:=[.ptr b 0 0 0,dE (d+1:Nat)]) (op:=8) (nm:=[]) (e:=⟨0,0,[],[]⟩) (le:=[]) (bn.step U) c1 (bT.trans U) ((bX.step U dz).cell aA.lt dz) (jh _ _ _ false) (jh _ _ _ false) dz (λI=>by omega) (by simp[dW.lF,dW.iQ]) (λs G=>(H s G).1) dA (by
    have b8:=wY H;have:=aW (wd d) P;rw[dQ.iQ];omega)
   have gT:=(bi.step U).get;have gR:=(bn.step U).get;simp only[sr,dW.vM,dW.FE,dW.oS]at C gT gR fin;simp[C,gT,gR,dZ,fin.1];exact fin.2
  ·simp[u];refine iq O dA ⟨o,b,p,r,1⟩ ⟨⟨rfl,c,E,dA⟩,dA⟩ ?_;rintro _ hE ⟨e,rfl,A,B,j,f⟩;simp only at B j f;obtain⟨z,g⟩:=c.tape f j;have m:=D.step g;have fin:=mn (i:=⟨o,b,p,r,d,cnt⟩) (args:=[.ptr b 0 0 0,dE d]) (nm:=[120]) m z (F.trans g) A dz;simp[sw,m.get,fin.1];exact fin.2
 ·by_cases J:(decide (0<d)&&decide (0<left)&& !N&& !al)=true
  ·simp at J;obtain⟨⟨⟨a6,a7⟩,a8⟩,eD⟩:=J;subst a8;subst eD;obtain⟨d,rfl⟩:∃e,d=e+1:=⟨d-1,dz⟩;have bs:=λ{tb:fJ} (ht:tb.h 212=some xF) s=>cL ht [.ptr b 0 0 0,.str s] V ⟨o,r,b,p,s,rfl,c,dz⟩;simp[u,C,a7,bs];refine ee (λR=> ?_) (λR=> ?_)
   ·simp[Tr,sw];have dm:(I.size=V.size)=False:=by have:=D.lt;simp;omega
    have sv:=SV.lit (d:=2*d+2) (l:=[Bg 9,Dy [97] [] ⟨2,0,[120],[]⟩]) (es:=[.agg [dE 9,dE 0,.str [99],.str [],dF,dE 0,dE 0,.str [],dF,dF,dF],(Dy [97] [] ⟨2,0,[120],[]⟩).t]) c (λ_ _=> .cons (Qu _ _) (.cons (dQ.ft _ _) .nil));have c4:=Step.cons c.ok c.lt (dG 11 0 [.agg [dE 9,dE 0,.str [99],.str [],dF,dE 0,dE 0,.str [],dF,dF,dF],(Dy [97] [] ⟨2,0,[120],[]⟩).t]);have ea:=D.step c4;have fin:=pS (cnt:=cnt) (args:=[.ptr b 0 0 0,dE (d+1:Nat)]) (op:=4) (nm:=[109]) (e:=⟨0,0,[],[]⟩) (le:=[]) ea (c.cons _) (F.trans c4) (sv.cell D.lt dA) (jh _ _ _ false) (jh _ _ _ false) dz (λI=>by omega) (by simp[dW.lF,dW.iQ]) (λs G=>by
     rcases List.mem_cons.1 G with rfl|G
     ·exact Qt dz
     ·rw[List.mem_singleton.1 G];exact Dj dA (.nm _) (λI=>absurd rfl I)) dA (by
     have:=BL d;simp[dQ.j7,dQ.iQ,UX,Dy,dQ.lF (dQ.mk 1 0 [97] [] [] (dW.mk 2 0 [120] []) [] []),dW.lF,dW.iQ];omega)
    simp only[dW.vM,dW.FE,dW.oS,Dy]at fin;simp at fin;simp[dm,D.get,fin.1];exact fin.2
   ·simp[u];refine iq O dA ⟨o,b,p,r,1⟩ ⟨⟨rfl,c,E,dA⟩,dA⟩ ?_;rintro _ hE ⟨e,rfl,A,B,j,f⟩;simp only at B j f;obtain⟨z,g⟩:=c.tape f j;have m:=D.step g;have fin:=mn (i:=⟨o,b,p,r,d+1,cnt⟩) (args:=[.ptr b 0 0 0,dE d]) (nm:=[120]) m z (F.trans g) A dz;simp[sw,m.get,fin.1];exact fin.2
  ·have J:(decide (0<d)&&decide (0<left)&& !N&& !al)=false:=by simpa using J
   simp[u,C,J];refine iq O dA ⟨o,b,p,r,1⟩ ⟨⟨rfl,c,E,dA⟩,dA⟩ ?_;rintro _ hE ⟨e,rfl,A,B,j,f⟩;simp only at B j f;obtain⟨z,g⟩:=c.tape f j;have m:=D.step g;have fin:=mn (i:=⟨o,b,p,r,d,cnt⟩) (args:=[.ptr b 0 0 0,dE d]) (nm:=[120]) m z (F.trans g) A dz;simp[sw,m.get,fin.1];exact fin.2
 ·by_cases J:(decide (0<d)&&decide (0<left)&& !N)=true
  ·simp at J;obtain⟨⟨a6,a7⟩,a8⟩:=J;subst a8
   skip
   obtain⟨d,rfl⟩:∃e,d=e+1:=⟨d-1,dz⟩;have bs:=λ{tb:fJ} (ht:tb.h 212=some xF) s=>cL ht [.ptr b 0 0 0,.str s] V ⟨o,r,b,p,s,rfl,c,dz⟩;simp[u,a7,bs];refine ee (λR=> ?_) (λR=> ?_)
   ·simp[u,C];refine sd dA c.tp c.ok dz dz E λY bB b9 t4 aN=> ?_;obtain⟨ae,aX⟩:=c.tape aN t4;have l4:=D.step aX;have de:binop .add (dE 10) (dE Y)=some (dE (10+Y)):=zf dA dz dz;simp[de];have dm:(I.size=bB.size)=False:=by have:=l4.lt;simp;omega
    have sv:=SV.lit (d:=2*d+2) (l:=[Bg (10+Y)]) (es:=[.agg [dE (10+Y),dE 0,.str [99],.str [],dF,dE 0,dE 0,.str [],dF,dF,dF]]) ae (λ_ _=> .cons (Qu _ _) .nil);have c4:=Step.cons ae.ok ae.lt (dG 11 0 [.agg [dE (10+Y),dE 0,.str [99],.str [],dF,dE 0,dE 0,.str [],dF,dF,dF]]);have ea:=l4.step c4;have fin:=pS (cnt:=cnt) (args:=[.ptr b 0 0 0,dE (d+1:Nat)]) (op:=4) (nm:=[109]) (e:=⟨0,0,[],[]⟩) (le:=[]) ea (ae.cons _) ((F.trans aX).trans c4) (sv.cell l4.lt dA) (jh _ _ _ false) (jh _ _ _ false) dz (λI=>by omega) (by simp[dW.lF,dW.iQ]) (λs G=>by rw[List.mem_singleton.1 G];exact Qt dz) dA (by
     have:=BL d;simp[dQ.j7,dQ.iQ,UX];omega)
    simp only[dW.vM,dW.FE,dW.oS]at fin;simp at fin;simp[dm,l4.get,fin.1];exact fin.2
   ·simp[u];refine iq O dA ⟨o,b,p,r,1⟩ ⟨⟨rfl,c,E,dA⟩,dA⟩ ?_;rintro _ hE ⟨e,rfl,A,B,j,f⟩;simp only at B j f;obtain⟨z,g⟩:=c.tape f j;have m:=D.step g;have fin:=mn (i:=⟨o,b,p,r,d+1,cnt⟩) (args:=[.ptr b 0 0 0,dE d]) (nm:=[120]) m z (F.trans g) A dz;simp[sw,m.get,fin.1];exact fin.2
  ·have J:(decide (0<d)&&decide (0<left)&& !N)=false:=by simpa using J
   simp[u,J];refine iq O dA ⟨o,b,p,r,1⟩ ⟨⟨rfl,c,E,dA⟩,dA⟩ ?_;rintro _ hE ⟨e,rfl,A,B,j,f⟩;simp only at B j f;obtain⟨z,g⟩:=c.tape f j;have m:=D.step g;have fin:=mn (i:=⟨o,b,p,r,d,cnt⟩) (args:=[.ptr b 0 0 0,dE d]) (nm:=[120]) m z (F.trans g) A dz;simp[sw,m.get,fin.1];exact fin.2
 ·simp[u,C];refine ee (λR=> ?_) (λR=> ?_)
  ·obtain⟨M,K⟩:=c.set (th':=ap) (left':=left) (se':=true) (tx':=N) (at2:=al) (lp':=aE) c6 X hl;simp only[sr]at M K;simp[u,C,dZ];generalize dY V b _=dk at*
   have aA:=D.step M;have bp:=F.trans M;refine iq O dA ⟨o,b,p,r,1⟩ ⟨⟨rfl,K,E,dA⟩,dA⟩ ?_;rintro _ hE ⟨e,rfl,A,B,j,f⟩;simp only at B j f;obtain⟨z,g⟩:=K.tape f j;have m:=aA.step g;have fin:=HJ (i:=⟨o,b,p,r,d,cnt⟩) (args:=[.ptr b 0 0 0,dE d]) (cs:=[dE 14,dE 0,.str [102],.str [],dF,dE e.op,dE e.n,.str e.name,sl (e.l.map dW.t),dF,dF]) (s:=⟨14,0,[102],[],[],e,[],[]⟩) m z (bp.trans g) rfl
    (.cons (fQ ..) (.cons (fQ ..) (.cons (ke ..) (.cons (ke ..) (.cons (jh ..) (.cons (fQ ..) (.cons (fQ ..) (.cons (ke ..) (.cons (pj _ _ _ λx bu=>by obtain⟨y,_,rfl⟩:=List.mem_map.1 bu;simp) (.cons (jh ..) (.cons (jh ..) .nil)))))))))))
    (.mk (λI=>by simp at I) (λI=>by simp at I) dA (λ_=>A) dA dA) (by
      have:=BL d;rw[dQ.lF];simp only[dQ.rZ,dQ.Ke,dQ.uU,dQ.xX,dQ.iQ,dW.iQ];omega)
   simp[m.get,fin.1];exact fin.2
  ·simp[u];refine iq O dA ⟨o,b,p,r,1⟩ ⟨⟨rfl,c,E,dA⟩,dA⟩ ?_;rintro _ hE ⟨e,rfl,A,B,j,f⟩;simp only at B j f;obtain⟨z,g⟩:=c.tape f j;have m:=D.step g;have fin:=mn (i:=⟨o,b,p,r,d,cnt⟩) (args:=[.ptr b 0 0 0,dE d]) (nm:=[120]) m z (F.trans g) A dz;simp[sw,m.get,fin.1];exact fin.2
 ·cases N with
  |true=>
   simp[u,C];refine iq O dA ⟨o,b,p,r,1⟩ ⟨⟨rfl,c,E,dA⟩,dA⟩ ?_;rintro _ hE ⟨e,rfl,A,B,j,f⟩;simp only at B j f;obtain⟨z,g⟩:=c.tape f j;have m:=D.step g;have fin:=mn (i:=⟨o,b,p,r,d,cnt⟩) (args:=[.ptr b 0 0 0,dE d]) (nm:=[120]) m z (F.trans g) A dz;simp[sw,m.get,fin.1];exact fin.2
  |false=>
   simp[u,C];refine sd dA c.tp c.ok dz dz E λY bB b9 t4 aN=> ?_;obtain⟨ae,aX⟩:=c.tape aN t4;have l4:=D.step aX;have bz:=F.trans aX;simp;refine ee (λR=> ?_) (λR=> ?_)
   ·have fin:=HJ (i:=⟨o,b,p,r,d,cnt⟩) (args:=[.ptr b 0 0 0,dE d]) (cs:=[dE 15,dE 0,.str [97],.str [102],dF,dE 0,dE 0,.str [],dF,dF,dF]) (s:=⟨15,0,[97],[102],[],⟨0,0,[],[]⟩,[],[]⟩) l4 ae bz rfl
     (.cons (fQ ..) (.cons (fQ ..) (.cons (ke ..) (.cons (ke ..) (.cons (jh ..) (.cons (fQ ..) (.cons (fQ ..) (.cons (ke ..) (.cons (jh ..) (.cons (jh ..) (.cons (jh ..) .nil)))))))))))
     (.mk (λI=>by simp at I) (λI=>by simp at I) dA (λI=>by simp at I) dA dA) (by
       have:=BL d;rw[dQ.lF,dW.lF];simp only[dQ.rZ,dQ.Ke,dQ.uU,dQ.xX,dQ.iQ,dW.iQ,dW.FJ];omega)
    simp[l4.get,fin.1];exact fin.2
   ·simp[u];refine iq O dA ⟨o,b,p,r,1⟩ ⟨⟨rfl,ae,E,dA⟩,dA⟩ ?_;rintro _ hE ⟨e,rfl,A,B,j,f⟩;simp only at B j f;obtain⟨z,g⟩:=ae.tape f j;have m:=l4.step g;have fin:=mn (i:=⟨o,b,p,r,d,cnt⟩) (args:=[.ptr b 0 0 0,dE d]) (nm:=[120]) m z (bz.trans g) A dz;simp[sw,m.get,fin.1];exact fin.2
def adX(a:Nat):(VG a).Ok Tryz.prog cx 118:=
 uY (λc:Va=>c.d) (λa b=>aaL (a+1) (aaK a b (abK a b))) a
end
end Go.Proofs.YtmaeadedikngoaaGreatDoor
namespace Go.TI
noncomputable section
@[simp] theorem ZY (a:H) (b:iZ):(a.cons b).size=a.size+1:=id rfl
def iB.HO{b h:Type}{c:b->h->Prop}{e:List b}{f:List h}(j:iB c e f){g:b}(d:g∈e):∃a∈f,c g a:=by
 induction j with
 |nil=>simp at d
 |cons i _ l=>
  rcases List.mem_cons.1 d with rfl|q
  ·exact⟨_,dA,i⟩
  ·obtain⟨a,k,m⟩:=l q;exact⟨a,by simp[k],m⟩
section
variable {cx:Ctx}{cf:iY}{mask n:Nat}{dl:DL}
def abR{f:Out}{e:Env->H->Prop}{c:iM}(i:W f (xQ e c))(j:∀a b,e a b->c.n a b):W f c:=by
 obtain⟨g,a,b,h,d⟩:=i;refine⟨g,a,b,h,?_⟩;cases g with
 |normal=>exact j a b d
 |exit k=>exact d
 |ret=>exact d
def Ra{g:Out}{d:iM}(e:fW->H->Prop)(i:W g (xQ (λb a=>b.tmps= .nil/\e b.vars a) d))(j:∀c a,e c a->d.n ⟨c,.nil⟩ a):W g d:=
 abR i λb a ⟨h,f⟩=>by obtain⟨c,k⟩:=b;simp only at h f;subst h;exact j c a f
def ll{f:Bool}{g h:Code}{b:Env}{a:H}{d:iM}(c:fW->H->Prop)(k:f=true->W (jB cx cf n mask dl g b a) (xQ (λb a=>b.tmps= .nil/\c b.vars a) d))(l:f=false->W (jB cx cf n mask dl h b a) (xQ (λb a=>b.tmps= .nil/\c b.vars a) d))
 (i:∀j a,c j a->d.n ⟨j,.nil⟩ a):CK (some (.bool f)) cx cf n mask dl g h b a d:=by
 refine ee (λe=> ?_) (λe=> ?_)
 ·exact Ra c (k e) i
 ·exact Ra c (l e) i
end
end
noncomputable section
@[simp] theorem afG (a:Nat):(a=a+1)=False:=dA 
@[simp] theorem afF (a:Nat):(a=a+1+1)=False:=dB 
@[simp] theorem afE (a:Nat):(a=a+1+1+1)=False:=dB 
@[simp] theorem afD (a:Nat):(a=a+1+1+1+1)=False:=dB 
@[simp] theorem afC (a:Nat):(a=a+1+1+1+1+1)=False:=dB 
def CD{c:H}{b:T}{d:List T}(a:c.jf b=some d)(f:iZ):(c.cons f).jf b=some d:=by
 cases b<;>first|exact a|(simp[H.jf]at a;done)|skip
 rename_i g h k j i;rw[gH]at a|-;obtain⟨l,e,_⟩:=dJ.1 a;rw[dV,ao (by have:=H.ew e;omega)];exact a
def kQ{cx:Ctx}{a:H}{sz:Nat}(E:ig 0 a){g h f:ab}{m n b:Ty}(s:cx.ty g=some m)(t:m.u= .slice f)(v:cx.ty f=some b)(w:cx.ty h=some n)(y:n.u= .slice f)(j:b.size=sz)(A:1<=b.bytes)
 {x:T} {xs:List T} (D:a.jf x=some xs) (k:∀q∈xs,q.cells.length=sz) (C:xs.length*b.bytes<=70368744177664):
 ∃i d,iO cx (a.cons ⟨sz,0,0,true,false,[]⟩) g h (.arr a.size 0 0 0 false) x=some (.val (.arr a.size i 0 xs.length false) d)/\(∃F r,d.get a.size=some ⟨sz,i,F,r,false,xs⟩)/\d.size=a.size+1/\(∀c,c<a.size->d.get c=a.get c)/\ig 0 d:=by
 have z:iO cx (a.cons ⟨sz,0,0,true,false,[]⟩) g h (.arr a.size 0 0 0 false) x=jA ((a.cons ⟨sz,0,0,true,false,[]⟩).append b.size b.bytes (.arr a.size 0 0 0 false) xs):=by
  unfold iO pM mV;rw[s,dX,w,dX];simp only[t,v,y,CD D,dX];rw[j,my k,iu]
 rw[z,j];have l:=E.cons ⟨sz,0,0,true,false,[]⟩;have e:(a.cons ⟨sz,0,0,true,false,[]⟩).get a.size=some ⟨sz,0,0,true,false,[]⟩:=dA;cases xs with
 |nil=>exact⟨0,a.cons ⟨sz,0,0,true,false,[]⟩,rfl,⟨0,true,e⟩,rfl,λc B=>by rw[dV,ao dz],l⟩
 |cons o p=>
  refine⟨1,dY (a.cons ⟨sz,0,0,true,false,[]⟩) a.size ⟨sz,1,1,false,false,o::p⟩,?_,⟨1,false,by rw[dP e,aq rfl]⟩,by rw[fU];rfl,λc B=>by rw[dP e,ao dz,dV,ao dz],l.put _ _⟩;show jA ((a.cons ⟨sz,0,0,true,false,[]⟩).mB sz b.bytes a.size 0 ([]:List T).length (o::p))=_;rw[wg e k A (by simpa using C)];rfl
def oG(c:H)(d:Nat)(b:T)(a:List T):Prop:=b=sl a\/Gr c b d a
def oG.jf{b:H}{e:Nat}{c:T}{a:List T}(d:oG b e c a):b.jf c=some a:=by
 rcases d with rfl|g
 ·simp
 ·exact g.jf
def oG.mono{d h':H}{e:Nat}{b:T}{c:List T}(h:oG d e b c)(g:∀a,dS b=some a->h'.get a=d.get a):oG h' e b c:=h.imp id λf=>f.mono g
def oG.len{cx:Ctx}{h:H}{j:Nat}{f:T}{a:List T}(i:oG h j f a)(b:H)(d:Ty)(e:ab)(c:d.u= .slice e):DJ cx b d f=some (.val (.int .i64 a.length) b):=by
 rcases i with rfl|g
 ·cases a with
  |nil=>exact MX _ _ c
  |cons l k=>exact EN _ _ _ _ c
 ·exact g.len b d e c
def oG.il{c:H}{e:Nat}{a:T}{b:List T}(d:oG c e a b):a.il=true/\a.cells=[a]:=by
 rcases d with rfl|g
 ·cases b<;>exact⟨rfl,rfl⟩
 ·exact⟨g.il,g.cells⟩
def oG.idx{c:H}{k:T}{a:List T}(r:oG c 1 k a){te:Ty}(f:te.size=1)(p:te.isAgg=false){i:Nat}{x:T}(b:a[i]? =some x)(d:x.cells=[x]):∃j,kK c te k i=some (.val j c)/\c.load te j=some x:=by
 have hr:kl te [x]=some x:=by unfold kl;rw[p];rfl
 have e:i<a.length:=by
  rcases aF i a.length with q|q
  ·exact q
  ·rw[aM q]at b;simp at b
 rcases r with rfl|g
 ·refine⟨.jy x.cells,?_,?_⟩
  ·cases a with
   |nil=>simp at b
   |cons l h=>rw[show sl (l::h)= .dM (l::h) false from rfl,M2,b];simp[d,f]
  ·rw[d];exact hr
 ·obtain⟨s,t,v,u,w,_,m,o,n⟩:=g.JS f e;refine⟨_,m,?_⟩;have:a[i]=x:=by rw[az e]at b;simpa using b
  rw[Wg,o];simp[n,this,d,hr]
def oG.ft{h:H}{V:Nat->Prop}{s d:Nat}{f:T}{b:List T}(r:oG h s f b)(e:∀a∈b,cn a=a/\jW a=true/\∀k,a≠ .agg k)(i:∀c,dS f=some c->V c):FT h V (d+2) f (sl b):=by
 rcases r with rfl|g
 ·exact pj _ _ _ λa o=>(e a o).1
 ·have j:=g.jf;rcases g with⟨rfl,rfl⟩|⟨c,l,w,u,x,rfl,m,n⟩
  ·exact jh _ _ _ _
  ·refine .inr (.inl ⟨c,l,0,_,false,b,b,rfl,i c rfl,j,?_,rfl⟩);clear j i n m;induction b with
   |nil=>exact .nil
   |cons a v q=>exact .cons (.inl ⟨(e a dA).2.1,(e a dA).2.2,(e a dA).1.symm⟩) (q λt p=>e t (by simp[p]))
structure Nb(h h':H):Prop where
 ok:ig h.size h'
 get:∀c,c<h.size->h'.get c=h.get c
def Nb.refl{a:H}(b:ig 0 a):Nb a a:=⟨⟨b.hp,b.low,au _⟩,λ_ _=>rfl⟩
def Nb.trans{d e f:H}(b:Nb d e)(a:Nb e f):Nb d f:=⟨⟨a.ok.hp,a.ok.low,aS b.ok.sz a.ok.sz⟩,λc g=>(a.get c (bE g b.ok.sz)).trans (b.get c g)⟩
def Nb.cons{b c:H}(a:Nb b c)(d:iZ):Nb b (c.cons d):=⟨a.ok.cons d,λe f=>by rw[dV,ao (by have:=a.ok.sz;omega)];exact a.get e f⟩
def Nb.put{b d:H}(e:Nb b d){a:Nat}{x:iZ}(h:d.get a=some x)(i:b.size<=a)(f:iZ):Nb b (dY d a f):=⟨e.ok.put a f,λc g=>by rw[dP h,ao dz];exact e.get c g⟩
def Nb.step{c f:H}(b:Nb c f){d:Nat}(g:d<c.size):Step d c f:=⟨b.ok,λe a _=>b.get e a,λe a=>by rw[iW (b.get d g)]at a;exact .inl a⟩
def Nb.hr{a d:H}(b:Nb (TI.hr a) d):Nb a d:=⟨b.ok,λc e=>(b.get c e).trans (gh a c)⟩
def Nb.out{h b:H}(c:Nb (TI.hr h) b):Nb h (lO h b):=⟨c.ok.out h,λa d=>(fO h b a).trans ((c.get a d).trans (gh h a))⟩
def Gr.new{h:H}{b sz ep ver:Nat}{ex:Bool}{es:List T}(a:h.get b=some ⟨sz,ep,ver,ex,false,es⟩):Gr h (.arr b ep 0 es.length false) sz es:= .inr ⟨b,ep,ver,ex,es,rfl,a,aO⟩
def nW.one{h:H}{w szw ver i0:Nat}{F:List (T×aa (Nat×List T))}(s:ig 0 h)(i:h.get w=some ⟨szw,0,ver,true,false,[.agg (F.map (·.1))]⟩)(o:∀a∈F,XH h szw a)(f:∀(b:Nat) e,F[b]? =some e->dS e.1≠none->b=i0):
 nW h w szw ver F/\∀d,Fp h w d->d=w\/∃a,F[i0]? =some a/\dS a.1=some d:=by
 refine⟨⟨s,i,o,λb r q e l m n d t u=>q ((f b e m (by rw[t];simp)).trans (f r l n (by rw[u];simp)).symm)⟩,λd c=> ?_⟩;rcases c with c|⟨x,g,v,k,c⟩
 ·exact .inl c
 ·rw[i]at g;simp only[ar]at g;subst g;simp only[fw,aQ,cj,bL,T.cells]at k;obtain⟨a,p,rfl⟩:=List.mem_map.1 k;obtain⟨b,j⟩:=cT p;have:=f b a j (by rw[c];simp);subst this;exact .inr ⟨a,j,c⟩
section
variable {cx:Ctx}{cf:iY}{mask:Nat}
@[simp low] theorem ab9 (n:aa Nat) (l:T) (j:af Oper) (a:List (Nat×Nat)) (f:aa Tmp) (h:List Oper) (b:Nat) (i:List (Nat×Nat)) (c:List (Nat×H×H)) (m k:fW) (g:H) (e:iM) (q:lL a b=false) (p:(c.all λd=> !Ai a d.1 b)=true):DLK n l cx cf mask j a f h b i c m k g e=RB l cx cf mask j a f h (b+1) i c m k g e:=by
 cases n with
 |none=>rfl
 |some o=>
  have hl:mJ a b o c=True:=by
   simp only[eq_iff_iff,iff_true];intro d s r;have:=List.all_eq_true.1 p d s;rw[r]at this;simp at this
  rw[Rr,hl,q,true_and];rfl
end
def BZ{a x:T}(c:∀b,a≠ .agg b):mr a 0 [x]=some x:=by
 cases a<;>first|rfl|exact absurd rfl (c _)
def oG.na{h:H}{sz:Nat}{b:T}{a:List T}(d:oG h sz b a):∀c,b≠ .agg c:=by
 rcases d with rfl|g
 ·cases a<;>simp[sl]
 ·rcases g with⟨rfl,_⟩|⟨e,f,j,i,k,rfl,_⟩<;>simp
def Gr.setAt{j h':H}{f:T}{k a l b s ver2:Nat}{n ex2:Bool}{i h:List T}(o:Gr j f k i)(d:dS f=some a)(q:j.get a=some ⟨l,b,s,n,false,h⟩)(e:Nat)(g:T)(r:h'.get a=some ⟨l,b,ver2,ex2,false,h.set e g⟩):Gr h' f k (i.set e g):=by
 rcases o with⟨rfl,_⟩|⟨m,t,v,u,w,rfl,c,p⟩
 ·simp at d
 ·simp only[wO,ar]at d;subst d;rw[q]at c;simp only[ar,iZ.mk.injEq]at c;obtain⟨rfl,rfl,rfl,rfl,_,rfl⟩:=c;exact .inr ⟨m,b,ver2,ex2,h.set e g,by rw[cS],r,by rw[cS,List.take_set,p]⟩
def iB.set{d e:Type}{f c:d->e->Prop}{i:List d}{j:List e}(b:iB f i j)(a:Nat){k:d}{l:e}(m:c k l)(h:∀b g,f b g->c b g):iB c (i.set a k) (j.set a l):=by
 induction b generalizing a with
 |nil=>exact .nil
 |cons o p n=>
  cases a with
  |zero=>exact .cons m (p.imp h)
  |succ a=>exact .cons (h _ _ o) (n a)
def iB.Wc{b c j:Type}{d:b->c->Prop}{e:b->j->Prop}{f:c->j}{h:List b}{i:List c}(a:iB d h i)(k:∀a g,d a g->e a (f g)):iB e h (i.map f):=by
 induction a with
 |nil=>exact .nil
 |cons m n l=>exact .cons (k _ _ m) l
def FT.tup{c:H}{f:Nat->Prop}{d h:Nat}(l:h<=11)(k:∀a,f a->d<=a){b g:List T}(m:iB (FT c f h) b g)(a:Bool):∃i,jm c d (.tuple [.agg b,.bool a])=some i/\cn i= .tuple [.agg g,.bool a]:=by
 obtain⟨r0,e,j⟩:=FT.top l k m;refine⟨.tuple [r0,.bool a],?_,?_⟩
 ·have e:ks c d (.agg b)=some r0:=e;show(dU (fN (ks c d) [.agg b,.bool a]) λn=>some (T.tuple n))=_;rw[jH,e];rfl
 ·rw[uq];simp[j]
def Gr.ft{c:H}{V:Nat->Prop}{e:T}{m d:Nat}{a b:List T}(i:Gr c e m a)(k:∀h,dS e=some h->V h)(f:iB (FT c V d) a b):FT c V (d+1) e (sl b):=by
 have l:=i.jf;rcases i with⟨rfl,rfl⟩|⟨g,j,q,n,r,rfl,o,p⟩
 ·cases f;exact jh _ _ _ _
 ·exact .inr (.inl ⟨g,j,0,_,false,a,b,rfl,k g rfl,l,f,rfl⟩)
def Gr.at{j:H}{m x:T}{l i:Nat}{a:List T}(n:Gr j m l a)(g:a[i]? =some x):∃c d h e b,m= .arr c d 0 a.length false/\j.get c=some ⟨l,d,h,e,false,b⟩/\b[i]? =some x/\i<a.length:=by
 have f:i<a.length:=by
  rcases aF i a.length with k|k
  ·exact k
  ·rw[aM k]at g;simp at g
 rcases n with⟨rfl,rfl⟩|⟨c,d,h,e,b,rfl,o,p⟩
 ·simp at f
 ·refine⟨c,d,h,e,b,rfl,o,?_,f⟩;have:(b.take a.length)[i]? =a[i]? :=by rw[p]
  rw[bO,aq f,g]at this;exact this
def oG.qJ{h:H}{l:Nat}{e:Type}{f:e->T}{d:T}{c:List e}(k:oG h l d (c.map f))(i:∀a,cn (f a)=f a)(j:∀a,xi h 11 (f a)=some (f a)):TI.qJ h d=some (sl (c.map f)):=by
 rcases k with rfl|g
 ·cases c with
  |nil=>rfl
  |cons a b=>
   show TI.qJ h (.dM (f a::b.map f) false)=_;have:=Ll (h:=h) (f a::b.map f) false;rw[show(f a::b.map f).map cn=f a::b.map f from by simp[i]]at this;exact this
 ·exact g.qJ j
def mW{b:H}{a c:Nat}{f:iZ}(e:b.get a=some f)(d:c≠a)(g:iZ):fc b (dY b a g) c=true:=fk (by rw[dP e,ao d])
def mM{c:H}{b:Nat}(f:Hp c)(e:b<c.size)(d:iZ)(a:Nat):(dY c b d).get a=if a=b then some d else c.get a:=get_put f e d a
@[simp] theorem afJ (a:Nat):(a<a+1+1)=True:=dB 
@[simp] theorem afI (a:Nat):(a<a+1+1+1)=True:=dB 
@[simp] theorem afH (a:Nat):(a<a+1+1+1+1)=True:=dB 
@[simp high] theorem aeR {e:ai} {cx:Ctx} (d:fJ) (b:aj) (a:List T) (c:H) (f:d.p b=none):qZ e cx d b a c=hl e cx d b a c:=by
 unfold qZ;cases QX c a with
 |none=>rfl
 |some g=>simp only[Bo f]
def jd{b c:H}{a:Nat}(d:b.get a=none):fc b c a=true:=by unfold fc;rw[d]
def lz(b:H){a:Nat}(d:b.size<=a):b.get a=none:=by
 cases c:b.get a with
 |none=>rfl
 |some e=>have:=H.ew c;omega
def Gr.wh{cx:Ctx}{a:H}{h:T}{b:Nat}{f:List T}(q:Gr a h b f)(l:ig 0 a){g i:ab}{m d:Ty}(j:cx.ty g=some m)(k:m.u= .slice i)(r:cx.ty i=some d)(v:d.size=b)(s:1<=d.bytes){x:T}(w:x.cells.length=b)(t:(f.length+1)*d.bytes<=70368744177664):
 ∃e c,iO cx (a.cons ⟨b,0,0,true,false,[x]⟩) g g h (.arr a.size 0 0 1 false)=some (.val e c)/\Xt a h b (f++[x]) e c:=by
 have n:=(Xt.refl q l).cons ⟨b,0,0,true,false,[x]⟩;obtain⟨e,c,p,o⟩:=Gr.app (cx:=cx) n.1 (l.cons _) (x:= .arr a.size 0 0 1 false) (xs:=[x]) j k r j k v s (by rw[gH];simp) (by simpa using w) dA (by simpa using t);exact⟨e,c,p,n.trans o.xt⟩
end
end Go.TI
