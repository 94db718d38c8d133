/- Texts W01e to TiCopy. -/
import Derived.Test.YtmaeadedikngoaaGreatDoorA16
set_option linter.unusedVariables false
set_option linter.unusedSimpArgs false
set_option linter.defProp false
set_option maxRecDepth 100000
set_option maxHeartbeats 8000000
namespace Go.Proofs.YtmaeadedikngoaaGreatDoor
noncomputable section
open Go Go.TI
attribute [-simp] List.map_take List.map_drop List.map_append fj eG dY Bool.not_or Bool.not_and
attribute [simp] fh eJ
def wQ:kA:=⟨λe a=>∃d c b f i,e=[.ptr b 0 0 0,.str i]/\Mk d c a b f/\c<=100,λ_ a h g=>g=a/\D1 h⟩
def QH:wQ.Ok Tryz.prog cx 212:=by
 refine HM (tb:=⟨pt [(110,AG)],ht []⟩) ei eg (iL 19 [] Tryz.func212) false (λ_ _=>5) (λq a k=>by obtain⟨e,o,n,f,p,rfl,_⟩:=k;simp[Tryz.f212]) ?_;rintro _ a ⟨e,o,n,f,p,rfl,d,s⟩ y c;simp at c;obtain⟨i,j⟩:=c;obtain⟨x,v,left,set,w,r,u,t,l,b,h,hl⟩:=d.ex;simp only[rx]at b;have m:=(h.mono (h':=hr a) λg _=>fX a g).ry dp;simp[Tryz.f212,i,j,b,m,Mg,show l.length<=1099511627776 by omega];exact pq a _ _ d.ok.hp (Fr.refl _ _) rfl ⟨rfl,dp⟩
def ac1{d:H}{b:Nat->Prop}(h:dG)(c:Nat):io (FT d b (c+1)) h.cs h.cs:=by
 have f:∀a:List dK,FT d b (c+1) (sl (a.map dK.t)) (sl (a.map dK.t)):=λa=>ou _ _ _ λi e=>by obtain⟨j,_,rfl⟩:=List.mem_map.1 e;simp
 have g:∀a:List dG,FT d b (c+1) (sl (a.map dG.t)) (sl (a.map dG.t)):=λa=>ou _ _ _ λi e=>by obtain⟨j,_,rfl⟩:=List.mem_map.1 e;simp
 exact .cons (fR ..) (.cons (fR ..) (.cons (jR ..) (.cons (jR ..) (.cons (f _) (.cons (fR ..) (.cons (fR ..) (.cons (jR ..) (.cons (f _) (.cons (g _) (.cons (g _) .nil))))))))))
def Gy{i:TA}{args:List T}{a c:H}{r:iJ}{cs:List T}{s:dG}(e:Lb i.m c a.size r)(g:Mk i.L i.n c i.m i.b)(p:Step i.m (TI.hr a) c)(hl:cs.length=11)(j:io (FT c (Nw (a.size+1) c.size c i.m .j4) (2*i.d+3)) cs s.cs)(k:MS s)(o:s.w<=wd i.d):
 (dQ c a.size (dy 11 1 [.agg cs])).get a.size=some (dy 11 1 [.agg cs])/\Ew i args a (.agg cs) (lA a (dQ c a.size (dy 11 1 [.agg cs]))):=by
 have l:(dQ c a.size (dy 11 1 [.agg cs])).get i.m=c.get i.m:=by rw[dE e.get,ao (bg e.ne)]
 have q:=Step.rn g.ok e (dy 11 1 [.agg cs]) _ p (au _);refine⟨(dE e.get _ _).trans (aq rfl),cs,s,rfl,hl,?_,k,o,(g.rn e _).out,q.out⟩;refine .inr (.inr ⟨cs,s.cs,rfl,j.ft λh f=>⟨⟨by have:=f.1;omega,by have:=f.2.1;simp;omega,?_,JS h⟩,?_⟩,s.mP⟩)
 ·rw[iE (fK a _ i.m),iE l];exact f.2.2.1
 ·rw[fK,dE e.get,ao (by have:=f.1;omega)]
def CE(c:List Nat)(b:List dK)(a:dK):dG:=⟨1,0,c,[],b,a,[],[]⟩
def Ct{d:List Nat}{b:List dK}{c:dK}(g:∀i∈b,ME i)(f:ME c)(h:b≠ []->d=[113]):MS (CE d b c):=
 .mk (λa=>by unfold CE at a;simp at a) (λ_ a=>h a) g (λ_=>f) (λe a=>by unfold CE at a;simp at a) (λe a=>by unfold CE at a;simp at a)
def Ks{nm:List Nat}{ix:List dK}{e:dK}{d:Nat}(a:dK.ws ix<=20)(b:e.w<=20):(CE nm ix e).w<=wd d:=by
 have:=AY d;rw[dG.kP];unfold CE;simp only[dG.qU,dG.IY,dG.ul,dG.xg,dG.iz];omega
def lH{i:TA}{args:List T}{c d:H}{k:iJ}{nm:List Nat}{a:dK}(g:Lb i.m d c.size k)(h:Mk i.L i.n d i.m i.b)(j:Step i.m (TI.hr c) d)(e:ME a)(f:a.w<=20):
 (dQ d c.size (dy 11 1 [.agg [dw 1,dw 0,.str nm,.str [],sl [],dw a.op,dw a.n,.str a.name,sl (a.l.map dK.t),sl [],sl []]])).get c.size=some (dy 11 1 [.agg [dw 1,dw 0,.str nm,.str [],sl [],dw a.op,dw a.n,.str a.name,sl (a.l.map dK.t),sl [],sl []]])/\
 Ew i args c (.agg [dw 1,dw 0,.str nm,.str [],sl [],dw a.op,dw a.n,.str a.name,sl (a.l.map dK.t),sl [],sl []]) (lA c (dQ d c.size (dy 11 1 [.agg [dw 1,dw 0,.str nm,.str [],sl [],dw a.op,dw a.n,.str a.name,sl (a.l.map dK.t),sl [],sl []]]))):=
 Gy (s:=CE nm [] a) g h j rfl (ac1 (CE nm [] a) _) (Ct dp e (λc=>absurd rfl c)) (Ks (by rw[dK.iz];omega) f)
def _root_.Go.TI.Lb.put{d:Nat}{b:H}{a c:Nat}{x g:iJ}(f:Lb d b a x)(l2:Lb d b c g)(e:a≠c)(h:iJ):Lb d (dQ b c h) a x:=f.ky (by rw[dE l2.get,ao (bg l2.ne)]) (by rw[dE l2.get,ao e])
def Sv{n:List Int}{q:Nat}{k b:H}{c o a:Nat}{w:iJ}(p:Mk n q b c o)(e:Lb c b a w)(v:Step c (TI.hr k) b)(r:k.size<=a)(d:iJ):
 Mk n q (dQ b a d) c o/\Lb c (dQ b a d) a d/\Step c (TI.hr k) (dQ b a d)/\(∀g m,g≠a->Lb c b g m->Lb c (dQ b a d) g m)/\∀i h j l f,SV i h b c j l f->a<i\/h<=a->SV i h (dQ b a d) c j l f:=
 ⟨p.rn e d,⟨(dE e.get d a).trans (aq rfl),by rw[iE (show(dQ b a d).get c=b.get c by rw[dE e.get,ao (bg e.ne)])];exact e.nf⟩,Step.rn p.ok e d _ v r,λg m s f=>f.put e s d,λi h j l f t u=>t.rn e u d⟩
def kS{o:List Int}{q:Nat}{m a:H}{b p:Nat}(g:Mk o q a b p)(s:Step b (TI.hr m) a)(c e:iJ):
 Mk o q (dQ (a.cons c) a.size e) b p/\Lb b (dQ (a.cons c) a.size e) a.size e/\Step b (TI.hr m) (dQ (a.cons c) a.size e)/\(∀h l,Lb b a h l->Lb b (dQ (a.cons c) a.size e) h l)/\∀j f i k d,SV j f a b i k d->f<=a.size->SV j f (dQ (a.cons c) a.size e) b i k d:=by
 have n:=Step.cons g.ok g.lt c;have v:=Lb.new g.lt g.fp c;have t:m.size<=a.size:=by simpa using s.ok.sz
 obtain⟨w,x,y,z,A⟩:=Sv (g.cons c) v (s.trans n) t e;exact⟨w,x,y,λh l d=>z h l (by have:=d.lt;omega) (d.step n),λj f i k d u r=>A j f i k d (u.step n r) (.inr r)⟩
def SV.gc{h e:Nat}{d:H}{i c:Nat}{a:T}{g:List dG}(f:SV h e d i c a g):a.gD=true/\a.cells=[a]:=by
 obtain⟨j,b,_⟩:=f;exact⟨b.gD,b.cells⟩
def SV.cell{g e c d:Nat}{b:H}{h a:Nat}{i:T}{f:List dG}(l:SV g e b h (2*a+2) i f)(j:c<=g)(k:e<=d):FT b (Nw c d b h .j4) (2*(a+1)+3) i (sl (f.map dG.t)):=by
 have:=(l.wide j k).ft;rw[show 2*(a+1)+3=2*a+2+3 by omega];exact this
def wg{a:List dG}{W:Nat}(c:∀b∈a,MS b/\b.w<=W):dG.ws a<=a.length*W:=by
 induction a with
 |nil=>rw[dG.iz];omega
 |cons f a e=>
  have g:=e λb d=>c b (cw _ d);have h:=(c f dp).2;rw[dG.jM,aZ,bX];omega
def oX{k:List Int}{c m o d cnt:Nat}{args:List T}{a b:H}{p:iJ}{op:Int}{nm:List Nat}{e:dK}{f g h:T}{j le:List dG}(z:Lb c b a.size p)(A:Mk k o b c m)(B:Step c (TI.hr a) b)
 (q:FT b (Nw (a.size+1) b.size b c .j4) (2*(d+1)+3) g (sl (j.map dG.t))) (r:FT b (Nw (a.size+1) b.size b c .j4) (2*(d+1)+3) h (sl (le.map dG.t))) (u:FT b (Nw (a.size+1) b.size b c .j4) (2*(d+1)+3) f (sl (e.l.map dK.t)))
 (D:2<=op/\op<=8) (hE:op<=3->ME e) (E:e.w<=20) (v:∀s∈j,MS s) (x:∀s∈le,MS s) (C:dG.ws j+dG.ws le<=5*wd d):
 (dQ b a.size (dy 11 1 [.agg [dw op,dw 0,.str nm,.str [],dx,dw e.op,dw e.n,.str e.name,f,g,h]])).get a.size=some (dy 11 1 [.agg [dw op,dw 0,.str nm,.str [],dx,dw e.op,dw e.n,.str e.name,f,g,h]])/\
 Ew ⟨k,c,m,o,d+1,cnt⟩ args a (.agg [dw op,dw 0,.str nm,.str [],dx,dw e.op,dw e.n,.str e.name,f,g,h]) (lA a (dQ b a.size (dy 11 1 [.agg [dw op,dw 0,.str nm,.str [],dx,dw e.op,dw e.n,.str e.name,f,g,h]]))):=
 Gy (i:=⟨k,c,m,o,d+1,cnt⟩) (s:=⟨op,0,nm,[],[],e,j,le⟩) z A B rfl
  (.cons (fR ..) (.cons (fR ..) (.cons (jR ..) (.cons (jR ..) (.cons (iQ ..) (.cons (fR ..) (.cons (fR ..) (.cons (jR ..) (.cons u (.cons q (.cons r .nil)))))))))))
  (.mk (λa=>by simp at a;omega) (λa=>by simp at a;omega) (λp y=>by simp at y) (λa=>by simp at a;exact hE dj) v x)
  (by
    have:=AY d;rw[dG.kP,Jq];simp only[dG.qU,dG.IY,dG.ul,dG.xg,dK.iz];omega)
def SV.deep{f d:Nat}{c:H}{g a b:Nat}{h:T}{e:List dG}(m:SV f d c g a h e)(o:a<=b):SV f d c g b h e:=by
 obtain⟨j,l,i,n⟩:=m;exact⟨j,l,i.imp λ_ _ k=>k.deep dj,n⟩
def WS(a:Nat):wd 0<=wd a:=AY a
def SV.lit{g:List Int}{m:Nat}{a:H}{b j d:Nat}{es:List T}{l:List dG}(e:Mk g m a b j)(i:∀k h,io (FT k h (d+2)) es (l.map dG.t)):SV a.size (a.size+1) (a.cons ⟨11,0,0,true,false,es⟩) b d (.arr a.size 0 0 es.length false) l:=by
 refine⟨es,.inr ⟨a.size,0,0,true,es,rfl,by rw[dM,aq rfl],aL⟩,i _ _,λn f=> ?_⟩;simp at f;subst f;refine⟨au _,cW _,λc=> ?_⟩;rw[iE (show(a.cons ⟨11,0,0,true,false,es⟩).get b=a.get b by rw[dM,ao (by have:=e.lt;omega)])]at c;have:=e.fp _ c;omega
def Ax(a:Int):dG:=⟨a,0,[99],[],[],⟨0,0,[],[]⟩,[],[]⟩
def OR{d:H}{b:Nat->Prop}(a:Int)(c:Nat):FT d b (c+2) (.agg [dw a,dw 0,.str [99],.str [],dx,dw 0,dw 0,.str [],dx,dx,dx]) (Ax a).t:=
 .inr (.inr ⟨_,(Ax a).cs,rfl,.cons (fR ..) (.cons (fR ..) (.cons (jR ..) (.cons (jR ..) (.cons (iQ ..) (.cons (fR ..) (.cons (fR ..) (.cons (jR ..) (.cons (iQ ..) (.cons (iQ ..) (.cons (iQ ..) .nil)))))))))),dG.mP _⟩)
def OQ{c:Int}(e:9<=c/\c<=11):MS (Ax c):= .mk (λ_=>rfl) (λb=>by unfold Ax at b;simp at b;omega) (λd a=>by unfold Ax at a;simp at a) (λb=>by unfold Ax at b;simp at b;omega) (λd a=>by unfold Ax at a;simp at a) (λd a=>by unfold Ax at a;simp at a)
def Tg(a:Int):(Ax a).w=5:=by
 rw[dG.kP,dK.kP];unfold Ax;simp only[dG.qU,dG.IY,dG.ul,dG.xg,dG.iz,dK.iz,dK.EI]
def Du{b c a:Int}(d:b-c=a)(e: -9223372036854775808<=a)(f:a<9223372036854775808):binop .sub (dw b) (dw c)=some (dw a):=by
 subst d;rw[tN,<-ji,jr e f]
def yr{b c a:Int}(d:b+c=a)(e: -9223372036854775808<=a)(f:a<9223372036854775808):binop .add (dw b) (dw c)=some (dw a):=by
 subst d;rw[nD,<-ji,jr e f]
def Y3(k:Nat)(c4:(T2 k).Ok Tryz.prog cx 118)(ea:(rBk k).Ok Tryz.prog cx 213):(rMt (k+1)).Ok Tryz.prog cx 165:=by
 obtain⟨gm,c1⟩:=hlB QH λ_ _ _ _ I=>I;have O:=NM 11;refine jk (tb:=⟨pt [(120,F3),(211,H6),(210,H7),(119,H9)],ht [(63,jp yw tX qN),(209,MQ 11),(118,T2 k),(213,rBk k),(212,wQ)]⟩) ei eg (iL 521481210427296124309566527199867809678935259509485941609668421502669740186866579200068820979 [(5,[(0,5),(2,5),(3,5)]),(7,[(0,5),(0,9),(6,9),(7,9)])] Tryz.func165) (λ_ _=>10) (λi a I fo=>by obtain⟨⟨rfl,_⟩,_⟩:=fo;simp[Tryz.f165]) ?_;rintro⟨o,b,p,r,d,cnt⟩ _ I ⟨⟨rfl,bC,E,e9,fl,e8⟩,fb⟩ gQ eE;simp only at bC E e9 fl e8 fb;simp at eE;obtain⟨u,bk⟩:=eE;have eH:(b=I.size)=False:=by have:=bC.lt;simp;omega
 have F:=Step.cons bC.hr.ok bC.hr.lt (dy 11 0 [.agg [dw 0,dw 0,.str [],.str [],dx,dw 0,dw 0,.str [],dx,dx,dx]]);have D:Lb b _ I.size _:=Lb.new bC.hr.lt bC.hr.fp (dy 11 0 [.agg [dw 0,dw 0,.str [],.str [],dx,dw 0,dw 0,.str [],dx,dx,dx]]);have ef:=bC.hr.cons (dy 11 0 [.agg [dw 0,dw 0,.str [],.str [],dx,dw 0,dw 0,.str [],dx,dx,dx]]);obtain⟨b8,ap,left,set,N,al,aE,bN,G,C,X,hl⟩:=ef.ex;obtain⟨di,cb⟩:=ef.set (th':=ap) (left':=IntKind.i64.wrap (left-1)) (se':=set) (tx':=N) (at2:=al) (lp':=aE) C X hl;replace D:=D.step di;replace F:=F.trans di;simp only[rx]at C di cb D F;have dm:=C;rw[dM,ng,ao (by have:=bC.lt;omega),fX]at dm;simp[Tryz.f165,u,dm,eH,tN,dP];generalize dQ ((hr I).cons _) b _=gn at*
 clear C dm X ef di eH;obtain⟨b8,ap,left,set,N,al,aE,bN,G,C,X,hl⟩:=cb.ex;simp only[rx]at C;simp[C];refine rf dp cb.tp cb.ok dj dj E λW V gw t2 eS=> ?_;obtain⟨c,eo⟩:=cb.tape eS t2;replace D:=D.step eo;replace F:=F.trans eo;clear C X cb t2 eS eo hl;obtain⟨b8,ap,left,set,N,al,aE,bN,G,C,X,hl⟩:=c.ex;have c9:=C;simp only[rx]at C;simp[u,bk,C];rcases(by omega:W=0\/W=1\/W=2\/W=3\/W=4\/W=5\/W=6\/W=7\/W=8\/W=9\/W=10\/W=11\/W=12\/W=13\/W=14\/W=15\/W=16\/W=17)with rfl|rfl|rfl|rfl|rfl|rfl|rfl|rfl|rfl|rfl|rfl|rfl|rfl|rfl|rfl|rfl|rfl|rfl
 iterate 4
  ·simp[u];have K:=c.cons (dy 1 0 [.str [120],.str [121],.str [120],.str [118]]);have M:=Step.cons c.ok c.lt (dy 1 0 [.str [120],.str [121],.str [120],.str [118]]);refine lJ O dp ⟨o,b,p,r,1⟩ ⟨⟨rfl,K,E,dp⟩,dp⟩ ?_;rintro _ hE ⟨e,rfl,A,B,j,f⟩;simp only at B j f;obtain⟨z,g⟩:=K.tape f j;have m:=(D.step M).step g;have fin:=λnm=>lH (i:=⟨o,b,p,r,d,cnt⟩) (args:=[.ptr b 0 0 0,dw d]) (nm:=nm) m z ((F.trans M).trans g) A dj;have eu:ew (V.cons (dy 1 0 [.str [120],.str [121],.str [120],.str [118]])) hE V.size=true:=eZ (f.get _ (by have:=c.tp.lt;omega));simp[rC,m.get,eu,λnm=>(fin nm).1];exact(fin _).2
 ·have fi:(b=V.size)=False:=by have:=c.lt;simp;omega
  simp[u,C,fi];have K:=c.cons (dy 1 0 [.str [97],.str [98]]);have M:=Step.cons c.ok c.lt (dy 1 0 [.str [97],.str [98]]);refine I8 dp K.tp K.ok dj dj E λY bB ca t4 aN=> ?_;obtain⟨ae,bz⟩:=K.tape aN t4;have gO:bB.get V.size=some (dy 1 0 [.str [97],.str [98]]):=(aN.get _ (by have:=c.tp.lt;omega)).trans dp;have gk:ew (V.cons (dy 1 0 [.str [97],.str [98]])) bB V.size=true:=eZ (aN.get _ (by have:=c.tp.lt;omega));obtain⟨nm,e4⟩:∃nm:List Nat,([.str [97],.str [98]]:List T)[Y]? =some (.str nm):=by
   rcases(by omega:Y=0\/Y=1)with rfl|rfl<;>exact⟨_,rfl⟩
  generalize([.str [97],.str [98]]:List T)=e3 at*
  have ca:Y<2:=dj;simp[u,gO,e4,ca,gk];refine lJ O dp ⟨o,b,p,r,1⟩ ⟨⟨rfl,ae,E,dp⟩,dp⟩ ?_;rintro _ hE ⟨e,rfl,A,B,j,f⟩;simp only at B j f;obtain⟨z,g⟩:=ae.tape f j;have m:=((D.step M).step bz).step g;have fin:=lH (i:=⟨o,b,p,r,d,cnt⟩) (args:=[.ptr b 0 0 0,dw d]) (nm:=nm) m z (((F.trans M).trans bz).trans g) A dj;have eu:ew bB hE V.size=true:=eZ (f.get _ (by have:=c.tp.lt;omega));have gP:ew (V.cons ⟨1,0,0,true,false,e3⟩) hE V.size=true:=eZ ((f.get _ (by have:=c.tp.lt;omega)).trans (aN.get _ (by have:=c.tp.lt;omega)));simp[rC,m.get,eu,fin.1];exact fin.2
 ·simp[u];refine gJ O dp ⟨o,b,p,r,0⟩ ⟨⟨rfl,c,E,dp⟩,dp⟩ ?_;rintro _ hE ⟨e,rfl,A,B,j,f⟩;simp only at B j f;obtain⟨z,g⟩:=c.tape f j;have eR:=z.cons (dy 4 0 [e.t]);have eW:=Step.cons z.ok z.lt (dy 4 0 [e.t]);simp[u];refine gJ O dp ⟨o,b,p,r,1⟩ ⟨⟨rfl,eR,E,dp⟩,dp⟩ ?_;rintro _ eC ⟨cL,rfl,e6,fs,e1,de⟩;simp only at fs e1 de;obtain⟨fL,er⟩:=eR.tape de e1;have eO:=((D.step g).step eW).step er;have gy:=g.ok.sz;have gB:=D.lt;have e5:eC.get hE.size=some (dy 4 0 [e.t]):=(de.get _ (by have:=z.tp.lt;omega)).trans dp;have fv:=de.size;simp at fv;have fm:¬Fp eC b hE.size:=λq=>by
   rcases er.fp _ q with q|q
   ·rw[iE (show(hE.cons (dy 4 0 [e.t])).get b=hE.get b by rw[dM,ao (by have:=z.lt;omega)])]at q;have:=z.fp _ q;omega
   ·simp at q;omega
  have fin:=Gy (i:=⟨o,b,p,r,d,cnt⟩) (args:=[.ptr b 0 0 0,dw d]) (cs:=[dw 1,dw 0,.str [113],.str [],.arr hE.size 0 0 1 false,dw cL.op,dw cL.n,.str cL.name,sl (cL.l.map dK.t),dx,dx]) (s:=CE [113] [e] cL) eO fL (((F.trans g).trans eW).trans er) rfl
   (.cons (fR ..) (.cons (fR ..) (.cons (jR ..) (.cons (jR ..) (.cons (.inr (.inl ⟨hE.size,0,0,1,false,[e.t],[e.t],rfl,⟨dj,dj,fm,JS _⟩,by rw[fW,e5];simp,.cons (e.ft _) .nil,rfl⟩)) (.cons (fR ..) (.cons (fR ..) (.cons (jR ..) (.cons (ou _ _ _ λx bu=>by obtain⟨y,_,rfl⟩:=List.mem_map.1 bu;simp) (.cons (iQ ..) (.cons (iQ ..) .nil)))))))))))
   (Ct (by simpa using A) e6 dp) (Ks (by rw[dK.jM,dK.iz];omega) dj)
  simp[eO.get,fin.1];exact fin.2
 ·simp[bk];refine dU (λa6=> ?_) (λa6=> ?_)
  ·simp at a6;obtain⟨d,rfl⟩:∃e,d=e+1:=⟨d-1,dj⟩;have av:binop .sub (dw ((d:Int)+1)) (dw 1)=some (dw d):=by
    rw[tN,<-ji,jr dj dj];simp
   simp[u];refine gJ O dp ⟨o,b,p,r,1⟩ ⟨⟨rfl,c,E,dp⟩,dp⟩ ?_;rintro _ hE ⟨e,rfl,A,B,j,f⟩;simp only at B j f;obtain⟨z,g⟩:=c.tape f j;simp[u,bk,av];refine gJ c4 dp ⟨o,b,p,r,d,1⟩ ⟨⟨rfl,z,E,dt,dt,dp⟩,dt⟩ ?_;rintro v an ⟨l,sv,H,P,Q,L⟩;simp only at sv H P Q L;have Z:=(D.step g).step L;have bn:=(F.trans g).trans L;have S:=sv.gc;obtain⟨t8,bi,bz,bS,b7⟩:=kS Q bn (dy 11 0 [.agg [dw 0,dw 0,.str [],.str [],dx,dw 0,dw 0,.str [],dx,dx,dx]]) (dy 11 1 [.agg [dw 2,dw 0,.str [],.str [],dx,dw e.op,dw e.n,.str e.name,sl (e.l.map dK.t),v,dx]]);have bl:=bS _ _ Z;have b6:=b7 _ _ _ _ _ sv (au _);obtain⟨b8,ap,left,set,N,al,aE,bN,G,C,X,hl⟩:=t8.ex;simp only[rx]at C;simp[u,S.1,S.2,C];generalize dQ (an.cons _) an.size _=dd at*
   refine rf dp t8.tp t8.ok dj dj E λY bB ca t4 aN=> ?_;obtain⟨ae,aX⟩:=t8.tape aN t4;have l4:=bi.step aX;have eb:=bl.step aX;have bH:=bz.trans aX;have gE:=t8.lt;have fA:an.size<dd.size:=bi.lt;have e0:=b6.step aX dj;have gz:=aN.size;have gp:I.size<an.size:=Z.lt;have eD:I.size<hE.size:=(D.step g).lt;simp;refine dU (λfe=> ?_) (λfe=> ?_)
   ·simp[u,bk,av];refine gJ c4 dp ⟨o,b,p,r,d,1⟩ ⟨⟨rfl,ae,E,dt,dt,dp⟩,dt⟩ ?_;rintro gj gv ⟨l2,et,dv,eI,mkV,TP⟩;simp only at et dv eI mkV TP;have eA:=et.gc;obtain⟨fS,fB,bT,fY,e2⟩:=Sv mkV (l4.step TP) (bH.trans TP) dj (dy 11 2 [.agg [dw 2,dw 0,.str [],.str [],dx,dw e.op,dw e.n,.str e.name,sl (e.l.map dK.t),v,gj]]);have eP:=fY _ _ dj (eb.step TP);have gd:=e2 _ _ _ _ _ (e0.step TP dj) (.inr (au _));have gg:=e2 _ _ _ _ _ et (.inl dj);have gI:=TP.ok.sz;have fin:=oX (cnt:=cnt) (args:=[.ptr b 0 0 0,dw (d+1:Nat)]) (op:=2) (nm:=[]) (e:=e) eP fS bT (gd.cell eD dq) (gg.cell dj dp) (ou _ _ _ λx bu=>by obtain⟨y,_,rfl⟩:=List.mem_map.1 bu;simp) dj (λ_=>A) dj (λs G=>(H s G).1) (λs G=>(dv s G).1) (by
     have b9:=wg H;have gS:=wg dv;have:=aW (wd d) P;have:=aW (wd d) eI;omega)
    simp[(l4.step TP).get,fB.get,dP,eA.1,eA.2,eP.get,fin.1];exact fin.2
   ·have fin:=oX (cnt:=cnt) (args:=[.ptr b 0 0 0,dw (d+1:Nat)]) (op:=2) (nm:=[]) (e:=e) (le:=[]) eb ae bH (e0.cell eD dj) (iQ _ _ _ false) (ou _ _ _ λx bu=>by obtain⟨y,_,rfl⟩:=List.mem_map.1 bu;simp) dj (λ_=>A) dj (λs G=>(H s G).1) dp (by
     have b9:=wg H;have:=aW (wd d) P;rw[dG.iz];omega)
    simp[l4.get,eb.get,dP,fin.1];exact fin.2
  ·simp[u];refine gJ O dp ⟨o,b,p,r,1⟩ ⟨⟨rfl,c,E,dp⟩,dp⟩ ?_;rintro _ hE ⟨e,rfl,A,B,j,f⟩;simp only at B j f;obtain⟨z,g⟩:=c.tape f j;have m:=D.step g;have fin:=lH (i:=⟨o,b,p,r,d,cnt⟩) (args:=[.ptr b 0 0 0,dw d]) (nm:=[120]) m z (F.trans g) A dj;simp[rC,m.get,fin.1];exact fin.2
 ·simp[bk];refine dU (λa6=> ?_) (λa6=> ?_)
  ·simp at a6;obtain⟨d,rfl⟩:∃e,d=e+1:=⟨d-1,dj⟩;have av:binop .sub (dw ((d:Int)+1)) (dw 1)=some (dw d):=by
    rw[tN,<-ji,jr dj dj];simp
   obtain⟨M,K⟩:=c.set (th':=ap) (left':=left) (se':=set) (tx':=N) (at2:=al) (lp':=true) c9 X hl;simp only[rx]at M K;simp[u,C,dP];generalize dQ V b _=dn at*
   have aA:=D.step M;have bn:=F.trans M;simp[u,bk,Rz,RA,Vp,av];refine gJ c4 dp ⟨o,b,p,r,d,1⟩ ⟨⟨rfl,K,E,dt,dt,dp⟩,dt⟩ ?_;rintro v an ⟨l,sv,H,P,Q,L⟩;simp only at sv H P Q L;have Z:=aA.step L;have bz:=bn.trans L;have eh:=Step.cons Q.ok Q.lt (dy 11 0 [(CE [98] [] ⟨6,0,[],[⟨2,0,[98],[]⟩,⟨1,1,[],[]⟩]⟩).t]);have fA:=L.ok.sz;obtain⟨gi,eB,ey,eX,fC,eU,_⟩:=(sv.step eh (au _)).app (Q.cons (dy 11 0 [(CE [98] [] ⟨6,0,[],[⟨2,0,[98],[]⟩,⟨1,1,[],[]⟩]⟩).t])) (x:= .arr an.size 0 0 1 false) (xs:=[(CE [98] [] ⟨6,0,[],[⟨2,0,[98],[]⟩,⟨1,1,[],[]⟩]⟩).t]) (l2:=[CE [98] [] ⟨6,0,[],[⟨2,0,[98],[]⟩,⟨1,1,[],[]⟩]⟩]) dq dp (by rw[fW];simp) (.cons (dG.ft _ _) .nil) dp dp dq;have bH:=eU _ (bz.trans eh) (by simpa using bn.ok.sz);have l3:=aA.step (eU _ (L.trans eh) (au _));have S:=eX.gc;obtain⟨t8,bi,bT,bS,b7⟩:=kS fC bH (dy 11 0 [.agg [dw 0,dw 0,.str [],.str [],dx,dw 0,dw 0,.str [],dx,dx,dx]]) (dy 11 1 [.agg [dw 3,dw 0,.str [],.str [],dx,dw 13,dw 0,.str [],sl [(dK.mk 2 0 [98] []).t,(dK.mk 1 2 [] []).t],gi,dx]]);have bl:=bS _ _ l3;have b6:=b7 _ _ _ _ _ eX (au _);simp only[CE]at ey;simp[u,Rz,RA,Vp,rC,ey,S.1,S.2];generalize dQ (eB.cons _) eB.size _=dd at*
   obtain⟨b8,ap,left,set,N,al,gM,bN,G,C,X,hl⟩:=t8.ex;obtain⟨U,c6⟩:=t8.set (th':=ap) (left':=left) (se':=set) (tx':=N) (at2:=al) (lp':=aE) C X hl;have e7:=aA.lt;have eL:=bi.lt;have eM:=U.ok.sz;have fin:=oX (cnt:=cnt) (args:=[.ptr b 0 0 0,dw (d+1:Nat)]) (op:=3) (nm:=[]) (e:=⟨13,0,[],[⟨2,0,[98],[]⟩,⟨1,2,[],[]⟩]⟩) (le:=[]) (bl.step U) c6 (bT.trans U) ((b6.step U dj).cell e7 dj) (iQ _ _ _ false) (ou _ _ _ λx bu=>by obtain⟨y,_,rfl⟩:=List.mem_map.1 bu;simp) dj (λ_=> .bin dj (.nm _) (.num _)) (by simp[dK.kP,dK.jM,dK.iz]) (λs G=>(List.mem_append.1 G).elim (λq=>(H s q).1) λq=>by rw[List.mem_singleton.1 q];exact Ct dp (.bin dj (.nm _) (.num _)) (λI=>absurd rfl I)) dp (by
    have b9:=wg H;have:=aW (wd d) P;have:=Ks (nm:=[98]) (ix:=[]) (e:=⟨6,0,[],[⟨2,0,[98],[]⟩,⟨1,1,[],[]⟩]⟩) (d:=d) (by rw[dK.iz];omega) (by simp[dK.kP,dK.jM,dK.iz]);rw[dG.HK,dG.jM,dG.iz];omega)
   have gT:=(bi.step U).get;have gR:=(bl.step U).get;simp only[rx]at C gT gR fin;simp[C,gT,gR,dP];simp at fin;simp[fin.1];exact fin.2
  ·simp[u];refine gJ O dp ⟨o,b,p,r,1⟩ ⟨⟨rfl,c,E,dp⟩,dp⟩ ?_;rintro _ hE ⟨e,rfl,A,B,j,f⟩;simp only at B j f;obtain⟨z,g⟩:=c.tape f j;have m:=D.step g;have fin:=lH (i:=⟨o,b,p,r,d,cnt⟩) (args:=[.ptr b 0 0 0,dw d]) (nm:=[120]) m z (F.trans g) A dj;simp[rC,m.get,fin.1];exact fin.2
 iterate 2
  ·by_cases J:(decide (0<d)&&decide (0<left)&& !N)=true
   ·simp at J;obtain⟨⟨a6,a7⟩,a8⟩:=J;subst a8;obtain⟨d,rfl⟩:∃e,d=e+1:=⟨d-1,dj⟩;have av:binop .sub (dw ((d:Int)+1)) (dw 1)=some (dw d):=by
     rw[tN,<-ji,jr dj dj];simp
    have K:=c.cons (dy 1 0 [.str [109],.str [110]]);have bs:=λ{tb:fq} (ht:tb.h 212=some wQ) s=>c1 ht [.ptr b 0 0 0,.str s] (V.cons (dy 1 0 [.str [109],.str [110]])) ⟨o,r,b,p,s,rfl,K,dj⟩;have M:=Step.cons c.ok c.lt (dy 1 0 [.str [109],.str [110]]);have aA:=D.step M;have ce:binop .sub (dw 8) (dw 8)=some (dw 0):=Du dj dj dj;have cp:binop .sub (dw 9) (dw 8)=some (dw 1):=Du dj dj dj;simp[u,a7,bs,ce,cp];refine dU (λR=> ?_) (λR=> ?_)
    ·simp[u,bk,ce,cp];have fE:=K.cons (dy 1 0 [.str [109],.str [110]]);have eV:=Step.cons K.ok K.lt (dy 1 0 [.str [109],.str [110]]);have eN:=aA.step eV;simp[av];refine gJ ea dp ⟨o,b,p,r,d,_⟩ ⟨⟨rfl,fE,E,dt,dt⟩,dt⟩ ?_;rintro v an ⟨l,sv,H,P,Q,L⟩;simp only at sv H P Q L;have S:=sv.gc;have Z:=eN.step L;have fin:=λnm=>oX (cnt:=cnt) (args:=[.ptr b 0 0 0,dw (d+1:Nat)]) (op:=4) (nm:=nm) (e:=⟨0,0,[],[]⟩) (le:=[]) Z Q (((F.trans M).trans eV).trans L) (sv.cell eN.lt (au _)) (iQ _ _ _ false) (iQ _ _ _ false) dj (λI=>by omega) (by simp[dK.kP,dK.iz]) (λs G=>(H s G).1) dp (by
      have b9:=wg H;have:=aW (wd d) P;rw[dG.iz];omega)
     simp only[dK.uR,dK.EF,dK.nY]at fin;simp[S.1,S.2,Z.get,λnm=>(fin nm).1];exact(fin _).2
    ·simp[u];refine gJ O dp ⟨o,b,p,r,1⟩ ⟨⟨rfl,K,E,dp⟩,dp⟩ ?_;rintro _ hE ⟨e,rfl,A,B,j,f⟩;simp only at B j f;obtain⟨z,g⟩:=K.tape f j;have m:=aA.step g;have fin:=lH (i:=⟨o,b,p,r,d+1,cnt⟩) (args:=[.ptr b 0 0 0,dw d]) (nm:=[120]) m z ((F.trans M).trans g) A dj;simp[rC,m.get,fin.1];exact fin.2
   ·have J:(decide (0<d)&&decide (0<left)&& !N)=false:=by simpa using J
    simp[u,J];refine gJ O dp ⟨o,b,p,r,1⟩ ⟨⟨rfl,c,E,dp⟩,dp⟩ ?_;rintro _ hE ⟨e,rfl,A,B,j,f⟩;simp only at B j f;obtain⟨z,g⟩:=c.tape f j;have m:=D.step g;have fin:=lH (i:=⟨o,b,p,r,d,cnt⟩) (args:=[.ptr b 0 0 0,dw d]) (nm:=[120]) m z (F.trans g) A dj;simp[rC,m.get,fin.1];exact fin.2
 ·by_cases J:(decide (0<d)&&decide (0<left)&& !N)=true
  ·simp at J;obtain⟨⟨a6,a7⟩,a8⟩:=J;subst a8;obtain⟨d,rfl⟩:∃e,d=e+1:=⟨d-1,dj⟩;have av:binop .sub (dw ((d:Int)+1)) (dw 1)=some (dw d):=by
    rw[tN,<-ji,jr dj dj];simp
   have bs:=λ{tb:fq} (ht:tb.h 212=some wQ) s=>c1 ht [.ptr b 0 0 0,.str s] V ⟨o,r,b,p,s,rfl,c,dj⟩;have ce:binop .sub (dw 10) (dw 10)=some (dw 0):=Du dj dj dj;have cp:binop .add (dw 0) (dw 5)=some (dw 5):=yr dj dj dj;simp[u,a7,bs];refine dU (λR=> ?_) (λR=> ?_)
   ·simp[u,bk,ce,cp,av];refine gJ ea dp ⟨o,b,p,r,d,_⟩ ⟨⟨rfl,c,E,dt,dt⟩,dt⟩ ?_;rintro v an ⟨l,sv,H,P,Q,L⟩;simp only at sv H P Q L;have S:=sv.gc;have Z:=D.step L;have fin:=λnm=>oX (cnt:=cnt) (args:=[.ptr b 0 0 0,dw (d+1:Nat)]) (op:=5) (nm:=nm) (e:=⟨0,0,[],[]⟩) (le:=[]) Z Q (F.trans L) (sv.cell D.lt (au _)) (iQ _ _ _ false) (iQ _ _ _ false) dj (λI=>by omega) (by simp[dK.kP,dK.iz]) (λs G=>(H s G).1) dp (by
     have b9:=wg H;have:=aW (wd d) P;rw[dG.iz];omega)
    simp only[dK.uR,dK.EF,dK.nY]at fin;simp[S.1,S.2,Z.get,λnm=>(fin nm).1];exact(fin _).2
   ·simp[u];refine gJ O dp ⟨o,b,p,r,1⟩ ⟨⟨rfl,c,E,dp⟩,dp⟩ ?_;rintro _ hE ⟨e,rfl,A,B,j,f⟩;simp only at B j f;obtain⟨z,g⟩:=c.tape f j;have m:=D.step g;have fin:=lH (i:=⟨o,b,p,r,d+1,cnt⟩) (args:=[.ptr b 0 0 0,dw d]) (nm:=[120]) m z (F.trans g) A dj;simp[rC,m.get,fin.1];exact fin.2
  ·have J:(decide (0<d)&&decide (0<left)&& !N)=false:=by simpa using J
   simp[u,J];refine gJ O dp ⟨o,b,p,r,1⟩ ⟨⟨rfl,c,E,dp⟩,dp⟩ ?_;rintro _ hE ⟨e,rfl,A,B,j,f⟩;simp only at B j f;obtain⟨z,g⟩:=c.tape f j;have m:=D.step g;have fin:=lH (i:=⟨o,b,p,r,d,cnt⟩) (args:=[.ptr b 0 0 0,dw d]) (nm:=[120]) m z (F.trans g) A dj;simp[rC,m.get,fin.1];exact fin.2
 ·by_cases J:(decide (0<d)&&decide (0<left)&& !N)=true
  ·simp at J;obtain⟨⟨a6,a7⟩,a8⟩:=J;subst a8;obtain⟨d,rfl⟩:∃e,d=e+1:=⟨d-1,dj⟩;have av:binop .sub (dw ((d:Int)+1)) (dw 1)=some (dw d):=by
    rw[tN,<-ji,jr dj dj];simp
   have bs:=λ{tb:fq} (ht:tb.h 212=some wQ) s=>c1 ht [.ptr b 0 0 0,.str s] V ⟨o,r,b,p,s,rfl,c,dj⟩;have ce:binop .sub (dw 11) (dw 10)=some (dw 1):=Du dj dj dj;have cp:binop .add (dw 1) (dw 5)=some (dw 6):=yr dj dj dj;simp[u,a7,bs];refine dU (λR=> ?_) (λR=> ?_)
   ·simp[u,bk,ce,cp,av];refine gJ ea dp ⟨o,b,p,r,d,_⟩ ⟨⟨rfl,c,E,dt,dt⟩,dt⟩ ?_;rintro v an ⟨l,sv,H,P,Q,L⟩;simp only at sv H P Q L;have S:=sv.gc;have Z:=D.step L;have fin:=λnm=>oX (cnt:=cnt) (args:=[.ptr b 0 0 0,dw (d+1:Nat)]) (op:=6) (nm:=nm) (e:=⟨0,0,[],[]⟩) (le:=[]) Z Q (F.trans L) (sv.cell D.lt (au _)) (iQ _ _ _ false) (iQ _ _ _ false) dj (λI=>by omega) (by simp[dK.kP,dK.iz]) (λs G=>(H s G).1) dp (by
     have b9:=wg H;have:=aW (wd d) P;rw[dG.iz];omega)
    simp only[dK.uR,dK.EF,dK.nY]at fin;simp[S.1,S.2,Z.get,λnm=>(fin nm).1];exact(fin _).2
   ·simp[u];refine gJ O dp ⟨o,b,p,r,1⟩ ⟨⟨rfl,c,E,dp⟩,dp⟩ ?_;rintro _ hE ⟨e,rfl,A,B,j,f⟩;simp only at B j f;obtain⟨z,g⟩:=c.tape f j;have m:=D.step g;have fin:=lH (i:=⟨o,b,p,r,d+1,cnt⟩) (args:=[.ptr b 0 0 0,dw d]) (nm:=[120]) m z (F.trans g) A dj;simp[rC,m.get,fin.1];exact fin.2
  ·have J:(decide (0<d)&&decide (0<left)&& !N)=false:=by simpa using J
   simp[u,J];refine gJ O dp ⟨o,b,p,r,1⟩ ⟨⟨rfl,c,E,dp⟩,dp⟩ ?_;rintro _ hE ⟨e,rfl,A,B,j,f⟩;simp only at B j f;obtain⟨z,g⟩:=c.tape f j;have m:=D.step g;have fin:=lH (i:=⟨o,b,p,r,d,cnt⟩) (args:=[.ptr b 0 0 0,dw d]) (nm:=[120]) m z (F.trans g) A dj;simp[rC,m.get,fin.1];exact fin.2
 ·simp;refine dU (λR=> ?_) (λR=> ?_)
  ·simp at R;obtain⟨⟨a6,a7⟩,a8⟩:=R;obtain⟨d,rfl⟩:∃e,d=e+1:=⟨d-1,dj⟩;have av:binop .sub (dw ((d:Int)+1)) (dw 1)=some (dw d):=by
    rw[tN,<-ji,jr dj dj];simp
   obtain⟨M,K⟩:=c.set (th':=ap) (left':=left) (se':=set) (tx':=true) (at2:=al) (lp':=aE) c9 X hl;simp only[rx]at M K;simp[u,C,dP];generalize dQ V b _=dn at*
   have aA:=D.step M;have bn:=F.trans M;obtain⟨b8,ap,left,set,N,al,aE,bN,G,C,X,hl⟩:=K.ex;simp only[rx]at C;simp[C];refine rf dp K.tp K.ok dj dj E λY bB ca t4 aN=> ?_;obtain⟨ae,aX⟩:=K.tape aN t4;have l4:=aA.step aX;have dk:binop .add (dw 1) (dw Y)=some (dw ((1+Y:Nat):Int)):=yr dp dj dj;simp[dk];refine gJ c4 dp ⟨o,b,p,r,0,1+Y⟩ ⟨⟨dp,ae,E,dp,dt,dt⟩,dt⟩ ?_;rintro v an ⟨l,sv,H,P,Q,L⟩;simp only at sv H P Q L;replace P:l.length<=2:=dj;replace sv:=sv.deep (show 2*0+2<=2*d+2 by omega);replace H:∀s∈l,MS s/\s.w<=wd d:=λs G=>⟨(H s G).1,aS (H s G).2 (WS d)⟩;have Z:=l4.step L;have bH:=(bn.trans aX).trans L;have S:=sv.gc;obtain⟨t8,bi,bT,bS,b7⟩:=kS Q bH (dy 11 0 [.agg [dw 0,dw 0,.str [],.str [],dx,dw 0,dw 0,.str [],dx,dx,dx]]) (dy 11 1 [.agg [dw 7,dw 0,.str [],.str [],dx,dw 0,dw 0,.str [],dx,v,dx]]);have bl:=bS _ _ Z;have b6:=b7 _ _ _ _ _ sv (au _);simp[u,S.1,S.2];generalize dQ (an.cons _) an.size _=dd at*
   obtain⟨b8,ap,left,set,N,al,aE,bN,G,C,X,hl⟩:=t8.ex;obtain⟨U,c6⟩:=t8.set (th':=ap) (left':=left) (se':=set) (tx':=false) (at2:=al) (lp':=aE) C X hl;have eL:=bi.lt;have eM:=U.ok.sz;have fin:=oX (cnt:=cnt) (args:=[.ptr b 0 0 0,dw (d+1:Nat)]) (op:=7) (nm:=[]) (e:=⟨0,0,[],[]⟩) (le:=[]) (bl.step U) c6 (bT.trans U) ((b6.step U dj).cell l4.lt dj) (iQ _ _ _ false) (iQ _ _ _ false) dj (λI=>by omega) (by simp[dK.kP,dK.iz]) (λs G=>(H s G).1) dp (by
    have b9:=wg H;have:=aW (wd d) P;rw[dG.iz];omega)
   have gT:=(bi.step U).get;have gR:=(bl.step U).get;simp only[rx,dK.uR,dK.EF,dK.nY]at C gT gR fin;simp[C,gT,gR,dP,fin.1];exact fin.2
  ·simp[u];refine gJ O dp ⟨o,b,p,r,1⟩ ⟨⟨rfl,c,E,dp⟩,dp⟩ ?_;rintro _ hE ⟨e,rfl,A,B,j,f⟩;simp only at B j f;obtain⟨z,g⟩:=c.tape f j;have m:=D.step g;have fin:=lH (i:=⟨o,b,p,r,d,cnt⟩) (args:=[.ptr b 0 0 0,dw d]) (nm:=[120]) m z (F.trans g) A dj;simp[rC,m.get,fin.1];exact fin.2
 ·simp[u,C];refine dU (λR=> ?_) (λR=> ?_)
  ·simp at R;obtain⟨⟨⟨a6,a7⟩,a8⟩,eF⟩:=R;obtain⟨d,rfl⟩:∃e,d=e+1:=⟨d-1,dj⟩;have av:binop .sub (dw ((d:Int)+1)) (dw 1)=some (dw d):=by
    rw[tN,<-ji,jr dj dj];simp
   obtain⟨M,K⟩:=c.set (th':=ap) (left':=left) (se':=set) (tx':=N) (at2:=true) (lp':=aE) c9 X hl;simp only[rx]at M K;simp[u,bk,C,dP,av];generalize dQ V b _=dn at*
   have aA:=D.step M;have bn:=F.trans M;refine gJ c4 dp ⟨o,b,p,r,d,2⟩ ⟨⟨rfl,K,E,dt,dt,dp⟩,dt⟩ ?_;rintro v an ⟨l,sv,H,P,Q,L⟩;simp only at sv H P Q L;have Z:=aA.step L;have bH:=bn.trans L;have S:=sv.gc;obtain⟨t8,bi,bT,bS,b7⟩:=kS Q bH (dy 11 0 [.agg [dw 0,dw 0,.str [],.str [],dx,dw 0,dw 0,.str [],dx,dx,dx]]) (dy 11 1 [.agg [dw 8,dw 0,.str [],.str [],dx,dw 0,dw 0,.str [],dx,v,dx]]);have bl:=bS _ _ Z;have b6:=b7 _ _ _ _ _ sv (au _);simp[u,S.1,S.2];generalize dQ (an.cons _) an.size _=dd at*
   obtain⟨b8,ap,left,set,N,al,aE,bN,G,C,X,hl⟩:=t8.ex;obtain⟨U,c6⟩:=t8.set (th':=ap) (left':=left) (se':=set) (tx':=N) (at2:=false) (lp':=aE) C X hl;have eL:=bi.lt;have eM:=U.ok.sz;have fin:=oX (cnt:=cnt) (args:=[.ptr b 0 0 0,dw (d+1:Nat)]) (op:=8) (nm:=[]) (e:=⟨0,0,[],[]⟩) (le:=[]) (bl.step U) c6 (bT.trans U) ((b6.step U dj).cell aA.lt dj) (iQ _ _ _ false) (iQ _ _ _ false) dj (λI=>by omega) (by simp[dK.kP,dK.iz]) (λs G=>(H s G).1) dp (by
    have b9:=wg H;have:=aW (wd d) P;rw[dG.iz];omega)
   have gT:=(bi.step U).get;have gR:=(bl.step U).get;simp only[rx,dK.uR,dK.EF,dK.nY]at C gT gR fin;simp[C,gT,gR,dP,fin.1];exact fin.2
  ·simp[u];refine gJ O dp ⟨o,b,p,r,1⟩ ⟨⟨rfl,c,E,dp⟩,dp⟩ ?_;rintro _ hE ⟨e,rfl,A,B,j,f⟩;simp only at B j f;obtain⟨z,g⟩:=c.tape f j;have m:=D.step g;have fin:=lH (i:=⟨o,b,p,r,d,cnt⟩) (args:=[.ptr b 0 0 0,dw d]) (nm:=[120]) m z (F.trans g) A dj;simp[rC,m.get,fin.1];exact fin.2
 ·by_cases J:(decide (0<d)&&decide (0<left)&& !N&& !al)=true
  ·simp at J;obtain⟨⟨⟨a6,a7⟩,a8⟩,eF⟩:=J;subst a8;subst eF;obtain⟨d,rfl⟩:∃e,d=e+1:=⟨d-1,dj⟩;have bs:=λ{tb:fq} (ht:tb.h 212=some wQ) s=>c1 ht [.ptr b 0 0 0,.str s] V ⟨o,r,b,p,s,rfl,c,dj⟩;simp[u,C,a7,bs];refine dU (λR=> ?_) (λR=> ?_)
   ·simp[RA,rC];have ds:(I.size=V.size)=False:=by have:=D.lt;simp;omega
    have sv:=SV.lit (d:=2*d+2) (l:=[Ax 9,CE [97] [] ⟨2,0,[120],[]⟩]) (es:=[.agg [dw 9,dw 0,.str [99],.str [],dx,dw 0,dw 0,.str [],dx,dx,dx],(CE [97] [] ⟨2,0,[120],[]⟩).t]) c (λ_ _=> .cons (OR _ _) (.cons (dG.ft _ _) .nil));have c7:=Step.cons c.ok c.lt (dy 11 0 [.agg [dw 9,dw 0,.str [99],.str [],dx,dw 0,dw 0,.str [],dx,dx,dx],(CE [97] [] ⟨2,0,[120],[]⟩).t]);have ec:=D.step c7;have fin:=oX (cnt:=cnt) (args:=[.ptr b 0 0 0,dw (d+1:Nat)]) (op:=4) (nm:=[109]) (e:=⟨0,0,[],[]⟩) (le:=[]) ec (c.cons _) (F.trans c7) (sv.cell D.lt dp) (iQ _ _ _ false) (iQ _ _ _ false) dj (λI=>by omega) (by simp[dK.kP,dK.iz]) (λs G=>by
     rcases List.mem_cons.1 G with rfl|G
     ·exact OQ dj
     ·rw[List.mem_singleton.1 G];exact Ct dp (.nm _) (λI=>absurd rfl I)) dp (by
     have:=AY d;simp[dG.jM,dG.iz,Tg,CE,dG.kP (dG.mk 1 0 [97] [] [] (dK.mk 2 0 [120] []) [] []),dK.kP,dK.iz];omega)
    simp only[dK.uR,dK.EF,dK.nY,CE]at fin;simp at fin;simp[ds,D.get,fin.1];exact fin.2
   ·simp[u];refine gJ O dp ⟨o,b,p,r,1⟩ ⟨⟨rfl,c,E,dp⟩,dp⟩ ?_;rintro _ hE ⟨e,rfl,A,B,j,f⟩;simp only at B j f;obtain⟨z,g⟩:=c.tape f j;have m:=D.step g;have fin:=lH (i:=⟨o,b,p,r,d+1,cnt⟩) (args:=[.ptr b 0 0 0,dw d]) (nm:=[120]) m z (F.trans g) A dj;simp[rC,m.get,fin.1];exact fin.2
  ·have J:(decide (0<d)&&decide (0<left)&& !N&& !al)=false:=by simpa using J
   simp[u,C,J];refine gJ O dp ⟨o,b,p,r,1⟩ ⟨⟨rfl,c,E,dp⟩,dp⟩ ?_;rintro _ hE ⟨e,rfl,A,B,j,f⟩;simp only at B j f;obtain⟨z,g⟩:=c.tape f j;have m:=D.step g;have fin:=lH (i:=⟨o,b,p,r,d,cnt⟩) (args:=[.ptr b 0 0 0,dw d]) (nm:=[120]) m z (F.trans g) A dj;simp[rC,m.get,fin.1];exact fin.2
 ·by_cases J:(decide (0<d)&&decide (0<left)&& !N)=true
  ·simp at J;obtain⟨⟨a6,a7⟩,a8⟩:=J;subst a8
   skip
   obtain⟨d,rfl⟩:∃e,d=e+1:=⟨d-1,dj⟩;have bs:=λ{tb:fq} (ht:tb.h 212=some wQ) s=>c1 ht [.ptr b 0 0 0,.str s] V ⟨o,r,b,p,s,rfl,c,dj⟩;simp[u,a7,bs];refine dU (λR=> ?_) (λR=> ?_)
   ·simp[u,C];refine rf dp c.tp c.ok dj dj E λY bB ca t4 aN=> ?_;obtain⟨ae,aX⟩:=c.tape aN t4;have l4:=D.step aX;have dk:binop .add (dw 10) (dw Y)=some (dw (10+Y)):=yr dp dj dj;simp[dk];have ds:(I.size=bB.size)=False:=by have:=l4.lt;simp;omega
    have sv:=SV.lit (d:=2*d+2) (l:=[Ax (10+Y)]) (es:=[.agg [dw (10+Y),dw 0,.str [99],.str [],dx,dw 0,dw 0,.str [],dx,dx,dx]]) ae (λ_ _=> .cons (OR _ _) .nil);have c7:=Step.cons ae.ok ae.lt (dy 11 0 [.agg [dw (10+Y),dw 0,.str [99],.str [],dx,dw 0,dw 0,.str [],dx,dx,dx]]);have ec:=l4.step c7;have fin:=oX (cnt:=cnt) (args:=[.ptr b 0 0 0,dw (d+1:Nat)]) (op:=4) (nm:=[109]) (e:=⟨0,0,[],[]⟩) (le:=[]) ec (ae.cons _) ((F.trans aX).trans c7) (sv.cell l4.lt dp) (iQ _ _ _ false) (iQ _ _ _ false) dj (λI=>by omega) (by simp[dK.kP,dK.iz]) (λs G=>by rw[List.mem_singleton.1 G];exact OQ dj) dp (by
     have:=AY d;simp[dG.jM,dG.iz,Tg];omega)
    simp only[dK.uR,dK.EF,dK.nY]at fin;simp at fin;simp[ds,l4.get,fin.1];exact fin.2
   ·simp[u];refine gJ O dp ⟨o,b,p,r,1⟩ ⟨⟨rfl,c,E,dp⟩,dp⟩ ?_;rintro _ hE ⟨e,rfl,A,B,j,f⟩;simp only at B j f;obtain⟨z,g⟩:=c.tape f j;have m:=D.step g;have fin:=lH (i:=⟨o,b,p,r,d+1,cnt⟩) (args:=[.ptr b 0 0 0,dw d]) (nm:=[120]) m z (F.trans g) A dj;simp[rC,m.get,fin.1];exact fin.2
  ·have J:(decide (0<d)&&decide (0<left)&& !N)=false:=by simpa using J
   simp[u,J];refine gJ O dp ⟨o,b,p,r,1⟩ ⟨⟨rfl,c,E,dp⟩,dp⟩ ?_;rintro _ hE ⟨e,rfl,A,B,j,f⟩;simp only at B j f;obtain⟨z,g⟩:=c.tape f j;have m:=D.step g;have fin:=lH (i:=⟨o,b,p,r,d,cnt⟩) (args:=[.ptr b 0 0 0,dw d]) (nm:=[120]) m z (F.trans g) A dj;simp[rC,m.get,fin.1];exact fin.2
 ·simp[u,C];refine dU (λR=> ?_) (λR=> ?_)
  ·obtain⟨M,K⟩:=c.set (th':=ap) (left':=left) (se':=true) (tx':=N) (at2:=al) (lp':=aE) c9 X hl;simp only[rx]at M K;simp[u,C,dP];generalize dQ V b _=dn at*
   have aA:=D.step M;have bn:=F.trans M;refine gJ O dp ⟨o,b,p,r,1⟩ ⟨⟨rfl,K,E,dp⟩,dp⟩ ?_;rintro _ hE ⟨e,rfl,A,B,j,f⟩;simp only at B j f;obtain⟨z,g⟩:=K.tape f j;have m:=aA.step g;have fin:=Gy (i:=⟨o,b,p,r,d,cnt⟩) (args:=[.ptr b 0 0 0,dw d]) (cs:=[dw 14,dw 0,.str [102],.str [],dx,dw e.op,dw e.n,.str e.name,sl (e.l.map dK.t),dx,dx]) (s:=⟨14,0,[102],[],[],e,[],[]⟩) m z (bn.trans g) rfl
    (.cons (fR ..) (.cons (fR ..) (.cons (jR ..) (.cons (jR ..) (.cons (iQ ..) (.cons (fR ..) (.cons (fR ..) (.cons (jR ..) (.cons (ou _ _ _ λx bu=>by obtain⟨y,_,rfl⟩:=List.mem_map.1 bu;simp) (.cons (iQ ..) (.cons (iQ ..) .nil)))))))))))
    (.mk (λI=>by simp at I) (λI=>by simp at I) dp (λ_=>A) dp dp) (by
      have:=AY d;rw[dG.kP];simp only[dG.qU,dG.IY,dG.ul,dG.xg,dG.iz,dK.iz];omega)
   simp[m.get,fin.1];exact fin.2
  ·simp[u];refine gJ O dp ⟨o,b,p,r,1⟩ ⟨⟨rfl,c,E,dp⟩,dp⟩ ?_;rintro _ hE ⟨e,rfl,A,B,j,f⟩;simp only at B j f;obtain⟨z,g⟩:=c.tape f j;have m:=D.step g;have fin:=lH (i:=⟨o,b,p,r,d,cnt⟩) (args:=[.ptr b 0 0 0,dw d]) (nm:=[120]) m z (F.trans g) A dj;simp[rC,m.get,fin.1];exact fin.2
 ·cases N with
  |true=>
   simp[u,C];refine gJ O dp ⟨o,b,p,r,1⟩ ⟨⟨rfl,c,E,dp⟩,dp⟩ ?_;rintro _ hE ⟨e,rfl,A,B,j,f⟩;simp only at B j f;obtain⟨z,g⟩:=c.tape f j;have m:=D.step g;have fin:=lH (i:=⟨o,b,p,r,d,cnt⟩) (args:=[.ptr b 0 0 0,dw d]) (nm:=[120]) m z (F.trans g) A dj;simp[rC,m.get,fin.1];exact fin.2
  |false=>
   simp[u,C];refine rf dp c.tp c.ok dj dj E λY bB ca t4 aN=> ?_;obtain⟨ae,aX⟩:=c.tape aN t4;have l4:=D.step aX;have bz:=F.trans aX;simp;refine dU (λR=> ?_) (λR=> ?_)
   ·have fin:=Gy (i:=⟨o,b,p,r,d,cnt⟩) (args:=[.ptr b 0 0 0,dw d]) (cs:=[dw 15,dw 0,.str [97],.str [102],dx,dw 0,dw 0,.str [],dx,dx,dx]) (s:=⟨15,0,[97],[102],[],⟨0,0,[],[]⟩,[],[]⟩) l4 ae bz rfl
     (.cons (fR ..) (.cons (fR ..) (.cons (jR ..) (.cons (jR ..) (.cons (iQ ..) (.cons (fR ..) (.cons (fR ..) (.cons (jR ..) (.cons (iQ ..) (.cons (iQ ..) (.cons (iQ ..) .nil)))))))))))
     (.mk (λI=>by simp at I) (λI=>by simp at I) dp (λI=>by simp at I) dp dp) (by
       have:=AY d;rw[dG.kP,dK.kP];simp only[dG.qU,dG.IY,dG.ul,dG.xg,dG.iz,dK.iz,dK.EI];omega)
    simp[l4.get,fin.1];exact fin.2
   ·simp[u];refine gJ O dp ⟨o,b,p,r,1⟩ ⟨⟨rfl,ae,E,dp⟩,dp⟩ ?_;rintro _ hE ⟨e,rfl,A,B,j,f⟩;simp only at B j f;obtain⟨z,g⟩:=ae.tape f j;have m:=l4.step g;have fin:=lH (i:=⟨o,b,p,r,d,cnt⟩) (args:=[.ptr b 0 0 0,dw d]) (nm:=[120]) m z (bz.trans g) A dj;simp[rC,m.get,fin.1];exact fin.2
def ab6(a:Nat):(T2 a).Ok Tryz.prog cx 118:=
 yx (λc:TA=>c.d) (λa b=>Y4 (a+1) (Y3 a b (Z2 a b))) a
end
end Go.Proofs.YtmaeadedikngoaaGreatDoor
namespace Go.TI
noncomputable section
@[simp] theorem Yg (a:H) (b:iJ):(a.cons b).size=a.size+1:=id rfl
def io.GE{b h:Type}{c:b->h->Prop}{e:List b}{f:List h}(j:io c e f){g:b}(d:g∈e):∃a∈f,c g a:=by
 induction j with
 |nil=>simp at d
 |cons i _ l=>
  rcases List.mem_cons.1 d with rfl|q
  ·exact⟨_,dp,i⟩
  ·obtain⟨a,k,m⟩:=l q;exact⟨a,by simp[k],m⟩
section
variable {cx:Ctx}{cf:iG}{mask n:Nat}{dl:DL}
def Z8{f:Out}{e:Env->H->Prop}{c:iw}(i:W f (w9 e c))(j:∀a b,e a b->c.n a b):W f c:=by
 obtain⟨g,a,b,h,d⟩:=i;refine⟨g,a,b,h,?_⟩;cases g with
 |normal=>exact j a b d
 |exit k=>exact d
 |ret=>exact d
def PC{g:Out}{d:iw}(e:fJ->H->Prop)(i:W g (w9 (λb a=>b.tmps= .nil/\e b.vars a) d))(j:∀c a,e c a->d.n ⟨c,.nil⟩ a):W g d:=
 Z8 i λb a ⟨h,f⟩=>by obtain⟨c,k⟩:=b;simp only at h f;subst h;exact j c a f
def lh{f:Bool}{g h:Code}{b:Env}{a:H}{d:iw}(c:fJ->H->Prop)(k:f=true->W (jh cx cf n mask dl g b a) (w9 (λb a=>b.tmps= .nil/\c b.vars a) d))(l:f=false->W (jh cx cf n mask dl h b a) (w9 (λb a=>b.tmps= .nil/\c b.vars a) d))
 (i:∀j a,c j a->d.n ⟨j,.nil⟩ a):CK (some (.bool f)) cx cf n mask dl g h b a d:=by
 refine dU (λe=> ?_) (λe=> ?_)
 ·exact PC c (k e) i
 ·exact PC c (l e) i
end
end
noncomputable section
@[simp] theorem adQ (a:Nat):(a=a+1)=False:=dp 
@[simp] theorem adP (a:Nat):(a=a+1+1)=False:=dq 
@[simp] theorem adO (a:Nat):(a=a+1+1+1)=False:=dq 
@[simp] theorem adN (a:Nat):(a=a+1+1+1+1)=False:=dq 
@[simp] theorem adM (a:Nat):(a=a+1+1+1+1+1)=False:=dq 
def IF{c:H}{b:T}{d:List T}(a:c.jc b=some d)(f:iJ):(c.cons f).jc b=some d:=by
 cases b<;>first|exact a|(simp[H.jc]at a;done)|skip
 rename_i g h k j i;rw[fW]at a|-;obtain⟨l,e,_⟩:=dA.1 a;rw[dM,ao (by have:=H.ej e;omega)];exact a
def lq{cx:Ctx}{a:H}{sz:Nat}(E:gu 0 a){g h f:ab}{m n b:Ty}(s:cx.ty g=some m)(t:m.u= .slice f)(v:cx.ty f=some b)(w:cx.ty h=some n)(y:n.u= .slice f)(j:b.size=sz)(A:1<=b.bytes)
 {x:T} {xs:List T} (D:a.jc x=some xs) (k:∀q∈xs,q.cells.length=sz) (C:xs.length*b.bytes<=70368744177664):
 ∃i d,iK cx (a.cons ⟨sz,0,0,true,false,[]⟩) g h (.arr a.size 0 0 0 false) x=some (.val (.arr a.size i 0 xs.length false) d)/\(∃F r,d.get a.size=some ⟨sz,i,F,r,false,xs⟩)/\d.size=a.size+1/\(∀c,c<a.size->d.get c=a.get c)/\gu 0 d:=by
 have z:iK cx (a.cons ⟨sz,0,0,true,false,[]⟩) g h (.arr a.size 0 0 0 false) x=jl ((a.cons ⟨sz,0,0,true,false,[]⟩).append b.size b.bytes (.arr a.size 0 0 0 false) xs):=by
  unfold iK pN mY;rw[s,dO,w,dO];simp only[t,v,y,IF D,dO];rw[j,m8 k,gX]
 rw[z,j];have l:=E.cons ⟨sz,0,0,true,false,[]⟩;have e:(a.cons ⟨sz,0,0,true,false,[]⟩).get a.size=some ⟨sz,0,0,true,false,[]⟩:=dp;cases xs with
 |nil=>exact⟨0,a.cons ⟨sz,0,0,true,false,[]⟩,rfl,⟨0,true,e⟩,rfl,λc B=>by rw[dM,ao dj],l⟩
 |cons o p=>
  refine⟨1,dQ (a.cons ⟨sz,0,0,true,false,[]⟩) a.size ⟨sz,1,1,false,false,o::p⟩,?_,⟨1,false,by rw[dE e,aq rfl]⟩,by rw[fG];rfl,λc B=>by rw[dE e,ao dj,dM,ao dj],l.put _ _⟩;show jl ((a.cons ⟨sz,0,0,true,false,[]⟩).lO sz b.bytes a.size 0 ([]:List T).length (o::p))=_;rw[vh e k A (by simpa using C)];rfl
def oO(c:H)(d:Nat)(b:T)(a:List T):Prop:=b=sl a\/Gr c b d a
def oO.jc{b:H}{e:Nat}{c:T}{a:List T}(d:oO b e c a):b.jc c=some a:=by
 rcases d with rfl|g
 ·simp
 ·exact g.jc
def oO.mono{d h':H}{e:Nat}{b:T}{c:List T}(h:oO d e b c)(g:∀a,dL b=some a->h'.get a=d.get a):oO h' e b c:=h.imp id λf=>f.mono g
def oO.len{cx:Ctx}{h:H}{j:Nat}{f:T}{a:List T}(i:oO h j f a)(b:H)(d:Ty)(e:ab)(c:d.u= .slice e):CQ cx b d f=some (.val (.int .i64 a.length) b):=by
 rcases i with rfl|g
 ·cases a with
  |nil=>exact Lv _ _ c
  |cons l k=>exact DY _ _ _ _ c
 ·exact g.len b d e c
def oO.gD{c:H}{e:Nat}{a:T}{b:List T}(d:oO c e a b):a.gD=true/\a.cells=[a]:=by
 rcases d with rfl|g
 ·cases b<;>exact⟨rfl,rfl⟩
 ·exact⟨g.gD,g.cells⟩
def oO.idx{c:H}{k:T}{a:List T}(r:oO c 1 k a){te:Ty}(f:te.size=1)(p:te.isAgg=false){i:Nat}{x:T}(b:a[i]? =some x)(d:x.cells=[x]):∃j,kf c te k i=some (.val j c)/\c.load te j=some x:=by
 have hr:jW te [x]=some x:=by unfold jW;rw[p];rfl
 have e:i<a.length:=by
  rcases aD i a.length with q|q
  ·exact q
  ·rw[aK q]at b;simp at b
 rcases r with rfl|g
 ·refine⟨.je x.cells,?_,?_⟩
  ·cases a with
   |nil=>simp at b
   |cons l h=>rw[show sl (l::h)= .dC (l::h) false from rfl,LA,b];simp[d,f]
  ·rw[d];exact hr
 ·obtain⟨s,t,v,u,w,_,m,o,n⟩:=g.ID f e;refine⟨_,m,?_⟩;have:a[i]=x:=by rw[az e]at b;simpa using b
  rw[UA,o];simp[n,this,d,hr]
def oO.ft{h:H}{V:Nat->Prop}{s d:Nat}{f:T}{b:List T}(r:oO h s f b)(e:∀a∈b,cn a=a/\jE a=true/\∀k,a≠ .agg k)(i:∀c,dL f=some c->V c):FT h V (d+2) f (sl b):=by
 rcases r with rfl|g
 ·exact ou _ _ _ λa o=>(e a o).1
 ·have j:=g.jc;rcases g with⟨rfl,rfl⟩|⟨c,l,w,u,x,rfl,m,n⟩
  ·exact iQ _ _ _ _
  ·refine .inr (.inl ⟨c,l,0,_,false,b,b,rfl,i c rfl,j,?_,rfl⟩);clear j i n m;induction b with
   |nil=>exact .nil
   |cons a v q=>exact .cons (.inl ⟨(e a dp).2.1,(e a dp).2.2,(e a dp).1.symm⟩) (q λt p=>e t (by simp[p]))
structure Nb(h h':H):Prop where
 ok:gu h.size h'
 get:∀c,c<h.size->h'.get c=h.get c
def Nb.refl{a:H}(b:gu 0 a):Nb a a:=⟨⟨b.hp,b.low,au _⟩,λ_ _=>rfl⟩
def Nb.trans{d e f:H}(b:Nb d e)(a:Nb e f):Nb d f:=⟨⟨a.ok.hp,a.ok.low,aS b.ok.sz a.ok.sz⟩,λc g=>(a.get c (bE g b.ok.sz)).trans (b.get c g)⟩
def Nb.cons{b c:H}(a:Nb b c)(d:iJ):Nb b (c.cons d):=⟨a.ok.cons d,λe f=>by rw[dM,ao (by have:=a.ok.sz;omega)];exact a.get e f⟩
def Nb.put{b d:H}(e:Nb b d){a:Nat}{x:iJ}(h:d.get a=some x)(i:b.size<=a)(f:iJ):Nb b (dQ d a f):=⟨e.ok.put a f,λc g=>by rw[dE h,ao dj];exact e.get c g⟩
def Nb.step{c f:H}(b:Nb c f){d:Nat}(g:d<c.size):Step d c f:=⟨b.ok,λe a _=>b.get e a,λe a=>by rw[iE (b.get d g)]at a;exact .inl a⟩
def Nb.hr{a d:H}(b:Nb (TI.hr a) d):Nb a d:=⟨b.ok,λc e=>(b.get c e).trans (fX a c)⟩
def Nb.out{h b:H}(c:Nb (TI.hr h) b):Nb h (lA h b):=⟨c.ok.out h,λa d=>(fK h b a).trans ((c.get a d).trans (fX h a))⟩
def Gr.new{b:H}{a c ep ver:Nat}{ex:Bool}{es:List T}(d:b.get a=some ⟨c,ep,ver,ex,false,es⟩):Gr b (.arr a ep 0 es.length false) c es:= .inr ⟨a,ep,ver,ex,es,rfl,d,aL⟩
def m9.one{h:H}{w szw ver i0:Nat}{F:List (T×aa (Nat×List T))}(s:gu 0 h)(i:h.get w=some ⟨szw,0,ver,true,false,[.agg (F.map (·.1))]⟩)(o:∀a∈F,VK h szw a)(f:∀(b:Nat) e,F[b]? =some e->dL e.1≠none->b=i0):
 m9 h w szw ver F/\∀d,Fp h w d->d=w\/∃a,F[i0]? =some a/\dL a.1=some d:=by
 refine⟨⟨s,i,o,λb r q e l m n d t u=>q ((f b e m (by rw[t];simp)).trans (f r l n (by rw[u];simp)).symm)⟩,λd c=> ?_⟩;rcases c with c|⟨x,g,v,k,c⟩
 ·exact .inl c
 ·rw[i]at g;simp only[ar]at g;subst g;simp only[eQ,cB,cX,cg,T.cells]at k;obtain⟨a,p,rfl⟩:=List.mem_map.1 k;obtain⟨b,j⟩:=cN p;have:=f b a j (by rw[c];simp);subst this;exact .inr ⟨a,j,c⟩
section
variable {cx:Ctx}{cf:iG}{mask:Nat}
@[simp low] theorem aaq (n:aa Nat) (l:T) (j:af Oper) (a:List (Nat×Nat)) (f:aa Tmp) (h:List Oper) (b:Nat) (i:List (Nat×Nat)) (c:List (Nat×H×H)) (m k:fJ) (g:H) (e:iw) (q:kU a b=false) (p:(c.all λd=> !y9 a d.1 b)=true):DLK n l cx cf mask j a f h b i c m k g e=P9 l cx cf mask j a f h (b+1) i c m k g e:=by
 cases n with
 |none=>rfl
 |some o=>
  have hl:lZ a b o c=True:=by
   simp only[eq_iff_iff,iff_true];intro d s r;have:=List.all_eq_true.1 p d s;rw[r]at this;simp at this
  rw[PS,hl,q,true_and];rfl
end
def H3{a x:T}(c:∀b,a≠ .agg b):mt a 0 [x]=some x:=by
 cases a<;>first|rfl|exact absurd rfl (c _)
def oO.na{d:H}{f:Nat}{b:T}{a:List T}(e:oO d f b a):∀c,b≠ .agg c:=by
 rcases e with rfl|g
 ·cases a<;>simp[sl]
 ·rcases g with⟨rfl,_⟩|⟨h,i,k,j,l,rfl,_⟩<;>simp
def Gr.setAt{j h':H}{f:T}{k a l b s ver2:Nat}{n ex2:Bool}{i h:List T}(o:Gr j f k i)(d:dL f=some a)(q:j.get a=some ⟨l,b,s,n,false,h⟩)(e:Nat)(g:T)(r:h'.get a=some ⟨l,b,ver2,ex2,false,h.set e g⟩):Gr h' f k (i.set e g):=by
 rcases o with⟨rfl,_⟩|⟨m,t,v,u,w,rfl,c,p⟩
 ·simp at d
 ·simp only[v7,ar]at d;subst d;rw[q]at c;simp only[ar,iJ.mk.injEq]at c;obtain⟨rfl,rfl,rfl,rfl,_,rfl⟩:=c;exact .inr ⟨m,b,ver2,ex2,h.set e g,by rw[cM],r,by rw[cM,List.take_set,p]⟩
def io.set{d e:Type}{f c:d->e->Prop}{i:List d}{j:List e}(b:io f i j)(a:Nat){k:d}{l:e}(m:c k l)(h:∀b g,f b g->c b g):io c (i.set a k) (j.set a l):=by
 induction b generalizing a with
 |nil=>exact .nil
 |cons o p n=>
  cases a with
  |zero=>exact .cons m (p.imp h)
  |succ a=>exact .cons (h _ _ o) (n a)
def io.Uw{b c j:Type}{d:b->c->Prop}{e:b->j->Prop}{f:c->j}{h:List b}{i:List c}(a:io d h i)(k:∀a g,d a g->e a (f g)):io e h (i.map f):=by
 induction a with
 |nil=>exact .nil
 |cons m n l=>exact .cons (k _ _ m) l
def FT.tup{c:H}{f:Nat->Prop}{d h:Nat}(l:h<=11)(k:∀a,f a->d<=a){b g:List T}(m:io (FT c f h) b g)(a:Bool):∃i,iT c d (.tuple [.agg b,.bool a])=some i/\cn i= .tuple [.agg g,.bool a]:=by
 obtain⟨r0,e,j⟩:=FT.top l k m;refine⟨.tuple [r0,.bool a],?_,?_⟩
 ·have e:jX c d (.agg b)=some r0:=e;show(dJ (fw (jX c d) [.agg b,.bool a]) λn=>some (T.tuple n))=_;rw[jn,e];rfl
 ·rw[tK];simp[j]
def Gr.ft{c:H}{V:Nat->Prop}{e:T}{m d:Nat}{a b:List T}(i:Gr c e m a)(k:∀h,dL e=some h->V h)(f:io (FT c V d) a b):FT c V (d+1) e (sl b):=by
 have l:=i.jc;rcases i with⟨rfl,rfl⟩|⟨g,j,q,n,r,rfl,o,p⟩
 ·cases f;exact iQ _ _ _ _
 ·exact .inr (.inl ⟨g,j,0,_,false,a,b,rfl,k g rfl,l,f,rfl⟩)
def Gr.at{j:H}{m x:T}{l i:Nat}{a:List T}(n:Gr j m l a)(g:a[i]? =some x):∃c d h e b,m= .arr c d 0 a.length false/\j.get c=some ⟨l,d,h,e,false,b⟩/\b[i]? =some x/\i<a.length:=by
 have f:i<a.length:=by
  rcases aD i a.length with k|k
  ·exact k
  ·rw[aK k]at g;simp at g
 rcases n with⟨rfl,rfl⟩|⟨c,d,h,e,b,rfl,o,p⟩
 ·simp at f
 ·refine⟨c,d,h,e,b,rfl,o,?_,f⟩;have:(b.take a.length)[i]? =a[i]? :=by rw[p]
  rw[bJ,aq f,g]at this;exact this
def oO.ry{h:H}{l:Nat}{e:Type}{f:e->T}{d:T}{c:List e}(k:oO h l d (c.map f))(i:∀a,cn (f a)=f a)(j:∀a,wy h 11 (f a)=some (f a)):TI.ry h d=some (sl (c.map f)):=by
 rcases k with rfl|g
 ·cases c with
  |nil=>rfl
  |cons a b=>
   show TI.ry h (.dC (f a::b.map f) false)=_;have:=JZ (h:=h) (f a::b.map f) false;rw[show(f a::b.map f).map cn=f a::b.map f from by simp[i]]at this;exact this
 ·exact g.ry j
def mv{b:H}{a c:Nat}{f:iJ}(e:b.get a=some f)(d:c≠a)(g:iJ):ew b (dQ b a g) c=true:=eZ (by rw[dE e,ao d])
def md{c:H}{b:Nat}(f:Hp c)(e:b<c.size)(d:iJ)(a:Nat):(dQ c b d).get a=if a=b then some d else c.get a:=get_put f e d a
@[simp] theorem adT (a:Nat):(a<a+1+1)=True:=dq 
@[simp] theorem adS (a:Nat):(a<a+1+1+1)=True:=dq 
@[simp] theorem adR (a:Nat):(a<a+1+1+1+1)=True:=dq 
@[simp high] theorem ac3 {e:ai} {cx:Ctx} (d:fq) (b:aj) (a:List T) (c:H) (f:d.p b=none):qk e cx d b a c=hl e cx d b a c:=by
 unfold qk;cases Ps c a with
 |none=>rfl
 |some g=>simp only[AF f]
def iR{b c:H}{a:Nat}(d:b.get a=none):ew b c a=true:=by unfold ew;rw[d]
def lf(b:H){a:Nat}(d:b.size<=a):b.get a=none:=by
 cases c:b.get a with
 |none=>rfl
 |some e=>have:=H.ej c;omega
def Gr.FA{cx:Ctx}{a:H}{h:T}{b:Nat}{f:List T}(q:Gr a h b f)(l:gu 0 a){g i:ab}{m d:Ty}(j:cx.ty g=some m)(k:m.u= .slice i)(r:cx.ty i=some d)(v:d.size=b)(s:1<=d.bytes){x:T}(w:x.cells.length=b)(t:(f.length+1)*d.bytes<=70368744177664):
 ∃e c,iK cx (a.cons ⟨b,0,0,true,false,[x]⟩) g g h (.arr a.size 0 0 1 false)=some (.val e c)/\Xt a h b (f++[x]) e c:=by
 have n:=(Xt.refl q l).cons ⟨b,0,0,true,false,[x]⟩;obtain⟨e,c,p,o⟩:=Gr.app (cx:=cx) n.1 (l.cons _) (x:= .arr a.size 0 0 1 false) (xs:=[x]) j k r j k v s (by rw[fW];simp) (by simpa using w) dp (by simpa using t);exact⟨e,c,p,n.trans o.xt⟩
end
end Go.TI
