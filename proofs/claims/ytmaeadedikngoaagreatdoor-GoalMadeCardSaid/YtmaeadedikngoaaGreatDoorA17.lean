/- Texts W01e to W05. -/
import Derived.Test.YtmaeadedikngoaaGreatDoorA16
set_option linter.unusedVariables false
set_option linter.unusedSimpArgs false
set_option maxRecDepth 100000
set_option maxHeartbeats 8000000
namespace Go.Proofs.YtmaeadedikngoaaGreatDoor
noncomputable section
open Go Go.TI
attribute [-simp] List.map_take List.map_drop List.map_append fi ei dT Bool.not_or Bool.not_and
attribute [simp] fh ew
def wz:kw:=⟨λe a=>∃d c b f i,e=[.ptr b 0 0 0,.str i]/\Mk d c a b f/\c<=100,λ_ a h g=>g=a/\Hc h⟩
theorem PO:wz.Ok Tryz.prog cx 212:=by
 refine Hh (tb:=⟨pt [(110,z7)],ht []⟩) dX dU (iN 19 [] Tryz.func212) false (λ_ _=>5) (λq a k=>by obtain⟨e,o,n,f,p,rfl,_⟩:=k;simp[Tryz.f212]) ?_
 rintro _ a ⟨e,o,n,f,p,rfl,d,s⟩ y c
 simp at c
 obtain⟨i,j⟩:=c
 obtain⟨x,v,left,set,w,r,u,t,l,b,h,hl⟩:=d.ex
 simp only[rf]at b
 have m:=(h.mono (h':=hr a) λg _=>fU a g).pq (by simp)
 simp[Tryz.f212,i,j,b,m,LB,show l.length<=1099511627776 by omega]
 exact o7 a _ _ d.ok.hp (Fr.refl _ _) rfl ⟨rfl,by simp⟩
theorem aej{d:H}{b:Nat->Prop}(h:du)(c:Nat):gG (FT d b (c+1)) h.cs h.cs:=by
 have f:∀a:List dC,FT d b (c+1) (sl (a.map dC.t)) (sl (a.map dC.t)):=λa=>pO _ _ _ λi e=>by obtain⟨j,_,rfl⟩:=List.mem_map.1 e;simp
 have g:∀a:List du,FT d b (c+1) (sl (a.map du.t)) (sl (a.map du.t)):=λa=>pO _ _ _ λi e=>by obtain⟨j,_,rfl⟩:=List.mem_map.1 e;simp
 exact .cons (fJ ..) (.cons (fJ ..) (.cons (jH ..) (.cons (jH ..) (.cons (f _) (.cons (fJ ..) (.cons (fJ ..) (.cons (jH ..) (.cons (f _) (.cons (g _) (.cons (g _) .nil))))))))))
theorem FJ{i:Tc}{args:List T}{a c:H}{r:iE}{cs:List T}{s:du}(e:Lb i.m c a.size r)(g:Mk i.L i.n c i.m i.b)(p:Step i.m (TI.hr a) c)(hl:cs.length=11)(j:gG (FT c (Nw (a.size+1) c.size c i.m .jz) (2*i.d+3)) cs s.cs)(k:MS s)(o:s.w<=wd i.d):
 (dI c a.size ⟨11,0,1,true,false,[.agg cs]⟩).get a.size=some ⟨11,0,1,true,false,[.agg cs]⟩/\Dx i args a (.agg cs) (kV a (dI c a.size ⟨11,0,1,true,false,[.agg cs]⟩)):=by
 have l:(dI c a.size ⟨11,0,1,true,false,[.agg cs]⟩).get i.m=c.get i.m:=by rw[dy e.get,ao (br e.ne)]
 have q:=Step.uf g.ok e ⟨11,0,1,true,false,[.agg cs]⟩ _ p (au _)
 refine⟨(dy e.get _ _).trans (aq rfl),cs,s,rfl,hl,?_,k,o,(g.uf e _).out,q.out⟩
 refine .inr (.inr ⟨cs,s.cs,rfl,j.ft λh f=>⟨⟨by have:=f.1;omega,by have:=f.2.1;simp;omega,?_,Jn h⟩,?_⟩,s.mK⟩)
 ·rw[iH (fj a _ i.m),iH l];exact f.2.2.1
 ·rw[fj,dy e.get,ao (by have:=f.1;omega)]
def B6(c:List Nat)(b:List dC)(a:dC):du:=⟨1,0,c,[],b,a,[],[]⟩
theorem BT{d:List Nat}{b:List dC}{c:dC}(g:∀i∈b,ME i)(f:ME c)(h:b≠ []->d=[113]):MS (B6 d b c):=
 .mk (λa=>by unfold B6 at a;simp at a) (λ_ a=>h a) g (λ_=>f) (λe a=>by unfold B6 at a;simp at a) (λe a=>by unfold B6 at a;simp at a)
theorem JX{nm:List Nat}{ix:List dC}{e:dC}{d:Nat}(a:dC.ws ix<=20)(b:e.w<=20):(B6 nm ix e).w<=wd d:=by
 have:=Aq d
 rw[du.kJ];unfold B6
 simp only[du.qM,du.Iq,du.tT,du.wQ,du.il];omega
theorem ln{i:Tc}{args:List T}{c d:H}{k:iE}{nm:List Nat}{a:dC}(g:Lb i.m d c.size k)(h:Mk i.L i.n d i.m i.b)(j:Step i.m (TI.hr c) d)(e:ME a)(f:a.w<=20):
 (dI d c.size ⟨11,0,1,true,false,[.agg [.int .i64 1,.int .i64 0,.str nm,.str [],sl [],.int .i64 a.op,.int .i64 a.n,.str a.name,sl (a.l.map dC.t),sl [],sl []]]⟩).get c.size=some ⟨11,0,1,true,false,[.agg [.int .i64 1,.int .i64 0,.str nm,.str [],sl [],.int .i64 a.op,.int .i64 a.n,.str a.name,sl (a.l.map dC.t),sl [],sl []]]⟩/\
 Dx i args c (.agg [.int .i64 1,.int .i64 0,.str nm,.str [],sl [],.int .i64 a.op,.int .i64 a.n,.str a.name,sl (a.l.map dC.t),sl [],sl []]) (kV c (dI d c.size ⟨11,0,1,true,false,[.agg [.int .i64 1,.int .i64 0,.str nm,.str [],sl [],.int .i64 a.op,.int .i64 a.n,.str a.name,sl (a.l.map dC.t),sl [],sl []]]⟩)):=
 FJ (s:=B6 nm [] a) g h j rfl (aej (B6 nm [] a) _) (BT (by simp) e (λc=>absurd rfl c)) (JX (by rw[dC.il];omega) f)
theorem _root_.Go.TI.Lb.put{d:Nat}{c:H}{a b:Nat}{x g:iE}(f:Lb d c a x)(l2:Lb d c b g)(e:a≠b)(h:iE):Lb d (dI c b h) a x:=f.j8 (by rw[dy l2.get,ao (br l2.ne)]) (by rw[dy l2.get,ao e])
theorem Sf{n:List Int}{q:Nat}{k b:H}{c o a:Nat}{w:iE}(p:Mk n q b c o)(e:Lb c b a w)(v:Step c (TI.hr k) b)(r:k.size<=a)(d:iE):
 Mk n q (dI b a d) c o/\Lb c (dI b a d) a d/\Step c (TI.hr k) (dI b a d)/\(∀g m,g≠a->Lb c b g m->Lb c (dI b a d) g m)/\∀i h j l f,SV i h b c j l f->a<i\/h<=a->SV i h (dI b a d) c j l f:=
 ⟨p.uf e d,⟨(dy e.get d a).trans (aq rfl),by rw[iH (show(dI b a d).get c=b.get c by rw[dy e.get,ao (br e.ne)])];exact e.nf⟩,Step.uf p.ok e d _ v r,λg m s f=>f.put e s d,λi h j l f t u=>t.uf e u d⟩
theorem kz{o:List Int}{q:Nat}{m a:H}{b p:Nat}(g:Mk o q a b p)(s:Step b (TI.hr m) a)(c e:iE):
 Mk o q (dI (a.cons c) a.size e) b p/\Lb b (dI (a.cons c) a.size e) a.size e/\Step b (TI.hr m) (dI (a.cons c) a.size e)/\(∀h l,Lb b a h l->Lb b (dI (a.cons c) a.size e) h l)/\∀j f i k d,SV j f a b i k d->f<=a.size->SV j f (dI (a.cons c) a.size e) b i k d:=by
 have n:=Step.cons g.ok g.lt c
 have v:=Lb.new g.lt g.fp c
 have t:m.size<=a.size:=by simpa using s.ok.sz
 obtain⟨w,x,y,z,A⟩:=Sf (g.cons c) v (s.trans n) t e
 exact⟨w,x,y,λh l d=>z h l (by have:=d.lt;omega) (d.step n),λj f i k d u r=>A j f i k d (u.step n r) (.inr r)⟩
theorem SV.gc{h e:Nat}{d:H}{i c:Nat}{a:T}{g:List du}(f:SV h e d i c a g):a.fT=true/\a.cells=[a]:=by
 obtain⟨j,b,_⟩:=f;exact⟨b.fT,b.cells⟩
theorem SV.cell{g e c d:Nat}{b:H}{h a:Nat}{i:T}{f:List du}(l:SV g e b h (2*a+2) i f)(j:c<=g)(k:e<=d):FT b (Nw c d b h .jz) (2*(a+1)+3) i (sl (f.map du.t)):=by
 have:=(l.wide j k).ft
 rw[show 2*(a+1)+3=2*a+2+3 by omega];exact this
theorem vL{a:List du}{W:Nat}(c:∀b∈a,MS b/\b.w<=W):du.ws a<=a.length*W:=by
 induction a with
 |nil=>rw[du.il];omega
 |cons f a e=>
  have g:=e λb d=>c b (cw _ d)
  have h:=(c f (by simp)).2
  rw[du.jA,aZ,bU];omega
theorem oN{k:List Int}{c m o d cnt:Nat}{args:List T}{a b:H}{p:iE}{op:Int}{nm:List Nat}{e:dC}{f g h:T}{j le:List du}(z:Lb c b a.size p)(A:Mk k o b c m)(B:Step c (TI.hr a) b)
 (q:FT b (Nw (a.size+1) b.size b c .jz) (2*(d+1)+3) g (sl (j.map du.t))) (r:FT b (Nw (a.size+1) b.size b c .jz) (2*(d+1)+3) h (sl (le.map du.t))) (u:FT b (Nw (a.size+1) b.size b c .jz) (2*(d+1)+3) f (sl (e.l.map dC.t)))
 (D:2<=op/\op<=8) (hE:op<=3->ME e) (E:e.w<=20) (v:∀s∈j,MS s) (x:∀s∈le,MS s) (C:du.ws j+du.ws le<=5*wd d):
 (dI b a.size ⟨11,0,1,true,false,[.agg [.int .i64 op,.int .i64 0,.str nm,.str [],.dq [] false,.int .i64 e.op,.int .i64 e.n,.str e.name,f,g,h]]⟩).get a.size=some ⟨11,0,1,true,false,[.agg [.int .i64 op,.int .i64 0,.str nm,.str [],.dq [] false,.int .i64 e.op,.int .i64 e.n,.str e.name,f,g,h]]⟩/\
 Dx ⟨k,c,m,o,d+1,cnt⟩ args a (.agg [.int .i64 op,.int .i64 0,.str nm,.str [],.dq [] false,.int .i64 e.op,.int .i64 e.n,.str e.name,f,g,h]) (kV a (dI b a.size ⟨11,0,1,true,false,[.agg [.int .i64 op,.int .i64 0,.str nm,.str [],.dq [] false,.int .i64 e.op,.int .i64 e.n,.str e.name,f,g,h]]⟩)):=
 FJ (i:=⟨k,c,m,o,d+1,cnt⟩) (s:=⟨op,0,nm,[],[],e,j,le⟩) z A B rfl
  (.cons (fJ ..) (.cons (fJ ..) (.cons (jH ..) (.cons (jH ..) (.cons (iL ..) (.cons (fJ ..) (.cons (fJ ..) (.cons (jH ..) (.cons u (.cons q (.cons r .nil)))))))))))
  (.mk (λa=>by simp at a;omega) (λa=>by simp at a;omega) (λp y=>by simp at y) (λa=>by simp at a;exact hE (by omega)) v x)
  (by
    have:=Aq d
    rw[du.kJ,IU]
    simp only[du.qM,du.Iq,du.tT,du.wQ,dC.il];omega)
theorem SV.deep{f d:Nat}{c:H}{g a b:Nat}{h:T}{e:List du}(m:SV f d c g a h e)(o:a<=b):SV f d c g b h e:=by
 obtain⟨j,l,i,n⟩:=m
 exact⟨j,l,i.imp λ_ _ k=>k.deep (by omega),n⟩
theorem Xi(a:Nat):wd 0<=wd a:=Aq a
theorem SV.lit{g:List Int}{m:Nat}{a:H}{b j d:Nat}{es:List T}{l:List du}(e:Mk g m a b j)(i:∀k h,gG (FT k h (d+2)) es (l.map du.t)):SV a.size (a.size+1) (a.cons ⟨11,0,0,true,false,es⟩) b d (.arr a.size 0 0 es.length false) l:=by
 refine⟨es,.inr ⟨a.size,0,0,true,es,rfl,by rw[dH,aq rfl],aQ⟩,i _ _,λn f=> ?_⟩
 simp at f;subst f
 refine⟨au _,cS _,λc=> ?_⟩
 rw[iH (show(a.cons ⟨11,0,0,true,false,es⟩).get b=a.get b by rw[dH,ao (by have:=e.lt;omega)])]at c
 have:=e.fp _ c;omega
def zI(a:Int):du:=⟨a,0,[99],[],[],⟨0,0,[],[]⟩,[],[]⟩
theorem N1{d:H}{b:Nat->Prop}(a:Int)(c:Nat):FT d b (c+2) (.agg [.int .i64 a,.int .i64 0,.str [99],.str [],.dq [] false,.int .i64 0,.int .i64 0,.str [],.dq [] false,.dq [] false,.dq [] false]) (zI a).t:=
 .inr (.inr ⟨_,(zI a).cs,rfl,.cons (fJ ..) (.cons (fJ ..) (.cons (jH ..) (.cons (jH ..) (.cons (iL ..) (.cons (fJ ..) (.cons (fJ ..) (.cons (jH ..) (.cons (iL ..) (.cons (iL ..) (.cons (iL ..) .nil)))))))))),du.mK _⟩)
theorem N0{c:Int}(e:9<=c/\c<=11):MS (zI c):= .mk (λ_=>rfl) (λb=>by unfold zI at b;simp at b;omega) (λd a=>by unfold zI at a;simp at a) (λb=>by unfold zI at b;simp at b;omega) (λd a=>by unfold zI at a;simp at a) (λd a=>by unfold zI at a;simp at a)
theorem S0(a:Int):(zI a).w=5:=by
 rw[du.kJ,dC.kJ];unfold zI
 simp only[du.qM,du.Iq,du.tT,du.wQ,du.il,dC.il,dC.DI]
theorem I2{b c a:Int}(d:b-c=a)(e: -9223372036854775808<=a)(f:a<9223372036854775808):binop .sub (.int .i64 b) (.int .i64 c)=some (.int .i64 a):=by
 subst d;rw[wt,<-ju,jB e f]
theorem J1{b c a:Int}(d:b+c=a)(e: -9223372036854775808<=a)(f:a<9223372036854775808):binop .add (.int .i64 b) (.int .i64 c)=some (.int .i64 a):=by
 subst d;rw[oH,<-ju,jB e f]
theorem YU(k:Nat)(c4:(TO k).Ok Tryz.prog cx 118)(ea:(rBk k).Ok Tryz.prog cx 213):(rMt (k+1)).Ok Tryz.prog cx 165:=by
 obtain⟨gz,c1⟩:=hlB PO λ_ _ _ _ I=>I
 have O:=M0 11
 refine iU (tb:=⟨pt [(120,Fb),(211,Hz),(210,HA),(119,HC)],ht [(63,jM xW tz qB),(209,L7 11),(118,TO k),(213,rBk k),(212,wz)]⟩) dX dU (iN 521481210427296124309566527199867809678935259509485941609668421502669740186866579200068820979 [(5,[(0,5),(2,5),(3,5)]),(7,[(0,5),(0,9),(6,9),(7,9)])] Tryz.func165) (λ_ _=>10) (λi a I fE=>by obtain⟨⟨rfl,_⟩,_⟩:=fE;simp[Tryz.f165]) ?_
 rintro⟨o,b,p,r,d,cnt⟩ _ I ⟨⟨rfl,bB,E,fo,fB,fl⟩,fs⟩ hb eF
 simp only at bB E fo fB fl fs
 simp at eF
 obtain⟨u,bk⟩:=eF
 have eI:(b=I.size)=False:=by have:=bB.lt;simp;omega
 have F:=Step.cons bB.hr.ok bB.hr.lt ⟨11,0,0,true,false,[.agg [.int .i64 0,.int .i64 0,.str [],.str [],.dq [] false,.int .i64 0,.int .i64 0,.str [],.dq [] false,.dq [] false,.dq [] false]]⟩
 have D:Lb b _ I.size _:=Lb.new bB.hr.lt bB.hr.fp ⟨11,0,0,true,false,[.agg [.int .i64 0,.int .i64 0,.str [],.str [],.dq [] false,.int .i64 0,.int .i64 0,.str [],.dq [] false,.dq [] false,.dq [] false]]⟩
 have eh:=bB.hr.cons ⟨11,0,0,true,false,[.agg [.int .i64 0,.int .i64 0,.str [],.str [],.dq [] false,.int .i64 0,.int .i64 0,.str [],.dq [] false,.dq [] false,.dq [] false]]⟩
 obtain⟨b9,ap,left,set,N,al,aE,bT,G,C,X,hl⟩:=eh.ex
 obtain⟨di,ce⟩:=eh.set (th':=ap) (left':=IntKind.i64.wrap (left-1)) (se':=set) (tx':=N) (at2:=al) (lp':=aE) C X hl
 replace D:=D.step di
 replace F:=F.trans di
 simp only[rf]at C di ce D F
 have dm:=C
 rw[dH,p7,ao (by have:=bB.lt;omega),fU]at dm
 simp[Tryz.f165,u,dm,eI,wt,dG]
 generalize dI ((hr I).cons _) b _=gB at*
 clear C dm X eh di eI
 obtain⟨b9,ap,left,set,N,al,aE,bT,G,C,X,hl⟩:=ce.ex
 simp only[rf]at C
 simp[C]
 refine qS (by simp) ce.tp ce.ok (by omega) (by omega) E λW V gM t2 eU=> ?_
 obtain⟨c,er⟩:=ce.tape eU t2
 replace D:=D.step er
 replace F:=F.trans er
 clear C X ce t2 eU er hl
 obtain⟨b9,ap,left,set,N,al,aE,bT,G,C,X,hl⟩:=c.ex
 have c9:=C
 simp only[rf]at C
 simp[u,bk,C]
 rcases(by omega:W=0\/W=1\/W=2\/W=3\/W=4\/W=5\/W=6\/W=7\/W=8\/W=9\/W=10\/W=11\/W=12\/W=13\/W=14\/W=15\/W=16\/W=17)with rfl|rfl|rfl|rfl|rfl|rfl|rfl|rfl|rfl|rfl|rfl|rfl|rfl|rfl|rfl|rfl|rfl|rfl
 iterate 4
  ·simp[u]
   have K:=c.cons ⟨1,0,0,true,false,[.str [120],.str [121],.str [120],.str [118]]⟩
   have M:=Step.cons c.ok c.lt ⟨1,0,0,true,false,[.str [120],.str [121],.str [120],.str [118]]⟩
   refine kA O (by simp) ⟨o,b,p,r,1⟩ ⟨⟨rfl,K,E,by simp⟩,by simp⟩ ?_
   rintro _ hE ⟨e,rfl,A,B,j,f⟩
   simp only at B j f
   obtain⟨z,g⟩:=K.tape f j
   have m:=(D.step M).step g
   have fin:=λnm=>ln (i:=⟨o,b,p,r,d,cnt⟩) (args:=[.ptr b 0 0 0,.int .i64 d]) (nm:=nm) m z ((F.trans M).trans g) A (by omega)
   have ey:dY (V.cons ⟨1,0,0,true,false,[.str [120],.str [121],.str [120],.str [118]]⟩) hE V.size=true:=ee (f.get _ (by have:=c.tp.lt;omega))
   simp[rg,m.get,ey,λnm=>(fin nm).1]
   exact(fin _).2
 ·have fA:(b=V.size)=False:=by have:=c.lt;simp;omega
  simp[u,C,fA]
  have K:=c.cons ⟨1,0,0,true,false,[.str [97],.str [98]]⟩
  have M:=Step.cons c.ok c.lt ⟨1,0,0,true,false,[.str [97],.str [98]]⟩
  refine ID (by simp) K.tp K.ok (by omega) (by omega) E λY bz cb t4 aN=> ?_
  obtain⟨ae,bv⟩:=K.tape aN t4
  have gO:bz.get V.size=some ⟨1,0,0,true,false,[.str [97],.str [98]]⟩:=(aN.get _ (by have:=c.tp.lt;omega)).trans (by simp)
  have gy:dY (V.cons ⟨1,0,0,true,false,[.str [97],.str [98]]⟩) bz V.size=true:=ee (aN.get _ (by have:=c.tp.lt;omega))
  obtain⟨nm,e8⟩:∃nm:List Nat,([.str [97],.str [98]]:List T)[Y]? =some (.str nm):=by
   rcases(by omega:Y=0\/Y=1)with rfl|rfl<;>exact⟨_,rfl⟩
  generalize([.str [97],.str [98]]:List T)=e7 at*
  have cb:Y<2:=by omega
  simp[u,gO,e8,cb,gy]
  refine kA O (by simp) ⟨o,b,p,r,1⟩ ⟨⟨rfl,ae,E,by simp⟩,by simp⟩ ?_
  rintro _ hE ⟨e,rfl,A,B,j,f⟩
  simp only at B j f
  obtain⟨z,g⟩:=ae.tape f j
  have m:=((D.step M).step bv).step g
  have fin:=ln (i:=⟨o,b,p,r,d,cnt⟩) (args:=[.ptr b 0 0 0,.int .i64 d]) (nm:=nm) m z (((F.trans M).trans bv).trans g) A (by omega)
  have ey:dY bz hE V.size=true:=ee (f.get _ (by have:=c.tp.lt;omega))
  have ha:dY (V.cons ⟨1,0,0,true,false,e7⟩) hE V.size=true:=ee ((f.get _ (by have:=c.tp.lt;omega)).trans (aN.get _ (by have:=c.tp.lt;omega)))
  simp[rg,m.get,ey,fin.1]
  exact fin.2
 ·simp[u]
  refine gd O (by simp) ⟨o,b,p,r,0⟩ ⟨⟨rfl,c,E,by simp⟩,by simp⟩ ?_
  rintro _ hE ⟨e,rfl,A,B,j,f⟩
  simp only at B j f
  obtain⟨z,g⟩:=c.tape f j
  have eS:=z.cons ⟨4,0,0,true,false,[e.t]⟩
  have eX:=Step.cons z.ok z.lt ⟨4,0,0,true,false,[e.t]⟩
  simp[u]
  refine gd O (by simp) ⟨o,b,p,r,1⟩ ⟨⟨rfl,eS,E,by simp⟩,by simp⟩ ?_
  rintro _ eD ⟨cX,rfl,fb,fL,e5,de⟩
  simp only at fL e5 de
  obtain⟨gj,et⟩:=eS.tape de e5
  have eP:=((D.step g).step eX).step et
  have gP:=g.ok.sz
  have gS:=D.lt
  have e9:eD.get hE.size=some ⟨4,0,0,true,false,[e.t]⟩:=(de.get _ (by have:=z.tp.lt;omega)).trans (by simp)
  have fS:=de.size
  simp at fS
  have fC:¬Fp eD b hE.size:=λq=>by
   rcases et.fp _ q with q|q
   ·rw[iH (show(hE.cons ⟨4,0,0,true,false,[e.t]⟩).get b=hE.get b by rw[dH,ao (by have:=z.lt;omega)])]at q;have:=z.fp _ q;omega
   ·simp at q;omega
  have fin:=FJ (i:=⟨o,b,p,r,d,cnt⟩) (args:=[.ptr b 0 0 0,.int .i64 d]) (cs:=[.int .i64 1,.int .i64 0,.str [113],.str [],.arr hE.size 0 0 1 false,.int .i64 cX.op,.int .i64 cX.n,.str cX.name,sl (cX.l.map dC.t),.dq [] false,.dq [] false]) (s:=B6 [113] [e] cX) eP gj (((F.trans g).trans eX).trans et) rfl
   (.cons (fJ ..) (.cons (fJ ..) (.cons (jH ..) (.cons (jH ..) (.cons (.inr (.inl ⟨hE.size,0,0,1,false,[e.t],[e.t],rfl,⟨by omega,by omega,fC,Jn _⟩,by rw[fH,e9];simp,.cons (e.ft _) .nil,rfl⟩)) (.cons (fJ ..) (.cons (fJ ..) (.cons (jH ..) (.cons (pO _ _ _ λx bu=>by obtain⟨y,_,rfl⟩:=List.mem_map.1 bu;simp) (.cons (iL ..) (.cons (iL ..) .nil)))))))))))
   (BT (by simpa using A) fb (by simp)) (JX (by rw[dC.jA,dC.il];omega) (by omega))
  simp[eP.get,fin.1]
  exact fin.2
 ·simp[bk]
  refine dM (λa6=> ?_) (λa6=> ?_)
  ·simp at a6
   obtain⟨d,rfl⟩:∃e,d=e+1:=⟨d-1,by omega⟩
   have av:binop .sub (.int .i64 ((d:Int)+1)) (.int .i64 1)=some (.int .i64 d):=by
    rw[wt,<-ju,jB (by omega) (by omega)];simp
   simp[u]
   refine gd O (by simp) ⟨o,b,p,r,1⟩ ⟨⟨rfl,c,E,by simp⟩,by simp⟩ ?_
   rintro _ hE ⟨e,rfl,A,B,j,f⟩
   simp only at B j f
   obtain⟨z,g⟩:=c.tape f j
   simp[u,bk,av]
   refine gd c4 (by simp) ⟨o,b,p,r,d,1⟩ ⟨⟨rfl,z,E,by simp only;omega,by simp only;omega,by simp⟩,by simp only;omega⟩ ?_
   rintro v an ⟨l,sv,H,P,Q,L⟩
   simp only at sv H P Q L
   have Z:=(D.step g).step L
   have bp:=(F.trans g).trans L
   have S:=sv.gc
   obtain⟨tJ,bi,bv,bX,b8⟩:=kz Q bp ⟨11,0,0,true,false,[.agg [.int .i64 0,.int .i64 0,.str [],.str [],.dq [] false,.int .i64 0,.int .i64 0,.str [],.dq [] false,.dq [] false,.dq [] false]]⟩ ⟨11,0,1,true,false,[.agg [.int .i64 2,.int .i64 0,.str [],.str [],.dq [] false,.int .i64 e.op,.int .i64 e.n,.str e.name,sl (e.l.map dC.t),v,.dq [] false]]⟩
   have bn:=bX _ _ Z
   have b7:=b8 _ _ _ _ _ sv (au _)
   obtain⟨b9,ap,left,set,N,al,aE,bT,G,C,X,hl⟩:=tJ.ex
   simp only[rf]at C
   simp[u,S.1,S.2,C]
   generalize dI (an.cons _) an.size _=dd at*
   refine qS (by simp) tJ.tp tJ.ok (by omega) (by omega) E λY bz cb t4 aN=> ?_
   obtain⟨ae,aX⟩:=tJ.tape aN t4
   have l4:=bi.step aX
   have eb:=bn.step aX
   have bN:=bv.trans aX
   have gV:=tJ.lt
   have fX:an.size<dd.size:=bi.lt
   have e4:=b7.step aX (by omega)
   have gQ:=aN.size
   have gE:I.size<an.size:=Z.lt
   have eE:I.size<hE.size:=(D.step g).lt
   simp
   refine dM (λfv=> ?_) (λfv=> ?_)
   ·simp[u,bk,av]
    refine gd c4 (by simp) ⟨o,b,p,r,d,1⟩ ⟨⟨rfl,ae,E,by simp only;omega,by simp only;omega,by simp⟩,by simp only;omega⟩ ?_
    rintro gw gI ⟨l2,eu,dv,eL,mkV,Tx⟩
    simp only at eu dv eL mkV Tx
    have eB:=eu.gc
    obtain⟨gk,fY,b6,gm,e6⟩:=Sf mkV (l4.step Tx) (bN.trans Tx) (by omega) ⟨11,0,2,true,false,[.agg [.int .i64 2,.int .i64 0,.str [],.str [],.dq [] false,.int .i64 e.op,.int .i64 e.n,.str e.name,sl (e.l.map dC.t),v,gw]]⟩
    have eR:=gm _ _ (by omega) (eb.step Tx)
    have gn:=e6 _ _ _ _ _ (e4.step Tx (by omega)) (.inr (au _))
    have gp:=e6 _ _ _ _ _ eu (.inl (by omega))
    have gX:=Tx.ok.sz
    have fin:=oN (cnt:=cnt) (args:=[.ptr b 0 0 0,.int .i64 (d+1:Nat)]) (op:=2) (nm:=[]) (e:=e) eR gk b6 (gn.cell eE (by simp;omega)) (gp.cell (by omega) (by simp)) (pO _ _ _ λx bu=>by obtain⟨y,_,rfl⟩:=List.mem_map.1 bu;simp) (by omega) (λ_=>A) (by omega) (λs G=>(H s G).1) (λs G=>(dv s G).1) (by
     have ca:=vL H
     have hc:=vL dv
     have:=aV (wd d) P
     have:=aV (wd d) eL
     omega)
    simp[(l4.step Tx).get,fY.get,dG,eB.1,eB.2,eR.get,fin.1]
    exact fin.2
   ·have fin:=oN (cnt:=cnt) (args:=[.ptr b 0 0 0,.int .i64 (d+1:Nat)]) (op:=2) (nm:=[]) (e:=e) (le:=[]) eb ae bN (e4.cell eE (by omega)) (iL _ _ _ false) (pO _ _ _ λx bu=>by obtain⟨y,_,rfl⟩:=List.mem_map.1 bu;simp) (by omega) (λ_=>A) (by omega) (λs G=>(H s G).1) (by simp) (by
     have ca:=vL H
     have:=aV (wd d) P
     rw[du.il];omega)
    simp[l4.get,eb.get,dG,fin.1]
    exact fin.2
  ·simp[u]
   refine gd O (by simp) ⟨o,b,p,r,1⟩ ⟨⟨rfl,c,E,by simp⟩,by simp⟩ ?_
   rintro _ hE ⟨e,rfl,A,B,j,f⟩
   simp only at B j f
   obtain⟨z,g⟩:=c.tape f j
   have m:=D.step g
   have fin:=ln (i:=⟨o,b,p,r,d,cnt⟩) (args:=[.ptr b 0 0 0,.int .i64 d]) (nm:=[120]) m z (F.trans g) A (by omega)
   simp[rg,m.get,fin.1]
   exact fin.2
 ·simp[bk]
  refine dM (λa6=> ?_) (λa6=> ?_)
  ·simp at a6
   obtain⟨d,rfl⟩:∃e,d=e+1:=⟨d-1,by omega⟩
   have av:binop .sub (.int .i64 ((d:Int)+1)) (.int .i64 1)=some (.int .i64 d):=by
    rw[wt,<-ju,jB (by omega) (by omega)];simp
   obtain⟨M,K⟩:=c.set (th':=ap) (left':=left) (se':=set) (tx':=N) (at2:=al) (lp':=true) c9 X hl
   simp only[rf]at M K
   simp[u,C,dG]
   generalize dI V b _=dn at*
   have aA:=D.step M
   have bp:=F.trans M
   simp[u,bk,QH,QI,Vl,av]
   refine gd c4 (by simp) ⟨o,b,p,r,d,1⟩ ⟨⟨rfl,K,E,by simp only;omega,by simp only;omega,by simp⟩,by simp only;omega⟩ ?_
   rintro v an ⟨l,sv,H,P,Q,L⟩
   simp only at sv H P Q L
   have Z:=aA.step L
   have bv:=bp.trans L
   have eo:=Step.cons Q.ok Q.lt ⟨11,0,0,true,false,[(B6 [98] [] ⟨6,0,[],[⟨2,0,[98],[]⟩,⟨1,1,[],[]⟩]⟩).t]⟩
   have fX:=L.ok.sz
   obtain⟨gv,eC,eA,e0,gg,eV,_⟩:=(sv.step eo (au _)).app (Q.cons ⟨11,0,0,true,false,[(B6 [98] [] ⟨6,0,[],[⟨2,0,[98],[]⟩,⟨1,1,[],[]⟩]⟩).t]⟩) (x:= .arr an.size 0 0 1 false) (xs:=[(B6 [98] [] ⟨6,0,[],[⟨2,0,[98],[]⟩,⟨1,1,[],[]⟩]⟩).t]) (l2:=[B6 [98] [] ⟨6,0,[],[⟨2,0,[98],[]⟩,⟨1,1,[],[]⟩]⟩]) (by simp;omega) (by simp) (by rw[fH];simp) (.cons (du.ft _ _) .nil) (by simp) (by simp) (by simp;omega)
   have bN:=eV _ (bv.trans eo) (by simpa using bp.ok.sz)
   have l3:=aA.step (eV _ (L.trans eo) (au _))
   have S:=e0.gc
   obtain⟨tJ,bi,b6,bX,b8⟩:=kz gg bN ⟨11,0,0,true,false,[.agg [.int .i64 0,.int .i64 0,.str [],.str [],.dq [] false,.int .i64 0,.int .i64 0,.str [],.dq [] false,.dq [] false,.dq [] false]]⟩ ⟨11,0,1,true,false,[.agg [.int .i64 3,.int .i64 0,.str [],.str [],.dq [] false,.int .i64 13,.int .i64 0,.str [],sl [(dC.mk 2 0 [98] []).t,(dC.mk 1 2 [] []).t],gv,.dq [] false]]⟩
   have bn:=bX _ _ l3
   have b7:=b8 _ _ _ _ _ e0 (au _)
   simp only[B6]at eA
   simp[u,QH,QI,Vl,rg,eA,S.1,S.2]
   generalize dI (eC.cons _) eC.size _=dd at*
   obtain⟨b9,ap,left,set,N,al,gZ,bT,G,C,X,hl⟩:=tJ.ex
   obtain⟨U,c6⟩:=tJ.set (th':=ap) (left':=left) (se':=set) (tx':=N) (at2:=al) (lp':=aE) C X hl
   have fe:=aA.lt
   have eM:=bi.lt
   have eN:=U.ok.sz
   have fin:=oN (cnt:=cnt) (args:=[.ptr b 0 0 0,.int .i64 (d+1:Nat)]) (op:=3) (nm:=[]) (e:=⟨13,0,[],[⟨2,0,[98],[]⟩,⟨1,2,[],[]⟩]⟩) (le:=[]) (bn.step U) c6 (b6.trans U) ((b7.step U (by omega)).cell fe (by omega)) (iL _ _ _ false) (pO _ _ _ λx bu=>by obtain⟨y,_,rfl⟩:=List.mem_map.1 bu;simp) (by omega) (λ_=> .bin (by omega) (.nm _) (.num _)) (by simp[dC.kJ,dC.jA,dC.il]) (λs G=>(List.mem_append.1 G).elim (λq=>(H s q).1) λq=>by rw[List.mem_singleton.1 q];exact BT (by simp) (.bin (by omega) (.nm _) (.num _)) (λI=>absurd rfl I)) (by simp) (by
    have ca:=vL H
    have:=aV (wd d) P
    have:=JX (nm:=[98]) (ix:=[]) (e:=⟨6,0,[],[⟨2,0,[98],[]⟩,⟨1,1,[],[]⟩]⟩) (d:=d) (by rw[dC.il];omega) (by simp[dC.kJ,dC.jA,dC.il])
    rw[du.Hf,du.jA,du.il];omega)
   have gT:=(bi.step U).get
   have gR:=(bn.step U).get
   simp only[rf]at C gT gR fin
   simp[C,gT,gR,dG]
   simp at fin
   simp[fin.1]
   exact fin.2
  ·simp[u]
   refine gd O (by simp) ⟨o,b,p,r,1⟩ ⟨⟨rfl,c,E,by simp⟩,by simp⟩ ?_
   rintro _ hE ⟨e,rfl,A,B,j,f⟩
   simp only at B j f
   obtain⟨z,g⟩:=c.tape f j
   have m:=D.step g
   have fin:=ln (i:=⟨o,b,p,r,d,cnt⟩) (args:=[.ptr b 0 0 0,.int .i64 d]) (nm:=[120]) m z (F.trans g) A (by omega)
   simp[rg,m.get,fin.1]
   exact fin.2
 iterate 2
  ·by_cases J:(decide (0<d)&&decide (0<left)&& !N)=true
   ·simp at J
    obtain⟨⟨a6,a7⟩,a8⟩:=J
    subst a8
    obtain⟨d,rfl⟩:∃e,d=e+1:=⟨d-1,by omega⟩
    have av:binop .sub (.int .i64 ((d:Int)+1)) (.int .i64 1)=some (.int .i64 d):=by
     rw[wt,<-ju,jB (by omega) (by omega)];simp
    have K:=c.cons ⟨1,0,0,true,false,[.str [109],.str [110]]⟩
    have bs:=λ{tb:eG} (ht:tb.h 212=some wz) s=>c1 ht [.ptr b 0 0 0,.str s] (V.cons ⟨1,0,0,true,false,[.str [109],.str [110]]⟩) ⟨o,r,b,p,s,rfl,K,by omega⟩
    have M:=Step.cons c.ok c.lt ⟨1,0,0,true,false,[.str [109],.str [110]]⟩
    have aA:=D.step M
    have cp:binop .sub (.int .i64 8) (.int .i64 8)=some (.int .i64 0):=I2 (by omega) (by omega) (by omega)
    have cL:binop .sub (.int .i64 9) (.int .i64 8)=some (.int .i64 1):=I2 (by omega) (by omega) (by omega)
    simp[u,a7,bs,cp,cL]
    refine dM (λR=> ?_) (λR=> ?_)
    ·simp[u,bk,cp,cL]
     have gi:=K.cons ⟨1,0,0,true,false,[.str [109],.str [110]]⟩
     have eW:=Step.cons K.ok K.lt ⟨1,0,0,true,false,[.str [109],.str [110]]⟩
     have eO:=aA.step eW
     simp[av]
     refine gd ea (by simp) ⟨o,b,p,r,d,_⟩ ⟨⟨rfl,gi,E,by simp only;omega,by simp only;omega⟩,by simp only;omega⟩ ?_
     rintro v an ⟨l,sv,H,P,Q,L⟩
     simp only at sv H P Q L
     have S:=sv.gc
     have Z:=eO.step L
     have fin:=λnm=>oN (cnt:=cnt) (args:=[.ptr b 0 0 0,.int .i64 (d+1:Nat)]) (op:=4) (nm:=nm) (e:=⟨0,0,[],[]⟩) (le:=[]) Z Q (((F.trans M).trans eW).trans L) (sv.cell eO.lt (au _)) (iL _ _ _ false) (iL _ _ _ false) (by omega) (λI=>by omega) (by simp[dC.kJ,dC.il]) (λs G=>(H s G).1) (by simp) (by
      have ca:=vL H
      have:=aV (wd d) P
      rw[du.il];omega)
     simp only[dC.ux,dC.DE,dC.nQ]at fin
     simp[S.1,S.2,Z.get,λnm=>(fin nm).1]
     exact(fin _).2
    ·simp[u]
     refine gd O (by simp) ⟨o,b,p,r,1⟩ ⟨⟨rfl,K,E,by simp⟩,by simp⟩ ?_
     rintro _ hE ⟨e,rfl,A,B,j,f⟩
     simp only at B j f
     obtain⟨z,g⟩:=K.tape f j
     have m:=aA.step g
     have fin:=ln (i:=⟨o,b,p,r,d+1,cnt⟩) (args:=[.ptr b 0 0 0,.int .i64 d]) (nm:=[120]) m z ((F.trans M).trans g) A (by omega)
     simp[rg,m.get,fin.1]
     exact fin.2
   ·have J:(decide (0<d)&&decide (0<left)&& !N)=false:=by simpa using J
    simp[u,J]
    refine gd O (by simp) ⟨o,b,p,r,1⟩ ⟨⟨rfl,c,E,by simp⟩,by simp⟩ ?_
    rintro _ hE ⟨e,rfl,A,B,j,f⟩
    simp only at B j f
    obtain⟨z,g⟩:=c.tape f j
    have m:=D.step g
    have fin:=ln (i:=⟨o,b,p,r,d,cnt⟩) (args:=[.ptr b 0 0 0,.int .i64 d]) (nm:=[120]) m z (F.trans g) A (by omega)
    simp[rg,m.get,fin.1]
    exact fin.2
 ·by_cases J:(decide (0<d)&&decide (0<left)&& !N)=true
  ·simp at J
   obtain⟨⟨a6,a7⟩,a8⟩:=J
   subst a8
   obtain⟨d,rfl⟩:∃e,d=e+1:=⟨d-1,by omega⟩
   have av:binop .sub (.int .i64 ((d:Int)+1)) (.int .i64 1)=some (.int .i64 d):=by
    rw[wt,<-ju,jB (by omega) (by omega)];simp
   have bs:=λ{tb:eG} (ht:tb.h 212=some wz) s=>c1 ht [.ptr b 0 0 0,.str s] V ⟨o,r,b,p,s,rfl,c,by omega⟩
   have cp:binop .sub (.int .i64 10) (.int .i64 10)=some (.int .i64 0):=I2 (by omega) (by omega) (by omega)
   have cL:binop .add (.int .i64 0) (.int .i64 5)=some (.int .i64 5):=J1 (by omega) (by omega) (by omega)
   simp[u,a7,bs]
   refine dM (λR=> ?_) (λR=> ?_)
   ·simp[u,bk,cp,cL,av]
    refine gd ea (by simp) ⟨o,b,p,r,d,_⟩ ⟨⟨rfl,c,E,by simp only;omega,by simp only;omega⟩,by simp only;omega⟩ ?_
    rintro v an ⟨l,sv,H,P,Q,L⟩
    simp only at sv H P Q L
    have S:=sv.gc
    have Z:=D.step L
    have fin:=λnm=>oN (cnt:=cnt) (args:=[.ptr b 0 0 0,.int .i64 (d+1:Nat)]) (op:=5) (nm:=nm) (e:=⟨0,0,[],[]⟩) (le:=[]) Z Q (F.trans L) (sv.cell D.lt (au _)) (iL _ _ _ false) (iL _ _ _ false) (by omega) (λI=>by omega) (by simp[dC.kJ,dC.il]) (λs G=>(H s G).1) (by simp) (by
     have ca:=vL H
     have:=aV (wd d) P
     rw[du.il];omega)
    simp only[dC.ux,dC.DE,dC.nQ]at fin
    simp[S.1,S.2,Z.get,λnm=>(fin nm).1]
    exact(fin _).2
   ·simp[u]
    refine gd O (by simp) ⟨o,b,p,r,1⟩ ⟨⟨rfl,c,E,by simp⟩,by simp⟩ ?_
    rintro _ hE ⟨e,rfl,A,B,j,f⟩
    simp only at B j f
    obtain⟨z,g⟩:=c.tape f j
    have m:=D.step g
    have fin:=ln (i:=⟨o,b,p,r,d+1,cnt⟩) (args:=[.ptr b 0 0 0,.int .i64 d]) (nm:=[120]) m z (F.trans g) A (by omega)
    simp[rg,m.get,fin.1]
    exact fin.2
  ·have J:(decide (0<d)&&decide (0<left)&& !N)=false:=by simpa using J
   simp[u,J]
   refine gd O (by simp) ⟨o,b,p,r,1⟩ ⟨⟨rfl,c,E,by simp⟩,by simp⟩ ?_
   rintro _ hE ⟨e,rfl,A,B,j,f⟩
   simp only at B j f
   obtain⟨z,g⟩:=c.tape f j
   have m:=D.step g
   have fin:=ln (i:=⟨o,b,p,r,d,cnt⟩) (args:=[.ptr b 0 0 0,.int .i64 d]) (nm:=[120]) m z (F.trans g) A (by omega)
   simp[rg,m.get,fin.1]
   exact fin.2
 ·by_cases J:(decide (0<d)&&decide (0<left)&& !N)=true
  ·simp at J
   obtain⟨⟨a6,a7⟩,a8⟩:=J
   subst a8
   obtain⟨d,rfl⟩:∃e,d=e+1:=⟨d-1,by omega⟩
   have av:binop .sub (.int .i64 ((d:Int)+1)) (.int .i64 1)=some (.int .i64 d):=by
    rw[wt,<-ju,jB (by omega) (by omega)];simp
   have bs:=λ{tb:eG} (ht:tb.h 212=some wz) s=>c1 ht [.ptr b 0 0 0,.str s] V ⟨o,r,b,p,s,rfl,c,by omega⟩
   have cp:binop .sub (.int .i64 11) (.int .i64 10)=some (.int .i64 1):=I2 (by omega) (by omega) (by omega)
   have cL:binop .add (.int .i64 1) (.int .i64 5)=some (.int .i64 6):=J1 (by omega) (by omega) (by omega)
   simp[u,a7,bs]
   refine dM (λR=> ?_) (λR=> ?_)
   ·simp[u,bk,cp,cL,av]
    refine gd ea (by simp) ⟨o,b,p,r,d,_⟩ ⟨⟨rfl,c,E,by simp only;omega,by simp only;omega⟩,by simp only;omega⟩ ?_
    rintro v an ⟨l,sv,H,P,Q,L⟩
    simp only at sv H P Q L
    have S:=sv.gc
    have Z:=D.step L
    have fin:=λnm=>oN (cnt:=cnt) (args:=[.ptr b 0 0 0,.int .i64 (d+1:Nat)]) (op:=6) (nm:=nm) (e:=⟨0,0,[],[]⟩) (le:=[]) Z Q (F.trans L) (sv.cell D.lt (au _)) (iL _ _ _ false) (iL _ _ _ false) (by omega) (λI=>by omega) (by simp[dC.kJ,dC.il]) (λs G=>(H s G).1) (by simp) (by
     have ca:=vL H
     have:=aV (wd d) P
     rw[du.il];omega)
    simp only[dC.ux,dC.DE,dC.nQ]at fin
    simp[S.1,S.2,Z.get,λnm=>(fin nm).1]
    exact(fin _).2
   ·simp[u]
    refine gd O (by simp) ⟨o,b,p,r,1⟩ ⟨⟨rfl,c,E,by simp⟩,by simp⟩ ?_
    rintro _ hE ⟨e,rfl,A,B,j,f⟩
    simp only at B j f
    obtain⟨z,g⟩:=c.tape f j
    have m:=D.step g
    have fin:=ln (i:=⟨o,b,p,r,d+1,cnt⟩) (args:=[.ptr b 0 0 0,.int .i64 d]) (nm:=[120]) m z (F.trans g) A (by omega)
    simp[rg,m.get,fin.1]
    exact fin.2
  ·have J:(decide (0<d)&&decide (0<left)&& !N)=false:=by simpa using J
   simp[u,J]
   refine gd O (by simp) ⟨o,b,p,r,1⟩ ⟨⟨rfl,c,E,by simp⟩,by simp⟩ ?_
   rintro _ hE ⟨e,rfl,A,B,j,f⟩
   simp only at B j f
   obtain⟨z,g⟩:=c.tape f j
   have m:=D.step g
   have fin:=ln (i:=⟨o,b,p,r,d,cnt⟩) (args:=[.ptr b 0 0 0,.int .i64 d]) (nm:=[120]) m z (F.trans g) A (by omega)
   simp[rg,m.get,fin.1]
   exact fin.2
 ·simp
  refine dM (λR=> ?_) (λR=> ?_)
  ·simp at R
   obtain⟨⟨a6,a7⟩,a8⟩:=R
   obtain⟨d,rfl⟩:∃e,d=e+1:=⟨d-1,by omega⟩
   have av:binop .sub (.int .i64 ((d:Int)+1)) (.int .i64 1)=some (.int .i64 d):=by
    rw[wt,<-ju,jB (by omega) (by omega)];simp
   obtain⟨M,K⟩:=c.set (th':=ap) (left':=left) (se':=set) (tx':=true) (at2:=al) (lp':=aE) c9 X hl
   simp only[rf]at M K
   simp[u,C,dG]
   generalize dI V b _=dn at*
   have aA:=D.step M
   have bp:=F.trans M
   obtain⟨b9,ap,left,set,N,al,aE,bT,G,C,X,hl⟩:=K.ex
   simp only[rf]at C
   simp[C]
   refine qS (by simp) K.tp K.ok (by omega) (by omega) E λY bz cb t4 aN=> ?_
   obtain⟨ae,aX⟩:=K.tape aN t4
   have l4:=aA.step aX
   have dk:binop .add (.int .i64 1) (.int .i64 Y)=some (.int .i64 ((1+Y:Nat):Int)):=J1 (by simp) (by omega) (by omega)
   simp[dk]
   refine gd c4 (by simp) ⟨o,b,p,r,0,1+Y⟩ ⟨⟨by simp,ae,E,by simp,by simp only;omega,by simp only;omega⟩,by simp only;omega⟩ ?_
   rintro v an ⟨l,sv,H,P,Q,L⟩
   simp only at sv H P Q L
   replace P:l.length<=2:=by omega
   replace sv:=sv.deep (show 2*0+2<=2*d+2 by omega)
   replace H:∀s∈l,MS s/\s.w<=wd d:=λs G=>⟨(H s G).1,aS (H s G).2 (Xi d)⟩
   have Z:=l4.step L
   have bN:=(bp.trans aX).trans L
   have S:=sv.gc
   obtain⟨tJ,bi,b6,bX,b8⟩:=kz Q bN ⟨11,0,0,true,false,[.agg [.int .i64 0,.int .i64 0,.str [],.str [],.dq [] false,.int .i64 0,.int .i64 0,.str [],.dq [] false,.dq [] false,.dq [] false]]⟩ ⟨11,0,1,true,false,[.agg [.int .i64 7,.int .i64 0,.str [],.str [],.dq [] false,.int .i64 0,.int .i64 0,.str [],.dq [] false,v,.dq [] false]]⟩
   have bn:=bX _ _ Z
   have b7:=b8 _ _ _ _ _ sv (au _)
   simp[u,S.1,S.2]
   generalize dI (an.cons _) an.size _=dd at*
   obtain⟨b9,ap,left,set,N,al,aE,bT,G,C,X,hl⟩:=tJ.ex
   obtain⟨U,c6⟩:=tJ.set (th':=ap) (left':=left) (se':=set) (tx':=false) (at2:=al) (lp':=aE) C X hl
   have eM:=bi.lt
   have eN:=U.ok.sz
   have fin:=oN (cnt:=cnt) (args:=[.ptr b 0 0 0,.int .i64 (d+1:Nat)]) (op:=7) (nm:=[]) (e:=⟨0,0,[],[]⟩) (le:=[]) (bn.step U) c6 (b6.trans U) ((b7.step U (by omega)).cell l4.lt (by omega)) (iL _ _ _ false) (iL _ _ _ false) (by omega) (λI=>by omega) (by simp[dC.kJ,dC.il]) (λs G=>(H s G).1) (by simp) (by
    have ca:=vL H
    have:=aV (wd d) P
    rw[du.il];omega)
   have gT:=(bi.step U).get
   have gR:=(bn.step U).get
   simp only[rf,dC.ux,dC.DE,dC.nQ]at C gT gR fin
   simp[C,gT,gR,dG,fin.1]
   exact fin.2
  ·simp[u]
   refine gd O (by simp) ⟨o,b,p,r,1⟩ ⟨⟨rfl,c,E,by simp⟩,by simp⟩ ?_
   rintro _ hE ⟨e,rfl,A,B,j,f⟩
   simp only at B j f
   obtain⟨z,g⟩:=c.tape f j
   have m:=D.step g
   have fin:=ln (i:=⟨o,b,p,r,d,cnt⟩) (args:=[.ptr b 0 0 0,.int .i64 d]) (nm:=[120]) m z (F.trans g) A (by omega)
   simp[rg,m.get,fin.1]
   exact fin.2
 ·simp[u,C]
  refine dM (λR=> ?_) (λR=> ?_)
  ·simp at R
   obtain⟨⟨⟨a6,a7⟩,a8⟩,eH⟩:=R
   obtain⟨d,rfl⟩:∃e,d=e+1:=⟨d-1,by omega⟩
   have av:binop .sub (.int .i64 ((d:Int)+1)) (.int .i64 1)=some (.int .i64 d):=by
    rw[wt,<-ju,jB (by omega) (by omega)];simp
   obtain⟨M,K⟩:=c.set (th':=ap) (left':=left) (se':=set) (tx':=N) (at2:=true) (lp':=aE) c9 X hl
   simp only[rf]at M K
   simp[u,bk,C,dG,av]
   generalize dI V b _=dn at*
   have aA:=D.step M
   have bp:=F.trans M
   refine gd c4 (by simp) ⟨o,b,p,r,d,2⟩ ⟨⟨rfl,K,E,by simp only;omega,by simp only;omega,by simp⟩,by simp only;omega⟩ ?_
   rintro v an ⟨l,sv,H,P,Q,L⟩
   simp only at sv H P Q L
   have Z:=aA.step L
   have bN:=bp.trans L
   have S:=sv.gc
   obtain⟨tJ,bi,b6,bX,b8⟩:=kz Q bN ⟨11,0,0,true,false,[.agg [.int .i64 0,.int .i64 0,.str [],.str [],.dq [] false,.int .i64 0,.int .i64 0,.str [],.dq [] false,.dq [] false,.dq [] false]]⟩ ⟨11,0,1,true,false,[.agg [.int .i64 8,.int .i64 0,.str [],.str [],.dq [] false,.int .i64 0,.int .i64 0,.str [],.dq [] false,v,.dq [] false]]⟩
   have bn:=bX _ _ Z
   have b7:=b8 _ _ _ _ _ sv (au _)
   simp[u,S.1,S.2]
   generalize dI (an.cons _) an.size _=dd at*
   obtain⟨b9,ap,left,set,N,al,aE,bT,G,C,X,hl⟩:=tJ.ex
   obtain⟨U,c6⟩:=tJ.set (th':=ap) (left':=left) (se':=set) (tx':=N) (at2:=false) (lp':=aE) C X hl
   have eM:=bi.lt
   have eN:=U.ok.sz
   have fin:=oN (cnt:=cnt) (args:=[.ptr b 0 0 0,.int .i64 (d+1:Nat)]) (op:=8) (nm:=[]) (e:=⟨0,0,[],[]⟩) (le:=[]) (bn.step U) c6 (b6.trans U) ((b7.step U (by omega)).cell aA.lt (by omega)) (iL _ _ _ false) (iL _ _ _ false) (by omega) (λI=>by omega) (by simp[dC.kJ,dC.il]) (λs G=>(H s G).1) (by simp) (by
    have ca:=vL H
    have:=aV (wd d) P
    rw[du.il];omega)
   have gT:=(bi.step U).get
   have gR:=(bn.step U).get
   simp only[rf,dC.ux,dC.DE,dC.nQ]at C gT gR fin
   simp[C,gT,gR,dG,fin.1]
   exact fin.2
  ·simp[u]
   refine gd O (by simp) ⟨o,b,p,r,1⟩ ⟨⟨rfl,c,E,by simp⟩,by simp⟩ ?_
   rintro _ hE ⟨e,rfl,A,B,j,f⟩
   simp only at B j f
   obtain⟨z,g⟩:=c.tape f j
   have m:=D.step g
   have fin:=ln (i:=⟨o,b,p,r,d,cnt⟩) (args:=[.ptr b 0 0 0,.int .i64 d]) (nm:=[120]) m z (F.trans g) A (by omega)
   simp[rg,m.get,fin.1]
   exact fin.2
 ·by_cases J:(decide (0<d)&&decide (0<left)&& !N&& !al)=true
  ·simp at J
   obtain⟨⟨⟨a6,a7⟩,a8⟩,eH⟩:=J
   subst a8
   subst eH
   obtain⟨d,rfl⟩:∃e,d=e+1:=⟨d-1,by omega⟩
   have bs:=λ{tb:eG} (ht:tb.h 212=some wz) s=>c1 ht [.ptr b 0 0 0,.str s] V ⟨o,r,b,p,s,rfl,c,by omega⟩
   simp[u,C,a7,bs]
   refine dM (λR=> ?_) (λR=> ?_)
   ·simp[QI,rg]
    have ds:(I.size=V.size)=False:=by have:=D.lt;simp;omega
    have sv:=SV.lit (d:=2*d+2) (l:=[zI 9,B6 [97] [] ⟨2,0,[120],[]⟩]) (es:=[.agg [.int .i64 9,.int .i64 0,.str [99],.str [],.dq [] false,.int .i64 0,.int .i64 0,.str [],.dq [] false,.dq [] false,.dq [] false],(B6 [97] [] ⟨2,0,[120],[]⟩).t]) c (λ_ _=> .cons (N1 _ _) (.cons (du.ft _ _) .nil))
    have c7:=Step.cons c.ok c.lt ⟨11,0,0,true,false,[.agg [.int .i64 9,.int .i64 0,.str [99],.str [],.dq [] false,.int .i64 0,.int .i64 0,.str [],.dq [] false,.dq [] false,.dq [] false],(B6 [97] [] ⟨2,0,[120],[]⟩).t]⟩
    have ef:=D.step c7
    have fin:=oN (cnt:=cnt) (args:=[.ptr b 0 0 0,.int .i64 (d+1:Nat)]) (op:=4) (nm:=[109]) (e:=⟨0,0,[],[]⟩) (le:=[]) ef (c.cons _) (F.trans c7) (sv.cell D.lt (by simp)) (iL _ _ _ false) (iL _ _ _ false) (by omega) (λI=>by omega) (by simp[dC.kJ,dC.il]) (λs G=>by
     rcases List.mem_cons.1 G with rfl|G
     ·exact N0 (by omega)
     ·rw[List.mem_singleton.1 G];exact BT (by simp) (.nm _) (λI=>absurd rfl I)) (by simp) (by
     have:=Aq d
     simp[du.jA,du.il,S0,B6,du.kJ (du.mk 1 0 [97] [] [] (dC.mk 2 0 [120] []) [] []),dC.kJ,dC.il];omega)
    simp only[dC.ux,dC.DE,dC.nQ,B6]at fin
    simp at fin
    simp[ds,D.get,fin.1]
    exact fin.2
   ·simp[u]
    refine gd O (by simp) ⟨o,b,p,r,1⟩ ⟨⟨rfl,c,E,by simp⟩,by simp⟩ ?_
    rintro _ hE ⟨e,rfl,A,B,j,f⟩
    simp only at B j f
    obtain⟨z,g⟩:=c.tape f j
    have m:=D.step g
    have fin:=ln (i:=⟨o,b,p,r,d+1,cnt⟩) (args:=[.ptr b 0 0 0,.int .i64 d]) (nm:=[120]) m z (F.trans g) A (by omega)
    simp[rg,m.get,fin.1]
    exact fin.2
  ·have J:(decide (0<d)&&decide (0<left)&& !N&& !al)=false:=by simpa using J
   simp[u,C,J]
   refine gd O (by simp) ⟨o,b,p,r,1⟩ ⟨⟨rfl,c,E,by simp⟩,by simp⟩ ?_
   rintro _ hE ⟨e,rfl,A,B,j,f⟩
   simp only at B j f
   obtain⟨z,g⟩:=c.tape f j
   have m:=D.step g
   have fin:=ln (i:=⟨o,b,p,r,d,cnt⟩) (args:=[.ptr b 0 0 0,.int .i64 d]) (nm:=[120]) m z (F.trans g) A (by omega)
   simp[rg,m.get,fin.1]
   exact fin.2
 ·by_cases J:(decide (0<d)&&decide (0<left)&& !N)=true
  ·simp at J
   obtain⟨⟨a6,a7⟩,a8⟩:=J
   subst a8
   skip
   obtain⟨d,rfl⟩:∃e,d=e+1:=⟨d-1,by omega⟩
   have bs:=λ{tb:eG} (ht:tb.h 212=some wz) s=>c1 ht [.ptr b 0 0 0,.str s] V ⟨o,r,b,p,s,rfl,c,by omega⟩
   simp[u,a7,bs]
   refine dM (λR=> ?_) (λR=> ?_)
   ·simp[u,C]
    refine qS (by simp) c.tp c.ok (by omega) (by omega) E λY bz cb t4 aN=> ?_
    obtain⟨ae,aX⟩:=c.tape aN t4
    have l4:=D.step aX
    have dk:binop .add (.int .i64 10) (.int .i64 Y)=some (.int .i64 (10+Y)):=J1 (by simp) (by omega) (by omega)
    simp[dk]
    have ds:(I.size=bz.size)=False:=by have:=l4.lt;simp;omega
    have sv:=SV.lit (d:=2*d+2) (l:=[zI (10+Y)]) (es:=[.agg [.int .i64 (10+Y),.int .i64 0,.str [99],.str [],.dq [] false,.int .i64 0,.int .i64 0,.str [],.dq [] false,.dq [] false,.dq [] false]]) ae (λ_ _=> .cons (N1 _ _) .nil)
    have c7:=Step.cons ae.ok ae.lt ⟨11,0,0,true,false,[.agg [.int .i64 (10+Y),.int .i64 0,.str [99],.str [],.dq [] false,.int .i64 0,.int .i64 0,.str [],.dq [] false,.dq [] false,.dq [] false]]⟩
    have ef:=l4.step c7
    have fin:=oN (cnt:=cnt) (args:=[.ptr b 0 0 0,.int .i64 (d+1:Nat)]) (op:=4) (nm:=[109]) (e:=⟨0,0,[],[]⟩) (le:=[]) ef (ae.cons _) ((F.trans aX).trans c7) (sv.cell l4.lt (by simp)) (iL _ _ _ false) (iL _ _ _ false) (by omega) (λI=>by omega) (by simp[dC.kJ,dC.il]) (λs G=>by rw[List.mem_singleton.1 G];exact N0 (by omega)) (by simp) (by
     have:=Aq d
     simp[du.jA,du.il,S0];omega)
    simp only[dC.ux,dC.DE,dC.nQ]at fin
    simp at fin
    simp[ds,l4.get,fin.1]
    exact fin.2
   ·simp[u]
    refine gd O (by simp) ⟨o,b,p,r,1⟩ ⟨⟨rfl,c,E,by simp⟩,by simp⟩ ?_
    rintro _ hE ⟨e,rfl,A,B,j,f⟩
    simp only at B j f
    obtain⟨z,g⟩:=c.tape f j
    have m:=D.step g
    have fin:=ln (i:=⟨o,b,p,r,d+1,cnt⟩) (args:=[.ptr b 0 0 0,.int .i64 d]) (nm:=[120]) m z (F.trans g) A (by omega)
    simp[rg,m.get,fin.1]
    exact fin.2
  ·have J:(decide (0<d)&&decide (0<left)&& !N)=false:=by simpa using J
   simp[u,J]
   refine gd O (by simp) ⟨o,b,p,r,1⟩ ⟨⟨rfl,c,E,by simp⟩,by simp⟩ ?_
   rintro _ hE ⟨e,rfl,A,B,j,f⟩
   simp only at B j f
   obtain⟨z,g⟩:=c.tape f j
   have m:=D.step g
   have fin:=ln (i:=⟨o,b,p,r,d,cnt⟩) (args:=[.ptr b 0 0 0,.int .i64 d]) (nm:=[120]) m z (F.trans g) A (by omega)
   simp[rg,m.get,fin.1]
   exact fin.2
 ·simp[u,C]
  refine dM (λR=> ?_) (λR=> ?_)
  ·obtain⟨M,K⟩:=c.set (th':=ap) (left':=left) (se':=true) (tx':=N) (at2:=al) (lp':=aE) c9 X hl
   simp only[rf]at M K
   simp[u,C,dG]
   generalize dI V b _=dn at*
   have aA:=D.step M
   have bp:=F.trans M
   refine gd O (by simp) ⟨o,b,p,r,1⟩ ⟨⟨rfl,K,E,by simp⟩,by simp⟩ ?_
   rintro _ hE ⟨e,rfl,A,B,j,f⟩
   simp only at B j f
   obtain⟨z,g⟩:=K.tape f j
   have m:=aA.step g
   have fin:=FJ (i:=⟨o,b,p,r,d,cnt⟩) (args:=[.ptr b 0 0 0,.int .i64 d]) (cs:=[.int .i64 14,.int .i64 0,.str [102],.str [],.dq [] false,.int .i64 e.op,.int .i64 e.n,.str e.name,sl (e.l.map dC.t),.dq [] false,.dq [] false]) (s:=⟨14,0,[102],[],[],e,[],[]⟩) m z (bp.trans g) rfl
    (.cons (fJ ..) (.cons (fJ ..) (.cons (jH ..) (.cons (jH ..) (.cons (iL ..) (.cons (fJ ..) (.cons (fJ ..) (.cons (jH ..) (.cons (pO _ _ _ λx bu=>by obtain⟨y,_,rfl⟩:=List.mem_map.1 bu;simp) (.cons (iL ..) (.cons (iL ..) .nil)))))))))))
    (.mk (λI=>by simp at I) (λI=>by simp at I) (by simp) (λ_=>A) (by simp) (by simp)) (by
      have:=Aq d
      rw[du.kJ]
      simp only[du.qM,du.Iq,du.tT,du.wQ,du.il,dC.il];omega)
   simp[m.get,fin.1]
   exact fin.2
  ·simp[u]
   refine gd O (by simp) ⟨o,b,p,r,1⟩ ⟨⟨rfl,c,E,by simp⟩,by simp⟩ ?_
   rintro _ hE ⟨e,rfl,A,B,j,f⟩
   simp only at B j f
   obtain⟨z,g⟩:=c.tape f j
   have m:=D.step g
   have fin:=ln (i:=⟨o,b,p,r,d,cnt⟩) (args:=[.ptr b 0 0 0,.int .i64 d]) (nm:=[120]) m z (F.trans g) A (by omega)
   simp[rg,m.get,fin.1]
   exact fin.2
 ·cases N with
  |true=>
   simp[u,C]
   refine gd O (by simp) ⟨o,b,p,r,1⟩ ⟨⟨rfl,c,E,by simp⟩,by simp⟩ ?_
   rintro _ hE ⟨e,rfl,A,B,j,f⟩
   simp only at B j f
   obtain⟨z,g⟩:=c.tape f j
   have m:=D.step g
   have fin:=ln (i:=⟨o,b,p,r,d,cnt⟩) (args:=[.ptr b 0 0 0,.int .i64 d]) (nm:=[120]) m z (F.trans g) A (by omega)
   simp[rg,m.get,fin.1]
   exact fin.2
  |false=>
   simp[u,C]
   refine qS (by simp) c.tp c.ok (by omega) (by omega) E λY bz cb t4 aN=> ?_
   obtain⟨ae,aX⟩:=c.tape aN t4
   have l4:=D.step aX
   have bv:=F.trans aX
   simp
   refine dM (λR=> ?_) (λR=> ?_)
   ·have fin:=FJ (i:=⟨o,b,p,r,d,cnt⟩) (args:=[.ptr b 0 0 0,.int .i64 d]) (cs:=[.int .i64 15,.int .i64 0,.str [97],.str [102],.dq [] false,.int .i64 0,.int .i64 0,.str [],.dq [] false,.dq [] false,.dq [] false]) (s:=⟨15,0,[97],[102],[],⟨0,0,[],[]⟩,[],[]⟩) l4 ae bv rfl
     (.cons (fJ ..) (.cons (fJ ..) (.cons (jH ..) (.cons (jH ..) (.cons (iL ..) (.cons (fJ ..) (.cons (fJ ..) (.cons (jH ..) (.cons (iL ..) (.cons (iL ..) (.cons (iL ..) .nil)))))))))))
     (.mk (λI=>by simp at I) (λI=>by simp at I) (by simp) (λI=>by simp at I) (by simp) (by simp)) (by
       have:=Aq d
       rw[du.kJ,dC.kJ]
       simp only[du.qM,du.Iq,du.tT,du.wQ,du.il,dC.il,dC.DI];omega)
    simp[l4.get,fin.1]
    exact fin.2
   ·simp[u]
    refine gd O (by simp) ⟨o,b,p,r,1⟩ ⟨⟨rfl,ae,E,by simp⟩,by simp⟩ ?_
    rintro _ hE ⟨e,rfl,A,B,j,f⟩
    simp only at B j f
    obtain⟨z,g⟩:=ae.tape f j
    have m:=l4.step g
    have fin:=ln (i:=⟨o,b,p,r,d,cnt⟩) (args:=[.ptr b 0 0 0,.int .i64 d]) (nm:=[120]) m z (bv.trans g) A (by omega)
    simp[rg,m.get,fin.1]
    exact fin.2
theorem adg(a:Nat):(TO a).Ok Tryz.prog cx 118:=
 tX (λc:Tc=>c.d) (λa b=>YV (a+1) (YU a b (aag a b))) a
def tk:fK:=⟨Bool,λa=>[.bool a],λ_=>True,λa=> .int .i64 (if a then 1 else 0),λc a b=>by simp at b;rw[b]⟩
theorem MD:tk.Ok Tryz.prog cx 250:=by
 refine f8 (tb:=⟨pt [],ht []⟩) dX dU (iN 13 [] Tryz.func250) (λ_=>5) (by simp[tk]) (by simp[tk,Tryz.f250]) ?_
 rintro b _ c a
 cases b<;>(simp[tk]at a|-;simp[Tryz.f250,a])
theorem JQ{b:eG}(ht:b.p 250=some tk)(a:Bool):rl Tryz.prog cx b 250 [.bool a]=some (.int .i64 (if a then 1 else 0)):=fR ht MD a trivial
def Ux(c:T):Prop:=∃(b:Int) (a:Bool),c= .tuple [.int .i64 b,.bool a]
theorem DN(b:Int)(a:Bool):Ux (.tuple [.int .i64 b,.bool a]):=⟨b,a,rfl⟩
theorem Yc{b:ak}{c a:Int}(e:¬a=0):binop .quo (.int b c) (.int b a)=some (.int b (b.wrap (c.tdiv a))):=by
 have d:Pd a 0=false:=by rw[wP];simp[e]
 unfold binop
 simp[vz,d]
theorem ady{a:ak}{b:Int}:unop .neg (.int a b)=some (.int a (a.wrap (0-b))):=by
 show oS a (0-b)=_
 simp
theorem Fk:nZ Tryz.prog cx 233 (λa:Int×Int=>[.int .i64 a.1,.int .i64 a.2]) (λ_=>True) (λ_=>Ux):=by
 refine jk (tb:=⟨pt [(250,tk)],ht []⟩) dX dU (iN 2291 [] Tryz.func233) (λ_=>5) (λa e b=>by simp at b;exact aR b.1 b.2) (by simp) (by simp[Tryz.f233]) ?_
 rintro⟨f,a⟩ _ g c
 simp at c
 simp[Tryz.f233,c]
 repeat' (refine dM (λd=> ?_) (λd=> ?_)<;>simp[d,c,JQ,DN,ady])
theorem CP:nZ Tryz.prog cx 235 (λa:Int×Int×Int=>[.int .i64 a.1,.int .i64 a.2.1,.int .i64 a.2.2]) (λ_=>True) (λ_=>Ux):=by
 refine jk (tb:=⟨pt [(250,tk)],ht []⟩) dX dU (iN 9690595855641090246329287 [] Tryz.func235) (λ_=>5) (λa e b=>by simp at b;exact aR b.1 (aR b.2.1 b.2.2)) (by simp) (by simp[Tryz.f235]) ?_
 rintro⟨g,a,e⟩ _ h c
 simp at c
 simp[Tryz.f235,c]
 repeat' (refine dM (λd=> ?_) (λd=> ?_)<;>simp[d,c,JQ,DN,oH,wt,adz])
 all_goals (have f:¬e=0:=by simpa using d)
 all_goals simp [Yc f,E7 f,DN]
theorem wG:nZ Tryz.prog cx 234 (λa:Int=>[.int .i64 a]) (λ_=>True) (λ_=>CZ):=by
 refine jk (tb:=⟨pt [],ht []⟩) dX dU (iN 261 [] Tryz.func234) (λ_=>5) (λa e d=>by simpa using d) (by simp) (by simp[Tryz.f234]) ?_
 rintro a _ f b
 simp at b
 simp[Tryz.f234,b]
 repeat' (refine dM (λc=> ?_) (λc=> ?_)<;>simp[c,b])
end
end Go.Proofs.YtmaeadedikngoaaGreatDoor
