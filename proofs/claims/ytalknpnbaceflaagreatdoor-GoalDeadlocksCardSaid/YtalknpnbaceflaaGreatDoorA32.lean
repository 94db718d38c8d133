/- W19g -/
import Derived.Test.YtalknpnbaceflaaGreatDoorA31
set_option linter.all false
set_option maxRecDepth 100000
set_option maxHeartbeats 0
namespace Go.Proofs.YtalknpnbaceflaaGreatDoor
noncomputable section
open Go Go.TI Tryz
attribute [-simp] List.map_take List.map_drop List.map_append ij gG fK Bool.not_or Bool.not_and
attribute [simp] ig gJ
section
attribute [-simp] size_cons
def K1:(km Mo (uI 2) (qK 2)).Ok prog cx 60:=xK (wZ (fn:=f60) (t:=46) (tb:=4) (te:=yl) jl func60 dY dY dY dY dY dY dY) dT (bytes:=16) dT 
def XL{cx:Ctx}{sz:Nat}{j o:af}{n c:Ty}(r:cx.ty j=some n)(k:n.u= .slice o)(l:cx.ty o=some c)(i:c.size=sz)(t:1<=c.bytes)(es:List T)(p:∀b∈es,b.cells.length=sz)(v:(es.length+1)*c.bytes<=70368744177664):
 ∃h:T,(∀a,Kq cx a n (sl es) none (some es.length) (some es.length)=some (.val h a))/\∀(a:H) (b:T),b.cells.length=sz->jx cx (a.cons (X sz 0 [b])) j j h (.arr a.size 0 0 1 false)=some (.val (.arr (a.size+1) 0 0 (es.length+1) false) ((a.cons (X sz 0 [b])).cons ⟨sz,0,0,false,false,es++[b]⟩)):=by
 have q:∀(a:H) (h:T) (b:T),b.cells.length=sz->(∀a:H,∀f,f≠ []->a.append c.size c.bytes h f=a.jH c.size c.bytes es f)->jx cx (a.cons (X sz 0 [b])) j j h (.arr a.size 0 0 1 false)=some (.val (.arr (a.size+1) 0 0 (es.length+1) false) ((a.cons (X sz 0 [b])).cons ⟨sz,0,0,false,false,es++[b]⟩)):=λa h b g s=>by
  unfold jx ql nD;rw[r,fw,fw];simp only[k,l,fw];rw[iR];simp only[fk,au,fw,List.drop_zero,List.take_succ_cons,List.take_zero,aQ,cV];simp only[decide_true,jf,cC,br,ax,bw,fw,mc (sz:=c.size) (es:=[b]) (by rw[i];simpa using g),s _ [b] G];unfold H.jH;rw[qY,fw,kE,jt,fw,mc (sz:=c.size) (by rw[i];exact p),mc (sz:=c.size) (es:=[b]) (by rw[i];simpa using g)];simp[t,v,i,kr]
 cases es with
 |nil=>exact⟨dV,λa=>by unfold Kq jW;simp only[k,l];rfl,λa b g=>q a _ b g λa f m=>by cases f with|nil=>exact absurd rfl m|cons=>rfl⟩
 |cons e d=>
  refine⟨.V (e::d) true,λa=>?_,λa b g=>q a _ b g λa f m=>by cases f with|nil=>exact absurd rfl m|cons=>rfl⟩;unfold Kq jW;simp only[k,l];show iS (fits c.size (e::d)) (iS true (val a (rE (e::d) false 0 (e::d).length (some (e::d).length))))=_;rw[i,mc p,jf,jf];unfold rE;rw[Py _ _ _ (ay _) (ax _),fw,show Nat.ble 0 (e::d).length=true by simp,jf,List.drop_zero,Nat.sub_zero,aL];show val a (iS (Nat.beq (e::d).length (e::d).length) (some (.V (e::d) true)))=_;simp
def JM(b:Nat)(c:fT)(a:H):Prop:=∃i d e f g h,oJ a b 9 i (qk c d e f g h)/\Lb b a 3 oy
def UE(a b:im):Ml cx yl a.t b.t=some (decide (a=b)):=by
 obtain⟨c,e⟩:=a;obtain⟨d,f⟩:=b;show Ml cx yl (.eZ [C c,.ez e]) (.eZ [C d,.ez f])=_;rw[NN rfl rfl];simp only[At,LP,Av,fw,show V5.u= .ez from rfl,show IG.u= .int .i64 from rfl,QJ,MZ,jf,NO,LJ];simp only[Cp,decide_true,jf,im.mk.injEq];by_cases g:c=d<;>cases e<;>cases f<;>simp[g]
def Ue(c d:ai)(b:im)(a:T):BQ c d b.t a=true:=id rfl
def LF{a:List im}{b c:Int}{d:im}(e:qB a b=some d):fixC a b c=decide (d=⟨c,true⟩):=by
 unfold fixC;rw[e];simp
def O6{b c:H}(d:Nb b c):b.size<=c.size/\iQ 0 c/\(∀a,a<b.size->c.get a=b.get a)/\∀a,a<b.size->gU b c a=true:=⟨d.ok.sz,⟨d.ok.hp,d.ok.low,ay _⟩,d.get,λa e=>il (d.get a e)⟩
def AF:iK:=⟨fg×fT×iv,λa=>[a.1.t,a.2.1.t,a.2.2.t],λa=>vZ a.1 a.2.1/\jk a.1 a.2.1 a.2.2.eJ=true/\GW 4 a.2.1.gu,λa=> .tuple [(mF a.1 a.2.1 a.2.2).1.t,.ez true],λa c b=>by simp at b;rw[show a=c from aD (fg.inj b.1) (aD (fT.inj b.2.1) (iv.inj b.2.2))]⟩
def Ww:AF.Ok prog cx 24:=by
 refine Ah (tb:=⟨pt [(56,CL),(57,rL),(58,we),(63,vy),(59,vD)],ht [(60,km Mo (uI 2) (qK 2)),(61,km Mo (uI 1) (qK 1)),(62,km Mo (uI 1) (qK 1))]⟩) jv jl (jF 2954892465099842490915138798468358981925535743 [(8,[(0,3),(3,5),(0,6),(3,8),(6,8),(3,10),(6,10),(3,13),(6,13),(3,15),(6,15),(3,17),(6,17),(0,18),(3,20),(6,20),(18,20),(0,21),(3,23),(6,23),(18,23),(21,23),(0,24),(3,26),(6,26),(18,26),(21,26),(24,26)])] func24) (λ_=>100) (by simp[AF]) nl9 ?_;rintro⟨u,d,e⟩ ⟨j,bH,fb⟩ D ap;simp only at j bH fb;simp[AF]at ap|-;obtain⟨gD,cL,e0⟩:=ap;have eh:=mF.eq_1 u d e;rw[au bH]at eh;have hE:=jk.eq_1 u d e.eJ;have e8:¬ja u d e.eJ<0:=λq=>by rw[au q,bH]at hE;simp at hE
 rw[Z e8,bH]at hE;have bN:=rQ e8;have⟨c,ec,bs,h4,h5,cF⟩:=j.hw.at bN;rw[ny (fQ.1 bN).1 ec]at eh hE;have e6:iV u.fM d.gu e.eJ c.fh c.obj=true:=by
  cases q:iV u.fM d.gu e.eJ c.fh c.obj
  ·rw[q]at hE;simp at hE
  ·rfl
 have hb:ju e.eJ u.fM.ee.length=true:=by have:=e6;unfold iV at this;simp only[az]at this;exact this.1.1.2
 have gI:=j.hw.ev c (aC ec);have av:=pK bN;have gZ:=λ{tb:io} (ht:tb.p 58=some we)=>N2 ht u d e.eJ j;have e5:=λ{tb:io} (ht:tb.p 57=some rL)=>Iw ht u d e.eJ j hb;have gP:=λ{tb:io} (ht:tb.p 63=some vy)=>PR ht u d e.eJ c.wm j av gI.2;have e7:=λ{tb:io} (ht:tb.p 56=some CL)=>abH ht u d;rw[j.hc.ce av,j.hc.fu av,j.hc.fx,j.hc.wk]at e7;have e9:=fb.len j.hc.Cx;have ha:Qt d.gu:=⟨by have:=j.l av;omega,by have:=j.l av;omega,by have:=j.l av;omega,λeB q=>by have:=e9 eB q;omega,j.hc.Cx⟩;have gF:∀{tb:io},tb.p 59=some vD->rl prog cx tb 59 [u.fM.t,d.gu.t,C e.eJ,C c.fh,C c.obj,C e.ry]=some (.tuple [(fZ u.fM d.gu e.eJ c.fh c.obj e.ry).1.t,C (fZ u.fM d.gu e.eJ c.fh c.obj e.ry).2,.ez true]):=λht=>iN ht K3 (u.fM,d.gu,e.eJ,c.fh,c.obj,e.ry) ⟨e6,by have:=lY j.hw.wb;simp only;omega,ha,λeB q=>by have:=e9 eB q;omega⟩;rw[bH]at e5;rw[eh];generalize ib:ja u d e.eJ=o at*
 generalize gM:oa u d e.eJ c.wm=ef at*
 simp[f24,gD,cL,e0,e7,e5,gZ,ec,bs,gF];generalize U:H.cons _ _=I;have hK:iQ 0 I:=by rw[<-U];exact⟨G,G,G⟩
 have h3:I.size=6:=by rw[<-U];rfl
 have gd:I.get 0=some (X 15 0 [u.t]):=by rw[<-U];simp
 have eO:I.get 1=some (X 9 0 [d.t]):=by rw[<-U];simp
 have gg:I.get 2=some (X 2 0 [e.t]):=by rw[<-U];simp
 have gi:I.get 3=some oy:=by rw[<-U];simp[oy]
 have gj:I.get 4=some (X 7 1 [c.t]):=by rw[<-U];simp
 have hP:I.get 5=some (X 4 1 [(fZ u.fM d.gu e.eJ c.fh c.obj e.ry).1.t]):=by rw[<-U];simp
 clear U;have hd:=j.hc.ce av;have hf:=j.hc.fu av;have jC:=lY j.hw.wb;refine mf K1 G ⟨sl (d.cells.map im.t),d.cells.map im.t⟩ ⟨rfl,G,λA W=>by obtain⟨z,_,rfl⟩:=List.mem_map.1 W;rfl,dR,hK⟩ ?_;rintro bX K ⟨gC,hC,gk⟩;simp only at gC;have⟨hW,hI,ed,b9⟩:=O6 hC;rw[h3]at hW ed b9;have a1:=(ed 1 B).trans eO;simp[a1,b9];refine mf K1 G ⟨sl (d.fH.map im.t),d.fH.map im.t⟩ ⟨rfl,G,λA W=>by obtain⟨z,_,rfl⟩:=List.mem_map.1 W;rfl,dR,hI⟩ ?_;rintro b6 k ⟨bu,fl,gm⟩;simp only at bu;have⟨hX,okB,gz,fA⟩:=O6 fl;have eF:∀b,b<6->gU K k b=true:=λb m=>fA b B;have di:=(gz 1 B).trans a1;have⟨ih,fo,c6⟩:=XL (cx:=cx) (sz:=1) kO rfl nP rfl G (iz d.order) (by simp[T.cells]) (by have:=j.hc.od;simp;omega);rw[aI]at fo c6;have c6:=c6 k (C o) rfl;have aA:∀{h h':H} {b:Nat},h.size<=b->gU h h' b=true:=λq=>jL (mP _ q);have hA:gU I K k.size=true:=aA B;have hB:gU K k k.size=true:=aA hX;have hj:(k.size=0)=False:=dR;have bS:(1=k.size)=False:=dR;simp[di,b9,eF,hA,hB,hj,bS,fo,c6];have⟨E,aX⟩:∃E,E=(k.cons (X 1 0 [C o])).cons ⟨1,0,0,false,false,iz d.order++[C o]⟩:=⟨_,rfl⟩;rw[<-aX];have KN:iQ 0 E:=by rw[aX];exact(okB.cons _).cons _
 have j5:E.size=k.size+2:=by rw[aX];rfl
 have eP:∀b,b<k.size->E.get b=k.get b:=λb m=>by rw[aX,fk,Z (by simp[size_cons];omega),fk,Z B]
 have gO:E.get (k.size+1)=some ⟨1,0,0,false,false,iz d.order++[C o]⟩:=by rw[aX];simp[size_cons]
 have p1:=(eP 1 B).trans di;refine mf FI G ⟨sl (d.fixed.map T.ez),d.fixed.map T.ez⟩ ⟨rfl,G,λA W=>by obtain⟨z,_,rfl⟩:=List.mem_map.1 W;rfl,by have:=j.hc.fx;have:=j.ev;simp;omega,KN⟩ ?_;rintro b8 an ⟨bA,hF,gv⟩;simp only at bA;have⟨j6,hJ,eS,eH⟩:=O6 hF;have aN:=(eS 1 B).trans p1;have fB:gU (k.cons (X 1 0 [C o])) E 1=true:=il (by rw[aX,fk,Z (by simp[size_cons];omega)]);simp[aN,eH 5 B,eH 1 B,fB,b9,eF];refine mf BO G ⟨sl (iz d.qA),iz d.qA⟩ ⟨rfl,G,by simp[T.cells],by have:=j.hc.wk;have:=j.ev;simp;omega,hJ⟩ ?_;rintro b7 x ⟨gK,hD,gn⟩;simp only at gK;have⟨hZ,okW,eR,fC⟩:=O6 hD;have hN:=(eR 1 B).trans aN;simp[gC.jc,gC.cells,bu.jc,bu.cells,bA.jc,bA.cells,gK.jc,gK.cells,fC 5 B,aA (h:=an) (h':=x) (b:=x.size) hZ,aA (h:=E) (h':=an) (b:=x.size) B,aA (h:=k.cons (X 1 0 [C o])) (h':=E) (b:=x.size) (by rw[size_cons];omega),aA (h:=K) (h':=k) (b:=x.size) B,aA (h:=I) (h':=K) (b:=x.size) B,okW.low];have w:=uS.eq_1 u d o c e.eJ e.ry;rw[gM]at w;generalize uS u d o c e.eJ e.ry=S at*
 generalize hr:fZ u.fM d.gu e.eJ c.fh c.obj e.ry=r at*
 obtain⟨J,c9⟩:=r;have⟨s,bC⟩:∃s,s=x.cons (X 9 1 [.eZ [sl (J.fI.map fa.t),C J.tx,sl (J.done.map T.ez),sl (J.ee.map ei.t),bX,b6,.arr (k.size+1) 0 0 (d.order.length+1) false,b8,b7]]):=⟨_,rfl⟩;simp only[<-bC];have eD:iQ 0 s:=by rw[bC];exact okW.cons _
 have hY:s.size=x.size+1:=by rw[bC];rfl
 have fW:s.get x.size=some (X 9 1 [.eZ [sl (J.fI.map fa.t),C J.tx,sl (J.done.map T.ez),sl (J.ee.map ei.t),bX,b6,.arr (k.size+1) 0 0 (d.order.length+1) false,b8,b7]]):=by rw[bC];simp
 have de:∀b,b<x.size->s.get b=x.get b:=λb m=>by rw[bC,fk,Z B]
 have eM:∀b,b<an.size->s.get b=an.get b:=λb m=>(de b B).trans (eR b m);have eL:∀b,b<E.size->s.get b=E.get b:=λb m=>(eM b B).trans (eS b m);have eK:∀b,b<k.size->s.get b=k.get b:=λb m=>(eL b B).trans (eP b m);have eI:∀b,b<K.size->s.get b=K.get b:=λb m=>(eK b B).trans (fl.get b m);have fS:∀b,b<6->s.get b=I.get b:=λb m=>(eI b B).trans (ed b m);have et:∀q,fq bX=some q->6<=q/\q<K.size:=λq n=>⟨by have:=gk q n;omega,by have⟨_,_,_,_,z,_⟩:=gC.box n;exact H.gh z⟩;have eu:∀q,fq b6=some q->K.size<=q/\q<k.size:=λq n=>⟨gm q n,by have⟨_,_,_,_,z,_⟩:=bu.box n;exact H.gh z⟩;have eA:∀q,fq b8=some q->E.size<=q/\q<an.size:=λq n=>⟨gv q n,by have⟨_,_,_,_,z,_⟩:=bA.box n;exact H.gh z⟩;have ey:∀q,fq b7=some q->an.size<=q/\q<x.size:=λq n=>⟨gn q n,by have⟨_,_,_,_,z,_⟩:=gK.box n;exact H.gh z⟩;have c4:∀(F:Nat) (a:T×aa (Nat×List T)),(qk {d with gu:=J,order:=d.order++[o]} bX b6 (.arr (k.size+1) 0 0 (d.order.length+1) false) b8 b7)[F]? =some a->∀q,fq a.1=some q->6<=q/\q<x.size/\(F=4/\q<K.size\/F=5/\K.size<=q/\q<k.size\/F=6/\q=k.size+1\/F=7/\E.size<=q/\q<an.size\/F=8/\an.size<=q):=by
  intro F a ap q n;unfold qk at ap;rcases F with _|_|_|_|_|_|_|_|_|F<;>simp at ap<;>subst ap<;>simp at n
  ·have:=et q n;omega
  ·have:=eu q n;omega
  ·omega
  ·have:=eA q n;omega
  ·have:=ey q n;omega
 have g:oJ s x.size 9 1 (qk {d with gu:=J,order:=d.order++[o]} bX b6 (.arr (k.size+1) 0 0 (d.order.length+1) false) b8 b7):=by
  refine⟨eD,fW,λf c1=>?_,λF o gS a b ap m q a6 hL=>gS ?_⟩
  ·simp only[qk,ci,cS,or_false]at c1;rcases c1 with rfl|rfl|rfl|rfl|rfl|rfl|rfl|rfl|rfl
   iterate 4 (show fq _=none;simp)
   ·exact⟨gC.mono λb m=>eI b (et b m).2,show(2:Nat)≠9 by decide⟩
   ·exact⟨bu.mono λb m=>eK b (eu b m).2,show(2:Nat)≠9 by decide⟩
   ·exact⟨.inr ⟨k.size+1,0,0,false,iz d.order++[C o],G,(eL _ B).trans gO,by simp[bQ,List.map_append]⟩,show(1:Nat)≠9 by decide⟩
   ·exact⟨bA.mono λb m=>eM b (eA b m).2,show(1:Nat)≠9 by decide⟩
   ·exact⟨gK.mono λb m=>de b (ey b m).2,show(1:Nat)≠9 by decide⟩
  ·have cL:=c4 F a ap q a6;have e0:=c4 o b m q hL;omega
 have eU:∀q,Fp s x.size q->6<=q:=λq n=>by
  rcases n with rfl|⟨A,W,v,fe,a6⟩
  ·omega
  ·rw[g.get]at W;simp only[aw]at W;subst W;simp only[iq,bD,cB,bG,T.cells]at fe;obtain⟨f,c1,rfl⟩:=List.mem_map.1 fe;have⟨F,gQ⟩:=cR c1;have:=c4 F f gQ q a6;omega
 have ab:∀b A,b<6->I.get b=some A->Lb x.size s b A:=λb A cL gE=>⟨(fS b cL).trans gE,λq=>by have:=eU b q;omega⟩;have l0:=ab 0 _ B gd;have l1:=ab 1 _ B eO;have l2:=ab 2 _ B gg;have l3:=ab 3 _ B gi;have l4:=ab 4 _ B gj;have kb:6<=x.size:=B;have fY:=(de 4 B).symm.trans l4.get;clear ab eU c4 fS eI eK eL eM de et eu eA ey fW hN aN p1 di a1 gd eO gg gi gj hP fC eH fB aA b9 eF fA;generalize x.size=R at*
 have bp:(4=R)=False:=dR;have hg:=eD.low;have hh:s.low<=s.size+1:=B;have hG:∀b,b<7->(s.size=b)=False:=λb m=>by simp;omega
 have hH:∀b,b<7->(b=s.size)=False:=λb m=>by simp;omega
 simp[bp,fY,l0.get,l1.get,l2.get,l4.get,hg,hh,hG,hH,gP];have fP:=(g.cons (X 2 1 [im.t ⟨c.value,true⟩])).cons (X 2 1 [im.t ⟨0,false⟩]);have dd:=Step.cons g.ok g.lt (X 2 1 [im.t ⟨c.value,true⟩]);have cb:=Step.cons (g.cons (X 2 1 [im.t ⟨c.value,true⟩])).ok (g.cons (X 2 1 [im.t ⟨c.value,true⟩])).lt (X 2 1 [im.t ⟨0,false⟩]);have a6:=(l1.step dd).step cb;have fs:=(l3.step dd).step cb;have fv:=(l4.step dd).step cb;have eE:=(Us g (X 2 1 [im.t ⟨c.value,true⟩])).step cb;have ae:=Us (g.cons (X 2 1 [im.t ⟨c.value,true⟩])) (X 2 1 [im.t ⟨0,false⟩]);rw[size_cons]at ae;have kd:6<=s.size:=B;generalize(s.cons _).cons _=ia at*
 generalize s.size=c7 at*
 clear dd cb l0 l1 l2 l3 l4 fY g eD hY;refine lV (λD h=>∃a7 a8 bg bi bn fX,oJ h R 9 1 (qk {d with gu:=J,order:=d.order++[o]} a7 a8 bg bi bn)/\Lb R h 1 (X 9 0 [d.t])/\Lb R h 3 oy/\Lb R h 4 (X 7 1 [c.t])/\Lb R h c7 (X 2 1 [im.t ⟨c.value,true⟩])/\Lb R h (c7+1) (X 2 fX [(cont ef c.value).t])/\Y D 4 (.fc 1 0 0 0)/\Y D 6 (.fc 3 0 0 0)/\Y D 8 (C o)/\Y D 9 (.fc 4 0 0 0)/\Y D 11 (C c9)/\Y D 13 (.fc R 0 0 0)/\Y D 14 (.fc c7 0 0 0)/\Y D 15 (.fc (c7+1) 0 0 0)) (λn=>?_) (λn=>?_) ?_
 ·subst n;simp[eE.get,ae.get];exact⟨⟨_,_,_,_,_,fP.qJ ae _⟩,yL a6 ae B,yL fs ae B,yL fv ae B,yL eE ae B,_,Ur ae _⟩
 ·subst n;simp;exact⟨⟨_,_,_,_,_,fP⟩,a6,fs,fv,eE,_,ae⟩
 rintro D h ⟨a7,a8,bg,bi,bn,fX,g,l1,l3,l4,fi,ab,e4,Q,cX,bB,eV,P,eW,eX⟩;simp[bB,l4.get];have eo:c.fh=3\/c.fh=4->ju c.obj d.cells.length=true:=λq=>by
  rw[hd];unfold j8 at cF;rcases q with q|q<;>simpa[q]using cF
 have er:c.fh=22\/c.fh=23->ju c.obj d.fH.length=true:=λq=>by
  rw[hf];unfold j8 at cF;rcases q with q|q<;>simpa[q]using cF
 have gV:o.toNat<d.fixed.length:=by rw[j.hc.fx];exact(fQ.1 bN).2
 have gX:o.toNat<d.qA.length:=by rw[j.hc.wk];exact(fQ.1 bN).2
 have O:=g.get;simp only[qk,aO,bF]at O;have fE:∀A z:Bool,mS (.ez A) 0 [.ez z]=some (.ez z):=λ_ _=>rfl;have fL:∀A z:Int,mS (C A) 0 [C z]=some (C z):=λ_ _=>rfl;simp only at w;have⟨ie,h7,jj,h9,j0,cd,cp,al,aE⟩:=(g.gr 7 rfl).Bd (te:=V5) rfl (i:=o.toNat) (by simpa using gV);simp at aE;refine lV (λD h=>JM R S h/\Y D 6 (.fc 3 0 0 0)/\Y D 13 (.fc R 0 0 0)) (λdv=>?_) (λdv=>?_) ?_
 ·have y:c.fh=3:=by simpa using dv
  have⟨A,aN,eN⟩:=jn (eo (.inl y));have V:=fQ.1 (eo (.inl y));simp[y,LF eN]at w;have⟨N,L⟩:=g.elem 7 rfl cd al o.toNat (.ez (decide (A=⟨c.value,true⟩)));simp[e4,Q,cX,bB,P,eW,O,l1.get,l4.get,fi.get,fU V.1,aN,bs,cp,al,aE,fE,UE,Ue];exact⟨_,_,_,_,_,_,by rw[w];simpa[qk,aW]using L,l3.step N⟩
 have hv:¬c.fh=3:=by simpa using dv
 simp;refine fN (λds=>?_) (λds=>?_)
 ·have y:c.fh=23:=by simpa using ds
  have⟨A,aN,eN⟩:=jn (er (.inr y));have V:=fQ.1 (er (.inr y));simp[y,LF eN]at w;have⟨N,L⟩:=g.elem 7 rfl cd al o.toNat (.ez (decide (A=⟨c.value,true⟩)));simp[e4,Q,cX,bB,P,eW,O,l1.get,l4.get,fi.get,fU V.1,aN,bs,cp,al,aE,fE,UE,Ue];exact⟨_,_,_,_,_,_,by rw[w];simpa[qk,aW]using L,l3.step N⟩
 have hs:¬c.fh=23:=by simpa using ds
 simp;refine fN (λbp=>?_) (λbp=>?_)
 ·have y:c.fh=4:=by simpa using bp
  have V:=fQ.1 (eo (.inr y));have⟨q,gw,hM,gy,hO,bS,eC,bT,bW⟩:=(g.gr 4 rfl).Bd (te:=yl) rfl (i:=c.obj.toNat) (by simpa using V.2);simp at bW;simp[y]at w;have⟨N,L⟩:=g.elem 4 rfl bS bT c.obj.toNat (cont ef c.value).t;simp[Q,bB,P,eX,O,l4.get,ab.get,fU V.1,eC,bT,bW];exact⟨_,_,_,_,_,_,by rw[w];simpa[qk,aW]using L,l3.step N⟩
 have hy:¬c.fh=4:=by simpa using bp
 simp;refine fN (λdn=>?_) (λdn=>?_)
 ·have y:c.fh=22:=by simpa using dn
  have V:=fQ.1 (er (.inl y));have⟨q,gw,hM,gy,hO,bS,eC,bT,bW⟩:=(g.gr 5 rfl).Bd (te:=yl) rfl (i:=c.obj.toNat) (by simpa using V.2);simp at bW;simp[y]at w;have⟨N,L⟩:=g.elem 5 rfl bS bT c.obj.toNat (cont ef c.value).t;simp[Q,bB,P,eX,O,l4.get,ab.get,fU V.1,eC,bT,bW];exact⟨_,_,_,_,_,_,by rw[w];simpa[qk,aW]using L,l3.step N⟩
 have hq:¬c.fh=22:=by simpa using dn
 have⟨ic,h6,iD,h8,jZ,cd,cp,al,aE⟩:=(g.gr 8 rfl).Bd (te:=Ek) rfl (i:=o.toNat) (by simpa using gX);simp at aE;simp;refine fN (λdk=>?_) (λdk=>?_)
 ·have y:c.fh=18:=by simpa using dk
  simp[y]at w;simp[eV];refine fN (λea=>?_) (λea=>?_)
  ·have eb:0<=c9:=by simpa using ea
   rw[au eb]at w;have⟨N,L⟩:=g.elem 8 rfl cd al o.toNat (C 1);simp[Q,cX,P,O,bs,cp,al,aE,fL];exact⟨_,_,_,_,_,_,by rw[w];simpa[qk,aW]using L,l3.step N⟩
  ·have eb:¬0<=c9:=by simpa using ea
   rw[Z eb]at w;simp[Q,P];exact⟨_,_,_,_,_,_,by rw[w];exact g,l3⟩
 have hn:¬c.fh=18:=by simpa using dk
 simp;refine fN (λdm=>?_) (λdm=>?_)
 ·have y:c.fh=19:=by simpa using dm
  simp[y]at w;have⟨N,L⟩:=g.elem 8 rfl cd al o.toNat (C c9);simp[Q,cX,eV,P,O,bs,cp,al,aE,fL];exact⟨_,_,_,_,_,_,by rw[w];simpa[qk,aW]using L,l3.step N⟩
 ·have ho:¬c.fh=19:=by simpa using dm
  simp[hv,hs,hy,hq,hn,ho]at w;simp[Q,P];exact⟨_,_,_,_,_,_,by rw[w];exact g,l3⟩
 rintro D h ⟨⟨ii,a7,a8,bg,bi,bn,g,l3⟩,Q,P⟩;have O:=g.get;simp only[qk,aO,bF]at O;have ff:=l3.get;unfold oy at ff;have ca:=g.qJ l3 (X 9 1 [.eZ [sl (S.gu.fI.map fa.t),C S.gu.tx,sl (S.gu.done.map T.ez),sl (S.gu.ee.map ei.t),a7,a8,bg,bi,bn]]);have gB:=(eG l3.get (X 9 1 [.eZ [sl (S.gu.fI.map fa.t),C S.gu.tx,sl (S.gu.done.map T.ez),sl (S.gu.ee.map ei.t),a7,a8,bg,bi,bn]]) 3).trans (au rfl);have hQ:=(ca.gr 4 rfl).fz G;have hR:=(ca.gr 5 rfl).fz G;have hS:=(ca.gr 6 rfl).fz G;have hU:=(ca.gr 7 rfl).fz G;have hV:=(ca.gr 8 rfl).fz G;simp[P,Q,O,ff,fG,gB,hQ,hR,hS,hU,hV,g.ok.hp]
def abA{d:io}(ht:d.p 24=some AF)(b:fg)(a:fT)(c:iv)(e:vZ b a)(f:jk b a c.eJ=true)(hr:GW 4 a.gu):rl prog cx d 24 [b.t,a.t,c.t]=some (.tuple [(mF b a c).1.t,.ez true]):=iN ht Ww (b,a,c) ⟨e,f,hr⟩
def GW.mF{b:fg}{c:fT}{d:iv}(e:GW 4 c.gu)(g:lj b)(a:jk b c d.eJ=true):GW 4 (mF b c d).1.gu:=by
 have f:ju d.eJ b.fM.ee.length=true:=by
  unfold jk iV at a;split at a
  ·simp at a
  ·simp only[az]at a;exact a.1.1.1.2
 unfold Go.Proofs.YtalknpnbaceflaaGreatDoor.mF;rw[au a];have:=fQ.1 f;have:=lY g.wb;exact A9 e _ B _ _ _
def Bv:iK:=⟨fg×List iv,λa=>[a.1.t,sl (a.2.map iv.t)],λa=>lj a.1/\a.2.length<=100000/\∃d,Bm a.1 a.2 (jI a.1)=some d,λa=> .tuple [((Bm a.1 a.2 (jI a.1)).getD default).t,.ez true],λa c b=>by simp at b;rw[show a=c from aD (fg.inj b.1) (jV (λ_ _=>iv.inj) b.2)]⟩
def aau:Bv.Ok prog cx 9:=by
 refine iF [(23,Bu),(24,AF)] (jF 134342519 [] func9) (λa=>100005) (by simp[Bv]) ?_;rintro⟨k,h⟩ ⟨i,hl,F,v⟩ f K;simp only at i hl v;simp[Bv]at K|-;obtain⟨P,Q⟩:=K;rw[v,dB];simp[f9,P,Q,XY,i];refine ik h.length B (λg f c=>∃e A,Bm k (h.drop g) e=some F/\xU (1000+g) k e/\GW 4 e.gu/\iQ 3 c/\c.get 0=some (X 15 0 [k.t])/\c.get 1=some oy/\c.get 2=some (X 9 A [e.t])/\Y f 2 (.fc 0 0 0 0)/\Y f 4 (.fc 1 0 0 0)/\Y f 6 (.fc 2 0 0 0)/\Y f 13 (sl (h.map iv.t))/\Y f 14 (C h.length)/\Y f 15 (C g)) ?_ ?_ B ⟨_,1,v,xU.start i,i.rdt,⟨G,by simp[size_cons],G⟩,by simp[size_cons],by simp[size_cons,oy],by simp[size_cons],G⟩
 ·rintro g f c L R ⟨e,A,hr,w,y,d,o,j,m,J,s,u,I,q,r⟩;have al:=d.ne (b:=0) B;have ap:=d.ne (b:=2) B;rw[aJ L]at hr;unfold Bm at hr;split at hr;rotate_left
  ·simp at hr
  rename_i x;have T:vZ k e:=⟨i,w.up B⟩;have N:=λ{ae:io} (ht:ae.p 24=some AF)=>abA ht k e h[g] T x y;have S:=(w.step h[g] x).up (Mq:=1000+(g+1)) B;have an:=d.ne (b:=1) B;have W:∀b,b<3->(c.size=b)=False:=λb n=>by have:=d.sz;simp;omega
  have ab:∀b,b<3->(b=c.size)=False:=λb n=>by have:=d.sz;simp;omega
  have U:=d.low;have V:c.low<=c.size+1:=B;simp[J,s,u,I,q,r,L,o,m,W,ab,U,V,N,R];have z:∀D l E b,b<3->(fJ ((c.cons D).cons l) 2 E).get b=if b=2 then some E else c.get b:=λD l E b n=>by
   have H:∀b,b<3->((c.cons D).cons l).get b=c.get b:=λb n=>by have:=d.sz;rw[fk,Z (by rw[size_cons];omega),fk,Z B]
   rw[eG ((H 2 B).trans m),H b n]
  exact⟨_,hr,S,y.mF i x,((d.cons _).cons _).put _ _,(z _ _ _ 0 B).trans o,(z _ _ _ 1 B).trans j,_,z _ _ _ 2 B⟩
 ·rintro f c ⟨e,A,hr,w,y,d,o,j,m,J,s,u,I,q,r⟩;rw[bR]at hr;have hr:e=F:=by simpa[Bm]using hr
  subst hr;unfold oy at j;have O:=λl=>(eG j l 1).trans (au rfl);simp[s,u,q,r,j,m,O,d.hp]
def afH{e:io}(ht:e.p 9=some Bv)(a:fg)(b:List iv)(c:fT)(f:lj a)(hl:b.length<=100000)(d:Bm a b (jI a)=some c):rl prog cx e 9 [a.t,sl (b.map iv.t)]=some (.tuple [c.t,.ez true]):=by
 have:=iN ht aau (a,b) ⟨f,hl,c,d⟩;simp only[Bv,d,dB]at this;exact this
