/- Texts WOf to WOh. -/
import Derived.Test.YtmaeadedikngoaaGreatDoorA34
set_option linter.all false
set_option maxRecDepth 100000
set_option maxHeartbeats 8000000
namespace Go.Proofs.YtmaeadedikngoaaGreatDoor
noncomputable section
open Go Go.TI
attribute [-simp] List.map_take List.map_drop List.map_append fH fh ej Bool.not_or Bool.not_and
attribute [simp] fG fj
attribute [-simp] size_cons
structure Ks where
 (P Q:List Int) (t:Int) (v:T) (b:Nat) (bx:iY)
def fnT(a:Ks):T:= .func 84 [.ptr a.b 0 0 0]
def Xd(c:H)(a:Ks):Prop:=c.get a.b=some (dI 1 0 [dG a.t])
def Od(a:Ks×Int)(d:List T)(c:H):Prop:=d=[dG a.2,.ptr a.1.b 0 0 0]/\Xd c a.1/\ij 0 c
def Je(a:Ks×Int)(e:List T)(b:H)(d:T)(c:H):Prop:=d= .bool (decide (a.2=a.1.t))/\Nb b c
def O7:(jF (Ks×Int) Od Je).Ok Tryz.prog cx 84:=by
 refine jv (tb:=⟨pt [],ht []⟩) fc fa (je 11 [] Tryz.func84) (λ_ _=>10) (λo m a h=>by obtain⟨rfl,_⟩:=h;simp[Tryz.f84]) ?_;rintro⟨⟨k,l,j,p,b,n⟩,r⟩ _ a ⟨rfl,f,i⟩ q c;simp at c;obtain⟨d,e⟩:=c;have g:(TI.hr a).get b=some (dI 1 0 [dG j]):=(gF a b).trans f;simp[Tryz.f84,d,e,g];exact⟨rfl,(Nb.refl i.hr).out⟩
def Uj(a:Ks)(c:List T)(b:H):Prop:=c=[a.v,fnT a]/\Xd b a/\ij 0 b/\Gr b a.v 1 (gD (a.P++a.t::a.Q))/\a.t∉a.P/\a.P.length+a.Q.length<=1000
def On(c:Ks)(e:List T)(a:H)(d:T)(b:H):Prop:=d= dG c.P.length/\Nb a b
def Ho:(jF Ks Uj On).Ok Tryz.prog cx 129:=by
 refine jv (tb:=⟨pt [],ht [(84,jF (Ks×Int) Od Je)]⟩) fc fa (je 66483 [] Tryz.func129) (λ_ _=>2000) (λi O p I=>by obtain⟨rfl,_⟩:=I;simp[Tryz.f129]) ?_;rintro⟨a,e,j,l,o,A⟩ _ p ⟨rfl,u,M,m,ht,hl⟩ d t;simp only at m ht hl;simp[fnT]at t;obtain⟨g,c⟩:=t;have v:=λc:H=>m.len (cx:=cx) c nL _ rfl;simp at v;have z:∀b,dU l=some b->b<p.size:=λb q=>by obtain⟨_,_,_,_,L,_⟩:=m.box q;exact H.eJ L
 simp[Tryz.f129,g,v];refine sr a.length (λk d f=>Nb (TI.hr p) f/\dJ d 0 l/\dJ d 1 (.func 84 [.ptr o 0 0 0])/\dJ d 7 (dG ((a.length:Int)+((e.length:Int)+1)))/\dJ d 8 (dG k)) ?_ dB (k:=0) dB ⟨Nb.refl M.hr,by simp[g,c]⟩;rintro k d f Q ⟨h,g,c,r,s⟩;have N:ij 0 f:=⟨h.ok.hp,h.ok.low,aw _⟩;have y:=h.hr;have D:Gr f l 1 (gD (a++j::e)):=m.mono λb q=>y.get b (z b q);have E:binop .add (dG (k:Int)) (dG 1)=some (dG ((k:Int)+1)):=iy dB dB;obtain⟨x,n⟩:∃x,(a++j::e)[k]? =some x:=⟨_,aB dD⟩;obtain⟨p1,B,C⟩:=(show oX f 1 l _ from .inr D).idx (te:=Ed) rfl rfl (i:=k) (x:= dG x) (by rw[aQ,n];rfl) rfl;simp[g,c,r,s,show(k:Int)<(a.length:Int)+((e.length:Int)+1)by omega,B,C];refine iu O7 dC (⟨a,e,j,l,o,A⟩,x) ⟨rfl,(y.get o (H.eJ u)).trans u,N⟩ ?_;rintro _ P ⟨rfl,w⟩;simp;by_cases G:k<a.length
 ·have J:¬x=j:=by
   rw[bY G]at n;rintro rfl;exact ht (ax n)
  simp[g,c,r,s,J,E];exact⟨k+1,dB,dB,h.trans w,dC⟩
 ·have F:k=a.length:=dB;subst F;have K:x=j:=by simpa using n.symm
  simp[K];exact⟨rfl,(h.trans w).out⟩
def Ve(f:H)(g j:Ty)(h:ab)(b d e a c:Nat)(k:iY)(i:g.u= .slice h)(ht:cx.ty h=some j)(m:f.get b=some k)(o:k.sz=j.size)(n:c<=a):KG cx f g (.arr b d e a false) (some c) none none=some (.val (.arr b d (e+c) (a-c) false) f):=by
 unfold KG;have l:jp cx f g.u (.arr b d e a false)=true:=by
  rw[i];unfold jp;simp only[ht,m,o,Nat.beq_refl]
 rw[l,ir,show yD none none=true from rfl,ir,show asSlice g.u (.arr b d e a false)= .arr b d e a false by rw[i];rfl];show val f (gh (Nat.ble c a) (gh (Nat.ble a a) (dV (hU (Nat.add e c)) λq=>dV (hU (Nat.sub a c)) λp=>some (T.arr b d q p false))))=_;simp[n]
def Po{d:Nat}{b:Env}{c:H}(a:List ah)(e:af ab):jn (.call ⟨.builtin .clear,a.toArray,e⟩) cx d b c=dV (fP (fR cx d b) a) λf=>lm .clear cx c e.toList f:=by
 show(dV (pZ cx d b a) λa=>lm .clear cx c e.toList a)=_;rw[Hc]
def WL{b:H}{c a g d:Nat}{f:Bool}{e:List T}(l:Hp b)(h:b.get c=some ⟨1,a,g,f,false,e⟩)(k:d<e.length):lm .clear cx b [38] [.arr c a d 1 false]=some (.val .undef (d8 b c ⟨1,a,g+1,f,false,e.set d (dG 0)⟩)):=by
 show C7 cx b 38 (.arr c a d 1 false)=_;unfold C7 oP;rw[kz,dY];simp only[show nL.u= .slice 3 from rfl,mM,dY];rw[h,dY];simp only[G7 l (H.eJ h)];show gh (Nat.beq a a) (gh (Nat.beq 1 1) (dV (kQ e d [dG 0]) λi=>dV (hU g.succ) λm=>dV (some (d8 b c ⟨1,a,m,f,false,i⟩)) λj=>some (lH.val T.undef j)))=_;rw[tN,aq dD,Nat.beq_refl,ir,show Nat.beq 1 1=true from rfl,ir,dY,iE,dY,dY,List.set_eq_take_append_cons_drop,aq k];simp
def Um(a:Ks)(d:List T)(c:H):Prop:=d=[a.v,fnT a]/\Xd c a/\ij 0 c/\Gr c a.v 1 (gD (a.P++a.t::a.Q))/\a.t∉a.P/\a.t∉a.Q/\a.P.length+a.Q.length<=1000/\dU a.v≠some a.b
def Ot(b:Ks)(f:List T)(c:H)(e:T)(d:H):Prop:=Gr d e 1 (gD (b.P++b.Q))/\dU e=dU b.v/\ij c.size d/\∀a,a<c.size->dU b.v≠some a->d.get a=c.get a
def PS{P b:List Int}{t:Int}{a:Nat}(d:a<b.length):(gD (P++b.take a++(t::b).drop a)).set (P.length+a) (dG b[a])=gD (P++b.take (a+1)++(t::b).drop (a+1)):=by
 rw[<-bW,List.set_append_right _ _ dD];have c:(t::b).drop a=(t::b)[a]' dD::(t::b).drop (a+1):=aI dD;rw[c,show P.length+a-(P++b.take a).length=0 by simp;omega,cQ,aW d];show gD _=gD _;congr 1;simp only[aV,co,cz]
def Fk:(jF Ks Um Ot).Ok Tryz.prog cx 83:=by
 refine jv (tb:=⟨pt [],ht [(84,jF (Ks×Int) Od Je),(129,jF Ks Uj On)]⟩) fc fa (je 537399539 [] Tryz.func83) (λ_ _=>2000) (λi a h bC=>by obtain⟨rfl,_⟩:=bC;simp[Tryz.f83]) ?_;rintro⟨P,c,t,F,A,ae⟩ _ h ⟨rfl,T,b9,C,aN,aX,hl,Y⟩ z av;simp only at C aN aX hl Y;simp[fnT]at av;obtain⟨s,p⟩:=av;have K:=λp:H=>C.len (cx:=cx) p nL _ rfl;simp at K;have a8:∀b,dU F=some b->b<h.size:=λb g=>by obtain⟨_,_,_,_,b7,_⟩:=C.box g;exact H.eJ b7
 simp[Tryz.f83,s,p];refine iu Ho dC ⟨P,c,t,F,A,ae⟩ ⟨rfl,(gF h A).trans T,b9.hr,C.mono λb _=>gF h b,aN,hl⟩ ?_;rintro _ c4 ⟨rfl,b8⟩;have bn:binop .add (dG (P.length:Int)) (dG 1)=some (dG ((P.length:Int)+1)):=iy dB dB;simp[show¬((P.length:Int)=-1)by omega,bn];have Z:=b8.hr;refine sr c.length (λd z h'=>ij h.size h'/\Gr h' F 1 (gD (P++c.take d++(t::c).drop d))/\(∀b,b<h.size->dU F≠some b->h'.get b=h.get b)/\dJ z 0 F/\dJ z 1 (.func 84 [.ptr A 0 0 0])/\dJ z 5 (dG ((P.length+d:Nat):Int))/\dJ z 6 (dG ((P.length+d+1:Nat):Int))) ?_ dB (k:=0) dB ⟨Z.ok,by simpa using C.mono λb g=>Z.get b (a8 b g),λb g _=>Z.get b g,by simp[s,p]⟩;rintro d z h' c6 ⟨w,D,Q,s,p,R,G⟩;have a6:ij 0 h':=⟨w.hp,w.low,aw _⟩;obtain⟨i,aA⟩:∃i,i=P.length+d:=⟨_,rfl⟩;obtain⟨j,u⟩:∃j,j=P.length+(c.length+1):=⟨_,rfl⟩;have bz:(P.length:Int)+((c.length:Int)+1)=j:=dB;rw[<-aA]at R G;rw[bz]at K;have S:(gD (P++c.take d++(t::c).drop d)).length=j:=dD;have bp:binop .add (dG (i:Int)) (dG 1)=some (dG ((i:Int)+1)):=iy dB dB;have bs:binop .add (dG ((i:Int)+1)) (dG 1)=some (dG ((i:Int)+1+1)):=iy dB dB;by_cases X:d<c.length
 ·have B:(P++c.take d++(t::c).drop d)[i+1]? =some c[d]:=by
   rw[cD dD,bK];rw[show d+(i+1-(P++c.take d).length)=d+1 by simp;omega];simp[X]
  obtain⟨f,bi⟩:∃f,(P++c.take d++(t::c).drop d)[i]? =some f:=⟨_,aB dD⟩;obtain⟨e,m,y,q,o,n,l,J,I⟩:=D.at (x:= dG c[d]) (i:=i+1) (by rw[aQ,B];rfl);obtain⟨ce,cy,c7,cX,dd,U,V,bT,aE⟩:=D.at (x:= dG f) (i:=i) (by rw[aQ,bi];rfl);rw[n]at U;simp at U;obtain⟨rfl,rfl⟩:=U;rw[l]at V;simp at V;obtain⟨rfl,rfl,rfl⟩:=V;rw[S]at n I aE;have al:=PS (P:=P) (t:=t) X;rw[<-aA]at al;generalize bN:c[d]=M at*
  have bS:¬M=t:=λk=>aX (by rw[<-k,<-bN];exact aC X);subst n;simp at Y;have cb:ka ((i:Int)+1)=some (i+1):=by have:=eQ (show(0:Int)<=((i+1:Nat):Int)by omega);simpa using this
  simp[s,p,G,K,show(i:Int)+1<j by omega,cb,l,J,I];refine iu O7 dC (⟨P,c,t,.arr e m 0 j false,A,ae⟩,M) ⟨rfl,(Q A (H.eJ T) (by simpa using Y)).trans T,a6⟩ ?_;rintro _ E ⟨rfl,v⟩;have W:=(v.get e (H.eJ l)).trans l;have r:∀f b,(d8 E e f).get b=if b=e then some f else E.get b:=λf b=>dQ W f b;simp[s,p,R,G,bS,W,bT,aE,bp,bs];have L:ij h.size E:=⟨v.ok.hp,v.ok.low,aS w.sz v.ok.sz⟩;have ap:=(D.mono (h':=E) λb g=>v.get b (by simp at g;have:=H.eJ l;omega)).setAt rfl W i (dG M) (h':=d8 E e ⟨1,m,y+1,q,false,o.set i (dG M)⟩) (ver2:=y+1) (ex2:=q) (by rw[r,aq rfl]);rw[al,aV]at ap;have di:=w.sz;exact⟨d+1,dB,dB,L.put _ _,ap,λb g u=>by rw[r,ao (λN=>u N.symm),v.get b dB];exact Q b g (by simpa using u),dB⟩
 ·have bu:d=c.length:=dB;subst bu;obtain⟨e,m,y,q,o,n,l,J,I⟩:=D.at (x:= dG ((P++c.take c.length++(t::c).drop c.length)[i]' dD)) (i:=i) (by rw[aQ,aB dD];rfl);rw[S]at n I;have b6:i<o.length:=by
   rcases aF i o.length with k|k
   ·exact k
   ·rw[aM k]at J;simp at J
  have bk:o.take j=gD (P++c.take c.length++(t::c).drop c.length):=by
   rcases D with⟨rfl,_⟩|⟨cp,cL,c9,c1,de,B,O,an⟩
   ·simp at n
   ·rw[n]at B;simp at B;obtain⟨rfl,rfl,_⟩:=B;rw[l]at O;simp at O;obtain⟨_,_,rfl⟩:=O;rw[S]at an;exact an
  subst n;have r:∀f b,(d8 h' e f).get b=if b=e then some f else h'.get b:=λf b=>dQ l f b;have bB:j-i=1:=dB;have a7:=Ve h' nL Ed _ e m 0 j i _ rfl mM l rfl dB;rw[bB,Nat.zero_add]at a7;have ca:=KF (cx:=cx) (h:=d8 h' e ⟨1,m,y+1,q,false,o.set i (dG 0)⟩) nL Ed _ e m 0 j i false _ rfl mM (by rw[r,aq rfl]) rfl dB;simp[s,R,G,K,show¬(i:Int)+1<j by omega,a7,Po,WL a6.hp l b6,ca];have L:=(w.put e ⟨1,m,y+1,q,false,o.set i (dG 0)⟩).out h;refine⟨.inr ⟨e,m,y+1,q,o.set i (dG 0),?_,by rw[fQ,r,aq rfl],?_⟩,rfl,⟨L.hp,L.low,by simpa using w.sz⟩,λb g u=>by
   rw[fQ,r,ao (λN=>u (by rw[N];rfl))];exact Q b g u⟩
  ·simp;omega
  ·have bH:(gD (P++c)).length=i:=dD;rw[bH,List.take_set_of_le (au _)];have:=bP (List.take i) bk;rw[List.take_take,cE dB]at this;rw[this,aL];show List.take i (gD (P++c++(t::c).drop c.length))=gD (P++c);rw[gD,List.map_append,db dD,bJ dD]
def QP{g i:Type}{f:g->i->Prop}:∀{b:List g} {a:List i},b.length=a.length->(∀(d:Nat) e c,b[d]? =some e->a[d]? =some c->f e c)->iG f b a:=by
 intro b;induction b with
 |nil=>intro a hl _;cases a with
  |nil=>exact .nil
  |cons c a=>simp at hl
 |cons e b l=>intro a hl h;cases a with
  |nil=>simp at hl
  |cons c a=>exact .cons (h 0 e c rfl rfl) (l (by simpa using hl) λd m n j k=>h (d+1) m n (by simpa using j) (by simpa using k))
def Gx{b c:Type}{d:b->c->Prop}{f:List b}{g:List c}(k:iG d f g){e:Nat}{i:b}{j:c}(l:f[e]? =some i)(m:g[e]? =some j):d i j:=by
 obtain⟨o,a,n⟩:=k.get m;rw[l]at a;simp only[ar]at a;rw[a];exact n
structure Dj(w:ee)(t:Int)(c0 c2 c3:T)(h:H)(es:List T)(S:fK)(ver:Nat):Prop where
 sy:Ba 4 h.size h c0 c2 c3 es S
 ok:ij 0 h
 g0:h.get 0=some (dI 6 0 [w.t])
 g1:h.get 1=some (dI 4 ver [.agg [c0,dG S.tx,c2,c3]])
 g2:h.get 2=some (dI 1 0 [dG t])
 g3:h.get 3=some (dI 4 0 [.agg [dH,dG 0,dH,dH]])
section
variable {w:ee}{t:Int}{c0 c2 c3:T}{h h':H}{es:List T}{S:fK}{ver:Nat}
def Dj.put(a:Dj w t c0 c2 c3 h es S ver){b:Nat}{x:iY}(d:h.get b=some x)(j:4<=b){g:iY}{f:List T}{e:fK}(i:Ba 4 h.size (d8 h b g) c0 c2 c3 f e)(ht:e.tx=S.tx):Dj w t c0 c2 c3 (d8 h b g) f e ver:=
 ⟨by rw[fV];exact i,a.ok.put _ _,by rw[dQ d,ao dB];exact a.g0,by rw[dQ d,ao dB,ht];exact a.g1,by rw[dQ d,ao dB];exact a.g2,by rw[dQ d,ao dB];exact a.g3⟩
def Dj.oZ(c:Dj w t c0 c2 c3 h es S ver){a e k:Nat}{f:Bool}{l:List T}(g:dU c3=some a)(j:h.get a=some ⟨3,e,k,f,false,l⟩){i:Nat}{me:dP}(m:S.dM[i]? =some me)(d:dP->dP):
 Dj w t c0 c2 c3 (d8 h a ⟨3,e,k+1,f,false,l.set i (d me).t⟩) es {S with dM:=S.dM.modify i d} ver:=by
 have:=c.put j (c.sy.b a (.inr (.inr g))).1 (c.sy.oZ g j i (d me)) rfl;rw[oe m];exact this
def Dj.qt(g:Dj w t c0 c2 c3 h es S ver){d i m:Nat}{j:Bool}{n:List T}(k:dU c0=some d)(l:h.get d=some ⟨2,i,m,j,false,n⟩){c:Nat}{f:eg}(hl:S.ew[c]? =some f)(e:eg->eg){rv:T}(hr:oX h 1 rv (gD (e f).eY))(o:∀a,dU rv=some a->4<=a/\a<h.size/\dU c0≠some a/\dU c2≠some a/\dU c3≠some a):
 Dj w t c0 c2 c3 (d8 h d ⟨2,i,m+1,j,false,n.set c (.agg [dG (e f).iW,rv])⟩) (es.set c (.agg [dG (e f).iW,rv])) {S with ew:=S.ew.modify c e} ver:=by
 have:=g.put l (g.sy.b d (.inl k)).1 (g.sy.qt k l c hr o) rfl;rw[oe hl];exact this
def Dj.Yc(c:Dj w t c0 c2 c3 h es S ver){a f k:Nat}{g:Bool}{l:List T}(i:dU c2=some a)(j:h.get a=some ⟨1,f,k,g,false,l⟩)(d:Nat)(e:Bool):Dj w t c0 c2 c3 (d8 h a ⟨1,f,k+1,g,false,l.set d (.bool e)⟩) es {S with done:=S.done.set d e} ver:=
 c.put j (c.sy.b a (.inr (.inl i))).1 (c.sy.Yc i j d e) rfl
def Dj.tx(a:Dj w t c0 c2 c3 h es S ver)(b:Int):Dj w t c0 c2 c3 (d8 h 1 (dI 4 (ver+1) [.agg [c0,dG b,c2,c3]])) es {S with tx:=b} (ver+1):=
 ⟨by rw[fV];exact(a.sy.tx b).mono (au _) λc d _=>by rw[dQ a.g1,ao dB],a.ok.put _ _,by rw[dQ a.g1,ao dB];exact a.g0,by rw[dQ a.g1,aq rfl],by rw[dQ a.g1,ao dB];exact a.g2,by rw[dQ a.g1,ao dB];exact a.g3⟩
def Dj.ZI(c:Dj w t c0 c2 c3 h es S ver){l:List dP}(j:Xl h h' c3 l):Dj w t c0 c2 c3 h' es {S with dM:=l} ver:=by
 have k:∀a,a<4->dU c3≠some a:=λa d f=>by have:=(c.sy.b a (.inr (.inr f))).1;omega
 have r:=j.ok.sz;have e:∀a,dU c3≠some a->a<h.size->h'.get a=h.get a:=λa f d=>j.fr a d f;refine⟨⟨c.sy.g0.mono λa d=>e a (λf=> ?_) (c.sy.b a (.inl d)).2,c.sy.g2.mono λa d=>e a (λf=> ?_) (c.sy.b a (.inr (.inl d))).2,j.g,c.sy.el.imp λp q ⟨o,m,n,i⟩=>⟨o,m,n.mono λa d=>e a (i a d).2.2.2.2 (i a d).2.1,λa d=>⟨(i a d).1,by have:=(i a d).2.1;omega,(i a d).2.2⟩⟩,λa d=>⟨(c.sy.b a d).1,by have:=(c.sy.b a d).2;omega⟩⟩,⟨j.ok.hp,j.ok.low,aw _⟩,(e 0 (k 0 dB) (H.eJ c.g0)).trans c.g0,(e 1 (k 1 dB) (H.eJ c.g1)).trans c.g1,(e 2 (k 2 dB) (H.eJ c.g2)).trans c.g2,(e 3 (k 3 dB) (H.eJ c.g3)).trans c.g3⟩
 ·exact c.sy.g0.ne c.sy.g3 dF a d f
 ·exact c.sy.g2.ne c.sy.g3 dF a d f
def Dj.aaJ(d:Dj w t c0 c2 c3 h es S ver)(V:LkD es){f C K:Nat}{D:Bool}{L:List T}(p:dU c0=some f)(F:h.get f=some ⟨2,C,K,D,false,L⟩){l:Nat}{x:eg}(hl:S.ew[l]? =some x){W m:T}(R:es[l]? =some (.agg [W,m]))(i:∀a,dU m=some a->4<=a/\dU c0≠some a/\dU c2≠some a/\dU c3≠some a)
 {hT:H} (RN:ij h.size hT) (z:∀a,a<h.size->dU m≠some a->hT.get a=h.get a) {s:T} (u:eg->eg) (E:Gr hT s 1 (gD (u x).eY)) (r:∀a,dU s=some a->dU m=some a\/h.size<=a):
 Dj w t c0 c2 c3 (d8 hT f ⟨2,C,K+1,D,false,L.set l (.agg [dG (u x).iW,s])⟩) (es.set l (.agg [dG (u x).iW,s])) {S with ew:=S.ew.modify l u} ver:=by
 have Z:=RN.sz;have Q:=H.eJ F;have X:=(d.sy.b f (.inl p)).1;have I:dU m≠some f:=λc=>(i f c).2.1 p;have G:hT.get f=_:=(z f Q I).trans F;have A:∀n a,(d8 hT f n).get a=if a=f then some n else hT.get a:=λn a=>dQ G n a;have y:∀a,a<4->dU m≠some a:=λa p c=>by have:=(i a c).1;omega
 have o:∀n a,a<h.size->a≠f->dU m≠some a->(d8 hT f n).get a=h.get a:=λn a N O P=>by rw[A,ao O];exact z a N P
 refine⟨⟨?_,d.sy.g2.mono λa c=>o _ a (d.sy.b a (.inr (.inl c))).2 (λe=> ?_) (λe=>(i a e).2.2.1 c),d.sy.g3.mono λa c=>o _ a (d.sy.b a (.inr (.inr c))).2 (λe=> ?_) (λe=>(i a e).2.2.2 c),QP ?_ λk Y n g j=> ?_,λa c=>⟨(d.sy.b a c).1,by have:=(d.sy.b a c).2;simp;omega⟩⟩,(⟨RN.hp,RN.low,aw _⟩:ij 0 hT).put _ _,?_,?_,?_,?_⟩
 ·exact(d.sy.g0.mono (h':=hT) λa c=>z a (d.sy.b a (.inl c)).2 (λe=>(i a e).2.1 c)).setAt p G l _ (by rw[A,aq rfl])
 ·subst e;exact d.sy.g2.ne d.sy.g0 dF a c p
 ·subst e;exact d.sy.g3.ne d.sy.g0 dF a c p
 ·rw[cS,List.length_modify];exact d.sy.el.length
 ·rw[bV]at g;rw[List.getElem?_modify]at j;by_cases v:l=k
  ·subst v;rw[hl]at j;simp at j;rw[aq rfl]at g;split at g
   ·simp only[ar]at g;subst g j;refine⟨s,rfl,.inr (E.mono λa c=> ?_),λa c=> ?_⟩
    ·rw[A,ao];rintro rfl;rcases r a c with k|k
     ·exact I k
     ·omega
    ·obtain⟨_,_,_,_,j,_⟩:=E.box c;have U:=H.eJ j;refine⟨?_,by simpa using U,?_,?_,?_⟩
     ·rcases r a c with k|k
      ·exact(i a k).1
      ·omega
     ·rcases r a c with k|k
      ·exact(i a k).2.1
      ·exact λe=>by have:=(d.sy.b a (.inl e)).2;omega
     ·rcases r a c with k|k
      ·exact(i a k).2.2.1
      ·exact λe=>by have:=(d.sy.b a (.inr (.inl e))).2;omega
     ·rcases r a c with k|k
      ·exact(i a k).2.2.2
      ·exact λe=>by have:=(d.sy.b a (.inr (.inr e))).2;omega
   ·simp at g
  ·rw[ao v]at g;simp[v]at j;obtain⟨J,B,M,q⟩:=Gx d.sy.el g j;refine⟨J,B,M.mono λa c=>o _ a (q a c).2.1 (λe=>(q a c).2.2.1 (by rw[e];exact p)) (λe=>v ?_),λa c=>⟨(q a c).1,by have:=(q a c).2.1;simp;omega,(q a c).2.2⟩⟩;rw[B]at g;exact V l k m J _ _ a R g e c
 ·exact(o _ 0 (H.eJ d.g0) dB (y 0 dB)).trans d.g0
 ·exact(o _ 1 (H.eJ d.g1) dB (y 1 dB)).trans d.g1
 ·exact(o _ 2 (H.eJ d.g2) dB (y 2 dB)).trans d.g2
 ·exact(o _ 3 (H.eJ d.g3) dB (y 3 dB)).trans d.g3
end
end
noncomputable section
open Go Go.TI
attribute [-simp] List.map_take List.map_drop List.map_append fH fh ej Bool.not_or Bool.not_and
attribute [simp] fG fj
attribute [-simp] size_cons
structure ApO(w:ee)(s:fK)(t k o wk:Int)(c0 c2 c3:T)(h:H)(n:Int):Prop where
 ex:∃S es ver,fg w s t k o wk=(S,n)/\Dj w t c0 c2 c3 h es S ver
structure ApF(w:ee)(s:fK)(t k o:Int):Prop where
 en:jR w s t k o=true
 cl:w.gW.length<=1000000
 sm:NK s
 r:∀l∈s.ew,l.eY.length<=10
def wx:iq:=⟨ee×fK×Int×Int×Int×Int,λa=>[a.1.t,a.2.1.t,dG a.2.2.1,dG a.2.2.2.1,dG a.2.2.2.2.1,dG a.2.2.2.2.2],λa=>ApF a.1 a.2.1 a.2.2.1 a.2.2.2.1 a.2.2.2.2.1,λa=> .tuple [(fg a.1 a.2.1 a.2.2.1 a.2.2.2.1 a.2.2.2.2.1 a.2.2.2.2.2).1.t,dG (fg a.1 a.2.1 a.2.2.1 a.2.2.2.1 a.2.2.2.2.1 a.2.2.2.2.2).2,.bool true],λa c b=>by
 obtain⟨a1,a2,a3,a4,a5,d⟩:=a;obtain⟨e,f,g,h,i,j⟩:=c;simp at b;rw[ee.inj b.1,fK.inj b.2.1,b.2.2.1,b.2.2.2.1,b.2.2.2.2.1,b.2.2.2.2.2]⟩
def Pm:wx.Ok Tryz.prog cx 47:=by
 refine iC (tb:=⟨pt [(79,po)],ht [(80,jF fK El Up),(81,jF Q4 Ud Fg),(82,jF ICo Un Ou),(83,jF Ks Um Ot),(85,jF IC Ug Oj),(86,jF IC Uh Ol)]⟩) fc fa (je 772424076352653274097095092108232752774234854811365887 [(19,[(1,4)]),(21,[(1,10)]),(32,[(4,9),(5,9)]),(35,[(4,8),(5,8)])] Tryz.func47) (λ_=>1000005) (by simp[wx]) (by simp[wx,Tryz.f47]) ?_;rintro⟨w,s,t,k,o,r⟩ ⟨J,eH,⟨hl,eL,ht,hr,di⟩,c9⟩ b6 eD;simp only at J eH hl eL ht hr di c9;simp[wx]at eD|-;obtain⟨gd,ca,dd,eB,E,gj⟩:=eD;unfold jR at J;simp only[ay]at J;obtain⟨⟨⟨dm,dn⟩,bn⟩,J⟩:=J;obtain⟨bp,bs,eV⟩:=ou dm;have fs:=λ{tb:fN} (ht:tb.p 79=some po)=>M2 ht (w:=w) (s:=s) (t:=t) (k:=k) (o:=o) ⟨dm,dn,bn,J,eH,hr⟩
 ·simp[Tryz.f47,gd,ca,dd,eB,E,fs];generalize Y:(((hE.cons _).cons _).cons _).cons _=a8;have gQ:ij 0 a8:=by rw[<-Y];exact⟨dC,dC,dC⟩
  have gY:a8.size=4:=by rw[<-Y];rfl
  have e6:a8.get 0=some (dI 6 0 [w.t]):=by rw[<-Y];simp
  have e7:a8.get 1=some (dI 4 0 [s.t]):=by rw[<-Y];simp
  have e8:a8.get 2=some (dI 1 0 [dG t]):=by rw[<-Y];simp
  have I:a8.get 3=some (dI 4 0 [.agg [dH,dG 0,dH,dH]]):=by rw[<-Y];simp
  clear Y;refine iu Ph dC s ⟨rfl,gQ,hl,eL,ht,hr⟩ ?_;rintro _ X ⟨aN,aX,a6,ey,rfl,e4,an,eh,eR⟩;rw[gY]at e4 eh;have hv:=an.ok.sz;have gM:ij 0 X:=⟨an.ok.hp,an.ok.low,aw _⟩;have et:=(an.get 1 dB).trans e7;have fb:=(an.get 0 dB).trans e6;have fe:=(an.get 2 dB).trans e8;have fi:=(an.get 3 dB).trans I;have a7:∀v d,(d8 X 1 v).get d=if d=1 then some v else X.get d:=λv d=>dQ et v d;have c:Dj w t aN aX a6 (d8 X 1 (dI 4 1 [.agg [aN,dG s.tx,aX,a6]])) ey s 1:=⟨by rw[fV];exact e4.mono (au _) λd q _=>by rw[a7,ao dB],gM.put _ _,by rw[a7,ao dB];exact fb,by rw[a7,aq rfl],by rw[a7,ao dB];exact fe,by rw[a7,ao dB];exact fi⟩;have eo:iG (LkG (d8 X 1 (dI 4 1 [.agg [aN,dG s.tx,aX,a6]])) λd=>4<=d/\d<X.size/\dU aN≠some d/\dU aX≠some d/\dU a6≠some d) ey s.ew:=eh.imp λL m ⟨rv,U,fl,eu⟩=>⟨rv,U,fl.mono λd q=>by rw[a7,ao (by have:=(eu d q).1;omega)],eu⟩;simp[NF,et,eB];generalize d8 X 1 _=M at*
  have eM:=dn;rw[<-eV]at eM;obtain⟨me,G,hd⟩:=iK eM;have bz:=eQ (fw.1 dn).1;refine lq (λb6 bN=>∃n,ApO w s t k o r aN aX a6 bN n/\dJ b6 7 (.ptr 1 0 0 0)/\dJ b6 12 (.ptr 3 0 0 0)/\dJ b6 15 (dG n)) (λae=> ?_) (λae=> ?_) ?_
  ·have ae:k=1:=by simpa using ae
   subst ae
   ·obtain⟨y,V,av,W,aE,A,e,l,j⟩:=c.sy.g3.at (x:=me.t) (i:=t.toNat) (by simp[G]);rw[aG]at A j;subst A;simp[c.g1,c.g2,bz,e,l,j];exact⟨_,_,_,show fg w s t 1 o r=(s.oZ t (kx 2),0)by simp[fg],c.oZ rfl e G (kx 2)⟩
  ·have ae:¬k=1:=by simpa using ae
   rcases uc bn with g|rfl|rfl|rfl|rfl|rfl|rfl|rfl|rfl|g|g|g|g
   ·exact absurd g ae
   ·obtain⟨y,V,av,W,aE,A,e,l,j⟩:=c.sy.g3.at (x:=me.t) (i:=t.toNat) (by simp[G]);rw[aG]at A j;subst A;simp[c.g1,c.g2,bz,e,l,j];exact⟨_,_,_,show fg w s t 2 o r=(s.oZ t (kx 5),0)by simp[fg],c.oZ rfl e G (kx 5)⟩
   ·simp;exact⟨_,_,_,show fg w s t 3 o r=(s,0)by simp[fg],c⟩
   ·simp;exact⟨_,_,_,show fg w s t 4 o r=(s,0)by simp[fg],c⟩
   ·simp;exact⟨_,_,_,show fg w s t 5 o r=(s,0)by simp[fg],c⟩
   ·simp[c.g1,c.g2,ed];exact⟨_,_,_,show fg w s t 12 o r=({s with tx:=t},0)by simp[fg],c.tx t⟩
   ·simp[c.g1,ed];exact⟨_,_,_,show fg w s t 13 o r=({s with tx:=-1},0)by simp[fg],c.tx (-1)⟩
   ·obtain⟨y,V,av,W,aE,A,e,l,j⟩:=c.sy.g3.at (x:=me.t) (i:=t.toNat) (by simp[G]);rw[aG]at A j;subst A;simp[c.g1,c.g2,bz,e,l,j];exact⟨_,_,_,show fg w s t 14 o r=(s.oZ t (λx=>{x with atomic:=true}),0)by simp[fg],c.oZ rfl e G (λx=>{x with atomic:=true})⟩
   ·obtain⟨y,V,av,W,aE,A,e,l,j⟩:=c.sy.g3.at (x:=me.t) (i:=t.toNat) (by simp[G]);rw[aG]at A j;subst A;simp[c.g1,c.g2,bz,e,l,j];exact⟨_,_,_,show fg w s t 15 o r=(s.oZ t (λx=>{x with atomic:=false}),0)by simp[fg],c.oZ rfl e G (λx=>{x with atomic:=false})⟩
   ·have F:=mV bn g;rw[<-bp]at F;obtain⟨B,C,de⟩:=iK F;have D:=eQ (fw.1 F).1;obtain⟨L,Z,rv,rfl,bu,ap⟩:=c.sy.el.get C;obtain⟨y,V,av,W,aE,rfl,e,l,j⟩:=c.sy.g0.at Z;have bS:=H.eJ e;have ha:=(c.sy.b y (.inl rfl)).1;have ea:(1=M.size)=False:=by have:=H.eJ c.g1;simp;omega
    have hj:(y=M.size)=False:=dD;have hf:=hr B (ax C);have hg:∀d,dU rv=some d->d<M.size:=λd q=>(ap d q).2.1;rcases g with rfl|rfl|rfl|rfl|rfl|rfl
    ·simp[E,c.g1,c.g2,D,e,l,j];exact⟨_,_,_,show fg w s t 6 o r=(s.qt o (λh=>{h with iW:=t}),0)by simp[fg],c.qt rfl e C (λh=>{h with iW:=t}) bu ap⟩
    ·simp[E,c.g1,D,e,l,j];exact⟨_,_,_,show fg w s t 7 o r=(s.qt o (λh=>{h with iW:=-1}),0)by simp[fg],c.qt rfl e C (λh=>{h with iW:=-1}) bu ap⟩
    ·have bC:=di B (ax C);have cb:=c9 B (ax C);have gv:t∉B.eY:=by
      simp[Bq,de,mE]at J;exact J.2.2
     obtain⟨gS,U,gL,K⟩:=Gx eo Z C;simp at U;subst U;have b8:Gr M rv 1 (gD B.eY):=gL;obtain⟨ef,bH,fo,aA⟩:=b8.nq (cx:=cx) (f:=T.int .i64) c.ok kz rfl mM rfl dC (λx=>rfl) t dD;have hc:=c.ok.low;have hh:(2=M.size)=False:=by have:=H.eJ c.g2;simp;omega
     simp[E,c.g1,c.g2,D,e,l,j,fo];refine iu VA dC ⟨B.eY,t,ef⟩ ⟨rfl,aA.1,⟨aA.2.2.2.hp,aA.2.2.2.low,aw _⟩,bC,gv,cb⟩ ?_;rintro _ eC al;have gX:=aA.2.2.2.sz;have hy:=al.ok.sz;have c7:∀d,d<M.size->dU rv≠some d->eC.get d=M.get d:=λd bp bs=>(al.fr d dB (λq=>(aA.2.2.1 d q).elim bs dB)).trans (aA.2.1 d bp bs);have gz:∀d,d<4->dU rv≠some d:=λd q k=>by have:=(K d k).1;omega
     have cX:=(c7 1 (H.eJ c.g1) (gz 1 dB)).trans c.g1;have eW:=(c7 y bS (λk=>(K y k).2.2.1 rfl)).trans e;have gP:ij 0 eC:=⟨al.ok.hp,al.ok.low,aw _⟩;have hb:=HS B.eY t;simp[E,cX];refine kZ Mr dC ⟨lY B.eY t,ef⟩ ⟨rfl,al.g,gP,Cv bC t,dE⟩ ?_;rintro O hT ⟨L,N⟩;simp only at L;rw[L];have ec:=fk (N.get 1 (H.eJ cX));have t1:=(N.get 1 (H.eJ cX)).trans cX;have tb:=(N.get y (H.eJ eW)).trans eW;have gT:Gr hT ef 1 (gD (lY B.eY t)):=al.g.mono λd q=>by
      obtain⟨_,_,_,_,gy,_⟩:=al.g.box q;exact N.get d (H.eJ gy)
     have hA:=N.ok.sz;simp[D,tb,l,j,ec,ed,gT.im,gT.cells];exact⟨_,_,_,show fg w s t 8 o r=(s.qt o (λh=>{h with eY:=lY h.eY t}),0)by simp[fg],c.aaJ eR rfl e C Z (λd q=>⟨(K d q).1,(K d q).2.2⟩) (hT:=hT) ⟨N.ok.hp,N.ok.low,dB⟩ (λd bp bs=>(N.get d dB).trans (c7 d bp bs)) (λh=>{h with eY:=lY h.eY t}) gT aA.2.2.1⟩
    ·obtain⟨gS,U,gL,K⟩:=Gx eo Z C;simp at U;subst U;have b8:Gr M rv 1 (gD B.eY):=gL;have bC:=di B (ax C);have cb:=c9 B (ax C);have gp:t∈B.eY:=by
      simp[Bq,de,mE]at J;exact J.2
     obtain⟨P,Q,ce⟩:=List.append_of_mem gp;have cp:t∉P/\t∉Q:=by
      rw[ce]at bC;have ca:=List.pairwise_append.1 bC;have dd:=List.pairwise_cons.1 ca.2.1;exact⟨λk=>by have:=ca.2.2 t k t dC;omega,λk=>by have:=dd.1 t k;omega⟩
     simp[E,c.g1,D,e,l,j];have gE:dU rv≠some 2:=λk=>by have:=(K 2 k).1;omega
     refine kZ Fk dC ⟨P,Q,t,rv,2,⟨0,0,0,false,false,[]⟩⟩ ⟨rfl,c.g2,c.ok,by rw[ce]at b8;exact b8,cp.1,cp.2,by rw[ce]at cb;simp at cb|-;omega,gE⟩ ?_;rintro O bH ⟨b9,eF,eU,b7⟩;simp only at b9 eF b7;have eA:=b7 1 (H.eJ c.g1) (λk=>by have:=(K 1 k).1;omega);have fS:=b7 y bS (λk=>(K y k).2.2.1 rfl);have ec:=fk eA;have gZ:=eA.trans c.g1;have e9:=fS.trans e;have gn:B.eY.filter (λO=> !decide (O=t))=P++Q:=by
      rw[ce,List.filter_append,List.filter_cons];simp;rw[List.filter_eq_self.2 λx l=> ?_,List.filter_eq_self.2 λx l=> ?_]
      ·simp;exact λL=>cp.2 (by rw[<-L];exact l)
      ·simp;exact λL=>cp.1 (by rw[<-L];exact l)
     have gX:=eU.sz;simp[D,e9,l,j,ec,ed,b9.im,b9.cells];exact⟨_,_,_,show fg w s t 9 o r=(s.qt o (λh=>{h with eY:=h.eY.filter λO=> !decide (O=t)}),0)by simp[fg],c.aaJ eR rfl e C Z (λd q=>⟨(K d q).1,(K d q).2.2⟩) (hT:=bH) eU b7 (λh=>{h with eY:=h.eY.filter λO=> !decide (O=t)}) (by show Gr bH O 1 (gD (B.eY.filter _));rw[gn];exact b9) (λd q=> .inl (by rw[<-eF];exact q))⟩
    ·simp[E,c.g1,c.g2,D,e,l,j];exact⟨_,_,_,show fg w s t 10 o r=(s.qt o (λh=>{h with iW:=t}),0)by simp[fg],c.qt rfl e C (λh=>{h with iW:=t}) bu ap⟩
    ·simp[E,c.g1,D,e,l,j];exact⟨_,_,_,show fg w s t 11 o r=(s.qt o (λh=>{h with iW:=-1}),0)by simp[fg],c.qt rfl e C (λh=>{h with iW:=-1}) bu ap⟩
   ·have F:=py bn g;obtain⟨d,dk,eI⟩:=iK F;have dv:=rY dm dk;rw[<-bp]at dv;obtain⟨B,C,de⟩:=iK dv;have D:=eQ (fw.1 F).1;have e5:=eQ (fw.1 dv).1;obtain⟨L,Z,rv,rfl,bu,ap⟩:=c.sy.el.get C;obtain⟨y,V,av,W,aE,rfl,e,l,j⟩:=c.sy.g0.at Z;obtain⟨I,fv,gV,fB,c1,A,bi,cL,ds⟩:=c.sy.g3.at (x:=me.t) (i:=t.toNat) (by simp[G]);rw[aG]at A ds;subst A;have bS:=H.eJ e;have eE:=H.eJ bi;have ea:(1=y)=False:=by have:=(c.sy.b y (.inl rfl)).1;simp;omega
    have gB:(1=I)=False:=by have:=(c.sy.b I (.inr (.inr rfl))).1;simp;omega
    have eS:(2=y)=False:=by have:=(c.sy.b y (.inl rfl)).1;simp;omega
    have gI:(2=I)=False:=by have:=(c.sy.b I (.inr (.inr rfl))).1;simp;omega
    have eb:(I=y)=False:=by simp;rintro rfl;rw[e]at bi;simp at bi
    have eP:∀x,(c1.set t.toNat x)[t.toNat]? =some x:=λx=>by
     have:t.toNat<c1.length:=by
      rcases aF t.toNat c1.length with k|k
      ·exact k
      ·rw[aM k]at cL;simp at cL
     rw[bV];simp[this]
    have bk:∀v,(d8 M y v).get I=some ⟨3,fv,gV,fB,false,c1⟩:=λv=>by rw[dQ e,ao (by simpa using eb)];exact bi
    have eX:=λv z=>mR (bk v) (show 1≠I by simpa using gB) z;have e0:=λv z=>mR (bk v) (show 2≠I by simpa using gI) z;have er:=λ(f:eg->eg) (q:(f B).eY=B.eY)=>c.qt rfl e C f (rv:=rv) (by rw[q];exact bu) ap;rcases g with rfl|rfl|rfl|rfl
    ·have c6:=(er (λh=>{h with iW:=-1}) rfl).oZ rfl (bk _) G (λx=>{x with iN:=3});have bB:=c6.oZ (me:=(λx=>{x with iN:=3}) me) rfl ((dQ (bk _) _ _).trans (aq rfl)) (i:=t.toNat) (by simp[G]) (λx=>{x with cond:=o});simp only[Bj,List.set_set]at bB;simp[E,c.g0,c.g1,c.g2,D,e5,bz,dk,e,bi,l,cL,j,ds,m6,c.ok.hp,bS,eE,ea,eb,eS,eP,eX,e0];exact⟨_,_,_,show fg w s t 16 o r=((s.qt d.kG λh=>{h with iW:=-1}).oZ t (λx=>{x with iN:=3,cond:=o}),0)by simp[fg,eI],bB⟩
    ·have c6:=(er (λh=>{h with iW:=t}) rfl).oZ rfl (bk _) G (λx=>{x with iN:=2});have bB:=c6.oZ (me:=(λx=>{x with iN:=2}) me) rfl ((dQ (bk _) _ _).trans (aq rfl)) (i:=t.toNat) (by simp[G]) (λx=>{x with cond:=0});simp only[Bj,List.set_set]at bB;simp[E,c.g0,c.g1,c.g2,D,e5,bz,dk,e,bi,l,cL,j,ds,m6,c.ok.hp,bS,eE,ea,eb,eS,eP,eX,e0];exact⟨_,_,_,show fg w s t 17 o r=((s.qt d.kG λh=>{h with iW:=t}).oZ t (λx=>{x with iN:=2,cond:=0}),0)by simp[fg,eI],bB⟩
    ·simp[E,gj,c.g1];refine iu OP dC ⟨s,_,_,_,o,r⟩ ⟨rfl,c.sy.g3,c.ok,ht⟩ ?_;rintro _ bH ⟨n,rfl,eN,bT⟩;simp only at eN bT;simp;exact⟨_,_,_,show fg w s t 18 o r=({s with dM:=if iz o s.dM 0=[]then s.dM else s.dM.modify n.toNat (kx 4)},n)by
      have eO:yg o r s.dM=n:=by rw[eN];rfl
      unfold fg;simp;by_cases q:iz o s.dM 0=[]
      ·rw[aq q,aq q,<-eO];unfold yg;rw[q];rfl
      ·rw[ao q,ao q,eO];rfl,c.ZI bT⟩
    ·simp[E,c.g1];refine iu Hk dC ⟨s,_,_,_,o,0⟩ ⟨rfl,c.sy.g3,c.ok,ht⟩ ?_;rintro _ bH ⟨rfl,bT⟩;simp only at bT;simp;exact⟨_,_,_,show fg w s t 19 o r=({s with dM:=s.dM.map (Ce o)},((iz o s.dM 0).length:Int))by
      unfold fg;simp;intro a _;rfl,c.ZI bT⟩
   ·have F:=wE bn g;rw[<-eV]at F;obtain⟨u,cy,gw⟩:=iK F;have D:=eQ (fw.1 F).1;rcases g with rfl|rfl
    ·obtain⟨y,V,av,W,aE,A,e,l,j⟩:=c.sy.g3.at (x:=u.t) (i:=o.toNat) (by simp[cy]);rw[aG]at A j;subst A;simp[E,c.g1,D,e,l,j];exact⟨_,_,_,show fg w s t 20 o r=(s.oZ o (kx 1),0)by simp[fg],c.oZ rfl e cy (kx 1)⟩
    ·simp;exact⟨_,_,_,show fg w s t 21 o r=(s,0)by simp[fg],c⟩
   ·have F:=rj bn g;rw[<-bs]at F;obtain⟨u,cy,gw⟩:=iK F;have D:=eQ (fw.1 F).1;rcases g with rfl|rfl
    ·obtain⟨y,V,av,W,aE,A,e,l,j⟩:=c.sy.g2.at (x:= .bool u) (i:=o.toNat) (by simp[cy]);rw[aG]at A j;subst A;simp[E,c.g1,D,e,l,j];exact⟨_,_,_,show fg w s t 22 o r=({s with done:=s.done.set o.toNat true},0)by simp[fg],c.Yc rfl e o.toNat true⟩
    ·simp;exact⟨_,_,_,show fg w s t 23 o r=(s,0)by simp[fg],c⟩
  ·rintro b6 bN ⟨n,⟨S,fA,hn,gm,R⟩,gk,gg,gi⟩;obtain⟨ho,hq,hs⟩:=R.sy.fz;have fY:∀v,(d8 bN 3 v).get 3=some v:=λv=>(dQ R.g3 v _).trans (aq rfl);have c4:∀v,Ba 4 bN.size (d8 bN 3 v) aN aX a6 fA S:=λv=>R.sy.mono (au _) λd q _=>by rw[dQ R.g3,ao dB]
   have fC:=λv=>(c4 v).fz.1;have fE:=λv=>(c4 v).fz.2.1;have fL:=λv=>(c4 v).fz.2.2;simp[gk,gg,gi,R.g1,R.g3,fY,ed,fC,fE,fL,gm,R.ok.hp]
end
end Go.Proofs.YtmaeadedikngoaaGreatDoor
