/- WOg -/
import Derived.Test.YtbappgeamhmmbaaGreatDoorA29
set_option linter.all false
set_option maxRecDepth 100000
set_option maxHeartbeats 0
namespace Go.Proofs.YtbappgeamhmmbaaGreatDoor
noncomputable section
open Go Go.TI Tryz
attribute [-simp] List.map_take List.map_drop List.map_append fj ez TI.d8 Bool.not_or Bool.not_and
attribute [simp] fh eG
section
attribute [-simp] size_cons
section
def PK{g i:Type}{f:g->i->Prop}:∀{b:List g} {a:List i},b.length=a.length->(∀(d:Nat) e c,b[d]? =some e->a[d]? =some c->f e c)->ir f b a:=by
 intro b;induction b with
 |nil=>intro a hl _;cases a with
  |nil=>exact .nil
  |cons c a=>simp at hl
 |cons e b l=>intro a hl h;cases a with
  |nil=>simp at hl
  |cons c a=>exact .cons (h 0 e c rfl rfl) (l (by simpa using hl) λd m n j k=>h (d+1) m n (by simpa using j) (by simpa using k))
def Fw{b c:Type}{d:b->c->Prop}{f:List b}{g:List c}(k:ir d f g){e:Nat}{i:b}{j:c}(l:f[e]? =some i)(m:g[e]? =some j):d i j:=by
 have⟨o,a,n⟩:=k.get m;rw[l]at a;simp only[ar]at a;rw[a];exact n
structure C5(w:dR)(t:Int)(c0 c2 c3:T)(h:H)(es:List T)(S:fa)(ver:Nat):Prop where
 sy:AW 4 h.size h c0 c2 c3 es S
 ok:gH 0 h
 g0:h.get 0=some (Z 6 0 [w.t])
 g1:h.get 1=some (Z 4 ver [.agg [c0,D S.tx,c2,c3]])
 g2:h.get 2=some (Z 1 0 [D t])
 g3:h.get 3=some (Z 4 0 [.agg [dw,D 0,dw,dw]])
section
variable {w:dR}{t:Int}{c0 c2 c3:T}{h h':H}{es:List T}{S:fa}{ver:Nat}
theorem C5.put(a:C5 w t c0 c2 c3 h es S ver){b:Nat}{x:iI}(d:h.get b=some x)(j:4<=b){g:iI}{f:List T}{e:fa}(i:AW 4 h.size (dT h b g) c0 c2 c3 f e)(ht:e.tx=S.tx):C5 w t c0 c2 c3 (dT h b g) f e ver:=
 ⟨by rw[fI];exact i,a.ok.put _ _,by rw[dF d,ao B];exact a.g0,by rw[dF d,ao B,ht];exact a.g1,by rw[dF d,ao B];exact a.g2,by rw[dF d,ao B];exact a.g3⟩
def C5.oD(c:C5 w t c0 c2 c3 h es S ver){a e k:Nat}{f:Bool}{l:List T}(g:dM c3=some a)(j:h.get a=some ⟨3,e,k,f,false,l⟩){i:Nat}{me:dE}(m:S.dC[i]? =some me)(d:dE->dE):
 C5 w t c0 c2 c3 (dT h a ⟨3,e,k+1,f,false,l.set i (d me).t⟩) es {S with dC:=S.dC.modify i d} ver:=by
 have:=c.put j (c.sy.b a (.inr (.inr g))).1 (c.sy.oD g j i (d me)) rfl;rw[nC m];exact this
def C5.ot(g:C5 w t c0 c2 c3 h es S ver){d i m:Nat}{j:Bool}{n:List T}(k:dM c0=some d)(l:h.get d=some ⟨2,i,m,j,false,n⟩){c:Nat}{f:dP}(hl:S.dW[c]? =some f)(e:dP->dP){rv:T}(hr:oQ h 1 rv (gF (e f).ed))(o:∀a,dM rv=some a->4<=a/\a<h.size/\dM c0≠some a/\dM c2≠some a/\dM c3≠some a):
 C5 w t c0 c2 c3 (dT h d ⟨2,i,m+1,j,false,n.set c (.agg [D (e f).iy,rv])⟩) (es.set c (.agg [D (e f).iy,rv])) {S with dW:=S.dW.modify c e} ver:=by
 have:=g.put l (g.sy.b d (.inl k)).1 (g.sy.ot k l c hr o) rfl;rw[nC hl];exact this
def C5.Yv(c:C5 w t c0 c2 c3 h es S ver){a f k:Nat}{g:Bool}{l:List T}(i:dM c2=some a)(j:h.get a=some ⟨1,f,k,g,false,l⟩)(d:Nat)(e:Bool):C5 w t c0 c2 c3 (dT h a ⟨1,f,k+1,g,false,l.set d (.bool e)⟩) es {S with done:=S.done.set d e} ver:=
 c.put j (c.sy.b a (.inr (.inl i))).1 (c.sy.Yv i j d e) rfl
def C5.tx(a:C5 w t c0 c2 c3 h es S ver)(b:Int):C5 w t c0 c2 c3 (dT h 1 (Z 4 (ver+1) [.agg [c0,D b,c2,c3]])) es {S with tx:=b} (ver+1):=
 ⟨by rw[fI];exact(a.sy.tx b).mono (au _) λc d _=>by rw[dF a.g1,ao B],a.ok.put _ _,by rw[dF a.g1,ao B];exact a.g0,by rw[dF a.g1,aq rfl],by rw[dF a.g1,ao B];exact a.g2,by rw[dF a.g1,ao B];exact a.g3⟩
def C5.ZC(c:C5 w t c0 c2 c3 h es S ver){l:List dE}(j:Xe h h' c3 l):C5 w t c0 c2 c3 h' es {S with dC:=l} ver:=by
 have k:∀a,a<4->dM c3≠some a:=λa d f=>by have:=(c.sy.b a (.inr (.inr f))).1;omega
 have r:=j.ok.sz;have e:∀a,dM c3≠some a->a<h.size->h'.get a=h.get a:=λa f d=>j.fr a d f;refine⟨⟨c.sy.g0.mono λa d=>e a (λf=>?_) (c.sy.b a (.inl d)).2,c.sy.g2.mono λa d=>e a (λf=>?_) (c.sy.b a (.inr (.inl d))).2,j.g,c.sy.el.imp λp q ⟨o,m,n,i⟩=>⟨o,m,n.mono λa d=>e a (i a d).2.2.2.2 (i a d).2.1,λa d=>⟨(i a d).1,by have:=(i a d).2.1;omega,(i a d).2.2⟩⟩,λa d=>⟨(c.sy.b a d).1,by have:=(c.sy.b a d).2;omega⟩⟩,⟨j.ok.hp,j.ok.low,aw _⟩,(e 0 (k 0 B) (H.ej c.g0)).trans c.g0,(e 1 (k 1 B) (H.ej c.g1)).trans c.g1,(e 2 (k 2 B) (H.ej c.g2)).trans c.g2,(e 3 (k 3 B) (H.ej c.g3)).trans c.g3⟩
 ·exact c.sy.g0.ne c.sy.g3 dt a d f
 ·exact c.sy.g2.ne c.sy.g3 dt a d f
def C5.dD(d:C5 w t c0 c2 c3 h es S ver)(an:LkD es){f I Q:Nat}{K:Bool}{R:List T}(q:dM c0=some f)(M:h.get f=some ⟨2,I,Q,K,false,R⟩){l:Nat}{A:dP}(hl:S.dW[l]? =some A){o m:T}(ae:es[l]? =some (.agg [o,m]))(i:∀a,dM m=some a->4<=a/\dM c0≠some a/\dM c2≠some a/\dM c3≠some a)
 {hT:H} (QN:gH h.size hT) (E:∀a,a<h.size->dM m≠some a->hT.get a=h.get a) {u:T} (v:dP->dP) (L:Gr hT u 1 (gF (v A).ed)) (s:∀a,dM u=some a->dM m=some a\/h.size<=a):
 C5 w t c0 c2 c3 (dT hT f ⟨2,I,Q+1,K,false,R.set l (.agg [D (v A).iy,u])⟩) (es.set l (.agg [D (v A).iy,u])) {S with dW:=S.dW.modify l v} ver:=by
 have z:=QN.sz;have Y:=H.ej M;have ap:=(d.sy.b f (.inl q)).1;have O:dM m≠some f:=λc=>(i f c).2.1 q;have N:hT.get f=_:=(E f Y O).trans M;have F:∀n a,(dT hT f n).get a=if a=f then some n else hT.get a:=λn a=>dF N n a;have C:∀a,a<4->dM m≠some a:=λa q c=>by have:=(i a c).1;omega
 have p:∀n a,a<h.size->a≠f->dM m≠some a->(dT hT f n).get a=h.get a:=λn a V W X=>by rw[F,ao W];exact E a V X
 refine⟨⟨?_,d.sy.g2.mono λa c=>p _ a (d.sy.b a (.inr (.inl c))).2 (λe=>?_) (λe=>(i a e).2.2.1 c),d.sy.g3.mono λa c=>p _ a (d.sy.b a (.inr (.inr c))).2 (λe=>?_) (λe=>(i a e).2.2.2 c),PK ?_ λk x n g j=>?_,λa c=>⟨(d.sy.b a c).1,by have:=(d.sy.b a c).2;simp;omega⟩⟩,(⟨QN.hp,QN.low,aw _⟩:gH 0 hT).put _ _,?_,?_,?_,?_⟩
 ·exact(d.sy.g0.mono (h':=hT) λa c=>E a (d.sy.b a (.inl c)).2 (λe=>(i a e).2.1 c)).setAt q N l _ (by rw[F,aq rfl])
 ·subst e;exact d.sy.g2.ne d.sy.g0 dt a c q
 ·subst e;exact d.sy.g3.ne d.sy.g0 dt a c q
 ·rw[cG,List.length_modify];exact d.sy.el.length
 ·rw[bU]at g;rw[List.getElem?_modify]at j;by_cases y:l=k
  ·subst y;rw[hl]at j;simp at j;rw[aq rfl]at g;split at g
   ·simp only[ar]at g;subst g j;refine⟨u,rfl,.inr (L.mono λa c=>?_),λa c=>?_⟩
    ·rw[F,ao];rintro rfl;rcases s a c with k|k
     ·exact O k
     ·omega
    ·have⟨_,_,_,_,j,_⟩:=L.box c;have al:=H.ej j;refine⟨?_,by simpa using al,?_,?_,?_⟩
     ·rcases s a c with k|k
      ·exact(i a k).1
      ·omega
     ·rcases s a c with k|k
      ·exact(i a k).2.1
      ·exact λe=>by have:=(d.sy.b a (.inl e)).2;omega
     ·rcases s a c with k|k
      ·exact(i a k).2.2.1
      ·exact λe=>by have:=(d.sy.b a (.inr (.inl e))).2;omega
     ·rcases s a c with k|k
      ·exact(i a k).2.2.2
      ·exact λe=>by have:=(d.sy.b a (.inr (.inr e))).2;omega
   ·simp at g
  ·rw[ao y]at g;simp[y]at j;have⟨P,G,U,r⟩:=Fw d.sy.el g j;refine⟨P,G,U.mono λa c=>p _ a (r a c).2.1 (λe=>(r a c).2.2.1 (by rw[e];exact q)) (λe=>y ?_),λa c=>⟨(r a c).1,by have:=(r a c).2.1;simp;omega,(r a c).2.2⟩⟩;rw[G]at g;exact an l k m P _ _ a ae g e c
 ·exact(p _ 0 (H.ej d.g0) B (C 0 B)).trans d.g0
 ·exact(p _ 1 (H.ej d.g1) B (C 1 B)).trans d.g1
 ·exact(p _ 2 (H.ej d.g2) B (C 2 B)).trans d.g2
 ·exact(p _ 3 (H.ej d.g3) B (C 3 B)).trans d.g3
end
end
structure ApO(w:dR)(s:fa)(t k o wk:Int)(c0 c2 c3:T)(h:H)(n:Int):Prop where
 ex:∃S es ver,ei w s t k o wk=(S,n)/\C5 w t c0 c2 c3 h es S ver
structure ApF(w:dR)(s:fa)(t k o:Int):Prop where
 en:jw w s t k o=true
 cl:w.fV.length<=1000000
 sm:MM s
 r:∀l∈s.dW,l.ed.length<=10
def vX:ge:=⟨dR×fa×Int×Int×Int×Int,λa=>[a.1.t,a.2.1.t,D a.2.2.1,D a.2.2.2.1,D a.2.2.2.2.1,D a.2.2.2.2.2],λa=>ApF a.1 a.2.1 a.2.2.1 a.2.2.2.1 a.2.2.2.2.1,λa=> .tuple [(ei a.1 a.2.1 a.2.2.1 a.2.2.2.1 a.2.2.2.2.1 a.2.2.2.2.2).1.t,D (ei a.1 a.2.1 a.2.2.1 a.2.2.2.1 a.2.2.2.2.1 a.2.2.2.2.2).2,.bool true],λa c b=>by
 obtain⟨a1,a2,a3,a4,a5,a6⟩:=a;obtain⟨d,e,f,g,h,i⟩:=c;simp at b;rw[dR.inj b.1,fa.inj b.2.1,b.2.2.1,b.2.2.2.1,b.2.2.2.2.1,b.2.2.2.2.2]⟩
def Oi:vX.Ok prog cx 48:=by
 refine Bp (tb:=⟨pt [(91,oH)],ht [(92,jr fa DJ T1),(93,jr PX TQ EG),(94,jr ICo TZ Nr),(95,jr Js TY Nq),(97,jr HH TT Nk),(98,jr HH TU Nl)]⟩) iB gW (iP 772424076352653274097095092108232752774234854811365887 [(19,[(1,4)]),(21,[(1,10)]),(32,[(4,9),(5,9)]),(35,[(4,8),(5,8)])] func48) (λ_=>1000005) (by simp[vX]) nl9 ?_;rintro⟨w,s,t,k,o,r⟩ ⟨N,e0,⟨hl,e2,ht,hr,eo⟩,ec⟩ c1 eV;simp only at N e0 hl e2 ht hr eo ec;simp[vX]at eV|-;obtain⟨gw,c9,ef,eR,A,eS⟩:=eV;unfold jw at N;simp only[az]at N;obtain⟨⟨⟨et,eu⟩,bH⟩,N⟩:=N;have⟨bN,bS,fe⟩:=nL et;have gd:=λ{tb:fw} (ht:tb.p 91=some oH)=>L3 ht (w:=w) (s:=s) (t:=t) (k:=k) (o:=o) ⟨et,eu,bH,N,e0,hr⟩
 ·simp[f48,gw,c9,ef,eR,A,eS,gd];generalize av:(((hE.cons _).cons _).cons _).cons _=bz;have hf:gH 0 bz:=by rw[<-av];exact⟨J,J,J⟩
  have hn:bz.size=4:=by rw[<-av];rfl
  have fo:bz.get 0=some (Z 6 0 [w.t]):=by rw[<-av];simp
  have fs:bz.get 1=some (Z 4 0 [s.t]):=by rw[<-av];simp
  have fv:bz.get 2=some (Z 1 0 [D t]):=by rw[<-av];simp
  have M:bz.get 3=some (Z 4 0 [.agg [dw,D 0,dw,dw]]):=by rw[<-av];simp
  clear av;refine iD Ob J s ⟨rfl,hf,hl,e2,ht,hr⟩ ?_;rintro _ ap ⟨bl,bn,bs,eO,rfl,X,aX,eH,e7⟩;rw[hn]at X eH;have hF:=aX.ok.sz;have hc:gH 0 ap:=⟨aX.ok.hp,aX.ok.low,aw _⟩;have eM:=(aX.get 1 B).trans fs;have fC:=(aX.get 0 B).trans fo;have fE:=(aX.get 2 B).trans fv;have fL:=(aX.get 3 B).trans M;have bu:∀v d,(dT ap 1 v).get d=if d=1 then some v else ap.get d:=λv d=>dF eM v d;have c:C5 w t bl bn bs (dT ap 1 (Z 4 1 [.agg [bl,D s.tx,bn,bs]])) eO s 1:=⟨by rw[fI];exact X.mono (au _) λd q _=>by rw[bu,ao B],hc.put _ _,by rw[bu,ao B];exact fC,by rw[bu,aq rfl],by rw[bu,ao B];exact fE,by rw[bu,ao B];exact fL⟩;have eI:ir (LkG (dT ap 1 (Z 4 1 [.agg [bl,D s.tx,bn,bs]])) λd=>4<=d/\d<ap.size/\dM bl≠some d/\dM bn≠some d/\dM bs≠some d) eO s.dW:=eH.imp λR m ⟨rv,ae,fS,eN⟩=>⟨rv,ae,fS.mono λd q=>by rw[bu,ao (by have:=(eN d q).1;omega)],eN⟩;simp[MG,eM,X.g0.fg,X.g0.cells,X.g2.fg,X.g2.cells,X.g3.fg,X.g3.cells,eR];generalize dT ap 1 _=U at*
  have e3:=eu;rw[<-fe]at e3;have⟨me,L,hs⟩:=im e3;have b6:=ee (ff.1 eu).1;refine lf (λc1 ca=>∃n,ApO w s t k o r bl bn bs ca n/\dy c1 7 (.ptr 1 0 0 0)/\dy c1 12 (.ptr 3 0 0 0)/\dy c1 15 (D n)) (λaE=>?_) (λaE=>?_) ?_
  ·have aE:k=1:=by simpa using aE
   subst aE
   ·have⟨y,al,a8,an,bk,C,e,l,j⟩:=c.sy.g3.at (x:=me.t) (i:=t.toNat) (by simp[L]);rw[aG]at C j;subst C;simp[A,c.g1,c.g2,b6,e,l,j];exact⟨_,_,_,show ei w s t 1 o r=(s.oD t (ke 2),0)by simp[ei],c.oD rfl e L (ke 2)⟩
  ·have aE:¬k=1:=by simpa using aE
   rcases qv bH with g|rfl|rfl|rfl|rfl|rfl|rfl|rfl|rfl|g|g|g|g
   ·exact absurd g aE
   ·have⟨y,al,a8,an,bk,C,e,l,j⟩:=c.sy.g3.at (x:=me.t) (i:=t.toNat) (by simp[L]);rw[aG]at C j;subst C;simp[A,c.g1,c.g2,b6,e,l,j];exact⟨_,_,_,show ei w s t 2 o r=(s.oD t (ke 5),0)by simp[ei],c.oD rfl e L (ke 5)⟩
   ·simp;exact⟨_,_,_,show ei w s t 3 o r=(s,0)by simp[ei],c⟩
   ·simp;exact⟨_,_,_,show ei w s t 4 o r=(s,0)by simp[ei],c⟩
   ·simp;exact⟨_,_,_,show ei w s t 5 o r=(s,0)by simp[ei],c⟩
   ·simp[c.g1,c.g2,dN];exact⟨_,_,_,show ei w s t 12 o r=({s with tx:=t},0)by simp[ei],c.tx t⟩
   ·simp[c.g1,c.g2,dN];exact⟨_,_,_,show ei w s t 13 o r=({s with tx:=-1},0)by simp[ei],c.tx (-1)⟩
   ·have⟨y,al,a8,an,bk,C,e,l,j⟩:=c.sy.g3.at (x:=me.t) (i:=t.toNat) (by simp[L]);rw[aG]at C j;subst C;simp[A,c.g1,c.g2,b6,e,l,j];exact⟨_,_,_,show ei w s t 14 o r=(s.oD t (λx=>{x with atomic:=true}),0)by simp[ei],c.oD rfl e L (λx=>{x with atomic:=true})⟩
   ·have⟨y,al,a8,an,bk,C,e,l,j⟩:=c.sy.g3.at (x:=me.t) (i:=t.toNat) (by simp[L]);rw[aG]at C j;subst C;simp[A,c.g1,c.g2,b6,e,l,j];exact⟨_,_,_,show ei w s t 15 o r=(s.oD t (λx=>{x with atomic:=false}),0)by simp[ei],c.oD rfl e L (λx=>{x with atomic:=false})⟩
   ·have I:=kr bH g;rw[<-bN]at I;have⟨E,F,eh⟩:=im I;have G:=ee (ff.1 I).1;obtain⟨R,aA,rv,rfl,bT,a7⟩:=c.sy.el.get F;obtain⟨y,al,a8,an,bk,rfl,e,l,j⟩:=c.sy.g0.at aA;have cb:=H.ej e;have ho:=(c.sy.b y (.inl rfl)).1;have ce:(1=U.size)=False:=by have:=H.ej c.g1;simp;omega
    have e9:(y=U.size)=False:=dp;have hv:=hr E (ax F);have hy:∀d,dM rv=some d->d<U.size:=λd q=>(a7 d q).2.1;rcases g with rfl|rfl|rfl|rfl|rfl|rfl
    ·simp[A,c.g1,c.g2,G,e,l,j];exact⟨_,_,_,show ei w s t 6 o r=(s.ot o (λh=>{h with iy:=t}),0)by simp[ei],c.ot rfl e F (λh=>{h with iy:=t}) bT a7⟩
    ·simp[A,c.g1,c.g2,G,e,l,j];exact⟨_,_,_,show ei w s t 7 o r=(s.ot o (λh=>{h with iy:=-1}),0)by simp[ei],c.ot rfl e F (λh=>{h with iy:=-1}) bT a7⟩
    ·have b8:=eo E (ax F);have dd:=ec E (ax F);have gQ:t∉E.ed:=by
      simp[xL,eh,ls]at N;exact N.2.2
     have⟨hg,ae,gL,O⟩:=Fw eI aA F;simp at ae;subst ae;have c6:Gr U rv 1 (gF E.ed):=gL;have⟨eF,b9,fY,bi⟩:=c6.mQ (cx:=cx) (f:=T.int .i64) c.ok kO rfl nN rfl J (λx=>rfl) t dp;have gM:=c.ok.low;have hb:(2=U.size)=False:=by have:=H.ej c.g2;simp;omega
     simp[A,c.g1,c.g2,G,e,l,j,ce,e9,hb,gM,fY];refine iD Vg J ⟨E.ed,t,eF⟩ ⟨rfl,bi.1,⟨bi.2.2.2.hp,bi.2.2.2.low,aw _⟩,b8,gQ,dd⟩ ?_;rintro _ eU aN;have hj:=bi.2.2.2.sz;have hG:=aN.ok.sz;have eb:∀d,d<U.size->dM rv≠some d->eU.get d=U.get d:=λd bN bS=>(aN.fr d B (λq=>(bi.2.2.1 d q).elim bS B)).trans (bi.2.1 d bN bS);have gZ:∀d,d<4->dM rv≠some d:=λd q k=>by have:=(O d k).1;omega
     have cp:=(eb 1 (H.ej c.g1) (gZ 1 B)).trans c.g1;have dn:=(eb y cb (λk=>(O y k).2.2.1 rfl)).trans e;have hd:gH 0 eU:=⟨aN.ok.hp,aN.ok.low,aw _⟩;have hq:=GT E.ed t;simp[A,cp,G,dn,l,j];refine lO Lv J ⟨lH E.ed t,eF⟩ ⟨rfl,aN.g,hd,Ci b8 t,dq⟩ ?_;rintro W hT ⟨R,V⟩;simp only at R;rw[R];have eE:=eQ (V.get 1 (H.ej cp));have t1:=(V.get 1 (H.ej cp)).trans cp;have tb:=(V.get y (H.ej dn)).trans dn;have gT:Gr hT eF 1 (gF (lH E.ed t)):=aN.g.mono λd q=>by
      have⟨_,_,_,_,gV,_⟩:=aN.g.box q;exact V.get d (H.ej gV)
     have hH:=V.ok.sz;simp[A,cp,t1,G,dn,tb,l,j,eE,dN,gT.fg,gT.cells];exact⟨_,_,_,show ei w s t 8 o r=(s.ot o (λh=>{h with ed:=lH h.ed t}),0)by simp[ei],c.dD e7 rfl e F aA (λd q=>⟨(O d q).1,(O d q).2.2⟩) (hT:=hT) ⟨V.ok.hp,V.ok.low,B⟩ (λd bN bS=>(V.get d B).trans (eb d bN bS)) (λh=>{h with ed:=lH h.ed t}) gT bi.2.2.1⟩
    ·have⟨hg,ae,gL,O⟩:=Fw eI aA F;simp at ae;subst ae;have c6:Gr U rv 1 (gF E.ed):=gL;have b8:=eo E (ax F);have dd:=ec E (ax F);have gP:t∈E.ed:=by
      simp[xL,eh,ls]at N;exact N.2
     have⟨P,Q,de⟩:=List.append_of_mem gP;have di:t∉P/\t∉Q:=by
      rw[de]at b8;have c9:=List.pairwise_append.1 b8;have ef:=List.pairwise_cons.1 c9.2.1;exact⟨λk=>by have:=c9.2.2 t k t J;omega,λk=>by have:=ef.1 t k;omega⟩
     simp[A,c.g1,c.g2,G,e,l,j,ce,e9];have ha:dM rv≠some 2:=λk=>by have:=(O 2 k).1;omega
     refine lO EK J ⟨P,Q,t,rv,2,⟨0,0,0,false,false,[]⟩⟩ ⟨rfl,c.g2,c.ok,by rw[de]at c6;exact c6,di.1,di.2,by rw[de]at dd;simp at dd|-;omega,ha⟩ ?_;rintro W b9 ⟨c7,eX,fb,c4⟩;simp only at c7 eX c4;have eP:=c4 1 (H.ej c.g1) (λk=>by have:=(O 1 k).1;omega);have gp:=c4 y cb (λk=>(O y k).2.2.1 rfl);have eE:=eQ eP;have fA:=eP.trans c.g1;have fB:=gp.trans e;have gI:E.ed.filter (λW=> !decide (W=t))=P++Q:=by
      rw[de,List.filter_append,List.filter_cons];simp;rw[List.filter_eq_self.2 λx l=>?_,List.filter_eq_self.2 λx l=>?_]
      ·simp;exact λR=>di.2 (by rw[<-R];exact l)
      ·simp;exact λR=>di.1 (by rw[<-R];exact l)
     have hj:=fb.sz;simp[A,fA,G,fB,l,j,eE,dN,c7.fg,c7.cells];exact⟨_,_,_,show ei w s t 9 o r=(s.ot o (λh=>{h with ed:=h.ed.filter λW=> !decide (W=t)}),0)by simp[ei],c.dD e7 rfl e F aA (λd q=>⟨(O d q).1,(O d q).2.2⟩) (hT:=b9) fb c4 (λh=>{h with ed:=h.ed.filter λW=> !decide (W=t)}) (by show Gr b9 W 1 (gF (E.ed.filter _));rw[gI];exact c7) (λd q=> .inl (by rw[<-eX];exact q))⟩
    ·simp[A,c.g1,c.g2,G,e,l,j];exact⟨_,_,_,show ei w s t 10 o r=(s.ot o (λh=>{h with iy:=t}),0)by simp[ei],c.ot rfl e F (λh=>{h with iy:=t}) bT a7⟩
    ·simp[A,c.g1,c.g2,G,e,l,j];exact⟨_,_,_,show ei w s t 11 o r=(s.ot o (λh=>{h with iy:=-1}),0)by simp[ei],c.ot rfl e F (λh=>{h with iy:=-1}) bT a7⟩
   ·have I:=mG bH g;have⟨d,er,e1⟩:=im I;have eA:=qY et er;rw[<-bN]at eA;have⟨E,F,eh⟩:=im eA;have G:=ee (ff.1 I).1;have fm:=ee (ff.1 eA).1;obtain⟨R,aA,rv,rfl,bT,a7⟩:=c.sy.el.get F;obtain⟨y,al,a8,an,bk,rfl,e,l,j⟩:=c.sy.g0.at aA;have⟨M,gg,hh,gj,ds,C,bB,dm,ey⟩:=c.sy.g3.at (x:=me.t) (i:=t.toNat) (by simp[L]);rw[aG]at C ey;subst C;have cb:=H.ej e;have eW:=H.ej bB;have ce:(1=y)=False:=by have:=(c.sy.b y (.inl rfl)).1;simp;omega
    have eB:(1=M)=False:=by have:=(c.sy.b M (.inr (.inr rfl))).1;simp;omega
    have e8:(2=y)=False:=by have:=(c.sy.b y (.inl rfl)).1;simp;omega
    have eD:(2=M)=False:=by have:=(c.sy.b M (.inr (.inr rfl))).1;simp;omega
    have eC:(M=y)=False:=by simp;rintro rfl;rw[e]at bB;simp at bB
    have e6:∀x,(ds.set t.toNat x)[t.toNat]? =some x:=λx=>by
     have:t.toNat<ds.length:=by
      rcases aM t.toNat ds.length with k|k
      ·exact k
      ·rw[bL k]at dm;simp at dm
     rw[bU];simp[this]
    have bC:∀v,(dT U y v).get M=some ⟨3,gg,hh,gj,false,ds⟩:=λv=>by rw[dF e,ao (by simpa using eC)];exact bB
    have fi:=λv z=>mE (bC v) (show 1≠M by simpa using eB) z;have fl:=λv z=>mE (bC v) (show 2≠M by simpa using eD) z;have eL:=λ(f:dP->dP) (q:(f E).ed=E.ed)=>c.ot rfl e F f (rv:=rv) (by rw[q];exact bT) a7;rcases g with rfl|rfl|rfl|rfl
    ·have ea:=(eL (λh=>{h with iy:=-1}) rfl).oD rfl (bC _) L (λx=>{x with iv:=3});have b7:=ea.oD (me:=(λx=>{x with iv:=3}) me) rfl ((dF (bC _) _ _).trans (aq rfl)) (i:=t.toNat) (by simp[L]) (λx=>{x with cond:=o});simp only[A4,List.set_set]at b7;simp[A,c.g0,c.g1,c.g2,G,fm,b6,er,e,bB,l,dm,j,ey,mn,c.ok.hp,cb,eW,ce,eB,eC,e8,eD,e6,fi,fl];exact⟨_,_,_,show ei w s t 16 o r=((s.ot d.j2 λh=>{h with iy:=-1}).oD t (λx=>{x with iv:=3,cond:=o}),0)by simp[ei,e1],b7⟩
    ·have ea:=(eL (λh=>{h with iy:=t}) rfl).oD rfl (bC _) L (λx=>{x with iv:=2});have b7:=ea.oD (me:=(λx=>{x with iv:=2}) me) rfl ((dF (bC _) _ _).trans (aq rfl)) (i:=t.toNat) (by simp[L]) (λx=>{x with cond:=0});simp only[A4,List.set_set]at b7;simp[A,c.g0,c.g1,c.g2,G,fm,b6,er,e,bB,l,dm,j,ey,mn,c.ok.hp,cb,eW,ce,eB,eC,e8,eD,e6,fi,fl];exact⟨_,_,_,show ei w s t 17 o r=((s.ot d.j2 λh=>{h with iy:=t}).oD t (λx=>{x with iv:=2,cond:=0}),0)by simp[ei,e1],b7⟩
    ·simp[A,eS,c.g1];refine iD NM J ⟨s,_,_,_,o,r⟩ ⟨rfl,c.sy.g3,c.ok,ht⟩ ?_;rintro _ b9 ⟨n,rfl,e4,cL⟩;simp only at e4 cL;simp;exact⟨_,_,_,show ei w s t 18 o r=({s with dC:=if hU o s.dC 0=[]then s.dC else s.dC.modify n.toNat (ke 4)},n)by
      have e5:xO o r s.dC=n:=by rw[e4];rfl
      unfold ei;simp;by_cases q:hU o s.dC 0=[]
      ·rw[aq q,aq q,<-e5];unfold xO;rw[q];rfl
      ·rw[ao q,ao q,e5];rfl,c.ZC cL⟩
    ·simp[A,c.g1];refine iD Gg J ⟨s,_,_,_,o,0⟩ ⟨rfl,c.sy.g3,c.ok,ht⟩ ?_;rintro _ b9 ⟨rfl,cL⟩;simp only at cL;simp;exact⟨_,_,_,show ei w s t 19 o r=({s with dC:=s.dC.map (B3 o)},((hU o s.dC 0).length:Int))by
      unfold ei;simp;intro a _;rfl,c.ZC cL⟩
   ·have I:=we bH g;rw[<-fe]at I;have⟨u,dk,gS⟩:=im I;have G:=ee (ff.1 I).1;rcases g with rfl|rfl
    ·have⟨y,al,a8,an,bk,C,e,l,j⟩:=c.sy.g3.at (x:=u.t) (i:=o.toNat) (by simp[dk]);rw[aG]at C j;subst C;simp[A,c.g1,c.g2,G,e,l,j];exact⟨_,_,_,show ei w s t 20 o r=(s.oD o (ke 1),0)by simp[ei],c.oD rfl e dk (ke 1)⟩
    ·simp;exact⟨_,_,_,show ei w s t 21 o r=(s,0)by simp[ei],c⟩
   ·have I:=qx bH g;rw[<-bS]at I;have⟨u,dk,gS⟩:=im I;have G:=ee (ff.1 I).1;rcases g with rfl|rfl
    ·have⟨y,al,a8,an,bk,C,e,l,j⟩:=c.sy.g2.at (x:= .bool u) (i:=o.toNat) (by simp[dk]);rw[aG]at C j;subst C;simp[A,c.g1,c.g2,G,e,l,j];exact⟨_,_,_,show ei w s t 22 o r=({s with done:=s.done.set o.toNat true},0)by simp[ei],c.Yv rfl e o.toNat true⟩
    ·simp;exact⟨_,_,_,show ei w s t 23 o r=(s,0)by simp[ei],c⟩
  ·rintro c1 ca ⟨n,⟨S,gi,hA,gE,K⟩,gB,gy,gz⟩;have⟨hB,hC,hD⟩:=K.sy.fz;have gv:∀v,(dT ca 3 v).get 3=some v:=λv=>(dF K.g3 v _).trans (aq rfl);have dv:∀v,AW 4 ca.size (dT ca 3 v) bl bn bs gi S:=λv=>K.sy.mono (au _) λd q _=>by rw[dF K.g3,ao B]
   have gk:=λv=>(dv v).fz.1;have gm:=λv=>(dv v).fz.2.1;have gn:=λv=>(dv v).fz.2.2;simp[gB,gy,gz,K.g1,K.g3,gv,dN,K.sy.g0.fg,K.sy.g0.cells,K.sy.g2.fg,K.sy.g2.cells,K.sy.g3.fg,K.sy.g3.cells,gk,gm,gn,gE,K.ok.hp]
def kM.apf{w:eJ}(e:kM w){c:Nat}{b:dY}(h:w.dI[c]? =some b){d:dZ}(f:d=nP w.ew w.jA (w.dI.take c)):ApF w.ew d.fk b.dQ b.kind b.obj/\(nP w.ew w.jA (w.dI.take (c+1))).fk=(ei w.ew d.fk b.dQ b.kind b.obj (kT b)).1:=by
 have p:c<w.dI.length:=(List.getElem?_eq_some_iff.1 h).1;have i:=e.ok.ok h;rw[<-f]at i;have⟨q,r,o⟩:=qu i;have g:qp (1000+(w.dI.take c).length) d:=by rw[f];exact e.sm.nP (w:=w.ew) _
 have hl:=e.ok.len;have hr:=vM e.ok.run c;have m:HE 4 d.fk:=by rw[f];exact KB e.ok.oD _ _ hr e.rdt
 have⟨l1,l2,l3,l4,l5,l6⟩:=g.l;have⟨s,t,u,v,x,y⟩:=qF e.wb;refine⟨⟨o,B,⟨B,B,B,λj k=>?_,g.a⟩,λj k=>?_⟩,?_⟩
 ·have:=m.len g.a j k;omega
 ·have:=m.len g.a j k;omega
 ·have n:w.dI.take (c+1)=w.dI.take c++[b]:=by rw[List.take_add_one,h];rfl
  rw[n];have:nP w.ew w.jA (w.dI.take c++[b])=(jx w.ew d b).1:=by
   rw[f];unfold nP;rw[HB];rfl
  rw[this,qr d b i];rfl
def uX:ge:=⟨eJ,λa=>[a.t],λa=>kM a,λa=> .tuple [fM.t ⟨a,a.gx.st⟩,.bool true],λc d b=>by simp at b;rw[eJ.inj b]⟩
def R1(a:eJ)(b:T):List T:=[sl (a.ew.cells.map fW.t),sl (a.ew.dW.map ig.t),sl (a.ew.fV.map iA.t),sl (a.ew.dU.map T.str),sl (a.ew.dC.map T.str),sl (a.ew.io.map ik.t),D a.start,sl (a.jA.fk.dW.map dP.t),D a.jA.fk.tx,sl (a.jA.fk.done.map T.bool),sl (a.jA.fk.dC.map dE.t),sl (a.jA.cells.map (T.int .i64)),sl (a.jA.dU.map (T.int .i64)),sl (a.jA.count.map (T.int .i64)),sl (a.dI.map dY.t),b]
def anZ:List T:=[dw,dw,dw,dw,dw,dw,D 0,dw,D 0,dw,dw,dw,dw,dw,dw,dw]
structure AnJ(w:eJ)(h:H)(k:Nat)(v:T)(ver ver5:Nat):Prop where
 ok:gH 4 h
 b0:h.get 0=some (Z 15 0 [w.t])
 b1:h.get 1=some (Z 16 0 [.agg anZ])
 b2:h.get 2=some (Z 16 ver [.agg (R1 w v)])
 b3:h.get 3=some (Z 4 ver5 [(nP w.ew w.jA (w.dI.take k)).fk.t])
 g:Gr h v 4 ((w.gx.st.take k).map fa.t)
 l:∀b,dM v=some b->4<=b
def LA:uX.Ok prog cx 40:=by
 refine fR [(48,vX)] (iP 9223389645163727807 [] func40) (λ_=>100) (by simp[uX]) ?_;rintro(c:eJ) y m ap;replace y:kM c:=y;simp[uX]at ap|-;have c6:=y.ok.len;have c7:=y.ok.oD;simp[f40,ap,show¬(16:Int)<c.dI.length by omega,show¬(4:Int)<c.ew.dC.length by omega];refine fc c.dI.length B (λk m h=>∃z o A,AnJ c h k z o A/\dy m 1 (.ptr 0 0 0 0)/\dy m 2 (.ptr 1 0 0 0)/\dy m 4 (.ptr 2 0 0 0)/\dy m 5 (.ptr 3 0 0 0)/\dy m 30 (sl (c.dI.map dY.t))/\dy m 31 (D c.dI.length)/\dy m 32 (D k)) ?_ ?_ B ?_
 ·rintro k m h R av ⟨z,o,A,⟨l,G,q,u,I,r,S⟩,E,x,P,Q,M,N,O⟩;have⟨bN,ae⟩:=y.apf (ay R) rfl;have b8:=y.ok.st R;have b9:(c.gx.st.take (k+1))=c.gx.st.take k++[(nP c.ew c.jA (c.dI.take k)).fk]:=by rw[List.take_add_one,b8];rfl
  generalize(nP c.ew c.jA (c.dI.take k)).fk=s at*
  have a8:=l.ne (b:=0) B;have bk:=l.ne (b:=1) B;have bl:=l.ne (b:=2) B;have bs:=l.ne (b:=3) B;have cb:gH 0 h:=⟨l.hp,l.low,aw _⟩;generalize aE:c.dI[k]=d at*
  have bT:Gr (h.cons (Z 7 1 [d.t])) z 4 ((c.gx.st.take k).map fa.t):=r.mono λb X=>by
   have⟨_,_,_,_,F,_⟩:=r.box X;rw[dO,ao (by have:=H.ej F;omega)]
  have c4:(c.gx.st.take k).length<=16:=dp;have⟨v,g,U,i⟩:=bT.mQ (cx:=cx) (f:=fa.t) (cb.cons _) RB rfl Wn rfl J (λ_=>rfl) s (by simp only[show Qr.bytes=80 from rfl];omega);rw[show(h.cons (Z 7 1 [d.t])).size=h.size+1 from rfl]at U;have K:∀{bC:fw},bC.p 48=some vX->rl prog cx bC 48 [c.ew.t,s.t,D d.dQ,D d.kind,D d.obj,D (kT d)]=some (.tuple [(ei c.ew s d.dQ d.kind d.obj (kT d)).1.t,D (ei c.ew s d.dQ d.kind d.obj (kT d)).2,.bool true]):=λht=>gG ht Oi (c.ew,s,d.dQ,d.kind,d.obj,kT d) bN;have cL:=l.sz;have cp:=i.2.2.2.sz;simp at cp;have aN:=l.low;have ca:∀a,a<4->dM z≠some a:=λa aA j=>by have:=S a j;omega
  have L:∀a,a<4->g.get a=h.get a:=λa aA=>(i.2.1 a dp (ca a aA)).trans (by rw[dO,ao B]);have a0:=(L 0 B).trans G;have a1:=(L 1 B).trans q;have a2:=(L 2 B).trans u;have a3:=(L 3 B).trans I;have an:g.get h.size=some (Z 7 1 [d.t]):=(i.2.1 h.size J (λj=>by have⟨_,_,_,_,F,_⟩:=r.box j;have:=H.ej F;omega)).trans J;have w:∀e a,(dT g 2 e).get a=if a=2 then some e else g.get a:=λe a=>dF a2 e a;have bH:(h.size=2)=False:=dp;have al:gH 0 g:=⟨i.2.2.2.hp,i.2.2.2.low,aw _⟩;have bB:∀e n b,dT ((dT g 2 e).cons n) g.size b=(dT g 2 e).cons b:=λe n b=>F3 _ _ _ _ J (by have:=(al.put 2 e).low;simpa using this);have bu:(3=g.size)=False:=dp;have bn:(2=g.size)=False:=dp;have bi:(0=g.size)=False:=dp;have bz:(h.size=g.size)=False:=dp;have aX:∀e,(dT g 2 e).low<=g.size:=λe=>by have:=(al.put 2 e).low;simpa using this
  have fin:∀(n:iI),AnJ c (dT ((dT g 2 (Z 16 (o+1) [.agg (R1 c v)])).cons n) 3 (Z 4 (A+1) [(ei c.ew s d.dQ d.kind d.obj (kT d)).1.t])) (k+1) v (o+1) (A+1):=λn=>by
   have V:∀b a,(dT ((dT g 2 (Z 16 (o+1) [.agg (R1 c v)])).cons n) 3 b).get a=if a=3 then some b else((dT g 2 (Z 16 (o+1) [.agg (R1 c v)])).cons n).get a:=λb a=>mn (by simp[al.hp]) dp b a;have W:∀b a,a<g.size->a≠3->a≠2->(dT ((dT g 2 (Z 16 (o+1) [.agg (R1 c v)])).cons n) 3 b).get a=g.get a:=λb a E x b7=>by rw[V,ao x,dO,ao dp,w,ao b7]
   have ce:=(((⟨i.2.2.2.hp,i.2.2.2.low,B⟩:gH 4 g).put 2 (Z 16 (o+1) [.agg (R1 c v)])).cons n).put 3 (Z 4 (A+1) [(ei c.ew s d.dQ d.kind d.obj (kT d)).1.t]);have a7:∀a,dM v=some a->4<=a:=λa j=>(i.2.2.1 a j).elim (λj=>S a j) (λj=>by simp at j;omega);refine⟨ce,(W _ 0 B B B).trans a0,(W _ 1 B B B).trans a1,?_,?_,?_,a7⟩
   ·rw[V,ao B,dO,ao dp,w,aq rfl]
   ·rw[V,aq rfl,ae]
   ·rw[b9];exact i.1.mono λa j=>by
     have⟨_,_,_,_,F,_⟩:=i.1.box j;have:=a7 a j;exact W _ a (H.ej F) B B
  have C:kT d=if d.kind=18 then d.value else-1:=rfl;simp only[R1]at u a2;cases T:decide (d.kind=18)with
  |true=>
   rw[aq (by simpa using T)]at C;rw[C]at K ae;simp[E,x,P,Q,M,N,O,R,aE,G,q,u,I,a8,bk,bl,bs,aN,U,a0,a1,a2,a3,an,w,bH,bB,bi,bn,bu,bz,aX,dN,i.1.fg,i.1.cells,T,K,av];rw[C]at fin;exact⟨_,_,_,fin _⟩
  |false=>
   rw[ao (by simpa using T)]at C;rw[C]at K ae;simp[E,x,P,Q,M,N,O,R,aE,G,q,u,I,a8,bk,bl,bs,aN,U,a0,a1,a2,a3,an,w,bH,bB,bi,bn,bu,bz,aX,dN,i.1.fg,i.1.cells,T,K,av];rw[C]at fin;exact⟨_,_,_,fin _⟩
 ·rintro m h ⟨z,o,A,⟨l,G,q,u,I,r,S⟩,E,x,P,Q,M,N,O⟩;simp only[R1]at u;simp only[anZ]at q;have c1:c.gx.st.length=c.dI.length:=by unfold eJ.gx;simp[KW]
  rw[bA B]at r;have cL:=l.sz;have w:∀e,(dT h 1 e).get 1=some e:=λe=>(dF q e 1).trans (aq rfl);have b6:∀e,Gr (dT h 1 e) z 4 (c.gx.st.map fa.t):=λe=>r.mono λb X=>by rw[dF q,ao (by have:=S b X;omega)]
  have bS:=λe=>(b6 e).fz J;simp[E,x,P,Q,M,N,O,q,u,w,bS,dN,r.fg,r.cells,l.hp]
  try rfl
 ·exact⟨dw,1,1,⟨by exact⟨J,J,J⟩,J,by simp[anZ],by simp[R1],by simp;rfl,by simpa using Gr.nil _ _,J⟩,J⟩
end
end
noncomputable section
open Go Go.TI
def l0:T:= .agg [(.Y [(.agg [(D 1),(D 1),(.str [120]),(D 0),(D 0),(.str [])])] false),(.Y [(.agg [(.str [116]),(D 1),dw,(.Y [(.agg [(D 12),(D 1),(.str [117]),(.str []),dw,(D 0),(D 0),(.str []),dw,dw,dw]),(.agg [(D 1),(D 1),(.str [120]),(.str []),dw,(D 1),(D 1),(.str []),dw,dw,dw])] false)]),(.agg [(.str [117]),(D 1),dw,(.Y [(.agg [(D 1),(D 1),(.str [120]),(.str []),dw,(D 1),(D 2),(.str []),dw,dw,dw])] false)])] false)]
def l1:T:= .Y [(.agg [(.str [120]),(D 0),(D 0),(.bool false),(D 0)])] false
def l2:T:= .Y [(.agg [(D 0),(D 0),(D 1)]),(.agg [(D 0),(D 1),(D 1)]),(.agg [(D 1),(D 0),(D 1)])] false
def l3:T:= .agg [(D 28),(D 0),(D 0),(D 0),(D 0),(D (.negSucc 0))]
def l4:T:= .agg [l1,dw,dw,dw,(.Y [(.str [116]),(.str [117])] false),l2,(.Y [(.agg [(D 1),(.Y [(.agg [(D 24),(D 1),(D 0),(D 0),(D 0),(D 0)]),(.agg [(D 1),(D 0),(D 0),(D 0),(D 1),(D 1)]),(.agg [(D 8),(D 0),(D 0),(D 0),(D 0),(D 1)]),l3] false)]),(.agg [(D 1),(.Y [(.agg [(D 1),(D 0),(D 0),(D 0),(D 2),(D 2)]),(.agg [(D 8),(D 0),(D 0),(D 0),(D 0),(D 2)]),l3] false)])] false)]
def l5:T:= .Y [(.agg [(D 0),(D 1),(D (.negSucc 0)),(D 0),(D (.negSucc 0)),dw,dw]),(.agg [(D 0),(D 20),(D 1),(D 0),(D 0),dw,dw]),(.agg [(D 0),(D 4),(D 0),(D 1),(D 1),dw,dw]),(.agg [(D 0),(D 2),(D (.negSucc 0)),(D 0),(D (.negSucc 0)),dw,dw]),(.agg [(D 1),(D 1),(D (.negSucc 0)),(D 0),(D (.negSucc 0)),dw,dw]),(.agg [(D 1),(D 4),(D 0),(D 2),(D 2),dw,dw]),(.agg [(D 1),(D 2),(D (.negSucc 0)),(D 0),(D (.negSucc 0)),dw,dw])] false
def l6:T:= .agg [(D 5),(D 0),(.bool false)]
def l7:T:= .agg [l1,dw,dw,dw,(.Y [(.str [116]),(.str [117])] false),l2,(D 0),dw,(D (.negSucc 0)),dw,(.Y [(.agg [(D 1),(D 0),(.bool false)]),(.agg [(D 0),(D 0),(.bool false)])] false),(.Y [(D 0)] false),dw,(.Y [(D 0),(D 0)] false),l5]
def l8:T:= .agg [(D 1),(D 2),(D 5),(D 0),(D 0),dw]
def l9:T:= .agg [(D 0),(D (.negSucc 0))]
