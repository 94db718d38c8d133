/- S22r -/
import Derived.Test.YtalknpnbaceflaaGreatDoorA33
set_option linter.all false
set_option maxRecDepth 100000
set_option maxHeartbeats 0
namespace Go.Proofs.YtalknpnbaceflaaGreatDoor
noncomputable section
open Go Go.TI
def Wf{a:fg}(b:lj a)(d:List Int):wt a.fM (ml a d [] (jI a)).2.gu:=Bf (I:=λc=>wt a.fM c.gu) (λc i g h=>by
 have⟨j,_,_,e,f⟩:=IH b h;rw[f];exact g.step (HE b.wb) e) d [] (jI a) b.rwo
def abe{i:fy}{c:gY}{d b h:Int}(a:vd i c d b h=true):XS (j2 c d).je≠5:=by
 unfold vd at a;by_cases e:b=1
 ·rw[au e]at a;rw[dA a];decide
 rw[Z e]at a;by_cases f:b=17
 ·rw[au f]at a;simp only[az,aM]at a;rw[a.1.1];decide
 rw[Z f]at a;by_cases g:(j2 c d).je=2
 ·rw[g];decide
 ·rw[au g]at a;simp at a
def X4{a:fg}{c:fT}(l:vZ a c)(P:Mm a c)(U:wt a.fM c.gu){h i:Int}(M:ju h a.ej.length=true)(N:ju i a.ej.length=true)(ab:ja a c (kS a.ej h).eJ=h)(ae:ja a c (kS a.ej i).eJ=i)(b:a.gx.A7 i h=true):
 iV a.fM c.gu (kS a.ej h).eJ (kS a.ej h).fh (kS a.ej h).obj=false/\(kS a.ej i).eJ∈Zz a.fM c.gu (kS a.ej h).eJ (kS a.ej h).fh (kS a.ej h).obj:=by
 have aN:=(fQ.1 M).1;have aX:=(fQ.1 N).1;have⟨e,Q,al,A,D,R,S,an,k⟩:=Er (c:=c) l.hw (t:=(kS a.ej h).eJ) B;have⟨f,E,av,F,r,T,H,aA,aE⟩:=Er (c:=c) l.hw (t:=(kS a.ej i).eJ) B;rw[ab]at Q A D R S;rw[ae]at E F r T H;have⟨ap,_,_,I,J,_⟩:=l.hw.at N;rw[r]at I;subst I;rw[A,F]at*
 unfold GX.A7 at b;rw[D,r,H]at b;by_cases ht:e.eJ=f.eJ
 ·rw[au ht]at b;simp at b
 rw[Z ht]at b;have j:=P.pe f.eJ J;have a6:=(fQ.1 J).1;have L:=l.hc.ft (pK M);have hl:=kY L;unfold iV Zz;by_cases o:e.fh=6
 ·have g:=kJ k B;have y:=fQ.1 g;rw[<-hl.1]at g;have O:=fQ.1 g;rw[au (.inl o),<-(j.lk g).1,<-(j.lk g).2]at b;rw[au (.inl o)];have hr:=U e.obj.toNat (kl c.gu e.obj) a.fM.fI[e.obj.toNat] (by simp[kl,qB,O.1,O.2]) (aB y.2);have s:=k;simp[j8,o,qB,y.1,y.2]at s;have d:(kl c.gu e.obj).jg=f.eJ:=by
   rw[cu]at b;rcases b with q|q
   ·simpa using q
   ·have:=(hr λz=>by rw[z]at q;simp at q).2;rw[this]at s;simp at s
  exact⟨by rw[o];simp[vd,d];intros;omega,by simp[d]⟩
 by_cases p:e.fh=8
 ·have g:=kJ k B;rw[<-hl.1]at g;rw[Z B,au p,<-(j.lk g).1]at b;rw[au (.inr p)];have d:(kl c.gu e.obj).jg=f.eJ:=by simpa using b
  exact⟨by rw[p];simp[vd,d];intros;omega,by simp[d]⟩
 rw[Z (show¬(e.fh=6\/e.fh=8)by omega)];by_cases m:e.fh=10
 ·have g:=kJ k B;rw[<-hl.1]at g;rw[au (.inr m),<-(j.lk g).1,<-(j.lk g).2,cu]at b;rw[au m];rcases b with q|q
  ·have d:(kl c.gu e.obj).jg=f.eJ:=by simpa using q
   exact⟨by rw[m];simp[vd,d];intros;omega,by simp[d]⟩
  ·have d:f.eJ∈(kl c.gu e.obj).fO:=by simpa using q
   exact⟨by rw[m];simp[vd];intros;exact List.ne_nil_of_mem d,by simp[d]⟩
 rw[Z (show¬(e.fh=6\/e.fh=10)by omega),Z p]at b;rw[Z m];by_cases v:e.fh=17
 ·have V:=mZ k B;have⟨W,_⟩:=Pz L V;rw[au v]at b|-;have d:(pT a.fM c.gu e.obj).jg=f.eJ:=by
   have b:decide ((kl _ _).jg=f.eJ)=true:=b;rw[show a.gx.w=a.fM from rfl,<-(j.lk W).1]at b;exact dA b
  exact⟨by rw[v];simp[vd,d];intros;omega,by simp[d]⟩
 rw[Z v]at b|-;by_cases x:e.fh=21
 ·rw[au x]at b|-;have d:e.obj=f.eJ:=dA b;have u:=(zh l.hw (n:=qM a c f.eJ) (e:=f) (by rw[show qM a c f.eJ=i.toNat by omega];exact E)).1;unfold iV at u;simp only[az]at u;have K:(j2 c.gu f.eJ).je≠5:=λq=>abe u.2 (by rw[<-j.cl,q];decide);exact⟨by rw[x,d];simp[vd,K],by rw[d,au ⟨λq=>ht q.symm,K⟩];simp⟩
 ·rw[Z x]at b;simp at b
end
noncomputable section
open Go Go.TI Tryz
attribute [-simp] List.map_take List.map_drop List.map_append ij gG fK Bool.not_or Bool.not_and
attribute [simp] ig gJ
section
attribute [-simp] size_cons
def blP(a:fy×gY×Int×Int×Int):Prop:=mK a.1 a.2.1=true/\ju a.2.2.1 a.1.ee.length=true/\j8 a.1 a.2.2.2.1 a.2.2.2.2=true/\a.1.iL.length<=1000000/\∀b∈a.2.1.fI,b.fO.length<=1000000
def X6{a:fy×gY×Int×Int×Int}(b:blP a):(Zz a.1 a.2.1 a.2.2.1 a.2.2.2.1 a.2.2.2.2).length<=1000001:=by
 obtain⟨c,ht,e,g,hr⟩:=b;unfold Zz;split
 ·simp
 split
 ·rename_i h;have d:=kJ e B;obtain⟨f,a1,a2,a3⟩:=vM c d;have:=hr f (aC a2);rw[a3];simp;omega
 split
 ·simp
 split
 ·split<;>simp
 ·simp
def abT{cx:Ctx}{a:H}{e:T}{c:Nat}{i:List T}(j:Gr a e c i)(k:iQ 0 a){r s h:af}{t v d:Ty}(l:cx.ty r=some t)(m:t.u= .slice h)(n:cx.ty h=some d)(o:cx.ty s=some v)(p:v.u= .slice h)(D:d.size=c)(y:1<=d.bytes)
 {x:T} {xs:List T} (q:a.j1 x=some xs) (E:∀g∈xs,g.cells.length=c) (A:(i.length+xs.length)*d.bytes<=70368744177664):
 ∃f b,jx cx a r s e x=some (.val f b)/\Xt a e c (i++xs) f b:=by
 cases xs with
 |nil=>
  refine⟨e,a,?_,by rw[bG];exact j,λ_ _ _=>rfl,λI z=> .inl z,k.hp,k.low,ax _⟩;unfold jx ql nD;rw[l,fw,o,fw];simp only[m,n,p,q,fw];rw[mc G,jf];rcases j with⟨rfl,_⟩|⟨F,J,L,K,xs,rfl,_⟩<;>rfl
 |cons M N=>
  have⟨f,b,g,w⟩:=Gr.app (cx:=cx) j k l m n o p D y q E G A;exact⟨f,b,g,w.xt⟩
def FJ:pM prog cx 16 (λk:fy×gY×Int×Int×Int=>[k.1.t,k.2.1.t,C k.2.2.1,C k.2.2.2.1,C k.2.2.2.2]) blP (λk r=>∃d:List Int,r=sl (iz d)/\d.length<=2000000/\∀x,x∈d↔ju x k.1.ee.length=true/\x∈Zz k.1 k.2.1 k.2.2.1 k.2.2.2.1 k.2.2.2.2):=by
 refine jU [(36,uj),(37,uF),(38,AG),(39,Hh)] (jF 10151263083535647797312619560063 [] func16) (λk=>1000005) (λk b h=>by simp at h;exact aD (fy.inj h.1) (aD (gY.inj h.2.1) (aD h.2.2.1 (aD h.2.2.2.1 h.2.2.2.2)))) ?_;rintro⟨w,s,bA,j,o⟩ bp m bn;have b9:=X6 bp;obtain⟨E,ht,J,ca,hr⟩:=bp;simp only at E ht J ca hr b9;simp at bn;obtain⟨b6,aA,bi,b7,D⟩:=bn;have a:=Zz.eq_1 w s bA j o;generalize Zz w s bA j o=f at*
 simp[f16,b6,aA,bi,b7,D,vS,DS,N4,E,ht,J,show w.iL.length<=1099511627776 by omega];have cF:∀e:fa,True:=λ_=>trivial;refine Mh (λm h=>∃v,Gr h v 1 (iz f)/\iQ 2 h/\h.get 0=some (X 6 0 [w.t])/\Y m 5 (.fc 0 0 0 0)/\Y m 11 v) ?_ ?_
 ·have an:∀(h:H) (x:Int),Hp h->Gr (h.cons (X 1 0 [C x])) (.arr h.size 0 0 1 false) 1 (iz [x]):=λh x _=>Gr.new (ep:=0) (ver:=0) (ex:=true) (es:=iz [x]) G;by_cases aX:j=6\/j=8
  ·rw[au aX]at a;have⟨A,a1,a2,a3⟩:=vM E (kJ J B);rw[a3]at a;rcases aX with rfl|rfl
   all_goals
    simp[D,a1,a2];exact⟨by rw[a];exact an _ _ rfl,⟨rfl,G,G⟩⟩
  rw[Z aX]at a;have Q:decide (j=6)=false:=dR;have R:decide (j=8)=false:=dR;by_cases ab:j=10
  ·rw[au ab]at a;have⟨A,a1,a2,a3⟩:=vM E (kJ J B);rw[a3]at a;have cp:=hr A (aC a2);have K:decide (j=10)=true:=by simpa using ab
   have bX:=an ((hE.cons (X 6 0 [w.t])).cons (X 4 0 [s.t])) A.jg rfl;have⟨cX,S,bg,cb,cd,c4,a8⟩:=abT (cx:=cx) bX ⟨rfl,G,G⟩ (x:=sl (iz A.fO)) (xs:=iz A.fO) kO rfl nP kO rfl rfl G G (by simp[T.cells]) dR;simp at bg;simp[Q,R,K,D,a1,a2,bg];exact⟨_,by rw[a];simpa using cb,⟨a8.hp,a8.low,by have:=a8.sz;simp[size_cons]at this;omega⟩,(cd 0 (by simp[size_cons]) G).trans G,rfl⟩
  rw[Z ab]at a;have K:decide (j=10)=false:=by simpa using ab
  by_cases ae:j=17
  ·rw[au ae]at a;have⟨c,A,bH,bN,bS,bT,bW⟩:=EA E (mZ J B);rw[bW]at a;have P:decide (j=17)=true:=by simpa using ae
   simp[Q,R,K,P,D,bH,bN,bS,bT];exact⟨by rw[a];exact an _ _ rfl,⟨rfl,G,G⟩⟩
  rw[Z ae]at a;have P:decide (j=17)=false:=by simpa using ae
  by_cases al:j=21
  ·rw[au al]at a;have⟨A,a1,a2,a3⟩:=xc E (rR J B);rw[a3]at a;have av:decide (j=21)=true:=by simpa using al
   simp[Q,R,K,P,av,bi,D,a1,a2];refine fN (λu=>?_) (λu=>?_)
   ·rw[au (by simpa using u)]at a;simp[D];exact⟨by rw[a];exact an _ _ rfl,⟨rfl,G,G⟩⟩
   ·rw[Z (by simpa using u)]at a;simp;rw[a];exact Gr.nil _ _
  ·rw[Z al]at a;have av:decide (j=21)=false:=by simpa using al
   simp[Q,R,K,P,av];rw[a];exact Gr.nil _ _
 rintro m h ⟨v,g,bu,bC,z,n⟩;have U:=λaA=>g.len (cx:=cx) aA pI _ rfl;simp at U;simp;refine ik f.length B (λi m S=>S=h/\∃d:List Int,d.length<=i/\(∀x,x∈d↔ju x w.ee.length=true/\x∈f.take i)/\Y m 5 (.fc 0 0 0 0)/\Y m 11 v/\(Y m 12 (sl (iz d))\/d=[]/\Y m 12 dV)/\Y m 13 (C i)) ?_ ?_ B ⟨rfl,[],G,G,by simp[z,n]⟩
 ·rintro i m S aN aE ⟨rfl,d,b8,I,z,n,l,y⟩;have⟨q,ep,c1,ex,xs,cL,a6,a7,ap⟩:=g.Bd (te:=Ek) rfl (i:=i) (by simpa using aN);simp at ap;have bB:f.take (i+1)=f.take i++[f[i]]:=aP aN;simp[z,n,y,U,aN,a6,a7,ap,bC,DS];refine fN (λu=>?_) (λu=>?_)
  ·have bs:=BF d f[i];have F:(uk d f[i]).length<=i+1/\∀x,x∈uk d f[i]↔ju x w.ee.length=true/\x∈f.take (i+1):=by
    refine⟨by rw[bs];have:=F2 d f[i];omega,λx=>?_⟩;rw[bs,yO,I,bB,dc];simp;constructor
    ·rintro(⟨L,N⟩|rfl)
     ·exact⟨L,.inl N⟩
     ·exact⟨u,.inr rfl⟩
    ·rintro⟨L,N|N⟩
     ·exact .inl ⟨L,N⟩
     ·exact .inr N
   have W:∀{O:io},O.p 39=some Hh->rl prog cx O 39 [sl (iz d),C f[i]]=some (sl (iz (uk d f[i]))):=λht=>abC ht d f[i] B;rcases l with l|⟨rfl,l⟩
   ·simp[z,n,l,y,a6,a7,ap,W,aE];exact⟨_,F.1,F.2,.inl rfl⟩
   ·have W:∀{O:io},O.p 39=some Hh->rl prog cx O 39 [.iX,C f[i]]=some (sl (iz (uk [] f[i]))):=W;simp[z,n,l,y,a6,a7,ap,W,aE];exact⟨_,F.1,F.2,.inl rfl⟩
  ·have F:∀x,x∈d↔ju x w.ee.length=true/\x∈f.take (i+1):=λx=>by
    rw[I,bB,dc];simp;rintro L rfl;rw[L]at u;simp at u
   simp[z,n,y,aE];exact⟨d,B,F,l⟩
 ·rintro m S ⟨rfl,d,b8,I,z,n,l,y⟩;rw[aL]at I;rcases l with l|⟨rfl,l⟩
  ·simp[n,l,y,U,bu.hp];exact⟨_,rfl,B,I⟩
  ·simp[n,l,y,U,bu.hp];exact⟨[],rfl,G,I⟩
def NT{a:fg}{d:fT}{b:jm}(t:vZ a d)(r:Mm a d)(u:wt a.fM d.gu)(e:b.fh=2)(f:a.gx.vR b=true)(hr:mH a d b=true):2<=b.jz.length/\∀(c g:Nat) (e:c<b.jz.length) (k:g<b.jz.length),g=(c+1)% b.jz.length->
 ju b.jz[c] a.ej.length=true/\ju b.jz[g] a.ej.length=true/\jk a d (kS a.ej b.jz[c]).eJ=false/\(kS a.ej b.jz[g]).eJ∈Zz a.fM d.gu (kS a.ej b.jz[c]).eJ (kS a.ej b.jz[c]).fh (kS a.ej b.jz[c]).obj:=by
 unfold GX.vR GX.dead GX.J8 at f;unfold mH at hr;rw[Z B,au e,cg]at hr;rw[au e]at f;simp only[az,aM]at f;obtain⟨_,⟨⟨l2,_⟩,j⟩,f⟩:=f;rw[cg]at f j;refine⟨l2,λc g e k s=>?_⟩;have q:=f c (List.mem_range.2 e);simp only[az]at q;have i:=q.1.2;rw[<-s,cN,cN,aB e,aB k]at i;simp only[dB]at i;have m:∀h∈b.jz,ja a d (kS a.ej h).eJ=h:=λh v=>by
  have:=hr h v;unfold Pt uK at this;simp only[az,aM]at this;exact this.1.2
 have l:=aG e;have p:=aG k;have n:ju b.jz[c] a.ej.length=true:=j _ l;have o:ju b.jz[g] a.ej.length=true:=j _ p;have⟨w,x⟩:=X4 t r u n o (m _ l) (m _ p) i;refine⟨n,o,?_,x⟩;unfold jk;rw[m _ l,w];simp
def WI:BA.Ok prog cx 5:=by
 refine iF [(6,FB.kc),(8,DB),(7,Dz),(9,Bv),(10,xg),(11,sq),(15,qf),(16,FJ.kc),(12,D2),(13,Ff)] (jF 649037107316858209369855006932855 [(4,[(0,2),(2,7),(3,7)])] func5) (λa=>1000005) (by simp[BA]) ?_;rintro⟨v,l⟩ ⟨a6,an⟩ c ap;simp only at a6 an;simp[BA]at ap|-;obtain⟨bN,al⟩:=ap;simp[f5,bN,al];refine fN (λaX=>?_) (λaX=>?_)
 ·simp
 have⟨A,P,D,T,r,av,bB,bu,bp,bA,u,cL,bT,bs⟩:=FW a6 an (l:=l) (by simp at aX;omega);simp[al,bB,bu,bp,bA,bs];refine ik u.length B (λw c k=>iQ 4 k/\k.get 1=some (X 15 1 [A.t])/\k.get 3=some (X 9 1 [D.t])/\Y c 5 (.fc 1 0 0 0)/\Y c 8 (.fc 3 0 0 0)/\Y c 10 (sl (u.map jm.t))/\Y c 11 (C w)) ?_ ?_ B ⟨⟨G,by simp[size_cons],G⟩,by simp[size_cons],by simp[size_cons],G⟩
 ·rintro w c k F Q ⟨h,i,j,n,o,e,g⟩;have x:=h.ne (b:=1) B;have y:=h.ne (b:=3) B;have aA:=bT u[w] (aG F);have L:=λ{b8:io} (ht:b8.p 11=some sq)=>JP ht A D u[w] r aA;have⟨d,E⟩:∃d,d=u[w]:=⟨_,rfl⟩;rw[<-E]at aA L;cases H:decide (d.fh=2)with
  |false=>simp[i,j,n,o,e,g,F,x,y,h.low,<-E,H,Q,h.cons]
  |true=>
  cases R:mH A D d&&A.gx.vR d with
  |false=>simp[i,j,n,o,e,g,F,x,y,h.low,<-E,H,L,R,Q,h.cons]
  |true=>
   have S:=R;simp only[az]at S;have⟨l2,bS⟩:=NT r (av▸(Mm.start T).walk T l [] _) (av▸Wf T l) (by simpa using H) S.2 S.1;simp[i,j,n,o,e,g,F,x,y,h.low,<-E,H,L,R];refine ik d.jz.length B (λs c q=>iQ 4 q/\q.get 1=some (X 15 1 [A.t])/\q.get 3=some (X 9 1 [D.t])/\q.get k.size=some (X 6 1 [d.t])/\k.size<q.size/\Y c 5 (.fc 1 0 0 0)/\Y c 8 (.fc 3 0 0 0)/\Y c 10 (sl (u.map jm.t))/\Y c 11 (C w)/\Y c 12 (.fc k.size 0 0 0)/\Y c 13 (C s)) ?_ ?_ B ⟨h.cons _,by simp[i,x],by simp[j,y],G,by simp[size_cons],by simp[n,o,e,g]⟩
   ·rintro s c q a8 b6 ⟨z,i,j,I,b9,n,o,e,g,N,O⟩;have x:=z.ne (b:=1) B;have y:=z.ne (b:=3) B;have b7:(k.size=q.size)=False:=dR;have aN:(s+1)% d.jz.length<d.jz.length:=Nat.mod_lt _ B;have⟨U,a7,W,J⟩:=bS s _ a8 aN rfl;have bX:binop .rem (C ((s:Int)+1)) (C (d.jz.length:Int))=some (C (((s+1)% d.jz.length:Nat):Int)):=by
     rw[D1 B];norm_cast
    generalize cF:(s+1)% d.jz.length=m at*
    have⟨K,Z,bg,ca,bi,bn⟩:=r.hw.at U;have⟨f,ae,bC,cb,bH,cd⟩:=r.hw.at a7;rw[ny (fQ.1 U).1 Z]at W J;rw[ny (fQ.1 a7).1 ae]at J;obtain⟨_,⟨V,rfl,cp,aE⟩,ab⟩:=FJ.use (A.fM,D.gu,K.eJ,K.fh,K.obj) ⟨r.hc.ft (pK U),bi,bn,by have:=lY r.hw.wb;simp only;omega,r.hc.rd⟩;simp only at aE ab;have bW:f.eJ∈V:=(aE _).2 ⟨bH,J⟩;have cX:Int.toNat ((m:Nat):Int)=m:=B;simp[i,j,I,n,o,e,g,N,O,x,y,b7,z.low,a8,aN,bX,Z,bg,ae,bC,xM,r,W,ab,RB,show V.length<=1099511627776 by omega,bW,b6,z.cons];omega
   ·rintro c q ⟨z,i,j,I,b9,n,o,e,g,N,O⟩;simp[i,j,I,n,o,e,g,N,O,Q,z]
 ·rintro c k ⟨h,i,j,n,o,e,g⟩;simp[e,g,h.hp,N5]
