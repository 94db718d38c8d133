/- Texts WOc to WOh. -/
import Derived.Test.YtmaeadedikngoaaGreatDoorA39
set_option linter.all false
set_option maxRecDepth 100000
set_option maxHeartbeats 8000000
namespace Go.Proofs.YtmaeadedikngoaaGreatDoor
noncomputable section
open Go Go.TI
attribute [-simp] List.map_take List.map_drop List.map_append fw eQ dZ Bool.not_or Bool.not_and
attribute [simp] fq eY
attribute [-simp] size_cons
def tW:gu:=⟨dG×Int,λa=>[a.1.t,dy a.2],λa=>True,λa=> .bool (decide (a.1.iA=3)&&decide (a.1.cond=a.2)),λa c b=>by simp at b;rw[dG.inj b.1,b.2]⟩
def Nv:tW.Ok Tryz.prog cx 130:=by
 refine gX (tb:=⟨pt [],ht []⟩) ew ej (iQ 23 [] Tryz.func130) (λd=>1) (by simp[tW]) (by simp[tW,Tryz.f130]) ?_;rintro⟨f,e⟩ _ g a;simp[tW]at a|-;obtain⟨b,c⟩:=a;simp[Tryz.f130,b,c]
def Kv{c:fy}(ht:c.p 130=some tW)(a:dG)(b:Int):rl Tryz.prog cx c 130 [a.t,dy b]=some (.bool (decide (a.iA=3)&&decide (a.cond=b))):=gU ht Nv (a,b) trivial
def KP(d:Int):∀(a c:List dG) (b:Nat),hU d (a++c) b=hU d a b++hU d c (b+a.length):=by
 intro a;induction a with
 |nil=>intro c b;rfl
 |cons f a e=>intro c b;simp only[cG,hU,e,aZ];rw[show b+(a.length+1)=b+1+a.length by omega];split<;>rfl
def Ba(c:Int)(b:List dG){a:Nat}(d:a<b.length):hU c (b.take (a+1)) 0=hU c (b.take a) 0++(if b[a].iA=3/\b[a].cond=c then [(a:Int)]else []):=by
 rw[aU d,KP,List.length_take,cw dq];simp[hU]
def mF(a:Int)(W:List Int):Int:=if a∈W then a else W.headD (-1)
structure HM where
 (S:fk) (c0 c2 c3:T) (c wk:Int)
structure VO(h h':H)(c3:T)(l:List dG):Prop where
 g:Gr h' c3 3 (l.map dG.t)
 ok:gF h.size h'
 fr:∀c,c<h.size->dO c3≠some c->h'.get c=h.get c
def ST(a:HM)(d:List T)(b:H):Prop:=d=[MC a.S a.c0 a.c2 a.c3,dy a.c,dy a.wk]/\Gr b a.c3 3 (a.S.dE.map dG.t)/\gF 0 b/\a.S.dE.length<=1000000
def Ni(a:HM)(g:List T)(d:H)(f:T)(e:H):Prop:=∃b,f= dy b/\b=mF a.wk (hU a.c a.S.dE 0)/\VO d e a.c3 (if hU a.c a.S.dE 0=[]then a.S.dE else a.S.dE.modify b.toNat (kc 4))
def K9{wk:Int}{W:List Int}{b:Nat}(d:∀c∈W,0<=c/\c<b):mF wk (W++[(b:Int)])=if mF wk W<0\/(b:Int)=wk then(b:Int)else mF wk W:=by
 unfold mF;by_cases a:wk∈W
 ·have:=d wk a;rw[aq (by simp[a]),aq a,ao dq]
 ·rw[ao a];by_cases e:(b:Int)=wk
  ·subst e;rw[aq dt,aq (.inr rfl)]
  ·rw[ao (by simp[a];omega)];cases W with
   |nil=>simp
   |cons c W=>have:=d c dt;simp;intro f;omega
def NJ:(js HM ST Ni).Ok Tryz.prog cx 85:=by
 refine jo (tb:=⟨pt [(130,tW)],ht []⟩) ew ej (iQ 9126837199 [] Tryz.func85) (λ_ _=>1000005) (λi a d bk=>by obtain⟨rfl,_⟩:=bk;simp[Tryz.f85]) ?_;rintro⟨⟨L,aN,bz,b⟩,Y,Z,K,c,wk⟩ _ d ⟨rfl,m,aE,hl⟩ g al;simp only at m hl;simp[MC]at al;obtain⟨a6,h,p⟩:=al;have av:=λh:H=>m.len (cx:=cx) h KS _ rfl;rw[aH]at av;have X:∀e,dO K=some e->e<d.size:=λe bi=>by obtain⟨_,_,_,_,bl,_⟩:=m.box bi;exact H.ez bl
 simp[Tryz.f85,a6,av];refine fh b.length dq (λi g h'=>Nb d h'/\d.size<h'.size/\h'.get d.size=some (dA 4 0 [.agg [Y,dy aN,Z,K]])/\dB g 1 (dy c)/\dB g 2 (dy wk)/\dB g 3 (.ptr d.size 0 0 0)/\dB g 7 (dy (mF wk (hU c (b.take i) 0)))/\dB g 11 K/\dB g 12 (dy b.length)/\dB g 13 (dy i)) ?_ ?_ dq ?_
 ·rintro i g h' Q an ⟨f,bn,J,h,p,I,n,G,z,A⟩;have v:gF 0 h':=⟨f.ok.hp,f.ok.low,aw _⟩;obtain⟨e,M,U,N,aX,C,r,j,R⟩:=m.at (x:=b[i].t) (i:=i) (by simp[Q]);rw[aH]at C R;subst C;have o:=(f.get e (H.ez r)).trans r;have bB:(e=h'.size)=False:=by have:=H.ez o;simp;omega
  have bs:=v.low;have T:=Ba c b Q;simp[h,p,n,G,z,A,Q,o,j,bs,Kv];generalize b[i]=l at*
  have a7:∀x∈hU c (b.take i) 0,0<=x/\x<i:=λx j=>by
   obtain⟨u,y,D⟩:=sJ j;simp at D;omega
  have O:=K9 (wk:=wk) a7;have aA:=f.cons (dA 3 1 [l.t]);have V:(h'.cons (dA 3 1 [l.t])).get d.size=some (dA 4 0 [.agg [Y,dy aN,Z,.arr e M 0 b.length false]]):=by rw[dP,ao dq];exact J
  refine dW (λq=> ?_) (λq=> ?_)
  ·simp only[aB,bP,aO]at q;rw[aq ⟨q.1.1,q.1.2⟩]at T;rw[aq q.2,<-T]at O;simp[h,p,I,G,z,A,an];exact⟨aA,dq,by simpa using V,O.symm⟩
  ·simp[h,p,I,n,G,z,A,an];refine⟨aA,dq,by simpa using V,?_⟩;rw[T];split
   ·rename_i ap;simp only[Bool.and_eq_false_iff,bI,bj]at q;rw[O,ao];rcases q with(q|q)|q
    ·exact absurd ap.1 q
    ·exact absurd ap.2 q
    ·rintro(k|k)
     ·exact q.1 k
     ·exact q.2 k
   ·simp
 ·rintro g h' ⟨f,bn,J,h,p,I,n,G,z,A⟩;rw[aL]at n;simp[n,z,A];have v:gF 0 h':=⟨f.ok.hp,f.ok.low,aw _⟩;refine dW (λq=> ?_) (λq=> ?_)
  ·have q:0<=mF wk (hU c b 0):=by simpa using q
   have s:mF wk (hU c b 0)∈hU c b 0:=by
    generalize hU c b 0=W at*
    unfold mF at*
    split
    ·assumption
    ·rename_i E;rw[ao E]at q;cases W with
     |nil=>simp at q
     |cons x W=>simp
   obtain⟨u,y,D⟩:=sJ s;have S:hU c b 0≠ []:=λk=>by rw[k]at s;simp at s
   obtain⟨l,ht⟩:∃l,b[u]? =some l:=⟨_,az D⟩;obtain⟨e,M,U,N,aX,C,r,j,R⟩:=m.at (x:=l.t) (i:=u) (by simp[ht]);rw[aH]at C R;subst C;have o:=(f.get e (H.ez r)).trans r;simp at y;simp[I,n,J,y,o,j,D];refine⟨_,rfl,y.symm,?_⟩;simp only;rw[ao S,cE,nH ht];have bu:=H.ez r;refine⟨?_,⟨((v.put e _).out d).hp,((v.put e _).out d).low,du⟩,λF B E=> ?_⟩
   ·have ae:=(m.mono (h':=h') λw P=>f.get w (X w P)).setAt rfl o u (kc 4 l).t (h':=lL d (dT h' e ⟨3,M,U+1,N,false,aX.set u (kc 4 l).t⟩)) (ver2:=U+1) (ex2:=N) (by rw[fO,dI o,aq rfl]);rw[<-bR]at ae;exact ae
   ·simp at E;rw[fO,dI o,ao dq];exact f.get F B
  ·have q:¬0<=mF wk (hU c b 0):=by simpa using q
   have S:hU c b 0=[]:=by
    generalize a8:hU c b 0=W at*
    have s:∀x∈W,0<=x:=λx j=>by rw[<-a8]at j;obtain⟨u,y,D⟩:=sJ j;omega
    unfold mF at q;split at q
    ·rename_i E;exact absurd (s _ E) q
    ·cases W with
     |nil=>rfl
     |cons x W=>have:=s x dt;simp at q;omega
   simp[n];refine⟨_,rfl,rfl,?_⟩;simp only;rw[aq S];exact⟨(m.mono (h':=h') λw P=>f.get w (X w P)).out d,⟨(v.out d).hp,(v.out d).low,du⟩,λF B _=>(fO d h' F).trans (f.get F B)⟩
 ·simp;exact⟨⟨((Nb.refl aE.hr).cons _).ok,λc B=>(((Nb.refl aE.hr).cons _).get c B).trans (f9 d c)⟩,h,p,by simp[mF,hU]⟩
def BI(b:Int)(a:dG):dG:=if a.iA=3/\a.cond=b then kc 4 a else a
def SU(a:HM)(d:List T)(b:H):Prop:=d=[MC a.S a.c0 a.c2 a.c3,dy a.c]/\Gr b a.c3 3 (a.S.dE.map dG.t)/\gF 0 b/\a.S.dE.length<=1000000
def Nj(a:HM)(f:List T)(b:H)(e:T)(d:H):Prop:=e= dy (hU a.c a.S.dE 0).length/\VO b d a.c3 (a.S.dE.map (BI a.c))
def Gf:(js HM SU Nj).Ok Tryz.prog cx 86:=by
 refine jo (tb:=⟨pt [(130,tW)],ht []⟩) ew ej (iQ 270071 [] Tryz.func86) (λ_ _=>1000005) (λi a d a7=>by obtain⟨rfl,_⟩:=a7;simp[Tryz.f86]) ?_;rintro⟨⟨L,bn,bu,b⟩,an,ap,v,e,bH⟩ _ d ⟨rfl,C,Z,hl⟩ l T;simp only at C hl;simp[MC]at T;obtain⟨aE,m⟩:=T;have Y:=λm:H=>C.len (cx:=cx) m KS _ rfl;rw[aH]at Y;have R:∀f,dO v=some f->f<d.size:=λf E=>by obtain⟨_,_,_,_,bi,_⟩:=C.box E;exact H.ez bi
 simp[Tryz.f86,aE,Y];refine fh b.length dq (λi l h'=>gF d.size h'/\d.size<h'.size/\h'.get d.size=some (dA 4 0 [.agg [an,dy bn,ap,v]])/\(∀c,c<d.size->dO v≠some c->h'.get c=d.get c)/\Gr h' v 3 (((b.take i).map (BI e)++b.drop i).map dG.t)/\dB l 1 (dy e)/\dB l 2 (.ptr d.size 0 0 0)/\dB l 5 (dy (hU e (b.take i) 0).length)/\dB l 9 v/\dB l 10 (dy b.length)/\dB l 11 (dy i)) ?_ ?_ dq ?_
 ·rintro i l h' n U ⟨u,P,I,B,r,m,K,z,D,w,y⟩;have bl:gF 0 h':=⟨u.hp,u.low,aw _⟩;have W:((b.take i).map (BI e)++b.drop i)[i]? =some b[i]:=by
   rw[cu du];simp[cw (show i<=b.length by omega),n]
  obtain⟨f,av,al,S,bs,V,M,X,a6⟩:=r.at (x:=b[i].t) (i:=i) (by simp[W]);have aX:(((b.take i).map (BI e)++b.drop i).map dG.t).length=b.length:=du;rw[aX]at V a6;subst V;have bB:(f=h'.size)=False:=by have:=H.ez M;simp;omega
  have E:f<d.size:=R f rfl;have bk:=bl.low;have F:=Ba e b n;have bz:(hU e (b.take i) 0).length<=i:=by have:=Bb e (b.take i) 0;simp at this;omega
  have aN:binop .add (dy ((hU e (b.take i) 0).length:Int)) (dy 1)=some (dy (((hU e (b.take i) 0).length:Int)+1)):=il dq dq;have O:(b.take (i+1)).map (BI e)++b.drop (i+1)=((b.take i).map (BI e)++b.drop i).set i (BI e b[i]):=by
   rw[List.set_append_right _ _ du,aU n,List.map_append,aI n];simp[cw (show i<=b.length by omega)];rw[aI n];rfl
  simp[m,D,w,y,n,M,X,bk,Kv];have A:BI e b[i]=if b[i].iA=3/\b[i].cond=e then kc 4 b[i]else b[i]:=rfl;generalize b[i]=h at*
  have ae:=u.cons (dA 3 1 [h.t]);have q:∀c,c<h'.size->(h'.cons (dA 3 1 [h.t])).get c=h'.get c:=λc g=>by rw[dP,ao dq]
  refine dW (λp=> ?_) (λp=> ?_)
  ·simp only[aB,aO]at p;rw[aq p]at F A;have N:=(q f dq).trans M;have Q:=(q d.size P).trans I;have bC:(f=d.size)=False:=du;simp[m,K,z,D,w,y,Q,N,X,n,aN,U];have J:∀G c,(dT (h'.cons (dA 3 1 [h.t])) f G).get c=if c=f then some G else(h'.cons (dA 3 1 [h.t])).get c:=λG c=>dI N G c;refine⟨ae.put _ _,dq,by rw[J,ao dq];exact Q,λc g s=>by rw[J,ao (λp=>s p.symm),q c dq];exact B c g (by simpa using s),?_,by rw[F];simp⟩;have aA:=r.mono (h':=h'.cons (dA 3 1 [h.t])) λc g=>q c (by simp at g;omega);have:=aA.setAt rfl N i (kc 4 h).t (h':=dT (h'.cons (dA 3 1 [h.t])) f ⟨3,av,al+1,S,false,bs.set i (kc 4 h).t⟩) (ver2:=al+1) (ex2:=S) (by rw[J,aq rfl]);rw[<-bR,<-A,<-O]at this;rw[A]at this;exact this
  ·rw[ao (by simpa using p)]at F A;simp[m,K,z,D,w,y,U];refine⟨ae,dq,by simpa using(q d.size P).trans I,λc g s=>by rw[ao dq];exact B c g (by simpa using s),?_,by rw[F];simp⟩;have a8:((b.take i).map (BI e)++b.drop i).set i h=(b.take i).map (BI e)++b.drop i:=by
    apply cU;intro j;rw[bQ];split
    ·rename_i k;subst k;rw[W];simp;omega
    ·rfl
   rw[A,a8]at O;have:=r.mono (h':=h'.cons (dA 3 1 [h.t])) λc g=>q c (by simp at g;omega);rw[<-O]at this;simpa using this
 ·rintro l h' ⟨u,P,I,B,r,m,K,z,D,w,y⟩;rw[aL,dh,cg]at r;rw[aL]at z;simp[z,w,y];exact⟨rfl,r.out d,⟨(u.out d).hp,(u.out d).low,du⟩,λc g s=>(fO d h' c).trans (B c g s)⟩
 ·simp;exact⟨⟨Z.hr.hp,Z.hr.low,au _⟩|>λ(o:gF d.size (TI.hr d))=>o.cons _,λc g _ p=>by omega,(C.mono (h':=TI.hr d) λf _=>f9 d f).mono λf E=>by rw[dP,ao (by have:=R f E;simp;omega)],m,by simp[hU]⟩
structure TM(h h':H)(v:T)(l:List Int):Prop where
 g:Gr h' v 1 (gG l)
 ok:gF h.size h'
 fr:∀c,c<h.size->dO v≠some c->h'.get c=h.get c
def NN:m6 Tryz.prog cx 219 (λa:Int=>[dy a]) (λ_=>True) (λ_ d=>d= .bool false):=by
 refine jd (tb:=⟨pt [],ht []⟩) ew ej (iQ 5 [] Tryz.func219) (λ_=>10) (λa e c=>by simpa using c) dt (by simp[Tryz.f219]) ?_;rintro(a:Int) _ f b;simp at b;simp[Tryz.f219,b]
def Di:gu:=⟨Int×Int,λa=>[dy a.1,dy a.2],λa=>True,λa=> .bool (decide (a.1<a.2)),λa c b=>by simp at b;rw[b.1,b.2]⟩
def Us:Di.Ok Tryz.prog cx 172:=by
 refine gX (tb:=⟨pt [(219,NN.jf)],ht []⟩) ew ej (iQ 19 [] Tryz.func172) (λa=>1) (by simp[Di]) (by simp[Di,Tryz.f172]) ?_;rintro⟨a,c⟩ _ h b;simp[Di]at b|-;obtain⟨e,f⟩:=b;obtain⟨_,rfl,d⟩:=NN.use a trivial;obtain⟨_,rfl,g⟩:=NN.use c trivial;simp[Tryz.f172,e,f,d]
def Po{c:fy}(ht:c.p 172=some Di)(a b:Int):rl Tryz.prog cx c 172 [dy a,dy b]=some (.bool (decide (a<b))):=gU ht Us (a,b) trivial
structure PV where
 (A:List Int) (t:Int) (v:T)
def SW(a:PV)(c:List T)(b:H):Prop:=c=[a.v,dy 0,dy ((a.A++[a.t]).length:Nat)]/\Gr b a.v 1 (gG (a.A++[a.t]))/\gF 0 b/\HO a.A/\a.t∉a.A/\a.A.length<=10
def Ej(a:PV)(d:List T)(b:H)(e:T)(c:H):Prop:=TM b c a.v (lH a.A a.t)
def IP{d:Int}:∀{b a:List Int},(∀c∈b,c<d)->(∀c∈a,d<c)->lH (b++a) d=b++d::a:=by
 intro b;induction b with
 |nil=>
  intro a _ e;cases a with
  |nil=>rfl
  |cons f a=>have:=e f dt;simp[lH];rw[ao dq,ao dq]
 |cons c b i=>intro a g e;have:=g c dt;simp only[cG,lH];rw[aq this,i (λf h=>g f (by simp[h])) e]
def KV{b:List Int}{c:Int}{a:Nat}(d:a<b.length):((gG (b.take (a+1)++c::b.drop (a+1))).set (a+1) (dy b[a])).set a (dy c)=gG (b.take a++c::b.drop a):=by
 have e:(b.take a).length=a:=du;rw[aU d,aI d];simp only[gG,List.map_append,aR,cr,cG,List.nil_append];have f:(List.map (T.int .i64) (b.take a)).length=a:=by simpa using e
 rw[List.set_append_right _ _ dq,List.set_append_right _ _ dq,f];simp
def Lr:(js PV SW Ej).Ok Tryz.prog cx 166:=by
 refine jo (tb:=⟨pt [(172,Di)],ht []⟩) ew ej (iQ 1073746119 [] Tryz.func166) (λ_ _=>100) (λi a e av=>by obtain⟨rfl,_⟩:=av;simp[Tryz.f166]) ?_;rintro⟨b,f,o⟩ _ e ⟨rfl,Y,G,N,ht,hl⟩ h al;simp only at Y N ht hl;simp at al;obtain⟨p,n,m⟩:=al;simp[Tryz.f166,n];have bu:Gr (TI.hr e) o 1 (gG (b++[f])):=Y.mono λl _=>f9 e l;have bi:binop .add (dy 0) (dy 1)=some (dy 1):=il dq dq;simp[bi];refine yC (b.length+1) (λk h h'=>1<=k/\TM e (lL e h') o (if k<=b.length then b++[f]else lH b f)/\gF e.size h'/\dB h 0 o/\dB h 1 (dy 0)/\dB h 2 (dy ((b.length:Int)+1))/\dB h 6 (dy k)) ?_ dq (k:=1) dq ?_
 ·rintro k h h' b6 ⟨bT,v,H,p,n,m,q⟩;have b9:gF 0 h':=⟨H.hp,H.low,aw _⟩;by_cases b7:k<b.length+1
  ·have O:binop .add (dy (k:Int)) (dy 1)=some (dy ((k:Int)+1)):=il dq dq;rw[aq dq]at v;have M:Gr h' o 1 (gG (b++[f])):=v.g.mono λl _=>(fO e h' l).symm;have bz:binop .sub (dy (k:Int)) (dy 1)=some (dy ((k-1:Nat):Int)):=by rw[kP dq dq];congr 2;omega
   simp[m,q,show(k:Int)<b.length+1 by omega];by_cases ap:k<b.length
   ·obtain⟨p1,J,K⟩:=(show oS h' 1 o _ from .inr M).idx (te:=FF) rfl rfl (i:=k) (x:= dy b[k]) (by simp[List.getElem?_append,ap]) rfl;obtain⟨p2,aX,a6⟩:=(show oS h' 1 o _ from .inr M).idx (te:=FF) rfl rfl (i:=k-1) (x:= dy b[k-1]) (by simp[List.getElem?_append,show k-1<b.length by omega]) rfl;have S:¬b[k]<b[k-1]:=by
     have:=List.pairwise_iff_getElem.1 N (k-1) k dq ap dq;omega
    refine yC 1 (λ_ h j=>h'=j/\dB h 0 o/\dB h 1 (dy 0)/\dB h 2 (dy ((b.length:Int)+1))/\dB h 6 (dy k)/\dB h 7 (dy k)) ?_ dq (k:=0) dq (by simp[p,n,m,q]);rintro _ h _ _ ⟨rfl,p,n,m,q,z⟩;simp[p,n,m,q,z,J,K,aX,a6,bz,Po,S,O];exact⟨k+1,dq,dq,dq,by rw[aq dq];exact v,H,dt⟩
   ·have bl:k=b.length:=dq;subst bl;have bk:=v.fr;refine yC b.length (λV h j=>∃r,r+V=b.length/\Gr j o 1 (gG (b.take r++f::b.drop r))/\gF e.size j/\(∀d,d<e.size->dO o≠some d->j.get d=e.get d)/\(∀x∈b.drop r,f<x)/\dB h 0 o/\dB h 1 (dy 0)/\dB h 2 (dy ((b.length:Int)+1))/\dB h 6 (dy b.length)/\dB h 7 (dy r)) ?_ dq (k:=0) dq ⟨b.length,dq,by simpa using M,H,λd A u=>(fO e h' d).symm.trans (bk d A u),dt,by simp[p,n,m,q]⟩;rintro V h j av ⟨r,bS,F,s,X,an,p,n,m,q,z⟩;have ca:gF 0 j:=⟨s.hp,s.low,aw _⟩;have fin:(∀x∈b.take r,x<f)->TM e (lL e j) o (lH b f):=λhl=>by
     have E:=IP hl an;rw[cN]at E;rw[E];exact⟨F.out e,⟨(s.out e).hp,(s.out e).low,by simp;exact s.sz⟩,λd A u=>(fO e j d).trans (X d A u)⟩
    cases r with
    |zero=>
     simp[p,n,m,q,z,O];exact⟨b.length+1,dq,dq,dq,by rw[ao dq];exact fin dt,s,dt⟩
    |succ c=>
     have C:c<b.length:=dq;have a8:(gG (b.take (c+1)++f::b.drop (c+1))).length=b.length+1:=du;have J:(b.take (c+1)++f::b.drop (c+1))[c+1]? =some f:=by rw[cu du];simp[cw (show c+1<=b.length by omega)]
     have K:(b.take (c+1)++f::b.drop (c+1))[c]? =some b[c]:=by rw[co du];simp[C]
     obtain⟨l,L,D,w,I,P,B,aE,bn⟩:=F.at (x:= dy f) (i:=c+1) (by rw[aQ,J];rfl);obtain⟨bB,bC,cb,bH,ce,Q,R,U,S⟩:=F.at (x:= dy b[c]) (i:=c) (by rw[aQ,K];rfl);rw[P]at Q;simp at Q;obtain⟨rfl,rfl⟩:=Q;rw[B]at R;simp at R;obtain⟨rfl,rfl,rfl⟩:=R;rw[a8]at P bn S;subst P;have aA:binop .sub (dy ((c:Int)+1)) (dy 1)=some (dy (c:Int)):=by rw[kP dq dq];congr 2;omega
     have aN:jX ((c:Int)+1)=some (c+1):=by have:=ei (show(0:Int)<=((c+1:Nat):Int)by omega);simpa using this
     by_cases T:f<b[c]
     ·have y:∀t d,(dT j l t).get d=if d=l then some t else j.get d:=λt d=>dI B t d;have ae:∀t W d,(dT (dT j l t) l W).get d=if d=l then some W else j.get d:=λt W d=>by
       rw[dI (x:=t) (by rw[y,aq rfl]),y];split<;>rfl
      have bs:∀x,(I.set (c+1) x)[c]? =some (dy b[c]):=λx=>by rw[bQ,ao dq];exact U
      simp[p,n,m,q,z,aA,aN,B,aE,U,show c+1<b.length+1 by omega,show c<b.length+1 by omega,show(0:Int)<(c:Int)+1 by omega,Po,T,y,bs];have a7:=F.setAt rfl B (c+1) (dy b[c]) (h':=dT j l ⟨1,L,D+1,w,false,I.set (c+1) (dy b[c])⟩) (ver2:=D+1) (ex2:=w) (by rw[y,aq rfl]);have Z:=a7.setAt rfl (by rw[y,aq rfl]) c (dy f) (h':=dT (dT j l ⟨1,L,D+1,w,false,I.set (c+1) (dy b[c])⟩) l ⟨1,L,D+1+1,w,false,(I.set (c+1) (dy b[c])).set c (dy f)⟩) (ver2:=D+1+1) (ex2:=w) (by rw[ae,aq rfl]);rw[KV C]at Z;refine⟨V+1,dq,dq,c,dq,Z,(s.put _ _).put _ _,λd A u=>by rw[ae,ao (λE=>u E.symm)];exact X d A (by simpa using u),λx hx=> ?_,rfl⟩;rw[aI C]at hx;rcases List.mem_cons.1 hx with rfl|hx
      ·exact T
      ·exact an x hx
     ·simp[p,n,m,q,z,aA,aN,B,aE,U,show c+1<b.length+1 by omega,show c<b.length+1 by omega,show(0:Int)<(c:Int)+1 by omega,Po,T,O];refine⟨b.length+1,dq,dq,dq,?_,s,dt⟩;rw[ao dq];refine fin λx hx=> ?_;obtain⟨i,bN,rfl⟩:=List.mem_take_iff_getElem.1 hx;have b8:b[c]≠f:=λk=>ht (by rw[<-k];exact aF C);rcases aD i c with k|k
      ·have:=List.pairwise_iff_getElem.1 N i c dq C k;omega
      ·have:i=c:=dq;subst this;omega
  ·rw[ao dq]at v;simp[m,q,show¬(k:Int)<b.length+1 by omega];exact v
 ·exact⟨dq,by
   have:(if 1<=b.length then b++[f]else lH b f)=b++[f]:=by
    split
    ·rfl
    ·rw[show b=[]from aY dq];rfl
   rw[this];exact⟨bu.out e,⟨(G.hr.out e).hp,(G.hr.out e).low,au _⟩,λd _ _=>(fO e _ d).trans (f9 e d)⟩,⟨G.hr.hp,G.hr.low,au _⟩,by simp[p,n,m]⟩
def SR(a:PV×Int)(c:List T)(b:H):Prop:=c=[a.1.v,dy 0,dy ((a.1.A++[a.1.t]).length:Nat),dy a.2]/\Gr b a.1.v 1 (gG (a.1.A++[a.1.t]))/\gF 0 b/\HO a.1.A/\a.1.t∉a.1.A/\a.1.A.length<=10
def Ng(a:PV×Int)(d:List T)(b:H)(e:T)(c:H):Prop:=TM b c a.1.v (lH a.1.A a.1.t)
def TM.out{h c:H}{e:T}{d:List Int}(a:TM (TI.hr h) c e d):TM h (lL h c) e d:=⟨a.g.out h,⟨(a.ok.out h).hp,(a.ok.out h).low,by have:=a.ok.sz;simpa using this⟩,λb f i=>(fO h c b).trans ((a.fr b (by simpa using f) i).trans (f9 h b))⟩
def YS:(js (PV×Int) SR Ng).Ok Tryz.prog cx 127:=by
 refine jo (tb:=⟨pt [],ht [(166,js PV SW Ej)]⟩) ew ej (iQ 10384593871817177683247510831234831 [] Tryz.func127) (λ_ _=>100) (λw t c o=>by obtain⟨rfl,_⟩:=o;simp[Tryz.f127]) ?_;rintro⟨⟨a,l,g⟩,x⟩ _ c ⟨rfl,h,s,i,ht,hl⟩ b j;simp only at h i ht hl;simp at j;obtain⟨d,e,f,v⟩:=j;have q:binop .sub (dy ((a.length:Int)+1)) (dy 0)=some (dy ((a.length:Int)+1)):=by rw[kP dq dq];simp
 have p:Gr (TI.hr c) g 1 (gG (a++[l])):=h.mono λm _=>f9 c m;simp[Tryz.f127];refine yC 1 (λ_ b n=>TI.hr c=n/\dB b 0 g/\dB b 1 (dy 0)/\dB b 2 (dy ((a.length:Int)+1))) ?_ dq (k:=0) dq (by simp[d,e,f]);rintro _ b _ _ ⟨rfl,d,e,f⟩;simp[d,e,f,q,show(a.length:Int)+1<=12 by omega];refine gY Lr dt ⟨a,l,g⟩ ⟨dt,p,s.hr,i,ht,hl⟩ ?_;rintro y u r;simp;exact r.out
def cv8(b:H)(a:Int)(c:0<=a)(d:a<256):WF cx b 272 5 ty5 (.int .u64 a)=some (.val (.int .u8 a) b):=by
 refine Fe Aq rfl ?_;rw[jn];unfold IntKind.wrap;simp[IntKind.bits,IntKind.signed];omega
def JV:m6 Tryz.prog cx 176 (λa:Nat=>[.int .u64 a]) (λa=>a<=11) (λ_=>DJ):=by
 refine jd (tb:=⟨pt [],ht []⟩) ew ej (iQ 16661 [] Tryz.func176) (λ_=>10) (λe f c=>by simp at c;omega) dt (by simp[Tryz.f176]) ?_;rintro(a:Nat) g h b;simp at b;have d:a=0\/a=1\/a=2\/a=3\/a=4\/a=5\/a=6\/a=7\/a=8\/a=9\/a=10\/a=11:=dq;rcases d with rfl|rfl|rfl|rfl|rfl|rfl|rfl|rfl|rfl|rfl|rfl|rfl<;>simp at b<;>simp[Tryz.f176,b,cv8,nJ]
def PQ{c:iL}{g h:Nat}{d:DL}(i b:Code)(e:Env)(f:H)(a:iB):W (jm cx c h g d (.cond (.const (Value.bool false)) i b) e f) a=W (jm cx c h g d b e f) a:=rfl
def Tc:m6 Tryz.prog cx 128 (λa:Nat=>[.int .u64 a]) (λa=>a<=11) (λ_=>DJ):=by
 refine jd (tb:=⟨pt [(176,JV.jf)],ht []⟩) ew ej (iQ 5 [] Tryz.func128) (λ_=>10) (λf g d=>by simp at d;omega) dt (by simp[Tryz.f128]) ?_;rintro(a:Nat) e i b;simp at b;obtain⟨_,⟨h,rfl⟩,c⟩:=JV.use a e;simp[Tryz.f128,b,c,PQ]
def SQ(a:PV)(c:List T)(b:H):Prop:=c=[a.v]/\Gr b a.v 1 (gG (a.A++[a.t]))/\gF 0 b/\HO a.A/\a.t∉a.A/\a.A.length<=10
def cvu(b:H)(a:Int)(c:0<=a)(d:a<256):WF cx b 3 220 MA (dy a)=some (.val (.int .u64 a) b):=by
 refine Fe Ro rfl ?_;rw[jn];unfold IntKind.wrap;simp[IntKind.bits,IntKind.signed];omega
def Up:(js PV SQ Ej).Ok Tryz.prog cx 81:=by
 refine jo (tb:=⟨pt [(128,Tc.jf)],ht [(127,js (PV×Int) SR Ng)]⟩) ew ej (iQ 5 [] Tryz.func81) (λ_ _=>100) (λs q c l=>by obtain⟨rfl,_⟩:=l;simp[Tryz.f81]) ?_;rintro⟨a,h,i⟩ _ c ⟨rfl,b,p,e,ht,hl⟩ u f;simp only at b e ht hl;simp at f;have g:=λk:H=>b.len (cx:=cx) k p8 _ rfl;simp at g;have m:Gr (TI.hr c) i 1 (gG (a++[h])):=b.mono λj _=>f9 c j;obtain⟨_,⟨o,rfl⟩,d⟩:=Tc.use (a.length+1) dq;simp at d;simp[Tryz.f81,f,g,cvu,show(a.length:Int)+1<256 by omega,show(0:Int)<=(a.length:Int)+1 by omega,d];refine gY YS dt (⟨a,h,i⟩,o) ⟨dt,m,p.hr,e,ht,hl⟩ ?_;rintro t r n;simp;exact TM.out n
structure ICo where
 (l:List Int) (v:T)
def S7(a:ICo)(c:List T)(b:H):Prop:=c=[a.v]/\Gr b a.v 1 (gG a.l)/\gF 0 b/\HO a.l/\a.l.length<=1000
def Np(c:ICo)(e:List T)(a:H)(d:T)(b:H):Prop:=d=c.v/\Nb a b
def Lt:(js ICo S7 Np).Ok Tryz.prog cx 82:=by
 refine jo (tb:=⟨pt [],ht []⟩) ew ej (iQ 17596514574653 [] Tryz.func82) (λ_ _=>1005) (λi D a A=>by obtain⟨rfl,_⟩:=A;simp[Tryz.f82]) ?_;rintro⟨b,f⟩ _ a ⟨rfl,h,C,m,hl⟩ g c;simp only at h m hl;simp at c;have e:=λw:H=>h.len (cx:=cx) w p8 _ rfl;rw[aH]at e;have n:Gr (TI.hr a) f 1 (gG b):=h.mono λq _=>f9 a q;have o:Nb a (lL a (TI.hr a)):=(Nb.refl C.hr).out;simp[Tryz.f82,c,e];refine dW (λp=> ?_) (λp=> ?_)
 ·simp[c];exact⟨rfl,o⟩
 have G:2<=b.length:=by simp at p;omega
 simp;refine yC b.length (λk g v=>TI.hr a=v/\1<=k/\dB g 0 f/\dB g 3 (dy k)) ?_ dq (k:=1) dq (by simp[c]);rintro k g _ F ⟨rfl,E,j,l⟩;by_cases d:k<b.length
 ·have y:binop .add (dy (k:Int)) (dy 1)=some (dy ((k:Int)+1)):=il dq dq;have B:binop .sub (dy (k:Int)) (dy 1)=some (dy ((k-1:Nat):Int)):=by rw[kP dq dq];congr 2;omega
  obtain⟨p1,r,s⟩:=(show oS (TI.hr a) 1 f _ from .inr n).idx (te:=FF) rfl rfl (i:=k) (x:= dy b[k]) (by simp[d]) rfl;obtain⟨p2,t,u⟩:=(show oS (TI.hr a) 1 f _ from .inr n).idx (te:=FF) rfl rfl (i:=k-1) (x:= dy b[k-1]) (by simp[show k-1<b.length by omega]) rfl;have z:¬b[k]=b[k-1]:=by
   have:=List.pairwise_iff_getElem.1 m (k-1) k dq d dq;omega
  simp[j,l,e,d,B,r,s,t,u,z,y];exact⟨k+1,dq,dq,dq,dt⟩
 ·simp[j,l,e,d];exact⟨rfl,o⟩
structure Jv where
 (P Q:List Int) (t:Int) (v:T) (b:Nat) (bx:iN)
def fnT(a:Jv):T:= .func 84 [.ptr a.b 0 0 0]
def VG(c:H)(a:Jv):Prop:=c.get a.b=some (dA 1 0 [dy a.t])
def Na(a:Jv×Int)(d:List T)(c:H):Prop:=d=[dy a.2,.ptr a.1.b 0 0 0]/\VG c a.1/\gF 0 c
def Il(a:Jv×Int)(e:List T)(b:H)(d:T)(c:H):Prop:=d= .bool (decide (a.2=a.1.t))/\Nb b c
def NZ:(js (Jv×Int) Na Il).Ok Tryz.prog cx 84:=by
 refine jo (tb:=⟨pt [],ht []⟩) ew ej (iQ 11 [] Tryz.func84) (λ_ _=>10) (λo m a h=>by obtain⟨rfl,_⟩:=h;simp[Tryz.f84]) ?_;rintro⟨⟨k,l,j,p,b,n⟩,r⟩ _ a ⟨rfl,f,i⟩ q c;simp at c;obtain⟨d,e⟩:=c;have g:(TI.hr a).get b=some (dA 1 0 [dy j]):=(f9 a b).trans f;simp[Tryz.f84,d,e,g];exact⟨rfl,(Nb.refl i.hr).out⟩
def SX(a:Jv)(c:List T)(b:H):Prop:=c=[a.v,fnT a]/\VG b a/\gF 0 b/\Gr b a.v 1 (gG (a.P++a.t::a.Q))/\a.t∉a.P/\a.P.length+a.Q.length<=1000
def Nl(c:Jv)(e:List T)(a:H)(d:T)(b:H):Prop:=d= dy c.P.length/\Nb a b
def Gj:(js Jv SX Nl).Ok Tryz.prog cx 129:=by
 refine jo (tb:=⟨pt [],ht [(84,js (Jv×Int) Na Il)]⟩) ew ej (iQ 66483 [] Tryz.func129) (λ_ _=>2000) (λi O p I=>by obtain⟨rfl,_⟩:=I;simp[Tryz.f129]) ?_;rintro⟨a,e,j,l,o,A⟩ _ p ⟨rfl,u,M,m,ht,hl⟩ d t;simp only at m ht hl;simp[fnT]at t;obtain⟨g,c⟩:=t;have v:=λc:H=>m.len (cx:=cx) c p8 _ rfl;simp at v;have z:∀b,dO l=some b->b<p.size:=λb q=>by obtain⟨_,_,_,_,L,_⟩:=m.box q;exact H.ez L
 simp[Tryz.f129,g,v];refine yC a.length (λk d f=>Nb (TI.hr p) f/\dB d 0 l/\dB d 1 (.func 84 [.ptr o 0 0 0])/\dB d 7 (dy ((a.length:Int)+((e.length:Int)+1)))/\dB d 8 (dy k)) ?_ dq (k:=0) dq ⟨Nb.refl M.hr,by simp[g,c]⟩;rintro k d f Q ⟨h,g,c,r,s⟩;have N:gF 0 f:=⟨h.ok.hp,h.ok.low,aw _⟩;have y:=h.hr;have D:Gr f l 1 (gG (a++j::e)):=m.mono λb q=>y.get b (z b q);have E:binop .add (dy (k:Int)) (dy 1)=some (dy ((k:Int)+1)):=il dq dq;obtain⟨x,n⟩:∃x,(a++j::e)[k]? =some x:=⟨_,az du⟩;obtain⟨p1,B,C⟩:=(show oS f 1 l _ from .inr D).idx (te:=FF) rfl rfl (i:=k) (x:= dy x) (by rw[aQ,n];rfl) rfl;simp[g,c,r,s,show(k:Int)<(a.length:Int)+((e.length:Int)+1)by omega,B,C];refine gY NZ dt (⟨a,e,j,l,o,A⟩,x) ⟨rfl,(y.get o (H.ez u)).trans u,N⟩ ?_;rintro _ P ⟨rfl,w⟩;simp;by_cases G:k<a.length
 ·have J:¬x=j:=by
   rw[co G]at n;rintro rfl;exact ht (ax n)
  simp[g,c,r,s,J,E];exact⟨k+1,dq,dq,h.trans w,dt⟩
 ·have F:k=a.length:=dq;subst F;have K:x=j:=by simpa using n.symm
  simp[K];exact⟨rfl,(h.trans w).out⟩
def T3(f:H)(g j:Ty)(h:ab)(b d e a c:Nat)(k:iN)(i:g.u= .slice h)(ht:cx.ty h=some j)(m:f.get b=some k)(o:k.sz=j.size)(n:c<=a):Ml cx f g (.arr b d e a false) (some c) none none=some (.val (.arr b d (e+c) (a-c) false) f):=by
 unfold Ml;have l:jl cx f g.u (.arr b d e a false)=true:=by
  rw[i];unfold jl;simp only[ht,m,o,Nat.beq_refl]
 rw[l,ij,show zg none none=true from rfl,ij,show asSlice g.u (.arr b d e a false)= .arr b d e a false by rw[i];rfl];show val f (fT (Nat.ble c a) (fT (Nat.ble a a) (dM (gh (Nat.add e c)) λq=>dM (gh (Nat.sub a c)) λp=>some (T.arr b d q p false))))=_;simp[n]
def Oi{d:Nat}{b:Env}{c:H}(a:List ah)(e:af ab):ja (.call ⟨.builtin .clear,a.toArray,e⟩) cx d b c=dM (fD (fG cx d b) a) λf=>kR .clear cx c e.toList f:=by
 show(dM (pq cx d b a) λa=>kR .clear cx c e.toList a)=_;rw[F7]
def Vt{b:H}{c a g d:Nat}{f:Bool}{e:List T}(l:Hp b)(h:b.get c=some ⟨1,a,g,f,false,e⟩)(k:d<e.length):kR .clear cx b [38] [.arr c a d 1 false]=some (.val .undef (dT b c ⟨1,a,g+1,f,false,e.set d (dy 0)⟩)):=by
 show CA cx b 38 (.arr c a d 1 false)=_;unfold CA pR;rw[kK,dR];simp only[show p8.u= .slice 3 from rfl,oq,dR];rw[h,dR];simp only[F1 l (H.ez h)];show fT (Nat.beq a a) (fT (Nat.beq 1 1) (dM (kx e d [dy 0]) λi=>dM (gh g.succ) λm=>dM (some (dT b c ⟨1,a,m,f,false,i⟩)) λj=>some (lh.val T.undef j)))=_;rw[sN,aq du,Nat.beq_refl,ij,show Nat.beq 1 1=true from rfl,ij,dR,iw,dR,dR,List.set_eq_take_append_cons_drop,aq k];simp
def SZ(a:Jv)(d:List T)(c:H):Prop:=d=[a.v,fnT a]/\VG c a/\gF 0 c/\Gr c a.v 1 (gG (a.P++a.t::a.Q))/\a.t∉a.P/\a.t∉a.Q/\a.P.length+a.Q.length<=1000/\dO a.v≠some a.b
def No(b:Jv)(f:List T)(c:H)(e:T)(d:H):Prop:=Gr d e 1 (gG (b.P++b.Q))/\dO e=dO b.v/\gF c.size d/\∀a,a<c.size->dO b.v≠some a->d.get a=c.get a
def OQ{P b:List Int}{t:Int}{a:Nat}(d:a<b.length):(gG (P++b.take a++(t::b).drop a)).set (P.length+a) (dy b[a])=gG (P++b.take (a+1)++(t::b).drop (a+1)):=by
 rw[<-bR,List.set_append_right _ _ du];have c:(t::b).drop a=(t::b)[a]' du::(t::b).drop (a+1):=aI du;rw[c,show P.length+a-(P++b.take a).length=0 by simp;omega,cM,aU d];show gG _=gG _;congr 1;simp only[cr,cG,List.nil_append]
def En:(js Jv SZ No).Ok Tryz.prog cx 83:=by
 refine jo (tb:=⟨pt [],ht [(84,js (Jv×Int) Na Il),(129,js Jv SX Nl)]⟩) ew ej (iQ 537399539 [] Tryz.func83) (λ_ _=>2000) (λi a h bC=>by obtain⟨rfl,_⟩:=bC;simp[Tryz.f83]) ?_;rintro⟨P,c,t,F,A,ae⟩ _ h ⟨rfl,T,b9,C,aN,aX,hl,Y⟩ z av;simp only at C aN aX hl Y;simp[fnT]at av;obtain⟨s,p⟩:=av;have K:=λp:H=>C.len (cx:=cx) p p8 _ rfl;simp at K;have a8:∀b,dO F=some b->b<h.size:=λb g=>by obtain⟨_,_,_,_,b7,_⟩:=C.box g;exact H.ez b7
 simp[Tryz.f83,s,p];refine gY Gj dt ⟨P,c,t,F,A,ae⟩ ⟨rfl,(f9 h A).trans T,b9.hr,C.mono λb _=>f9 h b,aN,hl⟩ ?_;rintro _ c4 ⟨rfl,b8⟩;have bl:binop .add (dy (P.length:Int)) (dy 1)=some (dy ((P.length:Int)+1)):=il dq dq;simp[show¬((P.length:Int)=-1)by omega,bl];have Z:=b8.hr;refine yC c.length (λd z h'=>gF h.size h'/\Gr h' F 1 (gG (P++c.take d++(t::c).drop d))/\(∀b,b<h.size->dO F≠some b->h'.get b=h.get b)/\dB z 0 F/\dB z 1 (.func 84 [.ptr A 0 0 0])/\dB z 5 (dy ((P.length+d:Nat):Int))/\dB z 6 (dy ((P.length+d+1:Nat):Int))) ?_ dq (k:=0) dq ⟨Z.ok,by simpa using C.mono λb g=>Z.get b (a8 b g),λb g _=>Z.get b g,by simp[s,p]⟩;rintro d z h' c6 ⟨w,D,Q,s,p,R,G⟩;have a6:gF 0 h':=⟨w.hp,w.low,aw _⟩;obtain⟨i,aA⟩:∃i,i=P.length+d:=⟨_,rfl⟩;obtain⟨j,u⟩:∃j,j=P.length+(c.length+1):=⟨_,rfl⟩;have bz:(P.length:Int)+((c.length:Int)+1)=j:=dq;rw[<-aA]at R G;rw[bz]at K;have S:(gG (P++c.take d++(t::c).drop d)).length=j:=du;have bn:binop .add (dy (i:Int)) (dy 1)=some (dy ((i:Int)+1)):=il dq dq;have bs:binop .add (dy ((i:Int)+1)) (dy 1)=some (dy ((i:Int)+1+1)):=il dq dq;by_cases X:d<c.length
 ·have B:(P++c.take d++(t::c).drop d)[i+1]? =some c[d]:=by
   rw[cu du,bG];rw[show d+(i+1-(P++c.take d).length)=d+1 by simp;omega];simp[X]
  obtain⟨f,bi⟩:∃f,(P++c.take d++(t::c).drop d)[i]? =some f:=⟨_,az du⟩;obtain⟨e,m,y,q,o,n,l,J,I⟩:=D.at (x:= dy c[d]) (i:=i+1) (by rw[aQ,B];rfl);obtain⟨ce,cv,c7,cL,dd,U,V,bT,aE⟩:=D.at (x:= dy f) (i:=i) (by rw[aQ,bi];rfl);rw[n]at U;simp at U;obtain⟨rfl,rfl⟩:=U;rw[l]at V;simp at V;obtain⟨rfl,rfl,rfl⟩:=V;rw[S]at n I aE;have al:=OQ (P:=P) (t:=t) X;rw[<-aA]at al;generalize bN:c[d]=M at*
  have bS:¬M=t:=λk=>aX (by rw[<-k,<-bN];exact aF X);subst n;simp at Y;have cb:jX ((i:Int)+1)=some (i+1):=by have:=ei (show(0:Int)<=((i+1:Nat):Int)by omega);simpa using this
  simp[s,p,G,K,show(i:Int)+1<j by omega,cb,l,J,I];refine gY NZ dt (⟨P,c,t,.arr e m 0 j false,A,ae⟩,M) ⟨rfl,(Q A (H.ez T) (by simpa using Y)).trans T,a6⟩ ?_;rintro _ E ⟨rfl,v⟩;have W:=(v.get e (H.ez l)).trans l;have r:∀f b,(dT E e f).get b=if b=e then some f else E.get b:=λf b=>dI W f b;simp[s,p,R,G,bS,W,bT,aE,bn,bs];have L:gF h.size E:=⟨v.ok.hp,v.ok.low,aS w.sz v.ok.sz⟩;have ap:=(D.mono (h':=E) λb g=>v.get b (by simp at g;have:=H.ez l;omega)).setAt rfl W i (dy M) (h':=dT E e ⟨1,m,y+1,q,false,o.set i (dy M)⟩) (ver2:=y+1) (ex2:=q) (by rw[r,aq rfl]);rw[al,cr]at ap;have di:=w.sz;exact⟨d+1,dq,dq,L.put _ _,ap,λb g u=>by rw[r,ao (λN=>u N.symm),v.get b dq];exact Q b g (by simpa using u),dq⟩
 ·have bu:d=c.length:=dq;subst bu;obtain⟨e,m,y,q,o,n,l,J,I⟩:=D.at (x:= dy ((P++c.take c.length++(t::c).drop c.length)[i]' du)) (i:=i) (by rw[aQ,az du];rfl);rw[S]at n I;have b6:i<o.length:=by
   rcases aD i o.length with k|k
   ·exact k
   ·rw[aK k]at J;simp at J
  have bk:o.take j=gG (P++c.take c.length++(t::c).drop c.length):=by
   rcases D with⟨rfl,_⟩|⟨cp,cy,c9,c1,de,B,O,an⟩
   ·simp at n
   ·rw[n]at B;simp at B;obtain⟨rfl,rfl,_⟩:=B;rw[l]at O;simp at O;obtain⟨_,_,rfl⟩:=O;rw[S]at an;exact an
  subst n;have r:∀f b,(dT h' e f).get b=if b=e then some f else h'.get b:=λf b=>dI l f b;have bB:j-i=1:=dq;have a7:=T3 h' p8 FF _ e m 0 j i _ rfl oq l rfl dq;rw[bB,Nat.zero_add]at a7;have ca:=JI (cx:=cx) (h:=dT h' e ⟨1,m,y+1,q,false,o.set i (dy 0)⟩) p8 FF _ e m 0 j i false _ rfl oq (by rw[r,aq rfl]) rfl dq;simp[s,R,G,K,show¬(i:Int)+1<j by omega,a7,Oi,Vt a6.hp l b6,ca];have L:=(w.put e ⟨1,m,y+1,q,false,o.set i (dy 0)⟩).out h;refine⟨.inr ⟨e,m,y+1,q,o.set i (dy 0),?_,by rw[fO,r,aq rfl],?_⟩,rfl,⟨L.hp,L.low,by simpa using w.sz⟩,λb g u=>by
   rw[fO,r,ao (λN=>u (by rw[N];rfl))];exact Q b g u⟩
  ·simp;omega
  ·have bH:(gG (P++c)).length=i:=du;rw[bH,List.take_set_of_le (au _)];have:=bM (List.take i) bk;rw[List.take_take,cw dq]at this;rw[this,aL];show List.take i (gG (P++c++(t::c).drop c.length))=gG (P++c);rw[gG,List.map_append,cV du,bF du]
def PG{g i:Type}{f:g->i->Prop}:∀{b:List g} {a:List i},b.length=a.length->(∀(d:Nat) e c,b[d]? =some e->a[d]? =some c->f e c)->iv f b a:=by
 intro b;induction b with
 |nil=>intro a hl _;cases a with
  |nil=>exact .nil
  |cons c a=>simp at hl
 |cons e b l=>intro a hl h;cases a with
  |nil=>simp at hl
  |cons c a=>exact .cons (h 0 e c rfl rfl) (l (by simpa using hl) λd m n j k=>h (d+1) m n (by simpa using j) (by simpa using k))
def Fy{b c:Type}{d:b->c->Prop}{f:List b}{g:List c}(k:iv d f g){e:Nat}{i:b}{j:c}(l:f[e]? =some i)(m:g[e]? =some j):d i j:=by
 obtain⟨o,a,n⟩:=k.get m;rw[l]at a;simp only[ar]at a;rw[a];exact n
structure CL(w:dU)(t:Int)(c0 c2 c3:T)(h:H)(es:List T)(S:fk)(ver:Nat):Prop where
 sy:AJ 4 h.size h c0 c2 c3 es S
 ok:gF 0 h
 g0:h.get 0=some (dA 6 0 [w.t])
 g1:h.get 1=some (dA 4 ver [.agg [c0,dy S.tx,c2,c3]])
 g2:h.get 2=some (dA 1 0 [dy t])
 g3:h.get 3=some (dA 4 0 [.agg [dz,dy 0,dz,dz]])
section
variable {w:dU}{t:Int}{c0 c2 c3:T}{h h':H}{es:List T}{S:fk}{ver:Nat}
def CL.put(a:CL w t c0 c2 c3 h es S ver){b:Nat}{x:iN}(d:h.get b=some x)(j:4<=b){g:iN}{f:List T}{e:fk}(i:AJ 4 h.size (dT h b g) c0 c2 c3 f e)(ht:e.tx=S.tx):CL w t c0 c2 c3 (dT h b g) f e ver:=
 ⟨by rw[fJ];exact i,a.ok.put _ _,by rw[dI d,ao dq];exact a.g0,by rw[dI d,ao dq,ht];exact a.g1,by rw[dI d,ao dq];exact a.g2,by rw[dI d,ao dq];exact a.g3⟩
def CL.oE(c:CL w t c0 c2 c3 h es S ver){a e k:Nat}{f:Bool}{l:List T}(g:dO c3=some a)(j:h.get a=some ⟨3,e,k,f,false,l⟩){i:Nat}{me:dG}(m:S.dE[i]? =some me)(d:dG->dG):
 CL w t c0 c2 c3 (dT h a ⟨3,e,k+1,f,false,l.set i (d me).t⟩) es {S with dE:=S.dE.modify i d} ver:=by
 have:=c.put j (c.sy.b a (.inr (.inr g))).1 (c.sy.oE g j i (d me)) rfl;rw[nH m];exact this
def CL.pO(g:CL w t c0 c2 c3 h es S ver){d i m:Nat}{j:Bool}{n:List T}(k:dO c0=some d)(l:h.get d=some ⟨2,i,m,j,false,n⟩){c:Nat}{f:dV}(hl:S.dY[c]? =some f)(e:dV->dV){rv:T}(hr:oS h 1 rv (gG (e f).eg))(o:∀a,dO rv=some a->4<=a/\a<h.size/\dO c0≠some a/\dO c2≠some a/\dO c3≠some a):
 CL w t c0 c2 c3 (dT h d ⟨2,i,m+1,j,false,n.set c (.agg [dy (e f).iK,rv])⟩) (es.set c (.agg [dy (e f).iK,rv])) {S with dY:=S.dY.modify c e} ver:=by
 have:=g.put l (g.sy.b d (.inl k)).1 (g.sy.pO k l c hr o) rfl;rw[nH hl];exact this
def CL.WE(c:CL w t c0 c2 c3 h es S ver){a f k:Nat}{g:Bool}{l:List T}(i:dO c2=some a)(j:h.get a=some ⟨1,f,k,g,false,l⟩)(d:Nat)(e:Bool):CL w t c0 c2 c3 (dT h a ⟨1,f,k+1,g,false,l.set d (.bool e)⟩) es {S with done:=S.done.set d e} ver:=
 c.put j (c.sy.b a (.inr (.inl i))).1 (c.sy.WE i j d e) rfl
def CL.tx(a:CL w t c0 c2 c3 h es S ver)(b:Int):CL w t c0 c2 c3 (dT h 1 (dA 4 (ver+1) [.agg [c0,dy b,c2,c3]])) es {S with tx:=b} (ver+1):=
 ⟨by rw[fJ];exact(a.sy.tx b).mono (au _) λc d _=>by rw[dI a.g1,ao dq],a.ok.put _ _,by rw[dI a.g1,ao dq];exact a.g0,by rw[dI a.g1,aq rfl],by rw[dI a.g1,ao dq];exact a.g2,by rw[dI a.g1,ao dq];exact a.g3⟩
def CL.Yk(c:CL w t c0 c2 c3 h es S ver){l:List dG}(j:VO h h' c3 l):CL w t c0 c2 c3 h' es {S with dE:=l} ver:=by
 have k:∀a,a<4->dO c3≠some a:=λa d f=>by have:=(c.sy.b a (.inr (.inr f))).1;omega
 have r:=j.ok.sz;have e:∀a,dO c3≠some a->a<h.size->h'.get a=h.get a:=λa f d=>j.fr a d f;refine⟨⟨c.sy.g0.mono λa d=>e a (λf=> ?_) (c.sy.b a (.inl d)).2,c.sy.g2.mono λa d=>e a (λf=> ?_) (c.sy.b a (.inr (.inl d))).2,j.g,c.sy.el.imp λp q ⟨o,m,n,i⟩=>⟨o,m,n.mono λa d=>e a (i a d).2.2.2.2 (i a d).2.1,λa d=>⟨(i a d).1,by have:=(i a d).2.1;omega,(i a d).2.2⟩⟩,λa d=>⟨(c.sy.b a d).1,by have:=(c.sy.b a d).2;omega⟩⟩,⟨j.ok.hp,j.ok.low,aw _⟩,(e 0 (k 0 dq) (H.ez c.g0)).trans c.g0,(e 1 (k 1 dq) (H.ez c.g1)).trans c.g1,(e 2 (k 2 dq) (H.ez c.g2)).trans c.g2,(e 3 (k 3 dq) (H.ez c.g3)).trans c.g3⟩
 ·exact c.sy.g0.ne c.sy.g3 dx a d f
 ·exact c.sy.g2.ne c.sy.g3 dx a d f
def CL.Zm(d:CL w t c0 c2 c3 h es S ver)(V:LkD es){f C K:Nat}{D:Bool}{L:List T}(p:dO c0=some f)(F:h.get f=some ⟨2,C,K,D,false,L⟩){l:Nat}{x:dV}(hl:S.dY[l]? =some x){W m:T}(R:es[l]? =some (.agg [W,m]))(i:∀a,dO m=some a->4<=a/\dO c0≠some a/\dO c2≠some a/\dO c3≠some a)
 {hT:H} (QL:gF h.size hT) (z:∀a,a<h.size->dO m≠some a->hT.get a=h.get a) {s:T} (u:dV->dV) (E:Gr hT s 1 (gG (u x).eg)) (r:∀a,dO s=some a->dO m=some a\/h.size<=a):
 CL w t c0 c2 c3 (dT hT f ⟨2,C,K+1,D,false,L.set l (.agg [dy (u x).iK,s])⟩) (es.set l (.agg [dy (u x).iK,s])) {S with dY:=S.dY.modify l u} ver:=by
 have Z:=QL.sz;have Q:=H.ez F;have X:=(d.sy.b f (.inl p)).1;have I:dO m≠some f:=λc=>(i f c).2.1 p;have G:hT.get f=_:=(z f Q I).trans F;have A:∀n a,(dT hT f n).get a=if a=f then some n else hT.get a:=λn a=>dI G n a;have y:∀a,a<4->dO m≠some a:=λa p c=>by have:=(i a c).1;omega
 have o:∀n a,a<h.size->a≠f->dO m≠some a->(dT hT f n).get a=h.get a:=λn a N O P=>by rw[A,ao O];exact z a N P
 refine⟨⟨?_,d.sy.g2.mono λa c=>o _ a (d.sy.b a (.inr (.inl c))).2 (λe=> ?_) (λe=>(i a e).2.2.1 c),d.sy.g3.mono λa c=>o _ a (d.sy.b a (.inr (.inr c))).2 (λe=> ?_) (λe=>(i a e).2.2.2 c),PG ?_ λk Y n g j=> ?_,λa c=>⟨(d.sy.b a c).1,by have:=(d.sy.b a c).2;simp;omega⟩⟩,(⟨QL.hp,QL.low,aw _⟩:gF 0 hT).put _ _,?_,?_,?_,?_⟩
 ·exact(d.sy.g0.mono (h':=hT) λa c=>z a (d.sy.b a (.inl c)).2 (λe=>(i a e).2.1 c)).setAt p G l _ (by rw[A,aq rfl])
 ·subst e;exact d.sy.g2.ne d.sy.g0 dx a c p
 ·subst e;exact d.sy.g3.ne d.sy.g0 dx a c p
 ·rw[cO,List.length_modify];exact d.sy.el.length
 ·rw[bQ]at g;rw[List.getElem?_modify]at j;by_cases v:l=k
  ·subst v;rw[hl]at j;simp at j;rw[aq rfl]at g;split at g
   ·simp only[ar]at g;subst g j;refine⟨s,rfl,.inr (E.mono λa c=> ?_),λa c=> ?_⟩
    ·rw[A,ao];rintro rfl;rcases r a c with k|k
     ·exact I k
     ·omega
    ·obtain⟨_,_,_,_,j,_⟩:=E.box c;have U:=H.ez j;refine⟨?_,by simpa using U,?_,?_,?_⟩
     ·rcases r a c with k|k
      ·exact(i a k).1
      ·omega
     ·rcases r a c with k|k
      ·exact(i a k).2.1
      ·exact λe=>by have:=(d.sy.b a (.inl e)).2;omega
     ·rcases r a c with k|k
      ·exact(i a k).2.2.1
      ·exact λe=>by have:=(d.sy.b a (.inr (.inl e))).2;omega
     ·rcases r a c with k|k
      ·exact(i a k).2.2.2
      ·exact λe=>by have:=(d.sy.b a (.inr (.inr e))).2;omega
   ·simp at g
  ·rw[ao v]at g;simp[v]at j;obtain⟨J,B,M,q⟩:=Fy d.sy.el g j;refine⟨J,B,M.mono λa c=>o _ a (q a c).2.1 (λe=>(q a c).2.2.1 (by rw[e];exact p)) (λe=>v ?_),λa c=>⟨(q a c).1,by have:=(q a c).2.1;simp;omega,(q a c).2.2⟩⟩;rw[B]at g;exact V l k m J _ _ a R g e c
 ·exact(o _ 0 (H.ez d.g0) dq (y 0 dq)).trans d.g0
 ·exact(o _ 1 (H.ez d.g1) dq (y 1 dq)).trans d.g1
 ·exact(o _ 2 (H.ez d.g2) dq (y 2 dq)).trans d.g2
 ·exact(o _ 3 (H.ez d.g3) dq (y 3 dq)).trans d.g3
end
end
noncomputable section
open Go Go.TI
attribute [-simp] List.map_take List.map_drop List.map_append fw eQ dZ Bool.not_or Bool.not_and
attribute [simp] fq eY
attribute [-simp] size_cons
structure ApO(w:dU)(s:fk)(t k o wk:Int)(c0 c2 c3:T)(h:H)(n:Int):Prop where
 ex:∃S es ver,eG w s t k o wk=(S,n)/\CL w t c0 c2 c3 h es S ver
structure ApF(w:dU)(s:fk)(t k o:Int):Prop where
 en:jM w s t k o=true
 cl:w.fZ.length<=1000000
 sm:MJ s
 r:∀l∈s.dY,l.eg.length<=10
def vQ:gu:=⟨dU×fk×Int×Int×Int×Int,λa=>[a.1.t,a.2.1.t,dy a.2.2.1,dy a.2.2.2.1,dy a.2.2.2.2.1,dy a.2.2.2.2.2],λa=>ApF a.1 a.2.1 a.2.2.1 a.2.2.2.1 a.2.2.2.2.1,λa=> .tuple [(eG a.1 a.2.1 a.2.2.1 a.2.2.2.1 a.2.2.2.2.1 a.2.2.2.2.2).1.t,dy (eG a.1 a.2.1 a.2.2.1 a.2.2.2.1 a.2.2.2.2.1 a.2.2.2.2.2).2,.bool true],λa c b=>by
 obtain⟨a1,a2,a3,a4,a5,d⟩:=a;obtain⟨e,f,g,h,i,j⟩:=c;simp at b;rw[dU.inj b.1,fk.inj b.2.1,b.2.2.1,b.2.2.2.1,b.2.2.2.2.1,b.2.2.2.2.2]⟩
def Og:vQ.Ok Tryz.prog cx 47:=by
 refine gX (tb:=⟨pt [(79,oJ)],ht [(80,js fk Dk S9),(81,js PV SQ Ej),(82,js ICo S7 Np),(83,js Jv SZ No),(85,js HM ST Ni),(86,js HM SU Nj)]⟩) ew ej (iQ 772424076352653274097095092108232752774234854811365887 [(19,[(1,4)]),(21,[(1,10)]),(32,[(4,9),(5,9)]),(35,[(4,8),(5,8)])] Tryz.func47) (λ_=>1000005) (by simp[vQ]) (by simp[vQ,Tryz.f47]) ?_;rintro⟨w,s,t,k,o,r⟩ ⟨J,eH,⟨hl,eL,ht,hr,di⟩,c9⟩ b6 eD;simp only at J eH hl eL ht hr di c9;simp[vQ]at eD|-;obtain⟨fE,ca,dd,eB,E,fY⟩:=eD;unfold jM at J;simp only[aB]at J;obtain⟨⟨⟨dm,dn⟩,bl⟩,J⟩:=J;obtain⟨bn,bs,eV⟩:=nO dm;have fi:=λ{tb:fy} (ht:tb.p 79=some oJ)=>L3 ht (w:=w) (s:=s) (t:=t) (k:=k) (o:=o) ⟨dm,dn,bl,J,eH,hr⟩
 ·simp[Tryz.f47,fE,ca,dd,eB,E,fi];generalize Y:(((hE.cons _).cons _).cons _).cons _=a8;have gE:gF 0 a8:=by rw[<-Y];exact⟨dt,dt,dt⟩
  have gQ:a8.size=4:=by rw[<-Y];rfl
  have e3:a8.get 0=some (dA 6 0 [w.t]):=by rw[<-Y];simp
  have e4:a8.get 1=some (dA 4 0 [s.t]):=by rw[<-Y];simp
  have e5:a8.get 2=some (dA 1 0 [dy t]):=by rw[<-Y];simp
  have I:a8.get 3=some (dA 4 0 [.agg [dz,dy 0,dz,dz]]):=by rw[<-Y];simp
  clear Y;refine gY N9 dt s ⟨rfl,gE,hl,eL,ht,hr⟩ ?_;rintro _ X ⟨aN,aX,a6,ey,rfl,e1,an,eh,eR⟩;rw[gQ]at e1 eh;have hq:=an.ok.sz;have gz:gF 0 X:=⟨an.ok.hp,an.ok.low,aw _⟩;have et:=(an.get 1 dq).trans e4;have e7:=(an.get 0 dq).trans e3;have e8:=(an.get 2 dq).trans e5;have e9:=(an.get 3 dq).trans I;have a7:∀v d,(dT X 1 v).get d=if d=1 then some v else X.get d:=λv d=>dI et v d;have c:CL w t aN aX a6 (dT X 1 (dA 4 1 [.agg [aN,dy s.tx,aX,a6]])) ey s 1:=⟨by rw[fJ];exact e1.mono (au _) λd q _=>by rw[a7,ao dq],gz.put _ _,by rw[a7,ao dq];exact e7,by rw[a7,aq rfl],by rw[a7,ao dq];exact e8,by rw[a7,ao dq];exact e9⟩;have eo:iv (LkG (dT X 1 (dA 4 1 [.agg [aN,dy s.tx,aX,a6]])) λd=>4<=d/\d<X.size/\dO aN≠some d/\dO aX≠some d/\dO a6≠some d) ey s.dY:=eh.imp λL m ⟨rv,U,fb,eu⟩=>⟨rv,U,fb.mono λd q=>by rw[a7,ao (by have:=(eu d q).1;omega)],eu⟩;simp[MC,et,eB];generalize dT X 1 _=M at*
  have eM:=dn;rw[<-eV]at eM;obtain⟨me,G,hb⟩:=iu eM;have bz:=ei (fj.1 dn).1;refine kS (λb6 bN=>∃n,ApO w s t k o r aN aX a6 bN n/\dB b6 7 (.ptr 1 0 0 0)/\dB b6 12 (.ptr 3 0 0 0)/\dB b6 15 (dy n)) (λae=> ?_) (λae=> ?_) ?_
  ·have ae:k=1:=by simpa using ae
   subst ae
   ·obtain⟨y,V,av,W,aE,A,e,l,j⟩:=c.sy.g3.at (x:=me.t) (i:=t.toNat) (by simp[G]);rw[aH]at A j;subst A;simp[c.g1,c.g2,bz,e,l,j];exact⟨_,_,_,show eG w s t 1 o r=(s.oE t (kc 2),0)by simp[eG],c.oE rfl e G (kc 2)⟩
  ·have ae:¬k=1:=by simpa using ae
   rcases tv bl with g|rfl|rfl|rfl|rfl|rfl|rfl|rfl|rfl|g|g|g|g
   ·exact absurd g ae
   ·obtain⟨y,V,av,W,aE,A,e,l,j⟩:=c.sy.g3.at (x:=me.t) (i:=t.toNat) (by simp[G]);rw[aH]at A j;subst A;simp[c.g1,c.g2,bz,e,l,j];exact⟨_,_,_,show eG w s t 2 o r=(s.oE t (kc 5),0)by simp[eG],c.oE rfl e G (kc 5)⟩
   ·simp;exact⟨_,_,_,show eG w s t 3 o r=(s,0)by simp[eG],c⟩
   ·simp;exact⟨_,_,_,show eG w s t 4 o r=(s,0)by simp[eG],c⟩
   ·simp;exact⟨_,_,_,show eG w s t 5 o r=(s,0)by simp[eG],c⟩
   ·simp[c.g1,c.g2,dS];exact⟨_,_,_,show eG w s t 12 o r=({s with tx:=t},0)by simp[eG],c.tx t⟩
   ·simp[c.g1,dS];exact⟨_,_,_,show eG w s t 13 o r=({s with tx:=-1},0)by simp[eG],c.tx (-1)⟩
   ·obtain⟨y,V,av,W,aE,A,e,l,j⟩:=c.sy.g3.at (x:=me.t) (i:=t.toNat) (by simp[G]);rw[aH]at A j;subst A;simp[c.g1,c.g2,bz,e,l,j];exact⟨_,_,_,show eG w s t 14 o r=(s.oE t (λx=>{x with atomic:=true}),0)by simp[eG],c.oE rfl e G (λx=>{x with atomic:=true})⟩
   ·obtain⟨y,V,av,W,aE,A,e,l,j⟩:=c.sy.g3.at (x:=me.t) (i:=t.toNat) (by simp[G]);rw[aH]at A j;subst A;simp[c.g1,c.g2,bz,e,l,j];exact⟨_,_,_,show eG w s t 15 o r=(s.oE t (λx=>{x with atomic:=false}),0)by simp[eG],c.oE rfl e G (λx=>{x with atomic:=false})⟩
   ·have F:=kA bl g;rw[<-bn]at F;obtain⟨B,C,de⟩:=iu F;have D:=ei (fj.1 F).1;obtain⟨L,Z,rv,rfl,bu,ap⟩:=c.sy.el.get C;obtain⟨y,V,av,W,aE,rfl,e,l,j⟩:=c.sy.g0.at Z;have bS:=H.ez e;have gV:=(c.sy.b y (.inl rfl)).1;have ea:(1=M.size)=False:=by have:=H.ez c.g1;simp;omega
    have hg:(y=M.size)=False:=du;have hc:=hr B (ax C);have hd:∀d,dO rv=some d->d<M.size:=λd q=>(ap d q).2.1;rcases g with rfl|rfl|rfl|rfl|rfl|rfl
    ·simp[E,c.g1,c.g2,D,e,l,j];exact⟨_,_,_,show eG w s t 6 o r=(s.pO o (λh=>{h with iK:=t}),0)by simp[eG],c.pO rfl e C (λh=>{h with iK:=t}) bu ap⟩
    ·simp[E,c.g1,D,e,l,j];exact⟨_,_,_,show eG w s t 7 o r=(s.pO o (λh=>{h with iK:=-1}),0)by simp[eG],c.pO rfl e C (λh=>{h with iK:=-1}) bu ap⟩
    ·have bC:=di B (ax C);have cb:=c9 B (ax C);have gk:t∉B.eg:=by
      simp[AY,de,ml]at J;exact J.2.2
     obtain⟨gI,U,gL,K⟩:=Fy eo Z C;simp at U;subst U;have b8:Gr M rv 1 (gG B.eg):=gL;obtain⟨ef,bH,fe,aA⟩:=b8.mJ (cx:=cx) (f:=T.int .i64) c.ok kK rfl oq rfl dt (λx=>rfl) t du;have ha:=c.ok.low;have hf:(2=M.size)=False:=by have:=H.ez c.g2;simp;omega
     simp[E,c.g1,c.g2,D,e,l,j,fe];refine gY Up dt ⟨B.eg,t,ef⟩ ⟨rfl,aA.1,⟨aA.2.2.2.hp,aA.2.2.2.low,aw _⟩,bC,gk,cb⟩ ?_;rintro _ eC al;have gP:=aA.2.2.2.sz;have hs:=al.ok.sz;have c7:∀d,d<M.size->dO rv≠some d->eC.get d=M.get d:=λd bn bs=>(al.fr d dq (λq=>(aA.2.2.1 d q).elim bs dq)).trans (aA.2.1 d bn bs);have gp:∀d,d<4->dO rv≠some d:=λd q k=>by have:=(K d k).1;omega
     have cL:=(c7 1 (H.ez c.g1) (gp 1 dq)).trans c.g1;have eW:=(c7 y bS (λk=>(K y k).2.2.1 rfl)).trans e;have gB:gF 0 eC:=⟨al.ok.hp,al.ok.low,aw _⟩;have gZ:=GN B.eg t;simp[E,cL];refine lP Lt dt ⟨lH B.eg t,ef⟩ ⟨rfl,al.g,gB,BW bC t,dw⟩ ?_;rintro O hT ⟨L,N⟩;simp only at L;rw[L];have ec:=ff (N.get 1 (H.ez cL));have t1:=(N.get 1 (H.ez cL)).trans cL;have tb:=(N.get y (H.ez eW)).trans eW;have gT:Gr hT ef 1 (gG (lH B.eg t)):=al.g.mono λd q=>by
      obtain⟨_,_,_,_,gn,_⟩:=al.g.box q;exact N.get d (H.ez gn)
     have hv:=N.ok.sz;simp[D,tb,l,j,ec,dS,gT.gJ,gT.cells];exact⟨_,_,_,show eG w s t 8 o r=(s.pO o (λh=>{h with eg:=lH h.eg t}),0)by simp[eG],c.Zm eR rfl e C Z (λd q=>⟨(K d q).1,(K d q).2.2⟩) (hT:=hT) ⟨N.ok.hp,N.ok.low,dq⟩ (λd bn bs=>(N.get d dq).trans (c7 d bn bs)) (λh=>{h with eg:=lH h.eg t}) gT aA.2.2.1⟩
    ·obtain⟨gI,U,gL,K⟩:=Fy eo Z C;simp at U;subst U;have b8:Gr M rv 1 (gG B.eg):=gL;have bC:=di B (ax C);have cb:=c9 B (ax C);have gj:t∈B.eg:=by
      simp[AY,de,ml]at J;exact J.2
     obtain⟨P,Q,ce⟩:=List.append_of_mem gj;have cp:t∉P/\t∉Q:=by
      rw[ce]at bC;have ca:=List.pairwise_append.1 bC;have dd:=List.pairwise_cons.1 ca.2.1;exact⟨λk=>by have:=ca.2.2 t k t dt;omega,λk=>by have:=dd.1 t k;omega⟩
     simp[E,c.g1,D,e,l,j];have gw:dO rv≠some 2:=λk=>by have:=(K 2 k).1;omega
     refine lP En dt ⟨P,Q,t,rv,2,⟨0,0,0,false,false,[]⟩⟩ ⟨rfl,c.g2,c.ok,by rw[ce]at b8;exact b8,cp.1,cp.2,by rw[ce]at cb;simp at cb|-;omega,gw⟩ ?_;rintro O bH ⟨b9,eF,eU,b7⟩;simp only at b9 eF b7;have eA:=b7 1 (H.ez c.g1) (λk=>by have:=(K 1 k).1;omega);have fB:=b7 y bS (λk=>(K y k).2.2.1 rfl);have ec:=ff eA;have gS:=eA.trans c.g1;have e6:=fB.trans e;have gi:B.eg.filter (λO=> !decide (O=t))=P++Q:=by
      rw[ce,List.filter_append,List.filter_cons];simp;rw[List.filter_eq_self.2 λx l=> ?_,List.filter_eq_self.2 λx l=> ?_]
      ·simp;exact λL=>cp.2 (by rw[<-L];exact l)
      ·simp;exact λL=>cp.1 (by rw[<-L];exact l)
     have gP:=eU.sz;simp[D,e6,l,j,ec,dS,b9.gJ,b9.cells];exact⟨_,_,_,show eG w s t 9 o r=(s.pO o (λh=>{h with eg:=h.eg.filter λO=> !decide (O=t)}),0)by simp[eG],c.Zm eR rfl e C Z (λd q=>⟨(K d q).1,(K d q).2.2⟩) (hT:=bH) eU b7 (λh=>{h with eg:=h.eg.filter λO=> !decide (O=t)}) (by show Gr bH O 1 (gG (B.eg.filter _));rw[gi];exact b9) (λd q=> .inl (by rw[<-eF];exact q))⟩
    ·simp[E,c.g1,c.g2,D,e,l,j];exact⟨_,_,_,show eG w s t 10 o r=(s.pO o (λh=>{h with iK:=t}),0)by simp[eG],c.pO rfl e C (λh=>{h with iK:=t}) bu ap⟩
    ·simp[E,c.g1,D,e,l,j];exact⟨_,_,_,show eG w s t 11 o r=(s.pO o (λh=>{h with iK:=-1}),0)by simp[eG],c.pO rfl e C (λh=>{h with iK:=-1}) bu ap⟩
   ·have F:=nG bl g;obtain⟨d,dk,eI⟩:=iu F;have dv:=rf dm dk;rw[<-bn]at dv;obtain⟨B,C,de⟩:=iu dv;have D:=ei (fj.1 F).1;have e2:=ei (fj.1 dv).1;obtain⟨L,Z,rv,rfl,bu,ap⟩:=c.sy.el.get C;obtain⟨y,V,av,W,aE,rfl,e,l,j⟩:=c.sy.g0.at Z;obtain⟨I,fl,gM,fo,c1,A,bi,cy,ds⟩:=c.sy.g3.at (x:=me.t) (i:=t.toNat) (by simp[G]);rw[aH]at A ds;subst A;have bS:=H.ez e;have eE:=H.ez bi;have ea:(1=y)=False:=by have:=(c.sy.b y (.inl rfl)).1;simp;omega
    have gv:(1=I)=False:=by have:=(c.sy.b I (.inr (.inr rfl))).1;simp;omega
    have eS:(2=y)=False:=by have:=(c.sy.b y (.inl rfl)).1;simp;omega
    have gy:(2=I)=False:=by have:=(c.sy.b I (.inr (.inr rfl))).1;simp;omega
    have eb:(I=y)=False:=by simp;rintro rfl;rw[e]at bi;simp at bi
    have eP:∀x,(c1.set t.toNat x)[t.toNat]? =some x:=λx=>by
     have:t.toNat<c1.length:=by
      rcases aD t.toNat c1.length with k|k
      ·exact k
      ·rw[aK k]at cy;simp at cy
     rw[bQ];simp[this]
    have bk:∀v,(dT M y v).get I=some ⟨3,fl,gM,fo,false,c1⟩:=λv=>by rw[dI e,ao (by simpa using eb)];exact bi
    have eX:=λv z=>mB (bk v) (show 1≠I by simpa using gv) z;have e0:=λv z=>mB (bk v) (show 2≠I by simpa using gy) z;have er:=λ(f:dV->dV) (q:(f B).eg=B.eg)=>c.pO rfl e C f (rv:=rv) (by rw[q];exact bu) ap;rcases g with rfl|rfl|rfl|rfl
    ·have c6:=(er (λh=>{h with iK:=-1}) rfl).oE rfl (bk _) G (λx=>{x with iA:=3});have bB:=c6.oE (me:=(λx=>{x with iA:=3}) me) rfl ((dI (bk _) _ _).trans (aq rfl)) (i:=t.toNat) (by simp[G]) (λx=>{x with cond:=o});simp only[AS,List.set_set]at bB;simp[E,c.g0,c.g1,c.g2,D,e2,bz,dk,e,bi,l,cy,j,ds,lY,c.ok.hp,bS,eE,ea,eb,eS,eP,eX,e0];exact⟨_,_,_,show eG w s t 16 o r=((s.pO d.kl λh=>{h with iK:=-1}).oE t (λx=>{x with iA:=3,cond:=o}),0)by simp[eG,eI],bB⟩
    ·have c6:=(er (λh=>{h with iK:=t}) rfl).oE rfl (bk _) G (λx=>{x with iA:=2});have bB:=c6.oE (me:=(λx=>{x with iA:=2}) me) rfl ((dI (bk _) _ _).trans (aq rfl)) (i:=t.toNat) (by simp[G]) (λx=>{x with cond:=0});simp only[AS,List.set_set]at bB;simp[E,c.g0,c.g1,c.g2,D,e2,bz,dk,e,bi,l,cy,j,ds,lY,c.ok.hp,bS,eE,ea,eb,eS,eP,eX,e0];exact⟨_,_,_,show eG w s t 17 o r=((s.pO d.kl λh=>{h with iK:=t}).oE t (λx=>{x with iA:=2,cond:=0}),0)by simp[eG,eI],bB⟩
    ·simp[E,fY,c.g1];refine gY NJ dt ⟨s,_,_,_,o,r⟩ ⟨rfl,c.sy.g3,c.ok,ht⟩ ?_;rintro _ bH ⟨n,rfl,eN,bT⟩;simp only at eN bT;simp;exact⟨_,_,_,show eG w s t 18 o r=({s with dE:=if hU o s.dE 0=[]then s.dE else s.dE.modify n.toNat (kc 4)},n)by
      have eO:xG o r s.dE=n:=by rw[eN];rfl
      unfold eG;simp;by_cases q:hU o s.dE 0=[]
      ·rw[aq q,aq q,<-eO];unfold xG;rw[q];rfl
      ·rw[ao q,ao q,eO];rfl,c.Yk bT⟩
    ·simp[E,c.g1];refine gY Gf dt ⟨s,_,_,_,o,0⟩ ⟨rfl,c.sy.g3,c.ok,ht⟩ ?_;rintro _ bH ⟨rfl,bT⟩;simp only at bT;simp;exact⟨_,_,_,show eG w s t 19 o r=({s with dE:=s.dE.map (BI o)},((hU o s.dE 0).length:Int))by
      unfold eG;simp;intro a _;rfl,c.Yk bT⟩
   ·have F:=v7 bl g;rw[<-eV]at F;obtain⟨u,cv,gm⟩:=iu F;have D:=ei (fj.1 F).1;rcases g with rfl|rfl
    ·obtain⟨y,V,av,W,aE,A,e,l,j⟩:=c.sy.g3.at (x:=u.t) (i:=o.toNat) (by simp[cv]);rw[aH]at A j;subst A;simp[E,c.g1,D,e,l,j];exact⟨_,_,_,show eG w s t 20 o r=(s.oE o (kc 1),0)by simp[eG],c.oE rfl e cv (kc 1)⟩
    ·simp;exact⟨_,_,_,show eG w s t 21 o r=(s,0)by simp[eG],c⟩
   ·have F:=qz bl g;rw[<-bs]at F;obtain⟨u,cv,gm⟩:=iu F;have D:=ei (fj.1 F).1;rcases g with rfl|rfl
    ·obtain⟨y,V,av,W,aE,A,e,l,j⟩:=c.sy.g2.at (x:= .bool u) (i:=o.toNat) (by simp[cv]);rw[aH]at A j;subst A;simp[E,c.g1,D,e,l,j];exact⟨_,_,_,show eG w s t 22 o r=({s with done:=s.done.set o.toNat true},0)by simp[eG],c.WE rfl e o.toNat true⟩
    ·simp;exact⟨_,_,_,show eG w s t 23 o r=(s,0)by simp[eG],c⟩
  ·rintro b6 bN ⟨n,⟨S,fm,hh,gg,R⟩,gd,fL,fS⟩;obtain⟨hj,hn,ho⟩:=R.sy.fz;have fC:∀v,(dT bN 3 v).get 3=some v:=λv=>(dI R.g3 v _).trans (aq rfl);have c4:∀v,AJ 4 bN.size (dT bN 3 v) aN aX a6 fm S:=λv=>R.sy.mono (au _) λd q _=>by rw[dI R.g3,ao dq]
   have fs:=λv=>(c4 v).fz.1;have fv:=λv=>(c4 v).fz.2.1;have fA:=λv=>(c4 v).fz.2.2;simp[gd,fL,fS,R.g1,R.g3,fC,dS,fs,fv,fA,gg,R.ok.hp]
end
end Go.Proofs.YtmaeadedikngoaaGreatDoor
