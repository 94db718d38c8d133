/- Texts WOc to WOh. -/
import Derived.Test.YtmaeadedikngoaaGreatDoorA39
set_option linter.unusedVariables false
set_option linter.unusedSimpArgs false
set_option linter.defProp false
set_option maxRecDepth 100000
set_option maxHeartbeats 8000000
namespace Go.Proofs.YtmaeadedikngoaaGreatDoor
noncomputable section
open Go Go.TI
attribute [-simp] List.map_take List.map_drop List.map_append fj eG dY Bool.not_or Bool.not_and
attribute [simp] fh eJ
attribute [-simp] size_cons
def tP:f7:=⟨dD×Int,λa=>[a.1.t,dw a.2],λa=>True,λa=> .bool (decide (a.1.iv=3)&&decide (a.1.cond=a.2)),λa c b=>by simp at b;rw[dD.inj b.1,b.2]⟩
def Nj:tP.Ok Tryz.prog cx 130:=by
 refine gH (tb:=⟨pt [],ht []⟩) ei eg (iL 23 [] Tryz.func130) (λd=>1) (by simp[tP]) (by simp[tP,Tryz.f130]) ?_;rintro⟨f,e⟩ _ g a;simp[tP]at a|-;obtain⟨b,c⟩:=a;simp[Tryz.f130,b,c]
def Kl{c:fq}(ht:c.p 130=some tP)(a:dD)(b:Int):rl Tryz.prog cx c 130 [a.t,dw b]=some (.bool (decide (a.iv=3)&&decide (a.cond=b))):=gF ht Nj (a,b) trivial
def KG(d:Int):∀(a c:List dD) (b:Nat),gU d (a++c) b=gU d a b++gU d c (b+a.length):=by
 intro a;induction a with
 |nil=>intro c b;rfl
 |cons f a e=>intro c b;simp only[cE,gU,e,aZ];rw[show b+(a.length+1)=b+1+a.length by omega];split<;>rfl
def A2(c:Int)(b:List dD){a:Nat}(d:a<b.length):gU c (b.take (a+1)) 0=gU c (b.take a) 0++(if b[a].iv=3/\b[a].cond=c then [(a:Int)]else []):=by
 rw[aU d,KG,List.length_take,cv dj];simp[gU]
def mz(a:Int)(W:List Int):Int:=if a∈W then a else W.headD (-1)
structure HE where
 (S:fg) (c0 c2 c3:T) (c wk:Int)
structure VD(h h':H)(c3:T)(l:List dD):Prop where
 g:Gr h' c3 3 (l.map dD.t)
 ok:gu h.size h'
 fr:∀c,c<h.size->dL c3≠some c->h'.get c=h.get c
def SD(a:HE)(d:List T)(b:H):Prop:=d=[Mq a.S a.c0 a.c2 a.c3,dw a.c,dw a.wk]/\Gr b a.c3 3 (a.S.dB.map dD.t)/\gu 0 b/\a.S.dB.length<=1000000
def M5(a:HE)(g:List T)(d:H)(f:T)(e:H):Prop:=∃b,f= dw b/\b=mz a.wk (gU a.c a.S.dB 0)/\VD d e a.c3 (if gU a.c a.S.dB 0=[]then a.S.dB else a.S.dB.modify b.toNat (j7 4))
def KZ{wk:Int}{W:List Int}{b:Nat}(d:∀c∈W,0<=c/\c<b):mz wk (W++[(b:Int)])=if mz wk W<0\/(b:Int)=wk then(b:Int)else mz wk W:=by
 unfold mz;by_cases a:wk∈W
 ·have:=d wk a;rw[aq (by simp[a]),aq a,ao dj]
 ·rw[ao a];by_cases e:(b:Int)=wk
  ·subst e;rw[aq dp,aq (.inr rfl)]
  ·rw[ao (by simp[a];omega)];cases W with
   |nil=>simp
   |cons c W=>have:=d c dp;simp;intro f;omega
def Nx:(jp HE SD M5).Ok Tryz.prog cx 85:=by
 refine jk (tb:=⟨pt [(130,tP)],ht []⟩) ei eg (iL 9126837199 [] Tryz.func85) (λ_ _=>1000005) (λi a d bk=>by obtain⟨rfl,_⟩:=bk;simp[Tryz.f85]) ?_;rintro⟨⟨L,aN,bz,b⟩,Y,Z,K,c,wk⟩ _ d ⟨rfl,m,aE,hl⟩ g al;simp only at m hl;simp[Mq]at al;obtain⟨a6,h,p⟩:=al;have av:=λh:H=>m.len (cx:=cx) h KJ _ rfl;rw[aH]at av;have X:∀e,dL K=some e->e<d.size:=λe bi=>by obtain⟨_,_,_,_,bl,_⟩:=m.box bi;exact H.ej bl
 simp[Tryz.f85,a6,av];refine fc b.length dj (λi g h'=>Nb d h'/\d.size<h'.size/\h'.get d.size=some (dy 4 0 [.agg [Y,dw aN,Z,K]])/\dz g 1 (dw c)/\dz g 2 (dw wk)/\dz g 3 (.ptr d.size 0 0 0)/\dz g 7 (dw (mz wk (gU c (b.take i) 0)))/\dz g 11 K/\dz g 12 (dw b.length)/\dz g 13 (dw i)) ?_ ?_ dj ?_
 ·rintro i g h' Q an ⟨f,bn,J,h,p,I,n,G,z,A⟩;have v:gu 0 h':=⟨f.ok.hp,f.ok.low,aw _⟩;obtain⟨e,M,U,N,aX,C,r,j,R⟩:=m.at (x:=b[i].t) (i:=i) (by simp[Q]);rw[aH]at C R;subst C;have o:=(f.get e (H.ej r)).trans r;have bB:(e=h'.size)=False:=by have:=H.ej o;simp;omega
  have bs:=v.low;have T:=A2 c b Q;simp[h,p,n,G,z,A,Q,o,j,bs,Kl];generalize b[i]=l at*
  have a7:∀x∈gU c (b.take i) 0,0<=x/\x<i:=λx j=>by
   obtain⟨u,y,D⟩:=so j;simp at D;omega
  have O:=KZ (wk:=wk) a7;have aA:=f.cons (dy 3 1 [l.t]);have V:(h'.cons (dy 3 1 [l.t])).get d.size=some (dy 4 0 [.agg [Y,dw aN,Z,.arr e M 0 b.length false]]):=by rw[dM,ao dj];exact J
  refine dU (λq=> ?_) (λq=> ?_)
  ·simp only[aB,bP,aO]at q;rw[aq ⟨q.1.1,q.1.2⟩]at T;rw[aq q.2,<-T]at O;simp[h,p,I,G,z,A,an];exact⟨aA,dj,by simpa using V,O.symm⟩
  ·simp[h,p,I,n,G,z,A,an];refine⟨aA,dj,by simpa using V,?_⟩;rw[T];split
   ·rename_i ap;simp only[Bool.and_eq_false_iff,bI,bj]at q;rw[O,ao];rcases q with(q|q)|q
    ·exact absurd ap.1 q
    ·exact absurd ap.2 q
    ·rintro(k|k)
     ·exact q.1 k
     ·exact q.2 k
   ·simp
 ·rintro g h' ⟨f,bn,J,h,p,I,n,G,z,A⟩;rw[aL]at n;simp[n,z,A];have v:gu 0 h':=⟨f.ok.hp,f.ok.low,aw _⟩;refine dU (λq=> ?_) (λq=> ?_)
  ·have q:0<=mz wk (gU c b 0):=by simpa using q
   have s:mz wk (gU c b 0)∈gU c b 0:=by
    generalize gU c b 0=W at*
    unfold mz at*
    split
    ·assumption
    ·rename_i E;rw[ao E]at q;cases W with
     |nil=>simp at q
     |cons x W=>simp
   obtain⟨u,y,D⟩:=so s;have S:gU c b 0≠ []:=λk=>by rw[k]at s;simp at s
   obtain⟨l,ht⟩:∃l,b[u]? =some l:=⟨_,az D⟩;obtain⟨e,M,U,N,aX,C,r,j,R⟩:=m.at (x:=l.t) (i:=u) (by simp[ht]);rw[aH]at C R;subst C;have o:=(f.get e (H.ej r)).trans r;simp at y;simp[I,n,J,y,o,j,D];refine⟨_,rfl,y.symm,?_⟩;simp only;rw[ao S,cC,nz ht];have bu:=H.ej r;refine⟨?_,⟨((v.put e _).out d).hp,((v.put e _).out d).low,dq⟩,λF B E=> ?_⟩
   ·have ae:=(m.mono (h':=h') λw P=>f.get w (X w P)).setAt rfl o u (j7 4 l).t (h':=lA d (dQ h' e ⟨3,M,U+1,N,false,aX.set u (j7 4 l).t⟩)) (ver2:=U+1) (ex2:=N) (by rw[fK,dE o,aq rfl]);rw[<-bR]at ae;exact ae
   ·simp at E;rw[fK,dE o,ao dj];exact f.get F B
  ·have q:¬0<=mz wk (gU c b 0):=by simpa using q
   have S:gU c b 0=[]:=by
    generalize a8:gU c b 0=W at*
    have s:∀x∈W,0<=x:=λx j=>by rw[<-a8]at j;obtain⟨u,y,D⟩:=so j;omega
    unfold mz at q;split at q
    ·rename_i E;exact absurd (s _ E) q
    ·cases W with
     |nil=>rfl
     |cons x W=>have:=s x dp;simp at q;omega
   simp[n];refine⟨_,rfl,rfl,?_⟩;simp only;rw[aq S];exact⟨(m.mono (h':=h') λw P=>f.get w (X w P)).out d,⟨(v.out d).hp,(v.out d).low,dq⟩,λF B _=>(fK d h' F).trans (f.get F B)⟩
 ·simp;exact⟨⟨((Nb.refl aE.hr).cons _).ok,λc B=>(((Nb.refl aE.hr).cons _).get c B).trans (fX d c)⟩,h,p,by simp[mz,gU]⟩
def Bz(b:Int)(a:dD):dD:=if a.iv=3/\a.cond=b then j7 4 a else a
def SE(a:HE)(d:List T)(b:H):Prop:=d=[Mq a.S a.c0 a.c2 a.c3,dw a.c]/\Gr b a.c3 3 (a.S.dB.map dD.t)/\gu 0 b/\a.S.dB.length<=1000000
def M6(a:HE)(f:List T)(b:H)(e:T)(d:H):Prop:=e= dw (gU a.c a.S.dB 0).length/\VD b d a.c3 (a.S.dB.map (Bz a.c))
def Gi:(jp HE SE M6).Ok Tryz.prog cx 86:=by
 refine jk (tb:=⟨pt [(130,tP)],ht []⟩) ei eg (iL 270071 [] Tryz.func86) (λ_ _=>1000005) (λi a d a7=>by obtain⟨rfl,_⟩:=a7;simp[Tryz.f86]) ?_;rintro⟨⟨L,bn,bu,b⟩,an,ap,v,e,bH⟩ _ d ⟨rfl,C,Z,hl⟩ l T;simp only at C hl;simp[Mq]at T;obtain⟨aE,m⟩:=T;have Y:=λm:H=>C.len (cx:=cx) m KJ _ rfl;rw[aH]at Y;have R:∀f,dL v=some f->f<d.size:=λf E=>by obtain⟨_,_,_,_,bi,_⟩:=C.box E;exact H.ej bi
 simp[Tryz.f86,aE,Y];refine fc b.length dj (λi l h'=>gu d.size h'/\d.size<h'.size/\h'.get d.size=some (dy 4 0 [.agg [an,dw bn,ap,v]])/\(∀c,c<d.size->dL v≠some c->h'.get c=d.get c)/\Gr h' v 3 (((b.take i).map (Bz e)++b.drop i).map dD.t)/\dz l 1 (dw e)/\dz l 2 (.ptr d.size 0 0 0)/\dz l 5 (dw (gU e (b.take i) 0).length)/\dz l 9 v/\dz l 10 (dw b.length)/\dz l 11 (dw i)) ?_ ?_ dj ?_
 ·rintro i l h' n U ⟨u,P,I,B,r,m,K,z,D,w,y⟩;have bl:gu 0 h':=⟨u.hp,u.low,aw _⟩;have W:((b.take i).map (Bz e)++b.drop i)[i]? =some b[i]:=by
   rw[cu dq];simp[cv (show i<=b.length by omega),n]
  obtain⟨f,av,al,S,bs,V,M,X,a6⟩:=r.at (x:=b[i].t) (i:=i) (by simp[W]);have aX:(((b.take i).map (Bz e)++b.drop i).map dD.t).length=b.length:=dq;rw[aX]at V a6;subst V;have bB:(f=h'.size)=False:=by have:=H.ej M;simp;omega
  have E:f<d.size:=R f rfl;have bk:=bl.low;have F:=A2 e b n;have bz:(gU e (b.take i) 0).length<=i:=by have:=A3 e (b.take i) 0;simp at this;omega
  have aN:binop .add (dw ((gU e (b.take i) 0).length:Int)) (dw 1)=some (dw (((gU e (b.take i) 0).length:Int)+1)):=gY dj dj;have O:(b.take (i+1)).map (Bz e)++b.drop (i+1)=((b.take i).map (Bz e)++b.drop i).set i (Bz e b[i]):=by
   rw[List.set_append_right _ _ dq,aU n,List.map_append,aI n];simp[cv (show i<=b.length by omega)];rw[aI n];rfl
  simp[m,D,w,y,n,M,X,bk,Kl];have A:Bz e b[i]=if b[i].iv=3/\b[i].cond=e then j7 4 b[i]else b[i]:=rfl;generalize b[i]=h at*
  have ae:=u.cons (dy 3 1 [h.t]);have q:∀c,c<h'.size->(h'.cons (dy 3 1 [h.t])).get c=h'.get c:=λc g=>by rw[dM,ao dj]
  refine dU (λp=> ?_) (λp=> ?_)
  ·simp only[aB,aO]at p;rw[aq p]at F A;have N:=(q f dj).trans M;have Q:=(q d.size P).trans I;have bC:(f=d.size)=False:=dq;simp[m,K,z,D,w,y,Q,N,X,n,aN,U];have J:∀G c,(dQ (h'.cons (dy 3 1 [h.t])) f G).get c=if c=f then some G else(h'.cons (dy 3 1 [h.t])).get c:=λG c=>dE N G c;refine⟨ae.put _ _,dj,by rw[J,ao dj];exact Q,λc g s=>by rw[J,ao (λp=>s p.symm),q c dj];exact B c g (by simpa using s),?_,by rw[F];simp⟩;have aA:=r.mono (h':=h'.cons (dy 3 1 [h.t])) λc g=>q c (by simp at g;omega);have:=aA.setAt rfl N i (j7 4 h).t (h':=dQ (h'.cons (dy 3 1 [h.t])) f ⟨3,av,al+1,S,false,bs.set i (j7 4 h).t⟩) (ver2:=al+1) (ex2:=S) (by rw[J,aq rfl]);rw[<-bR,<-A,<-O]at this;rw[A]at this;exact this
  ·rw[ao (by simpa using p)]at F A;simp[m,K,z,D,w,y,U];refine⟨ae,dj,by simpa using(q d.size P).trans I,λc g s=>by rw[ao dj];exact B c g (by simpa using s),?_,by rw[F];simp⟩;have a8:((b.take i).map (Bz e)++b.drop i).set i h=(b.take i).map (Bz e)++b.drop i:=by
    apply cS;intro j;rw[bQ];split
    ·rename_i k;subst k;rw[W];simp;omega
    ·rfl
   rw[A,a8]at O;have:=r.mono (h':=h'.cons (dy 3 1 [h.t])) λc g=>q c (by simp at g;omega);rw[<-O]at this;simpa using this
 ·rintro l h' ⟨u,P,I,B,r,m,K,z,D,w,y⟩;rw[aL,df,cg]at r;rw[aL]at z;simp[z,w,y];exact⟨rfl,r.out d,⟨(u.out d).hp,(u.out d).low,dq⟩,λc g s=>(fK d h' c).trans (B c g s)⟩
 ·simp;exact⟨⟨Z.hr.hp,Z.hr.low,au _⟩|>λ(o:gu d.size (TI.hr d))=>o.cons _,λc g _ p=>by omega,(C.mono (h':=TI.hr d) λf _=>fX d f).mono λf E=>by rw[dM,ao (by have:=R f E;simp;omega)],m,by simp[gU]⟩
structure Tz(h h':H)(v:T)(l:List Int):Prop where
 g:Gr h' v 1 (ge l)
 ok:gu h.size h'
 fr:∀c,c<h.size->dL v≠some c->h'.get c=h.get c
def NA:mU Tryz.prog cx 219 (λa:Int=>[dw a]) (λ_=>True) (λ_ d=>d= .bool false):=by
 refine iZ (tb:=⟨pt [],ht []⟩) ei eg (iL 5 [] Tryz.func219) (λ_=>10) (λa e c=>by simpa using c) dp (by simp[Tryz.f219]) ?_;rintro(a:Int) _ f b;simp at b;simp[Tryz.f219,b]
def Dz:f7:=⟨Int×Int,λa=>[dw a.1,dw a.2],λa=>True,λa=> .bool (decide (a.1<a.2)),λa c b=>by simp at b;rw[b.1,b.2]⟩
def Ug:Dz.Ok Tryz.prog cx 172:=by
 refine gH (tb:=⟨pt [(219,NA.jb)],ht []⟩) ei eg (iL 19 [] Tryz.func172) (λa=>1) (by simp[Dz]) (by simp[Dz,Tryz.f172]) ?_;rintro⟨a,c⟩ _ h b;simp[Dz]at b|-;obtain⟨e,f⟩:=b;obtain⟨_,rfl,d⟩:=NA.use a trivial;obtain⟨_,rfl,g⟩:=NA.use c trivial;simp[Tryz.f172,e,f,d]
def Pc{c:fq}(ht:c.p 172=some Dz)(a b:Int):rl Tryz.prog cx c 172 [dw a,dw b]=some (.bool (decide (a<b))):=gF ht Ug (a,b) trivial
structure PL where
 (A:List Int) (t:Int) (v:T)
def SF(a:PL)(c:List T)(b:H):Prop:=c=[a.v,dw 0,dw ((a.A++[a.t]).length:Nat)]/\Gr b a.v 1 (ge (a.A++[a.t]))/\gu 0 b/\HG a.A/\a.t∉a.A/\a.A.length<=10
def Ey(a:PL)(d:List T)(b:H)(e:T)(c:H):Prop:=Tz b c a.v (lx a.A a.t)
def IH{d:Int}:∀{b a:List Int},(∀c∈b,c<d)->(∀c∈a,d<c)->lx (b++a) d=b++d::a:=by
 intro b;induction b with
 |nil=>
  intro a _ e;cases a with
  |nil=>rfl
  |cons f a=>have:=e f dp;simp[lx];rw[ao dj,ao dj]
 |cons c b i=>intro a g e;have:=g c dp;simp only[cE,lx];rw[aq this,i (λf h=>g f (by simp[h])) e]
def KM{b:List Int}{c:Int}{a:Nat}(d:a<b.length):((ge (b.take (a+1)++c::b.drop (a+1))).set (a+1) (dw b[a])).set a (dw c)=ge (b.take a++c::b.drop a):=by
 have e:(b.take a).length=a:=dq;rw[aU d,aI d];simp only[ge,List.map_append,aR,cr,cE,List.nil_append];have f:(List.map (T.int .i64) (b.take a)).length=a:=by simpa using e
 rw[List.set_append_right _ _ dj,List.set_append_right _ _ dj,f];simp
def Lg:(jp PL SF Ey).Ok Tryz.prog cx 166:=by
 refine jk (tb:=⟨pt [(172,Dz)],ht []⟩) ei eg (iL 1073746119 [] Tryz.func166) (λ_ _=>100) (λi a e av=>by obtain⟨rfl,_⟩:=av;simp[Tryz.f166]) ?_;rintro⟨b,f,o⟩ _ e ⟨rfl,Y,G,N,ht,hl⟩ h al;simp only at Y N ht hl;simp at al;obtain⟨p,n,m⟩:=al;simp[Tryz.f166,n];have bu:Gr (TI.hr e) o 1 (ge (b++[f])):=Y.mono λl _=>fX e l;have bi:binop .add (dw 0) (dw 1)=some (dw 1):=gY dj dj;simp[bi];refine yt (b.length+1) (λk h h'=>1<=k/\Tz e (lA e h') o (if k<=b.length then b++[f]else lx b f)/\gu e.size h'/\dz h 0 o/\dz h 1 (dw 0)/\dz h 2 (dw ((b.length:Int)+1))/\dz h 6 (dw k)) ?_ dj (k:=1) dj ?_
 ·rintro k h h' b6 ⟨bT,v,H,p,n,m,q⟩;have b9:gu 0 h':=⟨H.hp,H.low,aw _⟩;by_cases b7:k<b.length+1
  ·have O:binop .add (dw (k:Int)) (dw 1)=some (dw ((k:Int)+1)):=gY dj dj;rw[aq dj]at v;have M:Gr h' o 1 (ge (b++[f])):=v.g.mono λl _=>(fK e h' l).symm;have bz:binop .sub (dw (k:Int)) (dw 1)=some (dw ((k-1:Nat):Int)):=by rw[kL dj dj];congr 2;omega
   simp[m,q,show(k:Int)<b.length+1 by omega];by_cases ap:k<b.length
   ·obtain⟨p1,J,K⟩:=(show oO h' 1 o _ from .inr M).idx (te:=FI) rfl rfl (i:=k) (x:= dw b[k]) (by simp[List.getElem?_append,ap]) rfl;obtain⟨p2,aX,a6⟩:=(show oO h' 1 o _ from .inr M).idx (te:=FI) rfl rfl (i:=k-1) (x:= dw b[k-1]) (by simp[List.getElem?_append,show k-1<b.length by omega]) rfl;have S:¬b[k]<b[k-1]:=by
     have:=List.pairwise_iff_getElem.1 N (k-1) k dj ap dj;omega
    refine yt 1 (λ_ h j=>h'=j/\dz h 0 o/\dz h 1 (dw 0)/\dz h 2 (dw ((b.length:Int)+1))/\dz h 6 (dw k)/\dz h 7 (dw k)) ?_ dj (k:=0) dj (by simp[p,n,m,q]);rintro _ h _ _ ⟨rfl,p,n,m,q,z⟩;simp[p,n,m,q,z,J,K,aX,a6,bz,Pc,S,O];exact⟨k+1,dj,dj,dj,by rw[aq dj];exact v,H,dp⟩
   ·have bl:k=b.length:=dj;subst bl;have bk:=v.fr;refine yt b.length (λV h j=>∃r,r+V=b.length/\Gr j o 1 (ge (b.take r++f::b.drop r))/\gu e.size j/\(∀d,d<e.size->dL o≠some d->j.get d=e.get d)/\(∀x∈b.drop r,f<x)/\dz h 0 o/\dz h 1 (dw 0)/\dz h 2 (dw ((b.length:Int)+1))/\dz h 6 (dw b.length)/\dz h 7 (dw r)) ?_ dj (k:=0) dj ⟨b.length,dj,by simpa using M,H,λd A u=>(fK e h' d).symm.trans (bk d A u),dp,by simp[p,n,m,q]⟩;rintro V h j av ⟨r,bS,F,s,X,an,p,n,m,q,z⟩;have ca:gu 0 j:=⟨s.hp,s.low,aw _⟩;have fin:(∀x∈b.take r,x<f)->Tz e (lA e j) o (lx b f):=λhl=>by
     have E:=IH hl an;rw[cK]at E;rw[E];exact⟨F.out e,⟨(s.out e).hp,(s.out e).low,by simp;exact s.sz⟩,λd A u=>(fK e j d).trans (X d A u)⟩
    cases r with
    |zero=>
     simp[p,n,m,q,z,O];exact⟨b.length+1,dj,dj,dj,by rw[ao dj];exact fin dp,s,dp⟩
    |succ c=>
     have C:c<b.length:=dj;have a8:(ge (b.take (c+1)++f::b.drop (c+1))).length=b.length+1:=dq;have J:(b.take (c+1)++f::b.drop (c+1))[c+1]? =some f:=by rw[cu dq];simp[cv (show c+1<=b.length by omega)]
     have K:(b.take (c+1)++f::b.drop (c+1))[c]? =some b[c]:=by rw[co dq];simp[C]
     obtain⟨l,L,D,w,I,P,B,aE,bn⟩:=F.at (x:= dw f) (i:=c+1) (by rw[aQ,J];rfl);obtain⟨bB,bC,cb,bH,ce,Q,R,U,S⟩:=F.at (x:= dw b[c]) (i:=c) (by rw[aQ,K];rfl);rw[P]at Q;simp at Q;obtain⟨rfl,rfl⟩:=Q;rw[B]at R;simp at R;obtain⟨rfl,rfl,rfl⟩:=R;rw[a8]at P bn S;subst P;have aA:binop .sub (dw ((c:Int)+1)) (dw 1)=some (dw (c:Int)):=by rw[kL dj dj];congr 2;omega
     have aN:jT ((c:Int)+1)=some (c+1):=by have:=ed (show(0:Int)<=((c+1:Nat):Int)by omega);simpa using this
     by_cases T:f<b[c]
     ·have y:∀t d,(dQ j l t).get d=if d=l then some t else j.get d:=λt d=>dE B t d;have ae:∀t W d,(dQ (dQ j l t) l W).get d=if d=l then some W else j.get d:=λt W d=>by
       rw[dE (x:=t) (by rw[y,aq rfl]),y];split<;>rfl
      have bs:∀x,(I.set (c+1) x)[c]? =some (dw b[c]):=λx=>by rw[bQ,ao dj];exact U
      simp[p,n,m,q,z,aA,aN,B,aE,U,show c+1<b.length+1 by omega,show c<b.length+1 by omega,show(0:Int)<(c:Int)+1 by omega,Pc,T,y,bs];have a7:=F.setAt rfl B (c+1) (dw b[c]) (h':=dQ j l ⟨1,L,D+1,w,false,I.set (c+1) (dw b[c])⟩) (ver2:=D+1) (ex2:=w) (by rw[y,aq rfl]);have Z:=a7.setAt rfl (by rw[y,aq rfl]) c (dw f) (h':=dQ (dQ j l ⟨1,L,D+1,w,false,I.set (c+1) (dw b[c])⟩) l ⟨1,L,D+1+1,w,false,(I.set (c+1) (dw b[c])).set c (dw f)⟩) (ver2:=D+1+1) (ex2:=w) (by rw[ae,aq rfl]);rw[KM C]at Z;refine⟨V+1,dj,dj,c,dj,Z,(s.put _ _).put _ _,λd A u=>by rw[ae,ao (λE=>u E.symm)];exact X d A (by simpa using u),λx hx=> ?_,rfl⟩;rw[aI C]at hx;rcases List.mem_cons.1 hx with rfl|hx
      ·exact T
      ·exact an x hx
     ·simp[p,n,m,q,z,aA,aN,B,aE,U,show c+1<b.length+1 by omega,show c<b.length+1 by omega,show(0:Int)<(c:Int)+1 by omega,Pc,T,O];refine⟨b.length+1,dj,dj,dj,?_,s,dp⟩;rw[ao dj];refine fin λx hx=> ?_;obtain⟨i,bN,rfl⟩:=List.mem_take_iff_getElem.1 hx;have b8:b[c]≠f:=λk=>ht (by rw[<-k];exact aF C);rcases aD i c with k|k
      ·have:=List.pairwise_iff_getElem.1 N i c dj C k;omega
      ·have:i=c:=dj;subst this;omega
  ·rw[ao dj]at v;simp[m,q,show¬(k:Int)<b.length+1 by omega];exact v
 ·exact⟨dj,by
   have:(if 1<=b.length then b++[f]else lx b f)=b++[f]:=by
    split
    ·rfl
    ·rw[show b=[]from aY dj];rfl
   rw[this];exact⟨bu.out e,⟨(G.hr.out e).hp,(G.hr.out e).low,au _⟩,λd _ _=>(fK e _ d).trans (fX e d)⟩,⟨G.hr.hp,G.hr.low,au _⟩,by simp[p,n,m]⟩
def SB(a:PL×Int)(c:List T)(b:H):Prop:=c=[a.1.v,dw 0,dw ((a.1.A++[a.1.t]).length:Nat),dw a.2]/\Gr b a.1.v 1 (ge (a.1.A++[a.1.t]))/\gu 0 b/\HG a.1.A/\a.1.t∉a.1.A/\a.1.A.length<=10
def M3(a:PL×Int)(d:List T)(b:H)(e:T)(c:H):Prop:=Tz b c a.1.v (lx a.1.A a.1.t)
def Tz.out{h c:H}{e:T}{d:List Int}(a:Tz (TI.hr h) c e d):Tz h (lA h c) e d:=⟨a.g.out h,⟨(a.ok.out h).hp,(a.ok.out h).low,by have:=a.ok.sz;simpa using this⟩,λb f i=>(fK h c b).trans ((a.fr b (by simpa using f) i).trans (fX h b))⟩
def YI:(jp (PL×Int) SB M3).Ok Tryz.prog cx 127:=by
 refine jk (tb:=⟨pt [],ht [(166,jp PL SF Ey)]⟩) ei eg (iL 10384593871817177683247510831234831 [] Tryz.func127) (λ_ _=>100) (λw t c o=>by obtain⟨rfl,_⟩:=o;simp[Tryz.f127]) ?_;rintro⟨⟨a,l,g⟩,x⟩ _ c ⟨rfl,h,s,i,ht,hl⟩ b j;simp only at h i ht hl;simp at j;obtain⟨d,e,f,v⟩:=j;have q:binop .sub (dw ((a.length:Int)+1)) (dw 0)=some (dw ((a.length:Int)+1)):=by rw[kL dj dj];simp
 have p:Gr (TI.hr c) g 1 (ge (a++[l])):=h.mono λm _=>fX c m;simp[Tryz.f127];refine yt 1 (λ_ b n=>TI.hr c=n/\dz b 0 g/\dz b 1 (dw 0)/\dz b 2 (dw ((a.length:Int)+1))) ?_ dj (k:=0) dj (by simp[d,e,f]);rintro _ b _ _ ⟨rfl,d,e,f⟩;simp[d,e,f,q,show(a.length:Int)+1<=12 by omega];refine gJ Lg dp ⟨a,l,g⟩ ⟨dp,p,s.hr,i,ht,hl⟩ ?_;rintro y u r;simp;exact r.out
def cv8(b:H)(a:Int)(c:0<=a)(d:a<256):Wt cx b 272 5 ty5 (.int .u64 a)=some (.val (.int .u8 a) b):=by
 refine Fg OJ rfl ?_;rw[ji];unfold IntKind.wrap;simp[IntKind.bits,IntKind.signed];omega
def JN:mU Tryz.prog cx 176 (λa:Nat=>[.int .u64 a]) (λa=>a<=11) (λ_=>D0):=by
 refine iZ (tb:=⟨pt [],ht []⟩) ei eg (iL 16661 [] Tryz.func176) (λ_=>10) (λe f c=>by simp at c;omega) dp (by simp[Tryz.f176]) ?_;rintro(a:Nat) g h b;simp at b;have d:a=0\/a=1\/a=2\/a=3\/a=4\/a=5\/a=6\/a=7\/a=8\/a=9\/a=10\/a=11:=dj;rcases d with rfl|rfl|rfl|rfl|rfl|rfl|rfl|rfl|rfl|rfl|rfl|rfl<;>simp at b<;>simp[Tryz.f176,b,cv8,nD]
def PE{c:iG}{g h:Nat}{d:DL}(i b:Code)(e:Env)(f:H)(a:iw):W (jh cx c h g d (.cond (.const (Value.bool false)) i b) e f) a=W (jh cx c h g d b e f) a:=rfl
def SS:mU Tryz.prog cx 128 (λa:Nat=>[.int .u64 a]) (λa=>a<=11) (λ_=>D0):=by
 refine iZ (tb:=⟨pt [(176,JN.jb)],ht []⟩) ei eg (iL 5 [] Tryz.func128) (λ_=>10) (λf g d=>by simp at d;omega) dp (by simp[Tryz.f128]) ?_;rintro(a:Nat) e i b;simp at b;obtain⟨_,⟨h,rfl⟩,c⟩:=JN.use a e;simp[Tryz.f128,b,c,PE]
def SA(a:PL)(c:List T)(b:H):Prop:=c=[a.v]/\Gr b a.v 1 (ge (a.A++[a.t]))/\gu 0 b/\HG a.A/\a.t∉a.A/\a.A.length<=10
def cvu(b:H)(a:Int)(c:0<=a)(d:a<256):Wt cx b 3 220 Mo (dw a)=some (.val (.int .u64 a) b):=by
 refine Fg Rc rfl ?_;rw[ji];unfold IntKind.wrap;simp[IntKind.bits,IntKind.signed];omega
def Ud:(jp PL SA Ey).Ok Tryz.prog cx 81:=by
 refine jk (tb:=⟨pt [(128,SS.jb)],ht [(127,jp (PL×Int) SB M3)]⟩) ei eg (iL 5 [] Tryz.func81) (λ_ _=>100) (λs q c l=>by obtain⟨rfl,_⟩:=l;simp[Tryz.f81]) ?_;rintro⟨a,h,i⟩ _ c ⟨rfl,b,p,e,ht,hl⟩ u f;simp only at b e ht hl;simp at f;have g:=λk:H=>b.len (cx:=cx) k pX _ rfl;simp at g;have m:Gr (TI.hr c) i 1 (ge (a++[h])):=b.mono λj _=>fX c j;obtain⟨_,⟨o,rfl⟩,d⟩:=SS.use (a.length+1) dj;simp at d;simp[Tryz.f81,f,g,cvu,show(a.length:Int)+1<256 by omega,show(0:Int)<=(a.length:Int)+1 by omega,d];refine gJ YI dp (⟨a,h,i⟩,o) ⟨dp,m,p.hr,e,ht,hl⟩ ?_;rintro t r n;simp;exact Tz.out n
structure ICo where
 (l:List Int) (v:T)
def SN(a:ICo)(c:List T)(b:H):Prop:=c=[a.v]/\Gr b a.v 1 (ge a.l)/\gu 0 b/\HG a.l/\a.l.length<=1000
def Nc(c:ICo)(e:List T)(a:H)(d:T)(b:H):Prop:=d=c.v/\Nb a b
def Li:(jp ICo SN Nc).Ok Tryz.prog cx 82:=by
 refine jk (tb:=⟨pt [],ht []⟩) ei eg (iL 17596514574653 [] Tryz.func82) (λ_ _=>1005) (λi D a A=>by obtain⟨rfl,_⟩:=A;simp[Tryz.f82]) ?_;rintro⟨b,f⟩ _ a ⟨rfl,h,C,m,hl⟩ g c;simp only at h m hl;simp at c;have e:=λw:H=>h.len (cx:=cx) w pX _ rfl;rw[aH]at e;have n:Gr (TI.hr a) f 1 (ge b):=h.mono λq _=>fX a q;have o:Nb a (lA a (TI.hr a)):=(Nb.refl C.hr).out;simp[Tryz.f82,c,e];refine dU (λp=> ?_) (λp=> ?_)
 ·simp[c];exact⟨rfl,o⟩
 have G:2<=b.length:=by simp at p;omega
 simp;refine yt b.length (λk g v=>TI.hr a=v/\1<=k/\dz g 0 f/\dz g 3 (dw k)) ?_ dj (k:=1) dj (by simp[c]);rintro k g _ F ⟨rfl,E,j,l⟩;by_cases d:k<b.length
 ·have y:binop .add (dw (k:Int)) (dw 1)=some (dw ((k:Int)+1)):=gY dj dj;have B:binop .sub (dw (k:Int)) (dw 1)=some (dw ((k-1:Nat):Int)):=by rw[kL dj dj];congr 2;omega
  obtain⟨p1,r,s⟩:=(show oO (TI.hr a) 1 f _ from .inr n).idx (te:=FI) rfl rfl (i:=k) (x:= dw b[k]) (by simp[d]) rfl;obtain⟨p2,t,u⟩:=(show oO (TI.hr a) 1 f _ from .inr n).idx (te:=FI) rfl rfl (i:=k-1) (x:= dw b[k-1]) (by simp[show k-1<b.length by omega]) rfl;have z:¬b[k]=b[k-1]:=by
   have:=List.pairwise_iff_getElem.1 m (k-1) k dj d dj;omega
  simp[j,l,e,d,B,r,s,t,u,z,y];exact⟨k+1,dj,dj,dj,dp⟩
 ·simp[j,l,e,d];exact⟨rfl,o⟩
structure Jn where
 (P Q:List Int) (t:Int) (v:T) (b:Nat) (bx:iJ)
def fnT(a:Jn):T:= .func 84 [.ptr a.b 0 0 0]
def Vv(c:H)(a:Jn):Prop:=c.get a.b=some (dy 1 0 [dw a.t])
def MZ(a:Jn×Int)(d:List T)(c:H):Prop:=d=[dw a.2,.ptr a.1.b 0 0 0]/\Vv c a.1/\gu 0 c
def Ie(a:Jn×Int)(e:List T)(b:H)(d:T)(c:H):Prop:=d= .bool (decide (a.2=a.1.t))/\Nb b c
def NN:(jp (Jn×Int) MZ Ie).Ok Tryz.prog cx 84:=by
 refine jk (tb:=⟨pt [],ht []⟩) ei eg (iL 11 [] Tryz.func84) (λ_ _=>10) (λo m a h=>by obtain⟨rfl,_⟩:=h;simp[Tryz.f84]) ?_;rintro⟨⟨k,l,j,p,b,n⟩,r⟩ _ a ⟨rfl,f,i⟩ q c;simp at c;obtain⟨d,e⟩:=c;have g:(TI.hr a).get b=some (dy 1 0 [dw j]):=(fX a b).trans f;simp[Tryz.f84,d,e,g];exact⟨rfl,(Nb.refl i.hr).out⟩
def SH(a:Jn)(c:List T)(b:H):Prop:=c=[a.v,fnT a]/\Vv b a/\gu 0 b/\Gr b a.v 1 (ge (a.P++a.t::a.Q))/\a.t∉a.P/\a.P.length+a.Q.length<=1000
def M8(c:Jn)(e:List T)(a:H)(d:T)(b:H):Prop:=d= dw c.P.length/\Nb a b
def Gm:(jp Jn SH M8).Ok Tryz.prog cx 129:=by
 refine jk (tb:=⟨pt [],ht [(84,jp (Jn×Int) MZ Ie)]⟩) ei eg (iL 66483 [] Tryz.func129) (λ_ _=>2000) (λi O p I=>by obtain⟨rfl,_⟩:=I;simp[Tryz.f129]) ?_;rintro⟨a,e,j,l,o,A⟩ _ p ⟨rfl,u,M,m,ht,hl⟩ d t;simp only at m ht hl;simp[fnT]at t;obtain⟨g,c⟩:=t;have v:=λc:H=>m.len (cx:=cx) c pX _ rfl;simp at v;have z:∀b,dL l=some b->b<p.size:=λb q=>by obtain⟨_,_,_,_,L,_⟩:=m.box q;exact H.ej L
 simp[Tryz.f129,g,v];refine yt a.length (λk d f=>Nb (TI.hr p) f/\dz d 0 l/\dz d 1 (.func 84 [.ptr o 0 0 0])/\dz d 7 (dw ((a.length:Int)+((e.length:Int)+1)))/\dz d 8 (dw k)) ?_ dj (k:=0) dj ⟨Nb.refl M.hr,by simp[g,c]⟩;rintro k d f Q ⟨h,g,c,r,s⟩;have N:gu 0 f:=⟨h.ok.hp,h.ok.low,aw _⟩;have y:=h.hr;have D:Gr f l 1 (ge (a++j::e)):=m.mono λb q=>y.get b (z b q);have E:binop .add (dw (k:Int)) (dw 1)=some (dw ((k:Int)+1)):=gY dj dj;obtain⟨x,n⟩:∃x,(a++j::e)[k]? =some x:=⟨_,az dq⟩;obtain⟨p1,B,C⟩:=(show oO f 1 l _ from .inr D).idx (te:=FI) rfl rfl (i:=k) (x:= dw x) (by rw[aQ,n];rfl) rfl;simp[g,c,r,s,show(k:Int)<(a.length:Int)+((e.length:Int)+1)by omega,B,C];refine gJ NN dp (⟨a,e,j,l,o,A⟩,x) ⟨rfl,(y.get o (H.ej u)).trans u,N⟩ ?_;rintro _ P ⟨rfl,w⟩;simp;by_cases G:k<a.length
 ·have J:¬x=j:=by
   rw[co G]at n;rintro rfl;exact ht (ax n)
  simp[g,c,r,s,J,E];exact⟨k+1,dj,dj,h.trans w,dp⟩
 ·have F:k=a.length:=dj;subst F;have K:x=j:=by simpa using n.symm
  simp[K];exact⟨rfl,(h.trans w).out⟩
def TS(f:H)(g j:Ty)(h:ab)(b d e a c:Nat)(k:iJ)(i:g.u= .slice h)(ht:cx.ty h=some j)(m:f.get b=some k)(o:k.sz=j.size)(n:c<=a):Ma cx f g (.arr b d e a false) (some c) none none=some (.val (.arr b d (e+c) (a-c) false) f):=by
 unfold Ma;have l:jg cx f g.u (.arr b d e a false)=true:=by
  rw[i];unfold jg;simp only[ht,m,o,Nat.beq_refl]
 rw[l,gX,show yX none none=true from rfl,gX,show asSlice g.u (.arr b d e a false)= .arr b d e a false by rw[i];rfl];show val f (fP (Nat.ble c a) (fP (Nat.ble a a) (dJ (f6 (Nat.add e c)) λq=>dJ (f6 (Nat.sub a c)) λp=>some (T.arr b d q p false))))=_;simp[n]
def N7{d:Nat}{b:Env}{c:H}(a:List ah)(e:af ab):iW (.call ⟨.builtin .clear,a.toArray,e⟩) cx d b c=dJ (fw (fy cx d b) a) λf=>kN .clear cx c e.toList f:=by
 show(dJ (pi cx d b a) λa=>kN .clear cx c e.toList a)=_;rw[Ga]
def Vi{b:H}{c a g d:Nat}{f:Bool}{e:List T}(l:Hp b)(h:b.get c=some ⟨1,a,g,f,false,e⟩)(k:d<e.length):kN .clear cx b [38] [.arr c a d 1 false]=some (.val .undef (dQ b c ⟨1,a,g+1,f,false,e.set d (dw 0)⟩)):=by
 show Cs cx b 38 (.arr c a d 1 false)=_;unfold Cs pN;rw[kG,dO];simp only[show pX.u= .slice 3 from rfl,nM,dO];rw[h,dO];simp only[F4 l (H.ej h)];show fP (Nat.beq a a) (fP (Nat.beq 1 1) (dJ (kt e d [dw 0]) λi=>dJ (f6 g.succ) λm=>dJ (some (dQ b c ⟨1,a,m,f,false,i⟩)) λj=>some (kW.val T.undef j)))=_;rw[sx,aq dq,Nat.beq_refl,gX,show Nat.beq 1 1=true from rfl,gX,dO,iq,dO,dO,List.set_eq_take_append_cons_drop,aq k];simp
def SK(a:Jn)(d:List T)(c:H):Prop:=d=[a.v,fnT a]/\Vv c a/\gu 0 c/\Gr c a.v 1 (ge (a.P++a.t::a.Q))/\a.t∉a.P/\a.t∉a.Q/\a.P.length+a.Q.length<=1000/\dL a.v≠some a.b
def Na(b:Jn)(f:List T)(c:H)(e:T)(d:H):Prop:=Gr d e 1 (ge (b.P++b.Q))/\dL e=dL b.v/\gu c.size d/\∀a,a<c.size->dL b.v≠some a->d.get a=c.get a
def OD{P b:List Int}{t:Int}{a:Nat}(d:a<b.length):(ge (P++b.take a++(t::b).drop a)).set (P.length+a) (dw b[a])=ge (P++b.take (a+1)++(t::b).drop (a+1)):=by
 rw[<-bR,List.set_append_right _ _ dq];have c:(t::b).drop a=(t::b)[a]' dq::(t::b).drop (a+1):=aI dq;rw[c,show P.length+a-(P++b.take a).length=0 by simp;omega,cJ,aU d];show ge _=ge _;congr 1;simp only[cr,cE,List.nil_append]
def EC:(jp Jn SK Na).Ok Tryz.prog cx 83:=by
 refine jk (tb:=⟨pt [],ht [(84,jp (Jn×Int) MZ Ie),(129,jp Jn SH M8)]⟩) ei eg (iL 537399539 [] Tryz.func83) (λ_ _=>2000) (λi a h bC=>by obtain⟨rfl,_⟩:=bC;simp[Tryz.f83]) ?_;rintro⟨P,c,t,F,A,ae⟩ _ h ⟨rfl,T,b9,C,aN,aX,hl,Y⟩ z av;simp only at C aN aX hl Y;simp[fnT]at av;obtain⟨s,p⟩:=av;have K:=λp:H=>C.len (cx:=cx) p pX _ rfl;simp at K;have a8:∀b,dL F=some b->b<h.size:=λb g=>by obtain⟨_,_,_,_,b7,_⟩:=C.box g;exact H.ej b7
 simp[Tryz.f83,s,p];refine gJ Gm dp ⟨P,c,t,F,A,ae⟩ ⟨rfl,(fX h A).trans T,b9.hr,C.mono λb _=>fX h b,aN,hl⟩ ?_;rintro _ c7 ⟨rfl,b8⟩;have bl:binop .add (dw (P.length:Int)) (dw 1)=some (dw ((P.length:Int)+1)):=gY dj dj;simp[show¬((P.length:Int)=-1)by omega,bl];have Z:=b8.hr;refine yt c.length (λd z h'=>gu h.size h'/\Gr h' F 1 (ge (P++c.take d++(t::c).drop d))/\(∀b,b<h.size->dL F≠some b->h'.get b=h.get b)/\dz z 0 F/\dz z 1 (.func 84 [.ptr A 0 0 0])/\dz z 5 (dw ((P.length+d:Nat):Int))/\dz z 6 (dw ((P.length+d+1:Nat):Int))) ?_ dj (k:=0) dj ⟨Z.ok,by simpa using C.mono λb g=>Z.get b (a8 b g),λb g _=>Z.get b g,by simp[s,p]⟩;rintro d z h' c9 ⟨w,D,Q,s,p,R,G⟩;have a6:gu 0 h':=⟨w.hp,w.low,aw _⟩;obtain⟨i,aA⟩:∃i,i=P.length+d:=⟨_,rfl⟩;obtain⟨j,u⟩:∃j,j=P.length+(c.length+1):=⟨_,rfl⟩;have bz:(P.length:Int)+((c.length:Int)+1)=j:=dj;rw[<-aA]at R G;rw[bz]at K;have S:(ge (P++c.take d++(t::c).drop d)).length=j:=dq;have bn:binop .add (dw (i:Int)) (dw 1)=some (dw ((i:Int)+1)):=gY dj dj;have bs:binop .add (dw ((i:Int)+1)) (dw 1)=some (dw ((i:Int)+1+1)):=gY dj dj;by_cases X:d<c.length
 ·have B:(P++c.take d++(t::c).drop d)[i+1]? =some c[d]:=by
   rw[cu dq,bG];rw[show d+(i+1-(P++c.take d).length)=d+1 by simp;omega];simp[X]
  obtain⟨f,bi⟩:∃f,(P++c.take d++(t::c).drop d)[i]? =some f:=⟨_,az dq⟩;obtain⟨e,m,y,q,o,n,l,J,I⟩:=D.at (x:= dw c[d]) (i:=i+1) (by rw[aQ,B];rfl);obtain⟨ce,cL,dd,c4,di,U,V,bT,aE⟩:=D.at (x:= dw f) (i:=i) (by rw[aQ,bi];rfl);rw[n]at U;simp at U;obtain⟨rfl,rfl⟩:=U;rw[l]at V;simp at V;obtain⟨rfl,rfl,rfl⟩:=V;rw[S]at n I aE;have al:=OD (P:=P) (t:=t) X;rw[<-aA]at al;generalize bN:c[d]=M at*
  have bS:¬M=t:=λk=>aX (by rw[<-k,<-bN];exact aF X);subst n;simp at Y;have cb:jT ((i:Int)+1)=some (i+1):=by have:=ed (show(0:Int)<=((i+1:Nat):Int)by omega);simpa using this
  simp[s,p,G,K,show(i:Int)+1<j by omega,cb,l,J,I];refine gJ NN dp (⟨P,c,t,.arr e m 0 j false,A,ae⟩,M) ⟨rfl,(Q A (H.ej T) (by simpa using Y)).trans T,a6⟩ ?_;rintro _ E ⟨rfl,v⟩;have W:=(v.get e (H.ej l)).trans l;have r:∀f b,(dQ E e f).get b=if b=e then some f else E.get b:=λf b=>dE W f b;simp[s,p,R,G,bS,W,bT,aE,bn,bs];have L:gu h.size E:=⟨v.ok.hp,v.ok.low,aS w.sz v.ok.sz⟩;have ap:=(D.mono (h':=E) λb g=>v.get b (by simp at g;have:=H.ej l;omega)).setAt rfl W i (dw M) (h':=dQ E e ⟨1,m,y+1,q,false,o.set i (dw M)⟩) (ver2:=y+1) (ex2:=q) (by rw[r,aq rfl]);rw[al,cr]at ap;have dm:=w.sz;exact⟨d+1,dj,dj,L.put _ _,ap,λb g u=>by rw[r,ao (λN=>u N.symm),v.get b dj];exact Q b g (by simpa using u),dj⟩
 ·have bu:d=c.length:=dj;subst bu;obtain⟨e,m,y,q,o,n,l,J,I⟩:=D.at (x:= dw ((P++c.take c.length++(t::c).drop c.length)[i]' dq)) (i:=i) (by rw[aQ,az dq];rfl);rw[S]at n I;have b6:i<o.length:=by
   rcases aD i o.length with k|k
   ·exact k
   ·rw[aK k]at J;simp at J
  have bk:o.take j=ge (P++c.take c.length++(t::c).drop c.length):=by
   rcases D with⟨rfl,_⟩|⟨cp,c1,de,c6,dk,B,O,an⟩
   ·simp at n
   ·rw[n]at B;simp at B;obtain⟨rfl,rfl,_⟩:=B;rw[l]at O;simp at O;obtain⟨_,_,rfl⟩:=O;rw[S]at an;exact an
  subst n;have r:∀f b,(dQ h' e f).get b=if b=e then some f else h'.get b:=λf b=>dE l f b;have bB:j-i=1:=dj;have a7:=TS h' pX FI _ e m 0 j i _ rfl nM l rfl dj;rw[bB,Nat.zero_add]at a7;have ca:=Jy (cx:=cx) (h:=dQ h' e ⟨1,m,y+1,q,false,o.set i (dw 0)⟩) pX FI _ e m 0 j i false _ rfl nM (by rw[r,aq rfl]) rfl dj;simp[s,R,G,K,show¬(i:Int)+1<j by omega,a7,N7,Vi a6.hp l b6,ca];have L:=(w.put e ⟨1,m,y+1,q,false,o.set i (dw 0)⟩).out h;refine⟨.inr ⟨e,m,y+1,q,o.set i (dw 0),?_,by rw[fK,r,aq rfl],?_⟩,rfl,⟨L.hp,L.low,by simpa using w.sz⟩,λb g u=>by
   rw[fK,r,ao (λN=>u (by rw[N];rfl))];exact Q b g u⟩
  ·simp;omega
  ·have bH:(ge (P++c)).length=i:=dq;rw[bH,List.take_set_of_le (au _)];have:=bM (List.take i) bk;rw[List.take_take,cv dj]at this;rw[this,aL];show List.take i (ge (P++c++(t::c).drop c.length))=ge (P++c);rw[ge,List.map_append,cT dq,bF dq]
def Pw{g i:Type}{f:g->i->Prop}:∀{b:List g} {a:List i},b.length=a.length->(∀(d:Nat) e c,b[d]? =some e->a[d]? =some c->f e c)->io f b a:=by
 intro b;induction b with
 |nil=>intro a hl _;cases a with
  |nil=>exact .nil
  |cons c a=>simp at hl
 |cons e b l=>intro a hl h;cases a with
  |nil=>simp at hl
  |cons c a=>exact .cons (h 0 e c rfl rfl) (l (by simpa using hl) λd m n j k=>h (d+1) m n (by simpa using j) (by simpa using k))
def FB{b c:Type}{d:b->c->Prop}{f:List b}{g:List c}(k:io d f g){e:Nat}{i:b}{j:c}(l:f[e]? =some i)(m:g[e]? =some j):d i j:=by
 obtain⟨o,a,n⟩:=k.get m;rw[l]at a;simp only[ar]at a;rw[a];exact n
structure CC(w:dR)(t:Int)(c0 c2 c3:T)(h:H)(es:List T)(S:fg)(ver:Nat):Prop where
 sy:AB 4 h.size h c0 c2 c3 es S
 ok:gu 0 h
 g0:h.get 0=some (dy 6 0 [w.t])
 g1:h.get 1=some (dy 4 ver [.agg [c0,dw S.tx,c2,c3]])
 g2:h.get 2=some (dy 1 0 [dw t])
 g3:h.get 3=some (dy 4 0 [.agg [dx,dw 0,dx,dx]])
section
variable {w:dR}{t:Int}{c0 c2 c3:T}{h h':H}{es:List T}{S:fg}{ver:Nat}
def CC.put(a:CC w t c0 c2 c3 h es S ver){b:Nat}{x:iJ}(d:h.get b=some x)(j:4<=b){g:iJ}{f:List T}{e:fg}(i:AB 4 h.size (dQ h b g) c0 c2 c3 f e)(ht:e.tx=S.tx):CC w t c0 c2 c3 (dQ h b g) f e ver:=
 ⟨by rw[fG];exact i,a.ok.put _ _,by rw[dE d,ao dj];exact a.g0,by rw[dE d,ao dj,ht];exact a.g1,by rw[dE d,ao dj];exact a.g2,by rw[dE d,ao dj];exact a.g3⟩
def CC.ox(c:CC w t c0 c2 c3 h es S ver){a e k:Nat}{f:Bool}{l:List T}(g:dL c3=some a)(j:h.get a=some ⟨3,e,k,f,false,l⟩){i:Nat}{me:dD}(m:S.dB[i]? =some me)(d:dD->dD):
 CC w t c0 c2 c3 (dQ h a ⟨3,e,k+1,f,false,l.set i (d me).t⟩) es {S with dB:=S.dB.modify i d} ver:=by
 have:=c.put j (c.sy.b a (.inr (.inr g))).1 (c.sy.ox g j i (d me)) rfl;rw[nz m];exact this
def CC.pK(g:CC w t c0 c2 c3 h es S ver){d i m:Nat}{j:Bool}{n:List T}(k:dL c0=some d)(l:h.get d=some ⟨2,i,m,j,false,n⟩){c:Nat}{f:dS}(hl:S.dV[c]? =some f)(e:dS->dS){rv:T}(hr:oO h 1 rv (ge (e f).d8))(o:∀a,dL rv=some a->4<=a/\a<h.size/\dL c0≠some a/\dL c2≠some a/\dL c3≠some a):
 CC w t c0 c2 c3 (dQ h d ⟨2,i,m+1,j,false,n.set c (.agg [dw (e f).iF,rv])⟩) (es.set c (.agg [dw (e f).iF,rv])) {S with dV:=S.dV.modify c e} ver:=by
 have:=g.put l (g.sy.b d (.inl k)).1 (g.sy.pK k l c hr o) rfl;rw[nz hl];exact this
def CC.Ws(c:CC w t c0 c2 c3 h es S ver){a f k:Nat}{g:Bool}{l:List T}(i:dL c2=some a)(j:h.get a=some ⟨1,f,k,g,false,l⟩)(d:Nat)(e:Bool):CC w t c0 c2 c3 (dQ h a ⟨1,f,k+1,g,false,l.set d (.bool e)⟩) es {S with done:=S.done.set d e} ver:=
 c.put j (c.sy.b a (.inr (.inl i))).1 (c.sy.Ws i j d e) rfl
def CC.tx(a:CC w t c0 c2 c3 h es S ver)(b:Int):CC w t c0 c2 c3 (dQ h 1 (dy 4 (ver+1) [.agg [c0,dw b,c2,c3]])) es {S with tx:=b} (ver+1):=
 ⟨by rw[fG];exact(a.sy.tx b).mono (au _) λc d _=>by rw[dE a.g1,ao dj],a.ok.put _ _,by rw[dE a.g1,ao dj];exact a.g0,by rw[dE a.g1,aq rfl],by rw[dE a.g1,ao dj];exact a.g2,by rw[dE a.g1,ao dj];exact a.g3⟩
def CC.Ya(c:CC w t c0 c2 c3 h es S ver){l:List dD}(j:VD h h' c3 l):CC w t c0 c2 c3 h' es {S with dB:=l} ver:=by
 have k:∀a,a<4->dL c3≠some a:=λa d f=>by have:=(c.sy.b a (.inr (.inr f))).1;omega
 have r:=j.ok.sz;have e:∀a,dL c3≠some a->a<h.size->h'.get a=h.get a:=λa f d=>j.fr a d f;refine⟨⟨c.sy.g0.mono λa d=>e a (λf=> ?_) (c.sy.b a (.inl d)).2,c.sy.g2.mono λa d=>e a (λf=> ?_) (c.sy.b a (.inr (.inl d))).2,j.g,c.sy.el.imp λp q ⟨o,m,n,i⟩=>⟨o,m,n.mono λa d=>e a (i a d).2.2.2.2 (i a d).2.1,λa d=>⟨(i a d).1,by have:=(i a d).2.1;omega,(i a d).2.2⟩⟩,λa d=>⟨(c.sy.b a d).1,by have:=(c.sy.b a d).2;omega⟩⟩,⟨j.ok.hp,j.ok.low,aw _⟩,(e 0 (k 0 dj) (H.ej c.g0)).trans c.g0,(e 1 (k 1 dj) (H.ej c.g1)).trans c.g1,(e 2 (k 2 dj) (H.ej c.g2)).trans c.g2,(e 3 (k 3 dj) (H.ej c.g3)).trans c.g3⟩
 ·exact c.sy.g0.ne c.sy.g3 du a d f
 ·exact c.sy.g2.ne c.sy.g3 du a d f
def CC.Zd(d:CC w t c0 c2 c3 h es S ver)(V:LkD es){f C K:Nat}{D:Bool}{L:List T}(p:dL c0=some f)(F:h.get f=some ⟨2,C,K,D,false,L⟩){l:Nat}{x:dS}(hl:S.dV[l]? =some x){W m:T}(R:es[l]? =some (.agg [W,m]))(i:∀a,dL m=some a->4<=a/\dL c0≠some a/\dL c2≠some a/\dL c3≠some a)
 {hT:H} (Qz:gu h.size hT) (z:∀a,a<h.size->dL m≠some a->hT.get a=h.get a) {s:T} (u:dS->dS) (E:Gr hT s 1 (ge (u x).d8)) (r:∀a,dL s=some a->dL m=some a\/h.size<=a):
 CC w t c0 c2 c3 (dQ hT f ⟨2,C,K+1,D,false,L.set l (.agg [dw (u x).iF,s])⟩) (es.set l (.agg [dw (u x).iF,s])) {S with dV:=S.dV.modify l u} ver:=by
 have Z:=Qz.sz;have Q:=H.ej F;have X:=(d.sy.b f (.inl p)).1;have I:dL m≠some f:=λc=>(i f c).2.1 p;have G:hT.get f=_:=(z f Q I).trans F;have A:∀n a,(dQ hT f n).get a=if a=f then some n else hT.get a:=λn a=>dE G n a;have y:∀a,a<4->dL m≠some a:=λa p c=>by have:=(i a c).1;omega
 have o:∀n a,a<h.size->a≠f->dL m≠some a->(dQ hT f n).get a=h.get a:=λn a N O P=>by rw[A,ao O];exact z a N P
 refine⟨⟨?_,d.sy.g2.mono λa c=>o _ a (d.sy.b a (.inr (.inl c))).2 (λe=> ?_) (λe=>(i a e).2.2.1 c),d.sy.g3.mono λa c=>o _ a (d.sy.b a (.inr (.inr c))).2 (λe=> ?_) (λe=>(i a e).2.2.2 c),Pw ?_ λk Y n g j=> ?_,λa c=>⟨(d.sy.b a c).1,by have:=(d.sy.b a c).2;simp;omega⟩⟩,(⟨Qz.hp,Qz.low,aw _⟩:gu 0 hT).put _ _,?_,?_,?_,?_⟩
 ·exact(d.sy.g0.mono (h':=hT) λa c=>z a (d.sy.b a (.inl c)).2 (λe=>(i a e).2.1 c)).setAt p G l _ (by rw[A,aq rfl])
 ·subst e;exact d.sy.g2.ne d.sy.g0 du a c p
 ·subst e;exact d.sy.g3.ne d.sy.g0 du a c p
 ·rw[cM,List.length_modify];exact d.sy.el.length
 ·rw[bQ]at g;rw[List.getElem?_modify]at j;by_cases v:l=k
  ·subst v;rw[hl]at j;simp at j;rw[aq rfl]at g;split at g
   ·simp only[ar]at g;subst g j;refine⟨s,rfl,.inr (E.mono λa c=> ?_),λa c=> ?_⟩
    ·rw[A,ao];rintro rfl;rcases r a c with k|k
     ·exact I k
     ·omega
    ·obtain⟨_,_,_,_,j,_⟩:=E.box c;have U:=H.ej j;refine⟨?_,by simpa using U,?_,?_,?_⟩
     ·rcases r a c with k|k
      ·exact(i a k).1
      ·omega
     ·rcases r a c with k|k
      ·exact(i a k).2.1
      ·exact λe=>by have:=(d.sy.b a (.inl e)).2;omega
     ·rcases r a c with k|k
      ·exact(i a k).2.2.1
      ·exact λe=>by have:=(d.sy.b a (.inr (.inl e))).2;omega
     ·rcases r a c with k|k
      ·exact(i a k).2.2.2
      ·exact λe=>by have:=(d.sy.b a (.inr (.inr e))).2;omega
   ·simp at g
  ·rw[ao v]at g;simp[v]at j;obtain⟨J,B,M,q⟩:=FB d.sy.el g j;refine⟨J,B,M.mono λa c=>o _ a (q a c).2.1 (λe=>(q a c).2.2.1 (by rw[e];exact p)) (λe=>v ?_),λa c=>⟨(q a c).1,by have:=(q a c).2.1;simp;omega,(q a c).2.2⟩⟩;rw[B]at g;exact V l k m J _ _ a R g e c
 ·exact(o _ 0 (H.ej d.g0) dj (y 0 dj)).trans d.g0
 ·exact(o _ 1 (H.ej d.g1) dj (y 1 dj)).trans d.g1
 ·exact(o _ 2 (H.ej d.g2) dj (y 2 dj)).trans d.g2
 ·exact(o _ 3 (H.ej d.g3) dj (y 3 dj)).trans d.g3
end
end
noncomputable section
open Go Go.TI
attribute [-simp] List.map_take List.map_drop List.map_append fj eG dY Bool.not_or Bool.not_and
attribute [simp] fh eJ
attribute [-simp] size_cons
structure ApO(w:dR)(s:fg)(t k o wk:Int)(c0 c2 c3:T)(h:H)(n:Int):Prop where
 ex:∃S es ver,em w s t k o wk=(S,n)/\CC w t c0 c2 c3 h es S ver
structure ApF(w:dR)(s:fg)(t k o:Int):Prop where
 en:jI w s t k o=true
 cl:w.fV.length<=1000000
 sm:My s
 r:∀l∈s.dV,l.d8.length<=10
def vI:f7:=⟨dR×fg×Int×Int×Int×Int,λa=>[a.1.t,a.2.1.t,dw a.2.2.1,dw a.2.2.2.1,dw a.2.2.2.2.1,dw a.2.2.2.2.2],λa=>ApF a.1 a.2.1 a.2.2.1 a.2.2.2.1 a.2.2.2.2.1,λa=> .tuple [(em a.1 a.2.1 a.2.2.1 a.2.2.2.1 a.2.2.2.2.1 a.2.2.2.2.2).1.t,dw (em a.1 a.2.1 a.2.2.1 a.2.2.2.1 a.2.2.2.2.1 a.2.2.2.2.2).2,.bool true],λa c b=>by
 obtain⟨a1,a2,a3,a4,a5,d⟩:=a;obtain⟨e,f,g,h,i,j⟩:=c;simp at b;rw[dR.inj b.1,fg.inj b.2.1,b.2.2.1,b.2.2.2.1,b.2.2.2.2.1,b.2.2.2.2.2]⟩
def N5:vI.Ok Tryz.prog cx 47:=by
 refine gH (tb:=⟨pt [(79,oF)],ht [(80,jp fg DB SP),(81,jp PL SA Ey),(82,jp ICo SN Nc),(83,jp Jn SK Na),(85,jp HE SD M5),(86,jp HE SE M6)]⟩) ei eg (iL 772424076352653274097095092108232752774234854811365887 [(19,[(1,4)]),(21,[(1,10)]),(32,[(4,9),(5,9)]),(35,[(4,8),(5,8)])] Tryz.func47) (λ_=>1000005) (by simp[vI]) (by simp[vI,Tryz.f47]) ?_;rintro⟨w,s,t,k,o,r⟩ ⟨J,eL,⟨hl,eN,ht,hr,dm⟩,de⟩ b6 eF;simp only at J eL hl eN ht hr dm de;simp[vI]at eF|-;obtain⟨fS,ca,di,eD,E,gg⟩:=eF;unfold jI at J;simp only[aB]at J;obtain⟨⟨⟨ds,dv⟩,bl⟩,J⟩:=J;obtain⟨bn,bs,eX⟩:=nK ds;have fm:=λ{tb:fq} (ht:tb.p 79=some oF)=>LQ ht (w:=w) (s:=s) (t:=t) (k:=k) (o:=o) ⟨ds,dv,bl,J,eL,hr⟩
 ·simp[Tryz.f47,fS,ca,di,eD,E,fm];generalize Y:(((hE.cons _).cons _).cons _).cons _=a8;have gM:gu 0 a8:=by rw[<-Y];exact⟨dp,dp,dp⟩
  have gV:a8.size=4:=by rw[<-Y];rfl
  have e5:a8.get 0=some (dy 6 0 [w.t]):=by rw[<-Y];simp
  have e6:a8.get 1=some (dy 4 0 [s.t]):=by rw[<-Y];simp
  have e7:a8.get 2=some (dy 1 0 [dw t]):=by rw[<-Y];simp
  have I:a8.get 3=some (dy 4 0 [.agg [dx,dw 0,dx,dx]]):=by rw[<-Y];simp
  clear Y;refine gJ NY dp s ⟨rfl,gM,hl,eN,ht,hr⟩ ?_;rintro _ X ⟨aN,aX,a6,eB,rfl,e3,an,er,eU⟩;rw[gV]at e3 er;have hv:=an.ok.sz;have gE:gu 0 X:=⟨an.ok.hp,an.ok.low,aw _⟩;have ey:=(an.get 1 dj).trans e6;have e9:=(an.get 0 dj).trans e5;have fb:=(an.get 2 dj).trans e7;have fe:=(an.get 3 dj).trans I;have a7:∀v d,(dQ X 1 v).get d=if d=1 then some v else X.get d:=λv d=>dE ey v d;have c:CC w t aN aX a6 (dQ X 1 (dy 4 1 [.agg [aN,dw s.tx,aX,a6]])) eB s 1:=⟨by rw[fG];exact e3.mono (au _) λd q _=>by rw[a7,ao dj],gE.put _ _,by rw[a7,ao dj];exact e9,by rw[a7,aq rfl],by rw[a7,ao dj];exact fb,by rw[a7,ao dj];exact fe⟩;have et:io (LkG (dQ X 1 (dy 4 1 [.agg [aN,dw s.tx,aX,a6]])) λd=>4<=d/\d<X.size/\dL aN≠some d/\dL aX≠some d/\dL a6≠some d) eB s.dV:=er.imp λL m ⟨rv,U,fi,eA⟩=>⟨rv,U,fi.mono λd q=>by rw[a7,ao (by have:=(eA d q).1;omega)],eA⟩;simp[Mq,ey,eD];generalize dQ X 1 _=M at*
  have eO:=dv;rw[<-eX]at eO;obtain⟨me,G,hd⟩:=im eO;have bz:=ed (ff.1 dv).1;refine lh (λb6 bN=>∃n,ApO w s t k o r aN aX a6 bN n/\dz b6 7 (.ptr 1 0 0 0)/\dz b6 12 (.ptr 3 0 0 0)/\dz b6 15 (dw n)) (λae=> ?_) (λae=> ?_) ?_
  ·have ae:k=1:=by simpa using ae
   subst ae
   ·obtain⟨y,V,av,W,aE,A,e,l,j⟩:=c.sy.g3.at (x:=me.t) (i:=t.toNat) (by simp[G]);rw[aH]at A j;subst A;simp[c.g1,c.g2,bz,e,l,j];exact⟨_,_,_,show em w s t 1 o r=(s.ox t (j7 2),0)by simp[em],c.ox rfl e G (j7 2)⟩
  ·have ae:¬k=1:=by simpa using ae
   rcases ta bl with g|rfl|rfl|rfl|rfl|rfl|rfl|rfl|rfl|g|g|g|g
   ·exact absurd g ae
   ·obtain⟨y,V,av,W,aE,A,e,l,j⟩:=c.sy.g3.at (x:=me.t) (i:=t.toNat) (by simp[G]);rw[aH]at A j;subst A;simp[c.g1,c.g2,bz,e,l,j];exact⟨_,_,_,show em w s t 2 o r=(s.ox t (j7 5),0)by simp[em],c.ox rfl e G (j7 5)⟩
   ·simp;exact⟨_,_,_,show em w s t 3 o r=(s,0)by simp[em],c⟩
   ·simp;exact⟨_,_,_,show em w s t 4 o r=(s,0)by simp[em],c⟩
   ·simp;exact⟨_,_,_,show em w s t 5 o r=(s,0)by simp[em],c⟩
   ·simp[c.g1,c.g2,dP];exact⟨_,_,_,show em w s t 12 o r=({s with tx:=t},0)by simp[em],c.tx t⟩
   ·simp[c.g1,dP];exact⟨_,_,_,show em w s t 13 o r=({s with tx:=-1},0)by simp[em],c.tx (-1)⟩
   ·obtain⟨y,V,av,W,aE,A,e,l,j⟩:=c.sy.g3.at (x:=me.t) (i:=t.toNat) (by simp[G]);rw[aH]at A j;subst A;simp[c.g1,c.g2,bz,e,l,j];exact⟨_,_,_,show em w s t 14 o r=(s.ox t (λx=>{x with atomic:=true}),0)by simp[em],c.ox rfl e G (λx=>{x with atomic:=true})⟩
   ·obtain⟨y,V,av,W,aE,A,e,l,j⟩:=c.sy.g3.at (x:=me.t) (i:=t.toNat) (by simp[G]);rw[aH]at A j;subst A;simp[c.g1,c.g2,bz,e,l,j];exact⟨_,_,_,show em w s t 15 o r=(s.ox t (λx=>{x with atomic:=false}),0)by simp[em],c.ox rfl e G (λx=>{x with atomic:=false})⟩
   ·have F:=kw bl g;rw[<-bn]at F;obtain⟨B,C,dk⟩:=im F;have D:=ed (ff.1 F).1;obtain⟨L,Z,rv,rfl,bu,ap⟩:=c.sy.el.get C;obtain⟨y,V,av,W,aE,rfl,e,l,j⟩:=c.sy.g0.at Z;have bS:=H.ej e;have ha:=(c.sy.b y (.inl rfl)).1;have ec:(1=M.size)=False:=by have:=H.ej c.g1;simp;omega
    have hj:(y=M.size)=False:=dq;have hf:=hr B (ax C);have hg:∀d,dL rv=some d->d<M.size:=λd q=>(ap d q).2.1;rcases g with rfl|rfl|rfl|rfl|rfl|rfl
    ·simp[E,c.g1,c.g2,D,e,l,j];exact⟨_,_,_,show em w s t 6 o r=(s.pK o (λh=>{h with iF:=t}),0)by simp[em],c.pK rfl e C (λh=>{h with iF:=t}) bu ap⟩
    ·simp[E,c.g1,D,e,l,j];exact⟨_,_,_,show em w s t 7 o r=(s.pK o (λh=>{h with iF:=-1}),0)by simp[em],c.pK rfl e C (λh=>{h with iF:=-1}) bu ap⟩
    ·have bC:=dm B (ax C);have cb:=de B (ax C);have gn:t∉B.d8:=by
      simp[AQ,dk,ma]at J;exact J.2.2
     obtain⟨gP,U,gL,K⟩:=FB et Z C;simp at U;subst U;have b8:Gr M rv 1 (ge B.d8):=gL;obtain⟨eo,bH,fl,aA⟩:=b8.mM (cx:=cx) (f:=T.int .i64) c.ok kG rfl nM rfl dp (λx=>rfl) t dq;have hc:=c.ok.low;have hh:(2=M.size)=False:=by have:=H.ej c.g2;simp;omega
     simp[E,c.g1,c.g2,D,e,l,j,fl];refine gJ Ud dp ⟨B.d8,t,eo⟩ ⟨rfl,aA.1,⟨aA.2.2.2.hp,aA.2.2.2.low,aw _⟩,bC,gn,cb⟩ ?_;rintro _ eE al;have gS:=aA.2.2.2.sz;have hy:=al.ok.sz;have dd:∀d,d<M.size->dL rv≠some d->eE.get d=M.get d:=λd bn bs=>(al.fr d dj (λq=>(aA.2.2.1 d q).elim bs dj)).trans (aA.2.1 d bn bs);have gw:∀d,d<4->dL rv≠some d:=λd q k=>by have:=(K d k).1;omega
     have c4:=(dd 1 (H.ej c.g1) (gw 1 dj)).trans c.g1;have e0:=(dd y bS (λk=>(K y k).2.2.1 rfl)).trans e;have gI:gu 0 eE:=⟨al.ok.hp,al.ok.low,aw _⟩;have hb:=GS B.d8 t;simp[E,c4];refine lJ Li dp ⟨lx B.d8 t,eo⟩ ⟨rfl,al.g,gI,BO bC t,dt⟩ ?_;rintro O hT ⟨L,N⟩;simp only at L;rw[L];have eh:=eZ (N.get 1 (H.ej c4));have t1:=(N.get 1 (H.ej c4)).trans c4;have tb:=(N.get y (H.ej e0)).trans e0;have gT:Gr hT eo 1 (ge (lx B.d8 t)):=al.g.mono λd q=>by
      obtain⟨_,_,_,_,gv,_⟩:=al.g.box q;exact N.get d (H.ej gv)
     have hA:=N.ok.sz;simp[D,tb,l,j,eh,dP,gT.gD,gT.cells];exact⟨_,_,_,show em w s t 8 o r=(s.pK o (λh=>{h with d8:=lx h.d8 t}),0)by simp[em],c.Zd eU rfl e C Z (λd q=>⟨(K d q).1,(K d q).2.2⟩) (hT:=hT) ⟨N.ok.hp,N.ok.low,dj⟩ (λd bn bs=>(N.get d dj).trans (dd d bn bs)) (λh=>{h with d8:=lx h.d8 t}) gT aA.2.2.1⟩
    ·obtain⟨gP,U,gL,K⟩:=FB et Z C;simp at U;subst U;have b8:Gr M rv 1 (ge B.d8):=gL;have bC:=dm B (ax C);have cb:=de B (ax C);have gm:t∈B.d8:=by
      simp[AQ,dk,ma]at J;exact J.2
     obtain⟨P,Q,ce⟩:=List.append_of_mem gm;have cp:t∉P/\t∉Q:=by
      rw[ce]at bC;have ca:=List.pairwise_append.1 bC;have di:=List.pairwise_cons.1 ca.2.1;exact⟨λk=>by have:=ca.2.2 t k t dp;omega,λk=>by have:=di.1 t k;omega⟩
     simp[E,c.g1,D,e,l,j];have gz:dL rv≠some 2:=λk=>by have:=(K 2 k).1;omega
     refine lJ EC dp ⟨P,Q,t,rv,2,⟨0,0,0,false,false,[]⟩⟩ ⟨rfl,c.g2,c.ok,by rw[ce]at b8;exact b8,cp.1,cp.2,by rw[ce]at cb;simp at cb|-;omega,gz⟩ ?_;rintro O bH ⟨b9,eI,eW,b7⟩;simp only at b9 eI b7;have eC:=b7 1 (H.ej c.g1) (λk=>by have:=(K 1 k).1;omega);have fE:=b7 y bS (λk=>(K y k).2.2.1 rfl);have eh:=eZ eC;have gZ:=eC.trans c.g1;have e8:=fE.trans e;have gk:B.d8.filter (λO=> !decide (O=t))=P++Q:=by
      rw[ce,List.filter_append,List.filter_cons];simp;rw[List.filter_eq_self.2 λx l=> ?_,List.filter_eq_self.2 λx l=> ?_]
      ·simp;exact λL=>cp.2 (by rw[<-L];exact l)
      ·simp;exact λL=>cp.1 (by rw[<-L];exact l)
     have gS:=eW.sz;simp[D,e8,l,j,eh,dP,b9.gD,b9.cells];exact⟨_,_,_,show em w s t 9 o r=(s.pK o (λh=>{h with d8:=h.d8.filter λO=> !decide (O=t)}),0)by simp[em],c.Zd eU rfl e C Z (λd q=>⟨(K d q).1,(K d q).2.2⟩) (hT:=bH) eW b7 (λh=>{h with d8:=h.d8.filter λO=> !decide (O=t)}) (by show Gr bH O 1 (ge (B.d8.filter _));rw[gk];exact b9) (λd q=> .inl (by rw[<-eI];exact q))⟩
    ·simp[E,c.g1,c.g2,D,e,l,j];exact⟨_,_,_,show em w s t 10 o r=(s.pK o (λh=>{h with iF:=t}),0)by simp[em],c.pK rfl e C (λh=>{h with iF:=t}) bu ap⟩
    ·simp[E,c.g1,D,e,l,j];exact⟨_,_,_,show em w s t 11 o r=(s.pK o (λh=>{h with iF:=-1}),0)by simp[em],c.pK rfl e C (λh=>{h with iF:=-1}) bu ap⟩
   ·have F:=ny bl g;obtain⟨d,dn,eM⟩:=im F;have eb:=qW ds dn;rw[<-bn]at eb;obtain⟨B,C,dk⟩:=im eb;have D:=ed (ff.1 F).1;have e4:=ed (ff.1 eb).1;obtain⟨L,Z,rv,rfl,bu,ap⟩:=c.sy.el.get C;obtain⟨y,V,av,W,aE,rfl,e,l,j⟩:=c.sy.g0.at Z;obtain⟨I,fo,gQ,fv,c6,A,bi,c1,ea⟩:=c.sy.g3.at (x:=me.t) (i:=t.toNat) (by simp[G]);rw[aH]at A ea;subst A;have bS:=H.ej e;have eH:=H.ej bi;have ec:(1=y)=False:=by have:=(c.sy.b y (.inl rfl)).1;simp;omega
    have gy:(1=I)=False:=by have:=(c.sy.b I (.inr (.inr rfl))).1;simp;omega
    have eV:(2=y)=False:=by have:=(c.sy.b y (.inl rfl)).1;simp;omega
    have gB:(2=I)=False:=by have:=(c.sy.b I (.inr (.inr rfl))).1;simp;omega
    have ef:(I=y)=False:=by simp;rintro rfl;rw[e]at bi;simp at bi
    have eS:∀x,(c6.set t.toNat x)[t.toNat]? =some x:=λx=>by
     have:t.toNat<c6.length:=by
      rcases aD t.toNat c6.length with k|k
      ·exact k
      ·rw[aK k]at c1;simp at c1
     rw[bQ];simp[this]
    have bk:∀v,(dQ M y v).get I=some ⟨3,fo,gQ,fv,false,c6⟩:=λv=>by rw[dE e,ao (by simpa using ef)];exact bi
    have e1:=λv z=>mv (bk v) (show 1≠I by simpa using gy) z;have e2:=λv z=>mv (bk v) (show 2≠I by simpa using gB) z;have eu:=λ(f:dS->dS) (q:(f B).d8=B.d8)=>c.pK rfl e C f (rv:=rv) (by rw[q];exact bu) ap;rcases g with rfl|rfl|rfl|rfl
    ·have c9:=(eu (λh=>{h with iF:=-1}) rfl).ox rfl (bk _) G (λx=>{x with iv:=3});have bB:=c9.ox (me:=(λx=>{x with iv:=3}) me) rfl ((dE (bk _) _ _).trans (aq rfl)) (i:=t.toNat) (by simp[G]) (λx=>{x with cond:=o});simp only[AK,List.set_set]at bB;simp[E,c.g0,c.g1,c.g2,D,e4,bz,dn,e,bi,l,c1,j,ea,md,c.ok.hp,bS,eH,ec,ef,eV,eS,e1,e2];exact⟨_,_,_,show em w s t 16 o r=((s.pK d.ke λh=>{h with iF:=-1}).ox t (λx=>{x with iv:=3,cond:=o}),0)by simp[em,eM],bB⟩
    ·have c9:=(eu (λh=>{h with iF:=t}) rfl).ox rfl (bk _) G (λx=>{x with iv:=2});have bB:=c9.ox (me:=(λx=>{x with iv:=2}) me) rfl ((dE (bk _) _ _).trans (aq rfl)) (i:=t.toNat) (by simp[G]) (λx=>{x with cond:=0});simp only[AK,List.set_set]at bB;simp[E,c.g0,c.g1,c.g2,D,e4,bz,dn,e,bi,l,c1,j,ea,md,c.ok.hp,bS,eH,ec,ef,eV,eS,e1,e2];exact⟨_,_,_,show em w s t 17 o r=((s.pK d.ke λh=>{h with iF:=t}).ox t (λx=>{x with iv:=2,cond:=0}),0)by simp[em,eM],bB⟩
    ·simp[E,gg,c.g1];refine gJ Nx dp ⟨s,_,_,_,o,r⟩ ⟨rfl,c.sy.g3,c.ok,ht⟩ ?_;rintro _ bH ⟨n,rfl,eP,bT⟩;simp only at eP bT;simp;exact⟨_,_,_,show em w s t 18 o r=({s with dB:=if gU o s.dB 0=[]then s.dB else s.dB.modify n.toNat (j7 4)},n)by
      have eR:xw o r s.dB=n:=by rw[eP];rfl
      unfold em;simp;by_cases q:gU o s.dB 0=[]
      ·rw[aq q,aq q,<-eR];unfold xw;rw[q];rfl
      ·rw[ao q,ao q,eR];rfl,c.Ya bT⟩
    ·simp[E,c.g1];refine gJ Gi dp ⟨s,_,_,_,o,0⟩ ⟨rfl,c.sy.g3,c.ok,ht⟩ ?_;rintro _ bH ⟨rfl,bT⟩;simp only at bT;simp;exact⟨_,_,_,show em w s t 19 o r=({s with dB:=s.dB.map (Bz o)},((gU o s.dB 0).length:Int))by
      unfold em;simp;intro a _;rfl,c.Ya bT⟩
   ·have F:=vP bl g;rw[<-eX]at F;obtain⟨u,cL,gp⟩:=im F;have D:=ed (ff.1 F).1;rcases g with rfl|rfl
    ·obtain⟨y,V,av,W,aE,A,e,l,j⟩:=c.sy.g3.at (x:=u.t) (i:=o.toNat) (by simp[cL]);rw[aH]at A j;subst A;simp[E,c.g1,D,e,l,j];exact⟨_,_,_,show em w s t 20 o r=(s.ox o (j7 1),0)by simp[em],c.ox rfl e cL (j7 1)⟩
    ·simp;exact⟨_,_,_,show em w s t 21 o r=(s,0)by simp[em],c⟩
   ·have F:=qu bl g;rw[<-bs]at F;obtain⟨u,cL,gp⟩:=im F;have D:=ed (ff.1 F).1;rcases g with rfl|rfl
    ·obtain⟨y,V,av,W,aE,A,e,l,j⟩:=c.sy.g2.at (x:= .bool u) (i:=o.toNat) (by simp[cL]);rw[aH]at A j;subst A;simp[E,c.g1,D,e,l,j];exact⟨_,_,_,show em w s t 22 o r=({s with done:=s.done.set o.toNat true},0)by simp[em],c.Ws rfl e o.toNat true⟩
    ·simp;exact⟨_,_,_,show em w s t 23 o r=(s,0)by simp[em],c⟩
  ·rintro b6 bN ⟨n,⟨S,fs,hn,gj,R⟩,gi,fY,gd⟩;obtain⟨ho,hq,hs⟩:=R.sy.fz;have fL:∀v,(dQ bN 3 v).get 3=some v:=λv=>(dE R.g3 v _).trans (aq rfl);have c7:∀v,AB 4 bN.size (dQ bN 3 v) aN aX a6 fs S:=λv=>R.sy.mono (au _) λd q _=>by rw[dE R.g3,ao dj]
   have fA:=λv=>(c7 v).fz.1;have fB:=λv=>(c7 v).fz.2.1;have fC:=λv=>(c7 v).fz.2.2;simp[gi,fY,gd,R.g1,R.g3,fL,dP,fA,fB,fC,gj,R.ok.hp]
end
end Go.Proofs.YtmaeadedikngoaaGreatDoor
