/- X07 -/
import Derived.Test.YtmoiekepclmgbaaGreatDoorA16
import Derived.Test.YtmoiekepclmgbaaGreatDoorA13
set_option linter.all false
set_option maxRecDepth 100000
set_option maxHeartbeats 0
namespace Go.Proofs.YtmoiekepclmgbaaGreatDoor
noncomputable section
open Go Go.TI Tryz
attribute [-simp] List.map_take List.map_drop List.map_append fU fK fh Bool.not_or Bool.not_and
attribute [simp] fT fM
def QL(b c:H)(f:Nat)(e:List (T×aa (Nat×List T))):Prop:=∃d g,nS c d f g e/\(∀a,Fp c d a->b.size<=a)/\iE b.size c/\∀a,a<b.size->c.get a=b.get a
def QL.of{b f d:H}{e j k:Nat}{h:List (T×aa (Nat×List T))}(n:nS d e j k h)(c:Step e f d)(i:∀a,Fp f e a->b.size<=a)(l:b.size<=f.size)(m:∀a,a<b.size->f.get a=b.get a):QL b (mK b d) j h:=
 ⟨e,k,n.step ((iE.out ⟨c.ok.hp,c.ok.low,aw _⟩ b)) λa _=>il b d a,λa g=>by
   rw[jt (il b d e)]at g;rcases c.fp a g with q|q
   ·exact i a q
   ·omega,iE.out ⟨c.ok.hp,c.ok.low,aQ l c.ok.sz⟩ b,λa g=>(il b d a).trans ((c.get a D λq=>by have:=i a q;omega).trans (m a g))⟩
def pS8(a:fc)(b:List T)(c:H):Prop:=b=[a.t]/\iE 0 c/\a.fj.length<=1000000/\a.fa.length<=1000000/\a.dW.length<=1000000
def BR(b:Nat):List dZ:=(List.range b).map λa=>⟨if a=0 then 1 else 0,0,false⟩
def Pa(a:Nat):BR (a+1)=BR a++[⟨if a=0 then 1 else 0,0,false⟩]:=by
 unfold BR;rw[List.range_succ,List.map_append];rfl
def qS8(a:fc)(_:List T)(e:H)(g:T)(f:H):Prop:=∃b c d,g= .agg [b,G (-1),c,d]/\QL e f 4 [(b,some (2,(List.replicate a.fj.length ()).map AI)),(G (-1),none),(c,some (1,(List.replicate a.fa.length false).map T.bool)),(d,some (3,(BR a.dW.length).map dZ.t))]
def Sz8(e:Nat)(f:H)(Lk:List Unit)(a:List Bool)(Th:List dZ):Prop:=∃g b c d,nS f e 4 g [(b,some (2,Lk.map AI)),(G (-1),none),(c,some (1,a.map T.bool)),(d,some (3,Th.map dZ.t))]
def ahh:(jY fc pS8 qS8).Ok prog cx 87:=by
 refine jV (tb:=⟨pt [],ht []⟩) jg iT (jr 9071038046463 [] func87) (λ_ _=>1000005) (λe a h a6=>by obtain⟨rfl,_⟩:=a6;simp[f87]) ?_;rintro(w:fc) _ h ⟨rfl,aE,hl,bA,ht⟩ d an;simp at an;simp[f87,an];generalize O:fg _ _ _=p;have P:iE 0 p:=by rw[<-O];exact(((aE.hr.cons _).cons _).cons _).put _ _
 have bC:p.size=h.size+3:=by rw[<-O];simp
 have L:∀j,p.get j=if j=h.size+2 then some (dS 4 1 [.agg [dR,G (-1),dR,dR]])else if j=h.size+1 then some tV else if j=h.size then some (dS 6 0 [w.t])else h.get j:=λj=>by
  rw[<-O,nM (((aE.hr.cons _).cons _).cons _).hp Y,ez,ez,ez,iI];simp only[size_cons,pB];by_cases M:j=h.size+2<;>simp[M,tV]
 have⟨bn,Q⟩:=nS.start (h:=p) (w:=h.size+2) (szw:=4) (ver:=1) (F:=[(dR,some (2,[])),(G (-1),none),(dR,some (1,[])),(dR,some (3,[]))]) P (by rw[L,aq rfl];rfl) Y;have K:Lb (h.size+2) p h.size (dS 6 0 [w.t]):=⟨by rw[L,ao D,ao D,aq rfl],λM=>by have:=Q _ M;omega⟩;have a8:Lb (h.size+2) p (h.size+1) tV:=⟨by rw[L,ao D,aq rfl],λM=>by have:=Q _ M;omega⟩;have bi:∀j,j<h.size->p.get j=h.get j:=λj I=>by rw[L,ao D,ao D,ao D]
 clear O L;refine gu w.fj.length D (λe d g=>Sz8 (h.size+2) g (List.replicate e ()) [] []/\Step (h.size+2) p g/\dT d 1 (.ptr h.size 0 0 0)/\dT d 2 (.ptr (h.size+1) 0 0 0)/\dT d 3 (.ptr (h.size+2) 0 0 0)/\dT d 4 (G e)) ?_ ?_ D ⟨⟨_,_,_,_,bn⟩,Step.refl P,Y⟩
 ·rintro e d g J E ⟨⟨ver,r,s,z,b⟩,c,i,k,l,m⟩;have o:=b.get;simp at o;have⟨q,u,n,y⟩:=(b.gr 0 rfl).my (cx:=cx) (f:=AI) b.ok II rfl IF rfl Y (λ_=>rfl) () dN;have⟨v,V,B⟩:=b.app 0 rfl y;have⟨C,A⟩:=B _ rfl;simp only[<-List.replicate_succ']at A;simp[-List.map_replicate]at v C A;simp only[AI]at n;simp[i,k,l,m,J,(K.step c).get,o,n,v,eZ,y.1.iN,y.1.cells,E];exact⟨⟨_,_,_,_,A⟩,c.trans C⟩
 rintro d g ⟨⟨ver,r,s,z,b⟩,c,i,k,l,m⟩;simp[i,m,(K.step c).get];refine gu w.fa.length D (λe d g=>Sz8 (h.size+2) g (List.replicate w.fj.length ()) (List.replicate e false) []/\Step (h.size+2) p g/\dT d 1 (.ptr h.size 0 0 0)/\dT d 2 (.ptr (h.size+1) 0 0 0)/\dT d 3 (.ptr (h.size+2) 0 0 0)/\dT d 5 (G e)) ?_ ?_ D ⟨⟨_,_,_,_,b⟩,c,by simp[i,k,l]⟩
 ·clear b c i k l m;rintro e d g J E ⟨⟨ver,r,s,z,b⟩,c,i,k,l,m⟩;have o:=b.get;simp at o;have⟨q,u,n,y⟩:=(b.gr 2 rfl).my (cx:=cx) (f:=T.bool) b.ok Cu rfl KS rfl Y Y false dN;have⟨v,V,B⟩:=b.app 2 rfl y;have⟨C,A⟩:=B _ rfl;simp only[<-List.replicate_succ']at A;simp[-List.map_replicate]at v C A;simp[i,k,l,m,J,(K.step c).get,o,n,v,eZ,y.1.iN,y.1.cells,E];exact⟨⟨_,_,_,_,A⟩,c.trans C⟩
 clear b c i k l m;rintro d g ⟨⟨ver,r,s,z,b⟩,c,i,k,l,m⟩;simp[i,m,(K.step c).get];refine gu w.dW.length D (λe d g=>Sz8 (h.size+2) g (List.replicate w.fj.length ()) (List.replicate w.fa.length false) (BR e)/\Step (h.size+2) p g/\dT d 1 (.ptr h.size 0 0 0)/\dT d 2 (.ptr (h.size+1) 0 0 0)/\dT d 3 (.ptr (h.size+2) 0 0 0)/\dT d 6 (G e)) ?_ ?_ D ⟨⟨_,_,_,_,b⟩,c,by simp[i,k,l]⟩
 ·clear b c i k l m;rintro e d g J E ⟨⟨ver,r,s,z,b⟩,c,i,k,l,m⟩;have o:=b.get;simp at o;have bH:=c.ok.sz;have bB:(h.size=g.size)=False:=dN;have ap:(h.size+2=g.size)=False:=dN;have aA:=(K.step c).get;have av:∀N,∃q u,jn cx ((g.cons (dS 3 N [dZ.t ⟨if e=0 then 1 else 0,0,false⟩])).cons (dS 3 0 [dZ.t ⟨if e=0 then 1 else 0,0,false⟩])) 34 34 z (.arr (g.size+1) 0 0 1 false)=some (.val q u)/\q.iN=true/\q.cells=[q]/\u.get (h.size+2)=some (dS 4 ver [.agg [r,G (-1),s,z]])/\fQ (g.cons (dS 3 N [dZ.t ⟨if e=0 then 1 else 0,0,false⟩])) u (h.size+2)=true/\Sz8 (h.size+2) (fg u (h.size+2) (dS 4 (ver+1) [.agg [r,G (-1),s,q]])) (List.replicate w.fj.length ()) (List.replicate w.fa.length false) (BR (e+1))/\Step (h.size+2) p (fg u (h.size+2) (dS 4 (ver+1) [.agg [r,G (-1),s,q]])):=λN=>by
   have al:=b.cons (dS 3 N [dZ.t ⟨if e=0 then 1 else 0,0,false⟩]);have bu:=Step.cons b.ok b.lt (dS 3 N [dZ.t ⟨if e=0 then 1 else 0,0,false⟩]);have⟨q,u,n,y⟩:=(al.gr 3 rfl).my (cx:=cx) (f:=dZ.t) al.ok FF rfl DJ rfl Y (λ_=>rfl) (⟨if e=0 then 1 else 0,0,false⟩:dZ) (by simp[BR];omega);have⟨v,V,B⟩:=al.app 3 rfl y;have⟨C,A⟩:=B _ rfl;rw[<-Pa]at C A;rw[size_cons]at n;exact⟨q,u,n,y.1.iN,y.1.cells,v,V,⟨_,_,_,_,A⟩,(c.trans bu).trans C⟩
  by_cases R:e=0
  ·subst R;have⟨q,u,n,v,B,W,X,Z,ae⟩:=av 2;simp at n X;have aN:binop .add (G 0) (G 1)=some (G 1):=by simpa using E
   simp[i,k,l,m,J,aA,o,ap,b.ok.low,n,v,B,W,eZ,aN];exact⟨Z,ae⟩
  ·have⟨q,u,n,v,B,W,X,Z,ae⟩:=av 1;simp[R]at n X;simp[i,k,l,m,R,J,aA,o,ap,b.ok.low,n,v,B,W,eZ,E];exact⟨Z,ae⟩
 clear b c i k l m;rintro d g ⟨⟨ver,r,s,z,b⟩,c,i,k,l,m⟩;have o:=b.get;simp at o;have S:=a8.step c;have U:=S.get;unfold tV at U;have bp:=b.qh S (dS 4 1 [.agg [r,G (-1),s,z]]);have aX:(fg g (h.size+1) (dS 4 1 [.agg [r,G (-1),s,z]])).get (h.size+1)=_:=(ee U _ _).trans (aq rfl);simp[i,k,l,m,(K.step c).get,o,U,eZ,aX,-List.map_replicate];have bs:Step (h.size+2) h p:=⟨⟨P.hp,P.low,D⟩,λj I _=>bi j I,λj I=> .inr (by have:=Q j I;omega)⟩;exact⟨r,s,z,rfl,QL.of bp (Step.qh b.ok S _ h (bs.trans c) D) (λj I=>by
  rcases I with rfl|⟨x,a7,_⟩
  ·omega
  ·have:=H.fG a7;omega) (au _) λ_ _=>rfl⟩
def L7(a:fc)(b:List T)(c:H):Prop:=b=[a.t]/\iE 0 c/\a.fj.length<=1000000/\a.fa.length<=1000000/\a.dW.length<=1000000/\a.cells.length<=1000000
def U9(a:fc)(c d e f g h:T)(b:List Int):List (T×aa (Nat×List T)):=[(c,some (2,(List.replicate a.fj.length ()).map AI)),(G (-1),none),(d,some (1,(List.replicate a.fa.length false).map T.bool)),(e,some (3,(BR a.dW.length).map dZ.t)),(f,some (1,b.map (T.int .i64))),(g,some (1,(List.replicate a.fa.length 0).map (T.int .i64))),(h,some (1,(List.replicate a.dW.length 0).map (T.int .i64)))]
def LR(g:fc)(_:List T)(h:H)(j:T)(i:H):Prop:=∃a b c d e f,j= .agg [a,G (-1),b,c,d,e,f]/\QL h i 7 (U9 g a b c d e f (g.cells.map iK.jG))
def adJ:(jY fc L7 LR).Ok prog cx 41:=by
 refine jV (tb:=⟨pt [],ht [(87,jY fc pS8 qS8)]⟩) jg iT (jr 1048607 [(1,[(1,3),(1,5),(1,7),(1,9),(1,11)])] func41) (λ_ _=>1000005) (λp s h cF=>by obtain⟨rfl,_⟩:=cF;simp[f41]) ?_;rintro(d:fc) _ h ⟨rfl,c6,hl,F,ht,j⟩ y k;simp at k;have bH:d.fa.length*8<=70368744177664:=D;have bN:d.dW.length*8<=70368744177664:=D;simp[f41,k];generalize z:((TI.hr h).cons _).cons _=u;have c7:iE 0 u:=by rw[<-z];exact(c6.hr.cons _).cons _
 refine lH ahh Y d ⟨rfl,c7,hl,F,ht⟩ ?_;rintro _ c ⟨m,n,o,rfl,g,S,i,bT,aA,R⟩;have ds:u.size=h.size+2:=by rw[<-z];simp
 have dn:=aA.sz;rw[ds]at dn;have di:u.get h.size=some (dS 6 0 [d.t]):=by rw[<-z];simp
 have dk:u.get (h.size+1)=some oX:=by rw[<-z];simp[oX]
 have dm:∀a,a<h.size->u.get a=h.get a:=λa j=>by rw[<-z,ez,ao dN,ez,ao dN,iI]
 clear z;have a0:=(R h.size D).trans di;have a1:=(R (h.size+1) D).trans dk;have bu:=fZ (R h.size D);have c4:(h.size=c.size)=False:=dN;have eb:(h.size=c.size+1)=False:=dN;have bC:fQ u c (c.size+1+1)=true:=jw (mv _ D);have N:=λp a aX U (I: [(m,some (2,(List.replicate d.fj.length ()).map AI)),(G (-1),none),(n,some (1,(List.replicate d.fa.length false).map T.bool)),(o,some (3,(BR d.dW.length).map dZ.t))][p]? =some (a,some (aX,U)))=>And.intro (i.gr p I).iN (i.gr p I).cells;have bX:=N 0 m _ _ rfl;have b6:=N 2 n _ _ rfl;have b7:=N 3 o _ _ rfl;have bA:fQ u c c.size=true:=jw (mv _ D);have bB:fQ u c (c.size+1)=true:=jw (mv _ D);simp[bH,bN,a0,bu,c4,bA,bB,bC];generalize O:fg _ _ _=r;have bs:iE 0 c:=⟨aA.hp,aA.low,aw _⟩;have JI:iE 0 r:=by rw[<-O];exact(((bs.cons _).cons _).cons _).put _ _
 have eh:r.size=c.size+3:=by rw[<-O];simp
 have E:∀a,r.get a=if a=c.size+2 then some (dS 7 1 [.agg [m,G (-1),n,o,dR,.arr c.size 0 0 d.fa.length false,.arr (c.size+1) 0 0 d.dW.length false]])else if a=c.size+1 then some ⟨1,0,0,true,false,List.replicate d.dW.length (G 0)⟩else if a=c.size then some ⟨1,0,0,true,false,List.replicate d.fa.length (G 0)⟩else c.get a:=λa=>by
  rw[<-O,nM (((bs.cons _).cons _).cons _).hp Y,ez,ez,ez];simp only[size_cons];by_cases q:a=c.size+2
  ·simp[q]
  ·by_cases B:a=c.size+1<;>by_cases c9:a=c.size<;>simp[q,B,c9]
 clear O;have Q:∀a,a<c.size->r.get a=c.get a:=λa q=>by rw[E,ao D,ao D,ao D]
 have P:∀(l:Nat) s,(U9 d m n o dR (.arr c.size 0 0 d.fa.length false) (.arr (c.size+1) 0 0 d.dW.length false) [])[l]? =some s->∀a,eG s.1=some a->(l<4/\[(m,some (2,(List.replicate d.fj.length ()).map AI)),(G (-1),none),(n,some (1,(List.replicate d.fa.length false).map T.bool)),(o,some (3,(BR d.dW.length).map dZ.t))][l]? =some s/\h.size+2<=a/\a<c.size)\/(l=5/\a=c.size)\/(l=6/\a=c.size+1):=by
  intro l s k a j;have cX:=λ(J: [(m,some (2,(List.replicate d.fj.length ()).map AI)),(G (-1),none),(n,some (1,(List.replicate d.fa.length false).map T.bool)),(o,some (3,(BR d.dW.length).map dZ.t))][l]? =some s)=>And.intro J (And.intro (show h.size+2<=a by have:=bT a (i.DG (ay J) j);omega) (i.fp a (i.DG (ay J) j)));unfold U9 at k;rcases l with _|_|_|_|_|_|_|l
  iterate 4 exact .inl ⟨D,cX k⟩
  ·simp at k;subst k;simp at j
  ·simp at k;subst k;simp at j;exact .inr (.inl ⟨rfl,j.symm⟩)
  ·simp at k;subst k;simp at j;exact .inr (.inr ⟨rfl,j.symm⟩)
  ·simp at k
 have a7:nS r (c.size+2) 7 1 (U9 d m n o dR (.arr c.size 0 0 d.fa.length false) (.arr (c.size+1) 0 0 d.dW.length false) []):=by
  refine⟨JI,by rw[E,aq rfl];rfl,λf F=>?_,λl L cp s b k b9 a A B=>cp ?_⟩
  ·have av:=λp a aX U (I: [(m,some (2,(List.replicate d.fj.length ()).map AI)),(G (-1),none),(n,some (1,(List.replicate d.fa.length false).map T.bool)),(o,some (3,(BR d.dW.length).map dZ.t))][p]? =some (a,some (aX,U)))=>(i.gr p I).mono (h':=r) λq cL=>Q q (i.fp q (i.DG (ay I) cL));unfold U9 at F;simp only[cu,cO,or_false]at F;rcases F with rfl|rfl|rfl|rfl|rfl|rfl|rfl
   ·exact⟨av 0 _ _ _ rfl,show(2:Nat)≠7 by decide⟩
   ·show eG _=none;simp
   ·exact⟨av 2 _ _ _ rfl,show(1:Nat)≠7 by decide⟩
   ·exact⟨av 3 _ _ _ rfl,show(3:Nat)≠7 by decide⟩
   ·exact⟨Gr.nil _ _,show(1:Nat)≠7 by decide⟩
   ·exact⟨.inr ⟨c.size,0,0,true,_,Y,by rw[E,ao D,ao D,aq rfl],Y⟩,show(1:Nat)≠7 by decide⟩
   ·exact⟨.inr ⟨c.size+1,0,0,true,_,Y,by rw[E,ao D,aq rfl],Y⟩,show(1:Nat)≠7 by decide⟩
  ·rcases P l s k a A with⟨bn,al,dv,ea⟩|⟨bn,al⟩|⟨bn,al⟩<;>rcases P L b b9 a B with⟨r1,r2,r3,r4⟩|⟨r1,r2⟩|⟨r1,r2⟩<;>try omega
   exact Decidable.byContradiction λe=>i.YI l L e s b al r2 a A B
 have V:∀a,Fp r (c.size+2) a->h.size+2<=a:=by
  rintro a (rfl|⟨x,K,v,bi,q⟩)
  ·omega
  ·rw[a7.get]at K;simp only[ar]at K;subst K;simp only[gH,bm,cC,bG,T.cells]at bi;obtain⟨f,ca,rfl⟩:=List.mem_map.1 bi;have⟨l,J,cb⟩:=List.mem_iff_getElem.1 ca;rcases P l f (by rw[az J,cb]) a q with⟨_,_,L,_⟩|⟨_,L⟩|⟨_,L⟩<;>omega
 have bp:Lb (c.size+2) r h.size (dS 6 0 [d.t]):=⟨(Q _ D).trans a0,λq=>by have:=V _ q;omega⟩;have c1:Lb (c.size+2) r (h.size+1) oX:=⟨(Q _ D).trans a1,λq=>by have:=V _ q;omega⟩;have de:Step (c.size+2) h r:=⟨⟨JI.hp,JI.low,D⟩,λa j _=>(Q a D).trans ((R a D).trans (dm a j)),λa j=> .inr (by have:=V a j;omega)⟩;clear E P N bX b6 b7 bA bB bC bu;refine gu d.cells.length D (λp y M=>(∃S a,nS M (c.size+2) 7 S (U9 d m n o a (.arr c.size 0 0 d.fa.length false) (.arr (c.size+1) 0 0 d.dW.length false) ((d.cells.take p).map iK.jG)))/\Step (c.size+2) r M/\dT y 1 (.ptr h.size 0 0 0)/\dT y 2 (.ptr (h.size+1) 0 0 0)/\dT y 3 (.ptr (c.size+2) 0 0 0)/\dT y 4 (G p)) ?_ ?_ D ⟨⟨_,_,a7⟩,Step.refl JI,Y⟩
 ·rintro p y M a8 b8 ⟨⟨S,a,i⟩,C,W,X,Z,ae⟩;have w:=i.get;unfold U9 at w;simp at w;have⟨ef,h',bS,a6⟩:=(i.gr 4 rfl).my (cx:=cx) (f:=T.int .i64) i.ok qv rfl zv rfl Y (λ_=>rfl) d.cells[p].jG dN;have⟨A,ec,B⟩:=i.app 4 rfl a6;have⟨aN,aE⟩:=B _ rfl;unfold U9 at A aN aE;simp only[aL,bw,cK,cA]at A aN aE;simp[W,X,Z,ae,a8,(bp.step C).get,w,bS,A,eZ,a6.1.iN,a6.1.cells,b8];exact⟨⟨_,_,by unfold U9;rw[aM a8,List.map_append];exact aE⟩,C.trans aN⟩
 rintro y M ⟨⟨S,a,i⟩,C,W,X,Z,ae⟩;rw[aI]at i;have w:=i.get;unfold U9 at w;simp at w;have an:=c1.step C;have ap:=an.get;unfold oX at ap;have dd:=i.qh an (dS 7 1 [.agg [m,G (-1),n,o,a,.arr c.size 0 0 d.fa.length false,.arr (c.size+1) 0 0 d.dW.length false]]);have bW:(fg M (h.size+1) (dS 7 1 [.agg [m,G (-1),n,o,a,.arr c.size 0 0 d.fa.length false,.arr (c.size+1) 0 0 d.dW.length false]])).get (h.size+1)=_:=(ee ap _ _).trans (aq rfl);simp[W,X,Z,ae,(bp.step C).get,w,ap,eZ,bW,-List.map_replicate];exact⟨m,n,o,_,_,_,rfl,QL.of dd (Step.qh i.ok an _ h (de.trans C) D) (λa j=>by
  rcases j with rfl|⟨x,K,_⟩
  ·omega
  ·have:=H.fG K;omega) (au _) λ_ _=>rfl⟩
end
noncomputable section
open Go Go.TI Tryz
noncomputable abbrev gN(a:Func)(b:Nat):sw:=gq cx a b false
noncomputable abbrev gK(a:Func)(b:Nat):sw:=gq cx a b true
def gO{b:aj}{a:Func}{d:Nat}{c:Bool}(e:prog.funcs[b]? =some a)(f:zo ⟨a,d,c,none⟩=true:=by kernel_rfl):nG prog cx b (gq cx a d c):=ahV jg iT e f
def g58:sw:=λ_ _ a b=>Ez ((.clone 1 1)) a b
def aam:nG prog cx 58 g58:=z9 (wz (fn:=f58) (t:=33) (tb:=4) (te:=Vg) iT func58 dU dU dU dU dU dU dU)
def g95:sw:=λ_ _ a b=>Ez ((.clone 3 24)) a b
def aal:nG prog cx 95 g95:=z9 (wz (fn:=f95) (t:=34) (tb:=4) (te:=CD) iT func95 dU dU dU dU dU dU dU)
def aeB:sw:=λ_ _ a b=>Ez (.pA) a b
def aar:(f240.name== "runtime.NumGoroutine")=false:=dU
def aaq:f240.body.isNone=true:=dU
def aao:Extern.findNext f240=none:=dU
def aap:Extern.find f240=some Extern.BytealgIndexByte.indexByte:=dU
def aan:F4 prog cx 240 .pA:= @Ii prog cx 240 f240 func240 aar aaq aao aap
def Wl:nG prog cx 240 aeB:=z9 aan
def qs:Tree sw:=(.node (.node (.node (.node (.node (.node (.node (.node .nil 9 (gN f9 40953575029616206113996799) .nil) 14 (gN f14 7) .nil) 18 (gN f18 138478519) (.node .nil 24 (gN f24 9223389645163727807) .nil)) 25 (gN f25 79) (.node (.node .nil 26 (gN f26 2417851783344448572752095) .nil) 27 (gN f27 7231) (.node .nil 28 (gN f28 18463641368405213903) .nil))) 30 (gN f30 127) (.node (.node (.node (.node .nil 31 (gN f31 2147484735) .nil) 32 (gN f32 19) .nil) 34 (gN f34 13215461614728367217751695970865548304603543200842114553566203007) (.node .nil 36 (gN f36 17179869843) .nil)) 41 (gN f41 1048607) (.node (.node .nil 45 (gN f45 9223372036871623167) .nil) 46 (gN f46 4215) (.node .nil 47 (gK f47 1048607) .nil)))) 50 (gN f50 829180818552508142370930303613581122868418894632663968482586879) (.node (.node (.node (.node (.node .nil 56 (gN f56 772424076352653274097095092108232752774234854811365887) .nil) 58 (g58) .nil) 61 (gN f61 67109327) (.node .nil 63 (gN f63 1238093369775042453301102031) .nil)) 64 (gN f64 4196311) (.node (.node .nil 66 (gN f66 137506128175) .nil) 67 (gN f67 36051629065113551) (.node .nil 72 (gN f72 606826398900554784047567) .nil))) 74 (gN f74 8796093286397) (.node (.node (.node (.node .nil 75 (gN f75 19808249554385699031857790975) .nil) 76 (gN f76 8864829278711) .nil) 80 (gN f80 6434029281764525972148499167221040878727244754944919609542655) (.node .nil 81 (gN f81 95827739445721067874190659254502973333984266632037375) .nil)) 82 (gN f82 31) (.node (.node .nil 87 (gN f87 9071038046463) .nil) 88 (gN f88 17184194575) (.node .nil 89 (gK f89 68723687231) .nil))))) 90 (gN f90 4504699140047487) (.node (.node (.node (.node (.node (.node .nil 92 (gN f92 576460753379335951) .nil) 95 (g95) .nil) 96 (gN f96 4605278686335) (.node .nil 97 (gK f97 30783) .nil)) 104 (gN f104 463) (.node (.node .nil 105 (gN f105 29) .nil) 106 (gN f106 9224506733391652861) (.node .nil 107 (gN f107 4432473883133) .nil))) 109 (gN f109 19342850151455133005856767) (.node (.node (.node (.node .nil 110 (gN f110 316913254556860716756833993695) .nil) 111 (gN f111 275) .nil) 112 (gN f112 11) (.node .nil 113 (gN f113 8934607822903) .nil)) 114 (gN f114 479) (.node (.node .nil 119 (gN f119 19) .nil) 120 (gN f120 1099511628339) (.node .nil 121 (gN f121 18889470444974887141823) .nil)))) 122 (gN f122 332312079452150195464880550324504575) (.node (.node (.node (.node (.node .nil 123 (gN f123 4330618893) .nil) 124 (gN f124 131635) .nil) 127 (gN f127 348794743007212715313826391199890521722863) (.node .nil 128 (gN f128 12259964349774246101165194645239424850975965214878597119) .nil)) 134 (gN f134 35315368591455) (.node (.node .nil 135 (gN f135 19) .nil) 136 (gN f136 606826398900554784047567) (.node .nil 137 (gN f137 5868843906288553182383292937158044313155908148351) .nil))) 142 (gN f142 7) (.node (.node (.node (.node .nil 143 (gN f143 19) .nil) 145 (gN f145 33587517) .nil) 146 (gN f146 4101) (.node .nil 147 (gN f147 21853) .nil)) 148 (gN f148 37396817117309) (.node (.node .nil 149 (gN f149 51) .nil) 150 (gN f150 40536831200067837) (.node .nil 151 (gN f151 72128100255664255) .nil)))))) 152 (gN f152 1242795222330225588904675325) (.node (.node (.node (.node (.node (.node (.node .nil 153 (gN f153 1237940043933112819970491391) .nil) 154 (gN f154 1053) .nil) 155 (gN f155 151115745466229840684019) (.node .nil 157 (gK f157 18191) .nil)) 158 (gN f158 365376106316094180278949616271352870286206697499) (.node (.node .nil 159 (gN f159 10633824283312870803151638865622599647) .nil) 161 (gN f161 5) (.node .nil 162 (gN f162 131613) .nil))) 163 (gN f163 5) (.node (.node (.node (.node .nil 164 (gN f164 11161304336780981658631819976322344575566047) .nil) 165 (gN f165 4362601011) .nil) 166 (gN f166 19) (.node .nil 167 (gK f167 2097183) .nil)) 168 (gN f168 1182933510117985879039) (.node (.node .nil 181 (gN f181 19) .nil) 182 (gN f182 19) (.node .nil 183 (gN f183 5) .nil)))) 184 (gN f184 35500589085) (.node (.node (.node (.node (.node .nil 185 (gN f185 5) .nil) 186 (gN f186 1125908496810045) .nil) 187 (gN f187 262565) (.node .nil 188 (gN f188 541) .nil)) 189 (gN f189 328307) (.node (.node .nil 190 (gN f190 1574131) .nil) 191 (gN f191 275) (.node .nil 192 (gN f192 529021) .nil))) 193 (gN f193 1125902054326279) (.node (.node (.node (.node .nil 194 (gN f194 32909) .nil) 195 (gN f195 262707) .nil) 196 (gN f196 262707) (.node .nil 197 (gN f197 14474012017383023515249485065460760621927424225494418519668988771800801378299) .nil)) 198 (gN f198 36893488147419136123) (.node (.node .nil 202 (gN f202 20282409606012871684182924853463) .nil) 203 (gN f203 158456325028530997355645763711) (.node .nil 204 (gN f204 1037) .nil))))) 205 (gN f205 1099578740959) (.node (.node (.node (.node (.node (.node .nil 206 (gN f206 1) .nil) 209 (gN f209 5) .nil) 210 (gK f210 262175) (.node .nil 211 (gK f211 9904163146420522906957187071) .nil)) 223 (gN f223 19) (.node (.node .nil 224 (gN f224 2293) .nil) 225 (gN f225 2149585011) (.node .nil 226 (gN f226 526461) .nil))) 227 (gN f227 8606909437) (.node (.node (.node (.node .nil 228 (gN f228 182687706027492332498828539273953093013162958911) .nil) 229 (gN f229 70368744310543) .nil) 230 (gN f230 83) (.node .nil 231 (gN f231 33688639) .nil)) 232 (gN f232 4196847) (.node (.node .nil 234 (gN f234 1049655) .nil) 240 (aeB) (.node .nil 241 (gN f241 8211) .nil)))) 245 (gN f245 131527) (.node (.node (.node (.node (.node .nil 246 (gN f246 563501857374451) .nil) 247 (gN f247 2863311549) .nil) 248 (gN f248 18483898770635358239) (.node .nil 249 (gN f249 7) .nil)) 250 (gN f250 99132251962343631) (.node (.node .nil 251 (gN f251 8703) .nil) 252 (gN f252 8590200303) (.node .nil 257 (gN f257 594912002450663878599) .nil))) 259 (gN f259 13) (.node (.node (.node (.node .nil 264 (gN f264 32819) .nil) 267 (gN f267 132109) .nil) 270 (gN f270 749019592093908130998168547243562859198691857383367) (.node .nil 275 (gN f275 72339071195682803) .nil)) 284 (gN f284 8407165) (.node (.node .nil 285 (gN f285 2101491) .nil) 287 (gN f287 9224502335110254589) (.node .nil 288 (gN f288 715827901) .nil)))))))
def adu:qs.U3 λa b=>nG prog cx a b:=(.node (.node (.node (.node (.node (.node (.node (.node .nil (gO func9) .nil) (gO func14) .nil) (gO func18) (.node .nil (gO func24) .nil)) (gO func25) (.node (.node .nil (gO func26) .nil) (gO func27) (.node .nil (gO func28) .nil))) (gO func30) (.node (.node (.node (.node .nil (gO func31) .nil) (gO func32) .nil) (gO func34) (.node .nil (gO func36) .nil)) (gO func41) (.node (.node .nil (gO func45) .nil) (gO func46) (.node .nil (gO func47) .nil)))) (gO func50) (.node (.node (.node (.node (.node .nil (gO func56) .nil) aam .nil) (gO func61) (.node .nil (gO func63) .nil)) (gO func64) (.node (.node .nil (gO func66) .nil) (gO func67) (.node .nil (gO func72) .nil))) (gO func74) (.node (.node (.node (.node .nil (gO func75) .nil) (gO func76) .nil) (gO func80) (.node .nil (gO func81) .nil)) (gO func82) (.node (.node .nil (gO func87) .nil) (gO func88) (.node .nil (gO func89) .nil))))) (gO func90) (.node (.node (.node (.node (.node (.node .nil (gO func92) .nil) aal .nil) (gO func96) (.node .nil (gO func97) .nil)) (gO func104) (.node (.node .nil (gO func105) .nil) (gO func106) (.node .nil (gO func107) .nil))) (gO func109) (.node (.node (.node (.node .nil (gO func110) .nil) (gO func111) .nil) (gO func112) (.node .nil (gO func113) .nil)) (gO func114) (.node (.node .nil (gO func119) .nil) (gO func120) (.node .nil (gO func121) .nil)))) (gO func122) (.node (.node (.node (.node (.node .nil (gO func123) .nil) (gO func124) .nil) (gO func127) (.node .nil (gO func128) .nil)) (gO func134) (.node (.node .nil (gO func135) .nil) (gO func136) (.node .nil (gO func137) .nil))) (gO func142) (.node (.node (.node (.node .nil (gO func143) .nil) (gO func145) .nil) (gO func146) (.node .nil (gO func147) .nil)) (gO func148) (.node (.node .nil (gO func149) .nil) (gO func150) (.node .nil (gO func151) .nil)))))) (gO func152) (.node (.node (.node (.node (.node (.node (.node .nil (gO func153) .nil) (gO func154) .nil) (gO func155) (.node .nil (gO func157) .nil)) (gO func158) (.node (.node .nil (gO func159) .nil) (gO func161) (.node .nil (gO func162) .nil))) (gO func163) (.node (.node (.node (.node .nil (gO func164) .nil) (gO func165) .nil) (gO func166) (.node .nil (gO func167) .nil)) (gO func168) (.node (.node .nil (gO func181) .nil) (gO func182) (.node .nil (gO func183) .nil)))) (gO func184) (.node (.node (.node (.node (.node .nil (gO func185) .nil) (gO func186) .nil) (gO func187) (.node .nil (gO func188) .nil)) (gO func189) (.node (.node .nil (gO func190) .nil) (gO func191) (.node .nil (gO func192) .nil))) (gO func193) (.node (.node (.node (.node .nil (gO func194) .nil) (gO func195) .nil) (gO func196) (.node .nil (gO func197) .nil)) (gO func198) (.node (.node .nil (gO func202) .nil) (gO func203) (.node .nil (gO func204) .nil))))) (gO func205) (.node (.node (.node (.node (.node (.node .nil (gO func206) .nil) (gO func209) .nil) (gO func210) (.node .nil (gO func211) .nil)) (gO func223) (.node (.node .nil (gO func224) .nil) (gO func225) (.node .nil (gO func226) .nil))) (gO func227) (.node (.node (.node (.node .nil (gO func228) .nil) (gO func229) .nil) (gO func230) (.node .nil (gO func231) .nil)) (gO func232) (.node (.node .nil (gO func234) .nil) Wl (.node .nil (gO func241) .nil)))) (gO func245) (.node (.node (.node (.node (.node .nil (gO func246) .nil) (gO func247) .nil) (gO func248) (.node .nil (gO func249) .nil)) (gO func250) (.node (.node .nil (gO func251) .nil) (gO func252) (.node .nil (gO func257) .nil))) (gO func259) (.node (.node (.node (.node .nil (gO func264) .nil) (gO func267) .nil) (gO func270) (.node .nil (gO func275) .nil)) (gO func284) (.node (.node .nil (gO func285) .nil) (gO func287) (.node .nil (gO func288) .nil)))))))
def LQ:∀a b,(λa=>qs.find a) a=some b->nG prog cx a b:=λa b c=>adu.find c
end
noncomputable section
open Go Go.TI Tryz
attribute [-simp] List.map_take List.map_drop List.map_append fU fK fh Bool.not_or Bool.not_and
attribute [simp] fT fM
def jR:fc:=⟨[⟨[120],0,0,false,0⟩,⟨[121],0,0,false,1⟩,⟨[118],0,0,true,0⟩,⟨[113],0,2,false,0⟩,⟨[113],1,2,false,0⟩],[⟨[109],false⟩,⟨[110],false⟩,⟨[114],true⟩],[⟨[99],0⟩],[[102]],[[109,97,105,110],[116,49],[116,50],[116,51]],
 [⟨0,0,1⟩,⟨0,1,2⟩,⟨0,2,3⟩,⟨0,3,4⟩,⟨0,4,5⟩,⟨0,5,6⟩,⟨1,0,11⟩,⟨1,1,12⟩,⟨1,2,13⟩,⟨1,3,14⟩,⟨1,4,15⟩,⟨1,5,16⟩,⟨2,0,21⟩,⟨2,1,22⟩,⟨2,2,23⟩,⟨2,3,24⟩,⟨2,4,25⟩,⟨2,5,26⟩,⟨3,0,31⟩,⟨3,1,32⟩,⟨3,2,33⟩,⟨3,3,34⟩,⟨3,4,35⟩,⟨3,5,36⟩]⟩
def Y1:∀a b,(λa=>(Tree.node .nil 37 (gN f37 81788943) .nil).find a) a=some b->nG prog cx a b:=λa b c=>(Tree.U3.node .nil (gO func37) .nil).find c
def Py:mp prog cx 37 [] jR.t:=AV (mc _ dU) (C0 Y1 10000 _ _ _ _ _ dU)
def HS:iy:=⟨Unit,λ_=>[],λ_=>True,λ_=>jR.t,λ_ _ _=>rfl⟩
def Sa:HS.Ok prog cx 37:=λ_ _=>Py
def Ox{a:gG}(ht:a.p 37=some HS):rl prog cx a 37 []=some jR.t:=iA ht Sa () trivial
def LJ:kv jR=true:=by decide+kernel
def xG(e:Nat)(a:List Int)(c:Nat)(d:H):Prop:=∃f b,d.get c=some (dS 2 f [.agg [sl (a.map (T.int .u8)),G b]])/\((min e a.length:Nat):Int)<=b
def xG.tp{e:Nat}{a:List Int}{b:Nat}{c:H}(g:xG e a b c):Tp a b c:=by
 obtain⟨h,f,d,i⟩:=g;exact⟨h,f,d,D⟩
def xG.eq{e:Nat}{b:List Int}{a:Nat}{c d:H}(j:xG e b a c)(h:d.get a=c.get a):xG e b a d:=by
 obtain⟨k,i,g,f⟩:=j;exact⟨k,i,by rw[h];exact g,f⟩
def xG.le{d e:Nat}{a:List Int}{b:Nat}{c:H}(g:xG d a b c)(k:e<=d):xG e a b c:=by
 obtain⟨h,i,f,j⟩:=g;exact⟨h,i,f,D⟩
structure Nj where
 (L:List Int) (b p:Nat) (n:Int)
def Jw(a:Nj)(d:List T)(c:H):Prop:=d=[.ptr a.b 0 0 0,G a.n]/\xG a.p a.L a.b c/\iE 0 c/\1<=a.n/\a.n<=100/\okB a.L
def PB(a:Nj)(g:List T)(e:H)(f:T)(c:H):Prop:=∃d:Nat,f= G d/\(d:Int)<a.n/\xG (a.p+1) a.L a.b c/\Sm a.b e c
abbrev lK:mr:=jY Nj Jw PB
def VO:lK.Ok prog cx 77:=by
 refine jV (tb:=⟨pt [],ht []⟩) jg iT (jr 262163 [] func77) (λ_ _=>5) (λI a h A=>by obtain⟨rfl,_⟩:=A;simp[f77]) ?_;rintro⟨b,f,J,g⟩ _ h ⟨rfl,⟨i,d,e,B⟩,r,y,z,s,o⟩ K p;simp only at e B y z s o;simp at p;obtain⟨j,n⟩:=p;simp[f77,j,n,e];refine fw (λk=>?_) (λk=>?_)
 ·simp at k;simp;exact⟨0,Y,dO,⟨i,d,by rw[il,iI];exact e,dO⟩,Sm.out (Sm.refl r.hr)⟩
 ·simp at k;have E:IntKind.i64.wrap (d+1)=d+1:=by rw[<-kh];exact kr D D
  have F:IntKind.i64.wrap d=d:=by rw[<-kh];exact kr D D
  have C:Sm f (hr h) _:=(Sm.refl r.hr).put (x:=(dS 2 i [.agg [sl (b.map (T.int .u8)),G d]])) (by rw[iI];exact e) (dS 2 (i+1) [.agg [sl (b.map (T.int .u8)),G (d+1)]]);have m:(fg (hr h) f (dS 2 (i+1) [.agg [sl (b.map (T.int .u8)),G (d+1)]])).get f=_:=(ee (h:=hr h) (by rw[iI];exact e) _ f).trans (aq rfl);simp[j,e,pP,eZ,E];generalize fg (hr h) f _=H at*
  obtain⟨c,rfl⟩:∃c:Nat,d=c:=⟨d.toNat,D⟩;have q:c<b.length:=D;have t:=o b[c] (aC q);have u: -9223372036854775808<=b[c]:=D;have v:b[c]<9223372036854775808:=D;have t0:=Int.tmod_nonneg g t.1;have t1:=Int.tmod_lt_of_pos b[c] (show 0<g by omega);simp[j,n,m,tZ,F,q,u,v,Da (a:=b[c]) (show¬g=0 by omega)];have⟨l,w⟩:∃l:Nat,b[c].tmod g=l:=⟨(b[c].tmod g).toNat,D⟩;exact⟨l,by rw[w],dO,⟨_,_,by rw[il];exact m,dO⟩,Sm.out C⟩
structure vd(p:Nat)(L:List Int)(b:Nat)(h h':H):Prop where
 w:Tw L b h h'
 g:xG p L b h'
def vd.refl{d:Nat}{b:List Int}{c:Nat}{a:H}(f:iE 0 a)(e:xG d b c a):vd d b c a a:=⟨Tw.refl f e.tp,e⟩
def vd.le{e f:Nat}{a:List Int}{b:Nat}{c d:H}(h:vd e a b c d)(i:f<=e):vd f a b c d:=⟨h.w,h.g.le i⟩
theorem vd.cons{e:Nat}{a:List Int}{b:Nat}{c d:H}(w:vd e a b c d)(f:jv):vd e a b c (d.cons f):=⟨w.w.cons f,w.g.eq (by rw[ez,ao (by have:=w.w.tp.lt;omega)])⟩
theorem vd.put{h:Nat}{e:List Int}{b:Nat}{a d:H}(i:vd h e b a d){c:Nat}{x:jv}(f:d.get c=some x)(l:a.size<=c)(k:b<a.size)(j:jv):vd h e b a (fg d c j):=⟨i.w.put f l k j,i.g.eq (by rw[ee f,ao D])⟩
def vd.call{h f:Nat}{b:List Int}{a:Nat}{d e c:H}(j:vd h b a d e)(i:Sm a e c)(g:xG f b a c):vd f b a d c:=⟨j.w.call i g.tp,g⟩
def vd.cut{h:Nat}{e:List Int}{c:Nat}{a b:H}(d:vd h e c (TI.hr a) b)(p:iE 0 a)(f:c<a.size){j l:T}{i:T->H->Prop}(m:∃k,jJ b a.size j=some k/\cn k=l)
 (o:Sm c a (w8 a b)->xG h e c (w8 a b)->i l (w8 a b)):Ay a j b i:=d.w.cut p f m λq _=>o q (d.g.eq (Bw d.w.ok.hp d.w.size f))
def Te{tb:gG}{g:Nat}{e:List Int}{a:Nat}{c:H}(ht:tb.h 77=some lK)(s:xG g e a c)(n:iE 0 c)(m:okB e)(b:Int)(k:1<=b)(l:b<=100):∃(f:Nat) (d:H),hl prog cx tb 77 [.ptr a 0 0 0,G b] c=some (G f,d)/\(f:Int)<b/\xG (g+1) e a d/\Sm a c d:=by
 have i:Jw ⟨e,a,g,b⟩ [.ptr a 0 0 0,G b] c:=⟨rfl,s,n,k,l,m⟩;have⟨_,d,j,o⟩:=Hn ht VO ⟨_,i⟩;obtain⟨f,rfl,p,q,r⟩:=o _ i;exact⟨f,d,j,p,q,r⟩
def yk:List Int:=[3,3,3,3,3,4,4,4,4,4,5,5,5,6,6,6,7,7,7,8,9,10,11,12,13,14,14,15,16,16,17,17,18,18,19,20,1,1,2,21,22,23,23]
def wI:iy:=⟨Unit,λ_=>[],λ_=>True,λ_=>sl (yk.map (T.int .i64)),λ_ _ _=>rfl⟩
def VV:wI.Ok prog cx 115:=by
 refine iq [] (jr 1 [] func115) (λ_=>5) (by simp[wI]) ?_;rintro _ _ b a;simp[wI]at a|-;simp[f115,iF,yk]
def _root_.Go.TI.Xt.H8{d b:H}{f g:T}{e:Nat}{c:List T}(a:Xt d f e c g b):iE 0 b:=⟨a.2.2.2.hp,a.2.2.2.low,aw _⟩
def _root_.Go.TI.Xt.Xk{i e:H}{j k:T}{d:List Int}(c:Xt i j 1 (d.map (T.int .i64)) k e)(g:Int)(m:d.length<=1000000):∃a b,jn cx (e.cons (dS 1 0 [G g])) 38 38 k (.arr e.size 0 0 1 false)=some (.val a b)/\a.iN=true/\a.cells=[a]/\Xt i j 1 ((d++[g]).map (T.int .i64)) a b:=by
 have⟨a,b,l,h⟩:=c.1.my (cx:=cx) (f:=T.int .i64) c.H8 kx rfl mP rfl Y (λ_=>rfl) g dN;exact⟨a,b,l,h.1.iN,h.1.cells,c.trans h⟩
def A1:o9 prog cx 160 (λa:fJ=>[a.t]) (λa=>a.fN.dW.length<=1000) (λa A=>∃v:List Int,A=sl (v.map (T.int .i64))/\v.length<=a.fN.dW.length):=by
 refine jL [] (jr 134975 [] func160) (λa=>a.fN.dW.length+5) (λC b e=>by simp at e;exact fJ.inj e) ?_;rintro a hl d r;simp at r;simp[f160,r];generalize q:H.cons hE _=m;have x:m.get 0=some (dS 7 0 [a.t]):=by subst q;simp
 have o:iE 1 m:=by subst q;exact⟨Y,Y,Y⟩
 refine gu a.fN.dW.length D (λi d e=>dT d 1 (.ptr 0 0 0 0)/\dT d 8 (sl (a.fN.dW.map dZ.t))/\dT d 9 (G a.fN.dW.length)/\dT d 10 (G i)/\∃(l:T) (f:List Int),dT d 3 l/\Xt m dR 1 (f.map (T.int .i64)) l e/\f.length<=i) ?_ ?_ D ⟨Y,Y,Y,Y,dR,[],Y,Xt.refl (Gr.nil _ _) ⟨o.hp,o.low,aw _⟩,au _⟩
 ·rintro i d e z s ⟨n,k,h,g,l,f,j,c,u⟩;have M:=o.sz;have E:=(c.2.1 0 D Y).trans x;have w:iE 1 e:=⟨c.2.2.2.hp,c.2.2.2.low,by have:=c.2.2.2.sz;omega⟩;have I:=w.ne (b:=0) D;simp[k,h,g,z,w.low];refine fw (λy=>?_) (λy=>?_)
  ·have⟨L,F,p,J,K,B⟩:=(c.cons (dS 3 1 [a.fN.dW[i].t])).Xk i D;rw[size_cons]at p;simp[n,j,k,h,g,s,p];exact⟨_,B,dN⟩
  ·simp[n,j,k,h,g,s];exact⟨_,c.cons _,D⟩
 ·rintro d e ⟨n,k,h,g,l,f,j,c,u⟩;simp[j,h,g,c.1.iN,c.1.qC Y,c.2.2.2.hp];exact⟨f,rfl,u⟩
structure C5 where
 (L:List Int) (b p:Nat) (v:T) (ns:List Int)
def wM(a:C5)(d:List T)(c:H):Prop:=d=[.ptr a.b 0 0 0,a.v]/\Gr c a.v 1 (a.ns.map (T.int .i64))/\eG a.v≠some a.b/\xG a.p a.L a.b c/\iE 0 c/\okB a.L/\a.ns.length<=1000
def v8(a:C5)(g:List T)(e:H)(f:T)(c:H):Prop:=∃d:List Int,f=sl (d.map (T.int .i64))/\d.length<=a.ns.length/\xG a.p a.L a.b c/\Sm a.b e c
def vd.xt{m:Nat}{k:List Int}{b:Nat}{c e f:H}{n t:T}{s:Nat}{o:List T}(d:vd m k b c e)(j:Xt e n s o t f)(q:∀a,eG n=some a->c.size<=a)(l:b<c.size):vd m k b c f:=by
 have u:=d.w.size;have i:∀a,a<c.size->f.get a=e.get a:=λa h=>j.2.1 a D λr=>by have:=q a r;omega
 exact⟨⟨j.H8,by have:=j.2.2.2.sz;omega,λa h p=>(i a h).trans (d.w.get a h p),d.w.tp.eq (i b l)⟩,d.g.eq (i b l)⟩
def _root_.Go.TI.FT.agX{c:H}{o:Nat->Prop}{g p:Nat}(l:p<=12)(s:∀a,o a->g<=a){b n:T}(ft:FT c o p b n)(r:∀i,b≠ .agg i)(w:∀i,b≠ .tuple i):∃k,jJ c g b=some k/\cn k=n:=by
 have q:=(ft.deep l).fzN s;have u:(Z (jk c 0 b) λb=>some (cn b))=some n:=(ft.deep l).fz;have v:jJ c g b=jk c 0 b:=by
  rcases ft.deep l with⟨z,m,rfl⟩|⟨a,d,h,f,e,C,E,rfl,y,F,x,rfl⟩|⟨i,B,rfl,x,rfl⟩
  ·cases b<;>first|exact(r _ rfl).elim|exact q|(simp[kE]at z)|exact(w _ rfl).elim
  ·have m:∀j,jk c j (.arr a d h f e)=(Bool.casesOn (Nat.ble j a) (some (.arr a d h f e)) (TI.freeze c j 12 (.arr a d h f e)):aa T):=λj=>rfl;show jk c g (.arr a d h f e)=jk c 0 (.arr a d h f e);rw[m,m,show Nat.ble g a=true from cq (s a y),show Nat.ble 0 a=true from cq (aw a),q]
  ·exact absurd rfl (r _)
 rw[<-v]at u;have⟨k,A,t⟩:=dX.1 u;simp only[ar]at t;exact⟨k,A,t⟩
def yV{c g h:Type}{d:g->h->Prop}{e:c->g}{f:c->h}{a:List c}(i:∀b,d (e b) (f b)):jh d (a.map e) (a.map f):=by
 induction a with
 |nil=>exact .nil
 |cons b a j=>exact .cons (i b) j
def _root_.Go.TI.Gr.adf{l:Type}{a:l->T}{b:H}{h:T}{s g d:Nat}{j:List l}(f:Gr b h s (j.map a))(v:d<=11)(q:∀i,eG h=some i->g<=i)(p:∀c b V,FT b V d (a c) (a c)):∃k,jJ b g h=some k/\cn k=sl (j.map a):=
 (f.ft (V:=λe=>g<=e) (d:=d) q (yV λc=>p c _ _)).agX D (λ_ r=>r) (λm=>by rcases f with⟨rfl,_⟩|⟨e,n,t,o,u,rfl,_⟩<;>simp) (λm=>by rcases f with⟨rfl,_⟩|⟨e,n,t,o,u,rfl,_⟩<;>simp)
def ZJ:(jY C5 wM v8).Ok prog cx 118:=by
 refine ta (tb:=⟨pt [],ht [(77,lK)]⟩) jg iT (jr 16781299 [] func118) (λ_ _=>1005) (λi a o aN=>by obtain⟨rfl,_⟩:=aN;simp[f118]) ?_;rintro⟨W,r,S,F,y⟩ _ o ⟨rfl,v,Q,E,R,M,hl⟩ e N;simp only at v Q E M hl;simp at N;obtain⟨h,f⟩:=N;have O:=E.tp.lt;simp[f118,f,v.len];refine gu y.length D (λi e s=>dT e 0 (.ptr r 0 0 0)/\dT e 1 F/\dT e 8 F/\dT e 9 (G y.length)/\dT e 10 (G i)/\vd S W r (TI.hr o) s/\∃(l:T) (n:List Int),dT e 5 l/\Gr s l 1 (n.map (T.int .i64))/\(∀b,eG l=some b->o.size<=b)/\n.length<=i) ?_ ?_ D ⟨by simp[h],by simp[f],Y,Y,Y,vd.refl R.hr (E.eq (iI o r)),_,[],Y,Gr.nil _ _,Y,au _⟩
 ·rintro i e s P C ⟨h,f,u,q,p,m,l,n,t,go,j,aA⟩;have L:Gr s F 1 (y.map (T.int .i64)):=v.mono λb c=>by
   have⟨_,_,_,_,z,_⟩:=v.box c;exact(m.w.get b (H.fG z) λB=>Q (by rw[<-B];exact c)).trans (iI o b)
  have⟨a7,a8,bB,bi,bC,_,ae,an,J⟩:=L.Bf (te:=D3) rfl (i:=i) (by simpa using P);have Z:binop .add (G (i:Int)) (G 3)=some (G ((i:Int)+3)):=iZ D D;simp at J;simp[h,f,u,q,p,P,ae,an,J,Z,L.len];have⟨k,ap,al,bp,t2,U⟩:=Te (tb:=⟨pt [],ht [(77,lK)]⟩) Y m.g m.w.ok M 2 D D;refine abi (λc=>?_) (λc=>?_)
  ·simp[al,c];refine⟨_,_,⟨rfl,rfl⟩,?_⟩;have A:=(m.call U t2).le (Nat.le_succ S);have aE:eG l≠some r:=λz=>by have:=j r z;omega
   have K:Gr ap l 1 (n.map (T.int .i64)):=go.mono λb c=>U.get b λB=>aE (by rw[<-B];exact c);simp;refine fw (λav=>?_) (λav=>?_)
   ·have⟨bA,bn,X,bs,bu,I⟩:=(Xt.refl K A.w.ok).Xk y[i] D;simp[h,f,t,u,q,p,X,C];exact⟨A.xt I j O,_,I.1,λb c=>(I.2.2.1 b c).elim (j b) λz=>by have:=A.w.size;simp at this;omega,dN⟩
   ·simp[h,f,t,u,q,p,C];exact⟨A,_,K,j,D⟩
  ·simp[c];refine⟨_,_,⟨rfl,rfl⟩,?_⟩;simp[h,f,t,u,q,p,C];exact⟨m,_,go,j,D⟩
 ·rintro e s ⟨h,f,u,q,p,m,l,n,t,go,j,aA⟩;simp[t,q,p];exact m.cut R O (go.adf (d:=1) D j λx o V=>iC ..) λaX a6=>⟨n,rfl,dO,a6,aX⟩
structure Xw where
 (L:List Int) (b p:Nat) (x0 x1 x2 x3 x4 x5 v:T) (K:List Int)
def r6(a:Xw)(d:List T)(c:H):Prop:=d=[.ptr a.b 0 0 0,.agg [a.x0,a.x1,a.x2,a.x3,a.x4,a.x5,a.v]]/\xG a.p a.L a.b c/\iE 0 c/\okB a.L/\a.K.length<=98/\Gr c a.v 1 (a.K.map (T.int .i64))/\eG a.v≠some a.b/\(T.agg [a.x0,a.x1,a.x2,a.x3,a.x4,a.x5,a.v]).iN=true
def pS(a:Xw)(g:List T)(e:H)(f:T)(d:H):Prop:=∃c:Int,f= G c/\-1<=c/\c<a.K.length/\xG a.p a.L a.b d/\Sm a.b e d
def yr{g:Nat}{d:List Int}{c:Nat}{a b:H}(l:vd g d c (TI.hr a) b)(k:iE 0 a)(i:c<a.size){e:ak}{f:Int}{h:T->H->Prop}
 (j:Sm c a (w8 a b)->xG g d c (w8 a b)->h (.int e f) (w8 a b)):Ay a (.int e f) b h:=l.cut k i ⟨_,rfl,rfl⟩ j
def NQ:(jY Xw r6 pS).Ok prog cx 78:=by
 refine ta (tb:=⟨pt [],ht [(77,lK)]⟩) jg iT (jr 4194363 [] func78) (λ_ _=>5) (λi a c ap=>by obtain⟨rfl,_⟩:=ap;simp[f78]) ?_;rintro⟨Q,j,N,p,r,s,t,u,v,k,b⟩ _ c ⟨rfl,n,M,F,hl,e,L,l⟩ bs I;simp only at n F hl e L l;simp at I;obtain⟨B,C⟩:=I;have X:=n.tp.lt;have a8:(j=c.size)=False:=dN;have o:=(vd.refl M.hr (n.eq (iI c j))).cons (dS 7 0 [.agg [p,r,s,t,u,v,k]]);have⟨d,E,z,bi,t2,O⟩:=Te (tb:=⟨pt [],ht [(77,lK)]⟩) Y o.g o.w.ok F (b.length+2) D D;have P:=(o.call O t2).le (Nat.le_succ N);have U:=(O.get c.size D).trans (by rw[ez,pB,aq rfl]);have x:binop .add (G (b.length:Int)) (G 2)=some (G ((b.length:Int)+2)):=iZ D D;have fin:∀h:Int,-1<=h->h<b.length->Ay c (G h) E (pS ⟨Q,j,N,p,r,s,t,u,v,k,b⟩ [.ptr j 0 0 0,.agg [p,r,s,t,u,v,k]] c):=λh av aA=>yr P M X λaE aN=>⟨h,rfl,av,aA,aN,aE⟩;have bn:=e.cells;have K:=e.len (cx:=cx);by_cases ae:(d:Int)-2<0
 ·have m:binop .sub (G (d:Int)) (G 2)=some (G ((d:Int)-2)):=GI rfl D D;simp[f78,B,C,x,z,m,ae,l,K];exact fin _ D D
 have⟨f,an⟩:∃f:Nat,(d:Int)-2=f:=⟨d-2,D⟩;have m:binop .sub (G (d:Int)) (G 2)=some (G (f:Int)):=GI an D D;have al:f<b.length:=D;have W:Gr E k 1 (b.map (T.int .i64)):=e.mono λy J=>by
  have⟨_,_,_,_,q,_⟩:=e.box J;have:=H.fG q;exact(P.w.get y (by simpa using this) λR=>L (by rw[<-R];exact J)).trans (iI c y)
 have⟨aX,a6,bp,a7,bu,_,S,V,A⟩:=W.Bf (te:=D3) rfl (i:=f) (by simpa using al);simp at A;simp[f78,B,C,x,z,m,U,l,K,S,V,A];refine fw (λZ=>?_) (λZ=>?_)
 ·simp;exact fin _ D D
 ·simp;exact fin _ D D 
def vd.next{tb:gG}{k:Nat}{e:List Int}{c:Nat}{j f:H}(i:vd k e c j f)(ht:tb.h 77=some lK)(o:okB e)(b:Int)(n:1<=b)(a:b<=100):
 ∃(d:Nat) (a:H),hl prog cx tb 77 [.ptr c 0 0 0,G b] f=some (G d,a)/\(d:Int)<b/\vd (k+1) e c j a/\Sm c f a:=by
 obtain⟨d,a,m,p,t2,l⟩:=Te ht i.g i.w.ok o b n a;exact⟨d,a,m,p,i.call l t2,l⟩
structure Li where
 (L:List Int) (b p:Nat) (k t:Int)
def B1(a:Li)(d:List T)(c:H):Prop:=d=[.ptr a.b 0 0 0,G a.k,G a.t]/\xG a.p a.L a.b c/\iE 0 c/\okB a.L/\0<=a.t/\a.t<4/\1<=a.k/\a.k<=23
def uW(a:Li)(g:List T)(e:H)(f:T)(d:H):Prop:=∃c:Int,f= G c/\-1<=c/\(a.k=3\/a.k=4->0<=c/\c<5)/\xG a.p a.L a.b d/\Sm a.b e d
def adN:(jY Li B1 uW).Ok prog cx 116:=by
 refine ta (tb:=⟨pt [],ht [(77,lK)]⟩) jg iT (jr 8659206599 [] func116) (λ_ _=>5) (λR a e K=>by obtain⟨rfl,_⟩:=K;simp[f116]) ?_;rintro⟨m,b,j,c,f⟩ _ e ⟨rfl,v,q,x,L,M,I,J⟩ S y;simp only at v x L M I J;simp at y;obtain⟨p,n,F⟩:=y;have z:=v.tp.lt;have g:=vd.refl q.hr (v.eq (iI e b));have o:=λ{i:H} (g:vd j m b (TI.hr e) i)=>g.next (tb:=⟨pt [],ht [(77,lK)]⟩) Y x;have fin:∀(i:H) (d:Int),vd (j+1) m b (TI.hr e) i->-1<=d->(c=3\/c=4->0<=d/\d<5)->Ay e (G d) i (uW ⟨m,b,j,c,f⟩ [.ptr b 0 0 0,G c,G f] e):=λi d g r Q=>yr (g.le (Nat.le_succ j)) q z λs u=>⟨d,rfl,r,Q,u,s⟩;by_cases B:c=3\/c=4
 ·obtain⟨k,C,h,A,l,t⟩:=o (g.cons (dS 1 0 [G 0,G 0,G 0,G 1,G 1,G 2,G 3,G 4])) 8 D D;have w:=(t.get e.size D).trans (by rw[ez,pB,aq rfl]);rcases B with rfl|rfl<;>simp[f116,p,n,h,w]<;>rcases(by omega:k=0\/k=1\/k=2\/k=3\/k=4\/k=5\/k=6\/k=7)with rfl|rfl|rfl|rfl|rfl|rfl|rfl|rfl<;>simp[w]<;>exact fin _ _ l D D
 by_cases O:c=6\/c=7
 ·obtain⟨k,C,h,A,l,t⟩:=o g 2 D D;rcases O with rfl|rfl<;>simp[f116,p,n,h]<;>exact fin _ _ l D D
 by_cases N:c=20\/c=21
 ·obtain⟨k,C,h,A,l,t⟩:=o g 3 D D;have a1:binop .add (G f) (G 1)=some (G (f+1)):=BF rfl D D;have a2:binop .add (G (f+1)) (G (k:Int))=some (G (f+1+k)):=BF rfl D D;have a3:=Da (k:= .i64) (a:=f+1+k) (b:=4) D;have t0:=Int.tmod_nonneg 4 (show 0<=f+1+k by omega);rcases N with rfl|rfl<;>simp[f116,p,n,F,h,a1,a2,a3]<;>exact fin _ _ l D D
 have E:∀d:Int,-1<=d->Ay e (G d) (TI.hr e) (uW ⟨m,b,j,c,f⟩ [.ptr b 0 0 0,G c,G f] e):=λd r=>yr g q z λs u=>⟨d,rfl,r,λP=>(B P).elim,u,s⟩;rcases(by omega:c=1\/c=2\/c=5\/c=8\/c=9\/c=10\/c=11\/c=12\/c=13\/c=14\/c=15\/c=16\/c=17\/c=18\/c=19\/c=22\/c=23)with rfl|rfl|rfl|rfl|rfl|rfl|rfl|rfl|rfl|rfl|rfl|rfl|rfl|rfl|rfl|rfl|rfl<;>simp[f116,n]<;>exact E _ D 
structure Lg where
 (L:List Int) (b p:Nat) (s:fJ) (k o:Int)
def B0(a:Lg)(d:List T)(c:H):Prop:=d=[.ptr a.b 0 0 0,a.s.t,G a.k,G a.o]/\xG a.p a.L a.b c/\iE 0 c/\okB a.L/\(a.k=3->0<=a.o/\a.o<a.s.cells.length)/\1<=a.s.fa.length/\a.s.fN.dW.length<=98
def uV(a:Lg)(g:List T)(d:H)(e:T)(c:H):Prop:=∃f:Int,e= G f/\xG a.p a.L a.b c/\Sm a.b d c
def aaS{tb:gG}(ht:tb.p 160=some A1.jX){s:fJ}(c:s.fN.dW.length<=1000):∃a:List Int,a.length<=s.fN.dW.length/\rl prog cx tb 160 [s.t]=some (sl (a.map (T.int .i64))):=by
 obtain⟨_,⟨a,rfl,hl⟩,b⟩:=A1.use s c;exact⟨a,hl,b ht⟩
def adI:(jY Lg B0 uV).Ok prog cx 117:=by
 refine ta (tb:=⟨pt [(160,A1.jX)],ht [(77,lK)]⟩) jg iT (jr 141296388017967 [] func117) (λ_ _=>5) (λi a c Z=>by obtain⟨rfl,_⟩:=Z;simp[f117]) ?_;rintro⟨p,d,n,s,b,g⟩ _ c ⟨rfl,C,z,F,v,U,ae⟩ aA I;simp only at C F v U ae;simp at I;obtain⟨u,k,l,T⟩:=I;have J:=C.tp.lt;have o:=(vd.refl z.hr (C.eq (iI c d))).cons (dS 7 0 [s.t]);have q:=o.next (tb:=⟨pt [(160,A1.jX)],ht [(77,lK)]⟩) Y F;have j:∀e:Int,Ay c (G e) _ (uV ⟨p,d,n,s,b,g⟩ [.ptr d 0 0 0,s.t,G b,G g] c):=λe=>yr o z J λA B=>⟨e,rfl,B,A⟩;have fin:∀(r:H) (e:Int),vd (n+1) p d (TI.hr c) r->Ay c (G e) r (uV ⟨p,d,n,s,b,g⟩ [.ptr d 0 0 0,s.t,G b,G g] c):=λr e o=>yr (o.le (Nat.le_succ n)) z J λA B=>⟨e,rfl,B,A⟩;have av:(d=c.size)=False:=dN;by_cases x:b=3
 ·obtain⟨y,W⟩:∃y:Nat,g=y:=⟨g.toNat,by have:=v x;omega⟩;have X:y<s.cells.length:=by have:=v x;omega
  subst x;subst W;simp[f117,k,l,T,X];exact j _
 by_cases al:b=23
 ·subst al;simp[f117,k,l,show 0<s.fa.length by omega];exact j _
 by_cases an:b=4\/b=22
 ·obtain⟨w,N,h,K,m,M⟩:=q 3 D D;rcases an with rfl|rfl<;>simp[f117,u,k,l,h]<;>exact fin _ _ m
 by_cases ap:b=5
 ·obtain⟨w,N,h,K,m,M⟩:=q 2 D D;subst ap;simp[f117,u,k,l,h];exact fin _ _ m
 have Q:decide (b=3)=false:=aO D;have P:decide (b=23)=false:=aO D;have R:decide (b=4)=false:=aO D;have O:decide (b=22)=false:=aO D;have S:decide (b=5)=false:=aO D;obtain⟨L,hl,E⟩:=aaS (tb:=⟨pt [(160,A1.jX)],ht [(77,lK)]⟩) Y (s:=s) D;simp[f117,k,l,Q,P,R,O,S];refine fw (λf=>?_) (λf=>?_)
 ·simp[E];refine fw (λf=>?_) (λf=>?_)
  ·obtain⟨w,N,h,K,m,M⟩:=q L.length (by simp at f;omega) D;have V:w<L.length:=D;simp[u,h,V];exact fin _ _ m
  ·simp;exact j _
 simp;refine fw (λf=>?_) (λf=>?_)
 ·simp[E];exact j _
 ·simp;exact j _
section
def _root_.Go.TI.nS.copy{h a:H}{i w0 g q k:Nat}{c:List (T×aa (Nat×List T))}(f:nS h i g q c)(p:iE 0 a)(n:a.get w0=some (dS g k [.agg (c.map (·.1))]))(o:∀e,Fp h i e->a.get e=h.get e):nS a w0 g k c:=by
 refine⟨p,n,λl j=>?_,f.YI⟩;have:=f.Wp l j;unfold Fld at this|-;split at this
 ·exact this
 ·exact⟨this.1.mono λb m=>o b (f.DG j m),this.2⟩
structure C6 where
 (ver:Nat) (tx:Int) (c:Nat->T) (E:Nat->List T)
def C6.F(d:C6):List (T×aa (Nat×List T)):=[(d.c 0,some (2,d.E 0)),(G d.tx,none),(d.c 2,some (1,d.E 2)),(d.c 3,some (3,d.E 3)),(d.c 4,some (1,d.E 4)),(d.c 5,some (1,d.E 5)),(d.c 6,some (1,d.E 6))]
def C6.Rj(d:C6)(f:Nat)(e:List T):C6:=⟨d.ver,d.tx,d.c,λa=>if a=f then e else d.E a⟩
def bgN(a:Nat):Nat:=if a=0 then 3 else if a=3\/a=6 then 4 else if a=4 then 5 else 1
def bgZ(a:Nat):Nat:=if a=0 then 2 else if a=3 then 3 else 1
def RvP(h:H)(w0:Nat)(y:H)(e:T):Prop:=e= dR\/∃(a:Nat) (c:Int),e= .arr a 0 0 1 false/\y.get a=some (dS 1 0 [G c])/\0<=c/\c<4/\¬Fp y w0 a/\h.size<=a
def Xh(h:H)(w0:Nat)(y:H)(c:Nat)(a:T):Prop:=
 if c=0 then∃(g:Int) (f:T),a= .agg [G g,f]/\RvP h w0 y f
 else if c=2 then∃b,a= .bool b
 else if c=3 then∃i:dZ,a=i.t
 else∃e:Int,a= G e/\(c=6->0<=e/\e<=4)
structure BM(L:List Int)(b:Nat)(h:H)(w0:Nat)(d:C6)(y:H):Prop where
 s:nS y w0 7 d.ver d.F
 tw:vd 0 L b (TI.hr h) y
 fp:∀c,Fp y w0 c->h.size+2<=c
 rb:y.get (h.size+1)=some oX
 ln:∀k,(d.E k).length=bgN k
 pr:∀k,∀e∈d.E k,Xh h w0 y k e
variable {L:List Int}{b:Nat}{h y y2:H}{w0:Nat}{d:C6}
def BM.QR(a:BM L b h w0 d y):h.size+2<=y.size:=by have:=a.fp w0 (.inl rfl);have:=a.s.lt;omega
def BM.nfr(a:BM L b h w0 d y):¬Fp y w0 (h.size+1):=λc=>by have:=a.fp _ c;omega
def RvP.step{f:T}(p:RvP h w0 y f)(l:∀a,h.size<=a->a<y.size->¬Fp y w0 a->y2.get a=y.get a/\¬Fp y2 w0 a):RvP h w0 y2 f:=by
 rcases p with o|⟨g,q,rfl,c,i,j,k,e⟩
 ·exact .inl o
 ·have⟨m,n⟩:=l g e (H.fG c) k;exact .inr ⟨g,q,rfl,m.trans c,i,j,n,e⟩
def Xh.step{g:Nat}{f:T}(c:Xh h w0 y g f)(i:∀a,h.size<=a->a<y.size->¬Fp y w0 a->y2.get a=y.get a/\¬Fp y2 w0 a):Xh h w0 y2 g f:=by
 unfold Xh at c|-;split
 ·rename_i e;rw[aq e]at c;obtain⟨j,m,k,l⟩:=c;exact⟨j,m,k,l.step i⟩
 ·rename_i e;rw[ao e]at c;exact c
def H9(e:Step w0 y y2):∀a,h.size<=a->a<y.size->¬Fp y w0 a->y2.get a=y.get a/\¬Fp y2 w0 a:=λa _ f c=>⟨e.get a f c,λg=>(e.fp a g).elim c λi=>by omega⟩
def BM.tape(c:BM L b h w0 d y)(e:Sm b y y2)(n:xG 0 L b y2)(q:b<h.size):BM L b h w0 d y2:=by
 have i:∀a,Fp y w0 a->a≠b:=λa f j=>by have:=c.fp a f;omega
 have g:=λa=>jt (e.get w0 (i w0 (.inl rfl))) a;exact⟨e.iD c.s λj=>i b j rfl,c.tw.call e n,λa f=>c.fp a (by rw[g]at f;exact f),(e.get _ D).trans c.rb,c.ln,λm o l=>(c.pr m o l).step λa p _ k=>⟨e.get a D,by rw[g];exact k⟩⟩
theorem BM.cons(a:BM L b h w0 d y)(c:jv):BM L b h w0 d (y.cons c):=by
 have e:=Step.cons a.s.ok a.s.lt c;exact⟨a.s.cons c,a.tw.cons c,λf i=>(e.fp f i).elim (a.fp f) λl=>by have:=a.QR;omega,(e.get _ (by have:=a.QR;omega) a.nfr).trans a.rb,a.ln,λk g j=>(a.pr k g j).step (H9 e)⟩
def BM.st(e:BM L b h w0 d y)(z:b<h.size)(a:Nat)(u:d.F[a]? =some (d.c a,some (bgZ a,d.E a))){k p v:Nat}{q:Bool}{w:List T}(r:eG (d.c a)=some k)(t:y.get k=some ⟨bgZ a,p,v,q,false,w⟩)(i:Nat)(g:T)
 (x:(d.Rj a ((d.E a).set i g)).F=d.F.set a (d.c a,some (bgZ a,(d.E a).set i g))) (C:Xh h w0 y a g):BM L b h w0 (d.Rj a ((d.E a).set i g)) (fg y k ⟨bgZ a,p,v+1,q,false,w.set i g⟩):=by
 obtain⟨n,sl⟩:=e.s.elem a u r t i g;have B:=e.s.DG (ay u) r;refine⟨by rw[x];exact sl,e.tw.put t (by have:=e.fp k B;simp;omega) (by simpa using z) _,λo A=>(n.fp o A).elim (e.fp o) λl=>by have:=e.QR;omega,(n.get _ (by have:=e.QR;omega) e.nfr).trans e.rb,λf=>?_,λf m j=>?_⟩
 ·show(if f=a then _ else _:List T).length=_;split
  ·rename_i l;subst l;rw[dc];exact e.ln f
  ·exact e.ln f
 ·have j:m∈(if f=a then(d.E a).set i g else d.E f):=j;refine Xh.step ?_ (H9 n);split at j
  ·rename_i l;subst l;rcases cE j with I|rfl
   ·exact e.pr _ m I
   ·exact C
  ·exact e.pr f m j
def BM.tx(a:BM L b h w0 d y)(j:b<h.size)(e:Int):BM L b h w0 ⟨d.ver+1,e,d.c,d.E⟩ (fg y w0 ⟨7,0,d.ver+1,true,false,[.agg [d.c 0,G e,d.c 2,d.c 3,d.c 4,d.c 5,d.c 6]]⟩):=by
 have⟨f,sl⟩:=a.s.ag3 1 (v':= G e) Y ⟨_,rfl⟩ _ rfl;exact⟨sl,a.tw.put a.s.get (by have:=a.fp w0 (.inl rfl);simp;omega) (by simpa using j) _,λg k=>(f.fp g k).elim (a.fp g) λn=>by have:=a.QR;omega,(f.get _ (by have:=a.QR;omega) a.nfr).trans a.rb,a.ln,λm i l=>(a.pr m i l).step (H9 f)⟩
def wS{i:Type}{f:i->T}{P:i->Prop}:∀{e:List T},(∀c∈e,∃a,c=f a/\P a)->∃g:List i,e=g.map f/\∀a∈g,P a:=by
 intro e;induction e with
 |nil=>intro _;exact⟨[],rfl,Y⟩
 |cons c e m=>
  intro h;obtain⟨a,rfl,l⟩:=h c Y;obtain⟨g,rfl,j⟩:=m λc k=>h c (by simp[k]);exact⟨a::g,rfl,by simpa[l]using j⟩
def BM.ld(i:BM L b h w0 d y)(a:Nat)(r:d.F[a]? =some (d.c a,some (bgZ a,d.E a))){te:Ty}(u:te.size=bgZ a){j:Nat}(t:j<bgN a):∃e f l k g m,eG (d.c a)=some e/\lM y te (d.c a) j=some (.val (.ptr e f j 0) y)/\y.get e=some ⟨bgZ a,f,l,k,false,g⟩/\g[j]? =some m/\Xh h w0 y a m:=by
 have hE:j<(d.E a).length:=by rw[i.ln];exact t
 have⟨e,f,l,k,g,q,n,p,o⟩:=(i.s.gr a r).Bf (te:=te) u (i:=j) hE;exact⟨e,f,l,k,g,_,q,n,p,o,i.pr a _ (aC hE)⟩
end
section
attribute [-simp] size_cons
structure IBg where
 (L:List Int) (b:Nat)
def Yo(a:IBg)(d:List T)(c:H):Prop:=d=[.ptr a.b 0 0 0,jR.t]/\xG 0 a.L a.b c/\iE 0 c/\okB a.L
structure I6(s:fJ):Prop where
 n:s.fN.fj.length=3/\s.fN.done.length=1/\s.fN.dW.length=4/\s.cells.length=5/\s.fa.length=1/\s.count.length=4
 c:∀c∈s.count,0<=c/\c<=4
 r:∀l∈s.fN.fj,l.fF.length<=1/\∀x∈l.fF,0<=x/\x<4
def LY(a:IBg)(g:List T)(e:H)(f:T)(c:H):Prop:=∃d:fJ,f=d.t/\I6 d/\xG 0 a.L a.b c/\Sm a.b e c
def UD{e:Type}{f:e->T}{R:T->T->Prop}{P:e->Prop}:∀{c:List T},(∀b∈c,∃a,R b (f a)/\P a)->∃d:List e,jh R c (d.map f)/\∀a∈d,P a:=by
 intro c;induction c with
 |nil=>intro _;exact⟨[],.nil,Y⟩
 |cons b c k=>
  intro g;have⟨a,hr,j⟩:=g b Y;have⟨d,hl,h⟩:=k λb i=>g b (by simp[i]);exact⟨a::d,.cons hr hl,by simpa[j]using h⟩
def BM.fin{w:List Int}{p:Nat}{g n:H}{bB:Nat}{d:C6}(b:BM w p g bB d n)(bp:iE 0 g)(J:p<g.size)(k:jv)(ap:List T):Ay g (.agg [d.c 0,G d.tx,d.c 2,d.c 3,d.c 4,d.c 5,d.c 6]) (fg n (g.size+1) k) (LY ⟨w,p⟩ ap g):=by
 have I:=λe=>ee b.rb k e;have l:∀(f u:Nat),d.F[f]? =some (d.c f,some (u,d.E f))->Gr (fg n (g.size+1) k) (d.c f) u (d.E f)/\∀e,eG (d.c f)=some e->g.size<=e:=λf u L=>by
  have C:=λe (o:eG (d.c f)=some e)=>b.fp e (b.s.DG (ay L) o);exact⟨(b.s.gr f L).mono λe o=>by rw[I,ao (by have:=C e o;omega)],λe o=>by have:=C e o;omega⟩
 obtain⟨al,a0,p0⟩:=UD (f:=em.t) (R:=FT (fg n (g.size+1) k) (λe=>g.size<=e) 3) (P:=λm=>m.fF.length<=1/\∀a∈m.fF,0<=a/\a<4) λi j=>by
  obtain⟨W,bT,rfl,a8⟩:=b.pr 0 i j;rcases a8 with rfl|⟨a,v,rfl,r,bC,bH,bN,bS⟩
  ·exact⟨⟨W,[]⟩,.inr (.inr ⟨_,_,rfl,.cons (iC ..) (.cons (jS ..) .nil),rfl⟩),Y⟩
  ·have bi:a≠g.size+1:=λh=>by rw[h,b.rb]at r;simp[oX]at r
   have a7:Gr (fg n (g.size+1) k) (.arr a 0 0 1 false) 1 ([v].map (T.int .i64)):= .inr ⟨a,0,0,true,[G v],rfl,by rw[I,ao bi];exact r,rfl⟩;exact⟨⟨W,[v]⟩,.inr (.inr ⟨_,_,rfl,.cons (iC ..) (.cons (a7.ft (d:=1) (λe h=>by simp at h;omega) (.cons (iC ..) .nil)) .nil),rfl⟩),dN⟩
 obtain⟨Z,x,_⟩:=wS (f:=T.bool) (P:=λ_=>True) λi j=>by
  have⟨a,h⟩:=b.pr 2 i j;exact⟨a,h,trivial⟩
 obtain⟨an,y,_⟩:=wS (f:=dZ.t) (P:=λ_=>True) λi j=>by
  have⟨a,h⟩:=b.pr 3 i j;exact⟨a,h,trivial⟩
 obtain⟨X,z,_⟩:=wS (f:=T.int .i64) (P:=λ_=>True) λi j=>by
  have⟨a,h,_⟩:=b.pr 4 i j;exact⟨a,h,trivial⟩
 obtain⟨ae,A,_⟩:=wS (f:=T.int .i64) (P:=λ_=>True) λi j=>by
  have⟨a,h,_⟩:=b.pr 5 i j;exact⟨a,h,trivial⟩
 obtain⟨K,B,p6⟩:=wS (f:=T.int .i64) (P:=λU=>0<=U/\U<=4) λi j=>by
  have⟨a,h,bs⟩:=b.pr 6 i j;exact⟨a,h,bs rfl⟩
 have l0:=b.ln 0;have l2:=b.ln 2;have l3:=b.ln 3;have l4:=b.ln 4;have l5:=b.ln 5;have l6:=b.ln 6;have lk:=a0.length;rw[x]at l2;rw[y]at l3;rw[z]at l4;rw[A]at l5;rw[B]at l6;simp[bgN]at l0 l2 l3 l4 l5 l6 lk;have⟨bn,av⟩:=l 0 2 rfl;have⟨M,aA⟩:=l 2 1 rfl;have⟨N,aE⟩:=l 3 3 rfl;have⟨O,aN⟩:=l 4 1 rfl;have⟨Q,aX⟩:=l 5 1 rfl;have⟨S,a6⟩:=l 6 1 rfl;rw[x]at M;rw[y]at N;rw[z]at O;rw[A]at Q;rw[B]at S;have q:∀m:List Int,jh (FT (fg n (g.size+1) k) (λe=>g.size<=e) 3) (m.map (T.int .i64)) (m.map (T.int .i64)):=λm=>yV λa=>iC ..;exact(b.tw.put b.rb Y (by simpa using J) k).cut bp J (FT.top (V:=λe=>g.size<=e) (d:=4) D (λ_ h=>h) (.cons (bn.ft av a0) (.cons (iC ..) (.cons (M.ft aA (yV λa=>OW ..)) (.cons (N.ft aE (yV λa=> .inr (.inr ⟨a.cs,a.cs,rfl,.cons (iC ..) (.cons (iC ..) (.cons (OW ..) .nil)),rfl⟩))) (.cons (O.ft aN (q _)) (.cons (Q.ft aX (q _)) (.cons (S.ft a6 (q _)) .nil)))))))) λbu bA=>
  ⟨⟨⟨al,d.tx,Z,an⟩,X,ae,K⟩,rfl,⟨⟨dO,l2,l3,l4,l5,l6⟩,p6,p0⟩,bA,bu⟩
def ahl:(jY IBg Yo LY).Ok prog cx 38:=by
 refine ta (tb:=⟨pt [],ht [(77,lK),(41,jY fc L7 LR),(78,jY Xw r6 pS)]⟩) jg iT (jr 39027670543808336620727472465805308762228731 [(10,[(1,4)]),(11,[(2,5)]),(27,[(1,3)]),(31,[(1,4)])] func38) (λ_ _=>10) (λy a A eF=>by obtain⟨rfl,_⟩:=eF;simp[f38]) ?_;rintro⟨Z,r⟩ _ A ⟨rfl,eS,fs,bs⟩ h ff;simp only at eS bs;simp at ff;obtain⟨i,eA⟩:=ff;have I:=eS.tp.lt;have hK:(r=A.size)=False:=dN;have hL:(r=A.size+1)=False:=dN;have bB:=((vd.refl fs.hr (eS.eq (iI A r))).cons (dS 6 0 [jR.t])).cons oX;simp[f38,eA];generalize dd:((TI.hr A).cons _).cons _=X;replace bB:vd 0 Z r (TI.hr A) X:=by rw[<-dd];exact bB
 have hR:X.size=A.size+2:=by rw[<-dd];simp[size_cons]
 have fE:X.get (A.size+1)=some oX:=by rw[<-dd];simp[oX,size_cons]
 clear dd;refine jm adJ Y jR ⟨rfl,bB.w.ok,dP,dP,dP,dP⟩ ?_;rintro _ aE ⟨eV,eW,eX,e0,e4,e5,rfl,k,hN,b6,eu,dk,cb⟩;have hQ:=dk.sz;have eK:=dk.low;simp[eK,(b6.gr 6 rfl).len (cx:=cx)];have ha:∀C,Fp aE k C->C≠r:=λC W R=>by have:=eu C W;omega
 generalize bX:aE.cons _=cL;have eL:iE 0 cL:=by rw[<-bX];exact iE.cons ⟨dk.hp,eK,aw _⟩ _
 have aX:∀C,cL.get C=if C=aE.size then some (dS 7 1 [.agg [eV,G (-1),eW,eX,e0,e4,e5]])else aE.get C:=λC=>by rw[<-bX,ez]
 have fL:cL.size=aE.size+1:=by rw[<-bX,size_cons]
 clear bX;have eP:=λC (W:Fp aE k C)=>b6.fp C W;obtain⟨ec,dv⟩:∃ec,BM Z r A aE.size ec cL:=by
  refine⟨⟨1,-1,λp=>if p=0 then eV else if p=2 then eW else if p=3 then eX else if p=4 then e0 else if p=5 then e4 else e5,λp=>if p=0 then(List.replicate 3 ()).map AI else if p=2 then [false].map T.bool else if p=3 then(BR 4).map dZ.t else if p=4 then [0,1,0,0,0].map (T.int .i64)else if p=6 then(List.replicate 4 0).map (T.int .i64)else(List.replicate 1 0).map (T.int .i64)⟩,?_,⟨⟨eL,dN,λC W de=>?_,?_⟩,?_⟩,?_,?_,λp=>?_,λp e M=>?_⟩
  ·exact b6.copy eL (by rw[aX,aq rfl];rfl) λC W=>by rw[aX,ao (by have:=eP C W;omega)]
  ·have W:C<A.size:=by simpa using W
   exact(aX C).trans ((ao D).trans ((cb C D).trans (bB.w.get C (by simpa using W) de)))
  ·exact bB.w.tp.eq ((aX r).trans ((ao D).trans (cb r D)))
  ·exact bB.g.eq ((aX r).trans ((ao D).trans (cb r D)))
  ·intro C W;rcases(b6.copy eL (by rw[aX,aq rfl];rfl) λC W=>by rw[aX,ao (by have:=eP C W;omega)]:nS cL aE.size 7 1 _)with⟨_,gy,_,_⟩;rcases W with rfl|⟨x,eI,v,gV,R⟩
   ·omega
   ·rw[gy]at eI;simp only[ar]at eI;subst eI;have:=eu C (.inr ⟨_,b6.get,v,gV,R⟩);omega
  ·exact(aX _).trans ((ao D).trans ((cb _ D).trans fE))
  ·unfold bgN;by_cases cp:p=0
   ·subst cp;rfl
   by_cases bi:p=2
   ·subst bi;rfl
   by_cases cF:p=3
   ·subst cF;rfl
   by_cases fv:p=4
   ·subst fv;rfl
   by_cases fA:p=6
   ·subst fA;rfl
   simp[cp,bi,cF,fv,fA]
  ·unfold Xh;by_cases cp:p=0
   ·subst cp;simp at M;subst M;exact⟨_,_,rfl,.inl rfl⟩
   by_cases bi:p=2
   ·subst bi;simp at M;subst M;exact⟨_,rfl⟩
   by_cases cF:p=3
   ·subst cF;simp only[ao (show¬(3:Nat)=0 by decide),ao (show¬(3:Nat)=2 by decide),aq]at M|-;obtain⟨b7,_,rfl⟩:=List.mem_map.1 M;exact⟨b7,rfl⟩
   simp only[ao cp,ao bi,ao cF]at M|-;have:∃l:List Int,e∈l.map (T.int .i64)/\(p=6->l=List.replicate 4 0):=by
    split at M
    ·exact⟨_,M,λR=>by omega⟩
    split at M
    ·exact⟨_,M,λ_=>rfl⟩
    ·exact⟨_,M,λR=>by omega⟩
   obtain⟨l,hl,c9⟩:=this;obtain⟨S,de,rfl⟩:=List.mem_map.1 hl;refine⟨S,rfl,λR=>?_⟩;rw[c9 R]at de;simp at de;omega
 clear b6 eu dk cb eK ha aX fL eP bB fE;have fL:A.size+2<=aE.size:=D;generalize aE.size=J at*
 refine gu 4 D (λy h B=>(∃d,BM Z r A J d B)/\dT h 0 (.ptr r 0 0 0)/\dT h 4 (.ptr (A.size+1) 0 0 0)/\dT h 5 (.ptr J 0 0 0)/\dT h 15 (G 4)/\dT h 16 (G y)) ?_ ?_ D ⟨⟨ec,dv⟩,by simp[i,show(jR.dW.length:Int)=4 from rfl]⟩
 ·clear dv i eA;rintro y h B bH a8 ⟨⟨d,b⟩,i,q,n,an,ap⟩;have gI:(y:Int)<4:=D;obtain⟨p,b8,L,fo,bn,U⟩:=(b.cons (dS 1 0 [G 2,G 2,G 2,G 2,G 0,G 1,G 3,G 4,G 5])).tw.next (tb:=⟨pt [],ht [(77,lK),(41,jY fc L7 LR),(78,jY Xw r6 pS)]⟩) Y bs 9 D D;have hS:=b.QR;have c1:=(b.cons _).tape U (bn.g.le (aw _)) I;have e8:=(U.get B.size D).trans (by rw[ez,aq rfl]);obtain⟨fB,e7⟩:∃fB:Int,∀fo,([G 2,G 2,G 2,G 2,G 0,G 1,G 3,G 4,G 5]:List T)[p]'fo= G fB:=by
   rcases(by omega:p=0\/p=1\/p=2\/p=3\/p=4\/p=5\/p=6\/p=7\/p=8)with rfl|rfl|rfl|rfl|rfl|rfl|rfl|rfl|rfl<;>exact⟨_,λ_=>rfl⟩
  have gQ:p<9:=D;simp[i,an,ap,gI,L,e8,e7,gQ];refine kP (λh hs=>b8=hs/\(∃eR,dT h 7 (G eR))/\dT h 0 (.ptr r 0 0 0)/\dT h 4 (.ptr (A.size+1) 0 0 0)/\dT h 5 (.ptr J 0 0 0)/\dT h 6 (G y)/\dT h 15 (G 4)/\dT h 16 (G y)) (λQ=>by simp[i,q,n,an,ap]) (λQ=>by simp[i,q,n,an,ap]) ?_;clear L e8 e7 bn U i q n an ap;rintro h _ ⟨rfl,⟨eR,gz⟩,i,q,n,c9,an,ap⟩;have k:=c1.s.get;simp[C6.F]at k;obtain⟨bS,c4,dm,c6,dn,_,aN,av,O,aA,b7,rfl⟩:=c1.ld 3 rfl (te:=CD) rfl (j:=y) bH;have bA:=c1.st I 3 rfl aN O y (dZ.t ⟨eR,0,false⟩) rfl ⟨_,rfl⟩;simp[n,c9,gz,k,av,O,aA];clear c1 k av O aA aN;generalize d.Rj 3 _=ef at bA;generalize fg b8 _ _=ds at*
  refine fw (λQ=>?_) (λQ=>?_)
  ·obtain⟨bu,V,L,eE,bC,bN⟩:=bA.tw.next (tb:=⟨pt [],ht [(77,lK),(41,jY fc L7 LR),(78,jY Xw r6 pS)]⟩) Y bs 3 D D;have ae:=bA.tape bN (bC.g.le (aw _)) I;have al:=bA.s.get;have bp:=ae.s.get;simp[C6.F]at al bp;obtain⟨bS,c4,dm,c6,dn,_,aN,av,O,aA,S,rfl,_⟩:=ae.ld 6 rfl (te:=D3) rfl (j:=y) bH;have fX:binop .add (G 1) (G (bu:Int))=some (G (1+bu)):=BF rfl D D;have sv:fQ ds V J=true:=fZ (bp.trans al.symm);have N:=ae.st I 6 rfl aN O y (G (1+bu)) rfl ⟨_,rfl,λ_=>by omega⟩;generalize gB:fg V bS _=hv at N;generalize ef.Rj 6 _=hD at N;obtain⟨gZ,hy,gi,hH,fW,hg⟩:=N.tw.next (tb:=⟨pt [],ht [(77,lK),(41,jY fc L7 LR),(78,jY Xw r6 pS)]⟩) Y bs 4 D D;have ea:=N.tape hg (fW.g.le (aw _)) I;have ey:=N.s.get;have e9:=ea.s.get;simp[C6.F]at ey e9;obtain⟨hC,hF,hO,hG,hP,_,gD,gg,fb,gj,b7,rfl⟩:=ea.ld 3 rfl (te:=CD) rfl (j:=y) bH;have hh:fQ hv hy J=true:=fZ (e9.trans ey.symm);have fS:=ea.st I 3 rfl gD fb y (dZ.t ⟨b7.jf,b7.cond,decide ((gZ:Int)=3)⟩) rfl ⟨_,rfl⟩;simp[i,q,n,c9,an,ap,al,L,fX,av,O,aA,sv,gB,ey,gi,gg,fb,gj,hh,a8];exact⟨_,fS⟩
  ·simp[i,q,n,an,ap,a8];exact⟨ef,bA⟩
 clear dv i eA;rintro h B ⟨⟨d,b⟩,i,q,n,an,ap⟩;have k:=b.s.get;simp[C6.F]at k;have l0:=b.ln 0;simp[n,an,ap,k,(b.s.gr 0 rfl).len (cx:=cx),l0,bgN];refine gu 3 D (λy h B=>(∃d,BM Z r A J d B)/\dT h 0 (.ptr r 0 0 0)/\dT h 4 (.ptr (A.size+1) 0 0 0)/\dT h 5 (.ptr J 0 0 0)/\dT h 63 (G 3)/\dT h 64 (G y)) ?_ ?_ D ⟨⟨d,b⟩,by simp[i,q,n]⟩
 ·clear b k l0 i q n an ap;rintro y h B bH a8 ⟨⟨d,b⟩,i,q,n,a6,a7⟩;have gF:(y:Int)<3:=D;have k:=b.s.get;simp[C6.F]at k;simp[i,n,a6,a7,gF,k];obtain⟨K,bW,fe⟩:=wS (f:=T.int .i64) (P:=λS=>0<=S/\S<=4) λe M=>by
   obtain⟨S,eM,bi⟩:=b.pr 6 e M;exact⟨S,eM,bi rfl⟩
  have ca:K.length=4:=by rw[<-aG (f:=T.int .i64),<-bW];exact b.ln 6
  have bT:=b.s.gr 6 rfl;rw[bW]at bT;have di:eG (d.c 6)≠some r:=λR=>by have:=b.fp r (b.s.DG (f:=(d.c 6,some (1,d.E 6))) (by simp[C6.F]) R);omega
  refine jm NQ Y ⟨Z,r,0,d.c 0,G d.tx,d.c 2,d.c 3,d.c 4,d.c 5,d.c 6,K⟩ ⟨rfl,b.tw.g,b.tw.w.ok,bs,dO,bT,di,Y⟩ ?_;rintro _ b8 ⟨u,rfl,fC,eU,t1,U⟩;replace b:=b.tape U t1 I;simp only[ca]at eU;clear bT di bW ca fe k t1 U;simp;refine fw (λQ=>?_) (λQ=>?_)
  ·simp[i,q,n,a6,a7,a8];exact⟨d,b⟩
  obtain⟨m,rfl⟩:∃m:Nat,u=m:=⟨u.toNat,by simp at Q;omega⟩;have gS:m<4:=D;clear Q fC eU;by_cases gE:y=2
  ·subst gE;have e6:binop .add (G 2) (G 1)=some (G 3):=by simpa using a8
   obtain⟨bu,V,L,eE,bC,bN⟩:=b.tw.next (tb:=⟨pt [],ht [(77,lK),(41,jY fc L7 LR),(78,jY Xw r6 pS)]⟩) Y bs 2 D D;replace b:=b.tape bN (bC.g.le (aw _)) I;simp[i,L];have eb:=b.cons (dS 1 0 [G m]);obtain⟨bS,c4,dm,c6,dn,_,aN,av,O,aA,o,eO,rfl,eH⟩:=b.ld 0 rfl (te:=Q6) rfl (j:=2) dP;obtain⟨fY,gk,hj,gn,ho,_,fi,eh,c7,er,hd,hM,rfl,hI⟩:=eb.ld 0 rfl (te:=Q6) rfl (j:=2) dP;have k:=b.s.get;have gw:=eb.s.get;simp[C6.F]at k gw;refine fw (λQ=>?_) (λQ=>?_)
   ·have hb:¬Fp (V.cons (dS 1 0 [G m])) J V.size:=λR=>by
     have e:(V.cons (dS 1 0 [G m])).get J=V.get J:=by rw[ez,ao (by have:=b.s.lt;omega)]
     rw[jt e]at R;have:=b.s.fp _ R;omega
    have N:=eb.st I 0 rfl fi c7 2 (.agg [G hd,.arr V.size 0 0 1 false]) rfl ⟨_,_,rfl,.inr ⟨V.size,m,rfl,by rw[ez,aq rfl],D,D,hb,by have:=b.QR;omega⟩⟩;have hJ:(J=V.size)=False:=by have:=b.s.lt;simp;omega
    simp[i,q,n,a6,a7,k,eh,c7,er,e6];exact⟨_,N⟩
   ·have N:=b.st I 0 rfl aN O 2 (.agg [G m,eO]) rfl ⟨_,_,rfl,eH⟩;simp[i,q,n,a6,a7,k,av,O,aA,e6];exact⟨_,N⟩
  ·obtain⟨bS,c4,dm,c6,dn,_,aN,av,O,aA,o,eO,rfl,eH⟩:=b.ld 0 rfl (te:=Q6) rfl (j:=y) bH;obtain⟨fY,gk,hj,gn,ho,_,fi,eh,c7,er,b7,rfl⟩:=b.ld 3 rfl (te:=CD) rfl (j:=m) gS;have k:=b.s.get;simp[C6.F]at k;have N:=b.st I 0 rfl aN O y (.agg [G m,eO]) rfl ⟨_,_,rfl,eH⟩;simp[n,show¬(y:Int)=2 by omega,k,eh,c7,er];refine fw (λQ=>?_) (λQ=>?_)
   ·simp[i,q,n,a6,a7,a8];exact⟨d,b⟩
   ·simp[i,q,n,a6,a7,k,av,O,aA,a8];exact⟨_,N⟩
 clear b k l0 i q n an ap;rintro h B ⟨⟨d,b⟩,i,q,n,a6,a7⟩;have cX:=λ{B:H} {d:C6} (b:BM Z r A J d B)=>b.tw.next (tb:=⟨pt [],ht [(77,lK),(41,jY fc L7 LR),(78,jY Xw r6 pS)]⟩) Y bs;have fP:∀{B:H} {d:C6},BM Z r A J d B->∃K:List Int,r6 ⟨Z,r,0,d.c 0,G d.tx,d.c 2,d.c 3,d.c 4,d.c 5,d.c 6,K⟩ [.ptr r 0 0 0,.agg [d.c 0,G d.tx,d.c 2,d.c 3,d.c 4,d.c 5,d.c 6]] B/\K.length=4:=λ{B d} b=>by
  obtain⟨K,bW,fe⟩:=wS (f:=T.int .i64) (P:=λS=>0<=S/\S<=4) λe M=>by
   obtain⟨S,eM,bi⟩:=b.pr 6 e M;exact⟨S,eM,bi rfl⟩
  have ca:K.length=4:=by rw[<-aG (f:=T.int .i64),<-bW];exact b.ln 6
  have bT:=b.s.gr 6 rfl;rw[bW]at bT;have di:eG (d.c 6)≠some r:=λR=>by have:=b.fp r (b.s.DG (f:=(d.c 6,some (1,d.E 6))) (by simp[C6.F]) R);omega
  exact⟨K,⟨rfl,b.tw.g,b.tw.w.ok,bs,dO,bT,di,Y⟩,ca⟩
 obtain⟨gX,b8,L,gP,bn,U⟩:=cX b 3 D D;replace b:=b.tape U (bn.g.le (aw _)) I;simp[i,a6,a7,L];clear L bn U;refine kP (λh B=>(∃d,BM Z r A J d B)/\dT h 0 (.ptr r 0 0 0)/\dT h 4 (.ptr (A.size+1) 0 0 0)/\dT h 5 (.ptr J 0 0 0)) (λQ=>?_) (λQ=>?_) ?_
 ·have k:=b.s.get;simp[C6.F]at k;obtain⟨K,eF,ca⟩:=fP b;simp[i,n,k];refine jm NQ Y _ eF ?_;rintro _ ds ⟨u,rfl,fC,eU,t1,U⟩;replace b:=b.tape U t1 I;have k:=b.s.get;simp[C6.F]at k;have bA:=b.tx I u;simp[i,q,n,k];exact⟨_,bA⟩
 ·simp[i,q,n];exact⟨d,b⟩
 clear b i q n a6 a7;rintro h B ⟨⟨d,b⟩,i,q,n⟩;obtain⟨gX,b8,L,gP,bn,U⟩:=cX b 3 D D;replace b:=b.tape U (bn.g.le (aw _)) I;simp[i,L];clear L bn U;refine kP (λh B=>(∃d,BM Z r A J d B)/\dT h 0 (.ptr r 0 0 0)/\dT h 4 (.ptr (A.size+1) 0 0 0)/\dT h 5 (.ptr J 0 0 0)) (λQ=>?_) (λQ=>?_) ?_
 ·have k:=b.s.get;simp[C6.F]at k;obtain⟨bS,c4,dm,c6,dn,_,aN,av,O,aA,o,rfl⟩:=b.ld 2 rfl (te:=Vg) rfl (j:=0) dP;replace b:=b.st I 2 rfl aN O 0 (.bool true) rfl ⟨_,rfl⟩;generalize bX:fg b8 bS _=ds at b;generalize d.Rj 2 _=ef at b;obtain⟨bu,V,L,eE,bC,bN⟩:=cX b 3 D D;have ae:=b.tape bN (bC.g.le (aw _)) I;have al:=b.s.get;have bp:=ae.s.get;simp[C6.F]at al bp;obtain⟨gd,gm,hn,gv,hq,_,eD,eo,b9,et,S,rfl,_⟩:=ae.ld 5 rfl (te:=HN) rfl (j:=0) dP;have sv:fQ ds V J=true:=fZ (bp.trans al.symm);have N:=ae.st I 5 rfl eD b9 0 (G bu) rfl ⟨_,rfl,λR=>by omega⟩;simp[i,q,n,k,av,O,aA,bX,al,L,eo,b9,et,sv];exact⟨_,N⟩
 ·simp[i,q,n];exact⟨d,b⟩
 clear b i q n;rintro h B ⟨⟨d,b⟩,i,q,n⟩;have k:=b.s.get;simp[C6.F]at k;have l4:=b.ln 4;simp[n,k,(b.s.gr 4 rfl).len (cx:=cx),l4,bgN];refine gu 5 D (λy h B=>(∃d,BM Z r A J d B)/\dT h 0 (.ptr r 0 0 0)/\dT h 4 (.ptr (A.size+1) 0 0 0)/\dT h 5 (.ptr J 0 0 0)/\dT h 142 (G 5)/\dT h 143 (G y)) ?_ ?_ D ⟨⟨d,b⟩,by simp[i,q,n]⟩
 ·clear b k l4 i q n;rintro y h B bH a8 ⟨⟨d,b⟩,i,q,n,eB,eC⟩;have gM:(y:Int)<5:=D;obtain⟨bu,V,L,eE,bC,bN⟩:=cX b 3 D D;have ae:=b.tape bN (bC.g.le (aw _)) I;have al:=b.s.get;have bp:=ae.s.get;simp[C6.F]at al bp;obtain⟨gd,gm,hn,gv,hq,_,eD,eo,b9,et,S,rfl,_⟩:=ae.ld 4 rfl (te:=HN) rfl (j:=y) bH;have sv:fQ B V J=true:=fZ (bp.trans al.symm);have N:=ae.st I 4 rfl eD b9 y (G bu) rfl ⟨_,rfl,λR=>by omega⟩;simp[i,q,n,eB,eC,gM,al,L,eo,b9,et,sv,a8];exact⟨_,N⟩
 clear b k l4 i q n;rintro h B ⟨⟨d,b⟩,i,q,n,eB,eC⟩;have k:=b.s.get;have eN:=b.rb;unfold oX at eN;simp[C6.F]at k;have hf:=λz=>(ee eN z (A.size+1)).trans (aq rfl);simp[q,n,eB,eC,k,eN,hf];exact b.fin fs I _ _
end
def QW(a:Nat)(d:H)(e:T)(g:List (List Int)):Prop:=∃c,Gr d e 1 c/\eG e≠some a/\jh (λb f=>Gr d b 1 (f.map (T.int .i64))/\eG b≠some a) c g
structure IEv where
 (L:List Int) (b p:Nat) (s:fJ) (w:fc) (rv:T) (rs:List (List Int))
def RJ(a:IEv)(d:List T)(c:H):Prop:=d=[.ptr a.b 0 0 0,a.s.t,a.w.t,a.rv]/\xG a.p a.L a.b c/\iE 0 c/\okB a.L/\QW a.b c a.rv a.rs/\a.rs.length=4/\(∀e∈a.rs,e.length<=1000)/\a.s.cells.length=5/\1<=a.s.fa.length/\a.s.fN.dW.length<=98/\a.w.cells.length=5
def H3(a:IEv)(g:List T)(e:H)(f:T)(d:H):Prop:=∃c:fk,f=c.t/\c.mE.length<=1000/\c.tQ.length<=1000/\xG (a.p+1) a.L a.b d/\Sm a.b e d
def aaW{a:gG}(ht:a.p 115=some wI):rl prog cx a 115 []=some (sl (yk.map (T.int .i64))):=iA ht VV () trivial
def Qh{i:Nat}(c:i<43):∃a:Int,yk[i]? =some a/\1<=a/\a<=23:=by
 have b:∀a∈yk,1<=a/\a<=23:=dP;exact⟨yk[i]'c,az _,b _ (aC _)⟩
abbrev Qt(f c d g e:Int)(a b:T):T:= .agg [G f,G c,G d,G g,G e,a,b]
structure UW(p:Nat)(L:List Int)(b:Nat)(h:H)(s:fJ)(w:fc)(h':H)(x:T):Prop where
 tw:vd p L b (TI.hr h) h'
 g0:h'.get h.size=some (dS 7 0 [s.t])
 g1:h'.get (h.size+1)=some (dS 6 0 [w.t])
 g2:h'.get (h.size+2)=some (dS 7 0 [Qt 0 0 0 0 0 dR dR])
 g3:∃ver,h'.get (h.size+3)=some (dS 7 ver [x])
def UW.call{m h:Nat}{d:List Int}{a:Nat}{e:H}{i:fJ}{j:fc}{g f:H}{k:T}(b:UW m d a e i j g k)(c:Sm a g f)(n:xG h d a f)(p:a<e.size):UW h d a e i j f k:=by
 have⟨o,l⟩:=b.g3;exact⟨b.tw.call c n,(c.get _ D).trans b.g0,(c.get _ D).trans b.g1,(c.get _ D).trans b.g2,o,(c.get _ D).trans l⟩
theorem UW.put{k:Nat}{h:List Int}{e:Nat}{d:H}{l:fJ}{m:fc}{j:H}{x:T}(a:UW k h e d l m j x)(o:e<d.size)(f:Nat)(g:T):UW k h e d l m (fg j (d.size+3) (dS 7 f [g])) g:=by
 have⟨p,i⟩:=a.g3;have b:=λc=>ee i (dS 7 f [g]) c;exact⟨a.tw.put i Y (by simpa using o) _,by rw[b,ao D];exact a.g0,by rw[b,ao D];exact a.g1,by rw[b,ao D];exact a.g2,f,by rw[b,aq rfl]⟩
def UW.rd{g:Nat}{d:List Int}{e:Nat}{a:H}{h:fJ}{i:fc}{c:H}{j:T}(f:UW g d e a h i c j)(b:jv):(fg c (a.size+2) b).get (a.size+2)=some b:=(ee f.g2 b (a.size+2)).trans (aq rfl)
def Ds(a:T):Prop:=a.iN=true/\a.cells=[a]/\∃b:List Int,b.length<=1000/\∀d c,FT d c 1 a (sl (b.map (T.int .i64)))
theorem Ds.nil:Ds dR:=⟨rfl,rfl,[],Y,λb a=>jS ..⟩
def Ds.sl{a:List Int}(b:a.length<=1000):Ds (TI.sl (a.map (T.int .i64))):=⟨Y,Y,a,b,λb d=>qM _ _ _ λe c=>by obtain⟨f,_,rfl⟩:=List.mem_map.1 c;simp⟩
def ahk:(jY IEv RJ H3).Ok prog cx 79:=by
 refine ta (tb:=⟨pt [(115,wI)],ht [(77,lK),(116,jY Li B1 uW),(117,jY Lg B0 uV),(118,jY C5 wM v8)]⟩) jg iT (jr 618988909108621684749897583 [(3,[(6,11),(7,11),(5,14),(11,14)])] func79) (λ_ _=>5) (λi a b a7=>by obtain⟨rfl,_⟩:=a7;simp[f79]) ?_;rintro⟨B,h,v,N,F,aA,ey⟩ _ b ⟨rfl,bW,et,W,dv,eW,bs,eX,ea,eb,e5⟩ L dk;simp only at bW W dv eW bs eX ea eb e5;simp at dk;obtain⟨C,de,di,O⟩:=dk;have p:=bW.tp.lt;have fX:(h=b.size)=False:=dN;have fY:(h=b.size+1)=False:=dN;have gd:(h=b.size+2)=False:=dN;have eC:=(((vd.refl et.hr (bW.eq (iI b h))).cons (dS 7 0 [N.t])).cons (dS 6 0 [F.t])).cons (dS 7 0 [.agg [G 0,G 0,G 0,G 0,G 0,dR,dR]]);obtain⟨c,eF,cF,fW,eD,y⟩:=eC.next (tb:=⟨pt [(115,wI)],ht [(77,lK),(116,jY Li B1 uW),(117,jY Lg B0 uV),(118,jY C5 wM v8)]⟩) Y W 4 D D;have b9:=λ{bn:H} {v:Nat} (F:vd v B h (TI.hr b) bn)=>F.next (tb:=⟨pt [(115,wI)],ht [(77,lK),(116,jY Li B1 uW),(117,jY Lg B0 uV),(118,jY C5 wM v8)]⟩) Y W;obtain⟨k,eH,cL,fS,eE,Z⟩:=b9 eD yk.length dP dP;obtain⟨j,c1,e6,e7⟩:=Qh (i:=k) (by have:yk.length=43:=rfl;omega);obtain⟨X,aE,cX,dn,b7,bN⟩:=b9 eE 6 D D;obtain⟨bT,e4⟩:∃x:Int,(c:Int)*6=x:=⟨_,rfl⟩;obtain⟨bS,e0⟩:∃x:Int,bT+X=x:=⟨_,rfl⟩;have er:binop .mul (G (c:Int)) (G 6)=some (G bT):=by rw[ad2,<-kh,kr D D,e4]
 have cb:binop .add (G bT) (G (X:Int))=some (G bS):=BF e0 D D;have fP:eF.size=b.size+3:=by rw[y.size];rfl
 have b8:aE.size=b.size+3:=by rw[bN.size,Z.size,fP]
 have eA:fQ eF eH (b.size+3)=true:=jw (mv _ D);have eB:fQ eH aE (b.size+3)=true:=jw (mv _ (by rw[Z.size];omega));have eo:=b7.w.ok.low;rw[b8]at eo;have aN:∀r,r<b.size+3->r≠h->aE.get r=((((TI.hr b).cons (dS 7 0 [N.t])).cons (dS 6 0 [F.t])).cons (dS 7 0 [Qt 0 0 0 0 0 dR dR])).get r:=λr bp av=>(bN.get r av).trans ((Z.get r av).trans (y.get r av));have E:UW (v+1) B h b N F (aE.cons (dS 7 1 [Qt c j 0 0 bS dR dR])) (Qt c j 0 0 bS dR dR):=
  ⟨(b7.le D).cons _,by rw[ez,ao D,aN _ D D];simp,by rw[ez,ao D,aN _ D D];simp,by rw[ez,ao D,aN _ D D];simp,1,by rw[ez,aq b8.symm]⟩
 simp[f79,C,de,di,cF,aaW,cL,cX,c1,er,cb,b8,eA,eB,eo];clear cF cL cX y Z bN eC eD eE b7 er cb aN c1 eA eB;generalize aE.cons _=gi at*
 refine kP (λL bn=>(∃z,UW (v+1) B h b N F bn (Qt c j 0 0 z dR dR))/\dT L 0 (.ptr h 0 0 0)/\dT L 3 aA/\dT L 5 (.ptr b.size 0 0 0)/\dT L 6 (.ptr (b.size+1) 0 0 0)/\dT L 8 (.ptr (b.size+2) 0 0 0)/\dT L 9 (G c)/\dT L 11 (.ptr (b.size+3) 0 0 0)) (λeV=>?_) (λeV=>?_) ?_
 ·obtain⟨A,m⟩:=E.g3;simp[C,O,m];exact⟨_,E.put p _ _⟩
 ·simp[C,O];exact⟨_,E⟩
 clear E C de di O;rintro L o ⟨⟨z,E⟩,C,O,eR,eS,aX,a6,s⟩;obtain⟨A,m⟩:=E.g3;simp[C,a6,s,m];refine jm adN Y ⟨B,h,v+1,j,c⟩ ⟨rfl,E.tw.g,E.tw.w.ok,W,dO,dO,e6,e7⟩ ?_;rintro _ fB ⟨q,rfl,gg,bH,t1,y⟩;have l:=E.call y t1 p;clear E m;obtain⟨A,m⟩:=l.g3;simp[C,eR,s,m];replace l:=l.put p (A+1) (Qt c j q 0 z dR dR);generalize fg fB _ _=ae at*
 clear y t1 m;obtain⟨A,m⟩:=l.g3;have c9:=l.g0;simp[s,m,c9];refine jm adI Y ⟨B,h,v+1,N,j,q⟩ ⟨rfl,l.tw.g,l.tw.w.ok,W,λP=>by have:=bH (.inl P);simp only;omega,ea,eb⟩ ?_;rintro _ fC ⟨n,rfl,t1,y⟩;replace l:=l.call y t1 p;clear m c9;obtain⟨A,m⟩:=l.g3;simp[s,m];replace l:=l.put p (A+1) (Qt c j q n z dR dR);generalize fg fC _ _=fE at*
 clear y t1 m;obtain⟨A,m⟩:=l.g3;have eM:=l.g1;obtain⟨M,eP,fb,cp⟩:=dv;have dm:c<M.length:=by rw[cp.length];omega
 obtain⟨bC,ds,c4,c6⟩:∃bC∈ey,Gr b M[c] 1 (bC.map (T.int .i64))/\eG M[c]≠some h:=cp.Kd (aC dm);have ca:∀o,vd (v+1) B h (TI.hr b) o->∃S U A al I,∃(u:List Int) (ae:H),lM o pf aA c=some (.val (.ptr S U c 0) o)/\o.get S=some ⟨1,U,A,al,false,I⟩/\I[c]? =some M[c]/\hl prog cx ⟨pt [(115,wI)],ht [(77,lK),(116,jY Li B1 uW),(117,jY Lg B0 uV),(118,jY C5 wM v8)]⟩ 118 [.ptr h 0 0 0,M[c]] o=some (sl (u.map (T.int .i64)),ae)/\u.length<=1000/\xG (v+1) B h ae/\Sm h o ae:=λo bX=>by
  have eu:∀(n:T) I,Gr b n 1 I->eG n≠some h->Gr o n 1 I:=λn I c7 av=>c7.mono λr bp=>by
   obtain⟨_,_,_,_,P,_⟩:=c7.box bp;exact(bX.w.get r (H.fG P) λe=>av (by rw[<-e];exact bp)).trans (iI b r)
  obtain⟨S,U,A,al,I,_,eK,eO,eL⟩:=(eu aA M eP fb).Bf (te:=pf) rfl dm;have a7:wM ⟨B,h,v+1,M[c],bC⟩ [.ptr h 0 0 0,M[c]] o:=⟨rfl,eu _ _ c4 c6,c6,bX.g,bX.w.ok,W,bs _ ds⟩;obtain⟨_,ae,e,P⟩:=Hn (tb:=⟨pt [(115,wI)],ht [(77,lK),(116,jY Li B1 uW),(117,jY Lg B0 uV),(118,jY C5 wM v8)]⟩) Y ZJ ⟨_,a7⟩;obtain⟨u,rfl,fe,ff,fi⟩:=P _ a7;exact⟨S,U,A,al,I,u,ae,eK,eO,eL,e,aQ fe (bs _ ds),ff,fi⟩
 have eI:(decide (j=5)=false/\(decide (j=3)||decide (j=4))=true/\∃X:Nat,kT q=some X/\X<F.cells.length)\/(decide (j=5)=false/\(decide (j=3)||decide (j=4))=false)\/(decide (j=5)=true):=by
  by_cases K:j=5
  ·exact .inr (.inr (bI K))
  ·by_cases Q:j=3\/j=4
   ·exact .inl ⟨aO K,by simpa using Q,q.toNat,fy (bH Q).1,by have:=bH Q;omega⟩
   ·exact .inr (.inl ⟨aO K,dN⟩)
 have fin:∀{o:H} {d f:T} (R:jv),UW (v+1) B h b N F o (Qt c j q n z d f)->Ds d->Ds f->Ay b (Qt c j q n z d f) (fg o (b.size+2) R) (H3 ⟨B,h,v,N,F,aA,ey⟩ [.ptr h 0 0 0,N.t,F.t,aA] b):=λR i ⟨_,_,u,l1,l2⟩ ⟨_,_,bB,e8,e9⟩=>
  (i.tw.put i.g2 Y (by simpa using p) R).cut et p (FT.top (V:=λh=>b.size<=h) (d:=1) D (λ_ P=>P) (.cons (iC ..) (.cons (iC ..) (.cons (iC ..) (.cons (iC ..) (.cons (iC ..) (.cons (l2 ..) (.cons (e9 ..) .nil)))))))) λfo fs=>⟨⟨c,j,q,n,z,u,bB⟩,rfl,l1,e8,fs,fo⟩
 obtain⟨S,U,fA,al,I,u,fL,a1,a2,a3,a4,l1,t1,y⟩:=ca fE l.tw;have bu:=l.call y t1 p;obtain⟨b6,bi⟩:=bu.g3;have an:=λR=>(ee bi R (b.size+3)).trans (aq rfl);have a8:=c4.cells;rcases eI with⟨K,Q,X,eU,dn⟩|⟨K,Q⟩|K;simp[eS,s,m,eM,K,Q,eU,dn];refine fw (λap=>?_) (λap=>?_);rotate_left
 iterate 2
  ·have J:=bu.put p (b6+1) (Qt c j q n z dR (sl (u.map (T.int .i64))));simp[s,m,K,Q];refine fw (λap=>?_) (λap=>?_)
   ·simp[C,O,aX,a6,s,a1,a2,a3,a4,bi,a8,an,J.g2,J.rd];exact fin _ J Ds.nil (Ds.sl l1)
   ·simp[aX,s,m,l.g2,l.rd];exact fin _ l Ds.nil Ds.nil
 iterate 2
  ·have J:=bu.put p (b6+1) (Qt c j q n z (sl (u.map (T.int .i64))) dR);simp[C,O,a6,s,m,K,a1,a2,a3,a4,bi,a8,an];obtain⟨S,U,fA,al,I,bB,gk,a1,a2,a3,a4,l2,t2,Z⟩:=ca _ J.tw;have ec:=J.call Z t2 p;obtain⟨fv,dd⟩:=ec.g3;have eN:=λR=>(ee dd R (b.size+3)).trans (aq rfl);have bA:=ec.put p (fv+1) (Qt c j q n z (sl (u.map (T.int .i64))) (sl (bB.map (T.int .i64))));replace an:=an (dS 7 (b6+1) [Qt c j q n z (sl (u.map (T.int .i64))) dR]);generalize fg fL _ _=gj at*
   refine fw (λap=>?_) (λap=>?_)
   ·have ef:=bA.g2;have eh:=bA.rd;simp at ef eh;simp[C,O,aX,a6,s,a1,a2,a3,a4,dd,a8,eN,ef,eh];exact fin _ bA (Ds.sl l1) (Ds.sl l2)
   ·simp[aX,s,an,J.g2,J.rd];exact fin _ J (Ds.sl l1) Ds.nil
section
def UF{j k:Type}{f:j->k->Prop}:∀{b:List j} {a:List k},b.length=a.length->(∀(e:Nat) c d,b[e]? =some c->a[e]? =some d->f c d)->jh f b a:=by
 intro b;induction b with
 |nil=>intro a h _;cases a with|nil=>exact .nil|cons i a=>simp at h
 |cons p b n=>
  intro a h g;cases a with
  |nil=>simp at h
  |cons i a=>exact .cons (g 0 p i rfl rfl) (n (by simpa using h) λe c d l m=>g (e+1) c d (by simpa using l) (by simpa using m))
structure HI(lo bv:Nat)(h:H)(rs:List (List Int))(o:T)(xs:List T)(es:List T)(ver:Nat):Prop where
 gb:h.get bv=some ⟨1,0,ver,true,false,es⟩
 QS:lo<=bv
 len:es.length=rs.length
 gr:∀(i:Nat) (e:T) (ns:List Int),es[i]? =some e->rs[i]? =some ns->Gr h e 1 (ns.map (T.int .i64))
 sep:∀(i:Nat) (e:T) (c:Nat),es[i]? =some e->eG e=some c->lo<=c/\c≠bv/\eG o≠some c/\∀(j:Nat) (e':T),es[j]? =some e'->eG e'=some c->i=j
 go:Gr h o 7 xs
 ob:∀c,eG o=some c->lo<=c/\c≠bv
variable {lo bv:Nat}{h h':H}{rs:List (List Int)}{o:T}{xs es:List T}{ver:Nat}
def HI.lt(e:HI lo bv h rs o xs es ver){a:Nat}{b:T}{c:Nat}(d:es[a]? =some b)(f:eG b=some c):c<h.size:=by
 have g:a<rs.length:=by rw[<-e.len];exact(List.getElem?_eq_some_iff.1 d).1
 have⟨_,_,_,_,i,_⟩:=(e.gr a b rs[a] d (az g)).box f;exact H.fG i
def HI.olt(c:HI lo bv h rs o xs es ver){a:Nat}(b:eG o=some a):a<h.size:=by
 have⟨_,_,_,_,d,_⟩:=c.go.box b;exact H.fG d
def HI.md(a:HI lo bv h rs o xs es ver)(e:∀b,lo<=b->b<h.size->h'.get b=h.get b):HI lo bv h' rs o xs es ver:=
 ⟨(e _ a.QS (H.fG a.gb)).trans a.gb,a.QS,a.len,λg f j d i=>(a.gr g f j d i).mono λb c=>e b (a.sep g f b d c).1 (a.lt d c),a.sep,a.go.mono λb c=>e b (a.ob b c).1 (a.olt c),a.ob⟩
def HI.rda(a:HI lo bv h rs o xs es ver){b:Nat}(j:b<lo):QW b h (.arr bv 0 0 rs.length false) rs:=
 ⟨es,by rw[<-a.len];exact .inr ⟨bv,0,ver,true,es,rfl,a.gb,aI⟩,by have:=a.QS;simp;omega,UF a.len λe c g d f=>⟨a.gr e c g d f,λi=>by have:=(a.sep e c b d i).1;omega⟩⟩
def _root_.Go.TI.Gr.mG{h:H}{a:T}{e:Nat}{es:List T}(c:Gr h a e es)(b:T):TI.mG a 0 [b]=some b:=by
 rcases c with⟨rfl,_⟩|⟨f,i,ver,j,xs,rfl,_⟩<;>exact Ec λg d=>by cases d
def HI.app(a:HI lo bv h rs o xs es ver){b:Nat}{f:T}{v:List Int}(g:es[b]? =some f)(L:rs[b]? =some v){n:Int}{u:T}{s:H}(x:Xt h f 1 ((v++[n]).map (T.int .i64)) u s)(K:lo<=h.size)(C:Nat):
 HI lo bv (fg s bv ⟨1,0,C,true,false,es.set b u⟩) (rs.set b (v++[n])) o xs (es.set b u) C/\s.get bv=some ⟨1,0,ver,true,false,es⟩:=by
 obtain⟨J,w,q,M⟩:=x;have F:=H.fG a.gb;have t:b<es.length:=(List.getElem?_eq_some_iff.1 g).1;have r:s.get bv=some ⟨1,0,ver,true,false,es⟩:=(w bv F λe=>(a.sep b f bv g e).2.1 rfl).trans a.gb;refine⟨⟨(ee r _ bv).trans (aq rfl),a.QS,by simp[a.len],λl p I c j=>?_,λl p i c d=>?_,a.go.mono λi d=>?_,a.ob⟩,r⟩
 ·by_cases e:b=l
  ·subst e;rw[dG t]at c;rw[dG (by rw[<-a.len];exact t)]at j;cases c;cases j;refine J.mono λi d=>?_;rw[ee r,ao];rintro rfl;rcases q _ d with k|k
   ·exact(a.sep b f _ g k).2.1 rfl
   ·omega
  ·rw[dH e]at c;rw[dH e]at j;refine(a.gr l p I c j).mono λi d=>?_;have m:=a.sep l p i c d;rw[ee r,ao m.2.1];exact w i (a.lt c d) λk=>e (m.2.2.2 b f g k).symm
 ·by_cases e:b=l
  ·subst e;rw[dG t]at c;cases c;refine⟨?_,?_,?_,λl p c y=>?_⟩
   ·rcases q _ d with k|k
    ·exact(a.sep b f _ g k).1
    ·omega
   ·rcases q _ d with k|k
    ·exact(a.sep b f _ g k).2.1
    ·omega
   ·rcases q _ d with k|k
    ·exact(a.sep b f _ g k).2.2.1
    ·intro z;have:=a.olt z;omega
   ·by_cases e:b=l
    ·exact e
    ·rw[dH e]at c;rcases q _ d with k|k
     ·exact(a.sep b f _ g k).2.2.2 l p c y
     ·have:=a.lt c y;omega
  ·rw[dH e]at c;have m:=a.sep l p i c d;refine⟨m.1,m.2.1,m.2.2.1,λk E j A=>?_⟩;by_cases B:b=k
   ·subst B;rw[dG t]at j;cases j;rcases q _ A with z|z
    ·exact m.2.2.2 b f g z
    ·have:=a.lt c d;omega
   ·rw[dH B]at j;exact m.2.2.2 k E j A
 ·rw[ee r,ao (a.ob i d).2];exact w i (a.olt d) λk=>(a.sep b f i g k).2.2.1 d
def HI.out(a:HI lo bv h rs o xs es ver){j:T}{n:List T}{f:H}(t:Xt h o 7 n j f)(v:lo<=h.size):HI lo bv f rs j n es ver:=by
 obtain⟨u,k,l,w⟩:=t;have p:=H.fG a.gb;refine⟨(k bv p λs=>(a.ob bv s).2 rfl).trans a.gb,a.QS,a.len,λg e r d f=>(a.gr g e r d f).mono λc b=>k c (a.lt d b) (a.sep g e c d b).2.2.1,λg e c d b=>?_,u,λc b=>?_⟩
 ·have i:=a.sep g e c d b;refine⟨i.1,i.2.1,λq=>?_,i.2.2.2⟩;rcases l _ q with z|z
  ·exact i.2.2.1 z
  ·have:=a.lt d b;omega
 ·rcases l _ b with z|z
  ·exact a.ob c z
  ·exact⟨D,D⟩
end
section
attribute [-simp] size_cons
structure IPl where
 (L:List Int) (b:Nat) (s:fJ) (w:fc) (n:Nat) (early:Bool)
def Yf(a:IPl)(d:List T)(c:H):Prop:=d=[.ptr a.b 0 0 0,a.s.t,a.w.t,G a.n,.bool a.early]/\xG 0 a.L a.b c/\iE 0 c/\okB a.L/\a.L.length<=400/\a.n<=16/\a.w.dW.length=4/\a.w.cells.length=5/\a.w.iB.length<=1000/\mD a.w a.s=true/\sR 1000 a.s/\1<=a.s.fa.length
def RS(a:IPl)(g:List T)(e:H)(f:T)(d:H):Prop:=∃c:List fk,f=sl (c.map fk.t)/\c.length<=a.n/\ML c/\runs a.w a.s c=true/\xG 0 a.L a.b d/\Sm a.b e d
def ah2(a:fk)(d:H)(c:Nat->Prop):FT d c 2 a.t a.t:=by
 have e:∀b:List Int,FT d c 1 (sl (b.map (T.int .i64))) (sl (b.map (T.int .i64))):=λb=>qM _ _ _ λg f=>by obtain⟨h,_,rfl⟩:=List.mem_map.1 f;simp
 exact .inr (.inr ⟨a.cs,a.cs,rfl,.cons (iC ..) (.cons (iC ..) (.cons (iC ..) (.cons (iC ..) (.cons (iC ..) (.cons (e _) (.cons (e _) .nil)))))),rfl⟩)
def Vj{a:H}(g:iE 0 a)(b c d:jv):(∀e,e<a.size->(fg ((a.cons b).cons c) (a.size+1) d).get e=a.get e)/\(fg ((a.cons b).cons c) (a.size+1) d).get a.size=some b/\(fg ((a.cons b).cons c) (a.size+1) d).get (a.size+1)=some d/\(fg ((a.cons b).cons c) (a.size+1) d).size=a.size+2:=by
 have f:=nM ((g.cons b).cons c).hp (show a.size+1<_ by simp[size_cons]);refine⟨λe h=>?_,?_,?_,by simp[size_cons]⟩
 ·rw[f,ao D,ez,ao (by rw[size_cons];omega),ez,ao D]
 ·rw[f,ao D,ez,ao (by rw[size_cons];omega),ez,aq rfl]
 ·rw[f,aq rfl]
def vd.two{h:Nat}{f:List Int}{b:Nat}{e a:H}(i:vd h f b e a)(k:b<e.size)(g d j:jv):vd h f b e (fg ((a.cons g).cons d) (a.size+1) j):=
 ((i.cons g).cons d).put (c:=a.size+1) (x:=d) (by rw[ez,aq (by rw[size_cons])]) (by have:=i.w.size;omega) k j
def PlC(a:fJ):Prop:=a.cells.length=5/\1<=a.fa.length/\a.fN.dW.length<=98/\a.count.length=4
def PlJ(h:Nat)(d:List Int)(e:Nat)(a:H)(n:fc)(k:fJ)(i:Nat)(g:T)(o:List T)(b:H):Prop:=∃c f m l,vd h d e (TI.hr a) b/\b.get a.size=some (dS 7 l [k.t])/\b.get (a.size+1)=some (dS 6 0 [n.t])/\HI (a.size+2) (a.size+2) b c g o f m/\a.size+3<=b.size/\c.length=4/\∀j∈c,j.length<=i
def ahi:(jY IPl Yf RS).Ok prog cx 39:=by
 refine ta (tb:=⟨pt [(80,oH)],ht [(77,lK),(79,jY IEv RJ H3)]⟩) jg iT (jr 155347004713968546154151135 [(14,[(2,15)])] func39) (λ_ _=>1000) (λi a e fe=>by obtain⟨rfl,_⟩:=fe;simp[f39]) ?_;rintro⟨X,b,q,h,n,early⟩ _ e ⟨rfl,eu,eO,dn,e6,fb,ef,eI,fo,cb,eH,e8⟩ r bS;simp only at eu dn e6 fb ef eI fo cb eH e8;simp at bS;obtain⟨B,av,bs,C,Z⟩:=bS;have aA:=eu.tp.lt;have gg:(b=e.size)=False:=dN;have gi:(b=e.size+1)=False:=dN;simp[f39,av,bs,ef];have c1:q.count.length=4:=by
  unfold mD at cb;simp only[ax,aK]at cb;rw[cb.2,ef]
 generalize bN:(((TI.hr e).cons _).cons _).cons _=bH;have gn:bH.size=e.size+3:=by rw[<-bN];rfl
 have eC:vd 0 X b (TI.hr e) bH:=by rw[<-bN];exact(((vd.refl eO.hr (eu.eq (iI e b))).cons _).cons _).cons _
 have V:bH.get e.size=some (dS 7 0 [q.t]):=by rw[<-bN];simp
 have ap:bH.get (e.size+1)=some (dS 6 0 [h.t]):=by rw[<-bN];simp
 have eB:HI (e.size+2) (e.size+2) bH [[],[],[],[]] dR [] [dR,dR,dR,dR] 0:=by
  rw[<-bN];refine⟨Y,au _,rfl,λi u gj av bs=>?_,λi u c av bs=>?_,Gr.nil _ _,Y⟩
  ·rcases i with _|_|_|_|i<;>simp at av bs<;>subst av bs<;>exact Gr.nil _ _
  ·rcases i with _|_|_|_|i<;>simp at av<;>subst av<;>simp at bs
 clear bN;have cL:PlJ 0 X b e h q 0 dR [] bH:=⟨_,_,_,_,eC,V,ap,eB,D,rfl,Y⟩;refine gu 4 D (λj r y=>PlJ 0 X b e h q j dR [] y/\dT r 0 (.ptr b 0 0 0)/\dT r 3 (G n)/\dT r 4 (.bool early)/\dT r 6 (.ptr e.size 0 0 0)/\dT r 7 (.ptr (e.size+1) 0 0 0)/\dT r 11 dR/\dT r 12 (.arr (e.size+2) 0 0 4 false)/\dT r 22 (G 4)/\dT r 23 (G j)) ?_ ?_ D ⟨cL,by simp[B,C,Z]⟩
 ·rintro j r y e9 cX ⟨⟨v,s,E,U,al,V,ap,ae,a6,R,J⟩,B,C,Z,F,I,H,L,bu,bA⟩;have c4:j<q.count.length:=D;have dv:(j:Int)<4:=D;have fP:(b=e.size+2)=False:=dN;have eA:PlJ 0 X b e h q (j+1) dR [] y:=⟨v,s,E,U,al,V,ap,ae,a6,R,λP hr=>Nat.le_succ_of_le (J P hr)⟩;cases early with
  |false=>
   simp[B,C,Z,F,I,H,L,bu,bA,dv,cX,eA]
  |true=>
  by_cases eD:1<q.count[j]
  ·obtain⟨m,eP,dk,fX,a7,c6⟩:=al.next (tb:=⟨pt [(80,oH)],ht [(77,lK),(79,jY IEv RJ H3)]⟩) Y dn 3 D D;simp[V,B,Z,F,bu,bA,dv,c4,eD,dk];have O:HI (e.size+2) (e.size+2) eP v dR [] s E:=ae.md λc o _=>c6.get c D;have a8:=(c6.get e.size D).trans V;have bi:=(c6.get (e.size+1) D).trans ap;have bB:=c6.size;refine fw (λbT=>?_) (λbT=>?_)
   ·have Q:j<s.length:=by rw[O.len];omega
    have T:j<v.length:=D;obtain⟨cF,aX,b9,er,et,M⟩:=(Xt.refl (O.gr j s[j] v[j] (az Q) (az T)) a7.w.ok).Xk 1 (by have:=J v[j] (aC T);omega);obtain⟨K,bp⟩:=O.app (az Q) (az T) M D (E+1);have c1:=(O.gr j s[j] v[j] (az Q) (az T)).cells;have bX:∀c,eG s[j]=some c->e.size+2<=c:=λc o=>(O.sep j s[j] c (az Q) o).1;have de:=((a7.le (aw _)).xt M (λc aE=>by have:=bX c aE;simp;omega) (by simpa using aA)).put bp Y (by simpa using aA) ⟨1,0,E+1,true,false,s.set j cF⟩;have A:∀c,c<e.size+2->(fg aX (e.size+2) ⟨1,0,E+1,true,false,s.set j cF⟩).get c=eP.get c:=λc aE=>by
     rw[ee bp,ao D];exact M.2.1 c D λo=>by have:=bX c o;omega
    have dd:=M.2.2.2.sz;simp[O.gb,B,C,Z,F,I,H,L,bu,bA,e9,Q,cX,c1,b9,er,et,bp,(O.gr j s[j] v[j] (az Q) (az T)).mG];exact⟨_,_,_,U,de,(A _ D).trans a8,(A _ D).trans bi,K,dN,by simp[R],λP hr=>by
     rcases cE hr with k|rfl
     ·exact Nat.le_succ_of_le (J P k)
     ·have:=J v[j] (aC T);simp;omega⟩
   ·simp[B,C,Z,F,I,H,L,bu,bA,cX];exact⟨v,s,E,U,a7.le (aw _),a8,bi,O,D,R,λP hr=>Nat.le_succ_of_le (J P hr)⟩
  ·simp[V,B,C,Z,F,I,H,L,bu,bA,dv,c4,cX,eD,eA]
 clear cL eB V ap eC B av bs C Z;have eE:=cb;unfold mD mn at eE;simp only[ax,aK]at eE;rintro r y ⟨cL,B,C,Z,F,I,H,L,bu,bA⟩;simp[bu,bA];refine UN 401 (λj r y=>(∃S l,PlJ j X b e h (o8 h q l) (j+4) S (l.map fk.t) y/\runs h q l=true/\l.length<=n/\ML l/\sR (1000+j) (o8 h q l)/\PlC (o8 h q l)/\dT r 11 S)/\dT r 0 (.ptr b 0 0 0)/\dT r 3 (G n)/\dT r 6 (.ptr e.size 0 0 0)/\dT r 7 (.ptr (e.size+1) 0 0 0)/\dT r 12 (.arr (e.size+2) 0 0 4 false)) ?_ D (aw _) ⟨⟨dR,[],cL,rfl,aw _,λu e7=>by simp at e7,eH,?_,by simp[H]⟩,by simp[B,C,F,I,L]⟩
 ·rintro j r y fS ⟨⟨S,l,⟨v,s,E,U,al,V,ap,ae,a6,R,J⟩,ea,eF,ds,eb,bW,H⟩,B,C,F,I,L⟩;obtain⟨gm,gk,e0,fY⟩:=al.g;simp[B,C,H,ae.go.len,e0];refine fw (λbT=>?_) (λbT=>?_)
  ·simp at bT;have fW:j<X.length:=D;simp[B,F,I,L,V,ap];refine jm ahk Y ⟨X,b,j,o8 h q l,h,.arr (e.size+2) 0 0 4 false,v⟩ ⟨rfl,al.g,al.w.ok,dn,by have:=ae.rda (b:=b) D;rw[R]at this;exact this,R,λP hr=>by have:=J P hr;omega,bW.1,bW.2.1,bW.2.2.1,eI⟩ ?_;rintro _ W ⟨u,rfl,eX,dk,t1,b6⟩;simp only at eX dk t1 b6;have a7:=al.call b6 t1;have O:HI (e.size+2) (e.size+2) W v S (l.map fk.t) s E:=ae.md λc o _=>b6.get c D;have a8:=(b6.get e.size D).trans V;have bi:=(b6.get (e.size+1) D).trans ap;have bB:=b6.size;have ca:=λ{tb:gG} (ht:tb.p 80=some oH)=>DM ht h (o8 h q l) u D (eb.up D) D D;have eL:(e.size=W.size)=False:=dN;have eM:(e.size+1=W.size)=False:=dN;have eK:=a7.w.ok.low;have di:=λcp=>a7.two (by simpa using aA) (dS 7 1 [u.t]) (dS 7 0 [.agg [dR,G 0,dR,dR,dR,dR,dR]]) (dS 7 1 [cp]);have N:=λcp=>Vj a7.w.ok (dS 7 1 [u.t]) (dS 7 0 [.agg [dR,G 0,dR,dR,dR,dR,dR]]) (dS 7 1 [cp]);cases o:pk h (o8 h q l) u with
   |false=>
    rw[mJ o]at ca;simp[B,C,F,I,H,L,a8,bi,eL,eM,eK,ca];obtain⟨A,aN,b7,dd⟩:=N vi.t;exact⟨D,S,l,⟨v,s,E,U,di _,(A _ D).trans a8,(A _ D).trans bi,O.md λc _ o=>A c o,by rw[dd];omega,R,λP hr=>by have:=J P hr;omega⟩,ea,eF,ds,eb.up D,bW,rfl⟩
   |true=>
    have ec:ke h (o8 h q l) u=(ko h (o8 h q l) u,true):=by unfold ke;rw[aq o]
    rw[ec]at ca;simp[F,I,a8,bi,eL,eM,eK,ca];have an:=di (ko h (o8 h q l) u).t;obtain⟨A,aN,b7,c9⟩:=N (ko h (o8 h q l) u).t;have bn:=(A e.size D).trans a8;have bC:=(A (e.size+1) D).trans bi;have K:HI (e.size+2) (e.size+2) _ v S (l.map fk.t) s E:=O.md λc _ o=>A c o;clear ca di N A;generalize fg _ _ _=aX at*
    simp[aN];have eS:PlJ (j+1) X b e h (o8 h q l) (j+4) S (l.map fk.t) aX:=⟨v,s,E,U,an,bn,bC,K,D,R,J⟩;refine kP (λr c7=>(PlJ (j+1) X b e h (o8 h q l) (j+1+4) S (l.map fk.t) c7/\W.size+2<=c7.size/\c7.get W.size=some (dS 7 1 [u.t])/\c7.get (W.size+1)=some (dS 7 1 [(ko h (o8 h q l) u).t]))/\dT r 0 (.ptr b 0 0 0)/\dT r 3 (G n)/\dT r 6 (.ptr e.size 0 0 0)/\dT r 7 (.ptr (e.size+1) 0 0 0)/\dT r 11 S/\dT r 12 (.arr (e.size+2) 0 0 4 false)/\dT r 14 (.ptr W.size 0 0 0)/\dT r 15 (.ptr (W.size+1) 0 0 0)) (λbT=>?_) (λbT=>?_) ?_
    ·obtain⟨z,fi,ff⟩:∃z:Nat,z<4/\kT u.eg=some z:=by
      have:=fI.1 (m6 o).2.1;exact⟨u.eg.toNat,D,fy this.1⟩
     have Q:z<s.length:=by rw[K.len];omega
     have T:z<v.length:=D;have c4:z<(o8 h q l).count.length:=by have:=bW.2.2.2;omega
     have dm:=K.gr z s[z] v[z] (az Q) (az T);obtain⟨cF,ey,b9,er,et,M⟩:=(Xt.refl dm an.w.ok).Xk (o8 h q l).count[z] (by have:=J v[z] (aC T);omega);obtain⟨eU,bp⟩:=K.app (az Q) (az T) M D (E+1);have c1:=dm.cells;have bX:∀c,eG s[z]=some c->e.size+2<=c:=λc o=>(K.sep z s[z] c (az Q) o).1;have de:=(an.xt M (λc aE=>by have:=bX c aE;simp;omega) (by simpa using aA)).put bp Y (by simpa using aA) ⟨1,0,E+1,true,false,s.set z cF⟩;have dd:=M.2.2.2.sz;have eh:=λc (k:eG s[z]=some c)=>O.lt (az Q) k;have eN:∀c,c<aX.size->(∀k,eG s[z]=some k->k≠c)->ey.get c=aX.get c:=λc a6 bB=>M.2.1 c a6 λk=>bB c k rfl;have A:∀c,c<aX.size->c≠e.size+2->(∀k,eG s[z]=some k->k≠c)->(fg ey (e.size+2) ⟨1,0,E+1,true,false,s.set z cF⟩).get c=aX.get c:=λc a6 c9 bB=>by
      rw[ee bp,ao c9];exact eN c a6 bB
     have sv:fQ (aX.cons (dS 1 0 [G (o8 h q l).count[z]])) ey W.size=true:=fZ ((eN _ D λk o=>by have:=eh k o;omega).trans (by rw[ez,ao D]));simp[K.gb,B,C,F,I,H,L,aN,bn,ff,fi,Q,c4,c1,b9,er,et,bp,dm.mG,sv];refine⟨⟨_,_,_,U,de,(A _ D D λk o=>by have:=bX k o;omega).trans bn,(A _ D D λk o=>by have:=bX k o;omega).trans bC,eU,dN,by simp[R],λP hr=>?_⟩,D,(A _ D D λk o=>by have:=eh k o;omega).trans aN,(A _ D D λk o=>by have:=eh k o;omega).trans b7⟩;rcases cE hr with k|rfl
     ·have:=J P k;omega
     ·have:=J v[z] (aC T);simp;omega
    ·simp[B,C,F,I,H,L];exact⟨⟨v,s,E,U,an,bn,bC,K,D,R,λP hr=>by have:=J P hr;omega⟩,D,aN,b7⟩
    ·have fC:∀c,eG S=some c->c<W.size:=λc=>O.olt;clear eS an bn bC K aN b7 c9 B C F I H L;rintro r eR ⟨⟨⟨v,s,E,U,an,bn,bC,K,c9,R,J⟩,gv,aN,b7⟩,B,C,F,I,H,L,e4,e5⟩;obtain⟨fB,fL,b9,M⟩:=K.go.my (cx:=cx) (f:=fk.t) an.w.ok TV rfl TT rfl Y (λ_=>rfl) u dN;have eo:∀c,eG S=some c->e.size+2<=c:=λc k=>(K.ob c k).1;have A:∀c,c<eR.size->(∀k,eG S=some k->k≠c)->fL.get c=eR.get c:=λc a6 bB=>M.2.1 c a6 λk=>bB c k rfl;have t6:=(A _ D λk o=>by have:=fC k o;omega).trans b7;have b8:=(A e.size D λk o=>by have:=eo k o;omega).trans bn;have eV:=K.out M D;have eW:=(an.xt M (λc aE=>by have:=eo c aE;simp;omega) (by simpa using aA)).put b8 Y (by simpa using aA) (dS 7 (U+1) [(ko h (o8 h q l) u).t]);have bS:o8 h q (l++[u])=ko h (o8 h q l) u:=by
      show wC _ _ _=_;rw[BE];show(ke h (o8 h q l) u).1=_;rw[ec]
     have dd:=M.2.2.2.sz;simp[B,C,F,I,H,L,e4,e5,aN,b9,t6,b8];refine⟨D,fB,l++[u],⟨v,s,E,U+1,eW,?_,?_,eV.md λc o _=>?_,dN,R,J⟩,?_,?_,?_,?_,?_,rfl⟩
     ·rw[bS,ee b8,aq rfl]
     ·rw[ee b8,ao D];exact(A (e.size+1) D λk o=>by have:=eo k o;omega).trans bC
     ·rw[ee b8,ao D]
     ·rw[Ee,ea];simp[runs,qH,o]
     ·simp;omega
     ·intro x hx;rcases List.mem_append.1 hx with hx|hx
      ·exact ds x hx
      ·simp at hx;subst hx;omega
     ·have:=eb.step h u;rw[ec]at this;rw[bS];exact this
     ·have:=xi h (o8 h q l).fN u.eg u.kind u.obj (ls u);obtain⟨fs,fv,gd,fA⟩:=bW;rw[bS];exact⟨by unfold ko;simp only;split<;>simp[fs],by unfold ko;simp only;split<;>simp[fv],by show(fO ..).1.dW.length<=_;omega,by unfold ko;simp[fA]⟩
  ·simp[H];exact(al.le (aw _)).cut eO aA (ae.go.adf (d:=2) D (λc aE=>by have:=(ae.ob c aE).1;omega) ah2) λcp fE=>⟨l,rfl,eF,ds,ea,fE,cp⟩
 ·exact(⟨D,D,D,D⟩:PlC q)
end
def EL:o9 prog cx 83 (λa:ej=>[a.t]) (λa=>a.jG.count.length<=1000000/\a.dY.length<=1000000) (λ_=>Kr):=by
 refine jL [] (jr 268436511 [] func83) (λa=>a.jG.count.length+5) (λo p b=>by simp at b;exact ej.inj b) ?_;rintro a ⟨hl,q⟩ c j;simp at j;simp[f83,j];refine gu a.jG.count.length D (λl c b=>∃i,iE 1 b/\b.get 0=some (dS 15 0 [a.t])/\dT c 1 (.ptr 0 0 0 0)/\dT c 3 (G i)/\dT c 4 (G l)) ?_ ?_ D ⟨0,⟨Y,Y,Y⟩,Y⟩
 ·rintro l c b k m ⟨i,g,d,e,h,f⟩;simp[d,e,f,k];refine fw (λn=>?_) (λn=>?_)
  ·simp[g.hp]
  ·simp[d,e,h,f,k,m,pP,g]
 ·rintro c b ⟨i,g,d,e,h,f⟩;simp[d,e,h,f,pP,g.hp]
def Ls(b:ej)(a:dZ):Prop:=BO a=true->ju a.cond b.fq.iB.length=true
def A2:o9 prog cx 84 (λa:ej=>[a.t]) (λa=>a.jG.fN.dW.length<=1000000/\a.jG.fN.dW.length=a.jG.count.length) (λa=>Ih (∀m∈a.jG.fN.dW,Ls a m)):=by
 refine jL [(125,GT)] (jr 162259279247065002620836359716991 [] func84) (λa=>a.jG.fN.dW.length+5) (λu b d=>by simp at d;exact ej.inj d) ?_;rintro a ⟨hl,v⟩ g o;simp at o;simp[f84,o];refine gu a.jG.fN.dW.length D (λc g d=>iE 1 d/\d.get 0=some (dS 15 0 [a.t])/\dT g 1 (.ptr 0 0 0 0)/\dT g 3 (sl (a.jG.fN.dW.map dZ.t))/\dT g 4 (G c)/\∀m∈a.jG.fN.dW.take c,Ls a m) ?_ ?_ D ⟨⟨Y,Y,Y⟩,Y⟩
 ·rintro c g d n q ⟨f,j,k,h,i,l⟩;have r:a.jG.fN.dW.take (c+1)=a.jG.fN.dW.take c++[a.jG.fN.dW[c]]:=aM n;have w:=f.ne (b:=0) D;simp[j,k,h,i,n,show c<a.jG.count.length by omega];refine fw (λe=>?_) (λe=>?_)
  ·simp[f.hp]
  clear e;simp[j,k,h,i,n,Ul];refine fw (λe=>?_) (λe=>?_)
  ·simp[f.hp]
  simp[j,k,h,i,q,f];generalize a.jG.fN.dW[c]=m at*
  rw[r];intro s hu;rcases List.mem_append.1 hu with hu|hu
  ·exact l s hu
  rw[List.mem_singleton.1 hu];intro p;unfold BO at p;rw[p]at e;simpa using e
 ·rintro g d ⟨f,j,k,h,i,l⟩;rw[aI]at l;simp[h,i,f.hp];exact l
def Zr(a:ej)(e d:Int):Prop:=∀first,qJ a.jG.count e=some first->first<=d->∃(c:Nat) (b:fk),oZ e a.dY 0 (IntKind.i64.wrap (d-first))=c/\a.dY[c]? =some b/\(b.kind=3\/b.kind=23)
def B6:o9 prog cx 86 (λd:ej×Int×List Int=>[d.1.t,G d.2.1,sl (d.2.2.map (T.int .i64))]) (λd=>d.1.dY.length<=1000000/\ju d.2.1 d.1.jG.count.length=true/\d.2.2.length<=1000000) (λd=>Ih (∀j∈d.2.2,Zr d.1 d.2.1 j)):=by
 refine jL [(73,CM)] (jr 576460752336982479 [] func86) (λd=>d.2.2.length+5) (λd b g=>by simp at g;exact aD (ej.inj g.1) (aD g.2.1 (jH (λ_ _ g=>by simpa using g) g.2.2))) ?_;rintro⟨e,f,c⟩ ⟨hl,A,M⟩ q C;simp only at hl A M;simp at C;obtain⟨K,l,i⟩:=C;have⟨h,y,F⟩:=iU A;have ht:=fy (fI.1 A).1;simp[f86,K];refine gu c.length D (λa q g=>iE 1 g/\g.get 0=some (dS 15 0 [e.t])/\dT q 1 (G f)/\dT q 2 (sl (c.map (T.int .i64)))/\dT q 3 (.ptr 0 0 0 0)/\dT q 7 (G a)/\∀j∈c.take a,Zr e f j) ?_ ?_ D ⟨⟨Y,Y,Y⟩,by simp[l,i]⟩
 ·rintro a q g v E ⟨o,r,l,i,s,n,w⟩;have N:c.take (a+1)=c.take a++[c[a]]:=aM v;have U:=o.ne (b:=0) D;have B:=λ{R:gG} (ht:R.p 73=some CM)=>YM ht e f (IntKind.i64.wrap (c[a]-h)) hl;have S:=V9 f e.dY 0 (IntKind.i64.wrap (c[a]-h));have step:Zr e f c[a]->∀j∈c.take (a+1),Zr e f j:=λk j H=>by
   rw[N]at H;rcases List.mem_append.1 H with z|z
   ·exact w j z
   ·rw[List.mem_singleton.1 z];exact k
  simp[r,l,i,s,n,v,ht,y];refine fw (λu=>?_) (λu=>?_)
  ·simp[r,l,i,s,n,E,o];refine step λfirst m J=>?_;rw[F]at m;simp only[ar]at m;simp at u;omega
  have O:decide (oZ f e.dY 0 (IntKind.i64.wrap (c[a]-h))<0)=true\/decide (oZ f e.dY 0 (IntKind.i64.wrap (c[a]-h))<0)=false/\kT (oZ f e.dY 0 (IntKind.i64.wrap (c[a]-h)))=some (oZ f e.dY 0 (IntKind.i64.wrap (c[a]-h))).toNat/\∃x,e.dY[(oZ f e.dY 0 (IntKind.i64.wrap (c[a]-h))).toNat]? =some x:=by
   by_cases k:oZ f e.dY 0 (IntKind.i64.wrap (c[a]-h))<0
   ·exact .inl (bI k)
   ·exact .inr ⟨aO k,fy D,_,az D⟩
  have Q:∀first,qJ e.jG.count f=some first->first=h:=λfirst m=>by rw[F]at m;simpa using m.symm
  generalize L:oZ f e.dY 0 (IntKind.i64.wrap (c[a]-h))=j at*
  rcases O with k|⟨k,P,x,I⟩
  ·simp[r,l,i,s,n,v,ht,y,tZ,B,o.hp,k]
  ·simp[r,l,i,s,n,v,ht,y,tZ,B,k,P,I];refine fw (λu=>?_) (λu=>?_)
   ·simp[o.hp]
   ·simp[r,l,i,s,n,E,o];refine step λfirst m J=>⟨j.toNat,x,?_,I,?_⟩
    ·rw[Q first m,L];simp at k;omega
    ·simp at u;grind
 ·rintro q g ⟨o,r,l,i,s,n,w⟩;rw[aI]at w;simp[i,n,o.hp];exact w
structure aim(w:ej):Prop where
 l1:w.jG.fN.fj.length<=1000000
 l2:w.jG.fN.dW.length<=1000000
 l3:∀l∈w.jG.fN.fj,l.fF.length<=1000000
 e:w.jG.fN.fj.length=w.fq.fj.length
 t:∀t∈w.jG.fN.dW,Ls w t
 m:∀c∈w.fq.iB,ju c.kY w.jG.fN.fj.length=true
def afh(c:ej)(e:Nat):Prop:=∀(a:Nat) (b:em) (d:ja),a<e->c.jG.fN.fj[a]? =some b->c.fq.fj[a]? =some d->b.fF≠ []->b.jl=-1/\d.rW=true
def CS:o9 prog cx 85 (λc:ej=>[c.t]) aim (λc=>Ih (vD c.fq c.jG.fN)):=by
 refine jL [(126,x6)] (jr 5575186465791384471966860632566831987622399 [] func85) (λc=>1000005) (λa b h=>by simp at h;exact ej.inj h) ?_;rintro c v g V;simp at V;simp[f85,V];refine gu c.jG.fN.fj.length (by have:=v.l1;omega) (λd g h=>afh c d/\iE 2 h/\h.get 0=some (dS 15 0 [c.t])/\h.get 1=some (dS 4 1 [c.jG.fN.t])/\dT g 1 (.ptr 0 0 0 0)/\dT g 3 (.ptr 1 0 0 0)/\dT g 4 (G d)) ?_ ?_ (by have:=v.l1;omega) ⟨λO _ _ ae=>by omega,⟨Y,Y,Y⟩,Y⟩
 ·rintro d g h E J ⟨R,i,q,o,f,j,u⟩;have x:=i.ne (b:=0) D;have H:=i.ne (b:=1) D;have aE:=v.l3 _ (aC E);have T:d<c.fq.fj.length:=by have:=v.e;omega
  simp[q,o,f,j,u,E,x,i.low,yu,T];have an:iE 2 (h.cons (dS 2 1 [c.jG.fN.fj[d].t])):=i.cons _;have aN:2<=h.size:=i.sz;have S:((c.jG.fN.fj[d].fF≠ []->c.jG.fN.fj[d].jl=-1/\c.fq.fj[d].rW=true))->afh c (d+1):=λn O l s ae hl K hr=>by
   by_cases r:O=d
   ·subst r;rw[az E]at hl;rw[az T]at K;simp only[ar]at hl K;subst hl;subst K;exact n hr
   ·exact R O l s D hl K hr
  generalize c.jG.fN.fj[d]=l at*
  refine fw (λk=>?_) (λk=>?_)
  ·simp[i.hp]
  replace S:=S λhr=>by
   have:=List.length_pos_iff.2 hr;simp at k;exact(k.2 this).symm
  clear k;simp;refine gu l.fF.length D (λn g w=>iE 2 w/\h.size<w.size/\w.get 0=some (dS 15 0 [c.t])/\w.get 1=some (dS 4 1 [c.jG.fN.t])/\w.get h.size=some (dS 2 1 [l.t])/\dT g 1 (.ptr 0 0 0 0)/\dT g 3 (.ptr 1 0 0 0)/\dT g 4 (G d)/\dT g 5 (.ptr h.size 0 0 0)/\dT g 6 (G n)) ?_ ?_ D ⟨an,Y,by simp[q,o,f,j,u,x,H]⟩
  ·rintro n g w Z W ⟨F,N,y,I,z,f,j,u,A,B⟩;have al:=lJ (a:=n) (b:=1) D D;have L:decide (0<n)=false/\True/\(∃s:Int,s=s)\/decide (0<n)=true/\kT ((n:Int)-1)=some (n-1)/\∃s,l.fF[n-1]? =some s:=by
    by_cases r:0<n
    ·refine .inr ⟨bI r,?_,_,az D⟩;rw[show(n:Int)-1=((n-1:Nat):Int)by omega];exact fy D
    ·exact .inl ⟨aO r,trivial,0,rfl⟩
   rcases L with⟨r,_,s,M⟩|⟨r,Q,s,M⟩
   ·simp[y,z,f,A,B,Z,yu,r];refine fw (λk=>?_) (λk=>?_)
    ·simp[F.hp]
    ·simp[y,I,z,f,j,u,A,B,W,F,N]
   ·simp[y,z,f,A,B,Z,yu,r,Q,M,al];refine fw (λk=>?_) (λk=>?_)
    ·simp[F.hp]
    ·simp[y,I,z,f,j,u,A,B,W,F,N]
  ·rintro g w ⟨F,N,y,I,z,f,j,u,A,B⟩;simp[y,I,z,f,j,u,A,B,J,F,S]
 ·rintro g h ⟨R,i,q,o,f,j,u⟩;have aA:vD c.fq c.jG.fN:=λd l s hl=>R d l s (List.getElem?_eq_some_iff.1 hl).1 hl;simp[q,o,f,j,u,yu];refine fw (λk=>?_) (λk=>?_)
  ·simp[i.hp]
  clear k;simp;refine gu c.jG.fN.dW.length (by have:=v.l2;omega) (λd g h=>iE 2 h/\h.get 0=some (dS 15 0 [c.t])/\h.get 1=some (dS 4 1 [c.jG.fN.t])/\dT g 1 (.ptr 0 0 0 0)/\dT g 3 (.ptr 1 0 0 0)/\dT g 7 (G d)) ?_ ?_ (by have:=v.l2;omega) ⟨i,by simp[q,o,f,j]⟩
  ·rintro d g h E J ⟨i,q,o,f,j,C⟩;have x:=i.ne (b:=0) D;have H:=i.ne (b:=1) D;have ht:=v.t _ (aC E);simp[q,o,f,j,C,E,x,i.low,yu];refine fw (λk=>?_) (λk=>?_)
   ·simp[i.hp]
   clear k;have L:BO c.jG.fN.dW[d]=false/\True/\True/\(∃p:jq,p=p/\∃l:em,l=l)\/BO c.jG.fN.dW[d]=true/\kT c.jG.fN.dW[d].cond=some c.jG.fN.dW[d].cond.toNat/\True/\(∃p,c.fq.iB[c.jG.fN.dW[d].cond.toNat]? =some p/\kT p.kY=some p.kY.toNat/\∃l,c.jG.fN.fj[p.kY.toNat]? =some l):=by
    cases r:BO c.jG.fN.dW[d]
    ·exact .inl ⟨rfl,trivial,trivial,default,rfl,default,rfl⟩
    ·have f:=ht r;have⟨p,X,_⟩:=iU f;have U:=v.m p (ay X);have⟨l,hl,_⟩:=iU U;exact .inr ⟨rfl,fy (fI.1 f).1,trivial,p,X,fy (fI.1 U).1,l,hl⟩
   unfold BO at L;rcases L with⟨P,_,_,p,_,l,_⟩|⟨P,Q,_,p,M,ap,l,av⟩
   ·simp[q,o,f,j,C,x,H,P,J,i.cons]
   ·simp[q,o,f,j,C,x,H,P,Q,M,ap,av];refine fw (λk=>?_) (λk=>?_)
    ·simp[i.hp]
    ·simp[q,o,f,j,C,x,H,J,i.cons]
  ·rintro g h ⟨i,q,o,f,j,C⟩;simp[o,j,C,i.hp,aA]
structure afz(w:ej):Prop where
 c:w.jG.count.length<=1000
 ev:w.dY.length<=1000000
 l:w.jG.fN.fj.length<=1000
 t:w.jG.fN.dW.length<=1000
 d:w.jG.fN.done.length<=1000
 f:w.jG.fa.length<=1000
 r:∀l∈w.jG.fN.fj,l.fF.length<=1000
 sm:sR 1000 w.jG
 wb:kv w.fq=true
 es:ML w.dY
def rdX(c:ej)(a:fk):Prop:=∀b first,b∈a.mE\/b∈a.tQ->qJ c.jG.count a.eg=some first->first<=b->∃(e:Nat) (d:fk),oZ a.eg c.dY 0 (b-first)=e/\c.dY[e]? =some d/\(d.kind=3\/d.kind=23)
def Zq{d:ej}{g:fJ}{b:fk}(q:sR 1000 d.jG)(t:sR 2000 g)(h:pk d.fq g b=true)(l:∀a∈b.mE,Zr d b.eg a)(m:∀a∈b.tQ,Zr d b.eg a):rdX d b:=by
 intro a first j f n
 unfold pk at h;simp only[ax]at h;obtain⟨⟨⟨_,o⟩,p⟩,_⟩:=h;have e:1<=a/\a<g.count.getD b.eg.toNat 0:=j.elim (EO o) (EO p);have hr:Zr d b.eg a:=j.elim (l a) (m a);have⟨r,u,k,s⟩:=hr first f n
 have w:=q.c first (by
  unfold qJ at f;split at f
  ·exact ay f
  ·simp at f)
 have x:a<3000:=by
  rw[bQ]at e;cases i:g.count[b.eg.toNat]? with
  |none=>rw[i]at e;simp at e;omega
  |some v=>
   rw[i]at e;have:=t.c v (ay i);simp at e;omega
 rw[Du D D]at k;exact⟨r,u,k,s⟩
def GY:o9 prog cx 40 (λd:ej=>[d.t]) (λd=>afz d/\mD d.fq d.jG=true/\d.dY.length<=16) (λd=>Ih (vD d.fq d.jG.fN/\RdW d)):=by
 refine jL [(81,zO),(82,yH),(83,EL.jX),(84,A2.jX),(85,CS.jX),(80,oH),(86,B6.jX)] (jr 324518553667945246868126660821503 [] func40) (λd=>1000005) (λa b g=>by simp at g;exact ej.inj g) ?_;rintro d ⟨i,Z,aN⟩ k W;simp at W;have ae:=Z;unfold mD at ae;simp only[ax,aK]at ae;obtain⟨⟨⟨b6,_⟩,c9⟩,bX⟩:=ae;have N:=b6;unfold mn at N;simp only[ax,aK]at N;have⟨dd,de,di,dk,dm,dn⟩:=kW i.wb;have b7:∀o∈d.fq.iB,ju o.kY d.jG.fN.fj.length=true:=λo bT=>by
  rw[N.1.1.2];exact List.all_eq_true.1 N.1.1.1 o bT
 have aE:d.fq.iB.length<=1099511627776:=D;have bi:kv d.fq=true:=i.wb;obtain⟨_,⟨c1,rfl⟩,av⟩:=EL.use d ⟨by have:=i.c;omega,i.ev⟩;obtain⟨_,⟨bu,rfl,bS⟩,aA⟩:=A2.use d ⟨by have:=i.t;omega,D⟩;cases bu with
 |false=>simp[f40,W,By,IT,bi,Z,av,aA,aE]
 |true=>
 obtain⟨_,⟨c4,rfl,bN⟩,bA⟩:=CS.use d ⟨by have:=i.l;omega,by have:=i.t;omega,λca s=>by have:=i.r ca s;omega,D,bS rfl,b7⟩;simp[f40,W,By,IT,bi,Z,av,aA,bA,aE];refine fw (λq=>?_) (λq=>?_)
 ·simp
 have cF:vD d.fq d.jG.fN:=bN (by simp at q;exact q.2);clear q;simp;refine gu d.jG.fa.length (by have:=i.f;omega) (λe k g=>iE 1 g/\g.get 0=some (dS 15 0 [d.t])/\dT k 1 (.ptr 0 0 0 0)/\dT k 3 (G e)) ?_ ?_ (by have:=i.f;omega) ⟨⟨Y,Y,Y⟩,Y⟩
 ·rintro e k g x X ⟨v,y,j,J⟩;have bW:e<d.jG.fN.done.length:=D;simp[y,j,J,x,bW];refine fw (λq=>?_) (λq=>?_)
  ·simp[v.hp]
  ·simp[y,j,J,X,v]
 rintro k g ⟨v,y,j,J⟩;have cb:=v.ne (b:=0) D;simp[y,j,J,v.low];have⟨S,c6⟩:∃S,g.size=S:=⟨_,rfl⟩;have c7:1<=S:=by have:=v.sz;omega
 refine gu d.dY.length D (λe k h=>∃R m,sR (1000+e) m/\iE 1 h/\g.size<h.size/\h.get 0=some (dS 15 0 [d.t])/\h.get g.size=some (dS 7 R [m.t])/\dT k 1 (.ptr 0 0 0 0)/\dT k 4 (.ptr g.size 0 0 0)/\dT k 5 (G e)/\∀u∈d.dY.take e,rdX d u) ?_ ?_ D ⟨1,d.jG,i.sm,v.cons _,Y,by simp[y,j,cb]⟩
 ·rintro e k h x X ⟨R,m,Q,w,b9,A,I,j,K,C,O⟩;have bn:=w.ne (b:=0) D;have bp:(g.size=h.size)=False:=dN;have M:=i.es d.dY[e] (aC x);have B:=λ{cX:gG} (ht:cX.p 80=some oH)=>DM ht d.fq m d.dY[e] D (Q.up D) M.1 M.2;have an:iE 1 ((h.cons (dS 7 1 [d.dY[e].t])).cons (dS 7 0 [T.agg [T.ed [] false,T.int .i64 0,T.ed [] false,T.ed [] false,T.ed [] false,T.ed [] false,T.ed [] false]])):=(w.cons _).cons _;have H:=nM an.hp (show h.size+1<_ by simp);cases s:pk d.fq m d.dY[e]with
  |false=>
   rw[mJ s]at B;simp[A,I,j,K,C,x,bn,bp,w.low,B,w.hp]
  |true=>
   have a7:ke d.fq m d.dY[e]=(ko d.fq m d.dY[e],true):=by unfold ke;rw[aq s]
   have cL:sR (1000+(e+1)) (ko d.fq m d.dY[e]):=by have:=Q.step d.fq d.dY[e];rw[a7]at this;exact this
   rw[a7]at B;have a8:ju d.dY[e].eg d.jG.count.length=true:=by
    unfold pk at s;simp only[ax]at s;rw[bX];exact s.1.1.1.1.1.1.1.1.2
   obtain⟨_,⟨r1,rfl,aX⟩,U⟩:=B6.use (d,d.dY[e].eg,d.dY[e].mE) ⟨dO,a8,M.1⟩;obtain⟨_,⟨r2,rfl,a6⟩,V⟩:=B6.use (d,d.dY[e].eg,d.dY[e].tQ) ⟨dO,a8,M.2⟩;simp only at U V aX a6;have b8:r1=true->r2=true->∀u∈d.dY.take (e+1),rdX d u:=λa b u L=>by
    rw[aM x]at L;rcases List.mem_append.1 L with z|z
    ·exact O u z
    ·rw[List.mem_singleton.1 z];exact Zq i.sm (Q.up D) s (aX a) (a6 b)
   simp[A,I,j,K,C,x,bn,bp,w.low,B,U,V,H];generalize F:fg _ (h.size+1) _=E;have al:iE 1 E:=by rw[<-F];exact an.put _ _
   have ds:E.size=h.size+1+1:=by rw[<-F];simp
   have ap:∀o,o≠h.size+1->o≠h.size->E.get o=h.get o:=λo bs cp=>by rw[<-F,H,ao bs];simp[bs,cp]
   have bB:=(ap 0 D D).trans A;have bC:=(ap g.size D D).trans I;have bH:E.get (h.size+1)=some (dS 7 1 [(ko d.fq m d.dY[e]).t]):=by rw[<-F,H,aq rfl]
   clear F H an B U V;refine fw (λq=>?_) (λq=>?_)
   ·simp[al.hp]
   ·simp[bC,bH,j,K,C,X];have P:=nM al.hp (show g.size<E.size by omega);exact⟨R+1,_,cL,al.put _ _,D,(P _ 0).trans ((ao D).trans bB),(P _ g.size).trans (aq rfl),b8 (by grind) (by grind)⟩
 ·rintro k h ⟨R,m,Q,w,b9,A,I,j,K,C,O⟩;rw[aI]at O;simp[A,j,C,w.hp,cF];exact λe u n first L aN=>O u (ay L) n first aN
