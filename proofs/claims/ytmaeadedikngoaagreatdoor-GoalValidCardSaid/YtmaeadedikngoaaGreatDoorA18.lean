/- Texts X07 to W08f. -/
import Derived.Test.YtmaeadedikngoaaGreatDoorA17
set_option linter.unusedVariables false
set_option linter.unusedSimpArgs false
set_option linter.defProp false
set_option maxRecDepth 100000
set_option maxHeartbeats 8000000
namespace Go.Proofs.YtmaeadedikngoaaGreatDoor
noncomputable section
open Go Go.TI
attribute [-simp] List.map_take List.map_drop List.map_append fj eG dY Bool.not_or Bool.not_and
attribute [simp] fh eJ
def L5(b c:H)(f:Nat)(e:List (T×aa (Nat×List T))):Prop:=∃d g,m9 c d f g e/\(∀a,Fp c d a->b.size<=a)/\gu b.size c/\∀a,a<b.size->c.get a=b.get a
def L5.of{b f d:H}{e j k:Nat}{h:List (T×aa (Nat×List T))}(n:m9 d e j k h)(c:Step e f d)(i:∀a,Fp f e a->b.size<=a)(l:b.size<=f.size)(m:∀a,a<b.size->f.get a=b.get a):L5 b (lA b d) j h:=
 ⟨e,k,n.step ((gu.out ⟨c.ok.hp,c.ok.low,aw _⟩ b)) λa _=>fK b d a,λa g=>by
   rw[iE (fK b d e)]at g;rcases c.fp a g with q|q
   ·exact i a q
   ·omega,gu.out ⟨c.ok.hp,c.ok.low,aS l c.ok.sz⟩ b,λa g=>(fK b d a).trans ((c.get a dj λq=>by have:=i a q;omega).trans (m a g))⟩
def pS8(a:dR)(b:List T)(c:H):Prop:=b=[a.t]/\gu 0 c/\a.dV.length<=1000000/\a.dT.length<=1000000/\a.dB.length<=1000000
def yD(b:Nat):List dD:=(List.range b).map λa=>⟨if a=0 then 1 else 0,0,false⟩
def KL(a:Nat):yD (a+1)=yD a++[⟨if a=0 then 1 else 0,0,false⟩]:=by
 unfold yD;rw[List.range_succ,List.map_append];rfl
def qS8(a:dR)(_:List T)(e:H)(g:T)(f:H):Prop:=∃b c d,g= .agg [b,dw (-1),c,d]/\L5 e f 4 [(b,some (2,(List.replicate a.dV.length ()).map xF)),(dw (-1),none),(c,some (1,(List.replicate a.dT.length false).map T.bool)),(d,some (3,(yD a.dB.length).map dD.t))]
def Sz8(e:Nat)(f:H)(Lk:List Unit)(a:List Bool)(Th:List dD):Prop:=∃g b c d,m9 f e 4 g [(b,some (2,Lk.map xF)),(dw (-1),none),(c,some (1,a.map T.bool)),(d,some (3,Th.map dD.t))]
def ab4:(jp dR pS8 qS8).Ok Tryz.prog cx 73:=by
 refine jk (tb:=⟨pt [],ht []⟩) ei eg (iL 9071038046463 [] Tryz.func73) (λ_ _=>1000005) (λe a h aE=>by obtain⟨rfl,_⟩:=aE;simp[Tryz.f73]) ?_;rintro(w:dR) _ h ⟨rfl,ap,hl,bl,ht⟩ d Z;simp at Z;simp[Tryz.f73,Z];generalize M:dQ _ _ _=p;have N:gu 0 p:=by rw[<-M];exact(((ap.hr.cons _).cons _).cons _).put _ _
 have bs:p.size=h.size+3:=by rw[<-M];simp
 have J:∀j,p.get j=if j=h.size+2 then some (dy 4 1 [.agg [dx,dw (-1),dx,dx]])else if j=h.size+1 then some uF else if j=h.size then some (dy 6 0 [w.t])else h.get j:=λj=>by
  rw[<-M,md (((ap.hr.cons _).cons _).cons _).hp dp,dM,dM,dM,fX];simp only[size_cons,ng];by_cases K:j=h.size+2<;>simp[K,uF]
 obtain⟨a7,O⟩:=m9.start (h:=p) (w:=h.size+2) (szw:=4) (ver:=1) (F:=[(dx,some (2,[])),(dw (-1),none),(dx,some (1,[])),(dx,some (3,[]))]) N (by rw[J,aq rfl];rfl) dp;have I:Lb (h.size+2) p h.size (dy 6 0 [w.t]):=⟨by rw[J,ao dj,ao dj,aq rfl],λK=>by have:=O _ K;omega⟩;have aX:Lb (h.size+2) p (h.size+1) uF:=⟨by rw[J,ao dj,aq rfl],λK=>by have:=O _ K;omega⟩;have a6:∀j,j<h.size->p.get j=h.get j:=λj E=>by rw[J,ao dj,ao dj,ao dj]
 clear M J;refine fc w.dV.length dj (λe d g=>Sz8 (h.size+2) g (List.replicate e ()) [] []/\Step (h.size+2) p g/\dz d 1 (.ptr h.size 0 0 0)/\dz d 2 (.ptr (h.size+1) 0 0 0)/\dz d 3 (.ptr (h.size+2) 0 0 0)/\dz d 4 (dw e)) ?_ ?_ dj ⟨⟨_,_,_,_,a7⟩,Step.refl N,dp⟩
 ·rintro e d g G D ⟨⟨ver,r,s,z,b⟩,c,i,k,l,m⟩;have o:=b.get;simp at o;obtain⟨q,u,n,y⟩:=(b.gr 0 rfl).mM (cx:=cx) (f:=xF) b.ok I3 rfl Ff rfl dp (λ_=>rfl) () dq;obtain⟨v,S,B⟩:=b.app 0 rfl y;obtain⟨C,A⟩:=B _ rfl;simp only[<-List.replicate_succ']at A;simp[-List.map_replicate]at v C A;simp only[xF]at n;simp[i,k,l,m,G,(I.step c).get,o,n,v,dP,y.1.gD,y.1.cells,D];exact⟨⟨_,_,_,_,A⟩,c.trans C⟩
 rintro d g ⟨⟨ver,r,s,z,b⟩,c,i,k,l,m⟩;simp[i,m,(I.step c).get];refine fc w.dT.length dj (λe d g=>Sz8 (h.size+2) g (List.replicate w.dV.length ()) (List.replicate e false) []/\Step (h.size+2) p g/\dz d 1 (.ptr h.size 0 0 0)/\dz d 2 (.ptr (h.size+1) 0 0 0)/\dz d 3 (.ptr (h.size+2) 0 0 0)/\dz d 5 (dw e)) ?_ ?_ dj ⟨⟨_,_,_,_,b⟩,c,by simp[i,k,l]⟩
 ·clear b c i k l m;rintro e d g G D ⟨⟨ver,r,s,z,b⟩,c,i,k,l,m⟩;have o:=b.get;simp at o;obtain⟨q,u,n,y⟩:=(b.gr 2 rfl).mM (cx:=cx) (f:=T.bool) b.ok Fe rfl OL rfl dp dp false dq;obtain⟨v,S,B⟩:=b.app 2 rfl y;obtain⟨C,A⟩:=B _ rfl;simp only[<-List.replicate_succ']at A;simp[-List.map_replicate]at v C A;simp[i,k,l,m,G,(I.step c).get,o,n,v,dP,y.1.gD,y.1.cells,D];exact⟨⟨_,_,_,_,A⟩,c.trans C⟩
 clear b c i k l m;rintro d g ⟨⟨ver,r,s,z,b⟩,c,i,k,l,m⟩;simp[i,m,(I.step c).get];refine fc w.dB.length dj (λe d g=>Sz8 (h.size+2) g (List.replicate w.dV.length ()) (List.replicate w.dT.length false) (yD e)/\Step (h.size+2) p g/\dz d 1 (.ptr h.size 0 0 0)/\dz d 2 (.ptr (h.size+1) 0 0 0)/\dz d 3 (.ptr (h.size+2) 0 0 0)/\dz d 6 (dw e)) ?_ ?_ dj ⟨⟨_,_,_,_,b⟩,c,by simp[i,k,l]⟩
 ·clear b c i k l m;rintro e d g G D ⟨⟨ver,r,s,z,b⟩,c,i,k,l,m⟩;have o:=b.get;simp at o;have bu:=c.ok.sz;have bn:(h.size=g.size)=False:=dq;have ae:(h.size+2=g.size)=False:=dq;have an:=(I.step c).get;have al:∀L,∃q u,iK cx ((g.cons (dy 3 L [dD.t ⟨if e=0 then 1 else 0,0,false⟩])).cons (dy 3 0 [dD.t ⟨if e=0 then 1 else 0,0,false⟩])) 34 34 z (.arr (g.size+1) 0 0 1 false)=some (.val q u)/\q.gD=true/\q.cells=[q]/\u.get (h.size+2)=some (dy 4 ver [.agg [r,dw (-1),s,z]])/\ew (g.cons (dy 3 L [dD.t ⟨if e=0 then 1 else 0,0,false⟩])) u (h.size+2)=true/\Sz8 (h.size+2) (dQ u (h.size+2) (dy 4 (ver+1) [.agg [r,dw (-1),s,q]])) (List.replicate w.dV.length ()) (List.replicate w.dT.length false) (yD (e+1))/\Step (h.size+2) p (dQ u (h.size+2) (dy 4 (ver+1) [.agg [r,dw (-1),s,q]])):=λL=>by
   have Y:=b.cons (dy 3 L [dD.t ⟨if e=0 then 1 else 0,0,false⟩]);have bk:=Step.cons b.ok b.lt (dy 3 L [dD.t ⟨if e=0 then 1 else 0,0,false⟩]);obtain⟨q,u,n,y⟩:=(Y.gr 3 rfl).mM (cx:=cx) (f:=dD.t) Y.ok Cf rfl AR rfl dp (λ_=>rfl) (⟨if e=0 then 1 else 0,0,false⟩:dD) (by simp[yD];omega);obtain⟨v,S,B⟩:=Y.app 3 rfl y;obtain⟨C,A⟩:=B _ rfl;rw[<-KL]at C A;rw[size_cons]at n;exact⟨q,u,n,y.1.gD,y.1.cells,v,S,⟨_,_,_,_,A⟩,(c.trans bk).trans C⟩
  by_cases P:e=0
  ·subst P;obtain⟨q,u,n,v,B,U,V,W,X⟩:=al 2;simp at n V;have av:binop .add (dw 0) (dw 1)=some (dw 1):=by simpa using D
   simp[i,k,l,m,G,an,o,ae,b.ok.low,n,v,B,U,dP,av];exact⟨W,X⟩
  ·obtain⟨q,u,n,v,B,U,V,W,X⟩:=al 1;simp[P]at n V;simp[i,k,l,m,P,G,an,o,ae,b.ok.low,n,v,B,U,dP,D];exact⟨W,X⟩
 clear b c i k l m;rintro d g ⟨⟨ver,r,s,z,b⟩,c,i,k,l,m⟩;have o:=b.get;simp at o;have Q:=aX.step c;have R:=Q.get;unfold uF at R;have a8:=b.rn Q (dy 4 1 [.agg [r,dw (-1),s,z]]);have aA:(dQ g (h.size+1) (dy 4 1 [.agg [r,dw (-1),s,z]])).get (h.size+1)=_:=(dE R _ _).trans (aq rfl);simp[i,k,l,m,(I.step c).get,o,R,dP,aA,-List.map_replicate];have bi:Step (h.size+2) h p:=⟨⟨N.hp,N.low,dj⟩,λj E _=>a6 j E,λj E=> .inr (by have:=O j E;omega)⟩;exact⟨r,s,z,rfl,L5.of a8 (Step.rn b.ok Q _ h (bi.trans c) dj) (λj E=>by
  rcases E with rfl|⟨x,aN,_⟩
  ·omega
  ·have:=H.ej aN;omega) (au _) λ_ _=>rfl⟩
def Ij(a:dR)(b:List T)(c:H):Prop:=b=[a.t]/\gu 0 c/\a.dV.length<=1000000/\a.dT.length<=1000000/\a.dB.length<=1000000/\a.cells.length<=1000000
def P8(a:dR)(c d e f g h:T)(b:List Int):List (T×aa (Nat×List T)):=[(c,some (2,(List.replicate a.dV.length ()).map xF)),(dw (-1),none),(d,some (1,(List.replicate a.dT.length false).map T.bool)),(e,some (3,(yD a.dB.length).map dD.t)),(f,some (1,b.map (T.int .i64))),(g,some (1,(List.replicate a.dT.length 0).map (T.int .i64))),(h,some (1,(List.replicate a.dB.length 0).map (T.int .i64)))]
def Ib(g:dR)(_:List T)(h:H)(j:T)(i:H):Prop:=∃a b c d e f,j= .agg [a,dw (-1),b,c,d,e,f]/\L5 h i 7 (P8 g a b c d e f (g.cells.map fZ.jG))
def YG:(jp dR Ij Ib).Ok Tryz.prog cx 41:=by
 refine jk (tb:=⟨pt [],ht [(73,jp dR pS8 qS8)]⟩) ei eg (iL 1048607 [(1,[(1,3),(1,5),(1,7),(1,9),(1,11)])] Tryz.func41) (λ_ _=>1000005) (λp s h ca=>by obtain⟨rfl,_⟩:=ca;simp[Tryz.f41]) ?_;rintro(d:dR) _ h ⟨rfl,c1,hl,E,ht,j⟩ y k;simp at k;have bs:d.dT.length*8<=70368744177664:=dj;have bu:d.dB.length*8<=70368744177664:=dj;simp[Tryz.f41,k];generalize z:((TI.hr h).cons _).cons _=u;have c4:gu 0 u:=by rw[<-z];exact(c1.hr.cons _).cons _
 refine lJ ab4 dp d ⟨rfl,c4,hl,E,ht⟩ ?_;rintro _ c ⟨m,n,o,rfl,g,Q,i,bB,an,P⟩;have dm:u.size=h.size+2:=by rw[<-z];simp
 have dk:=an.sz;rw[dm]at dk;have dd:u.get h.size=some (dy 6 0 [d.t]):=by rw[<-z];simp
 have de:u.get (h.size+1)=some mO:=by rw[<-z];simp[mO]
 have di:∀a,a<h.size->u.get a=h.get a:=λa j=>by rw[<-z,dM,ao dq,dM,ao dq,fX]
 clear z;have a0:=(P h.size dj).trans dd;have a1:=(P (h.size+1) dj).trans de;have bi:=eZ (P h.size dj);have cL:(h.size=c.size)=False:=dq;have dv:(h.size=c.size+1)=False:=dq;have bn:ew u c (c.size+1+1)=true:=iR (lf _ dj);have L:=λp a aA R (F: [(m,some (2,(List.replicate d.dV.length ()).map xF)),(dw (-1),none),(n,some (1,(List.replicate d.dT.length false).map T.bool)),(o,some (3,(yD d.dB.length).map dD.t))][p]? =some (a,some (aA,R)))=>And.intro (i.gr p F).gD (i.gr p F).cells;have bH:=L 0 m _ _ rfl;have bN:=L 2 n _ _ rfl;have bS:=L 3 o _ _ rfl;have bk:ew u c c.size=true:=iR (lf _ dj);have bl:ew u c (c.size+1)=true:=iR (lf _ dj);simp[bs,bu,a0,bi,cL,bk,bl,bn];generalize M:dQ _ _ _=r;have HI:gu 0 c:=⟨an.hp,an.low,aw _⟩;have In:gu 0 r:=by rw[<-M];exact(((HI.cons _).cons _).cons _).put _ _
 have ec:r.size=c.size+3:=by rw[<-M];simp
 have D:∀a,r.get a=if a=c.size+2 then some (dy 7 1 [.agg [m,dw (-1),n,o,dx,.arr c.size 0 0 d.dT.length false,.arr (c.size+1) 0 0 d.dB.length false]])else if a=c.size+1 then some ⟨1,0,0,true,false,List.replicate d.dB.length (dw 0)⟩else if a=c.size then some ⟨1,0,0,true,false,List.replicate d.dT.length (dw 0)⟩else c.get a:=λa=>by
  rw[<-M,md (((HI.cons _).cons _).cons _).hp dp,dM,dM,dM];simp only[size_cons];by_cases q:a=c.size+2
  ·simp[q]
  ·by_cases B:a=c.size+1<;>by_cases c6:a=c.size<;>simp[q,B,c6]
 clear M;have O:∀a,a<c.size->r.get a=c.get a:=λa q=>by rw[D,ao dj,ao dj,ao dj]
 have N:∀(l:Nat) s,(P8 d m n o dx (.arr c.size 0 0 d.dT.length false) (.arr (c.size+1) 0 0 d.dB.length false) [])[l]? =some s->∀a,dL s.1=some a->(l<4/\[(m,some (2,(List.replicate d.dV.length ()).map xF)),(dw (-1),none),(n,some (1,(List.replicate d.dT.length false).map T.bool)),(o,some (3,(yD d.dB.length).map dD.t))][l]? =some s/\h.size+2<=a/\a<c.size)\/(l=5/\a=c.size)\/(l=6/\a=c.size+1):=by
  intro l s k a j;have ce:=λ(G: [(m,some (2,(List.replicate d.dV.length ()).map xF)),(dw (-1),none),(n,some (1,(List.replicate d.dT.length false).map T.bool)),(o,some (3,(yD d.dB.length).map dD.t))][l]? =some s)=>And.intro G (And.intro (show h.size+2<=a by have:=bB a (i.AO (ax G) j);omega) (i.fp a (i.AO (ax G) j)));unfold P8 at k;rcases l with _|_|_|_|_|_|_|l
  iterate 4 exact .inl ⟨dj,ce k⟩
  ·simp at k;subst k;simp at j
  ·simp at k;subst k;simp at j;exact .inr (.inl ⟨rfl,j.symm⟩)
  ·simp at k;subst k;simp at j;exact .inr (.inr ⟨rfl,j.symm⟩)
  ·simp at k
 have aN:m9 r (c.size+2) 7 1 (P8 d m n o dx (.arr c.size 0 0 d.dT.length false) (.arr (c.size+1) 0 0 d.dB.length false) []):=by
  refine⟨In,by rw[D,aq rfl];rfl,λf E=> ?_,λl J b9 s b k b6 a A B=>b9 ?_⟩
  ·have al:=λp a aA R (F: [(m,some (2,(List.replicate d.dV.length ()).map xF)),(dw (-1),none),(n,some (1,(List.replicate d.dT.length false).map T.bool)),(o,some (3,(yD d.dB.length).map dD.t))][p]? =some (a,some (aA,R)))=>(i.gr p F).mono (h':=r) λq cb=>O q (i.fp q (i.AO (ax F) cb));unfold P8 at E;simp only[ci,cY,or_false]at E;rcases E with rfl|rfl|rfl|rfl|rfl|rfl|rfl
   ·exact⟨al 0 _ _ _ rfl,show(2:Nat)≠7 by decide⟩
   ·show dL _=none;simp
   ·exact⟨al 2 _ _ _ rfl,show(1:Nat)≠7 by decide⟩
   ·exact⟨al 3 _ _ _ rfl,show(3:Nat)≠7 by decide⟩
   ·exact⟨Gr.nil _ _,show(1:Nat)≠7 by decide⟩
   ·exact⟨.inr ⟨c.size,0,0,true,_,dp,by rw[D,ao dj,ao dj,aq rfl],dp⟩,show(1:Nat)≠7 by decide⟩
   ·exact⟨.inr ⟨c.size+1,0,0,true,_,dp,by rw[D,ao dj,aq rfl],dp⟩,show(1:Nat)≠7 by decide⟩
  ·rcases N l s k a A with⟨a7,Y,dn,ds⟩|⟨a7,Y⟩|⟨a7,Y⟩<;>rcases N J b b6 a B with⟨r1,r2,r3,r4⟩|⟨r1,r2⟩|⟨r1,r2⟩<;>try omega
   exact Decidable.byContradiction λe=>i.Tf l J e s b Y r2 a A B
 have S:∀a,Fp r (c.size+2) a->h.size+2<=a:=by
  rintro a (rfl|⟨x,I,v,a6,q⟩)
  ·omega
  ·rw[aN.get]at I;simp only[ar]at I;subst I;simp only[eQ,cB,cX,cg,T.cells]at a6;obtain⟨f,b7,rfl⟩:=List.mem_map.1 a6;obtain⟨l,G,b8⟩:=List.mem_iff_getElem.1 b7;rcases N l f (by rw[az G,b8]) a q with⟨_,_,J,_⟩|⟨_,J⟩|⟨_,J⟩<;>omega
 have a8:Lb (c.size+2) r h.size (dy 6 0 [d.t]):=⟨(O _ dj).trans a0,λq=>by have:=S _ q;omega⟩;have cp:Lb (c.size+2) r (h.size+1) mO:=⟨(O _ dj).trans a1,λq=>by have:=S _ q;omega⟩;have c9:Step (c.size+2) h r:=⟨⟨In.hp,In.low,dj⟩,λa j _=>(O a dj).trans ((P a dj).trans (di a j)),λa j=> .inr (by have:=S a j;omega)⟩;clear D N L bH bN bS bk bl bn bi;refine fc d.cells.length dj (λp y K=>(∃Q a,m9 K (c.size+2) 7 Q (P8 d m n o a (.arr c.size 0 0 d.dT.length false) (.arr (c.size+1) 0 0 d.dB.length false) ((d.cells.take p).map fZ.jG)))/\Step (c.size+2) r K/\dz y 1 (.ptr h.size 0 0 0)/\dz y 2 (.ptr (h.size+1) 0 0 0)/\dz y 3 (.ptr (c.size+2) 0 0 0)/\dz y 4 (dw p)) ?_ ?_ dj ⟨⟨_,_,aN⟩,Step.refl In,dp⟩
 ·rintro p y K aX bT ⟨⟨Q,a,i⟩,C,U,V,W,X⟩;have w:=i.get;unfold P8 at w;simp at w;obtain⟨eb,h',bz,aE⟩:=(i.gr 4 rfl).mM (cx:=cx) (f:=T.int .i64) i.ok og rfl yh rfl dp (λ_=>rfl) d.cells[p].jG dq;obtain⟨A,ea,B⟩:=i.app 4 rfl aE;obtain⟨av,ap⟩:=B _ rfl;unfold P8 at A av ap;simp only[aR,cm,cV,cJ]at A av ap;simp[U,V,W,X,aX,(a8.step C).get,w,bz,A,dP,aE.1.gD,aE.1.cells,bT];exact⟨⟨_,_,by unfold P8;rw[aU aX,List.map_append];exact ap⟩,C.trans av⟩
 rintro y K ⟨⟨Q,a,i⟩,C,U,V,W,X⟩;rw[aL]at i;have w:=i.get;unfold P8 at w;simp at w;have Z:=cp.step C;have ae:=Z.get;unfold mO at ae;have c7:=i.rn Z (dy 7 1 [.agg [m,dw (-1),n,o,a,.arr c.size 0 0 d.dT.length false,.arr (c.size+1) 0 0 d.dB.length false]]);have bC:(dQ K (h.size+1) (dy 7 1 [.agg [m,dw (-1),n,o,a,.arr c.size 0 0 d.dT.length false,.arr (c.size+1) 0 0 d.dB.length false]])).get (h.size+1)=_:=(dE ae _ _).trans (aq rfl);simp[U,V,W,X,(a8.step C).get,w,ae,dP,bC,-List.map_replicate];exact⟨m,n,o,_,_,_,rfl,L5.of c7 (Step.rn i.ok Z _ h (c9.trans C) dj) (λa j=>by
  rcases j with rfl|⟨x,I,_⟩
  ·omega
  ·have:=H.ej I;omega) (au _) λ_ _=>rfl⟩
end
noncomputable section
open Go Go.TI
noncomputable abbrev gN(a:Func)(b:Nat):pF:=gq cx a b false
noncomputable abbrev gK(a:Func)(b:Nat):pF:=gq cx a b true
def gO{b:aj}{a:Func}{d:Nat}{c:Bool}(e:Tryz.prog.funcs[b]? =some a)(f:ww ⟨a,d,c,none⟩=true:=by kernel_rfl):lI Tryz.prog cx b (gq cx a d c):=acJ ei eg e f
def ZD:pF:=λ_ _ a b=>Bn ((.clone 1 1)) a b
def Q1:lI Tryz.prog cx 125 ZD:=wU (u7 (fn:=Tryz.f125) (t:=33) (tb:=4) (te:=Xo) eg Tryz.func125 (by kernel_rfl) (by kernel_rfl) (by kernel_rfl) (by kernel_rfl) (by kernel_rfl) (by kernel_rfl) (by kernel_rfl))
def ZC:pF:=λ_ _ a b=>Bn ((.clone 3 24)) a b
def Q0:lI Tryz.prog cx 126 ZC:=wU (u7 (fn:=Tryz.f126) (t:=34) (tb:=4) (te:=zG) eg Tryz.func126 (by kernel_rfl) (by kernel_rfl) (by kernel_rfl) (by kernel_rfl) (by kernel_rfl) (by kernel_rfl) (by kernel_rfl))
def ZB:pF:=λ_ _ a b=>Bn (.nd) a b
def UQ:(Tryz.f237.name== "runtime.NumGoroutine")=false:=by kernel_rfl
def UP:Tryz.f237.body.isNone=true:=by kernel_rfl
def UN:Extern.findNext Tryz.f237=none:=by kernel_rfl
def UO:Extern.find Tryz.f237=some Extern.BytealgIndexByte.indexByte:=by kernel_rfl
def UM:CA Tryz.prog cx 237 .nd:= @EM Tryz.prog cx 237 Tryz.f237 Tryz.func237 UQ UP UN UO
def QZ:lI Tryz.prog cx 237 ZB:=wU UM
def qs:Tree pF:=(.node (.node (.node (.node (.node (.node (.node (.node .nil 10 (gN Tryz.f10 40953575029616206113996799) .nil) 12 (gN Tryz.f12 7) .nil) 14 (gN Tryz.f14 127) (.node .nil 20 (gN Tryz.f20 138478519) .nil)) 21 (gN Tryz.f21 9223389645163727807) (.node (.node .nil 22 (gN Tryz.f22 79) .nil) 23 (gN Tryz.f23 2417851783344448572752095) (.node .nil 24 (gN Tryz.f24 7231) .nil))) 25 (gN Tryz.f25 18463641368405213903) (.node (.node (.node (.node .nil 29 (gN Tryz.f29 17179869843) .nil) 41 (gN Tryz.f41 1048607) .nil) 45 (gN Tryz.f45 9223372036871623167) (.node .nil 46 (gN Tryz.f46 4215) .nil)) 47 (gN Tryz.f47 772424076352653274097095092108232752774234854811365887) (.node (.node .nil 48 (gN Tryz.f48 67109327) .nil) 50 (gN Tryz.f50 1238093369775042453301102031) (.node .nil 51 (gN Tryz.f51 4196311) .nil)))) 53 (gN Tryz.f53 137506128175) (.node (.node (.node (.node (.node .nil 55 (gN Tryz.f55 36051629065113551) .nil) 58 (gN Tryz.f58 8796093286397) .nil) 59 (gN Tryz.f59 19808249554385699031857790975) (.node .nil 60 (gN Tryz.f60 8864829278711) .nil)) 66 (gN Tryz.f66 6434029281764525972148499167221040878727244754944919609542655) (.node (.node .nil 67 (gN Tryz.f67 95827739445721067874190659254502973333984266632037375) .nil) 68 (gN Tryz.f68 31) (.node .nil 73 (gN Tryz.f73 9071038046463) .nil))) 74 (gN Tryz.f74 17184194575) (.node (.node (.node (.node .nil 75 (gK Tryz.f75 68723687231) .nil) 76 (gN Tryz.f76 4504699140047487) .nil) 78 (gN Tryz.f78 576460753379335951) (.node .nil 79 (gN Tryz.f79 4605278686335) .nil)) 80 (gK Tryz.f80 30783) (.node (.node .nil 87 (gN Tryz.f87 463) .nil) 88 (gN Tryz.f88 29) (.node .nil 90 (gN Tryz.f90 9224506733391652861) .nil))))) 91 (gN Tryz.f91 4432473883133) (.node (.node (.node (.node (.node (.node .nil 93 (gN Tryz.f93 19342850151455133005856767) .nil) 94 (gN Tryz.f94 316913254556860716756833993695) .nil) 95 (gN Tryz.f95 275) (.node .nil 96 (gN Tryz.f96 11) .nil)) 97 (gN Tryz.f97 8934607822903) (.node (.node .nil 98 (gN Tryz.f98 479) .nil) 103 (gN Tryz.f103 19) (.node .nil 104 (gN Tryz.f104 13215461614728367217751695970865548304603543200842114553566203007) .nil))) 105 (gN Tryz.f105 1099511628339) (.node (.node (.node (.node .nil 106 (gN Tryz.f106 18889470444974887141823) .nil) 107 (gN Tryz.f107 829180818552508142370930303613581122868418894632663968482586879) .nil) 108 (gN Tryz.f108 332312079452150195464880550324504575) (.node .nil 109 (gN Tryz.f109 4330618893) .nil)) 110 (gN Tryz.f110 131635) (.node (.node .nil 111 (gN Tryz.f111 2147484735) .nil) 115 (gN Tryz.f115 348794743007212715313826391199890521722863) (.node .nil 116 (gN Tryz.f116 12259964349774246101165194645239424850975965214878597119) .nil)))) 121 (gN Tryz.f121 35315368591455) (.node (.node (.node (.node (.node .nil 122 (gN Tryz.f122 19) .nil) 123 (gN Tryz.f123 606826398900554784047567) .nil) 124 (gN Tryz.f124 5868843906288553182383292937158044313155908148351) (.node .nil 125 (ZD) .nil)) 126 (ZC) (.node (.node .nil 131 (gN Tryz.f131 7) .nil) 133 (gN Tryz.f133 19) (.node .nil 135 (gN Tryz.f135 33587517) .nil))) 136 (gN Tryz.f136 4101) (.node (.node (.node (.node .nil 137 (gN Tryz.f137 21853) .nil) 138 (gN Tryz.f138 37396817117309) .nil) 139 (gN Tryz.f139 51) (.node .nil 140 (gN Tryz.f140 40536831200067837) .nil)) 141 (gN Tryz.f141 72128100255664255) (.node (.node .nil 142 (gN Tryz.f142 1242795222330225588904675325) .nil) 143 (gN Tryz.f143 1237940043933112819970491391) (.node .nil 144 (gN Tryz.f144 1053) .nil)))))) 145 (gN Tryz.f145 151115745466229840684019) (.node (.node (.node (.node (.node (.node (.node .nil 147 (gK Tryz.f147 18191) .nil) 148 (gN Tryz.f148 365376106316094180278949616271352870286206697499) .nil) 149 (gN Tryz.f149 10633824283312870803151638865622599647) (.node .nil 151 (gN Tryz.f151 19) .nil)) 152 (gN Tryz.f152 606826398900554784047567) (.node (.node .nil 154 (gK Tryz.f154 1048607) .nil) 157 (gN Tryz.f157 5) (.node .nil 158 (gN Tryz.f158 131613) .nil))) 159 (gN Tryz.f159 5) (.node (.node (.node (.node .nil 160 (gN Tryz.f160 11161304336780981658631819976322344575566047) .nil) 161 (gN Tryz.f161 4362601011) .nil) 162 (gN Tryz.f162 19) (.node .nil 163 (gK Tryz.f163 2097183) .nil)) 164 (gN Tryz.f164 1182933510117985879039) (.node (.node .nil 177 (gN Tryz.f177 19) .nil) 178 (gN Tryz.f178 19) (.node .nil 179 (gN Tryz.f179 5) .nil)))) 180 (gN Tryz.f180 35500589085) (.node (.node (.node (.node (.node .nil 181 (gN Tryz.f181 5) .nil) 182 (gN Tryz.f182 1125908496810045) .nil) 183 (gN Tryz.f183 262565) (.node .nil 184 (gN Tryz.f184 541) .nil)) 185 (gN Tryz.f185 328307) (.node (.node .nil 186 (gN Tryz.f186 1574131) .nil) 187 (gN Tryz.f187 275) (.node .nil 188 (gN Tryz.f188 529021) .nil))) 189 (gN Tryz.f189 1125902054326279) (.node (.node (.node (.node .nil 190 (gN Tryz.f190 32909) .nil) 191 (gN Tryz.f191 262707) .nil) 192 (gN Tryz.f192 262707) (.node .nil 193 (gN Tryz.f193 14474012017383023515249485065460760621927424225494418519668988771800801378299) .nil)) 194 (gN Tryz.f194 36893488147419136123) (.node (.node .nil 198 (gN Tryz.f198 20282409606012871684182924853463) .nil) 199 (gN Tryz.f199 158456325028530997355645763711) (.node .nil 200 (gN Tryz.f200 1037) .nil))))) 201 (gN Tryz.f201 1099578740959) (.node (.node (.node (.node (.node (.node .nil 203 (gN Tryz.f203 1) .nil) 206 (gN Tryz.f206 5) .nil) 207 (gK Tryz.f207 262175) (.node .nil 208 (gK Tryz.f208 9904163146420522906957187071) .nil)) 220 (gN Tryz.f220 19) (.node (.node .nil 221 (gN Tryz.f221 2293) .nil) 222 (gN Tryz.f222 2149585011) (.node .nil 223 (gN Tryz.f223 526461) .nil))) 224 (gN Tryz.f224 8606909437) (.node (.node (.node (.node .nil 225 (gN Tryz.f225 182687706027492332498828539273953093013162958911) .nil) 226 (gN Tryz.f226 70368744310543) .nil) 227 (gN Tryz.f227 83) (.node .nil 228 (gN Tryz.f228 33688639) .nil)) 229 (gN Tryz.f229 4196847) (.node (.node .nil 231 (gN Tryz.f231 1049655) .nil) 237 (ZB) (.node .nil 238 (gN Tryz.f238 8211) .nil)))) 242 (gN Tryz.f242 131527) (.node (.node (.node (.node (.node .nil 243 (gN Tryz.f243 563501857374451) .nil) 244 (gN Tryz.f244 2863311549) .nil) 245 (gN Tryz.f245 18483898770635358239) (.node .nil 246 (gN Tryz.f246 7) .nil)) 247 (gN Tryz.f247 99132251962343631) (.node (.node .nil 248 (gN Tryz.f248 8703) .nil) 249 (gN Tryz.f249 8590200303) (.node .nil 254 (gN Tryz.f254 594912002450663878599) .nil))) 256 (gN Tryz.f256 13) (.node (.node (.node (.node .nil 261 (gN Tryz.f261 32819) .nil) 264 (gN Tryz.f264 132109) .nil) 267 (gN Tryz.f267 749019592093908130998168547243562859198691857383367) (.node .nil 272 (gN Tryz.f272 72339071195682803) .nil)) 281 (gN Tryz.f281 8407165) (.node (.node .nil 282 (gN Tryz.f282 2101491) .nil) 284 (gN Tryz.f284 9224502335110254589) (.node .nil 285 (gN Tryz.f285 715827901) .nil)))))))
def Yp:qs.Qa λa b=>lI Tryz.prog cx a b:=(.node (.node (.node (.node (.node (.node (.node (.node .nil (gO Tryz.func10) .nil) (gO Tryz.func12) .nil) (gO Tryz.func14) (.node .nil (gO Tryz.func20) .nil)) (gO Tryz.func21) (.node (.node .nil (gO Tryz.func22) .nil) (gO Tryz.func23) (.node .nil (gO Tryz.func24) .nil))) (gO Tryz.func25) (.node (.node (.node (.node .nil (gO Tryz.func29) .nil) (gO Tryz.func41) .nil) (gO Tryz.func45) (.node .nil (gO Tryz.func46) .nil)) (gO Tryz.func47) (.node (.node .nil (gO Tryz.func48) .nil) (gO Tryz.func50) (.node .nil (gO Tryz.func51) .nil)))) (gO Tryz.func53) (.node (.node (.node (.node (.node .nil (gO Tryz.func55) .nil) (gO Tryz.func58) .nil) (gO Tryz.func59) (.node .nil (gO Tryz.func60) .nil)) (gO Tryz.func66) (.node (.node .nil (gO Tryz.func67) .nil) (gO Tryz.func68) (.node .nil (gO Tryz.func73) .nil))) (gO Tryz.func74) (.node (.node (.node (.node .nil (gO Tryz.func75) .nil) (gO Tryz.func76) .nil) (gO Tryz.func78) (.node .nil (gO Tryz.func79) .nil)) (gO Tryz.func80) (.node (.node .nil (gO Tryz.func87) .nil) (gO Tryz.func88) (.node .nil (gO Tryz.func90) .nil))))) (gO Tryz.func91) (.node (.node (.node (.node (.node (.node .nil (gO Tryz.func93) .nil) (gO Tryz.func94) .nil) (gO Tryz.func95) (.node .nil (gO Tryz.func96) .nil)) (gO Tryz.func97) (.node (.node .nil (gO Tryz.func98) .nil) (gO Tryz.func103) (.node .nil (gO Tryz.func104) .nil))) (gO Tryz.func105) (.node (.node (.node (.node .nil (gO Tryz.func106) .nil) (gO Tryz.func107) .nil) (gO Tryz.func108) (.node .nil (gO Tryz.func109) .nil)) (gO Tryz.func110) (.node (.node .nil (gO Tryz.func111) .nil) (gO Tryz.func115) (.node .nil (gO Tryz.func116) .nil)))) (gO Tryz.func121) (.node (.node (.node (.node (.node .nil (gO Tryz.func122) .nil) (gO Tryz.func123) .nil) (gO Tryz.func124) (.node .nil Q1 .nil)) Q0 (.node (.node .nil (gO Tryz.func131) .nil) (gO Tryz.func133) (.node .nil (gO Tryz.func135) .nil))) (gO Tryz.func136) (.node (.node (.node (.node .nil (gO Tryz.func137) .nil) (gO Tryz.func138) .nil) (gO Tryz.func139) (.node .nil (gO Tryz.func140) .nil)) (gO Tryz.func141) (.node (.node .nil (gO Tryz.func142) .nil) (gO Tryz.func143) (.node .nil (gO Tryz.func144) .nil)))))) (gO Tryz.func145) (.node (.node (.node (.node (.node (.node (.node .nil (gO Tryz.func147) .nil) (gO Tryz.func148) .nil) (gO Tryz.func149) (.node .nil (gO Tryz.func151) .nil)) (gO Tryz.func152) (.node (.node .nil (gO Tryz.func154) .nil) (gO Tryz.func157) (.node .nil (gO Tryz.func158) .nil))) (gO Tryz.func159) (.node (.node (.node (.node .nil (gO Tryz.func160) .nil) (gO Tryz.func161) .nil) (gO Tryz.func162) (.node .nil (gO Tryz.func163) .nil)) (gO Tryz.func164) (.node (.node .nil (gO Tryz.func177) .nil) (gO Tryz.func178) (.node .nil (gO Tryz.func179) .nil)))) (gO Tryz.func180) (.node (.node (.node (.node (.node .nil (gO Tryz.func181) .nil) (gO Tryz.func182) .nil) (gO Tryz.func183) (.node .nil (gO Tryz.func184) .nil)) (gO Tryz.func185) (.node (.node .nil (gO Tryz.func186) .nil) (gO Tryz.func187) (.node .nil (gO Tryz.func188) .nil))) (gO Tryz.func189) (.node (.node (.node (.node .nil (gO Tryz.func190) .nil) (gO Tryz.func191) .nil) (gO Tryz.func192) (.node .nil (gO Tryz.func193) .nil)) (gO Tryz.func194) (.node (.node .nil (gO Tryz.func198) .nil) (gO Tryz.func199) (.node .nil (gO Tryz.func200) .nil))))) (gO Tryz.func201) (.node (.node (.node (.node (.node (.node .nil (gO Tryz.func203) .nil) (gO Tryz.func206) .nil) (gO Tryz.func207) (.node .nil (gO Tryz.func208) .nil)) (gO Tryz.func220) (.node (.node .nil (gO Tryz.func221) .nil) (gO Tryz.func222) (.node .nil (gO Tryz.func223) .nil))) (gO Tryz.func224) (.node (.node (.node (.node .nil (gO Tryz.func225) .nil) (gO Tryz.func226) .nil) (gO Tryz.func227) (.node .nil (gO Tryz.func228) .nil)) (gO Tryz.func229) (.node (.node .nil (gO Tryz.func231) .nil) QZ (.node .nil (gO Tryz.func238) .nil)))) (gO Tryz.func242) (.node (.node (.node (.node (.node .nil (gO Tryz.func243) .nil) (gO Tryz.func244) .nil) (gO Tryz.func245) (.node .nil (gO Tryz.func246) .nil)) (gO Tryz.func247) (.node (.node .nil (gO Tryz.func248) .nil) (gO Tryz.func249) (.node .nil (gO Tryz.func254) .nil))) (gO Tryz.func256) (.node (.node (.node (.node .nil (gO Tryz.func261) .nil) (gO Tryz.func264) .nil) (gO Tryz.func267) (.node .nil (gO Tryz.func272) .nil)) (gO Tryz.func281) (.node (.node .nil (gO Tryz.func282) .nil) (gO Tryz.func284) (.node .nil (gO Tryz.func285) .nil)))))))
def Ia:∀a b,(λa=>qs.find a) a=some b->lI Tryz.prog cx a b:=λa b c=>Yp.find c
end
noncomputable section
open Go Go.TI
attribute [-simp] List.map_take List.map_drop List.map_append fj eG dY Bool.not_or Bool.not_and
attribute [simp] fh eJ
def iY:dR:=⟨[⟨[120],0,0,false,0⟩,⟨[121],0,0,false,1⟩,⟨[118],0,0,true,0⟩,⟨[113],0,2,false,0⟩,⟨[113],1,2,false,0⟩],[⟨[109],false⟩,⟨[110],false⟩,⟨[114],true⟩],[⟨[99],0⟩],[[102]],[[109,97,105,110],[116,49],[116,50],[116,51]],
 [⟨0,0,1⟩,⟨0,1,2⟩,⟨0,2,3⟩,⟨0,3,4⟩,⟨0,4,5⟩,⟨0,5,6⟩,⟨1,0,11⟩,⟨1,1,12⟩,⟨1,2,13⟩,⟨1,3,14⟩,⟨1,4,15⟩,⟨1,5,16⟩,⟨2,0,21⟩,⟨2,1,22⟩,⟨2,2,23⟩,⟨2,3,24⟩,⟨2,4,25⟩,⟨2,5,26⟩,⟨3,0,31⟩,⟨3,1,32⟩,⟨3,2,33⟩,⟨3,3,34⟩,⟨3,4,35⟩,⟨3,5,36⟩]⟩
def TF:∀a b,(λa=>(Tree.node .nil 37 (gN Tryz.f37 81788943) .nil).find a) a=some b->lI Tryz.prog cx a b:=λa b c=>(Tree.Qa.node .nil (gO Tryz.func37) .nil).find c
def KV:kI Tryz.prog cx 37 [] iY.t:=xK (ll _ (by kernel_rfl)) (Aj TF 10000 _ _ _ _ _ (by kernel_rfl))
def Er:f7:=⟨Unit,λ_=>[],λ_=>True,λ_=>iY.t,λ_ _ _=>rfl⟩
def Nh:Er.Ok Tryz.prog cx 37:=λ_ _=>KV
def Kk{a:fq}(ht:a.p 37=some Er):rl Tryz.prog cx a 37 []=some iY.t:=gF ht Nh () trivial
def H4:jK iY=true:=by decide+kernel
def uD(e:Nat)(a:List Int)(c:Nat)(d:H):Prop:=∃f b,d.get c=some (dy 2 f [.agg [sl (a.map (T.int .u8)),dw b]])/\((min e a.length:Nat):Int)<=b
def uD.tp{e:Nat}{a:List Int}{b:Nat}{c:H}(g:uD e a b c):Tp a b c:=by
 obtain⟨h,f,d,i⟩:=g;exact⟨h,f,d,dj⟩
def uD.eq{e:Nat}{b:List Int}{a:Nat}{c d:H}(j:uD e b a c)(h:d.get a=c.get a):uD e b a d:=by
 obtain⟨k,i,g,f⟩:=j;exact⟨k,i,by rw[h];exact g,f⟩
def uD.le{d e:Nat}{a:List Int}{b:Nat}{c:H}(g:uD d a b c)(k:e<=d):uD e a b c:=by
 obtain⟨h,i,f,j⟩:=g;exact⟨h,i,f,dj⟩
structure Jm where
 (L:List Int) (b p:Nat) (n:Int)
def F8(a:Jm)(d:List T)(c:H):Prop:=d=[.ptr a.b 0 0 0,dw a.n]/\uD a.p a.L a.b c/\gu 0 c/\1<=a.n/\a.n<=100/\okB a.L
def KY(a:Jm)(g:List T)(e:H)(f:T)(c:H):Prop:=∃d:Nat,f= dw d/\(d:Int)<a.n/\uD (a.p+1) a.L a.b c/\Sm a.b e c
abbrev ka:kA:=jp Jm F8 KY
def QB:ka.Ok Tryz.prog cx 63:=by
 refine jk (tb:=⟨pt [],ht []⟩) ei eg (iL 262163 [] Tryz.func63) (λ_ _=>5) (λG a h A=>by obtain⟨rfl,_⟩:=A;simp[Tryz.f63]) ?_;rintro⟨b,f,H,g⟩ _ h ⟨rfl,⟨i,d,e,B⟩,r,y,z,s,o⟩ I p;simp only at e B y z s o;simp at p;obtain⟨j,n⟩:=p;simp[Tryz.f63,j,n,e];refine dU (λk=> ?_) (λk=> ?_)
 ·simp at k;simp;exact⟨0,dp,dt,⟨i,d,by rw[fK,fX];exact e,dt⟩,Sm.out (Sm.refl r.hr)⟩
 ·simp at k;have D:IntKind.i64.wrap (d+1)=d+1:=by rw[<-ji];exact jr dj dj
  have E:IntKind.i64.wrap d=d:=by rw[<-ji];exact jr dj dj
  have C:Sm f (hr h) _:=(Sm.refl r.hr).put (x:=(dy 2 i [.agg [sl (b.map (T.int .u8)),dw d]])) (by rw[fX];exact e) (dy 2 (i+1) [.agg [sl (b.map (T.int .u8)),dw (d+1)]]);have m:(dQ (hr h) f (dy 2 (i+1) [.agg [sl (b.map (T.int .u8)),dw (d+1)]])).get f=_:=(dE (h:=hr h) (by rw[fX];exact e) _ f).trans (aq rfl);simp[j,e,nD,dP,D];generalize dQ (hr h) f _=F at*
  obtain⟨c,rfl⟩:∃c:Nat,d=c:=⟨d.toNat,dj⟩;have q:c<b.length:=dj;have t:=o b[c] (aF q);have u: -9223372036854775808<=b[c]:=dj;have v:b[c]<9223372036854775808:=dj;have t0:=Int.tmod_nonneg g t.1;have t1:=Int.tmod_lt_of_pos b[c] (show 0<g by omega);simp[j,n,m,tN,E,q,u,v,CJ (a:=b[c]) (show¬g=0 by omega)];obtain⟨l,w⟩:∃l:Nat,b[c].tmod g=l:=⟨(b[c].tmod g).toNat,dj⟩;exact⟨l,by rw[w],dt,⟨_,_,by rw[fK];exact m,dt⟩,Sm.out C⟩
structure rV(p:Nat)(L:List Int)(b:Nat)(h h':H):Prop where
 w:Tw L b h h'
 g:uD p L b h'
def rV.refl{d:Nat}{b:List Int}{c:Nat}{a:H}(f:gu 0 a)(e:uD d b c a):rV d b c a a:=⟨Tw.refl f e.tp,e⟩
def rV.le{e f:Nat}{a:List Int}{b:Nat}{c d:H}(h:rV e a b c d)(i:f<=e):rV f a b c d:=⟨h.w,h.g.le i⟩
def rV.cons{e:Nat}{a:List Int}{b:Nat}{c d:H}(w:rV e a b c d)(f:iJ):rV e a b c (d.cons f):=⟨w.w.cons f,w.g.eq (by rw[dM,ao (by have:=w.w.tp.lt;omega)])⟩
def rV.put{h:Nat}{e:List Int}{b:Nat}{a d:H}(i:rV h e b a d){c:Nat}{x:iJ}(f:d.get c=some x)(l:a.size<=c)(k:b<a.size)(j:iJ):rV h e b a (dQ d c j):=⟨i.w.put f l k j,i.g.eq (by rw[dE f,ao dj])⟩
def rV.call{h f:Nat}{b:List Int}{a:Nat}{d e c:H}(j:rV h b a d e)(i:Sm a e c)(g:uD f b a c):rV f b a d c:=⟨j.w.call i g.tp,g⟩
def rV.cut{h:Nat}{e:List Int}{c:Nat}{a b:H}(d:rV h e c (TI.hr a) b)(p:gu 0 a)(f:c<a.size){j l:T}{i:T->H->Prop}(m:∃k,iT b a.size j=some k/\cn k=l)
 (o:Sm c a (ui a b)->uD h e c (ui a b)->i l (ui a b)):xv a j b i:=d.w.cut p f m λq _=>o q (d.g.eq (yk d.w.ok.hp d.w.size f))
def N9{tb:fq}{g:Nat}{e:List Int}{a:Nat}{c:H}(ht:tb.h 63=some ka)(s:uD g e a c)(n:gu 0 c)(m:okB e)(b:Int)(k:1<=b)(l:b<=100):∃(f:Nat) (d:H),hl Tryz.prog cx tb 63 [.ptr a 0 0 0,dw b] c=some (dw f,d)/\(f:Int)<b/\uD (g+1) e a d/\Sm a c d:=by
 have i:F8 ⟨e,a,g,b⟩ [.ptr a 0 0 0,dw b] c:=⟨rfl,s,n,k,l,m⟩;obtain⟨_,d,j,o⟩:=D3 ht QB ⟨_,i⟩;obtain⟨f,rfl,p,q,r⟩:=o _ i;exact⟨f,d,j,p,q,r⟩
end
noncomputable section
open Go Go.TI
def yB(a:dD):Bool:=decide (a.iv=3)||decide (a.iv=4)
def Fm{b a:Type}(e:b->a->Bool)(f:List a->a->Bool)(d:b->a->b):List a->b->List a->Bool
 |_,_,[]=>true
 |pre,g,c::h=>(e g c&&f pre c)&&Fm e f d (pre++[c]) (d g c) h
def LO{c a:Type}{g:c->a->Bool}{j:List a->a->Bool}{f:c->a->c}:∀(b h:List a) (e:c),Fm g j f h e b=true->rI g f e b=true:=by
 intro b;induction b with
 |nil=>intro _ _ _;rfl
 |cons k b i=>
  intro h e d;simp only[Fm,aB]at d;simp only[rI,aB];exact⟨d.1.1,i _ _ d.2⟩
def PV(b:List dX)(a:dX):Bool:=uM b a.dN a.mf&&uM b a.dN a.uz
def oS(a:dR)(b:List dX):Bool:=decide (b.length<=400)&&jK a&&Fm (pj a) PV (jO a) [] (jA a) b
def yl{b:dR}{c:List dX}(a:oS b c=true):runs b (jA b) c=true/\b.dB.length<=4/\c.length<=400:=by
 unfold oS at a;simp only[aB,aO]at a;refine⟨LO _ _ _ a.2,?_,a.1.1⟩;have d:=a.1.2;unfold jK rG at d;simp only[aB,aO]at d;omega
structure qn(N:Nat)(s:dW):Prop where
 l:s.fx.dV.length<=1000/\s.fx.done.length<=1000/\s.fx.dB.length<=1000/\s.cells.length<=1000/\s.dT.length<=1000/\s.count.length<=1000
 r:∀l∈s.fx.dV,l.d8.length<=N
 a:s.fx.Ee
 c:∀c∈s.count,-N<=c/\c<=N
def qn.up{f e:Nat}{g:dW}(b:qn f g)(j:f<=e):qn e g:=⟨b.l,λi d=>by have:=b.r i d;omega,b.a,λh d=>by have:=b.c h d;omega⟩
def UC{b:Nat}{c:fg}{i:Int}{d:dS->dS}(e:∀a∈c.dV,a.d8.length<=b)(g:∀a∈c.dV,(d a).d8.length<=b+1):∀a∈(c.pK i d).dV,a.d8.length<=b+1:=by
 intro a hl;rcases mem_modify hl with f|⟨j,h,rfl⟩
 ·have:=e a f;omega
 ·exact g j h
def LY{d:Nat}{j:fg}(k:∀a∈j.dV,a.d8.length<=d)(p:dR)(h m n q:Int):∀a∈(em p j h m n q).1.dV,a.d8.length<=d+1:=by
 have c:∀a∈j.dV,a.d8.length<=d+1:=λa o=>by have:=k a o;omega
 have l:∀(f:Int) (b:dS->dS),(∀a,(b a).d8=a.d8\/(b a).d8=lx a.d8 h\/(b a).d8=a.d8.filter λg=> !decide (g=h))->∀a∈(j.pK f b).dV,a.d8.length<=d+1:=λf b i=>UC k λa hl=>by
  have r:=k a hl;rcases i a with e|e|e<;>rw[e]
  ·omega
  ·have:=GS a.d8 h;omega
  ·have:=List.length_filter_le (λg=> !decide (g=h)) a.d8;omega
 exact un (P:=λg=>∀a∈g.1.dV,a.d8.length<=d+1) c c (λ_ _ _=>c) (λf b i=>⟨l f b i,λ_ _=>l f b i⟩) (λ_=>c) (λ_ _=>c) (λ_=>c)
def KC(a:Nat):qn a rZ:=⟨by simp[rZ],by simp[rZ],by intro b hl;simp[rZ]at hl,by simp[rZ]⟩
def qn.step{e:Nat}{f:dW}(d:qn e f)(h:dR)(b:dX):qn (e+1) (jw h f b).1:=by
 unfold jw;split
 ·have hl:=xp h f.fx b.dN b.kind b.obj (kO b);obtain⟨l1,l2,l3,l4,l5,l6⟩:=d.l;refine⟨⟨by show(em ..).1.dV.length<=_;omega,by show(em ..).1.done.length<=_;omega,by show(em ..).1.dB.length<=_;omega,?_,?_,?_⟩,LY d.r _ _ _ _ _,xq d.a _ _ _ _ _,λg i=> ?_⟩
  ·unfold jO;simp only;split<;>simp[l4]
  ·unfold jO;simp only;split<;>simp[l5]
  ·unfold jO;simp[l6]
  ·rcases mem_modify (show g∈f.count.modify b.dN.toNat (· +1)from i)with k|⟨m,j,rfl⟩
   ·have:=d.c g k;omega
   ·have:=d.c m j;omega
 ·exact(KC e).up (Nat.le_succ e)
def qn.oo{w:dR}:∀(a:List dX) {b:Nat} {c:dW},qn b c->qn (b+a.length) (oo w c a):=by
 intro a;induction a with
 |nil=>intro b c d;exact d
 |cons e a f=>
  intro b c d;have:=f (d.step w e);rw[show b+1+a.length=b+(e::a).length by simp;omega]at this;exact this
def tO(a:dR)(d:a.dV.length<=1000/\a.dT.length<=1000/\a.dB.length<=1000/\a.cells.length<=1000):qn 0 (jA a):=by
 refine⟨by simp[jA,kM];omega,λe hl=> ?_,rF a,λc b=> ?_⟩
 ·simp[jA,kM]at hl;obtain⟨_,rfl⟩:=hl;simp
 ·simp[jA]at b;omega
end
noncomputable section
open Go Go.TI
attribute [-simp] List.map_take List.map_drop List.map_append fj eG dY Bool.not_or Bool.not_and
attribute [simp] fh eJ
def qH:f7:=⟨List dX×Nat×Int×List Int,λa=>[sl (a.1.map dX.t),dw a.2.1,dw a.2.2.1,sl (a.2.2.2.map (T.int .i64))],λa=>a.2.1<=a.1.length/\a.1.length<=1000000/\a.2.2.2.length<=1000000,λa=> .bool (uM (a.1.take a.2.1) a.2.2.1 a.2.2.2),λa c b=>by
 obtain⟨a1,a2,a3,a4⟩:=a;obtain⟨h,i,j,k⟩:=c;simp at b;obtain⟨d,e,f,g⟩:=b;rw[jt (λ_ _=>dX.inj) d,Int.ofNat.inj e,f,jt (λ_ _ b=>by simpa using b) g]⟩
def ScR(d e:Int)(b:List dX)(c f g:Nat)(h:T):Prop:=∃a:Bool,h= .bool a/\zJ d e ((b.take c).drop f) g a=zJ d e (b.take c) 0 false
def La:qH.Ok Tryz.prog cx 78:=by
 refine gH (tb:=⟨pt [],ht []⟩) ei eg (iL 576460753379335951 [] Tryz.func78) (λ_=>1000005) (by simp[qH]) (by simp[qH,Tryz.f78]) ?_;rintro⟨b,l,v,m⟩ ⟨K,hl,M⟩ a A;simp at K hl M;simp[qH]at A|-;obtain⟨f,c,g,d⟩:=A;simp[Tryz.f78];refine fc m.length dj (λj a n=>n=hE/\dz a 0 (sl (b.map dX.t))/\dz a 1 (dw l)/\dz a 2 (dw v)/\dz a 3 (sl (m.map (T.int .i64)))/\dz a 9 (dw j)/\(m.take j).all (λE=>zJ v E (b.take l) 0 false)=true) ?_ ?_ dj (by simp[f,c,g,d])
 ·rintro j a n u G ⟨rfl,f,c,g,d,h,s⟩;simp[d,h,u];refine fc l dj (λe a n=>n=hE/\dz a 0 (sl (b.map dX.t))/\dz a 1 (dw l)/\dz a 2 (dw v)/\dz a 3 (sl (m.map (T.int .i64)))/\dz a 9 (dw j)/\∃(k:Nat) (w:T),dz a 10 (dw k)/\dz a 11 w/\dz a 12 (dw e)/\k<=e/\ScR v m[j] b l e k w) ?_ ?_ dj ⟨rfl,by simp[f],by simp[c],by simp[g],by simp[d],by simp[h],0,.bool false,dp,dp,dp,au _,false,rfl,rfl⟩
  ·rintro e a n H B ⟨rfl,f,c,g,d,h,k,w,y,r,o,I,x,rfl,i⟩;have C:e<b.length:=dj;have z:(b.take l).drop e=b[e]::(b.take l).drop (e+1):=by
    rw[aI dq];simp
   rw[z,zJ]at i;simp[f,c,g,o,H,C];have J:b[e]? =some b[e]:=az C;have L:m[j]? =some m[j]:=az u;generalize b[e]=O at*
   generalize m[j]=E at*
   have F:binop .add (dw (k:Int)) (dw 1)=some (dw ((k+1:Nat):Int)):=by rw[gY dj dj];simp
   refine dU (λp=> ?_) (λp=> ?_)
   ·simp at p;rw[ao p]at i;simp[f,c,g,d,h,y,r,o,B];exact⟨k,rfl,dj,x,rfl,i⟩
   ·simp at p;rw[aq p]at i;simp[f,c,g,d,h,y,r,o,J,L,F,B];exact⟨k+1,dp,dj,_,rfl,i⟩
  ·rintro a n ⟨rfl,f,c,g,d,h,k,w,y,r,o,I,x,rfl,i⟩;have z:(b.take l).drop l=[]:=dp;rw[z,zJ]at i;simp[c,r,o];cases x with
   |false=>
    simp;unfold uM;rw[List.all_eq_false];exact⟨m[j],aF u,by rw[<-i];simp⟩
   |true=>
    simp[f,c,g,d,h,G];intro N D;rw[aU u]at D;rcases List.mem_append.1 D with q|q
    ·exact List.all_eq_true.1 s N q
    ·rw[List.mem_singleton.1 q];exact i.symm
 ·rintro a n ⟨rfl,f,c,g,d,h,s⟩;rw[aL]at s;simp[d,h];unfold uM;rw[s]
def O7{e:fq}(ht:e.p 78=some qH)(a:List dX)(b:Nat)(d:Int)(c:List Int)(f:b<=a.length)(g:a.length<=1000000)(h:c.length<=1000000):rl Tryz.prog cx e 78 [sl (a.map dX.t),dw b,dw d,sl (c.map (T.int .i64))]=some (.bool (uM (a.take b) d c)):=gF ht La (a,b,d,c) ⟨f,g,h⟩
end
noncomputable section
open Go Go.TI
attribute [-simp] List.map_take List.map_drop List.map_append
def DA:f7:=⟨Int×Nat,λa=>[dw a.1,dw a.2],λa=>True,λa=> .bool (iP a.1 a.2),λa c b=>by simp at b;rw[b.1,show a.2=c.2 by omega]⟩
def Uk:DA.Ok Tryz.prog cx 103:=by
 refine gH (tb:=⟨pt [],ht []⟩) ei eg (iL 19 [] Tryz.func103) (λf=>1) (by simp[DA]) (by simp[DA,Tryz.f103]) ?_;rintro⟨e,g⟩ _ h a;simp[DA]at a|-;obtain⟨b,c⟩:=a;by_cases d:0<=e<;>simp[Tryz.f103,b,c,d,iP]
def Pf{c:fq}(ht:c.p 103=some DA)(a:Int)(b:Nat):rl Tryz.prog cx c 103 [dw a,dw b]=some (.bool (iP a b)):=gF ht Uk (a,b) trivial
def tT:f7:=⟨dR×dW,λa=>[a.1.t,a.2.t],λa=>a.1.fV.length<=1099511627776,λa=> .bool (mQ a.1 a.2),λa c b=>by simp at b;rw[dR.inj b.1,dW.inj b.2]⟩
def NJ:tT.Ok Tryz.prog cx 68:=by
 refine gH (tb:=⟨pt [(111,p9)],ht []⟩) ei eg (iL 31 [] Tryz.func68) (λi=>1) (by simp[tT]) (by simp[tT,Tryz.f68]) ?_;rintro⟨b,a⟩ hl j e;simp[tT]at hl e|-;obtain⟨c,d⟩:=e;cases f:ml b a.fx with
 |false=>simp[Tryz.f68,c,d,uk,hl,f,mQ]
 |true=>by_cases g:a.cells.length=b.cells.length<;>by_cases h:a.dT.length=b.dT.length<;>simp[Tryz.f68,c,d,uk,hl,f,g,h,mQ,Int.natCast_inj]
def Fq{c:fq}(ht:c.p 68=some tT)(a:dR)(b:dW)(hl:a.fV.length<=1099511627776):rl Tryz.prog cx c 68 [a.t,b.t]=some (.bool (mQ a b)):=gF ht NJ (a,b) hl
def sN:f7:=⟨List Int×Int,λa=>[sl (a.1.map (T.int .i64)),dw a.2],λa=>a.1.length<=1099511627776,λa=> .bool (w7 a.2 none a.1),λa c b=>by simp at b;rw[jt dp b.1,b.2]⟩
def Le:sN.Ok Tryz.prog cx 105:=by
 refine gH (tb:=⟨pt [],ht []⟩) ei eg (iL 1099511628339 [] Tryz.func105) (λt=>t.1.length+1) (by simp[sN]) (by simp[sN,Tryz.f105]) ?_;rintro⟨c,k⟩ hl j p;simp[sN]at hl p|-;obtain⟨d,g⟩:=p;simp[Tryz.f105];refine fc c.length dj (λb j n=>n=hE/\dz j 0 (sl (c.map (T.int .i64)))/\dz j 1 (dw k)/\dz j 5 (dw b)/\w7 k (if b=0 then none else c[b-1]?) (c.drop b)=w7 k none c) ?_ ?_ dj (by simp[d,g])
 ·rintro b j n i q ⟨rfl,d,g,h,a⟩;rw[aI i]at a;simp only[w7]at a;by_cases e:c[b]<1
  ·simp[e]at a;simp[d,h,i,e,a]
  ·by_cases f:k<=c[b]
   ·simp[f]at a;simp[d,g,h,i,e,f,a]
   ·by_cases r:b=0
    ·have l:¬0<b:=dj;rw[aq r]at a;simp[e,f]at a;simp[d,g,h,i,q,e,f,l];exact a
    ·have l:0<b:=dj;have o:b-1<c.length:=dj;have s:binop .sub (dw (b:Int)) (dw 1)=some (dw ((b-1:Nat):Int)):=by rw[kL dj dj,show(b:Int)-1=((b-1:Nat):Int)by omega]
     rw[ao r,az o]at a;by_cases m:c[b]<=c[b-1]
     ·simp[e,f,m]at a;simp[d,g,h,i,o,e,f,m,s,a,l]
     ·simp[e,f,m]at a;simp[d,g,h,i,o,q,e,f,m,s,l];exact a
 ·rintro j n ⟨rfl,d,g,h,a⟩;simp[w7]at a;simp[d,h,a]
def O9{c:fq}(ht:c.p 105=some sN)(a:List Int)(b:Int)(hl:a.length<=1099511627776):rl Tryz.prog cx c 105 [sl (a.map (T.int .i64)),dw b]=some (.bool (w7 b none a)):=gF ht Le (a,b) hl
def qF:f7:=⟨dW×dX,λa=>[a.1.t,a.2.t],λa=>a.1.fx.dB.length<=1099511627776/\(a.2.kind=3->iP a.2.obj a.1.cells.length=true)/\(a.2.kind=23->iP a.2.obj a.1.dT.length=true),λa=> .bool (nh a.1 a.2),λa c b=>by simp at b;rw[dW.inj b.1,dX.inj b.2]⟩
def K4:qF.Ok Tryz.prog cx 106:=by
 refine gH (tb:=⟨pt [(153,sK),(56,Bi)],ht []⟩) ei eg (iL 18889470444974887141823 [(17,[(1,6)])] Tryz.func106) (λv=>1) (by simp[qF]) (by simp[qF,Tryz.f106]) ?_;rintro⟨i,a⟩ hl w j;simp[qF]at hl j|-;obtain⟨b,c⟩:=j;obtain⟨hl,k,l⟩:=hl;by_cases f:a.kind=3
 ·obtain⟨u,d,g⟩:=im (k f);simp[Tryz.f106,b,c,f,nh,ed (ff.1 (k f)).1,d,g]
 ·by_cases e:a.kind=23
  ·obtain⟨u,d,g⟩:=im (l e);simp[Tryz.f106,b,c,e,nh,ed (ff.1 (l e)).1,d,g]
  ·by_cases q:a.kind=5
   ·by_cases d:a.value=0<;>simp[Tryz.f106,b,c,q,nh,d]
   ·by_cases p:a.kind=4
    ·simp[Tryz.f106,b,c,p,nh]
    ·by_cases o:a.kind=22
     ·simp[Tryz.f106,b,c,o,nh]
     ·by_cases h:a.kind=18
      ·have r:=KF a.obj i.fx.dB 0;by_cases m:gU a.obj i.fx.dB 0=[]
       ·simp[Tryz.f106,b,c,h,nh,Cj,hl,m]
       ·by_cases s:0<=a.value<;>by_cases t:a.value<i.fx.dB.length<;>
         simp[Tryz.f106,b,c,h,nh,Cj,hl,m,s,t,Ph,aS r hl]
      ·by_cases n:a.kind=19
       ·simp[Tryz.f106,b,c,n,nh,Cj,hl]
       ·simp[Tryz.f106,b,c,f,e,q,p,o,h,n,nh]
def O0{c:fq}(ht:c.p 106=some qF)(b:dW)(a:dX)(hl:b.fx.dB.length<=1099511627776)(d:a.kind=3->iP a.obj b.cells.length=true)(e:a.kind=23->iP a.obj b.dT.length=true):rl Tryz.prog cx c 106 [b.t,a.t]=some (.bool (nh b a)):=gF ht K4 (b,a) ⟨hl,d,e⟩
end
noncomputable section
open Go Go.TI
def Bk(a:List Int)(b:Int):sX a b=lx a b:=by
 induction a with
 |nil=>rfl
 |cons d a c=>rw[sX,lx,c]
def Bm:∀(b a:List Int),HG a->HG (lj a b):=by
 intro b;induction b with
 |nil=>intro a c;exact c
 |cons e b d=>intro a c;exact d _ (by rw[Bk];exact BO c e)
def Bl:∀(c b:List Int) (a:Int),a∈lj b c->a∈b\/a∈c:=by
 intro c;induction c with
 |nil=>intro b a h;exact .inl h
 |cons e c d=>
  intro b a h;rcases d (sX b e) a h with h|h
  ·rw[Bk]at h;rcases BN h with h|h
   ·exact .inl h
   ·exact .inr (by simp[h])
  ·exact .inr (by simp[h])
def Kt:∀(a:List Int) (e b:Int),HG a->(∀c∈a,e<=c/\c<b)->a.length<=(b-e).toNat:=by
 intro a;induction a with
 |nil=>intro e b _ _;simp
 |cons c a i=>
  intro e b d f;unfold HG at d;rw[dc]at d;have j:=i (c+1) b d.2 λh g=>⟨by have:=d.1 h g;omega,(f h (by simp[g])).2⟩;have k:=f c dp;simp;omega
def Tn(a:Nat)(b:List Int):Prop:=b.length<=a/\∀c∈b,0<=c/\c<a
def Tn.nil(a:Nat):Tn a []:=⟨aw _,λc b=>by simp at b⟩
def Tn.union{a:Nat}{c d:List Int}(f:Tn a c)(g:Tn a d):Tn a (yC c d):=by
 have e:∀b∈yC c d,0<=b/\b<a:=λb i=>by
  rcases Bl _ _ _ i with h|h
  ·rcases Bl _ _ _ h with h|h
   ·simp at h
   ·exact f.2 b h
  ·exact g.2 b h
 refine⟨?_,e⟩;have:=Kt (yC c d) 0 a (Bm _ _ (Bm _ _ List.Pairwise.nil)) e;omega
end
noncomputable section
open Go Go.TI
attribute [-simp] List.map_take List.map_drop List.map_append fj eG dY Bool.not_or Bool.not_and
attribute [simp] fh eJ
attribute [-simp] size_cons
abbrev ge(a:List Int):List T:=a.map (T.int .i64)
def X9(a:List Int):T:=sl (a.map (T.int .i64))
def Tv(e d:Nat)(b c:T)(a:Nat):Prop:=e<=a/\a<d/\dL b≠some a/\dL c≠some a
structure Al(lo hi:Nat)(h:H)(a b:T)(es:List T)(s:dZ):Prop where
 ga:Gr h a 1 (ge s.iA)
 gb:Gr h b 1 es
 el:io (λe l=>oO h 1 e (ge l)/\∀c,dL e=some c->Tv lo hi a b c) es s.jN
 ba:∀c,dL a=some c->lo<=c/\c<hi/\dL b≠some c
 bb:∀c,dL b=some c->lo<=c/\c<hi
def AE(a:dZ)(b c:T):T:= .agg [dw a.pC,b,c,dw a.dH]
structure TSr(h:H)(a b:T)(es:List T)(s:dZ):Prop where
 ra:oO h 1 a (ge s.iA)
 rb:oO h 1 b es
 el:io (λe l=>oO h 1 e (ge l)) es s.jN
 lt:∀e c,(e=a\/e=b\/e∈es)->dL e=some c->c<h.size
structure ICp where
 (s:dZ) (a b:T) (es:List T)
def M0(c:ICp)(e:List T)(d:H):Prop:=e=[AE c.s c.a c.b]/\TSr d c.a c.b c.es c.s/\gu 0 d/\c.s.iA.length<=1000000/\c.s.jN.length<=1000000/\∀f∈c.s.jN,f.length<=1000000
def If(e:ICp)(h:List T)(d:H)(g:T)(a:H):Prop:=∃b c f,g=AE e.s b c/\Al d.size a.size a b c f e.s/\Nb d a
structure CpS(s:dZ)(a b aN:T)(h h':H)(i:Nat):Prop where
 ex:∃ver c es',m9 h' (h.size+1+1+1) 4 ver [(dw s.pC,none),(aN,some (1,ge s.iA)),(c,some (1,es')),(dw s.dH,none)]/\es'.length=i/\
  io (λe l=>oO h' 1 e (ge l)/\∀k,dL e=some k->h.size+1<k/\k<h'.size/\¬Fp h' (h.size+1+1+1) k) es' (s.jN.take i)
 nb:Nb h h'
 l1:Lb (h.size+1+1+1) h' h.size (dy 4 0 [.agg [dw s.pC,a,b,dw s.dH]])
 l2:Lb (h.size+1+1+1) h' (h.size+1) (dy 4 0 [.agg [dw 0,dx,dx,dw 0]])
 lo:∀c,Fp h' (h.size+1+1+1) c->h.size+1<c
def Gu:(jp ICp M0 If).Ok Tryz.prog cx 207:=by
 refine jk (tb:=⟨pt [],ht []⟩) ei eg (iL 262175 [(1,[(1,7),(3,7),(7,9)]),(5,[(1,8)])] Tryz.func207) (λ_ _=>1000005) (λC z h c7=>by obtain⟨rfl,_⟩:=c7;simp[Tryz.f207]) ?_;rintro⟨b,z,l,R⟩ _ h ⟨rfl,v,bu,hr,dd,bn⟩ D L;simp only at v hr dd bn;simp[AE]at L;have bz:=bu.hr;have N:∀t a,(t=z\/t=l\/t∈R)->dL t=some a->a<h.size:=v.lt;obtain⟨o,A⟩:∃o:H,o=((TI.hr h).cons (dy 4 0 [.agg [dw b.pC,z,l,dw b.dH]])).cons (dy 4 0 [.agg [dw 0,dx,dx,dw 0]]):=⟨_,rfl⟩;have dm:gu 0 o:=by subst A;exact(bz.cons _).cons _
 have b6:o.size=h.size+1+1:=by subst A;rfl
 have bs:Nb (TI.hr h) o:=by subst A;exact((Nb.refl bz).cons _).cons _
 have cb:o.get h.size=some (dy 4 0 [.agg [dw b.pC,z,l,dw b.dH]]):=by subst A;simp
 have ce:o.get (h.size+1)=some (dy 4 0 [.agg [dw 0,dx,dx,dw 0]]):=by subst A;simp
 have dv:oO o 1 z (ge b.iA):=v.ra.mono λa c=>(bs.get a (N z a (.inl rfl) c)).trans (fX h a);obtain⟨b9,m,J,⟨eL,et,gA⟩,W,r,s⟩:=lq (cx:=cx) dm og rfl yh og rfl rfl dp dv.jc (by simp[T.cells]) dq;simp[A]at J;have eE:h.low<=h.size:=bu.low;have P:∀l,l<o.size->ew (o.cons (dy 1 0 [])) m l=true:=λl c1=>eZ ((r l c1).trans (by rw[dM,ao dj]));have bT:ew (o.cons (dy 1 0 [])) m m.size=true:=iR (lf _ dq);rw[b6]at P;replace P:=P h.size dj;rw[A]at P bT;simp[Tryz.f207,L,J,P,bT];have aN:m.size=h.size+1+1+1:=dj;simp only[aN];generalize a8:T.arr (h.size+1+1) b9 0 b.iA.length false=n;have gN:Gr m n 1 (ge b.iA):=by rw[<-a8];have:=Gr.new gA;rw[b6]at this;simpa using this
 have aX:∀a,dL n=some a->a=h.size+1+1:=λa c=>by rw[<-a8]at c;simp at c;exact c.symm
 have eH:gu 0 m:=s;refine fc b.jN.length dj (λC D g=>CpS b z l n h g C/\dz D 1 (.ptr h.size 0 0 0)/\dz D 2 (.ptr (h.size+1) 0 0 0)/\dz D 3 (.ptr (h.size+1+1+1) 0 0 0)/\dz D 4 (dw C)) ?_ ?_ dj ?_
 ·rintro C D g bl cL ⟨⟨⟨ver,a,E,e,bk,Q⟩,q,l1,l2,M⟩,m,Y,Z,ae⟩;have G:=e.get;simp at G;have ea:∀x,oO (g.cons x) 1 l R:=λx=>v.rb.mono λa c=>by have:=N l a (.inr (.inl rfl)) c;rw[dM,ao (by have:=q.ok.sz;omega)];exact q.get a this
  have al:=v.el.length;have an:=(show oO g 1 l R from v.rb.mono λa c=>q.get a (N l a (.inr (.inl rfl)) c)).len (cx:=cx) g Mn _ rfl;obtain⟨u,hl⟩:∃u,b.jN[C]? =some u:=⟨_,az bl⟩;have c4:=ax hl;obtain⟨t,bi,bC⟩:=v.el.get hl;have eb:oO g 1 t (ge u):=bC.mono λa c=>q.get a (N t a (.inr (.inr (ax bi))) c);obtain⟨p,b7,b8⟩:=(ea (dy 1 0 [])).idx (te:=pX) rfl rfl bi bC.gD.2;have dn:gu 0 g:=e.ok;obtain⟨a7,K,J,⟨eM,eu,gA⟩,W,r,s⟩:=lq (cx:=cx) dn kG rfl nM kG rfl rfl dp eb.jc (by simp[T.cells]) (by have:=bn u c4;simp;omega);have eo:Step (h.size+1+1+1) g K:=(Nb.mk ⟨s.hp,s.low,dj⟩ r:Nb g K).step e.lt;have bH:=e.step s λa c=>r a (e.fp a c);obtain⟨er,eC,a6,aE⟩:=(bH.gr 2 rfl).FA (cx:=cx) s U3 rfl kG rfl dp (x:= .arr g.size a7 0 (ge u).length false) rfl dq;obtain⟨bB,eI,ds⟩:=bH.app 2 rfl aE;obtain⟨O,bN⟩:=ds _ rfl;simp at bB O bN;simp[W]at J a6;have eh:∀a,a<g.size->ew (g.cons (dy 1 0 [])) K a=true:=λa c=>eZ ((r a c).trans (by rw[dM,ao dj]));have di:(h.size=g.size)=False:=by have:=l1.lt;simp;omega
  have eF:(h.size+1+1+1=g.size)=False:=by have:=e.lt;simp;omega
  have ef:=eh _ e.lt;have ey:=(r _ e.lt).trans G;simp[m,Y,Z,ae,l1.get,G,an,al,bl,b7,b8,J,W,a6,bB,di,ef,dP,aE.1.gD,aE.1.cells,cL];have y:=eo.trans O;have eD:=y.ok.sz;have eB:K.size=g.size+1:=W;refine⟨⟨_,er,E++[.arr g.size a7 0 u.length false],bN,by simp[bk],?_⟩,?_,l1.step y,l2.step y,λa c=> ?_⟩
  ·have c9:b.jN.take (C+1)=b.jN.take C++[u]:=by
    rw[List.take_add_one,hl];rfl
   rw[c9];refine io.append (Q.imp λt u k=>⟨k.1.mono λd i=> ?_,λd i=> ?_⟩) (.cons ⟨.inr ?_,λd i=> ?_⟩ .nil)
   ·obtain⟨ap,S,I⟩:=k.2 d i;exact y.get d S I
   ·obtain⟨ap,S,I⟩:=k.2 d i;exact⟨ap,dj,λf=>(y.fp d f).elim I λf=>by omega⟩
   ·have B:¬Fp K (h.size+1+1+1) g.size:=λf=>by
     rw[iE (r _ e.lt)]at f;have:=e.fp _ f;omega
    have:=Gr.new ((O.get g.size dj B).trans gA);simpa using this
   ·simp at i;subst i;refine⟨by have:=l2.lt;omega,by have:=O.ok.sz;omega,λf=> ?_⟩;rcases O.fp _ f with f|f
    ·rw[iE (r _ e.lt)]at f;have:=e.fp _ f;omega
    ·omega
  ·refine⟨⟨y.ok.hp,y.ok.low,by have:=q.ok.sz;omega⟩,λa c=> ?_⟩;exact(y.get a (by have:=q.ok.sz;omega) λf=>by have:=M a f;omega).trans (q.get a c)
  ·rcases y.fp a c with f|f
   ·exact M a f
   ·have:=l2.lt;omega
 ·rintro D g ⟨⟨⟨ver,a,E,e,bk,Q⟩,q,l1,l2,M⟩,m,Y,Z,ae⟩;have G:=e.get;simp at G;have al:=v.el.length;have an:=(show oO g 1 l R from v.rb.mono λa c=>q.get a (N l a (.inr (.inl rfl)) c)).len (cx:=cx) g Mn _ rfl;rw[aL]at Q;have cp:∀V,(dQ g (h.size+1) V).get (h.size+1)=some V:=λV=>(dE l2.get V _).trans (aq rfl);have U:=e.rn l2 (dy 4 1 [.agg [dw b.pC,n,a,dw b.dH]]);simp[m,Y,Z,ae,l1.get,l2.get,G,an,al,dP,cp];have bS:=U.step (U.ok.out h) λa _=>fK h _ a;have c6:∀d,h.size+1<d->(dQ g (h.size+1) (dy 4 1 [.agg [dw b.pC,n,a,dw b.dH]])).get d=g.get d:=λd i=>by rw[dE l2.get,ao dj]
  have eA:=e.gr 2 rfl;have av:(n,some (1,ge b.iA))∈ [((dw b.pC:T),(none:aa (Nat×List T))),(n,some (1,ge b.iA)),(a,some (1,E)),(dw b.dH,none)]:=dp;have aA:(a,some (1,E))∈ [((dw b.pC:T),(none:aa (Nat×List T))),(n,some (1,ge b.iA)),(a,some (1,E)),(dw b.dH,none)]:=dp;refine⟨n,a,E,rfl,⟨bS.gr 1 rfl,bS.gr 2 rfl,Q.imp λt u k=>⟨k.1.mono λd i=> ?_,λd i=> ?_⟩,λd i=> ?_,λd i=> ?_⟩,⟨⟨(U.ok.out h).hp,(U.ok.out h).low,by simp;exact q.ok.sz⟩,λd i=> ?_⟩⟩
  ·rw[fK];exact c6 d (k.2 d i).1
  ·obtain⟨ap,S,I⟩:=k.2 d i;exact⟨dj,by simpa using S,λk=>I (e.AO av k),λk=>I (e.AO aA k)⟩
  ·have:=e.fp d (e.AO av i);have:=M d (e.AO av i);exact⟨dj,by simpa,e.Tf 1 2 du _ _ rfl rfl d i⟩
  ·have:=e.fp d (e.AO aA i);have:=M d (e.AO aA i);exact⟨dj,by simpa⟩
  ·rw[fK,dE l2.get,ao dj];exact q.get d i
 ·have de:m.low<=h.size+1+1+1:=by have:=s.low;omega
  have dk:Nb h m:=⟨⟨s.hp,s.low,dj⟩,λa c=>(r a dj).trans ((bs.get a c).trans (fX h a))⟩;obtain⟨ec,ca⟩:=m9.one (i0:=1) (h:=m.cons (dy 4 1 [.agg [dw b.pC,n,dx,dw b.dH]])) (w:=h.size+1+1+1) (szw:=4) (ver:=1) (F:=[(dw b.pC,none),(n,some (1,ge b.iA)),(dx,some (1,[])),(dw b.dH,none)]) (s.cons _) (by simp[aN]) (λf B=>by
   simp only[ci,cY,or_false]at B;rcases B with rfl|rfl|rfl|rfl
   ·show dL _=none;simp
   ·exact⟨gN.mono λa c=>by rw[aX a c,dM,ao dj],show(1:Nat)≠4 by decide⟩
   ·exact⟨Gr.nil _ _,du⟩
   ·show dL _=none;simp) (λj z L k=>by
   rcases j with _|_|_|_|j<;>simp at L<;>subst L<;>simp at k|-)
  have X:∀a,Fp (m.cons (dy 4 1 [.agg [dw b.pC,n,dx,dw b.dH]])) (h.size+1+1+1) a->h.size+1<a:=λa c=>by
   rcases ca a c with k|⟨f,B,k⟩
   ·omega
   ·simp at B;subst B;have:=aX a k;omega
  simp[aN,de];refine⟨⟨_,_,[],ec,rfl,.nil⟩,dk.cons _,⟨?_,λk=> ?_⟩,⟨?_,λk=> ?_⟩,X⟩
  ·rw[dM,ao dj];exact(r h.size dj).trans cb
  ·have:=X _ k;omega
  ·rw[dM,ao dj];exact(r (h.size+1) dj).trans ce
  ·have:=X _ k;omega
def RP(b c:H)(d:T)(e:List Int):Prop:=oO c 1 d (ge e)/\Nb b c/\∀a,dL d=some a->b.size<=a
structure IUn where
 (x y:List Int) (u v:T)
def MV(a:IUn)(c:List T)(b:H):Prop:=c=[a.u,a.v]/\oO b 1 a.u (ge a.x)/\oO b 1 a.v (ge a.y)/\a.x.length+a.y.length<=10000000/\gu 0 b
def Id(a:IUn)(e:List T)(b:H)(d:T)(c:H):Prop:=RP b c d (yC a.x a.y)
def Pl(b:T)(a:List Int):Prop:=(b= dx/\a=[])\/b=sl (ge a)
def Pl.ry{a:T}{b:List Int}(d:Pl a b)(c:H):ry c a=some (sl (ge b))/\jE a=true/\a.gD=true:=by
 rcases d with⟨rfl,rfl⟩|rfl<;>simp
def Pl.rd{a:T}{b:List Int}(d:Pl a b)(c:H):oO c 1 a (ge b)/\dL a=none:=by
 rcases d with⟨rfl,rfl⟩|rfl
 ·exact⟨.inr (Gr.nil _ _),rfl⟩
 ·exact⟨.inl rfl,dp⟩
def Ge:(jp IUn MV Id).Ok Tryz.prog cx 155:=by
 refine jk (tb:=⟨pt [(202,F2)],ht []⟩) ei eg (iL 8390899 [] Tryz.func155) (λ_ _=>10000005) (λi N b K=>by obtain⟨rfl,_⟩:=K;simp[Tryz.f155]) ?_;rintro⟨x,g,H,A⟩ _ b ⟨rfl,D,F,hl,L⟩ c B;simp only at D F hl;simp at B;obtain⟨k,d⟩:=B;have E:oO (hr b) 1 H (ge x):=D.mono λl _=>fX b l;have G:oO (hr b) 1 A (ge g):=F.mono λl _=>fX b l;have y:=E.len (cx:=cx) (hr b) pX _ rfl;have z:=G.len (cx:=cx) (hr b) pX _ rfl;rw[aH]at y z;simp[Tryz.f155];refine fc x.length dj (λa c s=>s=hr b/\dz c 0 H/\dz c 1 A/\dz c 6 (dw a)/\∃f,dz c 5 f/\Pl f (lj [] (x.take a))) ?_ ?_ dj (by simp[k,d];exact .inl ⟨rfl,rfl⟩)
 ·rintro a c _ j v ⟨rfl,k,d,t,f,h,e⟩;obtain⟨M,m,n⟩:=E.idx (te:=FI) rfl rfl (i:=a) (x:= dw x[a]) (by simp[j]) rfl;have w:=wV [] (x.take a);simp at w;obtain⟨q,r,I⟩:=e.ry (hr b);have o:=λ{tb:fq} (ht:tb.p 202=some F2)=>Z0 ht (lj [] (x.take a)) x[a] dj;simp[k,d,h,t,y,j,v,m,n,q,r,o,zQ [] x j];exact .inr rfl
 ·rintro c _ ⟨rfl,k,d,t,f,h,e⟩;rw[aL]at e;simp[k,t,y];refine fc g.length dj (λa c s=>s=hr b/\dz c 1 A/\dz c 7 (dw a)/\∃f,dz c 5 f/\Pl f (lj (lj [] x) (g.take a))) ?_ ?_ dj (by simp[d,h];exact e)
  ·rintro a c _ j v ⟨rfl,d,u,f,h,e⟩;obtain⟨M,m,n⟩:=G.idx (te:=FI) rfl rfl (i:=a) (x:= dw g[a]) (by simp[j]) rfl;have w:=wV (lj [] x) (g.take a);have J:=wV [] x;simp at w J;obtain⟨q,r,I⟩:=e.ry (hr b);have o:=λ{tb:fq} (ht:tb.p 202=some F2)=>Z0 ht (lj (lj [] x) (g.take a)) g[a] dj;simp[d,h,u,z,j,v,m,n,q,r,o,zQ (lj [] x) g j];exact .inr rfl
  ·rintro c _ ⟨rfl,d,u,f,h,e⟩;rw[aL]at e;simp[d,h,u,z];obtain⟨r1,r2⟩:=e.rd (lA b (hr b));exact⟨r1,(Nb.refl L.hr).out,λl C=>by rw[r2]at C;simp at C⟩
def Lk(f:H)(d:Nat->Prop)(e:T)(c:dS):Prop:=∃a,e= .agg [dw c.iF,a]/\oO f 1 a (ge c.d8)/\∀b,dL a=some b->d b
structure AB(lo hi:Nat)(h:H)(c0 c2 c3:T)(es:List T)(S:fg):Prop where
 g0:Gr h c0 2 es
 g2:Gr h c2 1 (S.done.map T.bool)
 g3:Gr h c3 3 (S.dB.map dD.t)
 el:io (Lk h λc=>lo<=c/\c<hi/\dL c0≠some c/\dL c2≠some c/\dL c3≠some c) es S.dV
 b:∀c,(dL c0=some c\/dL c2=some c\/dL c3=some c)->lo<=c/\c<hi
def Mq(a:fg)(b c d:T):T:= .agg [b,dw a.tx,c,d]
def DB(a:fg)(b:List T)(c:H):Prop:=b=[a.t]/\gu 0 c/\a.dV.length<=1000000/\a.done.length<=1000000/\a.dB.length<=1000000/\∀d∈a.dV,d.d8.length<=1000000
def Ig(b:fg)(i:List T)(f:H)(h:T)(a:H):Prop:=∃c d e g,h=Mq b c d e/\AB f.size a.size a c d e g b/\Nb f a
structure C8(S:fg)(c2 c3:T)(h h':H)(i:Nat):Prop where
 ex:∃ver c0 es,m9 h' (h.size+1+1+1+1) 4 ver [(c0,some (2,es)),(dw S.tx,none),(c2,some (1,S.done.map T.bool)),(c3,some (3,S.dB.map dD.t))]/\es.length=i/\
  io (Lk h' λk=>h.size+1<k/\k<h'.size/\¬Fp h' (h.size+1+1+1+1) k) es (S.dV.take i)
 nb:Nb h h'
 l1:Lb (h.size+1+1+1+1) h' h.size (dy 4 0 [S.t])
 l2:Lb (h.size+1+1+1+1) h' (h.size+1) (dy 4 0 [.agg [dx,dw 0,dx,dx]])
 lo:∀c,Fp h' (h.size+1+1+1+1) c->h.size+1<c
def Gt:(jp fg DB Ig).Ok Tryz.prog cx 154:=by
 refine jk (tb:=⟨pt [],ht []⟩) ei eg (iL 1048607 [(1,[(1,5),(5,6),(5,8),(1,9),(5,11),(9,11)]),(5,[(1,15),(3,15),(5,15),(7,15)])] Tryz.func154) (λ_ _=>1000005) (λz I b ef=>by obtain⟨rfl,_⟩:=ef;simp[Tryz.f154]) ?_;rintro c _ b ⟨rfl,ey,hl,eU,ht,hr⟩ G D;simp at D;have bs:=ey.hr;obtain⟨p,C⟩:∃p:H,p=((TI.hr b).cons (dy 4 0 [c.t])).cons (dy 4 0 [.agg [dx,dw 0,dx,dx]]):=⟨_,rfl⟩;have eA:gu 0 p:=by subst C;exact(bs.cons _).cons _
 have eM:p.size=b.size+1+1:=by subst C;rfl
 have eu:Nb b p:=by subst C;exact⟨(((Nb.refl bs).cons _).cons _).ok,λa h=>((((Nb.refl bs).cons _).cons _).get a h).trans (fX b a)⟩
 have b8:p.get b.size=some (dy 4 0 [c.t]):=by subst C;simp
 have dm:p.get (b.size+1)=some (dy 4 0 [.agg [dx,dw 0,dx,dx]]):=by subst C;simp
 obtain⟨a7,o,J,⟨e2,eN,gA⟩,aN,m,P⟩:=lq (cx:=cx) eA (x:=sl (c.done.map T.bool)) (xs:=c.done.map T.bool) Fe rfl OL Fe rfl rfl dp dp (λe ea=>by obtain⟨n,_,rfl⟩:=List.mem_map.1 ea;rfl) dq;obtain⟨L,k,K,⟨eH,dk,b9⟩,e3,O,okB⟩:=lq (cx:=cx) P (x:=sl (c.dB.map dD.t)) (xs:=c.dB.map dD.t) Cf rfl AR Cf rfl rfl dp dp dp dq;have bT:o.size=b.size+1+1+1:=dj;have X:k.size=b.size+1+1+1+1:=dj;have V:∀n,n<p.size->ew (p.cons (dy 1 0 [])) o n=true:=λn S=>eZ ((m n S).trans (by rw[dM,ao dj]));have c4:∀n,n<o.size->ew (o.cons (dy 3 0 [])) k n=true:=λn S=>eZ ((O n S).trans (by rw[dM,ao dj]));have bB:=V b.size dj;have c6:=c4 b.size dj;have bH:ew (p.cons (dy 1 0 [])) o (b.size+1+1+1+1)=true:=iR (lf _ dq);have c7:ew (o.cons (dy 3 0 [])) k (b.size+1+1+1+1)=true:=iR (lf _ dq);have bC:ew (p.cons (dy 1 0 [])) o (b.size+1+1+1)=true:=iR (lf _ dq);have bi:=(m b.size dj).trans b8;have ds:=(O b.size dj).trans bi;simp[C]at J;simp[bT]at K;rw[C]at bB bC bH;simp[Tryz.f154,D,J,K,bB,bC,c6,bH,c7,bi,bT,X];have de:=(show Gr k (.arr (b.size+1+1) a7 0 c.done.length false) 1 (c.done.map T.bool)by
  have:=Gr.new ((O p.size dj).trans gA);rw[eM]at this;simpa using this)
 have di:=(show Gr k (.arr (b.size+1+1+1) L 0 c.dB.length false) 3 (c.dB.map dD.t)by
  have:=Gr.new b9;rw[bT]at this;simpa using this)
 have et:Nb b k:=⟨⟨okB.hp,okB.low,dj⟩,λa h=>(O a dj).trans ((m a dj).trans (eu.get a h))⟩;have eI:=(O b.size dj).trans ((m b.size dj).trans b8);have eL:=(O (b.size+1) dj).trans ((m (b.size+1) dj).trans dm);have eo:k.low<=b.size+1+1+1+1:=by have:=okB.low;omega
 have b6:∀a,dL (.arr (b.size+1+1) a7 0 c.done.length false)=some a->a=b.size+1+1:=λa q=>by simpa using q.symm
 have b7:∀a,dL (.arr (b.size+1+1+1) L 0 c.dB.length false)=some a->a=b.size+1+1+1:=λa q=>by simpa using q.symm
 clear J K V c4 bB bC bH c6 c7 bi ds gA b9;generalize T.arr (b.size+1+1) a7 0 c.done.length false=r at*
 generalize T.arr (b.size+1+1+1) L 0 c.dB.length false=s at*
 refine fc c.dV.length dj (λz G i=>C8 c r s b i z/\dz G 1 (.ptr b.size 0 0 0)/\dz G 2 (.ptr (b.size+1) 0 0 0)/\dz G 3 (.ptr (b.size+1+1+1+1) 0 0 0)/\dz G 4 (dw z)) ?_ ?_ dj ?_
 ·rintro z G i an dv ⟨⟨⟨eF,A,B,d,ca,Y⟩,N,l1,l2,av⟩,o,k,Z,ae⟩;have M:=d.get;simp at M;obtain⟨l,al⟩:∃l,c.dV[z]? =some l:=⟨_,az an⟩;have eW:=hr l (ax al);obtain⟨L,R,J,⟨eH,dk,gA⟩,aN,m,P⟩:=lq (cx:=cx) d.ok (x:=sl (ge l.d8)) (xs:=ge l.d8) kG rfl nM kG rfl rfl dp dp (by simp[T.cells]) dq;have eD:Step (b.size+1+1+1+1) i R:=(Nb.mk ⟨P.hp,P.low,dj⟩ m:Nb i R).step d.lt;have c9:=d.step P λa h=>m a (d.fp a h);obtain⟨eE,eS,K,bS⟩:=(c9.gr 0 rfl).FA (cx:=cx) P I3 rfl Ff rfl dp (x:= .agg [dw l.iF,.arr i.size L 0 (ge l.d8).length false]) rfl dq;obtain⟨aA,e1,bu⟩:=c9.app 0 rfl bS;obtain⟨W,dd⟩:=bu _ rfl;simp at aA W dd;simp[aN]at J K;have V:∀a,a<i.size->ew (i.cons (dy 1 0 [])) R a=true:=λa h=>eZ ((m a h).trans (by rw[dM,ao dj]));have er:(b.size=i.size)=False:=by have:=l1.lt;simp;omega
  have e0:(b.size+1+1+1+1=i.size)=False:=by have:=d.lt;simp;omega
  have eB:=V _ d.lt;have eC:=V _ l1.lt;have eP:=(m _ d.lt).trans M;have eO:=(m _ l1.lt).trans l1.get;simp[o,Z,ae,l1.get,M,an];have ec:c.dV[z]=l:=by rw[az an]at al;simpa using al
  simp[o,k,Z,ae,an,ec,J,aN,K,aA,er,eB,eC,dP,bS.1.gD,bS.1.cells,dv];have w:=eD.trans W;have eX:=w.ok.sz;have eR:R.size=i.size+1:=aN;refine⟨⟨_,eE,B++[.agg [dw l.iF,.arr i.size L 0 l.d8.length false]],dd,by simp[ca],?_⟩,?_,l1.step w,l2.step w,λa h=> ?_⟩
  ·have eh:c.dV.take (z+1)=c.dV.take z++[l]:=by
    rw[List.take_add_one,al];rfl
   rw[eh];refine io.append (Y.imp λe l ⟨bz,aX,a6,Q⟩=>⟨bz,aX,a6.mono λg j=> ?_,λg j=> ?_⟩) (.cons ⟨_,rfl,.inr ?_,λg j=> ?_⟩ .nil)
   ·obtain⟨bl,ap,F⟩:=Q g j;exact w.get g ap F
   ·obtain⟨bl,ap,F⟩:=Q g j;exact⟨bl,dj,λf=>(w.fp g f).elim F λf=>by omega⟩
   ·have E:¬Fp R (b.size+1+1+1+1) i.size:=λf=>by
     rw[iE (m _ d.lt)]at f;have:=d.fp _ f;omega
    have:=Gr.new ((W.get i.size dj E).trans gA);simpa using this
   ·simp at j;subst j;refine⟨by have:=l2.lt;omega,by have:=W.ok.sz;omega,λf=> ?_⟩;rcases W.fp _ f with f|f
    ·rw[iE (m _ d.lt)]at f;have:=d.fp _ f;omega
    ·omega
  ·refine⟨⟨w.ok.hp,w.ok.low,by have:=N.ok.sz;omega⟩,λa h=> ?_⟩;exact(w.get a (by have:=N.ok.sz;omega) λf=>by have:=av a f;omega).trans (N.get a h)
  ·rcases w.fp a h with f|f
   ·exact av a f
   ·have:=l2.lt;omega
 ·rintro G i ⟨⟨⟨eF,A,B,d,ca,Y⟩,N,l1,l2,av⟩,o,k,Z,ae⟩;have M:=d.get;simp at M;rw[aL]at Y;have dn:∀y,(dQ i (b.size+1) y).get (b.size+1)=some y:=λy=>(dE l2.get y _).trans (aq rfl);have aE:=d.rn l2 (dy 4 1 [.agg [A,dw c.tx,r,s]]);simp[o,k,Z,ae,l1.get,l2.get,M,dP,dn];have bN:=aE.step (aE.ok.out b) λa _=>fK b _ a;have ce:(A,some (2,B))∈ [(A,some (2,B)),((dw c.tx:T),(none:aa (Nat×List T))),(r,some (1,c.done.map T.bool)),(s,some (3,c.dB.map dD.t))]:=dp;have cp:(r,some (1,c.done.map T.bool))∈ [(A,some (2,B)),((dw c.tx:T),(none:aa (Nat×List T))),(r,some (1,c.done.map T.bool)),(s,some (3,c.dB.map dD.t))]:=dp;have cL:(s,some (3,c.dB.map dD.t))∈ [(A,some (2,B)),((dw c.tx:T),(none:aa (Nat×List T))),(r,some (1,c.done.map T.bool)),(s,some (3,c.dB.map dD.t))]:=dp;refine⟨A,r,s,B,rfl,⟨bN.gr 0 rfl,bN.gr 2 rfl,bN.gr 3 rfl,Y.imp λe l ⟨bz,aX,a6,Q⟩=>⟨bz,aX,a6.mono λg j=> ?_,λg j=> ?_⟩,λg j=> ?_⟩,⟨⟨(aE.ok.out b).hp,(aE.ok.out b).low,by simp;exact N.ok.sz⟩,λg j=> ?_⟩⟩
  ·rw[fK,dE l2.get,ao (by have:=(Q g j).1;omega)]
  ·obtain⟨bl,ap,F⟩:=Q g j;exact⟨dj,by simpa using ap,λq=>F (d.AO ce q),λq=>F (d.AO cp q),λq=>F (d.AO cL q)⟩
  ·have E:Fp i (b.size+1+1+1+1) g:=by
    rcases j with q|q|q
    ·exact d.AO ce q
    ·exact d.AO cp q
    ·exact d.AO cL q
   have:=d.fp g E;have:=av g E;exact⟨dj,by simpa⟩
  ·rw[fK,dE l2.get,ao dj];exact N.get g j
 ·have bn:∀(u:Nat) (I:T×aa (Nat×List T)) a,[(T.dC [] false,some (2,[])),((dw c.tx:T),(none:aa (Nat×List T))),(r,some (1,c.done.map T.bool)),(s,some (3,c.dB.map dD.t))][u]? =some I->dL I.1=some a->a=b.size+u:=λu I a D q=>by
   rcases u with _|_|_|_|u<;>simp at D<;>subst D
   ·simp at q
   ·simp at q
   ·have:=b6 a q;omega
   ·have:=b7 a q;omega
  have c1:m9 (k.cons (dy 4 1 [.agg [dx,dw c.tx,r,s]])) (b.size+1+1+1+1) 4 1 [(T.dC [] false,some (2,[])),(dw c.tx,none),(r,some (1,c.done.map T.bool)),(s,some (3,c.dB.map dD.t))]:=by
   refine⟨okB.cons _,by simp[X],λf E=> ?_,λu g eV I n D S a aA bu=> ?_⟩
   ·simp only[ci,cY,or_false]at E;rcases E with rfl|rfl|rfl|rfl
    ·exact⟨Gr.nil _ _,show(2:Nat)≠4 by decide⟩
    ·show dL _=none;simp
    ·exact⟨de.mono λa h=>by have:=b6 a h;rw[dM,ao (by rw[X];omega)],show(1:Nat)≠4 by decide⟩
    ·exact⟨di.mono λa h=>by have:=b7 a h;rw[dM,ao (by rw[X];omega)],show(3:Nat)≠4 by decide⟩
   ·have:=bn u I a D aA;have:=bn g n a S bu;omega
  have a8:∀a,Fp (k.cons (dy 4 1 [.agg [dx,dw c.tx,r,s]])) (b.size+1+1+1+1) a->b.size+1<a:=λa h=>by
   rcases h with q|⟨x,bk,v,cb,q⟩
   ·omega
   ·rw[c1.get]at bk;simp only[ar]at bk;subst bk;simp only[eQ,cB,cX,cg,T.cells]at cb;obtain⟨f,eb,rfl⟩:=List.mem_map.1 cb;obtain⟨u,U⟩:=cN eb;have j:=bn u f a U q;rcases u with _|_|u
    ·simp at U;subst U;simp at q
    ·simp at U;subst U;simp at q
    ·omega
  simp[X,eo];refine⟨⟨_,_,[],c1,rfl,.nil⟩,et.cons _,⟨?_,λq=> ?_⟩,⟨?_,λq=> ?_⟩,a8⟩
  ·rw[dM,ao dj];exact eI
  ·have:=a8 _ q;omega
  ·rw[dM,ao dj];exact eL
  ·have:=a8 _ q;omega
structure Ac(h0 h':H)(v:T)(l:List Int):Prop where
 nb:Nb h0 h'
 g:Gr h' v 1 (ge l)
 lo:∀c,dL v=some c->h0.size<=c
def Ac.start{a:H}(b:gu 0 a):Ac a a dx []:=⟨Nb.refl b,Gr.nil _ _,λd c=>by simp at c⟩
def Ac.mM{m h:H}{n:T}{j:List Int}(a:Ac m h n j)(l:Int)(s:j.length<=10000000):∃d c,iK cx (h.cons (dy 1 0 [dw l])) 38 38 n (.arr h.size 0 0 1 false)=some (.val d c)/\Ac m c d (j++[l]):=by
 obtain⟨d,c,e,o,p,r,k⟩:=a.g.mM (cx:=cx) (f:=T.int .i64) ⟨a.nb.ok.hp,a.nb.ok.low,aw _⟩ kG rfl nM rfl dp (λ_=>rfl) l dq;have:=a.nb.ok.sz;refine⟨d,c,e,⟨⟨k.hp,k.low,aS a.nb.ok.sz k.sz⟩,λb i=>(p b dj λq=>by have:=a.lo b q;omega).trans (a.nb.get b i)⟩,o,λb i=> ?_⟩;rcases r b i with q|q
 ·exact a.lo b q
 ·omega
def Ac.Gx{a c:H}{l:T}{i:List Int}{h:H}(e:Ac h c l i)(j:Nb a h):RP a (lA a c) l i:=by
 have d:=j.trans e.nb;have k:gu 0 c:=⟨d.ok.hp,d.ok.low,aw _⟩;have:=j.ok.sz;exact⟨.inr (e.g.out a),⟨⟨(k.out a).hp,(k.out a).low,d.ok.sz⟩,λb f=>(fK a c b).trans (d.get b f)⟩,λb f=>by have:=e.lo b f;omega⟩
structure IWt where
 (S:fg) (c0 c2 c3:T) (c:Int)
def Sy(a:IWt)(d:List T)(b:H):Prop:=d=[Mq a.S a.c0 a.c2 a.c3,dw a.c]/\Gr b a.c3 3 (a.S.dB.map dD.t)/\a.S.dB.length<=1000000/\gu 0 b
def M1(a:IWt)(f:List T)(b:H)(e:T)(d:H):Prop:=RP b d e (gU a.c a.S.dB 0)
def HO(c:Int)(b:List dD)(a:Nat)(d:a<b.length):gU c (b.drop a) a=if b[a].iv=3/\b[a].cond=c then(a:Int)::gU c (b.drop (a+1)) (a+1)else gU c (b.drop (a+1)) (a+1):=by
 rw[aI d,gU]
def Bu:(jp IWt Sy M1).Ok Tryz.prog cx 153:=by
 refine jk (tb:=⟨pt [],ht []⟩) ei eg (iL 1073743991 [] Tryz.func153) (λ_ _=>1000005) (λi d a P=>by obtain⟨rfl,_⟩:=P;simp[Tryz.f153]) ?_;rintro⟨b,k,l,c,j⟩ _ a ⟨rfl,o,hl,z⟩ m D;simp only at o hl;simp[Mq]at D;obtain⟨L,f⟩:=D;have R:=z.hr.cons (dy 4 0 [.agg [k,dw b.tx,l,c]]);have K:Gr ((hr a).cons (dy 4 0 [.agg [k,dw b.tx,l,c]])) c 3 (b.dB.map dD.t):=o.mono λe r=>by
  obtain⟨_,_,_,_,A,_⟩:=o.box r;rw[dM,ao (by have:=H.ej A;simp;omega),fX]
 have l3:∀e,dL c=some e->e<a.size:=λe r=>by obtain⟨_,_,_,_,A,_⟩:=o.box r;exact H.ej A
 have w:=λf:H=>o.len (cx:=cx) f KJ _ rfl;rw[aH]at w;simp[Tryz.f153,L];have B:((hr a).cons (dy 4 0 [.agg [k,dw b.tx,l,c]])).get a.size=some (dy 4 0 [.agg [k,dw b.tx,l,c]]):=dp;have Q:Nb a ((hr a).cons (dy 4 0 [.agg [k,dw b.tx,l,c]])):=⟨((Nb.refl z.hr).cons _).ok,λj O=>(((Nb.refl z.hr).cons _).get j O).trans (fX a j)⟩;have al:((hr a).cons (dy 4 0 [.agg [k,dw b.tx,l,c]])).size=a.size+1:=rfl;generalize X:(hr a).cons (dy 4 0 [.agg [k,dw b.tx,l,c]])=M at*
 refine fc b.dB.length dj (λh m h'=>∃s n,Ac M h' s n/\n.length<=h/\n++gU j (b.dB.drop h) h=gU j b.dB 0/\dz m 1 (dw j)/\dz m 2 (.ptr a.size 0 0 0)/\dz m 5 s/\dz m 6 (dw h)) ?_ ?_ dj ⟨_,_,Ac.start R,aw _,rfl,by simp[f]⟩
 ·rintro h m h' x E ⟨s,n,d,N,g,f,p,u,q⟩;have v:=(d.nb.get a.size dj).trans B;obtain⟨e,U,Z,V,ae,T,G,I,C⟩:=(K.mono (h':=h') λe r=>d.nb.get e (by have:=l3 e r;omega)).ID (te:=zG) rfl (i:=h) (by simpa using x);simp at C;rw[HO j _ _ x]at g;simp[f,p,q,w,x,v,G,I,C];generalize b.dB[h]=Y at*
  refine dU (λy=> ?_) (λy=> ?_)
  ·rw[aq (by simpa using y)]at g;obtain⟨S,W,J,F⟩:=d.mM (h:Int) dj;simp[f,p,u,q,J,E];exact⟨S,_,F,dq,by simpa using g,rfl⟩
  ·rw[ao (by simpa using y)]at g;simp[f,p,u,q,E];exact⟨s,n,d,dj,g,rfl⟩
 ·rintro m h' ⟨s,n,d,N,g,f,p,u,q⟩;have v:=(d.nb.get a.size dj).trans B;simp[gU]at g;subst g;simp[p,u,q,w,v];exact d.Gx Q
structure IWo where
 (l:List Int) (v:T) (n:Int)
def Sz(a:IWo)(d:List T)(b:H):Prop:=d=[a.v,dw a.n]/\oO b 1 a.v (ge a.l)/\(∀c,dL a.v=some c->c<b.size)/\a.l.length<=1000000/\gu 0 b
def M2(a:IWo)(f:List T)(b:H)(d:T)(c:H):Prop:=RP b c d (a.l.filter λe=> !decide (e=a.n))
def Ik:(jp IWo Sz M2).Ok Tryz.prog cx 156:=by
 refine jk (tb:=⟨pt [],ht []⟩) ei eg (iL 263283 [] Tryz.func156) (λ_ _=>1000005) (λi f h E=>by obtain⟨rfl,_⟩:=E;simp[Tryz.f156]) ?_;rintro⟨l,I,r⟩ _ h ⟨rfl,t,z,hl,s⟩ e w;simp only at t z hl;simp at w;obtain⟨c,a⟩:=w;have F:Nb h (hr h):=⟨⟨s.hr.hp,s.hr.low,au _⟩,λj _=>fX h j⟩;have o:=λa:H=>t.len (cx:=cx) a pX _ rfl;rw[aH]at o;simp[Tryz.f156];refine fc l.length dj (λd e h'=>∃m g,Ac (hr h) h' m g/\g.length<=d/\g++(l.drop d).filter (λx=> !decide (x=r))=l.filter (λx=> !decide (x=r))/\dz e 0 I/\dz e 1 (dw r)/\dz e 5 m/\dz e 6 (dw d)) ?_ ?_ dj ⟨_,_,Ac.start s.hr,aw _,rfl,by simp[c,a]⟩
 ·rintro d e h' p y ⟨m,g,f,C,b,c,a,n,k⟩;obtain⟨K,u,v⟩:=(t.mono (h':=h') λj D=>(f.nb.get j (by simpa using z j D)).trans (fX h j)).idx (te:=FI) rfl rfl (i:=d) (x:= dw l[d]) (by simp[p]) rfl;rw[aI p,List.filter_cons]at b;simp[c,a,k,o,p,u,v];generalize l[d]=x at*
  refine dU (λq=> ?_) (λq=> ?_)
  ·rw[aq (by simpa using q)]at b;obtain⟨G,J,B,A⟩:=f.mM x dj;simp[c,a,n,k,u,v,B,y];exact⟨G,_,A,dq,by simpa using b,rfl⟩
  ·rw[ao (by simpa using q)]at b;simp[c,a,n,k,y];exact⟨m,g,f,dj,b,rfl⟩
 ·rintro e h' ⟨m,g,f,C,b,c,a,n,k⟩;simp at b;subst b;simp[c,n,k,o];exact f.Gx F
end
end Go.Proofs.YtmaeadedikngoaaGreatDoor
