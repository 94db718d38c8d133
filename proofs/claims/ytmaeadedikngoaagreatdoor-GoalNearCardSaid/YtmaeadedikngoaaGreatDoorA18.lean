/- Texts X07 to W08f. -/
import Derived.Test.YtmaeadedikngoaaGreatDoorA17
set_option linter.all false
set_option maxRecDepth 100000
set_option maxHeartbeats 8000000
namespace Go.Proofs.YtmaeadedikngoaaGreatDoor
noncomputable section
open Go Go.TI
attribute [-simp] List.map_take List.map_drop List.map_append fw eQ dZ Bool.not_or Bool.not_and
attribute [simp] fq eY
def Mf(b c:H)(f:Nat)(e:List (T×aa (Nat×List T))):Prop:=∃d g,mW c d f g e/\(∀a,Fp c d a->b.size<=a)/\gF b.size c/\∀a,a<b.size->c.get a=b.get a
def Mf.of{b f d:H}{e j k:Nat}{h:List (T×aa (Nat×List T))}(n:mW d e j k h)(c:Step e f d)(i:∀a,Fp f e a->b.size<=a)(l:b.size<=f.size)(m:∀a,a<b.size->f.get a=b.get a):Mf b (lL b d) j h:=
 ⟨e,k,n.step ((gF.out ⟨c.ok.hp,c.ok.low,aw _⟩ b)) λa _=>fO b d a,λa g=>by
   rw[iJ (fO b d e)]at g;rcases c.fp a g with q|q
   ·exact i a q
   ·omega,gF.out ⟨c.ok.hp,c.ok.low,aS l c.ok.sz⟩ b,λa g=>(fO b d a).trans ((c.get a dq λq=>by have:=i a q;omega).trans (m a g))⟩
def pS8(a:dU)(b:List T)(c:H):Prop:=b=[a.t]/\gF 0 c/\a.dY.length<=1000000/\a.dX.length<=1000000/\a.dE.length<=1000000
def yM(b:Nat):List dG:=(List.range b).map λa=>⟨if a=0 then 1 else 0,0,false⟩
def KU(a:Nat):yM (a+1)=yM a++[⟨if a=0 then 1 else 0,0,false⟩]:=by
 unfold yM;rw[List.range_succ,List.map_append];rfl
def qS8(a:dU)(_:List T)(e:H)(g:T)(f:H):Prop:=∃b c d,g= .agg [b,dy (-1),c,d]/\Mf e f 4 [(b,some (2,(List.replicate a.dY.length ()).map xM)),(dy (-1),none),(c,some (1,(List.replicate a.dX.length false).map T.bool)),(d,some (3,(yM a.dE.length).map dG.t))]
def Sz8(e:Nat)(f:H)(Lk:List Unit)(a:List Bool)(Th:List dG):Prop:=∃g b c d,mW f e 4 g [(b,some (2,Lk.map xM)),(dy (-1),none),(c,some (1,a.map T.bool)),(d,some (3,Th.map dG.t))]
def acd:(js dU pS8 qS8).Ok Tryz.prog cx 73:=by
 refine jo (tb:=⟨pt [],ht []⟩) ew ej (iQ 9071038046463 [] Tryz.func73) (λ_ _=>1000005) (λe a h aE=>by obtain⟨rfl,_⟩:=aE;simp[Tryz.f73]) ?_;rintro(w:dU) _ h ⟨rfl,ap,hl,bl,ht⟩ d Z;simp at Z;simp[Tryz.f73,Z];generalize M:dT _ _ _=p;have N:gF 0 p:=by rw[<-M];exact(((ap.hr.cons _).cons _).cons _).put _ _
 have bs:p.size=h.size+3:=by rw[<-M];simp
 have J:∀j,p.get j=if j=h.size+2 then some (dA 4 1 [.agg [dz,dy (-1),dz,dz]])else if j=h.size+1 then some uL else if j=h.size then some (dA 6 0 [w.t])else h.get j:=λj=>by
  rw[<-M,lY (((ap.hr.cons _).cons _).cons _).hp dt,dP,dP,dP,f9];simp only[size_cons,nq];by_cases K:j=h.size+2<;>simp[K,uL]
 obtain⟨a7,O⟩:=mW.start (h:=p) (w:=h.size+2) (szw:=4) (ver:=1) (F:=[(dz,some (2,[])),(dy (-1),none),(dz,some (1,[])),(dz,some (3,[]))]) N (by rw[J,aq rfl];rfl) dt;have I:Lb (h.size+2) p h.size (dA 6 0 [w.t]):=⟨by rw[J,ao dq,ao dq,aq rfl],λK=>by have:=O _ K;omega⟩;have aX:Lb (h.size+2) p (h.size+1) uL:=⟨by rw[J,ao dq,aq rfl],λK=>by have:=O _ K;omega⟩;have a6:∀j,j<h.size->p.get j=h.get j:=λj E=>by rw[J,ao dq,ao dq,ao dq]
 clear M J;refine fh w.dY.length dq (λe d g=>Sz8 (h.size+2) g (List.replicate e ()) [] []/\Step (h.size+2) p g/\dB d 1 (.ptr h.size 0 0 0)/\dB d 2 (.ptr (h.size+1) 0 0 0)/\dB d 3 (.ptr (h.size+2) 0 0 0)/\dB d 4 (dy e)) ?_ ?_ dq ⟨⟨_,_,_,_,a7⟩,Step.refl N,dt⟩
 ·rintro e d g G D ⟨⟨ver,r,s,z,b⟩,c,i,k,l,m⟩;have o:=b.get;simp at o;obtain⟨q,u,n,y⟩:=(b.gr 0 rfl).mJ (cx:=cx) (f:=xM) b.ok Ja rfl Fd rfl dt (λ_=>rfl) () du;obtain⟨v,S,B⟩:=b.app 0 rfl y;obtain⟨C,A⟩:=B _ rfl;simp only[<-List.replicate_succ']at A;simp[-List.map_replicate]at v C A;simp only[xM]at n;simp[i,k,l,m,G,(I.step c).get,o,n,v,dS,y.1.gJ,y.1.cells,D];exact⟨⟨_,_,_,_,A⟩,c.trans C⟩
 rintro d g ⟨⟨ver,r,s,z,b⟩,c,i,k,l,m⟩;simp[i,m,(I.step c).get];refine fh w.dX.length dq (λe d g=>Sz8 (h.size+2) g (List.replicate w.dY.length ()) (List.replicate e false) []/\Step (h.size+2) p g/\dB d 1 (.ptr h.size 0 0 0)/\dB d 2 (.ptr (h.size+1) 0 0 0)/\dB d 3 (.ptr (h.size+2) 0 0 0)/\dB d 5 (dy e)) ?_ ?_ dq ⟨⟨_,_,_,_,b⟩,c,by simp[i,k,l]⟩
 ·clear b c i k l m;rintro e d g G D ⟨⟨ver,r,s,z,b⟩,c,i,k,l,m⟩;have o:=b.get;simp at o;obtain⟨q,u,n,y⟩:=(b.gr 2 rfl).mJ (cx:=cx) (f:=T.bool) b.ok Fc rfl OU rfl dt dt false du;obtain⟨v,S,B⟩:=b.app 2 rfl y;obtain⟨C,A⟩:=B _ rfl;simp only[<-List.replicate_succ']at A;simp[-List.map_replicate]at v C A;simp[i,k,l,m,G,(I.step c).get,o,n,v,dS,y.1.gJ,y.1.cells,D];exact⟨⟨_,_,_,_,A⟩,c.trans C⟩
 clear b c i k l m;rintro d g ⟨⟨ver,r,s,z,b⟩,c,i,k,l,m⟩;simp[i,m,(I.step c).get];refine fh w.dE.length dq (λe d g=>Sz8 (h.size+2) g (List.replicate w.dY.length ()) (List.replicate w.dX.length false) (yM e)/\Step (h.size+2) p g/\dB d 1 (.ptr h.size 0 0 0)/\dB d 2 (.ptr (h.size+1) 0 0 0)/\dB d 3 (.ptr (h.size+2) 0 0 0)/\dB d 6 (dy e)) ?_ ?_ dq ⟨⟨_,_,_,_,b⟩,c,by simp[i,k,l]⟩
 ·clear b c i k l m;rintro e d g G D ⟨⟨ver,r,s,z,b⟩,c,i,k,l,m⟩;have o:=b.get;simp at o;have bu:=c.ok.sz;have bn:(h.size=g.size)=False:=du;have ae:(h.size+2=g.size)=False:=du;have an:=(I.step c).get;have al:∀L,∃q u,iO cx ((g.cons (dA 3 L [dG.t ⟨if e=0 then 1 else 0,0,false⟩])).cons (dA 3 0 [dG.t ⟨if e=0 then 1 else 0,0,false⟩])) 34 34 z (.arr (g.size+1) 0 0 1 false)=some (.val q u)/\q.gJ=true/\q.cells=[q]/\u.get (h.size+2)=some (dA 4 ver [.agg [r,dy (-1),s,z]])/\eJ (g.cons (dA 3 L [dG.t ⟨if e=0 then 1 else 0,0,false⟩])) u (h.size+2)=true/\Sz8 (h.size+2) (dT u (h.size+2) (dA 4 (ver+1) [.agg [r,dy (-1),s,q]])) (List.replicate w.dY.length ()) (List.replicate w.dX.length false) (yM (e+1))/\Step (h.size+2) p (dT u (h.size+2) (dA 4 (ver+1) [.agg [r,dy (-1),s,q]])):=λL=>by
   have Y:=b.cons (dA 3 L [dG.t ⟨if e=0 then 1 else 0,0,false⟩]);have bk:=Step.cons b.ok b.lt (dA 3 L [dG.t ⟨if e=0 then 1 else 0,0,false⟩]);obtain⟨q,u,n,y⟩:=(Y.gr 3 rfl).mJ (cx:=cx) (f:=dG.t) Y.ok Co rfl AZ rfl dt (λ_=>rfl) (⟨if e=0 then 1 else 0,0,false⟩:dG) (by simp[yM];omega);obtain⟨v,S,B⟩:=Y.app 3 rfl y;obtain⟨C,A⟩:=B _ rfl;rw[<-KU]at C A;rw[size_cons]at n;exact⟨q,u,n,y.1.gJ,y.1.cells,v,S,⟨_,_,_,_,A⟩,(c.trans bk).trans C⟩
  by_cases P:e=0
  ·subst P;obtain⟨q,u,n,v,B,U,V,W,X⟩:=al 2;simp at n V;have av:binop .add (dy 0) (dy 1)=some (dy 1):=by simpa using D
   simp[i,k,l,m,G,an,o,ae,b.ok.low,n,v,B,U,dS,av];exact⟨W,X⟩
  ·obtain⟨q,u,n,v,B,U,V,W,X⟩:=al 1;simp[P]at n V;simp[i,k,l,m,P,G,an,o,ae,b.ok.low,n,v,B,U,dS,D];exact⟨W,X⟩
 clear b c i k l m;rintro d g ⟨⟨ver,r,s,z,b⟩,c,i,k,l,m⟩;have o:=b.get;simp at o;have Q:=aX.step c;have R:=Q.get;unfold uL at R;have a8:=b.rD Q (dA 4 1 [.agg [r,dy (-1),s,z]]);have aA:(dT g (h.size+1) (dA 4 1 [.agg [r,dy (-1),s,z]])).get (h.size+1)=_:=(dI R _ _).trans (aq rfl);simp[i,k,l,m,(I.step c).get,o,R,dS,aA,-List.map_replicate];have bi:Step (h.size+2) h p:=⟨⟨N.hp,N.low,dq⟩,λj E _=>a6 j E,λj E=> .inr (by have:=O j E;omega)⟩;exact⟨r,s,z,rfl,Mf.of a8 (Step.rD b.ok Q _ h (bi.trans c) dq) (λj E=>by
  rcases E with rfl|⟨x,aN,_⟩
  ·omega
  ·have:=H.ez aN;omega) (au _) λ_ _=>rfl⟩
def Iq(a:dU)(b:List T)(c:H):Prop:=b=[a.t]/\gF 0 c/\a.dY.length<=1000000/\a.dX.length<=1000000/\a.dE.length<=1000000/\a.cells.length<=1000000
def Qi(a:dU)(c d e f g h:T)(b:List Int):List (T×aa (Nat×List T)):=[(c,some (2,(List.replicate a.dY.length ()).map xM)),(dy (-1),none),(d,some (1,(List.replicate a.dX.length false).map T.bool)),(e,some (3,(yM a.dE.length).map dG.t)),(f,some (1,b.map (T.int .i64))),(g,some (1,(List.replicate a.dX.length 0).map (T.int .i64))),(h,some (1,(List.replicate a.dE.length 0).map (T.int .i64)))]
def Ii(g:dU)(_:List T)(h:H)(j:T)(i:H):Prop:=∃a b c d e f,j= .agg [a,dy (-1),b,c,d,e,f]/\Mf h i 7 (Qi g a b c d e f (g.cells.map ge.jK))
def YQ:(js dU Iq Ii).Ok Tryz.prog cx 41:=by
 refine jo (tb:=⟨pt [],ht [(73,js dU pS8 qS8)]⟩) ew ej (iQ 1048607 [(1,[(1,3),(1,5),(1,7),(1,9),(1,11)])] Tryz.func41) (λ_ _=>1000005) (λp s h cb=>by obtain⟨rfl,_⟩:=cb;simp[Tryz.f41]) ?_;rintro(d:dU) _ h ⟨rfl,cL,hl,E,ht,j⟩ y k;simp at k;have bu:d.dX.length*8<=70368744177664:=dq;have bz:d.dE.length*8<=70368744177664:=dq;simp[Tryz.f41,k];generalize z:((TI.hr h).cons _).cons _=u;have c1:gF 0 u:=by rw[<-z];exact(cL.hr.cons _).cons _
 refine lP acd dt d ⟨rfl,c1,hl,E,ht⟩ ?_;rintro _ c ⟨m,n,o,rfl,g,Q,i,bC,an,P⟩;have dk:u.size=h.size+2:=by rw[<-z];simp
 have di:=an.sz;rw[dk]at di;have c9:u.get h.size=some (dA 6 0 [d.t]):=by rw[<-z];simp
 have dd:u.get (h.size+1)=some mS:=by rw[<-z];simp[mS]
 have de:∀a,a<h.size->u.get a=h.get a:=λa j=>by rw[<-z,dP,ao du,dP,ao du,f9]
 clear z;have a0:=(P h.size dq).trans c9;have a1:=(P (h.size+1) dq).trans dd;have bk:=ff (P h.size dq);have cy:(h.size=c.size)=False:=du;have ds:(h.size=c.size+1)=False:=du;have bs:eJ u c (c.size+1+1)=true:=iV (lm _ dq);have L:=λp a aA R (F: [(m,some (2,(List.replicate d.dY.length ()).map xM)),(dy (-1),none),(n,some (1,(List.replicate d.dX.length false).map T.bool)),(o,some (3,(yM d.dE.length).map dG.t))][p]? =some (a,some (aA,R)))=>And.intro (i.gr p F).gJ (i.gr p F).cells;have bN:=L 0 m _ _ rfl;have bS:=L 2 n _ _ rfl;have bT:=L 3 o _ _ rfl;have bl:eJ u c c.size=true:=iV (lm _ dq);have bn:eJ u c (c.size+1)=true:=iV (lm _ dq);simp[bu,bz,a0,bk,cy,bl,bn,bs];generalize M:dT _ _ _=r;have bi:gF 0 c:=⟨an.hp,an.low,aw _⟩;have Iu:gF 0 r:=by rw[<-M];exact(((bi.cons _).cons _).cons _).put _ _
 have eb:r.size=c.size+3:=by rw[<-M];simp
 have D:∀a,r.get a=if a=c.size+2 then some (dA 7 1 [.agg [m,dy (-1),n,o,dz,.arr c.size 0 0 d.dX.length false,.arr (c.size+1) 0 0 d.dE.length false]])else if a=c.size+1 then some ⟨1,0,0,true,false,List.replicate d.dE.length (dy 0)⟩else if a=c.size then some ⟨1,0,0,true,false,List.replicate d.dX.length (dy 0)⟩else c.get a:=λa=>by
  rw[<-M,lY (((bi.cons _).cons _).cons _).hp dt,dP,dP,dP];simp only[size_cons];by_cases q:a=c.size+2
  ·simp[q]
  ·by_cases B:a=c.size+1<;>by_cases c4:a=c.size<;>simp[q,B,c4]
 clear M;have O:∀a,a<c.size->r.get a=c.get a:=λa q=>by rw[D,ao dq,ao dq,ao dq]
 have N:∀(l:Nat) s,(Qi d m n o dz (.arr c.size 0 0 d.dX.length false) (.arr (c.size+1) 0 0 d.dE.length false) [])[l]? =some s->∀a,dO s.1=some a->(l<4/\[(m,some (2,(List.replicate d.dY.length ()).map xM)),(dy (-1),none),(n,some (1,(List.replicate d.dX.length false).map T.bool)),(o,some (3,(yM d.dE.length).map dG.t))][l]? =some s/\h.size+2<=a/\a<c.size)\/(l=5/\a=c.size)\/(l=6/\a=c.size+1):=by
  intro l s k a j;have cp:=λ(G: [(m,some (2,(List.replicate d.dY.length ()).map xM)),(dy (-1),none),(n,some (1,(List.replicate d.dX.length false).map T.bool)),(o,some (3,(yM d.dE.length).map dG.t))][l]? =some s)=>And.intro G (And.intro (show h.size+2<=a by have:=bC a (i.AW (ax G) j);omega) (i.fp a (i.AW (ax G) j)));unfold Qi at k;rcases l with _|_|_|_|_|_|_|l
  iterate 4 exact .inl ⟨dq,cp k⟩
  ·simp at k;subst k;simp at j
  ·simp at k;subst k;simp at j;exact .inr (.inl ⟨rfl,j.symm⟩)
  ·simp at k;subst k;simp at j;exact .inr (.inr ⟨rfl,j.symm⟩)
  ·simp at k
 have aN:mW r (c.size+2) 7 1 (Qi d m n o dz (.arr c.size 0 0 d.dX.length false) (.arr (c.size+1) 0 0 d.dE.length false) []):=by
  refine⟨Iu,by rw[D,aq rfl];rfl,λf E=> ?_,λl J ca s b k b7 a A B=>ca ?_⟩
  ·have al:=λp a aA R (F: [(m,some (2,(List.replicate d.dY.length ()).map xM)),(dy (-1),none),(n,some (1,(List.replicate d.dX.length false).map T.bool)),(o,some (3,(yM d.dE.length).map dG.t))][p]? =some (a,some (aA,R)))=>(i.gr p F).mono (h':=r) λq ce=>O q (i.fp q (i.AW (ax F) ce));unfold Qi at E;simp only[ci,c8,or_false]at E;rcases E with rfl|rfl|rfl|rfl|rfl|rfl|rfl
   ·exact⟨al 0 _ _ _ rfl,show(2:Nat)≠7 by decide⟩
   ·show dO _=none;simp
   ·exact⟨al 2 _ _ _ rfl,show(1:Nat)≠7 by decide⟩
   ·exact⟨al 3 _ _ _ rfl,show(3:Nat)≠7 by decide⟩
   ·exact⟨Gr.nil _ _,show(1:Nat)≠7 by decide⟩
   ·exact⟨.inr ⟨c.size,0,0,true,_,dt,by rw[D,ao dq,ao dq,aq rfl],dt⟩,show(1:Nat)≠7 by decide⟩
   ·exact⟨.inr ⟨c.size+1,0,0,true,_,dt,by rw[D,ao dq,aq rfl],dt⟩,show(1:Nat)≠7 by decide⟩
  ·rcases N l s k a A with⟨a7,Y,dm,dn⟩|⟨a7,Y⟩|⟨a7,Y⟩<;>rcases N J b b7 a B with⟨r1,r2,r3,r4⟩|⟨r1,r2⟩|⟨r1,r2⟩<;>try omega
   exact Decidable.byContradiction λe=>i.Tu l J e s b Y r2 a A B
 have S:∀a,Fp r (c.size+2) a->h.size+2<=a:=by
  rintro a (rfl|⟨x,I,v,a6,q⟩)
  ·omega
  ·rw[aN.get]at I;simp only[ar]at I;subst I;simp only[fa,cD,cZ,cg,T.cells]at a6;obtain⟨f,b8,rfl⟩:=List.mem_map.1 a6;obtain⟨l,G,b9⟩:=List.mem_iff_getElem.1 b8;rcases N l f (by rw[az G,b9]) a q with⟨_,_,J,_⟩|⟨_,J⟩|⟨_,J⟩<;>omega
 have a8:Lb (c.size+2) r h.size (dA 6 0 [d.t]):=⟨(O _ dq).trans a0,λq=>by have:=S _ q;omega⟩;have cv:Lb (c.size+2) r (h.size+1) mS:=⟨(O _ dq).trans a1,λq=>by have:=S _ q;omega⟩;have c7:Step (c.size+2) h r:=⟨⟨Iu.hp,Iu.low,dq⟩,λa j _=>(O a dq).trans ((P a dq).trans (de a j)),λa j=> .inr (by have:=S a j;omega)⟩;clear D N L bN bS bT bl bn bs bk;refine fh d.cells.length dq (λp y K=>(∃Q a,mW K (c.size+2) 7 Q (Qi d m n o a (.arr c.size 0 0 d.dX.length false) (.arr (c.size+1) 0 0 d.dE.length false) ((d.cells.take p).map ge.jK)))/\Step (c.size+2) r K/\dB y 1 (.ptr h.size 0 0 0)/\dB y 2 (.ptr (h.size+1) 0 0 0)/\dB y 3 (.ptr (c.size+2) 0 0 0)/\dB y 4 (dy p)) ?_ ?_ dq ⟨⟨_,_,aN⟩,Step.refl Iu,dt⟩
 ·rintro p y K aX b6 ⟨⟨Q,a,i⟩,C,U,V,W,X⟩;have w:=i.get;unfold Qi at w;simp at w;obtain⟨ea,h',bB,aE⟩:=(i.gr 4 rfl).mJ (cx:=cx) (f:=T.int .i64) i.ok oo rfl yp rfl dt (λ_=>rfl) d.cells[p].jK du;obtain⟨A,dv,B⟩:=i.app 4 rfl aE;obtain⟨av,ap⟩:=B _ rfl;unfold Qi at A av ap;simp only[aR,cm,cX,cM]at A av ap;simp[U,V,W,X,aX,(a8.step C).get,w,bB,A,dS,aE.1.gJ,aE.1.cells,b6];exact⟨⟨_,_,by unfold Qi;rw[aU aX,List.map_append];exact ap⟩,C.trans av⟩
 rintro y K ⟨⟨Q,a,i⟩,C,U,V,W,X⟩;rw[aL]at i;have w:=i.get;unfold Qi at w;simp at w;have Z:=cv.step C;have ae:=Z.get;unfold mS at ae;have c6:=i.rD Z (dA 7 1 [.agg [m,dy (-1),n,o,a,.arr c.size 0 0 d.dX.length false,.arr (c.size+1) 0 0 d.dE.length false]]);have bH:(dT K (h.size+1) (dA 7 1 [.agg [m,dy (-1),n,o,a,.arr c.size 0 0 d.dX.length false,.arr (c.size+1) 0 0 d.dE.length false]])).get (h.size+1)=_:=(dI ae _ _).trans (aq rfl);simp[U,V,W,X,(a8.step C).get,w,ae,dS,bH,-List.map_replicate];exact⟨m,n,o,_,_,_,rfl,Mf.of c6 (Step.rD i.ok Z _ h (c7.trans C) dq) (λa j=>by
  rcases j with rfl|⟨x,I,_⟩
  ·omega
  ·have:=H.ez I;omega) (au _) λ_ _=>rfl⟩
end
noncomputable section
open Go Go.TI
noncomputable abbrev gN(a:Func)(b:Nat):pJ:=gq cx a b false
noncomputable abbrev gK(a:Func)(b:Nat):pJ:=gq cx a b true
def gO{b:aj}{a:Func}{d:Nat}{c:Bool}(e:Tryz.prog.funcs[b]? =some a)(f:wE ⟨a,d,c,none⟩=true:=by kernel_rfl):lO Tryz.prog cx b (gq cx a d c):=acQ ew ej e f
def ZN:pJ:=λ_ _ a b=>Bw ((.clone 1 1)) a b
def Rc:lO Tryz.prog cx 125 ZN:=w9 (vk (fn:=Tryz.f125) (t:=33) (tb:=4) (te:=Xz) ej Tryz.func125 dC dC dC dC dC dC dC)
def ZM:pJ:=λ_ _ a b=>Bw ((.clone 3 24)) a b
def Rb:lO Tryz.prog cx 126 ZM:=w9 (vk (fn:=Tryz.f126) (t:=34) (tb:=4) (te:=zQ) ej Tryz.func126 dC dC dC dC dC dC dC)
def ZL:pJ:=λ_ _ a b=>Bw (.nl) a b
def U2:(Tryz.f237.name== "runtime.NumGoroutine")=false:=dC
def U1:Tryz.f237.body.isNone=true:=dC
def UZ:Extern.findNext Tryz.f237=none:=dC
def U0:Extern.find Tryz.f237=some Extern.BytealgIndexByte.indexByte:=dC
def UY:CI Tryz.prog cx 237 .nl:= @Ez Tryz.prog cx 237 Tryz.f237 Tryz.func237 U2 U1 UZ U0
def Ra:lO Tryz.prog cx 237 ZL:=w9 UY
def qs:Tree pJ:=(.node (.node (.node (.node (.node (.node (.node (.node .nil 10 (gN Tryz.f10 40953575029616206113996799) .nil) 12 (gN Tryz.f12 7) .nil) 14 (gN Tryz.f14 127) (.node .nil 20 (gN Tryz.f20 138478519) .nil)) 21 (gN Tryz.f21 9223389645163727807) (.node (.node .nil 22 (gN Tryz.f22 79) .nil) 23 (gN Tryz.f23 2417851783344448572752095) (.node .nil 24 (gN Tryz.f24 7231) .nil))) 25 (gN Tryz.f25 18463641368405213903) (.node (.node (.node (.node .nil 29 (gN Tryz.f29 17179869843) .nil) 41 (gN Tryz.f41 1048607) .nil) 45 (gN Tryz.f45 9223372036871623167) (.node .nil 46 (gN Tryz.f46 4215) .nil)) 47 (gN Tryz.f47 772424076352653274097095092108232752774234854811365887) (.node (.node .nil 48 (gN Tryz.f48 67109327) .nil) 50 (gN Tryz.f50 1238093369775042453301102031) (.node .nil 51 (gN Tryz.f51 4196311) .nil)))) 53 (gN Tryz.f53 137506128175) (.node (.node (.node (.node (.node .nil 55 (gN Tryz.f55 36051629065113551) .nil) 58 (gN Tryz.f58 8796093286397) .nil) 59 (gN Tryz.f59 19808249554385699031857790975) (.node .nil 60 (gN Tryz.f60 8864829278711) .nil)) 66 (gN Tryz.f66 6434029281764525972148499167221040878727244754944919609542655) (.node (.node .nil 67 (gN Tryz.f67 95827739445721067874190659254502973333984266632037375) .nil) 68 (gN Tryz.f68 31) (.node .nil 73 (gN Tryz.f73 9071038046463) .nil))) 74 (gN Tryz.f74 17184194575) (.node (.node (.node (.node .nil 75 (gK Tryz.f75 68723687231) .nil) 76 (gN Tryz.f76 4504699140047487) .nil) 78 (gN Tryz.f78 576460753379335951) (.node .nil 79 (gN Tryz.f79 4605278686335) .nil)) 80 (gK Tryz.f80 30783) (.node (.node .nil 87 (gN Tryz.f87 463) .nil) 88 (gN Tryz.f88 29) (.node .nil 90 (gN Tryz.f90 9224506733391652861) .nil))))) 91 (gN Tryz.f91 4432473883133) (.node (.node (.node (.node (.node (.node .nil 93 (gN Tryz.f93 19342850151455133005856767) .nil) 94 (gN Tryz.f94 316913254556860716756833993695) .nil) 95 (gN Tryz.f95 275) (.node .nil 96 (gN Tryz.f96 11) .nil)) 97 (gN Tryz.f97 8934607822903) (.node (.node .nil 98 (gN Tryz.f98 479) .nil) 103 (gN Tryz.f103 19) (.node .nil 104 (gN Tryz.f104 13215461614728367217751695970865548304603543200842114553566203007) .nil))) 105 (gN Tryz.f105 1099511628339) (.node (.node (.node (.node .nil 106 (gN Tryz.f106 18889470444974887141823) .nil) 107 (gN Tryz.f107 829180818552508142370930303613581122868418894632663968482586879) .nil) 108 (gN Tryz.f108 332312079452150195464880550324504575) (.node .nil 109 (gN Tryz.f109 4330618893) .nil)) 110 (gN Tryz.f110 131635) (.node (.node .nil 111 (gN Tryz.f111 2147484735) .nil) 115 (gN Tryz.f115 348794743007212715313826391199890521722863) (.node .nil 116 (gN Tryz.f116 12259964349774246101165194645239424850975965214878597119) .nil)))) 121 (gN Tryz.f121 35315368591455) (.node (.node (.node (.node (.node .nil 122 (gN Tryz.f122 19) .nil) 123 (gN Tryz.f123 606826398900554784047567) .nil) 124 (gN Tryz.f124 5868843906288553182383292937158044313155908148351) (.node .nil 125 (ZN) .nil)) 126 (ZM) (.node (.node .nil 131 (gN Tryz.f131 7) .nil) 133 (gN Tryz.f133 19) (.node .nil 135 (gN Tryz.f135 33587517) .nil))) 136 (gN Tryz.f136 4101) (.node (.node (.node (.node .nil 137 (gN Tryz.f137 21853) .nil) 138 (gN Tryz.f138 37396817117309) .nil) 139 (gN Tryz.f139 51) (.node .nil 140 (gN Tryz.f140 40536831200067837) .nil)) 141 (gN Tryz.f141 72128100255664255) (.node (.node .nil 142 (gN Tryz.f142 1242795222330225588904675325) .nil) 143 (gN Tryz.f143 1237940043933112819970491391) (.node .nil 144 (gN Tryz.f144 1053) .nil)))))) 145 (gN Tryz.f145 151115745466229840684019) (.node (.node (.node (.node (.node (.node (.node .nil 147 (gK Tryz.f147 18191) .nil) 148 (gN Tryz.f148 365376106316094180278949616271352870286206697499) .nil) 149 (gN Tryz.f149 10633824283312870803151638865622599647) (.node .nil 151 (gN Tryz.f151 19) .nil)) 152 (gN Tryz.f152 606826398900554784047567) (.node (.node .nil 154 (gK Tryz.f154 1048607) .nil) 157 (gN Tryz.f157 5) (.node .nil 158 (gN Tryz.f158 131613) .nil))) 159 (gN Tryz.f159 5) (.node (.node (.node (.node .nil 160 (gN Tryz.f160 11161304336780981658631819976322344575566047) .nil) 161 (gN Tryz.f161 4362601011) .nil) 162 (gN Tryz.f162 19) (.node .nil 163 (gK Tryz.f163 2097183) .nil)) 164 (gN Tryz.f164 1182933510117985879039) (.node (.node .nil 177 (gN Tryz.f177 19) .nil) 178 (gN Tryz.f178 19) (.node .nil 179 (gN Tryz.f179 5) .nil)))) 180 (gN Tryz.f180 35500589085) (.node (.node (.node (.node (.node .nil 181 (gN Tryz.f181 5) .nil) 182 (gN Tryz.f182 1125908496810045) .nil) 183 (gN Tryz.f183 262565) (.node .nil 184 (gN Tryz.f184 541) .nil)) 185 (gN Tryz.f185 328307) (.node (.node .nil 186 (gN Tryz.f186 1574131) .nil) 187 (gN Tryz.f187 275) (.node .nil 188 (gN Tryz.f188 529021) .nil))) 189 (gN Tryz.f189 1125902054326279) (.node (.node (.node (.node .nil 190 (gN Tryz.f190 32909) .nil) 191 (gN Tryz.f191 262707) .nil) 192 (gN Tryz.f192 262707) (.node .nil 193 (gN Tryz.f193 14474012017383023515249485065460760621927424225494418519668988771800801378299) .nil)) 194 (gN Tryz.f194 36893488147419136123) (.node (.node .nil 198 (gN Tryz.f198 20282409606012871684182924853463) .nil) 199 (gN Tryz.f199 158456325028530997355645763711) (.node .nil 200 (gN Tryz.f200 1037) .nil))))) 201 (gN Tryz.f201 1099578740959) (.node (.node (.node (.node (.node (.node .nil 203 (gN Tryz.f203 1) .nil) 206 (gN Tryz.f206 5) .nil) 207 (gK Tryz.f207 262175) (.node .nil 208 (gK Tryz.f208 9904163146420522906957187071) .nil)) 220 (gN Tryz.f220 19) (.node (.node .nil 221 (gN Tryz.f221 2293) .nil) 222 (gN Tryz.f222 2149585011) (.node .nil 223 (gN Tryz.f223 526461) .nil))) 224 (gN Tryz.f224 8606909437) (.node (.node (.node (.node .nil 225 (gN Tryz.f225 182687706027492332498828539273953093013162958911) .nil) 226 (gN Tryz.f226 70368744310543) .nil) 227 (gN Tryz.f227 83) (.node .nil 228 (gN Tryz.f228 33688639) .nil)) 229 (gN Tryz.f229 4196847) (.node (.node .nil 231 (gN Tryz.f231 1049655) .nil) 237 (ZL) (.node .nil 238 (gN Tryz.f238 8211) .nil)))) 242 (gN Tryz.f242 131527) (.node (.node (.node (.node (.node .nil 243 (gN Tryz.f243 563501857374451) .nil) 244 (gN Tryz.f244 2863311549) .nil) 245 (gN Tryz.f245 18483898770635358239) (.node .nil 246 (gN Tryz.f246 7) .nil)) 247 (gN Tryz.f247 99132251962343631) (.node (.node .nil 248 (gN Tryz.f248 8703) .nil) 249 (gN Tryz.f249 8590200303) (.node .nil 254 (gN Tryz.f254 594912002450663878599) .nil))) 256 (gN Tryz.f256 13) (.node (.node (.node (.node .nil 261 (gN Tryz.f261 32819) .nil) 264 (gN Tryz.f264 132109) .nil) 267 (gN Tryz.f267 749019592093908130998168547243562859198691857383367) (.node .nil 272 (gN Tryz.f272 72339071195682803) .nil)) 281 (gN Tryz.f281 8407165) (.node (.node .nil 282 (gN Tryz.f282 2101491) .nil) 284 (gN Tryz.f284 9224502335110254589) (.node .nil 285 (gN Tryz.f285 715827901) .nil)))))))
def Yz:qs.Qk λa b=>lO Tryz.prog cx a b:=(.node (.node (.node (.node (.node (.node (.node (.node .nil (gO Tryz.func10) .nil) (gO Tryz.func12) .nil) (gO Tryz.func14) (.node .nil (gO Tryz.func20) .nil)) (gO Tryz.func21) (.node (.node .nil (gO Tryz.func22) .nil) (gO Tryz.func23) (.node .nil (gO Tryz.func24) .nil))) (gO Tryz.func25) (.node (.node (.node (.node .nil (gO Tryz.func29) .nil) (gO Tryz.func41) .nil) (gO Tryz.func45) (.node .nil (gO Tryz.func46) .nil)) (gO Tryz.func47) (.node (.node .nil (gO Tryz.func48) .nil) (gO Tryz.func50) (.node .nil (gO Tryz.func51) .nil)))) (gO Tryz.func53) (.node (.node (.node (.node (.node .nil (gO Tryz.func55) .nil) (gO Tryz.func58) .nil) (gO Tryz.func59) (.node .nil (gO Tryz.func60) .nil)) (gO Tryz.func66) (.node (.node .nil (gO Tryz.func67) .nil) (gO Tryz.func68) (.node .nil (gO Tryz.func73) .nil))) (gO Tryz.func74) (.node (.node (.node (.node .nil (gO Tryz.func75) .nil) (gO Tryz.func76) .nil) (gO Tryz.func78) (.node .nil (gO Tryz.func79) .nil)) (gO Tryz.func80) (.node (.node .nil (gO Tryz.func87) .nil) (gO Tryz.func88) (.node .nil (gO Tryz.func90) .nil))))) (gO Tryz.func91) (.node (.node (.node (.node (.node (.node .nil (gO Tryz.func93) .nil) (gO Tryz.func94) .nil) (gO Tryz.func95) (.node .nil (gO Tryz.func96) .nil)) (gO Tryz.func97) (.node (.node .nil (gO Tryz.func98) .nil) (gO Tryz.func103) (.node .nil (gO Tryz.func104) .nil))) (gO Tryz.func105) (.node (.node (.node (.node .nil (gO Tryz.func106) .nil) (gO Tryz.func107) .nil) (gO Tryz.func108) (.node .nil (gO Tryz.func109) .nil)) (gO Tryz.func110) (.node (.node .nil (gO Tryz.func111) .nil) (gO Tryz.func115) (.node .nil (gO Tryz.func116) .nil)))) (gO Tryz.func121) (.node (.node (.node (.node (.node .nil (gO Tryz.func122) .nil) (gO Tryz.func123) .nil) (gO Tryz.func124) (.node .nil Rc .nil)) Rb (.node (.node .nil (gO Tryz.func131) .nil) (gO Tryz.func133) (.node .nil (gO Tryz.func135) .nil))) (gO Tryz.func136) (.node (.node (.node (.node .nil (gO Tryz.func137) .nil) (gO Tryz.func138) .nil) (gO Tryz.func139) (.node .nil (gO Tryz.func140) .nil)) (gO Tryz.func141) (.node (.node .nil (gO Tryz.func142) .nil) (gO Tryz.func143) (.node .nil (gO Tryz.func144) .nil)))))) (gO Tryz.func145) (.node (.node (.node (.node (.node (.node (.node .nil (gO Tryz.func147) .nil) (gO Tryz.func148) .nil) (gO Tryz.func149) (.node .nil (gO Tryz.func151) .nil)) (gO Tryz.func152) (.node (.node .nil (gO Tryz.func154) .nil) (gO Tryz.func157) (.node .nil (gO Tryz.func158) .nil))) (gO Tryz.func159) (.node (.node (.node (.node .nil (gO Tryz.func160) .nil) (gO Tryz.func161) .nil) (gO Tryz.func162) (.node .nil (gO Tryz.func163) .nil)) (gO Tryz.func164) (.node (.node .nil (gO Tryz.func177) .nil) (gO Tryz.func178) (.node .nil (gO Tryz.func179) .nil)))) (gO Tryz.func180) (.node (.node (.node (.node (.node .nil (gO Tryz.func181) .nil) (gO Tryz.func182) .nil) (gO Tryz.func183) (.node .nil (gO Tryz.func184) .nil)) (gO Tryz.func185) (.node (.node .nil (gO Tryz.func186) .nil) (gO Tryz.func187) (.node .nil (gO Tryz.func188) .nil))) (gO Tryz.func189) (.node (.node (.node (.node .nil (gO Tryz.func190) .nil) (gO Tryz.func191) .nil) (gO Tryz.func192) (.node .nil (gO Tryz.func193) .nil)) (gO Tryz.func194) (.node (.node .nil (gO Tryz.func198) .nil) (gO Tryz.func199) (.node .nil (gO Tryz.func200) .nil))))) (gO Tryz.func201) (.node (.node (.node (.node (.node (.node .nil (gO Tryz.func203) .nil) (gO Tryz.func206) .nil) (gO Tryz.func207) (.node .nil (gO Tryz.func208) .nil)) (gO Tryz.func220) (.node (.node .nil (gO Tryz.func221) .nil) (gO Tryz.func222) (.node .nil (gO Tryz.func223) .nil))) (gO Tryz.func224) (.node (.node (.node (.node .nil (gO Tryz.func225) .nil) (gO Tryz.func226) .nil) (gO Tryz.func227) (.node .nil (gO Tryz.func228) .nil)) (gO Tryz.func229) (.node (.node .nil (gO Tryz.func231) .nil) Ra (.node .nil (gO Tryz.func238) .nil)))) (gO Tryz.func242) (.node (.node (.node (.node (.node .nil (gO Tryz.func243) .nil) (gO Tryz.func244) .nil) (gO Tryz.func245) (.node .nil (gO Tryz.func246) .nil)) (gO Tryz.func247) (.node (.node .nil (gO Tryz.func248) .nil) (gO Tryz.func249) (.node .nil (gO Tryz.func254) .nil))) (gO Tryz.func256) (.node (.node (.node (.node .nil (gO Tryz.func261) .nil) (gO Tryz.func264) .nil) (gO Tryz.func267) (.node .nil (gO Tryz.func272) .nil)) (gO Tryz.func281) (.node (.node .nil (gO Tryz.func282) .nil) (gO Tryz.func284) (.node .nil (gO Tryz.func285) .nil)))))))
def Ih:∀a b,(λa=>qs.find a) a=some b->lO Tryz.prog cx a b:=λa b c=>Yz.find c
end
noncomputable section
open Go Go.TI
attribute [-simp] List.map_take List.map_drop List.map_append fw eQ dZ Bool.not_or Bool.not_and
attribute [simp] fq eY
def jc:dU:=⟨[⟨[120],0,0,false,0⟩,⟨[121],0,0,false,1⟩,⟨[118],0,0,true,0⟩,⟨[113],0,2,false,0⟩,⟨[113],1,2,false,0⟩],[⟨[109],false⟩,⟨[110],false⟩,⟨[114],true⟩],[⟨[99],0⟩],[[102]],[[109,97,105,110],[116,49],[116,50],[116,51]],
 [⟨0,0,1⟩,⟨0,1,2⟩,⟨0,2,3⟩,⟨0,3,4⟩,⟨0,4,5⟩,⟨0,5,6⟩,⟨1,0,11⟩,⟨1,1,12⟩,⟨1,2,13⟩,⟨1,3,14⟩,⟨1,4,15⟩,⟨1,5,16⟩,⟨2,0,21⟩,⟨2,1,22⟩,⟨2,2,23⟩,⟨2,3,24⟩,⟨2,4,25⟩,⟨2,5,26⟩,⟨3,0,31⟩,⟨3,1,32⟩,⟨3,2,33⟩,⟨3,3,34⟩,⟨3,4,35⟩,⟨3,5,36⟩]⟩
def TS:∀a b,(λa=>(Tree.node .nil 37 (gN Tryz.f37 81788943) .nil).find a) a=some b->lO Tryz.prog cx a b:=λa b c=>(Tree.Qk.node .nil (gO Tryz.func37) .nil).find c
def K5:kM Tryz.prog cx 37 [] jc.t:=xR (lx _ dC) (Ar TS 10000 _ _ _ _ _ dC)
def Ed:gu:=⟨Unit,λ_=>[],λ_=>True,λ_=>jc.t,λ_ _ _=>rfl⟩
def Nt:Ed.Ok Tryz.prog cx 37:=λ_ _=>K5
def Ku{a:fy}(ht:a.p 37=some Ed):rl Tryz.prog cx a 37 []=some jc.t:=gU ht Nt () trivial
def Ib:jO jc=true:=by decide+kernel
def uJ(e:Nat)(a:List Int)(c:Nat)(d:H):Prop:=∃f b,d.get c=some (dA 2 f [.agg [sl (a.map (T.int .u8)),dy b]])/\((min e a.length:Nat):Int)<=b
def uJ.tp{e:Nat}{a:List Int}{b:Nat}{c:H}(g:uJ e a b c):Tp a b c:=by
 obtain⟨h,f,d,i⟩:=g;exact⟨h,f,d,dq⟩
def uJ.eq{e:Nat}{b:List Int}{a:Nat}{c d:H}(j:uJ e b a c)(h:d.get a=c.get a):uJ e b a d:=by
 obtain⟨k,i,g,f⟩:=j;exact⟨k,i,by rw[h];exact g,f⟩
def uJ.le{d e:Nat}{a:List Int}{b:Nat}{c:H}(g:uJ d a b c)(k:e<=d):uJ e a b c:=by
 obtain⟨h,i,f,j⟩:=g;exact⟨h,i,f,dq⟩
structure Ju where
 (L:List Int) (b p:Nat) (n:Int)
def F5(a:Ju)(d:List T)(c:H):Prop:=d=[.ptr a.b 0 0 0,dy a.n]/\uJ a.p a.L a.b c/\gF 0 c/\1<=a.n/\a.n<=100/\okB a.L
def K8(a:Ju)(g:List T)(e:H)(f:T)(c:H):Prop:=∃d:Nat,f= dy d/\(d:Int)<a.n/\uJ (a.p+1) a.L a.b c/\Sm a.b e c
abbrev kh:kH:=js Ju F5 K8
def QN:kh.Ok Tryz.prog cx 63:=by
 refine jo (tb:=⟨pt [],ht []⟩) ew ej (iQ 262163 [] Tryz.func63) (λ_ _=>5) (λG a h A=>by obtain⟨rfl,_⟩:=A;simp[Tryz.f63]) ?_;rintro⟨b,f,H,g⟩ _ h ⟨rfl,⟨i,d,e,B⟩,r,y,z,s,o⟩ I p;simp only at e B y z s o;simp at p;obtain⟨j,n⟩:=p;simp[Tryz.f63,j,n,e];refine dW (λk=> ?_) (λk=> ?_)
 ·simp at k;simp;exact⟨0,dt,dw,⟨i,d,by rw[fO,f9];exact e,dw⟩,Sm.out (Sm.refl r.hr)⟩
 ·simp at k;have D:IntKind.i64.wrap (d+1)=d+1:=by rw[<-jn];exact ju dq dq
  have E:IntKind.i64.wrap d=d:=by rw[<-jn];exact ju dq dq
  have C:Sm f (hr h) _:=(Sm.refl r.hr).put (x:=(dA 2 i [.agg [sl (b.map (T.int .u8)),dy d]])) (by rw[f9];exact e) (dA 2 (i+1) [.agg [sl (b.map (T.int .u8)),dy (d+1)]]);have m:(dT (hr h) f (dA 2 (i+1) [.agg [sl (b.map (T.int .u8)),dy (d+1)]])).get f=_:=(dI (h:=hr h) (by rw[f9];exact e) _ f).trans (aq rfl);simp[j,e,nJ,dS,D];generalize dT (hr h) f _=F at*
  obtain⟨c,rfl⟩:∃c:Nat,d=c:=⟨d.toNat,dq⟩;have q:c<b.length:=dq;have t:=o b[c] (aF q);have u: -9223372036854775808<=b[c]:=dq;have v:b[c]<9223372036854775808:=dq;have t0:=Int.tmod_nonneg g t.1;have t1:=Int.tmod_lt_of_pos b[c] (show 0<g by omega);simp[j,n,m,tU,E,q,u,v,yQ (a:=b[c]) (show¬g=0 by omega)];obtain⟨l,w⟩:∃l:Nat,b[c].tmod g=l:=⟨(b[c].tmod g).toNat,dq⟩;exact⟨l,by rw[w],dw,⟨_,_,by rw[fO];exact m,dw⟩,Sm.out C⟩
structure r9(p:Nat)(L:List Int)(b:Nat)(h h':H):Prop where
 w:Tw L b h h'
 g:uJ p L b h'
def r9.refl{d:Nat}{b:List Int}{c:Nat}{a:H}(f:gF 0 a)(e:uJ d b c a):r9 d b c a a:=⟨Tw.refl f e.tp,e⟩
def r9.le{e f:Nat}{a:List Int}{b:Nat}{c d:H}(h:r9 e a b c d)(i:f<=e):r9 f a b c d:=⟨h.w,h.g.le i⟩
def r9.cons{e:Nat}{a:List Int}{b:Nat}{c d:H}(w:r9 e a b c d)(f:iN):r9 e a b c (d.cons f):=⟨w.w.cons f,w.g.eq (by rw[dP,ao (by have:=w.w.tp.lt;omega)])⟩
def r9.put{h:Nat}{e:List Int}{b:Nat}{a d:H}(i:r9 h e b a d){c:Nat}{x:iN}(f:d.get c=some x)(l:a.size<=c)(k:b<a.size)(j:iN):r9 h e b a (dT d c j):=⟨i.w.put f l k j,i.g.eq (by rw[dI f,ao dq])⟩
def r9.call{h f:Nat}{b:List Int}{a:Nat}{d e c:H}(j:r9 h b a d e)(i:Sm a e c)(g:uJ f b a c):r9 f b a d c:=⟨j.w.call i g.tp,g⟩
def r9.cut{h:Nat}{e:List Int}{c:Nat}{a b:H}(d:r9 h e c (TI.hr a) b)(p:gF 0 a)(f:c<a.size){j l:T}{i:T->H->Prop}(m:∃k,iX b a.size j=some k/\cn k=l)
 (o:Sm c a (uq a b)->uJ h e c (uq a b)->i l (uq a b)):xF a j b i:=d.w.cut p f m λq _=>o q (d.g.eq (yt d.w.ok.hp d.w.size f))
def Ol{tb:fy}{g:Nat}{e:List Int}{a:Nat}{c:H}(ht:tb.h 63=some kh)(s:uJ g e a c)(n:gF 0 c)(m:okB e)(b:Int)(k:1<=b)(l:b<=100):∃(f:Nat) (d:H),hl Tryz.prog cx tb 63 [.ptr a 0 0 0,dy b] c=some (dy f,d)/\(f:Int)<b/\uJ (g+1) e a d/\Sm a c d:=by
 have i:F5 ⟨e,a,g,b⟩ [.ptr a 0 0 0,dy b] c:=⟨rfl,s,n,k,l,m⟩;obtain⟨_,d,j,o⟩:=DP ht QN ⟨_,i⟩;obtain⟨f,rfl,p,q,r⟩:=o _ i;exact⟨f,d,j,p,q,r⟩
end
noncomputable section
open Go Go.TI
def yK(a:dG):Bool:=decide (a.iA=3)||decide (a.iA=4)
def Fk{b a:Type}(e:b->a->Bool)(f:List a->a->Bool)(d:b->a->b):List a->b->List a->Bool
 |_,_,[]=>true
 |pre,g,c::h=>(e g c&&f pre c)&&Fk e f d (pre++[c]) (d g c) h
def LY{c a:Type}{g:c->a->Bool}{j:List a->a->Bool}{f:c->a->c}:∀(b h:List a) (e:c),Fk g j f h e b=true->rM g f e b=true:=by
 intro b;induction b with
 |nil=>intro _ _ _;rfl
 |cons k b i=>
  intro h e d;simp only[Fk,aB]at d;simp only[rM,aB];exact⟨d.1.1,i _ _ d.2⟩
def Qb(b:List ed)(a:ed):Bool:=uS b a.dQ a.mn&&uS b a.dQ a.uF
def oZ(a:dU)(b:List ed):Bool:=decide (b.length<=400)&&jO a&&Fk (pw a) Qb (jS a) [] (jF a) b
def yu{b:dU}{c:List ed}(a:oZ b c=true):runs b (jF b) c=true/\b.dE.length<=4/\c.length<=400:=by
 unfold oZ at a;simp only[aB,aO]at a;refine⟨LY _ _ _ a.2,?_,a.1.1⟩;have d:=a.1.2;unfold jO rK at d;simp only[aB,aO]at d;omega
structure qt(N:Nat)(s:d8):Prop where
 l:s.fF.dY.length<=1000/\s.fF.done.length<=1000/\s.fF.dE.length<=1000/\s.cells.length<=1000/\s.dX.length<=1000/\s.count.length<=1000
 r:∀l∈s.fF.dY,l.eg.length<=N
 a:s.fF.D0
 c:∀c∈s.count,-N<=c/\c<=N
def qt.up{f e:Nat}{g:d8}(b:qt f g)(j:f<=e):qt e g:=⟨b.l,λi d=>by have:=b.r i d;omega,b.a,λh d=>by have:=b.c h d;omega⟩
def UO{b:Nat}{c:fk}{i:Int}{d:dV->dV}(e:∀a∈c.dY,a.eg.length<=b)(g:∀a∈c.dY,(d a).eg.length<=b+1):∀a∈(c.pO i d).dY,a.eg.length<=b+1:=by
 intro a hl;rcases mem_modify hl with f|⟨j,h,rfl⟩
 ·have:=e a f;omega
 ·exact g j h
def Mb{d:Nat}{j:fk}(k:∀a∈j.dY,a.eg.length<=d)(p:dU)(h m n q:Int):∀a∈(eG p j h m n q).1.dY,a.eg.length<=d+1:=by
 have c:∀a∈j.dY,a.eg.length<=d+1:=λa o=>by have:=k a o;omega
 have l:∀(f:Int) (b:dV->dV),(∀a,(b a).eg=a.eg\/(b a).eg=lH a.eg h\/(b a).eg=a.eg.filter λg=> !decide (g=h))->∀a∈(j.pO f b).dY,a.eg.length<=d+1:=λf b i=>UO k λa hl=>by
  have r:=k a hl;rcases i a with e|e|e<;>rw[e]
  ·omega
  ·have:=GN a.eg h;omega
  ·have:=List.length_filter_le (λg=> !decide (g=h)) a.eg;omega
 exact uw (P:=λg=>∀a∈g.1.dY,a.eg.length<=d+1) c c (λ_ _ _=>c) (λf b i=>⟨l f b i,λ_ _=>l f b i⟩) (λ_=>c) (λ_ _=>c) (λ_=>c)
def KL(a:Nat):qt a sg:=⟨by simp[sg],by simp[sg],by intro b hl;simp[sg]at hl,by simp[sg]⟩
def qt.step{e:Nat}{f:d8}(d:qt e f)(h:dU)(b:ed):qt (e+1) (jA h f b).1:=by
 unfold jA;split
 ·have hl:=xz h f.fF b.dQ b.kind b.obj (kT b);obtain⟨l1,l2,l3,l4,l5,l6⟩:=d.l;refine⟨⟨by show(eG ..).1.dY.length<=_;omega,by show(eG ..).1.done.length<=_;omega,by show(eG ..).1.dE.length<=_;omega,?_,?_,?_⟩,Mb d.r _ _ _ _ _,xC d.a _ _ _ _ _,λg i=> ?_⟩
  ·unfold jS;simp only;split<;>simp[l4]
  ·unfold jS;simp only;split<;>simp[l5]
  ·unfold jS;simp[l6]
  ·rcases mem_modify (show g∈f.count.modify b.dQ.toNat (· +1)from i)with k|⟨m,j,rfl⟩
   ·have:=d.c g k;omega
   ·have:=d.c m j;omega
 ·exact(KL e).up (Nat.le_succ e)
def qt.ow{w:dU}:∀(a:List ed) {b:Nat} {c:d8},qt b c->qt (b+a.length) (ow w c a):=by
 intro a;induction a with
 |nil=>intro b c d;exact d
 |cons e a f=>
  intro b c d;have:=f (d.step w e);rw[show b+1+a.length=b+(e::a).length by simp;omega]at this;exact this
def tV(a:dU)(d:a.dY.length<=1000/\a.dX.length<=1000/\a.dE.length<=1000/\a.cells.length<=1000):qt 0 (jF a):=by
 refine⟨by simp[jF,kQ];omega,λe hl=> ?_,rJ a,λc b=> ?_⟩
 ·simp[jF,kQ]at hl;obtain⟨_,rfl⟩:=hl;simp
 ·simp[jF]at b;omega
end
noncomputable section
open Go Go.TI
attribute [-simp] List.map_take List.map_drop List.map_append fw eQ dZ Bool.not_or Bool.not_and
attribute [simp] fq eY
def qM:gu:=⟨List ed×Nat×Int×List Int,λa=>[sl (a.1.map ed.t),dy a.2.1,dy a.2.2.1,sl (a.2.2.2.map (T.int .i64))],λa=>a.2.1<=a.1.length/\a.1.length<=1000000/\a.2.2.2.length<=1000000,λa=> .bool (uS (a.1.take a.2.1) a.2.2.1 a.2.2.2),λa c b=>by
 obtain⟨a1,a2,a3,a4⟩:=a;obtain⟨h,i,j,k⟩:=c;simp at b;obtain⟨d,e,f,g⟩:=b;rw[jw (λ_ _=>ed.inj) d,Int.ofNat.inj e,f,jw (λ_ _ b=>by simpa using b) g]⟩
def ScR(d e:Int)(b:List ed)(c f g:Nat)(h:T):Prop:=∃a:Bool,h= .bool a/\zW d e ((b.take c).drop f) g a=zW d e (b.take c) 0 false
def Ln:qM.Ok Tryz.prog cx 78:=by
 refine gX (tb:=⟨pt [],ht []⟩) ew ej (iQ 576460753379335951 [] Tryz.func78) (λ_=>1000005) (by simp[qM]) (by simp[qM,Tryz.f78]) ?_;rintro⟨b,l,v,m⟩ ⟨K,hl,M⟩ a A;simp at K hl M;simp[qM]at A|-;obtain⟨f,c,g,d⟩:=A;simp[Tryz.f78];refine fh m.length dq (λj a n=>n=hE/\dB a 0 (sl (b.map ed.t))/\dB a 1 (dy l)/\dB a 2 (dy v)/\dB a 3 (sl (m.map (T.int .i64)))/\dB a 9 (dy j)/\(m.take j).all (λE=>zW v E (b.take l) 0 false)=true) ?_ ?_ dq (by simp[f,c,g,d])
 ·rintro j a n u G ⟨rfl,f,c,g,d,h,s⟩;simp[d,h,u];refine fh l dq (λe a n=>n=hE/\dB a 0 (sl (b.map ed.t))/\dB a 1 (dy l)/\dB a 2 (dy v)/\dB a 3 (sl (m.map (T.int .i64)))/\dB a 9 (dy j)/\∃(k:Nat) (w:T),dB a 10 (dy k)/\dB a 11 w/\dB a 12 (dy e)/\k<=e/\ScR v m[j] b l e k w) ?_ ?_ dq ⟨rfl,by simp[f],by simp[c],by simp[g],by simp[d],by simp[h],0,.bool false,dt,dt,dt,au _,false,rfl,rfl⟩
  ·rintro e a n H B ⟨rfl,f,c,g,d,h,k,w,y,r,o,I,x,rfl,i⟩;have C:e<b.length:=dq;have z:(b.take l).drop e=b[e]::(b.take l).drop (e+1):=by
    rw[aI du];simp
   rw[z,zW]at i;simp[f,c,g,o,H,C];have J:b[e]? =some b[e]:=az C;have L:m[j]? =some m[j]:=az u;generalize b[e]=O at*
   generalize m[j]=E at*
   have F:binop .add (dy (k:Int)) (dy 1)=some (dy ((k+1:Nat):Int)):=by rw[il dq dq];simp
   refine dW (λp=> ?_) (λp=> ?_)
   ·simp at p;rw[ao p]at i;simp[f,c,g,d,h,y,r,o,B];exact⟨k,rfl,dq,x,rfl,i⟩
   ·simp at p;rw[aq p]at i;simp[f,c,g,d,h,y,r,o,J,L,F,B];exact⟨k+1,dt,dq,_,rfl,i⟩
  ·rintro a n ⟨rfl,f,c,g,d,h,k,w,y,r,o,I,x,rfl,i⟩;have z:(b.take l).drop l=[]:=dt;rw[z,zW]at i;simp[c,r,o];cases x with
   |false=>
    simp;unfold uS;rw[List.all_eq_false];exact⟨m[j],aF u,by rw[<-i];simp⟩
   |true=>
    simp[f,c,g,d,h,G];intro N D;rw[aU u]at D;rcases List.mem_append.1 D with q|q
    ·exact List.all_eq_true.1 s N q
    ·rw[List.mem_singleton.1 q];exact i.symm
 ·rintro a n ⟨rfl,f,c,g,d,h,s⟩;rw[aL]at s;simp[d,h];unfold uS;rw[s]
def Pi{e:fy}(ht:e.p 78=some qM)(a:List ed)(b:Nat)(d:Int)(c:List Int)(f:b<=a.length)(g:a.length<=1000000)(h:c.length<=1000000):rl Tryz.prog cx e 78 [sl (a.map ed.t),dy b,dy d,sl (c.map (T.int .i64))]=some (.bool (uS (a.take b) d c)):=gU ht Ln (a,b,d,c) ⟨f,g,h⟩
end
noncomputable section
open Go Go.TI
attribute [-simp] List.map_take List.map_drop List.map_append
def Dj:gu:=⟨Int×Nat,λa=>[dy a.1,dy a.2],λa=>True,λa=> .bool (iT a.1 a.2),λa c b=>by simp at b;rw[b.1,show a.2=c.2 by omega]⟩
def Uw:Dj.Ok Tryz.prog cx 103:=by
 refine gX (tb:=⟨pt [],ht []⟩) ew ej (iQ 19 [] Tryz.func103) (λf=>1) (by simp[Dj]) (by simp[Dj,Tryz.f103]) ?_;rintro⟨e,g⟩ _ h a;simp[Dj]at a|-;obtain⟨b,c⟩:=a;by_cases d:0<=e<;>simp[Tryz.f103,b,c,d,iT]
def Pr{c:fy}(ht:c.p 103=some Dj)(a:Int)(b:Nat):rl Tryz.prog cx c 103 [dy a,dy b]=some (.bool (iT a b)):=gU ht Uw (a,b) trivial
def t8:gu:=⟨dU×d8,λa=>[a.1.t,a.2.t],λa=>a.1.fZ.length<=1099511627776,λa=> .bool (mV a.1 a.2),λa c b=>by simp at b;rw[dU.inj b.1,d8.inj b.2]⟩
def NV:t8.Ok Tryz.prog cx 68:=by
 refine gX (tb:=⟨pt [(111,qh)],ht []⟩) ew ej (iQ 31 [] Tryz.func68) (λi=>1) (by simp[t8]) (by simp[t8,Tryz.f68]) ?_;rintro⟨b,a⟩ hl j e;simp[t8]at hl e|-;obtain⟨c,d⟩:=e;cases f:mr b a.fF with
 |false=>simp[Tryz.f68,c,d,ut,hl,f,mV]
 |true=>by_cases g:a.cells.length=b.cells.length<;>by_cases h:a.dX.length=b.dX.length<;>simp[Tryz.f68,c,d,ut,hl,f,g,h,mV,Int.natCast_inj]
def Fm{c:fy}(ht:c.p 68=some t8)(a:dU)(b:d8)(hl:a.fZ.length<=1099511627776):rl Tryz.prog cx c 68 [a.t,b.t]=some (.bool (mV a b)):=gU ht NV (a,b) hl
def sX:gu:=⟨List Int×Int,λa=>[sl (a.1.map (T.int .i64)),dy a.2],λa=>a.1.length<=1099511627776,λa=> .bool (xg a.2 none a.1),λa c b=>by simp at b;rw[jw dt b.1,b.2]⟩
def Lp:sX.Ok Tryz.prog cx 105:=by
 refine gX (tb:=⟨pt [],ht []⟩) ew ej (iQ 1099511628339 [] Tryz.func105) (λt=>t.1.length+1) (by simp[sX]) (by simp[sX,Tryz.f105]) ?_;rintro⟨c,k⟩ hl j p;simp[sX]at hl p|-;obtain⟨d,g⟩:=p;simp[Tryz.f105];refine fh c.length dq (λb j n=>n=hE/\dB j 0 (sl (c.map (T.int .i64)))/\dB j 1 (dy k)/\dB j 5 (dy b)/\xg k (if b=0 then none else c[b-1]?) (c.drop b)=xg k none c) ?_ ?_ dq (by simp[d,g])
 ·rintro b j n i q ⟨rfl,d,g,h,a⟩;rw[aI i]at a;simp only[xg]at a;by_cases e:c[b]<1
  ·simp[e]at a;simp[d,h,i,e,a]
  ·by_cases f:k<=c[b]
   ·simp[f]at a;simp[d,g,h,i,e,f,a]
   ·by_cases r:b=0
    ·have l:¬0<b:=dq;rw[aq r]at a;simp[e,f]at a;simp[d,g,h,i,q,e,f,l];exact a
    ·have l:0<b:=dq;have o:b-1<c.length:=dq;have s:binop .sub (dy (b:Int)) (dy 1)=some (dy ((b-1:Nat):Int)):=by rw[kP dq dq,show(b:Int)-1=((b-1:Nat):Int)by omega]
     rw[ao r,az o]at a;by_cases m:c[b]<=c[b-1]
     ·simp[e,f,m]at a;simp[d,g,h,i,o,e,f,m,s,a,l]
     ·simp[e,f,m]at a;simp[d,g,h,i,o,q,e,f,m,s,l];exact a
 ·rintro j n ⟨rfl,d,g,h,a⟩;simp[xg]at a;simp[d,h,a]
def Pk{c:fy}(ht:c.p 105=some sX)(a:List Int)(b:Int)(hl:a.length<=1099511627776):rl Tryz.prog cx c 105 [sl (a.map (T.int .i64)),dy b]=some (.bool (xg b none a)):=gU ht Lp (a,b) hl
def qJ:gu:=⟨d8×ed,λa=>[a.1.t,a.2.t],λa=>a.1.fF.dE.length<=1099511627776/\(a.2.kind=3->iT a.2.obj a.1.cells.length=true)/\(a.2.kind=23->iT a.2.obj a.1.dX.length=true),λa=> .bool (ny a.1 a.2),λa c b=>by simp at b;rw[d8.inj b.1,ed.inj b.2]⟩
def Lg:qJ.Ok Tryz.prog cx 106:=by
 refine gX (tb:=⟨pt [(153,sS),(56,Bq)],ht []⟩) ew ej (iQ 18889470444974887141823 [(17,[(1,6)])] Tryz.func106) (λv=>1) (by simp[qJ]) (by simp[qJ,Tryz.f106]) ?_;rintro⟨i,a⟩ hl w j;simp[qJ]at hl j|-;obtain⟨b,c⟩:=j;obtain⟨hl,k,l⟩:=hl;by_cases f:a.kind=3
 ·obtain⟨u,d,g⟩:=iu (k f);simp[Tryz.f106,b,c,f,ny,ei (fj.1 (k f)).1,d,g]
 ·by_cases e:a.kind=23
  ·obtain⟨u,d,g⟩:=iu (l e);simp[Tryz.f106,b,c,e,ny,ei (fj.1 (l e)).1,d,g]
  ·by_cases q:a.kind=5
   ·by_cases d:a.value=0<;>simp[Tryz.f106,b,c,q,ny,d]
   ·by_cases p:a.kind=4
    ·simp[Tryz.f106,b,c,p,ny]
    ·by_cases o:a.kind=22
     ·simp[Tryz.f106,b,c,o,ny]
     ·by_cases h:a.kind=18
      ·have r:=KO a.obj i.fF.dE 0;by_cases m:hU a.obj i.fF.dE 0=[]
       ·simp[Tryz.f106,b,c,h,ny,Ct,hl,m]
       ·by_cases s:0<=a.value<;>by_cases t:a.value<i.fF.dE.length<;>
         simp[Tryz.f106,b,c,h,ny,Ct,hl,m,s,t,Ps,aS r hl]
      ·by_cases n:a.kind=19
       ·simp[Tryz.f106,b,c,n,ny,Ct,hl]
       ·simp[Tryz.f106,b,c,f,e,q,p,o,h,n,ny]
def Pf{c:fy}(ht:c.p 106=some qJ)(b:d8)(a:ed)(hl:b.fF.dE.length<=1099511627776)(d:a.kind=3->iT a.obj b.cells.length=true)(e:a.kind=23->iT a.obj b.dX.length=true):rl Tryz.prog cx c 106 [b.t,a.t]=some (.bool (ny b a)):=gU ht Lg (b,a) ⟨hl,d,e⟩
end
noncomputable section
open Go Go.TI
def Bt(a:List Int)(b:Int):tj a b=lH a b:=by
 induction a with
 |nil=>rfl
 |cons d a c=>rw[tj,lH,c]
def Bv:∀(b a:List Int),HO a->HO (ls a b):=by
 intro b;induction b with
 |nil=>intro a c;exact c
 |cons e b d=>intro a c;exact d _ (by rw[Bt];exact BW c e)
def Bu:∀(c b:List Int) (a:Int),a∈ls b c->a∈b\/a∈c:=by
 intro c;induction c with
 |nil=>intro b a h;exact .inl h
 |cons e c d=>
  intro b a h;rcases d (tj b e) a h with h|h
  ·rw[Bt]at h;rcases BV h with h|h
   ·exact .inl h
   ·exact .inr (by simp[h])
  ·exact .inr (by simp[h])
def KC:∀(a:List Int) (e b:Int),HO a->(∀c∈a,e<=c/\c<b)->a.length<=(b-e).toNat:=by
 intro a;induction a with
 |nil=>intro e b _ _;simp
 |cons c a i=>
  intro e b d f;unfold HO at d;rw[dg]at d;have j:=i (c+1) b d.2 λh g=>⟨by have:=d.1 h g;omega,(f h (by simp[g])).2⟩;have k:=f c dt;simp;omega
def Tn(a:Nat)(b:List Int):Prop:=b.length<=a/\∀c∈b,0<=c/\c<a
def Tn.nil(a:Nat):Tn a []:=⟨aw _,λc b=>by simp at b⟩
def Tn.union{a:Nat}{c d:List Int}(f:Tn a c)(g:Tn a d):Tn a (yL c d):=by
 have e:∀b∈yL c d,0<=b/\b<a:=λb i=>by
  rcases Bu _ _ _ i with h|h
  ·rcases Bu _ _ _ h with h|h
   ·simp at h
   ·exact f.2 b h
  ·exact g.2 b h
 refine⟨?_,e⟩;have:=KC (yL c d) 0 a (Bv _ _ (Bv _ _ List.Pairwise.nil)) e;omega
end
noncomputable section
open Go Go.TI
attribute [-simp] List.map_take List.map_drop List.map_append fw eQ dZ Bool.not_or Bool.not_and
attribute [simp] fq eY
attribute [-simp] size_cons
abbrev gG(a:List Int):List T:=a.map (T.int .i64)
def Yj(a:List Int):T:=sl (a.map (T.int .i64))
def Tv(e d:Nat)(b c:T)(a:Nat):Prop:=e<=a/\a<d/\dO b≠some a/\dO c≠some a
structure At(lo hi:Nat)(h:H)(a b:T)(es:List T)(s:ee):Prop where
 ga:Gr h a 1 (gG s.iE)
 gb:Gr h b 1 es
 el:iv (λe l=>oS h 1 e (gG l)/\∀c,dO e=some c->Tv lo hi a b c) es s.jR
 ba:∀c,dO a=some c->lo<=c/\c<hi/\dO b≠some c
 bb:∀c,dO b=some c->lo<=c/\c<hi
def AM(a:ee)(b c:T):T:= .agg [dy a.pC,b,c,dy a.dK]
structure TSr(h:H)(a b:T)(es:List T)(s:ee):Prop where
 ra:oS h 1 a (gG s.iE)
 rb:oS h 1 b es
 el:iv (λe l=>oS h 1 e (gG l)) es s.jR
 lt:∀e c,(e=a\/e=b\/e∈es)->dO e=some c->c<h.size
structure ICp where
 (s:ee) (a b:T) (es:List T)
def Nc(c:ICp)(e:List T)(d:H):Prop:=e=[AM c.s c.a c.b]/\TSr d c.a c.b c.es c.s/\gF 0 d/\c.s.iE.length<=1000000/\c.s.jR.length<=1000000/\∀f∈c.s.jR,f.length<=1000000
def Im(e:ICp)(h:List T)(d:H)(g:T)(a:H):Prop:=∃b c f,g=AM e.s b c/\At d.size a.size a b c f e.s/\Nb d a
structure CpS(s:ee)(a b aN:T)(h h':H)(i:Nat):Prop where
 ex:∃ver c es',mW h' (h.size+1+1+1) 4 ver [(dy s.pC,none),(aN,some (1,gG s.iE)),(c,some (1,es')),(dy s.dK,none)]/\es'.length=i/\
  iv (λe l=>oS h' 1 e (gG l)/\∀k,dO e=some k->h.size+1<k/\k<h'.size/\¬Fp h' (h.size+1+1+1) k) es' (s.jR.take i)
 nb:Nb h h'
 l1:Lb (h.size+1+1+1) h' h.size (dA 4 0 [.agg [dy s.pC,a,b,dy s.dK]])
 l2:Lb (h.size+1+1+1) h' (h.size+1) (dA 4 0 [.agg [dy 0,dz,dz,dy 0]])
 lo:∀c,Fp h' (h.size+1+1+1) c->h.size+1<c
def Gq:(js ICp Nc Im).Ok Tryz.prog cx 207:=by
 refine jo (tb:=⟨pt [],ht []⟩) ew ej (iQ 262175 [(1,[(1,7),(3,7),(7,9)]),(5,[(1,8)])] Tryz.func207) (λ_ _=>1000005) (λC z h c4=>by obtain⟨rfl,_⟩:=c4;simp[Tryz.f207]) ?_;rintro⟨b,z,l,R⟩ _ h ⟨rfl,v,bu,hr,c7,bn⟩ D L;simp only at v hr c7 bn;simp[AM]at L;have bz:=bu.hr;have N:∀t a,(t=z\/t=l\/t∈R)->dO t=some a->a<h.size:=v.lt;obtain⟨o,A⟩:∃o:H,o=((TI.hr h).cons (dA 4 0 [.agg [dy b.pC,z,l,dy b.dK]])).cons (dA 4 0 [.agg [dy 0,dz,dz,dy 0]]):=⟨_,rfl⟩;have di:gF 0 o:=by subst A;exact(bz.cons _).cons _
 have b6:o.size=h.size+1+1:=by subst A;rfl
 have bs:Nb (TI.hr h) o:=by subst A;exact((Nb.refl bz).cons _).cons _
 have cb:o.get h.size=some (dA 4 0 [.agg [dy b.pC,z,l,dy b.dK]]):=by subst A;simp
 have ce:o.get (h.size+1)=some (dA 4 0 [.agg [dy 0,dz,dz,dy 0]]):=by subst A;simp
 have dn:oS o 1 z (gG b.iE):=v.ra.mono λa c=>(bs.get a (N z a (.inl rfl) c)).trans (f9 h a);obtain⟨b9,m,J,⟨eH,eo,gA⟩,W,r,s⟩:=lz (cx:=cx) di oo rfl yp oo rfl rfl dt dn.jg (by simp[T.cells]) du;simp[A]at J;have eC:h.low<=h.size:=bu.low;have P:∀l,l<o.size->eJ (o.cons (dA 1 0 [])) m l=true:=λl cy=>ff ((r l cy).trans (by rw[dP,ao dq]));have bT:eJ (o.cons (dA 1 0 [])) m m.size=true:=iV (lm _ du);rw[b6]at P;replace P:=P h.size dq;rw[A]at P bT;simp[Tryz.f207,L,J,P,bT];have aN:m.size=h.size+1+1+1:=dq;simp only[aN];generalize a8:T.arr (h.size+1+1) b9 0 b.iE.length false=n;have gN:Gr m n 1 (gG b.iE):=by rw[<-a8];have:=Gr.new gA;rw[b6]at this;simpa using this
 have aX:∀a,dO n=some a->a=h.size+1+1:=λa c=>by rw[<-a8]at c;simp at c;exact c.symm
 have eE:gF 0 m:=s;refine fh b.jR.length dq (λC D g=>CpS b z l n h g C/\dB D 1 (.ptr h.size 0 0 0)/\dB D 2 (.ptr (h.size+1) 0 0 0)/\dB D 3 (.ptr (h.size+1+1+1) 0 0 0)/\dB D 4 (dy C)) ?_ ?_ dq ?_
 ·rintro C D g bl cv ⟨⟨⟨ver,a,E,e,bk,Q⟩,q,l1,l2,M⟩,m,Y,Z,ae⟩;have G:=e.get;simp at G;have ds:∀x,oS (g.cons x) 1 l R:=λx=>v.rb.mono λa c=>by have:=N l a (.inr (.inl rfl)) c;rw[dP,ao (by have:=q.ok.sz;omega)];exact q.get a this
  have al:=v.el.length;have an:=(show oS g 1 l R from v.rb.mono λa c=>q.get a (N l a (.inr (.inl rfl)) c)).len (cx:=cx) g Mz _ rfl;obtain⟨u,hl⟩:∃u,b.jR[C]? =some u:=⟨_,az bl⟩;have cL:=ax hl;obtain⟨t,bi,bC⟩:=v.el.get hl;have dv:oS g 1 t (gG u):=bC.mono λa c=>q.get a (N t a (.inr (.inr (ax bi))) c);obtain⟨p,b7,b8⟩:=(ds (dA 1 0 [])).idx (te:=p8) rfl rfl bi bC.gJ.2;have dk:gF 0 g:=e.ok;obtain⟨a7,K,J,⟨eI,er,gA⟩,W,r,s⟩:=lz (cx:=cx) dk kK rfl oq kK rfl rfl dt dv.jg (by simp[T.cells]) (by have:=bn u cL;simp;omega);have ef:Step (h.size+1+1+1) g K:=(Nb.mk ⟨s.hp,s.low,dq⟩ r:Nb g K).step e.lt;have bH:=e.step s λa c=>r a (e.fp a c);obtain⟨eh,eA,a6,aE⟩:=(bH.gr 2 rfl).Fx (cx:=cx) s Vf rfl kK rfl dt (x:= .arr g.size a7 0 (gG u).length false) rfl du;obtain⟨bB,eF,dm⟩:=bH.app 2 rfl aE;obtain⟨O,bN⟩:=dm _ rfl;simp at bB O bN;simp[W]at J a6;have ec:∀a,a<g.size->eJ (g.cons (dA 1 0 [])) K a=true:=λa c=>ff ((r a c).trans (by rw[dP,ao dq]));have dd:(h.size=g.size)=False:=by have:=l1.lt;simp;omega
  have eD:(h.size+1+1+1=g.size)=False:=by have:=e.lt;simp;omega
  have eb:=ec _ e.lt;have et:=(r _ e.lt).trans G;simp[m,Y,Z,ae,l1.get,G,an,al,bl,b7,b8,J,W,a6,bB,dd,eb,dS,aE.1.gJ,aE.1.cells,cv];have y:=ef.trans O;have eB:=y.ok.sz;have ey:K.size=g.size+1:=W;refine⟨⟨_,eh,E++[.arr g.size a7 0 u.length false],bN,by simp[bk],?_⟩,?_,l1.step y,l2.step y,λa c=> ?_⟩
  ·have c6:b.jR.take (C+1)=b.jR.take C++[u]:=by
    rw[List.take_add_one,hl];rfl
   rw[c6];refine iv.append (Q.imp λt u k=>⟨k.1.mono λd i=> ?_,λd i=> ?_⟩) (.cons ⟨.inr ?_,λd i=> ?_⟩ .nil)
   ·obtain⟨ap,S,I⟩:=k.2 d i;exact y.get d S I
   ·obtain⟨ap,S,I⟩:=k.2 d i;exact⟨ap,dq,λf=>(y.fp d f).elim I λf=>by omega⟩
   ·have B:¬Fp K (h.size+1+1+1) g.size:=λf=>by
     rw[iJ (r _ e.lt)]at f;have:=e.fp _ f;omega
    have:=Gr.new ((O.get g.size dq B).trans gA);simpa using this
   ·simp at i;subst i;refine⟨by have:=l2.lt;omega,by have:=O.ok.sz;omega,λf=> ?_⟩;rcases O.fp _ f with f|f
    ·rw[iJ (r _ e.lt)]at f;have:=e.fp _ f;omega
    ·omega
  ·refine⟨⟨y.ok.hp,y.ok.low,by have:=q.ok.sz;omega⟩,λa c=> ?_⟩;exact(y.get a (by have:=q.ok.sz;omega) λf=>by have:=M a f;omega).trans (q.get a c)
  ·rcases y.fp a c with f|f
   ·exact M a f
   ·have:=l2.lt;omega
 ·rintro D g ⟨⟨⟨ver,a,E,e,bk,Q⟩,q,l1,l2,M⟩,m,Y,Z,ae⟩;have G:=e.get;simp at G;have al:=v.el.length;have an:=(show oS g 1 l R from v.rb.mono λa c=>q.get a (N l a (.inr (.inl rfl)) c)).len (cx:=cx) g Mz _ rfl;rw[aL]at Q;have cp:∀V,(dT g (h.size+1) V).get (h.size+1)=some V:=λV=>(dI l2.get V _).trans (aq rfl);have U:=e.rD l2 (dA 4 1 [.agg [dy b.pC,n,a,dy b.dK]]);simp[m,Y,Z,ae,l1.get,l2.get,G,an,al,dS,cp];have bS:=U.step (U.ok.out h) λa _=>fO h _ a;have c1:∀d,h.size+1<d->(dT g (h.size+1) (dA 4 1 [.agg [dy b.pC,n,a,dy b.dK]])).get d=g.get d:=λd i=>by rw[dI l2.get,ao dq]
  have eu:=e.gr 2 rfl;have av:(n,some (1,gG b.iE))∈ [((dy b.pC:T),(none:aa (Nat×List T))),(n,some (1,gG b.iE)),(a,some (1,E)),(dy b.dK,none)]:=dt;have aA:(a,some (1,E))∈ [((dy b.pC:T),(none:aa (Nat×List T))),(n,some (1,gG b.iE)),(a,some (1,E)),(dy b.dK,none)]:=dt;refine⟨n,a,E,rfl,⟨bS.gr 1 rfl,bS.gr 2 rfl,Q.imp λt u k=>⟨k.1.mono λd i=> ?_,λd i=> ?_⟩,λd i=> ?_,λd i=> ?_⟩,⟨⟨(U.ok.out h).hp,(U.ok.out h).low,by simp;exact q.ok.sz⟩,λd i=> ?_⟩⟩
  ·rw[fO];exact c1 d (k.2 d i).1
  ·obtain⟨ap,S,I⟩:=k.2 d i;exact⟨dq,by simpa using S,λk=>I (e.AW av k),λk=>I (e.AW aA k)⟩
  ·have:=e.fp d (e.AW av i);have:=M d (e.AW av i);exact⟨dq,by simpa,e.Tu 1 2 dx _ _ rfl rfl d i⟩
  ·have:=e.fp d (e.AW aA i);have:=M d (e.AW aA i);exact⟨dq,by simpa⟩
  ·rw[fO,dI l2.get,ao dq];exact q.get d i
 ·have c9:m.low<=h.size+1+1+1:=by have:=s.low;omega
  have de:Nb h m:=⟨⟨s.hp,s.low,dq⟩,λa c=>(r a dq).trans ((bs.get a c).trans (f9 h a))⟩;obtain⟨ea,ca⟩:=mW.one (i0:=1) (h:=m.cons (dA 4 1 [.agg [dy b.pC,n,dz,dy b.dK]])) (w:=h.size+1+1+1) (szw:=4) (ver:=1) (F:=[(dy b.pC,none),(n,some (1,gG b.iE)),(dz,some (1,[])),(dy b.dK,none)]) (s.cons _) (by simp[aN]) (λf B=>by
   simp only[ci,c8,or_false]at B;rcases B with rfl|rfl|rfl|rfl
   ·show dO _=none;simp
   ·exact⟨gN.mono λa c=>by rw[aX a c,dP,ao dq],show(1:Nat)≠4 by decide⟩
   ·exact⟨Gr.nil _ _,dx⟩
   ·show dO _=none;simp) (λj z L k=>by
   rcases j with _|_|_|_|j<;>simp at L<;>subst L<;>simp at k|-)
  have X:∀a,Fp (m.cons (dA 4 1 [.agg [dy b.pC,n,dz,dy b.dK]])) (h.size+1+1+1) a->h.size+1<a:=λa c=>by
   rcases ca a c with k|⟨f,B,k⟩
   ·omega
   ·simp at B;subst B;have:=aX a k;omega
  simp[aN,c9];refine⟨⟨_,_,[],ea,rfl,.nil⟩,de.cons _,⟨?_,λk=> ?_⟩,⟨?_,λk=> ?_⟩,X⟩
  ·rw[dP,ao dq];exact(r h.size dq).trans cb
  ·have:=X _ k;omega
  ·rw[dP,ao dq];exact(r (h.size+1) dq).trans ce
  ·have:=X _ k;omega
def R0(b c:H)(d:T)(e:List Int):Prop:=oS c 1 d (gG e)/\Nb b c/\∀a,dO d=some a->b.size<=a
structure IUn where
 (x y:List Int) (u v:T)
def M6(a:IUn)(c:List T)(b:H):Prop:=c=[a.u,a.v]/\oS b 1 a.u (gG a.x)/\oS b 1 a.v (gG a.y)/\a.x.length+a.y.length<=10000000/\gF 0 b
def Ik(a:IUn)(e:List T)(b:H)(d:T)(c:H):Prop:=R0 b c d (yL a.x a.y)
def Pl(b:T)(a:List Int):Prop:=(b= dz/\a=[])\/b=sl (gG a)
def Pl.rF{a:T}{b:List Int}(d:Pl a b)(c:H):rF c a=some (sl (gG b))/\jI a=true/\a.gJ=true:=by
 rcases d with⟨rfl,rfl⟩|rfl<;>simp
def Pl.rd{a:T}{b:List Int}(d:Pl a b)(c:H):oS c 1 a (gG b)/\dO a=none:=by
 rcases d with⟨rfl,rfl⟩|rfl
 ·exact⟨.inr (Gr.nil _ _),rfl⟩
 ·exact⟨.inl rfl,dt⟩
def Ga:(js IUn M6 Ik).Ok Tryz.prog cx 155:=by
 refine jo (tb:=⟨pt [(202,FZ)],ht []⟩) ew ej (iQ 8390899 [] Tryz.func155) (λ_ _=>10000005) (λi N b K=>by obtain⟨rfl,_⟩:=K;simp[Tryz.f155]) ?_;rintro⟨x,g,H,A⟩ _ b ⟨rfl,D,F,hl,L⟩ c B;simp only at D F hl;simp at B;obtain⟨k,d⟩:=B;have E:oS (hr b) 1 H (gG x):=D.mono λl _=>f9 b l;have G:oS (hr b) 1 A (gG g):=F.mono λl _=>f9 b l;have y:=E.len (cx:=cx) (hr b) p8 _ rfl;have z:=G.len (cx:=cx) (hr b) p8 _ rfl;rw[aH]at y z;simp[Tryz.f155];refine fh x.length dq (λa c s=>s=hr b/\dB c 0 H/\dB c 1 A/\dB c 6 (dy a)/\∃f,dB c 5 f/\Pl f (ls [] (x.take a))) ?_ ?_ dq (by simp[k,d];exact .inl ⟨rfl,rfl⟩)
 ·rintro a c _ j v ⟨rfl,k,d,t,f,h,e⟩;obtain⟨M,m,n⟩:=E.idx (te:=FF) rfl rfl (i:=a) (x:= dy x[a]) (by simp[j]) rfl;have w:=xa [] (x.take a);simp at w;obtain⟨q,r,I⟩:=e.rF (hr b);have o:=λ{tb:fy} (ht:tb.p 202=some FZ)=>aaa ht (ls [] (x.take a)) x[a] dq;simp[k,d,h,t,y,j,v,m,n,q,r,o,Aa [] x j];exact .inr rfl
 ·rintro c _ ⟨rfl,k,d,t,f,h,e⟩;rw[aL]at e;simp[k,t,y];refine fh g.length dq (λa c s=>s=hr b/\dB c 1 A/\dB c 7 (dy a)/\∃f,dB c 5 f/\Pl f (ls (ls [] x) (g.take a))) ?_ ?_ dq (by simp[d,h];exact e)
  ·rintro a c _ j v ⟨rfl,d,u,f,h,e⟩;obtain⟨M,m,n⟩:=G.idx (te:=FF) rfl rfl (i:=a) (x:= dy g[a]) (by simp[j]) rfl;have w:=xa (ls [] x) (g.take a);have J:=xa [] x;simp at w J;obtain⟨q,r,I⟩:=e.rF (hr b);have o:=λ{tb:fy} (ht:tb.p 202=some FZ)=>aaa ht (ls (ls [] x) (g.take a)) g[a] dq;simp[d,h,u,z,j,v,m,n,q,r,o,Aa (ls [] x) g j];exact .inr rfl
  ·rintro c _ ⟨rfl,d,u,f,h,e⟩;rw[aL]at e;simp[d,h,u,z];obtain⟨r1,r2⟩:=e.rd (lL b (hr b));exact⟨r1,(Nb.refl L.hr).out,λl C=>by rw[r2]at C;simp at C⟩
def Lk(f:H)(d:Nat->Prop)(e:T)(c:dV):Prop:=∃a,e= .agg [dy c.iK,a]/\oS f 1 a (gG c.eg)/\∀b,dO a=some b->d b
structure AJ(lo hi:Nat)(h:H)(c0 c2 c3:T)(es:List T)(S:fk):Prop where
 g0:Gr h c0 2 es
 g2:Gr h c2 1 (S.done.map T.bool)
 g3:Gr h c3 3 (S.dE.map dG.t)
 el:iv (Lk h λc=>lo<=c/\c<hi/\dO c0≠some c/\dO c2≠some c/\dO c3≠some c) es S.dY
 b:∀c,(dO c0=some c\/dO c2=some c\/dO c3=some c)->lo<=c/\c<hi
def MC(a:fk)(b c d:T):T:= .agg [b,dy a.tx,c,d]
def Dk(a:fk)(b:List T)(c:H):Prop:=b=[a.t]/\gF 0 c/\a.dY.length<=1000000/\a.done.length<=1000000/\a.dE.length<=1000000/\∀d∈a.dY,d.eg.length<=1000000
def In(b:fk)(i:List T)(f:H)(h:T)(a:H):Prop:=∃c d e g,h=MC b c d e/\AJ f.size a.size a c d e g b/\Nb f a
structure C8(S:fk)(c2 c3:T)(h h':H)(i:Nat):Prop where
 ex:∃ver c0 es,mW h' (h.size+1+1+1+1) 4 ver [(c0,some (2,es)),(dy S.tx,none),(c2,some (1,S.done.map T.bool)),(c3,some (3,S.dE.map dG.t))]/\es.length=i/\
  iv (Lk h' λk=>h.size+1<k/\k<h'.size/\¬Fp h' (h.size+1+1+1+1) k) es (S.dY.take i)
 nb:Nb h h'
 l1:Lb (h.size+1+1+1+1) h' h.size (dA 4 0 [S.t])
 l2:Lb (h.size+1+1+1+1) h' (h.size+1) (dA 4 0 [.agg [dz,dy 0,dz,dz]])
 lo:∀c,Fp h' (h.size+1+1+1+1) c->h.size+1<c
def Gp:(js fk Dk In).Ok Tryz.prog cx 154:=by
 refine jo (tb:=⟨pt [],ht []⟩) ew ej (iQ 1048607 [(1,[(1,5),(5,6),(5,8),(1,9),(5,11),(9,11)]),(5,[(1,15),(3,15),(5,15),(7,15)])] Tryz.func154) (λ_ _=>1000005) (λz I b eb=>by obtain⟨rfl,_⟩:=eb;simp[Tryz.f154]) ?_;rintro c _ b ⟨rfl,et,hl,eR,ht,hr⟩ G D;simp at D;have bs:=et.hr;obtain⟨p,C⟩:∃p:H,p=((TI.hr b).cons (dA 4 0 [c.t])).cons (dA 4 0 [.agg [dz,dy 0,dz,dz]]):=⟨_,rfl⟩;have eu:gF 0 p:=by subst C;exact(bs.cons _).cons _
 have eI:p.size=b.size+1+1:=by subst C;rfl
 have er:Nb b p:=by subst C;exact⟨(((Nb.refl bs).cons _).cons _).ok,λa h=>((((Nb.refl bs).cons _).cons _).get a h).trans (f9 b a)⟩
 have b8:p.get b.size=some (dA 4 0 [c.t]):=by subst C;simp
 have di:p.get (b.size+1)=some (dA 4 0 [.agg [dz,dy 0,dz,dz]]):=by subst C;simp
 obtain⟨a7,o,J,⟨e0,eL,gA⟩,aN,m,P⟩:=lz (cx:=cx) eu (x:=sl (c.done.map T.bool)) (xs:=c.done.map T.bool) Fc rfl OU Fc rfl rfl dt dt (λe ds=>by obtain⟨n,_,rfl⟩:=List.mem_map.1 ds;rfl) du;obtain⟨L,k,K,⟨eE,de,b9⟩,e1,O,okB⟩:=lz (cx:=cx) P (x:=sl (c.dE.map dG.t)) (xs:=c.dE.map dG.t) Co rfl AZ Co rfl rfl dt dt dt du;have bT:o.size=b.size+1+1+1:=dq;have X:k.size=b.size+1+1+1+1:=dq;have V:∀n,n<p.size->eJ (p.cons (dA 1 0 [])) o n=true:=λn S=>ff ((m n S).trans (by rw[dP,ao dq]));have cL:∀n,n<o.size->eJ (o.cons (dA 3 0 [])) k n=true:=λn S=>ff ((O n S).trans (by rw[dP,ao dq]));have bB:=V b.size dq;have c1:=cL b.size dq;have bH:eJ (p.cons (dA 1 0 [])) o (b.size+1+1+1+1)=true:=iV (lm _ du);have c4:eJ (o.cons (dA 3 0 [])) k (b.size+1+1+1+1)=true:=iV (lm _ du);have bC:eJ (p.cons (dA 1 0 [])) o (b.size+1+1+1)=true:=iV (lm _ du);have bi:=(m b.size dq).trans b8;have dm:=(O b.size dq).trans bi;simp[C]at J;simp[bT]at K;rw[C]at bB bC bH;simp[Tryz.f154,D,J,K,bB,bC,c1,bH,c4,bi,bT,X];have c9:=(show Gr k (.arr (b.size+1+1) a7 0 c.done.length false) 1 (c.done.map T.bool)by
  have:=Gr.new ((O p.size dq).trans gA);rw[eI]at this;simpa using this)
 have dd:=(show Gr k (.arr (b.size+1+1+1) L 0 c.dE.length false) 3 (c.dE.map dG.t)by
  have:=Gr.new b9;rw[bT]at this;simpa using this)
 have eo:Nb b k:=⟨⟨okB.hp,okB.low,dq⟩,λa h=>(O a dq).trans ((m a dq).trans (er.get a h))⟩;have eF:=(O b.size dq).trans ((m b.size dq).trans b8);have eH:=(O (b.size+1) dq).trans ((m (b.size+1) dq).trans di);have ef:k.low<=b.size+1+1+1+1:=by have:=okB.low;omega
 have b6:∀a,dO (.arr (b.size+1+1) a7 0 c.done.length false)=some a->a=b.size+1+1:=λa q=>by simpa using q.symm
 have b7:∀a,dO (.arr (b.size+1+1+1) L 0 c.dE.length false)=some a->a=b.size+1+1+1:=λa q=>by simpa using q.symm
 clear J K V cL bB bC bH c1 c4 bi dm gA b9;generalize T.arr (b.size+1+1) a7 0 c.done.length false=r at*
 generalize T.arr (b.size+1+1+1) L 0 c.dE.length false=s at*
 refine fh c.dY.length dq (λz G i=>C8 c r s b i z/\dB G 1 (.ptr b.size 0 0 0)/\dB G 2 (.ptr (b.size+1) 0 0 0)/\dB G 3 (.ptr (b.size+1+1+1+1) 0 0 0)/\dB G 4 (dy z)) ?_ ?_ dq ?_
 ·rintro z G i an dn ⟨⟨⟨eD,A,B,d,ca,Y⟩,N,l1,l2,av⟩,o,k,Z,ae⟩;have M:=d.get;simp at M;obtain⟨l,al⟩:∃l,c.dY[z]? =some l:=⟨_,az an⟩;have eU:=hr l (ax al);obtain⟨L,R,J,⟨eE,de,gA⟩,aN,m,P⟩:=lz (cx:=cx) d.ok (x:=sl (gG l.eg)) (xs:=gG l.eg) kK rfl oq kK rfl rfl dt dt (by simp[T.cells]) du;have eB:Step (b.size+1+1+1+1) i R:=(Nb.mk ⟨P.hp,P.low,dq⟩ m:Nb i R).step d.lt;have c6:=d.step P λa h=>m a (d.fp a h);obtain⟨eC,eP,K,bS⟩:=(c6.gr 0 rfl).Fx (cx:=cx) P Ja rfl Fd rfl dt (x:= .agg [dy l.iK,.arr i.size L 0 (gG l.eg).length false]) rfl du;obtain⟨aA,eX,bu⟩:=c6.app 0 rfl bS;obtain⟨W,c7⟩:=bu _ rfl;simp at aA W c7;simp[aN]at J K;have V:∀a,a<i.size->eJ (i.cons (dA 1 0 [])) R a=true:=λa h=>ff ((m a h).trans (by rw[dP,ao dq]));have eh:(b.size=i.size)=False:=by have:=l1.lt;simp;omega
  have eW:(b.size+1+1+1+1=i.size)=False:=by have:=d.lt;simp;omega
  have ey:=V _ d.lt;have eA:=V _ l1.lt;have eN:=(m _ d.lt).trans M;have eM:=(m _ l1.lt).trans l1.get;simp[o,Z,ae,l1.get,M,an];have ea:c.dY[z]=l:=by rw[az an]at al;simpa using al
  simp[o,k,Z,ae,an,ea,J,aN,K,aA,eh,ey,eA,dS,bS.1.gJ,bS.1.cells,dn];have w:=eB.trans W;have eV:=w.ok.sz;have eO:R.size=i.size+1:=aN;refine⟨⟨_,eC,B++[.agg [dy l.iK,.arr i.size L 0 l.eg.length false]],c7,by simp[ca],?_⟩,?_,l1.step w,l2.step w,λa h=> ?_⟩
  ·have ec:c.dY.take (z+1)=c.dY.take z++[l]:=by
    rw[List.take_add_one,al];rfl
   rw[ec];refine iv.append (Y.imp λe l ⟨bz,aX,a6,Q⟩=>⟨bz,aX,a6.mono λg j=> ?_,λg j=> ?_⟩) (.cons ⟨_,rfl,.inr ?_,λg j=> ?_⟩ .nil)
   ·obtain⟨bl,ap,F⟩:=Q g j;exact w.get g ap F
   ·obtain⟨bl,ap,F⟩:=Q g j;exact⟨bl,dq,λf=>(w.fp g f).elim F λf=>by omega⟩
   ·have E:¬Fp R (b.size+1+1+1+1) i.size:=λf=>by
     rw[iJ (m _ d.lt)]at f;have:=d.fp _ f;omega
    have:=Gr.new ((W.get i.size dq E).trans gA);simpa using this
   ·simp at j;subst j;refine⟨by have:=l2.lt;omega,by have:=W.ok.sz;omega,λf=> ?_⟩;rcases W.fp _ f with f|f
    ·rw[iJ (m _ d.lt)]at f;have:=d.fp _ f;omega
    ·omega
  ·refine⟨⟨w.ok.hp,w.ok.low,by have:=N.ok.sz;omega⟩,λa h=> ?_⟩;exact(w.get a (by have:=N.ok.sz;omega) λf=>by have:=av a f;omega).trans (N.get a h)
  ·rcases w.fp a h with f|f
   ·exact av a f
   ·have:=l2.lt;omega
 ·rintro G i ⟨⟨⟨eD,A,B,d,ca,Y⟩,N,l1,l2,av⟩,o,k,Z,ae⟩;have M:=d.get;simp at M;rw[aL]at Y;have dk:∀y,(dT i (b.size+1) y).get (b.size+1)=some y:=λy=>(dI l2.get y _).trans (aq rfl);have aE:=d.rD l2 (dA 4 1 [.agg [A,dy c.tx,r,s]]);simp[o,k,Z,ae,l1.get,l2.get,M,dS,dk];have bN:=aE.step (aE.ok.out b) λa _=>fO b _ a;have ce:(A,some (2,B))∈ [(A,some (2,B)),((dy c.tx:T),(none:aa (Nat×List T))),(r,some (1,c.done.map T.bool)),(s,some (3,c.dE.map dG.t))]:=dt;have cp:(r,some (1,c.done.map T.bool))∈ [(A,some (2,B)),((dy c.tx:T),(none:aa (Nat×List T))),(r,some (1,c.done.map T.bool)),(s,some (3,c.dE.map dG.t))]:=dt;have cv:(s,some (3,c.dE.map dG.t))∈ [(A,some (2,B)),((dy c.tx:T),(none:aa (Nat×List T))),(r,some (1,c.done.map T.bool)),(s,some (3,c.dE.map dG.t))]:=dt;refine⟨A,r,s,B,rfl,⟨bN.gr 0 rfl,bN.gr 2 rfl,bN.gr 3 rfl,Y.imp λe l ⟨bz,aX,a6,Q⟩=>⟨bz,aX,a6.mono λg j=> ?_,λg j=> ?_⟩,λg j=> ?_⟩,⟨⟨(aE.ok.out b).hp,(aE.ok.out b).low,by simp;exact N.ok.sz⟩,λg j=> ?_⟩⟩
  ·rw[fO,dI l2.get,ao (by have:=(Q g j).1;omega)]
  ·obtain⟨bl,ap,F⟩:=Q g j;exact⟨dq,by simpa using ap,λq=>F (d.AW ce q),λq=>F (d.AW cp q),λq=>F (d.AW cv q)⟩
  ·have E:Fp i (b.size+1+1+1+1) g:=by
    rcases j with q|q|q
    ·exact d.AW ce q
    ·exact d.AW cp q
    ·exact d.AW cv q
   have:=d.fp g E;have:=av g E;exact⟨dq,by simpa⟩
  ·rw[fO,dI l2.get,ao dq];exact N.get g j
 ·have bn:∀(u:Nat) (I:T×aa (Nat×List T)) a,[(T.dF [] false,some (2,[])),((dy c.tx:T),(none:aa (Nat×List T))),(r,some (1,c.done.map T.bool)),(s,some (3,c.dE.map dG.t))][u]? =some I->dO I.1=some a->a=b.size+u:=λu I a D q=>by
   rcases u with _|_|_|_|u<;>simp at D<;>subst D
   ·simp at q
   ·simp at q
   ·have:=b6 a q;omega
   ·have:=b7 a q;omega
  have cy:mW (k.cons (dA 4 1 [.agg [dz,dy c.tx,r,s]])) (b.size+1+1+1+1) 4 1 [(T.dF [] false,some (2,[])),(dy c.tx,none),(r,some (1,c.done.map T.bool)),(s,some (3,c.dE.map dG.t))]:=by
   refine⟨okB.cons _,by simp[X],λf E=> ?_,λu g eS I n D S a aA bu=> ?_⟩
   ·simp only[ci,c8,or_false]at E;rcases E with rfl|rfl|rfl|rfl
    ·exact⟨Gr.nil _ _,show(2:Nat)≠4 by decide⟩
    ·show dO _=none;simp
    ·exact⟨c9.mono λa h=>by have:=b6 a h;rw[dP,ao (by rw[X];omega)],show(1:Nat)≠4 by decide⟩
    ·exact⟨dd.mono λa h=>by have:=b7 a h;rw[dP,ao (by rw[X];omega)],show(3:Nat)≠4 by decide⟩
   ·have:=bn u I a D aA;have:=bn g n a S bu;omega
  have a8:∀a,Fp (k.cons (dA 4 1 [.agg [dz,dy c.tx,r,s]])) (b.size+1+1+1+1) a->b.size+1<a:=λa h=>by
   rcases h with q|⟨x,bk,v,cb,q⟩
   ·omega
   ·rw[cy.get]at bk;simp only[ar]at bk;subst bk;simp only[fa,cD,cZ,cg,T.cells]at cb;obtain⟨f,dv,rfl⟩:=List.mem_map.1 cb;obtain⟨u,U⟩:=cP dv;have j:=bn u f a U q;rcases u with _|_|u
    ·simp at U;subst U;simp at q
    ·simp at U;subst U;simp at q
    ·omega
  simp[X,ef];refine⟨⟨_,_,[],cy,rfl,.nil⟩,eo.cons _,⟨?_,λq=> ?_⟩,⟨?_,λq=> ?_⟩,a8⟩
  ·rw[dP,ao dq];exact eF
  ·have:=a8 _ q;omega
  ·rw[dP,ao dq];exact eH
  ·have:=a8 _ q;omega
structure Ac(h0 h':H)(v:T)(l:List Int):Prop where
 nb:Nb h0 h'
 g:Gr h' v 1 (gG l)
 lo:∀c,dO v=some c->h0.size<=c
def Ac.start{a:H}(b:gF 0 a):Ac a a dz []:=⟨Nb.refl b,Gr.nil _ _,λd c=>by simp at c⟩
def Ac.mJ{m h:H}{n:T}{j:List Int}(a:Ac m h n j)(l:Int)(s:j.length<=10000000):∃d c,iO cx (h.cons (dA 1 0 [dy l])) 38 38 n (.arr h.size 0 0 1 false)=some (.val d c)/\Ac m c d (j++[l]):=by
 obtain⟨d,c,e,o,p,r,k⟩:=a.g.mJ (cx:=cx) (f:=T.int .i64) ⟨a.nb.ok.hp,a.nb.ok.low,aw _⟩ kK rfl oq rfl dt (λ_=>rfl) l du;have:=a.nb.ok.sz;refine⟨d,c,e,⟨⟨k.hp,k.low,aS a.nb.ok.sz k.sz⟩,λb i=>(p b dq λq=>by have:=a.lo b q;omega).trans (a.nb.get b i)⟩,o,λb i=> ?_⟩;rcases r b i with q|q
 ·exact a.lo b q
 ·omega
def Ac.Gu{a c:H}{l:T}{i:List Int}{h:H}(e:Ac h c l i)(j:Nb a h):R0 a (lL a c) l i:=by
 have d:=j.trans e.nb;have k:gF 0 c:=⟨d.ok.hp,d.ok.low,aw _⟩;have:=j.ok.sz;exact⟨.inr (e.g.out a),⟨⟨(k.out a).hp,(k.out a).low,d.ok.sz⟩,λb f=>(fO a c b).trans (d.get b f)⟩,λb f=>by have:=e.lo b f;omega⟩
structure IWt where
 (S:fk) (c0 c2 c3:T) (c:Int)
def SO(a:IWt)(d:List T)(b:H):Prop:=d=[MC a.S a.c0 a.c2 a.c3,dy a.c]/\Gr b a.c3 3 (a.S.dE.map dG.t)/\a.S.dE.length<=1000000/\gF 0 b
def Nd(a:IWt)(f:List T)(b:H)(e:T)(d:H):Prop:=R0 b d e (hU a.c a.S.dE 0)
def HV(c:Int)(b:List dG)(a:Nat)(d:a<b.length):hU c (b.drop a) a=if b[a].iA=3/\b[a].cond=c then(a:Int)::hU c (b.drop (a+1)) (a+1)else hU c (b.drop (a+1)) (a+1):=by
 rw[aI d,hU]
def BC:(js IWt SO Nd).Ok Tryz.prog cx 153:=by
 refine jo (tb:=⟨pt [],ht []⟩) ew ej (iQ 1073743991 [] Tryz.func153) (λ_ _=>1000005) (λi d a P=>by obtain⟨rfl,_⟩:=P;simp[Tryz.f153]) ?_;rintro⟨b,k,l,c,j⟩ _ a ⟨rfl,o,hl,z⟩ m D;simp only at o hl;simp[MC]at D;obtain⟨L,f⟩:=D;have R:=z.hr.cons (dA 4 0 [.agg [k,dy b.tx,l,c]]);have K:Gr ((hr a).cons (dA 4 0 [.agg [k,dy b.tx,l,c]])) c 3 (b.dE.map dG.t):=o.mono λe r=>by
  obtain⟨_,_,_,_,A,_⟩:=o.box r;rw[dP,ao (by have:=H.ez A;simp;omega),f9]
 have l3:∀e,dO c=some e->e<a.size:=λe r=>by obtain⟨_,_,_,_,A,_⟩:=o.box r;exact H.ez A
 have w:=λf:H=>o.len (cx:=cx) f KS _ rfl;rw[aH]at w;simp[Tryz.f153,L];have B:((hr a).cons (dA 4 0 [.agg [k,dy b.tx,l,c]])).get a.size=some (dA 4 0 [.agg [k,dy b.tx,l,c]]):=dt;have Q:Nb a ((hr a).cons (dA 4 0 [.agg [k,dy b.tx,l,c]])):=⟨((Nb.refl z.hr).cons _).ok,λj O=>(((Nb.refl z.hr).cons _).get j O).trans (f9 a j)⟩;have al:((hr a).cons (dA 4 0 [.agg [k,dy b.tx,l,c]])).size=a.size+1:=rfl;generalize X:(hr a).cons (dA 4 0 [.agg [k,dy b.tx,l,c]])=M at*
 refine fh b.dE.length dq (λh m h'=>∃s n,Ac M h' s n/\n.length<=h/\n++hU j (b.dE.drop h) h=hU j b.dE 0/\dB m 1 (dy j)/\dB m 2 (.ptr a.size 0 0 0)/\dB m 5 s/\dB m 6 (dy h)) ?_ ?_ dq ⟨_,_,Ac.start R,aw _,rfl,by simp[f]⟩
 ·rintro h m h' x E ⟨s,n,d,N,g,f,p,u,q⟩;have v:=(d.nb.get a.size dq).trans B;obtain⟨e,U,Z,V,ae,T,G,I,C⟩:=(K.mono (h':=h') λe r=>d.nb.get e (by have:=l3 e r;omega)).IK (te:=zQ) rfl (i:=h) (by simpa using x);simp at C;rw[HV j _ _ x]at g;simp[f,p,q,w,x,v,G,I,C];generalize b.dE[h]=Y at*
  refine dW (λy=> ?_) (λy=> ?_)
  ·rw[aq (by simpa using y)]at g;obtain⟨S,W,J,F⟩:=d.mJ (h:Int) dq;simp[f,p,u,q,J,E];exact⟨S,_,F,du,by simpa using g,rfl⟩
  ·rw[ao (by simpa using y)]at g;simp[f,p,u,q,E];exact⟨s,n,d,dq,g,rfl⟩
 ·rintro m h' ⟨s,n,d,N,g,f,p,u,q⟩;have v:=(d.nb.get a.size dq).trans B;simp[hU]at g;subst g;simp[p,u,q,w,v];exact d.Gu Q
structure IWo where
 (l:List Int) (v:T) (n:Int)
def SP(a:IWo)(d:List T)(b:H):Prop:=d=[a.v,dy a.n]/\oS b 1 a.v (gG a.l)/\(∀c,dO a.v=some c->c<b.size)/\a.l.length<=1000000/\gF 0 b
def Nf(a:IWo)(f:List T)(b:H)(d:T)(c:H):Prop:=R0 b c d (a.l.filter λe=> !decide (e=a.n))
def Ir:(js IWo SP Nf).Ok Tryz.prog cx 156:=by
 refine jo (tb:=⟨pt [],ht []⟩) ew ej (iQ 263283 [] Tryz.func156) (λ_ _=>1000005) (λi f h E=>by obtain⟨rfl,_⟩:=E;simp[Tryz.f156]) ?_;rintro⟨l,I,r⟩ _ h ⟨rfl,t,z,hl,s⟩ e w;simp only at t z hl;simp at w;obtain⟨c,a⟩:=w;have F:Nb h (hr h):=⟨⟨s.hr.hp,s.hr.low,au _⟩,λj _=>f9 h j⟩;have o:=λa:H=>t.len (cx:=cx) a p8 _ rfl;rw[aH]at o;simp[Tryz.f156];refine fh l.length dq (λd e h'=>∃m g,Ac (hr h) h' m g/\g.length<=d/\g++(l.drop d).filter (λx=> !decide (x=r))=l.filter (λx=> !decide (x=r))/\dB e 0 I/\dB e 1 (dy r)/\dB e 5 m/\dB e 6 (dy d)) ?_ ?_ dq ⟨_,_,Ac.start s.hr,aw _,rfl,by simp[c,a]⟩
 ·rintro d e h' p y ⟨m,g,f,C,b,c,a,n,k⟩;obtain⟨K,u,v⟩:=(t.mono (h':=h') λj D=>(f.nb.get j (by simpa using z j D)).trans (f9 h j)).idx (te:=FF) rfl rfl (i:=d) (x:= dy l[d]) (by simp[p]) rfl;rw[aI p,List.filter_cons]at b;simp[c,a,k,o,p,u,v];generalize l[d]=x at*
  refine dW (λq=> ?_) (λq=> ?_)
  ·rw[aq (by simpa using q)]at b;obtain⟨G,J,B,A⟩:=f.mJ x dq;simp[c,a,n,k,u,v,B,y];exact⟨G,_,A,du,by simpa using b,rfl⟩
  ·rw[ao (by simpa using q)]at b;simp[c,a,n,k,y];exact⟨m,g,f,dq,b,rfl⟩
 ·rintro e h' ⟨m,g,f,C,b,c,a,n,k⟩;simp at b;subst b;simp[c,n,k,o];exact f.Gu F
end
end Go.Proofs.YtmaeadedikngoaaGreatDoor
