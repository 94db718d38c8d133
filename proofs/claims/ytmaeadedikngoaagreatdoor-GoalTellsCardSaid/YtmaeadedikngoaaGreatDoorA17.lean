/- Texts X07 to W08g. -/
import Derived.Test.YtmaeadedikngoaaGreatDoorA16
set_option linter.all false
set_option maxRecDepth 100000
set_option maxHeartbeats 8000000
namespace Go.Proofs.YtmaeadedikngoaaGreatDoor
noncomputable section
open Go Go.TI
attribute [-simp] List.map_take List.map_drop List.map_append fG fg ei Bool.not_or Bool.not_and
attribute [simp] fF fh
def Ny(b c:H)(f:Nat)(e:List (T×aa (Nat×List T))):Prop:=∃d g,nW c d f g e/\(∀a,Fp c d a->b.size<=a)/\ig b.size c/\∀a,a<b.size->c.get a=b.get a
def Ny.of{b f d:H}{e j k:Nat}{h:List (T×aa (Nat×List T))}(n:nW d e j k h)(c:Step e f d)(i:∀a,Fp f e a->b.size<=a)(l:b.size<=f.size)(m:∀a,a<b.size->f.get a=b.get a):Ny b (lO b d) j h:=
 ⟨e,k,n.step ((ig.out ⟨c.ok.hp,c.ok.low,aw _⟩ b)) λa _=>fO b d a,λa g=>by
   rw[iW (fO b d e)]at g;rcases c.fp a g with q|q
   ·exact i a q
   ·omega,ig.out ⟨c.ok.hp,c.ok.low,aS l c.ok.sz⟩ b,λa g=>(fO b d a).trans ((c.get a dz λq=>by have:=i a q;omega).trans (m a g))⟩
def pS8(a:d8)(b:List T)(c:H):Prop:=b=[a.t]/\ig 0 c/\a.em.length<=1000000/\a.eg.length<=1000000/\a.dK.length<=1000000
def zp(b:Nat):List dN:=(List.range b).map λa=>⟨if a=0 then 1 else 0,0,false⟩
def L9(a:Nat):zp (a+1)=zp a++[⟨if a=0 then 1 else 0,0,false⟩]:=by
 unfold zp;rw[List.range_succ,List.map_append];rfl
def qS8(a:d8)(_:List T)(e:H)(g:T)(f:H):Prop:=∃b c d,g= .agg [b,dE (-1),c,d]/\Ny e f 4 [(b,some (2,(List.replicate a.em.length ()).map yq)),(dE (-1),none),(c,some (1,(List.replicate a.eg.length false).map T.bool)),(d,some (3,(zp a.dK.length).map dN.t))]
def Sz8(e:Nat)(f:H)(Lk:List Unit)(a:List Bool)(Th:List dN):Prop:=∃g b c d,nW f e 4 g [(b,some (2,Lk.map yq)),(dE (-1),none),(c,some (1,a.map T.bool)),(d,some (3,Th.map dN.t))]
def adV:(jw d8 pS8 qS8).Ok Tryz.prog cx 73:=by
 refine jo (tb:=⟨pt [],ht []⟩) fa eQ (iR 9071038046463 [] Tryz.func73) (λ_ _=>1000005) (λe a h aE=>by obtain⟨rfl,_⟩:=aE;simp[Tryz.f73]) ?_;rintro(w:d8) _ h ⟨rfl,ap,hl,bn,ht⟩ d Z;simp at Z;simp[Tryz.f73,Z];generalize M:dY _ _ _=p;have N:ig 0 p:=by rw[<-M];exact(((ap.hr.cons _).cons _).cons _).put _ _
 have bs:p.size=h.size+3:=by rw[<-M];simp
 have J:∀j,p.get j=if j=h.size+2 then some (dG 4 1 [.agg [dF,dE (-1),dF,dF]])else if j=h.size+1 then some vq else if j=h.size then some (dG 6 0 [w.t])else h.get j:=λj=>by
  rw[<-M,mM (((ap.hr.cons _).cons _).cons _).hp dA,dV,dV,dV,gh];simp only[size_cons,oa];by_cases K:j=h.size+2<;>simp[K,vq]
 obtain⟨a7,O⟩:=nW.start (h:=p) (w:=h.size+2) (szw:=4) (ver:=1) (F:=[(dF,some (2,[])),(dE (-1),none),(dF,some (1,[])),(dF,some (3,[]))]) N (by rw[J,aq rfl];rfl) dA;have I:Lb (h.size+2) p h.size (dG 6 0 [w.t]):=⟨by rw[J,ao dz,ao dz,aq rfl],λK=>by have:=O _ K;omega⟩;have aX:Lb (h.size+2) p (h.size+1) vq:=⟨by rw[J,ao dz,aq rfl],λK=>by have:=O _ K;omega⟩;have a6:∀j,j<h.size->p.get j=h.get j:=λj E=>by rw[J,ao dz,ao dz,ao dz]
 clear M J;refine fy w.em.length dz (λe d g=>Sz8 (h.size+2) g (List.replicate e ()) [] []/\Step (h.size+2) p g/\dH d 1 (.ptr h.size 0 0 0)/\dH d 2 (.ptr (h.size+1) 0 0 0)/\dH d 3 (.ptr (h.size+2) 0 0 0)/\dH d 4 (dE e)) ?_ ?_ dz ⟨⟨_,_,_,_,a7⟩,Step.refl N,dA⟩
 ·rintro e d g G D ⟨⟨ver,r,s,z,b⟩,c,i,k,l,m⟩;have o:=b.get;simp at o;obtain⟨q,u,n,y⟩:=(b.gr 0 rfl).nd (cx:=cx) (f:=yq) b.ok Kk rfl Gm rfl dA (λ_=>rfl) () dB;obtain⟨v,S,B⟩:=b.app 0 rfl y;obtain⟨C,A⟩:=B _ rfl;simp only[<-List.replicate_succ']at A;simp[-List.map_replicate]at v C A;simp only[yq]at n;simp[i,k,l,m,G,(I.step c).get,o,n,v,dZ,y.1.il,y.1.cells,D];exact⟨⟨_,_,_,_,A⟩,c.trans C⟩
 rintro d g ⟨⟨ver,r,s,z,b⟩,c,i,k,l,m⟩;simp[i,m,(I.step c).get];refine fy w.eg.length dz (λe d g=>Sz8 (h.size+2) g (List.replicate w.em.length ()) (List.replicate e false) []/\Step (h.size+2) p g/\dH d 1 (.ptr h.size 0 0 0)/\dH d 2 (.ptr (h.size+1) 0 0 0)/\dH d 3 (.ptr (h.size+2) 0 0 0)/\dH d 5 (dE e)) ?_ ?_ dz ⟨⟨_,_,_,_,b⟩,c,by simp[i,k,l]⟩
 ·clear b c i k l m;rintro e d g G D ⟨⟨ver,r,s,z,b⟩,c,i,k,l,m⟩;have o:=b.get;simp at o;obtain⟨q,u,n,y⟩:=(b.gr 2 rfl).nd (cx:=cx) (f:=T.bool) b.ok Gl rfl Qn rfl dA dA false dB;obtain⟨v,S,B⟩:=b.app 2 rfl y;obtain⟨C,A⟩:=B _ rfl;simp only[<-List.replicate_succ']at A;simp[-List.map_replicate]at v C A;simp[i,k,l,m,G,(I.step c).get,o,n,v,dZ,y.1.il,y.1.cells,D];exact⟨⟨_,_,_,_,A⟩,c.trans C⟩
 clear b c i k l m;rintro d g ⟨⟨ver,r,s,z,b⟩,c,i,k,l,m⟩;simp[i,m,(I.step c).get];refine fy w.dK.length dz (λe d g=>Sz8 (h.size+2) g (List.replicate w.em.length ()) (List.replicate w.eg.length false) (zp e)/\Step (h.size+2) p g/\dH d 1 (.ptr h.size 0 0 0)/\dH d 2 (.ptr (h.size+1) 0 0 0)/\dH d 3 (.ptr (h.size+2) 0 0 0)/\dH d 6 (dE e)) ?_ ?_ dz ⟨⟨_,_,_,_,b⟩,c,by simp[i,k,l]⟩
 ·clear b c i k l m;rintro e d g G D ⟨⟨ver,r,s,z,b⟩,c,i,k,l,m⟩;have o:=b.get;simp at o;have bu:=c.ok.sz;have bp:(h.size=g.size)=False:=dB;have ae:(h.size+2=g.size)=False:=dB;have an:=(I.step c).get;have al:∀L,∃q u,iO cx ((g.cons (dG 3 L [dN.t ⟨if e=0 then 1 else 0,0,false⟩])).cons (dG 3 0 [dN.t ⟨if e=0 then 1 else 0,0,false⟩])) 34 34 z (.arr (g.size+1) 0 0 1 false)=some (.val q u)/\q.il=true/\q.cells=[q]/\u.get (h.size+2)=some (dG 4 ver [.agg [r,dE (-1),s,z]])/\fc (g.cons (dG 3 L [dN.t ⟨if e=0 then 1 else 0,0,false⟩])) u (h.size+2)=true/\Sz8 (h.size+2) (dY u (h.size+2) (dG 4 (ver+1) [.agg [r,dE (-1),s,q]])) (List.replicate w.em.length ()) (List.replicate w.eg.length false) (zp (e+1))/\Step (h.size+2) p (dY u (h.size+2) (dG 4 (ver+1) [.agg [r,dE (-1),s,q]])):=λL=>by
   have Y:=b.cons (dG 3 L [dN.t ⟨if e=0 then 1 else 0,0,false⟩]);have bk:=Step.cons b.ok b.lt (dG 3 L [dN.t ⟨if e=0 then 1 else 0,0,false⟩]);obtain⟨q,u,n,y⟩:=(Y.gr 3 rfl).nd (cx:=cx) (f:=dN.t) Y.ok C6 rfl BB rfl dA (λ_=>rfl) (⟨if e=0 then 1 else 0,0,false⟩:dN) (by simp[zp];omega);obtain⟨v,S,B⟩:=Y.app 3 rfl y;obtain⟨C,A⟩:=B _ rfl;rw[<-L9]at C A;rw[size_cons]at n;exact⟨q,u,n,y.1.il,y.1.cells,v,S,⟨_,_,_,_,A⟩,(c.trans bk).trans C⟩
  by_cases P:e=0
  ·subst P;obtain⟨q,u,n,v,B,U,V,W,X⟩:=al 2;simp at n V;have av:binop .add (dE 0) (dE 1)=some (dE 1):=by simpa using D
   simp[i,k,l,m,G,an,o,ae,b.ok.low,n,v,B,U,dZ,av];exact⟨W,X⟩
  ·obtain⟨q,u,n,v,B,U,V,W,X⟩:=al 1;simp[P]at n V;simp[i,k,l,m,P,G,an,o,ae,b.ok.low,n,v,B,U,dZ,D];exact⟨W,X⟩
 clear b c i k l m;rintro d g ⟨⟨ver,r,s,z,b⟩,c,i,k,l,m⟩;have o:=b.get;simp at o;have Q:=aX.step c;have R:=Q.get;unfold vq at R;have a8:=b.sq Q (dG 4 1 [.agg [r,dE (-1),s,z]]);have aA:(dY g (h.size+1) (dG 4 1 [.agg [r,dE (-1),s,z]])).get (h.size+1)=_:=(dP R _ _).trans (aq rfl);simp[i,k,l,m,(I.step c).get,o,R,dZ,aA,-List.map_replicate];have bi:Step (h.size+2) h p:=⟨⟨N.hp,N.low,dz⟩,λj E _=>a6 j E,λj E=> .inr (by have:=O j E;omega)⟩;exact⟨r,s,z,rfl,Ny.of a8 (Step.sq b.ok Q _ h (bi.trans c) dz) (λj E=>by
  rcases E with rfl|⟨x,aN,_⟩
  ·omega
  ·have:=H.ew aN;omega) (au _) λ_ _=>rfl⟩
def Ju(a:d8)(b:List T)(c:H):Prop:=b=[a.t]/\ig 0 c/\a.em.length<=1000000/\a.eg.length<=1000000/\a.dK.length<=1000000/\a.cells.length<=1000000
def RA(a:d8)(c d e f g h:T)(b:List Int):List (T×aa (Nat×List T)):=[(c,some (2,(List.replicate a.em.length ()).map yq)),(dE (-1),none),(d,some (1,(List.replicate a.eg.length false).map T.bool)),(e,some (3,(zp a.dK.length).map dN.t)),(f,some (1,b.map (T.int .i64))),(g,some (1,(List.replicate a.eg.length 0).map (T.int .i64))),(h,some (1,(List.replicate a.dK.length 0).map (T.int .i64)))]
def Jj(g:d8)(_:List T)(h:H)(j:T)(i:H):Prop:=∃a b c d e f,j= .agg [a,dE (-1),b,c,d,e,f]/\Ny h i 7 (RA g a b c d e f (g.cells.map ij.jY))
def aan:(jw d8 Ju Jj).Ok Tryz.prog cx 41:=by
 refine jo (tb:=⟨pt [],ht [(73,jw d8 pS8 qS8)]⟩) fa eQ (iR 1048607 [(1,[(1,3),(1,5),(1,7),(1,9),(1,11)])] Tryz.func41) (λ_ _=>1000005) (λp s h ca=>by obtain⟨rfl,_⟩:=ca;simp[Tryz.f41]) ?_;rintro(d:d8) _ h ⟨rfl,cX,hl,E,ht,j⟩ y k;simp at k;have bu:d.eg.length*8<=70368744177664:=dz;have bz:d.dK.length*8<=70368744177664:=dz;simp[Tryz.f41,k];generalize z:((TI.hr h).cons _).cons _=u;have c1:ig 0 u:=by rw[<-z];exact(cX.hr.cons _).cons _
 refine li adV dA d ⟨rfl,c1,hl,E,ht⟩ ?_;rintro _ c ⟨m,n,o,rfl,g,Q,i,bC,an,P⟩;have dk:u.size=h.size+2:=by rw[<-z];simp
 have di:=an.sz;rw[dk]at di;have c9:u.get h.size=some (dG 6 0 [d.t]):=by rw[<-z];simp
 have dd:u.get (h.size+1)=some nD:=by rw[<-z];simp[nD]
 have de:∀a,a<h.size->u.get a=h.get a:=λa j=>by rw[<-z,dV,ao dB,dV,ao dB,gh]
 clear z;have a0:=(P h.size dz).trans c9;have a1:=(P (h.size+1) dz).trans dd;have bk:=fk (P h.size dz);have cL:(h.size=c.size)=False:=dB;have ds:(h.size=c.size+1)=False:=dB;have bs:fc u c (c.size+1+1)=true:=jd (lz _ dz);have L:=λp a aA R (F: [(m,some (2,(List.replicate d.em.length ()).map yq)),(dE (-1),none),(n,some (1,(List.replicate d.eg.length false).map T.bool)),(o,some (3,(zp d.dK.length).map dN.t))][p]? =some (a,some (aA,R)))=>And.intro (i.gr p F).il (i.gr p F).cells;have bN:=L 0 m _ _ rfl;have bS:=L 2 n _ _ rfl;have bT:=L 3 o _ _ rfl;have bn:fc u c c.size=true:=jd (lz _ dz);have bp:fc u c (c.size+1)=true:=jd (lz _ dz);simp[bu,bz,a0,bk,cL,bn,bp,bs];generalize M:dY _ _ _=r;have bi:ig 0 c:=⟨an.hp,an.low,aw _⟩;have Jz:ig 0 r:=by rw[<-M];exact(((bi.cons _).cons _).cons _).put _ _
 have eb:r.size=c.size+3:=by rw[<-M];simp
 have D:∀a,r.get a=if a=c.size+2 then some (dG 7 1 [.agg [m,dE (-1),n,o,dF,.arr c.size 0 0 d.eg.length false,.arr (c.size+1) 0 0 d.dK.length false]])else if a=c.size+1 then some ⟨1,0,0,true,false,List.replicate d.dK.length (dE 0)⟩else if a=c.size then some ⟨1,0,0,true,false,List.replicate d.eg.length (dE 0)⟩else c.get a:=λa=>by
  rw[<-M,mM (((bi.cons _).cons _).cons _).hp dA,dV,dV,dV];simp only[size_cons];by_cases q:a=c.size+2
  ·simp[q]
  ·by_cases B:a=c.size+1<;>by_cases c4:a=c.size<;>simp[q,B,c4]
 clear M;have O:∀a,a<c.size->r.get a=c.get a:=λa q=>by rw[D,ao dz,ao dz,ao dz]
 have N:∀(l:Nat) s,(RA d m n o dF (.arr c.size 0 0 d.eg.length false) (.arr (c.size+1) 0 0 d.dK.length false) [])[l]? =some s->∀a,dS s.1=some a->(l<4/\[(m,some (2,(List.replicate d.em.length ()).map yq)),(dE (-1),none),(n,some (1,(List.replicate d.eg.length false).map T.bool)),(o,some (3,(zp d.dK.length).map dN.t))][l]? =some s/\h.size+2<=a/\a<c.size)\/(l=5/\a=c.size)\/(l=6/\a=c.size+1):=by
  intro l s k a j;have ce:=λ(G: [(m,some (2,(List.replicate d.em.length ()).map yq)),(dE (-1),none),(n,some (1,(List.replicate d.eg.length false).map T.bool)),(o,some (3,(zp d.dK.length).map dN.t))][l]? =some s)=>And.intro G (And.intro (show h.size+2<=a by have:=bC a (i.By (ax G) j);omega) (i.fp a (i.By (ax G) j)));unfold RA at k;rcases l with _|_|_|_|_|_|_|l
  iterate 4 exact .inl ⟨dz,ce k⟩
  ·simp at k;subst k;simp at j
  ·simp at k;subst k;simp at j;exact .inr (.inl ⟨rfl,j.symm⟩)
  ·simp at k;subst k;simp at j;exact .inr (.inr ⟨rfl,j.symm⟩)
  ·simp at k
 have aN:nW r (c.size+2) 7 1 (RA d m n o dF (.arr c.size 0 0 d.eg.length false) (.arr (c.size+1) 0 0 d.dK.length false) []):=by
  refine⟨Jz,by rw[D,aq rfl];rfl,λf E=> ?_,λl J b9 s b k b6 a A B=>b9 ?_⟩
  ·have al:=λp a aA R (F: [(m,some (2,(List.replicate d.em.length ()).map yq)),(dE (-1),none),(n,some (1,(List.replicate d.eg.length false).map T.bool)),(o,some (3,(zp d.dK.length).map dN.t))][p]? =some (a,some (aA,R)))=>(i.gr p F).mono (h':=r) λq cb=>O q (i.fp q (i.By (ax F) cb));unfold RA at E;simp only[cu,dg,or_false]at E;rcases E with rfl|rfl|rfl|rfl|rfl|rfl|rfl
   ·exact⟨al 0 _ _ _ rfl,show(2:Nat)≠7 by decide⟩
   ·show dS _=none;simp
   ·exact⟨al 2 _ _ _ rfl,show(1:Nat)≠7 by decide⟩
   ·exact⟨al 3 _ _ _ rfl,show(3:Nat)≠7 by decide⟩
   ·exact⟨Gr.nil _ _,show(1:Nat)≠7 by decide⟩
   ·exact⟨.inr ⟨c.size,0,0,true,_,dA,by rw[D,ao dz,ao dz,aq rfl],dA⟩,show(1:Nat)≠7 by decide⟩
   ·exact⟨.inr ⟨c.size+1,0,0,true,_,dA,by rw[D,ao dz,aq rfl],dA⟩,show(1:Nat)≠7 by decide⟩
  ·rcases N l s k a A with⟨a7,Y,dm,dn⟩|⟨a7,Y⟩|⟨a7,Y⟩<;>rcases N J b b6 a B with⟨r1,r2,r3,r4⟩|⟨r1,r2⟩|⟨r1,r2⟩<;>try omega
   exact Decidable.byContradiction λe=>i.UW l J e s b Y r2 a A B
 have S:∀a,Fp r (c.size+2) a->h.size+2<=a:=by
  rintro a (rfl|⟨x,I,v,a6,q⟩)
  ·omega
  ·rw[aN.get]at I;simp only[ar]at I;subst I;simp only[fw,aQ,cj,bL,T.cells]at a6;obtain⟨f,b7,rfl⟩:=List.mem_map.1 a6;obtain⟨l,G,b8⟩:=List.mem_iff_getElem.1 b7;rcases N l f (by rw[az G,b8]) a q with⟨_,_,J,_⟩|⟨_,J⟩|⟨_,J⟩<;>omega
 have a8:Lb (c.size+2) r h.size (dG 6 0 [d.t]):=⟨(O _ dz).trans a0,λq=>by have:=S _ q;omega⟩;have cp:Lb (c.size+2) r (h.size+1) nD:=⟨(O _ dz).trans a1,λq=>by have:=S _ q;omega⟩;have c7:Step (c.size+2) h r:=⟨⟨Jz.hp,Jz.low,dz⟩,λa j _=>(O a dz).trans ((P a dz).trans (de a j)),λa j=> .inr (by have:=S a j;omega)⟩;clear D N L bN bS bT bn bp bs bk;refine fy d.cells.length dz (λp y K=>(∃Q a,nW K (c.size+2) 7 Q (RA d m n o a (.arr c.size 0 0 d.eg.length false) (.arr (c.size+1) 0 0 d.dK.length false) ((d.cells.take p).map ij.jY)))/\Step (c.size+2) r K/\dH y 1 (.ptr h.size 0 0 0)/\dH y 2 (.ptr (h.size+1) 0 0 0)/\dH y 3 (.ptr (c.size+2) 0 0 0)/\dH y 4 (dE p)) ?_ ?_ dz ⟨⟨_,_,aN⟩,Step.refl Jz,dA⟩
 ·rintro p y K aX bX ⟨⟨Q,a,i⟩,C,U,V,W,X⟩;have w:=i.get;unfold RA at w;simp at w;obtain⟨ea,h',bB,aE⟩:=(i.gr 4 rfl).nd (cx:=cx) (f:=T.int .i64) i.ok o6 rfl yV rfl dA (λ_=>rfl) d.cells[p].jY dB;obtain⟨A,dv,B⟩:=i.app 4 rfl aE;obtain⟨av,ap⟩:=B _ rfl;unfold RA at A av ap;simp only[aV,cw,db,cP]at A av ap;simp[U,V,W,X,aX,(a8.step C).get,w,bB,A,dZ,aE.1.il,aE.1.cells,bX];exact⟨⟨_,_,by unfold RA;rw[aZ aX,List.map_append];exact ap⟩,C.trans av⟩
 rintro y K ⟨⟨Q,a,i⟩,C,U,V,W,X⟩;rw[aO]at i;have w:=i.get;unfold RA at w;simp at w;have Z:=cp.step C;have ae:=Z.get;unfold nD at ae;have c6:=i.sq Z (dG 7 1 [.agg [m,dE (-1),n,o,a,.arr c.size 0 0 d.eg.length false,.arr (c.size+1) 0 0 d.dK.length false]]);have bH:(dY K (h.size+1) (dG 7 1 [.agg [m,dE (-1),n,o,a,.arr c.size 0 0 d.eg.length false,.arr (c.size+1) 0 0 d.dK.length false]])).get (h.size+1)=_:=(dP ae _ _).trans (aq rfl);simp[U,V,W,X,(a8.step C).get,w,ae,dZ,bH,-List.map_replicate];exact⟨m,n,o,_,_,_,rfl,Ny.of c6 (Step.sq i.ok Z _ h (c7.trans C) dz) (λa j=>by
  rcases j with rfl|⟨x,I,_⟩
  ·omega
  ·have:=H.ew I;omega) (au _) λ_ _=>rfl⟩
end
noncomputable section
open Go Go.TI
noncomputable abbrev gN(a:Func)(b:Nat):qp:=gq cx a b false
noncomputable abbrev gK(a:Func)(b:Nat):qp:=gq cx a b true
def gO{b:aj}{a:Func}{d:Nat}{c:Bool}(e:Tryz.prog.funcs[b]? =some a)(f:xg ⟨a,d,c,none⟩=true:=by kernel_rfl):mp Tryz.prog cx b (gq cx a d c):=aey fa eQ e f
def abl:qp:=λ_ _ a b=>Cc ((.clone 1 1)) a b
def SE:mp Tryz.prog cx 125 abl:=xH (wa (fn:=Tryz.f125) (t:=33) (tb:=4) (te:=Y8) eQ Tryz.func125 dI dI dI dI dI dI dI)
def abk:qp:=λ_ _ a b=>Cc ((.clone 3 24)) a b
def SD:mp Tryz.prog cx 126 abk:=xH (wa (fn:=Tryz.f126) (t:=34) (tb:=4) (te:=AE) eQ Tryz.func126 dI dI dI dI dI dI dI)
def abj:qp:=λ_ _ a b=>Cc (.nZ) a b
def Wx:(Tryz.f237.name== "runtime.NumGoroutine")=false:=dI
def Ww:Tryz.f237.body.isNone=true:=dI
def Wu:Extern.findNext Tryz.f237=none:=dI
def Wv:Extern.find Tryz.f237=some Extern.BytealgIndexByte.indexByte:=dI
def Wt:Dt Tryz.prog cx 237 .nZ:= @FN Tryz.prog cx 237 Tryz.f237 Tryz.func237 Wx Ww Wu Wv
def SC:mp Tryz.prog cx 237 abj:=xH Wt
def qs:Tree qp:=(.node (.node (.node (.node (.node (.node (.node (.node .nil 10 (gN Tryz.f10 40953575029616206113996799) .nil) 12 (gN Tryz.f12 7) .nil) 14 (gN Tryz.f14 127) (.node .nil 20 (gN Tryz.f20 138478519) .nil)) 21 (gN Tryz.f21 9223389645163727807) (.node (.node .nil 22 (gN Tryz.f22 79) .nil) 23 (gN Tryz.f23 2417851783344448572752095) (.node .nil 24 (gN Tryz.f24 7231) .nil))) 25 (gN Tryz.f25 18463641368405213903) (.node (.node (.node (.node .nil 29 (gN Tryz.f29 17179869843) .nil) 41 (gN Tryz.f41 1048607) .nil) 45 (gN Tryz.f45 9223372036871623167) (.node .nil 46 (gN Tryz.f46 4215) .nil)) 47 (gN Tryz.f47 772424076352653274097095092108232752774234854811365887) (.node (.node .nil 48 (gN Tryz.f48 67109327) .nil) 50 (gN Tryz.f50 1238093369775042453301102031) (.node .nil 51 (gN Tryz.f51 4196311) .nil)))) 53 (gN Tryz.f53 137506128175) (.node (.node (.node (.node (.node .nil 55 (gN Tryz.f55 36051629065113551) .nil) 58 (gN Tryz.f58 8796093286397) .nil) 59 (gN Tryz.f59 19808249554385699031857790975) (.node .nil 60 (gN Tryz.f60 8864829278711) .nil)) 66 (gN Tryz.f66 6434029281764525972148499167221040878727244754944919609542655) (.node (.node .nil 67 (gN Tryz.f67 95827739445721067874190659254502973333984266632037375) .nil) 68 (gN Tryz.f68 31) (.node .nil 73 (gN Tryz.f73 9071038046463) .nil))) 74 (gN Tryz.f74 17184194575) (.node (.node (.node (.node .nil 75 (gK Tryz.f75 68723687231) .nil) 76 (gN Tryz.f76 4504699140047487) .nil) 78 (gN Tryz.f78 576460753379335951) (.node .nil 79 (gN Tryz.f79 4605278686335) .nil)) 80 (gK Tryz.f80 30783) (.node (.node .nil 87 (gN Tryz.f87 463) .nil) 88 (gN Tryz.f88 29) (.node .nil 90 (gN Tryz.f90 9224506733391652861) .nil))))) 91 (gN Tryz.f91 4432473883133) (.node (.node (.node (.node (.node (.node .nil 93 (gN Tryz.f93 19342850151455133005856767) .nil) 94 (gN Tryz.f94 316913254556860716756833993695) .nil) 95 (gN Tryz.f95 275) (.node .nil 96 (gN Tryz.f96 11) .nil)) 97 (gN Tryz.f97 8934607822903) (.node (.node .nil 98 (gN Tryz.f98 479) .nil) 103 (gN Tryz.f103 19) (.node .nil 104 (gN Tryz.f104 13215461614728367217751695970865548304603543200842114553566203007) .nil))) 105 (gN Tryz.f105 1099511628339) (.node (.node (.node (.node .nil 106 (gN Tryz.f106 18889470444974887141823) .nil) 107 (gN Tryz.f107 829180818552508142370930303613581122868418894632663968482586879) .nil) 108 (gN Tryz.f108 332312079452150195464880550324504575) (.node .nil 109 (gN Tryz.f109 4330618893) .nil)) 110 (gN Tryz.f110 131635) (.node (.node .nil 111 (gN Tryz.f111 2147484735) .nil) 115 (gN Tryz.f115 348794743007212715313826391199890521722863) (.node .nil 116 (gN Tryz.f116 12259964349774246101165194645239424850975965214878597119) .nil)))) 121 (gN Tryz.f121 35315368591455) (.node (.node (.node (.node (.node .nil 122 (gN Tryz.f122 19) .nil) 123 (gN Tryz.f123 606826398900554784047567) .nil) 124 (gN Tryz.f124 5868843906288553182383292937158044313155908148351) (.node .nil 125 (abl) .nil)) 126 (abk) (.node (.node .nil 131 (gN Tryz.f131 7) .nil) 133 (gN Tryz.f133 19) (.node .nil 135 (gN Tryz.f135 33587517) .nil))) 136 (gN Tryz.f136 4101) (.node (.node (.node (.node .nil 137 (gN Tryz.f137 21853) .nil) 138 (gN Tryz.f138 37396817117309) .nil) 139 (gN Tryz.f139 51) (.node .nil 140 (gN Tryz.f140 40536831200067837) .nil)) 141 (gN Tryz.f141 72128100255664255) (.node (.node .nil 142 (gN Tryz.f142 1242795222330225588904675325) .nil) 143 (gN Tryz.f143 1237940043933112819970491391) (.node .nil 144 (gN Tryz.f144 1053) .nil)))))) 145 (gN Tryz.f145 151115745466229840684019) (.node (.node (.node (.node (.node (.node (.node .nil 147 (gK Tryz.f147 18191) .nil) 148 (gN Tryz.f148 365376106316094180278949616271352870286206697499) .nil) 149 (gN Tryz.f149 10633824283312870803151638865622599647) (.node .nil 151 (gN Tryz.f151 19) .nil)) 152 (gN Tryz.f152 606826398900554784047567) (.node (.node .nil 154 (gK Tryz.f154 1048607) .nil) 157 (gN Tryz.f157 5) (.node .nil 158 (gN Tryz.f158 131613) .nil))) 159 (gN Tryz.f159 5) (.node (.node (.node (.node .nil 160 (gN Tryz.f160 11161304336780981658631819976322344575566047) .nil) 161 (gN Tryz.f161 4362601011) .nil) 162 (gN Tryz.f162 19) (.node .nil 163 (gK Tryz.f163 2097183) .nil)) 164 (gN Tryz.f164 1182933510117985879039) (.node (.node .nil 177 (gN Tryz.f177 19) .nil) 178 (gN Tryz.f178 19) (.node .nil 179 (gN Tryz.f179 5) .nil)))) 180 (gN Tryz.f180 35500589085) (.node (.node (.node (.node (.node .nil 181 (gN Tryz.f181 5) .nil) 182 (gN Tryz.f182 1125908496810045) .nil) 183 (gN Tryz.f183 262565) (.node .nil 184 (gN Tryz.f184 541) .nil)) 185 (gN Tryz.f185 328307) (.node (.node .nil 186 (gN Tryz.f186 1574131) .nil) 187 (gN Tryz.f187 275) (.node .nil 188 (gN Tryz.f188 529021) .nil))) 189 (gN Tryz.f189 1125902054326279) (.node (.node (.node (.node .nil 190 (gN Tryz.f190 32909) .nil) 191 (gN Tryz.f191 262707) .nil) 192 (gN Tryz.f192 262707) (.node .nil 193 (gN Tryz.f193 14474012017383023515249485065460760621927424225494418519668988771800801378299) .nil)) 194 (gN Tryz.f194 36893488147419136123) (.node (.node .nil 198 (gN Tryz.f198 20282409606012871684182924853463) .nil) 199 (gN Tryz.f199 158456325028530997355645763711) (.node .nil 200 (gN Tryz.f200 1037) .nil))))) 201 (gN Tryz.f201 1099578740959) (.node (.node (.node (.node (.node (.node .nil 203 (gN Tryz.f203 1) .nil) 206 (gN Tryz.f206 5) .nil) 207 (gK Tryz.f207 262175) (.node .nil 208 (gK Tryz.f208 9904163146420522906957187071) .nil)) 220 (gN Tryz.f220 19) (.node (.node .nil 221 (gN Tryz.f221 2293) .nil) 222 (gN Tryz.f222 2149585011) (.node .nil 223 (gN Tryz.f223 526461) .nil))) 224 (gN Tryz.f224 8606909437) (.node (.node (.node (.node .nil 225 (gN Tryz.f225 182687706027492332498828539273953093013162958911) .nil) 226 (gN Tryz.f226 70368744310543) .nil) 227 (gN Tryz.f227 83) (.node .nil 228 (gN Tryz.f228 33688639) .nil)) 229 (gN Tryz.f229 4196847) (.node (.node .nil 231 (gN Tryz.f231 1049655) .nil) 237 (abj) (.node .nil 238 (gN Tryz.f238 8211) .nil)))) 242 (gN Tryz.f242 131527) (.node (.node (.node (.node (.node .nil 243 (gN Tryz.f243 563501857374451) .nil) 244 (gN Tryz.f244 2863311549) .nil) 245 (gN Tryz.f245 18483898770635358239) (.node .nil 246 (gN Tryz.f246 7) .nil)) 247 (gN Tryz.f247 99132251962343631) (.node (.node .nil 248 (gN Tryz.f248 8703) .nil) 249 (gN Tryz.f249 8590200303) (.node .nil 254 (gN Tryz.f254 594912002450663878599) .nil))) 256 (gN Tryz.f256 13) (.node (.node (.node (.node .nil 261 (gN Tryz.f261 32819) .nil) 264 (gN Tryz.f264 132109) .nil) 267 (gN Tryz.f267 749019592093908130998168547243562859198691857383367) (.node .nil 272 (gN Tryz.f272 72339071195682803) .nil)) 281 (gN Tryz.f281 8407165) (.node (.node .nil 282 (gN Tryz.f282 2101491) .nil) 284 (gN Tryz.f284 9224502335110254589) (.node .nil 285 (gN Tryz.f285 715827901) .nil)))))))
def Z7:qs.RC λa b=>mp Tryz.prog cx a b:=(.node (.node (.node (.node (.node (.node (.node (.node .nil (gO Tryz.func10) .nil) (gO Tryz.func12) .nil) (gO Tryz.func14) (.node .nil (gO Tryz.func20) .nil)) (gO Tryz.func21) (.node (.node .nil (gO Tryz.func22) .nil) (gO Tryz.func23) (.node .nil (gO Tryz.func24) .nil))) (gO Tryz.func25) (.node (.node (.node (.node .nil (gO Tryz.func29) .nil) (gO Tryz.func41) .nil) (gO Tryz.func45) (.node .nil (gO Tryz.func46) .nil)) (gO Tryz.func47) (.node (.node .nil (gO Tryz.func48) .nil) (gO Tryz.func50) (.node .nil (gO Tryz.func51) .nil)))) (gO Tryz.func53) (.node (.node (.node (.node (.node .nil (gO Tryz.func55) .nil) (gO Tryz.func58) .nil) (gO Tryz.func59) (.node .nil (gO Tryz.func60) .nil)) (gO Tryz.func66) (.node (.node .nil (gO Tryz.func67) .nil) (gO Tryz.func68) (.node .nil (gO Tryz.func73) .nil))) (gO Tryz.func74) (.node (.node (.node (.node .nil (gO Tryz.func75) .nil) (gO Tryz.func76) .nil) (gO Tryz.func78) (.node .nil (gO Tryz.func79) .nil)) (gO Tryz.func80) (.node (.node .nil (gO Tryz.func87) .nil) (gO Tryz.func88) (.node .nil (gO Tryz.func90) .nil))))) (gO Tryz.func91) (.node (.node (.node (.node (.node (.node .nil (gO Tryz.func93) .nil) (gO Tryz.func94) .nil) (gO Tryz.func95) (.node .nil (gO Tryz.func96) .nil)) (gO Tryz.func97) (.node (.node .nil (gO Tryz.func98) .nil) (gO Tryz.func103) (.node .nil (gO Tryz.func104) .nil))) (gO Tryz.func105) (.node (.node (.node (.node .nil (gO Tryz.func106) .nil) (gO Tryz.func107) .nil) (gO Tryz.func108) (.node .nil (gO Tryz.func109) .nil)) (gO Tryz.func110) (.node (.node .nil (gO Tryz.func111) .nil) (gO Tryz.func115) (.node .nil (gO Tryz.func116) .nil)))) (gO Tryz.func121) (.node (.node (.node (.node (.node .nil (gO Tryz.func122) .nil) (gO Tryz.func123) .nil) (gO Tryz.func124) (.node .nil SE .nil)) SD (.node (.node .nil (gO Tryz.func131) .nil) (gO Tryz.func133) (.node .nil (gO Tryz.func135) .nil))) (gO Tryz.func136) (.node (.node (.node (.node .nil (gO Tryz.func137) .nil) (gO Tryz.func138) .nil) (gO Tryz.func139) (.node .nil (gO Tryz.func140) .nil)) (gO Tryz.func141) (.node (.node .nil (gO Tryz.func142) .nil) (gO Tryz.func143) (.node .nil (gO Tryz.func144) .nil)))))) (gO Tryz.func145) (.node (.node (.node (.node (.node (.node (.node .nil (gO Tryz.func147) .nil) (gO Tryz.func148) .nil) (gO Tryz.func149) (.node .nil (gO Tryz.func151) .nil)) (gO Tryz.func152) (.node (.node .nil (gO Tryz.func154) .nil) (gO Tryz.func157) (.node .nil (gO Tryz.func158) .nil))) (gO Tryz.func159) (.node (.node (.node (.node .nil (gO Tryz.func160) .nil) (gO Tryz.func161) .nil) (gO Tryz.func162) (.node .nil (gO Tryz.func163) .nil)) (gO Tryz.func164) (.node (.node .nil (gO Tryz.func177) .nil) (gO Tryz.func178) (.node .nil (gO Tryz.func179) .nil)))) (gO Tryz.func180) (.node (.node (.node (.node (.node .nil (gO Tryz.func181) .nil) (gO Tryz.func182) .nil) (gO Tryz.func183) (.node .nil (gO Tryz.func184) .nil)) (gO Tryz.func185) (.node (.node .nil (gO Tryz.func186) .nil) (gO Tryz.func187) (.node .nil (gO Tryz.func188) .nil))) (gO Tryz.func189) (.node (.node (.node (.node .nil (gO Tryz.func190) .nil) (gO Tryz.func191) .nil) (gO Tryz.func192) (.node .nil (gO Tryz.func193) .nil)) (gO Tryz.func194) (.node (.node .nil (gO Tryz.func198) .nil) (gO Tryz.func199) (.node .nil (gO Tryz.func200) .nil))))) (gO Tryz.func201) (.node (.node (.node (.node (.node (.node .nil (gO Tryz.func203) .nil) (gO Tryz.func206) .nil) (gO Tryz.func207) (.node .nil (gO Tryz.func208) .nil)) (gO Tryz.func220) (.node (.node .nil (gO Tryz.func221) .nil) (gO Tryz.func222) (.node .nil (gO Tryz.func223) .nil))) (gO Tryz.func224) (.node (.node (.node (.node .nil (gO Tryz.func225) .nil) (gO Tryz.func226) .nil) (gO Tryz.func227) (.node .nil (gO Tryz.func228) .nil)) (gO Tryz.func229) (.node (.node .nil (gO Tryz.func231) .nil) SC (.node .nil (gO Tryz.func238) .nil)))) (gO Tryz.func242) (.node (.node (.node (.node (.node .nil (gO Tryz.func243) .nil) (gO Tryz.func244) .nil) (gO Tryz.func245) (.node .nil (gO Tryz.func246) .nil)) (gO Tryz.func247) (.node (.node .nil (gO Tryz.func248) .nil) (gO Tryz.func249) (.node .nil (gO Tryz.func254) .nil))) (gO Tryz.func256) (.node (.node (.node (.node .nil (gO Tryz.func261) .nil) (gO Tryz.func264) .nil) (gO Tryz.func267) (.node .nil (gO Tryz.func272) .nil)) (gO Tryz.func281) (.node (.node .nil (gO Tryz.func282) .nil) (gO Tryz.func284) (.node .nil (gO Tryz.func285) .nil)))))))
def Ji:∀a b,(λa=>qs.find a) a=some b->mp Tryz.prog cx a b:=λa b c=>Z7.find c
end
noncomputable section
open Go Go.TI
attribute [-simp] List.map_take List.map_drop List.map_append fG fg ei Bool.not_or Bool.not_and
attribute [simp] fF fh
def js:d8:=⟨[⟨[120],0,0,false,0⟩,⟨[121],0,0,false,1⟩,⟨[118],0,0,true,0⟩,⟨[113],0,2,false,0⟩,⟨[113],1,2,false,0⟩],[⟨[109],false⟩,⟨[110],false⟩,⟨[114],true⟩],[⟨[99],0⟩],[[102]],[[109,97,105,110],[116,49],[116,50],[116,51]],
 [⟨0,0,1⟩,⟨0,1,2⟩,⟨0,2,3⟩,⟨0,3,4⟩,⟨0,4,5⟩,⟨0,5,6⟩,⟨1,0,11⟩,⟨1,1,12⟩,⟨1,2,13⟩,⟨1,3,14⟩,⟨1,4,15⟩,⟨1,5,16⟩,⟨2,0,21⟩,⟨2,1,22⟩,⟨2,2,23⟩,⟨2,3,24⟩,⟨2,4,25⟩,⟨2,5,26⟩,⟨3,0,31⟩,⟨3,1,32⟩,⟨3,2,33⟩,⟨3,3,34⟩,⟨3,4,35⟩,⟨3,5,36⟩]⟩
def Vf:∀a b,(λa=>(Tree.node .nil 37 (gN Tryz.f37 81788943) .nil).find a) a=some b->mp Tryz.prog cx a b:=λa b c=>(Tree.RC.node .nil (gO Tryz.func37) .nil).find c
def Ml:lr Tryz.prog cx 37 [] js.t:=yw (lZ _ dI) (A1 Vf 10000 _ _ _ _ _ dI)
def Fh:hU:=⟨Unit,λ_=>[],λ_=>True,λ_=>js.t,λ_ _ _=>rfl⟩
def OO:Fh.Ok Tryz.prog cx 37:=λ_ _=>Ml
def LD{a:fJ}(ht:a.p 37=some Fh):rl Tryz.prog cx a 37 []=some js.t:=im ht OO () trivial
def Jc:j3 js=true:=by decide+kernel
def vm(e:Nat)(a:List Int)(c:Nat)(d:H):Prop:=∃f b,d.get c=some (dG 2 f [.agg [sl (a.map (T.int .u8)),dE b]])/\((min e a.length:Nat):Int)<=b
def vm.tp{e:Nat}{a:List Int}{b:Nat}{c:H}(g:vm e a b c):Tp a b c:=by
 obtain⟨h,f,d,i⟩:=g;exact⟨h,f,d,dz⟩
def vm.eq{e:Nat}{b:List Int}{a:Nat}{c d:H}(j:vm e b a c)(h:d.get a=c.get a):vm e b a d:=by
 obtain⟨k,i,g,f⟩:=j;exact⟨k,i,by rw[h];exact g,f⟩
def vm.le{d e:Nat}{a:List Int}{b:Nat}{c:H}(g:vm d a b c)(k:e<=d):vm e a b c:=by
 obtain⟨h,i,f,j⟩:=g;exact⟨h,i,f,dz⟩
structure KD where
 (L:List Int) (b p:Nat) (n:Int)
def Hj(a:KD)(d:List T)(c:H):Prop:=d=[.ptr a.b 0 0 0,dE a.n]/\vm a.p a.L a.b c/\ig 0 c/\1<=a.n/\a.n<=100/\okB a.L
def Mo(a:KD)(g:List T)(e:H)(f:T)(c:H):Prop:=∃d:Nat,f= dE d/\(d:Int)<a.n/\vm (a.p+1) a.L a.b c/\Sm a.b e c
abbrev kH:lf:=jw KD Hj Mo
def R9:kH.Ok Tryz.prog cx 63:=by
 refine jo (tb:=⟨pt [],ht []⟩) fa eQ (iR 262163 [] Tryz.func63) (λ_ _=>5) (λG a h A=>by obtain⟨rfl,_⟩:=A;simp[Tryz.f63]) ?_;rintro⟨b,f,H,g⟩ _ h ⟨rfl,⟨i,d,e,B⟩,r,y,z,s,o⟩ I p;simp only at e B y z s o;simp at p;obtain⟨j,n⟩:=p;simp[Tryz.f63,j,n,e];refine ee (λk=> ?_) (λk=> ?_)
 ·simp at k;simp;exact⟨0,dA,dC,⟨i,d,by rw[fO,gh];exact e,dC⟩,Sm.out (Sm.refl r.hr)⟩
 ·simp at k;have D:IntKind.i64.wrap (d+1)=d+1:=by rw[<-jF];exact jI dz dz
  have E:IntKind.i64.wrap d=d:=by rw[<-jF];exact jI dz dz
  have C:Sm f (hr h) _:=(Sm.refl r.hr).put (x:=(dG 2 i [.agg [sl (b.map (T.int .u8)),dE d]])) (by rw[gh];exact e) (dG 2 (i+1) [.agg [sl (b.map (T.int .u8)),dE (d+1)]]);have m:(dY (hr h) f (dG 2 (i+1) [.agg [sl (b.map (T.int .u8)),dE (d+1)]])).get f=_:=(dP (h:=hr h) (by rw[gh];exact e) _ f).trans (aq rfl);simp[j,e,ou,dZ,D];generalize dY (hr h) f _=F at*
  obtain⟨c,rfl⟩:∃c:Nat,d=c:=⟨d.toNat,dz⟩;have q:c<b.length:=dz;have t:=o b[c] (aC q);have u: -9223372036854775808<=b[c]:=dz;have v:b[c]<9223372036854775808:=dz;have t0:=Int.tmod_nonneg g t.1;have t1:=Int.tmod_lt_of_pos b[c] (show 0<g by omega);simp[j,n,m,uu,E,q,u,v,DD (a:=b[c]) (show¬g=0 by omega)];obtain⟨l,w⟩:∃l:Nat,b[c].tmod g=l:=⟨(b[c].tmod g).toNat,dz⟩;exact⟨l,by rw[w],dC,⟨_,_,by rw[fO];exact m,dC⟩,Sm.out C⟩
structure sY(p:Nat)(L:List Int)(b:Nat)(h h':H):Prop where
 w:Tw L b h h'
 g:vm p L b h'
def sY.refl{d:Nat}{b:List Int}{c:Nat}{a:H}(f:ig 0 a)(e:vm d b c a):sY d b c a a:=⟨Tw.refl f e.tp,e⟩
def sY.le{e f:Nat}{a:List Int}{b:Nat}{c d:H}(h:sY e a b c d)(i:f<=e):sY f a b c d:=⟨h.w,h.g.le i⟩
def sY.cons{e:Nat}{a:List Int}{b:Nat}{c d:H}(w:sY e a b c d)(f:iZ):sY e a b c (d.cons f):=⟨w.w.cons f,w.g.eq (by rw[dV,ao (by have:=w.w.tp.lt;omega)])⟩
def sY.put{h:Nat}{e:List Int}{b:Nat}{a d:H}(i:sY h e b a d){c:Nat}{x:iZ}(f:d.get c=some x)(l:a.size<=c)(k:b<a.size)(j:iZ):sY h e b a (dY d c j):=⟨i.w.put f l k j,i.g.eq (by rw[dP f,ao dz])⟩
def sY.call{h f:Nat}{b:List Int}{a:Nat}{d e c:H}(j:sY h b a d e)(i:Sm a e c)(g:vm f b a c):sY f b a d c:=⟨j.w.call i g.tp,g⟩
def sY.cut{h:Nat}{e:List Int}{c:Nat}{a b:H}(d:sY h e c (TI.hr a) b)(p:ig 0 a)(f:c<a.size){j l:T}{i:T->H->Prop}(m:∃k,jm b a.size j=some k/\cn k=l)
 (o:Sm c a (uR a b)->vm h e c (uR a b)->i l (uR a b)):yh a j b i:=d.w.cut p f m λq _=>o q (d.g.eq (yY d.w.ok.hp d.w.size f))
def PG{tb:fJ}{g:Nat}{e:List Int}{a:Nat}{c:H}(ht:tb.h 63=some kH)(s:vm g e a c)(n:ig 0 c)(m:okB e)(b:Int)(k:1<=b)(l:b<=100):∃(f:Nat) (d:H),hl Tryz.prog cx tb 63 [.ptr a 0 0 0,dE b] c=some (dE f,d)/\(f:Int)<b/\vm (g+1) e a d/\Sm a c d:=by
 have i:Hj ⟨e,a,g,b⟩ [.ptr a 0 0 0,dE b] c:=⟨rfl,s,n,k,l,m⟩;obtain⟨_,d,j,o⟩:=ET ht R9 ⟨_,i⟩;obtain⟨f,rfl,p,q,r⟩:=o _ i;exact⟨f,d,j,p,q,r⟩
end
noncomputable section
open Go Go.TI
def zm(a:dN):Bool:=decide (a.iL=3)||decide (a.iL=4)
def Gw{b a:Type}(e:b->a->Bool)(f:List a->a->Bool)(d:b->a->b):List a->b->List a->Bool
 |_,_,[]=>true
 |pre,g,c::h=>(e g c&&f pre c)&&Gw e f d (pre++[c]) (d g c) h
def Ng{c a:Type}{g:c->a->Bool}{j:List a->a->Bool}{f:c->a->c}:∀(b h:List a) (e:c),Gw g j f h e b=true->qG g f e b=true:=by
 intro b;induction b with
 |nil=>intro _ _ _;rfl
 |cons k b i=>
  intro h e d;simp only[Gw,aB]at d;simp only[qG,aB];exact⟨d.1.1,i _ _ d.2⟩
def Ru(b:List ez)(a:ez):Bool:=vI b a.dT a.mN&&vI b a.dT a.vh
def pQ(a:d8)(b:List ez):Bool:=decide (b.length<=400)&&j3 a&&Gw (qd a) Ru (j9 a) [] (jT a) b
def yZ{b:d8}{c:List ez}(a:pQ b c=true):runs b (jT b) c=true/\b.dK.length<=4/\c.length<=400:=by
 unfold pQ at a;simp only[aB,aK]at a;refine⟨Ng _ _ _ a.2,?_,a.1.1⟩;have d:=a.1.2;unfold j3 sI at d;simp only[aB,aK]at d;omega
structure rg(N:Nat)(s:ej):Prop where
 l:s.fM.em.length<=1000/\s.fM.done.length<=1000/\s.fM.dK.length<=1000/\s.cells.length<=1000/\s.eg.length<=1000/\s.count.length<=1000
 r:∀l∈s.fM.em,l.eJ.length<=N
 a:s.fM.E4
 c:∀c∈s.count,-N<=c/\c<=N
def rg.up{f e:Nat}{g:ej}(b:rg f g)(j:f<=e):rg e g:=⟨b.l,λi d=>by have:=b.r i d;omega,b.a,λh d=>by have:=b.c h d;omega⟩
def Wi{b:Nat}{c:fH}{i:Int}{d:ed->ed}(e:∀a∈c.em,a.eJ.length<=b)(g:∀a∈c.em,(d a).eJ.length<=b+1):∀a∈(c.qv i d).em,a.eJ.length<=b+1:=by
 intro a hl;rcases mem_modify hl with f|⟨j,h,rfl⟩
 ·have:=e a f;omega
 ·exact g j h
def Ns{d:Nat}{j:fH}(k:∀a∈j.em,a.eJ.length<=d)(p:d8)(h m n q:Int):∀a∈(ff p j h m n q).1.em,a.eJ.length<=d+1:=by
 have c:∀a∈j.em,a.eJ.length<=d+1:=λa o=>by have:=k a o;omega
 have l:∀(f:Int) (b:ed->ed),(∀a,(b a).eJ=a.eJ\/(b a).eJ=mf a.eJ h\/(b a).eJ=a.eJ.filter λg=> !decide (g=h))->∀a∈(j.qv f b).em,a.eJ.length<=d+1:=λf b i=>Wi k λa hl=>by
  have r:=k a hl;rcases i a with e|e|e<;>rw[e]
  ·omega
  ·have:=HY a.eJ h;omega
  ·have:=List.length_filter_le (λg=> !decide (g=h)) a.eJ;omega
 exact uW (P:=λg=>∀a∈g.1.em,a.eJ.length<=d+1) c c (λ_ _ _=>c) (λf b i=>⟨l f b i,λ_ _=>l f b i⟩) (λ_=>c) (λ_ _=>c) (λ_=>c)
def LX(a:Nat):rg a ta:=⟨by simp[ta],by simp[ta],by intro b hl;simp[ta]at hl,by simp[ta]⟩
def rg.step{e:Nat}{f:ej}(d:rg e f)(h:d8)(b:ez):rg (e+1) (jO h f b).1:=by
 unfold jO;split
 ·have hl:=yd h f.fM b.dT b.kind b.obj (lq b);obtain⟨l1,l2,l3,l4,l5,l6⟩:=d.l;refine⟨⟨by show(ff ..).1.em.length<=_;omega,by show(ff ..).1.done.length<=_;omega,by show(ff ..).1.dK.length<=_;omega,?_,?_,?_⟩,Ns d.r _ _ _ _ _,ye d.a _ _ _ _ _,λg i=> ?_⟩
  ·unfold j9;simp only;split<;>simp[l4]
  ·unfold j9;simp only;split<;>simp[l5]
  ·unfold j9;simp[l6]
  ·rcases mem_modify (show g∈f.count.modify b.dT.toNat (· +1)from i)with k|⟨m,j,rfl⟩
   ·have:=d.c g k;omega
   ·have:=d.c m j;omega
 ·exact(LX e).up (Nat.le_succ e)
def rg.o9{w:d8}:∀(a:List ez) {b:Nat} {c:ej},rg b c->rg (b+a.length) (o9 w c a):=by
 intro a;induction a with
 |nil=>intro b c d;exact d
 |cons e a f=>
  intro b c d;have:=f (d.step w e);rw[show b+1+a.length=b+(e::a).length by simp;omega]at this;exact this
def uv(a:d8)(d:a.em.length<=1000/\a.eg.length<=1000/\a.dK.length<=1000/\a.cells.length<=1000):rg 0 (jT a):=by
 refine⟨by simp[jT,ly];omega,λe hl=> ?_,sH a,λc b=> ?_⟩
 ·simp[jT,ly]at hl;obtain⟨_,rfl⟩:=hl;simp
 ·simp[jT]at b;omega
end
noncomputable section
open Go Go.TI
attribute [-simp] List.map_take List.map_drop List.map_append fG fg ei Bool.not_or Bool.not_and
attribute [simp] fF fh
def rL:hU:=⟨List ez×Nat×Int×List Int,λa=>[sl (a.1.map ez.t),dE a.2.1,dE a.2.2.1,sl (a.2.2.2.map (T.int .i64))],λa=>a.2.1<=a.1.length/\a.1.length<=1000000/\a.2.2.2.length<=1000000,λa=> .bool (vI (a.1.take a.2.1) a.2.2.1 a.2.2.2),λa c b=>by
 obtain⟨a1,a2,a3,a4⟩:=a;obtain⟨h,i,j,k⟩:=c;simp at b;obtain⟨d,e,f,g⟩:=b;rw[jD (λ_ _=>ez.inj) d,Int.ofNat.inj e,f,jD (λ_ _ b=>by simpa using b) g]⟩
def ScR(d e:Int)(b:List ez)(c f g:Nat)(h:T):Prop:=∃a:Bool,h= .bool a/\AH d e ((b.take c).drop f) g a=AH d e (b.take c) 0 false
def MC:rL.Ok Tryz.prog cx 78:=by
 refine iv (tb:=⟨pt [],ht []⟩) fa eQ (iR 576460753379335951 [] Tryz.func78) (λ_=>1000005) (by simp[rL]) (by simp[rL,Tryz.f78]) ?_;rintro⟨b,l,v,m⟩ ⟨K,hl,M⟩ a A;simp at K hl M;simp[rL]at A|-;obtain⟨f,c,g,d⟩:=A;simp[Tryz.f78];refine fy m.length dz (λj a n=>n=hE/\dH a 0 (sl (b.map ez.t))/\dH a 1 (dE l)/\dH a 2 (dE v)/\dH a 3 (sl (m.map (T.int .i64)))/\dH a 9 (dE j)/\(m.take j).all (λE=>AH v E (b.take l) 0 false)=true) ?_ ?_ dz (by simp[f,c,g,d])
 ·rintro j a n u G ⟨rfl,f,c,g,d,h,s⟩;simp[d,h,u];refine fy l dz (λe a n=>n=hE/\dH a 0 (sl (b.map ez.t))/\dH a 1 (dE l)/\dH a 2 (dE v)/\dH a 3 (sl (m.map (T.int .i64)))/\dH a 9 (dE j)/\∃(k:Nat) (w:T),dH a 10 (dE k)/\dH a 11 w/\dH a 12 (dE e)/\k<=e/\ScR v m[j] b l e k w) ?_ ?_ dz ⟨rfl,by simp[f],by simp[c],by simp[g],by simp[d],by simp[h],0,.bool false,dA,dA,dA,au _,false,rfl,rfl⟩
  ·rintro e a n H B ⟨rfl,f,c,g,d,h,k,w,y,r,o,I,x,rfl,i⟩;have C:e<b.length:=dz;have z:(b.take l).drop e=b[e]::(b.take l).drop (e+1):=by
    rw[aJ dB];simp
   rw[z,AH]at i;simp[f,c,g,o,H,C];have J:b[e]? =some b[e]:=az C;have L:m[j]? =some m[j]:=az u;generalize b[e]=O at*
   generalize m[j]=E at*
   have F:binop .add (dE (k:Int)) (dE 1)=some (dE ((k+1:Nat):Int)):=by rw[ik dz dz];simp
   refine ee (λp=> ?_) (λp=> ?_)
   ·simp at p;rw[ao p]at i;simp[f,c,g,d,h,y,r,o,B];exact⟨k,rfl,dz,x,rfl,i⟩
   ·simp at p;rw[aq p]at i;simp[f,c,g,d,h,y,r,o,J,L,F,B];exact⟨k+1,dA,dz,_,rfl,i⟩
  ·rintro a n ⟨rfl,f,c,g,d,h,k,w,y,r,o,I,x,rfl,i⟩;have z:(b.take l).drop l=[]:=dA;rw[z,AH]at i;simp[c,r,o];cases x with
   |false=>
    simp;unfold vI;rw[List.all_eq_false];exact⟨m[j],aC u,by rw[<-i];simp⟩
   |true=>
    simp[f,c,g,d,h,G];intro N D;rw[aZ u]at D;rcases List.mem_append.1 D with q|q
    ·exact List.all_eq_true.1 s N q
    ·rw[List.mem_singleton.1 q];exact i.symm
 ·rintro a n ⟨rfl,f,c,g,d,h,s⟩;rw[aO]at s;simp[d,h];unfold vI;rw[s]
def QE{e:fJ}(ht:e.p 78=some rL)(a:List ez)(b:Nat)(d:Int)(c:List Int)(f:b<=a.length)(g:a.length<=1000000)(h:c.length<=1000000):rl Tryz.prog cx e 78 [sl (a.map ez.t),dE b,dE d,sl (c.map (T.int .i64))]=some (.bool (vI (a.take b) d c)):=im ht MC (a,b,d,c) ⟨f,g,h⟩
end
noncomputable section
open Go Go.TI
attribute [-simp] List.map_take List.map_drop List.map_append
def Er:hU:=⟨Int×Nat,λa=>[dE a.1,dE a.2],λa=>True,λa=> .bool (je a.1 a.2),λa c b=>by simp at b;rw[b.1,show a.2=c.2 by omega]⟩
def VZ:Er.Ok Tryz.prog cx 103:=by
 refine iv (tb:=⟨pt [],ht []⟩) fa eQ (iR 19 [] Tryz.func103) (λf=>1) (by simp[Er]) (by simp[Er,Tryz.f103]) ?_;rintro⟨e,g⟩ _ h a;simp[Er]at a|-;obtain⟨b,c⟩:=a;by_cases d:0<=e<;>simp[Tryz.f103,b,c,d,je]
def QN{c:fJ}(ht:c.p 103=some Er)(a:Int)(b:Nat):rl Tryz.prog cx c 103 [dE a,dE b]=some (.bool (je a b)):=im ht VZ (a,b) trivial
def uC:hU:=⟨d8×ej,λa=>[a.1.t,a.2.t],λa=>a.1.gW.length<=1099511627776,λa=> .bool (nJ a.1 a.2),λa c b=>by simp at b;rw[d8.inj b.1,ej.inj b.2]⟩
def Pj:uC.Ok Tryz.prog cx 68:=by
 refine iv (tb:=⟨pt [(111,qS)],ht []⟩) fa eQ (iR 31 [] Tryz.func68) (λi=>1) (by simp[uC]) (by simp[uC,Tryz.f68]) ?_;rintro⟨b,a⟩ hl j e;simp[uC]at hl e|-;obtain⟨c,d⟩:=e;cases f:mQ b a.fM with
 |false=>simp[Tryz.f68,c,d,uT,hl,f,nJ]
 |true=>by_cases g:a.cells.length=b.cells.length<;>by_cases h:a.eg.length=b.eg.length<;>simp[Tryz.f68,c,d,uT,hl,f,g,h,nJ,Int.natCast_inj]
def Gy{c:fJ}(ht:c.p 68=some uC)(a:d8)(b:ej)(hl:a.gW.length<=1099511627776):rl Tryz.prog cx c 68 [a.t,b.t]=some (.bool (nJ a b)):=im ht Pj (a,b) hl
def tS:hU:=⟨List Int×Int,λa=>[sl (a.1.map (T.int .i64)),dE a.2],λa=>a.1.length<=1099511627776,λa=> .bool (xO a.2 none a.1),λa c b=>by simp at b;rw[jD dA b.1,b.2]⟩
def MF:tS.Ok Tryz.prog cx 105:=by
 refine iv (tb:=⟨pt [],ht []⟩) fa eQ (iR 1099511628339 [] Tryz.func105) (λt=>t.1.length+1) (by simp[tS]) (by simp[tS,Tryz.f105]) ?_;rintro⟨c,k⟩ hl j p;simp[tS]at hl p|-;obtain⟨d,g⟩:=p;simp[Tryz.f105];refine fy c.length dz (λb j n=>n=hE/\dH j 0 (sl (c.map (T.int .i64)))/\dH j 1 (dE k)/\dH j 5 (dE b)/\xO k (if b=0 then none else c[b-1]?) (c.drop b)=xO k none c) ?_ ?_ dz (by simp[d,g])
 ·rintro b j n i q ⟨rfl,d,g,h,a⟩;rw[aJ i]at a;simp only[xO]at a;by_cases e:c[b]<1
  ·simp[e]at a;simp[d,h,i,e,a]
  ·by_cases f:k<=c[b]
   ·simp[f]at a;simp[d,g,h,i,e,f,a]
   ·by_cases r:b=0
    ·have l:¬0<b:=dz;rw[aq r]at a;simp[e,f]at a;simp[d,g,h,i,q,e,f,l];exact a
    ·have l:0<b:=dz;have o:b-1<c.length:=dz;have s:binop .sub (dE (b:Int)) (dE 1)=some (dE ((b-1:Nat):Int)):=by rw[kF dz dz,show(b:Int)-1=((b-1:Nat):Int)by omega]
     rw[ao r,az o]at a;by_cases m:c[b]<=c[b-1]
     ·simp[e,f,m]at a;simp[d,g,h,i,o,e,f,m,s,a,l]
     ·simp[e,f,m]at a;simp[d,g,h,i,o,q,e,f,m,s,l];exact a
 ·rintro j n ⟨rfl,d,g,h,a⟩;simp[xO]at a;simp[d,h,a]
def QG{c:fJ}(ht:c.p 105=some tS)(a:List Int)(b:Int)(hl:a.length<=1099511627776):rl Tryz.prog cx c 105 [sl (a.map (T.int .i64)),dE b]=some (.bool (xO b none a)):=im ht MF (a,b) hl
def rJ:hU:=⟨ej×ez,λa=>[a.1.t,a.2.t],λa=>a.1.fM.dK.length<=1099511627776/\(a.2.kind=3->je a.2.obj a.1.cells.length=true)/\(a.2.kind=23->je a.2.obj a.1.eg.length=true),λa=> .bool (oc a.1 a.2),λa c b=>by simp at b;rw[ej.inj b.1,ez.inj b.2]⟩
def Mw:rJ.Ok Tryz.prog cx 106:=by
 refine iv (tb:=⟨pt [(153,tQ),(56,Ba)],ht []⟩) fa eQ (iR 18889470444974887141823 [(17,[(1,6)])] Tryz.func106) (λv=>1) (by simp[rJ]) (by simp[rJ,Tryz.f106]) ?_;rintro⟨i,a⟩ hl w j;simp[rJ]at hl j|-;obtain⟨b,c⟩:=j;obtain⟨hl,k,l⟩:=hl;by_cases f:a.kind=3
 ·obtain⟨u,d,g⟩:=iI (k f);simp[Tryz.f106,b,c,f,oc,eK (fq.1 (k f)).1,d,g]
 ·by_cases e:a.kind=23
  ·obtain⟨u,d,g⟩:=iI (l e);simp[Tryz.f106,b,c,e,oc,eK (fq.1 (l e)).1,d,g]
  ·by_cases q:a.kind=5
   ·by_cases d:a.value=0<;>simp[Tryz.f106,b,c,q,oc,d]
   ·by_cases p:a.kind=4
    ·simp[Tryz.f106,b,c,p,oc]
    ·by_cases o:a.kind=22
     ·simp[Tryz.f106,b,c,o,oc]
     ·by_cases h:a.kind=18
      ·have r:=L3 a.obj i.fM.dK 0;by_cases m:iz a.obj i.fM.dK 0=[]
       ·simp[Tryz.f106,b,c,h,oc,Db,hl,m]
       ·by_cases s:0<=a.value<;>by_cases t:a.value<i.fM.dK.length<;>
         simp[Tryz.f106,b,c,h,oc,Db,hl,m,s,t,Nj,aS r hl]
      ·by_cases n:a.kind=19
       ·simp[Tryz.f106,b,c,n,oc,Db,hl]
       ·simp[Tryz.f106,b,c,f,e,q,p,o,h,n,oc]
def QD{c:fJ}(ht:c.p 106=some rJ)(b:ej)(a:ez)(hl:b.fM.dK.length<=1099511627776)(d:a.kind=3->je a.obj b.cells.length=true)(e:a.kind=23->je a.obj b.eg.length=true):rl Tryz.prog cx c 106 [b.t,a.t]=some (.bool (oc b a)):=im ht Mw (b,a) ⟨hl,d,e⟩
end
noncomputable section
open Go Go.TI
def B8(a:List Int)(b:Int):t7 a b=mf a b:=by
 induction a with
 |nil=>rfl
 |cons d a c=>rw[t7,mf,c]
def Cb:∀(b a:List Int),IP a->IP (lY a b):=by
 intro b;induction b with
 |nil=>intro a c;exact c
 |cons e b d=>intro a c;exact d _ (by rw[B8];exact CF c e)
def Ca:∀(c b:List Int) (a:Int),a∈lY b c->a∈b\/a∈c:=by
 intro c;induction c with
 |nil=>intro b a h;exact .inl h
 |cons e c d=>
  intro b a h;rcases d (t7 b e) a h with h|h
  ·rw[B8]at h;rcases CE h with h|h
   ·exact .inl h
   ·exact .inr (by simp[h])
  ·exact .inr (by simp[h])
def LO:∀(a:List Int) (e b:Int),IP a->(∀c∈a,e<=c/\c<b)->a.length<=(b-e).toNat:=by
 intro a;induction a with
 |nil=>intro e b _ _;simp
 |cons c a i=>
  intro e b d f;unfold IP at d;rw[dt]at d;have j:=i (c+1) b d.2 λh g=>⟨by have:=d.1 h g;omega,(f h (by simp[g])).2⟩;have k:=f c dA;simp;omega
def Tn(a:Nat)(b:List Int):Prop:=b.length<=a/\∀c∈b,0<=c/\c<a
def Tn.nil(a:Nat):Tn a []:=⟨aw _,λc b=>by simp at b⟩
def Tn.union{a:Nat}{c d:List Int}(f:Tn a c)(g:Tn a d):Tn a (zo c d):=by
 have e:∀b∈zo c d,0<=b/\b<a:=λb i=>by
  rcases Ca _ _ _ i with h|h
  ·rcases Ca _ _ _ h with h|h
   ·simp at h
   ·exact f.2 b h
  ·exact g.2 b h
 refine⟨?_,e⟩;have:=LO (zo c d) 0 a (Cb _ _ (Cb _ _ List.Pairwise.nil)) e;omega
end
noncomputable section
open Go Go.TI
attribute [-simp] List.map_take List.map_drop List.map_append fG fg ei Bool.not_or Bool.not_and
attribute [simp] fF fh
attribute [-simp] size_cons
abbrev gF(a:List Int):List T:=a.map (T.int .i64)
def ZR(a:List Int):T:=sl (a.map (T.int .i64))
def Tv(e d:Nat)(b c:T)(a:Nat):Prop:=e<=a/\a<d/\dS b≠some a/\dS c≠some a
structure A3(lo hi:Nat)(h:H)(a b:T)(es:List T)(s:eG):Prop where
 ga:Gr h a 1 (gF s.iT)
 gb:Gr h b 1 es
 el:iB (λe l=>oG h 1 e (gF l)/\∀c,dS e=some c->Tv lo hi a b c) es s.j8
 ba:∀c,dS a=some c->lo<=c/\c<hi/\dS b≠some c
 bb:∀c,dS b=some c->lo<=c/\c<hi
def Bn(a:eG)(b c:T):T:= .agg [dE a.pC,b,c,dE a.dO]
structure TSr(h:H)(a b:T)(es:List T)(s:eG):Prop where
 ra:oG h 1 a (gF s.iT)
 rb:oG h 1 b es
 el:iB (λe l=>oG h 1 e (gF l)) es s.j8
 lt:∀e c,(e=a\/e=b\/e∈es)->dS e=some c->c<h.size
structure ICp where
 (s:eG) (a b:T) (es:List T)
def Ou(c:ICp)(e:List T)(d:H):Prop:=e=[Bn c.s c.a c.b]/\TSr d c.a c.b c.es c.s/\ig 0 d/\c.s.iT.length<=1000000/\c.s.j8.length<=1000000/\∀f∈c.s.j8,f.length<=1000000
def Jp(e:ICp)(h:List T)(d:H)(g:T)(a:H):Prop:=∃b c f,g=Bn e.s b c/\A3 d.size a.size a b c f e.s/\Nb d a
structure CpS(s:eG)(a b aN:T)(h h':H)(i:Nat):Prop where
 ex:∃ver c es',nW h' (h.size+1+1+1) 4 ver [(dE s.pC,none),(aN,some (1,gF s.iT)),(c,some (1,es')),(dE s.dO,none)]/\es'.length=i/\
  iB (λe l=>oG h' 1 e (gF l)/\∀k,dS e=some k->h.size+1<k/\k<h'.size/\¬Fp h' (h.size+1+1+1) k) es' (s.j8.take i)
 nb:Nb h h'
 l1:Lb (h.size+1+1+1) h' h.size (dG 4 0 [.agg [dE s.pC,a,b,dE s.dO]])
 l2:Lb (h.size+1+1+1) h' (h.size+1) (dG 4 0 [.agg [dE 0,dF,dF,dE 0]])
 lo:∀c,Fp h' (h.size+1+1+1) c->h.size+1<c
def HD:(jw ICp Ou Jp).Ok Tryz.prog cx 207:=by
 refine jo (tb:=⟨pt [],ht []⟩) fa eQ (iR 262175 [(1,[(1,7),(3,7),(7,9)]),(5,[(1,8)])] Tryz.func207) (λ_ _=>1000005) (λC z h c4=>by obtain⟨rfl,_⟩:=c4;simp[Tryz.f207]) ?_;rintro⟨b,z,l,R⟩ _ h ⟨rfl,v,bu,hr,c7,bp⟩ D L;simp only at v hr c7 bp;simp[Bn]at L;have bz:=bu.hr;have N:∀t a,(t=z\/t=l\/t∈R)->dS t=some a->a<h.size:=v.lt;obtain⟨o,A⟩:∃o:H,o=((TI.hr h).cons (dG 4 0 [.agg [dE b.pC,z,l,dE b.dO]])).cons (dG 4 0 [.agg [dE 0,dF,dF,dE 0]]):=⟨_,rfl⟩;have di:ig 0 o:=by subst A;exact(bz.cons _).cons _
 have bX:o.size=h.size+1+1:=by subst A;rfl
 have bs:Nb (TI.hr h) o:=by subst A;exact((Nb.refl bz).cons _).cons _
 have ca:o.get h.size=some (dG 4 0 [.agg [dE b.pC,z,l,dE b.dO]]):=by subst A;simp
 have cb:o.get (h.size+1)=some (dG 4 0 [.agg [dE 0,dF,dF,dE 0]]):=by subst A;simp
 have dn:oG o 1 z (gF b.iT):=v.ra.mono λa c=>(bs.get a (N z a (.inl rfl) c)).trans (gh h a);obtain⟨b8,m,J,⟨eH,eo,gA⟩,W,r,s⟩:=kQ (cx:=cx) di o6 rfl yV o6 rfl rfl dA dn.jf (by simp[T.cells]) dB;simp[A]at J;have eC:h.low<=h.size:=bu.low;have P:∀l,l<o.size->fc (o.cons (dG 1 0 [])) m l=true:=λl cL=>fk ((r l cL).trans (by rw[dV,ao dz]));have bT:fc (o.cons (dG 1 0 [])) m m.size=true:=jd (lz _ dB);rw[bX]at P;replace P:=P h.size dz;rw[A]at P bT;simp[Tryz.f207,L,J,P,bT];have aN:m.size=h.size+1+1+1:=dz;simp only[aN];generalize a8:T.arr (h.size+1+1) b8 0 b.iT.length false=n;have gN:Gr m n 1 (gF b.iT):=by rw[<-a8];have:=Gr.new gA;rw[bX]at this;simpa using this
 have aX:∀a,dS n=some a->a=h.size+1+1:=λa c=>by rw[<-a8]at c;simp at c;exact c.symm
 have eE:ig 0 m:=s;refine fy b.j8.length dz (λC D g=>CpS b z l n h g C/\dH D 1 (.ptr h.size 0 0 0)/\dH D 2 (.ptr (h.size+1) 0 0 0)/\dH D 3 (.ptr (h.size+1+1+1) 0 0 0)/\dH D 4 (dE C)) ?_ ?_ dz ?_
 ·rintro C D g bn cp ⟨⟨⟨ver,a,E,e,bk,Q⟩,q,l1,l2,M⟩,m,Y,Z,ae⟩;have G:=e.get;simp at G;have ds:∀x,oG (g.cons x) 1 l R:=λx=>v.rb.mono λa c=>by have:=N l a (.inr (.inl rfl)) c;rw[dV,ao (by have:=q.ok.sz;omega)];exact q.get a this
  have al:=v.el.length;have an:=(show oG g 1 l R from v.rb.mono λa c=>q.get a (N l a (.inr (.inl rfl)) c)).len (cx:=cx) g IZ _ rfl;obtain⟨u,hl⟩:∃u,b.j8[C]? =some u:=⟨_,az bn⟩;have cX:=ax hl;obtain⟨t,bi,bC⟩:=v.el.get hl;have dv:oG g 1 t (gF u):=bC.mono λa c=>q.get a (N t a (.inr (.inr (ax bi))) c);obtain⟨p,b6,b7⟩:=(ds (dG 1 0 [])).idx (te:=nH) rfl rfl bi bC.il.2;have dk:ig 0 g:=e.ok;obtain⟨a7,K,J,⟨eI,er,gA⟩,W,r,s⟩:=kQ (cx:=cx) dk ko rfl nc ko rfl rfl dA dv.jf (by simp[T.cells]) (by have:=bp u cX;simp;omega);have ef:Step (h.size+1+1+1) g K:=(Nb.mk ⟨s.hp,s.low,dz⟩ r:Nb g K).step e.lt;have bH:=e.step s λa c=>r a (e.fp a c);obtain⟨eh,eA,a6,aE⟩:=(bH.gr 2 rfl).wh (cx:=cx) s Qk rfl ko rfl dA (x:= .arr g.size a7 0 (gF u).length false) rfl dB;obtain⟨bB,eF,dm⟩:=bH.app 2 rfl aE;obtain⟨O,bN⟩:=dm _ rfl;simp at bB O bN;simp[W]at J a6;have ec:∀a,a<g.size->fc (g.cons (dG 1 0 [])) K a=true:=λa c=>fk ((r a c).trans (by rw[dV,ao dz]));have dd:(h.size=g.size)=False:=by have:=l1.lt;simp;omega
  have eD:(h.size+1+1+1=g.size)=False:=by have:=e.lt;simp;omega
  have eb:=ec _ e.lt;have et:=(r _ e.lt).trans G;simp[m,Y,Z,ae,l1.get,G,an,al,bn,b6,b7,J,W,a6,bB,dd,eb,dZ,aE.1.il,aE.1.cells,cp];have y:=ef.trans O;have eB:=y.ok.sz;have ey:K.size=g.size+1:=W;refine⟨⟨_,eh,E++[.arr g.size a7 0 u.length false],bN,by simp[bk],?_⟩,?_,l1.step y,l2.step y,λa c=> ?_⟩
  ·have c6:b.j8.take (C+1)=b.j8.take C++[u]:=by
    rw[List.take_add_one,hl];rfl
   rw[c6];refine iB.append (Q.imp λt u k=>⟨k.1.mono λd i=> ?_,λd i=> ?_⟩) (.cons ⟨.inr ?_,λd i=> ?_⟩ .nil)
   ·obtain⟨ap,S,I⟩:=k.2 d i;exact y.get d S I
   ·obtain⟨ap,S,I⟩:=k.2 d i;exact⟨ap,dz,λf=>(y.fp d f).elim I λf=>by omega⟩
   ·have B:¬Fp K (h.size+1+1+1) g.size:=λf=>by
     rw[iW (r _ e.lt)]at f;have:=e.fp _ f;omega
    have:=Gr.new ((O.get g.size dz B).trans gA);simpa using this
   ·simp at i;subst i;refine⟨by have:=l2.lt;omega,by have:=O.ok.sz;omega,λf=> ?_⟩;rcases O.fp _ f with f|f
    ·rw[iW (r _ e.lt)]at f;have:=e.fp _ f;omega
    ·omega
  ·refine⟨⟨y.ok.hp,y.ok.low,by have:=q.ok.sz;omega⟩,λa c=> ?_⟩;exact(y.get a (by have:=q.ok.sz;omega) λf=>by have:=M a f;omega).trans (q.get a c)
  ·rcases y.fp a c with f|f
   ·exact M a f
   ·have:=l2.lt;omega
 ·rintro D g ⟨⟨⟨ver,a,E,e,bk,Q⟩,q,l1,l2,M⟩,m,Y,Z,ae⟩;have G:=e.get;simp at G;have al:=v.el.length;have an:=(show oG g 1 l R from v.rb.mono λa c=>q.get a (N l a (.inr (.inl rfl)) c)).len (cx:=cx) g IZ _ rfl;rw[aO]at Q;have ce:∀V,(dY g (h.size+1) V).get (h.size+1)=some V:=λV=>(dP l2.get V _).trans (aq rfl);have U:=e.sq l2 (dG 4 1 [.agg [dE b.pC,n,a,dE b.dO]]);simp[m,Y,Z,ae,l1.get,l2.get,G,an,al,dZ,ce];have bS:=U.step (U.ok.out h) λa _=>fO h _ a;have c1:∀d,h.size+1<d->(dY g (h.size+1) (dG 4 1 [.agg [dE b.pC,n,a,dE b.dO]])).get d=g.get d:=λd i=>by rw[dP l2.get,ao dz]
  have eu:=e.gr 2 rfl;have av:(n,some (1,gF b.iT))∈ [((dE b.pC:T),(none:aa (Nat×List T))),(n,some (1,gF b.iT)),(a,some (1,E)),(dE b.dO,none)]:=dA;have aA:(a,some (1,E))∈ [((dE b.pC:T),(none:aa (Nat×List T))),(n,some (1,gF b.iT)),(a,some (1,E)),(dE b.dO,none)]:=dA;refine⟨n,a,E,rfl,⟨bS.gr 1 rfl,bS.gr 2 rfl,Q.imp λt u k=>⟨k.1.mono λd i=> ?_,λd i=> ?_⟩,λd i=> ?_,λd i=> ?_⟩,⟨⟨(U.ok.out h).hp,(U.ok.out h).low,by simp;exact q.ok.sz⟩,λd i=> ?_⟩⟩
  ·rw[fO];exact c1 d (k.2 d i).1
  ·obtain⟨ap,S,I⟩:=k.2 d i;exact⟨dz,by simpa using S,λk=>I (e.By av k),λk=>I (e.By aA k)⟩
  ·have:=e.fp d (e.By av i);have:=M d (e.By av i);exact⟨dz,by simpa,e.UW 1 2 dD _ _ rfl rfl d i⟩
  ·have:=e.fp d (e.By aA i);have:=M d (e.By aA i);exact⟨dz,by simpa⟩
  ·rw[fO,dP l2.get,ao dz];exact q.get d i
 ·have c9:m.low<=h.size+1+1+1:=by have:=s.low;omega
  have de:Nb h m:=⟨⟨s.hp,s.low,dz⟩,λa c=>(r a dz).trans ((bs.get a c).trans (gh h a))⟩;obtain⟨ea,b9⟩:=nW.one (i0:=1) (h:=m.cons (dG 4 1 [.agg [dE b.pC,n,dF,dE b.dO]])) (w:=h.size+1+1+1) (szw:=4) (ver:=1) (F:=[(dE b.pC,none),(n,some (1,gF b.iT)),(dF,some (1,[])),(dE b.dO,none)]) (s.cons _) (by simp[aN]) (λf B=>by
   simp only[cu,dg,or_false]at B;rcases B with rfl|rfl|rfl|rfl
   ·show dS _=none;simp
   ·exact⟨gN.mono λa c=>by rw[aX a c,dV,ao dz],show(1:Nat)≠4 by decide⟩
   ·exact⟨Gr.nil _ _,dD⟩
   ·show dS _=none;simp) (λj z L k=>by
   rcases j with _|_|_|_|j<;>simp at L<;>subst L<;>simp at k|-)
  have X:∀a,Fp (m.cons (dG 4 1 [.agg [dE b.pC,n,dF,dE b.dO]])) (h.size+1+1+1) a->h.size+1<a:=λa c=>by
   rcases b9 a c with k|⟨f,B,k⟩
   ·omega
   ·simp at B;subst B;have:=aX a k;omega
  simp[aN,c9];refine⟨⟨_,_,[],ea,rfl,.nil⟩,de.cons _,⟨?_,λk=> ?_⟩,⟨?_,λk=> ?_⟩,X⟩
  ·rw[dV,ao dz];exact(r h.size dz).trans ca
  ·have:=X _ k;omega
  ·rw[dV,ao dz];exact(r (h.size+1) dz).trans cb
  ·have:=X _ k;omega
def TL(b c:H)(d:T)(e:List Int):Prop:=oG c 1 d (gF e)/\Nb b c/\∀a,dS d=some a->b.size<=a
structure IUn where
 (x y:List Int) (u v:T)
def Oj(a:IUn)(c:List T)(b:H):Prop:=c=[a.u,a.v]/\oG b 1 a.u (gF a.x)/\oG b 1 a.v (gF a.y)/\a.x.length+a.y.length<=10000000/\ig 0 b
def Jl(a:IUn)(e:List T)(b:H)(d:T)(c:H):Prop:=TL b c d (zo a.x a.y)
def Pl(b:T)(a:List Int):Prop:=(b= dF/\a=[])\/b=sl (gF a)
def Pl.qJ{a:T}{b:List Int}(d:Pl a b)(c:H):qJ c a=some (sl (gF b))/\jW a=true/\a.il=true:=by
 rcases d with⟨rfl,rfl⟩|rfl<;>simp
def Pl.rd{a:T}{b:List Int}(d:Pl a b)(c:H):oG c 1 a (gF b)/\dS a=none:=by
 rcases d with⟨rfl,rfl⟩|rfl
 ·exact⟨.inr (Gr.nil _ _),rfl⟩
 ·exact⟨.inl rfl,dA⟩
def Ho:(jw IUn Oj Jl).Ok Tryz.prog cx 155:=by
 refine jo (tb:=⟨pt [(202,He)],ht []⟩) fa eQ (iR 8390899 [] Tryz.func155) (λ_ _=>10000005) (λi N b K=>by obtain⟨rfl,_⟩:=K;simp[Tryz.f155]) ?_;rintro⟨x,g,H,A⟩ _ b ⟨rfl,D,F,hl,L⟩ c B;simp only at D F hl;simp at B;obtain⟨k,d⟩:=B;have E:oG (hr b) 1 H (gF x):=D.mono λl _=>gh b l;have G:oG (hr b) 1 A (gF g):=F.mono λl _=>gh b l;have y:=E.len (cx:=cx) (hr b) nH _ rfl;have z:=G.len (cx:=cx) (hr b) nH _ rfl;rw[aG]at y z;simp[Tryz.f155];refine fy x.length dz (λa c s=>s=hr b/\dH c 0 H/\dH c 1 A/\dH c 6 (dE a)/\∃f,dH c 5 f/\Pl f (lY [] (x.take a))) ?_ ?_ dz (by simp[k,d];exact .inl ⟨rfl,rfl⟩)
 ·rintro a c _ j v ⟨rfl,k,d,t,f,h,e⟩;obtain⟨M,m,n⟩:=E.idx (te:=Dw) rfl rfl (i:=a) (x:= dE x[a]) (by simp[j]) rfl;have w:=xI [] (x.take a);simp at w;obtain⟨q,r,I⟩:=e.qJ (hr b);have o:=λ{tb:fJ} (ht:tb.p 202=some He)=>abI ht (lY [] (x.take a)) x[a] dz;simp[k,d,h,t,y,j,v,m,n,q,r,o,AM [] x j];exact .inr rfl
 ·rintro c _ ⟨rfl,k,d,t,f,h,e⟩;rw[aO]at e;simp[k,t,y];refine fy g.length dz (λa c s=>s=hr b/\dH c 1 A/\dH c 7 (dE a)/\∃f,dH c 5 f/\Pl f (lY (lY [] x) (g.take a))) ?_ ?_ dz (by simp[d,h];exact e)
  ·rintro a c _ j v ⟨rfl,d,u,f,h,e⟩;obtain⟨M,m,n⟩:=G.idx (te:=Dw) rfl rfl (i:=a) (x:= dE g[a]) (by simp[j]) rfl;have w:=xI (lY [] x) (g.take a);have J:=xI [] x;simp at w J;obtain⟨q,r,I⟩:=e.qJ (hr b);have o:=λ{tb:fJ} (ht:tb.p 202=some He)=>abI ht (lY (lY [] x) (g.take a)) g[a] dz;simp[d,h,u,z,j,v,m,n,q,r,o,AM (lY [] x) g j];exact .inr rfl
  ·rintro c _ ⟨rfl,d,u,f,h,e⟩;rw[aO]at e;simp[d,h,u,z];obtain⟨r1,r2⟩:=e.rd (lO b (hr b));exact⟨r1,(Nb.refl L.hr).out,λl C=>by rw[r2]at C;simp at C⟩
def Lk(f:H)(d:Nat->Prop)(e:T)(c:ed):Prop:=∃a,e= .agg [dE c.iX,a]/\oG f 1 a (gF c.eJ)/\∀b,dS a=some b->d b
structure Bk(lo hi:Nat)(h:H)(c0 c2 c3:T)(es:List T)(S:fH):Prop where
 g0:Gr h c0 2 es
 g2:Gr h c2 1 (S.done.map T.bool)
 g3:Gr h c3 3 (S.dK.map dN.t)
 el:iB (Lk h λc=>lo<=c/\c<hi/\dS c0≠some c/\dS c2≠some c/\dS c3≠some c) es S.em
 b:∀c,(dS c0=some c\/dS c2=some c\/dS c3=some c)->lo<=c/\c<hi
def NR(a:fH)(b c d:T):T:= .agg [b,dE a.tx,c,d]
def Es(a:fH)(b:List T)(c:H):Prop:=b=[a.t]/\ig 0 c/\a.em.length<=1000000/\a.done.length<=1000000/\a.dK.length<=1000000/\∀d∈a.em,d.eJ.length<=1000000
def Jq(b:fH)(i:List T)(f:H)(h:T)(a:H):Prop:=∃c d e g,h=NR b c d e/\Bk f.size a.size a c d e g b/\Nb f a
structure C8(S:fH)(c2 c3:T)(h h':H)(i:Nat):Prop where
 ex:∃ver c0 es,nW h' (h.size+1+1+1+1) 4 ver [(c0,some (2,es)),(dE S.tx,none),(c2,some (1,S.done.map T.bool)),(c3,some (3,S.dK.map dN.t))]/\es.length=i/\
  iB (Lk h' λk=>h.size+1<k/\k<h'.size/\¬Fp h' (h.size+1+1+1+1) k) es (S.em.take i)
 nb:Nb h h'
 l1:Lb (h.size+1+1+1+1) h' h.size (dG 4 0 [S.t])
 l2:Lb (h.size+1+1+1+1) h' (h.size+1) (dG 4 0 [.agg [dF,dE 0,dF,dF]])
 lo:∀c,Fp h' (h.size+1+1+1+1) c->h.size+1<c
def HC:(jw fH Es Jq).Ok Tryz.prog cx 154:=by
 refine jo (tb:=⟨pt [],ht []⟩) fa eQ (iR 1048607 [(1,[(1,5),(5,6),(5,8),(1,9),(5,11),(9,11)]),(5,[(1,15),(3,15),(5,15),(7,15)])] Tryz.func154) (λ_ _=>1000005) (λz I b eb=>by obtain⟨rfl,_⟩:=eb;simp[Tryz.f154]) ?_;rintro c _ b ⟨rfl,et,hl,eR,ht,hr⟩ G D;simp at D;have bs:=et.hr;obtain⟨p,C⟩:∃p:H,p=((TI.hr b).cons (dG 4 0 [c.t])).cons (dG 4 0 [.agg [dF,dE 0,dF,dF]]):=⟨_,rfl⟩;have eu:ig 0 p:=by subst C;exact(bs.cons _).cons _
 have eI:p.size=b.size+1+1:=by subst C;rfl
 have er:Nb b p:=by subst C;exact⟨(((Nb.refl bs).cons _).cons _).ok,λa h=>((((Nb.refl bs).cons _).cons _).get a h).trans (gh b a)⟩
 have b7:p.get b.size=some (dG 4 0 [c.t]):=by subst C;simp
 have di:p.get (b.size+1)=some (dG 4 0 [.agg [dF,dE 0,dF,dF]]):=by subst C;simp
 obtain⟨a7,o,J,⟨e0,eL,gA⟩,aN,m,P⟩:=kQ (cx:=cx) eu (x:=sl (c.done.map T.bool)) (xs:=c.done.map T.bool) Gl rfl Qn Gl rfl rfl dA dA (λe ds=>by obtain⟨n,_,rfl⟩:=List.mem_map.1 ds;rfl) dB;obtain⟨L,k,K,⟨eE,de,b8⟩,e4,O,okB⟩:=kQ (cx:=cx) P (x:=sl (c.dK.map dN.t)) (xs:=c.dK.map dN.t) C6 rfl BB C6 rfl rfl dA dA dA dB;have bT:o.size=b.size+1+1+1:=dz;have X:k.size=b.size+1+1+1+1:=dz;have V:∀n,n<p.size->fc (p.cons (dG 1 0 [])) o n=true:=λn S=>fk ((m n S).trans (by rw[dV,ao dz]));have cX:∀n,n<o.size->fc (o.cons (dG 3 0 [])) k n=true:=λn S=>fk ((O n S).trans (by rw[dV,ao dz]));have bB:=V b.size dz;have c1:=cX b.size dz;have bH:fc (p.cons (dG 1 0 [])) o (b.size+1+1+1+1)=true:=jd (lz _ dB);have c4:fc (o.cons (dG 3 0 [])) k (b.size+1+1+1+1)=true:=jd (lz _ dB);have bC:fc (p.cons (dG 1 0 [])) o (b.size+1+1+1)=true:=jd (lz _ dB);have bi:=(m b.size dz).trans b7;have dm:=(O b.size dz).trans bi;simp[C]at J;simp[bT]at K;rw[C]at bB bC bH;simp[Tryz.f154,D,J,K,bB,bC,c1,bH,c4,bi,bT,X];have c9:=(show Gr k (.arr (b.size+1+1) a7 0 c.done.length false) 1 (c.done.map T.bool)by
  have:=Gr.new ((O p.size dz).trans gA);rw[eI]at this;simpa using this)
 have dd:=(show Gr k (.arr (b.size+1+1+1) L 0 c.dK.length false) 3 (c.dK.map dN.t)by
  have:=Gr.new b8;rw[bT]at this;simpa using this)
 have eo:Nb b k:=⟨⟨okB.hp,okB.low,dz⟩,λa h=>(O a dz).trans ((m a dz).trans (er.get a h))⟩;have eF:=(O b.size dz).trans ((m b.size dz).trans b7);have eH:=(O (b.size+1) dz).trans ((m (b.size+1) dz).trans di);have ef:k.low<=b.size+1+1+1+1:=by have:=okB.low;omega
 have bX:∀a,dS (.arr (b.size+1+1) a7 0 c.done.length false)=some a->a=b.size+1+1:=λa q=>by simpa using q.symm
 have b6:∀a,dS (.arr (b.size+1+1+1) L 0 c.dK.length false)=some a->a=b.size+1+1+1:=λa q=>by simpa using q.symm
 clear J K V cX bB bC bH c1 c4 bi dm gA b8;generalize T.arr (b.size+1+1) a7 0 c.done.length false=r at*
 generalize T.arr (b.size+1+1+1) L 0 c.dK.length false=s at*
 refine fy c.em.length dz (λz G i=>C8 c r s b i z/\dH G 1 (.ptr b.size 0 0 0)/\dH G 2 (.ptr (b.size+1) 0 0 0)/\dH G 3 (.ptr (b.size+1+1+1+1) 0 0 0)/\dH G 4 (dE z)) ?_ ?_ dz ?_
 ·rintro z G i an dn ⟨⟨⟨eD,A,B,d,b9,Y⟩,N,l1,l2,av⟩,o,k,Z,ae⟩;have M:=d.get;simp at M;obtain⟨l,al⟩:∃l,c.em[z]? =some l:=⟨_,az an⟩;have eU:=hr l (ax al);obtain⟨L,R,J,⟨eE,de,gA⟩,aN,m,P⟩:=kQ (cx:=cx) d.ok (x:=sl (gF l.eJ)) (xs:=gF l.eJ) ko rfl nc ko rfl rfl dA dA (by simp[T.cells]) dB;have eB:Step (b.size+1+1+1+1) i R:=(Nb.mk ⟨P.hp,P.low,dz⟩ m:Nb i R).step d.lt;have c6:=d.step P λa h=>m a (d.fp a h);obtain⟨eC,eP,K,bS⟩:=(c6.gr 0 rfl).wh (cx:=cx) P Kk rfl Gm rfl dA (x:= .agg [dE l.iX,.arr i.size L 0 (gF l.eJ).length false]) rfl dB;obtain⟨aA,eX,bu⟩:=c6.app 0 rfl bS;obtain⟨W,c7⟩:=bu _ rfl;simp at aA W c7;simp[aN]at J K;have V:∀a,a<i.size->fc (i.cons (dG 1 0 [])) R a=true:=λa h=>fk ((m a h).trans (by rw[dV,ao dz]));have eh:(b.size=i.size)=False:=by have:=l1.lt;simp;omega
  have eW:(b.size+1+1+1+1=i.size)=False:=by have:=d.lt;simp;omega
  have ey:=V _ d.lt;have eA:=V _ l1.lt;have eN:=(m _ d.lt).trans M;have eM:=(m _ l1.lt).trans l1.get;simp[o,Z,ae,l1.get,M,an];have ea:c.em[z]=l:=by rw[az an]at al;simpa using al
  simp[o,k,Z,ae,an,ea,J,aN,K,aA,eh,ey,eA,dZ,bS.1.il,bS.1.cells,dn];have w:=eB.trans W;have eV:=w.ok.sz;have eO:R.size=i.size+1:=aN;refine⟨⟨_,eC,B++[.agg [dE l.iX,.arr i.size L 0 l.eJ.length false]],c7,by simp[b9],?_⟩,?_,l1.step w,l2.step w,λa h=> ?_⟩
  ·have ec:c.em.take (z+1)=c.em.take z++[l]:=by
    rw[List.take_add_one,al];rfl
   rw[ec];refine iB.append (Y.imp λe l ⟨bz,aX,a6,Q⟩=>⟨bz,aX,a6.mono λg j=> ?_,λg j=> ?_⟩) (.cons ⟨_,rfl,.inr ?_,λg j=> ?_⟩ .nil)
   ·obtain⟨bn,ap,F⟩:=Q g j;exact w.get g ap F
   ·obtain⟨bn,ap,F⟩:=Q g j;exact⟨bn,dz,λf=>(w.fp g f).elim F λf=>by omega⟩
   ·have E:¬Fp R (b.size+1+1+1+1) i.size:=λf=>by
     rw[iW (m _ d.lt)]at f;have:=d.fp _ f;omega
    have:=Gr.new ((W.get i.size dz E).trans gA);simpa using this
   ·simp at j;subst j;refine⟨by have:=l2.lt;omega,by have:=W.ok.sz;omega,λf=> ?_⟩;rcases W.fp _ f with f|f
    ·rw[iW (m _ d.lt)]at f;have:=d.fp _ f;omega
    ·omega
  ·refine⟨⟨w.ok.hp,w.ok.low,by have:=N.ok.sz;omega⟩,λa h=> ?_⟩;exact(w.get a (by have:=N.ok.sz;omega) λf=>by have:=av a f;omega).trans (N.get a h)
  ·rcases w.fp a h with f|f
   ·exact av a f
   ·have:=l2.lt;omega
 ·rintro G i ⟨⟨⟨eD,A,B,d,b9,Y⟩,N,l1,l2,av⟩,o,k,Z,ae⟩;have M:=d.get;simp at M;rw[aO]at Y;have dk:∀y,(dY i (b.size+1) y).get (b.size+1)=some y:=λy=>(dP l2.get y _).trans (aq rfl);have aE:=d.sq l2 (dG 4 1 [.agg [A,dE c.tx,r,s]]);simp[o,k,Z,ae,l1.get,l2.get,M,dZ,dk];have bN:=aE.step (aE.ok.out b) λa _=>fO b _ a;have cb:(A,some (2,B))∈ [(A,some (2,B)),((dE c.tx:T),(none:aa (Nat×List T))),(r,some (1,c.done.map T.bool)),(s,some (3,c.dK.map dN.t))]:=dA;have ce:(r,some (1,c.done.map T.bool))∈ [(A,some (2,B)),((dE c.tx:T),(none:aa (Nat×List T))),(r,some (1,c.done.map T.bool)),(s,some (3,c.dK.map dN.t))]:=dA;have cp:(s,some (3,c.dK.map dN.t))∈ [(A,some (2,B)),((dE c.tx:T),(none:aa (Nat×List T))),(r,some (1,c.done.map T.bool)),(s,some (3,c.dK.map dN.t))]:=dA;refine⟨A,r,s,B,rfl,⟨bN.gr 0 rfl,bN.gr 2 rfl,bN.gr 3 rfl,Y.imp λe l ⟨bz,aX,a6,Q⟩=>⟨bz,aX,a6.mono λg j=> ?_,λg j=> ?_⟩,λg j=> ?_⟩,⟨⟨(aE.ok.out b).hp,(aE.ok.out b).low,by simp;exact N.ok.sz⟩,λg j=> ?_⟩⟩
  ·rw[fO,dP l2.get,ao (by have:=(Q g j).1;omega)]
  ·obtain⟨bn,ap,F⟩:=Q g j;exact⟨dz,by simpa using ap,λq=>F (d.By cb q),λq=>F (d.By ce q),λq=>F (d.By cp q)⟩
  ·have E:Fp i (b.size+1+1+1+1) g:=by
    rcases j with q|q|q
    ·exact d.By cb q
    ·exact d.By ce q
    ·exact d.By cp q
   have:=d.fp g E;have:=av g E;exact⟨dz,by simpa⟩
  ·rw[fO,dP l2.get,ao dz];exact N.get g j
 ·have bp:∀(u:Nat) (I:T×aa (Nat×List T)) a,[(T.dM [] false,some (2,[])),((dE c.tx:T),(none:aa (Nat×List T))),(r,some (1,c.done.map T.bool)),(s,some (3,c.dK.map dN.t))][u]? =some I->dS I.1=some a->a=b.size+u:=λu I a D q=>by
   rcases u with _|_|_|_|u<;>simp at D<;>subst D
   ·simp at q
   ·simp at q
   ·have:=bX a q;omega
   ·have:=b6 a q;omega
  have cL:nW (k.cons (dG 4 1 [.agg [dF,dE c.tx,r,s]])) (b.size+1+1+1+1) 4 1 [(T.dM [] false,some (2,[])),(dE c.tx,none),(r,some (1,c.done.map T.bool)),(s,some (3,c.dK.map dN.t))]:=by
   refine⟨okB.cons _,by simp[X],λf E=> ?_,λu g eS I n D S a aA bu=> ?_⟩
   ·simp only[cu,dg,or_false]at E;rcases E with rfl|rfl|rfl|rfl
    ·exact⟨Gr.nil _ _,show(2:Nat)≠4 by decide⟩
    ·show dS _=none;simp
    ·exact⟨c9.mono λa h=>by have:=bX a h;rw[dV,ao (by rw[X];omega)],show(1:Nat)≠4 by decide⟩
    ·exact⟨dd.mono λa h=>by have:=b6 a h;rw[dV,ao (by rw[X];omega)],show(3:Nat)≠4 by decide⟩
   ·have:=bp u I a D aA;have:=bp g n a S bu;omega
  have a8:∀a,Fp (k.cons (dG 4 1 [.agg [dF,dE c.tx,r,s]])) (b.size+1+1+1+1) a->b.size+1<a:=λa h=>by
   rcases h with q|⟨x,bk,v,ca,q⟩
   ·omega
   ·rw[cL.get]at bk;simp only[ar]at bk;subst bk;simp only[fw,aQ,cj,bL,T.cells]at ca;obtain⟨f,dv,rfl⟩:=List.mem_map.1 ca;obtain⟨u,U⟩:=cT dv;have j:=bp u f a U q;rcases u with _|_|u
    ·simp at U;subst U;simp at q
    ·simp at U;subst U;simp at q
    ·omega
  simp[X,ef];refine⟨⟨_,_,[],cL,rfl,.nil⟩,eo.cons _,⟨?_,λq=> ?_⟩,⟨?_,λq=> ?_⟩,a8⟩
  ·rw[dV,ao dz];exact eF
  ·have:=a8 _ q;omega
  ·rw[dV,ao dz];exact eH
  ·have:=a8 _ q;omega
structure Ac(h0 h':H)(v:T)(l:List Int):Prop where
 nb:Nb h0 h'
 g:Gr h' v 1 (gF l)
 lo:∀c,dS v=some c->h0.size<=c
def Ac.start{a:H}(b:ig 0 a):Ac a a dF []:=⟨Nb.refl b,Gr.nil _ _,λd c=>by simp at c⟩
def Ac.nd{m h:H}{n:T}{j:List Int}(a:Ac m h n j)(l:Int)(s:j.length<=10000000):∃d c,iO cx (h.cons (dG 1 0 [dE l])) 38 38 n (.arr h.size 0 0 1 false)=some (.val d c)/\Ac m c d (j++[l]):=by
 obtain⟨d,c,e,o,p,r,k⟩:=a.g.nd (cx:=cx) (f:=T.int .i64) ⟨a.nb.ok.hp,a.nb.ok.low,aw _⟩ ko rfl nc rfl dA (λ_=>rfl) l dB;have:=a.nb.ok.sz;refine⟨d,c,e,⟨⟨k.hp,k.low,aS a.nb.ok.sz k.sz⟩,λb i=>(p b dz λq=>by have:=a.lo b q;omega).trans (a.nb.get b i)⟩,o,λb i=> ?_⟩;rcases r b i with q|q
 ·exact a.lo b q
 ·omega
def Ac.HI{a c:H}{l:T}{i:List Int}{h:H}(e:Ac h c l i)(j:Nb a h):TL a (lO a c) l i:=by
 have d:=j.trans e.nb;have k:ig 0 c:=⟨d.ok.hp,d.ok.low,aw _⟩;have:=j.ok.sz;exact⟨.inr (e.g.out a),⟨⟨(k.out a).hp,(k.out a).low,d.ok.sz⟩,λb f=>(fO a c b).trans (d.get b f)⟩,λb f=>by have:=e.lo b f;omega⟩
structure IWt where
 (S:fH) (c0 c2 c3:T) (c:Int)
def Up(a:IWt)(d:List T)(b:H):Prop:=d=[NR a.S a.c0 a.c2 a.c3,dE a.c]/\Gr b a.c3 3 (a.S.dK.map dN.t)/\a.S.dK.length<=1000000/\ig 0 b
def Ov(a:IWt)(f:List T)(b:H)(e:T)(d:H):Prop:=TL b d e (iz a.c a.S.dK 0)
def IW(c:Int)(b:List dN)(a:Nat)(d:a<b.length):iz c (b.drop a) a=if b[a].iL=3/\b[a].cond=c then(a:Int)::iz c (b.drop (a+1)) (a+1)else iz c (b.drop (a+1)) (a+1):=by
 rw[aJ d,iz]
def Cj:(jw IWt Up Ov).Ok Tryz.prog cx 153:=by
 refine jo (tb:=⟨pt [],ht []⟩) fa eQ (iR 1073743991 [] Tryz.func153) (λ_ _=>1000005) (λi d a P=>by obtain⟨rfl,_⟩:=P;simp[Tryz.f153]) ?_;rintro⟨b,k,l,c,j⟩ _ a ⟨rfl,o,hl,z⟩ m D;simp only at o hl;simp[NR]at D;obtain⟨L,f⟩:=D;have R:=z.hr.cons (dG 4 0 [.agg [k,dE b.tx,l,c]]);have K:Gr ((hr a).cons (dG 4 0 [.agg [k,dE b.tx,l,c]])) c 3 (b.dK.map dN.t):=o.mono λe r=>by
  obtain⟨_,_,_,_,A,_⟩:=o.box r;rw[dV,ao (by have:=H.ew A;simp;omega),gh]
 have l3:∀e,dS c=some e->e<a.size:=λe r=>by obtain⟨_,_,_,_,A,_⟩:=o.box r;exact H.ew A
 have w:=λf:H=>o.len (cx:=cx) f L7 _ rfl;rw[aG]at w;simp[Tryz.f153,L];have B:((hr a).cons (dG 4 0 [.agg [k,dE b.tx,l,c]])).get a.size=some (dG 4 0 [.agg [k,dE b.tx,l,c]]):=dA;have Q:Nb a ((hr a).cons (dG 4 0 [.agg [k,dE b.tx,l,c]])):=⟨((Nb.refl z.hr).cons _).ok,λj O=>(((Nb.refl z.hr).cons _).get j O).trans (gh a j)⟩;have al:((hr a).cons (dG 4 0 [.agg [k,dE b.tx,l,c]])).size=a.size+1:=rfl;generalize X:(hr a).cons (dG 4 0 [.agg [k,dE b.tx,l,c]])=M at*
 refine fy b.dK.length dz (λh m h'=>∃s n,Ac M h' s n/\n.length<=h/\n++iz j (b.dK.drop h) h=iz j b.dK 0/\dH m 1 (dE j)/\dH m 2 (.ptr a.size 0 0 0)/\dH m 5 s/\dH m 6 (dE h)) ?_ ?_ dz ⟨_,_,Ac.start R,aw _,rfl,by simp[f]⟩
 ·rintro h m h' x E ⟨s,n,d,N,g,f,p,u,q⟩;have v:=(d.nb.get a.size dz).trans B;obtain⟨e,U,Z,V,ae,T,G,I,C⟩:=(K.mono (h':=h') λe r=>d.nb.get e (by have:=l3 e r;omega)).JS (te:=AE) rfl (i:=h) (by simpa using x);simp at C;rw[IW j _ _ x]at g;simp[f,p,q,w,x,v,G,I,C];generalize b.dK[h]=Y at*
  refine ee (λy=> ?_) (λy=> ?_)
  ·rw[aq (by simpa using y)]at g;obtain⟨S,W,J,F⟩:=d.nd (h:Int) dz;simp[f,p,u,q,J,E];exact⟨S,_,F,dB,by simpa using g,rfl⟩
  ·rw[ao (by simpa using y)]at g;simp[f,p,u,q,E];exact⟨s,n,d,dz,g,rfl⟩
 ·rintro m h' ⟨s,n,d,N,g,f,p,u,q⟩;have v:=(d.nb.get a.size dz).trans B;simp[iz]at g;subst g;simp[p,u,q,w,v];exact d.HI Q
structure IWo where
 (l:List Int) (v:T) (n:Int)
def Uq(a:IWo)(d:List T)(b:H):Prop:=d=[a.v,dE a.n]/\oG b 1 a.v (gF a.l)/\(∀c,dS a.v=some c->c<b.size)/\a.l.length<=1000000/\ig 0 b
def Ow(a:IWo)(f:List T)(b:H)(d:T)(c:H):Prop:=TL b c d (a.l.filter λe=> !decide (e=a.n))
def Jv:(jw IWo Uq Ow).Ok Tryz.prog cx 156:=by
 refine jo (tb:=⟨pt [],ht []⟩) fa eQ (iR 263283 [] Tryz.func156) (λ_ _=>1000005) (λi f h E=>by obtain⟨rfl,_⟩:=E;simp[Tryz.f156]) ?_;rintro⟨l,I,r⟩ _ h ⟨rfl,t,z,hl,s⟩ e w;simp only at t z hl;simp at w;obtain⟨c,a⟩:=w;have F:Nb h (hr h):=⟨⟨s.hr.hp,s.hr.low,au _⟩,λj _=>gh h j⟩;have o:=λa:H=>t.len (cx:=cx) a nH _ rfl;rw[aG]at o;simp[Tryz.f156];refine fy l.length dz (λd e h'=>∃m g,Ac (hr h) h' m g/\g.length<=d/\g++(l.drop d).filter (λx=> !decide (x=r))=l.filter (λx=> !decide (x=r))/\dH e 0 I/\dH e 1 (dE r)/\dH e 5 m/\dH e 6 (dE d)) ?_ ?_ dz ⟨_,_,Ac.start s.hr,aw _,rfl,by simp[c,a]⟩
 ·rintro d e h' p y ⟨m,g,f,C,b,c,a,n,k⟩;obtain⟨K,u,v⟩:=(t.mono (h':=h') λj D=>(f.nb.get j (by simpa using z j D)).trans (gh h j)).idx (te:=Dw) rfl rfl (i:=d) (x:= dE l[d]) (by simp[p]) rfl;rw[aJ p,List.filter_cons]at b;simp[c,a,k,o,p,u,v];generalize l[d]=x at*
  refine ee (λq=> ?_) (λq=> ?_)
  ·rw[aq (by simpa using q)]at b;obtain⟨G,J,B,A⟩:=f.nd x dz;simp[c,a,n,k,u,v,B,y];exact⟨G,_,A,dB,by simpa using b,rfl⟩
  ·rw[ao (by simpa using q)]at b;simp[c,a,n,k,y];exact⟨m,g,f,dz,b,rfl⟩
 ·rintro e h' ⟨m,g,f,C,b,c,a,n,k⟩;simp at b;subst b;simp[c,n,k,o];exact f.HI F
end
noncomputable section
open Go Go.TI
attribute [-simp] List.map_take List.map_drop List.map_append fG fg ei Bool.not_or Bool.not_and
attribute [simp] fF fh
def oq{d:Type}{c:List d}{b:Nat}{a:d}(h:c[b]? =some a)(f:d->d):c.modify b f=c.set b (f a):=by
 apply cZ;intro g;rw[List.getElem?_modify,bW];by_cases e:b=g
 ·subst e;have hi:b<c.length:=by
   rcases aF b c.length with k|k
   ·exact k
   ·rw[aM k]at h;simp at h
  rw[h];simp[hi]
 ·rw[ao e];simp[e]
section
variable {lo hi hi':Nat}{h h':H}{c0 c2 c3:T}{es:List T}{S:fH}
def Bk.mono(d:Bk lo hi h c0 c2 c3 es S)(l:hi<=hi')(f:∀a,lo<=a->a<hi->h'.get a=h.get a):Bk lo hi' h' c0 c2 c3 es S:=
 ⟨d.g0.mono λa c=>f a (d.b a (.inl c)).1 (d.b a (.inl c)).2,d.g2.mono λa c=>f a (d.b a (.inr (.inl c))).1 (d.b a (.inr (.inl c))).2,d.g3.mono λa c=>f a (d.b a (.inr (.inr c))).1 (d.b a (.inr (.inr c))).2,
   d.el.imp λk m ⟨j,g,i,e⟩=>⟨j,g,i.mono λa c=>f a (e a c).1 (e a c).2.1,λa c=>⟨(e a c).1,by have:=(e a c).2.1;omega,(e a c).2.2⟩⟩,λa c=>⟨(d.b a c).1,by have:=(d.b a c).2;omega⟩⟩
def Bk.tx(a:Bk lo hi h c0 c2 c3 es S)(c:Int):Bk lo hi h c0 c2 c3 es {S with tx:=c}:=⟨a.g0,a.g2,a.g3,a.el,a.b⟩
def Bk.ph(d:Bk lo hi h c0 c2 c3 es S){e l n:Nat}{m:Bool}{o:List T}(r:dS c3=some e)(g:h.get e=some ⟨3,l,n,m,false,o⟩)(i:Nat)(k:dN):
 Bk lo hi (dY h e ⟨3,l,n+1,m,false,o.set i k.t⟩) c0 c2 c3 es {S with dK:=S.dK.set i k}:=by
 have p:∀a,a≠e->(dY h e ⟨3,l,n+1,m,false,o.set i k.t⟩).get a=h.get a:=λa c=>by rw[dP g,ao c]
 refine⟨d.g0.mono λa c=>p a λf=> ?_,d.g2.mono λa c=>p a λf=> ?_,?_,d.el.imp λf w ⟨v,s,u,q⟩=>⟨v,s,u.mono λa c=>p a λf=>(q a c).2.2.2.2 (by rw[f];exact r),q⟩,d.b⟩
 ·subst f;obtain⟨_,_,_,_,j,_⟩:=d.g0.box c;rw[g]at j;simp at j
 ·subst f;obtain⟨_,_,_,_,j,_⟩:=d.g2.box c;rw[g]at j;simp at j
 ·have:=d.g3.setAt r g i k.t (h':=dY h e ⟨3,l,n+1,m,false,o.set i k.t⟩) (by rw[dP g,aq rfl]);simpa[bY]using this
def Bk.Yo(d:Bk lo hi h c0 c2 c3 es S){e l n:Nat}{m:Bool}{o:List T}(r:dS c2=some e)(g:h.get e=some ⟨1,l,n,m,false,o⟩)(i:Nat)(k:Bool):
 Bk lo hi (dY h e ⟨1,l,n+1,m,false,o.set i (.bool k)⟩) c0 c2 c3 es {S with done:=S.done.set i k}:=by
 have p:∀a,a≠e->(dY h e ⟨1,l,n+1,m,false,o.set i (.bool k)⟩).get a=h.get a:=λa c=>by rw[dP g,ao c]
 refine⟨d.g0.mono λa c=>p a λf=> ?_,?_,d.g3.mono λa c=>p a λf=> ?_,d.el.imp λf v ⟨u,s,t,q⟩=>⟨u,s,t.mono λa c=>p a λf=>(q a c).2.2.2.1 (by rw[f];exact r),q⟩,d.b⟩
 ·subst f;obtain⟨_,_,_,_,j,_⟩:=d.g0.box c;rw[g]at j;simp at j
 ·have:=d.g2.setAt r g i (.bool k) (h':=dY h e ⟨1,l,n+1,m,false,o.set i (.bool k)⟩) (by rw[dP g,aq rfl]);simpa[bY]using this
 ·subst f;obtain⟨_,_,_,_,j,_⟩:=d.g3.box c;rw[g]at j;simp at j
def Bk.qv(e:Bk lo hi h c0 c2 c3 es S){g m p:Nat}{n:Bool}{q:List T}(o:dS c0=some g)(i:h.get g=some ⟨2,m,p,n,false,q⟩)(f:Nat){rv:T}{k:ed}(hr:oG h 1 rv (gF k.eJ))(s:∀a,dS rv=some a->lo<=a/\a<hi/\dS c0≠some a/\dS c2≠some a/\dS c3≠some a):
 Bk lo hi (dY h g ⟨2,m,p+1,n,false,q.set f (.agg [dE k.iX,rv])⟩) c0 c2 c3 (es.set f (.agg [dE k.iX,rv])) {S with em:=S.em.set f k}:=by
 have l:∀a,a≠g->(dY h g ⟨2,m,p+1,n,false,q.set f (.agg [dE k.iX,rv])⟩).get a=h.get a:=λa c=>by rw[dP i,ao c]
 refine⟨e.g0.setAt o i f _ (by rw[dP i,aq rfl]),e.g2.mono λa c=>l a λd=> ?_,e.g3.mono λa c=>l a λd=> ?_,e.el.set f ⟨rv,rfl,hr.mono λa c=>l a λd=>(s a c).2.2.1 (by rw[d];exact o),s⟩ λd v ⟨rv,t,u,r⟩=>⟨rv,t,u.mono λa c=>l a λd=>(r a c).2.2.1 (by rw[d];exact o),r⟩,e.b⟩
 ·subst d;obtain⟨_,_,_,_,j,_⟩:=e.g2.box c;rw[i]at j;simp at j
 ·subst d;obtain⟨_,_,_,_,j,_⟩:=e.g3.box c;rw[i]at j;simp at j
end
def Bk.fz{lo hi:Nat}{h:H}{c0 c2 c3:T}{es:List T}{S:fH}(a:Bk lo hi h c0 c2 c3 es S):TI.fz h c0=some (sl (S.em.map ed.t))/\TI.fz h c2=some (sl (S.done.map T.bool))/\TI.fz h c3=some (sl (S.dK.map dN.t)):=by
 refine⟨?_,a.g2.fz dA,a.g3.fz dA⟩;exact a.g0.Ic (d:=4) dz (a.el.Wc (f:=ed.t) λg j ⟨l,b,c,i⟩=>by
  subst b;exact .inr (.inr ⟨_,_,rfl,.cons (fQ ..) (.cons (c.ft (d:=1) (V:=λ_=>True) (λm e=>by obtain⟨k,_,rfl⟩:=List.mem_map.1 e;simp) λ_ _=>trivial) .nil),rfl⟩))
def IX{c:List Int}(h:IP c)(d:Int):zo c [d]=mf c d:=by
 have e:∀(a b:List Int),lY b a=a.foldl mf b:=by
  intro a;induction a with
  |nil=>intro b;rfl
  |cons g a f=>intro b;show lY (t7 b g) a=_;rw[f,B8];rfl
 unfold zo;rw[e,e];exact L5 h d
end
end Go.Proofs.YtmaeadedikngoaaGreatDoor
