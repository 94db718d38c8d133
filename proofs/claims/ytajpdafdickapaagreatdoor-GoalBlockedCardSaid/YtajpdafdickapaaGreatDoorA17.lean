/- X07 -/
import Derived.Test.YtajpdafdickapaaGreatDoorA16
import Derived.Test.YtajpdafdickapaaGreatDoorA13
set_option linter.all false
set_option maxRecDepth 100000
set_option maxHeartbeats 8000000
namespace Go.Proofs.YtajpdafdickapaaGreatDoor
noncomputable section
open Go Go.TI Tryz
attribute [-simp] List.map_take List.map_drop List.map_append fy fa eg Bool.not_or Bool.not_and
attribute [simp] fw fc
def Oe(b c:H)(f:Nat)(e:List (T×aa (Nat×List T))):Prop:=∃d g,ny c d f g e/\(∀a,Fp c d a->b.size<=a)/\il b.size c/\∀a,a<b.size->c.get a=b.get a
def Oe.of{b f d:H}{e j k:Nat}{h:List (T×aa (Nat×List T))}(n:ny d e j k h)(c:Step e f d)(i:∀a,Fp f e a->b.size<=a)(l:b.size<=f.size)(m:∀a,a<b.size->f.get a=b.get a):Oe b (md b d) j h:=
 ⟨e,k,n.step ((il.out ⟨c.ok.hp,c.ok.low,ax _⟩ b)) λa _=>fV b d a,λa g=>by
   rw[iT (fV b d e)]at g;rcases c.fp a g with q|q
   ·exact i a q
   ·omega,il.out ⟨c.ok.hp,c.ok.low,aT l c.ok.sz⟩ b,λa g=>(fV b d a).trans ((c.get a J λq=>by have:=i a q;omega).trans (m a g))⟩
def pS8(a:dY)(b:List T)(c:H):Prop:=b=[a.t]/\il 0 c/\a.ei.length<=1000000/\a.ee.length<=1000000/\a.dH.length<=1000000
def Ar(b:Nat):List dJ:=(List.range b).map λa=>⟨if a=0 then 1 else 0,0,false⟩
def MP(a:Nat):Ar (a+1)=Ar a++[⟨if a=0 then 1 else 0,0,false⟩]:=by
 unfold Ar;rw[List.range_succ,List.map_append];rfl
def qS8(a:dY)(_:List T)(e:H)(g:T)(f:H):Prop:=∃b c d,g= .agg [b,Z (-1),c,d]/\Oe e f 4 [(b,some (2,(List.replicate a.ei.length ()).map yS)),(Z (-1),none),(c,some (1,(List.replicate a.ee.length false).map T.bool)),(d,some (3,(Ar a.dH.length).map dJ.t))]
def Sz8(e:Nat)(f:H)(Lk:List Unit)(a:List Bool)(Th:List dJ):Prop:=∃g b c d,ny f e 4 g [(b,some (2,Lk.map yS)),(Z (-1),none),(c,some (1,a.map T.bool)),(d,some (3,Th.map dJ.t))]
def aeD:(jM dY pS8 qS8).Ok prog cx 87:=by
 refine jB (tb:=⟨pt [],ht []⟩) iR iE (iX 9071038046463 [] func87) (λ_ _=>1000005) (λe a h aX=>by obtain⟨rfl,_⟩:=aX;simp[f87]) ?_;rintro(w:dY) _ h ⟨rfl,aA,hl,bB,ht⟩ d al;simp at al;simp[f87,al];generalize N:dZ _ _ _=p;have O:il 0 p:=by rw[<-N];exact(((aA.hr.cons _).cons _).cons _).put _ _
 have bH:p.size=h.size+3:=by rw[<-N];simp
 have K:∀j,p.get j=if j=h.size+2 then some (dE 4 1 [.agg [dD,Z (-1),dD,dD]])else if j=h.size+1 then some vV else if j=h.size then some (dE 6 0 [w.t])else h.get j:=λj=>by
  rw[<-N,mL (((aA.hr.cons _).cons _).cons _).hp dy,dS,dS,dS,ik];simp only[size_cons,oq];by_cases L:j=h.size+2<;>simp[L,vV]
 have⟨bi,P⟩:=ny.start (h:=p) (w:=h.size+2) (szw:=4) (ver:=1) (F:=[(dD,some (2,[])),(Z (-1),none),(dD,some (1,[])),(dD,some (3,[]))]) O (by rw[K,ar rfl];rfl) dy;have I:Lb (h.size+2) p h.size (dE 6 0 [w.t]):=⟨by rw[K,aq J,aq J,ar rfl],λL=>by have:=P _ L;omega⟩;have a7:Lb (h.size+2) p (h.size+1) vV:=⟨by rw[K,aq J,ar rfl],λL=>by have:=P _ L;omega⟩;have a8:∀j,j<h.size->p.get j=h.get j:=λj E=>by rw[K,aq J,aq J,aq J]
 clear N K;refine fD w.ei.length J (λe d g=>Sz8 (h.size+2) g (List.replicate e ()) [] []/\Step (h.size+2) p g/\dF d 1 (.ptr h.size 0 0 0)/\dF d 2 (.ptr (h.size+1) 0 0 0)/\dF d 3 (.ptr (h.size+2) 0 0 0)/\dF d 4 (Z e)) ?_ ?_ J ⟨⟨_,_,_,_,bi⟩,Step.refl O,dy⟩
 ·rintro e d g G D ⟨⟨ver,r,s,z,b⟩,c,i,k,l,m⟩;have o:=b.get;simp at o;have⟨q,u,n,y⟩:=(b.gr 0 rfl).mn (cx:=cx) (f:=yS) b.ok KR rfl Hb rfl dy (λ_=>rfl) () dz;have⟨v,U,B⟩:=b.app 0 rfl y;have⟨C,A⟩:=B _ rfl;simp only[<-List.replicate_succ']at A;simp[-List.map_replicate]at v C A;simp only[yS]at n;simp[i,k,l,m,G,(I.step c).get,o,n,v,dX,y.1.iy,y.1.cells,D];exact⟨⟨_,_,_,_,A⟩,c.trans C⟩
 rintro d g ⟨⟨ver,r,s,z,b⟩,c,i,k,l,m⟩;simp[i,m,(I.step c).get];refine fD w.ee.length J (λe d g=>Sz8 (h.size+2) g (List.replicate w.ei.length ()) (List.replicate e false) []/\Step (h.size+2) p g/\dF d 1 (.ptr h.size 0 0 0)/\dF d 2 (.ptr (h.size+1) 0 0 0)/\dF d 3 (.ptr (h.size+2) 0 0 0)/\dF d 5 (Z e)) ?_ ?_ J ⟨⟨_,_,_,_,b⟩,c,by simp[i,k,l]⟩
 ·clear b c i k l m;rintro e d g G D ⟨⟨ver,r,s,z,b⟩,c,i,k,l,m⟩;have o:=b.get;simp at o;have⟨q,u,n,y⟩:=(b.gr 2 rfl).mn (cx:=cx) (f:=T.bool) b.ok AZ rfl L4 rfl dy dy false dz;have⟨v,U,B⟩:=b.app 2 rfl y;have⟨C,A⟩:=B _ rfl;simp only[<-List.replicate_succ']at A;simp[-List.map_replicate]at v C A;simp[i,k,l,m,G,(I.step c).get,o,n,v,dX,y.1.iy,y.1.cells,D];exact⟨⟨_,_,_,_,A⟩,c.trans C⟩
 clear b c i k l m;rintro d g ⟨⟨ver,r,s,z,b⟩,c,i,k,l,m⟩;simp[i,m,(I.step c).get];refine fD w.dH.length J (λe d g=>Sz8 (h.size+2) g (List.replicate w.ei.length ()) (List.replicate w.ee.length false) (Ar e)/\Step (h.size+2) p g/\dF d 1 (.ptr h.size 0 0 0)/\dF d 2 (.ptr (h.size+1) 0 0 0)/\dF d 3 (.ptr (h.size+2) 0 0 0)/\dF d 6 (Z e)) ?_ ?_ J ⟨⟨_,_,_,_,b⟩,c,by simp[i,k,l]⟩
 ·clear b c i k l m;rintro e d g G D ⟨⟨ver,r,s,z,b⟩,c,i,k,l,m⟩;have o:=b.get;simp at o;have bN:=c.ok.sz;have bC:(h.size=g.size)=False:=dz;have an:(h.size+2=g.size)=False:=dz;have av:=(I.step c).get;have ap:∀M,∃q u,iU cx ((g.cons (dE 3 M [dJ.t ⟨if e=0 then 1 else 0,0,false⟩])).cons (dE 3 0 [dJ.t ⟨if e=0 then 1 else 0,0,false⟩])) 35 35 z (.arr (g.size+1) 0 0 1 false)=some (.val q u)/\q.iy=true/\q.cells=[q]/\u.get (h.size+2)=some (dE 4 ver [.agg [r,Z (-1),s,z]])/\fk (g.cons (dE 3 M [dJ.t ⟨if e=0 then 1 else 0,0,false⟩])) u (h.size+2)=true/\Sz8 (h.size+2) (dZ u (h.size+2) (dE 4 (ver+1) [.agg [r,Z (-1),s,q]])) (List.replicate w.ei.length ()) (List.replicate w.ee.length false) (Ar (e+1))/\Step (h.size+2) p (dZ u (h.size+2) (dE 4 (ver+1) [.agg [r,Z (-1),s,q]])):=λM=>by
   have ae:=b.cons (dE 3 M [dJ.t ⟨if e=0 then 1 else 0,0,false⟩]);have bu:=Step.cons b.ok b.lt (dE 3 M [dJ.t ⟨if e=0 then 1 else 0,0,false⟩]);have⟨q,u,n,y⟩:=(ae.gr 3 rfl).mn (cx:=cx) (f:=dJ.t) ae.ok Em rfl Ha rfl dy (λ_=>rfl) (⟨if e=0 then 1 else 0,0,false⟩:dJ) (by simp[Ar];omega);have⟨v,U,B⟩:=ae.app 3 rfl y;have⟨C,A⟩:=B _ rfl;rw[<-MP]at C A;rw[size_cons]at n;exact⟨q,u,n,y.1.iy,y.1.cells,v,U,⟨_,_,_,_,A⟩,(c.trans bu).trans C⟩
  by_cases Q:e=0
  ·subst Q;have⟨q,u,n,v,B,V,W,X,Y⟩:=ap 2;simp at n W;have aE:binop .add (Z 0) (Z 1)=some (Z 1):=by simpa using D
   simp[i,k,l,m,G,av,o,an,b.ok.low,n,v,B,V,dX,aE];exact⟨X,Y⟩
  ·have⟨q,u,n,v,B,V,W,X,Y⟩:=ap 1;simp[Q]at n W;simp[i,k,l,m,Q,G,av,o,an,b.ok.low,n,v,B,V,dX,D];exact⟨X,Y⟩
 clear b c i k l m;rintro d g ⟨⟨ver,r,s,z,b⟩,c,i,k,l,m⟩;have o:=b.get;simp at o;have R:=a7.step c;have S:=R.get;unfold vV at S;have bn:=b.qx R (dE 4 1 [.agg [r,Z (-1),s,z]]);have aN:(dZ g (h.size+1) (dE 4 1 [.agg [r,Z (-1),s,z]])).get (h.size+1)=_:=(dN S _ _).trans (ar rfl);simp[i,k,l,m,(I.step c).get,o,S,dX,aN,-List.map_replicate];have bs:Step (h.size+2) h p:=⟨⟨O.hp,O.low,J⟩,λj E _=>a8 j E,λj E=> .inr (by have:=P j E;omega)⟩;exact⟨r,s,z,rfl,Oe.of bn (Step.qx b.ok R _ h (bs.trans c) J) (λj E=>by
  rcases E with rfl|⟨x,a6,_⟩
  ·omega
  ·have:=H.fh a6;omega) (aw _) λ_ _=>rfl⟩
def J6(a:dY)(b:List T)(c:H):Prop:=b=[a.t]/\il 0 c/\a.ei.length<=1000000/\a.ee.length<=1000000/\a.dH.length<=1000000/\a.cells.length<=1000000
def Sq(a:dY)(c d e f g h:T)(b:List Int):List (T×aa (Nat×List T)):=[(c,some (2,(List.replicate a.ei.length ()).map yS)),(Z (-1),none),(d,some (1,(List.replicate a.ee.length false).map T.bool)),(e,some (3,(Ar a.dH.length).map dJ.t)),(f,some (1,b.map (T.int .i64))),(g,some (1,(List.replicate a.ee.length 0).map (T.int .i64))),(h,some (1,(List.replicate a.dH.length 0).map (T.int .i64)))]
def JU(g:dY)(_:List T)(h:H)(j:T)(i:H):Prop:=∃a b c d e f,j= .agg [a,Z (-1),b,c,d,e,f]/\Oe h i 7 (Sq g a b c d e f (g.cells.map iq.jF))
def aa9:(jM dY J6 JU).Ok prog cx 39:=by
 refine jB (tb:=⟨pt [],ht [(87,jM dY pS8 qS8)]⟩) iR iE (iX 1048607 [(1,[(1,3),(1,5),(1,7),(1,9),(1,11)])] func39) (λ_ _=>1000005) (λp s h c6=>by obtain⟨rfl,_⟩:=c6;simp[f39]) ?_;rintro(d:dY) _ h ⟨rfl,di,hl,E,ht,j⟩ y k;simp at k;have bN:d.ee.length*8<=70368744177664:=J;have bS:d.dH.length*8<=70368744177664:=J;simp[f39,k];generalize z:((TI.hr h).cons _).cons _=u;have dk:il 0 u:=by rw[<-z];exact(di.hr.cons _).cons _
 refine mF aeD dy d ⟨rfl,dk,hl,E,ht⟩ ?_;rintro _ c ⟨m,n,o,rfl,g,R,i,b6,av,Q⟩;have ef:u.size=h.size+2:=by rw[<-z];simp
 have ec:=av.sz;rw[ef]at ec;have dv:u.get h.size=some (dE 6 0 [d.t]):=by rw[<-z];simp
 have ea:u.get (h.size+1)=some nO:=by rw[<-z];simp[nO]
 have eb:∀a,a<h.size->u.get a=h.get a:=λa j=>by rw[<-z,dS,aq dz,dS,aq dz,ik]
 clear z;have a0:=(Q h.size J).trans dv;have a1:=(Q (h.size+1) J).trans ea;have bu:=fG (Q h.size J);have de:(h.size=c.size)=False:=dz;have er:(h.size=c.size+1)=False:=dz;have bH:fk u c (c.size+1+1)=true:=jf (lz _ J);have M:=λp a aN S (F: [(m,some (2,(List.replicate d.ei.length ()).map yS)),(Z (-1),none),(n,some (1,(List.replicate d.ee.length false).map T.bool)),(o,some (3,(Ar d.dH.length).map dJ.t))][p]? =some (a,some (aN,S)))=>And.intro (i.gr p F).iy (i.gr p F).cells;have b8:=M 0 m _ _ rfl;have b9:=M 2 n _ _ rfl;have ca:=M 3 o _ _ rfl;have bB:fk u c c.size=true:=jf (lz _ J);have bC:fk u c (c.size+1)=true:=jf (lz _ J);simp[bN,bS,a0,bu,de,bB,bC,bH];generalize N:dZ _ _ _=r;have bs:il 0 c:=⟨av.hp,av.low,ax _⟩;have Ka:il 0 r:=by rw[<-N];exact(((bs.cons _).cons _).cons _).put _ _
 have ey:r.size=c.size+3:=by rw[<-N];simp
 have D:∀a,r.get a=if a=c.size+2 then some (dE 7 1 [.agg [m,Z (-1),n,o,dD,.arr c.size 0 0 d.ee.length false,.arr (c.size+1) 0 0 d.dH.length false]])else if a=c.size+1 then some ⟨1,0,0,true,false,List.replicate d.dH.length (Z 0)⟩else if a=c.size then some ⟨1,0,0,true,false,List.replicate d.ee.length (Z 0)⟩else c.get a:=λa=>by
  rw[<-N,mL (((bs.cons _).cons _).cons _).hp dy,dS,dS,dS];simp only[size_cons];by_cases q:a=c.size+2
  ·simp[q]
  ·by_cases B:a=c.size+1<;>by_cases dm:a=c.size<;>simp[q,B,dm]
 clear N;have P:∀a,a<c.size->r.get a=c.get a:=λa q=>by rw[D,aq J,aq J,aq J]
 have O:∀(l:Nat) s,(Sq d m n o dD (.arr c.size 0 0 d.ee.length false) (.arr (c.size+1) 0 0 d.dH.length false) [])[l]? =some s->∀a,dT s.1=some a->(l<4/\[(m,some (2,(List.replicate d.ei.length ()).map yS)),(Z (-1),none),(n,some (1,(List.replicate d.ee.length false).map T.bool)),(o,some (3,(Ar d.dH.length).map dJ.t))][l]? =some s/\h.size+2<=a/\a<c.size)\/(l=5/\a=c.size)\/(l=6/\a=c.size+1):=by
  intro l s k a j;have c9:=λ(G: [(m,some (2,(List.replicate d.ei.length ()).map yS)),(Z (-1),none),(n,some (1,(List.replicate d.ee.length false).map T.bool)),(o,some (3,(Ar d.dH.length).map dJ.t))][l]? =some s)=>And.intro G (And.intro (show h.size+2<=a by have:=b6 a (i.Cu (ay G) j);omega) (i.fp a (i.Cu (ay G) j)));unfold Sq at k;rcases l with _|_|_|_|_|_|_|l
  iterate 4 exact .inl ⟨J,c9 k⟩
  ·simp at k;subst k;simp at j
  ·simp at k;subst k;simp at j;exact .inr (.inl ⟨rfl,j.symm⟩)
  ·simp at k;subst k;simp at j;exact .inr (.inr ⟨rfl,j.symm⟩)
  ·simp at k
 have a6:ny r (c.size+2) 7 1 (Sq d m n o dD (.arr c.size 0 0 d.ee.length false) (.arr (c.size+1) 0 0 d.dH.length false) []):=by
  refine⟨Ka,by rw[D,ar rfl];rfl,λf E=>?_,λl K c4 s b k cp a A B=>c4 ?_⟩
  ·have ap:=λp a aN S (F: [(m,some (2,(List.replicate d.ei.length ()).map yS)),(Z (-1),none),(n,some (1,(List.replicate d.ee.length false).map T.bool)),(o,some (3,(Ar d.dH.length).map dJ.t))][p]? =some (a,some (aN,S)))=>(i.gr p F).mono (h':=r) λq c7=>P q (i.fp q (i.Cu (ay F) c7));unfold Sq at E;simp only[bZ,cG,or_false]at E;rcases E with rfl|rfl|rfl|rfl|rfl|rfl|rfl
   ·exact⟨ap 0 _ _ _ rfl,show(2:Nat)≠7 by decide⟩
   ·show dT _=none;simp
   ·exact⟨ap 2 _ _ _ rfl,show(1:Nat)≠7 by decide⟩
   ·exact⟨ap 3 _ _ _ rfl,show(3:Nat)≠7 by decide⟩
   ·exact⟨Gr.nil _ _,show(1:Nat)≠7 by decide⟩
   ·exact⟨.inr ⟨c.size,0,0,true,_,dy,by rw[D,aq J,aq J,ar rfl],dy⟩,show(1:Nat)≠7 by decide⟩
   ·exact⟨.inr ⟨c.size+1,0,0,true,_,dy,by rw[D,aq J,ar rfl],dy⟩,show(1:Nat)≠7 by decide⟩
  ·rcases O l s k a A with⟨bi,ae,eh,eo⟩|⟨bi,ae⟩|⟨bi,ae⟩<;>rcases O K b cp a B with⟨r1,r2,r3,r4⟩|⟨r1,r2⟩|⟨r1,r2⟩<;>try omega
   exact Decidable.byContradiction λe=>i.VI l K e s b ae r2 a A B
 have U:∀a,Fp r (c.size+2) a->h.size+2<=a:=by
  rintro a (rfl|⟨x,I,v,a8,q⟩)
  ·omega
  ·rw[a6.get]at I;simp only[au]at I;subst I;simp only[fF,cN,cZ,bQ,T.cells]at a8;obtain⟨f,cL,rfl⟩:=List.mem_map.1 a8;have⟨l,G,c1⟩:=List.mem_iff_getElem.1 cL;rcases O l f (by rw[az G,c1]) a q with⟨_,_,K,_⟩|⟨_,K⟩|⟨_,K⟩<;>omega
 have bn:Lb (c.size+2) r h.size (dE 6 0 [d.t]):=⟨(P _ J).trans a0,λq=>by have:=U _ q;omega⟩;have dd:Lb (c.size+2) r (h.size+1) nO:=⟨(P _ J).trans a1,λq=>by have:=U _ q;omega⟩;have ds:Step (c.size+2) h r:=⟨⟨Ka.hp,Ka.low,J⟩,λa j _=>(P a J).trans ((Q a J).trans (eb a j)),λa j=> .inr (by have:=U a j;omega)⟩;clear D O M b8 b9 ca bB bC bH bu;refine fD d.cells.length J (λp y L=>(∃R a,ny L (c.size+2) 7 R (Sq d m n o a (.arr c.size 0 0 d.ee.length false) (.arr (c.size+1) 0 0 d.dH.length false) ((d.cells.take p).map iq.jF)))/\Step (c.size+2) r L/\dF y 1 (.ptr h.size 0 0 0)/\dF y 2 (.ptr (h.size+1) 0 0 0)/\dF y 3 (.ptr (c.size+2) 0 0 0)/\dF y 4 (Z p)) ?_ ?_ J ⟨⟨_,_,a6⟩,Step.refl Ka,dy⟩
 ·rintro p y L a7 cb ⟨⟨R,a,i⟩,C,V,W,X,Y⟩;have w:=i.get;unfold Sq at w;simp at w;have⟨eu,h',bT,aX⟩:=(i.gr 4 rfl).mn (cx:=cx) (f:=T.int .i64) i.ok pi rfl zR rfl dy (λ_=>rfl) d.cells[p].jF dz;have⟨A,et,B⟩:=i.app 4 rfl aX;have⟨aE,aA⟩:=B _ rfl;unfold Sq at A aE aA;simp only[aP,bI,cw,cq]at A aE aA;simp[V,W,X,Y,a7,(bn.step C).get,w,bT,A,dX,aX.1.iy,aX.1.cells,cb];exact⟨⟨_,_,by unfold Sq;rw[aQ a7,List.map_append];exact aA⟩,C.trans aE⟩
 rintro y L ⟨⟨R,a,i⟩,C,V,W,X,Y⟩;rw[aK]at i;have w:=i.get;unfold Sq at w;simp at w;have al:=dd.step C;have an:=al.get;unfold nO at an;have dn:=i.qx al (dE 7 1 [.agg [m,Z (-1),n,o,a,.arr c.size 0 0 d.ee.length false,.arr (c.size+1) 0 0 d.dH.length false]]);have b7:(dZ L (h.size+1) (dE 7 1 [.agg [m,Z (-1),n,o,a,.arr c.size 0 0 d.ee.length false,.arr (c.size+1) 0 0 d.dH.length false]])).get (h.size+1)=_:=(dN an _ _).trans (ar rfl);simp[V,W,X,Y,(bn.step C).get,w,an,dX,b7,-List.map_replicate];exact⟨m,n,o,_,_,_,rfl,Oe.of dn (Step.qx i.ok al _ h (ds.trans C) J) (λa j=>by
  rcases j with rfl|⟨x,I,_⟩
  ·omega
  ·have:=H.fh I;omega) (aw _) λ_ _=>rfl⟩
end
noncomputable section
open Go Go.TI Tryz
noncomputable abbrev gN(a:Func)(b:Nat):qN:=gq cx a b false
noncomputable abbrev gK(a:Func)(b:Nat):qN:=gq cx a b true
def gO{b:aj}{a:Func}{d:Nat}{c:Bool}(e:prog.funcs[b]? =some a)(f:xQ ⟨a,d,c,none⟩=true:=by kernel_rfl):mE prog cx b (gq cx a d c):=afh iR iE e f
def ab6:qN:=λ_ _ a b=>Df ((.clone 1 1)) a b
def TF:mE prog cx 162 ab6:=yk (wQ (fn:=f162) (t:=34) (tb:=4) (te:=V7) iE func162 dG dG dG dG dG dG dG)
def ab5:qN:=λ_ _ a b=>Df ((.clone 3 24)) a b
def TE:mE prog cx 163 ab5:=yk (wQ (fn:=f163) (t:=35) (tb:=4) (te:=HG) iE func163 dG dG dG dG dG dG dG)
def ab4:qN:=λ_ _ a b=>Df (.oo) a b
def Xx:(f248.name== "runtime.NumGoroutine")=false:=dG
def Xw:f248.body.isNone=true:=dG
def Xu:Extern.findNext f248=none:=dG
def Xv:Extern.find f248=some Extern.BytealgIndexByte.indexByte:=dG
def Xs:EG prog cx 248 .oo:= @GI prog cx 248 f248 func248 Xx Xw Xu Xv
def TD:mE prog cx 248 ab4:=yk Xs
def qs:Tree qN:=(.node (.node (.node (.node (.node (.node (.node (.node .nil 10 (gN f10 7) .nil) 14 (gN f14 127) .nil) 17 (gN f17 138478519) (.node .nil 26 (gN f26 17179869843) .nil)) 27 (gN f27 40953575029616206113996799) (.node (.node .nil 33 (gN f33 9223389645163727807) .nil) 34 (gN f34 2417851783344448572752095) (.node .nil 39 (gN f39 1048607) .nil))) 43 (gN f43 9223372036871623167) (.node (.node (.node (.node .nil 44 (gN f44 4215) .nil) 46 (gK f46 1048607) .nil) 47 (gN f47 13215461614728367217751695970865548304603543200842114553566203007) (.node .nil 51 (gN f51 829180818552508142370930303613581122868418894632663968482586879) .nil)) 56 (gN f56 8796093286397) (.node (.node .nil 57 (gN f57 19808249554385699031857790975) .nil) 58 (gN f58 8864829278711) (.node .nil 59 (gN f59 79) .nil)))) 60 (gN f60 7231) (.node (.node (.node (.node (.node .nil 61 (gN f61 18463641368405213903) .nil) 67 (gN f67 2147484735) .nil) 68 (gN f68 19) (.node .nil 69 (gN f69 606826398900554784047567) .nil)) 71 (gN f71 772424076352653274097095092108232752774234854811365887) (.node (.node .nil 72 (gN f72 67109327) .nil) 74 (gN f74 1238093369775042453301102031) (.node .nil 75 (gN f75 4196311) .nil))) 80 (gN f80 6434029281764525972148499167221040878727244754944919609542655) (.node (.node (.node (.node .nil 81 (gN f81 95827739445721067874190659254502973333984266632037375) .nil) 82 (gN f82 31) .nil) 87 (gN f87 9071038046463) (.node .nil 88 (gN f88 17184194575) .nil)) 89 (gK f89 68723687231) (.node (.node .nil 90 (gN f90 4504699140047487) .nil) 92 (gN f92 576460753379335951) (.node .nil 99 (gN f99 9224506733391652861) .nil))))) 100 (gN f100 4432473883133) (.node (.node (.node (.node (.node (.node .nil 102 (gN f102 19342850151455133005856767) .nil) 103 (gN f103 316913254556860716756833993695) .nil) 104 (gN f104 275) (.node .nil 105 (gN f105 11) .nil)) 106 (gN f106 8934607822903) (.node (.node .nil 107 (gN f107 479) .nil) 108 (gN f108 137506128175) (.node .nil 110 (gN f110 36051629065113551) .nil))) 112 (gN f112 4605278686335) (.node (.node (.node (.node .nil 113 (gK f113 30783) .nil) 120 (gN f120 463) .nil) 125 (gN f125 19) (.node .nil 126 (gN f126 1099511628339) .nil)) 127 (gN f127 18889470444974887141823) (.node (.node .nil 128 (gN f128 332312079452150195464880550324504575) .nil) 129 (gN f129 4330618893) (.node .nil 130 (gN f130 131635) .nil)))) 133 (gN f133 348794743007212715313826391199890521722863) (.node (.node (.node (.node (.node .nil 134 (gN f134 12259964349774246101165194645239424850975965214878597119) .nil) 140 (gN f140 19) .nil) 142 (gN f142 33587517) (.node .nil 143 (gN f143 4101) .nil)) 144 (gN f144 21853) (.node (.node .nil 145 (gN f145 37396817117309) .nil) 146 (gN f146 51) (.node .nil 147 (gN f147 40536831200067837) .nil))) 148 (gN f148 72128100255664255) (.node (.node (.node (.node .nil 149 (gN f149 1242795222330225588904675325) .nil) 150 (gN f150 1237940043933112819970491391) .nil) 151 (gN f151 1053) (.node .nil 152 (gN f152 151115745466229840684019) .nil)) 154 (gK f154 18191) (.node (.node .nil 155 (gN f155 365376106316094180278949616271352870286206697499) .nil) 156 (gN f156 10633824283312870803151638865622599647) (.node .nil 157 (gN f157 29) .nil)))))) 158 (gN f158 35315368591455) (.node (.node (.node (.node (.node (.node (.node .nil 159 (gN f159 19) .nil) 160 (gN f160 606826398900554784047567) .nil) 161 (gN f161 5868843906288553182383292937158044313155908148351) (.node .nil 162 (ab6) .nil)) 163 (ab5) (.node (.node .nil 168 (gN f168 7) .nil) 170 (gN f170 5) (.node .nil 171 (gN f171 131613) .nil))) 172 (gN f172 5) (.node (.node (.node (.node .nil 173 (gN f173 11161304336780981658631819976322344575566047) .nil) 174 (gN f174 4362601011) .nil) 175 (gN f175 19) (.node .nil 176 (gK f176 2097183) .nil)) 177 (gN f177 1182933510117985879039) (.node (.node .nil 179 (gN f179 19) .nil) 180 (gN f180 19) (.node .nil 181 (gN f181 5) .nil)))) 182 (gN f182 35500589085) (.node (.node (.node (.node (.node .nil 183 (gN f183 5) .nil) 184 (gN f184 1125908496810045) .nil) 185 (gN f185 262565) (.node .nil 186 (gN f186 541) .nil)) 187 (gN f187 328307) (.node (.node .nil 188 (gN f188 1574131) .nil) 189 (gN f189 275) (.node .nil 190 (gN f190 529021) .nil))) 191 (gN f191 1125902054326279) (.node (.node (.node (.node .nil 192 (gN f192 32909) .nil) 193 (gN f193 262707) .nil) 194 (gN f194 262707) (.node .nil 195 (gN f195 14474012017383023515249485065460760621927424225494418519668988771800801378299) .nil)) 196 (gN f196 36893488147419136123) (.node (.node .nil 200 (gN f200 20282409606012871684182924853463) .nil) 201 (gN f201 158456325028530997355645763711) (.node .nil 202 (gN f202 1037) .nil))))) 203 (gN f203 1099578740959) (.node (.node (.node (.node (.node (.node .nil 215 (gN f215 1) .nil) 218 (gN f218 5) .nil) 219 (gK f219 262175) (.node .nil 220 (gK f220 9904163146420522906957187071) .nil)) 226 (gN f226 19) (.node (.node .nil 227 (gN f227 2293) .nil) 228 (gN f228 2149585011) (.node .nil 229 (gN f229 526461) .nil))) 230 (gN f230 8606909437) (.node (.node (.node (.node .nil 231 (gN f231 182687706027492332498828539273953093013162958911) .nil) 232 (gN f232 70368744310543) .nil) 233 (gN f233 83) (.node .nil 234 (gN f234 33688639) .nil)) 235 (gN f235 4196847) (.node (.node .nil 237 (gN f237 1049655) .nil) 248 (ab4) (.node .nil 249 (gN f249 8211) .nil)))) 253 (gN f253 131527) (.node (.node (.node (.node (.node .nil 254 (gN f254 563501857374451) .nil) 255 (gN f255 2863311549) .nil) 256 (gN f256 18483898770635358239) (.node .nil 257 (gN f257 7) .nil)) 258 (gN f258 99132251962343631) (.node (.node .nil 259 (gN f259 8703) .nil) 260 (gN f260 8590200303) (.node .nil 266 (gN f266 594912002450663878599) .nil))) 268 (gN f268 13) (.node (.node (.node (.node .nil 273 (gN f273 32819) .nil) 276 (gN f276 132109) .nil) 279 (gN f279 749019592093908130998168547243562859198691857383367) (.node .nil 284 (gN f284 72339071195682803) .nil)) 293 (gN f293 8407165) (.node (.node .nil 294 (gN f294 2101491) .nil) 296 (gN f296 9224502335110254589) (.node .nil 297 (gN f297 715827901) .nil)))))))
def aaT:qs.Ss λa b=>mE prog cx a b:=(.node (.node (.node (.node (.node (.node (.node (.node .nil (gO func10) .nil) (gO func14) .nil) (gO func17) (.node .nil (gO func26) .nil)) (gO func27) (.node (.node .nil (gO func33) .nil) (gO func34) (.node .nil (gO func39) .nil))) (gO func43) (.node (.node (.node (.node .nil (gO func44) .nil) (gO func46) .nil) (gO func47) (.node .nil (gO func51) .nil)) (gO func56) (.node (.node .nil (gO func57) .nil) (gO func58) (.node .nil (gO func59) .nil)))) (gO func60) (.node (.node (.node (.node (.node .nil (gO func61) .nil) (gO func67) .nil) (gO func68) (.node .nil (gO func69) .nil)) (gO func71) (.node (.node .nil (gO func72) .nil) (gO func74) (.node .nil (gO func75) .nil))) (gO func80) (.node (.node (.node (.node .nil (gO func81) .nil) (gO func82) .nil) (gO func87) (.node .nil (gO func88) .nil)) (gO func89) (.node (.node .nil (gO func90) .nil) (gO func92) (.node .nil (gO func99) .nil))))) (gO func100) (.node (.node (.node (.node (.node (.node .nil (gO func102) .nil) (gO func103) .nil) (gO func104) (.node .nil (gO func105) .nil)) (gO func106) (.node (.node .nil (gO func107) .nil) (gO func108) (.node .nil (gO func110) .nil))) (gO func112) (.node (.node (.node (.node .nil (gO func113) .nil) (gO func120) .nil) (gO func125) (.node .nil (gO func126) .nil)) (gO func127) (.node (.node .nil (gO func128) .nil) (gO func129) (.node .nil (gO func130) .nil)))) (gO func133) (.node (.node (.node (.node (.node .nil (gO func134) .nil) (gO func140) .nil) (gO func142) (.node .nil (gO func143) .nil)) (gO func144) (.node (.node .nil (gO func145) .nil) (gO func146) (.node .nil (gO func147) .nil))) (gO func148) (.node (.node (.node (.node .nil (gO func149) .nil) (gO func150) .nil) (gO func151) (.node .nil (gO func152) .nil)) (gO func154) (.node (.node .nil (gO func155) .nil) (gO func156) (.node .nil (gO func157) .nil)))))) (gO func158) (.node (.node (.node (.node (.node (.node (.node .nil (gO func159) .nil) (gO func160) .nil) (gO func161) (.node .nil TF .nil)) TE (.node (.node .nil (gO func168) .nil) (gO func170) (.node .nil (gO func171) .nil))) (gO func172) (.node (.node (.node (.node .nil (gO func173) .nil) (gO func174) .nil) (gO func175) (.node .nil (gO func176) .nil)) (gO func177) (.node (.node .nil (gO func179) .nil) (gO func180) (.node .nil (gO func181) .nil)))) (gO func182) (.node (.node (.node (.node (.node .nil (gO func183) .nil) (gO func184) .nil) (gO func185) (.node .nil (gO func186) .nil)) (gO func187) (.node (.node .nil (gO func188) .nil) (gO func189) (.node .nil (gO func190) .nil))) (gO func191) (.node (.node (.node (.node .nil (gO func192) .nil) (gO func193) .nil) (gO func194) (.node .nil (gO func195) .nil)) (gO func196) (.node (.node .nil (gO func200) .nil) (gO func201) (.node .nil (gO func202) .nil))))) (gO func203) (.node (.node (.node (.node (.node (.node .nil (gO func215) .nil) (gO func218) .nil) (gO func219) (.node .nil (gO func220) .nil)) (gO func226) (.node (.node .nil (gO func227) .nil) (gO func228) (.node .nil (gO func229) .nil))) (gO func230) (.node (.node (.node (.node .nil (gO func231) .nil) (gO func232) .nil) (gO func233) (.node .nil (gO func234) .nil)) (gO func235) (.node (.node .nil (gO func237) .nil) TD (.node .nil (gO func249) .nil)))) (gO func253) (.node (.node (.node (.node (.node .nil (gO func254) .nil) (gO func255) .nil) (gO func256) (.node .nil (gO func257) .nil)) (gO func258) (.node (.node .nil (gO func259) .nil) (gO func260) (.node .nil (gO func266) .nil))) (gO func268) (.node (.node (.node (.node .nil (gO func273) .nil) (gO func276) .nil) (gO func279) (.node .nil (gO func284) .nil)) (gO func293) (.node (.node .nil (gO func294) .nil) (gO func296) (.node .nil (gO func297) .nil)))))))
def JT:∀a b,(λa=>qs.find a) a=some b->mE prog cx a b:=λa b c=>aaT.find c
end
noncomputable section
open Go Go.TI Tryz
attribute [-simp] List.map_take List.map_drop List.map_append fy fa eg Bool.not_or Bool.not_and
attribute [simp] fw fc
def jt:dY:=⟨[⟨[120],0,0,false,0⟩,⟨[121],0,0,false,1⟩,⟨[118],0,0,true,0⟩,⟨[113],0,2,false,0⟩,⟨[113],1,2,false,0⟩],[⟨[109],false⟩,⟨[110],false⟩,⟨[114],true⟩],[⟨[99],0⟩],[[102]],[[109,97,105,110],[116,49],[116,50],[116,51]],
 [⟨0,0,1⟩,⟨0,1,2⟩,⟨0,2,3⟩,⟨0,3,4⟩,⟨0,4,5⟩,⟨0,5,6⟩,⟨1,0,11⟩,⟨1,1,12⟩,⟨1,2,13⟩,⟨1,3,14⟩,⟨1,4,15⟩,⟨1,5,16⟩,⟨2,0,21⟩,⟨2,1,22⟩,⟨2,2,23⟩,⟨2,3,24⟩,⟨2,4,25⟩,⟨2,5,26⟩,⟨3,0,31⟩,⟨3,1,32⟩,⟨3,2,33⟩,⟨3,3,34⟩,⟨3,4,35⟩,⟨3,5,36⟩]⟩
def V0:∀a b,(λa=>(Tree.node .nil 35 (gN f35 81788943) .nil).find a) a=some b->mE prog cx a b:=λa b c=>(Tree.Ss.node .nil (gO func35) .nil).find c
def M5:lh prog cx 35 [] jt.t:=zf (ls _ dG) (Bw V0 10000 _ _ _ _ _ dG)
def Gh:gG:=⟨Unit,λ_=>[],λ_=>True,λ_=>jt.t,λ_ _ _=>rfl⟩
def PF:Gh.Ok prog cx 35:=λ_ _=>M5
def Mh{a:fJ}(ht:a.p 35=some Gh):rl prog cx a 35 []=some jt.t:=im ht PF () trivial
def JP:j8 jt=true:=by decide+kernel
def vO(e:Nat)(a:List Int)(c:Nat)(d:H):Prop:=∃f b,d.get c=some (dE 2 f [.agg [sl (a.map (T.int .u8)),Z b]])/\((min e a.length:Nat):Int)<=b
def vO.tp{e:Nat}{a:List Int}{b:Nat}{c:H}(g:vO e a b c):Tp a b c:=by
 obtain⟨h,f,d,i⟩:=g;exact⟨h,f,d,J⟩
def vO.eq{e:Nat}{b:List Int}{a:Nat}{c d:H}(j:vO e b a c)(h:d.get a=c.get a):vO e b a d:=by
 obtain⟨k,i,g,f⟩:=j;exact⟨k,i,by rw[h];exact g,f⟩
def vO.le{d e:Nat}{a:List Int}{b:Nat}{c:H}(g:vO d a b c)(k:e<=d):vO e a b c:=by
 obtain⟨h,i,f,j⟩:=g;exact⟨h,i,f,J⟩
structure K9 where
 (L:List Int) (b p:Nat) (n:Int)
def H7(a:K9)(d:List T)(c:H):Prop:=d=[.ptr a.b 0 0 0,Z a.n]/\vO a.p a.L a.b c/\il 0 c/\1<=a.n/\a.n<=100/\okB a.L
def M8(a:K9)(g:List T)(e:H)(f:T)(c:H):Prop:=∃d:Nat,f= Z d/\(d:Int)<a.n/\vO (a.p+1) a.L a.b c/\Sm a.b e c
abbrev kJ:li:=jM K9 H7 M8
def S9:kJ.Ok prog cx 77:=by
 refine jB (tb:=⟨pt [],ht []⟩) iR iE (iX 262163 [] func77) (λ_ _=>5) (λG a h A=>by obtain⟨rfl,_⟩:=A;simp[f77]) ?_;rintro⟨b,f,H,g⟩ _ h ⟨rfl,⟨i,d,e,B⟩,r,y,z,s,o⟩ I p;simp only at e B y z s o;simp at p;obtain⟨j,n⟩:=p;simp[f77,j,n,e];refine ej (λk=>?_) (λk=>?_)
 ·simp at k;simp;exact⟨0,dy,dA,⟨i,d,by rw[fV,ik];exact e,dA⟩,Sm.out (Sm.refl r.hr)⟩
 ·simp at k;have D:IntKind.i64.wrap (d+1)=d+1:=by rw[<-jA];exact jH J J
  have E:IntKind.i64.wrap d=d:=by rw[<-jA];exact jH J J
  have C:Sm f (hr h) _:=(Sm.refl r.hr).put (x:=(dE 2 i [.agg [sl (b.map (T.int .u8)),Z d]])) (by rw[ik];exact e) (dE 2 (i+1) [.agg [sl (b.map (T.int .u8)),Z (d+1)]]);have m:(dZ (hr h) f (dE 2 (i+1) [.agg [sl (b.map (T.int .u8)),Z (d+1)]])).get f=_:=(dN (h:=hr h) (by rw[ik];exact e) _ f).trans (ar rfl);simp[j,e,oG,dX,D];generalize dZ (hr h) f _=F at*
  obtain⟨c,rfl⟩:∃c:Nat,d=c:=⟨d.toNat,J⟩;have q:c<b.length:=J;have t:=o b[c] (aF q);have u: -9223372036854775808<=b[c]:=J;have v:b[c]<9223372036854775808:=J;have t0:=Int.tmod_nonneg g t.1;have t1:=Int.tmod_lt_of_pos b[c] (show 0<g by omega);simp[j,n,m,qS,E,q,u,v,CZ (a:=b[c]) (show¬g=0 by omega)];have⟨l,w⟩:∃l:Nat,b[c].tmod g=l:=⟨(b[c].tmod g).toNat,J⟩;exact⟨l,by rw[w],dA,⟨_,_,by rw[fV];exact m,dA⟩,Sm.out C⟩
structure tM(p:Nat)(L:List Int)(b:Nat)(h h':H):Prop where
 w:Tw L b h h'
 g:vO p L b h'
def tM.refl{d:Nat}{b:List Int}{c:Nat}{a:H}(f:il 0 a)(e:vO d b c a):tM d b c a a:=⟨Tw.refl f e.tp,e⟩
def tM.le{e f:Nat}{a:List Int}{b:Nat}{c d:H}(h:tM e a b c d)(i:f<=e):tM f a b c d:=⟨h.w,h.g.le i⟩
theorem tM.cons{e:Nat}{a:List Int}{b:Nat}{c d:H}(w:tM e a b c d)(f:iY):tM e a b c (d.cons f):=⟨w.w.cons f,w.g.eq (by rw[dS,aq (by have:=w.w.tp.lt;omega)])⟩
theorem tM.put{h:Nat}{e:List Int}{b:Nat}{a d:H}(i:tM h e b a d){c:Nat}{x:iY}(f:d.get c=some x)(l:a.size<=c)(k:b<a.size)(j:iY):tM h e b a (dZ d c j):=⟨i.w.put f l k j,i.g.eq (by rw[dN f,aq J])⟩
def tM.call{h f:Nat}{b:List Int}{a:Nat}{d e c:H}(j:tM h b a d e)(i:Sm a e c)(g:vO f b a c):tM f b a d c:=⟨j.w.call i g.tp,g⟩
def tM.cut{h:Nat}{e:List Int}{c:Nat}{a b:H}(d:tM h e c (TI.hr a) b)(p:il 0 a)(f:c<a.size){j l:T}{i:T->H->Prop}(m:∃k,jn b a.size j=some k/\cn k=l)
 (o:Sm c a (u9 a b)->vO h e c (u9 a b)->i l (u9 a b)):yK a j b i:=d.w.cut p f m λq _=>o q (d.g.eq (z9 d.w.ok.hp d.w.size f))
def QH{tb:fJ}{g:Nat}{e:List Int}{a:Nat}{c:H}(ht:tb.h 77=some kJ)(s:vO g e a c)(n:il 0 c)(m:okB e)(b:Int)(k:1<=b)(l:b<=100):∃(f:Nat) (d:H),hl prog cx tb 77 [.ptr a 0 0 0,Z b] c=some (Z f,d)/\(f:Int)<b/\vO (g+1) e a d/\Sm a c d:=by
 have i:H7 ⟨e,a,g,b⟩ [.ptr a 0 0 0,Z b] c:=⟨rfl,s,n,k,l,m⟩;have⟨_,d,j,o⟩:=FU ht S9 ⟨_,i⟩;obtain⟨f,rfl,p,q,r⟩:=o _ i;exact⟨f,d,j,p,q,r⟩
def wF:List Int:=[3,3,3,3,3,4,4,4,4,4,5,5,5,6,6,6,7,7,7,8,9,10,11,12,13,14,14,15,16,16,17,17,18,18,19,20,1,1,2,21,22,23,23]
def uN:gG:=⟨Unit,λ_=>[],λ_=>True,λ_=>sl (wF.map (T.int .i64)),λ_ _ _=>rfl⟩
def Td:uN.Ok prog cx 121:=by
 refine fZ [] (iX 1 [] func121) (λ_=>5) (by simp[uN]) ?_;rintro _ _ b a;simp[uN]at a|-;simp[f121,ig,wF]
def _root_.Go.TI.Xt.Gv{d b:H}{f g:T}{e:Nat}{c:List T}(a:Xt d f e c g b):il 0 b:=⟨a.2.2.2.hp,a.2.2.2.low,ax _⟩
def _root_.Go.TI.Xt.Ur{i e:H}{j k:T}{d:List Int}(c:Xt i j 1 (d.map (T.int .i64)) k e)(g:Int)(m:d.length<=1000000):∃a b,iU cx (e.cons (dE 1 0 [Z g])) 39 39 k (.arr e.size 0 0 1 false)=some (.val a b)/\a.iy=true/\a.cells=[a]/\Xt i j 1 ((d++[g]).map (T.int .i64)) a b:=by
 have⟨a,b,l,h⟩:=c.1.mn (cx:=cx) (f:=T.int .i64) c.Gv j9 rfl mY rfl dy (λ_=>rfl) g dz;exact⟨a,b,l,h.1.iy,h.1.cells,c.trans h⟩
def zj:nS prog cx 169 (λa:eQ=>[a.t]) (λa=>a.fj.dH.length<=1000) (λa A=>∃v:List Int,A=sl (v.map (T.int .i64))/\v.length<=a.fj.dH.length):=by
 refine jh [] (iX 134975 [] func169) (λa=>a.fj.dH.length+5) (λC b e=>by simp at e;exact eQ.inj e) ?_;rintro a hl d r;simp at r;simp[f169,r];generalize q:H.cons hE _=m;have x:m.get 0=some (dE 7 0 [a.t]):=by subst q;simp
 have o:il 1 m:=by subst q;exact⟨dy,dy,dy⟩
 refine fD a.fj.dH.length J (λi d e=>dF d 1 (.ptr 0 0 0 0)/\dF d 8 (sl (a.fj.dH.map dJ.t))/\dF d 9 (Z a.fj.dH.length)/\dF d 10 (Z i)/\∃(l:T) (f:List Int),dF d 3 l/\Xt m dD 1 (f.map (T.int .i64)) l e/\f.length<=i) ?_ ?_ J ⟨dy,dy,dy,dy,dD,[],dy,Xt.refl (Gr.nil _ _) ⟨o.hp,o.low,ax _⟩,aw _⟩
 ·rintro i d e z s ⟨n,k,h,g,l,f,j,c,u⟩;have L:=o.sz;have D:=(c.2.1 0 J dy).trans x;have w:il 1 e:=⟨c.2.2.2.hp,c.2.2.2.low,by have:=c.2.2.2.sz;omega⟩;have F:=w.ne (b:=0) J;simp[k,h,g,z,w.low];refine ej (λy=>?_) (λy=>?_)
  ·have⟨K,E,p,G,I,B⟩:=(c.cons (dE 3 1 [a.fj.dH[i].t])).Ur i J;rw[size_cons]at p;simp[n,j,k,h,g,s,p];exact⟨_,B,dz⟩
  ·simp[n,j,k,h,g,s];exact⟨_,c.cons _,J⟩
 ·rintro d e ⟨n,k,h,g,l,f,j,c,u⟩;simp[j,h,g,c.1.iy,c.1.rS dy,c.2.2.2.hp];exact⟨f,rfl,u⟩
structure BE where
 (L:List Int) (b p:Nat) (v:T) (ns:List Int)
def uQ(a:BE)(d:List T)(c:H):Prop:=d=[.ptr a.b 0 0 0,a.v]/\Gr c a.v 1 (a.ns.map (T.int .i64))/\dT a.v≠some a.b/\vO a.p a.L a.b c/\il 0 c/\okB a.L/\a.ns.length<=1000
def us(a:BE)(g:List T)(e:H)(f:T)(c:H):Prop:=∃d:List Int,f=sl (d.map (T.int .i64))/\d.length<=a.ns.length/\vO a.p a.L a.b c/\Sm a.b e c
def tM.xt{m:Nat}{k:List Int}{b:Nat}{c e f:H}{n t:T}{s:Nat}{o:List T}(d:tM m k b c e)(j:Xt e n s o t f)(q:∀a,dT n=some a->c.size<=a)(l:b<c.size):tM m k b c f:=by
 have u:=d.w.size;have i:∀a,a<c.size->f.get a=e.get a:=λa h=>j.2.1 a J λr=>by have:=q a r;omega
 exact⟨⟨j.Gv,by have:=j.2.2.2.sz;omega,λa h p=>(i a h).trans (d.w.get a h p),d.w.tp.eq (i b l)⟩,d.g.eq (i b l)⟩
def _root_.Go.TI.FT.aej{c:H}{o:Nat->Prop}{g p:Nat}(l:p<=12)(s:∀a,o a->g<=a){b n:T}(ft:FT c o p b n)(r:∀i,b≠ .agg i)(w:∀i,b≠ .tuple i):∃k,jn c g b=some k/\cn k=n:=by
 have q:=(ft.deep l).fzN s;have u:(dV (iP c 0 b) λb=>some (cn b))=some n:=(ft.deep l).fz;have v:jn c g b=iP c 0 b:=by
  rcases ft.deep l with⟨z,m,rfl⟩|⟨a,d,h,f,e,C,D,rfl,y,E,x,rfl⟩|⟨i,B,rfl,x,rfl⟩
  ·cases b<;>first|exact(r _ rfl).elim|exact q|(simp[j2]at z)|exact(w _ rfl).elim
  ·have m:∀j,iP c j (.arr a d h f e)=(Bool.casesOn (Nat.ble j a) (some (.arr a d h f e)) (TI.freeze c j 12 (.arr a d h f e)):aa T):=λj=>rfl;show iP c g (.arr a d h f e)=iP c 0 (.arr a d h f e);rw[m,m,show Nat.ble g a=true from bR (s a y),show Nat.ble 0 a=true from bR (ax a),q]
  ·exact absurd rfl (r _)
 rw[<-v]at u;have⟨k,A,t⟩:=dI.1 u;simp only[au]at t;exact⟨k,A,t⟩
def xE{c g h:Type}{d:g->h->Prop}{e:c->g}{f:c->h}{a:List c}(i:∀b,d (e b) (f b)):iM d (a.map e) (a.map f):=by
 induction a with
 |nil=>exact .nil
 |cons b a j=>exact .cons (i b) j
def _root_.Go.TI.Gr.aaE{l:Type}{a:l->T}{b:H}{h:T}{s g d:Nat}{j:List l}(f:Gr b h s (j.map a))(v:d<=11)(q:∀i,dT h=some i->g<=i)(p:∀c b V,FT b V d (a c) (a c)):∃k,jn b g h=some k/\cn k=sl (j.map a):=
 (f.ft (V:=λe=>g<=e) (d:=d) q (xE λc=>p c _ _)).aej J (λ_ r=>r) (λm=>by rcases f with⟨rfl,_⟩|⟨e,n,t,o,u,rfl,_⟩<;>simp) (λm=>by rcases f with⟨rfl,_⟩|⟨e,n,t,o,u,rfl,_⟩<;>simp)
def WI:(jM BE uQ us).Ok prog cx 124:=by
 refine rC (tb:=⟨pt [],ht [(77,kJ)]⟩) iR iE (iX 16781299 [] func124) (λ_ _=>1005) (λi a o aE=>by obtain⟨rfl,_⟩:=aE;simp[f124]) ?_;rintro⟨U,r,R,E,y⟩ _ o ⟨rfl,v,P,D,Q,L,hl⟩ e M;simp only at v P D L hl;simp at M;obtain⟨h,f⟩:=M;have N:=D.tp.lt;simp[f124,f,v.len];refine fD y.length J (λi e s=>dF e 0 (.ptr r 0 0 0)/\dF e 1 E/\dF e 8 E/\dF e 9 (Z y.length)/\dF e 10 (Z i)/\tM R U r (TI.hr o) s/\∃(l:T) (n:List Int),dF e 5 l/\Gr s l 1 (n.map (T.int .i64))/\(∀b,dT l=some b->o.size<=b)/\n.length<=i) ?_ ?_ J ⟨by simp[h],by simp[f],dy,dy,dy,tM.refl Q.hr (D.eq (ik o r)),_,[],dy,Gr.nil _ _,dy,aw _⟩
 ·rintro i e s O C ⟨h,f,u,q,p,m,l,n,t,go,j,av⟩;have K:Gr s E 1 (y.map (T.int .i64)):=v.mono λb c=>by
   have⟨_,_,_,_,z,_⟩:=v.box c;exact(m.w.get b (H.fh z) λB=>P (by rw[<-B];exact c)).trans (ik o b)
  have⟨a6,a7,bC,a8,bH,_,Y,al,G⟩:=K.Bp (te:=EM) rfl (i:=i) (by simpa using O);have X:binop .add (Z (i:Int)) (Z 3)=some (Z ((i:Int)+3)):=iL J J;simp at G;simp[h,f,u,q,p,O,Y,al,G,X,K.len];have⟨k,an,ae,bn,t2,S⟩:=QH (tb:=⟨pt [],ht [(77,kJ)]⟩) dy m.g m.w.ok L 2 J J;refine Yz (λc=>?_) (λc=>?_)
  ·simp[ae,c];refine⟨_,_,⟨rfl,rfl⟩,?_⟩;have A:=(m.call S t2).le (Nat.le_succ R);have aA:dT l≠some r:=λz=>by have:=j r z;omega
   have I:Gr an l 1 (n.map (T.int .i64)):=go.mono λb c=>S.get b λB=>aA (by rw[<-B];exact c);simp;refine ej (λap=>?_) (λap=>?_)
   ·have⟨bB,bi,W,bs,bu,F⟩:=(Xt.refl I A.w.ok).Ur y[i] J;simp[h,f,t,u,q,p,W,C];exact⟨A.xt F j N,_,F.1,λb c=>(F.2.2.1 b c).elim (j b) λz=>by have:=A.w.size;simp at this;omega,dz⟩
   ·simp[h,f,t,u,q,p,C];exact⟨A,_,I,j,J⟩
  ·simp[c];refine⟨_,_,⟨rfl,rfl⟩,?_⟩;simp[h,f,t,u,q,p,C];exact⟨m,_,go,j,J⟩
 ·rintro e s ⟨h,f,u,q,p,m,l,n,t,go,j,av⟩;simp[t,q,p];exact m.cut Q N (go.aaE (d:=1) J j λx o V=>gW ..) λaN aX=>⟨n,rfl,dA,aX,aN⟩
structure UB where
 (L:List Int) (b p:Nat) (x0 x1 x2 x3 x4 x5 v:T) (K:List Int)
def qy(a:UB)(d:List T)(c:H):Prop:=d=[.ptr a.b 0 0 0,.agg [a.x0,a.x1,a.x2,a.x3,a.x4,a.x5,a.v]]/\vO a.p a.L a.b c/\il 0 c/\okB a.L/\a.K.length<=98/\Gr c a.v 1 (a.K.map (T.int .i64))/\dT a.v≠some a.b/\(T.agg [a.x0,a.x1,a.x2,a.x3,a.x4,a.x5,a.v]).iy=true
def oI(a:UB)(g:List T)(e:H)(f:T)(d:H):Prop:=∃c:Int,f= Z c/\-1<=c/\c<a.K.length/\vO a.p a.L a.b d/\Sm a.b e d
def wP{g:Nat}{d:List Int}{c:Nat}{a b:H}(l:tM g d c (TI.hr a) b)(k:il 0 a)(i:c<a.size){e:ak}{f:Int}{h:T->H->Prop}
 (j:Sm c a (u9 a b)->vO g d c (u9 a b)->h (.int e f) (u9 a b)):yK a (.int e f) b h:=l.cut k i ⟨_,rfl,rfl⟩ j
def LG:(jM UB qy oI).Ok prog cx 78:=by
 refine rC (tb:=⟨pt [],ht [(77,kJ)]⟩) iR iE (iX 4194363 [] func78) (λ_ _=>5) (λi a c an=>by obtain⟨rfl,_⟩:=an;simp[f78]) ?_;rintro⟨P,j,M,p,r,s,t,u,v,k,b⟩ _ c ⟨rfl,n,L,E,hl,e,K,l⟩ bs F;simp only at n E hl e K l;simp at F;obtain⟨B,C⟩:=F;have W:=n.tp.lt;have a7:(j=c.size)=False:=dz;have o:=(tM.refl L.hr (n.eq (ik c j))).cons (dE 7 0 [.agg [p,r,s,t,u,v,k]]);have⟨d,D,z,a8,t2,N⟩:=QH (tb:=⟨pt [],ht [(77,kJ)]⟩) dy o.g o.w.ok E (b.length+2) J J;have O:=(o.call N t2).le (Nat.le_succ M);have S:=(N.get c.size J).trans (by rw[dS,oq,ar rfl]);have x:binop .add (Z (b.length:Int)) (Z 2)=some (Z ((b.length:Int)+2)):=iL J J;have fin:∀h:Int,-1<=h->h<b.length->yK c (Z h) D (oI ⟨P,j,M,p,r,s,t,u,v,k,b⟩ [.ptr j 0 0 0,.agg [p,r,s,t,u,v,k]] c):=λh ap av=>wP O L W λaA aE=>⟨h,rfl,ap,av,aE,aA⟩;have bi:=e.cells;have I:=e.len (cx:=cx);by_cases Y:(d:Int)-2<0
 ·have m:binop .sub (Z (d:Int)) (Z 2)=some (Z ((d:Int)-2)):=Fh rfl J J;simp[f78,B,C,x,z,m,Y,l,I];exact fin _ J J
 have⟨f,al⟩:∃f:Nat,(d:Int)-2=f:=⟨d-2,J⟩;have m:binop .sub (Z (d:Int)) (Z 2)=some (Z (f:Int)):=Fh al J J;have ae:f<b.length:=J;have V:Gr D k 1 (b.map (T.int .i64)):=e.mono λy G=>by
  have⟨_,_,_,_,q,_⟩:=e.box G;have:=H.fh q;exact(O.w.get y (by simpa using this) λQ=>K (by rw[<-Q];exact G)).trans (ik c y)
 have⟨aN,aX,bn,a6,bu,_,R,U,A⟩:=V.Bp (te:=EM) rfl (i:=f) (by simpa using ae);simp at A;simp[f78,B,C,x,z,m,S,l,I,R,U,A];refine ej (λX=>?_) (λX=>?_)
 ·simp;exact fin _ J J
 ·simp;exact fin _ J J 
def tM.next{tb:fJ}{k:Nat}{e:List Int}{c:Nat}{j f:H}(i:tM k e c j f)(ht:tb.h 77=some kJ)(o:okB e)(b:Int)(n:1<=b)(a:b<=100):
 ∃(d:Nat) (a:H),hl prog cx tb 77 [.ptr c 0 0 0,Z b] f=some (Z d,a)/\(d:Int)<b/\tM (k+1) e c j a/\Sm c f a:=by
 obtain⟨d,a,m,p,t2,l⟩:=QH ht i.g i.w.ok o b n a;exact⟨d,a,m,p,i.call l t2,l⟩
structure Jr where
 (L:List Int) (b p:Nat) (k t:Int)
def Az(a:Jr)(d:List T)(c:H):Prop:=d=[.ptr a.b 0 0 0,Z a.k,Z a.t]/\vO a.p a.L a.b c/\il 0 c/\okB a.L/\0<=a.t/\a.t<4/\1<=a.k/\a.k<=23
def tj(a:Jr)(g:List T)(e:H)(f:T)(d:H):Prop:=∃c:Int,f= Z c/\-1<=c/\(a.k=3\/a.k=4->0<=c/\c<5)/\vO a.p a.L a.b d/\Sm a.b e d
def abd:(jM Jr Az tj).Ok prog cx 122:=by
 refine rC (tb:=⟨pt [],ht [(77,kJ)]⟩) iR iE (iX 8659206599 [] func122) (λ_ _=>5) (λQ a e I=>by obtain⟨rfl,_⟩:=I;simp[f122]) ?_;rintro⟨m,b,j,c,f⟩ _ e ⟨rfl,v,q,x,K,L,F,G⟩ R y;simp only at v x K L F G;simp at y;obtain⟨p,n,E⟩:=y;have z:=v.tp.lt;have g:=tM.refl q.hr (v.eq (ik e b));have o:=λ{i:H} (g:tM j m b (TI.hr e) i)=>g.next (tb:=⟨pt [],ht [(77,kJ)]⟩) dy x;have fin:∀(i:H) (d:Int),tM (j+1) m b (TI.hr e) i->-1<=d->(c=3\/c=4->0<=d/\d<5)->yK e (Z d) i (tj ⟨m,b,j,c,f⟩ [.ptr b 0 0 0,Z c,Z f] e):=λi d g r P=>wP (g.le (Nat.le_succ j)) q z λs u=>⟨d,rfl,r,P,u,s⟩;by_cases B:c=3\/c=4
 ·obtain⟨k,C,h,A,l,t⟩:=o (g.cons (dE 1 0 [Z 0,Z 0,Z 0,Z 1,Z 1,Z 2,Z 3,Z 4])) 8 J J;have w:=(t.get e.size J).trans (by rw[dS,oq,ar rfl]);rcases B with rfl|rfl<;>simp[f122,p,n,h,w]<;>rcases(by omega:k=0\/k=1\/k=2\/k=3\/k=4\/k=5\/k=6\/k=7)with rfl|rfl|rfl|rfl|rfl|rfl|rfl|rfl<;>simp[w]<;>exact fin _ _ l J J
 by_cases N:c=6\/c=7
 ·obtain⟨k,C,h,A,l,t⟩:=o g 2 J J;rcases N with rfl|rfl<;>simp[f122,p,n,h]<;>exact fin _ _ l J J
 by_cases M:c=20\/c=21
 ·obtain⟨k,C,h,A,l,t⟩:=o g 3 J J;have a1:binop .add (Z f) (Z 1)=some (Z (f+1)):=Ah rfl J J;have a2:binop .add (Z (f+1)) (Z (k:Int))=some (Z (f+1+k)):=Ah rfl J J;have a3:=CZ (k:= .i64) (a:=f+1+k) (b:=4) J;have t0:=Int.tmod_nonneg 4 (show 0<=f+1+k by omega);rcases M with rfl|rfl<;>simp[f122,p,n,E,h,a1,a2,a3]<;>exact fin _ _ l J J
 have D:∀d:Int,-1<=d->yK e (Z d) (TI.hr e) (tj ⟨m,b,j,c,f⟩ [.ptr b 0 0 0,Z c,Z f] e):=λd r=>wP g q z λs u=>⟨d,rfl,r,λO=>(B O).elim,u,s⟩;rcases(by omega:c=1\/c=2\/c=5\/c=8\/c=9\/c=10\/c=11\/c=12\/c=13\/c=14\/c=15\/c=16\/c=17\/c=18\/c=19\/c=22\/c=23)with rfl|rfl|rfl|rfl|rfl|rfl|rfl|rfl|rfl|rfl|rfl|rfl|rfl|rfl|rfl|rfl|rfl<;>simp[f122,n]<;>exact D _ J 
structure Jp where
 (L:List Int) (b p:Nat) (s:eQ) (k o:Int)
def Ay(a:Jp)(d:List T)(c:H):Prop:=d=[.ptr a.b 0 0 0,a.s.t,Z a.k,Z a.o]/\vO a.p a.L a.b c/\il 0 c/\okB a.L/\(a.k=3->0<=a.o/\a.o<a.s.cells.length)/\1<=a.s.ee.length/\a.s.fj.dH.length<=98
def tg(a:Jp)(g:List T)(d:H)(e:T)(c:H):Prop:=∃f:Int,e= Z f/\vO a.p a.L a.b c/\Sm a.b d c
def X1{tb:fJ}(ht:tb.p 169=some zj.jv){s:eQ}(c:s.fj.dH.length<=1000):∃a:List Int,a.length<=s.fj.dH.length/\rl prog cx tb 169 [s.t]=some (sl (a.map (T.int .i64))):=by
 obtain⟨_,⟨a,rfl,hl⟩,b⟩:=zj.use s c;exact⟨a,hl,b ht⟩
def aa8:(jM Jp Ay tg).Ok prog cx 123:=by
 refine rC (tb:=⟨pt [(169,zj.jv)],ht [(77,kJ)]⟩) iR iE (iX 141296388017967 [] func123) (λ_ _=>5) (λi a c X=>by obtain⟨rfl,_⟩:=X;simp[f123]) ?_;rintro⟨p,d,n,s,b,g⟩ _ c ⟨rfl,C,z,E,v,T,Y⟩ av F;simp only at C E v T Y;simp at F;obtain⟨u,k,l,S⟩:=F;have G:=C.tp.lt;have o:=(tM.refl z.hr (C.eq (ik c d))).cons (dE 7 0 [s.t]);have q:=o.next (tb:=⟨pt [(169,zj.jv)],ht [(77,kJ)]⟩) dy E;have j:∀e:Int,yK c (Z e) _ (tg ⟨p,d,n,s,b,g⟩ [.ptr d 0 0 0,s.t,Z b,Z g] c):=λe=>wP o z G λA B=>⟨e,rfl,B,A⟩;have fin:∀(r:H) (e:Int),tM (n+1) p d (TI.hr c) r->yK c (Z e) r (tg ⟨p,d,n,s,b,g⟩ [.ptr d 0 0 0,s.t,Z b,Z g] c):=λr e o=>wP (o.le (Nat.le_succ n)) z G λA B=>⟨e,rfl,B,A⟩;have ap:(d=c.size)=False:=dz;by_cases x:b=3
 ·obtain⟨y,V⟩:∃y:Nat,g=y:=⟨g.toNat,by have:=v x;omega⟩;have W:y<s.cells.length:=by have:=v x;omega
  subst x;subst V;simp[f123,k,l,S,W];exact j _
 by_cases ae:b=23
 ·subst ae;simp[f123,k,l,show 0<s.ee.length by omega];exact j _
 by_cases al:b=4\/b=22
 ·obtain⟨w,M,h,I,m,L⟩:=q 3 J J;rcases al with rfl|rfl<;>simp[f123,u,k,l,h]<;>exact fin _ _ m
 by_cases an:b=5
 ·obtain⟨w,M,h,I,m,L⟩:=q 2 J J;subst an;simp[f123,u,k,l,h];exact fin _ _ m
 have P:decide (b=3)=false:=aM J;have O:decide (b=23)=false:=aM J;have Q:decide (b=4)=false:=aM J;have N:decide (b=22)=false:=aM J;have R:decide (b=5)=false:=aM J;obtain⟨K,hl,D⟩:=X1 (tb:=⟨pt [(169,zj.jv)],ht [(77,kJ)]⟩) dy (s:=s) J;simp[f123,k,l,P,O,Q,N,R];refine ej (λf=>?_) (λf=>?_)
 ·simp[D];refine ej (λf=>?_) (λf=>?_)
  ·obtain⟨w,M,h,I,m,L⟩:=q K.length (by simp at f;omega) J;have U:w<K.length:=J;simp[u,h,U];exact fin _ _ m
  ·simp;exact j _
 simp;refine ej (λf=>?_) (λf=>?_)
 ·simp[D];exact j _
 ·simp;exact j _
section
def _root_.Go.TI.ny.copy{h a:H}{i w0 g q k:Nat}{c:List (T×aa (Nat×List T))}(f:ny h i g q c)(p:il 0 a)(n:a.get w0=some (dE g k [.agg (c.map (·.1))]))(o:∀e,Fp h i e->a.get e=h.get e):ny a w0 g k c:=by
 refine⟨p,n,λl j=>?_,f.VI⟩;have:=f.TK l j;unfold Yv at this|-;split at this
 ·exact this
 ·exact⟨this.1.mono λb m=>o b (f.Cu j m),this.2⟩
structure BF where
 (ver:Nat) (tx:Int) (c:Nat->T) (E:Nat->List T)
def BF.F(d:BF):List (T×aa (Nat×List T)):=[(d.c 0,some (2,d.E 0)),(Z d.tx,none),(d.c 2,some (1,d.E 2)),(d.c 3,some (3,d.E 3)),(d.c 4,some (1,d.E 4)),(d.c 5,some (1,d.E 5)),(d.c 6,some (1,d.E 6))]
def BF.OQ(d:BF)(f:Nat)(e:List T):BF:=⟨d.ver,d.tx,d.c,λa=>if a=f then e else d.E a⟩
def Zu(a:Nat):Nat:=if a=0 then 3 else if a=3\/a=6 then 4 else if a=4 then 5 else 1
def Yj(a:Nat):Nat:=if a=0 then 2 else if a=3 then 3 else 1
def RvP(h:H)(w0:Nat)(y:H)(e:T):Prop:=e= dD\/∃(a:Nat) (c:Int),e= .arr a 0 0 1 false/\y.get a=some (dE 1 0 [Z c])/\0<=c/\c<4/\¬Fp y w0 a/\h.size<=a
def Uo(h:H)(w0:Nat)(y:H)(c:Nat)(a:T):Prop:=
 if c=0 then∃(g:Int) (f:T),a= .agg [Z g,f]/\RvP h w0 y f
 else if c=2 then∃b,a= .bool b
 else if c=3 then∃i:dJ,a=i.t
 else∃e:Int,a= Z e/\(c=6->0<=e/\e<=4)
structure An(L:List Int)(b:Nat)(h:H)(w0:Nat)(d:BF)(y:H):Prop where
 s:ny y w0 7 d.ver d.F
 tw:tM 0 L b (TI.hr h) y
 fp:∀c,Fp y w0 c->h.size+2<=c
 rb:y.get (h.size+1)=some nO
 ln:∀k,(d.E k).length=Zu k
 pr:∀k,∀e∈d.E k,Uo h w0 y k e
variable {L:List Int}{b:Nat}{h y y2:H}{w0:Nat}{d:BF}
def An.Om(a:An L b h w0 d y):h.size+2<=y.size:=by have:=a.fp w0 (.inl rfl);have:=a.s.lt;omega
def An.nfr(a:An L b h w0 d y):¬Fp y w0 (h.size+1):=λc=>by have:=a.fp _ c;omega
def RvP.step{f:T}(p:RvP h w0 y f)(l:∀a,h.size<=a->a<y.size->¬Fp y w0 a->y2.get a=y.get a/\¬Fp y2 w0 a):RvP h w0 y2 f:=by
 rcases p with o|⟨g,q,rfl,c,i,j,k,e⟩
 ·exact .inl o
 ·have⟨m,n⟩:=l g e (H.fh c) k;exact .inr ⟨g,q,rfl,m.trans c,i,j,n,e⟩
def Uo.step{g:Nat}{f:T}(c:Uo h w0 y g f)(i:∀a,h.size<=a->a<y.size->¬Fp y w0 a->y2.get a=y.get a/\¬Fp y2 w0 a):Uo h w0 y2 g f:=by
 unfold Uo at c|-;split
 ·rename_i e;rw[ar e]at c;obtain⟨j,m,k,l⟩:=c;exact⟨j,m,k,l.step i⟩
 ·rename_i e;rw[aq e]at c;exact c
def Gw(e:Step w0 y y2):∀a,h.size<=a->a<y.size->¬Fp y w0 a->y2.get a=y.get a/\¬Fp y2 w0 a:=λa _ f c=>⟨e.get a f c,λg=>(e.fp a g).elim c λi=>by omega⟩
def An.tape(c:An L b h w0 d y)(e:Sm b y y2)(n:vO 0 L b y2)(q:b<h.size):An L b h w0 d y2:=by
 have i:∀a,Fp y w0 a->a≠b:=λa f j=>by have:=c.fp a f;omega
 have g:=λa=>iT (e.get w0 (i w0 (.inl rfl))) a;exact⟨e.iv c.s λj=>i b j rfl,c.tw.call e n,λa f=>c.fp a (by rw[g]at f;exact f),(e.get _ J).trans c.rb,c.ln,λm o l=>(c.pr m o l).step λa p _ k=>⟨e.get a J,by rw[g];exact k⟩⟩
theorem An.cons(a:An L b h w0 d y)(c:iY):An L b h w0 d (y.cons c):=by
 have e:=Step.cons a.s.ok a.s.lt c;exact⟨a.s.cons c,a.tw.cons c,λf i=>(e.fp f i).elim (a.fp f) λl=>by have:=a.Om;omega,(e.get _ (by have:=a.Om;omega) a.nfr).trans a.rb,a.ln,λk g j=>(a.pr k g j).step (Gw e)⟩
def An.st(e:An L b h w0 d y)(z:b<h.size)(a:Nat)(u:d.F[a]? =some (d.c a,some (Yj a,d.E a))){k p v:Nat}{q:Bool}{w:List T}(r:dT (d.c a)=some k)(t:y.get k=some ⟨Yj a,p,v,q,false,w⟩)(i:Nat)(g:T)
 (x:(d.OQ a ((d.E a).set i g)).F=d.F.set a (d.c a,some (Yj a,(d.E a).set i g))) (C:Uo h w0 y a g):An L b h w0 (d.OQ a ((d.E a).set i g)) (dZ y k ⟨Yj a,p,v+1,q,false,w.set i g⟩):=by
 obtain⟨n,sl⟩:=e.s.elem a u r t i g;have B:=e.s.Cu (ay u) r;refine⟨by rw[x];exact sl,e.tw.put t (by have:=e.fp k B;simp;omega) (by simpa using z) _,λo A=>(n.fp o A).elim (e.fp o) λl=>by have:=e.Om;omega,(n.get _ (by have:=e.Om;omega) e.nfr).trans e.rb,λf=>?_,λf m j=>?_⟩
 ·show(if f=a then _ else _:List T).length=_;split
  ·rename_i l;subst l;rw[cR];exact e.ln f
  ·exact e.ln f
 ·have j:m∈(if f=a then(d.E a).set i g else d.E f):=j;refine Uo.step ?_ (Gw n);split at j
  ·rename_i l;subst l;rcases cm j with D|rfl
   ·exact e.pr _ m D
   ·exact C
  ·exact e.pr f m j
def An.tx(a:An L b h w0 d y)(j:b<h.size)(e:Int):An L b h w0 ⟨d.ver+1,e,d.c,d.E⟩ (dZ y w0 ⟨7,0,d.ver+1,true,false,[.agg [d.c 0,Z e,d.c 2,d.c 3,d.c 4,d.c 5,d.c 6]]⟩):=by
 have⟨f,sl⟩:=a.s.aep 1 (v':= Z e) dy ⟨_,rfl⟩ _ rfl;exact⟨sl,a.tw.put a.s.get (by have:=a.fp w0 (.inl rfl);simp;omega) (by simpa using j) _,λg k=>(f.fp g k).elim (a.fp g) λn=>by have:=a.Om;omega,(f.get _ (by have:=a.Om;omega) a.nfr).trans a.rb,a.ln,λm i l=>(a.pr m i l).step (Gw f)⟩
def uW{i:Type}{f:i->T}{P:i->Prop}:∀{e:List T},(∀c∈e,∃a,c=f a/\P a)->∃g:List i,e=g.map f/\∀a∈g,P a:=by
 intro e;induction e with
 |nil=>intro _;exact⟨[],rfl,dy⟩
 |cons c e m=>
  intro h;obtain⟨a,rfl,l⟩:=h c dy;obtain⟨g,rfl,j⟩:=m λc k=>h c (by simp[k]);exact⟨a::g,rfl,by simpa[l]using j⟩
def An.ld(i:An L b h w0 d y)(a:Nat)(r:d.F[a]? =some (d.c a,some (Yj a,d.E a))){te:Ty}(u:te.size=Yj a){j:Nat}(t:j<Zu a):∃e f l k g m,dT (d.c a)=some e/\kK y te (d.c a) j=some (.val (.ptr e f j 0) y)/\y.get e=some ⟨Yj a,f,l,k,false,g⟩/\g[j]? =some m/\Uo h w0 y a m:=by
 have hE:j<(d.E a).length:=by rw[i.ln];exact t
 have⟨e,f,l,k,g,q,n,p,o⟩:=(i.s.gr a r).Bp (te:=te) u (i:=j) hE;exact⟨e,f,l,k,g,_,q,n,p,o,i.pr a _ (aF hE)⟩
end
section
attribute [-simp] size_cons
structure IBg where
 (L:List Int) (b:Nat)
def Vo(a:IBg)(d:List T)(c:H):Prop:=d=[.ptr a.b 0 0 0,jt.t]/\vO 0 a.L a.b c/\il 0 c/\okB a.L
structure Hz(s:eQ):Prop where
 n:s.fj.ei.length=3/\s.fj.done.length=1/\s.fj.dH.length=4/\s.cells.length=5/\s.ee.length=1/\s.count.length=4
 c:∀c∈s.count,0<=c/\c<=4
 r:∀l∈s.fj.ei,l.ew.length<=1/\∀x∈l.ew,0<=x/\x<4
def J2(a:IBg)(g:List T)(e:H)(f:T)(c:H):Prop:=∃d:eQ,f=d.t/\Hz d/\vO 0 a.L a.b c/\Sm a.b e c
def RR{e:Type}{f:e->T}{R:T->T->Prop}{P:e->Prop}:∀{c:List T},(∀b∈c,∃a,R b (f a)/\P a)->∃d:List e,iM R c (d.map f)/\∀a∈d,P a:=by
 intro c;induction c with
 |nil=>intro _;exact⟨[],.nil,dy⟩
 |cons b c k=>
  intro g;have⟨a,hr,j⟩:=g b dy;have⟨d,hl,h⟩:=k λb i=>g b (by simp[i]);exact⟨a::d,.cons hr hl,by simpa[j]using h⟩
def An.fin{w:List Int}{p:Nat}{g n:H}{bC:Nat}{d:BF}(b:An w p g bC d n)(bn:il 0 g)(G:p<g.size)(k:iY)(an:List T):yK g (.agg [d.c 0,Z d.tx,d.c 2,d.c 3,d.c 4,d.c 5,d.c 6]) (dZ n (g.size+1) k) (J2 ⟨w,p⟩ an g):=by
 have D:=λe=>dN b.rb k e;have l:∀(f u:Nat),d.F[f]? =some (d.c f,some (u,d.E f))->Gr (dZ n (g.size+1) k) (d.c f) u (d.E f)/\∀e,dT (d.c f)=some e->g.size<=e:=λf u I=>by
  have C:=λe (o:dT (d.c f)=some e)=>b.fp e (b.s.Cu (ay I) o);exact⟨(b.s.gr f I).mono λe o=>by rw[D,aq (by have:=C e o;omega)],λe o=>by have:=C e o;omega⟩
 obtain⟨ae,a0,p0⟩:=RR (f:=dR.t) (R:=FT (dZ n (g.size+1) k) (λe=>g.size<=e) 3) (P:=λm=>m.ew.length<=1/\∀a∈m.ew,0<=a/\a<4) λi j=>by
  obtain⟨S,b6,rfl,a7⟩:=b.pr 0 i j;rcases a7 with rfl|⟨a,v,rfl,r,bH,bN,bS,bT⟩
  ·exact⟨⟨S,[]⟩,.inr (.inr ⟨_,_,rfl,.cons (gW ..) (.cons (jl ..) .nil),rfl⟩),dy⟩
  ·have a8:a≠g.size+1:=λh=>by rw[h,b.rb]at r;simp[nO]at r
   have a6:Gr (dZ n (g.size+1) k) (.arr a 0 0 1 false) 1 ([v].map (T.int .i64)):= .inr ⟨a,0,0,true,[Z v],rfl,by rw[D,aq a8];exact r,rfl⟩;exact⟨⟨S,[v]⟩,.inr (.inr ⟨_,_,rfl,.cons (gW ..) (.cons (a6.ft (d:=1) (λe h=>by simp at h;omega) (.cons (gW ..) .nil)) .nil),rfl⟩),dz⟩
 obtain⟨W,x,_⟩:=uW (f:=T.bool) (P:=λ_=>True) λi j=>by
  have⟨a,h⟩:=b.pr 2 i j;exact⟨a,h,trivial⟩
 obtain⟨al,y,_⟩:=uW (f:=dJ.t) (P:=λ_=>True) λi j=>by
  have⟨a,h⟩:=b.pr 3 i j;exact⟨a,h,trivial⟩
 obtain⟨U,z,_⟩:=uW (f:=T.int .i64) (P:=λ_=>True) λi j=>by
  have⟨a,h,_⟩:=b.pr 4 i j;exact⟨a,h,trivial⟩
 obtain⟨X,A,_⟩:=uW (f:=T.int .i64) (P:=λ_=>True) λi j=>by
  have⟨a,h,_⟩:=b.pr 5 i j;exact⟨a,h,trivial⟩
 obtain⟨Y,B,p6⟩:=uW (f:=T.int .i64) (P:=λQ=>0<=Q/\Q<=4) λi j=>by
  have⟨a,h,bs⟩:=b.pr 6 i j;exact⟨a,h,bs rfl⟩
 have l0:=b.ln 0;have l2:=b.ln 2;have l3:=b.ln 3;have l4:=b.ln 4;have l5:=b.ln 5;have l6:=b.ln 6;have lk:=a0.length;rw[x]at l2;rw[y]at l3;rw[z]at l4;rw[A]at l5;rw[B]at l6;simp[Zu]at l0 l2 l3 l4 l5 l6 lk;have⟨bi,ap⟩:=l 0 2 rfl;have⟨K,av⟩:=l 2 1 rfl;have⟨L,aA⟩:=l 3 3 rfl;have⟨M,aE⟩:=l 4 1 rfl;have⟨N,aN⟩:=l 5 1 rfl;have⟨O,aX⟩:=l 6 1 rfl;rw[x]at K;rw[y]at L;rw[z]at M;rw[A]at N;rw[B]at O;have q:∀m:List Int,iM (FT (dZ n (g.size+1) k) (λe=>g.size<=e) 3) (m.map (T.int .i64)) (m.map (T.int .i64)):=λm=>xE λa=>gW ..;exact(b.tw.put b.rb dy (by simpa using G) k).cut bn G (FT.top (V:=λe=>g.size<=e) (d:=4) J (λ_ h=>h) (.cons (bi.ft ap a0) (.cons (gW ..) (.cons (K.ft av (xE λa=>MG ..)) (.cons (L.ft aA (xE λa=> .inr (.inr ⟨a.cs,a.cs,rfl,.cons (gW ..) (.cons (gW ..) (.cons (MG ..) .nil)),rfl⟩))) (.cons (M.ft aE (q _)) (.cons (N.ft aN (q _)) (.cons (O.ft aX (q _)) .nil)))))))) λbu bB=>
  ⟨⟨⟨ae,d.tx,W,al⟩,U,X,Y⟩,rfl,⟨⟨dA,l2,l3,l4,l5,l6⟩,p6,p0⟩,bB,bu⟩
def aeH:(jM IBg Vo J2).Ok prog cx 36:=by
 refine rC (tb:=⟨pt [],ht [(77,kJ),(39,jM dY J6 JU),(78,jM UB qy oI)]⟩) iR iE (iX 39027670543808336620727472465805308762228731 [(10,[(1,4)]),(11,[(2,5)]),(27,[(1,3)]),(31,[(1,4)])] func36) (λ_ _=>10) (λy a A eM=>by obtain⟨rfl,_⟩:=eM;simp[f36]) ?_;rintro⟨W,r⟩ _ A ⟨rfl,e0,fC,bs⟩ h fv;simp only at e0 bs;simp at fv;obtain⟨i,eE⟩:=fv;have D:=e0.tp.lt;have hR:(r=A.size)=False:=dz;have hS:(r=A.size+1)=False:=dz;have bC:=((tM.refl fC.hr (e0.eq (ik A r))).cons (dE 6 0 [jt.t])).cons nO;simp[f36,eE];generalize dm:((TI.hr A).cons _).cons _=X;replace bC:tM 0 W r (TI.hr A) X:=by rw[<-dm];exact bC
 have h3:X.size=A.size+2:=by rw[<-dm];simp[size_cons]
 have gd:X.get (A.size+1)=some nO:=by rw[<-dm];simp[nO,size_cons]
 clear dm;refine iC aa9 dy jt ⟨rfl,bC.w.ok,dB,dB,dB,dB⟩ ?_;rintro _ aA ⟨e5,e6,e7,e8,e9,fb,rfl,k,hW,b9,eC,dv,cL⟩;have hZ:=dv.sz;have eP:=dv.low;simp[eP,(b9.gr 6 rfl).len (cx:=cx)];have hq:∀C,Fp aA k C->C≠r:=λC V Q=>by have:=eC C V;omega
 generalize b8:aA.cons _=c6;have eR:il 0 c6:=by rw[<-b8];exact il.cons ⟨dv.hp,eP,ax _⟩ _
 have aN:∀C,c6.get C=if C=aA.size then some (dE 7 1 [.agg [e5,Z (-1),e6,e7,e8,e9,fb]])else aA.get C:=λC=>by rw[<-b8,dS]
 have gg:c6.size=aA.size+1:=by rw[<-b8,size_cons]
 clear b8;have eW:=λC (V:Fp aA k C)=>b9.fp C V;obtain⟨er,ef⟩:∃er,An W r A aA.size er c6:=by
  refine⟨⟨1,-1,λp=>if p=0 then e5 else if p=2 then e6 else if p=3 then e7 else if p=4 then e8 else if p=5 then e9 else fb,λp=>if p=0 then(List.replicate 3 ()).map yS else if p=2 then [false].map T.bool else if p=3 then(Ar 4).map dJ.t else if p=4 then [0,1,0,0,0].map (T.int .i64)else if p=6 then(List.replicate 4 0).map (T.int .i64)else(List.replicate 1 0).map (T.int .i64)⟩,?_,⟨⟨eR,dz,λC V dn=>?_,?_⟩,?_⟩,?_,?_,λp=>?_,λp e L=>?_⟩
  ·exact b9.copy eR (by rw[aN,ar rfl];rfl) λC V=>by rw[aN,aq (by have:=eW C V;omega)]
  ·have V:C<A.size:=by simpa using V
   exact(aN C).trans ((aq J).trans ((cL C J).trans (bC.w.get C (by simpa using V) dn)))
  ·exact bC.w.tp.eq ((aN r).trans ((aq J).trans (cL r J)))
  ·exact bC.g.eq ((aN r).trans ((aq J).trans (cL r J)))
  ·intro C V;rcases(b9.copy eR (by rw[aN,ar rfl];rfl) λC V=>by rw[aN,aq (by have:=eW C V;omega)]:ny c6 aA.size 7 1 _)with⟨_,gP,_,_⟩;rcases V with rfl|⟨x,eO,v,hj,Q⟩
   ·omega
   ·rw[gP]at eO;simp only[au]at eO;subst eO;have:=eC C (.inr ⟨_,b9.get,v,hj,Q⟩);omega
  ·exact(aN _).trans ((aq J).trans ((cL _ J).trans gd))
  ·unfold Zu;by_cases c1:p=0
   ·subst c1;rfl
   by_cases a8:p=2
   ·subst a8;rfl
   by_cases c4:p=3
   ·subst c4;rfl
   by_cases fE:p=4
   ·subst fE;rfl
   by_cases fL:p=6
   ·subst fL;rfl
   simp[c1,a8,c4,fE,fL]
  ·unfold Uo;by_cases c1:p=0
   ·subst c1;simp at L;subst L;exact⟨_,_,rfl,.inl rfl⟩
   by_cases a8:p=2
   ·subst a8;simp at L;subst L;exact⟨_,rfl⟩
   by_cases c4:p=3
   ·subst c4;simp only[aq (show¬(3:Nat)=0 by decide),aq (show¬(3:Nat)=2 by decide),ar]at L|-;obtain⟨t,_,rfl⟩:=List.mem_map.1 L;exact⟨t,rfl⟩
   simp only[aq c1,aq a8,aq c4]at L|-;have:∃l:List Int,e∈l.map (T.int .i64)/\(p=6->l=List.replicate 4 0):=by
    split at L
    ·exact⟨_,L,λQ=>by omega⟩
    split at L
    ·exact⟨_,L,λ_=>rfl⟩
    ·exact⟨_,L,λQ=>by omega⟩
   obtain⟨l,hl,dk⟩:=this;obtain⟨R,dn,rfl⟩:=List.mem_map.1 hl;refine⟨R,rfl,λQ=>?_⟩;rw[dk Q]at dn;simp at dn;omega
 clear b9 eC dv cL eP hq aN gg eW bC gd;have gg:A.size+2<=aA.size:=J;generalize aA.size=G at*
 refine fD 4 J (λy h B=>(∃d,An W r A G d B)/\dF h 0 (.ptr r 0 0 0)/\dF h 4 (.ptr (A.size+1) 0 0 0)/\dF h 5 (.ptr G 0 0 0)/\dF h 15 (Z 4)/\dF h 16 (Z y)) ?_ ?_ J ⟨⟨er,ef⟩,by simp[i,show(jt.dH.length:Int)=4 from rfl]⟩
 ·clear ef i eE;rintro y h B bN a7 ⟨⟨d,b⟩,i,q,n,al,an⟩;have hb:(y:Int)<4:=J;obtain⟨p,ca,I,fB,bi,S⟩:=(b.cons (dE 1 0 [Z 2,Z 2,Z 2,Z 2,Z 0,Z 1,Z 3,Z 4,Z 5])).tw.next (tb:=⟨pt [],ht [(77,kJ),(39,jM dY J6 JU),(78,jM UB qy oI)]⟩) dy bs 9 J J;have h4:=b.Om;have c9:=(b.cons _).tape S (bi.g.le (ax _)) D;have fi:=(S.get B.size J).trans (by rw[dS,ar rfl]);obtain⟨fS,ff⟩:∃fS:Int,∀fB,([Z 2,Z 2,Z 2,Z 2,Z 0,Z 1,Z 3,Z 4,Z 5]:List T)[p]'fB= Z fS:=by
   rcases(by omega:p=0\/p=1\/p=2\/p=3\/p=4\/p=5\/p=6\/p=7\/p=8)with rfl|rfl|rfl|rfl|rfl|rfl|rfl|rfl|rfl<;>exact⟨_,λ_=>rfl⟩
  have hg:p<9:=J;simp[i,al,an,hb,I,fi,ff,hg];refine ll (λh hH=>ca=hH/\(∃eX,dF h 7 (Z eX))/\dF h 0 (.ptr r 0 0 0)/\dF h 4 (.ptr (A.size+1) 0 0 0)/\dF h 5 (.ptr G 0 0 0)/\dF h 6 (Z y)/\dF h 15 (Z 4)/\dF h 16 (Z y)) (λO=>by simp[i,q,n,al,an]) (λO=>by simp[i,q,n,al,an]) ?_;clear I fi ff bi S i q n al an;rintro h _ ⟨rfl,⟨eX,gQ⟩,i,q,n,dk,al,an⟩;have k:=c9.s.get;simp[BF.F]at k;obtain⟨bT,dd,ea,de,eb,_,aE,ap,N,av,t,rfl⟩:=c9.ld 3 rfl (te:=HG) rfl (j:=y) bN;have bB:=c9.st D 3 rfl aE N y (dJ.t ⟨eX,0,false⟩) rfl ⟨_,rfl⟩;simp[n,dk,gQ,k,ap,N,av];clear c9 k ap N av aE;generalize d.OQ 3 _=et at bB;generalize dZ ca _ _=ec at*
  refine ej (λO=>?_) (λO=>?_)
  ·obtain⟨bu,U,I,eL,bH,bS⟩:=bB.tw.next (tb:=⟨pt [],ht [(77,kJ),(39,jM dY J6 JU),(78,jM UB qy oI)]⟩) dy bs 3 J J;have Y:=bB.tape bS (bH.g.le (ax _)) D;have ae:=bB.s.get;have bn:=Y.s.get;simp[BF.F]at ae bn;obtain⟨bT,dd,ea,de,eb,_,aE,ap,N,av,R,rfl,_⟩:=Y.ld 6 rfl (te:=EM) rfl (j:=y) bN;have gm:binop .add (Z 1) (Z (bu:Int))=some (Z (1+bu)):=Ah rfl J J;have sv:fk ec U G=true:=fG (bn.trans ae.symm);have M:=Y.st D 6 rfl aE N y (Z (1+bu)) rfl ⟨_,rfl,λ_=>by omega⟩;generalize gS:dZ U bT _=hI at M;generalize et.OQ 6 _=hL at M;obtain⟨ho,hJ,gy,hO,gk,hA⟩:=M.tw.next (tb:=⟨pt [],ht [(77,kJ),(39,jM dY J6 JU),(78,jM UB qy oI)]⟩) dy bs 4 J J;have eh:=M.tape hA (gk.g.le (ax _)) D;have eD:=M.s.get;have fl:=eh.s.get;simp[BF.F]at eD fl;obtain⟨hK,hM,hX,hN,hY,_,gV,gw,fo,gz,t,rfl⟩:=eh.ld 3 rfl (te:=HG) rfl (j:=y) bN;have hB:fk hI hJ G=true:=fG (fl.trans eD.symm);have gj:=eh.st D 3 rfl gV fo y (dJ.t ⟨t.ij,t.cond,decide ((ho:Int)=3)⟩) rfl ⟨_,rfl⟩;simp[i,q,n,dk,al,an,ae,I,gm,ap,N,av,sv,gS,eD,gy,gw,fo,gz,hB,a7];exact⟨_,gj⟩
  ·simp[i,q,n,al,an,a7];exact⟨et,bB⟩
 clear ef i eE;rintro h B ⟨⟨d,b⟩,i,q,n,al,an⟩;have k:=b.s.get;simp[BF.F]at k;have l0:=b.ln 0;simp[n,al,an,k,(b.s.gr 0 rfl).len (cx:=cx),l0,Zu];refine fD 3 J (λy h B=>(∃d,An W r A G d B)/\dF h 0 (.ptr r 0 0 0)/\dF h 4 (.ptr (A.size+1) 0 0 0)/\dF h 5 (.ptr G 0 0 0)/\dF h 63 (Z 3)/\dF h 64 (Z y)) ?_ ?_ J ⟨⟨d,b⟩,by simp[i,q,n]⟩
 ·clear b k l0 i q n al an;rintro y h B bN a7 ⟨⟨d,b⟩,i,q,n,aX,a6⟩;have ha:(y:Int)<3:=J;have k:=b.s.get;simp[BF.F]at k;simp[i,n,aX,a6,ha,k];obtain⟨K,b7,fs⟩:=uW (f:=T.int .i64) (P:=λR=>0<=R/\R<=4) λe L=>by
   obtain⟨R,eS,a8⟩:=b.pr 6 e L;exact⟨R,eS,a8 rfl⟩
  have cp:K.length=4:=by rw[<-aH (f:=T.int .i64),<-b7];exact b.ln 6
  have b6:=b.s.gr 6 rfl;rw[b7]at b6;have ds:dT (d.c 6)≠some r:=λQ=>by have:=b.fp r (b.s.Cu (f:=(d.c 6,some (1,d.E 6))) (by simp[BF.F]) Q);omega
  refine iC LG dy ⟨W,r,0,d.c 0,Z d.tx,d.c 2,d.c 3,d.c 4,d.c 5,d.c 6,K⟩ ⟨rfl,b.tw.g,b.tw.w.ok,bs,dA,b6,ds,dy⟩ ?_;rintro _ ca ⟨u,rfl,fY,e4,t1,S⟩;replace b:=b.tape S t1 D;simp only[cp]at e4;clear b6 ds b7 cp fs k t1 S;simp;refine ej (λO=>?_) (λO=>?_)
  ·simp[i,q,n,aX,a6,a7];exact⟨d,b⟩
  obtain⟨m,rfl⟩:∃m:Nat,u=m:=⟨u.toNat,by simp at O;omega⟩;have hh:m<4:=J;clear O fY e4;by_cases gZ:y=2
  ·subst gZ;have fe:binop .add (Z 2) (Z 1)=some (Z 3):=by simpa using a7
   obtain⟨bu,U,I,eL,bH,bS⟩:=b.tw.next (tb:=⟨pt [],ht [(77,kJ),(39,jM dY J6 JU),(78,jM UB qy oI)]⟩) dy bs 2 J J;replace b:=b.tape bS (bH.g.le (ax _)) D;simp[i,I];have eo:=b.cons (dE 1 0 [Z m]);obtain⟨bT,dd,ea,de,eb,_,aE,ap,N,av,o,eV,rfl,eN⟩:=b.ld 0 rfl (te:=HJ) rfl (j:=2) dB;obtain⟨gn,gB,hC,gE,hF,_,fA,eu,di,eA,hv,hV,rfl,hP⟩:=eo.ld 0 rfl (te:=HJ) rfl (j:=2) dB;have k:=b.s.get;have gM:=eo.s.get;simp[BF.F]at k gM;refine ej (λO=>?_) (λO=>?_)
   ·have hs:¬Fp (U.cons (dE 1 0 [Z m])) G U.size:=λQ=>by
     have e:(U.cons (dE 1 0 [Z m])).get G=U.get G:=by rw[dS,aq (by have:=b.s.lt;omega)]
     rw[iT e]at Q;have:=b.s.fp _ Q;omega
    have M:=eo.st D 0 rfl fA di 2 (.agg [Z hv,.arr U.size 0 0 1 false]) rfl ⟨_,_,rfl,.inr ⟨U.size,m,rfl,by rw[dS,ar rfl],J,J,hs,by have:=b.Om;omega⟩⟩;have hQ:(G=U.size)=False:=by have:=b.s.lt;simp;omega
    simp[i,q,n,aX,a6,k,eu,di,eA,fe];exact⟨_,M⟩
   ·have M:=b.st D 0 rfl aE N 2 (.agg [Z m,eV]) rfl ⟨_,_,rfl,eN⟩;simp[i,q,n,aX,a6,k,ap,N,av,fe];exact⟨_,M⟩
  ·obtain⟨bT,dd,ea,de,eb,_,aE,ap,N,av,o,eV,rfl,eN⟩:=b.ld 0 rfl (te:=HJ) rfl (j:=y) bN;obtain⟨gn,gB,hC,gE,hF,_,fA,eu,di,eA,t,rfl⟩:=b.ld 3 rfl (te:=HG) rfl (j:=m) hh;have k:=b.s.get;simp[BF.F]at k;have M:=b.st D 0 rfl aE N y (.agg [Z m,eV]) rfl ⟨_,_,rfl,eN⟩;simp[n,show¬(y:Int)=2 by omega,k,eu,di,eA];refine ej (λO=>?_) (λO=>?_)
   ·simp[i,q,n,aX,a6,a7];exact⟨d,b⟩
   ·simp[i,q,n,aX,a6,k,ap,N,av,a7];exact⟨_,M⟩
 clear b k l0 i q n al an;rintro h B ⟨⟨d,b⟩,i,q,n,aX,a6⟩;have c7:=λ{B:H} {d:BF} (b:An W r A G d B)=>b.tw.next (tb:=⟨pt [],ht [(77,kJ),(39,jM dY J6 JU),(78,jM UB qy oI)]⟩) dy bs;have gi:∀{B:H} {d:BF},An W r A G d B->∃K:List Int,qy ⟨W,r,0,d.c 0,Z d.tx,d.c 2,d.c 3,d.c 4,d.c 5,d.c 6,K⟩ [.ptr r 0 0 0,.agg [d.c 0,Z d.tx,d.c 2,d.c 3,d.c 4,d.c 5,d.c 6]] B/\K.length=4:=λ{B d} b=>by
  obtain⟨K,b7,fs⟩:=uW (f:=T.int .i64) (P:=λR=>0<=R/\R<=4) λe L=>by
   obtain⟨R,eS,a8⟩:=b.pr 6 e L;exact⟨R,eS,a8 rfl⟩
  have cp:K.length=4:=by rw[<-aH (f:=T.int .i64),<-b7];exact b.ln 6
  have b6:=b.s.gr 6 rfl;rw[b7]at b6;have ds:dT (d.c 6)≠some r:=λQ=>by have:=b.fp r (b.s.Cu (f:=(d.c 6,some (1,d.E 6))) (by simp[BF.F]) Q);omega
  exact⟨K,⟨rfl,b.tw.g,b.tw.w.ok,bs,dA,b6,ds,dy⟩,cp⟩
 obtain⟨hn,ca,I,hf,bi,S⟩:=c7 b 3 J J;replace b:=b.tape S (bi.g.le (ax _)) D;simp[i,aX,a6,I];clear I bi S;refine ll (λh B=>(∃d,An W r A G d B)/\dF h 0 (.ptr r 0 0 0)/\dF h 4 (.ptr (A.size+1) 0 0 0)/\dF h 5 (.ptr G 0 0 0)) (λO=>?_) (λO=>?_) ?_
 ·have k:=b.s.get;simp[BF.F]at k;obtain⟨K,eM,cp⟩:=gi b;simp[i,n,k];refine iC LG dy _ eM ?_;rintro _ ec ⟨u,rfl,fY,e4,t1,S⟩;replace b:=b.tape S t1 D;have k:=b.s.get;simp[BF.F]at k;have bB:=b.tx D u;simp[i,q,n,k];exact⟨_,bB⟩
 ·simp[i,q,n];exact⟨d,b⟩
 clear b i q n aX a6;rintro h B ⟨⟨d,b⟩,i,q,n⟩;obtain⟨hn,ca,I,hf,bi,S⟩:=c7 b 3 J J;replace b:=b.tape S (bi.g.le (ax _)) D;simp[i,I];clear I bi S;refine ll (λh B=>(∃d,An W r A G d B)/\dF h 0 (.ptr r 0 0 0)/\dF h 4 (.ptr (A.size+1) 0 0 0)/\dF h 5 (.ptr G 0 0 0)) (λO=>?_) (λO=>?_) ?_
 ·have k:=b.s.get;simp[BF.F]at k;obtain⟨bT,dd,ea,de,eb,_,aE,ap,N,av,o,rfl⟩:=b.ld 2 rfl (te:=V7) rfl (j:=0) dB;replace b:=b.st D 2 rfl aE N 0 (.bool true) rfl ⟨_,rfl⟩;generalize b8:dZ ca bT _=ec at b;generalize d.OQ 2 _=et at b;obtain⟨bu,U,I,eL,bH,bS⟩:=c7 b 3 J J;have Y:=b.tape bS (bH.g.le (ax _)) D;have ae:=b.s.get;have bn:=Y.s.get;simp[BF.F]at ae bn;obtain⟨gv,gD,hD,gI,hG,_,eI,ey,cb,eB,R,rfl,_⟩:=Y.ld 5 rfl (te:=HA) rfl (j:=0) dB;have sv:fk ec U G=true:=fG (bn.trans ae.symm);have M:=Y.st D 5 rfl eI cb 0 (Z bu) rfl ⟨_,rfl,λQ=>by omega⟩;simp[i,q,n,k,ap,N,av,b8,ae,I,ey,cb,eB,sv];exact⟨_,M⟩
 ·simp[i,q,n];exact⟨d,b⟩
 clear b i q n;rintro h B ⟨⟨d,b⟩,i,q,n⟩;have k:=b.s.get;simp[BF.F]at k;have l4:=b.ln 4;simp[n,k,(b.s.gr 4 rfl).len (cx:=cx),l4,Zu];refine fD 5 J (λy h B=>(∃d,An W r A G d B)/\dF h 0 (.ptr r 0 0 0)/\dF h 4 (.ptr (A.size+1) 0 0 0)/\dF h 5 (.ptr G 0 0 0)/\dF h 142 (Z 5)/\dF h 143 (Z y)) ?_ ?_ J ⟨⟨d,b⟩,by simp[i,q,n]⟩
 ·clear b k l4 i q n;rintro y h B bN a7 ⟨⟨d,b⟩,i,q,n,eF,eH⟩;have hd:(y:Int)<5:=J;obtain⟨bu,U,I,eL,bH,bS⟩:=c7 b 3 J J;have Y:=b.tape bS (bH.g.le (ax _)) D;have ae:=b.s.get;have bn:=Y.s.get;simp[BF.F]at ae bn;obtain⟨gv,gD,hD,gI,hG,_,eI,ey,cb,eB,R,rfl,_⟩:=Y.ld 4 rfl (te:=HA) rfl (j:=y) bN;have sv:fk B U G=true:=fG (bn.trans ae.symm);have M:=Y.st D 4 rfl eI cb y (Z bu) rfl ⟨_,rfl,λQ=>by omega⟩;simp[i,q,n,eF,eH,hd,ae,I,ey,cb,eB,sv,a7];exact⟨_,M⟩
 clear b k l4 i q n;rintro h B ⟨⟨d,b⟩,i,q,n,eF,eH⟩;have k:=b.s.get;have eU:=b.rb;unfold nO at eU;simp[BF.F]at k;have hy:=λz=>(dN eU z (A.size+1)).trans (ar rfl);simp[q,n,eF,eH,k,eU,hy];exact b.fin fC D _ _
end
def So(a:Nat)(d:H)(e:T)(g:List (List Int)):Prop:=∃c,Gr d e 1 c/\dT e≠some a/\iM (λb f=>Gr d b 1 (f.map (T.int .i64))/\dT b≠some a) c g
structure IEv where
 (L:List Int) (b p:Nat) (s:eQ) (w:dY) (rv:T) (rs:List (List Int))
def Pj(a:IEv)(d:List T)(c:H):Prop:=d=[.ptr a.b 0 0 0,a.s.t,a.w.t,a.rv]/\vO a.p a.L a.b c/\il 0 c/\okB a.L/\So a.b c a.rv a.rs/\a.rs.length=4/\(∀e∈a.rs,e.length<=1000)/\a.s.cells.length=5/\1<=a.s.ee.length/\a.s.fj.dH.length<=98/\a.w.cells.length=5
def Gq(a:IEv)(g:List T)(e:H)(f:T)(d:H):Prop:=∃c:ez,f=c.t/\c.mo.length<=1000/\c.uF.length<=1000/\vO (a.p+1) a.L a.b d/\Sm a.b e d
def X5{a:fJ}(ht:a.p 121=some uN):rl prog cx a 121 []=some (sl (wF.map (T.int .i64))):=im ht Td () trivial
def NJ{i:Nat}(c:i<43):∃a:Int,wF[i]? =some a/\1<=a/\a<=23:=by
 have b:∀a∈wF,1<=a/\a<=23:=dB;exact⟨wF[i]'c,az _,b _ (aF _)⟩
abbrev NV(f c d g e:Int)(a b:T):T:= .agg [Z f,Z c,Z d,Z g,Z e,a,b]
structure R9(p:Nat)(L:List Int)(b:Nat)(h:H)(s:eQ)(w:dY)(h':H)(x:T):Prop where
 tw:tM p L b (TI.hr h) h'
 g0:h'.get h.size=some (dE 7 0 [s.t])
 g1:h'.get (h.size+1)=some (dE 6 0 [w.t])
 g2:h'.get (h.size+2)=some (dE 7 0 [NV 0 0 0 0 0 dD dD])
 g3:∃ver,h'.get (h.size+3)=some (dE 7 ver [x])
def R9.call{m h:Nat}{d:List Int}{a:Nat}{e:H}{i:eQ}{j:dY}{g f:H}{k:T}(b:R9 m d a e i j g k)(c:Sm a g f)(n:vO h d a f)(p:a<e.size):R9 h d a e i j f k:=by
 have⟨o,l⟩:=b.g3;exact⟨b.tw.call c n,(c.get _ J).trans b.g0,(c.get _ J).trans b.g1,(c.get _ J).trans b.g2,o,(c.get _ J).trans l⟩
theorem R9.put{k:Nat}{h:List Int}{e:Nat}{d:H}{l:eQ}{m:dY}{j:H}{x:T}(a:R9 k h e d l m j x)(o:e<d.size)(f:Nat)(g:T):R9 k h e d l m (dZ j (d.size+3) (dE 7 f [g])) g:=by
 have⟨p,i⟩:=a.g3;have b:=λc=>dN i (dE 7 f [g]) c;exact⟨a.tw.put i dy (by simpa using o) _,by rw[b,aq J];exact a.g0,by rw[b,aq J];exact a.g1,by rw[b,aq J];exact a.g2,f,by rw[b,ar rfl]⟩
def R9.rd{g:Nat}{d:List Int}{e:Nat}{a:H}{h:eQ}{i:dY}{c:H}{j:T}(f:R9 g d e a h i c j)(b:iY):(dZ c (a.size+2) b).get (a.size+2)=some b:=(dN f.g2 b (a.size+2)).trans (ar rfl)
def Ds(a:T):Prop:=a.iy=true/\a.cells=[a]/\∃b:List Int,b.length<=1000/\∀d c,FT d c 1 a (sl (b.map (T.int .i64)))
theorem Ds.nil:Ds dD:=⟨rfl,rfl,[],dy,λb a=>jl ..⟩
def Ds.sl{a:List Int}(b:a.length<=1000):Ds (TI.sl (a.map (T.int .i64))):=⟨dy,dy,a,b,λb d=>pF _ _ _ λe c=>by obtain⟨f,_,rfl⟩:=List.mem_map.1 c;simp⟩
def aeG:(jM IEv Pj Gq).Ok prog cx 79:=by
 refine rC (tb:=⟨pt [(121,uN)],ht [(77,kJ),(122,jM Jr Az tj),(123,jM Jp Ay tg),(124,jM BE uQ us)]⟩) iR iE (iX 618988909108621684749897583 [(3,[(6,11),(7,11),(5,14),(11,14)])] func79) (λ_ _=>5) (λi a b a6=>by obtain⟨rfl,_⟩:=a6;simp[f79]) ?_;rintro⟨B,h,v,N,E,aA,eD⟩ _ b ⟨rfl,b7,eB,W,ef,e6,bs,e7,eh,eo,fb⟩ L dv;simp only at b7 W ef e6 bs e7 eh eo fb;simp at dv;obtain⟨C,dn,ds,O⟩:=dv;have p:=b7.tp.lt;have gm:(h=b.size)=False:=dz;have gn:(h=b.size+1)=False:=dz;have gv:(h=b.size+2)=False:=dz;have eH:=(((tM.refl eB.hr (b7.eq (ik b h))).cons (dE 7 0 [N.t])).cons (dE 6 0 [E.t])).cons (dE 7 0 [.agg [Z 0,Z 0,Z 0,Z 0,Z 0,dD,dD]]);obtain⟨c,eM,c6,gk,eI,y⟩:=eH.next (tb:=⟨pt [(121,uN)],ht [(77,kJ),(122,jM Jr Az tj),(123,jM Jp Ay tg),(124,jM BE uQ us)]⟩) dy W 4 J J;have cp:=λ{bi:H} {v:Nat} (E:tM v B h (TI.hr b) bi)=>E.next (tb:=⟨pt [(121,uN)],ht [(77,kJ),(122,jM Jr Az tj),(123,jM Jp Ay tg),(124,jM BE uQ us)]⟩) dy W;obtain⟨k,eN,c7,gj,eL,Y⟩:=cp eI wF.length dB dB;obtain⟨j,dd,fe,ff⟩:=NJ (i:=k) (by have:wF.length=43:=rfl;omega);obtain⟨X,aE,c9,eb,ca,bS⟩:=cp eL 6 J J;obtain⟨b6,e9⟩:∃x:Int,(c:Int)*6=x:=⟨_,rfl⟩;obtain⟨bT,e8⟩:∃x:Int,b6+X=x:=⟨_,rfl⟩;have eA:binop .mul (Z (c:Int)) (Z 6)=some (Z b6):=by rw[abu,<-jA,jH J J,e9]
 have c1:binop .add (Z b6) (Z (X:Int))=some (Z bT):=Ah e8 J J;have gi:eM.size=b.size+3:=by rw[y.size];rfl
 have cb:aE.size=b.size+3:=by rw[bS.size,Y.size,gi]
 have eE:fk eM eN (b.size+3)=true:=jf (lz _ J);have eF:fk eN aE (b.size+3)=true:=jf (lz _ (by rw[Y.size];omega));have ey:=ca.w.ok.low;rw[cb]at ey;have G:∀r,r<b.size+3->r≠h->aE.get r=((((TI.hr b).cons (dE 7 0 [N.t])).cons (dE 6 0 [E.t])).cons (dE 7 0 [NV 0 0 0 0 0 dD dD])).get r:=λr bn av=>(bS.get r av).trans ((Y.get r av).trans (y.get r av));have D:R9 (v+1) B h b N E (aE.cons (dE 7 1 [NV c j 0 0 bT dD dD])) (NV c j 0 0 bT dD dD):=
  ⟨(ca.le J).cons _,by rw[dS,aq J,G _ J J];simp,by rw[dS,aq J,G _ J J];simp,by rw[dS,aq J,G _ J J];simp,1,by rw[dS,ar cb.symm]⟩
 simp[f79,C,dn,ds,c6,X5,c7,c9,dd,eA,c1,cb,eE,eF,ey];clear c6 c7 c9 y Y bS eH eI eL ca eA c1 G dd eE eF;generalize aE.cons _=gy at*
 refine ll (λL bi=>(∃z,R9 (v+1) B h b N E bi (NV c j 0 0 z dD dD))/\dF L 0 (.ptr h 0 0 0)/\dF L 3 aA/\dF L 5 (.ptr b.size 0 0 0)/\dF L 6 (.ptr (b.size+1) 0 0 0)/\dF L 8 (.ptr (b.size+2) 0 0 0)/\dF L 9 (Z c)/\dF L 11 (.ptr (b.size+3) 0 0 0)) (λe5=>?_) (λe5=>?_) ?_
 ·obtain⟨A,m⟩:=D.g3;simp[C,O,m];exact⟨_,D.put p _ _⟩
 ·simp[C,O];exact⟨_,D⟩
 clear D C dn ds O;rintro L o ⟨⟨z,D⟩,C,O,eX,e0,aN,aX,s⟩;obtain⟨A,m⟩:=D.g3;simp[C,aX,s,m];refine iC abd dy ⟨B,h,v+1,j,c⟩ ⟨rfl,D.tw.g,D.tw.w.ok,W,dA,dA,fe,ff⟩ ?_;rintro _ fS ⟨q,rfl,gw,bN,t1,y⟩;have l:=D.call y t1 p;clear D m;obtain⟨A,m⟩:=l.g3;simp[C,eX,s,m];replace l:=l.put p (A+1) (NV c j q 0 z dD dD);generalize dZ fS _ _=ae at*
 clear y t1 m;obtain⟨A,m⟩:=l.g3;have dk:=l.g0;simp[s,m,dk];refine iC aa8 dy ⟨B,h,v+1,N,j,q⟩ ⟨rfl,l.tw.g,l.tw.w.ok,W,λP=>by have:=bN (.inl P);simp only;omega,eh,eo⟩ ?_;rintro _ fY ⟨n,rfl,t1,y⟩;replace l:=l.call y t1 p;clear m dk;obtain⟨A,m⟩:=l.g3;simp[s,m];replace l:=l.put p (A+1) (NV c j q n z dD dD);generalize dZ fY _ _=gd at*
 clear y t1 m;obtain⟨A,m⟩:=l.g3;have eS:=l.g1;obtain⟨M,eW,fo,c4⟩:=ef;have ea:c<M.length:=by rw[c4.length];omega
 obtain⟨bH,ec,de,di⟩:∃bH∈eD,Gr b M[c] 1 (bH.map (T.int .i64))/\dT M[c]≠some h:=c4.Iz (aF ea);have cL:∀o,tM (v+1) B h (TI.hr b) o->∃S U A al F,∃(u:List Int) (ae:H),kK o qm aA c=some (.val (.ptr S U c 0) o)/\o.get S=some ⟨1,U,A,al,false,F⟩/\F[c]? =some M[c]/\hl prog cx ⟨pt [(121,uN)],ht [(77,kJ),(122,jM Jr Az tj),(123,jM Jp Ay tg),(124,jM BE uQ us)]⟩ 124 [.ptr h 0 0 0,M[c]] o=some (sl (u.map (T.int .i64)),ae)/\u.length<=1000/\vO (v+1) B h ae/\Sm h o ae:=λo b8=>by
  have eC:∀(n:T) F,Gr b n 1 F->dT n≠some h->Gr o n 1 F:=λn F g av=>g.mono λr bn=>by
   obtain⟨_,_,_,_,P,_⟩:=g.box bn;exact(b8.w.get r (H.fh P) λe=>av (by rw[<-e];exact bn)).trans (ik b r)
  obtain⟨S,U,A,al,F,_,eP,eV,eR⟩:=(eC aA M eW fo).Bp (te:=qm) rfl ea;have a6:uQ ⟨B,h,v+1,M[c],bH⟩ [.ptr h 0 0 0,M[c]] o:=⟨rfl,eC _ _ de di,di,b8.g,b8.w.ok,W,bs _ ec⟩;obtain⟨_,ae,e,P⟩:=FU (tb:=⟨pt [(121,uN)],ht [(77,kJ),(122,jM Jr Az tj),(123,jM Jp Ay tg),(124,jM BE uQ us)]⟩) dy WI ⟨_,a6⟩;obtain⟨u,rfl,fs,fv,fA⟩:=P _ a6;exact⟨S,U,A,al,F,u,ae,eP,eV,eR,e,aT fs (bs _ ec),fv,fA⟩
 have eO:(decide (j=5)=false/\(decide (j=3)||decide (j=4))=true/\∃X:Nat,kt q=some X/\X<E.cells.length)\/(decide (j=5)=false/\(decide (j=3)||decide (j=4))=false)\/(decide (j=5)=true):=by
  by_cases K:j=5
  ·exact .inr (.inr (aV K))
  ·by_cases Q:j=3\/j=4
   ·exact .inl ⟨aM K,by simpa using Q,q.toNat,eG (bN Q).1,by have:=bN Q;omega⟩
   ·exact .inr (.inl ⟨aM K,dz⟩)
 have fin:∀{o:H} {d f:T} (R:iY),R9 (v+1) B h b N E o (NV c j q n z d f)->Ds d->Ds f->yK b (NV c j q n z d f) (dZ o (b.size+2) R) (Gq ⟨B,h,v,N,E,aA,eD⟩ [.ptr h 0 0 0,N.t,E.t,aA] b):=λR i ⟨_,_,u,l1,l2⟩ ⟨_,_,bC,fi,fl⟩=>
  (i.tw.put i.g2 dy (by simpa using p) R).cut eB p (FT.top (V:=λh=>b.size<=h) (d:=1) J (λ_ P=>P) (.cons (gW ..) (.cons (gW ..) (.cons (gW ..) (.cons (gW ..) (.cons (gW ..) (.cons (l2 ..) (.cons (fl ..) .nil)))))))) λfB fC=>⟨⟨c,j,q,n,z,u,bC⟩,rfl,l1,fi,fC,fB⟩
 obtain⟨S,U,fL,al,F,u,gg,a1,a2,a3,a4,l1,t1,y⟩:=cL gd l.tw;have bu:=l.call y t1 p;obtain⟨b9,a8⟩:=bu.g3;have an:=λR=>(dN a8 R (b.size+3)).trans (ar rfl);have a7:=de.cells;rcases eO with⟨K,Q,X,e4,eb⟩|⟨K,Q⟩|K;simp[e0,s,m,eS,K,Q,e4,eb];refine ej (λap=>?_) (λap=>?_);rotate_left
 iterate 2
  ·have I:=bu.put p (b9+1) (NV c j q n z dD (sl (u.map (T.int .i64))));simp[s,m,K,Q];refine ej (λap=>?_) (λap=>?_)
   ·simp[C,O,aN,aX,s,a1,a2,a3,a4,a8,a7,an,I.g2,I.rd];exact fin _ I Ds.nil (Ds.sl l1)
   ·simp[aN,s,m,l.g2,l.rd];exact fin _ l Ds.nil Ds.nil
 iterate 2
  ·have I:=bu.put p (b9+1) (NV c j q n z (sl (u.map (T.int .i64))) dD);simp[C,O,aX,s,m,K,a1,a2,a3,a4,a8,a7,an];obtain⟨S,U,fL,al,F,bC,gB,a1,a2,a3,a4,l2,t2,Y⟩:=cL _ I.tw;have er:=I.call Y t2 p;obtain⟨fE,dm⟩:=er.g3;have eU:=λR=>(dN dm R (b.size+3)).trans (ar rfl);have bB:=er.put p (fE+1) (NV c j q n z (sl (u.map (T.int .i64))) (sl (bC.map (T.int .i64))));replace an:=an (dE 7 (b9+1) [NV c j q n z (sl (u.map (T.int .i64))) dD]);generalize dZ gg _ _=gz at*
   refine ej (λap=>?_) (λap=>?_)
   ·have et:=bB.g2;have eu:=bB.rd;simp at et eu;simp[C,O,aN,aX,s,a1,a2,a3,a4,dm,a7,eU,et,eu];exact fin _ bB (Ds.sl l1) (Ds.sl l2)
   ·simp[aN,s,an,I.g2,I.rd];exact fin _ I (Ds.sl l1) Ds.nil
section
def RT{j k:Type}{f:j->k->Prop}:∀{b:List j} {a:List k},b.length=a.length->(∀(e:Nat) c d,b[e]? =some c->a[e]? =some d->f c d)->iM f b a:=by
 intro b;induction b with
 |nil=>intro a h _;cases a with|nil=>exact .nil|cons i a=>simp at h
 |cons p b n=>
  intro a h g;cases a with
  |nil=>simp at h
  |cons i a=>exact .cons (g 0 p i rfl rfl) (n (by simpa using h) λe c d l m=>g (e+1) c d (by simpa using l) (by simpa using m))
structure F8(lo bv:Nat)(h:H)(rs:List (List Int))(o:T)(xs:List T)(es:List T)(ver:Nat):Prop where
 gb:h.get bv=some ⟨1,0,ver,true,false,es⟩
 On:lo<=bv
 len:es.length=rs.length
 gr:∀(i:Nat) (e:T) (ns:List Int),es[i]? =some e->rs[i]? =some ns->Gr h e 1 (ns.map (T.int .i64))
 sep:∀(i:Nat) (e:T) (c:Nat),es[i]? =some e->dT e=some c->lo<=c/\c≠bv/\dT o≠some c/\∀(j:Nat) (e':T),es[j]? =some e'->dT e'=some c->i=j
 go:Gr h o 7 xs
 ob:∀c,dT o=some c->lo<=c/\c≠bv
variable {lo bv:Nat}{h h':H}{rs:List (List Int)}{o:T}{xs es:List T}{ver:Nat}
def F8.lt(e:F8 lo bv h rs o xs es ver){a:Nat}{b:T}{c:Nat}(d:es[a]? =some b)(f:dT b=some c):c<h.size:=by
 have g:a<rs.length:=by rw[<-e.len];exact(List.getElem?_eq_some_iff.1 d).1
 have⟨_,_,_,_,i,_⟩:=(e.gr a b rs[a] d (az g)).box f;exact H.fh i
def F8.olt(c:F8 lo bv h rs o xs es ver){a:Nat}(b:dT o=some a):a<h.size:=by
 have⟨_,_,_,_,d,_⟩:=c.go.box b;exact H.fh d
def F8.kT(a:F8 lo bv h rs o xs es ver)(e:∀b,lo<=b->b<h.size->h'.get b=h.get b):F8 lo bv h' rs o xs es ver:=
 ⟨(e _ a.On (H.fh a.gb)).trans a.gb,a.On,a.len,λg f j d i=>(a.gr g f j d i).mono λb c=>e b (a.sep g f b d c).1 (a.lt d c),a.sep,a.go.mono λb c=>e b (a.ob b c).1 (a.olt c),a.ob⟩
def F8.rda(a:F8 lo bv h rs o xs es ver){b:Nat}(j:b<lo):So b h (.arr bv 0 0 rs.length false) rs:=
 ⟨es,by rw[<-a.len];exact .inr ⟨bv,0,ver,true,es,rfl,a.gb,aK⟩,by have:=a.On;simp;omega,RT a.len λe c g d f=>⟨a.gr e c g d f,λi=>by have:=(a.sep e c b d i).1;omega⟩⟩
def _root_.Go.TI.Gr.mG{h:H}{a:T}{e:Nat}{es:List T}(c:Gr h a e es)(b:T):TI.mG a 0 [b]=some b:=by
 rcases c with⟨rfl,_⟩|⟨f,i,ver,j,xs,rfl,_⟩<;>exact JO λg d=>by cases d
def F8.app(a:F8 lo bv h rs o xs es ver){b:Nat}{f:T}{v:List Int}(g:es[b]? =some f)(K:rs[b]? =some v){n:Int}{u:T}{s:H}(x:Xt h f 1 ((v++[n]).map (T.int .i64)) u s)(I:lo<=h.size)(C:Nat):
 F8 lo bv (dZ s bv ⟨1,0,C,true,false,es.set b u⟩) (rs.set b (v++[n])) o xs (es.set b u) C/\s.get bv=some ⟨1,0,ver,true,false,es⟩:=by
 obtain⟨G,w,q,L⟩:=x;have E:=H.fh a.gb;have t:b<es.length:=(List.getElem?_eq_some_iff.1 g).1;have r:s.get bv=some ⟨1,0,ver,true,false,es⟩:=(w bv E λe=>(a.sep b f bv g e).2.1 rfl).trans a.gb;refine⟨⟨(dN r _ bv).trans (ar rfl),a.On,by simp[a.len],λl p F c j=>?_,λl p i c d=>?_,a.go.mono λi d=>?_,a.ob⟩,r⟩
 ·by_cases e:b=l
  ·subst e;rw[dt t]at c;rw[dt (by rw[<-a.len];exact t)]at j;cases c;cases j;refine G.mono λi d=>?_;rw[dN r,aq];rintro rfl;rcases q _ d with k|k
   ·exact(a.sep b f _ g k).2.1 rfl
   ·omega
  ·rw[du e]at c;rw[du e]at j;refine(a.gr l p F c j).mono λi d=>?_;have m:=a.sep l p i c d;rw[dN r,aq m.2.1];exact w i (a.lt c d) λk=>e (m.2.2.2 b f g k).symm
 ·by_cases e:b=l
  ·subst e;rw[dt t]at c;cases c;refine⟨?_,?_,?_,λl p c y=>?_⟩
   ·rcases q _ d with k|k
    ·exact(a.sep b f _ g k).1
    ·omega
   ·rcases q _ d with k|k
    ·exact(a.sep b f _ g k).2.1
    ·omega
   ·rcases q _ d with k|k
    ·exact(a.sep b f _ g k).2.2.1
    ·intro z;have:=a.olt z;omega
   ·by_cases e:b=l
    ·exact e
    ·rw[du e]at c;rcases q _ d with k|k
     ·exact(a.sep b f _ g k).2.2.2 l p c y
     ·have:=a.lt c y;omega
  ·rw[du e]at c;have m:=a.sep l p i c d;refine⟨m.1,m.2.1,m.2.2.1,λk D j A=>?_⟩;by_cases B:b=k
   ·subst B;rw[dt t]at j;cases j;rcases q _ A with z|z
    ·exact m.2.2.2 b f g z
    ·have:=a.lt c d;omega
   ·rw[du B]at j;exact m.2.2.2 k D j A
 ·rw[dN r,aq (a.ob i d).2];exact w i (a.olt d) λk=>(a.sep b f i g k).2.2.1 d
def F8.out(a:F8 lo bv h rs o xs es ver){j:T}{n:List T}{f:H}(t:Xt h o 7 n j f)(v:lo<=h.size):F8 lo bv f rs j n es ver:=by
 obtain⟨u,k,l,w⟩:=t;have p:=H.fh a.gb;refine⟨(k bv p λs=>(a.ob bv s).2 rfl).trans a.gb,a.On,a.len,λg e r d f=>(a.gr g e r d f).mono λc b=>k c (a.lt d b) (a.sep g e c d b).2.2.1,λg e c d b=>?_,u,λc b=>?_⟩
 ·have i:=a.sep g e c d b;refine⟨i.1,i.2.1,λq=>?_,i.2.2.2⟩;rcases l _ q with z|z
  ·exact i.2.2.1 z
  ·have:=a.lt d b;omega
 ·rcases l _ b with z|z
  ·exact a.ob c z
  ·exact⟨J,J⟩
end
section
attribute [-simp] size_cons
structure IPl where
 (L:List Int) (b:Nat) (s:eQ) (w:dY) (n:Nat) (early:Bool)
def Vg(a:IPl)(d:List T)(c:H):Prop:=d=[.ptr a.b 0 0 0,a.s.t,a.w.t,Z a.n,.bool a.early]/\vO 0 a.L a.b c/\il 0 c/\okB a.L/\a.L.length<=400/\a.n<=16/\a.w.dH.length=4/\a.w.cells.length=5/\a.w.gF.length<=1000/\mB a.w a.s=true/\sO 1000 a.s/\1<=a.s.ee.length
def Pr(a:IPl)(g:List T)(e:H)(f:T)(d:H):Prop:=∃c:List ez,f=sl (c.map ez.t)/\c.length<=a.n/\KJ c/\runs a.w a.s c=true/\vO 0 a.L a.b d/\Sm a.b e d
def afn(a:ez)(d:H)(c:Nat->Prop):FT d c 2 a.t a.t:=by
 have e:∀b:List Int,FT d c 1 (sl (b.map (T.int .i64))) (sl (b.map (T.int .i64))):=λb=>pF _ _ _ λg f=>by obtain⟨h,_,rfl⟩:=List.mem_map.1 f;simp
 exact .inr (.inr ⟨a.cs,a.cs,rfl,.cons (gW ..) (.cons (gW ..) (.cons (gW ..) (.cons (gW ..) (.cons (gW ..) (.cons (e _) (.cons (e _) .nil)))))),rfl⟩)
def SB{a:H}(g:il 0 a)(b c d:iY):(∀e,e<a.size->(dZ ((a.cons b).cons c) (a.size+1) d).get e=a.get e)/\(dZ ((a.cons b).cons c) (a.size+1) d).get a.size=some b/\(dZ ((a.cons b).cons c) (a.size+1) d).get (a.size+1)=some d/\(dZ ((a.cons b).cons c) (a.size+1) d).size=a.size+2:=by
 have f:=mL ((g.cons b).cons c).hp (show a.size+1<_ by simp[size_cons]);refine⟨λe h=>?_,?_,?_,by simp[size_cons]⟩
 ·rw[f,aq J,dS,aq (by rw[size_cons];omega),dS,aq J]
 ·rw[f,aq J,dS,aq (by rw[size_cons];omega),dS,ar rfl]
 ·rw[f,ar rfl]
def tM.two{h:Nat}{f:List Int}{b:Nat}{e a:H}(i:tM h f b e a)(k:b<e.size)(g d j:iY):tM h f b e (dZ ((a.cons g).cons d) (a.size+1) j):=
 ((i.cons g).cons d).put (c:=a.size+1) (x:=d) (by rw[dS,ar (by rw[size_cons])]) (by have:=i.w.size;omega) k j
def PlC(a:eQ):Prop:=a.cells.length=5/\1<=a.ee.length/\a.fj.dH.length<=98/\a.count.length=4
def Zy(h:Nat)(d:List Int)(e:Nat)(a:H)(n:dY)(k:eQ)(i:Nat)(g:T)(o:List T)(b:H):Prop:=∃c f m l,tM h d e (TI.hr a) b/\b.get a.size=some (dE 7 l [k.t])/\b.get (a.size+1)=some (dE 6 0 [n.t])/\F8 (a.size+2) (a.size+2) b c g o f m/\a.size+3<=b.size/\c.length=4/\∀j∈c,j.length<=i
def aeE:(jM IPl Vg Pr).Ok prog cx 37:=by
 refine rC (tb:=⟨pt [(80,nC)],ht [(77,kJ),(79,jM IEv Pj Gq)]⟩) iR iE (iX 155347004713968546154151135 [(14,[(2,15)])] func37) (λ_ _=>1000) (λi a e fv=>by obtain⟨rfl,_⟩:=fv;simp[f37]) ?_;rintro⟨W,b,q,h,n,early⟩ _ e ⟨rfl,eD,eW,ec,ff,fs,eu,eP,fC,c1,eO,fl⟩ r bT;simp only at eD ec ff fs eu eP fC c1 eO fl;simp at bT;obtain⟨B,ap,bs,C,X⟩:=bT;have av:=eD.tp.lt;have gy:(b=e.size)=False:=dz;have gz:(b=e.size+1)=False:=dz;simp[f37,ap,bs,eu];have dd:q.count.length=4:=by
  unfold mB at c1;simp only[aB,aO]at c1;rw[c1.2,eu]
 generalize bS:(((TI.hr e).cons _).cons _).cons _=bN;have gI:bN.size=e.size+3:=by rw[<-bS];rfl
 have eI:tM 0 W b (TI.hr e) bN:=by rw[<-bS];exact(((tM.refl eW.hr (eD.eq (ik e b))).cons _).cons _).cons _
 have U:bN.get e.size=some (dE 7 0 [q.t]):=by rw[<-bS];simp
 have an:bN.get (e.size+1)=some (dE 6 0 [h.t]):=by rw[<-bS];simp
 have eH:F8 (e.size+2) (e.size+2) bN [[],[],[],[]] dD [] [dD,dD,dD,dD] 0:=by
  rw[<-bS];refine⟨dy,aw _,rfl,λi u gB ap bs=>?_,λi u c ap bs=>?_,Gr.nil _ _,dy⟩
  ·rcases i with _|_|_|_|i<;>simp at ap bs<;>subst ap bs<;>exact Gr.nil _ _
  ·rcases i with _|_|_|_|i<;>simp at ap<;>subst ap<;>simp at bs
 clear bS;have c7:Zy 0 W b e h q 0 dD [] bN:=⟨_,_,_,_,eI,U,an,eH,J,rfl,dy⟩;refine fD 4 J (λj r y=>Zy 0 W b e h q j dD [] y/\dF r 0 (.ptr b 0 0 0)/\dF r 3 (Z n)/\dF r 4 (.bool early)/\dF r 6 (.ptr e.size 0 0 0)/\dF r 7 (.ptr (e.size+1) 0 0 0)/\dF r 11 dD/\dF r 12 (.arr (e.size+2) 0 0 4 false)/\dF r 22 (Z 4)/\dF r 23 (Z j)) ?_ ?_ J ⟨c7,by simp[B,C,X]⟩
 ·rintro j r y fo c9 ⟨⟨v,s,D,T,ae,U,an,Y,aX,Q,H⟩,B,C,X,E,G,F,K,bu,bB⟩;have de:j<q.count.length:=J;have eh:(j:Int)<4:=J;have gj:(b=e.size+2)=False:=dz;have eF:Zy 0 W b e h q (j+1) dD [] y:=⟨v,s,D,T,ae,U,an,Y,aX,Q,λO hr=>Nat.le_succ_of_le (H O hr)⟩;cases early with
  |false=>
   simp[B,C,X,E,G,F,K,bu,bB,eh,c9,eF]
  |true=>
  by_cases eL:1<q.count[j]
  ·obtain⟨m,eX,ea,gn,a6,di⟩:=ae.next (tb:=⟨pt [(80,nC)],ht [(77,kJ),(79,jM IEv Pj Gq)]⟩) dy ec 3 J J;simp[U,B,X,E,bu,bB,eh,de,eL,ea];have M:F8 (e.size+2) (e.size+2) eX v dD [] s D:=Y.kT λc o _=>di.get c J;have a7:=(di.get e.size J).trans U;have a8:=(di.get (e.size+1) J).trans an;have bC:=di.size;refine ej (λb6=>?_) (λb6=>?_)
   ·have P:j<s.length:=by rw[M.len];omega
    have S:j<v.length:=J;obtain⟨c6,aN,cp,eB,eC,L⟩:=(Xt.refl (M.gr j s[j] v[j] (az P) (az S)) a6.w.ok).Ur 1 (by have:=H v[j] (aF S);omega);obtain⟨I,bn⟩:=M.app (az P) (az S) L J (D+1);have dd:=(M.gr j s[j] v[j] (az P) (az S)).cells;have b8:∀c,dT s[j]=some c->e.size+2<=c:=λc o=>(M.sep j s[j] c (az P) o).1;have ds:=((a6.le (ax _)).xt L (λc aA=>by have:=b8 c aA;simp;omega) (by simpa using av)).put bn dy (by simpa using av) ⟨1,0,D+1,true,false,s.set j c6⟩;have A:∀c,c<e.size+2->(dZ aN (e.size+2) ⟨1,0,D+1,true,false,s.set j c6⟩).get c=eX.get c:=λc aA=>by
     rw[dN bn,aq J];exact L.2.1 c J λo=>by have:=b8 c o;omega
    have dn:=L.2.2.2.sz;simp[M.gb,B,C,X,E,G,F,K,bu,bB,fo,P,c9,dd,cp,eB,eC,bn,(M.gr j s[j] v[j] (az P) (az S)).mG];exact⟨_,_,_,T,ds,(A _ J).trans a7,(A _ J).trans a8,I,dz,by simp[Q],λO hr=>by
     rcases cm hr with k|rfl
     ·exact Nat.le_succ_of_le (H O k)
     ·have:=H v[j] (aF S);simp;omega⟩
   ·simp[B,C,X,E,G,F,K,bu,bB,c9];exact⟨v,s,D,T,a6.le (ax _),a7,a8,M,J,Q,λO hr=>Nat.le_succ_of_le (H O hr)⟩
  ·simp[U,B,C,X,E,G,F,K,bu,bB,eh,de,c9,eL,eF]
 clear c7 eH U an eI B ap bs C X;have eM:=c1;unfold mB kZ at eM;simp only[aB,aO]at eM;rintro r y ⟨c7,B,C,X,E,G,F,K,bu,bB⟩;simp[bu,bB];refine R0 401 (λj r y=>(∃R l,Zy j W b e h (qM h q l) (j+4) R (l.map ez.t) y/\runs h q l=true/\l.length<=n/\KJ l/\sO (1000+j) (qM h q l)/\PlC (qM h q l)/\dF r 11 R)/\dF r 0 (.ptr b 0 0 0)/\dF r 3 (Z n)/\dF r 6 (.ptr e.size 0 0 0)/\dF r 7 (.ptr (e.size+1) 0 0 0)/\dF r 12 (.arr (e.size+2) 0 0 4 false)) ?_ J (ax _) ⟨⟨dD,[],c7,rfl,ax _,λu fi=>by simp at fi,eO,?_,by simp[F]⟩,by simp[B,C,E,G,K]⟩
 ·rintro j r y gk ⟨⟨R,l,⟨v,s,D,T,ae,U,an,Y,aX,Q,H⟩,eo,eN,ef,er,b7,F⟩,B,C,E,G,K⟩;obtain⟨gE,gD,e9,gv⟩:=ae.g;simp[B,C,F,Y.go.len,e9];refine ej (λb6=>?_) (λb6=>?_)
  ·simp at b6;have gm:j<W.length:=J;simp[B,E,G,K,U,an];refine iC aeG dy ⟨W,b,j,qM h q l,h,.arr (e.size+2) 0 0 4 false,v⟩ ⟨rfl,ae.g,ae.w.ok,ec,by have:=Y.rda (b:=b) J;rw[Q]at this;exact this,Q,λO hr=>by have:=H O hr;omega,b7.1,b7.2.1,b7.2.2.1,eP⟩ ?_;rintro _ V ⟨u,rfl,e8,ea,t1,b9⟩;simp only at e8 ea t1 b9;have a6:=ae.call b9 t1;have M:F8 (e.size+2) (e.size+2) V v R (l.map ez.t) s D:=Y.kT λc o _=>b9.get c J;have a7:=(b9.get e.size J).trans U;have a8:=(b9.get (e.size+1) J).trans an;have bC:=b9.size;have cL:=λ{tb:fJ} (ht:tb.p 80=some nC)=>Cy ht h (qM h q l) u J (er.up J) J J;have eS:(e.size=V.size)=False:=dz;have eU:(e.size+1=V.size)=False:=dz;have eR:=a6.w.ok.low;have dv:=λc4=>a6.two (by simpa using av) (dE 7 1 [u.t]) (dE 7 0 [.agg [dD,Z 0,dD,dD,dD,dD,dD]]) (dE 7 1 [c4]);have N:=λc4=>SB a6.w.ok (dE 7 1 [u.t]) (dE 7 0 [.agg [dD,Z 0,dD,dD,dD,dD,dD]]) (dE 7 1 [c4]);cases o:qA h (qM h q l) u with
   |false=>
    rw[lI o]at cL;simp[B,C,E,G,F,K,a7,a8,eS,eU,eR,cL];obtain⟨A,aE,ca,dn⟩:=N tQ.t;exact⟨J,R,l,⟨v,s,D,T,dv _,(A _ J).trans a7,(A _ J).trans a8,M.kT λc _ o=>A c o,by rw[dn];omega,Q,λO hr=>by have:=H O hr;omega⟩,eo,eN,ef,er.up J,b7,rfl⟩
   |true=>
    have et:jO h (qM h q l) u=(kj h (qM h q l) u,true):=by unfold jO;rw[ar o]
    rw[et]at cL;simp[E,G,a7,a8,eS,eU,eR,cL];have al:=dv (kj h (qM h q l) u).t;obtain⟨A,aE,ca,dm⟩:=N (kj h (qM h q l) u).t;have bi:=(A e.size J).trans a7;have bH:=(A (e.size+1) J).trans a8;have I:F8 (e.size+2) (e.size+2) _ v R (l.map ez.t) s D:=M.kT λc _ o=>A c o;clear cL dv N A;generalize dZ _ _ _=aN at*
    simp[aE];have e4:Zy (j+1) W b e h (qM h q l) (j+4) R (l.map ez.t) aN:=⟨v,s,D,T,al,bi,bH,I,J,Q,H⟩;refine ll (λr dk=>(Zy (j+1) W b e h (qM h q l) (j+1+4) R (l.map ez.t) dk/\V.size+2<=dk.size/\dk.get V.size=some (dE 7 1 [u.t])/\dk.get (V.size+1)=some (dE 7 1 [(kj h (qM h q l) u).t]))/\dF r 0 (.ptr b 0 0 0)/\dF r 3 (Z n)/\dF r 6 (.ptr e.size 0 0 0)/\dF r 7 (.ptr (e.size+1) 0 0 0)/\dF r 11 R/\dF r 12 (.arr (e.size+2) 0 0 4 false)/\dF r 14 (.ptr V.size 0 0 0)/\dF r 15 (.ptr (V.size+1) 0 0 0)) (λb6=>?_) (λb6=>?_) ?_
    ·obtain⟨z,fB,fA⟩:∃z:Nat,z<4/\kt u.dP=some z:=by
      have:=eZ.1 (oJ o).2.1;exact⟨u.dP.toNat,J,eG this.1⟩
     have P:z<s.length:=by rw[I.len];omega
     have S:z<v.length:=J;have de:z<(qM h q l).count.length:=by have:=b7.2.2.2;omega
     have eb:=I.gr z s[z] v[z] (az P) (az S);obtain⟨c6,eE,cp,eB,eC,L⟩:=(Xt.refl eb al.w.ok).Ur (qM h q l).count[z] (by have:=H v[z] (aF S);omega);obtain⟨e5,bn⟩:=I.app (az P) (az S) L J (D+1);have dd:=eb.cells;have b8:∀c,dT s[z]=some c->e.size+2<=c:=λc o=>(I.sep z s[z] c (az P) o).1;have ds:=(al.xt L (λc aA=>by have:=b8 c aA;simp;omega) (by simpa using av)).put bn dy (by simpa using av) ⟨1,0,D+1,true,false,s.set z c6⟩;have dn:=L.2.2.2.sz;have ey:=λc (k:dT s[z]=some c)=>M.lt (az P) k;have eV:∀c,c<aN.size->(∀k,dT s[z]=some k->k≠c)->eE.get c=aN.get c:=λc aX bC=>L.2.1 c aX λk=>bC c k rfl;have A:∀c,c<aN.size->c≠e.size+2->(∀k,dT s[z]=some k->k≠c)->(dZ eE (e.size+2) ⟨1,0,D+1,true,false,s.set z c6⟩).get c=aN.get c:=λc aX dm bC=>by
      rw[dN bn,aq dm];exact eV c aX bC
     have sv:fk (aN.cons (dE 1 0 [Z (qM h q l).count[z]])) eE V.size=true:=fG ((eV _ J λk o=>by have:=ey k o;omega).trans (by rw[dS,aq J]));simp[I.gb,B,C,E,G,F,K,aE,bi,fA,fB,P,de,dd,cp,eB,eC,bn,eb.mG,sv];refine⟨⟨_,_,_,T,ds,(A _ J J λk o=>by have:=b8 k o;omega).trans bi,(A _ J J λk o=>by have:=b8 k o;omega).trans bH,e5,dz,by simp[Q],λO hr=>?_⟩,J,(A _ J J λk o=>by have:=ey k o;omega).trans aE,(A _ J J λk o=>by have:=ey k o;omega).trans ca⟩;rcases cm hr with k|rfl
     ·have:=H O k;omega
     ·have:=H v[z] (aF S);simp;omega
    ·simp[B,C,E,G,F,K];exact⟨⟨v,s,D,T,al,bi,bH,I,J,Q,λO hr=>by have:=H O hr;omega⟩,J,aE,ca⟩
    ·have gd:∀c,dT R=some c->c<V.size:=λc=>M.olt;clear e4 al bi bH I aE ca dm B C E G F K;rintro r e0 ⟨⟨⟨v,s,D,T,al,bi,bH,I,dm,Q,H⟩,gM,aE,ca⟩,B,C,E,G,F,K,fb,fe⟩;obtain⟨fY,gi,cp,L⟩:=I.go.mn (cx:=cx) (f:=ez.t) al.w.ok Ra rfl Q8 rfl dy (λ_=>rfl) u dz;have eA:∀c,dT R=some c->e.size+2<=c:=λc k=>(I.ob c k).1;have A:∀c,c<e0.size->(∀k,dT R=some k->k≠c)->gi.get c=e0.get c:=λc aX bC=>L.2.1 c aX λk=>bC c k rfl;have t6:=(A _ J λk o=>by have:=gd k o;omega).trans ca;have cb:=(A e.size J λk o=>by have:=eA k o;omega).trans bi;have e6:=I.out L J;have e7:=(al.xt L (λc aA=>by have:=eA c aA;simp;omega) (by simpa using av)).put cb dy (by simpa using av) (dE 7 (T+1) [(kj h (qM h q l) u).t]);have bT:qM h q (l++[u])=kj h (qM h q l) u:=by
      show vL _ _ _=_;rw[EC];show(jO h (qM h q l) u).1=_;rw[et]
     have dn:=L.2.2.2.sz;simp[B,C,E,G,F,K,fb,fe,aE,cp,t6,cb];refine⟨J,fY,l++[u],⟨v,s,D,T+1,e7,?_,?_,e6.kT λc o _=>?_,dz,Q,H⟩,?_,?_,?_,?_,?_,rfl⟩
     ·rw[bT,dN cb,ar rfl]
     ·rw[dN cb,aq J];exact(A (e.size+1) J λk o=>by have:=eA k o;omega).trans bH
     ·rw[dN cb,aq J]
     ·rw[CW,eo];simp[runs,rk,o]
     ·simp;omega
     ·intro x hx;rcases List.mem_append.1 hx with hx|hx
      ·exact ef x hx
      ·simp at hx;subst hx;omega
     ·have:=er.step h u;rw[et]at this;rw[bT];exact this
     ·have:=vj h (qM h q l).fj u.dP u.kind u.obj (kW u);obtain⟨fE,fL,gw,fS⟩:=b7;rw[bT];exact⟨by unfold kj;simp only;split<;>simp[fE],by unfold kj;simp only;split<;>simp[fL],by show(eY ..).1.dH.length<=_;omega,by unfold kj;simp[fS]⟩
  ·simp[F];exact(ae.le (ax _)).cut eW av (Y.go.aaE (d:=2) J (λc aA=>by have:=(Y.ob c aA).1;omega) afn) λc4 gg=>⟨l,rfl,eN,ef,eo,gg,c4⟩
 ·exact(⟨J,J,J,J⟩:PlC q)
end
def LB:nS prog cx 94 (λa:dW×Int×Int=>[a.1.t,Z a.2.1,Z a.2.2]) (λa=>a.1.dL.length<=1000000) (λa v=>∃p:Int,v= Z p/\p<a.1.dL.length):=by
 refine jh [] (iX 20975823 [] func94) (λa=>a.1.dL.length+5) (λa b c=>by simp at c;exact aC (dW.inj c.1) (aC c.2.1 c.2.2)) ?_;rintro⟨q,w,u⟩ hl d m;simp at hl m;obtain⟨r,e,f⟩:=m;simp[f94,r];refine fD q.dL.length J (λo d c=>∃l,il 1 c/\c.get 0=some (dE 15 0 [q.t])/\dF d 1 (Z w)/\dF d 2 (Z l)/\dF d 3 (.ptr 0 0 0 0)/\dF d 7 (Z o)) ?_ ?_ J ⟨u,⟨dy,dy,dy⟩,by simp[e,f]⟩
 ·rintro o d c s n ⟨l,h,i,e,f,j,g⟩;have x:=h.ne (b:=0) J;simp[i,e,j,g,s];refine ej (λk=>?_) (λk=>?_)
  ·simp[f];refine ej (λk=>?_) (λk=>?_)
   ·simp[g,h.hp];omega
   ·simp[i,e,f,j,g,n,qS,h]
  ·simp[i,e,f,j,g,n,h]
 ·rintro d c ⟨l,h,i,e,f,j,g⟩;simp[i,j,g,h.hp];omega
def Dt:nS prog cx 83 (λa:dW=>[a.t]) (λa=>a.jF.count.length<=1000000/\a.dL.length<=1000000) (λ_=>FS):=by
 refine jh [] (iX 268436511 [] func83) (λa=>a.jF.count.length+5) (λo p b=>by simp at b;exact dW.inj b) ?_;rintro a ⟨hl,q⟩ c j;simp at j;simp[f83,j];refine fD a.jF.count.length J (λl c b=>∃i,il 1 b/\b.get 0=some (dE 15 0 [a.t])/\dF c 1 (.ptr 0 0 0 0)/\dF c 3 (Z i)/\dF c 4 (Z l)) ?_ ?_ J ⟨0,⟨dy,dy,dy⟩,dy⟩
 ·rintro l c b k m ⟨i,g,d,e,h,f⟩;simp[d,e,f,k];refine ej (λn=>?_) (λn=>?_)
  ·simp[g.hp]
  ·simp[d,e,h,f,k,m,oG,g]
 ·rintro c b ⟨i,g,d,e,h,f⟩;simp[d,e,h,f,oG,g.hp]
def Jz(b:dW)(a:dJ):Prop:=Ap a=true->iN a.cond b.em.gF.length=true
def zk:nS prog cx 84 (λa:dW=>[a.t]) (λa=>a.jF.fj.dH.length<=1000000/\a.jF.fj.dH.length=a.jF.count.length) (λa=>NK (∀m∈a.jF.fj.dH,Jz a m)):=by
 refine jh [(131,Fs)] (iX 162259279247065002620836359716991 [] func84) (λa=>a.jF.fj.dH.length+5) (λu b d=>by simp at d;exact dW.inj d) ?_;rintro a ⟨hl,v⟩ g o;simp at o;simp[f84,o];refine fD a.jF.fj.dH.length J (λc g d=>il 1 d/\d.get 0=some (dE 15 0 [a.t])/\dF g 1 (.ptr 0 0 0 0)/\dF g 3 (sl (a.jF.fj.dH.map dJ.t))/\dF g 4 (Z c)/\∀m∈a.jF.fj.dH.take c,Jz a m) ?_ ?_ J ⟨⟨dy,dy,dy⟩,dy⟩
 ·rintro c g d n q ⟨f,j,k,h,i,l⟩;have r:a.jF.fj.dH.take (c+1)=a.jF.fj.dH.take c++[a.jF.fj.dH[c]]:=aQ n;have w:=f.ne (b:=0) J;simp[j,k,h,i,n,show c<a.jF.count.length by omega];refine ej (λe=>?_) (λe=>?_)
  ·simp[f.hp]
  clear e;simp[j,k,h,i,n,RA];refine ej (λe=>?_) (λe=>?_)
  ·simp[f.hp]
  simp[j,k,h,i,q,f];generalize a.jF.fj.dH[c]=m at*
  rw[r];intro s hu;rcases List.mem_append.1 hu with hu|hu
  ·exact l s hu
  rw[List.mem_singleton.1 hu];intro p;unfold Ap at p;rw[p]at e;simpa using e
 ·rintro g d ⟨f,j,k,h,i,l⟩;rw[aK]at l;simp[h,i,f.hp];exact l
def AE:nS prog cx 86 (λa:dW×Int×List Int=>[a.1.t,Z a.2.1,sl (a.2.2.map (T.int .i64))]) (λa=>a.1.dL.length<=1000000/\iN a.2.1 a.1.jF.count.length=true/\a.2.2.length<=1000000) (λ_=>FS):=by
 refine jh [(94,LB.jv)] (iX 576460752336982479 [] func86) (λa=>a.2.2.length+5) (λa b c=>by simp at c;exact aC (dW.inj c.1) (aC c.2.1 (jx (λ_ _ c=>by simpa using c) c.2.2))) ?_;rintro⟨u,y,s⟩ ⟨hl,p,B⟩ h w;simp only at hl p B;simp at w;obtain⟨A,e,d⟩:=w;have⟨z,n,_⟩:=iD p;have ht:=eG (eZ.1 p).1;simp[f86,A];refine fD s.length J (λr h c=>il 1 c/\c.get 0=some (dE 15 0 [u.t])/\dF h 1 (Z y)/\dF h 2 (sl (s.map (T.int .i64)))/\dF h 3 (.ptr 0 0 0 0)/\dF h 7 (Z r)) ?_ ?_ J ⟨⟨dy,dy,dy⟩,by simp[e,d]⟩
 ·rintro r h c q x ⟨g,i,e,d,j,f⟩;have G:=g.ne (b:=0) J;obtain⟨_,⟨k,rfl,C⟩,m⟩:=LB.use (u,y,IntKind.i64.wrap (s[r]-z)) hl;simp only at m C;simp[i,e,d,j,f,q,ht,n];refine ej (λo=>?_) (λo=>?_)
  ·simp[i,e,d,j,f,x,g]
  have D:decide (k<0)=true\/decide (k<0)=false/\kt k=some k.toNat/\∃v,u.dL[k.toNat]? =some v:=by
   by_cases l:k<0
   ·exact .inl (aV l)
   ·exact .inr ⟨aM l,eG J,_,az J⟩
  rcases D with l|⟨l,E,v,F⟩
  ·simp[i,e,d,j,f,q,ht,n,qS,m,g.hp,l]
  ·simp[i,e,d,j,f,q,ht,n,qS,m,l,E,F];refine ej (λo=>?_) (λo=>?_)
   ·simp[g.hp]
   ·simp[i,e,d,j,f,x,g]
 ·rintro h c ⟨g,i,e,d,j,f⟩;simp[d,f,g.hp]
structure afK(w:dW):Prop where
 l1:w.jF.fj.ei.length<=1000000
 l2:w.jF.fj.dH.length<=1000000
 l3:∀l∈w.jF.fj.ei,l.ew.length<=1000000
 e:w.jF.fj.ei.length=w.em.ei.length
 t:∀t∈w.jF.fj.dH,Jz w t
 m:∀c∈w.em.gF,iN c.kv w.jF.fj.ei.length=true
def Bm:nS prog cx 85 (λc:dW=>[c.t]) afK (λ_=>FS):=by
 refine jh [(132,wu)] (iX 5575186465791384471966860632566831987622399 [] func85) (λc=>1000005) (λa b g=>by simp at g;exact dW.inj g) ?_;rintro c s f P;simp at P;simp[f85,P];refine fD c.jF.fj.ei.length (by have:=s.l1;omega) (λj f g=>il 2 g/\g.get 0=some (dE 15 0 [c.t])/\g.get 1=some (dE 4 1 [c.jF.fj.t])/\dF f 1 (.ptr 0 0 0 0)/\dF f 3 (.ptr 1 0 0 0)/\dF f 4 (Z j)) ?_ ?_ (by have:=s.l1;omega) ⟨⟨dy,dy,dy⟩,dy⟩
 ·rintro j f g E H ⟨h,p,l,d,i,r⟩;have w:=h.ne (b:=0) J;have F:=h.ne (b:=1) J;have Y:=s.l3 _ (aF E);have T:j<c.em.ei.length:=by have:=s.e;omega
  simp[p,l,d,i,r,E,w,h.low,wU,T];have V:il 2 (g.cons (dE 2 1 [c.jF.fj.ei[j].t])):=h.cons _;have ae:2<=g.size:=h.sz;generalize c.jF.fj.ei[j]=o at*
  refine ej (λk=>?_) (λk=>?_)
  ·simp[h.hp]
  clear k;simp;refine fD o.ew.length J (λq f v=>il 2 v/\g.size<v.size/\v.get 0=some (dE 15 0 [c.t])/\v.get 1=some (dE 4 1 [c.jF.fj.t])/\v.get g.size=some (dE 2 1 [o.t])/\dF f 1 (.ptr 0 0 0 0)/\dF f 3 (.ptr 1 0 0 0)/\dF f 4 (Z j)/\dF f 5 (.ptr g.size 0 0 0)/\dF f 6 (Z q)) ?_ ?_ J ⟨V,dy,by simp[p,l,d,i,r,w,F]⟩
  ·rintro q f v S Q ⟨C,L,x,G,y,d,i,r,z,A⟩;have U:=kU (a:=q) (b:=1) J J;have I:decide (0<q)=false/\True/\(∃D:Int,D=D)\/decide (0<q)=true/\kt ((q:Int)-1)=some (q-1)/\∃D,o.ew[q-1]? =some D:=by
    by_cases u:0<q
    ·refine .inr ⟨aV u,?_,_,az J⟩;rw[show(q:Int)-1=((q-1:Nat):Int)by omega];exact eG J
    ·exact .inl ⟨aM u,trivial,0,rfl⟩
   rcases I with⟨u,_,D,K⟩|⟨u,N,D,K⟩
   ·simp[x,y,d,z,A,S,wU,u];refine ej (λk=>?_) (λk=>?_)
    ·simp[C.hp]
    ·simp[x,G,y,d,i,r,z,A,Q,C,L]
   ·simp[x,y,d,z,A,S,wU,u,N,K,U];refine ej (λk=>?_) (λk=>?_)
    ·simp[C.hp]
    ·simp[x,G,y,d,i,r,z,A,Q,C,L]
  ·rintro f v ⟨C,L,x,G,y,d,i,r,z,A⟩;simp[x,G,y,d,i,r,z,A,H,C]
 ·rintro f g ⟨h,p,l,d,i,r⟩;simp[p,l,d,i,r,wU];refine ej (λk=>?_) (λk=>?_)
  ·simp[h.hp]
  clear k;simp;refine fD c.jF.fj.dH.length (by have:=s.l2;omega) (λj f g=>il 2 g/\g.get 0=some (dE 15 0 [c.t])/\g.get 1=some (dE 4 1 [c.jF.fj.t])/\dF f 1 (.ptr 0 0 0 0)/\dF f 3 (.ptr 1 0 0 0)/\dF f 7 (Z j)) ?_ ?_ (by have:=s.l2;omega) ⟨h,by simp[p,l,d,i]⟩
  ·rintro j f g E H ⟨h,p,l,d,i,B⟩;have w:=h.ne (b:=0) J;have F:=h.ne (b:=1) J;have ht:=s.t _ (aF E);simp[p,l,d,i,B,E,w,h.low,wU];refine ej (λk=>?_) (λk=>?_)
   ·simp[h.hp]
   clear k;have I:Ap c.jF.fj.dH[j]=false/\True/\True/\(∃n:ja,n=n/\∃o:dR,o=o)\/Ap c.jF.fj.dH[j]=true/\kt c.jF.fj.dH[j].cond=some c.jF.fj.dH[j].cond.toNat/\True/\(∃n,c.em.gF[c.jF.fj.dH[j].cond.toNat]? =some n/\kt n.kv=some n.kv.toNat/\∃o,c.jF.fj.ei[n.kv.toNat]? =some o):=by
    cases u:Ap c.jF.fj.dH[j]
    ·exact .inl ⟨rfl,trivial,trivial,default,rfl,default,rfl⟩
    ·have d:=ht u;have⟨n,R,_⟩:=iD d;have O:=s.m n (ay R);have⟨o,hl,_⟩:=iD O;exact .inr ⟨rfl,eG (eZ.1 d).1,trivial,n,R,eG (eZ.1 O).1,o,hl⟩
   unfold Ap at I;rcases I with⟨M,_,_,n,_,o,_⟩|⟨M,N,_,n,K,W,o,X⟩
   ·simp[p,l,d,i,B,w,F,M,H,h.cons]
   ·simp[p,l,d,i,B,w,F,M,N,K,W,X];refine ej (λk=>?_) (λk=>?_)
    ·simp[h.hp]
    ·simp[p,l,d,i,B,w,F,H,h.cons]
  ·rintro f g ⟨h,p,l,d,i,B⟩;simp[l,i,B,h.hp]
structure acY(w:dW):Prop where
 c:w.jF.count.length<=1000
 ev:w.dL.length<=1000000
 l:w.jF.fj.ei.length<=1000
 t:w.jF.fj.dH.length<=1000
 d:w.jF.fj.done.length<=1000
 f:w.jF.ee.length<=1000
 r:∀l∈w.jF.fj.ei,l.ew.length<=1000
 sm:sO 1000 w.jF
 wb:j8 w.em=true
 es:KJ w.dL
def Fx:nS prog cx 38 (λd:dW=>[d.t]) (λd=>acY d/\mB d.em d.jF=true/\d.dL.length<=16) (λ_=>FS):=by
 refine jh [(81,yg),(82,xh),(83,Dt.jv),(84,zk.jv),(85,Bm.jv),(80,nC),(86,AE.jv)] (iX 324518553667945246868126660821503 [] func38) (λd=>1000005) (λa b g=>by simp at g;exact dW.inj g) ?_;rintro d ⟨i,P,cp⟩ k N;simp at N;have Q:=P;unfold mB at Q;simp only[aB,aO]at Q;obtain⟨⟨⟨bB,_⟩,cb⟩,bu⟩:=Q;have H:=bB;unfold kZ at H;simp only[aB,aO]at H;have⟨cL,c1,c4,c6,c7,c9⟩:=kV i.wb;have bC:∀n∈d.em.gF,iN n.kv d.jF.fj.ei.length=true:=λn bn=>by
  rw[H.1.1.2];exact List.all_eq_true.1 H.1.1.1 n bn
 have ae:d.em.gF.length<=1099511627776:=J;have ap:j8 d.em=true:=i.wb;obtain⟨_,⟨b7,rfl⟩,X⟩:=Dt.use d ⟨by have:=i.c;omega,i.ev⟩;obtain⟨_,⟨aN,rfl,bi⟩,Y⟩:=zk.use d ⟨by have:=i.t;omega,J⟩;cases aN with
 |false=>simp[f38,N,Ab,Hl,ap,P,X,Y,ae]
 |true=>
 obtain⟨_,⟨b8,rfl⟩,aX⟩:=Bm.use d ⟨by have:=i.l;omega,by have:=i.t;omega,λl s=>by have:=i.r l s;omega,J,bi rfl,bC⟩;simp[f38,N,Ab,Hl,ap,P,X,Y,aX,ae];refine ej (λu=>?_) (λu=>?_)
 ·simp
 clear u;simp;refine fD d.jF.ee.length (by have:=i.f;omega) (λe k g=>il 1 g/\g.get 0=some (dE 15 0 [d.t])/\dF k 1 (.ptr 0 0 0 0)/\dF k 3 (Z e)) ?_ ?_ (by have:=i.f;omega) ⟨⟨dy,dy,dy⟩,dy⟩
 ·rintro e k g B O ⟨o,v,j,E⟩;have bs:e<d.jF.fj.done.length:=J;simp[v,j,E,B,bs];refine ej (λu=>?_) (λu=>?_)
  ·simp[o.hp]
  ·simp[v,j,E,O,o]
 rintro k g ⟨o,v,j,E⟩;have bN:=o.ne (b:=0) J;simp[v,j,E,o.low];have⟨K,b9⟩:∃K,g.size=K:=⟨_,rfl⟩;have ca:1<=K:=by have:=o.sz;omega
 refine fD d.dL.length J (λe k h=>∃I m,sO (1000+e) m/\il 1 h/\g.size<h.size/\h.get 0=some (dE 15 0 [d.t])/\h.get g.size=some (dE 7 I [m.t])/\dF k 1 (.ptr 0 0 0 0)/\dF k 4 (.ptr g.size 0 0 0)/\dF k 5 (Z e)) ?_ ?_ J ⟨1,d.jF,i.sm,o.cons _,dy,by simp[v,j,bN]⟩
 ·rintro e k h B O ⟨I,m,U,q,bH,w,D,j,F,y⟩;have av:=q.ne (b:=0) J;have aA:(g.size=h.size)=False:=dz;have G:=i.es d.dL[e] (aF B);have x:=λ{b6:fJ} (ht:b6.p 80=some nC)=>Cy ht d.em m d.dL[e] J (U.up J) G.1 G.2;have S:il 1 ((h.cons (dE 7 1 [d.dL[e].t])).cons (dE 7 0 [T.agg [T.dK [] false,T.int .i64 0,T.dK [] false,T.dK [] false,T.dK [] false,T.dK [] false,T.dK [] false]])):=(q.cons _).cons _;have C:=mL S.hp (show h.size+1<_ by simp);cases s:qA d.em m d.dL[e]with
  |false=>
   rw[lI s]at x;simp[w,D,j,F,y,B,av,aA,q.low,x,q.hp]
  |true=>
   have al:jO d.em m d.dL[e]=(kj d.em m d.dL[e],true):=by unfold jO;rw[ar s]
   have bT:sO (1000+(e+1)) (kj d.em m d.dL[e]):=by have:=U.step d.em d.dL[e];rw[al]at this;exact this
   rw[al]at x;have an:iN d.dL[e].dP d.jF.count.length=true:=by
    unfold qA at s;simp only[aB]at s;rw[bu];exact s.1.1.1.1.1.1.1.1.2
   obtain⟨_,⟨r1,rfl⟩,L⟩:=AE.use (d,d.dL[e].dP,d.dL[e].mo) ⟨dA,an,G.1⟩;obtain⟨_,⟨r2,rfl⟩,M⟩:=AE.use (d,d.dL[e].dP,d.dL[e].uF) ⟨dA,an,G.2⟩;simp only at L M;simp[w,D,j,F,y,B,av,aA,q.low,x,L,M,C];generalize A:dZ _ (h.size+1) _=z;have R:il 1 z:=by rw[<-A];exact S.put _ _
   have dd:z.size=h.size+1+1:=by rw[<-A];simp
   have V:∀n,n≠h.size+1->n≠h.size->z.get n=h.get n:=λn aE bS=>by rw[<-A,C,aq aE];simp[aE,bS]
   have a6:=(V 0 J J).trans w;have a7:=(V g.size J J).trans D;have a8:z.get (h.size+1)=some (dE 7 1 [(kj d.em m d.dL[e]).t]):=by rw[<-A,C,ar rfl]
   clear A C S x L M;refine ej (λu=>?_) (λu=>?_)
   ·simp[R.hp]
   ·simp[a7,a8,j,F,y,O];have W:=mL R.hp (show g.size<z.size by omega);exact⟨I+1,_,bT,R.put _ _,J,(W _ 0).trans ((aq J).trans a6),(W _ g.size).trans (ar rfl)⟩
 ·rintro k h ⟨I,m,U,q,bH,w,D,j,F,y⟩;simp[w,j,y,q.hp]
