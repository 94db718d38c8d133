/- X07 -/
import Derived.Test.YtajpdafdickapaaGreatDoorA16
import Derived.Test.YtajpdafdickapaaGreatDoorA13
set_option linter.all false
set_option maxRecDepth 100000
set_option maxHeartbeats 8000000
namespace Go.Proofs.YtajpdafdickapaaGreatDoor
noncomputable section
open Go Go.TI Tryz
attribute [-simp] List.map_take List.map_drop List.map_append fw eY eg Bool.not_or Bool.not_and
attribute [simp] fq eZ
def OY(b c:H)(f:Nat)(e:List (T×aa (Nat×List T))):Prop:=∃d g,nG c d f g e/\(∀a,Fp c d a->b.size<=a)/\hU b.size c/\∀a,a<b.size->c.get a=b.get a
def OY.of{b f d:H}{e j k:Nat}{h:List (T×aa (Nat×List T))}(n:nG d e j k h)(c:Step e f d)(i:∀a,Fp f e a->b.size<=a)(l:b.size<=f.size)(m:∀a,a<b.size->f.get a=b.get a):OY b (lO b d) j h:=
 ⟨e,k,n.step ((hU.out ⟨c.ok.hp,c.ok.low,aw _⟩ b)) λa _=>fW b d a,λa g=>by
   rw[iT (fW b d e)]at g;rcases c.fp a g with q|q
   ·exact i a q
   ·omega,hU.out ⟨c.ok.hp,c.ok.low,aO l c.ok.sz⟩ b,λa g=>(fW b d a).trans ((c.get a J λq=>by have:=i a q;omega).trans (m a g))⟩
def pS8(a:dZ)(b:List T)(c:H):Prop:=b=[a.t]/\hU 0 c/\a.ei.length<=1000000/\a.d8.length<=1000000/\a.dH.length<=1000000
def AF(b:Nat):List dM:=(List.range b).map λa=>⟨if a=0 then 1 else 0,0,false⟩
def Nq(a:Nat):AF (a+1)=AF a++[⟨if a=0 then 1 else 0,0,false⟩]:=by
 unfold AF;rw[List.range_succ,List.map_append];rfl
def qS8(a:dZ)(_:List T)(e:H)(g:T)(f:H):Prop:=∃b c d,g= .agg [b,Z (-1),c,d]/\OY e f 4 [(b,some (2,(List.replicate a.ei.length ()).map zd)),(Z (-1),none),(c,some (1,(List.replicate a.d8.length false).map T.bool)),(d,some (3,(AF a.dH.length).map dM.t))]
def Sz8(e:Nat)(f:H)(Lk:List Unit)(a:List Bool)(Th:List dM):Prop:=∃g b c d,nG f e 4 g [(b,some (2,Lk.map zd)),(Z (-1),none),(c,some (1,a.map T.bool)),(d,some (3,Th.map dM.t))]
def afv:(jI dZ pS8 qS8).Ok prog cx 87:=by
 refine jx (tb:=⟨pt [],ht []⟩) iL iB (iQ 9071038046463 [] func87) (λ_ _=>1000005) (λe a h aX=>by obtain⟨rfl,_⟩:=aX;simp[f87]) ?_;rintro(w:dZ) _ h ⟨rfl,aA,hl,bB,ht⟩ d al;simp at al;simp[f87,al];generalize N:dY _ _ _=p;have O:hU 0 p:=by rw[<-N];exact(((aA.hr.cons _).cons _).cons _).put _ _
 have bH:p.size=h.size+3:=by rw[<-N];simp
 have K:∀j,p.get j=if j=h.size+2 then some (dE 4 1 [.agg [dD,Z (-1),dD,dD]])else if j=h.size+1 then some we else if j=h.size then some (dE 6 0 [w.t])else h.get j:=λj=>by
  rw[<-N,mr (((aA.hr.cons _).cons _).cons _).hp dy,dT,dT,dT,gU];simp only[size_cons,oz];by_cases L:j=h.size+2<;>simp[L,we]
 have⟨bi,P⟩:=nG.start (h:=p) (w:=h.size+2) (szw:=4) (ver:=1) (F:=[(dD,some (2,[])),(Z (-1),none),(dD,some (1,[])),(dD,some (3,[]))]) O (by rw[K,aq rfl];rfl) dy;have I:Lb (h.size+2) p h.size (dE 6 0 [w.t]):=⟨by rw[K,ao J,ao J,aq rfl],λL=>by have:=P _ L;omega⟩;have a7:Lb (h.size+2) p (h.size+1) we:=⟨by rw[K,ao J,aq rfl],λL=>by have:=P _ L;omega⟩;have a8:∀j,j<h.size->p.get j=h.get j:=λj E=>by rw[K,ao J,ao J,ao J]
 clear N K;refine fk w.ei.length J (λe d g=>Sz8 (h.size+2) g (List.replicate e ()) [] []/\Step (h.size+2) p g/\dF d 1 (.ptr h.size 0 0 0)/\dF d 2 (.ptr (h.size+1) 0 0 0)/\dF d 3 (.ptr (h.size+2) 0 0 0)/\dF d 4 (Z e)) ?_ ?_ J ⟨⟨_,_,_,_,bi⟩,Step.refl O,dy⟩
 ·rintro e d g G D ⟨⟨ver,r,s,z,b⟩,c,i,k,l,m⟩;have o:=b.get;simp at o;have⟨q,u,n,y⟩:=(b.gr 0 rfl).lP (cx:=cx) (f:=zd) b.ok Lr rfl HF rfl dy (λ_=>rfl) () dz;have⟨v,U,B⟩:=b.app 0 rfl y;have⟨C,A⟩:=B _ rfl;simp only[<-List.replicate_succ']at A;simp[-List.map_replicate]at v C A;simp only[zd]at n;simp[i,k,l,m,G,(I.step c).get,o,n,v,dX,y.1.ir,y.1.cells,D];exact⟨⟨_,_,_,_,A⟩,c.trans C⟩
 rintro d g ⟨⟨ver,r,s,z,b⟩,c,i,k,l,m⟩;simp[i,m,(I.step c).get];refine fk w.d8.length J (λe d g=>Sz8 (h.size+2) g (List.replicate w.ei.length ()) (List.replicate e false) []/\Step (h.size+2) p g/\dF d 1 (.ptr h.size 0 0 0)/\dF d 2 (.ptr (h.size+1) 0 0 0)/\dF d 3 (.ptr (h.size+2) 0 0 0)/\dF d 5 (Z e)) ?_ ?_ J ⟨⟨_,_,_,_,b⟩,c,by simp[i,k,l]⟩
 ·clear b c i k l m;rintro e d g G D ⟨⟨ver,r,s,z,b⟩,c,i,k,l,m⟩;have o:=b.get;simp at o;have⟨q,u,n,y⟩:=(b.gr 2 rfl).lP (cx:=cx) (f:=T.bool) b.ok Bh rfl MF rfl dy dy false dz;have⟨v,U,B⟩:=b.app 2 rfl y;have⟨C,A⟩:=B _ rfl;simp only[<-List.replicate_succ']at A;simp[-List.map_replicate]at v C A;simp[i,k,l,m,G,(I.step c).get,o,n,v,dX,y.1.ir,y.1.cells,D];exact⟨⟨_,_,_,_,A⟩,c.trans C⟩
 clear b c i k l m;rintro d g ⟨⟨ver,r,s,z,b⟩,c,i,k,l,m⟩;simp[i,m,(I.step c).get];refine fk w.dH.length J (λe d g=>Sz8 (h.size+2) g (List.replicate w.ei.length ()) (List.replicate w.d8.length false) (AF e)/\Step (h.size+2) p g/\dF d 1 (.ptr h.size 0 0 0)/\dF d 2 (.ptr (h.size+1) 0 0 0)/\dF d 3 (.ptr (h.size+2) 0 0 0)/\dF d 6 (Z e)) ?_ ?_ J ⟨⟨_,_,_,_,b⟩,c,by simp[i,k,l]⟩
 ·clear b c i k l m;rintro e d g G D ⟨⟨ver,r,s,z,b⟩,c,i,k,l,m⟩;have o:=b.get;simp at o;have bN:=c.ok.sz;have bC:(h.size=g.size)=False:=dz;have an:(h.size+2=g.size)=False:=dz;have av:=(I.step c).get;have ap:∀M,∃q u,jc cx ((g.cons (dE 3 M [dM.t ⟨if e=0 then 1 else 0,0,false⟩])).cons (dE 3 0 [dM.t ⟨if e=0 then 1 else 0,0,false⟩])) 35 35 z (.arr (g.size+1) 0 0 1 false)=some (.val q u)/\q.ir=true/\q.cells=[q]/\u.get (h.size+2)=some (dE 4 ver [.agg [r,Z (-1),s,z]])/\fh (g.cons (dE 3 M [dM.t ⟨if e=0 then 1 else 0,0,false⟩])) u (h.size+2)=true/\Sz8 (h.size+2) (dY u (h.size+2) (dE 4 (ver+1) [.agg [r,Z (-1),s,q]])) (List.replicate w.ei.length ()) (List.replicate w.d8.length false) (AF (e+1))/\Step (h.size+2) p (dY u (h.size+2) (dE 4 (ver+1) [.agg [r,Z (-1),s,q]])):=λM=>by
   have ae:=b.cons (dE 3 M [dM.t ⟨if e=0 then 1 else 0,0,false⟩]);have bu:=Step.cons b.ok b.lt (dE 3 M [dM.t ⟨if e=0 then 1 else 0,0,false⟩]);have⟨q,u,n,y⟩:=(ae.gr 3 rfl).lP (cx:=cx) (f:=dM.t) ae.ok D8 rfl HE rfl dy (λ_=>rfl) (⟨if e=0 then 1 else 0,0,false⟩:dM) (by simp[AF];omega);have⟨v,U,B⟩:=ae.app 3 rfl y;have⟨C,A⟩:=B _ rfl;rw[<-Nq]at C A;rw[size_cons]at n;exact⟨q,u,n,y.1.ir,y.1.cells,v,U,⟨_,_,_,_,A⟩,(c.trans bu).trans C⟩
  by_cases Q:e=0
  ·subst Q;have⟨q,u,n,v,B,V,W,X,Y⟩:=ap 2;simp at n W;have aE:binop .add (Z 0) (Z 1)=some (Z 1):=by simpa using D
   simp[i,k,l,m,G,av,o,an,b.ok.low,n,v,B,V,dX,aE];exact⟨X,Y⟩
  ·have⟨q,u,n,v,B,V,W,X,Y⟩:=ap 1;simp[Q]at n W;simp[i,k,l,m,Q,G,av,o,an,b.ok.low,n,v,B,V,dX,D];exact⟨X,Y⟩
 clear b c i k l m;rintro d g ⟨⟨ver,r,s,z,b⟩,c,i,k,l,m⟩;have o:=b.get;simp at o;have R:=a7.step c;have S:=R.get;unfold we at S;have bn:=b.qD R (dE 4 1 [.agg [r,Z (-1),s,z]]);have aN:(dY g (h.size+1) (dE 4 1 [.agg [r,Z (-1),s,z]])).get (h.size+1)=_:=(dN S _ _).trans (aq rfl);simp[i,k,l,m,(I.step c).get,o,S,dX,aN,-List.map_replicate];have bs:Step (h.size+2) h p:=⟨⟨O.hp,O.low,J⟩,λj E _=>a8 j E,λj E=> .inr (by have:=P j E;omega)⟩;exact⟨r,s,z,rfl,OY.of bn (Step.qD b.ok R _ h (bs.trans c) J) (λj E=>by
  rcases E with rfl|⟨x,a6,_⟩
  ·omega
  ·have:=H.fa a6;omega) (au _) λ_ _=>rfl⟩
def KD(a:dZ)(b:List T)(c:H):Prop:=b=[a.t]/\hU 0 c/\a.ei.length<=1000000/\a.d8.length<=1000000/\a.dH.length<=1000000/\a.cells.length<=1000000
def TB(a:dZ)(c d e f g h:T)(b:List Int):List (T×aa (Nat×List T)):=[(c,some (2,(List.replicate a.ei.length ()).map zd)),(Z (-1),none),(d,some (1,(List.replicate a.d8.length false).map T.bool)),(e,some (3,(AF a.dH.length).map dM.t)),(f,some (1,b.map (T.int .i64))),(g,some (1,(List.replicate a.d8.length 0).map (T.int .i64))),(h,some (1,(List.replicate a.dH.length 0).map (T.int .i64)))]
def Ku(g:dZ)(_:List T)(h:H)(j:T)(i:H):Prop:=∃a b c d e f,j= .agg [a,Z (-1),b,c,d,e,f]/\OY h i 7 (TB g a b c d e f (g.cells.map io.jG))
def abV:(jI dZ KD Ku).Ok prog cx 39:=by
 refine jx (tb:=⟨pt [],ht [(87,jI dZ pS8 qS8)]⟩) iL iB (iQ 1048607 [(1,[(1,3),(1,5),(1,7),(1,9),(1,11)])] func39) (λ_ _=>1000005) (λp s h c1=>by obtain⟨rfl,_⟩:=c1;simp[f39]) ?_;rintro(d:dZ) _ h ⟨rfl,dd,hl,E,ht,j⟩ y k;simp at k;have bN:d.d8.length*8<=70368744177664:=J;have bS:d.dH.length*8<=70368744177664:=J;simp[f39,k];generalize z:((TI.hr h).cons _).cons _=u;have de:hU 0 u:=by rw[<-z];exact(dd.hr.cons _).cons _
 refine mo afv dy d ⟨rfl,de,hl,E,ht⟩ ?_;rintro _ c ⟨m,n,o,rfl,g,R,i,bX,av,Q⟩;have eb:u.size=h.size+2:=by rw[<-z];simp
 have ea:=av.sz;rw[eb]at ea;have dn:u.get h.size=some (dE 6 0 [d.t]):=by rw[<-z];simp
 have ds:u.get (h.size+1)=some nT:=by rw[<-z];simp[nT]
 have dv:∀a,a<h.size->u.get a=h.get a:=λa j=>by rw[<-z,dT,ao dz,dT,ao dz,gU]
 clear z;have a0:=(Q h.size J).trans dn;have a1:=(Q (h.size+1) J).trans ds;have bu:=fD (Q h.size J);have c9:(h.size=c.size)=False:=dz;have eh:(h.size=c.size+1)=False:=dz;have bH:fh u c (c.size+1+1)=true:=iU (lj _ J);have M:=λp a aN S (F: [(m,some (2,(List.replicate d.ei.length ()).map zd)),(Z (-1),none),(n,some (1,(List.replicate d.d8.length false).map T.bool)),(o,some (3,(AF d.dH.length).map dM.t))][p]? =some (a,some (aN,S)))=>And.intro (i.gr p F).ir (i.gr p F).cells;have b7:=M 0 m _ _ rfl;have b8:=M 2 n _ _ rfl;have b9:=M 3 o _ _ rfl;have bB:fh u c c.size=true:=iU (lj _ J);have bC:fh u c (c.size+1)=true:=iU (lj _ J);simp[bN,bS,a0,bu,c9,bB,bC,bH];generalize N:dY _ _ _=r;have bs:hU 0 c:=⟨av.hp,av.low,aw _⟩;have KH:hU 0 r:=by rw[<-N];exact(((bs.cons _).cons _).cons _).put _ _
 have et:r.size=c.size+3:=by rw[<-N];simp
 have D:∀a,r.get a=if a=c.size+2 then some (dE 7 1 [.agg [m,Z (-1),n,o,dD,.arr c.size 0 0 d.d8.length false,.arr (c.size+1) 0 0 d.dH.length false]])else if a=c.size+1 then some ⟨1,0,0,true,false,List.replicate d.dH.length (Z 0)⟩else if a=c.size then some ⟨1,0,0,true,false,List.replicate d.d8.length (Z 0)⟩else c.get a:=λa=>by
  rw[<-N,mr (((bs.cons _).cons _).cons _).hp dy,dT,dT,dT];simp only[size_cons];by_cases q:a=c.size+2
  ·simp[q]
  ·by_cases B:a=c.size+1<;>by_cases di:a=c.size<;>simp[q,B,di]
 clear N;have P:∀a,a<c.size->r.get a=c.get a:=λa q=>by rw[D,ao J,ao J,ao J]
 have O:∀(l:Nat) s,(TB d m n o dD (.arr c.size 0 0 d.d8.length false) (.arr (c.size+1) 0 0 d.dH.length false) [])[l]? =some s->∀a,dS s.1=some a->(l<4/\[(m,some (2,(List.replicate d.ei.length ()).map zd)),(Z (-1),none),(n,some (1,(List.replicate d.d8.length false).map T.bool)),(o,some (3,(AF d.dH.length).map dM.t))][l]? =some s/\h.size+2<=a/\a<c.size)\/(l=5/\a=c.size)\/(l=6/\a=c.size+1):=by
  intro l s k a j;have c6:=λ(G: [(m,some (2,(List.replicate d.ei.length ()).map zd)),(Z (-1),none),(n,some (1,(List.replicate d.d8.length false).map T.bool)),(o,some (3,(AF d.dH.length).map dM.t))][l]? =some s)=>And.intro G (And.intro (show h.size+2<=a by have:=bX a (i.Cp (ay G) j);omega) (i.fp a (i.Cp (ay G) j)));unfold TB at k;rcases l with _|_|_|_|_|_|_|l
  iterate 4 exact .inl ⟨J,c6 k⟩
  ·simp at k;subst k;simp at j
  ·simp at k;subst k;simp at j;exact .inr (.inl ⟨rfl,j.symm⟩)
  ·simp at k;subst k;simp at j;exact .inr (.inr ⟨rfl,j.symm⟩)
  ·simp at k
 have a6:nG r (c.size+2) 7 1 (TB d m n o dD (.arr c.size 0 0 d.d8.length false) (.arr (c.size+1) 0 0 d.dH.length false) []):=by
  refine⟨KH,by rw[D,aq rfl];rfl,λf E=>?_,λl K cL s b k cb a A B=>cL ?_⟩
  ·have ap:=λp a aN S (F: [(m,some (2,(List.replicate d.ei.length ()).map zd)),(Z (-1),none),(n,some (1,(List.replicate d.d8.length false).map T.bool)),(o,some (3,(AF d.dH.length).map dM.t))][p]? =some (a,some (aN,S)))=>(i.gr p F).mono (h':=r) λq c4=>P q (i.fp q (i.Cp (ay F) c4));unfold TB at E;simp only[cr,cN,or_false]at E;rcases E with rfl|rfl|rfl|rfl|rfl|rfl|rfl
   ·exact⟨ap 0 _ _ _ rfl,show(2:Nat)≠7 by decide⟩
   ·show dS _=none;simp
   ·exact⟨ap 2 _ _ _ rfl,show(1:Nat)≠7 by decide⟩
   ·exact⟨ap 3 _ _ _ rfl,show(3:Nat)≠7 by decide⟩
   ·exact⟨Gr.nil _ _,show(1:Nat)≠7 by decide⟩
   ·exact⟨.inr ⟨c.size,0,0,true,_,dy,by rw[D,ao J,ao J,aq rfl],dy⟩,show(1:Nat)≠7 by decide⟩
   ·exact⟨.inr ⟨c.size+1,0,0,true,_,dy,by rw[D,ao J,aq rfl],dy⟩,show(1:Nat)≠7 by decide⟩
  ·rcases O l s k a A with⟨bi,ae,ec,ef⟩|⟨bi,ae⟩|⟨bi,ae⟩<;>rcases O K b cb a B with⟨r1,r2,r3,r4⟩|⟨r1,r2⟩|⟨r1,r2⟩<;>try omega
   exact Decidable.byContradiction λe=>i.WF l K e s b ae r2 a A B
 have U:∀a,Fp r (c.size+2) a->h.size+2<=a:=by
  rintro a (rfl|⟨x,I,v,a8,q⟩)
  ·omega
  ·rw[a6.get]at I;simp only[ar]at I;subst I;simp only[fF,br,cK,bP,T.cells]at a8;obtain⟨f,cp,rfl⟩:=List.mem_map.1 a8;have⟨l,G,cy⟩:=List.mem_iff_getElem.1 cp;rcases O l f (by rw[az G,cy]) a q with⟨_,_,K,_⟩|⟨_,K⟩|⟨_,K⟩<;>omega
 have bn:Lb (c.size+2) r h.size (dE 6 0 [d.t]):=⟨(P _ J).trans a0,λq=>by have:=U _ q;omega⟩;have c7:Lb (c.size+2) r (h.size+1) nT:=⟨(P _ J).trans a1,λq=>by have:=U _ q;omega⟩;have dm:Step (c.size+2) h r:=⟨⟨KH.hp,KH.low,J⟩,λa j _=>(P a J).trans ((Q a J).trans (dv a j)),λa j=> .inr (by have:=U a j;omega)⟩;clear D O M b7 b8 b9 bB bC bH bu;refine fk d.cells.length J (λp y L=>(∃R a,nG L (c.size+2) 7 R (TB d m n o a (.arr c.size 0 0 d.d8.length false) (.arr (c.size+1) 0 0 d.dH.length false) ((d.cells.take p).map io.jG)))/\Step (c.size+2) r L/\dF y 1 (.ptr h.size 0 0 0)/\dF y 2 (.ptr (h.size+1) 0 0 0)/\dF y 3 (.ptr (c.size+2) 0 0 0)/\dF y 4 (Z p)) ?_ ?_ J ⟨⟨_,_,a6⟩,Step.refl KH,dy⟩
 ·rintro p y L a7 ca ⟨⟨R,a,i⟩,C,V,W,X,Y⟩;have w:=i.get;unfold TB at w;simp at w;have⟨er,h',bT,aX⟩:=(i.gr 4 rfl).lP (cx:=cx) (f:=T.int .i64) i.ok pF rfl Ak rfl dy (λ_=>rfl) d.cells[p].jG dz;have⟨A,eo,B⟩:=i.app 4 rfl aX;have⟨aE,aA⟩:=B _ rfl;unfold TB at A aE aA;simp only[aP,bJ,cI,cB]at A aE aA;simp[V,W,X,Y,a7,(bn.step C).get,w,bT,A,dX,aX.1.ir,aX.1.cells,ca];exact⟨⟨_,_,by unfold TB;rw[aR a7,List.map_append];exact aA⟩,C.trans aE⟩
 rintro y L ⟨⟨R,a,i⟩,C,V,W,X,Y⟩;rw[aK]at i;have w:=i.get;unfold TB at w;simp at w;have al:=c7.step C;have an:=al.get;unfold nT at an;have dk:=i.qD al (dE 7 1 [.agg [m,Z (-1),n,o,a,.arr c.size 0 0 d.d8.length false,.arr (c.size+1) 0 0 d.dH.length false]]);have b6:(dY L (h.size+1) (dE 7 1 [.agg [m,Z (-1),n,o,a,.arr c.size 0 0 d.d8.length false,.arr (c.size+1) 0 0 d.dH.length false]])).get (h.size+1)=_:=(dN an _ _).trans (aq rfl);simp[V,W,X,Y,(bn.step C).get,w,an,dX,b6,-List.map_replicate];exact⟨m,n,o,_,_,_,rfl,OY.of dk (Step.qD i.ok al _ h (dm.trans C) J) (λa j=>by
  rcases j with rfl|⟨x,I,_⟩
  ·omega
  ·have:=H.fa I;omega) (au _) λ_ _=>rfl⟩
end
noncomputable section
open Go Go.TI Tryz
noncomputable abbrev gN(a:Func)(b:Nat):qT:=gq cx a b false
noncomputable abbrev gK(a:Func)(b:Nat):qT:=gq cx a b true
def gO{b:aj}{a:Func}{d:Nat}{c:Bool}(e:prog.funcs[b]? =some a)(f:x8 ⟨a,d,c,none⟩=true:=by kernel_rfl):mJ prog cx b (gq cx a d c):=af9 iL iB e f
def acW:qT:=λ_ _ a b=>Da ((.clone 1 1)) a b
def UA:mJ prog cx 162 acW:=yv (wY (fn:=f162) (t:=34) (tb:=4) (te:=Xh) iB func162 dG dG dG dG dG dG dG)
def acV:qT:=λ_ _ a b=>Da ((.clone 3 24)) a b
def Uz:mJ prog cx 163 acV:=yv (wY (fn:=f163) (t:=35) (tb:=4) (te:=H8) iB func163 dG dG dG dG dG dG dG)
def acU:qT:=λ_ _ a b=>Da (.oy) a b
def Yt:(f248.name== "runtime.NumGoroutine")=false:=dG
def Ys:f248.body.isNone=true:=dG
def Yq:Extern.findNext f248=none:=dG
def Yr:Extern.find f248=some Extern.BytealgIndexByte.indexByte:=dG
def Yp:Er prog cx 248 .oy:= @G6 prog cx 248 f248 func248 Yt Ys Yq Yr
def Uy:mJ prog cx 248 acU:=yv Yp
def qs:Tree qT:=(.node (.node (.node (.node (.node (.node (.node (.node .nil 10 (gN f10 7) .nil) 14 (gN f14 127) .nil) 17 (gN f17 138478519) (.node .nil 26 (gN f26 17179869843) .nil)) 27 (gN f27 40953575029616206113996799) (.node (.node .nil 33 (gN f33 9223389645163727807) .nil) 34 (gN f34 2417851783344448572752095) (.node .nil 39 (gN f39 1048607) .nil))) 43 (gN f43 9223372036871623167) (.node (.node (.node (.node .nil 44 (gN f44 4215) .nil) 46 (gK f46 1048607) .nil) 47 (gN f47 13215461614728367217751695970865548304603543200842114553566203007) (.node .nil 51 (gN f51 829180818552508142370930303613581122868418894632663968482586879) .nil)) 56 (gN f56 8796093286397) (.node (.node .nil 57 (gN f57 19808249554385699031857790975) .nil) 58 (gN f58 8864829278711) (.node .nil 59 (gN f59 79) .nil)))) 60 (gN f60 7231) (.node (.node (.node (.node (.node .nil 61 (gN f61 18463641368405213903) .nil) 67 (gN f67 2147484735) .nil) 68 (gN f68 19) (.node .nil 69 (gN f69 606826398900554784047567) .nil)) 71 (gN f71 772424076352653274097095092108232752774234854811365887) (.node (.node .nil 72 (gN f72 67109327) .nil) 74 (gN f74 1238093369775042453301102031) (.node .nil 75 (gN f75 4196311) .nil))) 80 (gN f80 6434029281764525972148499167221040878727244754944919609542655) (.node (.node (.node (.node .nil 81 (gN f81 95827739445721067874190659254502973333984266632037375) .nil) 82 (gN f82 31) .nil) 87 (gN f87 9071038046463) (.node .nil 88 (gN f88 17184194575) .nil)) 89 (gK f89 68723687231) (.node (.node .nil 90 (gN f90 4504699140047487) .nil) 92 (gN f92 576460753379335951) (.node .nil 99 (gN f99 9224506733391652861) .nil))))) 100 (gN f100 4432473883133) (.node (.node (.node (.node (.node (.node .nil 102 (gN f102 19342850151455133005856767) .nil) 103 (gN f103 316913254556860716756833993695) .nil) 104 (gN f104 275) (.node .nil 105 (gN f105 11) .nil)) 106 (gN f106 8934607822903) (.node (.node .nil 107 (gN f107 479) .nil) 108 (gN f108 137506128175) (.node .nil 110 (gN f110 36051629065113551) .nil))) 112 (gN f112 4605278686335) (.node (.node (.node (.node .nil 113 (gK f113 30783) .nil) 120 (gN f120 463) .nil) 125 (gN f125 19) (.node .nil 126 (gN f126 1099511628339) .nil)) 127 (gN f127 18889470444974887141823) (.node (.node .nil 128 (gN f128 332312079452150195464880550324504575) .nil) 129 (gN f129 4330618893) (.node .nil 130 (gN f130 131635) .nil)))) 133 (gN f133 348794743007212715313826391199890521722863) (.node (.node (.node (.node (.node .nil 134 (gN f134 12259964349774246101165194645239424850975965214878597119) .nil) 140 (gN f140 19) .nil) 142 (gN f142 33587517) (.node .nil 143 (gN f143 4101) .nil)) 144 (gN f144 21853) (.node (.node .nil 145 (gN f145 37396817117309) .nil) 146 (gN f146 51) (.node .nil 147 (gN f147 40536831200067837) .nil))) 148 (gN f148 72128100255664255) (.node (.node (.node (.node .nil 149 (gN f149 1242795222330225588904675325) .nil) 150 (gN f150 1237940043933112819970491391) .nil) 151 (gN f151 1053) (.node .nil 152 (gN f152 151115745466229840684019) .nil)) 154 (gK f154 18191) (.node (.node .nil 155 (gN f155 365376106316094180278949616271352870286206697499) .nil) 156 (gN f156 10633824283312870803151638865622599647) (.node .nil 157 (gN f157 29) .nil)))))) 158 (gN f158 35315368591455) (.node (.node (.node (.node (.node (.node (.node .nil 159 (gN f159 19) .nil) 160 (gN f160 606826398900554784047567) .nil) 161 (gN f161 5868843906288553182383292937158044313155908148351) (.node .nil 162 (acW) .nil)) 163 (acV) (.node (.node .nil 168 (gN f168 7) .nil) 170 (gN f170 5) (.node .nil 171 (gN f171 131613) .nil))) 172 (gN f172 5) (.node (.node (.node (.node .nil 173 (gN f173 11161304336780981658631819976322344575566047) .nil) 174 (gN f174 4362601011) .nil) 175 (gN f175 19) (.node .nil 176 (gK f176 2097183) .nil)) 177 (gN f177 1182933510117985879039) (.node (.node .nil 179 (gN f179 19) .nil) 180 (gN f180 19) (.node .nil 181 (gN f181 5) .nil)))) 182 (gN f182 35500589085) (.node (.node (.node (.node (.node .nil 183 (gN f183 5) .nil) 184 (gN f184 1125908496810045) .nil) 185 (gN f185 262565) (.node .nil 186 (gN f186 541) .nil)) 187 (gN f187 328307) (.node (.node .nil 188 (gN f188 1574131) .nil) 189 (gN f189 275) (.node .nil 190 (gN f190 529021) .nil))) 191 (gN f191 1125902054326279) (.node (.node (.node (.node .nil 192 (gN f192 32909) .nil) 193 (gN f193 262707) .nil) 194 (gN f194 262707) (.node .nil 195 (gN f195 14474012017383023515249485065460760621927424225494418519668988771800801378299) .nil)) 196 (gN f196 36893488147419136123) (.node (.node .nil 200 (gN f200 20282409606012871684182924853463) .nil) 201 (gN f201 158456325028530997355645763711) (.node .nil 202 (gN f202 1037) .nil))))) 203 (gN f203 1099578740959) (.node (.node (.node (.node (.node (.node .nil 215 (gN f215 1) .nil) 218 (gN f218 5) .nil) 219 (gK f219 262175) (.node .nil 220 (gK f220 9904163146420522906957187071) .nil)) 226 (gN f226 19) (.node (.node .nil 227 (gN f227 2293) .nil) 228 (gN f228 2149585011) (.node .nil 229 (gN f229 526461) .nil))) 230 (gN f230 8606909437) (.node (.node (.node (.node .nil 231 (gN f231 182687706027492332498828539273953093013162958911) .nil) 232 (gN f232 70368744310543) .nil) 233 (gN f233 83) (.node .nil 234 (gN f234 33688639) .nil)) 235 (gN f235 4196847) (.node (.node .nil 237 (gN f237 1049655) .nil) 248 (acU) (.node .nil 249 (gN f249 8211) .nil)))) 253 (gN f253 131527) (.node (.node (.node (.node (.node .nil 254 (gN f254 563501857374451) .nil) 255 (gN f255 2863311549) .nil) 256 (gN f256 18483898770635358239) (.node .nil 257 (gN f257 7) .nil)) 258 (gN f258 99132251962343631) (.node (.node .nil 259 (gN f259 8703) .nil) 260 (gN f260 8590200303) (.node .nil 266 (gN f266 594912002450663878599) .nil))) 268 (gN f268 13) (.node (.node (.node (.node .nil 273 (gN f273 32819) .nil) 276 (gN f276 132109) .nil) 279 (gN f279 749019592093908130998168547243562859198691857383367) (.node .nil 284 (gN f284 72339071195682803) .nil)) 293 (gN f293 8407165) (.node (.node .nil 294 (gN f294 2101491) .nil) 296 (gN f296 9224502335110254589) (.node .nil 297 (gN f297 715827901) .nil)))))))
def abF:qs.TD λa b=>mJ prog cx a b:=(.node (.node (.node (.node (.node (.node (.node (.node .nil (gO func10) .nil) (gO func14) .nil) (gO func17) (.node .nil (gO func26) .nil)) (gO func27) (.node (.node .nil (gO func33) .nil) (gO func34) (.node .nil (gO func39) .nil))) (gO func43) (.node (.node (.node (.node .nil (gO func44) .nil) (gO func46) .nil) (gO func47) (.node .nil (gO func51) .nil)) (gO func56) (.node (.node .nil (gO func57) .nil) (gO func58) (.node .nil (gO func59) .nil)))) (gO func60) (.node (.node (.node (.node (.node .nil (gO func61) .nil) (gO func67) .nil) (gO func68) (.node .nil (gO func69) .nil)) (gO func71) (.node (.node .nil (gO func72) .nil) (gO func74) (.node .nil (gO func75) .nil))) (gO func80) (.node (.node (.node (.node .nil (gO func81) .nil) (gO func82) .nil) (gO func87) (.node .nil (gO func88) .nil)) (gO func89) (.node (.node .nil (gO func90) .nil) (gO func92) (.node .nil (gO func99) .nil))))) (gO func100) (.node (.node (.node (.node (.node (.node .nil (gO func102) .nil) (gO func103) .nil) (gO func104) (.node .nil (gO func105) .nil)) (gO func106) (.node (.node .nil (gO func107) .nil) (gO func108) (.node .nil (gO func110) .nil))) (gO func112) (.node (.node (.node (.node .nil (gO func113) .nil) (gO func120) .nil) (gO func125) (.node .nil (gO func126) .nil)) (gO func127) (.node (.node .nil (gO func128) .nil) (gO func129) (.node .nil (gO func130) .nil)))) (gO func133) (.node (.node (.node (.node (.node .nil (gO func134) .nil) (gO func140) .nil) (gO func142) (.node .nil (gO func143) .nil)) (gO func144) (.node (.node .nil (gO func145) .nil) (gO func146) (.node .nil (gO func147) .nil))) (gO func148) (.node (.node (.node (.node .nil (gO func149) .nil) (gO func150) .nil) (gO func151) (.node .nil (gO func152) .nil)) (gO func154) (.node (.node .nil (gO func155) .nil) (gO func156) (.node .nil (gO func157) .nil)))))) (gO func158) (.node (.node (.node (.node (.node (.node (.node .nil (gO func159) .nil) (gO func160) .nil) (gO func161) (.node .nil UA .nil)) Uz (.node (.node .nil (gO func168) .nil) (gO func170) (.node .nil (gO func171) .nil))) (gO func172) (.node (.node (.node (.node .nil (gO func173) .nil) (gO func174) .nil) (gO func175) (.node .nil (gO func176) .nil)) (gO func177) (.node (.node .nil (gO func179) .nil) (gO func180) (.node .nil (gO func181) .nil)))) (gO func182) (.node (.node (.node (.node (.node .nil (gO func183) .nil) (gO func184) .nil) (gO func185) (.node .nil (gO func186) .nil)) (gO func187) (.node (.node .nil (gO func188) .nil) (gO func189) (.node .nil (gO func190) .nil))) (gO func191) (.node (.node (.node (.node .nil (gO func192) .nil) (gO func193) .nil) (gO func194) (.node .nil (gO func195) .nil)) (gO func196) (.node (.node .nil (gO func200) .nil) (gO func201) (.node .nil (gO func202) .nil))))) (gO func203) (.node (.node (.node (.node (.node (.node .nil (gO func215) .nil) (gO func218) .nil) (gO func219) (.node .nil (gO func220) .nil)) (gO func226) (.node (.node .nil (gO func227) .nil) (gO func228) (.node .nil (gO func229) .nil))) (gO func230) (.node (.node (.node (.node .nil (gO func231) .nil) (gO func232) .nil) (gO func233) (.node .nil (gO func234) .nil)) (gO func235) (.node (.node .nil (gO func237) .nil) Uy (.node .nil (gO func249) .nil)))) (gO func253) (.node (.node (.node (.node (.node .nil (gO func254) .nil) (gO func255) .nil) (gO func256) (.node .nil (gO func257) .nil)) (gO func258) (.node (.node .nil (gO func259) .nil) (gO func260) (.node .nil (gO func266) .nil))) (gO func268) (.node (.node (.node (.node .nil (gO func273) .nil) (gO func276) .nil) (gO func279) (.node .nil (gO func284) .nil)) (gO func293) (.node (.node .nil (gO func294) .nil) (gO func296) (.node .nil (gO func297) .nil)))))))
def Kt:∀a b,(λa=>qs.find a) a=some b->mJ prog cx a b:=λa b c=>abF.find c
end
noncomputable section
open Go Go.TI Tryz
attribute [-simp] List.map_take List.map_drop List.map_append fw eY eg Bool.not_or Bool.not_and
attribute [simp] fq eZ
def jv:dZ:=⟨[⟨[120],0,0,false,0⟩,⟨[121],0,0,false,1⟩,⟨[118],0,0,true,0⟩,⟨[113],0,2,false,0⟩,⟨[113],1,2,false,0⟩],[⟨[109],false⟩,⟨[110],false⟩,⟨[114],true⟩],[⟨[99],0⟩],[[102]],[[109,97,105,110],[116,49],[116,50],[116,51]],
 [⟨0,0,1⟩,⟨0,1,2⟩,⟨0,2,3⟩,⟨0,3,4⟩,⟨0,4,5⟩,⟨0,5,6⟩,⟨1,0,11⟩,⟨1,1,12⟩,⟨1,2,13⟩,⟨1,3,14⟩,⟨1,4,15⟩,⟨1,5,16⟩,⟨2,0,21⟩,⟨2,1,22⟩,⟨2,2,23⟩,⟨2,3,24⟩,⟨2,4,25⟩,⟨2,5,26⟩,⟨3,0,31⟩,⟨3,1,32⟩,⟨3,2,33⟩,⟨3,3,34⟩,⟨3,4,35⟩,⟨3,5,36⟩]⟩
def W9:∀a b,(λa=>(Tree.node .nil 35 (gN f35 81788943) .nil).find a) a=some b->mJ prog cx a b:=λa b c=>(Tree.TD.node .nil (gO func35) .nil).find c
def NH:lf prog cx 35 [] jv.t:=zv (ls _ dG) (BQ W9 10000 _ _ _ _ _ dG)
def Gy:fP:=⟨Unit,λ_=>[],λ_=>True,λ_=>jv.t,λ_ _ _=>rfl⟩
def Qn:Gy.Ok prog cx 35:=λ_ _=>NH
def MR{a:fy}(ht:a.p 35=some Gy):rl prog cx a 35 []=some jv.t:=gu ht Qn () trivial
def Kn:ka jv=true:=by decide+kernel
def v8(e:Nat)(a:List Int)(c:Nat)(d:H):Prop:=∃f b,d.get c=some (dE 2 f [.agg [sl (a.map (T.int .u8)),Z b]])/\((min e a.length:Nat):Int)<=b
def v8.tp{e:Nat}{a:List Int}{b:Nat}{c:H}(g:v8 e a b c):Tp a b c:=by
 obtain⟨h,f,d,i⟩:=g;exact⟨h,f,d,J⟩
def v8.eq{e:Nat}{b:List Int}{a:Nat}{c d:H}(j:v8 e b a c)(h:d.get a=c.get a):v8 e b a d:=by
 obtain⟨k,i,g,f⟩:=j;exact⟨k,i,by rw[h];exact g,f⟩
def v8.le{d e:Nat}{a:List Int}{b:Nat}{c:H}(g:v8 d a b c)(k:e<=d):v8 e a b c:=by
 obtain⟨h,i,f,j⟩:=g;exact⟨h,i,f,J⟩
structure LJ where
 (L:List Int) (b p:Nat) (n:Int)
def Iv(a:LJ)(d:List T)(c:H):Prop:=d=[.ptr a.b 0 0 0,Z a.n]/\v8 a.p a.L a.b c/\hU 0 c/\1<=a.n/\a.n<=100/\okB a.L
def NK(a:LJ)(g:List T)(e:H)(f:T)(c:H):Prop:=∃d:Nat,f= Z d/\(d:Int)<a.n/\v8 (a.p+1) a.L a.b c/\Sm a.b e c
abbrev kI:li:=jI LJ Iv NK
def Ua:kI.Ok prog cx 77:=by
 refine jx (tb:=⟨pt [],ht []⟩) iL iB (iQ 262163 [] func77) (λ_ _=>5) (λG a h A=>by obtain⟨rfl,_⟩:=A;simp[f77]) ?_;rintro⟨b,f,H,g⟩ _ h ⟨rfl,⟨i,d,e,B⟩,r,y,z,s,o⟩ I p;simp only at e B y z s o;simp at p;obtain⟨j,n⟩:=p;simp[f77,j,n,e];refine ee (λk=>?_) (λk=>?_)
 ·simp at k;simp;exact⟨0,dy,dA,⟨i,d,by rw[fW,gU];exact e,dA⟩,Sm.out (Sm.refl r.hr)⟩
 ·simp at k;have D:IntKind.i64.wrap (d+1)=d+1:=by rw[<-jE];exact jK J J
  have E:IntKind.i64.wrap d=d:=by rw[<-jE];exact jK J J
  have C:Sm f (hr h) _:=(Sm.refl r.hr).put (x:=(dE 2 i [.agg [sl (b.map (T.int .u8)),Z d]])) (by rw[gU];exact e) (dE 2 (i+1) [.agg [sl (b.map (T.int .u8)),Z (d+1)]]);have m:(dY (hr h) f (dE 2 (i+1) [.agg [sl (b.map (T.int .u8)),Z (d+1)]])).get f=_:=(dN (h:=hr h) (by rw[gU];exact e) _ f).trans (aq rfl);simp[j,e,oN,dX,D];generalize dY (hr h) f _=F at*
  obtain⟨c,rfl⟩:∃c:Nat,d=c:=⟨d.toNat,J⟩;have q:c<b.length:=J;have t:=o b[c] (aD q);have u: -9223372036854775808<=b[c]:=J;have v:b[c]<9223372036854775808:=J;have t0:=Int.tmod_nonneg g t.1;have t1:=Int.tmod_lt_of_pos b[c] (show 0<g by omega);simp[j,n,m,qX,E,q,u,v,BY (a:=b[c]) (show¬g=0 by omega)];have⟨l,w⟩:∃l:Nat,b[c].tmod g=l:=⟨(b[c].tmod g).toNat,J⟩;exact⟨l,by rw[w],dA,⟨_,_,by rw[fW];exact m,dA⟩,Sm.out C⟩
structure tM(p:Nat)(L:List Int)(b:Nat)(h h':H):Prop where
 w:Tw L b h h'
 g:v8 p L b h'
def tM.refl{d:Nat}{b:List Int}{c:Nat}{a:H}(f:hU 0 a)(e:v8 d b c a):tM d b c a a:=⟨Tw.refl f e.tp,e⟩
def tM.le{e f:Nat}{a:List Int}{b:Nat}{c d:H}(h:tM e a b c d)(i:f<=e):tM f a b c d:=⟨h.w,h.g.le i⟩
theorem tM.cons{e:Nat}{a:List Int}{b:Nat}{c d:H}(w:tM e a b c d)(f:iX):tM e a b c (d.cons f):=⟨w.w.cons f,w.g.eq (by rw[dT,ao (by have:=w.w.tp.lt;omega)])⟩
theorem tM.put{h:Nat}{e:List Int}{b:Nat}{a d:H}(i:tM h e b a d){c:Nat}{x:iX}(f:d.get c=some x)(l:a.size<=c)(k:b<a.size)(j:iX):tM h e b a (dY d c j):=⟨i.w.put f l k j,i.g.eq (by rw[dN f,ao J])⟩
def tM.call{h f:Nat}{b:List Int}{a:Nat}{d e c:H}(j:tM h b a d e)(i:Sm a e c)(g:v8 f b a c):tM f b a d c:=⟨j.w.call i g.tp,g⟩
def tM.cut{h:Nat}{e:List Int}{c:Nat}{a b:H}(d:tM h e c (TI.hr a) b)(p:hU 0 a)(f:c<a.size){j l:T}{i:T->H->Prop}(m:∃k,jn b a.size j=some k/\cn k=l)
 (o:Sm c a (vq a b)->v8 h e c (vq a b)->i l (vq a b)):yT a j b i:=d.w.cut p f m λq _=>o q (d.g.eq (An d.w.ok.hp d.w.size f))
def Rn{tb:fy}{g:Nat}{e:List Int}{a:Nat}{c:H}(ht:tb.h 77=some kI)(s:v8 g e a c)(n:hU 0 c)(m:okB e)(b:Int)(k:1<=b)(l:b<=100):∃(f:Nat) (d:H),hl prog cx tb 77 [.ptr a 0 0 0,Z b] c=some (Z f,d)/\(f:Int)<b/\v8 (g+1) e a d/\Sm a c d:=by
 have i:Iv ⟨e,a,g,b⟩ [.ptr a 0 0 0,Z b] c:=⟨rfl,s,n,k,l,m⟩;have⟨_,d,j,o⟩:=F2 ht Ua ⟨_,i⟩;obtain⟨f,rfl,p,q,r⟩:=o _ i;exact⟨f,d,j,p,q,r⟩
def wN:List Int:=[3,3,3,3,3,4,4,4,4,4,5,5,5,6,6,6,7,7,7,8,9,10,11,12,13,14,14,15,16,16,17,17,18,18,19,20,1,1,2,21,22,23,23]
def uX:fP:=⟨Unit,λ_=>[],λ_=>True,λ_=>sl (wN.map (T.int .i64)),λ_ _ _=>rfl⟩
def Ue:uX.Ok prog cx 121:=by
 refine fM [] (iQ 1 [] func121) (λ_=>5) (by simp[uX]) ?_;rintro _ _ b a;simp[uX]at a|-;simp[f121,ik,wN]
def _root_.Go.TI.Xt.GQ{d b:H}{f g:T}{e:Nat}{c:List T}(a:Xt d f e c g b):hU 0 b:=⟨a.2.2.2.hp,a.2.2.2.low,aw _⟩
def _root_.Go.TI.Xt.Vj{i e:H}{j k:T}{d:List Int}(c:Xt i j 1 (d.map (T.int .i64)) k e)(g:Int)(m:d.length<=1000000):∃a b,jc cx (e.cons (dE 1 0 [Z g])) 39 39 k (.arr e.size 0 0 1 false)=some (.val a b)/\a.ir=true/\a.cells=[a]/\Xt i j 1 ((d++[g]).map (T.int .i64)) a b:=by
 have⟨a,b,l,h⟩:=c.1.lP (cx:=cx) (f:=T.int .i64) c.GQ jQ rfl mz rfl dy (λ_=>rfl) g dz;exact⟨a,b,l,h.1.ir,h.1.cells,c.trans h⟩
def zH:oa prog cx 169 (λa:ew=>[a.t]) (λa=>a.fj.dH.length<=1000) (λa A=>∃v:List Int,A=sl (v.map (T.int .i64))/\v.length<=a.fj.dH.length):=by
 refine jk [] (iQ 134975 [] func169) (λa=>a.fj.dH.length+5) (λC b e=>by simp at e;exact ew.inj e) ?_;rintro a hl d r;simp at r;simp[f169,r];generalize q:H.cons hE _=m;have x:m.get 0=some (dE 7 0 [a.t]):=by subst q;simp
 have o:hU 1 m:=by subst q;exact⟨dy,dy,dy⟩
 refine fk a.fj.dH.length J (λi d e=>dF d 1 (.ptr 0 0 0 0)/\dF d 8 (sl (a.fj.dH.map dM.t))/\dF d 9 (Z a.fj.dH.length)/\dF d 10 (Z i)/\∃(l:T) (f:List Int),dF d 3 l/\Xt m dD 1 (f.map (T.int .i64)) l e/\f.length<=i) ?_ ?_ J ⟨dy,dy,dy,dy,dD,[],dy,Xt.refl (Gr.nil _ _) ⟨o.hp,o.low,aw _⟩,au _⟩
 ·rintro i d e z s ⟨n,k,h,g,l,f,j,c,u⟩;have L:=o.sz;have D:=(c.2.1 0 J dy).trans x;have w:hU 1 e:=⟨c.2.2.2.hp,c.2.2.2.low,by have:=c.2.2.2.sz;omega⟩;have F:=w.ne (b:=0) J;simp[k,h,g,z,w.low];refine ee (λy=>?_) (λy=>?_)
  ·have⟨K,E,p,G,I,B⟩:=(c.cons (dE 3 1 [a.fj.dH[i].t])).Vj i J;rw[size_cons]at p;simp[n,j,k,h,g,s,p];exact⟨_,B,dz⟩
  ·simp[n,j,k,h,g,s];exact⟨_,c.cons _,J⟩
 ·rintro d e ⟨n,k,h,g,l,f,j,c,u⟩;simp[j,h,g,c.1.ir,c.1.qP dy,c.2.2.2.hp];exact⟨f,rfl,u⟩
structure BV where
 (L:List Int) (b p:Nat) (v:T) (ns:List Int)
def u5(a:BV)(d:List T)(c:H):Prop:=d=[.ptr a.b 0 0 0,a.v]/\Gr c a.v 1 (a.ns.map (T.int .i64))/\dS a.v≠some a.b/\v8 a.p a.L a.b c/\hU 0 c/\okB a.L/\a.ns.length<=1000
def ux(a:BV)(g:List T)(e:H)(f:T)(c:H):Prop:=∃d:List Int,f=sl (d.map (T.int .i64))/\d.length<=a.ns.length/\v8 a.p a.L a.b c/\Sm a.b e c
def tM.xt{m:Nat}{k:List Int}{b:Nat}{c e f:H}{n t:T}{s:Nat}{o:List T}(d:tM m k b c e)(j:Xt e n s o t f)(q:∀a,dS n=some a->c.size<=a)(l:b<c.size):tM m k b c f:=by
 have u:=d.w.size;have i:∀a,a<c.size->f.get a=e.get a:=λa h=>j.2.1 a J λr=>by have:=q a r;omega
 exact⟨⟨j.GQ,by have:=j.2.2.2.sz;omega,λa h p=>(i a h).trans (d.w.get a h p),d.w.tp.eq (i b l)⟩,d.g.eq (i b l)⟩
def _root_.Go.TI.FT.ae9{c:H}{o:Nat->Prop}{g p:Nat}(l:p<=12)(s:∀a,o a->g<=a){b n:T}(ft:FT c o p b n)(r:∀i,b≠ .agg i)(w:∀i,b≠ .tuple i):∃k,jn c g b=some k/\cn k=n:=by
 have q:=(ft.deep l).fzN s;have u:(dW (iN c 0 b) λb=>some (cn b))=some n:=(ft.deep l).fz;have v:jn c g b=iN c 0 b:=by
  rcases ft.deep l with⟨z,m,rfl⟩|⟨a,d,h,f,e,C,D,rfl,y,E,x,rfl⟩|⟨i,B,rfl,x,rfl⟩
  ·cases b<;>first|exact(r _ rfl).elim|exact q|(simp[j4]at z)|exact(w _ rfl).elim
  ·have m:∀j,iN c j (.arr a d h f e)=(Bool.casesOn (Nat.ble j a) (some (.arr a d h f e)) (TI.freeze c j 12 (.arr a d h f e)):aa T):=λj=>rfl;show iN c g (.arr a d h f e)=iN c 0 (.arr a d h f e);rw[m,m,show Nat.ble g a=true from cj (s a y),show Nat.ble 0 a=true from cj (aw a),q]
  ·exact absurd rfl (r _)
 rw[<-v]at u;have⟨k,A,t⟩:=dI.1 u;simp only[ar]at t;exact⟨k,A,t⟩
def xO{c g h:Type}{d:g->h->Prop}{e:c->g}{f:c->h}{a:List c}(i:∀b,d (e b) (f b)):iF d (a.map e) (a.map f):=by
 induction a with
 |nil=>exact .nil
 |cons b a j=>exact .cons (i b) j
def _root_.Go.TI.Gr.abq{l:Type}{a:l->T}{b:H}{h:T}{s g d:Nat}{j:List l}(f:Gr b h s (j.map a))(v:d<=11)(q:∀i,dS h=some i->g<=i)(p:∀c b V,FT b V d (a c) (a c)):∃k,jn b g h=some k/\cn k=sl (j.map a):=
 (f.ft (V:=λe=>g<=e) (d:=d) q (xO λc=>p c _ _)).ae9 J (λ_ r=>r) (λm=>by rcases f with⟨rfl,_⟩|⟨e,n,t,o,u,rfl,_⟩<;>simp) (λm=>by rcases f with⟨rfl,_⟩|⟨e,n,t,o,u,rfl,_⟩<;>simp)
def XN:(jI BV u5 ux).Ok prog cx 124:=by
 refine rH (tb:=⟨pt [],ht [(77,kI)]⟩) iL iB (iQ 16781299 [] func124) (λ_ _=>1005) (λi a o aE=>by obtain⟨rfl,_⟩:=aE;simp[f124]) ?_;rintro⟨U,r,R,E,y⟩ _ o ⟨rfl,v,P,D,Q,L,hl⟩ e M;simp only at v P D L hl;simp at M;obtain⟨h,f⟩:=M;have N:=D.tp.lt;simp[f124,f,v.len];refine fk y.length J (λi e s=>dF e 0 (.ptr r 0 0 0)/\dF e 1 E/\dF e 8 E/\dF e 9 (Z y.length)/\dF e 10 (Z i)/\tM R U r (TI.hr o) s/\∃(l:T) (n:List Int),dF e 5 l/\Gr s l 1 (n.map (T.int .i64))/\(∀b,dS l=some b->o.size<=b)/\n.length<=i) ?_ ?_ J ⟨by simp[h],by simp[f],dy,dy,dy,tM.refl Q.hr (D.eq (gU o r)),_,[],dy,Gr.nil _ _,dy,au _⟩
 ·rintro i e s O C ⟨h,f,u,q,p,m,l,n,t,go,j,av⟩;have K:Gr s E 1 (y.map (T.int .i64)):=v.mono λb c=>by
   have⟨_,_,_,_,z,_⟩:=v.box c;exact(m.w.get b (H.fa z) λB=>P (by rw[<-B];exact c)).trans (gU o b)
  have⟨a6,a7,bC,a8,bH,_,Y,al,G⟩:=K.B0 (te:=Ev) rfl (i:=i) (by simpa using O);have X:binop .add (Z (i:Int)) (Z 3)=some (Z ((i:Int)+3)):=iz J J;simp at G;simp[h,f,u,q,p,O,Y,al,G,X,K.len];have⟨k,an,ae,bn,t2,S⟩:=Rn (tb:=⟨pt [],ht [(77,kI)]⟩) dy m.g m.w.ok L 2 J J;refine Zr (λc=>?_) (λc=>?_)
  ·simp[ae,c];refine⟨_,_,⟨rfl,rfl⟩,?_⟩;have A:=(m.call S t2).le (Nat.le_succ R);have aA:dS l≠some r:=λz=>by have:=j r z;omega
   have I:Gr an l 1 (n.map (T.int .i64)):=go.mono λb c=>S.get b λB=>aA (by rw[<-B];exact c);simp;refine ee (λap=>?_) (λap=>?_)
   ·have⟨bB,bi,W,bs,bu,F⟩:=(Xt.refl I A.w.ok).Vj y[i] J;simp[h,f,t,u,q,p,W,C];exact⟨A.xt F j N,_,F.1,λb c=>(F.2.2.1 b c).elim (j b) λz=>by have:=A.w.size;simp at this;omega,dz⟩
   ·simp[h,f,t,u,q,p,C];exact⟨A,_,I,j,J⟩
  ·simp[c];refine⟨_,_,⟨rfl,rfl⟩,?_⟩;simp[h,f,t,u,q,p,C];exact⟨m,_,go,j,J⟩
 ·rintro e s ⟨h,f,u,q,p,m,l,n,t,go,j,av⟩;simp[t,q,p];exact m.cut Q N (go.abq (d:=1) J j λx o V=>fV ..) λaN aX=>⟨n,rfl,dA,aX,aN⟩
structure Vt where
 (L:List Int) (b p:Nat) (x0 x1 x2 x3 x4 x5 v:T) (K:List Int)
def qF(a:Vt)(d:List T)(c:H):Prop:=d=[.ptr a.b 0 0 0,.agg [a.x0,a.x1,a.x2,a.x3,a.x4,a.x5,a.v]]/\v8 a.p a.L a.b c/\hU 0 c/\okB a.L/\a.K.length<=98/\Gr c a.v 1 (a.K.map (T.int .i64))/\dS a.v≠some a.b/\(T.agg [a.x0,a.x1,a.x2,a.x3,a.x4,a.x5,a.v]).ir=true
def oP(a:Vt)(g:List T)(e:H)(f:T)(d:H):Prop:=∃c:Int,f= Z c/\-1<=c/\c<a.K.length/\v8 a.p a.L a.b d/\Sm a.b e d
def wX{g:Nat}{d:List Int}{c:Nat}{a b:H}(l:tM g d c (TI.hr a) b)(k:hU 0 a)(i:c<a.size){e:ak}{f:Int}{h:T->H->Prop}
 (j:Sm c a (vq a b)->v8 g d c (vq a b)->h (.int e f) (vq a b)):yT a (.int e f) b h:=l.cut k i ⟨_,rfl,rfl⟩ j
def Mi:(jI Vt qF oP).Ok prog cx 78:=by
 refine rH (tb:=⟨pt [],ht [(77,kI)]⟩) iL iB (iQ 4194363 [] func78) (λ_ _=>5) (λi a c an=>by obtain⟨rfl,_⟩:=an;simp[f78]) ?_;rintro⟨P,j,M,p,r,s,t,u,v,k,b⟩ _ c ⟨rfl,n,L,E,hl,e,K,l⟩ bs F;simp only at n E hl e K l;simp at F;obtain⟨B,C⟩:=F;have W:=n.tp.lt;have a7:(j=c.size)=False:=dz;have o:=(tM.refl L.hr (n.eq (gU c j))).cons (dE 7 0 [.agg [p,r,s,t,u,v,k]]);have⟨d,D,z,a8,t2,N⟩:=Rn (tb:=⟨pt [],ht [(77,kI)]⟩) dy o.g o.w.ok E (b.length+2) J J;have O:=(o.call N t2).le (Nat.le_succ M);have S:=(N.get c.size J).trans (by rw[dT,oz,aq rfl]);have x:binop .add (Z (b.length:Int)) (Z 2)=some (Z ((b.length:Int)+2)):=iz J J;have fin:∀h:Int,-1<=h->h<b.length->yT c (Z h) D (oP ⟨P,j,M,p,r,s,t,u,v,k,b⟩ [.ptr j 0 0 0,.agg [p,r,s,t,u,v,k]] c):=λh ap av=>wX O L W λaA aE=>⟨h,rfl,ap,av,aE,aA⟩;have bi:=e.cells;have I:=e.len (cx:=cx);by_cases Y:(d:Int)-2<0
 ·have m:binop .sub (Z (d:Int)) (Z 2)=some (Z ((d:Int)-2)):=Fm rfl J J;simp[f78,B,C,x,z,m,Y,l,I];exact fin _ J J
 have⟨f,al⟩:∃f:Nat,(d:Int)-2=f:=⟨d-2,J⟩;have m:binop .sub (Z (d:Int)) (Z 2)=some (Z (f:Int)):=Fm al J J;have ae:f<b.length:=J;have V:Gr D k 1 (b.map (T.int .i64)):=e.mono λy G=>by
  have⟨_,_,_,_,q,_⟩:=e.box G;have:=H.fa q;exact(O.w.get y (by simpa using this) λQ=>K (by rw[<-Q];exact G)).trans (gU c y)
 have⟨aN,aX,bn,a6,bu,_,R,U,A⟩:=V.B0 (te:=Ev) rfl (i:=f) (by simpa using ae);simp at A;simp[f78,B,C,x,z,m,S,l,I,R,U,A];refine ee (λX=>?_) (λX=>?_)
 ·simp;exact fin _ J J
 ·simp;exact fin _ J J 
def tM.next{tb:fy}{k:Nat}{e:List Int}{c:Nat}{j f:H}(i:tM k e c j f)(ht:tb.h 77=some kI)(o:okB e)(b:Int)(n:1<=b)(a:b<=100):
 ∃(d:Nat) (a:H),hl prog cx tb 77 [.ptr c 0 0 0,Z b] f=some (Z d,a)/\(d:Int)<b/\tM (k+1) e c j a/\Sm c f a:=by
 obtain⟨d,a,m,p,t2,l⟩:=Rn ht i.g i.w.ok o b n a;exact⟨d,a,m,p,i.call l t2,l⟩
structure JW where
 (L:List Int) (b p:Nat) (k t:Int)
def AP(a:JW)(d:List T)(c:H):Prop:=d=[.ptr a.b 0 0 0,Z a.k,Z a.t]/\v8 a.p a.L a.b c/\hU 0 c/\okB a.L/\0<=a.t/\a.t<4/\1<=a.k/\a.k<=23
def tv(a:JW)(g:List T)(e:H)(f:T)(d:H):Prop:=∃c:Int,f= Z c/\-1<=c/\(a.k=3\/a.k=4->0<=c/\c<5)/\v8 a.p a.L a.b d/\Sm a.b e d
def abZ:(jI JW AP tv).Ok prog cx 122:=by
 refine rH (tb:=⟨pt [],ht [(77,kI)]⟩) iL iB (iQ 8659206599 [] func122) (λ_ _=>5) (λQ a e I=>by obtain⟨rfl,_⟩:=I;simp[f122]) ?_;rintro⟨m,b,j,c,f⟩ _ e ⟨rfl,v,q,x,K,L,F,G⟩ R y;simp only at v x K L F G;simp at y;obtain⟨p,n,E⟩:=y;have z:=v.tp.lt;have g:=tM.refl q.hr (v.eq (gU e b));have o:=λ{i:H} (g:tM j m b (TI.hr e) i)=>g.next (tb:=⟨pt [],ht [(77,kI)]⟩) dy x;have fin:∀(i:H) (d:Int),tM (j+1) m b (TI.hr e) i->-1<=d->(c=3\/c=4->0<=d/\d<5)->yT e (Z d) i (tv ⟨m,b,j,c,f⟩ [.ptr b 0 0 0,Z c,Z f] e):=λi d g r P=>wX (g.le (Nat.le_succ j)) q z λs u=>⟨d,rfl,r,P,u,s⟩;by_cases B:c=3\/c=4
 ·obtain⟨k,C,h,A,l,t⟩:=o (g.cons (dE 1 0 [Z 0,Z 0,Z 0,Z 1,Z 1,Z 2,Z 3,Z 4])) 8 J J;have w:=(t.get e.size J).trans (by rw[dT,oz,aq rfl]);rcases B with rfl|rfl<;>simp[f122,p,n,h,w]<;>rcases(by omega:k=0\/k=1\/k=2\/k=3\/k=4\/k=5\/k=6\/k=7)with rfl|rfl|rfl|rfl|rfl|rfl|rfl|rfl<;>simp[w]<;>exact fin _ _ l J J
 by_cases N:c=6\/c=7
 ·obtain⟨k,C,h,A,l,t⟩:=o g 2 J J;rcases N with rfl|rfl<;>simp[f122,p,n,h]<;>exact fin _ _ l J J
 by_cases M:c=20\/c=21
 ·obtain⟨k,C,h,A,l,t⟩:=o g 3 J J;have a1:binop .add (Z f) (Z 1)=some (Z (f+1)):=Aw rfl J J;have a2:binop .add (Z (f+1)) (Z (k:Int))=some (Z (f+1+k)):=Aw rfl J J;have a3:=BY (k:= .i64) (a:=f+1+k) (b:=4) J;have t0:=Int.tmod_nonneg 4 (show 0<=f+1+k by omega);rcases M with rfl|rfl<;>simp[f122,p,n,E,h,a1,a2,a3]<;>exact fin _ _ l J J
 have D:∀d:Int,-1<=d->yT e (Z d) (TI.hr e) (tv ⟨m,b,j,c,f⟩ [.ptr b 0 0 0,Z c,Z f] e):=λd r=>wX g q z λs u=>⟨d,rfl,r,λO=>(B O).elim,u,s⟩;rcases(by omega:c=1\/c=2\/c=5\/c=8\/c=9\/c=10\/c=11\/c=12\/c=13\/c=14\/c=15\/c=16\/c=17\/c=18\/c=19\/c=22\/c=23)with rfl|rfl|rfl|rfl|rfl|rfl|rfl|rfl|rfl|rfl|rfl|rfl|rfl|rfl|rfl|rfl|rfl<;>simp[f122,n]<;>exact D _ J 
structure JU where
 (L:List Int) (b p:Nat) (s:ew) (k o:Int)
def AO(a:JU)(d:List T)(c:H):Prop:=d=[.ptr a.b 0 0 0,a.s.t,Z a.k,Z a.o]/\v8 a.p a.L a.b c/\hU 0 c/\okB a.L/\(a.k=3->0<=a.o/\a.o<a.s.cells.length)/\1<=a.s.d8.length/\a.s.fj.dH.length<=98
def tu(a:JU)(g:List T)(d:H)(e:T)(c:H):Prop:=∃f:Int,e= Z f/\v8 a.p a.L a.b c/\Sm a.b d c
def YW{tb:fy}(ht:tb.p 169=some zH.jA){s:ew}(c:s.fj.dH.length<=1000):∃a:List Int,a.length<=s.fj.dH.length/\rl prog cx tb 169 [s.t]=some (sl (a.map (T.int .i64))):=by
 obtain⟨_,⟨a,rfl,hl⟩,b⟩:=zH.use s c;exact⟨a,hl,b ht⟩
def abU:(jI JU AO tu).Ok prog cx 123:=by
 refine rH (tb:=⟨pt [(169,zH.jA)],ht [(77,kI)]⟩) iL iB (iQ 141296388017967 [] func123) (λ_ _=>5) (λi a c X=>by obtain⟨rfl,_⟩:=X;simp[f123]) ?_;rintro⟨p,d,n,s,b,g⟩ _ c ⟨rfl,C,z,E,v,T,Y⟩ av F;simp only at C E v T Y;simp at F;obtain⟨u,k,l,S⟩:=F;have G:=C.tp.lt;have o:=(tM.refl z.hr (C.eq (gU c d))).cons (dE 7 0 [s.t]);have q:=o.next (tb:=⟨pt [(169,zH.jA)],ht [(77,kI)]⟩) dy E;have j:∀e:Int,yT c (Z e) _ (tu ⟨p,d,n,s,b,g⟩ [.ptr d 0 0 0,s.t,Z b,Z g] c):=λe=>wX o z G λA B=>⟨e,rfl,B,A⟩;have fin:∀(r:H) (e:Int),tM (n+1) p d (TI.hr c) r->yT c (Z e) r (tu ⟨p,d,n,s,b,g⟩ [.ptr d 0 0 0,s.t,Z b,Z g] c):=λr e o=>wX (o.le (Nat.le_succ n)) z G λA B=>⟨e,rfl,B,A⟩;have ap:(d=c.size)=False:=dz;by_cases x:b=3
 ·obtain⟨y,V⟩:∃y:Nat,g=y:=⟨g.toNat,by have:=v x;omega⟩;have W:y<s.cells.length:=by have:=v x;omega
  subst x;subst V;simp[f123,k,l,S,W];exact j _
 by_cases ae:b=23
 ·subst ae;simp[f123,k,l,show 0<s.d8.length by omega];exact j _
 by_cases al:b=4\/b=22
 ·obtain⟨w,M,h,I,m,L⟩:=q 3 J J;rcases al with rfl|rfl<;>simp[f123,u,k,l,h]<;>exact fin _ _ m
 by_cases an:b=5
 ·obtain⟨w,M,h,I,m,L⟩:=q 2 J J;subst an;simp[f123,u,k,l,h];exact fin _ _ m
 have P:decide (b=3)=false:=aM J;have O:decide (b=23)=false:=aM J;have Q:decide (b=4)=false:=aM J;have N:decide (b=22)=false:=aM J;have R:decide (b=5)=false:=aM J;obtain⟨K,hl,D⟩:=YW (tb:=⟨pt [(169,zH.jA)],ht [(77,kI)]⟩) dy (s:=s) J;simp[f123,k,l,P,O,Q,N,R];refine ee (λf=>?_) (λf=>?_)
 ·simp[D];refine ee (λf=>?_) (λf=>?_)
  ·obtain⟨w,M,h,I,m,L⟩:=q K.length (by simp at f;omega) J;have U:w<K.length:=J;simp[u,h,U];exact fin _ _ m
  ·simp;exact j _
 simp;refine ee (λf=>?_) (λf=>?_)
 ·simp[D];exact j _
 ·simp;exact j _
section
def _root_.Go.TI.nG.copy{h a:H}{i w0 g q k:Nat}{c:List (T×aa (Nat×List T))}(f:nG h i g q c)(p:hU 0 a)(n:a.get w0=some (dE g k [.agg (c.map (·.1))]))(o:∀e,Fp h i e->a.get e=h.get e):nG a w0 g k c:=by
 refine⟨p,n,λl j=>?_,f.WF⟩;have:=f.UE l j;unfold Zn at this|-;split at this
 ·exact this
 ·exact⟨this.1.mono λb m=>o b (f.Cp j m),this.2⟩
structure BW where
 (ver:Nat) (tx:Int) (c:Nat->T) (E:Nat->List T)
def BW.F(d:BW):List (T×aa (Nat×List T)):=[(d.c 0,some (2,d.E 0)),(Z d.tx,none),(d.c 2,some (1,d.E 2)),(d.c 3,some (3,d.E 3)),(d.c 4,some (1,d.E 4)),(d.c 5,some (1,d.E 5)),(d.c 6,some (1,d.E 6))]
def BW.Px(d:BW)(f:Nat)(e:List T):BW:=⟨d.ver,d.tx,d.c,λa=>if a=f then e else d.E a⟩
def bgN(a:Nat):Nat:=if a=0 then 3 else if a=3\/a=6 then 4 else if a=4 then 5 else 1
def Zb(a:Nat):Nat:=if a=0 then 2 else if a=3 then 3 else 1
def RvP(h:H)(w0:Nat)(y:H)(e:T):Prop:=e= dD\/∃(a:Nat) (c:Int),e= .arr a 0 0 1 false/\y.get a=some (dE 1 0 [Z c])/\0<=c/\c<4/\¬Fp y w0 a/\h.size<=a
def Vg(h:H)(w0:Nat)(y:H)(c:Nat)(a:T):Prop:=
 if c=0 then∃(g:Int) (f:T),a= .agg [Z g,f]/\RvP h w0 y f
 else if c=2 then∃b,a= .bool b
 else if c=3 then∃i:dM,a=i.t
 else∃e:Int,a= Z e/\(c=6->0<=e/\e<=4)
structure AB(L:List Int)(b:Nat)(h:H)(w0:Nat)(d:BW)(y:H):Prop where
 s:nG y w0 7 d.ver d.F
 tw:tM 0 L b (TI.hr h) y
 fp:∀c,Fp y w0 c->h.size+2<=c
 rb:y.get (h.size+1)=some nT
 ln:∀k,(d.E k).length=bgN k
 pr:∀k,∀e∈d.E k,Vg h w0 y k e
variable {L:List Int}{b:Nat}{h y y2:H}{w0:Nat}{d:BW}
def AB.Pa(a:AB L b h w0 d y):h.size+2<=y.size:=by have:=a.fp w0 (.inl rfl);have:=a.s.lt;omega
def AB.nfr(a:AB L b h w0 d y):¬Fp y w0 (h.size+1):=λc=>by have:=a.fp _ c;omega
def RvP.step{f:T}(p:RvP h w0 y f)(l:∀a,h.size<=a->a<y.size->¬Fp y w0 a->y2.get a=y.get a/\¬Fp y2 w0 a):RvP h w0 y2 f:=by
 rcases p with o|⟨g,q,rfl,c,i,j,k,e⟩
 ·exact .inl o
 ·have⟨m,n⟩:=l g e (H.fa c) k;exact .inr ⟨g,q,rfl,m.trans c,i,j,n,e⟩
def Vg.step{g:Nat}{f:T}(c:Vg h w0 y g f)(i:∀a,h.size<=a->a<y.size->¬Fp y w0 a->y2.get a=y.get a/\¬Fp y2 w0 a):Vg h w0 y2 g f:=by
 unfold Vg at c|-;split
 ·rename_i e;rw[aq e]at c;obtain⟨j,m,k,l⟩:=c;exact⟨j,m,k,l.step i⟩
 ·rename_i e;rw[ao e]at c;exact c
def GR(e:Step w0 y y2):∀a,h.size<=a->a<y.size->¬Fp y w0 a->y2.get a=y.get a/\¬Fp y2 w0 a:=λa _ f c=>⟨e.get a f c,λg=>(e.fp a g).elim c λi=>by omega⟩
def AB.tape(c:AB L b h w0 d y)(e:Sm b y y2)(n:v8 0 L b y2)(q:b<h.size):AB L b h w0 d y2:=by
 have i:∀a,Fp y w0 a->a≠b:=λa f j=>by have:=c.fp a f;omega
 have g:=λa=>iT (e.get w0 (i w0 (.inl rfl))) a;exact⟨e.iv c.s λj=>i b j rfl,c.tw.call e n,λa f=>c.fp a (by rw[g]at f;exact f),(e.get _ J).trans c.rb,c.ln,λm o l=>(c.pr m o l).step λa p _ k=>⟨e.get a J,by rw[g];exact k⟩⟩
theorem AB.cons(a:AB L b h w0 d y)(c:iX):AB L b h w0 d (y.cons c):=by
 have e:=Step.cons a.s.ok a.s.lt c;exact⟨a.s.cons c,a.tw.cons c,λf i=>(e.fp f i).elim (a.fp f) λl=>by have:=a.Pa;omega,(e.get _ (by have:=a.Pa;omega) a.nfr).trans a.rb,a.ln,λk g j=>(a.pr k g j).step (GR e)⟩
def AB.st(e:AB L b h w0 d y)(z:b<h.size)(a:Nat)(u:d.F[a]? =some (d.c a,some (Zb a,d.E a))){k p v:Nat}{q:Bool}{w:List T}(r:dS (d.c a)=some k)(t:y.get k=some ⟨Zb a,p,v,q,false,w⟩)(i:Nat)(g:T)
 (x:(d.Px a ((d.E a).set i g)).F=d.F.set a (d.c a,some (Zb a,(d.E a).set i g))) (C:Vg h w0 y a g):AB L b h w0 (d.Px a ((d.E a).set i g)) (dY y k ⟨Zb a,p,v+1,q,false,w.set i g⟩):=by
 obtain⟨n,sl⟩:=e.s.elem a u r t i g;have B:=e.s.Cp (ay u) r;refine⟨by rw[x];exact sl,e.tw.put t (by have:=e.fp k B;simp;omega) (by simpa using z) _,λo A=>(n.fp o A).elim (e.fp o) λl=>by have:=e.Pa;omega,(n.get _ (by have:=e.Pa;omega) e.nfr).trans e.rb,λf=>?_,λf m j=>?_⟩
 ·show(if f=a then _ else _:List T).length=_;split
  ·rename_i l;subst l;rw[cU];exact e.ln f
  ·exact e.ln f
 ·have j:m∈(if f=a then(d.E a).set i g else d.E f):=j;refine Vg.step ?_ (GR n);split at j
  ·rename_i l;subst l;rcases cA j with D|rfl
   ·exact e.pr _ m D
   ·exact C
  ·exact e.pr f m j
def AB.tx(a:AB L b h w0 d y)(j:b<h.size)(e:Int):AB L b h w0 ⟨d.ver+1,e,d.c,d.E⟩ (dY y w0 ⟨7,0,d.ver+1,true,false,[.agg [d.c 0,Z e,d.c 2,d.c 3,d.c 4,d.c 5,d.c 6]]⟩):=by
 have⟨f,sl⟩:=a.s.aff 1 (v':= Z e) dy ⟨_,rfl⟩ _ rfl;exact⟨sl,a.tw.put a.s.get (by have:=a.fp w0 (.inl rfl);simp;omega) (by simpa using j) _,λg k=>(f.fp g k).elim (a.fp g) λn=>by have:=a.Pa;omega,(f.get _ (by have:=a.Pa;omega) a.nfr).trans a.rb,a.ln,λm i l=>(a.pr m i l).step (GR f)⟩
def vh{i:Type}{f:i->T}{P:i->Prop}:∀{e:List T},(∀c∈e,∃a,c=f a/\P a)->∃g:List i,e=g.map f/\∀a∈g,P a:=by
 intro e;induction e with
 |nil=>intro _;exact⟨[],rfl,dy⟩
 |cons c e m=>
  intro h;obtain⟨a,rfl,l⟩:=h c dy;obtain⟨g,rfl,j⟩:=m λc k=>h c (by simp[k]);exact⟨a::g,rfl,by simpa[l]using j⟩
def AB.ld(i:AB L b h w0 d y)(a:Nat)(r:d.F[a]? =some (d.c a,some (Zb a,d.E a))){te:Ty}(u:te.size=Zb a){j:Nat}(t:j<bgN a):∃e f l k g m,dS (d.c a)=some e/\kK y te (d.c a) j=some (.val (.ptr e f j 0) y)/\y.get e=some ⟨Zb a,f,l,k,false,g⟩/\g[j]? =some m/\Vg h w0 y a m:=by
 have hE:j<(d.E a).length:=by rw[i.ln];exact t
 have⟨e,f,l,k,g,q,n,p,o⟩:=(i.s.gr a r).B0 (te:=te) u (i:=j) hE;exact⟨e,f,l,k,g,_,q,n,p,o,i.pr a _ (aD hE)⟩
end
section
attribute [-simp] size_cons
structure IBg where
 (L:List Int) (b:Nat)
def Wi(a:IBg)(d:List T)(c:H):Prop:=d=[.ptr a.b 0 0 0,jv.t]/\v8 0 a.L a.b c/\hU 0 c/\okB a.L
structure H4(s:ew):Prop where
 n:s.fj.ei.length=3/\s.fj.done.length=1/\s.fj.dH.length=4/\s.cells.length=5/\s.d8.length=1/\s.count.length=4
 c:∀c∈s.count,0<=c/\c<=4
 r:∀l∈s.fj.ei,l.eJ.length<=1/\∀x∈l.eJ,0<=x/\x<4
def KB(a:IBg)(g:List T)(e:H)(f:T)(c:H):Prop:=∃d:ew,f=d.t/\H4 d/\v8 0 a.L a.b c/\Sm a.b e c
def SR{e:Type}{f:e->T}{R:T->T->Prop}{P:e->Prop}:∀{c:List T},(∀b∈c,∃a,R b (f a)/\P a)->∃d:List e,iF R c (d.map f)/\∀a∈d,P a:=by
 intro c;induction c with
 |nil=>intro _;exact⟨[],.nil,dy⟩
 |cons b c k=>
  intro g;have⟨a,hr,j⟩:=g b dy;have⟨d,hl,h⟩:=k λb i=>g b (by simp[i]);exact⟨a::d,.cons hr hl,by simpa[j]using h⟩
def AB.fin{w:List Int}{p:Nat}{g n:H}{bC:Nat}{d:BW}(b:AB w p g bC d n)(bn:hU 0 g)(G:p<g.size)(k:iX)(an:List T):yT g (.agg [d.c 0,Z d.tx,d.c 2,d.c 3,d.c 4,d.c 5,d.c 6]) (dY n (g.size+1) k) (KB ⟨w,p⟩ an g):=by
 have D:=λe=>dN b.rb k e;have l:∀(f u:Nat),d.F[f]? =some (d.c f,some (u,d.E f))->Gr (dY n (g.size+1) k) (d.c f) u (d.E f)/\∀e,dS (d.c f)=some e->g.size<=e:=λf u I=>by
  have C:=λe (o:dS (d.c f)=some e)=>b.fp e (b.s.Cp (ay I) o);exact⟨(b.s.gr f I).mono λe o=>by rw[D,ao (by have:=C e o;omega)],λe o=>by have:=C e o;omega⟩
 obtain⟨ae,a0,p0⟩:=SR (f:=dU.t) (R:=FT (dY n (g.size+1) k) (λe=>g.size<=e) 3) (P:=λm=>m.eJ.length<=1/\∀a∈m.eJ,0<=a/\a<4) λi j=>by
  obtain⟨S,bX,rfl,a7⟩:=b.pr 0 i j;rcases a7 with rfl|⟨a,v,rfl,r,bH,bN,bS,bT⟩
  ·exact⟨⟨S,[]⟩,.inr (.inr ⟨_,_,rfl,.cons (fV ..) (.cons (jh ..) .nil),rfl⟩),dy⟩
  ·have a8:a≠g.size+1:=λh=>by rw[h,b.rb]at r;simp[nT]at r
   have a6:Gr (dY n (g.size+1) k) (.arr a 0 0 1 false) 1 ([v].map (T.int .i64)):= .inr ⟨a,0,0,true,[Z v],rfl,by rw[D,ao a8];exact r,rfl⟩;exact⟨⟨S,[v]⟩,.inr (.inr ⟨_,_,rfl,.cons (fV ..) (.cons (a6.ft (d:=1) (λe h=>by simp at h;omega) (.cons (fV ..) .nil)) .nil),rfl⟩),dz⟩
 obtain⟨W,x,_⟩:=vh (f:=T.bool) (P:=λ_=>True) λi j=>by
  have⟨a,h⟩:=b.pr 2 i j;exact⟨a,h,trivial⟩
 obtain⟨al,y,_⟩:=vh (f:=dM.t) (P:=λ_=>True) λi j=>by
  have⟨a,h⟩:=b.pr 3 i j;exact⟨a,h,trivial⟩
 obtain⟨U,z,_⟩:=vh (f:=T.int .i64) (P:=λ_=>True) λi j=>by
  have⟨a,h,_⟩:=b.pr 4 i j;exact⟨a,h,trivial⟩
 obtain⟨X,A,_⟩:=vh (f:=T.int .i64) (P:=λ_=>True) λi j=>by
  have⟨a,h,_⟩:=b.pr 5 i j;exact⟨a,h,trivial⟩
 obtain⟨Y,B,p6⟩:=vh (f:=T.int .i64) (P:=λQ=>0<=Q/\Q<=4) λi j=>by
  have⟨a,h,bs⟩:=b.pr 6 i j;exact⟨a,h,bs rfl⟩
 have l0:=b.ln 0;have l2:=b.ln 2;have l3:=b.ln 3;have l4:=b.ln 4;have l5:=b.ln 5;have l6:=b.ln 6;have lk:=a0.length;rw[x]at l2;rw[y]at l3;rw[z]at l4;rw[A]at l5;rw[B]at l6;simp[bgN]at l0 l2 l3 l4 l5 l6 lk;have⟨bi,ap⟩:=l 0 2 rfl;have⟨K,av⟩:=l 2 1 rfl;have⟨L,aA⟩:=l 3 3 rfl;have⟨M,aE⟩:=l 4 1 rfl;have⟨N,aN⟩:=l 5 1 rfl;have⟨O,aX⟩:=l 6 1 rfl;rw[x]at K;rw[y]at L;rw[z]at M;rw[A]at N;rw[B]at O;have q:∀m:List Int,iF (FT (dY n (g.size+1) k) (λe=>g.size<=e) 3) (m.map (T.int .i64)) (m.map (T.int .i64)):=λm=>xO λa=>fV ..;exact(b.tw.put b.rb dy (by simpa using G) k).cut bn G (FT.top (V:=λe=>g.size<=e) (d:=4) J (λ_ h=>h) (.cons (bi.ft ap a0) (.cons (fV ..) (.cons (K.ft av (xO λa=>Nf ..)) (.cons (L.ft aA (xO λa=> .inr (.inr ⟨a.cs,a.cs,rfl,.cons (fV ..) (.cons (fV ..) (.cons (Nf ..) .nil)),rfl⟩))) (.cons (M.ft aE (q _)) (.cons (N.ft aN (q _)) (.cons (O.ft aX (q _)) .nil)))))))) λbu bB=>
  ⟨⟨⟨ae,d.tx,W,al⟩,U,X,Y⟩,rfl,⟨⟨dA,l2,l3,l4,l5,l6⟩,p6,p0⟩,bB,bu⟩
def afz:(jI IBg Wi KB).Ok prog cx 36:=by
 refine rH (tb:=⟨pt [],ht [(77,kI),(39,jI dZ KD Ku),(78,jI Vt qF oP)]⟩) iL iB (iQ 39027670543808336620727472465805308762228731 [(10,[(1,4)]),(11,[(2,5)]),(27,[(1,3)]),(31,[(1,4)])] func36) (λ_ _=>10) (λy a A eI=>by obtain⟨rfl,_⟩:=eI;simp[f36]) ?_;rintro⟨W,r⟩ _ A ⟨rfl,eW,fA,bs⟩ h fo;simp only at eW bs;simp at fo;obtain⟨i,eC⟩:=fo;have D:=eW.tp.lt;have hO:(r=A.size)=False:=dz;have hP:(r=A.size+1)=False:=dz;have bC:=((tM.refl fA.hr (eW.eq (gU A r))).cons (dE 6 0 [jv.t])).cons nT;simp[f36,eC];generalize di:((TI.hr A).cons _).cons _=X;replace bC:tM 0 W r (TI.hr A) X:=by rw[<-di];exact bC
 have hX:X.size=A.size+2:=by rw[<-di];simp[size_cons]
 have fS:X.get (A.size+1)=some nT:=by rw[<-di];simp[nT,size_cons]
 clear di;refine iy abV dy jv ⟨rfl,bC.w.ok,dB,dB,dB,dB⟩ ?_;rintro _ aA ⟨e0,e4,e5,e6,e7,e8,rfl,k,hR,b8,eA,dn,cp⟩;have hW:=dn.sz;have eN:=dn.low;simp[eN,(b8.gr 6 rfl).len (cx:=cx)];have hj:∀C,Fp aA k C->C≠r:=λC V Q=>by have:=eA C V;omega
 generalize b7:aA.cons _=c1;have eO:hU 0 c1:=by rw[<-b7];exact hU.cons ⟨dn.hp,eN,aw _⟩ _
 have aN:∀C,c1.get C=if C=aA.size then some (dE 7 1 [.agg [e0,Z (-1),e4,e5,e6,e7,e8]])else aA.get C:=λC=>by rw[<-b7,dT]
 have fX:c1.size=aA.size+1:=by rw[<-b7,size_cons]
 clear b7;have eU:=λC (V:Fp aA k C)=>b8.fp C V;obtain⟨eh,eb⟩:∃eh,AB W r A aA.size eh c1:=by
  refine⟨⟨1,-1,λp=>if p=0 then e0 else if p=2 then e4 else if p=3 then e5 else if p=4 then e6 else if p=5 then e7 else e8,λp=>if p=0 then(List.replicate 3 ()).map zd else if p=2 then [false].map T.bool else if p=3 then(AF 4).map dM.t else if p=4 then [0,1,0,0,0].map (T.int .i64)else if p=6 then(List.replicate 4 0).map (T.int .i64)else(List.replicate 1 0).map (T.int .i64)⟩,?_,⟨⟨eO,dz,λC V dk=>?_,?_⟩,?_⟩,?_,?_,λp=>?_,λp e L=>?_⟩
  ·exact b8.copy eO (by rw[aN,aq rfl];rfl) λC V=>by rw[aN,ao (by have:=eU C V;omega)]
  ·have V:C<A.size:=by simpa using V
   exact(aN C).trans ((ao J).trans ((cp C J).trans (bC.w.get C (by simpa using V) dk)))
  ·exact bC.w.tp.eq ((aN r).trans ((ao J).trans (cp r J)))
  ·exact bC.g.eq ((aN r).trans ((ao J).trans (cp r J)))
  ·intro C V;rcases(b8.copy eO (by rw[aN,aq rfl];rfl) λC V=>by rw[aN,ao (by have:=eU C V;omega)]:nG c1 aA.size 7 1 _)with⟨_,gE,_,_⟩;rcases V with rfl|⟨x,eM,v,hf,Q⟩
   ·omega
   ·rw[gE]at eM;simp only[ar]at eM;subst eM;have:=eA C (.inr ⟨_,b8.get,v,hf,Q⟩);omega
  ·exact(aN _).trans ((ao J).trans ((cp _ J).trans fS))
  ·unfold bgN;by_cases cy:p=0
   ·subst cy;rfl
   by_cases a8:p=2
   ·subst a8;rfl
   by_cases cL:p=3
   ·subst cL;rfl
   by_cases fB:p=4
   ·subst fB;rfl
   by_cases fC:p=6
   ·subst fC;rfl
   simp[cy,a8,cL,fB,fC]
  ·unfold Vg;by_cases cy:p=0
   ·subst cy;simp at L;subst L;exact⟨_,_,rfl,.inl rfl⟩
   by_cases a8:p=2
   ·subst a8;simp at L;subst L;exact⟨_,rfl⟩
   by_cases cL:p=3
   ·subst cL;simp only[ao (show¬(3:Nat)=0 by decide),ao (show¬(3:Nat)=2 by decide),aq]at L|-;obtain⟨t,_,rfl⟩:=List.mem_map.1 L;exact⟨t,rfl⟩
   simp only[ao cy,ao a8,ao cL]at L|-;have:∃l:List Int,e∈l.map (T.int .i64)/\(p=6->l=List.replicate 4 0):=by
    split at L
    ·exact⟨_,L,λQ=>by omega⟩
    split at L
    ·exact⟨_,L,λ_=>rfl⟩
    ·exact⟨_,L,λQ=>by omega⟩
   obtain⟨l,hl,de⟩:=this;obtain⟨R,dk,rfl⟩:=List.mem_map.1 hl;refine⟨R,rfl,λQ=>?_⟩;rw[de Q]at dk;simp at dk;omega
 clear b8 eA dn cp eN hj aN fX eU bC fS;have fX:A.size+2<=aA.size:=J;generalize aA.size=G at*
 refine fk 4 J (λy h B=>(∃d,AB W r A G d B)/\dF h 0 (.ptr r 0 0 0)/\dF h 4 (.ptr (A.size+1) 0 0 0)/\dF h 5 (.ptr G 0 0 0)/\dF h 15 (Z 4)/\dF h 16 (Z y)) ?_ ?_ J ⟨⟨eh,eb⟩,by simp[i,show(jv.dH.length:Int)=4 from rfl]⟩
 ·clear eb i eC;rintro y h B bN a7 ⟨⟨d,b⟩,i,q,n,al,an⟩;have gV:(y:Int)<4:=J;obtain⟨p,b9,I,fv,bi,S⟩:=(b.cons (dE 1 0 [Z 2,Z 2,Z 2,Z 2,Z 0,Z 1,Z 3,Z 4,Z 5])).tw.next (tb:=⟨pt [],ht [(77,kI),(39,jI dZ KD Ku),(78,jI Vt qF oP)]⟩) dy bs 9 J J;have hY:=b.Pa;have c6:=(b.cons _).tape S (bi.g.le (aw _)) D;have fe:=(S.get B.size J).trans (by rw[dT,aq rfl]);obtain⟨fE,fb⟩:∃fE:Int,∀fv,([Z 2,Z 2,Z 2,Z 2,Z 0,Z 1,Z 3,Z 4,Z 5]:List T)[p]'fv= Z fE:=by
   rcases(by omega:p=0\/p=1\/p=2\/p=3\/p=4\/p=5\/p=6\/p=7\/p=8)with rfl|rfl|rfl|rfl|rfl|rfl|rfl|rfl|rfl<;>exact⟨_,λ_=>rfl⟩
  have hb:p<9:=J;simp[i,al,an,gV,I,fe,fb,hb];refine kQ (λh hD=>b9=hD/\(∃eV,dF h 7 (Z eV))/\dF h 0 (.ptr r 0 0 0)/\dF h 4 (.ptr (A.size+1) 0 0 0)/\dF h 5 (.ptr G 0 0 0)/\dF h 6 (Z y)/\dF h 15 (Z 4)/\dF h 16 (Z y)) (λO=>by simp[i,q,n,al,an]) (λO=>by simp[i,q,n,al,an]) ?_;clear I fe fb bi S i q n al an;rintro h _ ⟨rfl,⟨eV,gI⟩,i,q,n,de,al,an⟩;have k:=c6.s.get;simp[BW.F]at k;obtain⟨bT,c7,ds,c9,dv,_,aE,ap,N,av,t,rfl⟩:=c6.ld 3 rfl (te:=H8) rfl (j:=y) bN;have bB:=c6.st D 3 rfl aE N y (dM.t ⟨eV,0,false⟩) rfl ⟨_,rfl⟩;simp[n,de,gI,k,ap,N,av];clear c6 k ap N av aE;generalize d.Px 3 _=eo at bB;generalize dY b9 _ _=ea at*
  refine ee (λO=>?_) (λO=>?_)
  ·obtain⟨bu,U,I,eH,bH,bS⟩:=bB.tw.next (tb:=⟨pt [],ht [(77,kI),(39,jI dZ KD Ku),(78,jI Vt qF oP)]⟩) dy bs 3 J J;have Y:=bB.tape bS (bH.g.le (aw _)) D;have ae:=bB.s.get;have bn:=Y.s.get;simp[BW.F]at ae bn;obtain⟨bT,c7,ds,c9,dv,_,aE,ap,N,av,R,rfl,_⟩:=Y.ld 6 rfl (te:=Ev) rfl (j:=y) bN;have gi:binop .add (Z 1) (Z (bu:Int))=some (Z (1+bu)):=Aw rfl J J;have sv:fh ea U G=true:=fD (bn.trans ae.symm);have M:=Y.st D 6 rfl aE N y (Z (1+bu)) rfl ⟨_,rfl,λ_=>by omega⟩;generalize gM:dY U bT _=hF at M;generalize eo.Px 6 _=hI at M;obtain⟨hh,hG,gn,hL,gg,hs⟩:=M.tw.next (tb:=⟨pt [],ht [(77,kI),(39,jI dZ KD Ku),(78,jI Vt qF oP)]⟩) dy bs 4 J J;have ec:=M.tape hs (gg.g.le (aw _)) D;have eB:=M.s.get;have ff:=ec.s.get;simp[BW.F]at eB ff;obtain⟨hH,hJ,hS,hK,hV,_,gP,gm,fi,gv,t,rfl⟩:=ec.ld 3 rfl (te:=H8) rfl (j:=y) bN;have hv:fh hF hG G=true:=fD (ff.trans eB.symm);have gd:=ec.st D 3 rfl gP fi y (dM.t ⟨t.iE,t.cond,decide ((hh:Int)=3)⟩) rfl ⟨_,rfl⟩;simp[i,q,n,de,al,an,ae,I,gi,ap,N,av,sv,gM,eB,gn,gm,fi,gv,hv,a7];exact⟨_,gd⟩
  ·simp[i,q,n,al,an,a7];exact⟨eo,bB⟩
 clear eb i eC;rintro h B ⟨⟨d,b⟩,i,q,n,al,an⟩;have k:=b.s.get;simp[BW.F]at k;have l0:=b.ln 0;simp[n,al,an,k,(b.s.gr 0 rfl).len (cx:=cx),l0,bgN];refine fk 3 J (λy h B=>(∃d,AB W r A G d B)/\dF h 0 (.ptr r 0 0 0)/\dF h 4 (.ptr (A.size+1) 0 0 0)/\dF h 5 (.ptr G 0 0 0)/\dF h 63 (Z 3)/\dF h 64 (Z y)) ?_ ?_ J ⟨⟨d,b⟩,by simp[i,q,n]⟩
 ·clear b k l0 i q n al an;rintro y h B bN a7 ⟨⟨d,b⟩,i,q,n,aX,a6⟩;have gS:(y:Int)<3:=J;have k:=b.s.get;simp[BW.F]at k;simp[i,n,aX,a6,gS,k];obtain⟨K,b6,fl⟩:=vh (f:=T.int .i64) (P:=λR=>0<=R/\R<=4) λe L=>by
   obtain⟨R,eP,a8⟩:=b.pr 6 e L;exact⟨R,eP,a8 rfl⟩
  have cb:K.length=4:=by rw[<-aG (f:=T.int .i64),<-b6];exact b.ln 6
  have bX:=b.s.gr 6 rfl;rw[b6]at bX;have dm:dS (d.c 6)≠some r:=λQ=>by have:=b.fp r (b.s.Cp (f:=(d.c 6,some (1,d.E 6))) (by simp[BW.F]) Q);omega
  refine iy Mi dy ⟨W,r,0,d.c 0,Z d.tx,d.c 2,d.c 3,d.c 4,d.c 5,d.c 6,K⟩ ⟨rfl,b.tw.g,b.tw.w.ok,bs,dA,bX,dm,dy⟩ ?_;rintro _ b9 ⟨u,rfl,fL,eX,t1,S⟩;replace b:=b.tape S t1 D;simp only[cb]at eX;clear bX dm b6 cb fl k t1 S;simp;refine ee (λO=>?_) (λO=>?_)
  ·simp[i,q,n,aX,a6,a7];exact⟨d,b⟩
  obtain⟨m,rfl⟩:∃m:Nat,u=m:=⟨u.toNat,by simp at O;omega⟩;have hd:m<4:=J;clear O fL eX;by_cases gQ:y=2
  ·subst gQ;have e9:binop .add (Z 2) (Z 1)=some (Z 3):=by simpa using a7
   obtain⟨bu,U,I,eH,bH,bS⟩:=b.tw.next (tb:=⟨pt [],ht [(77,kI),(39,jI dZ KD Ku),(78,jI Vt qF oP)]⟩) dy bs 2 J J;replace b:=b.tape bS (bH.g.le (aw _)) D;simp[i,I];have ef:=b.cons (dE 1 0 [Z m]);obtain⟨bT,c7,ds,c9,dv,_,aE,ap,N,av,o,eS,rfl,eL⟩:=b.ld 0 rfl (te:=Ib) rfl (j:=2) dB;obtain⟨gj,gw,hy,gz,hB,_,fs,er,dd,eu,ho,hQ,rfl,hM⟩:=ef.ld 0 rfl (te:=Ib) rfl (j:=2) dB;have k:=b.s.get;have gD:=ef.s.get;simp[BW.F]at k gD;refine ee (λO=>?_) (λO=>?_)
   ·have hn:¬Fp (U.cons (dE 1 0 [Z m])) G U.size:=λQ=>by
     have e:(U.cons (dE 1 0 [Z m])).get G=U.get G:=by rw[dT,ao (by have:=b.s.lt;omega)]
     rw[iT e]at Q;have:=b.s.fp _ Q;omega
    have M:=ef.st D 0 rfl fs dd 2 (.agg [Z ho,.arr U.size 0 0 1 false]) rfl ⟨_,_,rfl,.inr ⟨U.size,m,rfl,by rw[dT,aq rfl],J,J,hn,by have:=b.Pa;omega⟩⟩;have hN:(G=U.size)=False:=by have:=b.s.lt;simp;omega
    simp[i,q,n,aX,a6,k,er,dd,eu,e9];exact⟨_,M⟩
   ·have M:=b.st D 0 rfl aE N 2 (.agg [Z m,eS]) rfl ⟨_,_,rfl,eL⟩;simp[i,q,n,aX,a6,k,ap,N,av,e9];exact⟨_,M⟩
  ·obtain⟨bT,c7,ds,c9,dv,_,aE,ap,N,av,o,eS,rfl,eL⟩:=b.ld 0 rfl (te:=Ib) rfl (j:=y) bN;obtain⟨gj,gw,hy,gz,hB,_,fs,er,dd,eu,t,rfl⟩:=b.ld 3 rfl (te:=H8) rfl (j:=m) hd;have k:=b.s.get;simp[BW.F]at k;have M:=b.st D 0 rfl aE N y (.agg [Z m,eS]) rfl ⟨_,_,rfl,eL⟩;simp[n,show¬(y:Int)=2 by omega,k,er,dd,eu];refine ee (λO=>?_) (λO=>?_)
   ·simp[i,q,n,aX,a6,a7];exact⟨d,b⟩
   ·simp[i,q,n,aX,a6,k,ap,N,av,a7];exact⟨_,M⟩
 clear b k l0 i q n al an;rintro h B ⟨⟨d,b⟩,i,q,n,aX,a6⟩;have c4:=λ{B:H} {d:BW} (b:AB W r A G d B)=>b.tw.next (tb:=⟨pt [],ht [(77,kI),(39,jI dZ KD Ku),(78,jI Vt qF oP)]⟩) dy bs;have fY:∀{B:H} {d:BW},AB W r A G d B->∃K:List Int,qF ⟨W,r,0,d.c 0,Z d.tx,d.c 2,d.c 3,d.c 4,d.c 5,d.c 6,K⟩ [.ptr r 0 0 0,.agg [d.c 0,Z d.tx,d.c 2,d.c 3,d.c 4,d.c 5,d.c 6]] B/\K.length=4:=λ{B d} b=>by
  obtain⟨K,b6,fl⟩:=vh (f:=T.int .i64) (P:=λR=>0<=R/\R<=4) λe L=>by
   obtain⟨R,eP,a8⟩:=b.pr 6 e L;exact⟨R,eP,a8 rfl⟩
  have cb:K.length=4:=by rw[<-aG (f:=T.int .i64),<-b6];exact b.ln 6
  have bX:=b.s.gr 6 rfl;rw[b6]at bX;have dm:dS (d.c 6)≠some r:=λQ=>by have:=b.fp r (b.s.Cp (f:=(d.c 6,some (1,d.E 6))) (by simp[BW.F]) Q);omega
  exact⟨K,⟨rfl,b.tw.g,b.tw.w.ok,bs,dA,bX,dm,dy⟩,cb⟩
 obtain⟨hg,b9,I,ha,bi,S⟩:=c4 b 3 J J;replace b:=b.tape S (bi.g.le (aw _)) D;simp[i,aX,a6,I];clear I bi S;refine kQ (λh B=>(∃d,AB W r A G d B)/\dF h 0 (.ptr r 0 0 0)/\dF h 4 (.ptr (A.size+1) 0 0 0)/\dF h 5 (.ptr G 0 0 0)) (λO=>?_) (λO=>?_) ?_
 ·have k:=b.s.get;simp[BW.F]at k;obtain⟨K,eI,cb⟩:=fY b;simp[i,n,k];refine iy Mi dy _ eI ?_;rintro _ ea ⟨u,rfl,fL,eX,t1,S⟩;replace b:=b.tape S t1 D;have k:=b.s.get;simp[BW.F]at k;have bB:=b.tx D u;simp[i,q,n,k];exact⟨_,bB⟩
 ·simp[i,q,n];exact⟨d,b⟩
 clear b i q n aX a6;rintro h B ⟨⟨d,b⟩,i,q,n⟩;obtain⟨hg,b9,I,ha,bi,S⟩:=c4 b 3 J J;replace b:=b.tape S (bi.g.le (aw _)) D;simp[i,I];clear I bi S;refine kQ (λh B=>(∃d,AB W r A G d B)/\dF h 0 (.ptr r 0 0 0)/\dF h 4 (.ptr (A.size+1) 0 0 0)/\dF h 5 (.ptr G 0 0 0)) (λO=>?_) (λO=>?_) ?_
 ·have k:=b.s.get;simp[BW.F]at k;obtain⟨bT,c7,ds,c9,dv,_,aE,ap,N,av,o,rfl⟩:=b.ld 2 rfl (te:=Xh) rfl (j:=0) dB;replace b:=b.st D 2 rfl aE N 0 (.bool true) rfl ⟨_,rfl⟩;generalize b7:dY b9 bT _=ea at b;generalize d.Px 2 _=eo at b;obtain⟨bu,U,I,eH,bH,bS⟩:=c4 b 3 J J;have Y:=b.tape bS (bH.g.le (aw _)) D;have ae:=b.s.get;have bn:=Y.s.get;simp[BW.F]at ae bn;obtain⟨gk,gy,hA,gB,hC,_,eF,et,ca,ey,R,rfl,_⟩:=Y.ld 5 rfl (te:=H5) rfl (j:=0) dB;have sv:fh ea U G=true:=fD (bn.trans ae.symm);have M:=Y.st D 5 rfl eF ca 0 (Z bu) rfl ⟨_,rfl,λQ=>by omega⟩;simp[i,q,n,k,ap,N,av,b7,ae,I,et,ca,ey,sv];exact⟨_,M⟩
 ·simp[i,q,n];exact⟨d,b⟩
 clear b i q n;rintro h B ⟨⟨d,b⟩,i,q,n⟩;have k:=b.s.get;simp[BW.F]at k;have l4:=b.ln 4;simp[n,k,(b.s.gr 4 rfl).len (cx:=cx),l4,bgN];refine fk 5 J (λy h B=>(∃d,AB W r A G d B)/\dF h 0 (.ptr r 0 0 0)/\dF h 4 (.ptr (A.size+1) 0 0 0)/\dF h 5 (.ptr G 0 0 0)/\dF h 142 (Z 5)/\dF h 143 (Z y)) ?_ ?_ J ⟨⟨d,b⟩,by simp[i,q,n]⟩
 ·clear b k l4 i q n;rintro y h B bN a7 ⟨⟨d,b⟩,i,q,n,eD,eE⟩;have gZ:(y:Int)<5:=J;obtain⟨bu,U,I,eH,bH,bS⟩:=c4 b 3 J J;have Y:=b.tape bS (bH.g.le (aw _)) D;have ae:=b.s.get;have bn:=Y.s.get;simp[BW.F]at ae bn;obtain⟨gk,gy,hA,gB,hC,_,eF,et,ca,ey,R,rfl,_⟩:=Y.ld 4 rfl (te:=H5) rfl (j:=y) bN;have sv:fh B U G=true:=fD (bn.trans ae.symm);have M:=Y.st D 4 rfl eF ca y (Z bu) rfl ⟨_,rfl,λQ=>by omega⟩;simp[i,q,n,eD,eE,gZ,ae,I,et,ca,ey,sv,a7];exact⟨_,M⟩
 clear b k l4 i q n;rintro h B ⟨⟨d,b⟩,i,q,n,eD,eE⟩;have k:=b.s.get;have eR:=b.rb;unfold nT at eR;simp[BW.F]at k;have hq:=λz=>(dN eR z (A.size+1)).trans (aq rfl);simp[q,n,eD,eE,k,eR,hq];exact b.fin fA D _ _
end
def Tc(a:Nat)(d:H)(e:T)(g:List (List Int)):Prop:=∃c,Gr d e 1 c/\dS e≠some a/\iF (λb f=>Gr d b 1 (f.map (T.int .i64))/\dS b≠some a) c g
structure IEv where
 (L:List Int) (b p:Nat) (s:ew) (w:dZ) (rv:T) (rs:List (List Int))
def PW(a:IEv)(d:List T)(c:H):Prop:=d=[.ptr a.b 0 0 0,a.s.t,a.w.t,a.rv]/\v8 a.p a.L a.b c/\hU 0 c/\okB a.L/\Tc a.b c a.rv a.rs/\a.rs.length=4/\(∀e∈a.rs,e.length<=1000)/\a.s.cells.length=5/\1<=a.s.d8.length/\a.s.fj.dH.length<=98/\a.w.cells.length=5
def GI(a:IEv)(g:List T)(e:H)(f:T)(d:H):Prop:=∃c:ej,f=c.t/\c.mt.length<=1000/\c.uN.length<=1000/\v8 (a.p+1) a.L a.b d/\Sm a.b e d
def YZ{a:fy}(ht:a.p 121=some uX):rl prog cx a 121 []=some (sl (wN.map (T.int .i64))):=gu ht Ue () trivial
def Oq{i:Nat}(c:i<43):∃a:Int,wN[i]? =some a/\1<=a/\a<=23:=by
 have b:∀a∈wN,1<=a/\a<=23:=dB;exact⟨wN[i]'c,az _,b _ (aD _)⟩
abbrev OG(f c d g e:Int)(a b:T):T:= .agg [Z f,Z c,Z d,Z g,Z e,a,b]
structure Ti(p:Nat)(L:List Int)(b:Nat)(h:H)(s:ew)(w:dZ)(h':H)(x:T):Prop where
 tw:tM p L b (TI.hr h) h'
 g0:h'.get h.size=some (dE 7 0 [s.t])
 g1:h'.get (h.size+1)=some (dE 6 0 [w.t])
 g2:h'.get (h.size+2)=some (dE 7 0 [OG 0 0 0 0 0 dD dD])
 g3:∃ver,h'.get (h.size+3)=some (dE 7 ver [x])
def Ti.call{m h:Nat}{d:List Int}{a:Nat}{e:H}{i:ew}{j:dZ}{g f:H}{k:T}(b:Ti m d a e i j g k)(c:Sm a g f)(n:v8 h d a f)(p:a<e.size):Ti h d a e i j f k:=by
 have⟨o,l⟩:=b.g3;exact⟨b.tw.call c n,(c.get _ J).trans b.g0,(c.get _ J).trans b.g1,(c.get _ J).trans b.g2,o,(c.get _ J).trans l⟩
theorem Ti.put{k:Nat}{h:List Int}{e:Nat}{d:H}{l:ew}{m:dZ}{j:H}{x:T}(a:Ti k h e d l m j x)(o:e<d.size)(f:Nat)(g:T):Ti k h e d l m (dY j (d.size+3) (dE 7 f [g])) g:=by
 have⟨p,i⟩:=a.g3;have b:=λc=>dN i (dE 7 f [g]) c;exact⟨a.tw.put i dy (by simpa using o) _,by rw[b,ao J];exact a.g0,by rw[b,ao J];exact a.g1,by rw[b,ao J];exact a.g2,f,by rw[b,aq rfl]⟩
def Ti.rd{g:Nat}{d:List Int}{e:Nat}{a:H}{h:ew}{i:dZ}{c:H}{j:T}(f:Ti g d e a h i c j)(b:iX):(dY c (a.size+2) b).get (a.size+2)=some b:=(dN f.g2 b (a.size+2)).trans (aq rfl)
def Ds(a:T):Prop:=a.ir=true/\a.cells=[a]/\∃b:List Int,b.length<=1000/\∀d c,FT d c 1 a (sl (b.map (T.int .i64)))
theorem Ds.nil:Ds dD:=⟨rfl,rfl,[],dy,λb a=>jh ..⟩
def Ds.sl{a:List Int}(b:a.length<=1000):Ds (TI.sl (a.map (T.int .i64))):=⟨dy,dy,a,b,λb d=>pQ _ _ _ λe c=>by obtain⟨f,_,rfl⟩:=List.mem_map.1 c;simp⟩
def afy:(jI IEv PW GI).Ok prog cx 79:=by
 refine rH (tb:=⟨pt [(121,uX)],ht [(77,kI),(122,jI JW AP tv),(123,jI JU AO tu),(124,jI BV u5 ux)]⟩) iL iB (iQ 618988909108621684749897583 [(3,[(6,11),(7,11),(5,14),(11,14)])] func79) (λ_ _=>5) (λi a b a6=>by obtain⟨rfl,_⟩:=a6;simp[f79]) ?_;rintro⟨B,h,v,N,E,aA,eB⟩ _ b ⟨rfl,b6,ey,W,eb,e4,bs,e5,ec,ef,e8⟩ L dn;simp only at b6 W eb e4 bs e5 ec ef e8;simp at dn;obtain⟨C,dk,dm,O⟩:=dn;have p:=b6.tp.lt;have gi:(h=b.size)=False:=dz;have gj:(h=b.size+1)=False:=dz;have gk:(h=b.size+2)=False:=dz;have eE:=(((tM.refl ey.hr (b6.eq (gU b h))).cons (dE 7 0 [N.t])).cons (dE 6 0 [E.t])).cons (dE 7 0 [.agg [Z 0,Z 0,Z 0,Z 0,Z 0,dD,dD]]);obtain⟨c,eI,c1,gg,eF,y⟩:=eE.next (tb:=⟨pt [(121,uX)],ht [(77,kI),(122,jI JW AP tv),(123,jI JU AO tu),(124,jI BV u5 ux)]⟩) dy W 4 J J;have cb:=λ{bi:H} {v:Nat} (E:tM v B h (TI.hr b) bi)=>E.next (tb:=⟨pt [(121,uX)],ht [(77,kI),(122,jI JW AP tv),(123,jI JU AO tu),(124,jI BV u5 ux)]⟩) dy W;obtain⟨k,eL,c4,gd,eH,Y⟩:=cb eF wN.length dB dB;obtain⟨j,c7,e9,fb⟩:=Oq (i:=k) (by have:wN.length=43:=rfl;omega);obtain⟨X,aE,c6,dv,b9,bS⟩:=cb eH 6 J J;obtain⟨bX,e7⟩:∃x:Int,(c:Int)*6=x:=⟨_,rfl⟩;obtain⟨bT,e6⟩:∃x:Int,bX+X=x:=⟨_,rfl⟩;have eu:binop .mul (Z (c:Int)) (Z 6)=some (Z bX):=by rw[aci,<-jE,jK J J,e7]
 have cy:binop .add (Z bX) (Z (X:Int))=some (Z bT):=Aw e6 J J;have fY:eI.size=b.size+3:=by rw[y.size];rfl
 have ca:aE.size=b.size+3:=by rw[bS.size,Y.size,fY]
 have eC:fh eI eL (b.size+3)=true:=iU (lj _ J);have eD:fh eL aE (b.size+3)=true:=iU (lj _ (by rw[Y.size];omega));have et:=b9.w.ok.low;rw[ca]at et;have G:∀r,r<b.size+3->r≠h->aE.get r=((((TI.hr b).cons (dE 7 0 [N.t])).cons (dE 6 0 [E.t])).cons (dE 7 0 [OG 0 0 0 0 0 dD dD])).get r:=λr bn av=>(bS.get r av).trans ((Y.get r av).trans (y.get r av));have D:Ti (v+1) B h b N E (aE.cons (dE 7 1 [OG c j 0 0 bT dD dD])) (OG c j 0 0 bT dD dD):=
  ⟨(b9.le J).cons _,by rw[dT,ao J,G _ J J];simp,by rw[dT,ao J,G _ J J];simp,by rw[dT,ao J,G _ J J];simp,1,by rw[dT,aq ca.symm]⟩
 simp[f79,C,dk,dm,c1,YZ,c4,c6,c7,eu,cy,ca,eC,eD,et];clear c1 c4 c6 y Y bS eE eF eH b9 eu cy G c7 eC eD;generalize aE.cons _=gn at*
 refine kQ (λL bi=>(∃z,Ti (v+1) B h b N E bi (OG c j 0 0 z dD dD))/\dF L 0 (.ptr h 0 0 0)/\dF L 3 aA/\dF L 5 (.ptr b.size 0 0 0)/\dF L 6 (.ptr (b.size+1) 0 0 0)/\dF L 8 (.ptr (b.size+2) 0 0 0)/\dF L 9 (Z c)/\dF L 11 (.ptr (b.size+3) 0 0 0)) (λe0=>?_) (λe0=>?_) ?_
 ·obtain⟨A,m⟩:=D.g3;simp[C,O,m];exact⟨_,D.put p _ _⟩
 ·simp[C,O];exact⟨_,D⟩
 clear D C dk dm O;rintro L o ⟨⟨z,D⟩,C,O,eV,eW,aN,aX,s⟩;obtain⟨A,m⟩:=D.g3;simp[C,aX,s,m];refine iy abZ dy ⟨B,h,v+1,j,c⟩ ⟨rfl,D.tw.g,D.tw.w.ok,W,dA,dA,e9,fb⟩ ?_;rintro _ fE ⟨q,rfl,gm,bN,t1,y⟩;have l:=D.call y t1 p;clear D m;obtain⟨A,m⟩:=l.g3;simp[C,eV,s,m];replace l:=l.put p (A+1) (OG c j q 0 z dD dD);generalize dY fE _ _=ae at*
 clear y t1 m;obtain⟨A,m⟩:=l.g3;have de:=l.g0;simp[s,m,de];refine iy abU dy ⟨B,h,v+1,N,j,q⟩ ⟨rfl,l.tw.g,l.tw.w.ok,W,λP=>by have:=bN (.inl P);simp only;omega,ec,ef⟩ ?_;rintro _ fL ⟨n,rfl,t1,y⟩;replace l:=l.call y t1 p;clear m de;obtain⟨A,m⟩:=l.g3;simp[s,m];replace l:=l.put p (A+1) (OG c j q n z dD dD);generalize dY fL _ _=fS at*
 clear y t1 m;obtain⟨A,m⟩:=l.g3;have eP:=l.g1;obtain⟨M,eU,fi,cL⟩:=eb;have ds:c<M.length:=by rw[cL.length];omega
 obtain⟨bH,ea,c9,dd⟩:∃bH∈eB,Gr b M[c] 1 (bH.map (T.int .i64))/\dS M[c]≠some h:=cL.IY (aD ds);have cp:∀o,tM (v+1) B h (TI.hr b) o->∃S U A al F,∃(u:List Int) (ae:H),kK o pS aA c=some (.val (.ptr S U c 0) o)/\o.get S=some ⟨1,U,A,al,false,F⟩/\F[c]? =some M[c]/\hl prog cx ⟨pt [(121,uX)],ht [(77,kI),(122,jI JW AP tv),(123,jI JU AO tu),(124,jI BV u5 ux)]⟩ 124 [.ptr h 0 0 0,M[c]] o=some (sl (u.map (T.int .i64)),ae)/\u.length<=1000/\v8 (v+1) B h ae/\Sm h o ae:=λo b7=>by
  have eA:∀(n:T) F,Gr b n 1 F->dS n≠some h->Gr o n 1 F:=λn F g av=>g.mono λr bn=>by
   obtain⟨_,_,_,_,P,_⟩:=g.box bn;exact(b7.w.get r (H.fa P) λe=>av (by rw[<-e];exact bn)).trans (gU b r)
  obtain⟨S,U,A,al,F,_,eN,eS,eO⟩:=(eA aA M eU fi).B0 (te:=pS) rfl ds;have a6:u5 ⟨B,h,v+1,M[c],bH⟩ [.ptr h 0 0 0,M[c]] o:=⟨rfl,eA _ _ c9 dd,dd,b7.g,b7.w.ok,W,bs _ ea⟩;obtain⟨_,ae,e,P⟩:=F2 (tb:=⟨pt [(121,uX)],ht [(77,kI),(122,jI JW AP tv),(123,jI JU AO tu),(124,jI BV u5 ux)]⟩) dy XN ⟨_,a6⟩;obtain⟨u,rfl,fl,fo,fs⟩:=P _ a6;exact⟨S,U,A,al,F,u,ae,eN,eS,eO,e,aO fl (bs _ ea),fo,fs⟩
 have eM:(decide (j=5)=false/\(decide (j=3)||decide (j=4))=true/\∃X:Nat,ks q=some X/\X<E.cells.length)\/(decide (j=5)=false/\(decide (j=3)||decide (j=4))=false)\/(decide (j=5)=true):=by
  by_cases K:j=5
  ·exact .inr (.inr (aY K))
  ·by_cases Q:j=3\/j=4
   ·exact .inl ⟨aM K,by simpa using Q,q.toNat,em (bN Q).1,by have:=bN Q;omega⟩
   ·exact .inr (.inl ⟨aM K,dz⟩)
 have fin:∀{o:H} {d f:T} (R:iX),Ti (v+1) B h b N E o (OG c j q n z d f)->Ds d->Ds f->yT b (OG c j q n z d f) (dY o (b.size+2) R) (GI ⟨B,h,v,N,E,aA,eB⟩ [.ptr h 0 0 0,N.t,E.t,aA] b):=λR i ⟨_,_,u,l1,l2⟩ ⟨_,_,bC,fe,ff⟩=>
  (i.tw.put i.g2 dy (by simpa using p) R).cut ey p (FT.top (V:=λh=>b.size<=h) (d:=1) J (λ_ P=>P) (.cons (fV ..) (.cons (fV ..) (.cons (fV ..) (.cons (fV ..) (.cons (fV ..) (.cons (l2 ..) (.cons (ff ..) .nil)))))))) λfv fA=>⟨⟨c,j,q,n,z,u,bC⟩,rfl,l1,fe,fA,fv⟩
 obtain⟨S,U,fC,al,F,u,fX,a1,a2,a3,a4,l1,t1,y⟩:=cp fS l.tw;have bu:=l.call y t1 p;obtain⟨b8,a8⟩:=bu.g3;have an:=λR=>(dN a8 R (b.size+3)).trans (aq rfl);have a7:=c9.cells;rcases eM with⟨K,Q,X,eX,dv⟩|⟨K,Q⟩|K;simp[eW,s,m,eP,K,Q,eX,dv];refine ee (λap=>?_) (λap=>?_);rotate_left
 iterate 2
  ·have I:=bu.put p (b8+1) (OG c j q n z dD (sl (u.map (T.int .i64))));simp[s,m,K,Q];refine ee (λap=>?_) (λap=>?_)
   ·simp[C,O,aN,aX,s,a1,a2,a3,a4,a8,a7,an,I.g2,I.rd];exact fin _ I Ds.nil (Ds.sl l1)
   ·simp[aN,s,m,l.g2,l.rd];exact fin _ l Ds.nil Ds.nil
 iterate 2
  ·have I:=bu.put p (b8+1) (OG c j q n z (sl (u.map (T.int .i64))) dD);simp[C,O,aX,s,m,K,a1,a2,a3,a4,a8,a7,an];obtain⟨S,U,fC,al,F,bC,gw,a1,a2,a3,a4,l2,t2,Y⟩:=cp _ I.tw;have eh:=I.call Y t2 p;obtain⟨fB,di⟩:=eh.g3;have eR:=λR=>(dN di R (b.size+3)).trans (aq rfl);have bB:=eh.put p (fB+1) (OG c j q n z (sl (u.map (T.int .i64))) (sl (bC.map (T.int .i64))));replace an:=an (dE 7 (b8+1) [OG c j q n z (sl (u.map (T.int .i64))) dD]);generalize dY fX _ _=gv at*
   refine ee (λap=>?_) (λap=>?_)
   ·have eo:=bB.g2;have er:=bB.rd;simp at eo er;simp[C,O,aN,aX,s,a1,a2,a3,a4,di,a7,eR,eo,er];exact fin _ bB (Ds.sl l1) (Ds.sl l2)
   ·simp[aN,s,an,I.g2,I.rd];exact fin _ I (Ds.sl l1) Ds.nil
section
def ST{j k:Type}{f:j->k->Prop}:∀{b:List j} {a:List k},b.length=a.length->(∀(e:Nat) c d,b[e]? =some c->a[e]? =some d->f c d)->iF f b a:=by
 intro b;induction b with
 |nil=>intro a h _;cases a with|nil=>exact .nil|cons i a=>simp at h
 |cons p b n=>
  intro a h g;cases a with
  |nil=>simp at h
  |cons i a=>exact .cons (g 0 p i rfl rfl) (n (by simpa using h) λe c d l m=>g (e+1) c d (by simpa using l) (by simpa using m))
structure Gp(lo bv:Nat)(h:H)(rs:List (List Int))(o:T)(xs:List T)(es:List T)(ver:Nat):Prop where
 gb:h.get bv=some ⟨1,0,ver,true,false,es⟩
 Pb:lo<=bv
 len:es.length=rs.length
 gr:∀(i:Nat) (e:T) (ns:List Int),es[i]? =some e->rs[i]? =some ns->Gr h e 1 (ns.map (T.int .i64))
 sep:∀(i:Nat) (e:T) (c:Nat),es[i]? =some e->dS e=some c->lo<=c/\c≠bv/\dS o≠some c/\∀(j:Nat) (e':T),es[j]? =some e'->dS e'=some c->i=j
 go:Gr h o 7 xs
 ob:∀c,dS o=some c->lo<=c/\c≠bv
variable {lo bv:Nat}{h h':H}{rs:List (List Int)}{o:T}{xs es:List T}{ver:Nat}
def Gp.lt(e:Gp lo bv h rs o xs es ver){a:Nat}{b:T}{c:Nat}(d:es[a]? =some b)(f:dS b=some c):c<h.size:=by
 have g:a<rs.length:=by rw[<-e.len];exact(List.getElem?_eq_some_iff.1 d).1
 have⟨_,_,_,_,i,_⟩:=(e.gr a b rs[a] d (az g)).box f;exact H.fa i
def Gp.olt(c:Gp lo bv h rs o xs es ver){a:Nat}(b:dS o=some a):a<h.size:=by
 have⟨_,_,_,_,d,_⟩:=c.go.box b;exact H.fa d
def Gp.kU(a:Gp lo bv h rs o xs es ver)(e:∀b,lo<=b->b<h.size->h'.get b=h.get b):Gp lo bv h' rs o xs es ver:=
 ⟨(e _ a.Pb (H.fa a.gb)).trans a.gb,a.Pb,a.len,λg f j d i=>(a.gr g f j d i).mono λb c=>e b (a.sep g f b d c).1 (a.lt d c),a.sep,a.go.mono λb c=>e b (a.ob b c).1 (a.olt c),a.ob⟩
def Gp.rda(a:Gp lo bv h rs o xs es ver){b:Nat}(j:b<lo):Tc b h (.arr bv 0 0 rs.length false) rs:=
 ⟨es,by rw[<-a.len];exact .inr ⟨bv,0,ver,true,es,rfl,a.gb,aK⟩,by have:=a.Pb;simp;omega,ST a.len λe c g d f=>⟨a.gr e c g d f,λi=>by have:=(a.sep e c b d i).1;omega⟩⟩
def _root_.Go.TI.Gr.mK{h:H}{a:T}{e:Nat}{es:List T}(c:Gr h a e es)(b:T):TI.mK a 0 [b]=some b:=by
 rcases c with⟨rfl,_⟩|⟨f,i,ver,j,xs,rfl,_⟩<;>exact Km λg d=>by cases d
def Gp.app(a:Gp lo bv h rs o xs es ver){b:Nat}{f:T}{v:List Int}(g:es[b]? =some f)(K:rs[b]? =some v){n:Int}{u:T}{s:H}(x:Xt h f 1 ((v++[n]).map (T.int .i64)) u s)(I:lo<=h.size)(C:Nat):
 Gp lo bv (dY s bv ⟨1,0,C,true,false,es.set b u⟩) (rs.set b (v++[n])) o xs (es.set b u) C/\s.get bv=some ⟨1,0,ver,true,false,es⟩:=by
 obtain⟨G,w,q,L⟩:=x;have E:=H.fa a.gb;have t:b<es.length:=(List.getElem?_eq_some_iff.1 g).1;have r:s.get bv=some ⟨1,0,ver,true,false,es⟩:=(w bv E λe=>(a.sep b f bv g e).2.1 rfl).trans a.gb;refine⟨⟨(dN r _ bv).trans (aq rfl),a.Pb,by simp[a.len],λl p F c j=>?_,λl p i c d=>?_,a.go.mono λi d=>?_,a.ob⟩,r⟩
 ·by_cases e:b=l
  ·subst e;rw[dq t]at c;rw[dq (by rw[<-a.len];exact t)]at j;cases c;cases j;refine G.mono λi d=>?_;rw[dN r,ao];rintro rfl;rcases q _ d with k|k
   ·exact(a.sep b f _ g k).2.1 rfl
   ·omega
  ·rw[dt e]at c;rw[dt e]at j;refine(a.gr l p F c j).mono λi d=>?_;have m:=a.sep l p i c d;rw[dN r,ao m.2.1];exact w i (a.lt c d) λk=>e (m.2.2.2 b f g k).symm
 ·by_cases e:b=l
  ·subst e;rw[dq t]at c;cases c;refine⟨?_,?_,?_,λl p c y=>?_⟩
   ·rcases q _ d with k|k
    ·exact(a.sep b f _ g k).1
    ·omega
   ·rcases q _ d with k|k
    ·exact(a.sep b f _ g k).2.1
    ·omega
   ·rcases q _ d with k|k
    ·exact(a.sep b f _ g k).2.2.1
    ·intro z;have:=a.olt z;omega
   ·by_cases e:b=l
    ·exact e
    ·rw[dt e]at c;rcases q _ d with k|k
     ·exact(a.sep b f _ g k).2.2.2 l p c y
     ·have:=a.lt c y;omega
  ·rw[dt e]at c;have m:=a.sep l p i c d;refine⟨m.1,m.2.1,m.2.2.1,λk D j A=>?_⟩;by_cases B:b=k
   ·subst B;rw[dq t]at j;cases j;rcases q _ A with z|z
    ·exact m.2.2.2 b f g z
    ·have:=a.lt c d;omega
   ·rw[dt B]at j;exact m.2.2.2 k D j A
 ·rw[dN r,ao (a.ob i d).2];exact w i (a.olt d) λk=>(a.sep b f i g k).2.2.1 d
def Gp.out(a:Gp lo bv h rs o xs es ver){j:T}{n:List T}{f:H}(t:Xt h o 7 n j f)(v:lo<=h.size):Gp lo bv f rs j n es ver:=by
 obtain⟨u,k,l,w⟩:=t;have p:=H.fa a.gb;refine⟨(k bv p λs=>(a.ob bv s).2 rfl).trans a.gb,a.Pb,a.len,λg e r d f=>(a.gr g e r d f).mono λc b=>k c (a.lt d b) (a.sep g e c d b).2.2.1,λg e c d b=>?_,u,λc b=>?_⟩
 ·have i:=a.sep g e c d b;refine⟨i.1,i.2.1,λq=>?_,i.2.2.2⟩;rcases l _ q with z|z
  ·exact i.2.2.1 z
  ·have:=a.lt d b;omega
 ·rcases l _ b with z|z
  ·exact a.ob c z
  ·exact⟨J,J⟩
end
section
attribute [-simp] size_cons
structure IPl where
 (L:List Int) (b:Nat) (s:ew) (w:dZ) (n:Nat) (early:Bool)
def Wa(a:IPl)(d:List T)(c:H):Prop:=d=[.ptr a.b 0 0 0,a.s.t,a.w.t,Z a.n,.bool a.early]/\v8 0 a.L a.b c/\hU 0 c/\okB a.L/\a.L.length<=400/\a.n<=16/\a.w.dH.length=4/\a.w.cells.length=5/\a.w.gJ.length<=1000/\mH a.w a.s=true/\rQ 1000 a.s/\1<=a.s.d8.length
def Qa(a:IPl)(g:List T)(e:H)(f:T)(d:H):Prop:=∃c:List ej,f=sl (c.map ej.t)/\c.length<=a.n/\Li c/\runs a.w a.s c=true/\v8 0 a.L a.b d/\Sm a.b e d
def agh(a:ej)(d:H)(c:Nat->Prop):FT d c 2 a.t a.t:=by
 have e:∀b:List Int,FT d c 1 (sl (b.map (T.int .i64))) (sl (b.map (T.int .i64))):=λb=>pQ _ _ _ λg f=>by obtain⟨h,_,rfl⟩:=List.mem_map.1 f;simp
 exact .inr (.inr ⟨a.cs,a.cs,rfl,.cons (fV ..) (.cons (fV ..) (.cons (fV ..) (.cons (fV ..) (.cons (fV ..) (.cons (e _) (.cons (e _) .nil)))))),rfl⟩)
def TO{a:H}(g:hU 0 a)(b c d:iX):(∀e,e<a.size->(dY ((a.cons b).cons c) (a.size+1) d).get e=a.get e)/\(dY ((a.cons b).cons c) (a.size+1) d).get a.size=some b/\(dY ((a.cons b).cons c) (a.size+1) d).get (a.size+1)=some d/\(dY ((a.cons b).cons c) (a.size+1) d).size=a.size+2:=by
 have f:=mr ((g.cons b).cons c).hp (show a.size+1<_ by simp[size_cons]);refine⟨λe h=>?_,?_,?_,by simp[size_cons]⟩
 ·rw[f,ao J,dT,ao (by rw[size_cons];omega),dT,ao J]
 ·rw[f,ao J,dT,ao (by rw[size_cons];omega),dT,aq rfl]
 ·rw[f,aq rfl]
def tM.two{h:Nat}{f:List Int}{b:Nat}{e a:H}(i:tM h f b e a)(k:b<e.size)(g d j:iX):tM h f b e (dY ((a.cons g).cons d) (a.size+1) j):=
 ((i.cons g).cons d).put (c:=a.size+1) (x:=d) (by rw[dT,aq (by rw[size_cons])]) (by have:=i.w.size;omega) k j
def PlC(a:ew):Prop:=a.cells.length=5/\1<=a.d8.length/\a.fj.dH.length<=98/\a.count.length=4
def PlJ(h:Nat)(d:List Int)(e:Nat)(a:H)(n:dZ)(k:ew)(i:Nat)(g:T)(o:List T)(b:H):Prop:=∃c f m l,tM h d e (TI.hr a) b/\b.get a.size=some (dE 7 l [k.t])/\b.get (a.size+1)=some (dE 6 0 [n.t])/\Gp (a.size+2) (a.size+2) b c g o f m/\a.size+3<=b.size/\c.length=4/\∀j∈c,j.length<=i
def afw:(jI IPl Wa Qa).Ok prog cx 37:=by
 refine rH (tb:=⟨pt [(80,mD)],ht [(77,kI),(79,jI IEv PW GI)]⟩) iL iB (iQ 155347004713968546154151135 [(14,[(2,15)])] func37) (λ_ _=>1000) (λi a e fo=>by obtain⟨rfl,_⟩:=fo;simp[f37]) ?_;rintro⟨W,b,q,h,n,early⟩ _ e ⟨rfl,eB,eU,ea,fb,fl,er,eN,fA,cy,eM,ff⟩ r bT;simp only at eB ea fb fl er eN fA cy eM ff;simp at bT;obtain⟨B,ap,bs,C,X⟩:=bT;have av:=eB.tp.lt;have gn:(b=e.size)=False:=dz;have gv:(b=e.size+1)=False:=dz;simp[f37,ap,bs,er];have c7:q.count.length=4:=by
  unfold mH at cy;simp only[ax,aI]at cy;rw[cy.2,er]
 generalize bS:(((TI.hr e).cons _).cons _).cons _=bN;have gB:bN.size=e.size+3:=by rw[<-bS];rfl
 have eF:tM 0 W b (TI.hr e) bN:=by rw[<-bS];exact(((tM.refl eU.hr (eB.eq (gU e b))).cons _).cons _).cons _
 have U:bN.get e.size=some (dE 7 0 [q.t]):=by rw[<-bS];simp
 have an:bN.get (e.size+1)=some (dE 6 0 [h.t]):=by rw[<-bS];simp
 have eE:Gp (e.size+2) (e.size+2) bN [[],[],[],[]] dD [] [dD,dD,dD,dD] 0:=by
  rw[<-bS];refine⟨dy,au _,rfl,λi u gw ap bs=>?_,λi u c ap bs=>?_,Gr.nil _ _,dy⟩
  ·rcases i with _|_|_|_|i<;>simp at ap bs<;>subst ap bs<;>exact Gr.nil _ _
  ·rcases i with _|_|_|_|i<;>simp at ap<;>subst ap<;>simp at bs
 clear bS;have c4:PlJ 0 W b e h q 0 dD [] bN:=⟨_,_,_,_,eF,U,an,eE,J,rfl,dy⟩;refine fk 4 J (λj r y=>PlJ 0 W b e h q j dD [] y/\dF r 0 (.ptr b 0 0 0)/\dF r 3 (Z n)/\dF r 4 (.bool early)/\dF r 6 (.ptr e.size 0 0 0)/\dF r 7 (.ptr (e.size+1) 0 0 0)/\dF r 11 dD/\dF r 12 (.arr (e.size+2) 0 0 4 false)/\dF r 22 (Z 4)/\dF r 23 (Z j)) ?_ ?_ J ⟨c4,by simp[B,C,X]⟩
 ·rintro j r y fi c6 ⟨⟨v,s,D,T,ae,U,an,Y,aX,Q,H⟩,B,C,X,E,G,F,K,bu,bB⟩;have c9:j<q.count.length:=J;have ec:(j:Int)<4:=J;have gd:(b=e.size+2)=False:=dz;have eD:PlJ 0 W b e h q (j+1) dD [] y:=⟨v,s,D,T,ae,U,an,Y,aX,Q,λO hr=>Nat.le_succ_of_le (H O hr)⟩;cases early with
  |false=>
   simp[B,C,X,E,G,F,K,bu,bB,ec,c6,eD]
  |true=>
  by_cases eH:1<q.count[j]
  ·obtain⟨m,eV,ds,gj,a6,dd⟩:=ae.next (tb:=⟨pt [(80,mD)],ht [(77,kI),(79,jI IEv PW GI)]⟩) dy ea 3 J J;simp[U,B,X,E,bu,bB,ec,c9,eH,ds];have M:Gp (e.size+2) (e.size+2) eV v dD [] s D:=Y.kU λc o _=>dd.get c J;have a7:=(dd.get e.size J).trans U;have a8:=(dd.get (e.size+1) J).trans an;have bC:=dd.size;refine ee (λbX=>?_) (λbX=>?_)
   ·have P:j<s.length:=by rw[M.len];omega
    have S:j<v.length:=J;obtain⟨c1,aN,cb,ey,eA,L⟩:=(Xt.refl (M.gr j s[j] v[j] (az P) (az S)) a6.w.ok).Vj 1 (by have:=H v[j] (aD S);omega);obtain⟨I,bn⟩:=M.app (az P) (az S) L J (D+1);have c7:=(M.gr j s[j] v[j] (az P) (az S)).cells;have b7:∀c,dS s[j]=some c->e.size+2<=c:=λc o=>(M.sep j s[j] c (az P) o).1;have dm:=((a6.le (aw _)).xt L (λc aA=>by have:=b7 c aA;simp;omega) (by simpa using av)).put bn dy (by simpa using av) ⟨1,0,D+1,true,false,s.set j c1⟩;have A:∀c,c<e.size+2->(dY aN (e.size+2) ⟨1,0,D+1,true,false,s.set j c1⟩).get c=eV.get c:=λc aA=>by
     rw[dN bn,ao J];exact L.2.1 c J λo=>by have:=b7 c o;omega
    have dk:=L.2.2.2.sz;simp[M.gb,B,C,X,E,G,F,K,bu,bB,fi,P,c6,c7,cb,ey,eA,bn,(M.gr j s[j] v[j] (az P) (az S)).mK];exact⟨_,_,_,T,dm,(A _ J).trans a7,(A _ J).trans a8,I,dz,by simp[Q],λO hr=>by
     rcases cA hr with k|rfl
     ·exact Nat.le_succ_of_le (H O k)
     ·have:=H v[j] (aD S);simp;omega⟩
   ·simp[B,C,X,E,G,F,K,bu,bB,c6];exact⟨v,s,D,T,a6.le (aw _),a7,a8,M,J,Q,λO hr=>Nat.le_succ_of_le (H O hr)⟩
  ·simp[U,B,C,X,E,G,F,K,bu,bB,ec,c9,c6,eH,eD]
 clear c4 eE U an eF B ap bs C X;have eI:=cy;unfold mH lA at eI;simp only[ax,aI]at eI;rintro r y ⟨c4,B,C,X,E,G,F,K,bu,bB⟩;simp[bu,bB];refine S7 401 (λj r y=>(∃R l,PlJ j W b e h (pJ h q l) (j+4) R (l.map ej.t) y/\runs h q l=true/\l.length<=n/\Li l/\rQ (1000+j) (pJ h q l)/\PlC (pJ h q l)/\dF r 11 R)/\dF r 0 (.ptr b 0 0 0)/\dF r 3 (Z n)/\dF r 6 (.ptr e.size 0 0 0)/\dF r 7 (.ptr (e.size+1) 0 0 0)/\dF r 12 (.arr (e.size+2) 0 0 4 false)) ?_ J (aw _) ⟨⟨dD,[],c4,rfl,aw _,λu fe=>by simp at fe,eM,?_,by simp[F]⟩,by simp[B,C,E,G,K]⟩
 ·rintro j r y gg ⟨⟨R,l,⟨v,s,D,T,ae,U,an,Y,aX,Q,H⟩,ef,eL,eb,eh,b6,F⟩,B,C,E,G,K⟩;obtain⟨gz,gy,e7,gk⟩:=ae.g;simp[B,C,F,Y.go.len,e7];refine ee (λbX=>?_) (λbX=>?_)
  ·simp at bX;have gi:j<W.length:=J;simp[B,E,G,K,U,an];refine iy afy dy ⟨W,b,j,pJ h q l,h,.arr (e.size+2) 0 0 4 false,v⟩ ⟨rfl,ae.g,ae.w.ok,ea,by have:=Y.rda (b:=b) J;rw[Q]at this;exact this,Q,λO hr=>by have:=H O hr;omega,b6.1,b6.2.1,b6.2.2.1,eN⟩ ?_;rintro _ V ⟨u,rfl,e6,ds,t1,b8⟩;simp only at e6 ds t1 b8;have a6:=ae.call b8 t1;have M:Gp (e.size+2) (e.size+2) V v R (l.map ej.t) s D:=Y.kU λc o _=>b8.get c J;have a7:=(b8.get e.size J).trans U;have a8:=(b8.get (e.size+1) J).trans an;have bC:=b8.size;have cp:=λ{tb:fy} (ht:tb.p 80=some mD)=>As ht h (pJ h q l) u J (eh.up J) J J;have eP:(e.size=V.size)=False:=dz;have eR:(e.size+1=V.size)=False:=dz;have eO:=a6.w.ok.low;have dn:=λcL=>a6.two (by simpa using av) (dE 7 1 [u.t]) (dE 7 0 [.agg [dD,Z 0,dD,dD,dD,dD,dD]]) (dE 7 1 [cL]);have N:=λcL=>TO a6.w.ok (dE 7 1 [u.t]) (dE 7 0 [.agg [dD,Z 0,dD,dD,dD,dD,dD]]) (dE 7 1 [cL]);cases o:qH h (pJ h q l) u with
   |false=>
    rw[lK o]at cp;simp[B,C,E,G,F,K,a7,a8,eP,eR,eO,cp];obtain⟨A,aE,b9,dk⟩:=N tP.t;exact⟨J,R,l,⟨v,s,D,T,dn _,(A _ J).trans a7,(A _ J).trans a8,M.kU λc _ o=>A c o,by rw[dk];omega,Q,λO hr=>by have:=H O hr;omega⟩,ef,eL,eb,eh.up J,b6,rfl⟩
   |true=>
    have eo:jW h (pJ h q l) u=(kh h (pJ h q l) u,true):=by unfold jW;rw[aq o]
    rw[eo]at cp;simp[E,G,a7,a8,eP,eR,eO,cp];have al:=dn (kh h (pJ h q l) u).t;obtain⟨A,aE,b9,di⟩:=N (kh h (pJ h q l) u).t;have bi:=(A e.size J).trans a7;have bH:=(A (e.size+1) J).trans a8;have I:Gp (e.size+2) (e.size+2) _ v R (l.map ej.t) s D:=M.kU λc _ o=>A c o;clear cp dn N A;generalize dY _ _ _=aN at*
    simp[aE];have eX:PlJ (j+1) W b e h (pJ h q l) (j+4) R (l.map ej.t) aN:=⟨v,s,D,T,al,bi,bH,I,J,Q,H⟩;refine kQ (λr de=>(PlJ (j+1) W b e h (pJ h q l) (j+1+4) R (l.map ej.t) de/\V.size+2<=de.size/\de.get V.size=some (dE 7 1 [u.t])/\de.get (V.size+1)=some (dE 7 1 [(kh h (pJ h q l) u).t]))/\dF r 0 (.ptr b 0 0 0)/\dF r 3 (Z n)/\dF r 6 (.ptr e.size 0 0 0)/\dF r 7 (.ptr (e.size+1) 0 0 0)/\dF r 11 R/\dF r 12 (.arr (e.size+2) 0 0 4 false)/\dF r 14 (.ptr V.size 0 0 0)/\dF r 15 (.ptr (V.size+1) 0 0 0)) (λbX=>?_) (λbX=>?_) ?_
    ·obtain⟨z,fv,fs⟩:∃z:Nat,z<4/\ks u.dP=some z:=by
      have:=eQ.1 (pX o).2.1;exact⟨u.dP.toNat,J,em this.1⟩
     have P:z<s.length:=by rw[I.len];omega
     have S:z<v.length:=J;have c9:z<(pJ h q l).count.length:=by have:=b6.2.2.2;omega
     have dv:=I.gr z s[z] v[z] (az P) (az S);obtain⟨c1,eC,cb,ey,eA,L⟩:=(Xt.refl dv al.w.ok).Vj (pJ h q l).count[z] (by have:=H v[z] (aD S);omega);obtain⟨e0,bn⟩:=I.app (az P) (az S) L J (D+1);have c7:=dv.cells;have b7:∀c,dS s[z]=some c->e.size+2<=c:=λc o=>(I.sep z s[z] c (az P) o).1;have dm:=(al.xt L (λc aA=>by have:=b7 c aA;simp;omega) (by simpa using av)).put bn dy (by simpa using av) ⟨1,0,D+1,true,false,s.set z c1⟩;have dk:=L.2.2.2.sz;have et:=λc (k:dS s[z]=some c)=>M.lt (az P) k;have eS:∀c,c<aN.size->(∀k,dS s[z]=some k->k≠c)->eC.get c=aN.get c:=λc aX bC=>L.2.1 c aX λk=>bC c k rfl;have A:∀c,c<aN.size->c≠e.size+2->(∀k,dS s[z]=some k->k≠c)->(dY eC (e.size+2) ⟨1,0,D+1,true,false,s.set z c1⟩).get c=aN.get c:=λc aX di bC=>by
      rw[dN bn,ao di];exact eS c aX bC
     have sv:fh (aN.cons (dE 1 0 [Z (pJ h q l).count[z]])) eC V.size=true:=fD ((eS _ J λk o=>by have:=et k o;omega).trans (by rw[dT,ao J]));simp[I.gb,B,C,E,G,F,K,aE,bi,fs,fv,P,c9,c7,cb,ey,eA,bn,dv.mK,sv];refine⟨⟨_,_,_,T,dm,(A _ J J λk o=>by have:=b7 k o;omega).trans bi,(A _ J J λk o=>by have:=b7 k o;omega).trans bH,e0,dz,by simp[Q],λO hr=>?_⟩,J,(A _ J J λk o=>by have:=et k o;omega).trans aE,(A _ J J λk o=>by have:=et k o;omega).trans b9⟩;rcases cA hr with k|rfl
     ·have:=H O k;omega
     ·have:=H v[z] (aD S);simp;omega
    ·simp[B,C,E,G,F,K];exact⟨⟨v,s,D,T,al,bi,bH,I,J,Q,λO hr=>by have:=H O hr;omega⟩,J,aE,b9⟩
    ·have fS:∀c,dS R=some c->c<V.size:=λc=>M.olt;clear eX al bi bH I aE b9 di B C E G F K;rintro r eW ⟨⟨⟨v,s,D,T,al,bi,bH,I,di,Q,H⟩,gD,aE,b9⟩,B,C,E,G,F,K,e8,e9⟩;obtain⟨fL,fY,cb,L⟩:=I.go.lP (cx:=cx) (f:=ej.t) al.w.ok RV rfl RQ rfl dy (λ_=>rfl) u dz;have eu:∀c,dS R=some c->e.size+2<=c:=λc k=>(I.ob c k).1;have A:∀c,c<eW.size->(∀k,dS R=some k->k≠c)->fY.get c=eW.get c:=λc aX bC=>L.2.1 c aX λk=>bC c k rfl;have t6:=(A _ J λk o=>by have:=fS k o;omega).trans b9;have ca:=(A e.size J λk o=>by have:=eu k o;omega).trans bi;have e4:=I.out L J;have e5:=(al.xt L (λc aA=>by have:=eu c aA;simp;omega) (by simpa using av)).put ca dy (by simpa using av) (dE 7 (T+1) [(kh h (pJ h q l) u).t]);have bT:pJ h q (l++[u])=kh h (pJ h q l) u:=by
      show xa _ _ _=_;rw[JP];show(jW h (pJ h q l) u).1=_;rw[eo]
     have dk:=L.2.2.2.sz;simp[B,C,E,G,F,K,e8,e9,aE,cb,t6,ca];refine⟨J,fL,l++[u],⟨v,s,D,T+1,e5,?_,?_,e4.kU λc o _=>?_,dz,Q,H⟩,?_,?_,?_,?_,?_,rfl⟩
     ·rw[bT,dN ca,aq rfl]
     ·rw[dN ca,ao J];exact(A (e.size+1) J λk o=>by have:=eu k o;omega).trans bH
     ·rw[dN ca,ao J]
     ·rw[CS,ef];simp[runs,rD,o]
     ·simp;omega
     ·intro x hx;rcases List.mem_append.1 hx with hx|hx
      ·exact eb x hx
      ·simp at hx;subst hx;omega
     ·have:=eh.step h u;rw[eo]at this;rw[bT];exact this
     ·have:=vH h (pJ h q l).fj u.dP u.kind u.obj (lH u);obtain⟨fB,fC,gm,fE⟩:=b6;rw[bT];exact⟨by unfold kh;simp only;split<;>simp[fB],by unfold kh;simp only;split<;>simp[fC],by show(fg ..).1.dH.length<=_;omega,by unfold kh;simp[fE]⟩
  ·simp[F];exact(ae.le (aw _)).cut eU av (Y.go.abq (d:=2) J (λc aA=>by have:=(Y.ob c aA).1;omega) agh) λcL fX=>⟨l,rfl,eL,eb,ef,fX,cL⟩
 ·exact(⟨J,J,J,J⟩:PlC q)
end
def Md:oa prog cx 94 (λa:dR×Int×Int=>[a.1.t,Z a.2.1,Z a.2.2]) (λa=>a.1.dJ.length<=1000000) (λa v=>∃p:Int,v= Z p/\p<a.1.dJ.length):=by
 refine jk [] (iQ 20975823 [] func94) (λa=>a.1.dJ.length+5) (λa b c=>by simp at c;exact aC (dR.inj c.1) (aC c.2.1 c.2.2)) ?_;rintro⟨q,w,u⟩ hl d m;simp at hl m;obtain⟨r,e,f⟩:=m;simp[f94,r];refine fk q.dJ.length J (λo d c=>∃l,hU 1 c/\c.get 0=some (dE 15 0 [q.t])/\dF d 1 (Z w)/\dF d 2 (Z l)/\dF d 3 (.ptr 0 0 0 0)/\dF d 7 (Z o)) ?_ ?_ J ⟨u,⟨dy,dy,dy⟩,by simp[e,f]⟩
 ·rintro o d c s n ⟨l,h,i,e,f,j,g⟩;have x:=h.ne (b:=0) J;simp[i,e,j,g,s];refine ee (λk=>?_) (λk=>?_)
  ·simp[f];refine ee (λk=>?_) (λk=>?_)
   ·simp[g,h.hp];omega
   ·simp[i,e,f,j,g,n,qX,h]
  ·simp[i,e,f,j,g,n,h]
 ·rintro d c ⟨l,h,i,e,f,j,g⟩;simp[i,j,g,h.hp];omega
def Dm:oa prog cx 83 (λa:dR=>[a.t]) (λa=>a.jG.count.length<=1000000/\a.dJ.length<=1000000) (λ_=>F1):=by
 refine jk [] (iQ 268436511 [] func83) (λa=>a.jG.count.length+5) (λo p b=>by simp at b;exact dR.inj b) ?_;rintro a ⟨hl,q⟩ c j;simp at j;simp[f83,j];refine fk a.jG.count.length J (λl c b=>∃i,hU 1 b/\b.get 0=some (dE 15 0 [a.t])/\dF c 1 (.ptr 0 0 0 0)/\dF c 3 (Z i)/\dF c 4 (Z l)) ?_ ?_ J ⟨0,⟨dy,dy,dy⟩,dy⟩
 ·rintro l c b k m ⟨i,g,d,e,h,f⟩;simp[d,e,f,k];refine ee (λn=>?_) (λn=>?_)
  ·simp[g.hp]
  ·simp[d,e,h,f,k,m,oN,g]
 ·rintro c b ⟨i,g,d,e,h,f⟩;simp[d,e,h,f,oN,g.hp]
def J7(b:dR)(a:dM):Prop:=AD a=true->iP a.cond b.ez.gJ.length=true
def zI:oa prog cx 84 (λa:dR=>[a.t]) (λa=>a.jG.fj.dH.length<=1000000/\a.jG.fj.dH.length=a.jG.count.length) (λa=>Or (∀m∈a.jG.fj.dH,J7 a m)):=by
 refine jk [(131,FA)] (iQ 162259279247065002620836359716991 [] func84) (λa=>a.jG.fj.dH.length+5) (λu b d=>by simp at d;exact dR.inj d) ?_;rintro a ⟨hl,v⟩ g o;simp at o;simp[f84,o];refine fk a.jG.fj.dH.length J (λc g d=>hU 1 d/\d.get 0=some (dE 15 0 [a.t])/\dF g 1 (.ptr 0 0 0 0)/\dF g 3 (sl (a.jG.fj.dH.map dM.t))/\dF g 4 (Z c)/\∀m∈a.jG.fj.dH.take c,J7 a m) ?_ ?_ J ⟨⟨dy,dy,dy⟩,dy⟩
 ·rintro c g d n q ⟨f,j,k,h,i,l⟩;have r:a.jG.fj.dH.take (c+1)=a.jG.fj.dH.take c++[a.jG.fj.dH[c]]:=aR n;have w:=f.ne (b:=0) J;simp[j,k,h,i,n,show c<a.jG.count.length by omega];refine ee (λe=>?_) (λe=>?_)
  ·simp[f.hp]
  clear e;simp[j,k,h,i,n,Sx];refine ee (λe=>?_) (λe=>?_)
  ·simp[f.hp]
  simp[j,k,h,i,q,f];generalize a.jG.fj.dH[c]=m at*
  rw[r];intro s hu;rcases List.mem_append.1 hu with hu|hu
  ·exact l s hu
  rw[List.mem_singleton.1 hu];intro p;unfold AD at p;rw[p]at e;simpa using e
 ·rintro g d ⟨f,j,k,h,i,l⟩;rw[aK]at l;simp[h,i,f.hp];exact l
def AU:oa prog cx 86 (λa:dR×Int×List Int=>[a.1.t,Z a.2.1,sl (a.2.2.map (T.int .i64))]) (λa=>a.1.dJ.length<=1000000/\iP a.2.1 a.1.jG.count.length=true/\a.2.2.length<=1000000) (λ_=>F1):=by
 refine jk [(94,Md.jA)] (iQ 576460752336982479 [] func86) (λa=>a.2.2.length+5) (λa b c=>by simp at c;exact aC (dR.inj c.1) (aC c.2.1 (jz (λ_ _ c=>by simpa using c) c.2.2))) ?_;rintro⟨u,y,s⟩ ⟨hl,p,B⟩ h w;simp only at hl p B;simp at w;obtain⟨A,e,d⟩:=w;have⟨z,n,_⟩:=iD p;have ht:=em (eQ.1 p).1;simp[f86,A];refine fk s.length J (λr h c=>hU 1 c/\c.get 0=some (dE 15 0 [u.t])/\dF h 1 (Z y)/\dF h 2 (sl (s.map (T.int .i64)))/\dF h 3 (.ptr 0 0 0 0)/\dF h 7 (Z r)) ?_ ?_ J ⟨⟨dy,dy,dy⟩,by simp[e,d]⟩
 ·rintro r h c q x ⟨g,i,e,d,j,f⟩;have G:=g.ne (b:=0) J;obtain⟨_,⟨k,rfl,C⟩,m⟩:=Md.use (u,y,IntKind.i64.wrap (s[r]-z)) hl;simp only at m C;simp[i,e,d,j,f,q,ht,n];refine ee (λo=>?_) (λo=>?_)
  ·simp[i,e,d,j,f,x,g]
  have D:decide (k<0)=true\/decide (k<0)=false/\ks k=some k.toNat/\∃v,u.dJ[k.toNat]? =some v:=by
   by_cases l:k<0
   ·exact .inl (aY l)
   ·exact .inr ⟨aM l,em J,_,az J⟩
  rcases D with l|⟨l,E,v,F⟩
  ·simp[i,e,d,j,f,q,ht,n,qX,m,g.hp,l]
  ·simp[i,e,d,j,f,q,ht,n,qX,m,l,E,F];refine ee (λo=>?_) (λo=>?_)
   ·simp[g.hp]
   ·simp[i,e,d,j,f,x,g]
 ·rintro h c ⟨g,i,e,d,j,f⟩;simp[d,f,g.hp]
structure agA(w:dR):Prop where
 l1:w.jG.fj.ei.length<=1000000
 l2:w.jG.fj.dH.length<=1000000
 l3:∀l∈w.jG.fj.ei,l.eJ.length<=1000000
 e:w.jG.fj.ei.length=w.ez.ei.length
 t:∀t∈w.jG.fj.dH,J7 w t
 m:∀c∈w.ez.gJ,iP c.kJ w.jG.fj.ei.length=true
def BH:oa prog cx 85 (λc:dR=>[c.t]) agA (λ_=>F1):=by
 refine jk [(132,wC)] (iQ 5575186465791384471966860632566831987622399 [] func85) (λc=>1000005) (λa b g=>by simp at g;exact dR.inj g) ?_;rintro c s f P;simp at P;simp[f85,P];refine fk c.jG.fj.ei.length (by have:=s.l1;omega) (λj f g=>hU 2 g/\g.get 0=some (dE 15 0 [c.t])/\g.get 1=some (dE 4 1 [c.jG.fj.t])/\dF f 1 (.ptr 0 0 0 0)/\dF f 3 (.ptr 1 0 0 0)/\dF f 4 (Z j)) ?_ ?_ (by have:=s.l1;omega) ⟨⟨dy,dy,dy⟩,dy⟩
 ·rintro j f g E H ⟨h,p,l,d,i,r⟩;have w:=h.ne (b:=0) J;have F:=h.ne (b:=1) J;have Y:=s.l3 _ (aD E);have T:j<c.ez.ei.length:=by have:=s.e;omega
  simp[p,l,d,i,r,E,w,h.low,w7,T];have V:hU 2 (g.cons (dE 2 1 [c.jG.fj.ei[j].t])):=h.cons _;have ae:2<=g.size:=h.sz;generalize c.jG.fj.ei[j]=o at*
  refine ee (λk=>?_) (λk=>?_)
  ·simp[h.hp]
  clear k;simp;refine fk o.eJ.length J (λq f v=>hU 2 v/\g.size<v.size/\v.get 0=some (dE 15 0 [c.t])/\v.get 1=some (dE 4 1 [c.jG.fj.t])/\v.get g.size=some (dE 2 1 [o.t])/\dF f 1 (.ptr 0 0 0 0)/\dF f 3 (.ptr 1 0 0 0)/\dF f 4 (Z j)/\dF f 5 (.ptr g.size 0 0 0)/\dF f 6 (Z q)) ?_ ?_ J ⟨V,dy,by simp[p,l,d,i,r,w,F]⟩
  ·rintro q f v S Q ⟨C,L,x,G,y,d,i,r,z,A⟩;have U:=kx (a:=q) (b:=1) J J;have I:decide (0<q)=false/\True/\(∃D:Int,D=D)\/decide (0<q)=true/\ks ((q:Int)-1)=some (q-1)/\∃D,o.eJ[q-1]? =some D:=by
    by_cases u:0<q
    ·refine .inr ⟨aY u,?_,_,az J⟩;rw[show(q:Int)-1=((q-1:Nat):Int)by omega];exact em J
    ·exact .inl ⟨aM u,trivial,0,rfl⟩
   rcases I with⟨u,_,D,K⟩|⟨u,N,D,K⟩
   ·simp[x,y,d,z,A,S,w7,u];refine ee (λk=>?_) (λk=>?_)
    ·simp[C.hp]
    ·simp[x,G,y,d,i,r,z,A,Q,C,L]
   ·simp[x,y,d,z,A,S,w7,u,N,K,U];refine ee (λk=>?_) (λk=>?_)
    ·simp[C.hp]
    ·simp[x,G,y,d,i,r,z,A,Q,C,L]
  ·rintro f v ⟨C,L,x,G,y,d,i,r,z,A⟩;simp[x,G,y,d,i,r,z,A,H,C]
 ·rintro f g ⟨h,p,l,d,i,r⟩;simp[p,l,d,i,r,w7];refine ee (λk=>?_) (λk=>?_)
  ·simp[h.hp]
  clear k;simp;refine fk c.jG.fj.dH.length (by have:=s.l2;omega) (λj f g=>hU 2 g/\g.get 0=some (dE 15 0 [c.t])/\g.get 1=some (dE 4 1 [c.jG.fj.t])/\dF f 1 (.ptr 0 0 0 0)/\dF f 3 (.ptr 1 0 0 0)/\dF f 7 (Z j)) ?_ ?_ (by have:=s.l2;omega) ⟨h,by simp[p,l,d,i]⟩
  ·rintro j f g E H ⟨h,p,l,d,i,B⟩;have w:=h.ne (b:=0) J;have F:=h.ne (b:=1) J;have ht:=s.t _ (aD E);simp[p,l,d,i,B,E,w,h.low,w7];refine ee (λk=>?_) (λk=>?_)
   ·simp[h.hp]
   clear k;have I:AD c.jG.fj.dH[j]=false/\True/\True/\(∃n:jb,n=n/\∃o:dU,o=o)\/AD c.jG.fj.dH[j]=true/\ks c.jG.fj.dH[j].cond=some c.jG.fj.dH[j].cond.toNat/\True/\(∃n,c.ez.gJ[c.jG.fj.dH[j].cond.toNat]? =some n/\ks n.kJ=some n.kJ.toNat/\∃o,c.jG.fj.ei[n.kJ.toNat]? =some o):=by
    cases u:AD c.jG.fj.dH[j]
    ·exact .inl ⟨rfl,trivial,trivial,default,rfl,default,rfl⟩
    ·have d:=ht u;have⟨n,R,_⟩:=iD d;have O:=s.m n (ay R);have⟨o,hl,_⟩:=iD O;exact .inr ⟨rfl,em (eQ.1 d).1,trivial,n,R,em (eQ.1 O).1,o,hl⟩
   unfold AD at I;rcases I with⟨M,_,_,n,_,o,_⟩|⟨M,N,_,n,K,W,o,X⟩
   ·simp[p,l,d,i,B,w,F,M,H,h.cons]
   ·simp[p,l,d,i,B,w,F,M,N,K,W,X];refine ee (λk=>?_) (λk=>?_)
    ·simp[h.hp]
    ·simp[p,l,d,i,B,w,F,H,h.cons]
  ·rintro f g ⟨h,p,l,d,i,B⟩;simp[l,i,B,h.hp]
structure adQ(w:dR):Prop where
 c:w.jG.count.length<=1000
 ev:w.dJ.length<=1000000
 l:w.jG.fj.ei.length<=1000
 t:w.jG.fj.dH.length<=1000
 d:w.jG.fj.done.length<=1000
 f:w.jG.d8.length<=1000
 r:∀l∈w.jG.fj.ei,l.eJ.length<=1000
 sm:rQ 1000 w.jG
 wb:ka w.ez=true
 es:Li w.dJ
def FF:oa prog cx 38 (λd:dR=>[d.t]) (λd=>adQ d/\mH d.ez d.jG=true/\d.dJ.length<=16) (λ_=>F1):=by
 refine jk [(81,yr),(82,xr),(83,Dm.jA),(84,zI.jA),(85,BH.jA),(80,mD),(86,AU.jA)] (iQ 324518553667945246868126660821503 [] func38) (λd=>1000005) (λa b g=>by simp at g;exact dR.inj g) ?_;rintro d ⟨i,P,cb⟩ k N;simp at N;have Q:=P;unfold mH at Q;simp only[ax,aI]at Q;obtain⟨⟨⟨bB,_⟩,ca⟩,bu⟩:=Q;have H:=bB;unfold lA at H;simp only[ax,aI]at H;have⟨cp,cy,cL,c1,c4,c6⟩:=lx i.wb;have bC:∀n∈d.ez.gJ,iP n.kJ d.jG.fj.ei.length=true:=λn bn=>by
  rw[H.1.1.2];exact List.all_eq_true.1 H.1.1.1 n bn
 have ae:d.ez.gJ.length<=1099511627776:=J;have ap:ka d.ez=true:=i.wb;obtain⟨_,⟨b6,rfl⟩,X⟩:=Dm.use d ⟨by have:=i.c;omega,i.ev⟩;obtain⟨_,⟨aN,rfl,bi⟩,Y⟩:=zI.use d ⟨by have:=i.t;omega,J⟩;cases aN with
 |false=>simp[f38,N,Ap,HO,ap,P,X,Y,ae]
 |true=>
 obtain⟨_,⟨b7,rfl⟩,aX⟩:=BH.use d ⟨by have:=i.l;omega,by have:=i.t;omega,λl s=>by have:=i.r l s;omega,J,bi rfl,bC⟩;simp[f38,N,Ap,HO,ap,P,X,Y,aX,ae];refine ee (λu=>?_) (λu=>?_)
 ·simp
 clear u;simp;refine fk d.jG.d8.length (by have:=i.f;omega) (λe k g=>hU 1 g/\g.get 0=some (dE 15 0 [d.t])/\dF k 1 (.ptr 0 0 0 0)/\dF k 3 (Z e)) ?_ ?_ (by have:=i.f;omega) ⟨⟨dy,dy,dy⟩,dy⟩
 ·rintro e k g B O ⟨o,v,j,E⟩;have bs:e<d.jG.fj.done.length:=J;simp[v,j,E,B,bs];refine ee (λu=>?_) (λu=>?_)
  ·simp[o.hp]
  ·simp[v,j,E,O,o]
 rintro k g ⟨o,v,j,E⟩;have bN:=o.ne (b:=0) J;simp[v,j,E,o.low];have⟨K,b8⟩:∃K,g.size=K:=⟨_,rfl⟩;have b9:1<=K:=by have:=o.sz;omega
 refine fk d.dJ.length J (λe k h=>∃I m,rQ (1000+e) m/\hU 1 h/\g.size<h.size/\h.get 0=some (dE 15 0 [d.t])/\h.get g.size=some (dE 7 I [m.t])/\dF k 1 (.ptr 0 0 0 0)/\dF k 4 (.ptr g.size 0 0 0)/\dF k 5 (Z e)) ?_ ?_ J ⟨1,d.jG,i.sm,o.cons _,dy,by simp[v,j,bN]⟩
 ·rintro e k h B O ⟨I,m,U,q,bH,w,D,j,F,y⟩;have av:=q.ne (b:=0) J;have aA:(g.size=h.size)=False:=dz;have G:=i.es d.dJ[e] (aD B);have x:=λ{bX:fy} (ht:bX.p 80=some mD)=>As ht d.ez m d.dJ[e] J (U.up J) G.1 G.2;have S:hU 1 ((h.cons (dE 7 1 [d.dJ[e].t])).cons (dE 7 0 [T.agg [T.dK [] false,T.int .i64 0,T.dK [] false,T.dK [] false,T.dK [] false,T.dK [] false,T.dK [] false]])):=(q.cons _).cons _;have C:=mr S.hp (show h.size+1<_ by simp);cases s:qH d.ez m d.dJ[e]with
  |false=>
   rw[lK s]at x;simp[w,D,j,F,y,B,av,aA,q.low,x,q.hp]
  |true=>
   have al:jW d.ez m d.dJ[e]=(kh d.ez m d.dJ[e],true):=by unfold jW;rw[aq s]
   have bT:rQ (1000+(e+1)) (kh d.ez m d.dJ[e]):=by have:=U.step d.ez d.dJ[e];rw[al]at this;exact this
   rw[al]at x;have an:iP d.dJ[e].dP d.jG.count.length=true:=by
    unfold qH at s;simp only[ax]at s;rw[bu];exact s.1.1.1.1.1.1.1.1.2
   obtain⟨_,⟨r1,rfl⟩,L⟩:=AU.use (d,d.dJ[e].dP,d.dJ[e].mt) ⟨dA,an,G.1⟩;obtain⟨_,⟨r2,rfl⟩,M⟩:=AU.use (d,d.dJ[e].dP,d.dJ[e].uN) ⟨dA,an,G.2⟩;simp only at L M;simp[w,D,j,F,y,B,av,aA,q.low,x,L,M,C];generalize A:dY _ (h.size+1) _=z;have R:hU 1 z:=by rw[<-A];exact S.put _ _
   have c7:z.size=h.size+1+1:=by rw[<-A];simp
   have V:∀n,n≠h.size+1->n≠h.size->z.get n=h.get n:=λn aE bS=>by rw[<-A,C,ao aE];simp[aE,bS]
   have a6:=(V 0 J J).trans w;have a7:=(V g.size J J).trans D;have a8:z.get (h.size+1)=some (dE 7 1 [(kh d.ez m d.dJ[e]).t]):=by rw[<-A,C,aq rfl]
   clear A C S x L M;refine ee (λu=>?_) (λu=>?_)
   ·simp[R.hp]
   ·simp[a7,a8,j,F,y,O];have W:=mr R.hp (show g.size<z.size by omega);exact⟨I+1,_,bT,R.put _ _,J,(W _ 0).trans ((ao J).trans a6),(W _ g.size).trans (aq rfl)⟩
 ·rintro k h ⟨I,m,U,q,bH,w,D,j,F,y⟩;simp[w,j,y,q.hp]
