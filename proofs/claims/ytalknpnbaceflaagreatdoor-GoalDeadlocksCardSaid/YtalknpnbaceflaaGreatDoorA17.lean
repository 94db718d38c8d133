/- X07 -/
import Derived.Test.YtalknpnbaceflaaGreatDoorA16
import Derived.Test.YtalknpnbaceflaaGreatDoorA13
set_option linter.all false
set_option maxRecDepth 100000
set_option maxHeartbeats 0
namespace Go.Proofs.YtalknpnbaceflaaGreatDoor
noncomputable section
open Go Go.TI Tryz
attribute [-simp] List.map_take List.map_drop List.map_append ij gG fK Bool.not_or Bool.not_and
attribute [simp] ig gJ
def RO(b c:H)(f:Nat)(e:List (T×aa (Nat×List T))):Prop:=∃d g,oJ c d f g e/\(∀a,Fp c d a->b.size<=a)/\iQ b.size c/\∀a,a<b.size->c.get a=b.get a
def RO.of{b f d:H}{e j k:Nat}{h:List (T×aa (Nat×List T))}(n:oJ d e j k h)(c:Step e f d)(i:∀a,Fp f e a->b.size<=a)(l:b.size<=f.size)(m:∀a,a<b.size->f.get a=b.get a):RO b (mX b d) j h:=
 ⟨e,k,n.step ((iQ.out ⟨c.ok.hp,c.ok.low,ay _⟩ b)) λa _=>iB b d a,λa g=>by
   rw[jJ (iB b d e)]at g;rcases c.fp a g with q|q
   ·exact i a q
   ·omega,iQ.out ⟨c.ok.hp,c.ok.low,aU l c.ok.sz⟩ b,λa g=>(iB b d a).trans ((c.get a B λq=>by have:=i a q;omega).trans (m a g))⟩
def pS8(a:fy)(b:List T)(c:H):Prop:=b=[a.t]/\iQ 0 c/\a.fI.length<=1000000/\a.fH.length<=1000000/\a.ee.length<=1000000
def CD(b:Nat):List ei:=(List.range b).map λa=>⟨if a=0 then 1 else 0,0,false⟩
def Qk(a:Nat):CD (a+1)=CD a++[⟨if a=0 then 1 else 0,0,false⟩]:=by
 unfold CD;rw[List.range_succ,List.map_append];rfl
def qS8(a:fy)(_:List T)(e:H)(g:T)(f:H):Prop:=∃b c d,g= .eZ [b,C (-1),c,d]/\RO e f 4 [(b,some (2,(List.replicate a.fI.length ()).map Bo)),(C (-1),none),(c,some (1,(List.replicate a.fH.length false).map T.ez)),(d,some (3,(CD a.ee.length).map ei.t))]
def Sz8(e:Nat)(f:H)(Lk:List Unit)(a:List Bool)(Th:List ei):Prop:=∃g b c d,oJ f e 4 g [(b,some (2,Lk.map Bo)),(C (-1),none),(c,some (1,a.map T.ez)),(d,some (3,Th.map ei.t))]
def ahZ:(km fy pS8 qS8).Ok prog cx 89:=by
 refine kh (tb:=⟨pt [],ht []⟩) jv jl (jF 9071038046463 [] func89) (λ_ _=>1000005) (λe a h bi=>by obtain⟨rfl,_⟩:=bi;simp[f89]) ?_;rintro(w:fy) _ h ⟨rfl,a7,hl,bH,ht⟩ d aE;simp at aE;simp[f89,aE];generalize Q:fJ _ _ _=p;have R:iQ 0 p:=by rw[<-Q];exact(((a7.hr.cons _).cons _).cons _).put _ _
 have bS:p.size=h.size+3:=by rw[<-Q];simp
 have N:∀j,p.get j=if j=h.size+2 then some (X 4 1 [.eZ [dV,C (-1),dV,dV]])else if j=h.size+1 then some uC else if j=h.size then some (X 6 0 [w.t])else h.get j:=λj=>by
  rw[<-Q,ou (((a7.hr.cons _).cons _).cons _).hp G,fk,fk,fk,iU];simp only[size_cons,pZ];by_cases O:j=h.size+2<;>simp[O,uC]
 have⟨bu,S⟩:=oJ.start (h:=p) (w:=h.size+2) (szw:=4) (ver:=1) (F:=[(dV,some (2,[])),(C (-1),none),(dV,some (1,[])),(dV,some (3,[]))]) R (by rw[N,au rfl];rfl) G;have L:Lb (h.size+2) p h.size (X 6 0 [w.t]):=⟨by rw[N,Z B,Z B,au rfl],λO=>by have:=S _ O;omega⟩;have bp:Lb (h.size+2) p (h.size+1) uC:=⟨by rw[N,Z B,au rfl],λO=>by have:=S _ O;omega⟩;have bs:∀j,j<h.size->p.get j=h.get j:=λj J=>by rw[N,Z B,Z B,Z B]
 clear Q N;refine ik w.fI.length B (λe d g=>Sz8 (h.size+2) g (List.replicate e ()) [] []/\Step (h.size+2) p g/\Y d 1 (.fc h.size 0 0 0)/\Y d 2 (.fc (h.size+1) 0 0 0)/\Y d 3 (.fc (h.size+2) 0 0 0)/\Y d 4 (C e)) ?_ ?_ B ⟨⟨_,_,_,_,bu⟩,Step.refl R,G⟩
 ·rintro e d g K I ⟨⟨ver,r,s,z,b⟩,c,i,k,l,m⟩;have o:=b.get;simp at o;have⟨q,u,n,y⟩:=(b.gr 0 rfl).m9 (cx:=cx) (f:=Bo) b.ok JA rfl Jy rfl G (λ_=>rfl) () dR;have⟨v,ae,D⟩:=b.app 0 rfl y;have⟨E,A⟩:=D _ rfl;simp only[<-List.replicate_succ']at A;simp[-List.map_replicate]at v E A;simp only[Bo]at n;simp[i,k,l,m,K,(L.step c).get,o,n,v,fG,y.1.jc,y.1.cells,I];exact⟨⟨_,_,_,_,A⟩,c.trans E⟩
 rintro d g ⟨⟨ver,r,s,z,b⟩,c,i,k,l,m⟩;simp[i,m,(L.step c).get];refine ik w.fH.length B (λe d g=>Sz8 (h.size+2) g (List.replicate w.fI.length ()) (List.replicate e false) []/\Step (h.size+2) p g/\Y d 1 (.fc h.size 0 0 0)/\Y d 2 (.fc (h.size+1) 0 0 0)/\Y d 3 (.fc (h.size+2) 0 0 0)/\Y d 5 (C e)) ?_ ?_ B ⟨⟨_,_,_,_,b⟩,c,by simp[i,k,l]⟩
 ·clear b c i k l m;rintro e d g K I ⟨⟨ver,r,s,z,b⟩,c,i,k,l,m⟩;have o:=b.get;simp at o;have⟨q,u,n,y⟩:=(b.gr 2 rfl).m9 (cx:=cx) (f:=T.ez) b.ok Dg rfl LP rfl G G false dR;have⟨v,ae,D⟩:=b.app 2 rfl y;have⟨E,A⟩:=D _ rfl;simp only[<-List.replicate_succ']at A;simp[-List.map_replicate]at v E A;simp[i,k,l,m,K,(L.step c).get,o,n,v,fG,y.1.jc,y.1.cells,I];exact⟨⟨_,_,_,_,A⟩,c.trans E⟩
 clear b c i k l m;rintro d g ⟨⟨ver,r,s,z,b⟩,c,i,k,l,m⟩;simp[i,m,(L.step c).get];refine ik w.ee.length B (λe d g=>Sz8 (h.size+2) g (List.replicate w.fI.length ()) (List.replicate w.fH.length false) (CD e)/\Step (h.size+2) p g/\Y d 1 (.fc h.size 0 0 0)/\Y d 2 (.fc (h.size+1) 0 0 0)/\Y d 3 (.fc (h.size+2) 0 0 0)/\Y d 6 (C e)) ?_ ?_ B ⟨⟨_,_,_,_,b⟩,c,by simp[i,k,l]⟩
 ·clear b c i k l m;rintro e d g K I ⟨⟨ver,r,s,z,b⟩,c,i,k,l,m⟩;have o:=b.get;simp at o;have bT:=c.ok.sz;have bN:(h.size=g.size)=False:=dR;have aN:(h.size+2=g.size)=False:=dR;have a6:=(L.step c).get;have aX:∀P,∃q u,jx cx ((g.cons (X 3 P [ei.t ⟨if e=0 then 1 else 0,0,false⟩])).cons (X 3 0 [ei.t ⟨if e=0 then 1 else 0,0,false⟩])) 34 34 z (.arr (g.size+1) 0 0 1 false)=some (.val q u)/\q.jc=true/\q.cells=[q]/\u.get (h.size+2)=some (X 4 ver [.eZ [r,C (-1),s,z]])/\gU (g.cons (X 3 P [ei.t ⟨if e=0 then 1 else 0,0,false⟩])) u (h.size+2)=true/\Sz8 (h.size+2) (fJ u (h.size+2) (X 4 (ver+1) [.eZ [r,C (-1),s,q]])) (List.replicate w.fI.length ()) (List.replicate w.fH.length false) (CD (e+1))/\Step (h.size+2) p (fJ u (h.size+2) (X 4 (ver+1) [.eZ [r,C (-1),s,q]])):=λP=>by
   have aA:=b.cons (X 3 P [ei.t ⟨if e=0 then 1 else 0,0,false⟩]);have bC:=Step.cons b.ok b.lt (X 3 P [ei.t ⟨if e=0 then 1 else 0,0,false⟩]);have⟨q,u,n,y⟩:=(aA.gr 3 rfl).m9 (cx:=cx) (f:=ei.t) aA.ok Gx rfl Jz rfl G (λ_=>rfl) (⟨if e=0 then 1 else 0,0,false⟩:ei) (by simp[CD];omega);have⟨v,ae,D⟩:=aA.app 3 rfl y;have⟨E,A⟩:=D _ rfl;rw[<-Qk]at E A;rw[size_cons]at n;exact⟨q,u,n,y.1.jc,y.1.cells,v,ae,⟨_,_,_,_,A⟩,(c.trans bC).trans E⟩
  by_cases U:e=0
  ·subst U;have⟨q,u,n,v,D,al,an,ap,av⟩:=aX 2;simp at n an;have a8:binop .add (C 0) (C 1)=some (C 1):=by simpa using I
   simp[i,k,l,m,K,a6,o,aN,b.ok.low,n,v,D,al,fG,a8];exact⟨ap,av⟩
  ·have⟨q,u,n,v,D,al,an,ap,av⟩:=aX 1;simp[U]at n an;simp[i,k,l,m,U,K,a6,o,aN,b.ok.low,n,v,D,al,fG,I];exact⟨ap,av⟩
 clear b c i k l m;rintro d g ⟨⟨ver,r,s,z,b⟩,c,i,k,l,m⟩;have o:=b.get;simp at o;have W:=bp.step c;have ab:=W.get;unfold uC at ab;have bA:=b.qJ W (X 4 1 [.eZ [r,C (-1),s,z]]);have bg:(fJ g (h.size+1) (X 4 1 [.eZ [r,C (-1),s,z]])).get (h.size+1)=_:=(eG ab _ _).trans (au rfl);simp[i,k,l,m,(L.step c).get,o,ab,fG,bg,-List.map_replicate];have bB:Step (h.size+2) h p:=⟨⟨R.hp,R.low,B⟩,λj J _=>bs j J,λj J=> .inr (by have:=S j J;omega)⟩;exact⟨r,s,z,rfl,RO.of bA (Step.qJ b.ok W _ h (bB.trans c) B) (λj J=>by
  rcases J with rfl|⟨x,bn,_⟩
  ·omega
  ·have:=H.gh bn;omega) (ax _) λ_ _=>rfl⟩
def M1(a:fy)(b:List T)(c:H):Prop:=b=[a.t]/\iQ 0 c/\a.fI.length<=1000000/\a.fH.length<=1000000/\a.ee.length<=1000000/\a.cells.length<=1000000
def VY(a:fy)(c d e f g h:T)(b:List Int):List (T×aa (Nat×List T)):=[(c,some (2,(List.replicate a.fI.length ()).map Bo)),(C (-1),none),(d,some (1,(List.replicate a.fH.length false).map T.ez)),(e,some (3,(CD a.ee.length).map ei.t)),(f,some (1,b.map (T.int .i64))),(g,some (1,(List.replicate a.fH.length 0).map (T.int .i64))),(h,some (1,(List.replicate a.ee.length 0).map (T.int .i64)))]
def MP(g:fy)(_:List T)(h:H)(j:T)(i:H):Prop:=∃a b c d e f,j= .eZ [a,C (-1),b,c,d,e,f]/\RO h i 7 (VY g a b c d e f (g.cells.map iY.ka))
def aes:(km fy M1 MP).Ok prog cx 44:=by
 refine kh (tb:=⟨pt [],ht [(89,km fy pS8 qS8)]⟩) jv jl (jF 1048607 [(1,[(1,3),(1,5),(1,7),(1,9),(1,11)])] func44) (λ_ _=>1000005) (λp s h cX=>by obtain⟨rfl,_⟩:=cX;simp[f44]) ?_;rintro(d:fy) _ h ⟨rfl,c9,hl,I,ht,j⟩ y k;simp at k;have bT:d.fH.length*8<=70368744177664:=B;have bW:d.ee.length*8<=70368744177664:=B;simp[f44,k];generalize z:((TI.hr h).cons _).cons _=u;have dd:iQ 0 u:=by rw[<-z];exact(c9.hr.cons _).cons _
 refine mf ahZ G d ⟨rfl,dd,hl,I,ht⟩ ?_;rintro _ c ⟨m,n,o,rfl,g,W,i,b6,a6,U⟩;have ea:u.size=h.size+2:=by rw[<-z];simp
 have dv:=a6.sz;rw[ea]at dv;have dm:u.get h.size=some (X 6 0 [d.t]):=by rw[<-z];simp
 have dn:u.get (h.size+1)=some pH:=by rw[<-z];simp[pH]
 have ds:∀a,a<h.size->u.get a=h.get a:=λa j=>by rw[<-z,fk,Z dR,fk,Z dR,iU]
 clear z;have a0:=(U h.size B).trans dm;have a1:=(U (h.size+1) B).trans dn;have bC:=il (U h.size B);have c7:(h.size=c.size)=False:=dR;have ed:(h.size=c.size+1)=False:=dR;have bS:gU u c (c.size+1+1)=true:=jL (mP _ B);have P:=λp a bg ab (J: [(m,some (2,(List.replicate d.fI.length ()).map Bo)),(C (-1),none),(n,some (1,(List.replicate d.fH.length false).map T.ez)),(o,some (3,(CD d.ee.length).map ei.t))][p]? =some (a,some (bg,ab)))=>And.intro (i.gr p J).jc (i.gr p J).cells;have b8:=P 0 m _ _ rfl;have b9:=P 2 n _ _ rfl;have ca:=P 3 o _ _ rfl;have bH:gU u c c.size=true:=jL (mP _ B);have bN:gU u c (c.size+1)=true:=jL (mP _ B);simp[bT,bW,a0,bC,c7,bH,bN,bS];generalize Q:fJ _ _ _=r;have bB:iQ 0 c:=⟨a6.hp,a6.low,ay _⟩;have KN:iQ 0 r:=by rw[<-Q];exact(((bB.cons _).cons _).cons _).put _ _
 have eo:r.size=c.size+3:=by rw[<-Q];simp
 have F:∀a,r.get a=if a=c.size+2 then some (X 7 1 [.eZ [m,C (-1),n,o,dV,.arr c.size 0 0 d.fH.length false,.arr (c.size+1) 0 0 d.ee.length false]])else if a=c.size+1 then some ⟨1,0,0,true,false,List.replicate d.ee.length (C 0)⟩else if a=c.size then some ⟨1,0,0,true,false,List.replicate d.fH.length (C 0)⟩else c.get a:=λa=>by
  rw[<-Q,ou (((bB.cons _).cons _).cons _).hp G,fk,fk,fk];simp only[size_cons];by_cases q:a=c.size+2
  ·simp[q]
  ·by_cases D:a=c.size+1<;>by_cases de:a=c.size<;>simp[q,D,de]
 clear Q;have S:∀a,a<c.size->r.get a=c.get a:=λa q=>by rw[F,Z B,Z B,Z B]
 have R:∀(l:Nat) s,(VY d m n o dV (.arr c.size 0 0 d.fH.length false) (.arr (c.size+1) 0 0 d.ee.length false) [])[l]? =some s->∀a,fq s.1=some a->(l<4/\[(m,some (2,(List.replicate d.fI.length ()).map Bo)),(C (-1),none),(n,some (1,(List.replicate d.fH.length false).map T.ez)),(o,some (3,(CD d.ee.length).map ei.t))][l]? =some s/\h.size+2<=a/\a<c.size)\/(l=5/\a=c.size)\/(l=6/\a=c.size+1):=by
  intro l s k a j;have c4:=λ(K: [(m,some (2,(List.replicate d.fI.length ()).map Bo)),(C (-1),none),(n,some (1,(List.replicate d.fH.length false).map T.ez)),(o,some (3,(CD d.ee.length).map ei.t))][l]? =some s)=>And.intro K (And.intro (show h.size+2<=a by have:=b6 a (i.Ew (aC K) j);omega) (i.fp a (i.Ew (aC K) j)));unfold VY at k;rcases l with _|_|_|_|_|_|_|l
  iterate 4 exact .inl ⟨B,c4 k⟩
  ·simp at k;subst k;simp at j
  ·simp at k;subst k;simp at j;exact .inr (.inl ⟨rfl,j.symm⟩)
  ·simp at k;subst k;simp at j;exact .inr (.inr ⟨rfl,j.symm⟩)
  ·simp at k
 have bn:oJ r (c.size+2) 7 1 (VY d m n o dV (.arr c.size 0 0 d.fH.length false) (.arr (c.size+1) 0 0 d.ee.length false) []):=by
  refine⟨KN,by rw[F,au rfl];rfl,λf I=>?_,λl N cL s b k cd a A D=>cL ?_⟩
  ·have aX:=λp a bg ab (J: [(m,some (2,(List.replicate d.fI.length ()).map Bo)),(C (-1),none),(n,some (1,(List.replicate d.fH.length false).map T.ez)),(o,some (3,(CD d.ee.length).map ei.t))][p]? =some (a,some (bg,ab)))=>(i.gr p J).mono (h':=r) λq c1=>S q (i.fp q (i.Ew (aC J) c1));unfold VY at I;simp only[ci,cS,or_false]at I;rcases I with rfl|rfl|rfl|rfl|rfl|rfl|rfl
   ·exact⟨aX 0 _ _ _ rfl,show(2:Nat)≠7 by decide⟩
   ·show fq _=none;simp
   ·exact⟨aX 2 _ _ _ rfl,show(1:Nat)≠7 by decide⟩
   ·exact⟨aX 3 _ _ _ rfl,show(3:Nat)≠7 by decide⟩
   ·exact⟨Gr.nil _ _,show(1:Nat)≠7 by decide⟩
   ·exact⟨.inr ⟨c.size,0,0,true,_,G,by rw[F,Z B,Z B,au rfl],G⟩,show(1:Nat)≠7 by decide⟩
   ·exact⟨.inr ⟨c.size+1,0,0,true,_,G,by rw[F,Z B,au rfl],G⟩,show(1:Nat)≠7 by decide⟩
  ·rcases R l s k a A with⟨bu,aA,eb,ec⟩|⟨bu,aA⟩|⟨bu,aA⟩<;>rcases R N b cd a D with⟨r1,r2,r3,r4⟩|⟨r1,r2⟩|⟨r1,r2⟩<;>try omega
   exact Decidable.byContradiction λe=>i.Zw l N e s b aA r2 a A D
 have ae:∀a,Fp r (c.size+2) a->h.size+2<=a:=by
  rintro a (rfl|⟨x,L,v,bs,q⟩)
  ·omega
  ·rw[bn.get]at L;simp only[aw]at L;subst L;simp only[iq,bD,cB,bG,T.cells]at bs;obtain⟨f,cp,rfl⟩:=List.mem_map.1 bs;have⟨l,K,cF⟩:=List.mem_iff_getElem.1 cp;rcases R l f (by rw[aB K,cF]) a q with⟨_,_,N,_⟩|⟨_,N⟩|⟨_,N⟩<;>omega
 have bA:Lb (c.size+2) r h.size (X 6 0 [d.t]):=⟨(S _ B).trans a0,λq=>by have:=ae _ q;omega⟩;have c6:Lb (c.size+2) r (h.size+1) pH:=⟨(S _ B).trans a1,λq=>by have:=ae _ q;omega⟩;have dk:Step (c.size+2) h r:=⟨⟨KN.hp,KN.low,B⟩,λa j _=>(S a B).trans ((U a B).trans (ds a j)),λa j=> .inr (by have:=ae a j;omega)⟩;clear F R P b8 b9 ca bH bN bS bC;refine ik d.cells.length B (λp y O=>(∃W a,oJ O (c.size+2) 7 W (VY d m n o a (.arr c.size 0 0 d.fH.length false) (.arr (c.size+1) 0 0 d.ee.length false) ((d.cells.take p).map iY.ka)))/\Step (c.size+2) r O/\Y y 1 (.fc h.size 0 0 0)/\Y y 2 (.fc (h.size+1) 0 0 0)/\Y y 3 (.fc (c.size+2) 0 0 0)/\Y y 4 (C p)) ?_ ?_ B ⟨⟨_,_,bn⟩,Step.refl KN,G⟩
 ·rintro p y O bp cb ⟨⟨W,a,i⟩,E,al,an,ap,av⟩;have w:=i.get;unfold VY at w;simp at w;have⟨eh,h',bX,bi⟩:=(i.gr 4 rfl).m9 (cx:=cx) (f:=T.int .i64) i.ok qT rfl Av rfl G (λ_=>rfl) d.cells[p].ka dR;have⟨A,ef,D⟩:=i.app 4 rfl bi;have⟨a8,a7⟩:=D _ rfl;unfold VY at A a8 a7;simp only[aO,bF,cP,cz]at A a8 a7;simp[al,an,ap,av,bp,(bA.step E).get,w,bX,A,fG,bi.1.jc,bi.1.cells,cb];exact⟨⟨_,_,by unfold VY;rw[aP bp,List.map_append];exact a7⟩,E.trans a8⟩
 rintro y O ⟨⟨W,a,i⟩,E,al,an,ap,av⟩;rw[aL]at i;have w:=i.get;unfold VY at w;simp at w;have aE:=c6.step E;have aN:=aE.get;unfold pH at aN;have di:=i.qJ aE (X 7 1 [.eZ [m,C (-1),n,o,a,.arr c.size 0 0 d.fH.length false,.arr (c.size+1) 0 0 d.ee.length false]]);have b7:(fJ O (h.size+1) (X 7 1 [.eZ [m,C (-1),n,o,a,.arr c.size 0 0 d.fH.length false,.arr (c.size+1) 0 0 d.ee.length false]])).get (h.size+1)=_:=(eG aN _ _).trans (au rfl);simp[al,an,ap,av,(bA.step E).get,w,aN,fG,b7,-List.map_replicate];exact⟨m,n,o,_,_,_,rfl,RO.of di (Step.qJ i.ok aE _ h (dk.trans E) B) (λa j=>by
  rcases j with rfl|⟨x,L,_⟩
  ·omega
  ·have:=H.gh L;omega) (ax _) λ_ _=>rfl⟩
end
noncomputable section
open Go Go.TI Tryz
noncomputable abbrev gN(a:Func)(b:Nat):tH:=gq cx a b false
noncomputable abbrev gK(a:Func)(b:Nat):tH:=gq cx a b true
def gO{b:ak}{a:Func}{d:Nat}{c:Bool}(e:prog.funcs[b]? =some a)(f:Aq ⟨a,d,c,none⟩=true:=by kernel_rfl):oh prog cx b (gq cx a d c):=aiD jv jl e f
def g61:tH:=λ_ _ a b=>Fl ((.clone 1 1)) a b
def aa2:oh prog cx 61 g61:=AJ (wZ (fn:=f61) (t:=33) (tb:=4) (te:=V5) jl func61 dY dY dY dY dY dY dY)
def g97:tH:=λ_ _ a b=>Fl ((.clone 3 24)) a b
def aa1:oh prog cx 97 g97:=AJ (wZ (fn:=f97) (t:=34) (tb:=4) (te:=Kf) jl func97 dY dY dY dY dY dY dY)
def afk:tH:=λ_ _ a b=>Fl (.pY) a b
def aa7:(f241.name== "runtime.NumGoroutine")=false:=dY
def aa6:f241.body.isNone=true:=dY
def aa4:Extern.findNext f241=none:=dY
def aa5:Extern.find f241=some Extern.BytealgIndexByte.indexByte:=dY
def aa3:GY prog cx 241 .pY:= @Jc prog cx 241 f241 func241 aa7 aa6 aa4 aa5
def Xj:oh prog cx 241 afk:=AJ aa3
def qs:Tree tH:=(.eY (.eY (.eY (.eY (.eY (.eY (.eY (.eY .nil 10 (gN f10 40953575029616206113996799) .nil) 13 (gN f13 7) .nil) 19 (gN f19 138478519) (.eY .nil 25 (gN f25 9223389645163727807) .nil)) 26 (gN f26 79) (.eY (.eY .nil 27 (gN f27 2417851783344448572752095) .nil) 28 (gN f28 7231) (.eY .nil 29 (gN f29 18463641368405213903) .nil))) 31 (gN f31 127) (.eY (.eY (.eY (.eY .nil 32 (gN f32 17179869843) .nil) 34 (gN f34 13215461614728367217751695970865548304603543200842114553566203007) .nil) 36 (gN f36 2147484735) (.eY .nil 37 (gN f37 19) .nil)) 38 (gN f38 606826398900554784047567) (.eY (.eY .nil 44 (gN f44 1048607) .nil) 48 (gN f48 9223372036871623167) (.eY .nil 49 (gN f49 4215) .nil)))) 50 (gK f50 1048607) (.eY (.eY (.eY (.eY (.eY .nil 53 (gN f53 829180818552508142370930303613581122868418894632663968482586879) .nil) 59 (gN f59 772424076352653274097095092108232752774234854811365887) .nil) 61 (g61) (.eY .nil 64 (gN f64 67109327) .nil)) 66 (gN f66 1238093369775042453301102031) (.eY (.eY .nil 67 (gN f67 4196311) .nil) 69 (gN f69 137506128175) (.eY .nil 70 (gN f70 36051629065113551) .nil))) 75 (gN f75 8796093286397) (.eY (.eY (.eY (.eY .nil 76 (gN f76 19808249554385699031857790975) .nil) 77 (gN f77 8864829278711) .nil) 82 (gN f82 6434029281764525972148499167221040878727244754944919609542655) (.eY .nil 83 (gN f83 95827739445721067874190659254502973333984266632037375) .nil)) 84 (gN f84 31) (.eY (.eY .nil 89 (gN f89 9071038046463) .nil) 90 (gN f90 17184194575) (.eY .nil 91 (gK f91 68723687231) .nil))))) 92 (gN f92 4504699140047487) (.eY (.eY (.eY (.eY (.eY (.eY .nil 94 (gN f94 576460753379335951) .nil) 97 (g97) .nil) 98 (gN f98 4605278686335) (.eY .nil 99 (gK f99 30783) .nil)) 106 (gN f106 463) (.eY (.eY .nil 107 (gN f107 29) .nil) 108 (gN f108 9224506733391652861) (.eY .nil 109 (gN f109 4432473883133) .nil))) 111 (gN f111 19342850151455133005856767) (.eY (.eY (.eY (.eY .nil 112 (gN f112 316913254556860716756833993695) .nil) 113 (gN f113 275) .nil) 114 (gN f114 11) (.eY .nil 115 (gN f115 8934607822903) .nil)) 116 (gN f116 479) (.eY (.eY .nil 121 (gN f121 19) .nil) 122 (gN f122 1099511628339) (.eY .nil 123 (gN f123 18889470444974887141823) .nil)))) 124 (gN f124 332312079452150195464880550324504575) (.eY (.eY (.eY (.eY (.eY .nil 125 (gN f125 4330618893) .nil) 126 (gN f126 131635) .nil) 129 (gN f129 348794743007212715313826391199890521722863) (.eY .nil 130 (gN f130 12259964349774246101165194645239424850975965214878597119) .nil)) 135 (gN f135 35315368591455) (.eY (.eY .nil 136 (gN f136 19) .nil) 137 (gN f137 606826398900554784047567) (.eY .nil 138 (gN f138 5868843906288553182383292937158044313155908148351) .nil))) 143 (gN f143 7) (.eY (.eY (.eY (.eY .nil 144 (gN f144 19) .nil) 146 (gN f146 33587517) .nil) 147 (gN f147 4101) (.eY .nil 148 (gN f148 21853) .nil)) 149 (gN f149 37396817117309) (.eY (.eY .nil 150 (gN f150 51) .nil) 151 (gN f151 40536831200067837) (.eY .nil 152 (gN f152 72128100255664255) .nil)))))) 153 (gN f153 1242795222330225588904675325) (.eY (.eY (.eY (.eY (.eY (.eY (.eY .nil 154 (gN f154 1237940043933112819970491391) .nil) 155 (gN f155 1053) .nil) 156 (gN f156 151115745466229840684019) (.eY .nil 158 (gK f158 18191) .nil)) 159 (gN f159 365376106316094180278949616271352870286206697499) (.eY (.eY .nil 160 (gN f160 10633824283312870803151638865622599647) .nil) 162 (gN f162 5) (.eY .nil 163 (gN f163 131613) .nil))) 164 (gN f164 5) (.eY (.eY (.eY (.eY .nil 165 (gN f165 11161304336780981658631819976322344575566047) .nil) 166 (gN f166 4362601011) .nil) 167 (gN f167 19) (.eY .nil 168 (gK f168 2097183) .nil)) 169 (gN f169 1182933510117985879039) (.eY (.eY .nil 182 (gN f182 19) .nil) 183 (gN f183 19) (.eY .nil 184 (gN f184 5) .nil)))) 185 (gN f185 35500589085) (.eY (.eY (.eY (.eY (.eY .nil 186 (gN f186 5) .nil) 187 (gN f187 1125908496810045) .nil) 188 (gN f188 262565) (.eY .nil 189 (gN f189 541) .nil)) 190 (gN f190 328307) (.eY (.eY .nil 191 (gN f191 1574131) .nil) 192 (gN f192 275) (.eY .nil 193 (gN f193 529021) .nil))) 194 (gN f194 1125902054326279) (.eY (.eY (.eY (.eY .nil 195 (gN f195 32909) .nil) 196 (gN f196 262707) .nil) 197 (gN f197 262707) (.eY .nil 198 (gN f198 14474012017383023515249485065460760621927424225494418519668988771800801378299) .nil)) 199 (gN f199 36893488147419136123) (.eY (.eY .nil 203 (gN f203 20282409606012871684182924853463) .nil) 204 (gN f204 158456325028530997355645763711) (.eY .nil 205 (gN f205 1037) .nil))))) 206 (gN f206 1099578740959) (.eY (.eY (.eY (.eY (.eY (.eY .nil 207 (gN f207 1) .nil) 210 (gN f210 5) .nil) 211 (gK f211 262175) (.eY .nil 212 (gK f212 9904163146420522906957187071) .nil)) 224 (gN f224 19) (.eY (.eY .nil 225 (gN f225 2293) .nil) 226 (gN f226 2149585011) (.eY .nil 227 (gN f227 526461) .nil))) 228 (gN f228 8606909437) (.eY (.eY (.eY (.eY .nil 229 (gN f229 182687706027492332498828539273953093013162958911) .nil) 230 (gN f230 70368744310543) .nil) 231 (gN f231 83) (.eY .nil 232 (gN f232 33688639) .nil)) 233 (gN f233 4196847) (.eY (.eY .nil 235 (gN f235 1049655) .nil) 241 (afk) (.eY .nil 242 (gN f242 8211) .nil)))) 246 (gN f246 131527) (.eY (.eY (.eY (.eY (.eY .nil 247 (gN f247 563501857374451) .nil) 248 (gN f248 2863311549) .nil) 249 (gN f249 18483898770635358239) (.eY .nil 250 (gN f250 7) .nil)) 251 (gN f251 99132251962343631) (.eY (.eY .nil 252 (gN f252 8703) .nil) 253 (gN f253 8590200303) (.eY .nil 258 (gN f258 594912002450663878599) .nil))) 260 (gN f260 13) (.eY (.eY (.eY (.eY .nil 265 (gN f265 32819) .nil) 268 (gN f268 132109) .nil) 271 (gN f271 749019592093908130998168547243562859198691857383367) (.eY .nil 276 (gN f276 72339071195682803) .nil)) 285 (gN f285 8407165) (.eY (.eY .nil 286 (gN f286 2101491) .nil) 288 (gN f288 9224502335110254589) (.eY .nil 289 (gN f289 715827901) .nil)))))))
def aed:qs.RY λa b=>oh prog cx a b:=(.eY (.eY (.eY (.eY (.eY (.eY (.eY (.eY .nil (gO func10) .nil) (gO func13) .nil) (gO func19) (.eY .nil (gO func25) .nil)) (gO func26) (.eY (.eY .nil (gO func27) .nil) (gO func28) (.eY .nil (gO func29) .nil))) (gO func31) (.eY (.eY (.eY (.eY .nil (gO func32) .nil) (gO func34) .nil) (gO func36) (.eY .nil (gO func37) .nil)) (gO func38) (.eY (.eY .nil (gO func44) .nil) (gO func48) (.eY .nil (gO func49) .nil)))) (gO func50) (.eY (.eY (.eY (.eY (.eY .nil (gO func53) .nil) (gO func59) .nil) aa2 (.eY .nil (gO func64) .nil)) (gO func66) (.eY (.eY .nil (gO func67) .nil) (gO func69) (.eY .nil (gO func70) .nil))) (gO func75) (.eY (.eY (.eY (.eY .nil (gO func76) .nil) (gO func77) .nil) (gO func82) (.eY .nil (gO func83) .nil)) (gO func84) (.eY (.eY .nil (gO func89) .nil) (gO func90) (.eY .nil (gO func91) .nil))))) (gO func92) (.eY (.eY (.eY (.eY (.eY (.eY .nil (gO func94) .nil) aa1 .nil) (gO func98) (.eY .nil (gO func99) .nil)) (gO func106) (.eY (.eY .nil (gO func107) .nil) (gO func108) (.eY .nil (gO func109) .nil))) (gO func111) (.eY (.eY (.eY (.eY .nil (gO func112) .nil) (gO func113) .nil) (gO func114) (.eY .nil (gO func115) .nil)) (gO func116) (.eY (.eY .nil (gO func121) .nil) (gO func122) (.eY .nil (gO func123) .nil)))) (gO func124) (.eY (.eY (.eY (.eY (.eY .nil (gO func125) .nil) (gO func126) .nil) (gO func129) (.eY .nil (gO func130) .nil)) (gO func135) (.eY (.eY .nil (gO func136) .nil) (gO func137) (.eY .nil (gO func138) .nil))) (gO func143) (.eY (.eY (.eY (.eY .nil (gO func144) .nil) (gO func146) .nil) (gO func147) (.eY .nil (gO func148) .nil)) (gO func149) (.eY (.eY .nil (gO func150) .nil) (gO func151) (.eY .nil (gO func152) .nil)))))) (gO func153) (.eY (.eY (.eY (.eY (.eY (.eY (.eY .nil (gO func154) .nil) (gO func155) .nil) (gO func156) (.eY .nil (gO func158) .nil)) (gO func159) (.eY (.eY .nil (gO func160) .nil) (gO func162) (.eY .nil (gO func163) .nil))) (gO func164) (.eY (.eY (.eY (.eY .nil (gO func165) .nil) (gO func166) .nil) (gO func167) (.eY .nil (gO func168) .nil)) (gO func169) (.eY (.eY .nil (gO func182) .nil) (gO func183) (.eY .nil (gO func184) .nil)))) (gO func185) (.eY (.eY (.eY (.eY (.eY .nil (gO func186) .nil) (gO func187) .nil) (gO func188) (.eY .nil (gO func189) .nil)) (gO func190) (.eY (.eY .nil (gO func191) .nil) (gO func192) (.eY .nil (gO func193) .nil))) (gO func194) (.eY (.eY (.eY (.eY .nil (gO func195) .nil) (gO func196) .nil) (gO func197) (.eY .nil (gO func198) .nil)) (gO func199) (.eY (.eY .nil (gO func203) .nil) (gO func204) (.eY .nil (gO func205) .nil))))) (gO func206) (.eY (.eY (.eY (.eY (.eY (.eY .nil (gO func207) .nil) (gO func210) .nil) (gO func211) (.eY .nil (gO func212) .nil)) (gO func224) (.eY (.eY .nil (gO func225) .nil) (gO func226) (.eY .nil (gO func227) .nil))) (gO func228) (.eY (.eY (.eY (.eY .nil (gO func229) .nil) (gO func230) .nil) (gO func231) (.eY .nil (gO func232) .nil)) (gO func233) (.eY (.eY .nil (gO func235) .nil) Xj (.eY .nil (gO func242) .nil)))) (gO func246) (.eY (.eY (.eY (.eY (.eY .nil (gO func247) .nil) (gO func248) .nil) (gO func249) (.eY .nil (gO func250) .nil)) (gO func251) (.eY (.eY .nil (gO func252) .nil) (gO func253) (.eY .nil (gO func258) .nil))) (gO func260) (.eY (.eY (.eY (.eY .nil (gO func265) .nil) (gO func268) .nil) (gO func271) (.eY .nil (gO func276) .nil)) (gO func285) (.eY (.eY .nil (gO func286) .nil) (gO func288) (.eY .nil (gO func289) .nil)))))))
def MO:∀a b,(λa=>qs.find a) a=some b->oh prog cx a b:=λa b c=>aed.find c
end
noncomputable section
open Go Go.TI Tryz
attribute [-simp] List.map_take List.map_drop List.map_append ij gG fK Bool.not_or Bool.not_and
attribute [simp] ig gJ
def kj:fy:=⟨[⟨[120],0,0,false,0⟩,⟨[121],0,0,false,1⟩,⟨[118],0,0,true,0⟩,⟨[113],0,2,false,0⟩,⟨[113],1,2,false,0⟩],[⟨[109],false⟩,⟨[110],false⟩,⟨[114],true⟩],[⟨[99],0⟩],[[102]],[[109,97,105,110],[116,49],[116,50],[116,51]],
 [⟨0,0,1⟩,⟨0,1,2⟩,⟨0,2,3⟩,⟨0,3,4⟩,⟨0,4,5⟩,⟨0,5,6⟩,⟨1,0,11⟩,⟨1,1,12⟩,⟨1,2,13⟩,⟨1,3,14⟩,⟨1,4,15⟩,⟨1,5,16⟩,⟨2,0,21⟩,⟨2,1,22⟩,⟨2,2,23⟩,⟨2,3,24⟩,⟨2,4,25⟩,⟨2,5,26⟩,⟨3,0,31⟩,⟨3,1,32⟩,⟨3,2,33⟩,⟨3,3,34⟩,⟨3,4,35⟩,⟨3,5,36⟩]⟩
def ZN:∀a b,(λa=>(Tree.eY .nil 40 (gN f40 81788943) .nil).find a) a=some b->oh prog cx a b:=λa b c=>(Tree.RY.eY .nil (gO func40) .nil).find c
def QF:mM prog cx 40 [] kj.t:=BH (mD _ dY) (DR ZN 10000 _ _ _ _ _ dY)
def IN:iK:=⟨Unit,λ_=>[],λ_=>True,λ_=>kj.t,λ_ _ _=>rfl⟩
def Tm:IN.Ok prog cx 40:=λ_ _=>QF
def PI{a:io}(ht:a.p 40=some IN):rl prog cx a 40 []=some kj.t:=iN ht Tm () trivial
def ML:kM kj=true:=by decide+kernel
def yj(e:Nat)(a:List Int)(c:Nat)(d:H):Prop:=∃f b,d.get c=some (X 2 f [.eZ [sl (a.map (T.int .u8)),C b]])/\((min e a.length:Nat):Int)<=b
def yj.tp{e:Nat}{a:List Int}{b:Nat}{c:H}(g:yj e a b c):Tp a b c:=by
 obtain⟨h,f,d,i⟩:=g;exact⟨h,f,d,B⟩
def yj.eq{e:Nat}{b:List Int}{a:Nat}{c d:H}(j:yj e b a c)(h:d.get a=c.get a):yj e b a d:=by
 obtain⟨k,i,g,f⟩:=j;exact⟨k,i,by rw[h];exact g,f⟩
def yj.le{d e:Nat}{a:List Int}{b:Nat}{c:H}(g:yj d a b c)(k:e<=d):yj e a b c:=by
 obtain⟨h,i,f,j⟩:=g;exact⟨h,i,f,B⟩
structure Om where
 (L:List Int) (b p:Nat) (n:Int)
def KE(a:Om)(d:List T)(c:H):Prop:=d=[.fc a.b 0 0 0,C a.n]/\yj a.p a.L a.b c/\iQ 0 c/\1<=a.n/\a.n<=100/\okB a.L
def QI(a:Om)(g:List T)(e:H)(f:T)(c:H):Prop:=∃d:Nat,f= C d/\(d:Int)<a.n/\yj (a.p+1) a.L a.b c/\Sm a.b e c
abbrev mn:mN:=km Om KE QI
def WB:mn.Ok prog cx 79:=by
 refine kh (tb:=⟨pt [],ht []⟩) jv jl (jF 262163 [] func79) (λ_ _=>5) (λJ a h A=>by obtain⟨rfl,_⟩:=A;simp[f79]) ?_;rintro⟨b,f,K,g⟩ _ h ⟨rfl,⟨i,d,e,D⟩,r,y,z,s,o⟩ L p;simp only at e D y z s o;simp at p;obtain⟨j,n⟩:=p;simp[f79,j,n,e];refine fN (λk=>?_) (λk=>?_)
 ·simp at k;simp;exact⟨0,G,dS,⟨i,d,by rw[iB,iU];exact e,dS⟩,Sm.out (Sm.refl r.hr)⟩
 ·simp at k;have F:IntKind.i64.wrap (d+1)=d+1:=by rw[<-kv];exact kG B B
  have H:IntKind.i64.wrap d=d:=by rw[<-kv];exact kG B B
  have E:Sm f (hr h) _:=(Sm.refl r.hr).put (x:=(X 2 i [.eZ [sl (b.map (T.int .u8)),C d]])) (by rw[iU];exact e) (X 2 (i+1) [.eZ [sl (b.map (T.int .u8)),C (d+1)]]);have m:(fJ (hr h) f (X 2 (i+1) [.eZ [sl (b.map (T.int .u8)),C (d+1)]])).get f=_:=(eG (h:=hr h) (by rw[iU];exact e) _ f).trans (au rfl);simp[j,e,qm,fG,F];generalize fJ (hr h) f _=I at*
  obtain⟨c,rfl⟩:∃c:Nat,d=c:=⟨d.toNat,B⟩;have q:c<b.length:=B;have t:=o b[c] (aG q);have u: -9223372036854775808<=b[c]:=B;have v:b[c]<9223372036854775808:=B;have t0:=Int.tmod_nonneg g t.1;have t1:=Int.tmod_lt_of_pos b[c] (show 0<g by omega);simp[j,n,m,uf,H,q,u,v,D1 (a:=b[c]) (show¬g=0 by omega)];have⟨l,w⟩:∃l:Nat,b[c].tmod g=l:=⟨(b[c].tmod g).toNat,B⟩;exact⟨l,by rw[w],dS,⟨_,_,by rw[iB];exact m,dS⟩,Sm.out E⟩
structure vX(p:Nat)(L:List Int)(b:Nat)(h h':H):Prop where
 w:Tw L b h h'
 g:yj p L b h'
def vX.refl{d:Nat}{b:List Int}{c:Nat}{a:H}(f:iQ 0 a)(e:yj d b c a):vX d b c a a:=⟨Tw.refl f e.tp,e⟩
def vX.le{e f:Nat}{a:List Int}{b:Nat}{c d:H}(h:vX e a b c d)(i:f<=e):vX f a b c d:=⟨h.w,h.g.le i⟩
theorem vX.cons{e:Nat}{a:List Int}{b:Nat}{c d:H}(w:vX e a b c d)(f:jK):vX e a b c (d.cons f):=⟨w.w.cons f,w.g.eq (by rw[fk,Z (by have:=w.w.tp.lt;omega)])⟩
theorem vX.put{h:Nat}{e:List Int}{b:Nat}{a d:H}(i:vX h e b a d){c:Nat}{x:jK}(f:d.get c=some x)(l:a.size<=c)(k:b<a.size)(j:jK):vX h e b a (fJ d c j):=⟨i.w.put f l k j,i.g.eq (by rw[eG f,Z B])⟩
def vX.call{h f:Nat}{b:List Int}{a:Nat}{d e c:H}(j:vX h b a d e)(i:Sm a e c)(g:yj f b a c):vX f b a d c:=⟨j.w.call i g.tp,g⟩
def vX.cut{h:Nat}{e:List Int}{c:Nat}{a b:H}(d:vX h e c (TI.hr a) b)(p:iQ 0 a)(f:c<a.size){j l:T}{i:T->H->Prop}(m:∃k,jX b a.size j=some k/\cn k=l)
 (o:Sm c a (xH a b)->yj h e c (xH a b)->i l (xH a b)):Bc a j b i:=d.w.cut p f m λq _=>o q (d.g.eq (Ci d.w.ok.hp d.w.size f))
def Ug{tb:io}{g:Nat}{e:List Int}{a:Nat}{c:H}(ht:tb.h 79=some mn)(s:yj g e a c)(n:iQ 0 c)(m:okB e)(b:Int)(k:1<=b)(l:b<=100):∃(f:Nat) (d:H),hl prog cx tb 79 [.fc a 0 0 0,C b] c=some (C f,d)/\(f:Int)<b/\yj (g+1) e a d/\Sm a c d:=by
 have i:KE ⟨e,a,g,b⟩ [.fc a 0 0 0,C b] c:=⟨rfl,s,n,k,l,m⟩;have⟨_,d,j,o⟩:=Il ht WB ⟨_,i⟩;obtain⟨f,rfl,p,q,r⟩:=o _ i;exact⟨f,d,j,p,q,r⟩
def yM:List Int:=[3,3,3,3,3,4,4,4,4,4,5,5,5,6,6,6,7,7,7,8,9,10,11,12,13,14,14,15,16,16,17,17,18,18,19,20,1,1,2,21,22,23,23]
def xh:iK:=⟨Unit,λ_=>[],λ_=>True,λ_=>sl (yM.map (T.int .i64)),λ_ _ _=>rfl⟩
def WM:xh.Ok prog cx 117:=by
 refine iF [] (jF 1 [] func117) (λ_=>5) (by simp[xh]) ?_;rintro _ _ b a;simp[xh]at a|-;simp[f117,iR,yM]
def _root_.Go.TI.Xt.I3{d b:H}{f g:T}{e:Nat}{c:List T}(a:Xt d f e c g b):iQ 0 b:=⟨a.2.2.2.hp,a.2.2.2.low,ay _⟩
def _root_.Go.TI.Xt.Ya{i e:H}{j k:T}{d:List Int}(c:Xt i j 1 (d.map (T.int .i64)) k e)(g:Int)(m:d.length<=1000000):∃a b,jx cx (e.cons (X 1 0 [C g])) 38 38 k (.arr e.size 0 0 1 false)=some (.val a b)/\a.jc=true/\a.cells=[a]/\Xt i j 1 ((d++[g]).map (T.int .i64)) a b:=by
 have⟨a,b,l,h⟩:=c.1.m9 (cx:=cx) (f:=T.int .i64) c.I3 kO rfl nP rfl G (λ_=>rfl) g dR;exact⟨a,b,l,h.1.jc,h.1.cells,c.trans h⟩
def BL:pM prog cx 161 (λa:gH=>[a.t]) (λa=>a.gu.ee.length<=1000) (λa A=>∃v:List Int,A=sl (v.map (T.int .i64))/\v.length<=a.gu.ee.length):=by
 refine jU [] (jF 134975 [] func161) (λa=>a.gu.ee.length+5) (λE b e=>by simp at e;exact gH.inj e) ?_;rintro a hl d r;simp at r;simp[f161,r];generalize q:H.cons hE _=m;have x:m.get 0=some (X 7 0 [a.t]):=by subst q;simp
 have o:iQ 1 m:=by subst q;exact⟨G,G,G⟩
 refine ik a.gu.ee.length B (λi d e=>Y d 1 (.fc 0 0 0 0)/\Y d 8 (sl (a.gu.ee.map ei.t))/\Y d 9 (C a.gu.ee.length)/\Y d 10 (C i)/\∃(l:T) (f:List Int),Y d 3 l/\Xt m dV 1 (f.map (T.int .i64)) l e/\f.length<=i) ?_ ?_ B ⟨G,G,G,G,dV,[],G,Xt.refl (Gr.nil _ _) ⟨o.hp,o.low,ay _⟩,ax _⟩
 ·rintro i d e z s ⟨n,k,h,g,l,f,j,c,u⟩;have O:=o.sz;have F:=(c.2.1 0 B G).trans x;have w:iQ 1 e:=⟨c.2.2.2.hp,c.2.2.2.low,by have:=c.2.2.2.sz;omega⟩;have J:=w.ne (b:=0) B;simp[k,h,g,z,w.low];refine fN (λy=>?_) (λy=>?_)
  ·have⟨N,I,p,K,L,D⟩:=(c.cons (X 3 1 [a.gu.ee[i].t])).Ya i B;rw[size_cons]at p;simp[n,j,k,h,g,s,p];exact⟨_,D,dR⟩
  ·simp[n,j,k,h,g,s];exact⟨_,c.cons _,B⟩
 ·rintro d e ⟨n,k,h,g,l,f,j,c,u⟩;simp[j,h,g,c.1.jc,c.1.rZ G,c.2.2.2.hp];exact⟨f,rfl,u⟩
structure DX where
 (L:List Int) (b p:Nat) (v:T) (ns:List Int)
def xm(a:DX)(d:List T)(c:H):Prop:=d=[.fc a.b 0 0 0,a.v]/\Gr c a.v 1 (a.ns.map (T.int .i64))/\fq a.v≠some a.b/\yj a.p a.L a.b c/\iQ 0 c/\okB a.L/\a.ns.length<=1000
def wH(a:DX)(g:List T)(e:H)(f:T)(c:H):Prop:=∃d:List Int,f=sl (d.map (T.int .i64))/\d.length<=a.ns.length/\yj a.p a.L a.b c/\Sm a.b e c
def vX.xt{m:Nat}{k:List Int}{b:Nat}{c e f:H}{n t:T}{s:Nat}{o:List T}(d:vX m k b c e)(j:Xt e n s o t f)(q:∀a,fq n=some a->c.size<=a)(l:b<c.size):vX m k b c f:=by
 have u:=d.w.size;have i:∀a,a<c.size->f.get a=e.get a:=λa h=>j.2.1 a B λr=>by have:=q a r;omega
 exact⟨⟨j.I3,by have:=j.2.2.2.sz;omega,λa h p=>(i a h).trans (d.w.get a h p),d.w.tp.eq (i b l)⟩,d.g.eq (i b l)⟩
def _root_.Go.TI.FT.ahG{c:H}{o:Nat->Prop}{g p:Nat}(l:p<=12)(s:∀a,o a->g<=a){b n:T}(ft:FT c o p b n)(r:∀i,b≠ .eZ i)(w:∀i,b≠ .tuple i):∃k,jX c g b=some k/\cn k=n:=by
 have q:=(ft.deep l).fzN s;have u:(J (jA c 0 b) λb=>some (cn b))=some n:=(ft.deep l).fz;have v:jX c g b=jA c 0 b:=by
  rcases ft.deep l with⟨z,m,rfl⟩|⟨a,d,h,f,e,E,F,rfl,y,I,x,rfl⟩|⟨i,D,rfl,x,rfl⟩
  ·cases b<;>first|exact(r _ rfl).elim|exact q|(simp[kT]at z)|exact(w _ rfl).elim
  ·have m:∀j,jA c j (.arr a d h f e)=(Bool.casesOn (Nat.ble j a) (some (.arr a d h f e)) (TI.freeze c j 12 (.arr a d h f e)):aa T):=λj=>rfl;show jA c g (.arr a d h f e)=jA c 0 (.arr a d h f e);rw[m,m,show Nat.ble g a=true from cr (s a y),show Nat.ble 0 a=true from cr (ay a),q]
  ·exact absurd rfl (r _)
 rw[<-v]at u;have⟨k,A,t⟩:=eg.1 u;simp only[aw]at t;exact⟨k,A,t⟩
def zU{c g h:Type}{d:g->h->Prop}{e:c->g}{f:c->h}{a:List c}(i:∀b,d (e b) (f b)):jw d (a.map e) (a.map f):=by
 induction a with
 |nil=>exact .nil
 |cons b a j=>exact .cons (i b) j
def _root_.Go.TI.Gr.adZ{l:Type}{a:l->T}{b:H}{h:T}{s g d:Nat}{j:List l}(f:Gr b h s (j.map a))(v:d<=11)(q:∀i,fq h=some i->g<=i)(p:∀c b Vq,FT b Vq d (a c) (a c)):∃k,jX b g h=some k/\cn k=sl (j.map a):=
 (f.ft (Vq:=λe=>g<=e) (d:=d) q (zU λc=>p c _ _)).ahG B (λ_ r=>r) (λm=>by rcases f with⟨rfl,_⟩|⟨e,n,t,o,u,rfl,_⟩<;>simp) (λm=>by rcases f with⟨rfl,_⟩|⟨e,n,t,o,u,rfl,_⟩<;>simp)
def aat:(km DX xm wH).Ok prog cx 120:=by
 refine ue (tb:=⟨pt [],ht [(79,mn)]⟩) jv jl (jF 16781299 [] func120) (λ_ _=>1005) (λi a o a6=>by obtain⟨rfl,_⟩:=a6;simp[f120]) ?_;rintro⟨L,r,Z,I,y⟩ _ o ⟨rfl,v,U,F,W,P,hl⟩ e Q;simp only at v U F P hl;simp at Q;obtain⟨h,f⟩:=Q;have R:=F.tp.lt;simp[f120,f,v.len];refine ik y.length B (λi e s=>Y e 0 (.fc r 0 0 0)/\Y e 1 I/\Y e 8 I/\Y e 9 (C y.length)/\Y e 10 (C i)/\vX Z L r (TI.hr o) s/\∃(l:T) (n:List Int),Y e 5 l/\Gr s l 1 (n.map (T.int .i64))/\(∀b,fq l=some b->o.size<=b)/\n.length<=i) ?_ ?_ B ⟨by simp[h],by simp[f],G,G,G,vX.refl W.hr (F.eq (iU o r)),_,[],G,Gr.nil _ _,G,ax _⟩
 ·rintro i e s S E ⟨h,f,u,q,p,m,l,n,t,go,j,aN⟩;have O:Gr s I 1 (y.map (T.int .i64)):=v.mono λb c=>by
   have⟨_,_,_,_,z,_⟩:=v.box c;exact(m.w.get b (H.gh z) λD=>U (by rw[<-D];exact c)).trans (iU o b)
  have⟨bg,bi,bC,bn,bH,_,an,av,K⟩:=O.Bd (te:=Ek) rfl (i:=i) (by simpa using S);have al:binop .add (C (i:Int)) (C 3)=some (C ((i:Int)+3)):=jp B B;simp at K;simp[h,f,u,q,p,S,an,av,K,al,O.len];have⟨k,aA,ap,bs,t2,ab⟩:=Ug (tb:=⟨pt [],ht [(79,mn)]⟩) G m.g m.w.ok P 2 B B;refine ab3 (λc=>?_) (λc=>?_)
  ·simp[ap,c];refine⟨_,_,⟨rfl,rfl⟩,?_⟩;have A:=(m.call ab t2).le (Nat.le_succ Z);have aX:fq l≠some r:=λz=>by have:=j r z;omega
   have N:Gr aA l 1 (n.map (T.int .i64)):=go.mono λb c=>ab.get b λD=>aX (by rw[<-D];exact c);simp;refine fN (λaE=>?_) (λaE=>?_)
   ·have⟨bB,bp,ae,bu,bA,J⟩:=(Xt.refl N A.w.ok).Ya y[i] B;simp[h,f,t,u,q,p,ae,E];exact⟨A.xt J j R,_,J.1,λb c=>(J.2.2.1 b c).elim (j b) λz=>by have:=A.w.size;simp at this;omega,dR⟩
   ·simp[h,f,t,u,q,p,E];exact⟨A,_,N,j,B⟩
  ·simp[c];refine⟨_,_,⟨rfl,rfl⟩,?_⟩;simp[h,f,t,u,q,p,E];exact⟨m,_,go,j,B⟩
 ·rintro e s ⟨h,f,u,q,p,m,l,n,t,go,j,aN⟩;simp[t,q,p];exact m.cut W R (go.adZ (d:=1) B j λx o V=>iO ..) λa7 a8=>⟨n,rfl,dS,a8,a7⟩
structure Yl where
 (L:List Int) (b p:Nat) (x0 x1 x2 x3 x4 x5 v:T) (K:List Int)
def sZ(a:Yl)(d:List T)(c:H):Prop:=d=[.fc a.b 0 0 0,.eZ [a.x0,a.x1,a.x2,a.x3,a.x4,a.x5,a.v]]/\yj a.p a.L a.b c/\iQ 0 c/\okB a.L/\a.K.length<=98/\Gr c a.v 1 (a.K.map (T.int .i64))/\fq a.v≠some a.b/\(T.eZ [a.x0,a.x1,a.x2,a.x3,a.x4,a.x5,a.v]).jc=true
def qq(a:Yl)(g:List T)(e:H)(f:T)(d:H):Prop:=∃c:Int,f= C c/\-1<=c/\c<a.K.length/\yj a.p a.L a.b d/\Sm a.b e d
def yW{g:Nat}{d:List Int}{c:Nat}{a b:H}(l:vX g d c (TI.hr a) b)(k:iQ 0 a)(i:c<a.size){e:ao}{f:Int}{h:T->H->Prop}
 (j:Sm c a (xH a b)->yj g d c (xH a b)->h (.int e f) (xH a b)):Bc a (.int e f) b h:=l.cut k i ⟨_,rfl,rfl⟩ j
def OX:(km Yl sZ qq).Ok prog cx 80:=by
 refine ue (tb:=⟨pt [],ht [(79,mn)]⟩) jv jl (jF 4194363 [] func80) (λ_ _=>5) (λi a c av=>by obtain⟨rfl,_⟩:=av;simp[f80]) ?_;rintro⟨R,j,O,p,r,s,t,u,v,k,b⟩ _ c ⟨rfl,n,N,I,hl,e,M,l⟩ bs J;simp only at n I hl e M l;simp at J;obtain⟨D,E⟩:=J;have ab:=n.tp.lt;have bg:(j=c.size)=False:=dR;have o:=(vX.refl N.hr (n.eq (iU c j))).cons (X 7 0 [.eZ [p,r,s,t,u,v,k]]);have⟨d,F,z,bi,t2,P⟩:=Ug (tb:=⟨pt [],ht [(79,mn)]⟩) G o.g o.w.ok I (b.length+2) B B;have Q:=(o.call P t2).le (Nat.le_succ O);have V:=(P.get c.size B).trans (by rw[fk,pZ,au rfl]);have x:binop .add (C (b.length:Int)) (C 2)=some (C ((b.length:Int)+2)):=jp B B;have fin:∀h:Int,-1<=h->h<b.length->Bc c (C h) F (qq ⟨R,j,O,p,r,s,t,u,v,k,b⟩ [.fc j 0 0 0,.eZ [p,r,s,t,u,v,k]] c):=λh aA aE=>yW Q N ab λaN aX=>⟨h,rfl,aA,aE,aX,aN⟩;have bn:=e.cells;have L:=e.len (cx:=cx);by_cases al:(d:Int)-2<0
 ·have m:binop .sub (C (d:Int)) (C 2)=some (C ((d:Int)-2)):=HI rfl B B;simp[f80,D,E,x,z,m,al,l,L];exact fin _ B B
 have⟨f,ap⟩:∃f:Nat,(d:Int)-2=f:=⟨d-2,B⟩;have m:binop .sub (C (d:Int)) (C 2)=some (C (f:Int)):=HI ap B B;have an:f<b.length:=B;have Z:Gr F k 1 (b.map (T.int .i64)):=e.mono λy K=>by
  have⟨_,_,_,_,q,_⟩:=e.box K;have:=H.gh q;exact(Q.w.get y (by simpa using this) λS=>M (by rw[<-S];exact K)).trans (iU c y)
 have⟨a6,a7,bp,a8,bu,_,U,W,A⟩:=Z.Bd (te:=Ek) rfl (i:=f) (by simpa using an);simp at A;simp[f80,D,E,x,z,m,V,l,L,U,W,A];refine fN (λae=>?_) (λae=>?_)
 ·simp;exact fin _ B B
 ·simp;exact fin _ B B 
def vX.next{tb:io}{k:Nat}{e:List Int}{c:Nat}{j f:H}(i:vX k e c j f)(ht:tb.h 79=some mn)(o:okB e)(b:Int)(n:1<=b)(a:b<=100):
 ∃(d:Nat) (a:H),hl prog cx tb 79 [.fc c 0 0 0,C b] f=some (C d,a)/\(d:Int)<b/\vX (k+1) e c j a/\Sm c f a:=by
 obtain⟨d,a,m,p,t2,l⟩:=Ug ht i.g i.w.ok o b n a;exact⟨d,a,m,p,i.call l t2,l⟩
structure Mg where
 (L:List Int) (b p:Nat) (k t:Int)
def CO(a:Mg)(d:List T)(c:H):Prop:=d=[.fc a.b 0 0 0,C a.k,C a.t]/\yj a.p a.L a.b c/\iQ 0 c/\okB a.L/\0<=a.t/\a.t<4/\1<=a.k/\a.k<=23
def vI(a:Mg)(g:List T)(e:H)(f:T)(d:H):Prop:=∃c:Int,f= C c/\-1<=c/\(a.k=3\/a.k=4->0<=c/\c<5)/\yj a.p a.L a.b d/\Sm a.b e d
def aew:(km Mg CO vI).Ok prog cx 118:=by
 refine ue (tb:=⟨pt [],ht [(79,mn)]⟩) jv jl (jF 8659206599 [] func118) (λ_ _=>5) (λS a e L=>by obtain⟨rfl,_⟩:=L;simp[f118]) ?_;rintro⟨m,b,j,c,f⟩ _ e ⟨rfl,v,q,x,M,N,J,K⟩ T y;simp only at v x M N J K;simp at y;obtain⟨p,n,I⟩:=y;have z:=v.tp.lt;have g:=vX.refl q.hr (v.eq (iU e b));have o:=λ{i:H} (g:vX j m b (TI.hr e) i)=>g.next (tb:=⟨pt [],ht [(79,mn)]⟩) G x;have fin:∀(i:H) (d:Int),vX (j+1) m b (TI.hr e) i->-1<=d->(c=3\/c=4->0<=d/\d<5)->Bc e (C d) i (vI ⟨m,b,j,c,f⟩ [.fc b 0 0 0,C c,C f] e):=λi d g r R=>yW (g.le (Nat.le_succ j)) q z λs u=>⟨d,rfl,r,R,u,s⟩;by_cases D:c=3\/c=4
 ·obtain⟨k,E,h,A,l,t⟩:=o (g.cons (X 1 0 [C 0,C 0,C 0,C 1,C 1,C 2,C 3,C 4])) 8 B B;have w:=(t.get e.size B).trans (by rw[fk,pZ,au rfl]);rcases D with rfl|rfl<;>simp[f118,p,n,h,w]<;>rcases(by omega:k=0\/k=1\/k=2\/k=3\/k=4\/k=5\/k=6\/k=7)with rfl|rfl|rfl|rfl|rfl|rfl|rfl|rfl<;>simp[w]<;>exact fin _ _ l B B
 by_cases P:c=6\/c=7
 ·obtain⟨k,E,h,A,l,t⟩:=o g 2 B B;rcases P with rfl|rfl<;>simp[f118,p,n,h]<;>exact fin _ _ l B B
 by_cases O:c=20\/c=21
 ·obtain⟨k,E,h,A,l,t⟩:=o g 3 B B;have a1:binop .add (C f) (C 1)=some (C (f+1)):=Cs rfl B B;have a2:binop .add (C (f+1)) (C (k:Int))=some (C (f+1+k)):=Cs rfl B B;have a3:=D1 (k:= .i64) (a:=f+1+k) (b:=4) B;have t0:=Int.tmod_nonneg 4 (show 0<=f+1+k by omega);rcases O with rfl|rfl<;>simp[f118,p,n,I,h,a1,a2,a3]<;>exact fin _ _ l B B
 have F:∀d:Int,-1<=d->Bc e (C d) (TI.hr e) (vI ⟨m,b,j,c,f⟩ [.fc b 0 0 0,C c,C f] e):=λd r=>yW g q z λs u=>⟨d,rfl,r,λQ=>(D Q).elim,u,s⟩;rcases(by omega:c=1\/c=2\/c=5\/c=8\/c=9\/c=10\/c=11\/c=12\/c=13\/c=14\/c=15\/c=16\/c=17\/c=18\/c=19\/c=22\/c=23)with rfl|rfl|rfl|rfl|rfl|rfl|rfl|rfl|rfl|rfl|rfl|rfl|rfl|rfl|rfl|rfl|rfl<;>simp[f118,n]<;>exact F _ B 
structure Me where
 (L:List Int) (b p:Nat) (s:gH) (k o:Int)
def CN(a:Me)(d:List T)(c:H):Prop:=d=[.fc a.b 0 0 0,a.s.t,C a.k,C a.o]/\yj a.p a.L a.b c/\iQ 0 c/\okB a.L/\(a.k=3->0<=a.o/\a.o<a.s.cells.length)/\1<=a.s.fH.length/\a.s.gu.ee.length<=98
def vH(a:Me)(g:List T)(d:H)(e:T)(c:H):Prop:=∃f:Int,e= C f/\yj a.p a.L a.b c/\Sm a.b d c
def abz{tb:io}(ht:tb.p 161=some BL.kc){s:gH}(c:s.gu.ee.length<=1000):∃a:List Int,a.length<=s.gu.ee.length/\rl prog cx tb 161 [s.t]=some (sl (a.map (T.int .i64))):=by
 obtain⟨_,⟨a,rfl,hl⟩,b⟩:=BL.use s c;exact⟨a,hl,b ht⟩
def aer:(km Me CN vH).Ok prog cx 119:=by
 refine ue (tb:=⟨pt [(161,BL.kc)],ht [(79,mn)]⟩) jv jl (jF 141296388017967 [] func119) (λ_ _=>5) (λi a c ae=>by obtain⟨rfl,_⟩:=ae;simp[f119]) ?_;rintro⟨p,d,n,s,b,g⟩ _ c ⟨rfl,E,z,I,v,V,al⟩ aE J;simp only at E I v V al;simp at J;obtain⟨u,k,l,U⟩:=J;have K:=E.tp.lt;have o:=(vX.refl z.hr (E.eq (iU c d))).cons (X 7 0 [s.t]);have q:=o.next (tb:=⟨pt [(161,BL.kc)],ht [(79,mn)]⟩) G I;have j:∀e:Int,Bc c (C e) _ (vH ⟨p,d,n,s,b,g⟩ [.fc d 0 0 0,s.t,C b,C g] c):=λe=>yW o z K λA D=>⟨e,rfl,D,A⟩;have fin:∀(r:H) (e:Int),vX (n+1) p d (TI.hr c) r->Bc c (C e) r (vH ⟨p,d,n,s,b,g⟩ [.fc d 0 0 0,s.t,C b,C g] c):=λr e o=>yW (o.le (Nat.le_succ n)) z K λA D=>⟨e,rfl,D,A⟩;have aA:(d=c.size)=False:=dR;by_cases x:b=3
 ·obtain⟨y,Z⟩:∃y:Nat,g=y:=⟨g.toNat,by have:=v x;omega⟩;have ab:y<s.cells.length:=by have:=v x;omega
  subst x;subst Z;simp[f119,k,l,U,ab];exact j _
 by_cases an:b=23
 ·subst an;simp[f119,k,l,show 0<s.fH.length by omega];exact j _
 by_cases ap:b=4\/b=22
 ·obtain⟨w,O,h,L,m,N⟩:=q 3 B B;rcases ap with rfl|rfl<;>simp[f119,u,k,l,h]<;>exact fin _ _ m
 by_cases av:b=5
 ·obtain⟨w,O,h,L,m,N⟩:=q 2 B B;subst av;simp[f119,u,k,l,h];exact fin _ _ m
 have R:decide (b=3)=false:=aS B;have Q:decide (b=23)=false:=aS B;have S:decide (b=4)=false:=aS B;have P:decide (b=22)=false:=aS B;have T:decide (b=5)=false:=aS B;obtain⟨M,hl,F⟩:=abz (tb:=⟨pt [(161,BL.kc)],ht [(79,mn)]⟩) G (s:=s) B;simp[f119,k,l,R,Q,S,P,T];refine fN (λf=>?_) (λf=>?_)
 ·simp[F];refine fN (λf=>?_) (λf=>?_)
  ·obtain⟨w,O,h,L,m,N⟩:=q M.length (by simp at f;omega) B;have W:w<M.length:=B;simp[u,h,W];exact fin _ _ m
  ·simp;exact j _
 simp;refine fN (λf=>?_) (λf=>?_)
 ·simp[F];exact j _
 ·simp;exact j _
section
def _root_.Go.TI.oJ.copy{h a:H}{i w0 g q k:Nat}{c:List (T×aa (Nat×List T))}(f:oJ h i g q c)(p:iQ 0 a)(n:a.get w0=some (X g k [.eZ (c.map (·.1))]))(o:∀e,Fp h i e->a.get e=h.get e):oJ a w0 g k c:=by
 refine⟨p,n,λl j=>?_,f.Zw⟩;have:=f.Xn l j;unfold Fld at this|-;split at this
 ·exact this
 ·exact⟨this.1.mono λb m=>o b (f.Ew j m),this.2⟩
structure DY where
 (ver:Nat) (tx:Int) (c:Nat->T) (E:Nat->List T)
def DY.F(d:DY):List (T×aa (Nat×List T)):=[(d.c 0,some (2,d.E 0)),(C d.tx,none),(d.c 2,some (1,d.E 2)),(d.c 3,some (3,d.E 3)),(d.c 4,some (1,d.E 4)),(d.c 5,some (1,d.E 5)),(d.c 6,some (1,d.E 6))]
def DY.Sr(d:DY)(f:Nat)(e:List T):DY:=⟨d.ver,d.tx,d.c,λa=>if a=f then e else d.E a⟩
def bgN(a:Nat):Nat:=if a=0 then 3 else if a=3\/a=6 then 4 else if a=4 then 5 else 1
def bgZ(a:Nat):Nat:=if a=0 then 2 else if a=3 then 3 else 1
def RvP(h:H)(w0:Nat)(y:H)(e:T):Prop:=e= dV\/∃(a:Nat) (c:Int),e= .arr a 0 0 1 false/\y.get a=some (X 1 0 [C c])/\0<=c/\c<4/\¬Fp y w0 a/\h.size<=a
def X7(h:H)(w0:Nat)(y:H)(c:Nat)(a:T):Prop:=
 if c=0 then∃(g:Int) (f:T),a= .eZ [C g,f]/\RvP h w0 y f
 else if c=2 then∃b,a= .ez b
 else if c=3 then∃i:ei,a=i.t
 else∃e:Int,a= C e/\(c=6->0<=e/\e<=4)
structure Cy(L:List Int)(b:Nat)(h:H)(w0:Nat)(d:DY)(y:H):Prop where
 s:oJ y w0 7 d.ver d.F
 tw:vX 0 L b (TI.hr h) y
 fp:∀c,Fp y w0 c->h.size+2<=c
 rb:y.get (h.size+1)=some pH
 ln:∀k,(d.E k).length=bgN k
 pr:∀k,∀e∈d.E k,X7 h w0 y k e
variable {L:List Int}{b:Nat}{h y y2:H}{w0:Nat}{d:DY}
def Cy.RT(a:Cy L b h w0 d y):h.size+2<=y.size:=by have:=a.fp w0 (.inl rfl);have:=a.s.lt;omega
def Cy.nfr(a:Cy L b h w0 d y):¬Fp y w0 (h.size+1):=λc=>by have:=a.fp _ c;omega
def RvP.step{f:T}(p:RvP h w0 y f)(l:∀a,h.size<=a->a<y.size->¬Fp y w0 a->y2.get a=y.get a/\¬Fp y2 w0 a):RvP h w0 y2 f:=by
 rcases p with o|⟨g,q,rfl,c,i,j,k,e⟩
 ·exact .inl o
 ·have⟨m,n⟩:=l g e (H.gh c) k;exact .inr ⟨g,q,rfl,m.trans c,i,j,n,e⟩
def X7.step{g:Nat}{f:T}(c:X7 h w0 y g f)(i:∀a,h.size<=a->a<y.size->¬Fp y w0 a->y2.get a=y.get a/\¬Fp y2 w0 a):X7 h w0 y2 g f:=by
 unfold X7 at c|-;split
 ·rename_i e;rw[au e]at c;obtain⟨j,m,k,l⟩:=c;exact⟨j,m,k,l.step i⟩
 ·rename_i e;rw[Z e]at c;exact c
def I4(e:Step w0 y y2):∀a,h.size<=a->a<y.size->¬Fp y w0 a->y2.get a=y.get a/\¬Fp y2 w0 a:=λa _ f c=>⟨e.get a f c,λg=>(e.fp a g).elim c λi=>by omega⟩
def Cy.tape(c:Cy L b h w0 d y)(e:Sm b y y2)(n:yj 0 L b y2)(q:b<h.size):Cy L b h w0 d y2:=by
 have i:∀a,Fp y w0 a->a≠b:=λa f j=>by have:=c.fp a f;omega
 have g:=λa=>jJ (e.get w0 (i w0 (.inl rfl))) a;exact⟨e.iP c.s λj=>i b j rfl,c.tw.call e n,λa f=>c.fp a (by rw[g]at f;exact f),(e.get _ B).trans c.rb,c.ln,λm o l=>(c.pr m o l).step λa p _ k=>⟨e.get a B,by rw[g];exact k⟩⟩
theorem Cy.cons(a:Cy L b h w0 d y)(c:jK):Cy L b h w0 d (y.cons c):=by
 have e:=Step.cons a.s.ok a.s.lt c;exact⟨a.s.cons c,a.tw.cons c,λf i=>(e.fp f i).elim (a.fp f) λl=>by have:=a.RT;omega,(e.get _ (by have:=a.RT;omega) a.nfr).trans a.rb,a.ln,λk g j=>(a.pr k g j).step (I4 e)⟩
def Cy.st(e:Cy L b h w0 d y)(z:b<h.size)(a:Nat)(u:d.F[a]? =some (d.c a,some (bgZ a,d.E a))){k p v:Nat}{q:Bool}{w:List T}(r:fq (d.c a)=some k)(t:y.get k=some ⟨bgZ a,p,v,q,false,w⟩)(i:Nat)(g:T)
 (x:(d.Sr a ((d.E a).set i g)).F=d.F.set a (d.c a,some (bgZ a,(d.E a).set i g))) (I:X7 h w0 y a g):Cy L b h w0 (d.Sr a ((d.E a).set i g)) (fJ y k ⟨bgZ a,p,v+1,q,false,w.set i g⟩):=by
 obtain⟨n,sl⟩:=e.s.elem a u r t i g;have D:=e.s.Ew (aC u) r;refine⟨by rw[x];exact sl,e.tw.put t (by have:=e.fp k D;simp;omega) (by simpa using z) _,λo A=>(n.fp o A).elim (e.fp o) λl=>by have:=e.RT;omega,(n.get _ (by have:=e.RT;omega) e.nfr).trans e.rb,λf=>?_,λf m j=>?_⟩
 ·show(if f=a then _ else _:List T).length=_;split
  ·rename_i l;subst l;rw[dg];exact e.ln f
  ·exact e.ln f
 ·have j:m∈(if f=a then(d.E a).set i g else d.E f):=j;refine X7.step ?_ (I4 n);split at j
  ·rename_i l;subst l;rcases cH j with J|rfl
   ·exact e.pr _ m J
   ·exact I
  ·exact e.pr f m j
def Cy.tx(a:Cy L b h w0 d y)(j:b<h.size)(e:Int):Cy L b h w0 ⟨d.ver+1,e,d.c,d.E⟩ (fJ y w0 ⟨7,0,d.ver+1,true,false,[.eZ [d.c 0,C e,d.c 2,d.c 3,d.c 4,d.c 5,d.c 6]]⟩):=by
 have⟨f,sl⟩:=a.s.ahM 1 (v':= C e) G ⟨_,rfl⟩ _ rfl;exact⟨sl,a.tw.put a.s.get (by have:=a.fp w0 (.inl rfl);simp;omega) (by simpa using j) _,λg k=>(f.fp g k).elim (a.fp g) λn=>by have:=a.RT;omega,(f.get _ (by have:=a.RT;omega) a.nfr).trans a.rb,a.ln,λm i l=>(a.pr m i l).step (I4 f)⟩
def xw{i:Type}{f:i->T}{P:i->Prop}:∀{e:List T},(∀c∈e,∃a,c=f a/\P a)->∃g:List i,e=g.map f/\∀a∈g,P a:=by
 intro e;induction e with
 |nil=>intro _;exact⟨[],rfl,G⟩
 |cons c e m=>
  intro h;obtain⟨a,rfl,l⟩:=h c G;obtain⟨g,rfl,j⟩:=m λc k=>h c (by simp[k]);exact⟨a::g,rfl,by simpa[l]using j⟩
def Cy.ld(i:Cy L b h w0 d y)(a:Nat)(r:d.F[a]? =some (d.c a,some (bgZ a,d.E a))){te:Ty}(u:te.size=bgZ a){j:Nat}(t:j<bgN a):∃e f l k g m,fq (d.c a)=some e/\mo y te (d.c a) j=some (.val (.fc e f j 0) y)/\y.get e=some ⟨bgZ a,f,l,k,false,g⟩/\g[j]? =some m/\X7 h w0 y a m:=by
 have hE:j<(d.E a).length:=by rw[i.ln];exact t
 have⟨e,f,l,k,g,q,n,p,o⟩:=(i.s.gr a r).Bd (te:=te) u (i:=j) hE;exact⟨e,f,l,k,g,_,q,n,p,o,i.pr a _ (aG hE)⟩
end
section
attribute [-simp] size_cons
structure IBg where
 (L:List Int) (b:Nat)
def Zd(a:IBg)(d:List T)(c:H):Prop:=d=[.fc a.b 0 0 0,kj.t]/\yj 0 a.L a.b c/\iQ 0 c/\okB a.L
structure J6(s:gH):Prop where
 n:s.gu.fI.length=3/\s.gu.done.length=1/\s.gu.ee.length=4/\s.cells.length=5/\s.fH.length=1/\s.count.length=4
 c:∀c∈s.count,0<=c/\c<=4
 r:∀l∈s.gu.fI,l.fO.length<=1/\∀x∈l.fO,0<=x/\x<4
def MX(a:IBg)(g:List T)(e:H)(f:T)(c:H):Prop:=∃d:gH,f=d.t/\J6 d/\yj 0 a.L a.b c/\Sm a.b e c
def Vt{e:Type}{f:e->T}{R:T->T->Prop}{P:e->Prop}:∀{c:List T},(∀b∈c,∃a,R b (f a)/\P a)->∃d:List e,jw R c (d.map f)/\∀a∈d,P a:=by
 intro c;induction c with
 |nil=>intro _;exact⟨[],.nil,G⟩
 |cons b c k=>
  intro g;have⟨a,hr,j⟩:=g b G;have⟨d,hl,h⟩:=k λb i=>g b (by simp[i]);exact⟨a::d,.cons hr hl,by simpa[j]using h⟩
def Cy.fin{w:List Int}{p:Nat}{g n:H}{bB:Nat}{d:DY}(b:Cy w p g bB d n)(bp:iQ 0 g)(L:p<g.size)(k:jK)(av:List T):Bc g (.eZ [d.c 0,C d.tx,d.c 2,d.c 3,d.c 4,d.c 5,d.c 6]) (fJ n (g.size+1) k) (MX ⟨w,p⟩ av g):=by
 have J:=λe=>eG b.rb k e;have l:∀(f u:Nat),d.F[f]? =some (d.c f,some (u,d.E f))->Gr (fJ n (g.size+1) k) (d.c f) u (d.E f)/\∀e,fq (d.c f)=some e->g.size<=e:=λf u M=>by
  have I:=λe (o:fq (d.c f)=some e)=>b.fp e (b.s.Ew (aC M) o);exact⟨(b.s.gr f M).mono λe o=>by rw[J,Z (by have:=I e o;omega)],λe o=>by have:=I e o;omega⟩
 obtain⟨an,a0,p0⟩:=Vt (f:=fa.t) (R:=FT (fJ n (g.size+1) k) (λe=>g.size<=e) 3) (P:=λm=>m.fO.length<=1/\∀a∈m.fO,0<=a/\a<4) λi j=>by
  obtain⟨W,bT,rfl,bg⟩:=b.pr 0 i j;rcases bg with rfl|⟨a,v,rfl,r,bC,bH,bN,bS⟩
  ·exact⟨⟨W,[]⟩,.inr (.inr ⟨_,_,rfl,.cons (iO ..) (.cons (j9 ..) .nil),rfl⟩),G⟩
  ·have bi:a≠g.size+1:=λh=>by rw[h,b.rb]at r;simp[pH]at r
   have a8:Gr (fJ n (g.size+1) k) (.arr a 0 0 1 false) 1 ([v].map (T.int .i64)):= .inr ⟨a,0,0,true,[C v],rfl,by rw[J,Z bi];exact r,rfl⟩;exact⟨⟨W,[v]⟩,.inr (.inr ⟨_,_,rfl,.cons (iO ..) (.cons (a8.ft (d:=1) (λe h=>by simp at h;omega) (.cons (iO ..) .nil)) .nil),rfl⟩),dR⟩
 obtain⟨ae,x,_⟩:=xw (f:=T.ez) (P:=λ_=>True) λi j=>by
  have⟨a,h⟩:=b.pr 2 i j;exact⟨a,h,trivial⟩
 obtain⟨ap,y,_⟩:=xw (f:=ei.t) (P:=λ_=>True) λi j=>by
  have⟨a,h⟩:=b.pr 3 i j;exact⟨a,h,trivial⟩
 obtain⟨ab,z,_⟩:=xw (f:=T.int .i64) (P:=λ_=>True) λi j=>by
  have⟨a,h,_⟩:=b.pr 4 i j;exact⟨a,h,trivial⟩
 obtain⟨al,A,_⟩:=xw (f:=T.int .i64) (P:=λ_=>True) λi j=>by
  have⟨a,h,_⟩:=b.pr 5 i j;exact⟨a,h,trivial⟩
 obtain⟨K,D,p6⟩:=xw (f:=T.int .i64) (P:=λV=>0<=V/\V<=4) λi j=>by
  have⟨a,h,bs⟩:=b.pr 6 i j;exact⟨a,h,bs rfl⟩
 have l0:=b.ln 0;have l2:=b.ln 2;have l3:=b.ln 3;have l4:=b.ln 4;have l5:=b.ln 5;have l6:=b.ln 6;have lk:=a0.length;rw[x]at l2;rw[y]at l3;rw[z]at l4;rw[A]at l5;rw[D]at l6;simp[bgN]at l0 l2 l3 l4 l5 l6 lk;have⟨bn,aA⟩:=l 0 2 rfl;have⟨N,aE⟩:=l 2 1 rfl;have⟨O,aN⟩:=l 3 3 rfl;have⟨Q,aX⟩:=l 4 1 rfl;have⟨S,a6⟩:=l 5 1 rfl;have⟨U,a7⟩:=l 6 1 rfl;rw[x]at N;rw[y]at O;rw[z]at Q;rw[A]at S;rw[D]at U;have q:∀m:List Int,jw (FT (fJ n (g.size+1) k) (λe=>g.size<=e) 3) (m.map (T.int .i64)) (m.map (T.int .i64)):=λm=>zU λa=>iO ..;exact(b.tw.put b.rb G (by simpa using L) k).cut bp L (FT.top (Vq:=λe=>g.size<=e) (d:=4) B (λ_ h=>h) (.cons (bn.ft aA a0) (.cons (iO ..) (.cons (N.ft aE (zU λa=>Qb ..)) (.cons (O.ft aN (zU λa=> .inr (.inr ⟨a.cs,a.cs,rfl,.cons (iO ..) (.cons (iO ..) (.cons (Qb ..) .nil)),rfl⟩))) (.cons (Q.ft aX (q _)) (.cons (S.ft a6 (q _)) (.cons (U.ft a7 (q _)) .nil)))))))) λbu bA=>
  ⟨⟨⟨an,d.tx,ae,ap⟩,ab,al,K⟩,rfl,⟨⟨dS,l2,l3,l4,l5,l6⟩,p6,p0⟩,bA,bu⟩
def ah3:(km IBg Zd MX).Ok prog cx 41:=by
 refine ue (tb:=⟨pt [],ht [(79,mn),(44,km fy M1 MP),(80,km Yl sZ qq)]⟩) jv jl (jF 39027670543808336620727472465805308762228731 [(10,[(1,4)]),(11,[(2,5)]),(27,[(1,3)]),(31,[(1,4)])] func41) (λ_ _=>10) (λy a A eF=>by obtain⟨rfl,_⟩:=eF;simp[f41]) ?_;rintro⟨L,r⟩ _ A ⟨rfl,eS,fo,bu⟩ h ff;simp only at eS bu;simp at ff;obtain⟨i,eA⟩:=ff;have J:=eS.tp.lt;have hH:(r=A.size)=False:=dR;have hI:(r=A.size+1)=False:=dR;have bC:=((vX.refl fo.hr (eS.eq (iU A r))).cons (X 6 0 [kj.t])).cons pH;simp[f41,eA];generalize dd:((TI.hr A).cons _).cons _=ec;replace bC:vX 0 L r (TI.hr A) ec:=by rw[<-dd];exact bC
 have hO:ec.size=A.size+2:=by rw[<-dd];simp[size_cons]
 have fC:ec.get (A.size+1)=some pH:=by rw[<-dd];simp[pH,size_cons]
 clear dd;refine jB aes G kj ⟨rfl,bC.w.ok,dT,dT,dT,dT⟩ ?_;rintro _ aX ⟨eV,eW,eX,e0,e4,e5,rfl,k,hK,b7,eu,dk,cd⟩;have hN:=dk.sz;have eK:=dk.low;simp[eK,(b7.gr 6 rfl).len (cx:=cx)];have gZ:∀I,Fp aX k I->I≠r:=λI al V=>by have:=eu I al;omega
 generalize b6:aX.cons _=cL;have eL:iQ 0 cL:=by rw[<-b6];exact iQ.cons ⟨dk.hp,eK,ay _⟩ _
 have a7:∀I,cL.get I=if I=aX.size then some (X 7 1 [.eZ [eV,C (-1),eW,eX,e0,e4,e5]])else aX.get I:=λI=>by rw[<-b6,fk]
 have fE:cL.size=aX.size+1:=by rw[<-b6,size_cons]
 clear b6;have eP:=λI (al:Fp aX k I)=>b7.fp I al;obtain⟨ed,dv⟩:∃ed,Cy L r A aX.size ed cL:=by
  refine⟨⟨1,-1,λp=>if p=0 then eV else if p=2 then eW else if p=3 then eX else if p=4 then e0 else if p=5 then e4 else e5,λp=>if p=0 then(List.replicate 3 ()).map Bo else if p=2 then [false].map T.ez else if p=3 then(CD 4).map ei.t else if p=4 then [0,1,0,0,0].map (T.int .i64)else if p=6 then(List.replicate 4 0).map (T.int .i64)else(List.replicate 1 0).map (T.int .i64)⟩,?_,⟨⟨eL,dR,λI al de=>?_,?_⟩,?_⟩,?_,?_,λp=>?_,λp e Q=>?_⟩
  ·exact b7.copy eL (by rw[a7,au rfl];rfl) λI al=>by rw[a7,Z (by have:=eP I al;omega)]
  ·have al:I<A.size:=by simpa using al
   exact(a7 I).trans ((Z B).trans ((cd I B).trans (bC.w.get I (by simpa using al) de)))
  ·exact bC.w.tp.eq ((a7 r).trans ((Z B).trans (cd r B)))
  ·exact bC.g.eq ((a7 r).trans ((Z B).trans (cd r B)))
  ·intro I al;rcases(b7.copy eL (by rw[a7,au rfl];rfl) λI al=>by rw[a7,Z (by have:=eP I al;omega)]:oJ cL aX.size 7 1 _)with⟨_,gw,_,_⟩;rcases al with rfl|⟨x,eI,v,gS,V⟩
   ·omega
   ·rw[gw]at eI;simp only[aw]at eI;subst eI;have:=eu I (.inr ⟨_,b7.get,v,gS,V⟩);omega
  ·exact(a7 _).trans ((Z B).trans ((cd _ B).trans fC))
  ·unfold bgN;by_cases cp:p=0
   ·subst cp;rfl
   by_cases bn:p=2
   ·subst bn;rfl
   by_cases cF:p=3
   ·subst cF;rfl
   by_cases fs:p=4
   ·subst fs;rfl
   by_cases fv:p=6
   ·subst fv;rfl
   simp[cp,bn,cF,fs,fv]
  ·unfold X7;by_cases cp:p=0
   ·subst cp;simp at Q;subst Q;exact⟨_,_,rfl,.inl rfl⟩
   by_cases bn:p=2
   ·subst bn;simp at Q;subst Q;exact⟨_,rfl⟩
   by_cases cF:p=3
   ·subst cF;simp only[Z (show¬(3:Nat)=0 by decide),Z (show¬(3:Nat)=2 by decide),au]at Q|-;obtain⟨b8,_,rfl⟩:=List.mem_map.1 Q;exact⟨b8,rfl⟩
   simp only[Z cp,Z bn,Z cF]at Q|-;have:∃l:List Int,e∈l.map (T.int .i64)/\(p=6->l=List.replicate 4 0):=by
    split at Q
    ·exact⟨_,Q,λV=>by omega⟩
    split at Q
    ·exact⟨_,Q,λ_=>rfl⟩
    ·exact⟨_,Q,λV=>by omega⟩
   obtain⟨l,hl,c9⟩:=this;obtain⟨W,de,rfl⟩:=List.mem_map.1 hl;refine⟨W,rfl,λV=>?_⟩;rw[c9 V]at de;simp at de;omega
 clear b7 eu dk cd eK gZ a7 fE eP bC fC;have fE:A.size+2<=aX.size:=B;generalize aX.size=N at*
 refine ik 4 B (λy h D=>(∃d,Cy L r A N d D)/\Y h 0 (.fc r 0 0 0)/\Y h 4 (.fc (A.size+1) 0 0 0)/\Y h 5 (.fc N 0 0 0)/\Y h 15 (C 4)/\Y h 16 (C y)) ?_ ?_ B ⟨⟨ed,dv⟩,by simp[i,show(kj.ee.length:Int)=4 from rfl]⟩
 ·clear dv i eA;rintro y h D bN bi ⟨⟨d,b⟩,i,q,n,av,aA⟩;have gF:(y:Int)<4:=B;obtain⟨p,b9,O,fl,bp,ab⟩:=(b.cons (X 1 0 [C 2,C 2,C 2,C 2,C 0,C 1,C 3,C 4,C 5])).tw.next (tb:=⟨pt [],ht [(79,mn),(44,km fy M1 MP),(80,km Yl sZ qq)]⟩) G bu 9 B B;have hP:=b.RT;have c1:=(b.cons _).tape ab (bp.g.le (ay _)) J;have e8:=(ab.get D.size B).trans (by rw[fk,au rfl]);obtain⟨fA,e7⟩:∃fA:Int,∀fl,([C 2,C 2,C 2,C 2,C 0,C 1,C 3,C 4,C 5]:List T)[p]'fl= C fA:=by
   rcases(by omega:p=0\/p=1\/p=2\/p=3\/p=4\/p=5\/p=6\/p=7\/p=8)with rfl|rfl|rfl|rfl|rfl|rfl|rfl|rfl|rfl<;>exact⟨_,λ_=>rfl⟩
  have gP:p<9:=B;simp[i,av,aA,gF,O,e8,e7,gP];refine lV (λh hq=>b9=hq/\(∃eR,Y h 7 (C eR))/\Y h 0 (.fc r 0 0 0)/\Y h 4 (.fc (A.size+1) 0 0 0)/\Y h 5 (.fc N 0 0 0)/\Y h 6 (C y)/\Y h 15 (C 4)/\Y h 16 (C y)) (λU=>by simp[i,q,n,av,aA]) (λU=>by simp[i,q,n,av,aA]) ?_;clear O e8 e7 bp ab i q n av aA;rintro h _ ⟨rfl,⟨eR,gy⟩,i,q,n,c9,av,aA⟩;have k:=c1.s.get;simp[DY.F]at k;obtain⟨bT,c4,dm,c6,dn,_,a6,aE,S,aN,b8,rfl⟩:=c1.ld 3 rfl (te:=Kf) rfl (j:=y) bN;have bB:=c1.st J 3 rfl a6 S y (ei.t ⟨eR,0,false⟩) rfl ⟨_,rfl⟩;simp[n,c9,gy,k,aE,S,aN];clear c1 k aE S aN a6;generalize d.Sr 3 _=ef at bB;generalize fJ b9 _ _=ds at*
  refine fN (λU=>?_) (λU=>?_)
  ·obtain⟨bA,ae,O,eE,bH,bS⟩:=bB.tw.next (tb:=⟨pt [],ht [(79,mn),(44,km fy M1 MP),(80,km Yl sZ qq)]⟩) G bu 3 B B;have an:=bB.tape bS (bH.g.le (ay _)) J;have ap:=bB.s.get;have bs:=an.s.get;simp[DY.F]at ap bs;obtain⟨bT,c4,dm,c6,dn,_,a6,aE,S,aN,W,rfl,_⟩:=an.ld 6 rfl (te:=Ek) rfl (j:=y) bN;have fW:binop .add (C 1) (C (bA:Int))=some (C (1+bA)):=Cs rfl B B;have sv:gU ds ae N=true:=il (bs.trans ap.symm);have R:=an.st J 6 rfl a6 S y (C (1+bA)) rfl ⟨_,rfl,λ_=>by omega⟩;generalize gz:fJ ae bT _=hs at R;generalize ef.Sr 6 _=hA at R;obtain⟨gX,hv,gg,hD,fS,hf⟩:=R.tw.next (tb:=⟨pt [],ht [(79,mn),(44,km fy M1 MP),(80,km Yl sZ qq)]⟩) G bu 4 B B;have ea:=R.tape hf (fS.g.le (ay _)) J;have ey:=R.s.get;have e9:=ea.s.get;simp[DY.F]at ey e9;obtain⟨hy,hB,hL,hC,hM,_,gB,gd,fb,gi,b8,rfl⟩:=ea.ld 3 rfl (te:=Kf) rfl (j:=y) bN;have hg:gU hs hv N=true:=il (e9.trans ey.symm);have fP:=ea.st J 3 rfl gB fb y (ei.t ⟨b8.je,b8.cond,decide ((gX:Int)=3)⟩) rfl ⟨_,rfl⟩;simp[i,q,n,c9,av,aA,ap,O,fW,aE,S,aN,sv,gz,ey,gg,gd,fb,gi,hg,bi];exact⟨_,fP⟩
  ·simp[i,q,n,av,aA,bi];exact⟨ef,bB⟩
 clear dv i eA;rintro h D ⟨⟨d,b⟩,i,q,n,av,aA⟩;have k:=b.s.get;simp[DY.F]at k;have l0:=b.ln 0;simp[n,av,aA,k,(b.s.gr 0 rfl).len (cx:=cx),l0,bgN];refine ik 3 B (λy h D=>(∃d,Cy L r A N d D)/\Y h 0 (.fc r 0 0 0)/\Y h 4 (.fc (A.size+1) 0 0 0)/\Y h 5 (.fc N 0 0 0)/\Y h 63 (C 3)/\Y h 64 (C y)) ?_ ?_ B ⟨⟨d,b⟩,by simp[i,q,n]⟩
 ·clear b k l0 i q n av aA;rintro y h D bN bi ⟨⟨d,b⟩,i,q,n,a8,bg⟩;have gE:(y:Int)<3:=B;have k:=b.s.get;simp[DY.F]at k;simp[i,n,a8,bg,gE,k];obtain⟨K,bX,fe⟩:=xw (f:=T.int .i64) (P:=λW=>0<=W/\W<=4) λe Q=>by
   obtain⟨W,eM,bn⟩:=b.pr 6 e Q;exact⟨W,eM,bn rfl⟩
  have cb:K.length=4:=by rw[<-aI (f:=T.int .i64),<-bX];exact b.ln 6
  have bW:=b.s.gr 6 rfl;rw[bX]at bW;have di:fq (d.c 6)≠some r:=λV=>by have:=b.fp r (b.s.Ew (f:=(d.c 6,some (1,d.E 6))) (by simp[DY.F]) V);omega
  refine jB OX G ⟨L,r,0,d.c 0,C d.tx,d.c 2,d.c 3,d.c 4,d.c 5,d.c 6,K⟩ ⟨rfl,b.tw.g,b.tw.w.ok,bu,dS,bW,di,G⟩ ?_;rintro _ b9 ⟨u,rfl,fB,eU,t1,ab⟩;replace b:=b.tape ab t1 J;simp only[cb]at eU;clear bW di bX cb fe k t1 ab;simp;refine fN (λU=>?_) (λU=>?_)
  ·simp[i,q,n,a8,bg,bi];exact⟨d,b⟩
  obtain⟨m,rfl⟩:∃m:Nat,u=m:=⟨u.toNat,by simp at U;omega⟩;have gQ:m<4:=B;clear U fB eU;by_cases gD:y=2
  ·subst gD;have e6:binop .add (C 2) (C 1)=some (C 3):=by simpa using bi
   obtain⟨bA,ae,O,eE,bH,bS⟩:=b.tw.next (tb:=⟨pt [],ht [(79,mn),(44,km fy M1 MP),(80,km Yl sZ qq)]⟩) G bu 2 B B;replace b:=b.tape bS (bH.g.le (ay _)) J;simp[i,O];have eb:=b.cons (X 1 0 [C m]);obtain⟨bT,c4,dm,c6,dn,_,a6,aE,S,aN,o,eO,rfl,eH⟩:=b.ld 0 rfl (te:=Sa) rfl (j:=2) dT;obtain⟨fX,gj,hh,gm,hn,_,fi,eh,c7,er,hb,hJ,rfl,hF⟩:=eb.ld 0 rfl (te:=Sa) rfl (j:=2) dT;have k:=b.s.get;have gv:=eb.s.get;simp[DY.F]at k gv;refine fN (λU=>?_) (λU=>?_)
   ·have ha:¬Fp (ae.cons (X 1 0 [C m])) N ae.size:=λV=>by
     have e:(ae.cons (X 1 0 [C m])).get N=ae.get N:=by rw[fk,Z (by have:=b.s.lt;omega)]
     rw[jJ e]at V;have:=b.s.fp _ V;omega
    have R:=eb.st J 0 rfl fi c7 2 (.eZ [C hb,.arr ae.size 0 0 1 false]) rfl ⟨_,_,rfl,.inr ⟨ae.size,m,rfl,by rw[fk,au rfl],B,B,ha,by have:=b.RT;omega⟩⟩;have hG:(N=ae.size)=False:=by have:=b.s.lt;simp;omega
    simp[i,q,n,a8,bg,k,eh,c7,er,e6];exact⟨_,R⟩
   ·have R:=b.st J 0 rfl a6 S 2 (.eZ [C m,eO]) rfl ⟨_,_,rfl,eH⟩;simp[i,q,n,a8,bg,k,aE,S,aN,e6];exact⟨_,R⟩
  ·obtain⟨bT,c4,dm,c6,dn,_,a6,aE,S,aN,o,eO,rfl,eH⟩:=b.ld 0 rfl (te:=Sa) rfl (j:=y) bN;obtain⟨fX,gj,hh,gm,hn,_,fi,eh,c7,er,b8,rfl⟩:=b.ld 3 rfl (te:=Kf) rfl (j:=m) gQ;have k:=b.s.get;simp[DY.F]at k;have R:=b.st J 0 rfl a6 S y (.eZ [C m,eO]) rfl ⟨_,_,rfl,eH⟩;simp[n,show¬(y:Int)=2 by omega,k,eh,c7,er];refine fN (λU=>?_) (λU=>?_)
   ·simp[i,q,n,a8,bg,bi];exact⟨d,b⟩
   ·simp[i,q,n,a8,bg,k,aE,S,aN,bi];exact⟨_,R⟩
 clear b k l0 i q n av aA;rintro h D ⟨⟨d,b⟩,i,q,n,a8,bg⟩;have cX:=λ{D:H} {d:DY} (b:Cy L r A N d D)=>b.tw.next (tb:=⟨pt [],ht [(79,mn),(44,km fy M1 MP),(80,km Yl sZ qq)]⟩) G bu;have fL:∀{D:H} {d:DY},Cy L r A N d D->∃K:List Int,sZ ⟨L,r,0,d.c 0,C d.tx,d.c 2,d.c 3,d.c 4,d.c 5,d.c 6,K⟩ [.fc r 0 0 0,.eZ [d.c 0,C d.tx,d.c 2,d.c 3,d.c 4,d.c 5,d.c 6]] D/\K.length=4:=λ{D d} b=>by
  obtain⟨K,bX,fe⟩:=xw (f:=T.int .i64) (P:=λW=>0<=W/\W<=4) λe Q=>by
   obtain⟨W,eM,bn⟩:=b.pr 6 e Q;exact⟨W,eM,bn rfl⟩
  have cb:K.length=4:=by rw[<-aI (f:=T.int .i64),<-bX];exact b.ln 6
  have bW:=b.s.gr 6 rfl;rw[bX]at bW;have di:fq (d.c 6)≠some r:=λV=>by have:=b.fp r (b.s.Ew (f:=(d.c 6,some (1,d.E 6))) (by simp[DY.F]) V);omega
  exact⟨K,⟨rfl,b.tw.g,b.tw.w.ok,bu,dS,bW,di,G⟩,cb⟩
 obtain⟨gV,b9,O,gM,bp,ab⟩:=cX b 3 B B;replace b:=b.tape ab (bp.g.le (ay _)) J;simp[i,a8,bg,O];clear O bp ab;refine lV (λh D=>(∃d,Cy L r A N d D)/\Y h 0 (.fc r 0 0 0)/\Y h 4 (.fc (A.size+1) 0 0 0)/\Y h 5 (.fc N 0 0 0)) (λU=>?_) (λU=>?_) ?_
 ·have k:=b.s.get;simp[DY.F]at k;obtain⟨K,eF,cb⟩:=fL b;simp[i,n,k];refine jB OX G _ eF ?_;rintro _ ds ⟨u,rfl,fB,eU,t1,ab⟩;replace b:=b.tape ab t1 J;have k:=b.s.get;simp[DY.F]at k;have bB:=b.tx J u;simp[i,q,n,k];exact⟨_,bB⟩
 ·simp[i,q,n];exact⟨d,b⟩
 clear b i q n a8 bg;rintro h D ⟨⟨d,b⟩,i,q,n⟩;obtain⟨gV,b9,O,gM,bp,ab⟩:=cX b 3 B B;replace b:=b.tape ab (bp.g.le (ay _)) J;simp[i,O];clear O bp ab;refine lV (λh D=>(∃d,Cy L r A N d D)/\Y h 0 (.fc r 0 0 0)/\Y h 4 (.fc (A.size+1) 0 0 0)/\Y h 5 (.fc N 0 0 0)) (λU=>?_) (λU=>?_) ?_
 ·have k:=b.s.get;simp[DY.F]at k;obtain⟨bT,c4,dm,c6,dn,_,a6,aE,S,aN,o,rfl⟩:=b.ld 2 rfl (te:=V5) rfl (j:=0) dT;replace b:=b.st J 2 rfl a6 S 0 (.ez true) rfl ⟨_,rfl⟩;generalize b6:fJ b9 bT _=ds at b;generalize d.Sr 2 _=ef at b;obtain⟨bA,ae,O,eE,bH,bS⟩:=cX b 3 B B;have an:=b.tape bS (bH.g.le (ay _)) J;have ap:=b.s.get;have bs:=an.s.get;simp[DY.F]at ap bs;obtain⟨fY,gk,hj,gn,ho,_,eD,eo,ca,et,W,rfl,_⟩:=an.ld 5 rfl (te:=IG) rfl (j:=0) dT;have sv:gU ds ae N=true:=il (bs.trans ap.symm);have R:=an.st J 5 rfl eD ca 0 (C bA) rfl ⟨_,rfl,λV=>by omega⟩;simp[i,q,n,k,aE,S,aN,b6,ap,O,eo,ca,et,sv];exact⟨_,R⟩
 ·simp[i,q,n];exact⟨d,b⟩
 clear b i q n;rintro h D ⟨⟨d,b⟩,i,q,n⟩;have k:=b.s.get;simp[DY.F]at k;have l4:=b.ln 4;simp[n,k,(b.s.gr 4 rfl).len (cx:=cx),l4,bgN];refine ik 5 B (λy h D=>(∃d,Cy L r A N d D)/\Y h 0 (.fc r 0 0 0)/\Y h 4 (.fc (A.size+1) 0 0 0)/\Y h 5 (.fc N 0 0 0)/\Y h 142 (C 5)/\Y h 143 (C y)) ?_ ?_ B ⟨⟨d,b⟩,by simp[i,q,n]⟩
 ·clear b k l4 i q n;rintro y h D bN bi ⟨⟨d,b⟩,i,q,n,eB,eC⟩;have gI:(y:Int)<5:=B;obtain⟨bA,ae,O,eE,bH,bS⟩:=cX b 3 B B;have an:=b.tape bS (bH.g.le (ay _)) J;have ap:=b.s.get;have bs:=an.s.get;simp[DY.F]at ap bs;obtain⟨fY,gk,hj,gn,ho,_,eD,eo,ca,et,W,rfl,_⟩:=an.ld 4 rfl (te:=IG) rfl (j:=y) bN;have sv:gU D ae N=true:=il (bs.trans ap.symm);have R:=an.st J 4 rfl eD ca y (C bA) rfl ⟨_,rfl,λV=>by omega⟩;simp[i,q,n,eB,eC,gI,ap,O,eo,ca,et,sv,bi];exact⟨_,R⟩
 clear b k l4 i q n;rintro h D ⟨⟨d,b⟩,i,q,n,eB,eC⟩;have k:=b.s.get;have eN:=b.rb;unfold pH at eN;simp[DY.F]at k;have hd:=λz=>(eG eN z (A.size+1)).trans (au rfl);simp[q,n,eB,eC,k,eN,hd];exact b.fin fo J _ _
end
def P8(a:Nat)(d:H)(e:T)(g:List (List Int)):Prop:=∃c,Gr d e 1 c/\fq e≠some a/\jw (λb f=>Gr d b 1 (f.map (T.int .i64))/\fq b≠some a) c g
structure IEv where
 (L:List Int) (b p:Nat) (s:gH) (w:fy) (rv:T) (rs:List (List Int))
def SR(a:IEv)(d:List T)(c:H):Prop:=d=[.fc a.b 0 0 0,a.s.t,a.w.t,a.rv]/\yj a.p a.L a.b c/\iQ 0 c/\okB a.L/\P8 a.b c a.rv a.rs/\a.rs.length=4/\(∀e∈a.rs,e.length<=1000)/\a.s.cells.length=5/\1<=a.s.fH.length/\a.s.gu.ee.length<=98/\a.w.cells.length=5
def IV(a:IEv)(g:List T)(e:H)(f:T)(d:H):Prop:=∃c:fR,f=c.t/\c.nQ.length<=1000/\c.wm.length<=1000/\yj (a.p+1) a.L a.b d/\Sm a.b e d
def abG{a:io}(ht:a.p 117=some xh):rl prog cx a 117 []=some (sl (yM.map (T.int .i64))):=iN ht WM () trivial
def Rj{i:Nat}(c:i<43):∃a:Int,yM[i]? =some a/\1<=a/\a<=23:=by
 have b:∀a∈yM,1<=a/\a<=23:=dT;exact⟨yM[i]'c,aB _,b _ (aG _)⟩
abbrev Ru(f c d g e:Int)(a b:T):T:= .eZ [C f,C c,C d,C g,C e,a,b]
structure VL(p:Nat)(L:List Int)(b:Nat)(h:H)(s:gH)(w:fy)(h':H)(x:T):Prop where
 tw:vX p L b (TI.hr h) h'
 g0:h'.get h.size=some (X 7 0 [s.t])
 g1:h'.get (h.size+1)=some (X 6 0 [w.t])
 g2:h'.get (h.size+2)=some (X 7 0 [Ru 0 0 0 0 0 dV dV])
 g3:∃ver,h'.get (h.size+3)=some (X 7 ver [x])
def VL.call{m h:Nat}{d:List Int}{a:Nat}{e:H}{i:gH}{j:fy}{g f:H}{k:T}(b:VL m d a e i j g k)(c:Sm a g f)(n:yj h d a f)(p:a<e.size):VL h d a e i j f k:=by
 have⟨o,l⟩:=b.g3;exact⟨b.tw.call c n,(c.get _ B).trans b.g0,(c.get _ B).trans b.g1,(c.get _ B).trans b.g2,o,(c.get _ B).trans l⟩
theorem VL.put{k:Nat}{h:List Int}{e:Nat}{d:H}{l:gH}{m:fy}{j:H}{x:T}(a:VL k h e d l m j x)(o:e<d.size)(f:Nat)(g:T):VL k h e d l m (fJ j (d.size+3) (X 7 f [g])) g:=by
 have⟨p,i⟩:=a.g3;have b:=λc=>eG i (X 7 f [g]) c;exact⟨a.tw.put i G (by simpa using o) _,by rw[b,Z B];exact a.g0,by rw[b,Z B];exact a.g1,by rw[b,Z B];exact a.g2,f,by rw[b,au rfl]⟩
def VL.rd{g:Nat}{d:List Int}{e:Nat}{a:H}{h:gH}{i:fy}{c:H}{j:T}(f:VL g d e a h i c j)(b:jK):(fJ c (a.size+2) b).get (a.size+2)=some b:=(eG f.g2 b (a.size+2)).trans (au rfl)
def Ds(a:T):Prop:=a.jc=true/\a.cells=[a]/\∃b:List Int,b.length<=1000/\∀d c,FT d c 1 a (sl (b.map (T.int .i64)))
theorem Ds.nil:Ds dV:=⟨rfl,rfl,[],G,λb a=>j9 ..⟩
def Ds.sl{a:List Int}(b:a.length<=1000):Ds (TI.sl (a.map (T.int .i64))):=⟨G,G,a,b,λb d=>rn _ _ _ λe c=>by obtain⟨f,_,rfl⟩:=List.mem_map.1 c;simp⟩
def ah2:(km IEv SR IV).Ok prog cx 81:=by
 refine ue (tb:=⟨pt [(117,xh)],ht [(79,mn),(118,km Mg CO vI),(119,km Me CN vH),(120,km DX xm wH)]⟩) jv jl (jF 618988909108621684749897583 [(3,[(6,11),(7,11),(5,14),(11,14)])] func81) (λ_ _=>5) (λi a b bi=>by obtain⟨rfl,_⟩:=bi;simp[f81]) ?_;rintro⟨E,h,y,Q,J,aX,ey⟩ _ b ⟨rfl,b6,et,al,ea,eW,bA,eX,eb,ec,e5⟩ O dm;simp only at b6 al ea eW bA eX eb ec e5;simp at dm;obtain⟨F,di,dk,R⟩:=dm;have q:=b6.tp.lt;have fW:(h=b.size)=False:=dR;have fX:(h=b.size+1)=False:=dR;have fY:(h=b.size+2)=False:=dR;have eC:=(((vX.refl et.hr (b6.eq (iU b h))).cons (X 7 0 [Q.t])).cons (X 6 0 [J.t])).cons (X 7 0 [.eZ [C 0,C 0,C 0,C 0,C 0,dV,dV]]);obtain⟨c,eF,cL,fS,eD,z⟩:=eC.next (tb:=⟨pt [(117,xh)],ht [(79,mn),(118,km Mg CO vI),(119,km Me CN vH),(120,km DX xm wH)]⟩) G al 4 B B;have cb:=λ{bs:H} {y:Nat} (J:vX y E h (TI.hr b) bs)=>J.next (tb:=⟨pt [(117,xh)],ht [(79,mn),(118,km Mg CO vI),(119,km Me CN vH),(120,km DX xm wH)]⟩) G al;obtain⟨k,eH,cX,fP,eE,an⟩:=cb eD yM.length dT dT;obtain⟨j,c4,e6,e7⟩:=Rj (i:=k) (by have:yM.length=43:=rfl;omega);obtain⟨m,a6,c1,ds,b9,bT⟩:=cb eE 6 B B;obtain⟨bX,e4⟩:∃x:Int,(c:Int)*6=x:=⟨_,rfl⟩;obtain⟨bW,e0⟩:∃x:Int,bX+m=x:=⟨_,rfl⟩;have er:binop .mul (C (c:Int)) (C 6)=some (C bX):=by rw[aeL,<-kv,kG B B,e4]
 have cp:binop .add (C bX) (C (m:Int))=some (C bW):=Cs e0 B B;have fL:eF.size=b.size+3:=by rw[z.size];rfl
 have ca:a6.size=b.size+3:=by rw[bT.size,an.size,fL]
 have eA:gU eF eH (b.size+3)=true:=jL (mP _ B);have eB:gU eH a6 (b.size+3)=true:=jL (mP _ (by rw[an.size];omega));have eo:=b9.w.ok.low;rw[ca]at eo;have a7:∀s,s<b.size+3->s≠h->a6.get s=((((TI.hr b).cons (X 7 0 [Q.t])).cons (X 6 0 [J.t])).cons (X 7 0 [Ru 0 0 0 0 0 dV dV])).get s:=λs bu aN=>(bT.get s aN).trans ((an.get s aN).trans (z.get s aN));have I:VL (y+1) E h b Q J (a6.cons (X 7 1 [Ru c j 0 0 bW dV dV])) (Ru c j 0 0 bW dV dV):=
  ⟨(b9.le B).cons _,by rw[fk,Z B,a7 _ B B];simp,by rw[fk,Z B,a7 _ B B];simp,by rw[fk,Z B,a7 _ B B];simp,1,by rw[fk,au ca.symm]⟩
 simp[f81,F,di,dk,cL,abG,cX,c1,c4,er,cp,ca,eA,eB,eo];clear cL cX c1 z an bT eC eD eE b9 er cp a7 c4 eA eB;generalize a6.cons _=gg at*
 refine lV (λO bs=>(∃A,VL (y+1) E h b Q J bs (Ru c j 0 0 A dV dV))/\Y O 0 (.fc h 0 0 0)/\Y O 3 aX/\Y O 5 (.fc b.size 0 0 0)/\Y O 6 (.fc (b.size+1) 0 0 0)/\Y O 8 (.fc (b.size+2) 0 0 0)/\Y O 9 (C c)/\Y O 11 (.fc (b.size+3) 0 0 0)) (λeV=>?_) (λeV=>?_) ?_
 ·obtain⟨D,n⟩:=I.g3;simp[F,R,n];exact⟨_,I.put q _ _⟩
 ·simp[F,R];exact⟨_,I⟩
 clear I F di dk R;rintro O p ⟨⟨A,I⟩,F,R,eR,eS,a8,bg,u⟩;obtain⟨D,n⟩:=I.g3;simp[F,bg,u,n];refine jB aew G ⟨E,h,y+1,j,c⟩ ⟨rfl,I.tw.g,I.tw.w.ok,al,dS,dS,e6,e7⟩ ?_;rintro _ fA ⟨r,rfl,gd,bS,t1,z⟩;have l:=I.call z t1 q;clear I n;obtain⟨D,n⟩:=l.g3;simp[F,eR,u,n];replace l:=l.put q (D+1) (Ru c j r 0 A dV dV);generalize fJ fA _ _=ap at*
 clear z t1 n;obtain⟨D,n⟩:=l.g3;have dd:=l.g0;simp[u,n,dd];refine jB aer G ⟨E,h,y+1,Q,j,r⟩ ⟨rfl,l.tw.g,l.tw.w.ok,al,λS=>by have:=bS (.inl S);simp only;omega,eb,ec⟩ ?_;rintro _ fB ⟨o,rfl,t1,z⟩;replace l:=l.call z t1 q;clear n dd;obtain⟨D,n⟩:=l.g3;simp[u,n];replace l:=l.put q (D+1) (Ru c j r o A dV dV);generalize fJ fB _ _=fC at*
 clear z t1 n;obtain⟨D,n⟩:=l.g3;have eM:=l.g1;obtain⟨P,eP,fb,cF⟩:=ea;have dn:c<P.length:=by rw[cF.length];omega
 obtain⟨bN,dv,c6,c7⟩:∃bN∈ey,Gr b P[c] 1 (bN.map (T.int .i64))/\fq P[c]≠some h:=cF.Lf (aG dn);have cd:∀p,vX (y+1) E h (TI.hr b) p->∃ab ae D av K,∃(v:List Int) (ap:H),mo p pI aX c=some (.val (.fc ab ae c 0) p)/\p.get ab=some ⟨1,ae,D,av,false,K⟩/\K[c]? =some P[c]/\hl prog cx ⟨pt [(117,xh)],ht [(79,mn),(118,km Mg CO vI),(119,km Me CN vH),(120,km DX xm wH)]⟩ 120 [.fc h 0 0 0,P[c]] p=some (sl (v.map (T.int .i64)),ap)/\v.length<=1000/\yj (y+1) E h ap/\Sm h p ap:=λp b7=>by
  have eu:∀(o:T) K,Gr b o 1 K->fq o≠some h->Gr p o 1 K:=λo K c9 aN=>c9.mono λs bu=>by
   obtain⟨_,_,_,_,S,_⟩:=c9.box bu;exact(b7.w.get s (H.gh S) λe=>aN (by rw[<-e];exact bu)).trans (iU b s)
  obtain⟨ab,ae,D,av,K,_,eK,eO,eL⟩:=(eu aX P eP fb).Bd (te:=pI) rfl dn;have bi:xm ⟨E,h,y+1,P[c],bN⟩ [.fc h 0 0 0,P[c]] p:=⟨rfl,eu _ _ c6 c7,c7,b7.g,b7.w.ok,al,bA _ dv⟩;obtain⟨_,ap,e,S⟩:=Il (tb:=⟨pt [(117,xh)],ht [(79,mn),(118,km Mg CO vI),(119,km Me CN vH),(120,km DX xm wH)]⟩) G aat ⟨_,bi⟩;obtain⟨v,rfl,fe,ff,fi⟩:=S _ bi;exact⟨ab,ae,D,av,K,v,ap,eK,eO,eL,e,aU fe (bA _ dv),ff,fi⟩
 have eI:(decide (j=5)=false/\(decide (j=3)||decide (j=4))=true/\∃m:Nat,lJ r=some m/\m<J.cells.length)\/(decide (j=5)=false/\(decide (j=3)||decide (j=4))=false)\/(decide (j=5)=true):=by
  by_cases N:j=5
  ·exact .inr (.inr (bM N))
  ·by_cases U:j=3\/j=4
   ·exact .inl ⟨aS N,by simpa using U,r.toNat,fU (bS U).1,by have:=bS U;omega⟩
   ·exact .inr (.inl ⟨aS N,dR⟩)
 have fin:∀{p:H} {d f:T} (W:jK),VL (y+1) E h b Q J p (Ru c j r o A d f)->Ds d->Ds f->Bc b (Ru c j r o A d f) (fJ p (b.size+2) W) (IV ⟨E,h,y,Q,J,aX,ey⟩ [.fc h 0 0 0,Q.t,J.t,aX] b):=λW i ⟨_,_,v,l1,l2⟩ ⟨_,_,bH,e8,e9⟩=>
  (i.tw.put i.g2 G (by simpa using q) W).cut et q (FT.top (Vq:=λh=>b.size<=h) (d:=1) B (λ_ S=>S) (.cons (iO ..) (.cons (iO ..) (.cons (iO ..) (.cons (iO ..) (.cons (iO ..) (.cons (l2 ..) (.cons (e9 ..) .nil)))))))) λfl fo=>⟨⟨c,j,r,o,A,v,bH⟩,rfl,l1,e8,fo,fl⟩
 obtain⟨ab,ae,fv,av,K,v,fE,a1,a2,a3,a4,l1,t1,z⟩:=cd fC l.tw;have bB:=l.call z t1 q;obtain⟨b8,bp⟩:=bB.g3;have aA:=λW=>(eG bp W (b.size+3)).trans (au rfl);have bn:=c6.cells;rcases eI with⟨N,U,m,eU,ds⟩|⟨N,U⟩|N;simp[eS,u,n,eM,N,U,eU,ds];refine fN (λaE=>?_) (λaE=>?_);rotate_left
 iterate 2
  ·have L:=bB.put q (b8+1) (Ru c j r o A dV (sl (v.map (T.int .i64))));simp[u,n,N,U];refine fN (λaE=>?_) (λaE=>?_)
   ·simp[F,R,a8,bg,u,a1,a2,a3,a4,bp,bn,aA,L.g2,L.rd];exact fin _ L Ds.nil (Ds.sl l1)
   ·simp[a8,u,n,l.g2,l.rd];exact fin _ l Ds.nil Ds.nil
 iterate 2
  ·have L:=bB.put q (b8+1) (Ru c j r o A (sl (v.map (T.int .i64))) dV);simp[F,R,bg,u,n,N,a1,a2,a3,a4,bp,bn,aA];obtain⟨ab,ae,fv,av,K,bH,gj,a1,a2,a3,a4,l2,t2,an⟩:=cd _ L.tw;have ed:=L.call an t2 q;obtain⟨fs,de⟩:=ed.g3;have eN:=λW=>(eG de W (b.size+3)).trans (au rfl);have bC:=ed.put q (fs+1) (Ru c j r o A (sl (v.map (T.int .i64))) (sl (bH.map (T.int .i64))));replace aA:=aA (X 7 (b8+1) [Ru c j r o A (sl (v.map (T.int .i64))) dV]);generalize fJ fE _ _=gi at*
   refine fN (λaE=>?_) (λaE=>?_)
   ·have ef:=bC.g2;have eh:=bC.rd;simp at ef eh;simp[F,R,a8,bg,u,a1,a2,a3,a4,de,bn,eN,ef,eh];exact fin _ bC (Ds.sl l1) (Ds.sl l2)
   ·simp[a8,u,aA,L.g2,L.rd];exact fin _ L (Ds.sl l1) Ds.nil
section
def Vv{j k:Type}{f:j->k->Prop}:∀{b:List j} {a:List k},b.length=a.length->(∀(e:Nat) c d,b[e]? =some c->a[e]? =some d->f c d)->jw f b a:=by
 intro b;induction b with
 |nil=>intro a h _;cases a with|nil=>exact .nil|cons i a=>simp at h
 |cons p b n=>
  intro a h g;cases a with
  |nil=>simp at h
  |cons i a=>exact .cons (g 0 p i rfl rfl) (n (by simpa using h) λe c d l m=>g (e+1) c d (by simpa using l) (by simpa using m))
structure IC(lo bv:Nat)(h:H)(rs:List (List Int))(o:T)(xs:List T)(es:List T)(ver:Nat):Prop where
 gb:h.get bv=some ⟨1,0,ver,true,false,es⟩
 RU:lo<=bv
 len:es.length=rs.length
 gr:∀(i:Nat) (e:T) (ns:List Int),es[i]? =some e->rs[i]? =some ns->Gr h e 1 (ns.map (T.int .i64))
 sep:∀(i:Nat) (e:T) (c:Nat),es[i]? =some e->fq e=some c->lo<=c/\c≠bv/\fq o≠some c/\∀(j:Nat) (e':T),es[j]? =some e'->fq e'=some c->i=j
 go:Gr h o 7 xs
 ob:∀c,fq o=some c->lo<=c/\c≠bv
variable {lo bv:Nat}{h h':H}{rs:List (List Int)}{o:T}{xs es:List T}{ver:Nat}
def IC.lt(e:IC lo bv h rs o xs es ver){a:Nat}{b:T}{c:Nat}(d:es[a]? =some b)(f:fq b=some c):c<h.size:=by
 have g:a<rs.length:=by rw[<-e.len];exact(List.getElem?_eq_some_iff.1 d).1
 have⟨_,_,_,_,i,_⟩:=(e.gr a b rs[a] d (aB g)).box f;exact H.gh i
def IC.olt(c:IC lo bv h rs o xs es ver){a:Nat}(b:fq o=some a):a<h.size:=by
 have⟨_,_,_,_,d,_⟩:=c.go.box b;exact H.gh d
def IC.mE(a:IC lo bv h rs o xs es ver)(e:∀b,lo<=b->b<h.size->h'.get b=h.get b):IC lo bv h' rs o xs es ver:=
 ⟨(e _ a.RU (H.gh a.gb)).trans a.gb,a.RU,a.len,λg f j d i=>(a.gr g f j d i).mono λb c=>e b (a.sep g f b d c).1 (a.lt d c),a.sep,a.go.mono λb c=>e b (a.ob b c).1 (a.olt c),a.ob⟩
def IC.rda(a:IC lo bv h rs o xs es ver){b:Nat}(j:b<lo):P8 b h (.arr bv 0 0 rs.length false) rs:=
 ⟨es,by rw[<-a.len];exact .inr ⟨bv,0,ver,true,es,rfl,a.gb,aL⟩,by have:=a.RU;simp;omega,Vv a.len λe c g d f=>⟨a.gr e c g d f,λi=>by have:=(a.sep e c b d i).1;omega⟩⟩
def _root_.Go.TI.Gr.mS{h:H}{a:T}{e:Nat}{es:List T}(c:Gr h a e es)(b:T):TI.mS a 0 [b]=some b:=by
 rcases c with⟨rfl,_⟩|⟨f,i,ver,j,xs,rfl,_⟩<;>exact E0 λg d=>by cases d
def IC.app(a:IC lo bv h rs o xs es ver){b:Nat}{f:T}{v:List Int}(g:es[b]? =some f)(M:rs[b]? =some v){n:Int}{u:T}{s:H}(x:Xt h f 1 ((v++[n]).map (T.int .i64)) u s)(L:lo<=h.size)(E:Nat):
 IC lo bv (fJ s bv ⟨1,0,E,true,false,es.set b u⟩) (rs.set b (v++[n])) o xs (es.set b u) E/\s.get bv=some ⟨1,0,ver,true,false,es⟩:=by
 obtain⟨K,w,q,N⟩:=x;have I:=H.gh a.gb;have t:b<es.length:=(List.getElem?_eq_some_iff.1 g).1;have r:s.get bv=some ⟨1,0,ver,true,false,es⟩:=(w bv I λe=>(a.sep b f bv g e).2.1 rfl).trans a.gb;refine⟨⟨(eG r _ bv).trans (au rfl),a.RU,by simp[a.len],λl p J c j=>?_,λl p i c d=>?_,a.go.mono λi d=>?_,a.ob⟩,r⟩
 ·by_cases e:b=l
  ·subst e;rw[dL t]at c;rw[dL (by rw[<-a.len];exact t)]at j;cases c;cases j;refine K.mono λi d=>?_;rw[eG r,Z];rintro rfl;rcases q _ d with k|k
   ·exact(a.sep b f _ g k).2.1 rfl
   ·omega
  ·rw[dM e]at c;rw[dM e]at j;refine(a.gr l p J c j).mono λi d=>?_;have m:=a.sep l p i c d;rw[eG r,Z m.2.1];exact w i (a.lt c d) λk=>e (m.2.2.2 b f g k).symm
 ·by_cases e:b=l
  ·subst e;rw[dL t]at c;cases c;refine⟨?_,?_,?_,λl p c y=>?_⟩
   ·rcases q _ d with k|k
    ·exact(a.sep b f _ g k).1
    ·omega
   ·rcases q _ d with k|k
    ·exact(a.sep b f _ g k).2.1
    ·omega
   ·rcases q _ d with k|k
    ·exact(a.sep b f _ g k).2.2.1
    ·intro z;have:=a.olt z;omega
   ·by_cases e:b=l
    ·exact e
    ·rw[dM e]at c;rcases q _ d with k|k
     ·exact(a.sep b f _ g k).2.2.2 l p c y
     ·have:=a.lt c y;omega
  ·rw[dM e]at c;have m:=a.sep l p i c d;refine⟨m.1,m.2.1,m.2.2.1,λk F j A=>?_⟩;by_cases D:b=k
   ·subst D;rw[dL t]at j;cases j;rcases q _ A with z|z
    ·exact m.2.2.2 b f g z
    ·have:=a.lt c d;omega
   ·rw[dM D]at j;exact m.2.2.2 k F j A
 ·rw[eG r,Z (a.ob i d).2];exact w i (a.olt d) λk=>(a.sep b f i g k).2.2.1 d
def IC.out(a:IC lo bv h rs o xs es ver){j:T}{n:List T}{f:H}(t:Xt h o 7 n j f)(v:lo<=h.size):IC lo bv f rs j n es ver:=by
 obtain⟨u,k,l,w⟩:=t;have p:=H.gh a.gb;refine⟨(k bv p λs=>(a.ob bv s).2 rfl).trans a.gb,a.RU,a.len,λg e r d f=>(a.gr g e r d f).mono λc b=>k c (a.lt d b) (a.sep g e c d b).2.2.1,λg e c d b=>?_,u,λc b=>?_⟩
 ·have i:=a.sep g e c d b;refine⟨i.1,i.2.1,λq=>?_,i.2.2.2⟩;rcases l _ q with z|z
  ·exact i.2.2.1 z
  ·have:=a.lt d b;omega
 ·rcases l _ b with z|z
  ·exact a.ob c z
  ·exact⟨B,B⟩
end
section
attribute [-simp] size_cons
structure IPl where
 (L:List Int) (b:Nat) (s:gH) (w:fy) (n:Nat) (early:Bool)
def Y4(a:IPl)(d:List T)(c:H):Prop:=d=[.fc a.b 0 0 0,a.s.t,a.w.t,C a.n,.ez a.early]/\yj 0 a.L a.b c/\iQ 0 c/\okB a.L/\a.L.length<=400/\a.n<=16/\a.w.ee.length=4/\a.w.cells.length=5/\a.w.iL.length<=1000/\oc a.w a.s=true/\u5 1000 a.s/\1<=a.s.fH.length
def S7(a:IPl)(g:List T)(e:H)(f:T)(d:H):Prop:=∃c:List fR,f=sl (c.map fR.t)/\c.length<=a.n/\NK c/\runs a.w a.s c=true/\yj 0 a.L a.b d/\Sm a.b e d
def aiK(a:fR)(d:H)(c:Nat->Prop):FT d c 2 a.t a.t:=by
 have e:∀b:List Int,FT d c 1 (sl (b.map (T.int .i64))) (sl (b.map (T.int .i64))):=λb=>rn _ _ _ λg f=>by obtain⟨h,_,rfl⟩:=List.mem_map.1 f;simp
 exact .inr (.inr ⟨a.cs,a.cs,rfl,.cons (iO ..) (.cons (iO ..) (.cons (iO ..) (.cons (iO ..) (.cons (iO ..) (.cons (e _) (.cons (e _) .nil)))))),rfl⟩)
def V8{a:H}(g:iQ 0 a)(b c d:jK):(∀e,e<a.size->(fJ ((a.cons b).cons c) (a.size+1) d).get e=a.get e)/\(fJ ((a.cons b).cons c) (a.size+1) d).get a.size=some b/\(fJ ((a.cons b).cons c) (a.size+1) d).get (a.size+1)=some d/\(fJ ((a.cons b).cons c) (a.size+1) d).size=a.size+2:=by
 have f:=ou ((g.cons b).cons c).hp (show a.size+1<_ by simp[size_cons]);refine⟨λe h=>?_,?_,?_,by simp[size_cons]⟩
 ·rw[f,Z B,fk,Z (by rw[size_cons];omega),fk,Z B]
 ·rw[f,Z B,fk,Z (by rw[size_cons];omega),fk,au rfl]
 ·rw[f,au rfl]
def vX.two{h:Nat}{f:List Int}{b:Nat}{e a:H}(i:vX h f b e a)(k:b<e.size)(g d j:jK):vX h f b e (fJ ((a.cons g).cons d) (a.size+1) j):=
 ((i.cons g).cons d).put (c:=a.size+1) (x:=d) (by rw[fk,au (by rw[size_cons])]) (by have:=i.w.size;omega) k j
def PlC(a:gH):Prop:=a.cells.length=5/\1<=a.fH.length/\a.gu.ee.length<=98/\a.count.length=4
def PlJ(h:Nat)(d:List Int)(e:Nat)(a:H)(n:fy)(k:gH)(i:Nat)(g:T)(o:List T)(b:H):Prop:=∃c f m l,vX h d e (TI.hr a) b/\b.get a.size=some (X 7 l [k.t])/\b.get (a.size+1)=some (X 6 0 [n.t])/\IC (a.size+2) (a.size+2) b c g o f m/\a.size+3<=b.size/\c.length=4/\∀j∈c,j.length<=i
def ah0:(km IPl Y4 S7).Ok prog cx 42:=by
 refine ue (tb:=⟨pt [(82,pj)],ht [(79,mn),(81,km IEv SR IV)]⟩) jv jl (jF 155347004713968546154151135 [(14,[(2,15)])] func42) (λ_ _=>1000) (λi a e ff=>by obtain⟨rfl,_⟩:=ff;simp[f42]) ?_;rintro⟨L,b,q,h,n,early⟩ _ e ⟨rfl,ey,eP,dv,e7,fe,eh,eK,fo,cF,eI,e9⟩ r bX;simp only at ey dv e7 fe eh eK fo cF eI e9;simp at bX;obtain⟨D,aX,bB,E,ap⟩:=bX;have a6:=ey.tp.lt;have gg:(b=e.size)=False:=dR;have gi:(b=e.size+1)=False:=dR;simp[f42,aX,bB,eh];have c6:q.count.length=4:=by
  unfold oc at cF;simp only[az,aM]at cF;rw[cF.2,eh]
 generalize bW:(((TI.hr e).cons _).cons _).cons _=bT;have gn:bT.size=e.size+3:=by rw[<-bW];rfl
 have eD:vX 0 L b (TI.hr e) bT:=by rw[<-bW];exact(((vX.refl eP.hr (ey.eq (iU e b))).cons _).cons _).cons _
 have al:bT.get e.size=some (X 7 0 [q.t]):=by rw[<-bW];simp
 have aN:bT.get (e.size+1)=some (X 6 0 [h.t]):=by rw[<-bW];simp
 have eC:IC (e.size+2) (e.size+2) bT [[],[],[],[]] dV [] [dV,dV,dV,dV] 0:=by
  rw[<-bW];refine⟨G,ax _,rfl,λi u gj aX bB=>?_,λi u c aX bB=>?_,Gr.nil _ _,G⟩
  ·rcases i with _|_|_|_|i<;>simp at aX bB<;>subst aX bB<;>exact Gr.nil _ _
  ·rcases i with _|_|_|_|i<;>simp at aX<;>subst aX<;>simp at bB
 clear bW;have c1:PlJ 0 L b e h q 0 dV [] bT:=⟨_,_,_,_,eD,al,aN,eC,B,rfl,G⟩;refine ik 4 B (λj r y=>PlJ 0 L b e h q j dV [] y/\Y r 0 (.fc b 0 0 0)/\Y r 3 (C n)/\Y r 4 (.ez early)/\Y r 6 (.fc e.size 0 0 0)/\Y r 7 (.fc (e.size+1) 0 0 0)/\Y r 11 dV/\Y r 12 (.arr (e.size+2) 0 0 4 false)/\Y r 22 (C 4)/\Y r 23 (C j)) ?_ ?_ B ⟨c1,by simp[D,E,ap]⟩
 ·rintro j r y fb c4 ⟨⟨v,s,F,ae,aA,al,aN,av,bi,U,K⟩,D,E,ap,H,J,I,P,bC,bH⟩;have c7:j<q.count.length:=B;have eb:(j:Int)<4:=B;have fP:(b=e.size+2)=False:=dR;have eB:PlJ 0 L b e h q (j+1) dV [] y:=⟨v,s,F,ae,aA,al,aN,av,bi,U,λS hr=>Nat.le_succ_of_le (K S hr)⟩;cases early with
  |false=>
   simp[D,E,ap,H,J,I,P,bC,bH,eb,c4,eB]
  |true=>
  by_cases eE:1<q.count[j]
  ·obtain⟨m,eR,dn,fX,bn,c9⟩:=aA.next (tb:=⟨pt [(82,pj)],ht [(79,mn),(81,km IEv SR IV)]⟩) G dv 3 B B;simp[al,D,ap,H,bC,bH,eb,c7,eE,dn];have R:IC (e.size+2) (e.size+2) eR v dV [] s F:=av.mE λc o _=>c9.get c B;have bp:=(c9.get e.size B).trans al;have bs:=(c9.get (e.size+1) B).trans aN;have bN:=c9.size;refine fN (λb6=>?_) (λb6=>?_)
   ·have T:j<s.length:=by rw[R.len];omega
    have ab:j<v.length:=B;obtain⟨cX,bg,cd,et,eu,Q⟩:=(Xt.refl (R.gr j s[j] v[j] (aB T) (aB ab)) bn.w.ok).Ya 1 (by have:=K v[j] (aG ab);omega);obtain⟨O,bA⟩:=R.app (aB T) (aB ab) Q B (F+1);have c6:=(R.gr j s[j] v[j] (aB T) (aB ab)).cells;have b8:∀c,fq s[j]=some c->e.size+2<=c:=λc o=>(R.sep j s[j] c (aB T) o).1;have dk:=((bn.le (ay _)).xt Q (λc a7=>by have:=b8 c a7;simp;omega) (by simpa using a6)).put bA G (by simpa using a6) ⟨1,0,F+1,true,false,s.set j cX⟩;have A:∀c,c<e.size+2->(fJ bg (e.size+2) ⟨1,0,F+1,true,false,s.set j cX⟩).get c=eR.get c:=λc a7=>by
     rw[eG bA,Z B];exact Q.2.1 c B λo=>by have:=b8 c o;omega
    have di:=Q.2.2.2.sz;simp[R.gb,D,E,ap,H,J,I,P,bC,bH,fb,T,c4,c6,cd,et,eu,bA,(R.gr j s[j] v[j] (aB T) (aB ab)).mS];exact⟨_,_,_,ae,dk,(A _ B).trans bp,(A _ B).trans bs,O,dR,by simp[U],λS hr=>by
     rcases cH hr with k|rfl
     ·exact Nat.le_succ_of_le (K S k)
     ·have:=K v[j] (aG ab);simp;omega⟩
   ·simp[D,E,ap,H,J,I,P,bC,bH,c4];exact⟨v,s,F,ae,bn.le (ay _),bp,bs,R,B,U,λS hr=>Nat.le_succ_of_le (K S hr)⟩
  ·simp[al,D,E,ap,H,J,I,P,bC,bH,eb,c7,c4,eE,eB]
 clear c1 eC al aN eD D aX bB E ap;have eF:=cF;unfold oc mK at eF;simp only[az,aM]at eF;rintro r y ⟨c1,D,E,ap,H,J,I,P,bC,bH⟩;simp[bC,bH];refine VD 401 (λj r y=>(∃W l,PlJ j L b e h (r9 h q l) (j+4) W (l.map fR.t) y/\runs h q l=true/\l.length<=n/\NK l/\u5 (1000+j) (r9 h q l)/\PlC (r9 h q l)/\Y r 11 W)/\Y r 0 (.fc b 0 0 0)/\Y r 3 (C n)/\Y r 6 (.fc e.size 0 0 0)/\Y r 7 (.fc (e.size+1) 0 0 0)/\Y r 12 (.arr (e.size+2) 0 0 4 false)) ?_ B (ay _) ⟨⟨dV,[],c1,rfl,ay _,λu e8=>by simp at e8,eI,?_,by simp[I]⟩,by simp[D,E,H,J,P]⟩
 ·rintro j r y fS ⟨⟨W,l,⟨v,s,F,ae,aA,al,aN,av,bi,U,K⟩,ec,eH,ea,ed,b7,I⟩,D,E,H,J,P⟩;obtain⟨gm,gk,e4,fY⟩:=aA.g;simp[D,E,I,av.go.len,e4];refine fN (λb6=>?_) (λb6=>?_)
  ·simp at b6;have fW:j<L.length:=B;simp[D,H,J,P,al,aN];refine jB ah2 G ⟨L,b,j,r9 h q l,h,.arr (e.size+2) 0 0 4 false,v⟩ ⟨rfl,aA.g,aA.w.ok,dv,by have:=av.rda (b:=b) B;rw[U]at this;exact this,U,λS hr=>by have:=K S hr;omega,b7.1,b7.2.1,b7.2.2.1,eK⟩ ?_;rintro _ an ⟨u,rfl,e0,dn,t1,b9⟩;simp only at e0 dn t1 b9;have bn:=aA.call b9 t1;have R:IC (e.size+2) (e.size+2) an v W (l.map fR.t) s F:=av.mE λc o _=>b9.get c B;have bp:=(b9.get e.size B).trans al;have bs:=(b9.get (e.size+1) B).trans aN;have bN:=b9.size;have cp:=λ{tb:io} (ht:tb.p 82=some pj)=>EB ht h (r9 h q l) u B (ed.up B) B B;have eM:(e.size=an.size)=False:=dR;have eN:(e.size+1=an.size)=False:=dR;have eL:=bn.w.ok.low;have dm:=λcL=>bn.two (by simpa using a6) (X 7 1 [u.t]) (X 7 0 [.eZ [dV,C 0,dV,dV,dV,dV,dV]]) (X 7 1 [cL]);have N:=λcL=>V8 bn.w.ok (X 7 1 [u.t]) (X 7 0 [.eZ [dV,C 0,dV,dV,dV,dV,dV]]) (X 7 1 [cL]);cases o:rO h (r9 h q l) u with
   |false=>
    rw[mW o]at cp;simp[D,E,H,J,I,P,bp,bs,eM,eN,eL,cp];obtain⟨A,a8,ca,di⟩:=N v8.t;exact⟨B,W,l,⟨v,s,F,ae,dm _,(A _ B).trans bp,(A _ B).trans bs,R.mE λc _ o=>A c o,by rw[di];omega,U,λS hr=>by have:=K S hr;omega⟩,ec,eH,ea,ed.up B,b7,rfl⟩
   |true=>
    have ef:kz h (r9 h q l) u=(li h (r9 h q l) u,true):=by unfold kz;rw[au o]
    rw[ef]at cp;simp[H,J,bp,bs,eM,eN,eL,cp];have aE:=dm (li h (r9 h q l) u).t;obtain⟨A,a8,ca,de⟩:=N (li h (r9 h q l) u).t;have bu:=(A e.size B).trans bp;have bS:=(A (e.size+1) B).trans bs;have O:IC (e.size+2) (e.size+2) _ v W (l.map fR.t) s F:=R.mE λc _ o=>A c o;clear cp dm N A;generalize fJ _ _ _=bg at*
    simp[a8];have eU:PlJ (j+1) L b e h (r9 h q l) (j+4) W (l.map fR.t) bg:=⟨v,s,F,ae,aE,bu,bS,O,B,U,K⟩;refine lV (λr dd=>(PlJ (j+1) L b e h (r9 h q l) (j+1+4) W (l.map fR.t) dd/\an.size+2<=dd.size/\dd.get an.size=some (X 7 1 [u.t])/\dd.get (an.size+1)=some (X 7 1 [(li h (r9 h q l) u).t]))/\Y r 0 (.fc b 0 0 0)/\Y r 3 (C n)/\Y r 6 (.fc e.size 0 0 0)/\Y r 7 (.fc (e.size+1) 0 0 0)/\Y r 11 W/\Y r 12 (.arr (e.size+2) 0 0 4 false)/\Y r 14 (.fc an.size 0 0 0)/\Y r 15 (.fc (an.size+1) 0 0 0)) (λb6=>?_) (λb6=>?_) ?_
    ·obtain⟨z,fl,fi⟩:∃z:Nat,z<4/\lJ u.eJ=some z:=by
      have:=fQ.1 (oF o).2.1;exact⟨u.eJ.toNat,B,fU this.1⟩
     have T:z<s.length:=by rw[O.len];omega
     have ab:z<v.length:=B;have c7:z<(r9 h q l).count.length:=by have:=b7.2.2.2;omega
     have ds:=O.gr z s[z] v[z] (aB T) (aB ab);obtain⟨cX,eA,cd,et,eu,Q⟩:=(Xt.refl ds aE.w.ok).Ya (r9 h q l).count[z] (by have:=K v[z] (aG ab);omega);obtain⟨eV,bA⟩:=O.app (aB T) (aB ab) Q B (F+1);have c6:=ds.cells;have b8:∀c,fq s[z]=some c->e.size+2<=c:=λc o=>(O.sep z s[z] c (aB T) o).1;have dk:=(aE.xt Q (λc a7=>by have:=b8 c a7;simp;omega) (by simpa using a6)).put bA G (by simpa using a6) ⟨1,0,F+1,true,false,s.set z cX⟩;have di:=Q.2.2.2.sz;have eo:=λc (k:fq s[z]=some c)=>R.lt (aB T) k;have eO:∀c,c<bg.size->(∀k,fq s[z]=some k->k≠c)->eA.get c=bg.get c:=λc bi bN=>Q.2.1 c bi λk=>bN c k rfl;have A:∀c,c<bg.size->c≠e.size+2->(∀k,fq s[z]=some k->k≠c)->(fJ eA (e.size+2) ⟨1,0,F+1,true,false,s.set z cX⟩).get c=bg.get c:=λc bi de bN=>by
      rw[eG bA,Z de];exact eO c bi bN
     have sv:gU (bg.cons (X 1 0 [C (r9 h q l).count[z]])) eA an.size=true:=il ((eO _ B λk o=>by have:=eo k o;omega).trans (by rw[fk,Z B]));simp[O.gb,D,E,H,J,I,P,a8,bu,fi,fl,T,c7,c6,cd,et,eu,bA,ds.mS,sv];refine⟨⟨_,_,_,ae,dk,(A _ B B λk o=>by have:=b8 k o;omega).trans bu,(A _ B B λk o=>by have:=b8 k o;omega).trans bS,eV,dR,by simp[U],λS hr=>?_⟩,B,(A _ B B λk o=>by have:=eo k o;omega).trans a8,(A _ B B λk o=>by have:=eo k o;omega).trans ca⟩;rcases cH hr with k|rfl
     ·have:=K S k;omega
     ·have:=K v[z] (aG ab);simp;omega
    ·simp[D,E,H,J,I,P];exact⟨⟨v,s,F,ae,aE,bu,bS,O,B,U,λS hr=>by have:=K S hr;omega⟩,B,a8,ca⟩
    ·have fC:∀c,fq W=some c->c<an.size:=λc=>R.olt;clear eU aE bu bS O a8 ca de D E H J I P;rintro r eS ⟨⟨⟨v,s,F,ae,aE,bu,bS,O,de,U,K⟩,gv,a8,ca⟩,D,E,H,J,I,P,e5,e6⟩;obtain⟨fB,fL,cd,Q⟩:=O.go.m9 (cx:=cx) (f:=fR.t) aE.w.ok UN rfl UL rfl G (λ_=>rfl) u dR;have er:∀c,fq W=some c->e.size+2<=c:=λc k=>(O.ob c k).1;have A:∀c,c<eS.size->(∀k,fq W=some k->k≠c)->fL.get c=eS.get c:=λc bi bN=>Q.2.1 c bi λk=>bN c k rfl;have t6:=(A _ B λk o=>by have:=fC k o;omega).trans ca;have cb:=(A e.size B λk o=>by have:=er k o;omega).trans bu;have eW:=O.out Q B;have eX:=(aE.xt Q (λc a7=>by have:=er c a7;simp;omega) (by simpa using a6)).put cb G (by simpa using a6) (X 7 (ae+1) [(li h (r9 h q l) u).t]);have bX:r9 h q (l++[u])=li h (r9 h q l) u:=by
      show yg _ _ _=_;rw[GS];show(kz h (r9 h q l) u).1=_;rw[ef]
     have di:=Q.2.2.2.sz;simp[D,E,H,J,I,P,e5,e6,a8,cd,t6,cb];refine⟨B,fB,l++[u],⟨v,s,F,ae+1,eX,?_,?_,eW.mE λc o _=>?_,dR,U,K⟩,?_,?_,?_,?_,?_,rfl⟩
     ·rw[bX,eG cb,au rfl]
     ·rw[eG cb,Z B];exact(A (e.size+1) B λk o=>by have:=er k o;omega).trans bS
     ·rw[eG cb,Z B]
     ·rw[E2,ec];simp[runs,rj,o]
     ·simp;omega
     ·intro x hx;rcases List.mem_append.1 hx with hx|hx
      ·exact ea x hx
      ·simp at hx;subst hx;omega
     ·have:=ed.step h u;rw[ef]at this;rw[bX];exact this
     ·have:=xP h (r9 h q l).gu u.eJ u.fh u.obj (mr u);obtain⟨fs,fv,gd,fA⟩:=b7;rw[bX];exact⟨by unfold li;simp only;split<;>simp[fs],by unfold li;simp only;split<;>simp[fv],by show(fZ ..).1.ee.length<=_;omega,by unfold li;simp[fA]⟩
  ·simp[I];exact(aA.le (ay _)).cut eP a6 (av.go.adZ (d:=2) B (λc a7=>by have:=(av.ob c a7).1;omega) aiK) λcL fE=>⟨l,rfl,eH,ea,ec,fE,cL⟩
 ·exact(⟨B,B,B,B⟩:PlC q)
end
def OS:pM prog cx 78 (λa:fg×Int×Int=>[a.1.t,C a.2.1,C a.2.2]) (λa=>a.1.ej.length<=1000000) (λa v=>∃p:Int,v= C p/\p<a.1.ej.length):=by
 refine jU [] (jF 20975823 [] func78) (λa=>a.1.ej.length+5) (λa b c=>by simp at c;exact aD (fg.inj c.1) (aD c.2.1 c.2.2)) ?_;rintro⟨q,w,u⟩ hl d m;simp at hl m;obtain⟨r,e,f⟩:=m;simp[f78,r];refine ik q.ej.length B (λo d c=>∃l,iQ 1 c/\c.get 0=some (X 15 0 [q.t])/\Y d 1 (C w)/\Y d 2 (C l)/\Y d 3 (.fc 0 0 0 0)/\Y d 7 (C o)) ?_ ?_ B ⟨u,⟨G,G,G⟩,by simp[e,f]⟩
 ·rintro o d c s n ⟨l,h,i,e,f,j,g⟩;have x:=h.ne (b:=0) B;simp[i,e,j,g,s];refine fN (λk=>?_) (λk=>?_)
  ·simp[f];refine fN (λk=>?_) (λk=>?_)
   ·simp[g,h.hp];omega
   ·simp[i,e,f,j,g,n,uf,h]
  ·simp[i,e,f,j,g,n,h]
 ·rintro d c ⟨l,h,i,e,f,j,g⟩;simp[i,j,g,h.hp];omega
def FF:pM prog cx 85 (λa:fg=>[a.t]) (λa=>a.ka.count.length<=1000000/\a.ej.length<=1000000) (λ_=>J7):=by
 refine jU [] (jF 268436511 [] func85) (λa=>a.ka.count.length+5) (λo p b=>by simp at b;exact fg.inj b) ?_;rintro a ⟨hl,q⟩ c j;simp at j;simp[f85,j];refine ik a.ka.count.length B (λl c b=>∃i,iQ 1 b/\b.get 0=some (X 15 0 [a.t])/\Y c 1 (.fc 0 0 0 0)/\Y c 3 (C i)/\Y c 4 (C l)) ?_ ?_ B ⟨0,⟨G,G,G⟩,G⟩
 ·rintro l c b k m ⟨i,g,d,e,h,f⟩;simp[d,e,f,k];refine fN (λn=>?_) (λn=>?_)
  ·simp[g.hp]
  ·simp[d,e,h,f,k,m,qm,g]
 ·rintro c b ⟨i,g,d,e,h,f⟩;simp[d,e,h,f,qm,g.hp]
def Mt(b:fg)(a:ei):Prop:=CA a=true->ju a.cond b.fM.iL.length=true
def BM:pM prog cx 86 (λa:fg=>[a.t]) (λa=>a.ka.gu.ee.length<=1000000/\a.ka.gu.ee.length=a.ka.count.length) (λa=>Lp (∀m∈a.ka.gu.ee,Mt a m)):=by
 refine jU [(127,HO)] (jF 162259279247065002620836359716991 [] func86) (λa=>a.ka.gu.ee.length+5) (λu b d=>by simp at d;exact fg.inj d) ?_;rintro a ⟨hl,v⟩ g o;simp at o;simp[f86,o];refine ik a.ka.gu.ee.length B (λc g d=>iQ 1 d/\d.get 0=some (X 15 0 [a.t])/\Y g 1 (.fc 0 0 0 0)/\Y g 3 (sl (a.ka.gu.ee.map ei.t))/\Y g 4 (C c)/\∀m∈a.ka.gu.ee.take c,Mt a m) ?_ ?_ B ⟨⟨G,G,G⟩,G⟩
 ·rintro c g d n q ⟨f,j,k,h,i,l⟩;have r:a.ka.gu.ee.take (c+1)=a.ka.gu.ee.take c++[a.ka.gu.ee[c]]:=aP n;have w:=f.ne (b:=0) B;simp[j,k,h,i,n,show c<a.ka.count.length by omega];refine fN (λe=>?_) (λe=>?_)
  ·simp[f.hp]
  clear e;simp[j,k,h,i,n,Va];refine fN (λe=>?_) (λe=>?_)
  ·simp[f.hp]
  simp[j,k,h,i,q,f];generalize a.ka.gu.ee[c]=m at*
  rw[r];intro s hu;rcases List.mem_append.1 hu with hu|hu
  ·exact l s hu
  rw[List.mem_singleton.1 hu];intro p;unfold CA at p;rw[p]at e;simpa using e
 ·rintro g d ⟨f,j,k,h,i,l⟩;rw[aL]at l;simp[h,i,f.hp];exact l
def CT:pM prog cx 88 (λa:fg×Int×List Int=>[a.1.t,C a.2.1,sl (a.2.2.map (T.int .i64))]) (λa=>a.1.ej.length<=1000000/\ju a.2.1 a.1.ka.count.length=true/\a.2.2.length<=1000000) (λ_=>J7):=by
 refine jU [(78,OS.kc)] (jF 576460752336982479 [] func88) (λa=>a.2.2.length+5) (λa b c=>by simp at c;exact aD (fg.inj c.1) (aD c.2.1 (jV (λ_ _ c=>by simpa using c) c.2.2))) ?_;rintro⟨u,y,s⟩ ⟨hl,p,D⟩ h w;simp only at hl p D;simp at w;obtain⟨A,e,d⟩:=w;have⟨z,n,_⟩:=jn p;have ht:=fU (fQ.1 p).1;simp[f88,A];refine ik s.length B (λr h c=>iQ 1 c/\c.get 0=some (X 15 0 [u.t])/\Y h 1 (C y)/\Y h 2 (sl (s.map (T.int .i64)))/\Y h 3 (.fc 0 0 0 0)/\Y h 7 (C r)) ?_ ?_ B ⟨⟨G,G,G⟩,by simp[e,d]⟩
 ·rintro r h c q x ⟨g,i,e,d,j,f⟩;have J:=g.ne (b:=0) B;obtain⟨_,⟨k,rfl,E⟩,m⟩:=OS.use (u,y,IntKind.i64.wrap (s[r]-z)) hl;simp only at m E;simp[i,e,d,j,f,q,ht,n];refine fN (λo=>?_) (λo=>?_)
  ·simp[i,e,d,j,f,x,g]
  have F:decide (k<0)=true\/decide (k<0)=false/\lJ k=some k.toNat/\∃v,u.ej[k.toNat]? =some v:=by
   by_cases l:k<0
   ·exact .inl (bM l)
   ·exact .inr ⟨aS l,fU B,_,aB B⟩
  rcases F with l|⟨l,H,v,I⟩
  ·simp[i,e,d,j,f,q,ht,n,uf,m,g.hp,l]
  ·simp[i,e,d,j,f,q,ht,n,uf,m,l,H,I];refine fN (λo=>?_) (λo=>?_)
   ·simp[g.hp]
   ·simp[i,e,d,j,f,x,g]
 ·rintro h c ⟨g,i,e,d,j,f⟩;simp[d,f,g.hp]
structure ai2(w:fg):Prop where
 l1:w.ka.gu.fI.length<=1000000
 l2:w.ka.gu.ee.length<=1000000
 l3:∀l∈w.ka.gu.fI,l.fO.length<=1000000
 e:w.ka.gu.fI.length=w.fM.fI.length
 t:∀t∈w.ka.gu.ee,Mt w t
 m:∀c∈w.fM.iL,ju c.kU w.ka.gu.fI.length=true
def af1(c:fg)(e:Nat):Prop:=∀(a:Nat) (b:fa) (d:jq),a<e->c.ka.gu.fI[a]? =some b->c.fM.fI[a]? =some d->b.fO≠ []->b.jg=-1/\d.rW=true
def DH:pM prog cx 87 (λc:fg=>[c.t]) ai2 (λc=>Lp (wt c.fM c.ka.gu)):=by
 refine jU [(128,yD)] (jF 5575186465791384471966860632566831987622399 [] func87) (λc=>1000005) (λa b h=>by simp at h;exact fg.inj h) ?_;rintro c v g Z;simp at Z;simp[f87,Z];refine ik c.ka.gu.fI.length (by have:=v.l1;omega) (λd g h=>af1 c d/\iQ 2 h/\h.get 0=some (X 15 0 [c.t])/\h.get 1=some (X 4 1 [c.ka.gu.t])/\Y g 1 (.fc 0 0 0 0)/\Y g 3 (.fc 1 0 0 0)/\Y g 4 (C d)) ?_ ?_ (by have:=v.l1;omega) ⟨λQ _ _ an=>by omega,⟨G,G,G⟩,G⟩
 ·rintro d g h F K ⟨T,i,q,o,f,j,u⟩;have x:=i.ne (b:=0) B;have I:=i.ne (b:=1) B;have aX:=v.l3 _ (aG F);have V:d<c.fM.fI.length:=by have:=v.e;omega
  simp[q,o,f,j,u,F,x,i.low,yY,V];have av:iQ 2 (h.cons (X 2 1 [c.ka.gu.fI[d].t])):=i.cons _;have a6:2<=h.size:=i.sz;have U:((c.ka.gu.fI[d].fO≠ []->c.ka.gu.fI[d].jg=-1/\c.fM.fI[d].rW=true))->af1 c (d+1):=λn Q l s an hl L hr=>by
   by_cases r:Q=d
   ·subst r;rw[aB F]at hl;rw[aB V]at L;simp only[aw]at hl L;subst hl;subst L;exact n hr
   ·exact T Q l s B hl L hr
  generalize c.ka.gu.fI[d]=l at*
  refine fN (λk=>?_) (λk=>?_)
  ·simp[i.hp]
  replace U:=U λhr=>by
   have:=List.length_pos_iff.2 hr;simp at k;exact(k.2 this).symm
  clear k;simp;refine ik l.fO.length B (λn g w=>iQ 2 w/\h.size<w.size/\w.get 0=some (X 15 0 [c.t])/\w.get 1=some (X 4 1 [c.ka.gu.t])/\w.get h.size=some (X 2 1 [l.t])/\Y g 1 (.fc 0 0 0 0)/\Y g 3 (.fc 1 0 0 0)/\Y g 4 (C d)/\Y g 5 (.fc h.size 0 0 0)/\Y g 6 (C n)) ?_ ?_ B ⟨av,G,by simp[q,o,f,j,u,x,I]⟩
  ·rintro n g w al ab ⟨H,P,y,J,z,f,j,u,A,D⟩;have ap:=mh (a:=n) (b:=1) B B;have N:decide (0<n)=false/\True/\(∃s:Int,s=s)\/decide (0<n)=true/\lJ ((n:Int)-1)=some (n-1)/\∃s,l.fO[n-1]? =some s:=by
    by_cases r:0<n
    ·refine .inr ⟨bM r,?_,_,aB B⟩;rw[show(n:Int)-1=((n-1:Nat):Int)by omega];exact fU B
    ·exact .inl ⟨aS r,trivial,0,rfl⟩
   rcases N with⟨r,_,s,O⟩|⟨r,S,s,O⟩
   ·simp[y,z,f,A,D,al,yY,r];refine fN (λk=>?_) (λk=>?_)
    ·simp[H.hp]
    ·simp[y,J,z,f,j,u,A,D,ab,H,P]
   ·simp[y,z,f,A,D,al,yY,r,S,O,ap];refine fN (λk=>?_) (λk=>?_)
    ·simp[H.hp]
    ·simp[y,J,z,f,j,u,A,D,ab,H,P]
  ·rintro g w ⟨H,P,y,J,z,f,j,u,A,D⟩;simp[y,J,z,f,j,u,A,D,K,H,U]
 ·rintro g h ⟨T,i,q,o,f,j,u⟩;have aN:wt c.fM c.ka.gu:=λd l s hl=>T d l s (List.getElem?_eq_some_iff.1 hl).1 hl;simp[q,o,f,j,u,yY];refine fN (λk=>?_) (λk=>?_)
  ·simp[i.hp]
  clear k;simp;refine ik c.ka.gu.ee.length (by have:=v.l2;omega) (λd g h=>iQ 2 h/\h.get 0=some (X 15 0 [c.t])/\h.get 1=some (X 4 1 [c.ka.gu.t])/\Y g 1 (.fc 0 0 0 0)/\Y g 3 (.fc 1 0 0 0)/\Y g 7 (C d)) ?_ ?_ (by have:=v.l2;omega) ⟨i,by simp[q,o,f,j]⟩
  ·rintro d g h F K ⟨i,q,o,f,j,E⟩;have x:=i.ne (b:=0) B;have I:=i.ne (b:=1) B;have ht:=v.t _ (aG F);simp[q,o,f,j,E,F,x,i.low,yY];refine fN (λk=>?_) (λk=>?_)
   ·simp[i.hp]
   clear k;have N:CA c.ka.gu.ee[d]=false/\True/\True/\(∃p:jG,p=p/\∃l:fa,l=l)\/CA c.ka.gu.ee[d]=true/\lJ c.ka.gu.ee[d].cond=some c.ka.gu.ee[d].cond.toNat/\True/\(∃p,c.fM.iL[c.ka.gu.ee[d].cond.toNat]? =some p/\lJ p.kU=some p.kU.toNat/\∃l,c.ka.gu.fI[p.kU.toNat]? =some l):=by
    cases r:CA c.ka.gu.ee[d]
    ·exact .inl ⟨rfl,trivial,trivial,default,rfl,default,rfl⟩
    ·have f:=ht r;have⟨p,ae,_⟩:=jn f;have W:=v.m p (aC ae);have⟨l,hl,_⟩:=jn W;exact .inr ⟨rfl,fU (fQ.1 f).1,trivial,p,ae,fU (fQ.1 W).1,l,hl⟩
   unfold CA at N;rcases N with⟨R,_,_,p,_,l,_⟩|⟨R,S,_,p,O,aA,l,aE⟩
   ·simp[q,o,f,j,E,x,I,R,K,i.cons]
   ·simp[q,o,f,j,E,x,I,R,S,O,aA,aE];refine fN (λk=>?_) (λk=>?_)
    ·simp[i.hp]
    ·simp[q,o,f,j,E,x,I,K,i.cons]
  ·rintro g h ⟨i,q,o,f,j,E⟩;simp[o,j,E,i.hp,aN]
structure agj(w:fg):Prop where
 c:w.ka.count.length<=1000
 ev:w.ej.length<=1000000
 l:w.ka.gu.fI.length<=1000
 t:w.ka.gu.ee.length<=1000
 d:w.ka.gu.done.length<=1000
 f:w.ka.fH.length<=1000
 r:∀l∈w.ka.gu.fI,l.fO.length<=1000
 sm:u5 1000 w.ka
 wb:kM w.fM=true
 es:NK w.ej
def HS:pM prog cx 43 (λd:fg=>[d.t]) (λd=>agj d/\oc d.fM d.ka=true/\d.ej.length<=16) (λd=>Lp (wt d.fM d.ka.gu)):=by
 refine jU [(83,AE),(84,zr),(85,FF.kc),(86,BM.kc),(87,DH.kc),(82,pj),(88,CT.kc)] (jF 324518553667945246868126660821503 [] func43) (λd=>1000005) (λa b g=>by simp at g;exact fg.inj g) ?_;rintro d ⟨i,U,cL⟩ k R;simp at R;have W:=U;unfold oc at W;simp only[az,aM]at W;obtain⟨⟨⟨bN,_⟩,cF⟩,bH⟩:=W;have K:=bN;unfold mK at K;simp only[az,aM]at K;have⟨cX,c1,c4,c6,c7,c9⟩:=lY i.wb;have bS:∀n∈d.fM.iL,ju n.kU d.ka.gu.fI.length=true:=λn bB=>by
  rw[K.1.1.2];exact List.all_eq_true.1 K.1.1.1 n bB
 have aA:d.fM.iL.length<=1099511627776:=B;have aX:kM d.fM=true:=i.wb;obtain⟨_,⟨ca,rfl⟩,ap⟩:=FF.use d ⟨by have:=i.c;omega,i.ev⟩;obtain⟨_,⟨bg,rfl,bA⟩,av⟩:=BM.use d ⟨by have:=i.t;omega,B⟩;cases bg with
 |false=>simp[f43,R,Ck,JQ,aX,U,ap,av,aA]
 |true=>
 obtain⟨_,⟨cb,rfl,bu⟩,bi⟩:=DH.use d ⟨by have:=i.l;omega,by have:=i.t;omega,λbW u=>by have:=i.r bW u;omega,B,bA rfl,bS⟩;simp[f43,R,Ck,JQ,aX,U,ap,av,bi,aA];refine fN (λo=>?_) (λo=>?_)
 ·simp
 have b7:wt d.fM d.ka.gu:=bu (by simp at o;exact o.2);clear o;simp;refine ik d.ka.fH.length (by have:=i.f;omega) (λe k g=>iQ 1 g/\g.get 0=some (X 15 0 [d.t])/\Y k 1 (.fc 0 0 0 0)/\Y k 3 (C e)) ?_ ?_ (by have:=i.f;omega) ⟨⟨G,G,G⟩,G⟩
 ·rintro e k g D S ⟨q,v,j,H⟩;have bC:e<d.ka.gu.done.length:=B;simp[v,j,H,D,bC];refine fN (λo=>?_) (λo=>?_)
  ·simp[q.hp]
  ·simp[v,j,H,S,q]
 rintro k g ⟨q,v,j,H⟩;have bX:=q.ne (b:=0) B;simp[v,j,H,q.low];have⟨N,cd⟩:∃N,g.size=N:=⟨_,rfl⟩;have cp:1<=N:=by have:=q.sz;omega
 refine ik d.ej.length B (λe k h=>∃L m,u5 (1000+e) m/\iQ 1 h/\g.size<h.size/\h.get 0=some (X 15 0 [d.t])/\h.get g.size=some (X 7 L [m.t])/\Y k 1 (.fc 0 0 0 0)/\Y k 4 (.fc g.size 0 0 0)/\Y k 5 (C e)) ?_ ?_ B ⟨1,d.ka,i.sm,q.cons _,G,by simp[v,j,bX]⟩
 ·rintro e k h D S ⟨L,m,al,s,bT,w,F,j,I,y⟩;have a6:=s.ne (b:=0) B;have a7:(g.size=h.size)=False:=dR;have J:=i.es d.ej[e] (aG D);have x:=λ{b9:io} (ht:b9.p 82=some pj)=>EB ht d.fM m d.ej[e] B (al.up B) J.1 J.2;have ae:iQ 1 ((h.cons (X 7 1 [d.ej[e].t])).cons (X 7 0 [T.eZ [T.V [] false,T.int .i64 0,T.V [] false,T.V [] false,T.V [] false,T.V [] false,T.V [] false]])):=(s.cons _).cons _;have E:=ou ae.hp (show h.size+1<_ by simp);cases u:rO d.fM m d.ej[e]with
  |false=>
   rw[mW u]at x;simp[w,F,j,I,y,D,a6,a7,s.low,x,s.hp]
  |true=>
   have aE:kz d.fM m d.ej[e]=(li d.fM m d.ej[e],true):=by unfold kz;rw[au u]
   have b8:u5 (1000+(e+1)) (li d.fM m d.ej[e]):=by have:=al.step d.fM d.ej[e];rw[aE]at this;exact this
   rw[aE]at x;have aN:ju d.ej[e].eJ d.ka.count.length=true:=by
    unfold rO at u;simp only[az]at u;rw[bH];exact u.1.1.1.1.1.1.1.1.2
   obtain⟨_,⟨r1,rfl⟩,O⟩:=CT.use (d,d.ej[e].eJ,d.ej[e].nQ) ⟨dS,aN,J.1⟩;obtain⟨_,⟨r2,rfl⟩,Q⟩:=CT.use (d,d.ej[e].eJ,d.ej[e].wm) ⟨dS,aN,J.2⟩;simp only at O Q;simp[w,F,j,I,y,D,a6,a7,s.low,x,O,Q,E];generalize A:fJ _ (h.size+1) _=z;have ab:iQ 1 z:=by rw[<-A];exact ae.put _ _
   have dd:z.size=h.size+1+1:=by rw[<-A];simp
   have an:∀n,n≠h.size+1->n≠h.size->z.get n=h.get n:=λn a8 b6=>by rw[<-A,E,Z a8];simp[a8,b6]
   have bn:=(an 0 B B).trans w;have bp:=(an g.size B B).trans F;have bs:z.get (h.size+1)=some (X 7 1 [(li d.fM m d.ej[e]).t]):=by rw[<-A,E,au rfl]
   clear A E ae x O Q;refine fN (λo=>?_) (λo=>?_)
   ·simp[ab.hp]
   ·simp[bp,bs,j,I,y,S];have P:=ou ab.hp (show g.size<z.size by omega);exact⟨L+1,_,b8,ab.put _ _,B,(P _ 0).trans ((Z B).trans bn),(P _ g.size).trans (au rfl)⟩
 ·rintro k h ⟨L,m,al,s,bT,w,F,j,I,y⟩;simp[w,j,y,s.hp,b7]
