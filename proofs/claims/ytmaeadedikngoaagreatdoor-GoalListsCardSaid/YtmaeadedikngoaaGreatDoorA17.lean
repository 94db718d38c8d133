/- Texts X07 to W08g. -/
import Derived.Test.YtmaeadedikngoaaGreatDoorA16
set_option linter.all false
set_option maxRecDepth 100000
set_option maxHeartbeats 8000000
namespace Go.Proofs.YtmaeadedikngoaaGreatDoor
noncomputable section
open Go Go.TI
attribute [-simp] List.map_take List.map_drop List.map_append fH fh ej Bool.not_or Bool.not_and
attribute [simp] fG fj
def Nh(b c:H)(f:Nat)(e:List (T×aa (Nat×List T))):Prop:=∃d g,nS c d f g e/\(∀a,Fp c d a->b.size<=a)/\ij b.size c/\∀a,a<b.size->c.get a=b.get a
def Nh.of{b f d:H}{e j k:Nat}{h:List (T×aa (Nat×List T))}(n:nS d e j k h)(c:Step e f d)(i:∀a,Fp f e a->b.size<=a)(l:b.size<=f.size)(m:∀a,a<b.size->f.get a=b.get a):Nh b (lM b d) j h:=
 ⟨e,k,n.step ((ij.out ⟨c.ok.hp,c.ok.low,aw _⟩ b)) λa _=>fQ b d a,λa g=>by
   rw[iV (fQ b d e)]at g;rcases c.fp a g with q|q
   ·exact i a q
   ·omega,ij.out ⟨c.ok.hp,c.ok.low,aS l c.ok.sz⟩ b,λa g=>(fQ b d a).trans ((c.get a dB λq=>by have:=i a q;omega).trans (m a g))⟩
def pS8(a:ee)(b:List T)(c:H):Prop:=b=[a.t]/\ij 0 c/\a.ew.length<=1000000/\a.ei.length<=1000000/\a.dM.length<=1000000
def zl(b:Nat):List dP:=(List.range b).map λa=>⟨if a=0 then 1 else 0,0,false⟩
def LT(a:Nat):zl (a+1)=zl a++[⟨if a=0 then 1 else 0,0,false⟩]:=by
 unfold zl;rw[List.range_succ,List.map_append];rfl
def qS8(a:ee)(_:List T)(e:H)(g:T)(f:H):Prop:=∃b c d,g= .agg [b,dG (-1),c,d]/\Nh e f 4 [(b,some (2,(List.replicate a.ew.length ()).map yn)),(dG (-1),none),(c,some (1,(List.replicate a.ei.length false).map T.bool)),(d,some (3,(zl a.dM.length).map dP.t))]
def Sz8(e:Nat)(f:H)(Lk:List Unit)(a:List Bool)(Th:List dP):Prop:=∃g b c d,nS f e 4 g [(b,some (2,Lk.map yn)),(dG (-1),none),(c,some (1,a.map T.bool)),(d,some (3,Th.map dP.t))]
def adK:(jF ee pS8 qS8).Ok Tryz.prog cx 73:=by
 refine jv (tb:=⟨pt [],ht []⟩) fc fa (je 9071038046463 [] Tryz.func73) (λ_ _=>1000005) (λe a h aE=>by obtain⟨rfl,_⟩:=aE;simp[Tryz.f73]) ?_;rintro(w:ee) _ h ⟨rfl,ap,hl,bn,ht⟩ d Z;simp at Z;simp[Tryz.f73,Z];generalize M:d8 _ _ _=p;have N:ij 0 p:=by rw[<-M];exact(((ap.hr.cons _).cons _).cons _).put _ _
 have bs:p.size=h.size+3:=by rw[<-M];simp
 have J:∀j,p.get j=if j=h.size+2 then some (dI 4 1 [.agg [dH,dG (-1),dH,dH]])else if j=h.size+1 then some vq else if j=h.size then some (dI 6 0 [w.t])else h.get j:=λj=>by
  rw[<-M,m6 (((ap.hr.cons _).cons _).cons _).hp dC,dW,dW,dW,gF];simp only[size_cons,nV];by_cases K:j=h.size+2<;>simp[K,vq]
 obtain⟨a7,O⟩:=nS.start (h:=p) (w:=h.size+2) (szw:=4) (ver:=1) (F:=[(dH,some (2,[])),(dG (-1),none),(dH,some (1,[])),(dH,some (3,[]))]) N (by rw[J,aq rfl];rfl) dC;have I:Lb (h.size+2) p h.size (dI 6 0 [w.t]):=⟨by rw[J,ao dB,ao dB,aq rfl],λK=>by have:=O _ K;omega⟩;have aX:Lb (h.size+2) p (h.size+1) vq:=⟨by rw[J,ao dB,aq rfl],λK=>by have:=O _ K;omega⟩;have a6:∀j,j<h.size->p.get j=h.get j:=λj E=>by rw[J,ao dB,ao dB,ao dB]
 clear M J;refine fI w.ew.length dB (λe d g=>Sz8 (h.size+2) g (List.replicate e ()) [] []/\Step (h.size+2) p g/\dJ d 1 (.ptr h.size 0 0 0)/\dJ d 2 (.ptr (h.size+1) 0 0 0)/\dJ d 3 (.ptr (h.size+2) 0 0 0)/\dJ d 4 (dG e)) ?_ ?_ dB ⟨⟨_,_,_,_,a7⟩,Step.refl N,dC⟩
 ·rintro e d g G D ⟨⟨ver,r,s,z,b⟩,c,i,k,l,m⟩;have o:=b.get;simp at o;obtain⟨q,u,n,y⟩:=(b.gr 0 rfl).nq (cx:=cx) (f:=yn) b.ok J8 rfl Ge rfl dC (λ_=>rfl) () dD;obtain⟨v,S,B⟩:=b.app 0 rfl y;obtain⟨C,A⟩:=B _ rfl;simp only[<-List.replicate_succ']at A;simp[-List.map_replicate]at v C A;simp only[yn]at n;simp[i,k,l,m,G,(I.step c).get,o,n,v,ed,y.1.im,y.1.cells,D];exact⟨⟨_,_,_,_,A⟩,c.trans C⟩
 rintro d g ⟨⟨ver,r,s,z,b⟩,c,i,k,l,m⟩;simp[i,m,(I.step c).get];refine fI w.ei.length dB (λe d g=>Sz8 (h.size+2) g (List.replicate w.ew.length ()) (List.replicate e false) []/\Step (h.size+2) p g/\dJ d 1 (.ptr h.size 0 0 0)/\dJ d 2 (.ptr (h.size+1) 0 0 0)/\dJ d 3 (.ptr (h.size+2) 0 0 0)/\dJ d 5 (dG e)) ?_ ?_ dB ⟨⟨_,_,_,_,b⟩,c,by simp[i,k,l]⟩
 ·clear b c i k l m;rintro e d g G D ⟨⟨ver,r,s,z,b⟩,c,i,k,l,m⟩;have o:=b.get;simp at o;obtain⟨q,u,n,y⟩:=(b.gr 2 rfl).nq (cx:=cx) (f:=T.bool) b.ok Gd rfl P7 rfl dC dC false dD;obtain⟨v,S,B⟩:=b.app 2 rfl y;obtain⟨C,A⟩:=B _ rfl;simp only[<-List.replicate_succ']at A;simp[-List.map_replicate]at v C A;simp[i,k,l,m,G,(I.step c).get,o,n,v,ed,y.1.im,y.1.cells,D];exact⟨⟨_,_,_,_,A⟩,c.trans C⟩
 clear b c i k l m;rintro d g ⟨⟨ver,r,s,z,b⟩,c,i,k,l,m⟩;simp[i,m,(I.step c).get];refine fI w.dM.length dB (λe d g=>Sz8 (h.size+2) g (List.replicate w.ew.length ()) (List.replicate w.ei.length false) (zl e)/\Step (h.size+2) p g/\dJ d 1 (.ptr h.size 0 0 0)/\dJ d 2 (.ptr (h.size+1) 0 0 0)/\dJ d 3 (.ptr (h.size+2) 0 0 0)/\dJ d 6 (dG e)) ?_ ?_ dB ⟨⟨_,_,_,_,b⟩,c,by simp[i,k,l]⟩
 ·clear b c i k l m;rintro e d g G D ⟨⟨ver,r,s,z,b⟩,c,i,k,l,m⟩;have o:=b.get;simp at o;have bu:=c.ok.sz;have bp:(h.size=g.size)=False:=dD;have ae:(h.size+2=g.size)=False:=dD;have an:=(I.step c).get;have al:∀L,∃q u,iM cx ((g.cons (dI 3 L [dP.t ⟨if e=0 then 1 else 0,0,false⟩])).cons (dI 3 0 [dP.t ⟨if e=0 then 1 else 0,0,false⟩])) 34 34 z (.arr (g.size+1) 0 0 1 false)=some (.val q u)/\q.im=true/\q.cells=[q]/\u.get (h.size+2)=some (dI 4 ver [.agg [r,dG (-1),s,z]])/\ff (g.cons (dI 3 L [dP.t ⟨if e=0 then 1 else 0,0,false⟩])) u (h.size+2)=true/\Sz8 (h.size+2) (d8 u (h.size+2) (dI 4 (ver+1) [.agg [r,dG (-1),s,q]])) (List.replicate w.ew.length ()) (List.replicate w.ei.length false) (zl (e+1))/\Step (h.size+2) p (d8 u (h.size+2) (dI 4 (ver+1) [.agg [r,dG (-1),s,q]])):=λL=>by
   have Y:=b.cons (dI 3 L [dP.t ⟨if e=0 then 1 else 0,0,false⟩]);have bk:=Step.cons b.ok b.lt (dI 3 L [dP.t ⟨if e=0 then 1 else 0,0,false⟩]);obtain⟨q,u,n,y⟩:=(Y.gr 3 rfl).nq (cx:=cx) (f:=dP.t) Y.ok CX rfl Br rfl dC (λ_=>rfl) (⟨if e=0 then 1 else 0,0,false⟩:dP) (by simp[zl];omega);obtain⟨v,S,B⟩:=Y.app 3 rfl y;obtain⟨C,A⟩:=B _ rfl;rw[<-LT]at C A;rw[size_cons]at n;exact⟨q,u,n,y.1.im,y.1.cells,v,S,⟨_,_,_,_,A⟩,(c.trans bk).trans C⟩
  by_cases P:e=0
  ·subst P;obtain⟨q,u,n,v,B,U,V,W,X⟩:=al 2;simp at n V;have av:binop .add (dG 0) (dG 1)=some (dG 1):=by simpa using D
   simp[i,k,l,m,G,an,o,ae,b.ok.low,n,v,B,U,ed,av];exact⟨W,X⟩
  ·obtain⟨q,u,n,v,B,U,V,W,X⟩:=al 1;simp[P]at n V;simp[i,k,l,m,P,G,an,o,ae,b.ok.low,n,v,B,U,ed,D];exact⟨W,X⟩
 clear b c i k l m;rintro d g ⟨⟨ver,r,s,z,b⟩,c,i,k,l,m⟩;have o:=b.get;simp at o;have Q:=aX.step c;have R:=Q.get;unfold vq at R;have a8:=b.sk Q (dI 4 1 [.agg [r,dG (-1),s,z]]);have aA:(d8 g (h.size+1) (dI 4 1 [.agg [r,dG (-1),s,z]])).get (h.size+1)=_:=(dQ R _ _).trans (aq rfl);simp[i,k,l,m,(I.step c).get,o,R,ed,aA,-List.map_replicate];have bi:Step (h.size+2) h p:=⟨⟨N.hp,N.low,dB⟩,λj E _=>a6 j E,λj E=> .inr (by have:=O j E;omega)⟩;exact⟨r,s,z,rfl,Nh.of a8 (Step.sk b.ok Q _ h (bi.trans c) dB) (λj E=>by
  rcases E with rfl|⟨x,aN,_⟩
  ·omega
  ·have:=H.eJ aN;omega) (au _) λ_ _=>rfl⟩
def Jk(a:ee)(b:List T)(c:H):Prop:=b=[a.t]/\ij 0 c/\a.ew.length<=1000000/\a.ei.length<=1000000/\a.dM.length<=1000000/\a.cells.length<=1000000
def Rl(a:ee)(c d e f g h:T)(b:List Int):List (T×aa (Nat×List T)):=[(c,some (2,(List.replicate a.ew.length ()).map yn)),(dG (-1),none),(d,some (1,(List.replicate a.ei.length false).map T.bool)),(e,some (3,(zl a.dM.length).map dP.t)),(f,some (1,b.map (T.int .i64))),(g,some (1,(List.replicate a.ei.length 0).map (T.int .i64))),(h,some (1,(List.replicate a.dM.length 0).map (T.int .i64)))]
def Ja(g:ee)(_:List T)(h:H)(j:T)(i:H):Prop:=∃a b c d e f,j= .agg [a,dG (-1),b,c,d,e,f]/\Nh h i 7 (Rl g a b c d e f (g.cells.map ig.j7))
def aad:(jF ee Jk Ja).Ok Tryz.prog cx 41:=by
 refine jv (tb:=⟨pt [],ht [(73,jF ee pS8 qS8)]⟩) fc fa (je 1048607 [(1,[(1,3),(1,5),(1,7),(1,9),(1,11)])] Tryz.func41) (λ_ _=>1000005) (λp s h ca=>by obtain⟨rfl,_⟩:=ca;simp[Tryz.f41]) ?_;rintro(d:ee) _ h ⟨rfl,cL,hl,E,ht,j⟩ y k;simp at k;have bs:d.ei.length*8<=70368744177664:=dB;have bu:d.dM.length*8<=70368744177664:=dB;simp[Tryz.f41,k];generalize z:((TI.hr h).cons _).cons _=u;have cX:ij 0 u:=by rw[<-z];exact(cL.hr.cons _).cons _
 refine kZ adK dC d ⟨rfl,cX,hl,E,ht⟩ ?_;rintro _ c ⟨m,n,o,rfl,g,Q,i,bB,an,P⟩;have di:u.size=h.size+2:=by rw[<-z];simp
 have de:=an.sz;rw[di]at de;have c7:u.get h.size=some (dI 6 0 [d.t]):=by rw[<-z];simp
 have c9:u.get (h.size+1)=some nC:=by rw[<-z];simp[nC]
 have dd:∀a,a<h.size->u.get a=h.get a:=λa j=>by rw[<-z,dW,ao dD,dW,ao dD,gF]
 clear z;have a0:=(P h.size dB).trans c7;have a1:=(P (h.size+1) dB).trans c9;have bi:=fk (P h.size dB);have cy:(h.size=c.size)=False:=dD;have dn:(h.size=c.size+1)=False:=dD;have bp:ff u c (c.size+1+1)=true:=jc (ll _ dB);have L:=λp a aA R (F: [(m,some (2,(List.replicate d.ew.length ()).map yn)),(dG (-1),none),(n,some (1,(List.replicate d.ei.length false).map T.bool)),(o,some (3,(zl d.dM.length).map dP.t))][p]? =some (a,some (aA,R)))=>And.intro (i.gr p F).im (i.gr p F).cells;have bH:=L 0 m _ _ rfl;have bN:=L 2 n _ _ rfl;have bS:=L 3 o _ _ rfl;have bk:ff u c c.size=true:=jc (ll _ dB);have bn:ff u c (c.size+1)=true:=jc (ll _ dB);simp[bs,bu,a0,bi,cy,bk,bn,bp];generalize M:d8 _ _ _=r;have IG:ij 0 c:=⟨an.hp,an.low,aw _⟩;have Jp:ij 0 r:=by rw[<-M];exact(((IG.cons _).cons _).cons _).put _ _
 have ea:r.size=c.size+3:=by rw[<-M];simp
 have D:∀a,r.get a=if a=c.size+2 then some (dI 7 1 [.agg [m,dG (-1),n,o,dH,.arr c.size 0 0 d.ei.length false,.arr (c.size+1) 0 0 d.dM.length false]])else if a=c.size+1 then some ⟨1,0,0,true,false,List.replicate d.dM.length (dG 0)⟩else if a=c.size then some ⟨1,0,0,true,false,List.replicate d.ei.length (dG 0)⟩else c.get a:=λa=>by
  rw[<-M,m6 (((IG.cons _).cons _).cons _).hp dC,dW,dW,dW];simp only[size_cons];by_cases q:a=c.size+2
  ·simp[q]
  ·by_cases B:a=c.size+1<;>by_cases c1:a=c.size<;>simp[q,B,c1]
 clear M;have O:∀a,a<c.size->r.get a=c.get a:=λa q=>by rw[D,ao dB,ao dB,ao dB]
 have N:∀(l:Nat) s,(Rl d m n o dH (.arr c.size 0 0 d.ei.length false) (.arr (c.size+1) 0 0 d.dM.length false) [])[l]? =some s->∀a,dU s.1=some a->(l<4/\[(m,some (2,(List.replicate d.ew.length ()).map yn)),(dG (-1),none),(n,some (1,(List.replicate d.ei.length false).map T.bool)),(o,some (3,(zl d.dM.length).map dP.t))][l]? =some s/\h.size+2<=a/\a<c.size)\/(l=5/\a=c.size)\/(l=6/\a=c.size+1):=by
  intro l s k a j;have ce:=λ(G: [(m,some (2,(List.replicate d.ew.length ()).map yn)),(dG (-1),none),(n,some (1,(List.replicate d.ei.length false).map T.bool)),(o,some (3,(zl d.dM.length).map dP.t))][l]? =some s)=>And.intro G (And.intro (show h.size+2<=a by have:=bB a (i.Bo (ax G) j);omega) (i.fp a (i.Bo (ax G) j)));unfold Rl at k;rcases l with _|_|_|_|_|_|_|l
  iterate 4 exact .inl ⟨dB,ce k⟩
  ·simp at k;subst k;simp at j
  ·simp at k;subst k;simp at j;exact .inr (.inl ⟨rfl,j.symm⟩)
  ·simp at k;subst k;simp at j;exact .inr (.inr ⟨rfl,j.symm⟩)
  ·simp at k
 have aN:nS r (c.size+2) 7 1 (Rl d m n o dH (.arr c.size 0 0 d.ei.length false) (.arr (c.size+1) 0 0 d.dM.length false) []):=by
  refine⟨Jp,by rw[D,aq rfl];rfl,λf E=> ?_,λl J b9 s b k b6 a A B=>b9 ?_⟩
  ·have al:=λp a aA R (F: [(m,some (2,(List.replicate d.ew.length ()).map yn)),(dG (-1),none),(n,some (1,(List.replicate d.ei.length false).map T.bool)),(o,some (3,(zl d.dM.length).map dP.t))][p]? =some (a,some (aA,R)))=>(i.gr p F).mono (h':=r) λq cb=>O q (i.fp q (i.Bo (ax F) cb));unfold Rl at E;simp only[cw,dh,or_false]at E;rcases E with rfl|rfl|rfl|rfl|rfl|rfl|rfl
   ·exact⟨al 0 _ _ _ rfl,show(2:Nat)≠7 by decide⟩
   ·show dU _=none;simp
   ·exact⟨al 2 _ _ _ rfl,show(1:Nat)≠7 by decide⟩
   ·exact⟨al 3 _ _ _ rfl,show(3:Nat)≠7 by decide⟩
   ·exact⟨Gr.nil _ _,show(1:Nat)≠7 by decide⟩
   ·exact⟨.inr ⟨c.size,0,0,true,_,dC,by rw[D,ao dB,ao dB,aq rfl],dC⟩,show(1:Nat)≠7 by decide⟩
   ·exact⟨.inr ⟨c.size+1,0,0,true,_,dC,by rw[D,ao dB,aq rfl],dC⟩,show(1:Nat)≠7 by decide⟩
  ·rcases N l s k a A with⟨a7,Y,dk,dm⟩|⟨a7,Y⟩|⟨a7,Y⟩<;>rcases N J b b6 a B with⟨r1,r2,r3,r4⟩|⟨r1,r2⟩|⟨r1,r2⟩<;>try omega
   exact Decidable.byContradiction λe=>i.UH l J e s b Y r2 a A B
 have S:∀a,Fp r (c.size+2) a->h.size+2<=a:=by
  rintro a (rfl|⟨x,I,v,a6,q⟩)
  ·omega
  ·rw[aN.get]at I;simp only[ar]at I;subst I;simp only[fx,bA,cA,bL,T.cells]at a6;obtain⟨f,b7,rfl⟩:=List.mem_map.1 a6;obtain⟨l,G,b8⟩:=List.mem_iff_getElem.1 b7;rcases N l f (by rw[aB G,b8]) a q with⟨_,_,J,_⟩|⟨_,J⟩|⟨_,J⟩<;>omega
 have a8:Lb (c.size+2) r h.size (dI 6 0 [d.t]):=⟨(O _ dB).trans a0,λq=>by have:=S _ q;omega⟩;have cp:Lb (c.size+2) r (h.size+1) nC:=⟨(O _ dB).trans a1,λq=>by have:=S _ q;omega⟩;have c6:Step (c.size+2) h r:=⟨⟨Jp.hp,Jp.low,dB⟩,λa j _=>(O a dB).trans ((P a dB).trans (dd a j)),λa j=> .inr (by have:=S a j;omega)⟩;clear D N L bH bN bS bk bn bp bi;refine fI d.cells.length dB (λp y K=>(∃Q a,nS K (c.size+2) 7 Q (Rl d m n o a (.arr c.size 0 0 d.ei.length false) (.arr (c.size+1) 0 0 d.dM.length false) ((d.cells.take p).map ig.j7)))/\Step (c.size+2) r K/\dJ y 1 (.ptr h.size 0 0 0)/\dJ y 2 (.ptr (h.size+1) 0 0 0)/\dJ y 3 (.ptr (c.size+2) 0 0 0)/\dJ y 4 (dG p)) ?_ ?_ dB ⟨⟨_,_,aN⟩,Step.refl Jp,dC⟩
 ·rintro p y K aX bT ⟨⟨Q,a,i⟩,C,U,V,W,X⟩;have w:=i.get;unfold Rl at w;simp at w;obtain⟨dv,h',bz,aE⟩:=(i.gr 4 rfl).nq (cx:=cx) (f:=T.int .i64) i.ok oR rfl yT rfl dC (λ_=>rfl) d.cells[p].j7 dD;obtain⟨A,ds,B⟩:=i.app 4 rfl aE;obtain⟨av,ap⟩:=B _ rfl;unfold Rl at A av ap;simp only[aT,cB,df,cQ]at A av ap;simp[U,V,W,X,aX,(a8.step C).get,w,bz,A,ed,aE.1.im,aE.1.cells,bT];exact⟨⟨_,_,by unfold Rl;rw[aW aX,List.map_append];exact ap⟩,C.trans av⟩
 rintro y K ⟨⟨Q,a,i⟩,C,U,V,W,X⟩;rw[aL]at i;have w:=i.get;unfold Rl at w;simp at w;have Z:=cp.step C;have ae:=Z.get;unfold nC at ae;have c4:=i.sk Z (dI 7 1 [.agg [m,dG (-1),n,o,a,.arr c.size 0 0 d.ei.length false,.arr (c.size+1) 0 0 d.dM.length false]]);have bC:(d8 K (h.size+1) (dI 7 1 [.agg [m,dG (-1),n,o,a,.arr c.size 0 0 d.ei.length false,.arr (c.size+1) 0 0 d.dM.length false]])).get (h.size+1)=_:=(dQ ae _ _).trans (aq rfl);simp[U,V,W,X,(a8.step C).get,w,ae,ed,bC,-List.map_replicate];exact⟨m,n,o,_,_,_,rfl,Nh.of c4 (Step.sk i.ok Z _ h (c6.trans C) dB) (λa j=>by
  rcases j with rfl|⟨x,I,_⟩
  ·omega
  ·have:=H.eJ I;omega) (au _) λ_ _=>rfl⟩
end
noncomputable section
open Go Go.TI
noncomputable abbrev gN(a:Func)(b:Nat):qm:=gq cx a b false
noncomputable abbrev gK(a:Func)(b:Nat):qm:=gq cx a b true
def gO{b:aj}{a:Func}{d:Nat}{c:Bool}(e:Tryz.prog.funcs[b]? =some a)(f:xf ⟨a,d,c,none⟩=true:=by kernel_rfl):mg Tryz.prog cx b (gq cx a d c):=aeo fc fa e f
def aa9:qm:=λ_ _ a b=>B2 ((.clone 1 1)) a b
def Sq:mg Tryz.prog cx 125 aa9:=xG (we (fn:=Tryz.f125) (t:=33) (tb:=4) (te:=YW) fa Tryz.func125 dK dK dK dK dK dK dK)
def aa8:qm:=λ_ _ a b=>B2 ((.clone 3 24)) a b
def Sp:mg Tryz.prog cx 126 aa8:=xG (we (fn:=Tryz.f126) (t:=34) (tb:=4) (te:=Av) fa Tryz.func126 dK dK dK dK dK dK dK)
def aa7:qm:=λ_ _ a b=>B2 (.nU) a b
def We:(Tryz.f237.name== "runtime.NumGoroutine")=false:=dK
def Wd:Tryz.f237.body.isNone=true:=dK
def Wb:Extern.findNext Tryz.f237=none:=dK
def Wc:Extern.find Tryz.f237=some Extern.BytealgIndexByte.indexByte:=dK
def Wa:Dh Tryz.prog cx 237 .nU:= @FC Tryz.prog cx 237 Tryz.f237 Tryz.func237 We Wd Wb Wc
def So:mg Tryz.prog cx 237 aa7:=xG Wa
def qs:Tree qm:=(.node (.node (.node (.node (.node (.node (.node (.node .nil 10 (gN Tryz.f10 40953575029616206113996799) .nil) 12 (gN Tryz.f12 7) .nil) 14 (gN Tryz.f14 127) (.node .nil 20 (gN Tryz.f20 138478519) .nil)) 21 (gN Tryz.f21 9223389645163727807) (.node (.node .nil 22 (gN Tryz.f22 79) .nil) 23 (gN Tryz.f23 2417851783344448572752095) (.node .nil 24 (gN Tryz.f24 7231) .nil))) 25 (gN Tryz.f25 18463641368405213903) (.node (.node (.node (.node .nil 29 (gN Tryz.f29 17179869843) .nil) 41 (gN Tryz.f41 1048607) .nil) 45 (gN Tryz.f45 9223372036871623167) (.node .nil 46 (gN Tryz.f46 4215) .nil)) 47 (gN Tryz.f47 772424076352653274097095092108232752774234854811365887) (.node (.node .nil 48 (gN Tryz.f48 67109327) .nil) 50 (gN Tryz.f50 1238093369775042453301102031) (.node .nil 51 (gN Tryz.f51 4196311) .nil)))) 53 (gN Tryz.f53 137506128175) (.node (.node (.node (.node (.node .nil 55 (gN Tryz.f55 36051629065113551) .nil) 58 (gN Tryz.f58 8796093286397) .nil) 59 (gN Tryz.f59 19808249554385699031857790975) (.node .nil 60 (gN Tryz.f60 8864829278711) .nil)) 66 (gN Tryz.f66 6434029281764525972148499167221040878727244754944919609542655) (.node (.node .nil 67 (gN Tryz.f67 95827739445721067874190659254502973333984266632037375) .nil) 68 (gN Tryz.f68 31) (.node .nil 73 (gN Tryz.f73 9071038046463) .nil))) 74 (gN Tryz.f74 17184194575) (.node (.node (.node (.node .nil 75 (gK Tryz.f75 68723687231) .nil) 76 (gN Tryz.f76 4504699140047487) .nil) 78 (gN Tryz.f78 576460753379335951) (.node .nil 79 (gN Tryz.f79 4605278686335) .nil)) 80 (gK Tryz.f80 30783) (.node (.node .nil 87 (gN Tryz.f87 463) .nil) 88 (gN Tryz.f88 29) (.node .nil 90 (gN Tryz.f90 9224506733391652861) .nil))))) 91 (gN Tryz.f91 4432473883133) (.node (.node (.node (.node (.node (.node .nil 93 (gN Tryz.f93 19342850151455133005856767) .nil) 94 (gN Tryz.f94 316913254556860716756833993695) .nil) 95 (gN Tryz.f95 275) (.node .nil 96 (gN Tryz.f96 11) .nil)) 97 (gN Tryz.f97 8934607822903) (.node (.node .nil 98 (gN Tryz.f98 479) .nil) 103 (gN Tryz.f103 19) (.node .nil 104 (gN Tryz.f104 13215461614728367217751695970865548304603543200842114553566203007) .nil))) 105 (gN Tryz.f105 1099511628339) (.node (.node (.node (.node .nil 106 (gN Tryz.f106 18889470444974887141823) .nil) 107 (gN Tryz.f107 829180818552508142370930303613581122868418894632663968482586879) .nil) 108 (gN Tryz.f108 332312079452150195464880550324504575) (.node .nil 109 (gN Tryz.f109 4330618893) .nil)) 110 (gN Tryz.f110 131635) (.node (.node .nil 111 (gN Tryz.f111 2147484735) .nil) 115 (gN Tryz.f115 348794743007212715313826391199890521722863) (.node .nil 116 (gN Tryz.f116 12259964349774246101165194645239424850975965214878597119) .nil)))) 121 (gN Tryz.f121 35315368591455) (.node (.node (.node (.node (.node .nil 122 (gN Tryz.f122 19) .nil) 123 (gN Tryz.f123 606826398900554784047567) .nil) 124 (gN Tryz.f124 5868843906288553182383292937158044313155908148351) (.node .nil 125 (aa9) .nil)) 126 (aa8) (.node (.node .nil 131 (gN Tryz.f131 7) .nil) 133 (gN Tryz.f133 19) (.node .nil 135 (gN Tryz.f135 33587517) .nil))) 136 (gN Tryz.f136 4101) (.node (.node (.node (.node .nil 137 (gN Tryz.f137 21853) .nil) 138 (gN Tryz.f138 37396817117309) .nil) 139 (gN Tryz.f139 51) (.node .nil 140 (gN Tryz.f140 40536831200067837) .nil)) 141 (gN Tryz.f141 72128100255664255) (.node (.node .nil 142 (gN Tryz.f142 1242795222330225588904675325) .nil) 143 (gN Tryz.f143 1237940043933112819970491391) (.node .nil 144 (gN Tryz.f144 1053) .nil)))))) 145 (gN Tryz.f145 151115745466229840684019) (.node (.node (.node (.node (.node (.node (.node .nil 147 (gK Tryz.f147 18191) .nil) 148 (gN Tryz.f148 365376106316094180278949616271352870286206697499) .nil) 149 (gN Tryz.f149 10633824283312870803151638865622599647) (.node .nil 151 (gN Tryz.f151 19) .nil)) 152 (gN Tryz.f152 606826398900554784047567) (.node (.node .nil 154 (gK Tryz.f154 1048607) .nil) 157 (gN Tryz.f157 5) (.node .nil 158 (gN Tryz.f158 131613) .nil))) 159 (gN Tryz.f159 5) (.node (.node (.node (.node .nil 160 (gN Tryz.f160 11161304336780981658631819976322344575566047) .nil) 161 (gN Tryz.f161 4362601011) .nil) 162 (gN Tryz.f162 19) (.node .nil 163 (gK Tryz.f163 2097183) .nil)) 164 (gN Tryz.f164 1182933510117985879039) (.node (.node .nil 177 (gN Tryz.f177 19) .nil) 178 (gN Tryz.f178 19) (.node .nil 179 (gN Tryz.f179 5) .nil)))) 180 (gN Tryz.f180 35500589085) (.node (.node (.node (.node (.node .nil 181 (gN Tryz.f181 5) .nil) 182 (gN Tryz.f182 1125908496810045) .nil) 183 (gN Tryz.f183 262565) (.node .nil 184 (gN Tryz.f184 541) .nil)) 185 (gN Tryz.f185 328307) (.node (.node .nil 186 (gN Tryz.f186 1574131) .nil) 187 (gN Tryz.f187 275) (.node .nil 188 (gN Tryz.f188 529021) .nil))) 189 (gN Tryz.f189 1125902054326279) (.node (.node (.node (.node .nil 190 (gN Tryz.f190 32909) .nil) 191 (gN Tryz.f191 262707) .nil) 192 (gN Tryz.f192 262707) (.node .nil 193 (gN Tryz.f193 14474012017383023515249485065460760621927424225494418519668988771800801378299) .nil)) 194 (gN Tryz.f194 36893488147419136123) (.node (.node .nil 198 (gN Tryz.f198 20282409606012871684182924853463) .nil) 199 (gN Tryz.f199 158456325028530997355645763711) (.node .nil 200 (gN Tryz.f200 1037) .nil))))) 201 (gN Tryz.f201 1099578740959) (.node (.node (.node (.node (.node (.node .nil 203 (gN Tryz.f203 1) .nil) 206 (gN Tryz.f206 5) .nil) 207 (gK Tryz.f207 262175) (.node .nil 208 (gK Tryz.f208 9904163146420522906957187071) .nil)) 220 (gN Tryz.f220 19) (.node (.node .nil 221 (gN Tryz.f221 2293) .nil) 222 (gN Tryz.f222 2149585011) (.node .nil 223 (gN Tryz.f223 526461) .nil))) 224 (gN Tryz.f224 8606909437) (.node (.node (.node (.node .nil 225 (gN Tryz.f225 182687706027492332498828539273953093013162958911) .nil) 226 (gN Tryz.f226 70368744310543) .nil) 227 (gN Tryz.f227 83) (.node .nil 228 (gN Tryz.f228 33688639) .nil)) 229 (gN Tryz.f229 4196847) (.node (.node .nil 231 (gN Tryz.f231 1049655) .nil) 237 (aa7) (.node .nil 238 (gN Tryz.f238 8211) .nil)))) 242 (gN Tryz.f242 131527) (.node (.node (.node (.node (.node .nil 243 (gN Tryz.f243 563501857374451) .nil) 244 (gN Tryz.f244 2863311549) .nil) 245 (gN Tryz.f245 18483898770635358239) (.node .nil 246 (gN Tryz.f246 7) .nil)) 247 (gN Tryz.f247 99132251962343631) (.node (.node .nil 248 (gN Tryz.f248 8703) .nil) 249 (gN Tryz.f249 8590200303) (.node .nil 254 (gN Tryz.f254 594912002450663878599) .nil))) 256 (gN Tryz.f256 13) (.node (.node (.node (.node .nil 261 (gN Tryz.f261 32819) .nil) 264 (gN Tryz.f264 132109) .nil) 267 (gN Tryz.f267 749019592093908130998168547243562859198691857383367) (.node .nil 272 (gN Tryz.f272 72339071195682803) .nil)) 281 (gN Tryz.f281 8407165) (.node (.node .nil 282 (gN Tryz.f282 2101491) .nil) 284 (gN Tryz.f284 9224502335110254589) (.node .nil 285 (gN Tryz.f285 715827901) .nil)))))))
def ZX:qs.Rn λa b=>mg Tryz.prog cx a b:=(.node (.node (.node (.node (.node (.node (.node (.node .nil (gO Tryz.func10) .nil) (gO Tryz.func12) .nil) (gO Tryz.func14) (.node .nil (gO Tryz.func20) .nil)) (gO Tryz.func21) (.node (.node .nil (gO Tryz.func22) .nil) (gO Tryz.func23) (.node .nil (gO Tryz.func24) .nil))) (gO Tryz.func25) (.node (.node (.node (.node .nil (gO Tryz.func29) .nil) (gO Tryz.func41) .nil) (gO Tryz.func45) (.node .nil (gO Tryz.func46) .nil)) (gO Tryz.func47) (.node (.node .nil (gO Tryz.func48) .nil) (gO Tryz.func50) (.node .nil (gO Tryz.func51) .nil)))) (gO Tryz.func53) (.node (.node (.node (.node (.node .nil (gO Tryz.func55) .nil) (gO Tryz.func58) .nil) (gO Tryz.func59) (.node .nil (gO Tryz.func60) .nil)) (gO Tryz.func66) (.node (.node .nil (gO Tryz.func67) .nil) (gO Tryz.func68) (.node .nil (gO Tryz.func73) .nil))) (gO Tryz.func74) (.node (.node (.node (.node .nil (gO Tryz.func75) .nil) (gO Tryz.func76) .nil) (gO Tryz.func78) (.node .nil (gO Tryz.func79) .nil)) (gO Tryz.func80) (.node (.node .nil (gO Tryz.func87) .nil) (gO Tryz.func88) (.node .nil (gO Tryz.func90) .nil))))) (gO Tryz.func91) (.node (.node (.node (.node (.node (.node .nil (gO Tryz.func93) .nil) (gO Tryz.func94) .nil) (gO Tryz.func95) (.node .nil (gO Tryz.func96) .nil)) (gO Tryz.func97) (.node (.node .nil (gO Tryz.func98) .nil) (gO Tryz.func103) (.node .nil (gO Tryz.func104) .nil))) (gO Tryz.func105) (.node (.node (.node (.node .nil (gO Tryz.func106) .nil) (gO Tryz.func107) .nil) (gO Tryz.func108) (.node .nil (gO Tryz.func109) .nil)) (gO Tryz.func110) (.node (.node .nil (gO Tryz.func111) .nil) (gO Tryz.func115) (.node .nil (gO Tryz.func116) .nil)))) (gO Tryz.func121) (.node (.node (.node (.node (.node .nil (gO Tryz.func122) .nil) (gO Tryz.func123) .nil) (gO Tryz.func124) (.node .nil Sq .nil)) Sp (.node (.node .nil (gO Tryz.func131) .nil) (gO Tryz.func133) (.node .nil (gO Tryz.func135) .nil))) (gO Tryz.func136) (.node (.node (.node (.node .nil (gO Tryz.func137) .nil) (gO Tryz.func138) .nil) (gO Tryz.func139) (.node .nil (gO Tryz.func140) .nil)) (gO Tryz.func141) (.node (.node .nil (gO Tryz.func142) .nil) (gO Tryz.func143) (.node .nil (gO Tryz.func144) .nil)))))) (gO Tryz.func145) (.node (.node (.node (.node (.node (.node (.node .nil (gO Tryz.func147) .nil) (gO Tryz.func148) .nil) (gO Tryz.func149) (.node .nil (gO Tryz.func151) .nil)) (gO Tryz.func152) (.node (.node .nil (gO Tryz.func154) .nil) (gO Tryz.func157) (.node .nil (gO Tryz.func158) .nil))) (gO Tryz.func159) (.node (.node (.node (.node .nil (gO Tryz.func160) .nil) (gO Tryz.func161) .nil) (gO Tryz.func162) (.node .nil (gO Tryz.func163) .nil)) (gO Tryz.func164) (.node (.node .nil (gO Tryz.func177) .nil) (gO Tryz.func178) (.node .nil (gO Tryz.func179) .nil)))) (gO Tryz.func180) (.node (.node (.node (.node (.node .nil (gO Tryz.func181) .nil) (gO Tryz.func182) .nil) (gO Tryz.func183) (.node .nil (gO Tryz.func184) .nil)) (gO Tryz.func185) (.node (.node .nil (gO Tryz.func186) .nil) (gO Tryz.func187) (.node .nil (gO Tryz.func188) .nil))) (gO Tryz.func189) (.node (.node (.node (.node .nil (gO Tryz.func190) .nil) (gO Tryz.func191) .nil) (gO Tryz.func192) (.node .nil (gO Tryz.func193) .nil)) (gO Tryz.func194) (.node (.node .nil (gO Tryz.func198) .nil) (gO Tryz.func199) (.node .nil (gO Tryz.func200) .nil))))) (gO Tryz.func201) (.node (.node (.node (.node (.node (.node .nil (gO Tryz.func203) .nil) (gO Tryz.func206) .nil) (gO Tryz.func207) (.node .nil (gO Tryz.func208) .nil)) (gO Tryz.func220) (.node (.node .nil (gO Tryz.func221) .nil) (gO Tryz.func222) (.node .nil (gO Tryz.func223) .nil))) (gO Tryz.func224) (.node (.node (.node (.node .nil (gO Tryz.func225) .nil) (gO Tryz.func226) .nil) (gO Tryz.func227) (.node .nil (gO Tryz.func228) .nil)) (gO Tryz.func229) (.node (.node .nil (gO Tryz.func231) .nil) So (.node .nil (gO Tryz.func238) .nil)))) (gO Tryz.func242) (.node (.node (.node (.node (.node .nil (gO Tryz.func243) .nil) (gO Tryz.func244) .nil) (gO Tryz.func245) (.node .nil (gO Tryz.func246) .nil)) (gO Tryz.func247) (.node (.node .nil (gO Tryz.func248) .nil) (gO Tryz.func249) (.node .nil (gO Tryz.func254) .nil))) (gO Tryz.func256) (.node (.node (.node (.node .nil (gO Tryz.func261) .nil) (gO Tryz.func264) .nil) (gO Tryz.func267) (.node .nil (gO Tryz.func272) .nil)) (gO Tryz.func281) (.node (.node .nil (gO Tryz.func282) .nil) (gO Tryz.func284) (.node .nil (gO Tryz.func285) .nil)))))))
def I9:∀a b,(λa=>qs.find a) a=some b->mg Tryz.prog cx a b:=λa b c=>ZX.find c
end
noncomputable section
open Go Go.TI
attribute [-simp] List.map_take List.map_drop List.map_append fH fh ej Bool.not_or Bool.not_and
attribute [simp] fG fj
def jq:ee:=⟨[⟨[120],0,0,false,0⟩,⟨[121],0,0,false,1⟩,⟨[118],0,0,true,0⟩,⟨[113],0,2,false,0⟩,⟨[113],1,2,false,0⟩],[⟨[109],false⟩,⟨[110],false⟩,⟨[114],true⟩],[⟨[99],0⟩],[[102]],[[109,97,105,110],[116,49],[116,50],[116,51]],
 [⟨0,0,1⟩,⟨0,1,2⟩,⟨0,2,3⟩,⟨0,3,4⟩,⟨0,4,5⟩,⟨0,5,6⟩,⟨1,0,11⟩,⟨1,1,12⟩,⟨1,2,13⟩,⟨1,3,14⟩,⟨1,4,15⟩,⟨1,5,16⟩,⟨2,0,21⟩,⟨2,1,22⟩,⟨2,2,23⟩,⟨2,3,24⟩,⟨2,4,25⟩,⟨2,5,26⟩,⟨3,0,31⟩,⟨3,1,32⟩,⟨3,2,33⟩,⟨3,3,34⟩,⟨3,4,35⟩,⟨3,5,36⟩]⟩
def U0:∀a b,(λa=>(Tree.node .nil 37 (gN Tryz.f37 81788943) .nil).find a) a=some b->mg Tryz.prog cx a b:=λa b c=>(Tree.Rn.node .nil (gO Tryz.func37) .nil).find c
def L7:kY Tryz.prog cx 37 [] jq.t:=yt (lN _ dK) (AQ U0 10000 _ _ _ _ _ dK)
def Fa:iq:=⟨Unit,λ_=>[],λ_=>True,λ_=>jq.t,λ_ _ _=>rfl⟩
def Oy:Fa.Ok Tryz.prog cx 37:=λ_ _=>L7
def Lp{a:fN}(ht:a.p 37=some Fa):rl Tryz.prog cx a 37 []=some jq.t:=iv ht Oy () trivial
def I3:j4 jq=true:=by decide+kernel
def vm(e:Nat)(a:List Int)(c:Nat)(d:H):Prop:=∃f b,d.get c=some (dI 2 f [.agg [sl (a.map (T.int .u8)),dG b]])/\((min e a.length:Nat):Int)<=b
def vm.tp{e:Nat}{a:List Int}{b:Nat}{c:H}(g:vm e a b c):Tp a b c:=by
 obtain⟨h,f,d,i⟩:=g;exact⟨h,f,d,dB⟩
def vm.eq{e:Nat}{b:List Int}{a:Nat}{c d:H}(j:vm e b a c)(h:d.get a=c.get a):vm e b a d:=by
 obtain⟨k,i,g,f⟩:=j;exact⟨k,i,by rw[h];exact g,f⟩
def vm.le{d e:Nat}{a:List Int}{b:Nat}{c:H}(g:vm d a b c)(k:e<=d):vm e a b c:=by
 obtain⟨h,i,f,j⟩:=g;exact⟨h,i,f,dB⟩
structure Kr where
 (L:List Int) (b p:Nat) (n:Int)
def Ha(a:Kr)(d:List T)(c:H):Prop:=d=[.ptr a.b 0 0 0,dG a.n]/\vm a.p a.L a.b c/\ij 0 c/\1<=a.n/\a.n<=100/\okB a.L
def Ma(a:Kr)(g:List T)(e:H)(f:T)(c:H):Prop:=∃d:Nat,f= dG d/\(d:Int)<a.n/\vm (a.p+1) a.L a.b c/\Sm a.b e c
abbrev kE:kU:=jF Kr Ha Ma
def RQ:kE.Ok Tryz.prog cx 63:=by
 refine jv (tb:=⟨pt [],ht []⟩) fc fa (je 262163 [] Tryz.func63) (λ_ _=>5) (λG a h A=>by obtain⟨rfl,_⟩:=A;simp[Tryz.f63]) ?_;rintro⟨b,f,H,g⟩ _ h ⟨rfl,⟨i,d,e,B⟩,r,y,z,s,o⟩ I p;simp only at e B y z s o;simp at p;obtain⟨j,n⟩:=p;simp[Tryz.f63,j,n,e];refine em (λk=> ?_) (λk=> ?_)
 ·simp at k;simp;exact⟨0,dC,dE,⟨i,d,by rw[fQ,gF];exact e,dE⟩,Sm.out (Sm.refl r.hr)⟩
 ·simp at k;have D:IntKind.i64.wrap (d+1)=d+1:=by rw[<-jI];exact jL dB dB
  have E:IntKind.i64.wrap d=d:=by rw[<-jI];exact jL dB dB
  have C:Sm f (hr h) _:=(Sm.refl r.hr).put (x:=(dI 2 i [.agg [sl (b.map (T.int .u8)),dG d]])) (by rw[gF];exact e) (dI 2 (i+1) [.agg [sl (b.map (T.int .u8)),dG (d+1)]]);have m:(d8 (hr h) f (dI 2 (i+1) [.agg [sl (b.map (T.int .u8)),dG (d+1)]])).get f=_:=(dQ (h:=hr h) (by rw[gF];exact e) _ f).trans (aq rfl);simp[j,e,oh,ed,D];generalize d8 (hr h) f _=F at*
  obtain⟨c,rfl⟩:∃c:Nat,d=c:=⟨d.toNat,dB⟩;have q:c<b.length:=dB;have t:=o b[c] (aC q);have u: -9223372036854775808<=b[c]:=dB;have v:b[c]<9223372036854775808:=dB;have t0:=Int.tmod_nonneg g t.1;have t1:=Int.tmod_lt_of_pos b[c] (show 0<g by omega);simp[j,n,m,uv,E,q,u,v,Dt (a:=b[c]) (show¬g=0 by omega)];obtain⟨l,w⟩:∃l:Nat,b[c].tmod g=l:=⟨(b[c].tmod g).toNat,dB⟩;exact⟨l,by rw[w],dE,⟨_,_,by rw[fQ];exact m,dE⟩,Sm.out C⟩
structure sY(p:Nat)(L:List Int)(b:Nat)(h h':H):Prop where
 w:Tw L b h h'
 g:vm p L b h'
def sY.refl{d:Nat}{b:List Int}{c:Nat}{a:H}(f:ij 0 a)(e:vm d b c a):sY d b c a a:=⟨Tw.refl f e.tp,e⟩
def sY.le{e f:Nat}{a:List Int}{b:Nat}{c d:H}(h:sY e a b c d)(i:f<=e):sY f a b c d:=⟨h.w,h.g.le i⟩
def sY.cons{e:Nat}{a:List Int}{b:Nat}{c d:H}(w:sY e a b c d)(f:iY):sY e a b c (d.cons f):=⟨w.w.cons f,w.g.eq (by rw[dW,ao (by have:=w.w.tp.lt;omega)])⟩
def sY.put{h:Nat}{e:List Int}{b:Nat}{a d:H}(i:sY h e b a d){c:Nat}{x:iY}(f:d.get c=some x)(l:a.size<=c)(k:b<a.size)(j:iY):sY h e b a (d8 d c j):=⟨i.w.put f l k j,i.g.eq (by rw[dQ f,ao dB])⟩
def sY.call{h f:Nat}{b:List Int}{a:Nat}{d e c:H}(j:sY h b a d e)(i:Sm a e c)(g:vm f b a c):sY f b a d c:=⟨j.w.call i g.tp,g⟩
def sY.cut{h:Nat}{e:List Int}{c:Nat}{a b:H}(d:sY h e c (TI.hr a) b)(p:ij 0 a)(f:c<a.size){j l:T}{i:T->H->Prop}(m:∃k,jl b a.size j=some k/\cn k=l)
 (o:Sm c a (uR a b)->vm h e c (uR a b)->i l (uR a b)):yf a j b i:=d.w.cut p f m λq _=>o q (d.g.eq (yW d.w.ok.hp d.w.size f))
def Pq{tb:fN}{g:Nat}{e:List Int}{a:Nat}{c:H}(ht:tb.h 63=some kE)(s:vm g e a c)(n:ij 0 c)(m:okB e)(b:Int)(k:1<=b)(l:b<=100):∃(f:Nat) (d:H),hl Tryz.prog cx tb 63 [.ptr a 0 0 0,dG b] c=some (dG f,d)/\(f:Int)<b/\vm (g+1) e a d/\Sm a c d:=by
 have i:Ha ⟨e,a,g,b⟩ [.ptr a 0 0 0,dG b] c:=⟨rfl,s,n,k,l,m⟩;obtain⟨_,d,j,o⟩:=EO ht RQ ⟨_,i⟩;obtain⟨f,rfl,p,q,r⟩:=o _ i;exact⟨f,d,j,p,q,r⟩
end
noncomputable section
open Go Go.TI
def zj(a:dP):Bool:=decide (a.iN=3)||decide (a.iN=4)
def Gm{b a:Type}(e:b->a->Bool)(f:List a->a->Bool)(d:b->a->b):List a->b->List a->Bool
 |_,_,[]=>true
 |pre,g,c::h=>(e g c&&f pre c)&&Gm e f d (pre++[c]) (d g c) h
def MZ{c a:Type}{g:c->a->Bool}{j:List a->a->Bool}{f:c->a->c}:∀(b h:List a) (e:c),Gm g j f h e b=true->qD g f e b=true:=by
 intro b;induction b with
 |nil=>intro _ _ _;rfl
 |cons k b i=>
  intro h e d;simp only[Gm,ay]at d;simp only[qD,ay];exact⟨d.1.1,i _ _ d.2⟩
def Rg(b:List eK)(a:eK):Bool:=vI b a.dZ a.mG&&vI b a.dZ a.vh
def pL(a:ee)(b:List eK):Bool:=decide (b.length<=400)&&j4 a&&Gm (p7 a) Rg (ke a) [] (jT a) b
def yX{b:ee}{c:List eK}(a:pL b c=true):runs b (jT b) c=true/\b.dM.length<=4/\c.length<=400:=by
 unfold pL at a;simp only[ay,aJ]at a;refine⟨MZ _ _ _ a.2,?_,a.1.1⟩;have d:=a.1.2;unfold j4 sH at d;simp only[ay,aJ]at d;omega
structure sg(N:Nat)(s:eG):Prop where
 l:s.fO.ew.length<=1000/\s.fO.done.length<=1000/\s.fO.dM.length<=1000/\s.cells.length<=1000/\s.ei.length<=1000/\s.count.length<=1000
 r:∀l∈s.fO.ew,l.eY.length<=N
 a:s.fO.EY
 c:∀c∈s.count,-N<=c/\c<=N
def sg.up{f e:Nat}{g:eG}(b:sg f g)(j:f<=e):sg e g:=⟨b.l,λi d=>by have:=b.r i d;omega,b.a,λh d=>by have:=b.c h d;omega⟩
def V0{b:Nat}{c:fK}{i:Int}{d:eg->eg}(e:∀a∈c.ew,a.eY.length<=b)(g:∀a∈c.ew,(d a).eY.length<=b+1):∀a∈(c.qt i d).ew,a.eY.length<=b+1:=by
 intro a hl;rcases mem_modify hl with f|⟨j,h,rfl⟩
 ·have:=e a f;omega
 ·exact g j h
def Na{d:Nat}{j:fK}(k:∀a∈j.ew,a.eY.length<=d)(p:ee)(h m n q:Int):∀a∈(fg p j h m n q).1.ew,a.eY.length<=d+1:=by
 have c:∀a∈j.ew,a.eY.length<=d+1:=λa o=>by have:=k a o;omega
 have l:∀(f:Int) (b:eg->eg),(∀a,(b a).eY=a.eY\/(b a).eY=lY a.eY h\/(b a).eY=a.eY.filter λg=> !decide (g=h))->∀a∈(j.qt f b).ew,a.eY.length<=d+1:=λf b i=>V0 k λa hl=>by
  have r:=k a hl;rcases i a with e|e|e<;>rw[e]
  ·omega
  ·have:=HS a.eY h;omega
  ·have:=List.length_filter_le (λg=> !decide (g=h)) a.eY;omega
 exact uW (P:=λg=>∀a∈g.1.ew,a.eY.length<=d+1) c c (λ_ _ _=>c) (λf b i=>⟨l f b i,λ_ _=>l f b i⟩) (λ_=>c) (λ_ _=>c) (λ_=>c)
def LJ(a:Nat):sg a ta:=⟨by simp[ta],by simp[ta],by intro b hl;simp[ta]at hl,by simp[ta]⟩
def sg.step{e:Nat}{f:eG}(d:sg e f)(h:ee)(b:eK):sg (e+1) (jY h f b).1:=by
 unfold jY;split
 ·have hl:=x8 h f.fO b.dZ b.kind b.obj (kX b);obtain⟨l1,l2,l3,l4,l5,l6⟩:=d.l;refine⟨⟨by show(fg ..).1.ew.length<=_;omega,by show(fg ..).1.done.length<=_;omega,by show(fg ..).1.dM.length<=_;omega,?_,?_,?_⟩,Na d.r _ _ _ _ _,yc d.a _ _ _ _ _,λg i=> ?_⟩
  ·unfold ke;simp only;split<;>simp[l4]
  ·unfold ke;simp only;split<;>simp[l5]
  ·unfold ke;simp[l6]
  ·rcases mem_modify (show g∈f.count.modify b.dZ.toNat (· +1)from i)with k|⟨m,j,rfl⟩
   ·have:=d.c g k;omega
   ·have:=d.c m j;omega
 ·exact(LJ e).up (Nat.le_succ e)
def sg.qz{w:ee}:∀(a:List eK) {b:Nat} {c:eG},sg b c->sg (b+a.length) (qz w c a):=by
 intro a;induction a with
 |nil=>intro b c d;exact d
 |cons e a f=>
  intro b c d;have:=f (d.step w e);rw[show b+1+a.length=b+(e::a).length by simp;omega]at this;exact this
def uw(a:ee)(d:a.ew.length<=1000/\a.ei.length<=1000/\a.dM.length<=1000/\a.cells.length<=1000):sg 0 (jT a):=by
 refine⟨by simp[jT,lj];omega,λe hl=> ?_,sx a,λc b=> ?_⟩
 ·simp[jT,lj]at hl;obtain⟨_,rfl⟩:=hl;simp
 ·simp[jT]at b;omega
end
noncomputable section
open Go Go.TI
attribute [-simp] List.map_take List.map_drop List.map_append fH fh ej Bool.not_or Bool.not_and
attribute [simp] fG fj
def rI:iq:=⟨List eK×Nat×Int×List Int,λa=>[sl (a.1.map eK.t),dG a.2.1,dG a.2.2.1,sl (a.2.2.2.map (T.int .i64))],λa=>a.2.1<=a.1.length/\a.1.length<=1000000/\a.2.2.2.length<=1000000,λa=> .bool (vI (a.1.take a.2.1) a.2.2.1 a.2.2.2),λa c b=>by
 obtain⟨a1,a2,a3,a4⟩:=a;obtain⟨h,i,j,k⟩:=c;simp at b;obtain⟨d,e,f,g⟩:=b;rw[jy (λ_ _=>eK.inj) d,Int.ofNat.inj e,f,jy (λ_ _ b=>by simpa using b) g]⟩
def ScR(d e:Int)(b:List eK)(c f g:Nat)(h:T):Prop:=∃a:Bool,h= .bool a/\Ay d e ((b.take c).drop f) g a=Ay d e (b.take c) 0 false
def Mm:rI.Ok Tryz.prog cx 78:=by
 refine iC (tb:=⟨pt [],ht []⟩) fc fa (je 576460753379335951 [] Tryz.func78) (λ_=>1000005) (by simp[rI]) (by simp[rI,Tryz.f78]) ?_;rintro⟨b,l,v,m⟩ ⟨K,hl,M⟩ a A;simp at K hl M;simp[rI]at A|-;obtain⟨f,c,g,d⟩:=A;simp[Tryz.f78];refine fI m.length dB (λj a n=>n=hE/\dJ a 0 (sl (b.map eK.t))/\dJ a 1 (dG l)/\dJ a 2 (dG v)/\dJ a 3 (sl (m.map (T.int .i64)))/\dJ a 9 (dG j)/\(m.take j).all (λE=>Ay v E (b.take l) 0 false)=true) ?_ ?_ dB (by simp[f,c,g,d])
 ·rintro j a n u G ⟨rfl,f,c,g,d,h,s⟩;simp[d,h,u];refine fI l dB (λe a n=>n=hE/\dJ a 0 (sl (b.map eK.t))/\dJ a 1 (dG l)/\dJ a 2 (dG v)/\dJ a 3 (sl (m.map (T.int .i64)))/\dJ a 9 (dG j)/\∃(k:Nat) (w:T),dJ a 10 (dG k)/\dJ a 11 w/\dJ a 12 (dG e)/\k<=e/\ScR v m[j] b l e k w) ?_ ?_ dB ⟨rfl,by simp[f],by simp[c],by simp[g],by simp[d],by simp[h],0,.bool false,dC,dC,dC,au _,false,rfl,rfl⟩
  ·rintro e a n H B ⟨rfl,f,c,g,d,h,k,w,y,r,o,I,x,rfl,i⟩;have C:e<b.length:=dB;have z:(b.take l).drop e=b[e]::(b.take l).drop (e+1):=by
    rw[aI dD];simp
   rw[z,Ay]at i;simp[f,c,g,o,H,C];have J:b[e]? =some b[e]:=aB C;have L:m[j]? =some m[j]:=aB u;generalize b[e]=O at*
   generalize m[j]=E at*
   have F:binop .add (dG (k:Int)) (dG 1)=some (dG ((k+1:Nat):Int)):=by rw[iy dB dB];simp
   refine em (λp=> ?_) (λp=> ?_)
   ·simp at p;rw[ao p]at i;simp[f,c,g,d,h,y,r,o,B];exact⟨k,rfl,dB,x,rfl,i⟩
   ·simp at p;rw[aq p]at i;simp[f,c,g,d,h,y,r,o,J,L,F,B];exact⟨k+1,dC,dB,_,rfl,i⟩
  ·rintro a n ⟨rfl,f,c,g,d,h,k,w,y,r,o,I,x,rfl,i⟩;have z:(b.take l).drop l=[]:=dC;rw[z,Ay]at i;simp[c,r,o];cases x with
   |false=>
    simp;unfold vI;rw[List.all_eq_false];exact⟨m[j],aC u,by rw[<-i];simp⟩
   |true=>
    simp[f,c,g,d,h,G];intro N D;rw[aW u]at D;rcases List.mem_append.1 D with q|q
    ·exact List.all_eq_true.1 s N q
    ·rw[List.mem_singleton.1 q];exact i.symm
 ·rintro a n ⟨rfl,f,c,g,d,h,s⟩;rw[aL]at s;simp[d,h];unfold vI;rw[s]
def Qn{e:fN}(ht:e.p 78=some rI)(a:List eK)(b:Nat)(d:Int)(c:List Int)(f:b<=a.length)(g:a.length<=1000000)(h:c.length<=1000000):rl Tryz.prog cx e 78 [sl (a.map eK.t),dG b,dG d,sl (c.map (T.int .i64))]=some (.bool (vI (a.take b) d c)):=iv ht Mm (a,b,d,c) ⟨f,g,h⟩
end
noncomputable section
open Go Go.TI
attribute [-simp] List.map_take List.map_drop List.map_append
def Ek:iq:=⟨Int×Nat,λa=>[dG a.1,dG a.2],λa=>True,λa=> .bool (jt a.1 a.2),λa c b=>by simp at b;rw[b.1,show a.2=c.2 by omega]⟩
def VG:Ek.Ok Tryz.prog cx 103:=by
 refine iC (tb:=⟨pt [],ht []⟩) fc fa (je 19 [] Tryz.func103) (λf=>1) (by simp[Ek]) (by simp[Ek,Tryz.f103]) ?_;rintro⟨e,g⟩ _ h a;simp[Ek]at a|-;obtain⟨b,c⟩:=a;by_cases d:0<=e<;>simp[Tryz.f103,b,c,d,jt]
def Qw{c:fN}(ht:c.p 103=some Ek)(a:Int)(b:Nat):rl Tryz.prog cx c 103 [dG a,dG b]=some (.bool (jt a b)):=iv ht VG (a,b) trivial
def uC:iq:=⟨ee×eG,λa=>[a.1.t,a.2.t],λa=>a.1.gW.length<=1099511627776,λa=> .bool (nG a.1 a.2),λa c b=>by simp at b;rw[ee.inj b.1,eG.inj b.2]⟩
def OZ:uC.Ok Tryz.prog cx 68:=by
 refine iC (tb:=⟨pt [(111,qP)],ht []⟩) fc fa (je 31 [] Tryz.func68) (λi=>1) (by simp[uC]) (by simp[uC,Tryz.f68]) ?_;rintro⟨b,a⟩ hl j e;simp[uC]at hl e|-;obtain⟨c,d⟩:=e;cases f:mK b a.fO with
 |false=>simp[Tryz.f68,c,d,uT,hl,f,nG]
 |true=>by_cases g:a.cells.length=b.cells.length<;>by_cases h:a.ei.length=b.ei.length<;>simp[Tryz.f68,c,d,uT,hl,f,g,h,nG,Int.natCast_inj]
def Gq{c:fN}(ht:c.p 68=some uC)(a:ee)(b:eG)(hl:a.gW.length<=1099511627776):rl Tryz.prog cx c 68 [a.t,b.t]=some (.bool (nG a b)):=iv ht OZ (a,b) hl
def tT:iq:=⟨List Int×Int,λa=>[sl (a.1.map (T.int .i64)),dG a.2],λa=>a.1.length<=1099511627776,λa=> .bool (xL a.2 none a.1),λa c b=>by simp at b;rw[jy dC b.1,b.2]⟩
def Mo:tT.Ok Tryz.prog cx 105:=by
 refine iC (tb:=⟨pt [],ht []⟩) fc fa (je 1099511628339 [] Tryz.func105) (λt=>t.1.length+1) (by simp[tT]) (by simp[tT,Tryz.f105]) ?_;rintro⟨c,k⟩ hl j p;simp[tT]at hl p|-;obtain⟨d,g⟩:=p;simp[Tryz.f105];refine fI c.length dB (λb j n=>n=hE/\dJ j 0 (sl (c.map (T.int .i64)))/\dJ j 1 (dG k)/\dJ j 5 (dG b)/\xL k (if b=0 then none else c[b-1]?) (c.drop b)=xL k none c) ?_ ?_ dB (by simp[d,g])
 ·rintro b j n i q ⟨rfl,d,g,h,a⟩;rw[aI i]at a;simp only[xL]at a;by_cases e:c[b]<1
  ·simp[e]at a;simp[d,h,i,e,a]
  ·by_cases f:k<=c[b]
   ·simp[f]at a;simp[d,g,h,i,e,f,a]
   ·by_cases r:b=0
    ·have l:¬0<b:=dB;rw[aq r]at a;simp[e,f]at a;simp[d,g,h,i,q,e,f,l];exact a
    ·have l:0<b:=dB;have o:b-1<c.length:=dB;have s:binop .sub (dG (b:Int)) (dG 1)=some (dG ((b-1:Nat):Int)):=by rw[kN dB dB,show(b:Int)-1=((b-1:Nat):Int)by omega]
     rw[ao r,aB o]at a;by_cases m:c[b]<=c[b-1]
     ·simp[e,f,m]at a;simp[d,g,h,i,o,e,f,m,s,a,l]
     ·simp[e,f,m]at a;simp[d,g,h,i,o,q,e,f,m,s,l];exact a
 ·rintro j n ⟨rfl,d,g,h,a⟩;simp[xL]at a;simp[d,h,a]
def Qp{c:fN}(ht:c.p 105=some tT)(a:List Int)(b:Int)(hl:a.length<=1099511627776):rl Tryz.prog cx c 105 [sl (a.map (T.int .i64)),dG b]=some (.bool (xL b none a)):=iv ht Mo (a,b) hl
def rG:iq:=⟨eG×eK,λa=>[a.1.t,a.2.t],λa=>a.1.fO.dM.length<=1099511627776/\(a.2.kind=3->jt a.2.obj a.1.cells.length=true)/\(a.2.kind=23->jt a.2.obj a.1.ei.length=true),λa=> .bool (nW a.1 a.2),λa c b=>by simp at b;rw[eG.inj b.1,eK.inj b.2]⟩
def Mg:rG.Ok Tryz.prog cx 106:=by
 refine iC (tb:=⟨pt [(153,tR),(56,Dv)],ht []⟩) fc fa (je 18889470444974887141823 [(17,[(1,6)])] Tryz.func106) (λv=>1) (by simp[rG]) (by simp[rG,Tryz.f106]) ?_;rintro⟨i,a⟩ hl w j;simp[rG]at hl j|-;obtain⟨b,c⟩:=j;obtain⟨hl,k,l⟩:=hl;by_cases f:a.kind=3
 ·obtain⟨u,d,g⟩:=iK (k f);simp[Tryz.f106,b,c,f,nW,eQ (fw.1 (k f)).1,d,g]
 ·by_cases e:a.kind=23
  ·obtain⟨u,d,g⟩:=iK (l e);simp[Tryz.f106,b,c,e,nW,eQ (fw.1 (l e)).1,d,g]
  ·by_cases q:a.kind=5
   ·by_cases d:a.value=0<;>simp[Tryz.f106,b,c,q,nW,d]
   ·by_cases p:a.kind=4
    ·simp[Tryz.f106,b,c,p,nW]
    ·by_cases o:a.kind=22
     ·simp[Tryz.f106,b,c,o,nW]
     ·by_cases h:a.kind=18
      ·have r:=LO a.obj i.fO.dM 0;by_cases m:iz a.obj i.fO.dM 0=[]
       ·simp[Tryz.f106,b,c,h,nW,C1,hl,m]
       ·by_cases s:0<=a.value<;>by_cases t:a.value<i.fO.dM.length<;>
         simp[Tryz.f106,b,c,h,nW,C1,hl,m,s,t,WY,aS r hl]
      ·by_cases n:a.kind=19
       ·simp[Tryz.f106,b,c,n,nW,C1,hl]
       ·simp[Tryz.f106,b,c,f,e,q,p,o,h,n,nW]
def Qm{c:fN}(ht:c.p 106=some rG)(b:eG)(a:eK)(hl:b.fO.dM.length<=1099511627776)(d:a.kind=3->jt a.obj b.cells.length=true)(e:a.kind=23->jt a.obj b.ei.length=true):rl Tryz.prog cx c 106 [b.t,a.t]=some (.bool (nW b a)):=iv ht Mg (b,a) ⟨hl,d,e⟩
end
noncomputable section
open Go Go.TI
def BY(a:List Int)(b:Int):t7 a b=lY a b:=by
 induction a with
 |nil=>rfl
 |cons d a c=>rw[t7,lY,c]
def B1:∀(b a:List Int),IE a->IE (lL a b):=by
 intro b;induction b with
 |nil=>intro a c;exact c
 |cons e b d=>intro a c;exact d _ (by rw[BY];exact Cv c e)
def B0:∀(c b:List Int) (a:Int),a∈lL b c->a∈b\/a∈c:=by
 intro c;induction c with
 |nil=>intro b a h;exact .inl h
 |cons e c d=>
  intro b a h;rcases d (t7 b e) a h with h|h
  ·rw[BY]at h;rcases Cu h with h|h
   ·exact .inl h
   ·exact .inr (by simp[h])
  ·exact .inr (by simp[h])
def Lz:∀(a:List Int) (e b:Int),IE a->(∀c∈a,e<=c/\c<b)->a.length<=(b-e).toNat:=by
 intro a;induction a with
 |nil=>intro e b _ _;simp
 |cons c a i=>
  intro e b d f;unfold IE at d;rw[dw]at d;have j:=i (c+1) b d.2 λh g=>⟨by have:=d.1 h g;omega,(f h (by simp[g])).2⟩;have k:=f c dC;simp;omega
def Tn(a:Nat)(b:List Int):Prop:=b.length<=a/\∀c∈b,0<=c/\c<a
def Tn.nil(a:Nat):Tn a []:=⟨aw _,λc b=>by simp at b⟩
def Tn.union{a:Nat}{c d:List Int}(f:Tn a c)(g:Tn a d):Tn a (zk c d):=by
 have e:∀b∈zk c d,0<=b/\b<a:=λb i=>by
  rcases B0 _ _ _ i with h|h
  ·rcases B0 _ _ _ h with h|h
   ·simp at h
   ·exact f.2 b h
  ·exact g.2 b h
 refine⟨?_,e⟩;have:=Lz (zk c d) 0 a (B1 _ _ (B1 _ _ List.Pairwise.nil)) e;omega
end
noncomputable section
open Go Go.TI
attribute [-simp] List.map_take List.map_drop List.map_append fH fh ej Bool.not_or Bool.not_and
attribute [simp] fG fj
attribute [-simp] size_cons
abbrev gD(a:List Int):List T:=a.map (T.int .i64)
def ZH(a:List Int):T:=sl (a.map (T.int .i64))
def Tv(e d:Nat)(b c:T)(a:Nat):Prop:=e<=a/\a<d/\dU b≠some a/\dU c≠some a
structure AS(lo hi:Nat)(h:H)(a b:T)(es:List T)(s:ez):Prop where
 ga:Gr h a 1 (gD s.iS)
 gb:Gr h b 1 es
 el:iG (λe l=>oX h 1 e (gD l)/\∀c,dU e=some c->Tv lo hi a b c) es s.kc
 ba:∀c,dU a=some c->lo<=c/\c<hi/\dU b≠some c
 bb:∀c,dU b=some c->lo<=c/\c<hi
def Bd(a:ez)(b c:T):T:= .agg [dG a.pC,b,c,dG a.dS]
structure TSr(h:H)(a b:T)(es:List T)(s:ez):Prop where
 ra:oX h 1 a (gD s.iS)
 rb:oX h 1 b es
 el:iG (λe l=>oX h 1 e (gD l)) es s.kc
 lt:∀e c,(e=a\/e=b\/e∈es)->dU e=some c->c<h.size
structure ICp where
 (s:ez) (a b:T) (es:List T)
def Oe(c:ICp)(e:List T)(d:H):Prop:=e=[Bd c.s c.a c.b]/\TSr d c.a c.b c.es c.s/\ij 0 d/\c.s.iS.length<=1000000/\c.s.kc.length<=1000000/\∀f∈c.s.kc,f.length<=1000000
def Jf(e:ICp)(h:List T)(d:H)(g:T)(a:H):Prop:=∃b c f,g=Bd e.s b c/\AS d.size a.size a b c f e.s/\Nb d a
structure CpS(s:ez)(a b aN:T)(h h':H)(i:Nat):Prop where
 ex:∃ver c es',nS h' (h.size+1+1+1) 4 ver [(dG s.pC,none),(aN,some (1,gD s.iS)),(c,some (1,es')),(dG s.dS,none)]/\es'.length=i/\
  iG (λe l=>oX h' 1 e (gD l)/\∀k,dU e=some k->h.size+1<k/\k<h'.size/\¬Fp h' (h.size+1+1+1) k) es' (s.kc.take i)
 nb:Nb h h'
 l1:Lb (h.size+1+1+1) h' h.size (dI 4 0 [.agg [dG s.pC,a,b,dG s.dS]])
 l2:Lb (h.size+1+1+1) h' (h.size+1) (dI 4 0 [.agg [dG 0,dH,dH,dG 0]])
 lo:∀c,Fp h' (h.size+1+1+1) c->h.size+1<c
def Hv:(jF ICp Oe Jf).Ok Tryz.prog cx 207:=by
 refine jv (tb:=⟨pt [],ht []⟩) fc fa (je 262175 [(1,[(1,7),(3,7),(7,9)]),(5,[(1,8)])] Tryz.func207) (λ_ _=>1000005) (λC z h c4=>by obtain⟨rfl,_⟩:=c4;simp[Tryz.f207]) ?_;rintro⟨b,z,l,R⟩ _ h ⟨rfl,v,bu,hr,c7,bp⟩ D L;simp only at v hr c7 bp;simp[Bd]at L;have bz:=bu.hr;have N:∀t a,(t=z\/t=l\/t∈R)->dU t=some a->a<h.size:=v.lt;obtain⟨o,A⟩:∃o:H,o=((TI.hr h).cons (dI 4 0 [.agg [dG b.pC,z,l,dG b.dS]])).cons (dI 4 0 [.agg [dG 0,dH,dH,dG 0]]):=⟨_,rfl⟩;have di:ij 0 o:=by subst A;exact(bz.cons _).cons _
 have b6:o.size=h.size+1+1:=by subst A;rfl
 have bs:Nb (TI.hr h) o:=by subst A;exact((Nb.refl bz).cons _).cons _
 have cb:o.get h.size=some (dI 4 0 [.agg [dG b.pC,z,l,dG b.dS]]):=by subst A;simp
 have ce:o.get (h.size+1)=some (dI 4 0 [.agg [dG 0,dH,dH,dG 0]]):=by subst A;simp
 have dn:oX o 1 z (gD b.iS):=v.ra.mono λa c=>(bs.get a (N z a (.inl rfl) c)).trans (gF h a);obtain⟨b9,m,J,⟨eH,eo,gA⟩,W,r,s⟩:=lP (cx:=cx) di oR rfl yT oR rfl rfl dC dn.ji (by simp[T.cells]) dD;simp[A]at J;have eC:h.low<=h.size:=bu.low;have P:∀l,l<o.size->ff (o.cons (dI 1 0 [])) m l=true:=λl cL=>fk ((r l cL).trans (by rw[dW,ao dB]));have bT:ff (o.cons (dI 1 0 [])) m m.size=true:=jc (ll _ dD);rw[b6]at P;replace P:=P h.size dB;rw[A]at P bT;simp[Tryz.f207,L,J,P,bT];have aN:m.size=h.size+1+1+1:=dB;simp only[aN];generalize a8:T.arr (h.size+1+1) b9 0 b.iS.length false=n;have gN:Gr m n 1 (gD b.iS):=by rw[<-a8];have:=Gr.new gA;rw[b6]at this;simpa using this
 have aX:∀a,dU n=some a->a=h.size+1+1:=λa c=>by rw[<-a8]at c;simp at c;exact c.symm
 have eE:ij 0 m:=s;refine fI b.kc.length dB (λC D g=>CpS b z l n h g C/\dJ D 1 (.ptr h.size 0 0 0)/\dJ D 2 (.ptr (h.size+1) 0 0 0)/\dJ D 3 (.ptr (h.size+1+1+1) 0 0 0)/\dJ D 4 (dG C)) ?_ ?_ dB ?_
 ·rintro C D g bn cy ⟨⟨⟨ver,a,E,e,bk,Q⟩,q,l1,l2,M⟩,m,Y,Z,ae⟩;have G:=e.get;simp at G;have ds:∀x,oX (g.cons x) 1 l R:=λx=>v.rb.mono λa c=>by have:=N l a (.inr (.inl rfl)) c;rw[dW,ao (by have:=q.ok.sz;omega)];exact q.get a this
  have al:=v.el.length;have an:=(show oX g 1 l R from v.rb.mono λa c=>q.get a (N l a (.inr (.inl rfl)) c)).len (cx:=cx) g NA _ rfl;obtain⟨u,hl⟩:∃u,b.kc[C]? =some u:=⟨_,aB bn⟩;have cX:=ax hl;obtain⟨t,bi,bC⟩:=v.el.get hl;have dv:oX g 1 t (gD u):=bC.mono λa c=>q.get a (N t a (.inr (.inr (ax bi))) c);obtain⟨p,b7,b8⟩:=(ds (dI 1 0 [])).idx (te:=nL) rfl rfl bi bC.im.2;have dk:ij 0 g:=e.ok;obtain⟨a7,K,J,⟨eI,er,gA⟩,W,r,s⟩:=lP (cx:=cx) dk kz rfl mM kz rfl rfl dC dv.ji (by simp[T.cells]) (by have:=bp u cX;simp;omega);have ef:Step (h.size+1+1+1) g K:=(Nb.mk ⟨s.hp,s.low,dB⟩ r:Nb g K).step e.lt;have bH:=e.step s λa c=>r a (e.fp a c);obtain⟨eh,eA,a6,aE⟩:=(bH.gr 2 rfl).Dc (cx:=cx) s Ws rfl kz rfl dC (x:= .arr g.size a7 0 (gD u).length false) rfl dD;obtain⟨bB,eF,dm⟩:=bH.app 2 rfl aE;obtain⟨O,bN⟩:=dm _ rfl;simp at bB O bN;simp[W]at J a6;have ec:∀a,a<g.size->ff (g.cons (dI 1 0 [])) K a=true:=λa c=>fk ((r a c).trans (by rw[dW,ao dB]));have dd:(h.size=g.size)=False:=by have:=l1.lt;simp;omega
  have eD:(h.size+1+1+1=g.size)=False:=by have:=e.lt;simp;omega
  have eb:=ec _ e.lt;have et:=(r _ e.lt).trans G;simp[m,Y,Z,ae,l1.get,G,an,al,bn,b7,b8,J,W,a6,bB,dd,eb,ed,aE.1.im,aE.1.cells,cy];have y:=ef.trans O;have eB:=y.ok.sz;have ey:K.size=g.size+1:=W;refine⟨⟨_,eh,E++[.arr g.size a7 0 u.length false],bN,by simp[bk],?_⟩,?_,l1.step y,l2.step y,λa c=> ?_⟩
  ·have c6:b.kc.take (C+1)=b.kc.take C++[u]:=by
    rw[List.take_add_one,hl];rfl
   rw[c6];refine iG.append (Q.imp λt u k=>⟨k.1.mono λd i=> ?_,λd i=> ?_⟩) (.cons ⟨.inr ?_,λd i=> ?_⟩ .nil)
   ·obtain⟨ap,S,I⟩:=k.2 d i;exact y.get d S I
   ·obtain⟨ap,S,I⟩:=k.2 d i;exact⟨ap,dB,λf=>(y.fp d f).elim I λf=>by omega⟩
   ·have B:¬Fp K (h.size+1+1+1) g.size:=λf=>by
     rw[iV (r _ e.lt)]at f;have:=e.fp _ f;omega
    have:=Gr.new ((O.get g.size dB B).trans gA);simpa using this
   ·simp at i;subst i;refine⟨by have:=l2.lt;omega,by have:=O.ok.sz;omega,λf=> ?_⟩;rcases O.fp _ f with f|f
    ·rw[iV (r _ e.lt)]at f;have:=e.fp _ f;omega
    ·omega
  ·refine⟨⟨y.ok.hp,y.ok.low,by have:=q.ok.sz;omega⟩,λa c=> ?_⟩;exact(y.get a (by have:=q.ok.sz;omega) λf=>by have:=M a f;omega).trans (q.get a c)
  ·rcases y.fp a c with f|f
   ·exact M a f
   ·have:=l2.lt;omega
 ·rintro D g ⟨⟨⟨ver,a,E,e,bk,Q⟩,q,l1,l2,M⟩,m,Y,Z,ae⟩;have G:=e.get;simp at G;have al:=v.el.length;have an:=(show oX g 1 l R from v.rb.mono λa c=>q.get a (N l a (.inr (.inl rfl)) c)).len (cx:=cx) g NA _ rfl;rw[aL]at Q;have cp:∀V,(d8 g (h.size+1) V).get (h.size+1)=some V:=λV=>(dQ l2.get V _).trans (aq rfl);have U:=e.sk l2 (dI 4 1 [.agg [dG b.pC,n,a,dG b.dS]]);simp[m,Y,Z,ae,l1.get,l2.get,G,an,al,ed,cp];have bS:=U.step (U.ok.out h) λa _=>fQ h _ a;have c1:∀d,h.size+1<d->(d8 g (h.size+1) (dI 4 1 [.agg [dG b.pC,n,a,dG b.dS]])).get d=g.get d:=λd i=>by rw[dQ l2.get,ao dB]
  have eu:=e.gr 2 rfl;have av:(n,some (1,gD b.iS))∈ [((dG b.pC:T),(none:aa (Nat×List T))),(n,some (1,gD b.iS)),(a,some (1,E)),(dG b.dS,none)]:=dC;have aA:(a,some (1,E))∈ [((dG b.pC:T),(none:aa (Nat×List T))),(n,some (1,gD b.iS)),(a,some (1,E)),(dG b.dS,none)]:=dC;refine⟨n,a,E,rfl,⟨bS.gr 1 rfl,bS.gr 2 rfl,Q.imp λt u k=>⟨k.1.mono λd i=> ?_,λd i=> ?_⟩,λd i=> ?_,λd i=> ?_⟩,⟨⟨(U.ok.out h).hp,(U.ok.out h).low,by simp;exact q.ok.sz⟩,λd i=> ?_⟩⟩
  ·rw[fQ];exact c1 d (k.2 d i).1
  ·obtain⟨ap,S,I⟩:=k.2 d i;exact⟨dB,by simpa using S,λk=>I (e.Bo av k),λk=>I (e.Bo aA k)⟩
  ·have:=e.fp d (e.Bo av i);have:=M d (e.Bo av i);exact⟨dB,by simpa,e.UH 1 2 dF _ _ rfl rfl d i⟩
  ·have:=e.fp d (e.Bo aA i);have:=M d (e.Bo aA i);exact⟨dB,by simpa⟩
  ·rw[fQ,dQ l2.get,ao dB];exact q.get d i
 ·have c9:m.low<=h.size+1+1+1:=by have:=s.low;omega
  have de:Nb h m:=⟨⟨s.hp,s.low,dB⟩,λa c=>(r a dB).trans ((bs.get a c).trans (gF h a))⟩;obtain⟨ea,ca⟩:=nS.one (i0:=1) (h:=m.cons (dI 4 1 [.agg [dG b.pC,n,dH,dG b.dS]])) (w:=h.size+1+1+1) (szw:=4) (ver:=1) (F:=[(dG b.pC,none),(n,some (1,gD b.iS)),(dH,some (1,[])),(dG b.dS,none)]) (s.cons _) (by simp[aN]) (λf B=>by
   simp only[cw,dh,or_false]at B;rcases B with rfl|rfl|rfl|rfl
   ·show dU _=none;simp
   ·exact⟨gN.mono λa c=>by rw[aX a c,dW,ao dB],show(1:Nat)≠4 by decide⟩
   ·exact⟨Gr.nil _ _,dF⟩
   ·show dU _=none;simp) (λj z L k=>by
   rcases j with _|_|_|_|j<;>simp at L<;>subst L<;>simp at k|-)
  have X:∀a,Fp (m.cons (dI 4 1 [.agg [dG b.pC,n,dH,dG b.dS]])) (h.size+1+1+1) a->h.size+1<a:=λa c=>by
   rcases ca a c with k|⟨f,B,k⟩
   ·omega
   ·simp at B;subst B;have:=aX a k;omega
  simp[aN,c9];refine⟨⟨_,_,[],ea,rfl,.nil⟩,de.cons _,⟨?_,λk=> ?_⟩,⟨?_,λk=> ?_⟩,X⟩
  ·rw[dW,ao dB];exact(r h.size dB).trans cb
  ·have:=X _ k;omega
  ·rw[dW,ao dB];exact(r (h.size+1) dB).trans ce
  ·have:=X _ k;omega
def Ts(b c:H)(d:T)(e:List Int):Prop:=oX c 1 d (gD e)/\Nb b c/\∀a,dU d=some a->b.size<=a
structure IUn where
 (x y:List Int) (u v:T)
def N8(a:IUn)(c:List T)(b:H):Prop:=c=[a.u,a.v]/\oX b 1 a.u (gD a.x)/\oX b 1 a.v (gD a.y)/\a.x.length+a.y.length<=10000000/\ij 0 b
def Jc(a:IUn)(e:List T)(b:H)(d:T)(c:H):Prop:=Ts b c d (zk a.x a.y)
def Pl(b:T)(a:List Int):Prop:=(b= dH/\a=[])\/b=sl (gD a)
def Pl.rn{a:T}{b:List Int}(d:Pl a b)(c:H):rn c a=some (sl (gD b))/\jW a=true/\a.im=true:=by
 rcases d with⟨rfl,rfl⟩|rfl<;>simp
def Pl.rd{a:T}{b:List Int}(d:Pl a b)(c:H):oX c 1 a (gD b)/\dU a=none:=by
 rcases d with⟨rfl,rfl⟩|rfl
 ·exact⟨.inr (Gr.nil _ _),rfl⟩
 ·exact⟨.inl rfl,dC⟩
def Hg:(jF IUn N8 Jc).Ok Tryz.prog cx 155:=by
 refine jv (tb:=⟨pt [(202,G5)],ht []⟩) fc fa (je 8390899 [] Tryz.func155) (λ_ _=>10000005) (λi N b K=>by obtain⟨rfl,_⟩:=K;simp[Tryz.f155]) ?_;rintro⟨x,g,H,A⟩ _ b ⟨rfl,D,F,hl,L⟩ c B;simp only at D F hl;simp at B;obtain⟨k,d⟩:=B;have E:oX (hr b) 1 H (gD x):=D.mono λl _=>gF b l;have G:oX (hr b) 1 A (gD g):=F.mono λl _=>gF b l;have y:=E.len (cx:=cx) (hr b) nL _ rfl;have z:=G.len (cx:=cx) (hr b) nL _ rfl;rw[aG]at y z;simp[Tryz.f155];refine fI x.length dB (λa c s=>s=hr b/\dJ c 0 H/\dJ c 1 A/\dJ c 6 (dG a)/\∃f,dJ c 5 f/\Pl f (lL [] (x.take a))) ?_ ?_ dB (by simp[k,d];exact .inl ⟨rfl,rfl⟩)
 ·rintro a c _ j v ⟨rfl,k,d,t,f,h,e⟩;obtain⟨M,m,n⟩:=E.idx (te:=Ed) rfl rfl (i:=a) (x:= dG x[a]) (by simp[j]) rfl;have w:=xH [] (x.take a);simp at w;obtain⟨q,r,I⟩:=e.rn (hr b);have o:=λ{tb:fN} (ht:tb.p 202=some G5)=>abv ht (lL [] (x.take a)) x[a] dB;simp[k,d,h,t,y,j,v,m,n,q,r,o,AD [] x j];exact .inr rfl
 ·rintro c _ ⟨rfl,k,d,t,f,h,e⟩;rw[aL]at e;simp[k,t,y];refine fI g.length dB (λa c s=>s=hr b/\dJ c 1 A/\dJ c 7 (dG a)/\∃f,dJ c 5 f/\Pl f (lL (lL [] x) (g.take a))) ?_ ?_ dB (by simp[d,h];exact e)
  ·rintro a c _ j v ⟨rfl,d,u,f,h,e⟩;obtain⟨M,m,n⟩:=G.idx (te:=Ed) rfl rfl (i:=a) (x:= dG g[a]) (by simp[j]) rfl;have w:=xH (lL [] x) (g.take a);have J:=xH [] x;simp at w J;obtain⟨q,r,I⟩:=e.rn (hr b);have o:=λ{tb:fN} (ht:tb.p 202=some G5)=>abv ht (lL (lL [] x) (g.take a)) g[a] dB;simp[d,h,u,z,j,v,m,n,q,r,o,AD (lL [] x) g j];exact .inr rfl
  ·rintro c _ ⟨rfl,d,u,f,h,e⟩;rw[aL]at e;simp[d,h,u,z];obtain⟨r1,r2⟩:=e.rd (lM b (hr b));exact⟨r1,(Nb.refl L.hr).out,λl C=>by rw[r2]at C;simp at C⟩
def Lk(f:H)(d:Nat->Prop)(e:T)(c:eg):Prop:=∃a,e= .agg [dG c.iW,a]/\oX f 1 a (gD c.eY)/\∀b,dU a=some b->d b
structure Ba(lo hi:Nat)(h:H)(c0 c2 c3:T)(es:List T)(S:fK):Prop where
 g0:Gr h c0 2 es
 g2:Gr h c2 1 (S.done.map T.bool)
 g3:Gr h c3 3 (S.dM.map dP.t)
 el:iG (Lk h λc=>lo<=c/\c<hi/\dU c0≠some c/\dU c2≠some c/\dU c3≠some c) es S.ew
 b:∀c,(dU c0=some c\/dU c2=some c\/dU c3=some c)->lo<=c/\c<hi
def NF(a:fK)(b c d:T):T:= .agg [b,dG a.tx,c,d]
def El(a:fK)(b:List T)(c:H):Prop:=b=[a.t]/\ij 0 c/\a.ew.length<=1000000/\a.done.length<=1000000/\a.dM.length<=1000000/\∀d∈a.ew,d.eY.length<=1000000
def Jg(b:fK)(i:List T)(f:H)(h:T)(a:H):Prop:=∃c d e g,h=NF b c d e/\Ba f.size a.size a c d e g b/\Nb f a
structure C8(S:fK)(c2 c3:T)(h h':H)(i:Nat):Prop where
 ex:∃ver c0 es,nS h' (h.size+1+1+1+1) 4 ver [(c0,some (2,es)),(dG S.tx,none),(c2,some (1,S.done.map T.bool)),(c3,some (3,S.dM.map dP.t))]/\es.length=i/\
  iG (Lk h' λk=>h.size+1<k/\k<h'.size/\¬Fp h' (h.size+1+1+1+1) k) es (S.ew.take i)
 nb:Nb h h'
 l1:Lb (h.size+1+1+1+1) h' h.size (dI 4 0 [S.t])
 l2:Lb (h.size+1+1+1+1) h' (h.size+1) (dI 4 0 [.agg [dH,dG 0,dH,dH]])
 lo:∀c,Fp h' (h.size+1+1+1+1) c->h.size+1<c
def Hu:(jF fK El Jg).Ok Tryz.prog cx 154:=by
 refine jv (tb:=⟨pt [],ht []⟩) fc fa (je 1048607 [(1,[(1,5),(5,6),(5,8),(1,9),(5,11),(9,11)]),(5,[(1,15),(3,15),(5,15),(7,15)])] Tryz.func154) (λ_ _=>1000005) (λz I b eb=>by obtain⟨rfl,_⟩:=eb;simp[Tryz.f154]) ?_;rintro c _ b ⟨rfl,et,hl,eR,ht,hr⟩ G D;simp at D;have bs:=et.hr;obtain⟨p,C⟩:∃p:H,p=((TI.hr b).cons (dI 4 0 [c.t])).cons (dI 4 0 [.agg [dH,dG 0,dH,dH]]):=⟨_,rfl⟩;have eu:ij 0 p:=by subst C;exact(bs.cons _).cons _
 have eI:p.size=b.size+1+1:=by subst C;rfl
 have er:Nb b p:=by subst C;exact⟨(((Nb.refl bs).cons _).cons _).ok,λa h=>((((Nb.refl bs).cons _).cons _).get a h).trans (gF b a)⟩
 have b8:p.get b.size=some (dI 4 0 [c.t]):=by subst C;simp
 have di:p.get (b.size+1)=some (dI 4 0 [.agg [dH,dG 0,dH,dH]]):=by subst C;simp
 obtain⟨a7,o,J,⟨e0,eL,gA⟩,aN,m,P⟩:=lP (cx:=cx) eu (x:=sl (c.done.map T.bool)) (xs:=c.done.map T.bool) Gd rfl P7 Gd rfl rfl dC dC (λe ds=>by obtain⟨n,_,rfl⟩:=List.mem_map.1 ds;rfl) dD;obtain⟨L,k,K,⟨eE,de,b9⟩,e4,O,okB⟩:=lP (cx:=cx) P (x:=sl (c.dM.map dP.t)) (xs:=c.dM.map dP.t) CX rfl Br CX rfl rfl dC dC dC dD;have bT:o.size=b.size+1+1+1:=dB;have X:k.size=b.size+1+1+1+1:=dB;have V:∀n,n<p.size->ff (p.cons (dI 1 0 [])) o n=true:=λn S=>fk ((m n S).trans (by rw[dW,ao dB]));have cX:∀n,n<o.size->ff (o.cons (dI 3 0 [])) k n=true:=λn S=>fk ((O n S).trans (by rw[dW,ao dB]));have bB:=V b.size dB;have c1:=cX b.size dB;have bH:ff (p.cons (dI 1 0 [])) o (b.size+1+1+1+1)=true:=jc (ll _ dD);have c4:ff (o.cons (dI 3 0 [])) k (b.size+1+1+1+1)=true:=jc (ll _ dD);have bC:ff (p.cons (dI 1 0 [])) o (b.size+1+1+1)=true:=jc (ll _ dD);have bi:=(m b.size dB).trans b8;have dm:=(O b.size dB).trans bi;simp[C]at J;simp[bT]at K;rw[C]at bB bC bH;simp[Tryz.f154,D,J,K,bB,bC,c1,bH,c4,bi,bT,X];have c9:=(show Gr k (.arr (b.size+1+1) a7 0 c.done.length false) 1 (c.done.map T.bool)by
  have:=Gr.new ((O p.size dB).trans gA);rw[eI]at this;simpa using this)
 have dd:=(show Gr k (.arr (b.size+1+1+1) L 0 c.dM.length false) 3 (c.dM.map dP.t)by
  have:=Gr.new b9;rw[bT]at this;simpa using this)
 have eo:Nb b k:=⟨⟨okB.hp,okB.low,dB⟩,λa h=>(O a dB).trans ((m a dB).trans (er.get a h))⟩;have eF:=(O b.size dB).trans ((m b.size dB).trans b8);have eH:=(O (b.size+1) dB).trans ((m (b.size+1) dB).trans di);have ef:k.low<=b.size+1+1+1+1:=by have:=okB.low;omega
 have b6:∀a,dU (.arr (b.size+1+1) a7 0 c.done.length false)=some a->a=b.size+1+1:=λa q=>by simpa using q.symm
 have b7:∀a,dU (.arr (b.size+1+1+1) L 0 c.dM.length false)=some a->a=b.size+1+1+1:=λa q=>by simpa using q.symm
 clear J K V cX bB bC bH c1 c4 bi dm gA b9;generalize T.arr (b.size+1+1) a7 0 c.done.length false=r at*
 generalize T.arr (b.size+1+1+1) L 0 c.dM.length false=s at*
 refine fI c.ew.length dB (λz G i=>C8 c r s b i z/\dJ G 1 (.ptr b.size 0 0 0)/\dJ G 2 (.ptr (b.size+1) 0 0 0)/\dJ G 3 (.ptr (b.size+1+1+1+1) 0 0 0)/\dJ G 4 (dG z)) ?_ ?_ dB ?_
 ·rintro z G i an dn ⟨⟨⟨eD,A,B,d,ca,Y⟩,N,l1,l2,av⟩,o,k,Z,ae⟩;have M:=d.get;simp at M;obtain⟨l,al⟩:∃l,c.ew[z]? =some l:=⟨_,aB an⟩;have eU:=hr l (ax al);obtain⟨L,R,J,⟨eE,de,gA⟩,aN,m,P⟩:=lP (cx:=cx) d.ok (x:=sl (gD l.eY)) (xs:=gD l.eY) kz rfl mM kz rfl rfl dC dC (by simp[T.cells]) dD;have eB:Step (b.size+1+1+1+1) i R:=(Nb.mk ⟨P.hp,P.low,dB⟩ m:Nb i R).step d.lt;have c6:=d.step P λa h=>m a (d.fp a h);obtain⟨eC,eP,K,bS⟩:=(c6.gr 0 rfl).Dc (cx:=cx) P J8 rfl Ge rfl dC (x:= .agg [dG l.iW,.arr i.size L 0 (gD l.eY).length false]) rfl dD;obtain⟨aA,eX,bu⟩:=c6.app 0 rfl bS;obtain⟨W,c7⟩:=bu _ rfl;simp at aA W c7;simp[aN]at J K;have V:∀a,a<i.size->ff (i.cons (dI 1 0 [])) R a=true:=λa h=>fk ((m a h).trans (by rw[dW,ao dB]));have eh:(b.size=i.size)=False:=by have:=l1.lt;simp;omega
  have eW:(b.size+1+1+1+1=i.size)=False:=by have:=d.lt;simp;omega
  have ey:=V _ d.lt;have eA:=V _ l1.lt;have eN:=(m _ d.lt).trans M;have eM:=(m _ l1.lt).trans l1.get;simp[o,Z,ae,l1.get,M,an];have ea:c.ew[z]=l:=by rw[aB an]at al;simpa using al
  simp[o,k,Z,ae,an,ea,J,aN,K,aA,eh,ey,eA,ed,bS.1.im,bS.1.cells,dn];have w:=eB.trans W;have eV:=w.ok.sz;have eO:R.size=i.size+1:=aN;refine⟨⟨_,eC,B++[.agg [dG l.iW,.arr i.size L 0 l.eY.length false]],c7,by simp[ca],?_⟩,?_,l1.step w,l2.step w,λa h=> ?_⟩
  ·have ec:c.ew.take (z+1)=c.ew.take z++[l]:=by
    rw[List.take_add_one,al];rfl
   rw[ec];refine iG.append (Y.imp λe l ⟨bz,aX,a6,Q⟩=>⟨bz,aX,a6.mono λg j=> ?_,λg j=> ?_⟩) (.cons ⟨_,rfl,.inr ?_,λg j=> ?_⟩ .nil)
   ·obtain⟨bn,ap,F⟩:=Q g j;exact w.get g ap F
   ·obtain⟨bn,ap,F⟩:=Q g j;exact⟨bn,dB,λf=>(w.fp g f).elim F λf=>by omega⟩
   ·have E:¬Fp R (b.size+1+1+1+1) i.size:=λf=>by
     rw[iV (m _ d.lt)]at f;have:=d.fp _ f;omega
    have:=Gr.new ((W.get i.size dB E).trans gA);simpa using this
   ·simp at j;subst j;refine⟨by have:=l2.lt;omega,by have:=W.ok.sz;omega,λf=> ?_⟩;rcases W.fp _ f with f|f
    ·rw[iV (m _ d.lt)]at f;have:=d.fp _ f;omega
    ·omega
  ·refine⟨⟨w.ok.hp,w.ok.low,by have:=N.ok.sz;omega⟩,λa h=> ?_⟩;exact(w.get a (by have:=N.ok.sz;omega) λf=>by have:=av a f;omega).trans (N.get a h)
  ·rcases w.fp a h with f|f
   ·exact av a f
   ·have:=l2.lt;omega
 ·rintro G i ⟨⟨⟨eD,A,B,d,ca,Y⟩,N,l1,l2,av⟩,o,k,Z,ae⟩;have M:=d.get;simp at M;rw[aL]at Y;have dk:∀y,(d8 i (b.size+1) y).get (b.size+1)=some y:=λy=>(dQ l2.get y _).trans (aq rfl);have aE:=d.sk l2 (dI 4 1 [.agg [A,dG c.tx,r,s]]);simp[o,k,Z,ae,l1.get,l2.get,M,ed,dk];have bN:=aE.step (aE.ok.out b) λa _=>fQ b _ a;have ce:(A,some (2,B))∈ [(A,some (2,B)),((dG c.tx:T),(none:aa (Nat×List T))),(r,some (1,c.done.map T.bool)),(s,some (3,c.dM.map dP.t))]:=dC;have cp:(r,some (1,c.done.map T.bool))∈ [(A,some (2,B)),((dG c.tx:T),(none:aa (Nat×List T))),(r,some (1,c.done.map T.bool)),(s,some (3,c.dM.map dP.t))]:=dC;have cy:(s,some (3,c.dM.map dP.t))∈ [(A,some (2,B)),((dG c.tx:T),(none:aa (Nat×List T))),(r,some (1,c.done.map T.bool)),(s,some (3,c.dM.map dP.t))]:=dC;refine⟨A,r,s,B,rfl,⟨bN.gr 0 rfl,bN.gr 2 rfl,bN.gr 3 rfl,Y.imp λe l ⟨bz,aX,a6,Q⟩=>⟨bz,aX,a6.mono λg j=> ?_,λg j=> ?_⟩,λg j=> ?_⟩,⟨⟨(aE.ok.out b).hp,(aE.ok.out b).low,by simp;exact N.ok.sz⟩,λg j=> ?_⟩⟩
  ·rw[fQ,dQ l2.get,ao (by have:=(Q g j).1;omega)]
  ·obtain⟨bn,ap,F⟩:=Q g j;exact⟨dB,by simpa using ap,λq=>F (d.Bo ce q),λq=>F (d.Bo cp q),λq=>F (d.Bo cy q)⟩
  ·have E:Fp i (b.size+1+1+1+1) g:=by
    rcases j with q|q|q
    ·exact d.Bo ce q
    ·exact d.Bo cp q
    ·exact d.Bo cy q
   have:=d.fp g E;have:=av g E;exact⟨dB,by simpa⟩
  ·rw[fQ,dQ l2.get,ao dB];exact N.get g j
 ·have bp:∀(u:Nat) (I:T×aa (Nat×List T)) a,[(T.dN [] false,some (2,[])),((dG c.tx:T),(none:aa (Nat×List T))),(r,some (1,c.done.map T.bool)),(s,some (3,c.dM.map dP.t))][u]? =some I->dU I.1=some a->a=b.size+u:=λu I a D q=>by
   rcases u with _|_|_|_|u<;>simp at D<;>subst D
   ·simp at q
   ·simp at q
   ·have:=b6 a q;omega
   ·have:=b7 a q;omega
  have cL:nS (k.cons (dI 4 1 [.agg [dH,dG c.tx,r,s]])) (b.size+1+1+1+1) 4 1 [(T.dN [] false,some (2,[])),(dG c.tx,none),(r,some (1,c.done.map T.bool)),(s,some (3,c.dM.map dP.t))]:=by
   refine⟨okB.cons _,by simp[X],λf E=> ?_,λu g eS I n D S a aA bu=> ?_⟩
   ·simp only[cw,dh,or_false]at E;rcases E with rfl|rfl|rfl|rfl
    ·exact⟨Gr.nil _ _,show(2:Nat)≠4 by decide⟩
    ·show dU _=none;simp
    ·exact⟨c9.mono λa h=>by have:=b6 a h;rw[dW,ao (by rw[X];omega)],show(1:Nat)≠4 by decide⟩
    ·exact⟨dd.mono λa h=>by have:=b7 a h;rw[dW,ao (by rw[X];omega)],show(3:Nat)≠4 by decide⟩
   ·have:=bp u I a D aA;have:=bp g n a S bu;omega
  have a8:∀a,Fp (k.cons (dI 4 1 [.agg [dH,dG c.tx,r,s]])) (b.size+1+1+1+1) a->b.size+1<a:=λa h=>by
   rcases h with q|⟨x,bk,v,cb,q⟩
   ·omega
   ·rw[cL.get]at bk;simp only[ar]at bk;subst bk;simp only[fx,bA,cA,bL,T.cells]at cb;obtain⟨f,dv,rfl⟩:=List.mem_map.1 cb;obtain⟨u,U⟩:=cT dv;have j:=bp u f a U q;rcases u with _|_|u
    ·simp at U;subst U;simp at q
    ·simp at U;subst U;simp at q
    ·omega
  simp[X,ef];refine⟨⟨_,_,[],cL,rfl,.nil⟩,eo.cons _,⟨?_,λq=> ?_⟩,⟨?_,λq=> ?_⟩,a8⟩
  ·rw[dW,ao dB];exact eF
  ·have:=a8 _ q;omega
  ·rw[dW,ao dB];exact eH
  ·have:=a8 _ q;omega
structure Ac(h0 h':H)(v:T)(l:List Int):Prop where
 nb:Nb h0 h'
 g:Gr h' v 1 (gD l)
 lo:∀c,dU v=some c->h0.size<=c
def Ac.start{a:H}(b:ij 0 a):Ac a a dH []:=⟨Nb.refl b,Gr.nil _ _,λd c=>by simp at c⟩
def Ac.nq{m h:H}{n:T}{j:List Int}(a:Ac m h n j)(l:Int)(s:j.length<=10000000):∃d c,iM cx (h.cons (dI 1 0 [dG l])) 38 38 n (.arr h.size 0 0 1 false)=some (.val d c)/\Ac m c d (j++[l]):=by
 obtain⟨d,c,e,o,p,r,k⟩:=a.g.nq (cx:=cx) (f:=T.int .i64) ⟨a.nb.ok.hp,a.nb.ok.low,aw _⟩ kz rfl mM rfl dC (λ_=>rfl) l dD;have:=a.nb.ok.sz;refine⟨d,c,e,⟨⟨k.hp,k.low,aS a.nb.ok.sz k.sz⟩,λb i=>(p b dB λq=>by have:=a.lo b q;omega).trans (a.nb.get b i)⟩,o,λb i=> ?_⟩;rcases r b i with q|q
 ·exact a.lo b q
 ·omega
def Ac.HA{a c:H}{l:T}{i:List Int}{h:H}(e:Ac h c l i)(j:Nb a h):Ts a (lM a c) l i:=by
 have d:=j.trans e.nb;have k:ij 0 c:=⟨d.ok.hp,d.ok.low,aw _⟩;have:=j.ok.sz;exact⟨.inr (e.g.out a),⟨⟨(k.out a).hp,(k.out a).low,d.ok.sz⟩,λb f=>(fQ a c b).trans (d.get b f)⟩,λb f=>by have:=e.lo b f;omega⟩
structure IWt where
 (S:fK) (c0 c2 c3:T) (c:Int)
def Ub(a:IWt)(d:List T)(b:H):Prop:=d=[NF a.S a.c0 a.c2 a.c3,dG a.c]/\Gr b a.c3 3 (a.S.dM.map dP.t)/\a.S.dM.length<=1000000/\ij 0 b
def Of(a:IWt)(f:List T)(b:H)(e:T)(d:H):Prop:=Ts b d e (iz a.c a.S.dM 0)
def IM(c:Int)(b:List dP)(a:Nat)(d:a<b.length):iz c (b.drop a) a=if b[a].iN=3/\b[a].cond=c then(a:Int)::iz c (b.drop (a+1)) (a+1)else iz c (b.drop (a+1)) (a+1):=by
 rw[aI d,iz]
def B8:(jF IWt Ub Of).Ok Tryz.prog cx 153:=by
 refine jv (tb:=⟨pt [],ht []⟩) fc fa (je 1073743991 [] Tryz.func153) (λ_ _=>1000005) (λi d a P=>by obtain⟨rfl,_⟩:=P;simp[Tryz.f153]) ?_;rintro⟨b,k,l,c,j⟩ _ a ⟨rfl,o,hl,z⟩ m D;simp only at o hl;simp[NF]at D;obtain⟨L,f⟩:=D;have R:=z.hr.cons (dI 4 0 [.agg [k,dG b.tx,l,c]]);have K:Gr ((hr a).cons (dI 4 0 [.agg [k,dG b.tx,l,c]])) c 3 (b.dM.map dP.t):=o.mono λe r=>by
  obtain⟨_,_,_,_,A,_⟩:=o.box r;rw[dW,ao (by have:=H.eJ A;simp;omega),gF]
 have l3:∀e,dU c=some e->e<a.size:=λe r=>by obtain⟨_,_,_,_,A,_⟩:=o.box r;exact H.eJ A
 have w:=λf:H=>o.len (cx:=cx) f NB _ rfl;rw[aG]at w;simp[Tryz.f153,L];have B:((hr a).cons (dI 4 0 [.agg [k,dG b.tx,l,c]])).get a.size=some (dI 4 0 [.agg [k,dG b.tx,l,c]]):=dC;have Q:Nb a ((hr a).cons (dI 4 0 [.agg [k,dG b.tx,l,c]])):=⟨((Nb.refl z.hr).cons _).ok,λj O=>(((Nb.refl z.hr).cons _).get j O).trans (gF a j)⟩;have al:((hr a).cons (dI 4 0 [.agg [k,dG b.tx,l,c]])).size=a.size+1:=rfl;generalize X:(hr a).cons (dI 4 0 [.agg [k,dG b.tx,l,c]])=M at*
 refine fI b.dM.length dB (λh m h'=>∃s n,Ac M h' s n/\n.length<=h/\n++iz j (b.dM.drop h) h=iz j b.dM 0/\dJ m 1 (dG j)/\dJ m 2 (.ptr a.size 0 0 0)/\dJ m 5 s/\dJ m 6 (dG h)) ?_ ?_ dB ⟨_,_,Ac.start R,aw _,rfl,by simp[f]⟩
 ·rintro h m h' x E ⟨s,n,d,N,g,f,p,u,q⟩;have v:=(d.nb.get a.size dB).trans B;obtain⟨e,U,Z,V,ae,T,G,I,C⟩:=(K.mono (h':=h') λe r=>d.nb.get e (by have:=l3 e r;omega)).JG (te:=Av) rfl (i:=h) (by simpa using x);simp at C;rw[IM j _ _ x]at g;simp[f,p,q,w,x,v,G,I,C];generalize b.dM[h]=Y at*
  refine em (λy=> ?_) (λy=> ?_)
  ·rw[aq (by simpa using y)]at g;obtain⟨S,W,J,F⟩:=d.nq (h:Int) dB;simp[f,p,u,q,J,E];exact⟨S,_,F,dD,by simpa using g,rfl⟩
  ·rw[ao (by simpa using y)]at g;simp[f,p,u,q,E];exact⟨s,n,d,dB,g,rfl⟩
 ·rintro m h' ⟨s,n,d,N,g,f,p,u,q⟩;have v:=(d.nb.get a.size dB).trans B;simp[iz]at g;subst g;simp[p,u,q,w,v];exact d.HA Q
structure IWo where
 (l:List Int) (v:T) (n:Int)
def Uc(a:IWo)(d:List T)(b:H):Prop:=d=[a.v,dG a.n]/\oX b 1 a.v (gD a.l)/\(∀c,dU a.v=some c->c<b.size)/\a.l.length<=1000000/\ij 0 b
def Og(a:IWo)(f:List T)(b:H)(d:T)(c:H):Prop:=Ts b c d (a.l.filter λe=> !decide (e=a.n))
def Jl:(jF IWo Uc Og).Ok Tryz.prog cx 156:=by
 refine jv (tb:=⟨pt [],ht []⟩) fc fa (je 263283 [] Tryz.func156) (λ_ _=>1000005) (λi f h E=>by obtain⟨rfl,_⟩:=E;simp[Tryz.f156]) ?_;rintro⟨l,I,r⟩ _ h ⟨rfl,t,z,hl,s⟩ e w;simp only at t z hl;simp at w;obtain⟨c,a⟩:=w;have F:Nb h (hr h):=⟨⟨s.hr.hp,s.hr.low,au _⟩,λj _=>gF h j⟩;have o:=λa:H=>t.len (cx:=cx) a nL _ rfl;rw[aG]at o;simp[Tryz.f156];refine fI l.length dB (λd e h'=>∃m g,Ac (hr h) h' m g/\g.length<=d/\g++(l.drop d).filter (λx=> !decide (x=r))=l.filter (λx=> !decide (x=r))/\dJ e 0 I/\dJ e 1 (dG r)/\dJ e 5 m/\dJ e 6 (dG d)) ?_ ?_ dB ⟨_,_,Ac.start s.hr,aw _,rfl,by simp[c,a]⟩
 ·rintro d e h' p y ⟨m,g,f,C,b,c,a,n,k⟩;obtain⟨K,u,v⟩:=(t.mono (h':=h') λj D=>(f.nb.get j (by simpa using z j D)).trans (gF h j)).idx (te:=Ed) rfl rfl (i:=d) (x:= dG l[d]) (by simp[p]) rfl;rw[aI p,List.filter_cons]at b;simp[c,a,k,o,p,u,v];generalize l[d]=x at*
  refine em (λq=> ?_) (λq=> ?_)
  ·rw[aq (by simpa using q)]at b;obtain⟨G,J,B,A⟩:=f.nq x dB;simp[c,a,n,k,u,v,B,y];exact⟨G,_,A,dD,by simpa using b,rfl⟩
  ·rw[ao (by simpa using q)]at b;simp[c,a,n,k,y];exact⟨m,g,f,dB,b,rfl⟩
 ·rintro e h' ⟨m,g,f,C,b,c,a,n,k⟩;simp at b;subst b;simp[c,n,k,o];exact f.HA F
end
noncomputable section
open Go Go.TI
attribute [-simp] List.map_take List.map_drop List.map_append fH fh ej Bool.not_or Bool.not_and
attribute [simp] fG fj
def oe{d:Type}{c:List d}{b:Nat}{a:d}(h:c[b]? =some a)(f:d->d):c.modify b f=c.set b (f a):=by
 apply c8;intro g;rw[List.getElem?_modify,bV];by_cases e:b=g
 ·subst e;have hi:b<c.length:=by
   rcases aF b c.length with k|k
   ·exact k
   ·rw[aM k]at h;simp at h
  rw[h];simp[hi]
 ·rw[ao e];simp[e]
section
variable {lo hi hi':Nat}{h h':H}{c0 c2 c3:T}{es:List T}{S:fK}
def Ba.mono(d:Ba lo hi h c0 c2 c3 es S)(l:hi<=hi')(f:∀a,lo<=a->a<hi->h'.get a=h.get a):Ba lo hi' h' c0 c2 c3 es S:=
 ⟨d.g0.mono λa c=>f a (d.b a (.inl c)).1 (d.b a (.inl c)).2,d.g2.mono λa c=>f a (d.b a (.inr (.inl c))).1 (d.b a (.inr (.inl c))).2,d.g3.mono λa c=>f a (d.b a (.inr (.inr c))).1 (d.b a (.inr (.inr c))).2,
   d.el.imp λk m ⟨j,g,i,e⟩=>⟨j,g,i.mono λa c=>f a (e a c).1 (e a c).2.1,λa c=>⟨(e a c).1,by have:=(e a c).2.1;omega,(e a c).2.2⟩⟩,λa c=>⟨(d.b a c).1,by have:=(d.b a c).2;omega⟩⟩
def Ba.tx(a:Ba lo hi h c0 c2 c3 es S)(c:Int):Ba lo hi h c0 c2 c3 es {S with tx:=c}:=⟨a.g0,a.g2,a.g3,a.el,a.b⟩
def Ba.oZ(d:Ba lo hi h c0 c2 c3 es S){e l n:Nat}{m:Bool}{o:List T}(r:dU c3=some e)(g:h.get e=some ⟨3,l,n,m,false,o⟩)(i:Nat)(k:dP):
 Ba lo hi (d8 h e ⟨3,l,n+1,m,false,o.set i k.t⟩) c0 c2 c3 es {S with dM:=S.dM.set i k}:=by
 have p:∀a,a≠e->(d8 h e ⟨3,l,n+1,m,false,o.set i k.t⟩).get a=h.get a:=λa c=>by rw[dQ g,ao c]
 refine⟨d.g0.mono λa c=>p a λf=> ?_,d.g2.mono λa c=>p a λf=> ?_,?_,d.el.imp λf w ⟨v,s,u,q⟩=>⟨v,s,u.mono λa c=>p a λf=>(q a c).2.2.2.2 (by rw[f];exact r),q⟩,d.b⟩
 ·subst f;obtain⟨_,_,_,_,j,_⟩:=d.g0.box c;rw[g]at j;simp at j
 ·subst f;obtain⟨_,_,_,_,j,_⟩:=d.g2.box c;rw[g]at j;simp at j
 ·have:=d.g3.setAt r g i k.t (h':=d8 h e ⟨3,l,n+1,m,false,o.set i k.t⟩) (by rw[dQ g,aq rfl]);simpa[bW]using this
def Ba.Yc(d:Ba lo hi h c0 c2 c3 es S){e l n:Nat}{m:Bool}{o:List T}(r:dU c2=some e)(g:h.get e=some ⟨1,l,n,m,false,o⟩)(i:Nat)(k:Bool):
 Ba lo hi (d8 h e ⟨1,l,n+1,m,false,o.set i (.bool k)⟩) c0 c2 c3 es {S with done:=S.done.set i k}:=by
 have p:∀a,a≠e->(d8 h e ⟨1,l,n+1,m,false,o.set i (.bool k)⟩).get a=h.get a:=λa c=>by rw[dQ g,ao c]
 refine⟨d.g0.mono λa c=>p a λf=> ?_,?_,d.g3.mono λa c=>p a λf=> ?_,d.el.imp λf v ⟨u,s,t,q⟩=>⟨u,s,t.mono λa c=>p a λf=>(q a c).2.2.2.1 (by rw[f];exact r),q⟩,d.b⟩
 ·subst f;obtain⟨_,_,_,_,j,_⟩:=d.g0.box c;rw[g]at j;simp at j
 ·have:=d.g2.setAt r g i (.bool k) (h':=d8 h e ⟨1,l,n+1,m,false,o.set i (.bool k)⟩) (by rw[dQ g,aq rfl]);simpa[bW]using this
 ·subst f;obtain⟨_,_,_,_,j,_⟩:=d.g3.box c;rw[g]at j;simp at j
def Ba.qt(e:Ba lo hi h c0 c2 c3 es S){g m p:Nat}{n:Bool}{q:List T}(o:dU c0=some g)(i:h.get g=some ⟨2,m,p,n,false,q⟩)(f:Nat){rv:T}{k:eg}(hr:oX h 1 rv (gD k.eY))(s:∀a,dU rv=some a->lo<=a/\a<hi/\dU c0≠some a/\dU c2≠some a/\dU c3≠some a):
 Ba lo hi (d8 h g ⟨2,m,p+1,n,false,q.set f (.agg [dG k.iW,rv])⟩) c0 c2 c3 (es.set f (.agg [dG k.iW,rv])) {S with ew:=S.ew.set f k}:=by
 have l:∀a,a≠g->(d8 h g ⟨2,m,p+1,n,false,q.set f (.agg [dG k.iW,rv])⟩).get a=h.get a:=λa c=>by rw[dQ i,ao c]
 refine⟨e.g0.setAt o i f _ (by rw[dQ i,aq rfl]),e.g2.mono λa c=>l a λd=> ?_,e.g3.mono λa c=>l a λd=> ?_,e.el.set f ⟨rv,rfl,hr.mono λa c=>l a λd=>(s a c).2.2.1 (by rw[d];exact o),s⟩ λd v ⟨rv,t,u,r⟩=>⟨rv,t,u.mono λa c=>l a λd=>(r a c).2.2.1 (by rw[d];exact o),r⟩,e.b⟩
 ·subst d;obtain⟨_,_,_,_,j,_⟩:=e.g2.box c;rw[i]at j;simp at j
 ·subst d;obtain⟨_,_,_,_,j,_⟩:=e.g3.box c;rw[i]at j;simp at j
end
def Ba.fz{lo hi:Nat}{h:H}{c0 c2 c3:T}{es:List T}{S:fK}(a:Ba lo hi h c0 c2 c3 es S):TI.fz h c0=some (sl (S.ew.map eg.t))/\TI.fz h c2=some (sl (S.done.map T.bool))/\TI.fz h c3=some (sl (S.dM.map dP.t)):=by
 refine⟨?_,a.g2.fz dC,a.g3.fz dC⟩;exact a.g0.H6 (d:=4) dB (a.el.VT (f:=eg.t) λg j ⟨l,b,c,i⟩=>by
  subst b;exact .inr (.inr ⟨_,_,rfl,.cons (f9 ..) (.cons (c.ft (d:=1) (V:=λ_=>True) (λm e=>by obtain⟨k,_,rfl⟩:=List.mem_map.1 e;simp) λ_ _=>trivial) .nil),rfl⟩))
def IP{c:List Int}(h:IE c)(d:Int):zk c [d]=lY c d:=by
 have e:∀(a b:List Int),lL b a=a.foldl lY b:=by
  intro a;induction a with
  |nil=>intro b;rfl
  |cons g a f=>intro b;show lL (t7 b g) a=_;rw[f,BY];rfl
 unfold zk;rw[e,e];exact LQ h d
end
end Go.Proofs.YtmaeadedikngoaaGreatDoor
