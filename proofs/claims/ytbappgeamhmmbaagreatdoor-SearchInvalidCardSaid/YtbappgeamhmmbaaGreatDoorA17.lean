/- X07 -/
import Derived.Test.YtbappgeamhmmbaaGreatDoorA11
import Derived.Test.YtbappgeamhmmbaaGreatDoorA16
set_option linter.all false
set_option maxRecDepth 100000
set_option maxHeartbeats 0
namespace Go.Proofs.YtbappgeamhmmbaaGreatDoor
noncomputable section
open Go Go.TI Tryz
attribute [-simp] List.map_take List.map_drop List.map_append fj ez TI.d8 Bool.not_or Bool.not_and
attribute [simp] fh eG
def Mg(b c:H)(f:Nat)(e:List (T×aa (Nat×List T))):Prop:=∃d g,m9 c d f g e/\(∀a,Fp c d a->b.size<=a)/\gH b.size c/\∀a,a<b.size->c.get a=b.get a
def Mg.of{b f d:H}{e j k:Nat}{h:List (T×aa (Nat×List T))}(n:m9 d e j k h)(c:Step e f d)(i:∀a,Fp f e a->b.size<=a)(l:b.size<=f.size)(m:∀a,a<b.size->f.get a=b.get a):Mg b (lM b d) j h:=
 ⟨e,k,n.step ((gH.out ⟨c.ok.hp,c.ok.low,aw _⟩ b)) λa _=>fO b d a,λa g=>by
   rw[iL (fO b d e)]at g;rcases c.fp a g with q|q
   ·exact i a q
   ·omega,gH.out ⟨c.ok.hp,c.ok.low,aO l c.ok.sz⟩ b,λa g=>(fO b d a).trans ((c.get a B λq=>by have:=i a q;omega).trans (m a g))⟩
def pS8(a:dR)(b:List T)(c:H):Prop:=b=[a.t]/\gH 0 c/\a.dW.length<=1000000/\a.dU.length<=1000000/\a.dC.length<=1000000
def zg(b:Nat):List dE:=(List.range b).map λa=>⟨if a=0 then 1 else 0,0,false⟩
def KS(a:Nat):zg (a+1)=zg a++[⟨if a=0 then 1 else 0,0,false⟩]:=by
 unfold zg;rw[List.range_succ,List.map_append];rfl
def qS8(a:dR)(_:List T)(e:H)(g:T)(f:H):Prop:=∃b c d,g= .agg [b,D (-1),c,d]/\Mg e f 4 [(b,some (2,(List.replicate a.dW.length ()).map xW)),(D (-1),none),(c,some (1,(List.replicate a.dU.length false).map T.bool)),(d,some (3,(zg a.dC.length).map dE.t))]
def Sz8(e:Nat)(f:H)(Lk:List Unit)(a:List Bool)(Th:List dE):Prop:=∃g b c d,m9 f e 4 g [(b,some (2,Lk.map xW)),(D (-1),none),(c,some (1,a.map T.bool)),(d,some (3,Th.map dE.t))]
def aeW:(jr dR pS8 qS8).Ok prog cx 74:=by
 refine jn (tb:=⟨pt [],ht []⟩) iB gW (iP 9071038046463 [] func74) (λ_ _=>1000005) (λe a h bk=>by obtain⟨rfl,_⟩:=bk;simp[f74]) ?_;rintro(w:dR) _ h ⟨rfl,a7,hl,bH,ht⟩ d av;simp at av;simp[f74,av];generalize R:dT _ _ _=p;have S:gH 0 p:=by rw[<-R];exact(((a7.hr.cons _).cons _).cons _).put _ _
 have bN:p.size=h.size+3:=by rw[<-R];simp
 have M:∀l,p.get l=if l=h.size+2 then some (Z 4 1 [.agg [dw,D (-1),dw,dw]])else if l=h.size+1 then some uF else if l=h.size then some (Z 6 0 [w.t])else h.get l:=λl=>by
  rw[<-R,mn (((a7.hr.cons _).cons _).cons _).hp J,dO,dO,dO,gu];simp only[size_cons,nh];by_cases N:l=h.size+2<;>simp[N,uF]
 have⟨bu,U⟩:=m9.start (h:=p) (w:=h.size+2) (szw:=4) (ver:=1) (F:=[(dw,some (2,[])),(D (-1),none),(dw,some (1,[])),(dw,some (3,[]))]) S (by rw[M,aq rfl];rfl) J;have L:Lb (h.size+2) p h.size (Z 6 0 [w.t]):=⟨by rw[M,ao B,ao B,aq rfl],λN=>by have:=U _ N;omega⟩;have bn:Lb (h.size+2) p (h.size+1) uF:=⟨by rw[M,ao B,aq rfl],λN=>by have:=U _ N;omega⟩;have bs:∀l,l<h.size->p.get l=h.get l:=λl I=>by rw[M,ao B,ao B,ao B]
 clear R M;refine fc w.dW.length B (λe d g=>Sz8 (h.size+2) g (List.replicate e ()) [] []/\Step (h.size+2) p g/\dy d 1 (.ptr h.size 0 0 0)/\dy d 2 (.ptr (h.size+1) 0 0 0)/\dy d 3 (.ptr (h.size+2) 0 0 0)/\dy d 4 (D e)) ?_ ?_ B ⟨⟨_,_,_,_,bu⟩,Step.refl S,J⟩
 ·rintro e d g K G ⟨⟨ver,r,s,z,b⟩,c,i,j,k,m⟩;have o:=b.get;simp at o;have⟨q,u,n,y⟩:=(b.gr 0 rfl).mQ (cx:=cx) (f:=xW) b.ok I7 rfl Fb rfl J (λ_=>rfl) () dp;have⟨v,O,C⟩:=b.app 0 rfl y;have⟨E,A⟩:=C _ rfl;simp only[<-List.replicate_succ']at A;simp[-List.map_replicate]at v E A;simp only[xW]at n;simp[i,j,k,m,K,(L.step c).get,o,n,v,O,dN,y.1.fg,y.1.cells,G];exact⟨⟨_,_,_,_,A⟩,c.trans E⟩
 rintro d g ⟨⟨ver,r,s,z,b⟩,c,i,j,k,m⟩;simp[i,j,k,m,(L.step c).get];refine fc w.dU.length B (λe d g=>Sz8 (h.size+2) g (List.replicate w.dW.length ()) (List.replicate e false) []/\Step (h.size+2) p g/\dy d 1 (.ptr h.size 0 0 0)/\dy d 2 (.ptr (h.size+1) 0 0 0)/\dy d 3 (.ptr (h.size+2) 0 0 0)/\dy d 5 (D e)) ?_ ?_ B ⟨⟨_,_,_,_,b⟩,c,by simp[i,j,k]⟩
 ·clear b c i j k m;rintro e d g K G ⟨⟨ver,r,s,z,b⟩,c,i,j,k,m⟩;have o:=b.get;simp at o;have⟨q,u,n,y⟩:=(b.gr 2 rfl).mQ (cx:=cx) (f:=T.bool) b.ok Fa rfl OV rfl J J false dp;have⟨v,O,C⟩:=b.app 2 rfl y;have⟨E,A⟩:=C _ rfl;simp only[<-List.replicate_succ']at A;simp[-List.map_replicate]at v E A;simp[i,j,k,m,K,(L.step c).get,o,n,v,O,dN,y.1.fg,y.1.cells,G];exact⟨⟨_,_,_,_,A⟩,c.trans E⟩
 clear b c i j k m;rintro d g ⟨⟨ver,r,s,z,b⟩,c,i,j,k,m⟩;simp[i,j,k,m,(L.step c).get];refine fc w.dC.length B (λe d g=>Sz8 (h.size+2) g (List.replicate w.dW.length ()) (List.replicate w.dU.length false) (zg e)/\Step (h.size+2) p g/\dy d 1 (.ptr h.size 0 0 0)/\dy d 2 (.ptr (h.size+1) 0 0 0)/\dy d 3 (.ptr (h.size+2) 0 0 0)/\dy d 6 (D e)) ?_ ?_ B ⟨⟨_,_,_,_,b⟩,c,by simp[i,j,k]⟩
 ·clear b c i j k m;rintro e d g K G ⟨⟨ver,r,s,z,b⟩,c,i,j,k,m⟩;have o:=b.get;simp at o;have bS:=c.ok.sz;have aA:(h.size=g.size)=False:=dp;have aE:(h.size+2=g.size)=False:=dp;have aX:=(L.step c).get;have aN:∀Q,∃q u,iN cx ((g.cons (Z 3 Q [dE.t ⟨if e=0 then 1 else 0,0,false⟩])).cons (Z 3 0 [dE.t ⟨if e=0 then 1 else 0,0,false⟩])) 37 37 z (.arr (g.size+1) 0 0 1 false)=some (.val q u)/\q.fg=true/\q.cells=[q]/\u.get (h.size+2)=some (Z 4 ver [.agg [r,D (-1),s,z]])/\em (g.cons (Z 3 Q [dE.t ⟨if e=0 then 1 else 0,0,false⟩])) u (h.size+2)=true/\Sz8 (h.size+2) (dT u (h.size+2) (Z 4 (ver+1) [.agg [r,D (-1),s,q]])) (List.replicate w.dW.length ()) (List.replicate w.dU.length false) (zg (e+1))/\Step (h.size+2) p (dT u (h.size+2) (Z 4 (ver+1) [.agg [r,D (-1),s,q]])):=λQ=>by
   have ap:=b.cons (Z 3 Q [dE.t ⟨if e=0 then 1 else 0,0,false⟩]);have bC:=Step.cons b.ok b.lt (Z 3 Q [dE.t ⟨if e=0 then 1 else 0,0,false⟩]);have⟨q,u,n,y⟩:=(ap.gr 3 rfl).mQ (cx:=cx) (f:=dE.t) ap.ok CJ rfl Bb rfl J (λ_=>rfl) (⟨if e=0 then 1 else 0,0,false⟩:dE) (by simp[zg];omega);have⟨v,O,C⟩:=ap.app 3 rfl y;have⟨E,A⟩:=C _ rfl;rw[<-KS]at E A;rw[size_cons]at n;exact⟨q,u,n,y.1.fg,y.1.cells,v,O,⟨_,_,_,_,A⟩,(c.trans bC).trans E⟩
  by_cases V:e=0
  ·subst V;have⟨q,u,n,v,C,ae,P,al,an⟩:=aN 2;simp at n P;have a8:binop .add (D 0) (D 1)=some (D 1):=by simpa using G
   simp[i,j,k,m,K,aX,o,aA,aE,b.ok.low,n,v,C,ae,P,dN,a8];exact⟨al,an⟩
  ·have⟨q,u,n,v,C,ae,P,al,an⟩:=aN 1;simp[V]at n P;simp[i,j,k,m,V,K,aX,o,aA,aE,b.ok.low,n,v,C,ae,P,dN,G];exact⟨al,an⟩
 clear b c i j k m;rintro d g ⟨⟨ver,r,s,z,b⟩,c,i,j,k,m⟩;have o:=b.get;simp at o;have W:=bn.step c;have X:=W.get;unfold uF at X;have bz:=b.ry W (Z 4 1 [.agg [r,D (-1),s,z]]);have bi:(dT g (h.size+1) (Z 4 1 [.agg [r,D (-1),s,z]])).get (h.size+1)=_:=(dF X _ _).trans (aq rfl);simp[i,j,k,m,(L.step c).get,o,X,dN,bi,-List.map_replicate];have bB:Step (h.size+2) h p:=⟨⟨S.hp,S.low,B⟩,λl I _=>bs l I,λl I=> .inr (by have:=U l I;omega)⟩;exact⟨r,s,z,rfl,Mg.of bz (Step.ry b.ok W _ h (bB.trans c) B) (λl I=>by
  rcases I with rfl|⟨x,bl,_⟩
  ·omega
  ·have:=H.ej bl;omega) (au _) λ_ _=>rfl⟩
def Im(a:dR)(b:List T)(c:H):Prop:=b=[a.t]/\gH 0 c/\a.dW.length<=1000000/\a.dU.length<=1000000/\a.dC.length<=1000000/\a.cells.length<=1000000
def Qk(a:dR)(c d e f g h:T)(b:List Int):List (T×aa (Nat×List T)):=[(c,some (2,(List.replicate a.dW.length ()).map xW)),(D (-1),none),(d,some (1,(List.replicate a.dU.length false).map T.bool)),(e,some (3,(zg a.dC.length).map dE.t)),(f,some (1,b.map (T.int .i64))),(g,some (1,(List.replicate a.dU.length 0).map (T.int .i64))),(h,some (1,(List.replicate a.dC.length 0).map (T.int .i64)))]
def Ic(g:dR)(_:List T)(h:H)(j:T)(i:H):Prop:=∃a b c d e f,j= .agg [a,D (-1),b,c,d,e,f]/\Mg h i 7 (Qk g a b c d e f (g.cells.map fW.jA))
def aaf:(jr dR Im Ic).Ok prog cx 31:=by
 refine jn (tb:=⟨pt [],ht [(74,jr dR pS8 qS8)]⟩) iB gW (iP 1048607 [(1,[(1,3),(1,5),(1,7),(1,9),(1,11)])] func31) (λ_ _=>1000005) (λp s h c4=>by obtain⟨rfl,_⟩:=c4;simp[f31]) ?_;rintro(d:dR) _ h ⟨rfl,di,hl,G,ht,j⟩ y k;simp at k;have b6:d.dU.length*8<=70368744177664:=B;have b7:d.dC.length*8<=70368744177664:=B;simp[f31,k];generalize z:((TI.hr h).cons _).cons _=u;have dk:gH 0 u:=by rw[<-z];exact(di.hr.cons _).cons _
 refine lO aeW J d ⟨rfl,dk,hl,G,ht⟩ ?_;rintro _ c ⟨m,n,o,rfl,g,U,i,b9,aN,S⟩;have eh:u.size=h.size+2:=by rw[<-z];simp
 have ef:=aN.sz;rw[eh]at ef;have ea:u.get h.size=some (Z 6 0 [d.t]):=by rw[<-z];simp[mD]
 have eb:u.get (h.size+1)=some mD:=by rw[<-z];simp[mD]
 have ec:∀a,a<h.size->u.get a=h.get a:=λa j=>by rw[<-z,dO,ao dp,dO,ao dp,gu]
 clear z;have a0:=(S h.size B).trans ea;have a1:=(S (h.size+1) B).trans eb;have bH:=eQ (S h.size B);have dd:(h.size=c.size)=False:=dp;have de:(h.size=c.size+1)=False:=dp;have bT:em u c (c.size+1+1)=true:=iV (kZ _ B);have O:=λp a a8 V (I: [(m,some (2,(List.replicate d.dW.length ()).map xW)),(D (-1),none),(n,some (1,(List.replicate d.dU.length false).map T.bool)),(o,some (3,(zg d.dC.length).map dE.t))][p]? =some (a,some (a8,V)))=>And.intro (i.gr p I).fg (i.gr p I).cells;have bl:=O 0 m _ _ rfl;have bn:=O 2 n _ _ rfl;have bs:=O 3 o _ _ rfl;have bN:em u c c.size=true:=iV (kZ _ B);have bS:em u c (c.size+1)=true:=iV (kZ _ B);simp[b6,b7,a0,bH,dd,de,bl,bn,bs,bN,bS,bT];generalize P:dT _ _ _=r;have HL:gH 0 c:=⟨aN.hp,aN.low,aw _⟩;have Iq:gH 0 r:=by rw[<-P];exact(((HL.cons _).cons _).cons _).put _ _
 have eu:r.size=c.size+3:=by rw[<-P];simp
 have F:∀a,r.get a=if a=c.size+2 then some (Z 7 1 [.agg [m,D (-1),n,o,dw,.arr c.size 0 0 d.dU.length false,.arr (c.size+1) 0 0 d.dC.length false]])else if a=c.size+1 then some ⟨1,0,0,true,false,List.replicate d.dC.length (D 0)⟩else if a=c.size then some ⟨1,0,0,true,false,List.replicate d.dU.length (D 0)⟩else c.get a:=λa=>by
  rw[<-P,mn (((HL.cons _).cons _).cons _).hp J,dO,dO,dO];simp only[size_cons];by_cases q:a=c.size+2
  ·simp[q]
  ·by_cases C:a=c.size+1<;>by_cases dn:a=c.size<;>simp[q,C,dn]
 clear P;have R:∀a,a<c.size->r.get a=c.get a:=λa q=>by rw[F,ao B,ao B,ao B]
 have Q:∀(l:Nat) s,(Qk d m n o dw (.arr c.size 0 0 d.dU.length false) (.arr (c.size+1) 0 0 d.dC.length false) [])[l]? =some s->∀a,dM s.1=some a->(l<4/\[(m,some (2,(List.replicate d.dW.length ()).map xW)),(D (-1),none),(n,some (1,(List.replicate d.dU.length false).map T.bool)),(o,some (3,(zg d.dC.length).map dE.t))][l]? =some s/\h.size+2<=a/\a<c.size)\/(l=5/\a=c.size)\/(l=6/\a=c.size+1):=by
  intro l s k a j;have c7:=λ(K: [(m,some (2,(List.replicate d.dW.length ()).map xW)),(D (-1),none),(n,some (1,(List.replicate d.dU.length false).map T.bool)),(o,some (3,(zg d.dC.length).map dE.t))][l]? =some s)=>And.intro K (And.intro (show h.size+2<=a by have:=b9 a (i.A9 (ax K) j);omega) (i.fp a (i.A9 (ax K) j)));unfold Qk at k;rcases l with _|_|_|_|_|_|_|l
  iterate 4 exact .inl ⟨B,c7 k⟩
  ·simp at k;subst k;simp at j
  ·simp at k;subst k;simp at j;exact .inr (.inl ⟨rfl,j.symm⟩)
  ·simp at k;subst k;simp at j;exact .inr (.inr ⟨rfl,j.symm⟩)
  ·simp at k
 have bk:m9 r (c.size+2) 7 1 (Qk d m n o dw (.arr c.size 0 0 d.dU.length false) (.arr (c.size+1) 0 0 d.dC.length false) []):=by
  refine⟨Iq,by rw[F,aq rfl];rfl,λf G=>?_,λl M c1 s b k ce a A C=>c1 ?_⟩
  ·have aE:=λp a a8 V (I: [(m,some (2,(List.replicate d.dW.length ()).map xW)),(D (-1),none),(n,some (1,(List.replicate d.dU.length false).map T.bool)),(o,some (3,(zg d.dC.length).map dE.t))][p]? =some (a,some (a8,V)))=>(i.gr p I).mono (h':=r) λq c6=>R q (i.fp q (i.A9 (ax I) c6));unfold Qk at G;simp only[co,cV,or_false]at G;rcases G with rfl|rfl|rfl|rfl|rfl|rfl|rfl
   ·exact⟨aE 0 _ _ _ rfl,show(2:Nat)≠7 by decide⟩
   ·show dM _=none;simp
   ·exact⟨aE 2 _ _ _ rfl,show(1:Nat)≠7 by decide⟩
   ·exact⟨aE 3 _ _ _ rfl,show(3:Nat)≠7 by decide⟩
   ·exact⟨Gr.nil _ _,show(1:Nat)≠7 by decide⟩
   ·exact⟨.inr ⟨c.size,0,0,true,_,J,by rw[F,ao B,ao B,aq rfl],J⟩,show(1:Nat)≠7 by decide⟩
   ·exact⟨.inr ⟨c.size+1,0,0,true,_,J,by rw[F,ao B,aq rfl],J⟩,show(1:Nat)≠7 by decide⟩
  ·rcases Q l s k a A with⟨bB,ap,eo,er⟩|⟨bB,ap⟩|⟨bB,ap⟩<;>rcases Q M b ce a C with⟨r1,r2,r3,r4⟩|⟨r1,r2⟩|⟨r1,r2⟩<;>try omega
   exact Decidable.byContradiction λe=>i.Un l M e s b ap r2 a A C
 have W:∀a,Fp r (c.size+2) a->h.size+2<=a:=by
  rintro a (rfl|⟨x,L,v,bz,q⟩)
  ·omega
  ·rw[bk.get]at L;simp only[ar]at L;subst L;simp only[eY,cM,dc,cj,T.cells]at bz;obtain⟨f,cp,rfl⟩:=List.mem_map.1 bz;have⟨l,K,cL⟩:=List.mem_iff_getElem.1 cp;rcases Q l f (by rw[ay K,cL]) a q with⟨_,_,M,_⟩|⟨_,M⟩|⟨_,M⟩<;>omega
 have bC:Lb (c.size+2) r h.size (Z 6 0 [d.t]):=⟨(R _ B).trans a0,λq=>by have:=W _ q;omega⟩;have c9:Lb (c.size+2) r (h.size+1) mD:=⟨(R _ B).trans a1,λq=>by have:=W _ q;omega⟩;have dv:Step (c.size+2) h r:=⟨⟨Iq.hp,Iq.low,B⟩,λa j _=>(R a B).trans ((S a B).trans (ec a j)),λa j=> .inr (by have:=W a j;omega)⟩;clear F Q O bl bn bs bN bS bT bH;refine fc d.cells.length B (λp y N=>(∃U a,m9 N (c.size+2) 7 U (Qk d m n o a (.arr c.size 0 0 d.dU.length false) (.arr (c.size+1) 0 0 d.dC.length false) ((d.cells.take p).map fW.jA)))/\Step (c.size+2) r N/\dy y 1 (.ptr h.size 0 0 0)/\dy y 2 (.ptr (h.size+1) 0 0 0)/\dy y 3 (.ptr (c.size+2) 0 0 0)/\dy y 4 (D p)) ?_ ?_ B ⟨⟨_,_,bk⟩,Step.refl Iq,J⟩
 ·rintro p y N bu cb ⟨⟨U,a,i⟩,E,X,ae,al,an⟩;have w:=i.get;unfold Qk at w;simp at w;have⟨et,h',b8,bi⟩:=(i.gr 4 rfl).mQ (cx:=cx) (f:=T.int .i64) i.ok oh rfl yJ rfl J (λ_=>rfl) d.cells[p].jA dp;have⟨A,dm,C⟩:=i.app 4 rfl bi;have⟨a7,aX⟩:=C _ rfl;unfold Qk at A a7 aX;simp only[aP,bY,cT,cE]at A a7 aX;simp[X,ae,al,an,bu,(bC.step E).get,w,b8,A,dm,dN,bi.1.fg,bi.1.cells,cb];exact⟨⟨_,_,by unfold Qk;rw[aT bu,List.map_append];exact aX⟩,E.trans a7⟩
 rintro y N ⟨⟨U,a,i⟩,E,X,ae,al,an⟩;rw[aJ]at i;have w:=i.get;unfold Qk at w;simp at w;have av:=c9.step E;have aA:=av.get;unfold mD at aA;have ds:=i.ry av (Z 7 1 [.agg [m,D (-1),n,o,a,.arr c.size 0 0 d.dU.length false,.arr (c.size+1) 0 0 d.dC.length false]]);have ca:(dT N (h.size+1) (Z 7 1 [.agg [m,D (-1),n,o,a,.arr c.size 0 0 d.dU.length false,.arr (c.size+1) 0 0 d.dC.length false]])).get (h.size+1)=_:=(dF aA _ _).trans (aq rfl);simp[X,ae,al,an,(bC.step E).get,w,aA,dN,ca,-List.map_replicate];exact⟨m,n,o,_,_,_,rfl,Mg.of ds (Step.ry i.ok av _ h (dv.trans E) B) (λa j=>by
  rcases j with rfl|⟨x,L,_⟩
  ·omega
  ·have:=H.ej L;omega) (au _) λ_ _=>rfl⟩
end
noncomputable section
open Go Go.TI Tryz
noncomputable abbrev gN(a:Func)(b:Nat):oq:=gq cx a b false
noncomputable abbrev gK(a:Func)(b:Nat):oq:=gq cx a b true
def gO{b:aj}{a:Func}{d:Nat}{c:Bool}(e:prog.funcs[b]? =some a)(f:wM ⟨a,d,c,none⟩=true:=by kernel_rfl):kS prog cx b (gq cx a d c):=afH iB gW e f
def g49:oq:=λ_ _ a b=>yk ((.clone 2 16)) a b
def VZ:kS prog cx 49 g49:=qK (rf (fn:=f49) (t:=63) (tb:=4) (te:=MD) gW func49 dz dz dz dz dz dz dz)
def g50:oq:=λ_ _ a b=>yk ((.clone 1 1)) a b
def VY:kS prog cx 50 g50:=qK (rf (fn:=f50) (t:=36) (tb:=4) (te:=Zl) gW func50 dz dz dz dz dz dz dz)
def g51:oq:=λ_ _ a b=>yk ((.clone 1 8)) a b
def VX:kS prog cx 51 g51:=qK (rf (fn:=f51) (t:=25) (tb:=4) (te:=Eu) gW func51 dz dz dz dz dz dz dz)
def g88:oq:=λ_ _ a b=>yk ((.clone 3 24)) a b
def VW:kS prog cx 88 g88:=qK (rf (fn:=f88) (t:=37) (tb:=4) (te:=Al) gW func88 dz dz dz dz dz dz dz)
def dx:oq:=λ_ _ a b=>yk (.ng) a b
def V4:(f261.name== "runtime.NumGoroutine")=false:=dz
def V3:f261.body.isNone=true:=dz
def V1:Extern.findNext f261=none:=dz
def V2:Extern.find f261=some Extern.BytealgIndexByte.indexByte:=dz
def V0:C2 prog cx 261 .ng:= @ET prog cx 261 f261 func261 V4 V3 V1 V2
def Rg:kS prog cx 261 dx:=qK V0
def qs:Tree oq:=(.node (.node (.node (.node (.node (.node (.node (.node .nil 6 (gN f6 37086407215374335) .nil) 7 (gN f7 7) .nil) 10 (gN f10 138478519) (.node (.node .nil 16 (gN f16 127) .nil) 17 (gN f17 2475880648186041451831757567) .nil)) 18 (gN f18 7) (.node (.node (.node .nil 19 (gN f19 127) .nil) 20 (gN f20 2270491528167423) .nil) 21 (gN f21 2954892465099842490915138798468358981925535743) (.node .nil 22 (gN f22 1125908631781503) .nil))) 23 (gN f23 5508284103923639383255319264801237402987617783) (.node (.node (.node (.node .nil 24 (gN f24 9241386564217587711) .nil) 25 (gN f25 35184372091469) .nil) 26 (gN f26 2105007) (.node (.node .nil 31 (gN f31 1048607) .nil) 35 (gN f35 9223372036871623167) .nil)) 36 (gN f36 4215) (.node (.node (.node .nil 40 (gN f40 9223389645163727807) .nil) 41 (gN f41 2417851783344448572752095) .nil) 42 (gN f42 983087) (.node .nil 43 (gN f43 7725) .nil)))) 44 (gN f44 332306998946231919705005790102318975) (.node (.node (.node (.node (.node .nil 45 (gN f45 31) .nil) 46 (gN f46 16863) .nil) 47 (gN f47 137454944735) (.node (.node .nil 48 (gN f48 772424076352653274097095092108232752774234854811365887) .nil) 49 (g49) .nil)) 50 (g50) (.node (.node (.node .nil 51 (g51) .nil) 52 (gN f52 633825300270344703797589335871) .nil) 53 (gN f53 66483) (.node .nil 56 (gN f56 19) .nil))) 57 (gN f57 3) (.node (.node (.node (.node .nil 58 (gK f58 71) .nil) 59 (gN f59 11) .nil) 60 (gN f60 8796093286397) (.node (.node .nil 61 (gN f61 19808249554385699031857790975) .nil) 62 (gN f62 8864829278711) .nil)) 63 (gN f63 40953575029616206113996799) (.node (.node (.node .nil 67 (gN f67 6434029281764525972148499167221040878727244754944919609542655) .nil) 68 (gN f68 95827739445721067874190659254502973333984266632037375) .nil) 69 (gN f69 31) (.node .nil 74 (gN f74 9071038046463) .nil))))) 75 (gN f75 17184194575) (.node (.node (.node (.node (.node (.node .nil 76 (gK f76 68723687231) .nil) 77 (gN f77 4504699140047487) .nil) 79 (gN f79 576460753379335951) (.node (.node .nil 82 (gN f82 67109327) .nil) 84 (gN f84 1238093369775042453301102031) .nil)) 85 (gN f85 4196311) (.node (.node (.node .nil 86 (gN f86 18463641368405213903) .nil) 88 (g88) .nil) 89 (gN f89 95) (.node .nil 90 (gN f90 95) .nil))) 91 (gN f91 4605278686335) (.node (.node (.node (.node .nil 92 (gK f92 30783) .nil) 100 (gK f100 2247) .nil) 101 (gN f101 9224506733391652861) (.node (.node .nil 102 (gN f102 4432473883133) .nil) 104 (gN f104 19342850151455133005856767) .nil)) 105 (gN f105 316913254556860716756833993695) (.node (.node (.node .nil 106 (gN f106 275) .nil) 107 (gN f107 11) .nil) 108 (gN f108 8934607822903) (.node .nil 109 (gN f109 479) .nil)))) 110 (gN f110 79) (.node (.node (.node (.node (.node .nil 111 (gN f111 7231) .nil) 116 (gN f116 19) .nil) 117 (gN f117 13215461614728367217751695970865548304603543200842114553566203007) (.node (.node .nil 118 (gN f118 1099511628339) .nil) 119 (gN f119 18889470444974887141823) .nil)) 120 (gN f120 829180818552508142370930303613581122868418894632663968482586879) (.node (.node (.node .nil 121 (gN f121 332312079452150195464880550324504575) .nil) 122 (gN f122 4330618893) .nil) 123 (gN f123 131635) (.node .nil 124 (gN f124 2147484735) .nil))) 128 (gN f128 348794743007212715313826391199890521722863) (.node (.node (.node (.node .nil 129 (gN f129 12259964349774246101165194645239424850975965214878597119) .nil) 134 (gN f134 463) .nil) 135 (gN f135 36051629065113551) (.node .nil 136 (gN f136 35315368591455) .nil)) 137 (gN f137 19) (.node (.node (.node .nil 138 (gN f138 606826398900554784047567) .nil) 139 (gN f139 5868843906288553182383292937158044313155908148351) .nil) 143 (gK f143 5575) (.node .nil 144 (gN f144 19) .nil)))))) 146 (gN f146 33587517) (.node (.node (.node (.node (.node (.node (.node .nil 147 (gN f147 4101) .nil) 148 (gN f148 21853) .nil) 149 (gN f149 37396817117309) (.node (.node .nil 150 (gN f150 51) .nil) 151 (gN f151 40536831200067837) .nil)) 152 (gN f152 72128100255664255) (.node (.node (.node .nil 153 (gN f153 1242795222330225588904675325) .nil) 154 (gN f154 1237940043933112819970491391) .nil) 155 (gN f155 1053) (.node .nil 156 (gN f156 151115745466229840684019) .nil))) 158 (gK f158 18191) (.node (.node (.node (.node .nil 159 (gN f159 365376106316094180278949616271352870286206697499) .nil) 160 (gN f160 10633824283312870803151638865622599647) .nil) 161 (gN f161 137506128175) (.node (.node .nil 163 (gN f163 19) .nil) 164 (gN f164 606826398900554784047567) .nil)) 166 (gK f166 1048607) (.node (.node (.node .nil 169 (gN f169 5) .nil) 170 (gN f170 131613) .nil) 171 (gN f171 5) (.node .nil 172 (gN f172 11161304336780981658631819976322344575566047) .nil)))) 173 (gN f173 4362601011) (.node (.node (.node (.node (.node .nil 174 (gN f174 19) .nil) 175 (gK f175 2097183) .nil) 176 (gN f176 1182933510117985879039) (.node (.node .nil 178 (gN f178 7) .nil) 179 (gN f179 29) .nil)) 194 (gK f194 20426010943356750102455122975) (.node (.node (.node .nil 195 (gN f195 19) .nil) 196 (gN f196 19) .nil) 197 (gN f197 5) (.node .nil 198 (gN f198 35500589085) .nil))) 199 (gN f199 5) (.node (.node (.node (.node .nil 200 (gN f200 1125908496810045) .nil) 201 (gN f201 262565) .nil) 202 (gN f202 541) (.node (.node .nil 203 (gN f203 328307) .nil) 204 (gN f204 1574131) .nil)) 205 (gN f205 275) (.node (.node (.node .nil 206 (gN f206 529021) .nil) 207 (gN f207 1125902054326279) .nil) 208 (gN f208 32909) (.node .nil 209 (gN f209 262707) .nil))))) 210 (gN f210 262707) (.node (.node (.node (.node (.node (.node .nil 211 (gN f211 14474012017383023515249485065460760621927424225494418519668988771800801378299) .nil) 212 (gN f212 36893488147419136123) .nil) 216 (gN f216 20282409606012871684182924853463) (.node (.node .nil 217 (gN f217 158456325028530997355645763711) .nil) 218 (gN f218 1037) .nil)) 219 (gN f219 1099578740959) (.node (.node (.node .nil 221 (gN f221 1) .nil) 224 (gN f224 5) .nil) 225 (gK f225 262175) (.node .nil 226 (gK f226 9904163146420522906957187071) .nil))) 240 (gN f240 5) (.node (.node (.node (.node .nil 242 (gN f242 19) .nil) 243 (gN f243 2293) .nil) 244 (gN f244 2149585011) (.node (.node .nil 245 (gN f245 526461) .nil) 246 (gN f246 8606909437) .nil)) 247 (gN f247 182687706027492332498828539273953093013162958911) (.node (.node (.node .nil 248 (gN f248 70368744310543) .nil) 249 (gN f249 83) .nil) 250 (gN f250 33688639) (.node .nil 251 (gN f251 4196847) .nil)))) 253 (gN f253 1049655) (.node (.node (.node (.node (.node .nil 261 (dx) .nil) 262 (gN f262 8211) .nil) 266 (gN f266 131527) (.node (.node .nil 267 (gN f267 563501857374451) .nil) 268 (gN f268 2863311549) .nil)) 269 (gN f269 18483898770635358239) (.node (.node (.node .nil 270 (gN f270 7) .nil) 271 (gN f271 99132251962343631) .nil) 272 (gN f272 8703) (.node .nil 273 (gN f273 8590200303) .nil))) 278 (gN f278 594912002450663878599) (.node (.node (.node (.node .nil 280 (gN f280 13) .nil) 285 (gN f285 32819) .nil) 288 (gN f288 132109) (.node .nil 291 (gN f291 749019592093908130998168547243562859198691857383367) .nil)) 296 (gN f296 72339071195682803) (.node (.node (.node .nil 305 (gN f305 8407165) .nil) 306 (gN f306 2101491) .nil) 308 (gN f308 9224502335110254589) (.node .nil 309 (gN f309 715827901) .nil)))))))
def ZX:qs.Qm λa b=>kS prog cx a b:=(.node (.node (.node (.node (.node (.node (.node (.node .nil (gO func6) .nil) (gO func7) .nil) (gO func10) (.node (.node .nil (gO func16) .nil) (gO func17) .nil)) (gO func18) (.node (.node (.node .nil (gO func19) .nil) (gO func20) .nil) (gO func21) (.node .nil (gO func22) .nil))) (gO func23) (.node (.node (.node (.node .nil (gO func24) .nil) (gO func25) .nil) (gO func26) (.node (.node .nil (gO func31) .nil) (gO func35) .nil)) (gO func36) (.node (.node (.node .nil (gO func40) .nil) (gO func41) .nil) (gO func42) (.node .nil (gO func43) .nil)))) (gO func44) (.node (.node (.node (.node (.node .nil (gO func45) .nil) (gO func46) .nil) (gO func47) (.node (.node .nil (gO func48) .nil) VZ .nil)) VY (.node (.node (.node .nil VX .nil) (gO func52) .nil) (gO func53) (.node .nil (gO func56) .nil))) (gO func57) (.node (.node (.node (.node .nil (gO func58) .nil) (gO func59) .nil) (gO func60) (.node (.node .nil (gO func61) .nil) (gO func62) .nil)) (gO func63) (.node (.node (.node .nil (gO func67) .nil) (gO func68) .nil) (gO func69) (.node .nil (gO func74) .nil))))) (gO func75) (.node (.node (.node (.node (.node (.node .nil (gO func76) .nil) (gO func77) .nil) (gO func79) (.node (.node .nil (gO func82) .nil) (gO func84) .nil)) (gO func85) (.node (.node (.node .nil (gO func86) .nil) VW .nil) (gO func89) (.node .nil (gO func90) .nil))) (gO func91) (.node (.node (.node (.node .nil (gO func92) .nil) (gO func100) .nil) (gO func101) (.node (.node .nil (gO func102) .nil) (gO func104) .nil)) (gO func105) (.node (.node (.node .nil (gO func106) .nil) (gO func107) .nil) (gO func108) (.node .nil (gO func109) .nil)))) (gO func110) (.node (.node (.node (.node (.node .nil (gO func111) .nil) (gO func116) .nil) (gO func117) (.node (.node .nil (gO func118) .nil) (gO func119) .nil)) (gO func120) (.node (.node (.node .nil (gO func121) .nil) (gO func122) .nil) (gO func123) (.node .nil (gO func124) .nil))) (gO func128) (.node (.node (.node (.node .nil (gO func129) .nil) (gO func134) .nil) (gO func135) (.node .nil (gO func136) .nil)) (gO func137) (.node (.node (.node .nil (gO func138) .nil) (gO func139) .nil) (gO func143) (.node .nil (gO func144) .nil)))))) (gO func146) (.node (.node (.node (.node (.node (.node (.node .nil (gO func147) .nil) (gO func148) .nil) (gO func149) (.node (.node .nil (gO func150) .nil) (gO func151) .nil)) (gO func152) (.node (.node (.node .nil (gO func153) .nil) (gO func154) .nil) (gO func155) (.node .nil (gO func156) .nil))) (gO func158) (.node (.node (.node (.node .nil (gO func159) .nil) (gO func160) .nil) (gO func161) (.node (.node .nil (gO func163) .nil) (gO func164) .nil)) (gO func166) (.node (.node (.node .nil (gO func169) .nil) (gO func170) .nil) (gO func171) (.node .nil (gO func172) .nil)))) (gO func173) (.node (.node (.node (.node (.node .nil (gO func174) .nil) (gO func175) .nil) (gO func176) (.node (.node .nil (gO func178) .nil) (gO func179) .nil)) (gO func194) (.node (.node (.node .nil (gO func195) .nil) (gO func196) .nil) (gO func197) (.node .nil (gO func198) .nil))) (gO func199) (.node (.node (.node (.node .nil (gO func200) .nil) (gO func201) .nil) (gO func202) (.node (.node .nil (gO func203) .nil) (gO func204) .nil)) (gO func205) (.node (.node (.node .nil (gO func206) .nil) (gO func207) .nil) (gO func208) (.node .nil (gO func209) .nil))))) (gO func210) (.node (.node (.node (.node (.node (.node .nil (gO func211) .nil) (gO func212) .nil) (gO func216) (.node (.node .nil (gO func217) .nil) (gO func218) .nil)) (gO func219) (.node (.node (.node .nil (gO func221) .nil) (gO func224) .nil) (gO func225) (.node .nil (gO func226) .nil))) (gO func240) (.node (.node (.node (.node .nil (gO func242) .nil) (gO func243) .nil) (gO func244) (.node (.node .nil (gO func245) .nil) (gO func246) .nil)) (gO func247) (.node (.node (.node .nil (gO func248) .nil) (gO func249) .nil) (gO func250) (.node .nil (gO func251) .nil)))) (gO func253) (.node (.node (.node (.node (.node .nil Rg .nil) (gO func262) .nil) (gO func266) (.node (.node .nil (gO func267) .nil) (gO func268) .nil)) (gO func269) (.node (.node (.node .nil (gO func270) .nil) (gO func271) .nil) (gO func272) (.node .nil (gO func273) .nil))) (gO func278) (.node (.node (.node (.node .nil (gO func280) .nil) (gO func285) .nil) (gO func288) (.node .nil (gO func291) .nil)) (gO func296) (.node (.node (.node .nil (gO func305) .nil) (gO func306) .nil) (gO func308) (.node .nil (gO func309) .nil)))))))
def F1:∀a b,(λa=>qs.find a) a=some b->kS prog cx a b:=λa b c=>ZX.find c
end
noncomputable section
open Go Go.TI Tryz
attribute [-simp] List.map_take List.map_drop List.map_append fj ez TI.d8 Bool.not_or Bool.not_and
attribute [simp] fh eG
def je:dR:=⟨[⟨[120],0,0,false,0⟩,⟨[121],0,0,false,1⟩,⟨[118],0,0,true,0⟩,⟨[113],0,2,false,0⟩,⟨[113],1,2,false,0⟩],[⟨[109],false⟩,⟨[110],false⟩,⟨[114],true⟩],[⟨[99],0⟩],[[102]],[[109,97,105,110],[116,49],[116,50],[116,51]],
 [⟨0,0,1⟩,⟨0,1,2⟩,⟨0,2,3⟩,⟨0,3,4⟩,⟨0,4,5⟩,⟨0,5,6⟩,⟨1,0,11⟩,⟨1,1,12⟩,⟨1,2,13⟩,⟨1,3,14⟩,⟨1,4,15⟩,⟨1,5,16⟩,⟨2,0,21⟩,⟨2,1,22⟩,⟨2,2,23⟩,⟨2,3,24⟩,⟨2,4,25⟩,⟨2,5,26⟩,⟨3,0,31⟩,⟨3,1,32⟩,⟨3,2,33⟩,⟨3,3,34⟩,⟨3,4,35⟩,⟨3,5,36⟩]⟩
def UE:∀a b,(λa=>(Tree.node .nil 27 (gN f27 81788943) .nil).find a) a=some b->kS prog cx a b:=λa b c=>(Tree.Qm.node .nil (gO func27) .nil).find c
def K7:kH prog cx 27 [] je.t:=yj (lr _ dz) (AH UE 10000 _ _ _ _ _ dz)
def EA:ge:=⟨Unit,λ_=>[],λ_=>True,λ_=>je.t,λ_ _ _=>rfl⟩
def Nv:EA.Ok prog cx 27:=λ_ _=>K7
def Kr{a:fw}(ht:a.p 27=some EA):rl prog cx a 27 []=some je.t:=gG ht Nv () trivial
def H7:jE je=true:=by decide+kernel
def uD(e:Nat)(a:List Int)(c:Nat)(d:H):Prop:=∃f b,d.get c=some (Z 2 f [.agg [sl (a.map (T.int .u8)),D b]])/\((min e a.length:Nat):Int)<=b
def uD.tp{e:Nat}{a:List Int}{b:Nat}{c:H}(g:uD e a b c):Tp a b c:=by
 obtain⟨h,f,d,i⟩:=g;exact⟨h,f,d,B⟩
def uD.eq{e:Nat}{b:List Int}{a:Nat}{c d:H}(j:uD e b a c)(h:d.get a=c.get a):uD e b a d:=by
 obtain⟨k,i,g,f⟩:=j;exact⟨k,i,by rw[h];exact g,f⟩
def uD.le{d e:Nat}{a:List Int}{b:Nat}{c:H}(g:uD d a b c)(k:e<=d):uD e a b c:=by
 obtain⟨h,i,f,j⟩:=g;exact⟨h,i,f,B⟩
structure Jr where
 (L:List Int) (b p:Nat) (n:Int)
def F6(a:Jr)(d:List T)(c:H):Prop:=d=[.ptr a.b 0 0 0,D a.n]/\uD a.p a.L a.b c/\gH 0 c/\1<=a.n/\a.n<=100/\okB a.L
def La(a:Jr)(g:List T)(e:H)(f:T)(c:H):Prop:=∃d:Nat,f= D d/\(d:Int)<a.n/\uD (a.p+1) a.L a.b c/\Sm a.b e c
abbrev ko:kI:=jr Jr F6 La
def QP:ko.Ok prog cx 64:=by
 refine jn (tb:=⟨pt [],ht []⟩) iB gW (iP 262163 [] func64) (λ_ _=>5) (λI a h A=>by obtain⟨rfl,_⟩:=A;simp[f64]) ?_;rintro⟨b,f,K,g⟩ _ h ⟨rfl,⟨i,d,e,C⟩,r,y,z,s,o⟩ L p;simp only at e C y z s o;simp at p;obtain⟨j,k⟩:=p;simp[f64,j,k,e];refine dV (λl=>?_) (λl=>?_)
 ·simp at l;simp;exact⟨0,J,dq,⟨i,d,by rw[fO,gu];exact e,dq⟩,Sm.out (Sm.refl r.hr)⟩
 ·simp at l;have F:IntKind.i64.wrap (d+1)=d+1:=by rw[<-jv];exact jD B B
  have G:IntKind.i64.wrap d=d:=by rw[<-jv];exact jD B B
  have E:Sm f (hr h) _:=(Sm.refl r.hr).put (x:=(Z 2 i [.agg [sl (b.map (T.int .u8)),D d]])) (by rw[gu];exact e) (Z 2 (i+1) [.agg [sl (b.map (T.int .u8)),D (d+1)]]);have n:(dT (hr h) f (Z 2 (i+1) [.agg [sl (b.map (T.int .u8)),D (d+1)]])).get f=_:=(dF (h:=hr h) (by rw[gu];exact e) _ f).trans (aq rfl);simp[j,k,e,nG,dN,F];generalize dT (hr h) f _=H at*
  obtain⟨c,rfl⟩:∃c:Nat,d=c:=⟨d.toNat,B⟩;have q:c<b.length:=B;have t:=o b[c] (aD q);have u: -9223372036854775808<=b[c]:=B;have v:b[c]<9223372036854775808:=B;have t0:=Int.tmod_nonneg g t.1;have t1:=Int.tmod_lt_of_pos b[c] (show 0<g by omega);simp[j,k,n,tQ,G,q,u,v,Dc (a:=b[c]) (show¬g=0 by omega)];have⟨m,w⟩:∃m:Nat,b[c].tmod g=m:=⟨(b[c].tmod g).toNat,B⟩;exact⟨m,by rw[w],dq,⟨_,_,by rw[fO];exact n,dq⟩,Sm.out E⟩
structure r7(p:Nat)(L:List Int)(b:Nat)(h h':H):Prop where
 w:Tw L b h h'
 g:uD p L b h'
def r7.refl{d:Nat}{b:List Int}{c:Nat}{a:H}(f:gH 0 a)(e:uD d b c a):r7 d b c a a:=⟨Tw.refl f e.tp,e⟩
def r7.le{e f:Nat}{a:List Int}{b:Nat}{c d:H}(h:r7 e a b c d)(i:f<=e):r7 f a b c d:=⟨h.w,h.g.le i⟩
theorem r7.cons{e:Nat}{a:List Int}{b:Nat}{c d:H}(w:r7 e a b c d)(f:iI):r7 e a b c (d.cons f):=⟨w.w.cons f,w.g.eq (by rw[dO,ao (by have:=w.w.tp.lt;omega)])⟩
theorem r7.put{h:Nat}{e:List Int}{b:Nat}{a d:H}(i:r7 h e b a d){c:Nat}{x:iI}(f:d.get c=some x)(l:a.size<=c)(k:b<a.size)(j:iI):r7 h e b a (dT d c j):=⟨i.w.put f l k j,i.g.eq (by rw[dF f,ao B])⟩
def r7.call{h f:Nat}{b:List Int}{a:Nat}{d e c:H}(j:r7 h b a d e)(i:Sm a e c)(g:uD f b a c):r7 f b a d c:=⟨j.w.call i g.tp,g⟩
def r7.cut{h:Nat}{e:List Int}{c:Nat}{a b:H}(d:r7 h e c (TI.hr a) b)(p:gH 0 a)(f:c<a.size){j l:T}{i:T->H->Prop}(m:∃k,iZ b a.size j=some k/\cn k=l)
 (o:Sm c a (tM a b)->uD h e c (tM a b)->i l (tM a b)):xK a j b i:=d.w.cut p f m λq _=>o q (d.g.eq (yM d.w.ok.hp d.w.size f))
def On{tb:fw}{g:Nat}{e:List Int}{a:Nat}{c:H}(ht:tb.h 64=some ko)(s:uD g e a c)(n:gH 0 c)(m:okB e)(b:Int)(k:1<=b)(l:b<=100):∃(f:Nat) (d:H),hl prog cx tb 64 [.ptr a 0 0 0,D b] c=some (D f,d)/\(f:Int)<b/\uD (g+1) e a d/\Sm a c d:=by
 have i:F6 ⟨e,a,g,b⟩ [.ptr a 0 0 0,D b] c:=⟨rfl,s,n,k,l,m⟩;have⟨_,d,j,o⟩:=D9 ht QP ⟨_,i⟩;obtain⟨f,rfl,p,q,r⟩:=o _ i;exact⟨f,d,j,p,q,r⟩
end
noncomputable section
open Go Go.TI
def za(a:dE):Bool:=decide (a.iv=3)||decide (a.iv=4)
def Fi{b a:Type}(e:b->a->Bool)(f:List a->a->Bool)(d:b->a->b):List a->b->List a->Bool
 |_,_,[]=>true
 |pre,g,c::h=>(e g c&&f pre c)&&Fi e f d (pre++[c]) (d g c) h
def LY{c a:Type}{g:c->a->Bool}{j:List a->a->Bool}{f:c->a->c}:∀(b h:List a) (e:c),Fi g j f h e b=true->rI g f e b=true:=by
 intro b;induction b with
 |nil=>intro _ _ _;rfl
 |cons k b i=>
  intro h e d;simp only[Fi,az]at d;simp only[rI,az];exact⟨d.1.1,i _ _ d.2⟩
def Qc(b:List dY)(a:dY):Bool:=uO b a.dQ a.mo&&uO b a.dQ a.uA
def o9(a:dR)(b:List dY):Bool:=decide (b.length<=400)&&jE a&&Fi (oK a) Qc (jO a) [] (js a) b
def yN{b:dR}{c:List dY}(a:o9 b c=true):runs b (js b) c=true/\b.dC.length<=4/\c.length<=400:=by
 unfold o9 at a;simp only[az,aL]at a;refine⟨LY _ _ _ a.2,?_,a.1.1⟩;have d:=a.1.2;unfold jE rG at d;simp only[az,aL]at d;omega
structure qp(N:Nat)(s:dZ):Prop where
 l:s.fk.dW.length<=1000/\s.fk.done.length<=1000/\s.fk.dC.length<=1000/\s.cells.length<=1000/\s.dU.length<=1000/\s.count.length<=1000
 r:∀l∈s.fk.dW,l.ed.length<=N
 a:s.fk.El
 c:∀c∈s.count,-N<=c/\c<=N
def qp.up{f e:Nat}{g:dZ}(b:qp f g)(j:f<=e):qp e g:=⟨b.l,λi d=>by have:=b.r i d;omega,b.a,λh d=>by have:=b.c h d;omega⟩
def VI{b:Nat}{c:fa}{i:Int}{d:dP->dP}(e:∀a∈c.dW,a.ed.length<=b)(g:∀a∈c.dW,(d a).ed.length<=b+1):∀a∈(c.ot i d).dW,a.ed.length<=b+1:=by
 intro a hl;rcases mem_modify hl with f|⟨j,h,rfl⟩
 ·have:=e a f;omega
 ·exact g j h
def Mc{d:Nat}{j:fa}(k:∀a∈j.dW,a.ed.length<=d)(p:dR)(h m n q:Int):∀a∈(ei p j h m n q).1.dW,a.ed.length<=d+1:=by
 have c:∀a∈j.dW,a.ed.length<=d+1:=λa o=>by have:=k a o;omega
 have l:∀(f:Int) (b:dP->dP),(∀a,(b a).ed=a.ed\/(b a).ed=lH a.ed h\/(b a).ed=a.ed.filter λg=> !decide (g=h))->∀a∈(j.ot f b).dW,a.ed.length<=d+1:=λf b i=>VI k λa hl=>by
  have r:=k a hl;rcases i a with e|e|e<;>rw[e]
  ·omega
  ·have:=GT a.ed h;omega
  ·have:=List.length_filter_le (λg=> !decide (g=h)) a.ed;omega
 exact uo (P:=λg=>∀a∈g.1.dW,a.ed.length<=d+1) c c (λ_ _ _=>c) (λf b i=>⟨l f b i,λ_ _=>l f b i⟩) (λ_=>c) (λ_ _=>c) (λ_=>c)
def KI(a:Nat):qp a sa:=⟨by simp[sa],by simp[sa],by intro b hl;simp[sa]at hl,by simp[sa]⟩
def qp.step{e:Nat}{f:dZ}(d:qp e f)(h:dR)(b:dY):qp (e+1) (jx h f b).1:=by
 unfold jx;split
 ·have hl:=xH h f.fk b.dQ b.kind b.obj (kT b);have⟨l1,l2,l3,l4,l5,l6⟩:=d.l;refine⟨⟨by show(ei ..).1.dW.length<=_;omega,by show(ei ..).1.done.length<=_;omega,by show(ei ..).1.dC.length<=_;omega,?_,?_,?_⟩,Mc d.r _ _ _ _ _,xI d.a _ _ _ _ _,λg i=>?_⟩
  ·unfold jO;simp only;split<;>simp[l4]
  ·unfold jO;simp only;split<;>simp[l5]
  ·unfold jO;simp[l6]
  ·rcases mem_modify (show g∈f.count.modify b.dQ.toNat (· +1)from i)with k|⟨m,j,rfl⟩
   ·have:=d.c g k;omega
   ·have:=d.c m j;omega
 ·exact(KI e).up (Nat.le_succ e)
def qp.nP{w:dR}:∀(a:List dY) {b:Nat} {c:dZ},qp b c->qp (b+a.length) (nP w c a):=by
 intro a;induction a with
 |nil=>intro b c d;exact d
 |cons e a f=>
  intro b c d;have:=f (d.step w e);rw[show b+1+a.length=b+(e::a).length by simp;omega]at this;exact this
def tR(a:dR)(d:a.dW.length<=1000/\a.dU.length<=1000/\a.dC.length<=1000/\a.cells.length<=1000):qp 0 (js a):=by
 refine⟨by simp[js,kK];omega,λe hl=>?_,rF a,λc b=>?_⟩
 ·simp[js,kK]at hl;obtain⟨_,rfl⟩:=hl;simp
 ·simp[js]at b;omega
end
noncomputable section
open Go Go.TI Tryz
attribute [-simp] List.map_take List.map_drop List.map_append fj ez TI.d8 Bool.not_or Bool.not_and
attribute [simp] fh eG
def sS:ge:=⟨List dY×Nat×Int×List Int,λa=>[sl (a.1.map dY.t),D a.2.1,D a.2.2.1,sl (a.2.2.2.map (T.int .i64))],λa=>a.2.1<=a.1.length/\a.1.length<=1000000/\a.2.2.2.length<=1000000,λa=> .bool (uO (a.1.take a.2.1) a.2.2.1 a.2.2.2),λa c b=>by
 obtain⟨a1,a2,a3,a4⟩:=a;obtain⟨h,i,j,k⟩:=c;simp at b;obtain⟨d,e,f,g⟩:=b;rw[jt (λ_ _=>dY.inj) d,Int.ofNat.inj e,f,jt (λ_ _ b=>by simpa using b) g]⟩
def ScR(d e:Int)(b:List dY)(c f g:Nat)(h:T):Prop:=∃a:Bool,h= .bool a/\Ao d e ((b.take c).drop f) g a=Ao d e (b.take c) 0 false
def Lp:sS.Ok prog cx 79:=by
 refine fR [] (iP 576460753379335951 [] func79) (λ_=>1000005) (by simp[sS]) ?_;rintro⟨g,l,w,m⟩ ⟨N,hl,P⟩ a A;simp at N hl P;simp[sS]at A|-;obtain⟨b,c,d,e⟩:=A;simp[f79,b,c,d,e];refine fc m.length B (λj a n=>n=hE/\dy a 0 (sl (g.map dY.t))/\dy a 1 (D l)/\dy a 2 (D w)/\dy a 3 (sl (m.map (T.int .i64)))/\dy a 9 (D j)/\(m.take j).all (λG=>Ao w G (g.take l) 0 false)=true) ?_ ?_ B (by simp[b,c,d,e])
 ·rintro j a n v I ⟨rfl,b,c,d,e,f,u⟩;simp[b,c,d,e,f,v];refine fc l B (λh a n=>n=hE/\dy a 0 (sl (g.map dY.t))/\dy a 1 (D l)/\dy a 2 (D w)/\dy a 3 (sl (m.map (T.int .i64)))/\dy a 9 (D j)/\∃(k:Nat) (x:T),dy a 10 (D k)/\dy a 11 x/\dy a 12 (D h)/\k<=h/\ScR w m[j] g l h k x) ?_ ?_ B ⟨rfl,by simp[b,c,d,e,f],by simp[b,c,d,e,f],by simp[b,c,d,e,f],by simp[b,c,d,e,f],by simp[f],0,.bool false,J,J,J,au _,false,rfl,rfl⟩
  ·rintro h a n K C ⟨rfl,b,c,d,e,f,k,x,o,p,r,L,y,rfl,i⟩;have E:h<g.length:=B;have z:(g.take l).drop h=g[h]::(g.take l).drop (h+1):=by
    rw[aH dp];simp
   rw[z,Ao]at i;simp[b,c,d,e,f,o,p,r,K,E];have M:g[h]? =some g[h]:=ay E;have O:m[j]? =some m[j]:=ay v;generalize g[h]=R at*
   generalize m[j]=G at*
   have H:binop .add (D (k:Int)) (D 1)=some (D ((k+1:Nat):Int)):=by rw[ij B B];simp
   refine dV (λs=>?_) (λs=>?_)
   ·simp at s;rw[ao s]at i;simp[b,c,d,e,f,o,p,r,C];exact⟨k,rfl,B,y,rfl,i⟩
   ·simp at s;rw[aq s]at i;simp[b,c,d,e,f,o,p,r,M,O,H,C];exact⟨k+1,J,B,_,rfl,i⟩
  ·rintro a n ⟨rfl,b,c,d,e,f,k,x,o,p,r,L,y,rfl,i⟩;have z:(g.take l).drop l=[]:=J;rw[z,Ao]at i;simp[b,c,d,e,f,o,p,r];cases y with
   |false=>
    simp[b,c,d,e,f,o,p,r];unfold uO;rw[List.all_eq_false];exact⟨m[j],aD v,by rw[<-i];simp⟩
   |true=>
    simp[b,c,d,e,f,o,p,r,I];intro Q F;rw[aT v]at F;rcases List.mem_append.1 F with q|q
    ·exact List.all_eq_true.1 u Q q
    ·rw[List.mem_singleton.1 q];exact i.symm
 ·rintro a n ⟨rfl,b,c,d,e,f,u⟩;rw[aJ]at u;simp[b,c,d,e,f];unfold uO;rw[u]
def Pj{e:fw}(ht:e.p 79=some sS)(a:List dY)(b:Nat)(d:Int)(c:List Int)(f:b<=a.length)(g:a.length<=1000000)(h:c.length<=1000000):rl prog cx e 79 [sl (a.map dY.t),D b,D d,sl (c.map (T.int .i64))]=some (.bool (uO (a.take b) d c)):=gG ht Lp (a,b,d,c) ⟨f,g,h⟩
end
noncomputable section
open Go Go.TI Tryz
section
attribute [-simp] List.map_take List.map_drop List.map_append
def F0:ge:=⟨Int×Nat,λa=>[D a.1,D a.2],λa=>True,λa=> .bool (iR a.1 a.2),λa c b=>by simp at b;rw[b.1,show a.2=c.2 by omega]⟩
def Vn:F0.Ok prog cx 116:=by
 refine fR [] (iP 19 [] func116) (λf=>1) (by simp[F0]) ?_;rintro⟨e,g⟩ _ h a;simp[F0]at a|-;obtain⟨b,c⟩:=a;by_cases d:0<=e<;>simp[f116,b,c,d,iR]
def Ps{c:fw}(ht:c.p 116=some F0)(a:Int)(b:Nat):rl prog cx c 116 [D a,D b]=some (.bool (iR a b)):=gG ht Vn (a,b) trivial
def vU:ge:=⟨dR×dZ,λa=>[a.1.t,a.2.t],λa=>a.1.fV.length<=1099511627776,λa=> .bool (mT a.1 a.2),λa c b=>by simp at b;rw[dR.inj b.1,dZ.inj b.2]⟩
def NZ:vU.Ok prog cx 69:=by
 refine fR [(124,rL)] (iP 31 [] func69) (λi=>1) (by simp[vU]) ?_;rintro⟨b,a⟩ hl j e;simp[vU]at hl e|-;obtain⟨c,d⟩:=e;cases f:lY b a.fk with
 |false=>simp[f69,c,d,um,hl,f,mT]
 |true=>by_cases g:a.cells.length=b.cells.length<;>by_cases h:a.dU.length=b.dU.length<;>simp[f69,c,d,um,hl,f,g,h,mT,Int.natCast_inj]
def Fk{c:fw}(ht:c.p 69=some vU)(a:dR)(b:dZ)(hl:a.fV.length<=1099511627776):rl prog cx c 69 [a.t,b.t]=some (.bool (mT a b)):=gG ht NZ (a,b) hl
def uS:ge:=⟨List Int×Int,λa=>[sl (a.1.map (T.int .i64)),D a.2],λa=>a.1.length<=1099511627776,λa=> .bool (xl a.2 none a.1),λa c b=>by simp at b;rw[jt J b.1,b.2]⟩
def Lr:uS.Ok prog cx 118:=by
 refine fR [] (iP 1099511628339 [] func118) (λt=>t.1.length+1) (by simp[uS]) ?_;rintro⟨e,l⟩ hl j q;simp[uS]at hl q|-;obtain⟨c,d⟩:=q;simp[f118,c,d];refine fc e.length B (λb j o=>o=hE/\dy j 0 (sl (e.map (T.int .i64)))/\dy j 1 (D l)/\dy j 5 (D b)/\xl l (if b=0 then none else e[b-1]?) (e.drop b)=xl l none e) ?_ ?_ B (by simp[c,d])
 ·rintro b j o i k ⟨rfl,c,d,h,a⟩;rw[aH i]at a;simp only[xl]at a;by_cases f:e[b]<1
  ·simp[f]at a;simp[c,d,h,i,k,f,a]
  ·by_cases g:l<=e[b]
   ·simp[g]at a;simp[c,d,h,i,k,f,g,a]
   ·by_cases r:b=0
    ·have m:¬0<b:=B;rw[aq r]at a;simp[f,g]at a;simp[c,d,h,i,k,f,g,m];exact a
    ·have m:0<b:=B;have p:b-1<e.length:=B;have s:binop .sub (D (b:Int)) (D 1)=some (D ((b-1:Nat):Int)):=by rw[kP B B,show(b:Int)-1=((b-1:Nat):Int)by omega]
     rw[ao r,ay p]at a;by_cases n:e[b]<=e[b-1]
     ·simp[f,g,n]at a;simp[c,d,h,i,p,k,f,g,n,s,a,m]
     ·simp[f,g,n]at a;simp[c,d,h,i,p,k,f,g,n,s,m];exact a
 ·rintro j o ⟨rfl,c,d,h,a⟩;simp[xl]at a;simp[c,d,h,a]
def Pm{c:fw}(ht:c.p 118=some uS)(a:List Int)(b:Int)(hl:a.length<=1099511627776):rl prog cx c 118 [sl (a.map (T.int .i64)),D b]=some (.bool (xl b none a)):=gG ht Lr (a,b) hl
def sP:ge:=⟨dZ×dY,λa=>[a.1.t,a.2.t],λa=>a.1.fk.dC.length<=1099511627776/\(a.2.kind=3->iR a.2.obj a.1.cells.length=true)/\(a.2.kind=23->iR a.2.obj a.1.dU.length=true),λa=> .bool (nj a.1 a.2),λa c b=>by simp at b;rw[dZ.inj b.1,dY.inj b.2]⟩
def Li:sP.Ok prog cx 119:=by
 refine fR [(165,uP),(80,De)] (iP 18889470444974887141823 [(17,[(1,6)])] func119) (λv=>1) (by simp[sP]) ?_;rintro⟨i,a⟩ hl w j;simp[sP]at hl j|-;obtain⟨b,c⟩:=j;obtain⟨hl,k,l⟩:=hl;by_cases f:a.kind=3
 ·have⟨u,d,g⟩:=im (k f);simp[f119,b,c,f,nj,ee (ff.1 (k f)).1,d,g]
 ·by_cases e:a.kind=23
  ·have⟨u,d,g⟩:=im (l e);simp[f119,b,c,e,nj,ee (ff.1 (l e)).1,d,g]
  ·by_cases q:a.kind=5
   ·by_cases d:a.value=0<;>simp[f119,b,c,q,nj,d]
   ·by_cases p:a.kind=4
    ·simp[f119,b,c,p,nj]
    ·by_cases o:a.kind=22
     ·simp[f119,b,c,o,nj]
     ·by_cases h:a.kind=18
      ·have r:=KM a.obj i.fk.dC 0;by_cases m:hU a.obj i.fk.dC 0=[]
       ·simp[f119,b,c,h,nj,CO,hl,m]
       ·by_cases s:0<=a.value<;>by_cases t:a.value<i.fk.dC.length<;>
         simp[f119,b,c,h,nj,CO,hl,m,s,t,Pt,aO r hl]
      ·by_cases n:a.kind=19
       ·simp[f119,b,c,n,nj,CO,hl]
       ·simp[f119,b,c,f,e,q,p,o,h,n,nj]
def Ph{c:fw}(ht:c.p 119=some sP)(b:dZ)(a:dY)(hl:b.fk.dC.length<=1099511627776)(d:a.kind=3->iR a.obj b.cells.length=true)(e:a.kind=23->iR a.obj b.dU.length=true):rl prog cx c 119 [b.t,a.t]=some (.bool (nj b a)):=gG ht Li (b,a) ⟨hl,d,e⟩
end
def BQ(a:List Int)(b:Int):s7 a b=lH a b:=by
 induction a with
 |nil=>rfl
 |cons d a c=>rw[s7,lH,c]
def BS:∀(b a:List Int),HJ a->HJ (lq a b):=by
 intro b;induction b with
 |nil=>intro a c;exact c
 |cons e b d=>intro a c;exact d _ (by rw[BQ];exact Ci c e)
def BR:∀(c b:List Int) (a:Int),a∈lq b c->a∈b\/a∈c:=by
 intro c;induction c with
 |nil=>intro b a h;exact .inl h
 |cons e c d=>
  intro b a h;rcases d (s7 b e) a h with h|h
  ·rw[BQ]at h;rcases Ch h with h|h
   ·exact .inl h
   ·exact .inr (by simp[h])
  ·exact .inr (by simp[h])
def Kz:∀(a:List Int) (e b:Int),HJ a->(∀c∈a,e<=c/\c<b)->a.length<=(b-e).toNat:=by
 intro a;induction a with
 |nil=>intro e b _ _;simp
 |cons c a i=>
  intro e b d f;unfold HJ at d;rw[db]at d;have j:=i (c+1) b d.2 λh g=>⟨by have:=d.1 h g;omega,(f h (by simp[g])).2⟩;have k:=f c J;simp;omega
def Tn(a:Nat)(b:List Int):Prop:=b.length<=a/\∀c∈b,0<=c/\c<a
theorem Tn.nil(a:Nat):Tn a []:=⟨aw _,λc b=>by simp at b⟩
def Tn.union{a:Nat}{c d:List Int}(f:Tn a c)(g:Tn a d):Tn a (zd c d):=by
 have e:∀b∈zd c d,0<=b/\b<a:=λb i=>by
  rcases BR _ _ _ i with h|h
  ·rcases BR _ _ _ h with h|h
   ·simp at h
   ·exact f.2 b h
  ·exact g.2 b h
 refine⟨?_,e⟩;have:=Kz (zd c d) 0 a (BS _ _ (BS _ _ List.Pairwise.nil)) e;omega
end
noncomputable section
open Go Go.TI Tryz
attribute [-simp] List.map_take List.map_drop List.map_append fj ez TI.d8 Bool.not_or Bool.not_and
attribute [simp] fh eG
section
attribute [-simp] size_cons
abbrev gF(a:List Int):List T:=a.map (T.int .i64)
def ZB(a:List Int):T:=sl (a.map (T.int .i64))
def Tv(e d:Nat)(b c:T)(a:Nat):Prop:=e<=a/\a<d/\dM b≠some a/\dM c≠some a
structure AJ(lo hi:Nat)(h:H)(a b:T)(es:List T)(s:dX):Prop where
 ga:Gr h a 1 (gF s.iF)
 gb:Gr h b 1 es
 el:ir (λe l=>oQ h 1 e (gF l)/\∀c,dM e=some c->Tv lo hi a b c) es s.jS
 ba:∀c,dM a=some c->lo<=c/\c<hi/\dM b≠some c
 bb:∀c,dM b=some c->lo<=c/\c<hi
def AZ(a:dX)(b c:T):T:= .agg [D a.pC,b,c,D a.dI]
structure TSr(h:H)(a b:T)(es:List T)(s:dX):Prop where
 ra:oQ h 1 a (gF s.iF)
 rb:oQ h 1 b es
 el:ir (λe l=>oQ h 1 e (gF l)) es s.jS
 lt:∀e c,(e=a\/e=b\/e∈es)->dM e=some c->c<h.size
structure ICp where
 (s:dX) (a b:T) (es:List T)
def Nf(c:ICp)(e:List T)(d:H):Prop:=e=[AZ c.s c.a c.b]/\TSr d c.a c.b c.es c.s/\gH 0 d/\c.s.iF.length<=1000000/\c.s.jS.length<=1000000/\∀f∈c.s.jS,f.length<=1000000
def Ih(e:ICp)(h:List T)(d:H)(g:T)(a:H):Prop:=∃b c f,g=AZ e.s b c/\AJ d.size a.size a b c f e.s/\Nb d a
structure CpS(s:dX)(a b aN:T)(h h':H)(i:Nat):Prop where
 ex:∃ver c es',m9 h' (h.size+1+1+1) 4 ver [(D s.pC,none),(aN,some (1,gF s.iF)),(c,some (1,es')),(D s.dI,none)]/\es'.length=i/\
  ir (λe l=>oQ h' 1 e (gF l)/\∀k,dM e=some k->h.size+1<k/\k<h'.size/\¬Fp h' (h.size+1+1+1) k) es' (s.jS.take i)
 nb:Nb h h'
 l1:Lb (h.size+1+1+1) h' h.size (Z 4 0 [.agg [D s.pC,a,b,D s.dI]])
 l2:Lb (h.size+1+1+1) h' (h.size+1) (Z 4 0 [.agg [D 0,dw,dw,D 0]])
 lo:∀c,Fp h' (h.size+1+1+1) c->h.size+1<c
def Gs:(jr ICp Nf Ih).Ok prog cx 225:=by
 refine jn (tb:=⟨pt [],ht []⟩) iB gW (iP 262175 [(1,[(1,7),(3,7),(7,9)]),(5,[(1,8)])] func225) (λ_ _=>1000005) (λG A h dn=>by obtain⟨rfl,_⟩:=dn;simp[f225]) ?_;rintro⟨b,A,l,W⟩ _ h ⟨rfl,v,bS,hr,dv,bH⟩ I P;simp only at v hr dv bH;simp[AZ]at P;have bT:=bS.hr;have R:∀t a,(t=A\/t=l\/t∈W)->dM t=some a->a<h.size:=v.lt;have⟨o,C⟩:∃o:H,o=((TI.hr h).cons (Z 4 0 [.agg [D b.pC,A,l,D b.dI]])).cons (Z 4 0 [.agg [D 0,dw,dw,D 0]]):=⟨_,rfl⟩;have eh:gH 0 o:=by subst C;exact(bT.cons _).cons _
 have ce:o.size=h.size+1+1:=by subst C;rfl
 have bN:Nb (TI.hr h) o:=by subst C;exact((Nb.refl bT).cons _).cons _
 have c6:o.get h.size=some (Z 4 0 [.agg [D b.pC,A,l,D b.dI]]):=by subst C;simp
 have c7:o.get (h.size+1)=some (Z 4 0 [.agg [D 0,dw,dw,D 0]]):=by subst C;simp
 have eu:oQ o 1 A (gF b.iF):=v.ra.mono λa d=>(bN.get a (R A a (.inl rfl) d)).trans (gu h a);have⟨c1,m,N,⟨eS,eH,gA⟩,al,r,s⟩:=ly (cx:=cx) eh oh rfl yJ oh rfl rfl J eu.jf (by simp[T.cells]) dp;simp[C]at N;have eP:h.low<=h.size:=bS.low;have U:∀l,l<o.size->em (o.cons (Z 1 0 [])) m l=true:=λl di=>eQ ((r l di).trans (by rw[dO,ao B]));have cb:em (o.cons (Z 1 0 [])) m m.size=true:=iV (kZ _ dp);rw[ce]at U;replace U:=U h.size B;rw[C]at U cb;simp[f225,P,N,gA,U,cb];have bk:m.size=h.size+1+1+1:=B;simp only[bk,aG];generalize bu:T.arr (h.size+1+1) c1 0 b.iF.length false=n;have gN:Gr m n 1 (gF b.iF):=by rw[<-bu];have:=Gr.new gA;rw[ce]at this;simpa using this
 have bl:∀a,dM n=some a->a=h.size+1+1:=λa d=>by rw[<-bu]at d;simp at d;exact d.symm
 have eR:gH 0 m:=s;refine fc b.jS.length B (λG I g=>CpS b A l n h g G/\dy I 1 (.ptr h.size 0 0 0)/\dy I 2 (.ptr (h.size+1) 0 0 0)/\dy I 3 (.ptr (h.size+1+1+1) 0 0 0)/\dy I 4 (D G)) ?_ ?_ B ?_
 ·rintro G I g bC de ⟨⟨⟨ver,a,K,c,bB,V⟩,q,l1,l2,Q⟩,m,ap,av,aA⟩;have L:=c.get;simp at L;have ey:∀x,oQ (g.cons x) 1 l W:=λx=>v.rb.mono λa d=>by have:=R l a (.inr (.inl rfl)) d;rw[dO,ao (by have:=q.ok.sz;omega)];exact q.get a this
  have aE:=v.el.length;have aN:=(show oQ g 1 l W from v.rb.mono λa d=>q.get a (R l a (.inr (.inl rfl)) d)).len (cx:=cx) g FL _ rfl;have⟨u,hl⟩:∃u,b.jS[G]? =some u:=⟨_,ay bC⟩;have dk:=ax hl;have⟨t,bz,b7⟩:=v.el.get hl;have eA:oQ g 1 t (gF u):=b7.mono λa d=>q.get a (R t a (.inr (.inr (ax bz))) d);have⟨p,cp,cL⟩:=(ey (Z 1 0 [])).idx (te:=qd) rfl rfl bz b7.fg.2;have eo:gH 0 g:=c.ok;have⟨bs,O,N,⟨eU,eI,gA⟩,al,r,s⟩:=ly (cx:=cx) eo kO rfl nN kO rfl rfl J eA.jf (by simp[T.cells]) (by have:=bH u dk;simp;omega);have eE:Step (h.size+1+1+1) g O:=(Nb.mk ⟨s.hp,s.low,B⟩ r:Nb g O).step c.lt;have b8:=c.step s λa d=>r a (c.fp a d);have⟨eF,eN,bn,bi⟩:=(b8.gr 2 rfl).Fv (cx:=cx) s RA rfl kO rfl J (x:= .arr g.size bs 0 (gF u).length false) rfl dp;have⟨b6,er,et⟩:=b8.app 2 rfl bi;have⟨S,b9⟩:=et _ rfl;simp at b6 S b9;simp[al]at N bn;have eD:∀a,a<g.size->em (g.cons (Z 1 0 [])) O a=true:=λa d=>eQ ((r a d).trans (by rw[dO,ao B]));have eb:(h.size=g.size)=False:=by have:=l1.lt;simp;omega
  have ec:(h.size+1+1+1=g.size)=False:=by have:=c.lt;simp;omega
  have eC:=eD _ c.lt;have dd:=(r _ c.lt).trans L;simp[m,ap,av,aA,l1.get,l2.get,L,aN,aE,bC,cp,cL,N,al,bn,b6,er,eb,ec,eC,dd,dN,bi.1.fg,bi.1.cells,de];have z:=eE.trans S;have eO:=z.ok.sz;have eM:O.size=g.size+1:=al;refine⟨⟨_,eF,K++[.arr g.size bs 0 u.length false],b9,by simp[bB],?_⟩,?_,l1.step z,l2.step z,λa d=>?_⟩
  ·have ds:b.jS.take (G+1)=b.jS.take G++[u]:=by
    rw[List.take_add_one,hl];rfl
   rw[ds];refine ir.append (V.imp λt u k=>⟨k.1.mono λe i=>?_,λe i=>?_⟩) (.cons ⟨.inr ?_,λe i=>?_⟩ .nil)
   ·have⟨aX,X,M⟩:=k.2 e i;exact z.get e X M
   ·have⟨aX,X,M⟩:=k.2 e i;exact⟨aX,B,λf=>(z.fp e f).elim M λf=>by omega⟩
   ·have E:¬Fp O (h.size+1+1+1) g.size:=λf=>by
     rw[iL (r _ c.lt)]at f;have:=c.fp _ f;omega
    have:=Gr.new ((S.get g.size B E).trans gA);simpa using this
   ·simp at i;subst i;refine⟨by have:=l2.lt;omega,by have:=S.ok.sz;omega,λf=>?_⟩;rcases S.fp _ f with f|f
    ·rw[iL (r _ c.lt)]at f;have:=c.fp _ f;omega
    ·omega
  ·refine⟨⟨z.ok.hp,z.ok.low,by have:=q.ok.sz;omega⟩,λa d=>?_⟩;exact(z.get a (by have:=q.ok.sz;omega) λf=>by have:=Q a f;omega).trans (q.get a d)
  ·rcases z.fp a d with f|f
   ·exact Q a f
   ·have:=l2.lt;omega
 ·rintro I g ⟨⟨⟨ver,a,K,c,bB,V⟩,q,l1,l2,Q⟩,m,ap,av,aA⟩;have L:=c.get;simp at L;have aE:=v.el.length;have aN:=(show oQ g 1 l W from v.rb.mono λa d=>q.get a (R l a (.inr (.inl rfl)) d)).len (cx:=cx) g FL _ rfl;rw[aJ]at V;have c9:∀y,(dT g (h.size+1) y).get (h.size+1)=some y:=λy=>(dF l2.get y _).trans (aq rfl);have ae:=c.ry l2 (Z 4 1 [.agg [D b.pC,n,a,D b.dI]]);simp[m,ap,av,aA,l1.get,l2.get,L,aN,aE,dN,(c.gr 1 rfl).fg,(c.gr 1 rfl).cells,(c.gr 2 rfl).fg,(c.gr 2 rfl).cells,c9];have ca:=ae.step (ae.ok.out h) λa _=>fO h _ a;have dm:∀e,h.size+1<e->(dT g (h.size+1) (Z 4 1 [.agg [D b.pC,n,a,D b.dI]])).get e=g.get e:=λe i=>by rw[dF l2.get,ao B]
  have eL:=c.gr 2 rfl;have a7:(n,some (1,gF b.iF))∈ [((D b.pC:T),(none:aa (Nat×List T))),(n,some (1,gF b.iF)),(a,some (1,K)),(D b.dI,none)]:=J;have a8:(a,some (1,K))∈ [((D b.pC:T),(none:aa (Nat×List T))),(n,some (1,gF b.iF)),(a,some (1,K)),(D b.dI,none)]:=J;refine⟨n,a,K,rfl,⟨ca.gr 1 rfl,ca.gr 2 rfl,V.imp λt u k=>⟨k.1.mono λe i=>?_,λe i=>?_⟩,λe i=>?_,λe i=>?_⟩,⟨⟨(ae.ok.out h).hp,(ae.ok.out h).low,by simp;exact q.ok.sz⟩,λe i=>?_⟩⟩
  ·rw[fO];exact dm e (k.2 e i).1
  ·have⟨aX,X,M⟩:=k.2 e i;exact⟨B,by simpa using X,λk=>M (c.A9 a7 k),λk=>M (c.A9 a8 k)⟩
  ·have:=c.fp e (c.A9 a7 i);have:=Q e (c.A9 a7 i);exact⟨B,by simpa,c.Un 1 2 dt _ _ rfl rfl e i⟩
  ·have:=c.fp e (c.A9 a8 i);have:=Q e (c.A9 a8 i);exact⟨B,by simpa⟩
  ·rw[fO,dF l2.get,ao B];exact q.get e i
 ·have ea:m.low<=h.size+1+1+1:=by have:=s.low;omega
  have ef:Nb h m:=⟨⟨s.hp,s.low,B⟩,λa d=>(r a B).trans ((bN.get a d).trans (gu h a))⟩;obtain⟨eB,c4⟩:=m9.one (i0:=1) (h:=m.cons (Z 4 1 [.agg [D b.pC,n,dw,D b.dI]])) (w:=h.size+1+1+1) (szw:=4) (ver:=1) (F:=[(D b.pC,none),(n,some (1,gF b.iF)),(dw,some (1,[])),(D b.dI,none)]) (s.cons _) (by simp[bk]) (λf E=>by
   simp only[co,cV,or_false]at E;rcases E with rfl|rfl|rfl|rfl
   ·show dM _=none;simp
   ·exact⟨gN.mono λa d=>by rw[bl a d,dO,ao B],show(1:Nat)≠4 by decide⟩
   ·exact⟨Gr.nil _ _,dt⟩
   ·show dM _=none;simp) (λj A P k=>by
   rcases j with _|_|_|_|j<;>simp at P<;>subst P<;>simp at k|-)
  have an:∀a,Fp (m.cons (Z 4 1 [.agg [D b.pC,n,dw,D b.dI]])) (h.size+1+1+1) a->h.size+1<a:=λa d=>by
   rcases c4 a d with k|⟨f,E,k⟩
   ·omega
   ·simp at E;subst E;have:=bl a k;omega
  simp[bk,ea];refine⟨⟨_,_,[],eB,rfl,.nil⟩,ef.cons _,⟨?_,λk=>?_⟩,⟨?_,λk=>?_⟩,an⟩
  ·rw[dO,ao B];exact(r h.size B).trans c6
  ·have:=an _ k;omega
  ·rw[dO,ao B];exact(r (h.size+1) B).trans c7
  ·have:=an _ k;omega
def R8(b c:H)(d:T)(e:List Int):Prop:=oQ c 1 d (gF e)/\Nb b c/\∀a,dM d=some a->b.size<=a
structure IUn where
 (x y:List Int) (u v:T)
def M8(a:IUn)(c:List T)(b:H):Prop:=c=[a.u,a.v]/\oQ b 1 a.u (gF a.x)/\oQ b 1 a.v (gF a.y)/\a.x.length+a.y.length<=10000000/\gH 0 b
def If(a:IUn)(e:List T)(b:H)(d:T)(c:H):Prop:=R8 b c d (zd a.x a.y)
def Pl(b:T)(a:List Int):Prop:=(b= dw/\a=[])\/b=sl (gF a)
def Pl.qA{a:T}{b:List Int}(d:Pl a b)(c:H):qA c a=some (sl (gF b))/\jJ a=true/\a.fg=true:=by
 rcases d with⟨rfl,rfl⟩|rfl<;>simp
def Pl.rd{a:T}{b:List Int}(d:Pl a b)(c:H):oQ c 1 a (gF b)/\dM a=none:=by
 rcases d with⟨rfl,rfl⟩|rfl
 ·exact⟨.inr (Gr.nil _ _),rfl⟩
 ·exact⟨.inl rfl,J⟩
def Gb:(jr IUn M8 If).Ok prog cx 167:=by
 refine jn (tb:=⟨pt [(220,H9)],ht []⟩) iB gW (iP 8390899 [] func167) (λ_ _=>10000005) (λi Q b N=>by obtain⟨rfl,_⟩:=N;simp[f167]) ?_;rintro⟨x,h,L,C⟩ _ b ⟨rfl,G,I,hl,O⟩ c E;simp only at G I hl;simp at E;obtain⟨k,d⟩:=E;have H:oQ (hr b) 1 L (gF x):=G.mono λl _=>gu b l;have K:oQ (hr b) 1 C (gF h):=I.mono λl _=>gu b l;have z:=H.len (cx:=cx) (hr b) qd _ rfl;have A:=K.len (cx:=cx) (hr b) qd _ rfl;rw[aG]at z A;simp[f167,k,d];refine fc x.length B (λa c t=>t=hr b/\dy c 0 L/\dy c 1 C/\dy c 6 (D a)/\∃f,dy c 5 f/\Pl f (lq [] (x.take a))) ?_ ?_ B (by simp[k,d];exact .inl ⟨rfl,rfl⟩)
 ·rintro a c _ j w ⟨rfl,k,d,u,f,g,e⟩;have⟨P,m,n⟩:=H.idx (te:=Eu) rfl rfl (i:=a) (x:= D x[a]) (by simp[j]) rfl;have y:=xf [] (x.take a);simp at y;have⟨q,r,s⟩:=e.qA (hr b);have o:=λ{tb:fw} (ht:tb.p 220=some H9)=>abN ht (lq [] (x.take a)) x[a] B;simp[k,d,g,u,z,j,w,m,n,q,r,s,o,At [] x j];exact .inr rfl
 ·rintro c _ ⟨rfl,k,d,u,f,g,e⟩;rw[aJ]at e;simp[k,d,g,u,z];refine fc h.length B (λa c t=>t=hr b/\dy c 1 C/\dy c 7 (D a)/\∃f,dy c 5 f/\Pl f (lq (lq [] x) (h.take a))) ?_ ?_ B (by simp[d,g];exact e)
  ·rintro a c _ j w ⟨rfl,d,v,f,g,e⟩;have⟨P,m,n⟩:=K.idx (te:=Eu) rfl rfl (i:=a) (x:= D h[a]) (by simp[j]) rfl;have y:=xf (lq [] x) (h.take a);have M:=xf [] x;simp at y M;have⟨q,r,s⟩:=e.qA (hr b);have o:=λ{tb:fw} (ht:tb.p 220=some H9)=>abN ht (lq (lq [] x) (h.take a)) h[a] B;simp[d,g,v,A,j,w,m,n,q,r,s,o,At (lq [] x) h j];exact .inr rfl
  ·rintro c _ ⟨rfl,d,v,f,g,e⟩;rw[aJ]at e;simp[d,g,v,A];have⟨r1,r2⟩:=e.rd (lM b (hr b));exact⟨r1,(Nb.refl O.hr).out,λl F=>by rw[r2]at F;simp at F⟩
def Lk(f:H)(d:Nat->Prop)(e:T)(c:dP):Prop:=∃a,e= .agg [D c.iy,a]/\oQ f 1 a (gF c.ed)/\∀b,dM a=some b->d b
structure AW(lo hi:Nat)(h:H)(c0 c2 c3:T)(es:List T)(S:fa):Prop where
 g0:Gr h c0 2 es
 g2:Gr h c2 1 (S.done.map T.bool)
 g3:Gr h c3 3 (S.dC.map dE.t)
 el:ir (Lk h λc=>lo<=c/\c<hi/\dM c0≠some c/\dM c2≠some c/\dM c3≠some c) es S.dW
 b:∀c,(dM c0=some c\/dM c2=some c\/dM c3=some c)->lo<=c/\c<hi
def MG(a:fa)(b c d:T):T:= .agg [b,D a.tx,c,d]
def DJ(a:fa)(b:List T)(c:H):Prop:=b=[a.t]/\gH 0 c/\a.dW.length<=1000000/\a.done.length<=1000000/\a.dC.length<=1000000/\∀d∈a.dW,d.ed.length<=1000000
def Ii(b:fa)(i:List T)(f:H)(h:T)(a:H):Prop:=∃c d e g,h=MG b c d e/\AW f.size a.size a c d e g b/\Nb f a
structure C8(S:fa)(c2 c3:T)(h h':H)(i:Nat):Prop where
 ex:∃ver c0 es,m9 h' (h.size+1+1+1+1) 4 ver [(c0,some (2,es)),(D S.tx,none),(c2,some (1,S.done.map T.bool)),(c3,some (3,S.dC.map dE.t))]/\es.length=i/\
  ir (Lk h' λk=>h.size+1<k/\k<h'.size/\¬Fp h' (h.size+1+1+1+1) k) es (S.dW.take i)
 nb:Nb h h'
 l1:Lb (h.size+1+1+1+1) h' h.size (Z 4 0 [S.t])
 l2:Lb (h.size+1+1+1+1) h' (h.size+1) (Z 4 0 [.agg [dw,D 0,dw,dw]])
 lo:∀c,Fp h' (h.size+1+1+1+1) c->h.size+1<c
def Gq:(jr fa DJ Ii).Ok prog cx 166:=by
 refine jn (tb:=⟨pt [],ht []⟩) iB gW (iP 1048607 [(1,[(1,5),(5,6),(5,8),(1,9),(5,11),(9,11)]),(5,[(1,15),(3,15),(5,15),(7,15)])] func166) (λ_ _=>1000005) (λz M b eB=>by obtain⟨rfl,_⟩:=eB;simp[f166]) ?_;rintro c _ b ⟨rfl,eL,hl,e4,ht,hr⟩ L G;simp at G;have bS:=eL.hr;have⟨p,F⟩:∃p:H,p=((TI.hr b).cons (Z 4 0 [c.t])).cons (Z 4 0 [.agg [dw,D 0,dw,dw]]):=⟨_,rfl⟩;have eM:gH 0 p:=by subst F;exact(bS.cons _).cons _
 have e0:p.size=b.size+1+1:=by subst F;rfl
 have eI:Nb b p:=by subst F;exact⟨(((Nb.refl bS).cons _).cons _).ok,λa h=>((((Nb.refl bS).cons _).cons _).get a h).trans (gu b a)⟩
 have c1:p.get b.size=some (Z 4 0 [c.t]):=by subst F;simp
 have eh:p.get (b.size+1)=some (Z 4 0 [.agg [dw,D 0,dw,dw]]):=by subst F;simp
 have⟨bs,o,N,⟨e8,e1,gA⟩,bk,m,S⟩:=ly (cx:=cx) eM (x:=sl (c.done.map T.bool)) (xs:=c.done.map T.bool) Fa rfl OV Fa rfl rfl J J (λe eu=>by obtain⟨n,_,rfl⟩:=List.mem_map.1 eu;rfl) dp;have⟨P,k,O,⟨eV,ec,bz⟩,e9,R,okB⟩:=ly (cx:=cx) S (x:=sl (c.dC.map dE.t)) (xs:=c.dC.map dE.t) CJ rfl Bb CJ rfl rfl J J J dp;have ce:o.size=b.size+1+1+1:=B;have an:k.size=b.size+1+1+1+1:=B;have ae:∀n,n<p.size->em (p.cons (Z 1 0 [])) o n=true:=λn W=>eQ ((m n W).trans (by rw[dO,ao B]));have dk:∀n,n<o.size->em (o.cons (Z 3 0 [])) k n=true:=λn W=>eQ ((R n W).trans (by rw[dO,ao B]));have b7:=ae b.size B;have dm:=dk b.size B;have b9:em (p.cons (Z 1 0 [])) o (b.size+1+1+1+1)=true:=iV (kZ _ dp);have dn:em (o.cons (Z 3 0 [])) k (b.size+1+1+1+1)=true:=iV (kZ _ dp);have b8:em (p.cons (Z 1 0 [])) o (b.size+1+1+1)=true:=iV (kZ _ dp);have bB:=(m b.size B).trans c1;have c4:=(R b.size B).trans bB;simp[F]at N;simp[ce]at O;rw[F]at b7 b8 b9;simp[f166,G,N,O,gA,bz,b7,b8,dm,b9,dn,bB,c4,ce,an];have ea:=(show Gr k (.arr (b.size+1+1) bs 0 c.done.length false) 1 (c.done.map T.bool)by
  have:=Gr.new ((R p.size B).trans gA);rw[e0]at this;simpa using this)
 have eb:=(show Gr k (.arr (b.size+1+1+1) P 0 c.dC.length false) 3 (c.dC.map dE.t)by
  have:=Gr.new bz;rw[ce]at this;simpa using this)
 have eH:Nb b k:=⟨⟨okB.hp,okB.low,B⟩,λa h=>(R a B).trans ((m a B).trans (eI.get a h))⟩;have eW:=(R b.size B).trans ((m b.size B).trans c1);have eX:=(R (b.size+1) B).trans ((m (b.size+1) B).trans eh);have eD:k.low<=b.size+1+1+1+1:=by have:=okB.low;omega
 have cp:∀a,dM (.arr (b.size+1+1) bs 0 c.done.length false)=some a->a=b.size+1+1:=λa q=>by simpa using q.symm
 have cL:∀a,dM (.arr (b.size+1+1+1) P 0 c.dC.length false)=some a->a=b.size+1+1+1:=λa q=>by simpa using q.symm
 clear N O ae dk b7 b8 b9 dm dn bB c4 gA bz;generalize T.arr (b.size+1+1) bs 0 c.done.length false=r at*
 generalize T.arr (b.size+1+1+1) P 0 c.dC.length false=s at*
 refine fc c.dW.length B (λz L i=>C8 c r s b i z/\dy L 1 (.ptr b.size 0 0 0)/\dy L 2 (.ptr (b.size+1) 0 0 0)/\dy L 3 (.ptr (b.size+1+1+1+1) 0 0 0)/\dy L 4 (D z)) ?_ ?_ B ?_
 ·rintro z L i aN et ⟨⟨⟨eU,A,C,d,c6,ap⟩,Q,l1,l2,a7⟩,o,k,av,aA⟩;have E:=d.get;simp at E;have⟨l,aE⟩:∃l,c.dW[z]? =some l:=⟨_,ay aN⟩;have e6:=hr l (ax aE);have⟨P,V,N,⟨eV,ec,gA⟩,bk,m,S⟩:=ly (cx:=cx) d.ok (x:=sl (gF l.ed)) (xs:=gF l.ed) kO rfl nN kO rfl rfl J J (by simp[T.cells]) dp;have eR:Step (b.size+1+1+1+1) i V:=(Nb.mk ⟨S.hp,S.low,B⟩ m:Nb i V).step d.lt;have ds:=d.step S λa h=>m a (d.fp a h);have⟨eS,e3,O,cb⟩:=(ds.gr 0 rfl).Fv (cx:=cx) S I7 rfl Fb rfl J (x:= .agg [D l.iy,.arr i.size P 0 (gF l.ed).length false]) rfl dp;have⟨a8,eN,bT⟩:=ds.app 0 rfl cb;have⟨al,dv⟩:=bT _ rfl;simp at a8 al dv;simp[bk]at N O;have ae:∀a,a<i.size->em (i.cons (Z 1 0 [])) V a=true:=λa h=>eQ ((m a h).trans (by rw[dO,ao B]));have eE:(b.size=i.size)=False:=by have:=l1.lt;simp;omega
  have eF:(b.size+1+1+1+1=i.size)=False:=by have:=d.lt;simp;omega
  have eO:=ae _ d.lt;have eP:=ae _ l1.lt;have er:=(m _ d.lt).trans E;have ef:=(m _ l1.lt).trans l1.get;simp[o,k,av,aA,l1.get,l2.get,E,aN];have eA:c.dW[z]=l:=by rw[ay aN]at aE;simpa using aE
  simp[o,k,av,aA,l1.get,l2.get,E,aN,eA,N,bk,O,a8,eN,eE,eF,eO,eP,er,ef,dN,cb.1.fg,cb.1.cells,et];have w:=eR.trans al;have e7:=w.ok.sz;have e2:V.size=i.size+1:=bk;refine⟨⟨_,eS,C++[.agg [D l.iy,.arr i.size P 0 l.ed.length false]],dv,by simp[c6],?_⟩,?_,l1.step w,l2.step w,λa h=>?_⟩
  ·have eC:c.dW.take (z+1)=c.dW.take z++[l]:=by
    rw[List.take_add_one,aE];rfl
   rw[eC];refine ir.append (ap.imp λe l ⟨b6,bl,bn,U⟩=>⟨b6,bl,bn.mono λg j=>?_,λg j=>?_⟩) (.cons ⟨_,rfl,.inr ?_,λg j=>?_⟩ .nil)
   ·have⟨bH,aX,K⟩:=U g j;exact w.get g aX K
   ·have⟨bH,aX,K⟩:=U g j;exact⟨bH,B,λf=>(w.fp g f).elim K λf=>by omega⟩
   ·have I:¬Fp V (b.size+1+1+1+1) i.size:=λf=>by
     rw[iL (m _ d.lt)]at f;have:=d.fp _ f;omega
    have:=Gr.new ((al.get i.size B I).trans gA);simpa using this
   ·simp at j;subst j;refine⟨by have:=l2.lt;omega,by have:=al.ok.sz;omega,λf=>?_⟩;rcases al.fp _ f with f|f
    ·rw[iL (m _ d.lt)]at f;have:=d.fp _ f;omega
    ·omega
  ·refine⟨⟨w.ok.hp,w.ok.low,by have:=Q.ok.sz;omega⟩,λa h=>?_⟩;exact(w.get a (by have:=Q.ok.sz;omega) λf=>by have:=a7 a f;omega).trans (Q.get a h)
  ·rcases w.fp a h with f|f
   ·exact a7 a f
   ·have:=l2.lt;omega
 ·rintro L i ⟨⟨⟨eU,A,C,d,c6,ap⟩,Q,l1,l2,a7⟩,o,k,av,aA⟩;have E:=d.get;simp at E;rw[aJ]at ap;have eo:∀y,(dT i (b.size+1) y).get (b.size+1)=some y:=λy=>(dF l2.get y _).trans (aq rfl);have bi:=d.ry l2 (Z 4 1 [.agg [A,D c.tx,r,s]]);simp[o,k,av,aA,l1.get,l2.get,E,dN,(d.gr 0 rfl).fg,(d.gr 0 rfl).cells,(d.gr 2 rfl).fg,(d.gr 2 rfl).cells,(d.gr 3 rfl).fg,(d.gr 3 rfl).cells,eo];have ca:=bi.step (bi.ok.out b) λa _=>fO b _ a;have c9:(A,some (2,C))∈ [(A,some (2,C)),((D c.tx:T),(none:aa (Nat×List T))),(r,some (1,c.done.map T.bool)),(s,some (3,c.dC.map dE.t))]:=J;have dd:(r,some (1,c.done.map T.bool))∈ [(A,some (2,C)),((D c.tx:T),(none:aa (Nat×List T))),(r,some (1,c.done.map T.bool)),(s,some (3,c.dC.map dE.t))]:=J;have de:(s,some (3,c.dC.map dE.t))∈ [(A,some (2,C)),((D c.tx:T),(none:aa (Nat×List T))),(r,some (1,c.done.map T.bool)),(s,some (3,c.dC.map dE.t))]:=J;refine⟨A,r,s,C,rfl,⟨ca.gr 0 rfl,ca.gr 2 rfl,ca.gr 3 rfl,ap.imp λe l ⟨b6,bl,bn,U⟩=>⟨b6,bl,bn.mono λg j=>?_,λg j=>?_⟩,λg j=>?_⟩,⟨⟨(bi.ok.out b).hp,(bi.ok.out b).low,by simp;exact Q.ok.sz⟩,λg j=>?_⟩⟩
  ·rw[fO,dF l2.get,ao (by have:=(U g j).1;omega)]
  ·have⟨bH,aX,K⟩:=U g j;exact⟨B,by simpa using aX,λq=>K (d.A9 c9 q),λq=>K (d.A9 dd q),λq=>K (d.A9 de q)⟩
  ·have I:Fp i (b.size+1+1+1+1) g:=by
    rcases j with q|q|q
    ·exact d.A9 c9 q
    ·exact d.A9 dd q
    ·exact d.A9 de q
   have:=d.fp g I;have:=a7 g I;exact⟨B,by simpa⟩
  ·rw[fO,dF l2.get,ao B];exact Q.get g j
 ·have bN:∀(u:Nat) (M:T×aa (Nat×List T)) a,[(T.Y [] false,some (2,[])),((D c.tx:T),(none:aa (Nat×List T))),(r,some (1,c.done.map T.bool)),(s,some (3,c.dC.map dE.t))][u]? =some M->dM M.1=some a->a=b.size+u:=λu M a G q=>by
   rcases u with _|_|_|_|u<;>simp at G<;>subst G
   ·simp at q
   ·simp at q
   ·have:=cp a q;omega
   ·have:=cL a q;omega
  have di:m9 (k.cons (Z 4 1 [.agg [dw,D c.tx,r,s]])) (b.size+1+1+1+1) 4 1 [(T.Y [] false,some (2,[])),(D c.tx,none),(r,some (1,c.done.map T.bool)),(s,some (3,c.dC.map dE.t))]:=by
   refine⟨okB.cons _,by simp[an],λf I=>?_,λu g e5 M n G W a a8 bT=>?_⟩
   ·simp only[co,cV,or_false]at I;rcases I with rfl|rfl|rfl|rfl
    ·exact⟨Gr.nil _ _,show(2:Nat)≠4 by decide⟩
    ·show dM _=none;simp
    ·exact⟨ea.mono λa h=>by have:=cp a h;rw[dO,ao (by rw[an];omega)],show(1:Nat)≠4 by decide⟩
    ·exact⟨eb.mono λa h=>by have:=cL a h;rw[dO,ao (by rw[an];omega)],show(3:Nat)≠4 by decide⟩
   ·have:=bN u M a G a8;have:=bN g n a W bT;omega
  have bu:∀a,Fp (k.cons (Z 4 1 [.agg [dw,D c.tx,r,s]])) (b.size+1+1+1+1) a->b.size+1<a:=λa h=>by
   rcases h with q|⟨x,bC,v,c7,q⟩
   ·omega
   ·rw[di.get]at bC;simp only[ar]at bC;subst bC;simp only[eY,cM,dc,cj,T.cells]at c7;obtain⟨f,ey,rfl⟩:=List.mem_map.1 c7;have⟨u,X⟩:=cH ey;have j:=bN u f a X q;rcases u with _|_|u
    ·simp at X;subst X;simp at q
    ·simp at X;subst X;simp at q
    ·omega
  simp[an,eD];refine⟨⟨_,_,[],di,rfl,.nil⟩,eH.cons _,⟨?_,λq=>?_⟩,⟨?_,λq=>?_⟩,bu⟩
  ·rw[dO,ao B];exact eW
  ·have:=bu _ q;omega
  ·rw[dO,ao B];exact eX
  ·have:=bu _ q;omega
structure Ac(h0 h':H)(v:T)(l:List Int):Prop where
 nb:Nb h0 h'
 g:Gr h' v 1 (gF l)
 lo:∀c,dM v=some c->h0.size<=c
def Ac.start{a:H}(b:gH 0 a):Ac a a dw []:=⟨Nb.refl b,Gr.nil _ _,λd c=>by simp at c⟩
def Ac.mQ{m h:H}{n:T}{j:List Int}(a:Ac m h n j)(l:Int)(s:j.length<=10000000):∃d c,iN cx (h.cons (Z 1 0 [D l])) 25 25 n (.arr h.size 0 0 1 false)=some (.val d c)/\Ac m c d (j++[l]):=by
 have⟨d,c,e,o,p,r,k⟩:=a.g.mQ (cx:=cx) (f:=T.int .i64) ⟨a.nb.ok.hp,a.nb.ok.low,aw _⟩ kO rfl nN rfl J (λ_=>rfl) l dp;have:=a.nb.ok.sz;refine⟨d,c,e,⟨⟨k.hp,k.low,aO a.nb.ok.sz k.sz⟩,λb i=>(p b B λq=>by have:=a.lo b q;omega).trans (a.nb.get b i)⟩,o,λb i=>?_⟩;rcases r b i with q|q
 ·exact a.lo b q
 ·omega
def Ac.Gv{a c:H}{l:T}{i:List Int}{h:H}(e:Ac h c l i)(j:Nb a h):R8 a (lM a c) l i:=by
 have d:=j.trans e.nb;have k:gH 0 c:=⟨d.ok.hp,d.ok.low,aw _⟩;have:=j.ok.sz;exact⟨.inr (e.g.out a),⟨⟨(k.out a).hp,(k.out a).low,d.ok.sz⟩,λb f=>(fO a c b).trans (d.get b f)⟩,λb f=>by have:=e.lo b f;omega⟩
structure IWt where
 (S:fa) (c0 c2 c3:T) (c:Int)
def TO(a:IWt)(d:List T)(b:H):Prop:=d=[MG a.S a.c0 a.c2 a.c3,D a.c]/\Gr b a.c3 3 (a.S.dC.map dE.t)/\a.S.dC.length<=1000000/\gH 0 b
def Ng(a:IWt)(f:List T)(b:H)(e:T)(d:H):Prop:=R8 b d e (hU a.c a.S.dC 0)
def HR(c:Int)(b:List dE)(a:Nat)(d:a<b.length):hU c (b.drop a) a=if b[a].iv=3/\b[a].cond=c then(a:Int)::hU c (b.drop (a+1)) (a+1)else hU c (b.drop (a+1)) (a+1):=by
 rw[aH d,hU]
def BY:(jr IWt TO Ng).Ok prog cx 165:=by
 refine jn (tb:=⟨pt [],ht []⟩) iB gW (iP 1073743991 [] func165) (λ_ _=>1000005) (λi e a S=>by obtain⟨rfl,_⟩:=S;simp[f165]) ?_;rintro⟨b,k,l,d,j⟩ _ a ⟨rfl,o,hl,z⟩ m F;simp only at o hl;simp[MG]at F;obtain⟨O,c⟩:=F;have U:=z.hr.cons (Z 4 0 [.agg [k,D b.tx,l,d]]);have N:Gr ((hr a).cons (Z 4 0 [.agg [k,D b.tx,l,d]])) d 3 (b.dC.map dE.t):=o.mono λf s=>by
  have⟨_,_,_,_,A,_⟩:=o.box s;rw[dO,ao (by have:=H.ej A;simp;omega),gu]
 have l3:∀f,dM d=some f->f<a.size:=λf s=>by have⟨_,_,_,_,A,_⟩:=o.box s;exact H.ej A
 have w:=λc:H=>o.len (cx:=cx) c KQ _ rfl;rw[aG]at w;simp[f165,O,c];have C:((hr a).cons (Z 4 0 [.agg [k,D b.tx,l,d]])).get a.size=some (Z 4 0 [.agg [k,D b.tx,l,d]]):=J;have T:Nb a ((hr a).cons (Z 4 0 [.agg [k,D b.tx,l,d]])):=⟨((Nb.refl z.hr).cons _).ok,λj R=>(((Nb.refl z.hr).cons _).get j R).trans (gu a j)⟩;have aA:((hr a).cons (Z 4 0 [.agg [k,D b.tx,l,d]])).size=a.size+1:=rfl;generalize al:(hr a).cons (Z 4 0 [.agg [k,D b.tx,l,d]])=P at*
 refine fc b.dC.length B (λh m h'=>∃u n,Ac P h' u n/\n.length<=h/\n++hU j (b.dC.drop h) h=hU j b.dC 0/\dy m 1 (D j)/\dy m 2 (.ptr a.size 0 0 0)/\dy m 5 u/\dy m 6 (D h)) ?_ ?_ B ⟨_,_,Ac.start U,aw _,rfl,by simp[c]⟩
 ·rintro h m h' x G ⟨u,n,e,Q,g,c,p,q,r⟩;have v:=(e.nb.get a.size B).trans C;have⟨f,X,ap,Y,av,W,K,L,E⟩:=(N.mono (h':=h') λf s=>e.nb.get f (by have:=l3 f s;omega)).IG (te:=Al) rfl (i:=h) (by simpa using x);simp at E;rw[HR j _ _ x]at g;simp[c,p,q,r,w,x,v,K,L,E];generalize b.dC[h]=an at*
  refine dV (λy=>?_) (λy=>?_)
  ·rw[aq (by simpa using y)]at g;have⟨V,ae,M,I⟩:=e.mQ (h:Int) B;simp[c,p,q,r,M,G];exact⟨V,_,I,dp,by simpa using g,rfl⟩
  ·rw[ao (by simpa using y)]at g;simp[c,p,q,r,G];exact⟨u,n,e,B,g,rfl⟩
 ·rintro m h' ⟨u,n,e,Q,g,c,p,q,r⟩;have v:=(e.nb.get a.size B).trans C;simp[hU]at g;subst g;simp[c,p,q,r,w,v];exact e.Gv T
structure IWo where
 (l:List Int) (v:T) (n:Int)
def TP(a:IWo)(d:List T)(b:H):Prop:=d=[a.v,D a.n]/\oQ b 1 a.v (gF a.l)/\(∀c,dM a.v=some c->c<b.size)/\a.l.length<=1000000/\gH 0 b
def Nh(a:IWo)(f:List T)(b:H)(d:T)(c:H):Prop:=R8 b c d (a.l.filter λe=> !decide (e=a.n))
def In:(jr IWo TP Nh).Ok prog cx 168:=by
 refine jn (tb:=⟨pt [],ht []⟩) iB gW (iP 263283 [] func168) (λ_ _=>1000005) (λi f h G=>by obtain⟨rfl,_⟩:=G;simp[f168]) ?_;rintro⟨m,L,r⟩ _ h ⟨rfl,t,z,hl,s⟩ e w;simp only at t z hl;simp at w;obtain⟨b,a⟩:=w;have I:Nb h (hr h):=⟨⟨s.hr.hp,s.hr.low,au _⟩,λj _=>gu h j⟩;have o:=λa:H=>t.len (cx:=cx) a qd _ rfl;rw[aG]at o;simp[f168,b,a];refine fc m.length B (λd e h'=>∃n g,Ac (hr h) h' n g/\g.length<=d/\g++(m.drop d).filter (λx=> !decide (x=r))=m.filter (λx=> !decide (x=r))/\dy e 0 L/\dy e 1 (D r)/\dy e 5 n/\dy e 6 (D d)) ?_ ?_ B ⟨_,_,Ac.start s.hr,aw _,rfl,by simp[b,a]⟩
 ·rintro d e h' p y ⟨n,g,f,E,c,b,a,k,l⟩;have⟨N,u,v⟩:=(t.mono (h':=h') λj F=>(f.nb.get j (by simpa using z j F)).trans (gu h j)).idx (te:=Eu) rfl rfl (i:=d) (x:= D m[d]) (by simp[p]) rfl;rw[aH p,List.filter_cons]at c;simp[b,a,k,l,o,p,u,v];generalize m[d]=x at*
  refine dV (λq=>?_) (λq=>?_)
  ·rw[aq (by simpa using q)]at c;have⟨K,M,C,A⟩:=f.mQ x B;simp[b,a,k,l,u,v,C,y];exact⟨K,_,A,dp,by simpa using c,rfl⟩
  ·rw[ao (by simpa using q)]at c;simp[b,a,k,l,y];exact⟨n,g,f,B,c,rfl⟩
 ·rintro e h' ⟨n,g,f,E,c,b,a,k,l⟩;simp at c;subst c;simp[b,a,k,l,o];exact f.Gv I
end
section
def nC{d:Type}{c:List d}{b:Nat}{a:d}(h:c[b]? =some a)(f:d->d):c.modify b f=c.set b (f a):=by
 apply cN;intro g;rw[List.getElem?_modify,bU];by_cases e:b=g
 ·subst e;have hi:b<c.length:=by
   rcases aM b c.length with k|k
   ·exact k
   ·rw[bL k]at h;simp at h
  rw[h];simp[hi]
 ·rw[ao e];simp[e]
section
variable {lo hi hi':Nat}{h h':H}{c0 c2 c3:T}{es:List T}{S:fa}
def AW.mono(d:AW lo hi h c0 c2 c3 es S)(l:hi<=hi')(f:∀a,lo<=a->a<hi->h'.get a=h.get a):AW lo hi' h' c0 c2 c3 es S:=
 ⟨d.g0.mono λa c=>f a (d.b a (.inl c)).1 (d.b a (.inl c)).2,d.g2.mono λa c=>f a (d.b a (.inr (.inl c))).1 (d.b a (.inr (.inl c))).2,d.g3.mono λa c=>f a (d.b a (.inr (.inr c))).1 (d.b a (.inr (.inr c))).2,
   d.el.imp λk m ⟨j,g,i,e⟩=>⟨j,g,i.mono λa c=>f a (e a c).1 (e a c).2.1,λa c=>⟨(e a c).1,by have:=(e a c).2.1;omega,(e a c).2.2⟩⟩,λa c=>⟨(d.b a c).1,by have:=(d.b a c).2;omega⟩⟩
def AW.tx(a:AW lo hi h c0 c2 c3 es S)(c:Int):AW lo hi h c0 c2 c3 es {S with tx:=c}:=⟨a.g0,a.g2,a.g3,a.el,a.b⟩
def AW.oD(d:AW lo hi h c0 c2 c3 es S){e l n:Nat}{m:Bool}{o:List T}(r:dM c3=some e)(g:h.get e=some ⟨3,l,n,m,false,o⟩)(i:Nat)(k:dE):
 AW lo hi (dT h e ⟨3,l,n+1,m,false,o.set i k.t⟩) c0 c2 c3 es {S with dC:=S.dC.set i k}:=by
 have p:∀a,a≠e->(dT h e ⟨3,l,n+1,m,false,o.set i k.t⟩).get a=h.get a:=λa c=>by rw[dF g,ao c]
 refine⟨d.g0.mono λa c=>p a λf=>?_,d.g2.mono λa c=>p a λf=>?_,?_,d.el.imp λf w ⟨v,s,u,q⟩=>⟨v,s,u.mono λa c=>p a λf=>(q a c).2.2.2.2 (by rw[f];exact r),q⟩,d.b⟩
 ·subst f;have⟨_,_,_,_,j,_⟩:=d.g0.box c;rw[g]at j;simp at j
 ·subst f;have⟨_,_,_,_,j,_⟩:=d.g2.box c;rw[g]at j;simp at j
 ·have:=d.g3.setAt r g i k.t (h':=dT h e ⟨3,l,n+1,m,false,o.set i k.t⟩) (by rw[dF g,aq rfl]);simpa[bO]using this
def AW.Yv(d:AW lo hi h c0 c2 c3 es S){e l n:Nat}{m:Bool}{o:List T}(r:dM c2=some e)(g:h.get e=some ⟨1,l,n,m,false,o⟩)(i:Nat)(k:Bool):
 AW lo hi (dT h e ⟨1,l,n+1,m,false,o.set i (.bool k)⟩) c0 c2 c3 es {S with done:=S.done.set i k}:=by
 have p:∀a,a≠e->(dT h e ⟨1,l,n+1,m,false,o.set i (.bool k)⟩).get a=h.get a:=λa c=>by rw[dF g,ao c]
 refine⟨d.g0.mono λa c=>p a λf=>?_,?_,d.g3.mono λa c=>p a λf=>?_,d.el.imp λf v ⟨u,s,t,q⟩=>⟨u,s,t.mono λa c=>p a λf=>(q a c).2.2.2.1 (by rw[f];exact r),q⟩,d.b⟩
 ·subst f;have⟨_,_,_,_,j,_⟩:=d.g0.box c;rw[g]at j;simp at j
 ·have:=d.g2.setAt r g i (.bool k) (h':=dT h e ⟨1,l,n+1,m,false,o.set i (.bool k)⟩) (by rw[dF g,aq rfl]);simpa[bO]using this
 ·subst f;have⟨_,_,_,_,j,_⟩:=d.g3.box c;rw[g]at j;simp at j
def AW.ot(e:AW lo hi h c0 c2 c3 es S){g m p:Nat}{n:Bool}{q:List T}(o:dM c0=some g)(i:h.get g=some ⟨2,m,p,n,false,q⟩)(f:Nat){rv:T}{k:dP}(hr:oQ h 1 rv (gF k.ed))(s:∀a,dM rv=some a->lo<=a/\a<hi/\dM c0≠some a/\dM c2≠some a/\dM c3≠some a):
 AW lo hi (dT h g ⟨2,m,p+1,n,false,q.set f (.agg [D k.iy,rv])⟩) c0 c2 c3 (es.set f (.agg [D k.iy,rv])) {S with dW:=S.dW.set f k}:=by
 have l:∀a,a≠g->(dT h g ⟨2,m,p+1,n,false,q.set f (.agg [D k.iy,rv])⟩).get a=h.get a:=λa c=>by rw[dF i,ao c]
 refine⟨e.g0.setAt o i f _ (by rw[dF i,aq rfl]),e.g2.mono λa c=>l a λd=>?_,e.g3.mono λa c=>l a λd=>?_,e.el.set f ⟨rv,rfl,hr.mono λa c=>l a λd=>(s a c).2.2.1 (by rw[d];exact o),s⟩ λd v ⟨rv,t,u,r⟩=>⟨rv,t,u.mono λa c=>l a λd=>(r a c).2.2.1 (by rw[d];exact o),r⟩,e.b⟩
 ·subst d;have⟨_,_,_,_,j,_⟩:=e.g2.box c;rw[i]at j;simp at j
 ·subst d;have⟨_,_,_,_,j,_⟩:=e.g3.box c;rw[i]at j;simp at j
end
def AW.fz{lo hi:Nat}{h:H}{c0 c2 c3:T}{es:List T}{S:fa}(a:AW lo hi h c0 c2 c3 es S):TI.fz h c0=some (sl (S.dW.map dP.t))/\TI.fz h c2=some (sl (S.done.map T.bool))/\TI.fz h c3=some (sl (S.dC.map dE.t)):=by
 refine⟨?_,a.g2.fz J,a.g3.fz J⟩;exact a.g0.IS (d:=4) B (a.el.VB (f:=dP.t) λg j ⟨l,b,c,i⟩=>by
  subst b;exact .inr (.inr ⟨_,_,rfl,.cons (fZ ..) (.cons (c.ft (d:=1) (V:=λ_=>True) (λm e=>by obtain⟨k,_,rfl⟩:=List.mem_map.1 e;simp) λ_ _=>trivial) .nil),rfl⟩))
def HS{c:List Int}(h:HJ c)(d:Int):zd c [d]=lH c d:=by
 have e:∀(a b:List Int),lq b a=a.foldl lH b:=by
  intro a;induction a with
  |nil=>intro b;rfl
  |cons g a f=>intro b;show lq (s7 b g) a=_;rw[f,BQ];rfl
 unfold zd;rw[e,e];exact KO h d
end
section
attribute [-simp] size_cons
section
def sJ{e d:Int}:∀{b:List dE} {c:Nat},d∈hU e b c->∃a:Nat,d=((c+a:Nat):Int)/\a<b.length:=by
 intro b;induction b with
 |nil=>intro c h;simp[hU]at h
 |cons k b j=>
  intro c h;rw[hU]at h;have f:d∈hU e b (c+1)->∃a:Nat,d=((c+a:Nat):Int)/\a<(k::b).length:=λh=>by
   have⟨a,g,i⟩:=j h;exact⟨a+1,by rw[g];simp;omega,by simpa using i⟩
  split at h
  ·rcases List.mem_cons.1 h with rfl|h
   ·exact⟨0,J,J⟩
   ·exact f h
  ·exact f h
def Br(c:Int):∀(a:List dE) (b:Nat),(hU c a b).length<=a.length:=by
 intro a;induction a with
 |nil=>intro b;simp[hU]
 |cons e a d=>intro b;rw[hU];have:=d (b+1);split<;>simp<;>omega
def LD(T:List dE)(b:List Int):List dE:=b.foldl (λT (a:Int)=>T.modify a.toNat (ke 4)) T
def Q7(g:Int):∀(c b:List dE),LD (b++c) (hU g c b.length)=b++c.map λe=>if e.iv=3/\e.cond=g then ke 4 e else e:=by
 intro c;induction c with
 |nil=>intro b;simp[hU,LD]
 |cons d c i=>
  intro b;rw[hU];split
  ·rename_i f;unfold LD;rw[List.foldl_cons];have j:(b++d::c).modify ((b.length:Int).toNat) (ke 4)=(b++[ke 4 d])++c:=by
    rw[nC (a:=d) J];simp[List.set_append]
   rw[j];have:=i (b++[ke 4 d]);simp only[bh,aY,cK]at this;unfold LD at this;rw[this];simp[f]
  ·rename_i f;have:=i (b++[d]);simp only[bh,aY,cK]at this;simp only[cO,List.singleton_append]at this;rw[this];simp[f]
def Q6(a:List Int):∀T,(LD T a).length=T.length:=by
 induction a with
 |nil=>intro T;rfl
 |cons c a b=>intro T;show(LD (T.modify c.toNat (ke 4)) a).length=_;rw[b];simp
def Om(T:List dE)(b:List Int){a:Nat}(c:a<b.length):LD T (b.take (a+1))=(LD T (b.take a)).modify b[a].toNat (ke 4):=by
 rw[aT c];unfold LD;rw[List.foldl_append];rfl
def A4{c:Type}(b:List c)(a:Nat)(d e:c->c):(b.modify a d).modify a e=b.modify a λi=>e (d i):=by
 apply cN;intro f;simp only[List.getElem?_modify];by_cases g:a=f
 ·simp[g];cases b[f]? <;>rfl
 ·simp[g]
structure Bs(c0 c2 c3:T)(h:H)(es:List T)(S:fa)(ver:Nat):Prop where
 sy:AW 3 h.size h c0 c2 c3 es S
 ok:gH 0 h
 g1:h.get 1=some (Z 4 ver [.agg [c0,D S.tx,c2,c3]])
 g2:h.get 2=some (Z 4 0 [.agg [dw,D 0,dw,dw]])
section
variable {c0 c2 c3:T}{h h':H}{es:List T}{S:fa}{ver:Nat}
def Bs.nb(b:Bs c0 c2 c3 h es S ver)(a:Nb h h'):Bs c0 c2 c3 h' es S ver:=
 ⟨b.sy.mono a.ok.sz λc _ d=>a.get c d,⟨a.ok.hp,a.ok.low,aw _⟩,(a.get _ (H.ej b.g1)).trans b.g1,(a.get _ (H.ej b.g2)).trans b.g2⟩
theorem Bs.put(d:Bs c0 c2 c3 h es S ver){a:Nat}{x:iI}(f:h.get a=some x)(j:3<=a){g:iI}{e:List T}{b:fa}(i:AW 3 h.size (dT h a g) c0 c2 c3 e b)(ht:b.tx=S.tx):Bs c0 c2 c3 (dT h a g) e b ver:=
 ⟨by rw[fI];exact i,d.ok.put _ _,by rw[dF f,ao B,ht];exact d.g1,by rw[dF f,ao B];exact d.g2⟩
def Bs.oD(c:Bs c0 c2 c3 h es S ver){a e k:Nat}{f:Bool}{l:List T}(g:dM c3=some a)(j:h.get a=some ⟨3,e,k,f,false,l⟩){i:Nat}{me:dE}(m:S.dC[i]? =some me)(d:dE->dE):
 Bs c0 c2 c3 (dT h a ⟨3,e,k+1,f,false,l.set i (d me).t⟩) es {S with dC:=S.dC.modify i d} ver:=by
 have:=c.put j (c.sy.b a (.inr (.inr g))).1 (c.sy.oD g j i (d me)) rfl;rw[nC m];exact this
def Bs.ot(g:Bs c0 c2 c3 h es S ver){d i m:Nat}{j:Bool}{n:List T}(k:dM c0=some d)(l:h.get d=some ⟨2,i,m,j,false,n⟩){c:Nat}{f:dP}(hl:S.dW[c]? =some f)(e:dP->dP){rv:T}(hr:oQ h 1 rv (gF (e f).ed))(o:∀a,dM rv=some a->3<=a/\a<h.size/\dM c0≠some a/\dM c2≠some a/\dM c3≠some a):
 Bs c0 c2 c3 (dT h d ⟨2,i,m+1,j,false,n.set c (.agg [D (e f).iy,rv])⟩) (es.set c (.agg [D (e f).iy,rv])) {S with dW:=S.dW.modify c e} ver:=by
 have:=g.put l (g.sy.b d (.inl k)).1 (g.sy.ot k l c hr o) rfl;rw[nC hl];exact this
def Bs.Yv(c:Bs c0 c2 c3 h es S ver){a f k:Nat}{g:Bool}{l:List T}(i:dM c2=some a)(j:h.get a=some ⟨1,f,k,g,false,l⟩)(d:Nat)(e:Bool):Bs c0 c2 c3 (dT h a ⟨1,f,k+1,g,false,l.set d (.bool e)⟩) es {S with done:=S.done.set d e} ver:=
 c.put j (c.sy.b a (.inr (.inl i))).1 (c.sy.Yv i j d e) rfl
def Bs.tx(a:Bs c0 c2 c3 h es S ver)(b:Int):Bs c0 c2 c3 (dT h 1 (Z 4 (ver+1) [.agg [c0,D b,c2,c3]])) es {S with tx:=b} (ver+1):=
 ⟨by rw[fI];exact(a.sy.tx b).mono (au _) λc d _=>by rw[dF a.g1,ao B],a.ok.put _ _,by rw[dF a.g1,aq rfl],by rw[dF a.g1,ao B];exact a.g2⟩
end
structure ApJ(w:dR)(s:fa)(t k o wk:Int)(c0 c2 c3:T)(h:H)(n:Int):Prop where
 ex:∃S es ver,ei w s t k o wk=(S,n)/\Bs c0 c2 c3 h es S ver
def UD:fa:=⟨[],0,[],[]⟩
def xG(a:dR×fa×Int×Int×Int×Int):T:=if jw a.1 a.2.1 a.2.2.1 a.2.2.2.1 a.2.2.2.2.1=true then .tuple [(ei a.1 a.2.1 a.2.2.1 a.2.2.2.1 a.2.2.2.2.1 a.2.2.2.2.2).1.t,D (ei a.1 a.2.1 a.2.2.1 a.2.2.2.1 a.2.2.2.2.1 a.2.2.2.2.2).2,.bool true]else .tuple [UD.t,D 0,.bool false]
def MM(a:fa):Prop:=a.dW.length<=1000000/\a.done.length<=1000000/\a.dC.length<=1000000/\(∀b∈a.dW,b.ed.length<=1000000)/\a.El
def sg:ge:=⟨dR×fa×Int×Int×Int×Int,λa=>[a.1.t,a.2.1.t,D a.2.2.1,D a.2.2.2.1,D a.2.2.2.2.1,D a.2.2.2.2.2],λa=>a.1.fV.length<=1099511627776/\MM a.2.1,xG,λa b h=>by
 obtain⟨a1,a2,a3,a4,a5,a6⟩:=a;obtain⟨c,d,e,f,g,i⟩:=b;simp at h;rw[dR.inj h.1,fa.inj h.2.1,h.2.2.1,h.2.2.2.1,h.2.2.2.2.1,h.2.2.2.2.2]⟩
def D0:sg.Ok prog cx 120:=by
 refine Bp (tb:=⟨pt [(117,ny),(80,De)],ht [(166,jr fa DJ Ii),(167,jr IUn M8 If),(168,jr IWo TP Nh),(165,jr IWt TO Ng)]⟩) iB gW (iP 829180818552508142370930303613581122868418894632663968482586879 [(17,[(1,11)]),(19,[(1,10)]),(30,[(4,9)]),(33,[(4,8)])] func120) (λ_=>1000005) (by simp[sg]) nl9 ?_;rintro⟨q,a,d,k,e,r⟩ ⟨dv,hl,eR,ht,hr,eN⟩ G eM;simp at dv hl eR ht hr eN;simp[sg,xG]at eM|-;obtain⟨eL,bn,y,dn,w,c4⟩:=eM;have e1:a.sm:=⟨B,B,B,λj u=>by have:=hr j u;omega⟩;cases ec:jw q a d k e with
 |false=>
  simp[f120,eL,bn,y,dn,w,c4,xD,dv,e1,ec];rfl
 |true=>
  have ef:=ec;unfold jw at ef;simp only[az]at ef;obtain⟨⟨⟨eS,eV⟩,cb⟩,_⟩:=ef;have⟨e7,gM,e8⟩:=nL eS;simp[f120,eL,bn,y,dn,w,c4,xD,dv,e1,ec];generalize bu:((hE.cons _).cons _).cons _=bT;have gE:gH 0 bT:=by rw[<-bu];exact⟨J,J,J⟩
  have gZ:bT.size=3:=by rw[<-bu];rfl
  have fe:bT.get 0=some (Z 6 0 [q.t]):=by rw[<-bu];simp
  have fi:bT.get 1=some (Z 4 0 [a.t]):=by rw[<-bu];simp
  have fl:bT.get 2=some (Z 4 0 [.agg [dw,D 0,dw,dw]]):=by rw[<-bu];simp
  clear bu;refine iD Gq J a ⟨rfl,gE,hl,eR,ht,hr⟩ ?_;rintro _ c6 ⟨c0,c2,c3,es,rfl,an,bC⟩;rw[gZ]at an;have hg:=bC.ok.sz;have gB:gH 0 c6:=⟨bC.ok.hp,bC.ok.low,aw _⟩;have bS:=(bC.get 1 B).trans fi;have fs:=(bC.get 0 B).trans fe;have fv:=(bC.get 2 B).trans fl;have c:Bs c0 c2 c3 (dT c6 1 (Z 4 1 [.agg [c0,D a.tx,c2,c3]])) es a 1:=⟨by rw[fI];exact an.mono (au _) λo u _=>by rw[dF bS,ao B],gB.put _ _,by rw[dF bS,aq rfl],by rw[dF bS,ao B];exact fv⟩;have eI:(dT c6 1 (Z 4 1 [.agg [c0,D a.tx,c2,c3]])).get 0=some (Z 6 0 [q.t]):=by rw[dF bS,ao B];exact fs
  simp[MG,bS,an.g0.fg,an.g0.cells,an.g2.fg,an.g2.cells,an.g3.fg,an.g3.cells,dn];generalize dT c6 1 _=bs at*
  have eW:=eV;rw[<-e8]at eW;have⟨me,O,hb⟩:=im eW;have bH:=ee (ff.1 eV).1;refine lf (λG aE=>∃n,ApJ q a d k e r c0 c2 c3 aE n/\dy G 7 (.ptr 1 0 0 0)/\dy G 12 (.ptr 2 0 0 0)/\dy G 15 (D n)) (λaN=>?_) (λaN=>?_) ?_
  ·have aN:k=1:=by simpa using aN
   subst aN
   ·have⟨I,ep,a8,ex,bi,A,l,s,m⟩:=c.sy.g3.at (x:=me.t) (i:=d.toNat) (by simp[O]);rw[aG]at A m;subst A;simp[y,w,c.g1,bH,l,s,m];exact⟨_,_,_,show ei q a d 1 e r=(a.oD d (ke 2),0)by simp[ei],c.oD rfl l O (ke 2)⟩
  ·have aN:¬k=1:=by simpa using aN
   rcases qv cb with g|rfl|rfl|rfl|rfl|rfl|rfl|rfl|rfl|g|g|g|g
   ·exact absurd g aN
   ·have⟨I,ep,a8,ex,bi,A,l,s,m⟩:=c.sy.g3.at (x:=me.t) (i:=d.toNat) (by simp[O]);rw[aG]at A m;subst A;simp[y,w,c.g1,bH,l,s,m];exact⟨_,_,_,show ei q a d 2 e r=(a.oD d (ke 5),0)by simp[ei],c.oD rfl l O (ke 5)⟩
   ·simp;exact⟨_,_,_,show ei q a d 3 e r=(a,0)by simp[ei],c⟩
   ·simp;exact⟨_,_,_,show ei q a d 4 e r=(a,0)by simp[ei],c⟩
   ·simp;exact⟨_,_,_,show ei q a d 5 e r=(a,0)by simp[ei],c⟩
   ·simp[y,c.g1,dN];exact⟨_,_,_,show ei q a d 12 e r=({a with tx:=d},0)by simp[ei],c.tx d⟩
   ·simp[y,c.g1,dN];exact⟨_,_,_,show ei q a d 13 e r=({a with tx:=-1},0)by simp[ei],c.tx (-1)⟩
   ·have⟨I,ep,a8,ex,bi,A,l,s,m⟩:=c.sy.g3.at (x:=me.t) (i:=d.toNat) (by simp[O]);rw[aG]at A m;subst A;simp[y,w,c.g1,bH,l,s,m];exact⟨_,_,_,show ei q a d 14 e r=(a.oD d (λx=>{x with atomic:=true}),0)by simp[ei],c.oD rfl l O (λx=>{x with atomic:=true})⟩
   ·have⟨I,ep,a8,ex,bi,A,l,s,m⟩:=c.sy.g3.at (x:=me.t) (i:=d.toNat) (by simp[O]);rw[aG]at A m;subst A;simp[y,w,c.g1,bH,l,s,m];exact⟨_,_,_,show ei q a d 15 e r=(a.oD d (λx=>{x with atomic:=false}),0)by simp[ei],c.oD rfl l O (λx=>{x with atomic:=false})⟩
   ·have M:=kr cb g;rw[<-e7]at M;have⟨L,Q,gm⟩:=im M;have K:=ee (ff.1 M).1;obtain⟨F,eb,rv,rfl,al,a7⟩:=c.sy.el.get Q;obtain⟨I,ep,a8,ex,bi,rfl,l,s,m⟩:=c.sy.g0.at eb;have b6:=H.ej l;have ha:=(c.sy.b I (.inl rfl)).1;have cp:(1=bs.size)=False:=by have:=H.ej c.g1;simp;omega
    have e5:(I=bs.size)=False:=dp;have gw:=hr L (ax Q);have e4:∀o,dM rv=some o->o<bs.size:=λo u=>(a7 o u).2.1;rcases g with rfl|rfl|rfl|rfl|rfl|rfl
    ·simp[y,w,c.g1,K,l,s,m];exact⟨_,_,_,show ei q a d 6 e r=(a.ot e (λj=>{j with iy:=d}),0)by simp[ei],c.ot rfl l Q (λj=>{j with iy:=d}) al a7⟩
    ·simp[y,w,c.g1,K,l,s,m];exact⟨_,_,_,show ei q a d 7 e r=(a.ot e (λj=>{j with iy:=-1}),0)by simp[ei],c.ot rfl l Q (λj=>{j with iy:=-1}) al a7⟩
    ·simp[y,w,c.g1,K,l,s,m,cp,e5];refine lO Gb J ⟨L.ed,[d],rv,.arr bs.size 0 0 1 false⟩ ⟨rfl,al.mono λo u=>by rw[dO,ao (by have:=e4 o u;omega)],.inr (Gr.new (ep:=0) (ver:=0) (ex:=true) (es:=[D d]) J),dp,c.ok.cons _⟩ ?_;rintro U aA ⟨v,W,eC⟩;have e6:Nb bs aA:=((Nb.refl c.ok).cons (Z 1 0 [D d])).trans W;have P:=c.nb e6;have b8:=(e6.get I b6).trans l;have eE:=eQ (W.get 1 (by have:=H.ej c.g1;simp;omega));simp only at v;rw[HS (eN L (ax Q))]at v;have eD:∀o,dM U=some o->o<aA.size:=λo u=>by
      rcases v with rfl|g
      ·simp at u
      ·have⟨_,_,_,_,k,_⟩:=g.box u;exact H.ej k
     simp[y,w,P.g1,K,b8,s,m,eE,dN,v.fg.1,v.fg.2];exact⟨_,_,_,show ei q a d 8 e r=(a.ot e (λj=>{j with ed:=lH j.ed d}),0)by simp[ei],P.ot rfl b8 Q (λj=>{j with ed:=lH j.ed d}) v λo u=>by
      have e3:=eC o u;simp at e3;have eu:=eD o u;exact⟨B,eu,λF=>by simp at F;omega,λF=>by have:=(c.sy.b o (.inr (.inl F))).2;omega,λF=>by have:=(c.sy.b o (.inr (.inr F))).2;omega⟩⟩
    ·simp[y,w,c.g1,K,l,s,m,cp,e5];refine lO In J ⟨L.ed,rv,d⟩ ⟨rfl,al,e4,gw,c.ok⟩ ?_;rintro U aA ⟨v,W,eC⟩;have P:=c.nb W;have b8:=(W.get I b6).trans l;have eE:=eQ (W.get 1 (H.ej c.g1));simp only at v;have eD:∀o,dM U=some o->o<aA.size:=λo u=>by
      rcases v with rfl|g
      ·simp at u
      ·have⟨_,_,_,_,k,_⟩:=g.box u;exact H.ej k
     simp[y,w,P.g1,K,b8,s,m,eE,dN,v.fg.1,v.fg.2];exact⟨_,_,_,show ei q a d 9 e r=(a.ot e (λj=>{j with ed:=j.ed.filter λU=> !decide (U=d)}),0)by simp[ei],P.ot rfl b8 Q (λj=>{j with ed:=j.ed.filter λU=> !decide (U=d)}) v λo u=>by
      have e3:=eC o u;have eu:=eD o u;exact⟨B,eu,λF=>by simp at F;omega,λF=>by have:=(c.sy.b o (.inr (.inl F))).2;omega,λF=>by have:=(c.sy.b o (.inr (.inr F))).2;omega⟩⟩
    ·simp[y,w,c.g1,K,l,s,m];exact⟨_,_,_,show ei q a d 10 e r=(a.ot e (λj=>{j with iy:=d}),0)by simp[ei],c.ot rfl l Q (λj=>{j with iy:=d}) al a7⟩
    ·simp[y,w,c.g1,K,l,s,m];exact⟨_,_,_,show ei q a d 11 e r=(a.ot e (λj=>{j with iy:=-1}),0)by simp[ei],c.ot rfl l Q (λj=>{j with iy:=-1}) al a7⟩
   ·have M:=mG cb g;have⟨o,ea,eP⟩:=im M;have ca:=qY eS ea;rw[<-e7]at ca;have⟨L,Q,gm⟩:=im ca;have K:=ee (ff.1 M).1;have fb:=ee (ff.1 ca).1;obtain⟨F,eb,rv,rfl,al,a7⟩:=c.sy.el.get Q;obtain⟨I,ep,a8,ex,bi,rfl,l,s,m⟩:=c.sy.g0.at eb;have⟨bk,eH,gQ,fE,dd,A,bz,c9,eh⟩:=c.sy.g3.at (x:=me.t) (i:=d.toNat) (by simp[O]);rw[aG]at A eh;subst A;have b6:=H.ej l;have eO:=H.ej bz;have cp:(1=I)=False:=by have:=(c.sy.b I (.inl rfl)).1;simp;omega
    have ey:(1=bk)=False:=by have:=(c.sy.b bk (.inr (.inr rfl))).1;simp;omega
    have eA:(bk=I)=False:=by simp;rintro rfl;rw[l]at bz;simp at bz
    have e2:∀x,(dd.set d.toNat x)[d.toNat]? =some x:=λx=>by
     have:d.toNat<dd.length:=by
      rcases aM d.toNat dd.length with k|k
      ·exact k
      ·rw[bL k]at c9;simp at c9
     rw[bU];simp[this]
    have b9:∀E,(dT bs I E).get bk=some ⟨3,eH,gQ,fE,false,dd⟩:=λE=>by rw[dF l,ao (by simpa using eA)];exact bz
    have e9:=λE z=>mE (b9 E) (show 1≠bk by simpa using ey) z;have eF:=λ(f:dP->dP) (u:(f L).ed=L.ed)=>c.ot rfl l Q f (rv:=rv) (by rw[u];exact al) a7;rcases g with rfl|rfl|rfl|rfl
    ·have di:=(eF (λj=>{j with iy:=-1}) rfl).oD rfl (b9 _) O (λx=>{x with iv:=3});have bN:=di.oD (me:=(λx=>{x with iv:=3}) me) rfl ((dF (b9 _) _ _).trans (aq rfl)) (i:=d.toNat) (by simp[O]) (λx=>{x with cond:=e});simp only[A4,List.set_set]at bN;simp[y,w,eI,c.g1,K,fb,bH,ea,l,bz,s,c9,m,eh,mn,c.ok.hp,b6,eO,cp,ey,eA,e2,e9];exact⟨_,_,_,show ei q a d 16 e r=((a.ot o.j2 λj=>{j with iy:=-1}).oD d (λx=>{x with iv:=3,cond:=e}),0)by simp[ei,eP],bN⟩
    ·have di:=(eF (λj=>{j with iy:=d}) rfl).oD rfl (b9 _) O (λx=>{x with iv:=2});have bN:=di.oD (me:=(λx=>{x with iv:=2}) me) rfl ((dF (b9 _) _ _).trans (aq rfl)) (i:=d.toNat) (by simp[O]) (λx=>{x with cond:=0});simp only[A4,List.set_set]at bN;simp[y,w,eI,c.g1,K,fb,bH,ea,l,bz,s,c9,m,eh,mn,c.ok.hp,b6,eO,cp,ey,eA,e2,e9];exact⟨_,_,_,show ei q a d 17 e r=((a.ot o.j2 λj=>{j with iy:=d}).oD d (λx=>{x with iv:=2,cond:=0}),0)by simp[ei,eP],bN⟩
    ·simp[w,c.g1];refine iD BY J ⟨a,_,_,_,e⟩ ⟨rfl,c.sy.g3,ht,c.ok⟩ ?_;rintro U aA ⟨v,W,_⟩;simp only at v;have P:=c.nb W;have er:=Br e a.dC 0;have ae:=λbn:H=>v.len (cx:=cx) bn qd _ rfl;rw[aG]at ae;simp[ae];refine dV (λaX=>?_) (λaX=>?_)
     ·have ce:0<(hU e a.dC 0).length:=by simpa using aX
      have⟨gI,cL,c1⟩:=v.idx (te:=Eu) rfl rfl (i:=0) (x:= D (hU e a.dC 0)[0]) (by simp[ce]) rfl;have gg:=v.qA (f:=T.int .i64) (λ_=>by simp) (λ_=>rfl);have fA:=λ{tb:fw} (ht:tb.p 80=some De)=>Pt ht (hU e a.dC 0) r B;have eU:(hU e a.dC 0).headD (-1)=(hU e a.dC 0)[0]:=by
       clear cL c1 v ae er;generalize hU e a.dC 0=j at*
       cases j with
       |nil=>simp at ce
       |cons x j=>simp
      simp[w,c4,cL,c1,gg,fA];have R:∃C:Nat,xO e r a.dC=C/\C<a.dC.length:=by
       have ca:xO e r a.dC∈hU e a.dC 0:=by
        unfold xO;split
        ·assumption
        ·rw[eU];exact aD ce
       have⟨C,F,X⟩:=sJ ca;exact⟨C,by simpa using F,X⟩
      obtain⟨C,eo,X⟩:=R;refine lf (λG aE=>aE=aA/\dy G 17 (D C)/\dy G 7 (.ptr 1 0 0 0)/\dy G 12 (.ptr 2 0 0 0)) (λaX=>?_) (λaX=>?_) ?_
      ·simp[c4];rw[<-eo];unfold xO;rw[aq (by simpa using aX)]
      ·simp;rw[<-eo,<-eU];unfold xO;rw[ao (by simpa using aX)]
      ·rintro G _ ⟨rfl,gk,av,ap⟩;have⟨V,R⟩:∃V,a.dC[C]? =some V:=⟨_,ay X⟩;have⟨fo,fB,gS,fL,gV,b7,bB,et,gv⟩:=P.sy.g3.at (x:=V.t) (i:=C) (by simp[R]);simp at b7;obtain⟨rfl,rfl⟩:=b7;simp[av,ap,gk,P.g1,bB,et,X];exact⟨_,_,_,show ei q a d 18 e r=(a.oD C (ke 4),(C:Int))by
        rw[<-eo];unfold ei;simp;intro u;rw[u]at ce;simp at ce,P.oD rfl bB R (ke 4)⟩
     ·have gz:hU e a.dC 0=[]:=by
       have:¬0<(hU e a.dC 0).length:=by simpa using aX
       exact aS B
      simp;exact⟨_,_,_,show ei q a d 18 e r=(a,-1)by simp[ei,gz],P⟩
    ·simp[w,c.g1];refine iD BY J ⟨a,_,_,_,e⟩ ⟨rfl,c.sy.g3,ht,c.ok⟩ ?_;rintro U aA ⟨v,W,gP⟩;simp only at v;have P:=c.nb W;have er:=Br e a.dC 0;have ae:=λbn:H=>v.len (cx:=cx) bn qd _ rfl;rw[aG]at ae;have e0:∀x∈hU e a.dC 0,∃C:Nat,x=C/\C<a.dC.length:=λx s=>by
      have⟨C,F,X⟩:=sJ s;exact⟨C,by simpa using F,X⟩
     have ds:=Q7 e a.dC [];simp only[List.nil_append,cK]at ds;have c7:∃j,j=hU e a.dC 0:=⟨_,rfl⟩;obtain⟨j,c7⟩:=c7;rw[<-c7]at v er e0 ds ae;simp[ae];refine fc j.length B (λi G h'=>Bs (.arr I ep 0 es.length false) c2 (.arr bk eH 0 a.dC.length false) h' es {a with dC:=LD a.dC (j.take i)} 1/\oQ h' 1 U (gF j)/\dy G 7 (.ptr 1 0 0 0)/\dy G 12 (.ptr 2 0 0 0)/\dy G 18 U/\dy G 19 (D i)) ?_ ?_ B ⟨by simpa[LD]using P,v,J⟩
     ·rintro i G h' m gn ⟨bl,eB,av,ap,dk,dm⟩;have⟨C,X,eX⟩:=e0 j[i] (aD m);have⟨V,R⟩:∃V,(LD a.dC (j.take i))[C]? =some V:=⟨_,ay (by rw[Q6];exact eX)⟩;have⟨fo,fB,gS,fL,gV,b7,bB,et,gv⟩:=bl.sy.g3.at (x:=V.t) (i:=C) (by simp[R]);simp at b7;obtain⟨rfl,rfl,_⟩:=b7;have⟨gI,cL,c1⟩:=eB.idx (te:=Eu) rfl rfl (i:=i) (x:= D C) (by simp[m,X]) rfl;have fm:=bl.oD rfl bB R (ke 4);simp[av,ap,dk,dm,ae,m,cL,c1,bl.g1,bB,et,eX,gn];refine⟨?_,eB.mono λo u=>by rw[dF bB,ao (by have:=gP o u;omega)]⟩;rw[Om a.dC j m,X];exact fm
     ·rintro G h' ⟨bl,eB,av,ap,dk,dm⟩;rw[aJ]at bl;simp[av,ap,dk,dm,ae];exact⟨_,_,_,show ei q a d 19 e r=({a with dC:=LD a.dC j},(j.length:Int))by rw[ds];simp[ei,<-c7],bl⟩
   ·have M:=we cb g;rw[<-e8]at M;have⟨V,R,gy⟩:=im M;have K:=ee (ff.1 M).1;rcases g with rfl|rfl
    ·have⟨I,ep,a8,ex,bi,A,l,s,m⟩:=c.sy.g3.at (x:=V.t) (i:=e.toNat) (by simp[R]);rw[aG]at A m;subst A;simp[y,w,c.g1,K,l,s,m];exact⟨_,_,_,show ei q a d 20 e r=(a.oD e (ke 1),0)by simp[ei],c.oD rfl l R (ke 1)⟩
    ·simp;exact⟨_,_,_,show ei q a d 21 e r=(a,0)by simp[ei],c⟩
   ·have M:=qx cb g;rw[<-gM]at M;have⟨V,R,gy⟩:=im M;have K:=ee (ff.1 M).1;rcases g with rfl|rfl
    ·have⟨I,ep,a8,ex,bi,A,l,s,m⟩:=c.sy.g2.at (x:= .bool V) (i:=e.toNat) (by simp[R]);rw[aG]at A m;subst A;simp[y,w,c.g1,K,l,s,m];exact⟨_,_,_,show ei q a d 22 e r=({a with done:=a.done.set e.toNat true},0)by simp[ei],c.Yv rfl l e.toNat true⟩
    ·simp;exact⟨_,_,_,show ei q a d 23 e r=(a,0)by simp[ei],c⟩
  ·rintro G aE ⟨n,⟨S,fC,ver,gp,N⟩,av,ap,gj⟩;have⟨hc,hd,hf⟩:=N.sy.fz;have gi:∀E,(dT aE 2 E).get 2=some E:=λE=>(dF N.g2 E _).trans (aq rfl);have de:∀E,AW 3 aE.size (dT aE 2 E) c0 c2 c3 fC S:=λE=>N.sy.mono (au _) λo u _=>by rw[dF N.g2,ao B]
   have fS:=λE=>(de E).fz.1;have fY:=λE=>(de E).fz.2.1;have gd:=λE=>(de E).fz.2.2;simp[av,ap,gj,N.g1,N.g2,gi,dN,N.sy.g0.fg,N.sy.g0.cells,N.sy.g2.fg,N.sy.g2.cells,N.sy.g3.fg,N.sy.g3.cells,fS,fY,gd,gp,N.ok.hp]
end
def lK:ge:=⟨dR×dZ×dY,λa=>[a.1.t,a.2.1.t,a.2.2.t],λa=>a.1.fV.length<=1000000/\qp 100000 a.2.1/\a.2.2.mo.length<=1000000/\a.2.2.uA.length<=1000000,λa=> .tuple [(jx a.1 a.2.1 a.2.2).1.t,.bool (jx a.1 a.2.1 a.2.2).2],λa c b=>by
 simp at b;rw[dR.inj b.1,dZ.inj b.2.1,dY.inj b.2.2]⟩
def kV{c:dR}{b:dZ}{a:dY}(d:oK c b a=false):jx c b a=(sa,false):=by unfold jx;rw[d];rfl
def Px{g:fw}(ht:g.p 120=some sg)(b:dR)(a:fa)(e c d f:Int)(i:b.fV.length<=1099511627776)(k:MM a)(j:jw b a e c d=true):rl prog cx g 120 [b.t,a.t,D e,D c,D d,D f]=some (.tuple [(ei b a e c d f).1.t,D (ei b a e c d f).2,.bool true]):=by
 have:=gG ht D0 (b,a,e,c,d,f) ⟨i,k⟩;have h:sg.R (b,a,e,c,d,f)= .tuple [(ei b a e c d f).1.t,D (ei b a e c d f).2,.bool true]:=by show xG _=_;unfold xG;rw[aq j]
 rw[h]at this;exact this
def NF:lK.Ok prog cx 67:=by
 refine fR [(69,vU),(116,F0),(117,ny),(118,uS),(119,sP),(120,sg)] (iP 6434029281764525972148499167221040878727244754944919609542655 [(15,[(3,4),(3,6),(3,8),(7,8),(3,10),(7,10),(3,13),(7,13),(11,13)])] func67) (λ_=>100) (by simp[lK]) ?_;rintro⟨e,d,b⟩ ⟨fL,ap,gd,gg⟩ j eM;simp at fL ap gd gg;simp[lK]at eM|-;obtain⟨fB,fC,fE⟩:=eM;have⟨l1,l2,l3,l4,l5,l6⟩:=ap.l;have gm:d.fk.sm:=⟨B,B,B,λf q=>by have:=ap.r f q;omega⟩;have eO:e.fV.length<=1099511627776:=B;have gn:MM d.fk:=⟨B,B,B,λf q=>by have:=ap.r f q;omega,ap.a⟩;have h:oK e d b=(mT e d&&iR b.dQ e.dC.length&&(decide (1<=b.kind)&&decide (b.kind<=23))&&jw e d.fk b.dQ b.kind b.obj&&rH e b&&Ke e b&&J9 b&&xl (d.count.getD b.dQ.toNat 0) none b.mo&&xl (d.count.getD b.dQ.toNat 0) none b.uA&&nj d b):=rfl;simp[f67,fB,fC,fE,Fk,Ps,xD,eO,gm];have ae:T.agg [sl [],D 0,sl [],sl [],sl [],sl [],sl []]=sa.t:=rfl;refine dV (λg=>?_) (λg=>?_)
 ·have:oK e d b=false:=by
   rw[h];simp only[bM,bF,aL]at g;rcases g with(((q|q)|q)|q)|q
   ·rw[q];simp
   ·rw[q];simp
   ·rw[aK (show¬1<=b.kind by omega)];simp
   ·rw[aK (show¬b.kind<=23 by omega)];simp
   ·rw[q];simp
  simp[kV this];exact ae
 simp only[bE,bP,aZ]at g;obtain⟨⟨⟨⟨eE,eF⟩,gV⟩,gZ⟩,bT⟩:=g;rw[eE,eF,bT,aR (show 1<=b.kind by omega),aR (show b.kind<=23 by omega)]at h;simp only[bD]at h;have b6:=bT;unfold jw at b6;simp only[az]at b6;obtain⟨⟨⟨hb,_⟩,w⟩,_⟩:=b6;have b8:=eE;unfold mT at b8;simp only[az,aL]at b8;obtain⟨⟨⟨_,eI⟩,eL⟩,fA⟩:=b8;have a8:=eF;rw[<-fA]at a8;have⟨G,I,ha⟩:=im a8;have gQ:=ee (ff.1 a8).1;have gi:d.count.getD b.dQ.toNat 0=G:=by simp[List.getD,I]
 rw[gi]at h;simp;generalize Q:(((hE.cons _).cons _).cons _).cons _=E;have U:gH 0 E:=by rw[<-Q];exact⟨J,J,J⟩
 have e8:E.size=4:=by rw[<-Q];rfl
 have bn:E.get 0=some (Z 6 0 [e.t]):=by rw[<-Q];simp
 have bC:E.get 1=some (Z 7 0 [d.t]):=by rw[<-Q];simp
 have M:E.get 2=some (Z 7 0 [b.t]):=by rw[<-Q];simp
 have N:E.get 3=some (Z 7 0 [.agg [dw,D 0,dw,dw,dw,dw,dw]]):=by rw[<-Q];simp
 clear Q;have al:∀y,(dT E 3 y).get 3=some y:=λy=>(dF N y _).trans (aq rfl);refine lf (λj A=>E=A/\rH e b=true/\dy j 3 (.ptr 0 0 0 0)/\dy j 4 (.ptr 1 0 0 0)/\dy j 5 (.ptr 2 0 0 0)/\dy j 6 (.ptr 3 0 0 0)) (λg=>?_) (λg=>?_) ?_
 ·have an:b.kind=1\/b.kind=2:=by simpa using g
  simp[M];refine dV (λi=>?_) (λi=>?_)
  ·have:oK e d b=false:=by
    rw[h];unfold rH;rw[aq an,aK (by simpa using i)];simp
   simp[N,al,dN,kV this,U.hp];exact ae
  ·simp;unfold rH;rw[aq an,aR (by simpa using i)]
 ·have an:¬(b.kind=1\/b.kind=2):=by simpa using g
  cases L:iR b.iQ e.io.length with
  |false=>
   have:oK e d b=false:=by
    rw[h];unfold rH;rw[ao an,qn L];simp
   simp[bn,M,Ps,L,N,al,dN,kV this,U.hp];exact ae
  |true=>
   have⟨x,gv,eU⟩:=im L;simp[bn,M,Ps,L,gv,ee (ff.1 L).1];refine dV (λi=>?_) (λi=>?_)
   ·have:oK e d b=false:=by
     rw[h];unfold rH;rw[ao an,eU];simp only;rw[aK (by simpa using i)];simp
    simp[N,al,dN,kV this,U.hp];exact ae
   ·simp;unfold rH;rw[ao an,eU];simp only;rw[aR (by simpa using i)]
 ·rintro j _ ⟨rfl,gk,m,n,o,s⟩;rw[gk,bD]at h;have gz:((decide (b.kind=3)||decide (b.kind=4))=false/\True/\True/\(b.kind=3\/b.kind=4->∃v,e.cells[b.obj.toNat]? =some v)/\∃x:fW,x=x/\True)\/((decide (b.kind=3)||decide (b.kind=4))=true/\jM b.obj=some b.obj.toNat/\iR b.obj e.cells.length=true/\True/\∃v,e.cells[b.obj.toNat]? =some v/\sizeOf e b.obj=v.size):=by
   cases q:(decide (b.kind=3)||decide (b.kind=4))
   ·simp at q;exact .inl ⟨rfl,trivial,trivial,λk=>(k.elim q.1 q.2).elim,default,rfl,trivial⟩
   ·simp at q;have L:iR b.obj e.cells.length=true:=by
     unfold ju at w;rw[ao B,aq q]at w;exact w
    have⟨v,fS,fY⟩:=im L;exact .inr ⟨rfl,ee (ff.1 L).1,L,trivial,v,fS,by simp[sizeOf,fY]⟩
  have bu:Ke e b=(decide (b.mo=[])||decide (b.kind=5)||((decide (b.kind=3)||decide (b.kind=4))&& !decide (sizeOf e b.obj=0))):=rfl;have cp:decide (0<b.mo.length)= !decide (b.mo=[]):=by cases b.mo<;>simp
  have cL:decide (0<b.uA.length)= !decide (b.uA=[]):=by cases b.uA<;>simp
  have c1:J9 b=(decide (b.uA=[])||decide (b.kind=4)||decide (b.kind=22)):=rfl;have fb:b.kind=3->iR b.obj d.cells.length=true:=λk=>by
   rw[eI];unfold ju at w;rw[ao B,aq B]at w;exact w
  have e9:b.kind=23->iR b.obj d.dU.length=true:=λk=>by
   rw[eL];exact qx w (.inr k)
  rcases gz with⟨c9,eV,gw,gy,fe,eW,dm⟩|⟨c9,eV,gw,gy,fe,eW,dm⟩
  all_goals
   simp[m,n,o,s,bn,M,c9,eV,eW];rw[c9]at bu;refine dV (λg=>?_) (λg=>?_)
   ·have:oK e d b=false:=by
     rw[h,bu];simp[cp]at g;simp[g,dm]
    simp[m,n,o,s,N,al,dN,kV this,U.hp];exact ae
   have eP:Ke e b=true:=by
    rw[bu];cases V:decide (b.mo=[])<;>cases z:decide (b.kind=5)<;>simp[cp,V,z,dm]at g|-
    all_goals exact g
   rw[eP,bD]at h;simp[m,n,o,s,M];refine dV (λi=>?_) (λi=>?_)
   ·have:oK e d b=false:=by
     rw[h,c1];simp[cL]at i;simp[i]
    simp[m,n,o,s,N,al,dN,kV this,U.hp];exact ae
   have eR:J9 b=true:=by
    rw[c1];cases V:decide (b.uA=[])<;>cases z:decide (b.kind=4)<;>simp[cL,V,z]at i|-
    all_goals exact i
   rw[eR,bD]at h;have fv:=λ{eb:fw} (ht:eb.p 119=some sP)=>Ph ht d b B fb e9;simp[m,n,o,s,bC,M,gQ,I,Pm,fv,show b.mo.length<=1099511627776 by omega,show b.uA.length<=1099511627776 by omega];refine dV (λbz=>?_) (λbz=>?_)
   ·have:oK e d b=false:=by
     rw[h];cases V:xl G none b.mo<;>cases z:xl G none b.uA<;>cases ea:nj d b<;>simp[V,z,ea]at bz|-
    simp[m,n,o,s,N,al,dN,kV this,U.hp];exact ae
   have gj:oK e d b=true:=by
    rw[h];cases V:xl G none b.mo<;>cases z:xl G none b.uA<;>cases ea:nj d b<;>simp[V,z,ea]at bz|-
   clear g i bz h bu c1 cp cL eP eR;have gp:jx e d b=(jO e d b,true):=by unfold jx;rw[aq gj]
   rw[gp];have⟨fm,bk,bH,⟨hc,hg,gA⟩,er,av,e2⟩:=ly (cx:=cx) (sz:=1) U (x:=sl (d.cells.map (T.int .i64))) (xs:=d.cells.map (T.int .i64)) oh rfl yJ oh rfl rfl J J (by simp[T.cells]) dp;have⟨fo,bl,bN,⟨hd,hh,eH⟩,et,S,okB⟩:=ly (cx:=cx) (sz:=1) e2 (x:=sl (d.dU.map (T.int .i64))) (xs:=d.dU.map (T.int .i64)) oh rfl yJ oh rfl rfl J J (by simp[T.cells]) dp;have⟨fs,X,bS,⟨hf,hj,gC⟩,eu,O,e3⟩:=ly (cx:=cx) (sz:=1) okB (x:=sl (d.count.map (T.int .i64))) (xs:=d.count.map (T.int .i64)) kO rfl nN kO rfl rfl J J (by simp[T.cells]) dp;replace er:bk.size=5:=B;replace et:bl.size=6:=B;replace eu:X.size=7:=B;simp only[e8,er,et,aG]at bH bN bS gA eH gC;have e5:em (E.cons (Z 1 0 [])) bk 1=true:=eQ ((av 1 B).trans (by rw[dO,ao B]));have e6:em (bk.cons (Z 1 0 [])) bl 1=true:=eQ ((S 1 B).trans (by rw[dO,ao B]));have e7:em (bl.cons (Z 1 0 [])) X 1=true:=eQ ((O 1 B).trans (by rw[dO,ao B]));have eA:=(av 1 B).trans bC;have eB:=(S 1 B).trans eA;have eC:=(O 1 B).trans eB;have e1:∀u,5<=u->em (E.cons (Z 1 0 [])) bk u=true:=λu eN=>iV (kZ _ dp);have eX:∀u,6<=u->em (bk.cons (Z 1 0 [])) bl u=true:=λu eN=>iV (kZ _ dp);have e0:∀u,7<=u->em (bl.cons (Z 1 0 [])) X u=true:=λu eN=>iV (kZ _ dp);have gE:X.low<=7:=by have:=e3.low;omega
   simp[m,n,o,s,e8,er,et,eu,bC,M,bH,bN,bS,eA,eB,eC,e5,e6,e7,e1,eX,e0,gE];have gI:=(O 4 B).trans ((S 4 B).trans gA);have gM:=(O 5 B).trans eH;have fi:=(O 0 B).trans ((S 0 B).trans ((av 0 B).trans bn));have eD:=(O 2 B).trans ((S 2 B).trans ((av 2 B).trans M));have fl:=(O 3 B).trans ((S 3 B).trans ((av 3 B).trans N));have cb:=λ{eb:fw} (ht:eb.p 120=some sg)=>Px ht e d.fk b.dQ b.kind b.obj (kT b) eO gn bT;have gS:=ap.c G (ax I);clear bH bN bS av S O e5 e6 e7 e1 eX e0 e2 okB;generalize aX:X.cons _=aN;have gP:gH 0 aN:=by rw[<-aX];exact e3.cons _
   have ey:aN.size=8:=by rw[<-aX];show X.size+1=8;omega
   have P:∀v,v<7->aN.get v=X.get v:=λv q=>by rw[<-aX,dO,ao B]
   have c7:=(P 0 B).trans fi;have dd:=(P 1 B).trans eC;have bB:=(P 2 B).trans eD;have de:=(P 3 B).trans fl;have di:=(P 4 B).trans gI;have dk:=(P 5 B).trans gM;have dn:=(P 6 B).trans gC;have ds:aN.get 7=some (Z 7 1 [.agg [dw,D 0,dw,dw,.arr 4 fm 0 d.cells.length false,.arr 5 fo 0 d.dU.length false,.arr 6 fs 0 d.count.length false]]):=by rw[<-aX,dO,aq eu.symm]
   clear aX;simp[eD];refine lf (λj A=>aN=A/\dy j 3 (.ptr 0 0 0 0)/\dy j 4 (.ptr 1 0 0 0)/\dy j 5 (.ptr 2 0 0 0)/\dy j 6 (.ptr 3 0 0 0)/\dy j 9 (.ptr 7 0 0 0)/\dy j 10 (D (kT b))) (λg=>?_) (λg=>?_) ?_
   ·simp[m,n,o,s,bB];unfold kT;rw[aq (by simpa using g)]
   ·simp[m,n,o,s];unfold kT;rw[ao (by simpa using g)]
   rintro j _ ⟨rfl,m,n,o,s,ca,b9⟩;have dv:binop .add (D G) (D 1)=some (D (G+1)):=ij B B;have eh:=ee (ff.1 a8).1;have a7:=(ff.1 a8).2;have eS:jO e d b=⟨(ei e d.fk b.dQ b.kind b.obj (kT b)).1,if b.kind=4 then d.cells.set b.obj.toNat b.value else d.cells,if b.kind=22 then d.dU.set b.obj.toNat b.value else d.dU,d.count.modify b.dQ.toNat (· +1)⟩:=rfl;rw[nC I]at eS;have gB:(b.kind=4/\iR b.obj d.cells.length=true)\/(b.kind=22/\iR b.obj d.dU.length=true)\/(¬b.kind=4/\¬b.kind=22):=by
    by_cases q:b.kind=4
    ·refine .inl ⟨q,?_⟩;rw[eI];unfold ju at w;rw[ao B,aq B]at w;exact w
    ·by_cases z:b.kind=22
     ·refine .inr (.inl ⟨z,?_⟩);rw[eL];exact qx w (.inl z)
     ·exact .inr (.inr ⟨q,z⟩)
   have c6:=gP.hp;have bs:∀(f:List Int) (A:H),fG (wn A 11) (f.map (T.int .i64))=some (f.map (T.int .i64)):=λf A=>Gy _ _ _ λ_=>rfl;have b7:∀(f:List Int) (A:H) (R:Nat) (W:Int),fG (wn A 11) ((f.map (T.int .i64)).set R (D W))=some ((f.map (T.int .i64)).set R (D W)):=λf A R W=>by rw[<-bO];exact bs _ A
   have ec:∀(f:List Int),(f.map (T.int .i64)).take f.length=f.map (T.int .i64):=λf=>by rw[bA J]
   have ef:∀(f:List Int) (R:Nat) (W:T),((f.map (T.int .i64)).set R W).take f.length=(f.map (T.int .i64)).set R W:=λf R W=>by rw[bA J]
   have ce:d.count[b.dQ.toNat]'a7=G:=by rw[ay a7]at I;simpa using I
   have fin:∀(C F K:List Int),T.agg [sl ((ei e d.fk b.dQ b.kind b.obj (kT b)).1.dW.map dP.t),D (ei e d.fk b.dQ b.kind b.obj (kT b)).1.tx,sl ((ei e d.fk b.dQ b.kind b.obj (kT b)).1.done.map T.bool),sl ((ei e d.fk b.dQ b.kind b.obj (kT b)).1.dC.map dE.t),sl (C.map (T.int .i64)),sl (F.map (T.int .i64)),sl (K.map (T.int .i64))]=dZ.t ⟨(ei e d.fk b.dQ b.kind b.obj (kT b)).1,C,F,K⟩:=λ_ _ _=>rfl;rw[eS];rcases gB with⟨q,bi⟩|⟨q,bi⟩|⟨q,e4⟩
   ·have eo:=ee (ff.1 bi).1;have c4:=(ff.1 bi).2;have aA:decide (b.kind=22)=false:=aK B;have aE:decide (b.kind=4)=true:=aR q;rw[aq q,ao B,<-fin];simp[m,n,o,s,ca,b9,c7,dd,bB,de,di,dk,dn,ds,cb,dN,mn,c6,ey,eh,a7,I,ce,dv,xr,gh,bs,aE,aA,eo,c4,b7,ec,ef]
   ·have eo:=ee (ff.1 bi).1;have c4:=(ff.1 bi).2;have aA:decide (b.kind=22)=true:=aR q;have aE:decide (b.kind=4)=false:=aK B;rw[ao B,aq q,<-fin];simp[m,n,o,s,ca,b9,c7,dd,bB,de,di,dk,dn,ds,cb,dN,mn,c6,ey,eh,a7,I,ce,dv,xr,gh,bs,aE,aA,eo,c4,b7,ec,ef]
   ·have aA:decide (b.kind=22)=false:=aK e4;have aE:decide (b.kind=4)=false:=aK q;rw[ao q,ao e4,<-fin];simp[m,n,o,s,ca,b9,c7,dd,bB,de,di,dk,dn,ds,cb,dN,mn,c6,ey,eh,a7,I,ce,dv,xr,gh,bs,aE,aA,b7,ec,ef]
def yQ{d:fw}(ht:d.p 67=some lK)(c:dR)(b:dZ)(a:dY)(e:c.fV.length<=1000000)(f:qp 100000 b)(g:a.mo.length<=1000000)(h:a.uA.length<=1000000):rl prog cx d 67 [c.t,b.t,a.t]=some (.tuple [(jx c b a).1.t,.bool (jx c b a).2]):=gG ht NF (c,b,a) ⟨e,f,g,h⟩
