/- Texts TiRead2 to TiAppend. -/
import Derived.Test.YtmaeadedikngoaaGreatDoorA1
import Derived.Great.FillDense
import Derived.Laws.Tables
import Derived.Great.BuildSlice
import Derived.Deep.AppendSrc
set_option linter.unusedVariables false
set_option linter.unusedSimpArgs false
set_option maxRecDepth 100000
set_option maxHeartbeats 8000000
namespace Go.TI
noncomputable section
section
variable {P:ai}{cx:Ctx}{base:Nat}{w:World}{μ:Mu}{h:H}{mask:Nat}{e:Env}{a:Act}{o:Oper}{hp:af Obj}
theorem St.I1(k:St cx base hp μ h){c:Nat}{b:Loc}{d:iE}(j:μ c=some b)(f:h.get c=some d):d.sz=b.sz/\d.ep=b.ep:=by
 obtain⟨l,i,g⟩:=k.box c b j
 rw[i]at f;simp at f;subst f
 exact⟨g.sz,g.ep⟩
theorem flat_get{g:Nat}{es:List T}(l:∀v∈es,v.cells.length=g){i k:Nat}{v z:T}(b:es[i]? =some v)(c:v.cells[k]? =some z):(d6 es)[i*g+k]? =some z:=by
 have f:i<es.length:=by
  rcases aD i es.length with y|y
  ·exact y
  ·rw[aM y]at b;simp at b
 have j:k<v.cells.length:=by
  rcases aD k v.cells.length with y|y
  ·exact y
  ·rw[aM y]at c;simp at c
 have d:=oD l i
 have m:es[i]=v:=by rw[aB f]at b;simpa using b
 rw[aJ f,m,kY]at d
 rw[<-bH,d,bW j]
 exact c
theorem Kg{f:T}{c:List T}{j off d g:Nat}{i:af am}{r:ab}{fz:Nat×Nat}{b:T}(z:¬mG μ j)(u:hp[j]? =some (.cells i r fz))
 (k:∀b∈f::c,b.cells.length=d) (A:off+(d6 (f::c)).length<=i.size) (s:∀b∈d6 (f::c),vJ b)
 (hr:∀(n:Nat) b,(d6 (f::c))[n]? =some b->eg hp μ b (i.getD (off+n) Go.undef)) (l:(f::c)[g]? =some b):
 eg hp μ (.iT b.cells) (.pointer (some ⟨j,off+g*d,none⟩)):=by
 have q:=az l
 have v:g<(f::c).length:=by
  rcases aD g (f::c).length with y|y
  ·exact y
  ·simp[aM y]at l
 have t:=fM k
 have x:=k b q
 refine .iT b.cells j (off+g*d) i r fz z u ?_ (λp m=>s p (List.mem_flatMap.2 ⟨b,q,m⟩)) λn p m=> ?_
 ·rw[x]
  have:g*d+d<=(d6 (f::c)).length:=by
   rw[t]
   calc g*d+d=(g+1)*d:=by rw[bU]
    _<=(f::c).length*d:=aV _ v
  omega
 ·have:=hr _ p (flat_get k l m)
  rwa[<-cD]at this
theorem yB(iB:iG P cx){t:ab}{x y:ah}(i:St cx base w.heap μ h)(r:jS w.heap μ mask e a.tmps)(an:o.op= .indexAddr t x y){s:T}{K:H}
 (b:oy t x y cx mask e h=some (.val s K)):iM cx base w μ h.size ((execOp a.eval o).run P w) s K:=by
 replace b:=dj.1 b;obtain⟨cL,cb,b⟩:=b
 replace b:=dj.1 b;obtain⟨p,hp,b⟩:=b
 replace b:=dj.1 b;obtain⟨q,ap,b⟩:=b
 replace b:=dj.1 b;obtain⟨f,b6,b⟩:=b
 obtain⟨k,b7⟩:=mQ b6
 obtain⟨d,X,aE⟩:=ky (iB.ty _ _ cb)
 have Q:=fG i r hp
 have aN:=(b7▸fG i r ap).jr
 cases ce:cL.u<;>rw[ce]at b aE<;>simp at b
 ·rename_i bv
  have:=kS aE;subst this
  replace b:=dj.1 b;obtain⟨m,aA,b⟩:=b
  have N:=(iB.ty _ _ aA).run_sizeOf w
  unfold kG at b
  cases p<;>simp at b
  ·rename_i C bz
   replace b:=dj.1 b;obtain⟨z,I,b⟩:=b
   replace b:=dz.1 b;obtain⟨hl,b⟩:=b
   simp at b;obtain⟨rfl,rfl⟩:=b
   have hl:=aC hl
   cases C with
   |nil=>simp at I
   |cons cX C=>
    obtain⟨a6,off,c6,cp,aX,bp,fz,J,al,Z,di,de,bn,bk,bT,hr⟩:=Q.sO
    have ca:cp=m.size:=by rw[<-bn z (az I)];exact hl
    have dm:f<C.length+1:=by
     rcases aD f (cX::C).length with y|y
     ·simpa using y
     ·rw[aM y]at I;simp at I
    have dn:¬((C.length:Int)+1<=(f:Int)):=by omega
    refine iM.pure i ?_ (Kg al Z bn bk bT hr I)
    rw[<-kd,ca]
    have G:¬C.length+1<=f:=by omega
    simp[execOp,an,Instr.indexAt,aN,asIntOf,run_underlying X,J,N,G]
  ·rename_i A B S l bz
   replace b:=dz.1 b;obtain⟨hl,b⟩:=b
   replace b:=dj.1 b;obtain⟨a7,W,b⟩:=b
   replace b:=dz.1 b;obtain⟨V,b⟩:=b
   replace b:=dz.1 b;obtain⟨a8,b⟩:=b
   simp at b;obtain⟨rfl,rfl⟩:=b
   rw[aG]at hl
   have V:=aC V
   have a8:=aC a8
   obtain⟨g,v,bu,J,D,L,dd,bX⟩:=Q.rD
   obtain⟨U,bB⟩:=i.I1 D W
   obtain⟨c1,c4,bs⟩:=bX (by omega)
   have b8:bu≠0:=by omega
   rw[bs b8]at J
   refine iM.pure (c:= .pointer (some ⟨g.io,(S+f)*g.sz,none⟩)) i ?_ (.ptr A B (S+f) 0 g _ D L λ_=>by simp)
   have G:¬l<=f:=by omega
   have bN:(⟨g.io,S*g.sz,none⟩:Addr).add (f*m.size)=⟨g.io,(S+f)*g.sz,none⟩:=by
    rw[kd,<-V,U,bY]
   simp[execOp,an,Instr.indexAt,aN,asIntOf,run_underlying X,J,N,G,bN]
 ·rename_i n bv
  have:=qd aE;subst this
  replace b:=dj.1 b;obtain⟨m,aA,b⟩:=b
  have N:=(iB.ty _ _ aA).run_sizeOf w
  unfold nT at b
  replace b:=dz.1 b;obtain⟨hl,b⟩:=b
  rw[aG]at hl
  have G:¬n<=f:=by omega
  have av:∀v:Addr,a.eval x= .pointer (some v)->(execOp a.eval o).run P w= .ok (.value (.pointer (some (v.add (f*m.size))))) w:=by
   intro v ap
   simp[execOp,an,Instr.indexAt,aN,asIntOf,run_underlying X,ap,Instr.sureAddr,N,G]
  cases p<;>simp at b
  ·rename_i A B R j
   replace b:=dj.1 b;obtain⟨a7,W,b⟩:=b
   obtain⟨g,v,M,D,L,bi⟩:=Q.oJ
   obtain⟨U,bB⟩:=i.I1 D W
   cases E:Nat.beq a7.sz m.size with
   |false=>
    rw[E]at b
    have b:some (kx.val (T.ptr A B R (j+f*m.size)) h)=some (.val s K):=b
    simp only[ar,kx.val.injEq]at b
    obtain⟨rfl,rfl⟩:=b
    refine iM.pure i (av v M) (.ptr A B R (j+f*m.size) g _ D L λY=> ?_)
    rw[bi Y,kd,cD]
   |true=>
    rw[E]at b
    have b:fy (Nat.beq j 0) (some (kx.val (T.ptr A B (R+f) 0) h))=some (.val s K):=b
    replace b:=dz.1 b;obtain⟨ae,b⟩:=b
    have ae:=aC ae
    subst ae
    simp only[ar]at b
    obtain⟨rfl,rfl⟩:=b
    have E:=aC E
    refine iM.pure i (av v M) (.ptr A B (R+f) 0 g _ D L λY=> ?_)
    rw[bi Y,kd,<-E,U,bY]
    simp
  ·rename_i c7
   replace b:=dj.1 b;obtain⟨c9,F,b⟩:=b
   simp at b
   obtain⟨rfl,rfl⟩:=b
   obtain⟨a6,off,aX,bp,fz,M,al,Z,bk,b9,hr⟩:=Q.kX
   rw[kZ]at F
   split at F
   ·rename_i dk
    simp at F;subst F
    refine iM.pure i (av _ M) ?_
    rw[kd]
    refine .iT _ a6 (off+f*m.size) aX bp fz al Z (by simp;omega) (λs O=>b9 s (bE O)) λk s O=> ?_
    rw[bH]at O
    have:=hr _ s O
    rwa[<-cD]at this
   ·simp at F
end
end
noncomputable section
section
variable {P:ai}{cx:Ctx}{base:Nat}{w:World}{μ:Mu}{h:H}{mask:Nat}{e:Env}{a:Act}{o:Oper}{hp:af Obj}
theorem zi(iB:iG P cx){q j:ab}{s:ah}(g:St cx base w.heap μ h)(A:jS w.heap μ mask e a.tmps)(n:o.op= .convert q j s){r:T}{k:H}{c:T}
 (d:∃i,cx.ty q=some i) (hp:eJ cx mask e s=some c) (b:conv cx j c=some r) (x:k=h):iM cx base w μ h.size ((execOp a.eval o).run P w) r k:=by
 subst x
 obtain⟨D,d⟩:=d
 obtain⟨C,m,_⟩:=ky (iB.ty _ _ d)
 replace b:=dj.1 b;obtain⟨i,y,b⟩:=b
 obtain⟨B,l,f⟩:=ky (iB.ty _ _ y)
 have p:=fG g A hp
 cases z:i.u<;>rw[z]at b f<;>simp at b
 ·have:=uQ f;subst this
  cases c<;>simp at b
  subst b
  exact iM.pure g (by simp[execOp,n,convert,run_underlying m,run_underlying l,p.jr,Conv.intToInt]) (.int _ _)
 ·have:=rh f;subst this
  cases c<;>simp at b
  subst b
  obtain⟨v,t⟩:=p.kR
  exact iM.pure g (by simp[execOp,n,convert,run_underlying m,run_underlying l,v]) (.str _ t)
theorem tH{g:aa ah}{c:aa Nat}(p:St cx base w.heap μ h)(n:jS w.heap μ mask e a.tmps)(b:jm cx mask e g=some c):
 (g=none/\c=none)\/∃d i f,g=some d/\c=some f/\a.eval d= .int i (f:Nat):=by
 cases g with
 |none=>left;simp[jm]at b;exact⟨rfl,b.symm⟩
 |some d=>
  right
  have b:(dB (eJ cx mask e d) λj=>dB (mR j) λc=>some (some c))=some c:=b
  replace b:=dj.1 b;obtain⟨j,m,b⟩:=b
  replace b:=dj.1 b;obtain⟨f,l,b⟩:=b
  simp at b;subst b
  obtain⟨i,k⟩:=mQ l
  exact⟨d,i,f,rfl,rfl,(k▸fG p n m).jr⟩
theorem run_sliceBound{d:am}{j:ak}{b:Nat}(i:d= .int j (b:Nat)){c:Nat}(k:b<=c)(f:BoundsCode):(Instr.sliceBound d c f).run P w= .ok b w:=by
 subst i
 have g:0<=((b:Nat):Int)/\((b:Nat):Int)<=(c:Int):=⟨by omega,by omega⟩
 simp only[Instr.sliceBound,asIntOf,Sem.run_bind,Sem.run_pure,Result.andThen_ok,g,and_self,aY]
 simp
theorem py{isS:Bool}{len cap:Nat}{r p s:aa ah}{l d m:aa Nat}
 (n:(r=none/\l=none)\/∃c i b,r=some c/\l=some b/\a.eval c= .int i (b:Nat)) (u:(p=none/\d=none)\/∃c i b,p=some c/\d=some b/\a.eval c= .int i (b:Nat))
 (B:(s=none/\m=none)\/∃c i b,s=some c/\m=some b/\a.eval c= .int i (b:Nat)) (C:∀b,m=some b->b<=cap/\d=some b) (hl:fx l 0<=fx d len) (v:fx d len<=len) (G:len<=cap):
 (Instr.sliceBounds isS len cap (r.map a.eval) (p.map a.eval) (s.map a.eval)).run P w= .ok (fx l 0,fx d len,fx m cap) w:=by
 rcases B with⟨rfl,rfl⟩|⟨J,I,E,rfl,rfl,t⟩
 ·rcases u with⟨rfl,rfl⟩|⟨F,D,k,rfl,rfl,g⟩
  ·rcases n with⟨rfl,rfl⟩|⟨A,z,j,rfl,rfl,f⟩
   ·simp[Instr.sliceBounds,fx]
   ·have hl:j<=len:=hl
    simp[Instr.sliceBounds,fx,run_sliceBound f hl]
  ·have v:k<=len:=v
   have x:k<=cap:=by omega
   rcases n with⟨rfl,rfl⟩|⟨A,z,j,rfl,rfl,f⟩
   ·simp[Instr.sliceBounds,fx,run_sliceBound g x]
   ·have hl:j<=k:=hl
    simp[Instr.sliceBounds,fx,run_sliceBound g x,run_sliceBound f hl]
 ·obtain⟨y,q⟩:=C E rfl
  rcases u with⟨rfl,rfl⟩|⟨F,D,k,rfl,rfl,g⟩
  ·simp at q
  ·simp at q;subst q
   rcases n with⟨rfl,rfl⟩|⟨A,z,j,rfl,rfl,f⟩
   ·simp[Instr.sliceBounds,fx,run_sliceBound g (au _),run_sliceBound t y]
   ·have hl:j<=k:=hl
    simp[Instr.sliceBounds,fx,run_sliceBound g (au _),run_sliceBound t y,run_sliceBound f hl]
theorem CE(b:Nat):fx none b=b:=rfl
theorem xL{l:Type}{g j:List l}{f d:Nat}(m:f<=d)(i:Iz g f d=some j):d<=g.length/\j=(g.drop f).take (d-f):=by
 unfold Iz at i
 obtain⟨n,b,c⟩:=dj.1 i
 rw[kZ]at b
 split at b
 ·simp at b;subst b
  rw[mS]at c
  split at c
  ·rename_i k
   simp at k c
   refine⟨?_,c.symm⟩
   omega
  ·simp at c
 ·simp at b
theorem Bv{c:Nat}{b:List T}(f:∀d∈b,d.cells.length=c)(g i:Nat):d6 ((b.drop g).take i)=((d6 b).drop (g*c)).take (i*c):=by
 rw[oD f,ql (λd j=>f d (bE j))]
theorem EX{i:T}{g:List T}{n off j:Nat}{m:af am}{t:ab}{fz:Nat×Nat}{c f:Nat}{q:T}{l:List T}{full:Bool}{cap:Nat}(C:¬mG μ n)(y:hp[n]? =some (.cells m t fz))
 (r:∀b∈i::g,b.cells.length=j) (F:off+(d6 (i::g)).length<=m.size) (u:∀b∈d6 (i::g),vJ b)
 (hr:∀(k:Nat) b,(d6 (i::g))[k]? =some b->eg hp μ b (m.getD (off+k) Go.undef)) (E:c<=f) (z:f<=(i::g).length) (s:q::l=((i::g).drop c).take (f-c))
 (D:f-c<=cap) (v:full=true->cap=f-c):eg hp μ (.dq (q::l) full) (.slice (some ⟨n,off+c*j,none⟩) (f-c) cap):=by
 have A:l.length+1=f-c:=by
  have:=bO List.length s
  simp only[aZ,List.length_take,List.length_drop]at this
  simp only[aZ]at z
  omega
 have x:=fM r
 have p:=Bv r c (f-c)
 rw[<-s]at p
 have B:∀b∈q::l,b∈i::g:=λb d=>bE (bG (s▸d))
 rw[<-A]
 refine .dq q l full n (off+c*j) cap j m t fz C y (by omega) (λk=>by rw[v k];omega) (λb d=>r b (B b d)) ?_ ?_ ?_
 ·rw[p]
  simp only[List.length_take,List.length_drop]
  have:c*j+(f-c)*j<=(d6 (i::g)).length:=by
   rw[x,<-bY]
   exact aV _ (by omega)
  omega
 ·intro b d
  rw[p]at d
  exact u b (bE (bG d))
 ·intro k b d
  rw[p,bK]at d
  split at d
  ·rw[bH]at d
   have:=hr _ b d
   rwa[<-cD]at this
  ·simp at d
theorem zK(d:List Nat)(b c:Nat):(bytesOf d).extract b c=bytesOf ((d.drop b).take (c-b)):=by
 apply ByteArray.ext
 have:((bytesOf d).extract b c).data.toList=((bytesOf d).data.toList.drop b).take (c-b):=Lib.extract_data _ _ _
 apply co
 rw[this]
 simp[bytesOf,List.map_take,List.map_drop]
theorem E0(iB:iG P cx){t:ab}{x:ah}{Q G R:aa ah}(S:St cx base w.heap μ h)(bi:o.op= .slice t x Q G R){c:Nat}{y:ab}(a6:P.underlying t=some (.array c y)){u:T}
 (bu:eg w.heap μ u (a.eval x)) {d g l:aa Nat}
 (bB:(Q=none/\d=none)\/∃n m f,Q=some n/\d=some f/\a.eval n= .int m (f:Nat)) (bN:(G=none/\g=none)\/∃n m f,G=some n/\g=some f/\a.eval n= .int m (f:Nat))
 (bT:(R=none/\l=none)\/∃n m f,R=some n/\l=some f/\a.eval n= .int m (f:Nat)) (bk:xp g l=true) (k:iQ cx h (.array c y) u=true) {v:T}
 (b:og (asSlice (.array c y) u) d g l=some v):iM cx base w μ h.size ((execOp a.eval o).run P w) v h:=by
 unfold iQ at k
 simp only at k
 cases K:cx.ty y with
 |none=>rw[K]at k;simp at k
 |some ap=>
  rw[K]at k
  have bs:=(iB.ty _ _ K).run_sizeOf w
  have hp:∃p r al j,u= .ptr p r al j:=by cases u<;>first|exact⟨_,_,_,_,rfl⟩|(simp at k)
  obtain⟨p,r,al,j,rfl⟩:=hp
  simp only at k
  cases F:h.get p with
  |none=>rw[F]at k;simp at k
  |some U=>
   rw[F]at k
   obtain⟨bX,aE,ce,b9,cb,aA⟩:=U
   simp only[ay,bP]at k
   obtain⟨⟨⟨⟨⟨⟨L,an⟩,M⟩,N⟩,bv⟩,bz⟩,O⟩:=k
   have L:=aC L
   have an:=aC an
   have M:=aC M
   have N:=aC N
   have O:=aC O
   rw[iX]at O
   subst M N bv bz
   obtain⟨i,b6,bp,s,X,aX⟩:=bu.oJ
   obtain⟨U,E,D⟩:=S.box p i s
   rw[F]at E
   simp only[ar]at E
   subst E
   have b7:aE=i.ep:=D.ep
   have av:bX=i.sz:=D.sz
   have b8:i.cap=aA.length:=(D.plain rfl).rQ rfl
   have W:=aX (by omega)
   simp at W
   subst W
   have b:un p r 0 c false (fx d 0) (fx g c) l=some v:=b
   unfold un at b
   replace b:=dz.1 b;obtain⟨I,b⟩:=b
   replace b:=dz.1 b;obtain⟨z,b⟩:=b
   have I:=bA I
   have z:=bA z
   simp only[gD,dD,Nat.add_eq,Nat.zero_add,Nat.sub_eq]at b
   have ae:(∀f,l=some f->f=fx g c)->
    (execOp a.eval o).run P w= .ok (.value (.slice (some (if fx l c=fx d 0 then⟨i.io,0,none⟩else(⟨i.io,0,none⟩:Addr).add (fx d 0*ap.size))) (fx g c-fx d 0) (fx l c-fx d 0))) w:=by
    intro aN
    have s:=py (P:=P) (w:=w) (isS:=false) (len:=c) (cap:=c) bB bN bT (by
     intro f Y
     have q:=aN f Y
     cases g with
     |none=>subst Y;simp[xp]at bk
     |some m=>
      have q:f=m:=q
      subst q
      have ca:f<=c:=z
      exact⟨by omega,rfl⟩) I z (au _)
    simp[execOp,bi,Instr.sliceAt,run_underlying a6,bp,Instr.sureAddr,s,bs]
   have V:∀B:Nat,(⟨i.io,0,none⟩:Addr).add (B*ap.size)=⟨i.io,B*i.sz,none⟩:=by
    intro B
    rw[kd,<-L,av];simp
   cases Z:l with
   |none=>
    subst Z
    have A:=ae (by simp)
    have b:some (T.arr p r (fx d 0) (fx g c-fx d 0) false)=some v:=b
    simp only[ar]at b;subst b
    refine iM.pure S A (.arr _ _ _ _ _ i _ _ s X ?_ λa7=>⟨by simp,λ_=> ?_,λJ=> ?_⟩)
    ·show fx g c-fx d 0<=c-fx d 0;omega
    ·show fx d 0+(c-fx d 0)=i.cap;omega
    ·have J:c-fx d 0≠0:=J
     have C:¬fx none c=fx d 0:=by show¬c=fx d 0;omega
     rw[ao C,V]
   |some f=>
    subst Z
    have b:fy (Nat.beq f (fx g c)) (some (T.arr p r (fx d 0) (fx g c-fx d 0) true))=some v:=b
    replace b:=dz.1 b;obtain⟨q,b⟩:=b
    have q:=aC q
    simp only[ar]at b;subst b
    have A:=ae (by intro m a8;simp at a8;omega)
    have bn:fx (some f) c=fx g c:=q
    rw[bn]at A
    refine iM.pure S A (.arr _ _ _ _ _ i _ _ s X (au _) λa7=>⟨λ_=>rfl,by simp,λJ=> ?_⟩)
    have C:¬fx g c=fx d 0:=by omega
    rw[ao C,V]
theorem DQ(iB:iG P cx){t:ab}{x:ah}{di c4 b8:aa ah}(r:St cx base w.heap μ h)(Z:jS w.heap μ mask e a.tmps)(bB:o.op= .slice t x di c4 b8){q:T}{bn:H}
 (j:Bi t x di c4 b8 cx mask e h=some (.val q bn)):iM cx base w μ h.size ((execOp a.eval o).run P w) q bn:=by
 replace j:=dj.1 j;obtain⟨dk,eA,j⟩:=j
 replace j:=dj.1 j;obtain⟨p,hp,j⟩:=j
 replace j:=dz.1 j;obtain⟨m,j⟩:=j
 replace j:=dj.1 j;obtain⟨g,eb,j⟩:=j
 replace j:=dj.1 j;obtain⟨i,ea,j⟩:=j
 replace j:=dj.1 j;obtain⟨F,eo,j⟩:=j
 replace j:=dz.1 j;obtain⟨dd,j⟩:=j
 obtain⟨f,rfl⟩:=ff.1 j
 have b9:=tH r Z eb
 have ca:=tH r Z ea
 have bk:=tH r Z eo
 obtain⟨d,bu,av⟩:=ky (iB.ty _ _ eA)
 have W:=fG r Z hp
 by_cases ce:∃n aA,dk.u= .array n aA
 ·obtain⟨n,aA,bi⟩:=ce
  rw[bi]at m av f
  have:=qd av;subst this
  exact E0 iB r bB bu W b9 ca bk dd m f
 unfold iQ at m
 cases bi:dk.u<;>rw[bi]at m av f<;>(try simp at m)
 ·
  have:=rh av;subst this
  replace f:og p g i F=some q:=f
  cases p<;>simp at m
  rename_i S
  obtain⟨G,dm⟩:=W.kR
  unfold og at f
  cases E:F with
  |some k=>rw[E]at f;simp at f
  |none=>
   subst E
   have f:fy (Nat.ble (fx g 0) (fx i (kc S))) (dB (Iz S (fx g 0) (fx i (kc S))) λZ=>some (T.str Z))=some q:=f
   rw[iX]at f
   replace f:=dz.1 f;obtain⟨v,f⟩:=f
   have v:=bA v
   replace f:=dj.1 f;obtain⟨Y,bT,f⟩:=f
   obtain⟨aX,rfl⟩:=xL v bT
   simp at f;subst f
   have eh:b8=none:=by rcases bk with⟨K,_⟩|⟨_,_,_,_,K,_⟩;exact K;simp at K
   subst eh
   have D:=py (P:=P) (w:=w) (isS:=false) (len:=S.length) (cap:=S.length) b9 ca bk (by simp) v aX (au _)
   simp only[Option.map_none]at D
   refine iM.pure (c:= .string ((bytesOf S).extract (fx g 0) (fx i S.length))) r ?_ ?_
   ·simp[execOp,bB,Instr.sliceAt,Instr.slice,run_underlying bu,G,jp,D]
   ·rw[zK]
    exact .str _ λc V=>dm c (bE (bG V))
 ·rename_i aA
  have:=kS av;subst this
  replace f:og p g i F=some q:=f
  cases bX:cx.ty aA with
  |none=>rw[bX]at m;simp at m
  |some ae=>
   rw[bX]at m
   have ey:=(iB.ty _ _ bX).run_sizeOf w
   have er:∀k,F=some k->i.isSome=true:=by
    intro k a7;subst a7
    cases i with
    |none=>simp[xp]at dd
    |some K=>rfl
   have O:∀(B:aa Addr) (len cap:Nat),a.eval x= .slice B len cap->len<=cap->fx g 0<=fx i len->fx i len<=len->(∀k,F=some k->k=fx i len)->
    (execOp a.eval o).run P w= .ok (.value (.slice (if fx F cap=fx g 0 then B else B.map (·.add (fx g 0*ae.size))) (fx i len-fx g 0) (fx F cap-fx g 0))) w:=by
    intro B len cap J V U N ap
    have D:=py (P:=P) (w:=w) (isS:=true) (len:=len) (cap:=cap) b9 ca bk (by
     intro k a7
     have a8:=er k a7
     have z:=ap k a7
     cases i with
     |none=>simp at a8
     |some K=>
      have z:k=K:=z
      subst z
      have N:k<=len:=N
      exact⟨by omega,rfl⟩) U N V
    simp[execOp,bB,Instr.sliceAt,Instr.slice,run_underlying bu,J,D,ey]
   unfold og at f
   cases p<;>simp at m
   ·rename_i l full
    have f:r7 l full (fx g 0) (fx i l.length) F=some q:=by rw[<-iX];exact f
    unfold r7 at f
    replace f:=dz.1 f;obtain⟨v,f⟩:=f
    have v:=bA v
    replace f:=dj.1 f;obtain⟨Y,bT,f⟩:=f
    obtain⟨aX,R⟩:=xL v bT
    cases l with
    |nil=>
     obtain⟨B,G⟩:=W.sN
     have eu:Y=[]:=by rw[R];simp
     rw[eu]at f
     have c1:fx i 0=0:=by simpa using aX
     have c7:fx g 0=0:=by simp only[cP]at v;omega
     cases E:F with
     |none=>
      subst E
      have f:some (T.dq [] false)=some q:=f
      simp at f;subst f
      have:=O B 0 0 G (au _) (by omega) (by omega) (by simp)
      refine iM.pure r this ?_
      rw[c7,c1,CE]
      exact .mP _ _
     |some k=>
      subst E
      have f:fy (Nat.beq k (fx i 0)) (some (T.dq [] false))=some q:=f
      replace f:=dz.1 f;obtain⟨z,f⟩:=f
      have z:=aC z
      simp at f;subst f
      have:=O B 0 0 G (au _) (by omega) (by omega) (by intro K Q;simp at Q;omega)
      refine iM.pure r this ?_
      have ef:fx (some k) 0=0:=by show k=0;omega
      rw[c7,c1,ef]
      exact .mP _ _
    |cons L l=>
     obtain⟨eD,off,cap,eB,eC,eE,fz,G,c9,cX,c6,dv,b6,a8,V,hr⟩:=W.sO
     have de:eB=ae.size:=by
      have m:Nat.beq (kc L.cells) ae.size=true:=m
      have:=aC m
      rw[iX]at this
      rw[<-this];exact(b6 L (by simp)).symm
     have a6:fx i (l.length+1)<=l.length+1:=by simpa using aX
     have aN:fx g 0<=fx i (l.length+1):=by simpa using v
     cases E:F with
     |none=>
      subst E
      have s:=O _ _ _ G c6 aN a6 (by simp)
      cases Y with
      |nil=>
       have f:some T.fg=some q:=f
       simp at f;subst f
       have b7:fx i (l.length+1)-fx g 0=0:=by
        have:=bO List.length R
        simp only[cP,List.length_take,List.length_drop,aZ]at this
        omega
       rw[b7]at s
       exact iM.pure r s (.fg _ _)
      |cons y cb=>
       have f:some (T.dq (y::cb) (@Bool.rec (λ_=>Bool) false (Nat.beq (fx i (L::l).length) (kc (L::l))) full))=some q:=f
       have et:fx g 0<fx i (l.length+1):=by
        have:=bO List.length R
        simp only[aZ,List.length_take,List.length_drop]at this
        omega
       have I:¬cap=fx g 0:=by omega
       simp only[CE,I,bm,cI,kd]at s
       refine iM.pure r s ?_
       simp only[ar]at f
       rw[<-f,<-de]
       have:=EX (full:= @Bool.rec (λ_=>Bool) false (Nat.beq (fx i (L::l).length) (kc (L::l))) full) (cap:=cap-fx g 0) c9 cX b6 a8 V hr aN (by simpa using a6) R (by omega) (by
        intro D
        cases full with
        |false=>simp at D
        |true=>
         have D:Nat.beq (fx i (L::l).length) (kc (L::l))=true:=D
         have:=aC D
         rw[iX]at this
         simp only[aZ]at this
         rw[dv rfl,this])
       exact this
     |some k=>
      subst E
      have f:fy (Nat.beq k (fx i (L::l).length)) (@List.rec T (λ_=>aa T) (some (T.dq [] false)) (λ_ _ _=>some (T.dq Y true)) Y)=some q:=f
      replace f:=dz.1 f;obtain⟨z,f⟩:=f
      have z:=aC z
      simp only[aZ]at z
      have s:=O _ _ _ G c6 aN a6 (by intro K Q;simp at Q;omega)
      have bN:fx (some k) cap=fx i (l.length+1):=z
      rw[bN]at s
      cases Y with
      |nil=>
       have f:some (T.dq [] false)=some q:=f
       simp at f;subst f
       have b7:fx i (l.length+1)-fx g 0=0:=by
        have:=bO List.length R
        simp only[cP,List.length_take,List.length_drop,aZ]at this
        omega
       rw[b7]at s
       exact iM.pure r s (.mP _ _)
      |cons y cb=>
       have f:some (T.dq (y::cb) true)=some q:=f
       have et:fx g 0<fx i (l.length+1):=by
        have:=bO List.length R
        simp only[aZ,List.length_take,List.length_drop]at this
        omega
       have I:¬fx i (l.length+1)=fx g 0:=by omega
       simp only[I,bm,cI,kd]at s
       refine iM.pure r s ?_
       simp only[ar]at f
       rw[<-f,<-de]
       exact EX c9 cX b6 a8 V hr aN (by simpa using a6) R (au _) (λ_=>rfl)
   ·
    obtain⟨B,cap,G⟩:=W.yx
    have f:fy (Nat.beq (fx g 0) 0) (fy (Nat.beq (fx i 0) 0) (@Option.rec Nat (λ_=>aa T) (some T.fg) (λk=>fy (Nat.beq k 0) (some (T.dq [] false))) F))=some q:=f
    replace f:=dz.1 f;obtain⟨U,f⟩:=f
    replace f:=dz.1 f;obtain⟨N,f⟩:=f
    have U:=aC U
    have N:=aC N
    cases E:F with
    |none=>
     subst E
     have f:some T.fg=some q:=f
     simp at f;subst f
     have:=O B 0 cap G (aw _) (by omega) (by omega) (by simp)
     rw[U,N]at this
     exact iM.pure r this (.fg _ _)
    |some k=>
     subst E
     have f:fy (Nat.beq k 0) (some (T.dq [] false))=some q:=f
     replace f:=dz.1 f;obtain⟨ap,f⟩:=f
     have ap:=aC ap
     simp at f;subst f;subst ap
     have:=O B 0 cap G (aw _) (by omega) (by omega) (by intro K Q;simp at Q;omega)
     rw[U,N]at this
     exact iM.pure r this (.mP _ _)
   ·rename_i b al X A full
    obtain⟨M,B,C,G,D,bv,cp,bs⟩:=W.rD
    have f:un b al X A full (fx g 0) (fx i A) F=some q:=f
    unfold un at f
    replace f:=dz.1 f;obtain⟨v,f⟩:=f
    replace f:=dz.1 f;obtain⟨aE,f⟩:=f
    have v:=bA v
    have aE:=bA aE
    simp only[gD,dD]at f
    have ds:M.sz=ae.size:=by
     cases bz:bn.get b with
     |none=>rw[bz]at m;simp at m
     |some dn=>
      rw[bz]at m
      have m:Nat.beq dn.sz ae.size=true:=m
      rw[<-aC m]
      exact(r.I1 D bz).1.symm
    have bp:∀c:Nat,C≠0->al=M.ep->B.map (·.add (c*ae.size))=some ⟨M.io,(X+c)*M.sz,none⟩:=by
     intro c I J
     rw[(bs J).2.2 I,<-ds]
     simp[kd,bY]
    cases E:F with
    |none=>
     subst E
     have s:=O B A C G cp v aE (by simp)
     have f:(@Bool.rec (λ_=>aa T) (some (T.arr b al (X+fx g 0) (fx i A-fx g 0) false)) (fy (Nat.beq (fx i A) A) (some (T.arr b al (X+fx g 0) (fx i A-fx g 0) true))) full)=some q:=f
     cases full with
     |false=>
      simp at f;subst f
      refine iM.pure r s (.arr _ _ _ _ _ M _ _ D bv ?_ λJ=>⟨by simp,λ_=> ?_,λI=> ?_⟩)
      ·show fx i A-fx g 0<=C-fx g 0;omega
      ·have:=(bs J).2.1 rfl
       show X+fx g 0+(C-fx g 0)=M.cap
       omega
      ·have I:C-fx g 0≠0:=I
       have an:¬fx none C=fx g 0:=by show¬C=fx g 0;omega
       rw[ao an]
       exact bp _ (by omega) J
     |true=>
      replace f:=dz.1 f;obtain⟨cL,f⟩:=f
      have cL:=aC cL
      simp at f;subst f
      refine iM.pure r s (.arr _ _ _ _ _ M _ _ D bv ?_ λJ=>⟨λ_=> ?_,by simp,λI=> ?_⟩)
      ·show fx i A-fx g 0<=C-fx g 0;omega
      ·have:=(bs J).1 rfl
       show C-fx g 0=fx i A-fx g 0
       omega
      ·have I:C-fx g 0≠0:=I
       have an:¬fx none C=fx g 0:=by show¬C=fx g 0;omega
       rw[ao an]
       exact bp _ (by omega) J
    |some k=>
     subst E
     have f:fy (Nat.beq k (fx i A)) (some (T.arr b al (X+fx g 0) (fx i A-fx g 0) true))=some q:=f
     replace f:=dz.1 f;obtain⟨z,f⟩:=f
     have z:=aC z
     simp at f;subst f
     have s:=O B A C G cp v aE (by intro K Q;simp at Q;omega)
     have bN:fx (some k) C=fx i A:=z
     rw[bN]at s
     refine iM.pure r s (.arr _ _ _ _ _ M _ _ D bv (au _) λJ=>⟨λ_=>rfl,by simp,λI=> ?_⟩)
     have an:¬fx i A=fx g 0:=by omega
     rw[ao an]
     exact bp _ (by omega) J
 ·exact absurd ⟨_,_,bi⟩ ce
end
end
noncomputable section
section
variable {P:ai}{cx:Ctx}{base:Nat}{w:World}{μ:Mu}{h h':H}{mask:Nat}{e:Env}{a:Act}{o:Oper}{hp hp':af Obj}
theorem St.dL(g:St cx base hp μ h){b:Nat}{d:Loc}(f:μ b=some d):b<h.size:=by
 obtain⟨i,c,_⟩:=g.box b d f
 rw[H.get_eq]at c
 split at c
 ·assumption
 ·simp at c
theorem St.Nm(c:St cx base hp μ h):μ h.size=none:=by
 cases b:μ h.size with
 |none=>rfl
 |some d=>exact absurd (c.dL b) (Nat.lt_irrefl _)
def pL(μ:Mu)(d:Nat)(c:Loc):Mu:=⟨λb=>if b=d then some c else μ b,μ.mH⟩
theorem iW(μ:Mu)(c:Nat)(b:Loc):pL μ c b c=some b:=by simp[pL]
theorem ik(μ:Mu){c b:Nat}(d:Loc)(h:b≠c):pL μ c d b=μ b:=by simp[pL,h]
def H.cons(h:H)(b:iE):H:=⟨h.size+1,h.low,b::h.ec⟩
theorem H.j4(b:Nat->T)(h:H)(c:iE):h.new b c=some (b h.size,h.cons c):=H.No b h c
theorem H.rN(c:h.ec.length=h.size)(b:iE):(h.cons b).get h.size=some b:=by
 rw[H.get_eq]
 simp[H.cons]
theorem H.mo{b:Nat}(f:b<h.size)(c:iE):(h.cons c).get b=h.get b:=by
 rw[H.get_eq,H.get_eq]
 have d:b<(h.cons c).size:=by show b<h.size+1;omega
 rw[aq d,aq f]
 show(c::h.ec)[h.size+1-1-b]? =_
 have:h.size+1-1-b=(h.size-1-b)+1:=by omega
 rw[this];simp
theorem St.new(d:St cx base hp μ h)(n:Obj)(l:Loc)(m:iE)(z:l.io=hp.size)(E:Ext hp μ (hp.push n) (pL μ h.size l)->pQ (hp.push n) (pL μ h.size l) l m):
 St cx base (hp.push n) (pL μ h.size l) (h.cons m)/\Ext hp μ (hp.push n) (pL μ h.size l)/\wZ μ (pL μ h.size l) h.size (h.cons m).size:=by
 have D:=d.Nm
 have p:Ext hp μ (hp.push n) (pL μ h.size l):=by
  refine⟨by simp,λr C t=>⟨?_,?_⟩,λb k c=> ?_,rfl,λr C _=> ?_⟩
  rotate_right
  ·rw[Array.getElem?_push];simp;omega
  ·rw[Array.getElem?_push];simp;omega
  ·rintro(⟨b,k,c,rfl⟩|hr)
   ·by_cases g:b=h.size
    ·subst g;rw[iW]at c;simp at c;subst c;omega
    ·rw[ik _ _ g]at c;exact t (.inl ⟨b,k,c,rfl⟩)
   ·exact t (.inr hr)
  ·have:b≠h.size:=by rintro rfl;rw[D]at c;simp at c
   exact⟨k,by rw[ik _ _ this];exact c,.inl rfl⟩
 refine⟨⟨?_,?_,?_,?_,?_,?_,?_,?_⟩,p,?_⟩
 ·show(m::h.ec).length=h.size+1
  simp[d.wf]
 ·simp;have:=d.fit;omega
 ·intro b k c
  by_cases g:b=h.size
  ·subst g;rw[iW]at c;simp at c;subst c
   exact⟨m,H.rN d.wf m,E p⟩
  ·rw[ik _ _ g]at c
   obtain⟨F,j,i⟩:=d.box b k c
   refine⟨F,by rw[H.mo (d.dL c)];exact j,i.ext p ?_⟩
   have:=d.lt c
   rw[Array.getElem?_push];simp;omega
 ·intro b s u v j i A
  by_cases c:b=h.size<;>by_cases q:s=h.size
  ·omega
  ·subst c;rw[iW]at j;simp at j;subst j
   rw[ik _ _ q]at i
   have:=d.lt i;omega
  ·subst q;rw[iW]at i;simp at i;subst i
   rw[ik _ _ c]at j
   have:=d.lt j;omega
  ·rw[ik _ _ c]at j;rw[ik _ _ q]at i
   exact d.inj b s u v j i A
 ·intro b k c
  by_cases g:b=h.size
  ·subst g;rw[iW]at c;simp at c;subst c;rw[z];exact d.fit
  ·rw[ik _ _ g]at c;exact d.low b k c
 ·intro b k c hr
  by_cases g:b=h.size
  ·subst g;rw[iW]at c;simp at c;subst c
   have:=d.pM _ hr;omega
  ·rw[ik _ _ g]at c;exact d.apart b k c hr
 ·intro r hr
  have:=d.pM r hr
  simp;omega
 ·intro y x B
  exact(d.xz y x B).ext p
 ·refine⟨by show h.size<=h.size+1;omega,λb c=> ?_,λb j i=> ?_⟩
  ·by_cases g:b=h.size
   ·right;exact⟨by omega,by show b<h.size+1;omega⟩
   ·left;rwa[ik _ _ g]at c
  ·have:b=h.size:=by have i:b<h.size+1:=i;omega
   subst this;rw[iW];simp
theorem z8{c:Nat}{f:iE}(j:h.put c f=some h')(k:h.ec.length=h.size):
 h'.size=h.size/\h'.ec.length=h'.size/\h'.get c=some f/\∀b,b≠c->h'.get b=h.get b:=by
 obtain⟨g,i,rfl⟩:=H.uv.1 j
 refine⟨rfl,by simp[k],?_,λb l=> ?_⟩
 ·rw[H.get_eq];simp[g,i]
 ·rw[H.get_eq,H.get_eq]
  by_cases d:b<h.size
  ·simp only[d,aY]
   rw[List.getElem?_set_ne]
   omega
  ·simp[d]
theorem St.change(g:St cx base hp μ h){d:Nat}{i L':Loc}{z:iE}(n:μ d=some i)(I:h.put d z=some h')(C:hp.size<=hp'.size)(y:∀p,p<hp.size->p≠i.io->hp'[p]? =hp[p]?)
 (s:L'=i\/(i.ep<L'.ep/\(L'.io=i.io\/hp.size<=L'.io))) (J:Ext hp μ hp' (pL μ d L')->pQ hp' (pL μ d L') L' z):
 St cx base hp' (pL μ d L') h'/\Ext hp μ hp' (pL μ d L')/\wZ μ (pL μ d L') h.size h'.size:=by
 obtain⟨p1,p2,p3,p4⟩:=z8 I g.wf
 have q:L'.io=i.io\/hp.size<=L'.io:=by
  rcases s with rfl|s
  ·exact .inl rfl
  ·exact s.2
 have u:Ext hp μ hp' (pL μ d L'):=by
  refine⟨C,λp x v=>⟨y p x λk=>v (.inl ⟨d,i,n,k.symm⟩),?_⟩,λc m b=> ?_,rfl,λp x hr=>y p x λk=>g.apart d i n (k▸hr)⟩
  ·rintro(⟨c,m,b,rfl⟩|hr)
   ·by_cases f:c=d
    ·subst f;rw[iW]at b;simp at b;subst b
     rcases q with k|k
     ·exact v (.inl ⟨c,i,n,k.symm⟩)
     ·omega
    ·rw[ik _ _ f]at b;exact v (.inl ⟨c,m,b,rfl⟩)
   ·exact v (.inr hr)
  ·by_cases f:c=d
   ·subst f
    rw[n]at b;simp at b;subst b
    refine⟨L',iW _ _ _,?_⟩
    rcases s with k|k
    ·exact .inl k
    ·exact .inr k.1
   ·exact⟨m,by rw[ik _ _ f];exact b,.inl rfl⟩
 refine⟨⟨p2,by have:=g.fit;omega,?_,?_,?_,?_,λp hr=>bD (g.pM p hr) C,?_⟩,u,⟨by omega,λc b=> ?_,λc j l=>by omega⟩⟩
 ·intro c m b
  by_cases f:c=d
  ·subst f;rw[iW]at b;simp at b;subst b
   exact⟨z,p3,J u⟩
  ·rw[ik _ _ f]at b
   obtain⟨K,j,l⟩:=g.box c m b
   refine⟨K,by rw[p4 c f];exact j,l.ext u (y _ (g.lt b) λk=>f (g.inj c d m i b n k))⟩
 ·intro c r A B j l F
  by_cases b:c=d<;>by_cases t:r=d
  ·omega
  ·subst b;rw[iW]at j;simp at j;subst j
   rw[ik _ _ t]at l
   rcases q with k|k
   ·exact absurd (g.inj r c B i l n (by omega)) t
   ·have:=g.lt l;omega
  ·subst t;rw[iW]at l;simp at l;subst l
   rw[ik _ _ b]at j
   rcases q with k|k
   ·exact absurd (g.inj c r A i j n (by omega)) b
   ·have:=g.lt j;omega
  ·rw[ik _ _ b]at j;rw[ik _ _ t]at l
   exact g.inj c r A B j l F
 ·intro c m b
  by_cases f:c=d
  ·subst f;rw[iW]at b;simp at b;subst b
   rcases q with k|k
   ·rw[k];exact g.low _ _ n
   ·have:=g.fit;omega
  ·rw[ik _ _ f]at b;exact g.low c m b
 ·intro c m b hr
  by_cases f:c=d
  ·subst f;rw[iW]at b;simp at b;subst b
   rcases q with k|k
   ·exact g.apart c i n (by rw[<-k];exact hr)
   ·have:=g.pM _ hr;omega
  ·rw[ik _ _ f]at b;exact g.apart c m b hr
 ·intro E D G
  exact(g.xz E D G).ext u
 ·left
  by_cases f:c=d
  ·subst f;rw[n];simp
  ·rwa[ik _ _ f]at b
end
end
noncomputable section
section
variable {P:ai}{cx:Ctx}{base:Nat}{w:World}{μ:Mu}{h h':H}{mask:Nat}{e:Env}{a:Act}{o:Oper}{hp hp':af Obj}
theorem iS{b:aa (T×H)}{c:T}{h':H}:iV b=some (.val c h')↔b=some (c,h'):=by
 unfold iV
 cases b with
 |none=>simp
 |some d=>obtain⟨g,f⟩:=d;simp
theorem vh(s:St cx base w.heap μ h)(b:ab){arr:af am}{cap sz:Nat}{ex:Bool}{es:List T}(k:arr.size=cap*sz)(n:es.length<=cap)(l:ex=true->cap=es.length)
 (q:∀d∈es,d.cells.length=sz) (p:∀d∈d6 es,d.scalar=true) (j:fI w.heap μ (d6 es) (arr.toList.take (d6 es).length)):
 ∃c,St cx base (w.heap.push (.cells arr b)) c (h.cons (kz sz ex es))/\oI w μ {w with heap:=w.heap.push (.cells arr b)} c/\wZ μ c h.size (h.cons (kz sz ex es)).size/\
  c h.size=some ⟨0,w.heap.size,cap,sz⟩:=by
 obtain⟨f,g,i⟩:=s.new (.cells arr b) ⟨0,w.heap.size,cap,sz⟩ (kz sz ex es) rfl (by
  intro m
  refine⟨rfl,rfl,λ_=>⟨⟨arr,b,by simp,k,j.ext m⟩,n,l,q,p⟩,λr=>by simp[kz]at r⟩)
 exact⟨_,f,⟨g,rfl,rfl,rfl⟩,i,iW _ _ _⟩
theorem xc{b:T}(h:b.scalar=true):b.cells=[b]:=by
 cases b<;>first|rfl|(simp[T.scalar]at h)
theorem xD{b:List T}(h:∀c∈b,c.scalar=true):d6 b=b:=by
 induction b with
 |nil=>rfl
 |cons c b i=>
  have f:=xc (h c (by simp))
  have d:=i λj g=>h j (by simp[g])
  unfold d6 at d|-
  rw[aO,f,d]
  rfl
theorem DX(iB:iG P cx){i:ab}(y:St cx base w.heap μ h)(u:o.op= .alloc i){j:T}
 (b:Bo i cx mask e h=some (.val j h')):iM cx base w μ h.size ((execOp a.eval o).run P w) j h':=by
 replace b:=dj.1 b;obtain⟨c,z,b⟩:=b
 obtain⟨f,v,_,x,g,A,m,B,C⟩:=(iB.ty _ _ z).zero w
 cases t:vm cx c with
 |false=>
  rw[t]at b
  have b:iV (h.new (λl=>T.ptr l 0 0 0) (kz c.size true [c.jI]))=some (.val j h'):=b
  rw[iS,H.j4]at b
  simp only[ar,ax]at b
  obtain⟨rfl,rfl⟩:=b
  obtain⟨s,n,p,q,r⟩:=vh y i (arr:=f.cells) (cap:=1) (sz:=c.size) (ex:=true) (es:=[c.jI]) (by omega) (by simp) (by simp)
   (by intro k d;simp at d;subst d;rw[m];exact A) (by intro k d;simp[d6]at d;rw[m]at d;exact g k d)
   (by
     have:d6 [c.jI]=c.zero:=by simp[d6,m]
     rw[this]
     have hl:f.cells.toList.take c.zero.length=f.cells.toList:=by rw[bJ];simp;omega
     rw[hl];exact x _ _)
  refine⟨.pointer (some ⟨w.heap.size,0,none⟩),_,s,.inl ?_,.ptr _ 0 0 0 _ _ r (au _) (λ_=>by simp),n,p,q⟩
  simp[execOp,u,Instr.alloc,v,newVar,newRow]
 |true=>
  rw[t]at b
  have b:iV (h.new (λl=>T.ptr l 0 0 0) (kz 1 true c.zero))=some (.val j h'):=b
  rw[iS,H.j4]at b
  simp only[ar,ax]at b
  obtain⟨rfl,rfl⟩:=b
  obtain⟨s,n,p,q,r⟩:=vh y i (arr:=f.cells) (cap:=c.zero.length) (sz:=1) (ex:=true) (es:=c.zero) (by omega) (au _) (λ_=>rfl)
   (by intro k d;rw[xc (g k d)];rfl) (by rw[xD g];exact g)
   (by
     rw[xD g]
     have hl:f.cells.toList.take c.zero.length=f.cells.toList:=by rw[bJ];simp;omega
     rw[hl];exact x _ _)
  refine⟨.pointer (some ⟨w.heap.size,0,none⟩),_,s,.inl ?_,.ptr _ 0 0 0 _ _ r (au _) (λ_=>by simp),n,p,q⟩
  simp[execOp,u,Instr.alloc,v,newVar,newRow]
theorem If{k:ab}{c:ah}(j:St cx base w.heap μ h)(u:jS w.heap μ mask e a.tmps)(n:o.op= .box k c){l:T}
 (b:K3 c cx mask e h=some (.val l h')):iM cx base w μ h.size ((execOp a.eval o).run P w) l h':=by
 replace b:=dj.1 b;obtain⟨f,hp,b⟩:=b
 replace b:=dz.1 b;obtain⟨m,b⟩:=b
 rw[iS,H.j4]at b
 simp only[ar,ax]at b
 obtain⟨rfl,rfl⟩:=b
 obtain⟨g,p,_⟩:=(fG j u hp).cells m
 have i:=g.1
 obtain⟨v,q,r,s,t⟩:=vh j k (arr:=(a.eval c).cells) (cap:=1) (sz:=f.cells.length) (ex:=true) (es:=[f]) (by simp at i;omega) (by simp) (by simp)
  (by intro c d;simp at d;subst d;rfl) (by intro c d;simp[d6]at d;exact p c d)
  (by
    have:d6 [f]=f.cells:=by simp[d6]
    rw[this,i,aQ];exact g)
 rw[iX]
 refine⟨.pointer (some ⟨w.heap.size,0,none⟩),_,v,.inl ?_,.ptr _ 0 0 0 _ _ t (au _) (λ_=>by simp),q,r,s⟩
 simp[execOp,n,Instr.box,newVar,newRow]
theorem PB(b c:List T):over b c=if c.length<=b.length then some (c++b.drop c.length)else none:=by
 induction c generalizing b with
 |nil=>rfl
 |cons i c f=>cases b with
  |nil=>rfl
  |cons j b=>
   show(dB (over b c) λg=>some (i::g))=_
   rw[f]
   by_cases d:c.length<=b.length<;>simp[d]
theorem r6(b:List T)(c:Nat)(d:List T):jY b c d=if c+d.length<=b.length then some (b.take c++d++b.drop (c+d.length))else none:=by
 induction c generalizing b with
 |zero=>show over b d=_;rw[PB];simp
 |succ c j=>cases b with
  |nil=>show none=_;simp
  |cons g b=>
   show(dB (jY b c d) λk=>some (g::k))=_
   rw[j]
   have i:c+1+d.length=(c+d.length)+1:=by omega
   by_cases f:c+d.length<=b.length
   ·rw[aq f,aq (by simp;omega),i];simp
   ·rw[ao f,ao (by simp;omega)];rfl
theorem nG{c f g:List T}{d:Nat}(b:jY c d f=some g):d+f.length<=c.length/\g=c.take d++f++c.drop (d+f.length):=by
 rw[r6]at b
 split at b
 ·simp at b;exact⟨by assumption,by rw[<-b];simp⟩
 ·simp at b
theorem HZ{f j i:List T}{m:Nat}(l:jY f m j=some i){d:T->Prop}(g:∀c∈f,d c)(k:∀c∈j,d c):∀c∈i,d c:=by
 obtain⟨_,rfl⟩:=nG l
 intro c b
 rcases List.mem_append.1 b with b|b
 ·rcases List.mem_append.1 b with b|b
  ·exact g c (bG b)
  ·exact k c b
 ·exact g c (bE b)
theorem C5{cells:af am}{c:am}{off:Nat}(l:off+c.cells.size<=cells.size):
 (c.cells.zipIdx.foldl (λd (b:am×Nat)=>d.setIfInBounds (off+b.2) b.1) cells).toList=cells.toList.take off++c.cells.toList++cells.toList.drop (off+c.cells.size):=by
 have j:c.cells.zipIdx.foldl (λd (b:am×Nat)=>d.setIfInBounds (off+b.2) b.1) cells=(c.cells.toList.zipIdx 0).foldl (λd (b:am×Nat)=>d.setIfInBounds (off+b.2) b.1) cells:=by
  rw[<-Array.foldl_toList,Array.toList_zipIdx]
 rw[j]
 obtain⟨k,i⟩:=Great.foldl_set off c.cells.toList 0 cells
 apply cV
 intro f
 have:=i f
 rw[<-Array.getElem?_toList]at this
 rw[this]
 simp only[Nat.add_zero,bZ]
 rcases aD f off with hk|hk
 ·rw[ao (by omega),aI,bW (by simp;omega),bK,aq hk]
  simp
 ·rcases aD f (off+c.cells.size)with g|g
  ·rw[aq ⟨hk,g,by omega⟩,aI,cq (by simp;omega)]
   have:(cells.toList.take off).length=off:=by simp;omega
   rw[this,bW (by simp;omega)]
  ·rw[ao (by omega),aI,cq (by simp;omega)]
   have:(cells.toList.take off).length=off:=by simp;omega
   rw[this,cq (by simp;omega),bH]
   simp only[bZ,Array.getElem?_toList]
   congr 1;omega
theorem By(c:Nat->aa (Nat×Nat))(b:Nat×T)(f:List (Nat×T))(d:List T):
 lK c (b::f) d=dB (c b.1) λg=>fy (Nat.beq (kc b.2.cells) g.2) (dB (jY d g.1 b.2.cells) λi=>lK c f i):=rfl
def Ls(hp:af Obj)(μ:Mu)(g:List (Nat×T))(qs:List (Nat×am)):Prop:=
 g.length=qs.length/\∀(f:Nat) d b,g[f]? =some (d,b)->∃c,qs[f]? =some (d,c)/\eg hp μ b c/\b.fT=true
theorem Ls.ll{b:Nat×T}{g:List (Nat×T)}{qs:List (Nat×am)}(h:Ls hp μ (b::g) qs):∃c i,qs=(b.1,c)::i/\eg hp μ b.2 c/\b.2.fT=true/\Ls hp μ g i:=by
 obtain⟨hl,f⟩:=h
 cases qs with
 |nil=>simp at hl
 |cons p qs=>
  obtain⟨c,d,hr,j⟩:=f 0 b.1 b.2 (by simp)
  simp at d;subst d
  exact⟨c,qs,rfl,hr,j,by simpa using hl,λm l n k=>by simpa using f (m+1) l n (by simpa using k)⟩
theorem vU(x:St cx base w.heap μ h)(v:jS w.heap μ mask e a.tmps){d:List (Nat×ah)}{j:List (Nat×T)}(k:partsOf cx mask e d=some j):
 Ls w.heap μ j (d.map λp=>(p.1,a.eval p.2)):=by
 unfold partsOf at k
 obtain⟨hl,r⟩:=qF.1 k
 refine⟨by simp[hl],λc t f g=> ?_⟩
 have m:c<d.length:=by
  rcases aD c j.length with y|y
  ·omega
  ·rw[aM y]at g;simp at g
 obtain⟨y,i,b⟩:=r c d[c] (by simp[m])
 rw[g]at i;simp at i;subst i
 rcases l:d[c]with⟨u,n⟩
 rw[l]at b
 have b:(dB (eJ cx mask e n) λf=>fy f.fT (some (u,f)))=some (t,f):=b
 obtain⟨z,s,b⟩:=dj.1 b
 obtain⟨q,b⟩:=dz.1 b
 simp at b
 obtain⟨rfl,rfl⟩:=b
 exact⟨a.eval n,by simp[m,l],fG x v s,q⟩
theorem t9{u place':Nat->aa (Nat×Nat)}(I:∀t f,u t=some f->place' t=some f):∀(k:List (Nat×T)) (qs:List (Nat×am)) (d g:List T) (cells:af am),
 Ls hp μ k qs->fI hp μ d cells.toList->(∀n∈d,n.scalar=true)->lK u k d=some g->
 ∃j,Instr.fill place' cells qs=some j/\fI hp μ g j.toList/\(∀n∈g,n.scalar=true)/\j.size=cells.size:=by
 intro k
 induction k with
 |nil=>
  intro qs d g cells hp i m b
  have:qs=[]:=bh hp.1.symm
  subst this
  have:g=d:=by simpa[lK]using b.symm
  subst this
  exact⟨cells,rfl,i,m,rfl⟩
 |cons S k K=>
  intro qs d g cells A i m b
  obtain⟨c,Q,rfl,hr,E,B⟩:=A.ll
  rw[By]at b
  obtain⟨f,J,b⟩:=dj.1 b
  obtain⟨hl,b⟩:=dz.1 b
  obtain⟨q,r,b⟩:=dj.1 b
  obtain⟨p,x,_⟩:=hr.cells E
  have G:=aC hl
  rw[iX]at G
  obtain⟨R,D⟩:=nG r
  have y:=i.1
  have l:=p.1
  simp only[bZ]at y l
  have F:f.1+c.cells.size<=cells.size:=by omega
  have s:=C5 (cells:=cells) (c:=c) F
  have z:fI hp μ q (c.cells.zipIdx.foldl (λd (v:am×Nat)=>d.setIfInBounds (f.1+v.2) v.1) cells).toList:=by
   rw[s,D,<-l]
   exact((i.take f.1).append p).append (by rw[l];exact i.drop _)
  obtain⟨j,L,M,N,O⟩:=K Q q g _ B z (HZ r m x) b
  refine⟨j,?_,M,N,?_⟩
  ·simp only[Instr.fill,I _ _ J]
   have C:¬(c.cells.size≠f.2||decide (f.1+c.cells.size>cells.size))=true:=by simp;omega
   rw[ao C]
   exact L
  ·rw[O]
   have:=bO List.length s
   simp only[bZ,aP,List.length_take,List.length_drop]at this
   omega
end
end
noncomputable section
section
variable {P:ai}{cx:Ctx}{base:Nat}{w:World}{μ:Mu}{h h':H}{mask:Nat}{e:Env}{a:Act}{o:Oper}{hp hp':af Obj}
theorem ze:∀(g:List Field),(∀f∈g,∃b,P.info? f.type=some b/\b.size≠0)->∃m,g.mapM (λf=>(P.info? f.type).map λb=>(f.offset,b.size))=some m/\
 ∀(c:Nat) f b,g[c]? =some f->P.info? f.type=some b->m[c]? =some (f.offset,b.size)
 | [],_=>⟨[],rfl,λc f b d=>by simp at d⟩
 |f::g,k=>by
  obtain⟨b,l,_⟩:=k f (by simp)
  obtain⟨s,n,p⟩:=ze g λj q=>k j (by simp[q])
  refine⟨(f.offset,b.size)::s,by simp[List.mapM_cons,l,n],λc j r d i=> ?_⟩
  cases c with
  |zero=>simp at d;subst d;rw[l]at i;simp at i;subst i;simp
  |succ c=>simp at d;simpa using p c j r d i
theorem xl(c:af (Nat×ah)):(c.map λ(d,f)=>(d,a.eval f)).toList=c.toList.map λb=>(b.1,a.eval b.2):=by
 simp
theorem DW(iB:iG P cx){t:ab}{D:af (Nat×ah)}(Q:St cx base w.heap μ h)(r:jS w.heap μ mask e a.tmps)(Y:o.op= .build t D){l:T}
 (b:yG t D cx mask e h=some (.val l h')):iM cx base w μ h.size ((execOp a.eval o).run P w) l h':=by
 replace b:=dj.1 b;obtain⟨aX,aA,b⟩:=b
 replace b:=dj.1 b;obtain⟨O,al,b⟩:=b
 have J:=vU Q r al
 obtain⟨a8,d,R,F,G,I,U,x,_⟩:=(iB.ty _ _ aA).unfold
 obtain⟨L,M⟩:=fI.rn (hp:=w.heap) (μ:=μ) U
 have fin:∀(j:af am) (g:List T),P.built t (D.toList.map λN=>(N.1,a.eval N.2))=some j->fI w.heap μ g j.toList->(∀l∈g,l.scalar=true)->l= .agg g->h'=h->
  iM cx base w μ h.size ((execOp a.eval o).run P w) l h':=by
  rintro j g K V an rfl rfl
  refine iM.pure Q ?_ (eg.xS V an)
  rw[<-xl]at K
  simp only[execOp,Y,Sem.run_bind,run_build w t _ j K,Result.andThen_ok,Sem.run_pure]
 cases aE:aX.u<;>rw[aE]at b x<;>simp at b
 ·rename_i n a6
  have:=qd x;subst this
  replace b:=dj.1 b;obtain⟨bi,ap,b⟩:=b
  replace b:=dj.1 b;obtain⟨g,y,b⟩:=b
  obtain⟨m,rfl⟩:=ff.1 b
  simp at m;subst m
  obtain⟨s,_,_,p,_,_,_,_,_,_,v,_⟩:=(iB.ty _ _ ap).unfold
  obtain⟨j,A,B,C,_⟩:=t9 (place':=λk=>some (k*s.size,s.size)) (by intro k q c;rw[v];exact c) O _ _ _ R.cells J L M y
  exact fin j g (by simp only[Program.built,F,G,I,p];exact A) B C rfl rfl
 ·rename_i a7
  obtain⟨E,rfl,X,W⟩:=wn x
  replace b:=dj.1 b;obtain⟨g,y,b⟩:=b
  obtain⟨m,rfl⟩:=ff.1 b
  simp at m;subst m
  obtain⟨aN,Z,ae⟩:=ze E.toList W
  obtain⟨j,A,B,C,_⟩:=t9 (place':=λk=>aN.toArray[k]?) (by
   intro k q c
   obtain⟨f,i,c⟩:=dj.1 c
   obtain⟨bk,av,c⟩:=dj.1 c
   simp at c
   rw[X]at i
   rw[aT]at i
   cases z:E.toList[k]? with
   |none=>rw[z]at i;simp at i
   |some S=>
    rw[z]at i;simp at i
    obtain⟨s,_,_,p,_,_,_,_,_,_,v,_⟩:=(iB.ty _ _ av).unfold
    rw[<-i]at p
    have:=ae k S s z p
    rw[<-i]at c
    simp only[]at c
    rw[<-c,<-v]
    simpa using this) O _ _ _ R.cells J L M y
  exact fin j g (by simp only[Program.built,F,G,I,Z];exact A) B C rfl rfl
theorem Gm{d:Nat}{b:List T}(g:∀f∈b,f.cells.length=d){c:Nat}(i:c<b.length)(f:T):d6 (b.set c f)=(d6 b).take (c*d)++f.cells++(d6 b).drop (c*d+d):=by
 rw[ql g,<-bU,oD g,List.set_eq_take_append_cons_drop,aq i,mp,kY,aI]
theorem qN{c:T}(b:Nat):d6 (List.replicate b c)=(List.replicate b c.cells).flatten:=by
 induction b with
 |zero=>rfl
 |succ b d=>rw[cW,kY,d,cW,List.flatten_cons]
theorem yc{b:af am}(c:Nat)(j:0<b.size):((Array.range (c*b.size)).map (b[· % b.size]!)).toList=(List.replicate c b.toList).flatten:=by
 induction c with
 |zero=>simp
 |succ c g=>
  have f:(Array.range ((c+1)*b.size)).toList=(Array.range (c*b.size)).toList++(List.range b.size).map (c*b.size+ ·):=by
   simp only[Array.toList_range]
   rw[bU,List.range_add]
  rw[Array.toList_map,f,List.map_append,<-Array.toList_map,g,List.replicate_succ',List.flatten_append]
  congr 1
  simp only[List.flatten_cons,List.flatten_nil,bL,cG]
  apply List.ext_getElem
  ·simp
  ·intro k d i
   simp at d
   simp[Nat.mod_eq_of_lt d,d]
theorem fI.replicate{d:List T}{c:List am}(f:fI hp μ d c)(b:Nat):fI hp μ (List.replicate b d).flatten (List.replicate b c).flatten:=by
 induction b with
 |zero=>exact fI.nil
 |succ b g=>rw[cW,cW,List.flatten_cons,List.flatten_cons];exact f.append g
theorem Bx(b:Nat)(f:Nat)(c:T)(g:List (Nat×T))(d:List T):oE b ((f,c)::g) d=fy (Nat.beq (kc c.cells) b) (dB (kf d f c) λi=>oE b g i):=rfl
theorem zG{b:Nat}(Y:0<b):∀(p:List (Nat×T)) (qs:List (Nat×am)) (g i:List T) (cells:af am),
 Ls hp μ p qs->(∀d∈g,d.cells.length=b)->fI hp μ (d6 g) cells.toList->(∀d∈d6 g,d.scalar=true)->oE b p g=some i->
 ∃r,Instr.fill (λk=>some (k*b,b)) cells qs=some r/\fI hp μ (d6 i) r.toList/\(∀d∈d6 i,d.scalar=true)/\(∀d∈i,d.cells.length=b)/\i.length=g.length:=by
 intro p
 induction p with
 |nil=>
  intro qs g i cells hp n l q j
  have:qs=[]:=bh hp.1.symm
  subst this
  have:i=g:=by simpa[oE]using j.symm
  subst this
  exact⟨cells,rfl,l,q,n,rfl⟩
 |cons V p M=>
  intro qs g i cells C n l q j
  obtain⟨c,W,rfl,hr,G,D⟩:=C.ll
  obtain⟨k,d⟩:=V
  rw[Bx]at j
  obtain⟨hl,j⟩:=dz.1 j
  obtain⟨X,m,j⟩:=dj.1 j
  have s:=aC hl
  rw[iX]at s
  rw[kh]at m
  split at m
  ·rename_i y
   simp at m;subst m
   obtain⟨t,A,_⟩:=hr.cells G
   have u:=l.1
   have v:=t.1
   simp only[bZ]at u v
   have F:=fM n
   have I:k*b+c.cells.size<=cells.size:=by
    rw[<-u,F,<-v,s,<-bU]
    exact aV _ y
   have K:=C5 (cells:=cells) (c:=c) I
   have x:=Gm n y d
   have L:∀f∈g.set k d,f.cells.length=b:=by
    intro f hx
    rcases cE hx with N|rfl
    ·exact n f N
    ·exact s
   have B:fI hp μ (d6 (g.set k d)) (c.cells.zipIdx.foldl (λz (f:am×Nat)=>z.setIfInBounds (k*b+f.2) f.1) cells).toList:=by
    rw[K,x]
    have:c.cells.size=b:=by omega
    rw[this]
    exact((l.take _).append t).append (l.drop _)
   have J:∀f∈d6 (g.set k d),f.scalar=true:=by
    intro f hx
    rw[x]at hx
    rcases List.mem_append.1 hx with hx|hx
    ·rcases List.mem_append.1 hx with hx|hx
     ·exact q f (bG hx)
     ·exact A f hx
    ·exact q f (bE hx)
   obtain⟨r,O,Q,R,S,U⟩:=M W _ i _ D L B J j
   refine⟨r,?_,Q,R,S,by simpa using U⟩
   simp only[Instr.fill]
   have E:¬(c.cells.size≠b||decide (k*b+c.cells.size>cells.size))=true:=by simp;omega
   rw[ao E]
   exact O
  ·simp at m
theorem xy(iB:iG P cx){M:ab}{c:Nat}{A:af (Nat×ah)}(L:St cx base w.heap μ h)(r:jS w.heap μ mask e a.tmps)(F:o.op= .buildSlice M c A){g:T}
 (b:nl M c A cx mask e h=some (.val g h')):iM cx base w μ h.size ((execOp a.eval o).run P w) g h':=by
 replace b:=dj.1 b;obtain⟨bp,Z,b⟩:=b
 obtain⟨d,D,I⟩:=ky (iB.ty _ _ Z)
 cases al:bp.u<;>rw[al]at b I<;>simp at b
 rename_i C
 have:=kS I;subst this
 replace b:=dj.1 b;obtain⟨f,p,b⟩:=b
 replace b:=dj.1 b;obtain⟨bn,W,b⟩:=b
 replace b:=dz.1 b;obtain⟨G,b⟩:=b
 replace b:=dz.1 b;obtain⟨m,b⟩:=b
 replace b:=dj.1 b;obtain⟨es,E,b⟩:=b
 rw[iS,H.j4]at b
 simp only[ar,ax]at b
 obtain⟨rfl,rfl⟩:=b
 have G:=bA G
 have m:=bA m
 have m:c*f.size<=65536:=m
 rw[<-mU]at*
 have N:=vU L r W
 obtain⟨B,J,bz,av,aE,aA,s,bB,aN⟩:=(iB.ty _ _ p).zero w
 have Q:∃j:af am,(if c*f.size=0 then(pure #[]:Sem (af am))else do pure (<-zeroValue C).cells).run P w= .ok (if c*f.size=0 then #[]else B.cells) w/\
  ((Array.range (c*f.size)).map ((if c*f.size=0 then #[]else B.cells)[· % (if c*f.size=0 then #[]else B.cells).size]!))=j/\fI w.heap μ (d6 (List.replicate c f.jI)) j.toList:=by
  by_cases i:c*f.size=0
  ·have S:c=0:=by
    rcases Nat.mul_eq_zero.1 i with k|k
    ·exact k
    ·omega
   subst S
   refine⟨_,by simp,rfl,?_⟩
   simp[d6]
   exact fI.nil
  ·refine⟨_,by simp[i,J],rfl,?_⟩
   rw[ao i,<-aN,yc c (by omega),qN,s]
   exact(av _ _).replicate c
 obtain⟨j,bv,q,ap⟩:=Q
 have ae:∀g∈List.replicate c f.jI,g.cells.length=f.size:=by
  intro g l;rw[bQ l,s];exact aA
 have Y:∀g∈d6 (List.replicate c f.jI),g.scalar=true:=by
  intro g l
  obtain⟨y,an,l⟩:=List.mem_flatMap.1 l
  rw[bQ an,s]at l
  exact aE g l
 rw[mU]at E
 obtain⟨z,n,v,bi,K,bk⟩:=zG (by omega) bn _ _ es j N ae ap Y E
 have R:es.length=c:=by simpa using bk
 have V:z.size=c*f.size:=by
  have:=v.1
  rw[fM K,R]at this
  simpa using this.symm
 obtain⟨bs,aX,a6,a7,a8⟩:=vh L C (arr:=z) (cap:=c) (sz:=f.size) (ex:=true) (es:=es) V (by omega) (by omega) K bi (by
  rw[bJ]
  ·exact v
  ·have:=v.1;simp at this|-;omega)
 refine⟨.slice (some ⟨w.heap.size,0,none⟩) c c,_,bs,.inl ?_,.arr _ 0 0 c false _ _ c a8 (au _) (au _) (λ_=>⟨by simp,by simp,by simp⟩),aX,a6,a7⟩
 have U:¬c*f.size>2^24:=by omega
 have bu:Instr.fill (λt=>some (t*f.size,f.size)) j (A.map λ(t,x)=>(t,a.eval x)).toList=some z:=by rw[xl];exact n
 by_cases i:c*f.size=0
 ·have O:j= #[]:=by rw[<-q,i];simp
  rw[O]at n
  have X:Array.map (λ_=>(default:am)) (Array.range 0)= #[]:=by simp
  simp[execOp,F,Instr.buildSlice,run_underlying D,(iB.ty _ _ p).run_sizeOf,i,X,n,newRow]
 ·simp only[i,bm]at q
  simp[execOp,F,Instr.buildSlice,run_underlying D,(iB.ty _ _ p).run_sizeOf,i,U,J,q,n,newRow]
set_option maxRecDepth 20000 in
theorem yA(iB:iG P cx){U:ab}{V A:ah}(z:St cx base w.heap μ h)(S:jS w.heap μ mask e a.tmps)(I:o.op= .makeSlice U V A){i:T}
 (b:ox U V A cx mask e h=some (.val i h')):iM cx base w μ h.size ((execOp a.eval o).run P w) i h':=by
 replace b:=dj.1 b;obtain⟨bk,ap,b⟩:=b
 obtain⟨d,G,M⟩:=ky (iB.ty _ _ ap)
 cases av:bk.u<;>rw[av]at b M<;>simp at b
 rename_i E
 have:=kS M;subst this
 replace b:=dj.1 b;obtain⟨f,s,b⟩:=b
 replace b:=dj.1 b;obtain⟨p,hp,b⟩:=b
 replace b:=dj.1 b;obtain⟨q,al,b⟩:=b
 replace b:=dj.1 b;obtain⟨g,hl,b⟩:=b
 replace b:=dj.1 b;obtain⟨c,X,b⟩:=b
 replace b:=dz.1 b;obtain⟨J,b⟩:=b
 replace b:=dz.1 b;obtain⟨F,b⟩:=b
 replace b:=dz.1 b;obtain⟨n,b⟩:=b
 replace b:=dz.1 b;obtain⟨r,b⟩:=b
 rw[iS,H.j4]at b
 simp only[ar,ax]at b
 obtain⟨rfl,rfl⟩:=b
 have J:=bA J
 have F:=bA F
 have n:=bA n
 have r:c*f.bytes<=70368744177664:=bA r
 obtain⟨bB,rfl⟩:=mQ hl
 obtain⟨bN,rfl⟩:=mQ X
 have N:=(fG z S hp).jr
 have v:=(fG z S al).jr
 obtain⟨B,O,bv,aA,aN,aE,y,bz,aX⟩:=(iB.ty _ _ s).zero w
 obtain⟨bT,L,K,bs⟩:=(iB.ty _ _ s).run_typeInfo w
 have bp:c<=70368744177664:=aS (Nat.le_mul_of_pos_right c (by omega)) r
 have Y:∃m:af am,(if c*f.size=0 then(pure #[]:Sem (af am))else do pure (<-zeroValue E).cells).run P w= .ok (if c*f.size=0 then #[]else B.cells) w/\
  ((Array.range (c*f.size)).map ((if c*f.size=0 then #[]else B.cells)[· % (if c*f.size=0 then #[]else B.cells).size]!))=m/\fI w.heap μ (d6 (List.replicate c f.jI)) m.toList:=by
  by_cases j:c*f.size=0
  ·have Z:c=0:=by
    rcases Nat.mul_eq_zero.1 j with k|k
    ·exact k
    ·omega
   subst Z
   refine⟨_,by simp,rfl,?_⟩
   simp[d6]
   exact fI.nil
  ·refine⟨_,by simp[j,O],rfl,?_⟩
   rw[ao j,<-aX,yc c (by omega),qN,y]
   exact(aA _ _).replicate c
 obtain⟨m,bu,x,Q⟩:=Y
 have t:∀R,∀i∈List.replicate R f.jI,i.cells.length=f.size:=by
  intro R i l;rw[bQ l,y];exact aE
 have an:∀i∈d6 (List.replicate g f.jI),i.scalar=true:=by
  intro i l
  obtain⟨A,v,l⟩:=List.mem_flatMap.1 l
  rw[bQ v,y]at l
  exact aN i l
 have ae:m.size=c*f.size:=by
  have:=Q.1
  rw[fM (t c)]at this
  simpa using this.symm
 obtain⟨bn,a6,a7,a8,bi⟩:=vh z E (arr:=m) (cap:=c) (sz:=f.size) (ex:=Nat.beq g c) (es:=List.replicate g f.jI) ae (by simpa using n) (by intro W;simp;exact(aC W).symm) (t g) an (by
  rw[fM (t g),List.length_replicate]
  have:=Q.take (g*f.size)
  rw[ql (t c)]at this
  rw[List.take_replicate,cr n]at this
  exact this)
 refine⟨.slice (some ⟨w.heap.size,0,none⟩) g c,_,bn,.inl ?_,.arr _ 0 0 g false _ _ c bi (au _) n (λ_=>⟨by simp,by simp,by simp⟩),a6,a7,a8⟩
 have C:IntKind.i64.wrap (Int.ofNat c)=(c:Int):=IntWalk.i64_in (c:Int) ⟨by omega,by omega⟩
 have D:IntKind.i64.wrap (Int.ofNat g)=(g:Int):=IntWalk.i64_in (g:Int) ⟨by omega,by omega⟩
 have t1:¬((f.bytes:Int)*(c:Int)>2^48):=by
  have:((c*f.bytes:Nat):Int)<=70368744177664:=Int.ofNat_le.2 r
  rw[Int.mul_comm];push_cast at this;omega
 have t2:(decide ((c:Int)<0)||decide ((f.bytes:Int)*(c:Int)>2^48)||decide ((g:Int)<0)||decide ((g:Int)>(c:Int)))=false:=by
  simp only[bI,bo]
  exact⟨⟨⟨by omega,t1⟩,by omega⟩,by omega⟩
 by_cases j:c*f.size=0
 ·simp only[j,aY]at x
  simp only[execOp,I,Instr.makeSlice,Sem.run_bind,run_underlying G,Result.andThen_ok,N,v,asInt,asIntOf,Sem.run_pure,L,K,C,D,t2,ci,bm,run_askRoom,(iB.ty _ _ s).run_sizeOf,cF,j,aY,x,newRow,run_newObj]
 ·simp only[j,bm]at x
  simp only[execOp,I,Instr.makeSlice,Sem.run_bind,run_underlying G,Result.andThen_ok,N,v,asInt,asIntOf,Sem.run_pure,L,K,C,D,t2,ci,bm,run_askRoom,(iB.ty _ _ s).run_sizeOf,cF,j,O,x,newRow,run_newObj]
theorem DR{f:ab}{i:ah}(d:St cx base w.heap μ h)(t:jS w.heap μ mask e a.tmps)(l:o.op= .range f i)(m:P.underlying f=some .string){g:T}
 (b:Bj i cx mask e h=some (.val g h')):iM cx base w μ h.size ((execOp a.eval o).run P w) g h':=by
 replace b:=dj.1 b;obtain⟨s,hp,b⟩:=b
 cases s<;>simp at b
 rename_i c
 rw[iS,H.j4]at b
 simp only[ar,ax]at b
 obtain⟨rfl,rfl⟩:=b
 obtain⟨k,j⟩:=(fG d t hp).kR
 obtain⟨p,q,r⟩:=d.new (.stringIter (bytesOf c) 0) ⟨0,w.heap.size,0,1⟩ ⟨1,0,0,true,true,[.str c,.int .i64 0]⟩ rfl (by
  intro u
  refine⟨rfl,rfl,λn=>by simp at n,λ_=>⟨rfl,.inl ⟨c,0,rfl,j,by simp⟩⟩⟩)
 refine⟨.pointer (some ⟨w.heap.size,0,none⟩),{w with heap:=w.heap.push (.stringIter (bytesOf c) 0)},_,.inl ?_,.iter _ _ _ (iW _ _ _) (λ_=>rfl),p,⟨q,rfl,rfl,rfl⟩,r⟩
 simp[execOp,l,Instr.range,run_underlying m,k]
end
end
noncomputable section
section
variable {P:ai}{cx:Ctx}{base:Nat}{w:World}{μ:Mu}{h h':H}{mask:Nat}{e:Env}{a:Act}{o:Oper}{hp hp':af Obj}
theorem St.AG(l:St cx base hp μ h){d:Nat}{c:Loc}{b:iE}(i:μ d=some c)(j:h.get d=some b)(k:b.it=false):xX hp μ c b.exact b.dO/\b.ep=c.ep/\b.sz=c.sz:=by
 obtain⟨m,f,g⟩:=l.box d c i
 rw[j]at f;simp at f;subst f
 exact⟨g.plain k,g.ep,g.sz⟩
theorem xY(p:St cx base w.heap μ h){f:Nat}{b:Loc}{k:iE}(n:μ f=some b)(u:h.get f=some k)(v:k.it=false){l arr':af am}{i:ab}(B:w.heap[b.io]? =some (.cells l i (0,0)))
 {ep' M:Nat} {m:Bool} {c:List T} (r:ep'=b.ep\/ep'=b.ep+1) (z:h.put f ⟨k.sz,ep',M,m,false,c⟩=some h') (E:arr'.size=b.cap*b.sz) (A:c.length<=b.cap) (s:m=true->b.cap=c.length)
 (F:∀j∈c,j.cells.length=b.sz) (D:∀j∈d6 c,j.scalar=true) (q:fI w.heap μ (d6 c) (arr'.toList.take (d6 c).length)):
 ∃g,St cx base (w.setRow b.io arr').heap g h'/\oI w μ (w.setRow b.io arr') g/\wZ μ g h.size h'.size/\g f=some ⟨ep',b.io,b.cap,b.sz⟩:=by
 obtain⟨N,O,G⟩:=p.AG n u v
 have y:∀d,d<w.heap.size->d≠b.io->(w.setRow b.io arr').heap[d]? =w.heap[d]? :=λd _ x=>setRow_other w b.io d arr' x
 have C:=setRow_heap w b.io l arr' i (0,0) B
 obtain⟨J,K,L⟩:=p.change (L':=⟨ep',b.io,b.cap,b.sz⟩) n z (by simp) y (by
  rcases r with rfl|rfl
  ·exact .inl rfl
  ·exact .inr ⟨by simp,.inl rfl⟩) (by
  intro t
  refine⟨rfl,G,λ_=>⟨⟨arr',i,C,E,q.ext t⟩,A,s,F,D⟩,λI=>by simp at I⟩)
 exact⟨_,J,⟨K,rfl,rfl,rfl⟩,L,iW _ _ _⟩
theorem yT{j:Type}(b d:List j){o c:Nat}(k:o+d.length<=c)(l:c<=b.length):(b.take o++d++b.drop (o+d.length)).take c=(b.take c).take o++d++(b.take c).drop (o+d.length):=by
 rw[List.take_append,List.take_append]
 have f:(b.take o).take c=(b.take c).take o:=by rw[List.take_take,List.take_take,Nat.min_comm]
 have g:(b.take o).length=o:=by simp;omega
 have i:(b.take o++d).length=o+d.length:=by simp;omega
 rw[f,g,i]
 congr 1
 ·congr 1
  rw[bJ (by omega)]
 ·rw[List.drop_take]
theorem LR{b c:T}{g:Nat}{f:List T}(q:∀r∈f,r.scalar=true)(d:lr b g f=some c):
 g+f.length<=b.cells.length/\c.cells=b.cells.take g++f++b.cells.drop (g+f.length):=by
 by_cases i:∃j,b= .agg j
 ·obtain⟨j,rfl⟩:=i
  obtain⟨s,l,k⟩:=dj.1 d
  simp at k;subst k
  exact nG l
 ·have n:b.cells=[b]:=by cases b<;>first|rfl|exact absurd ⟨_,rfl⟩ i
  have m:g=0/\f=[c]:=by
   unfold lr at d
   cases b<;>first|(exact absurd ⟨_,rfl⟩ i)|(simp only[]at d;split at d<;>simp at d;subst d;exact⟨rfl,rfl⟩)
  obtain⟨rfl,rfl⟩:=m
  have p:=q c (by simp)
  have:c.cells=[c]:=by cases c<;>simp[T.scalar]at p<;>rfl
  rw[n,this]
  simp
theorem DP(iB:iG P cx){t:ab}{x n:ah}(E:St cx base w.heap μ h)(r:jS w.heap μ mask e a.tmps)(bz:o.op= .store t x n){k:T}
 (f:Bh t x n cx mask e h=some (.val k h')):iM cx base w μ h.size ((execOp a.eval o).run P w) k h':=by
 replace f:=dj.1 f;obtain⟨cL,b7,f⟩:=f
 replace f:=dj.1 f;obtain⟨p,hp,f⟩:=f
 replace f:=dj.1 f;obtain⟨u,bN,f⟩:=f
 replace f:=dz.1 f;obtain⟨bs,f⟩:=f
 replace f:=dj.1 f;obtain⟨Q,b,f⟩:=f
 simp at f;obtain⟨rfl,rfl⟩:=f
 have b8:=fG E r hp
 obtain⟨ap,qs,ce⟩:=(fG E r bN).cells bs
 have bB:∃z F c i,p= .ptr z F c i:=by
  unfold H.store at b
  cases p<;>first|(exact⟨_,_,_,_,rfl⟩)|(simp at b)
 obtain⟨z,F,c,i,rfl⟩:=bB
 unfold H.store at b
 replace b:=dz.1 b;obtain⟨D,b⟩:=b
 replace b:=dj.1 b;obtain⟨aE,S,b⟩:=b
 obtain⟨av,G,aA,N,an,d⟩:=aE
 have b:fy (Nat.beq G F) (@Bool.rec (λ_=>aa H) (dB (kW d c) λl=>dB (lr l i u.cells) λm=>dB (kf d c m) λA=>dB (fF (Nat.succ aA)) λM=>h.put z ⟨av,G,M,N,false,A⟩) none an)=some Q:=b
 replace b:=dz.1 b;obtain⟨W,b⟩:=b
 cases an with
 |true=>simp at b
 |false=>
  have b:(dB (kW d c) λl=>dB (lr l i u.cells) λm=>dB (kf d c m) λA=>dB (fF (Nat.succ aA)) λM=>h.put z ⟨av,G,M,N,false,A⟩)=some Q:=b
  replace b:=dj.1 b;obtain⟨l,B,b⟩:=b
  replace b:=dj.1 b;obtain⟨m,bn,b⟩:=b
  replace b:=dj.1 b;obtain⟨A,y,b⟩:=b
  simp only[gD,dD]at b
  rw[j9]at B
  have W:=aC W
  have D:=aC D
  rw[iX]at D
  rw[kh]at y
  split at y
  ·rename_i C
   simp at y;subst y
   obtain⟨g,c1,bT,R,_,a7⟩:=b8.oJ
   obtain⟨q,O,aN⟩:=E.AG R S rfl
   simp only[]at O aN
   have a8:=a7 (by omega)
   subst a8
   obtain⟨v,cp,Y,ae,I⟩:=q.row
   have s:=q.size
   simp only[]at s I
   have bv:l∈d:=az B
   obtain⟨bu,U⟩:=LR qs bn
   have c6:=s l bv
   have bk:d[c]=l:=by rw[aB C]at B;simpa using B
   have J:=fM s
   have X:d6 (d.set c m)=(d6 d).take (c*g.sz+i)++u.cells++(d6 d).drop (c*g.sz+i+u.cells.length):=by
    rw[Gm s C,U]
    have V:(d6 d).drop (c*g.sz)=l.cells++(d6 d).drop (c*g.sz+g.sz):=by
     rw[<-bU,oD s,oD s,aJ C,bk,kY]
    have ht:(d6 d).take (c*g.sz+i)=(d6 d).take (c*g.sz)++l.cells.take i:=by
     rw[List.take_add,V,cQ (by omega)]
    have bi:(d6 d).drop (c*g.sz+i+u.cells.length)=l.cells.drop (i+u.cells.length)++(d6 d).drop (c*g.sz+g.sz):=by
     rw[cD,<-List.drop_drop,V,List.drop_append_of_le_length bu]
    rw[ht,bi]
    simp[aI]
   have c4:c*g.sz+i+u.cells.length<=(d6 d).length:=by
    rw[J]
    have:(c+1)*g.sz<=d.length*g.sz:=aV _ C
    rw[bU]at this
    omega
   have a6:(d6 d).length<=v.size:=by
    rw[J,ae];exact aV _ q.room
   have K:=ap.1
   have al:∀k∈d.set c m,k.cells.length=g.sz:=by
    intro k j
    rcases cE j with L|rfl
    ·exact s k L
    ·rw[U];simp;omega
   have bX:∀k∈d6 (d.set c m),k.scalar=true:=by
    intro k j
    rw[X]at j
    rcases List.mem_append.1 j with j|j
    ·rcases List.mem_append.1 j with j|j
     ·exact q.scalar k (bG j)
     ·exact qs k j
    ·exact q.scalar k (bE j)
   have bp:(d6 (d.set c m)).length=(d6 d).length:=by
    rw[fM al,J];simp
   have aX:fI w.heap μ (d6 (d.set c m)) ((v.toList.take (c*g.sz+i)++(a.eval n).cells.toList++v.toList.drop (c*g.sz+i+(a.eval n).cells.toList.length)).toArray.toList.take (d6 (d.set c m)).length):=by
    rw[bp,X]
    rw[cY,yT _ _ (by omega) (by simpa using a6)]
    rw[<-K]
    exact((I.take _).append ap).append (I.drop _)
   obtain⟨cX,b9,ca,cb,c7⟩:=xY E R S rfl Y (.inl O) b (arr':=(v.toList.take (c*g.sz+i)++(a.eval n).cells.toList++v.toList.drop (c*g.sz+i+(a.eval n).cells.toList.length)).toArray)
    (by simp only[List.size_toArray,aP,List.length_take,List.length_drop,bZ]at K|-;rw[<-ae];omega) (by simpa using q.room) (by intro L;have:=q.rQ L;simpa using this) al bX aX
   refine⟨Go.undef,_,cX,.inr ⟨?_,rfl⟩,.undef,b9,ca,cb⟩
   have Z:=run_storeCells_at (P:=P) g.io (c*g.sz+i) cp (a.eval n).cells.toList 0 v w Y (by simp only[Nat.add_zero];omega) ce
   simp only[Nat.add_zero]at Z
   have b6:(a.eval n).cells.size=cL.size:=by rw[<-D,K];simp
   simp only[execOp,bz,Instr.storeAt,Sem.run_bind,bT,Instr.sureAddr,Sem.run_pure,Result.andThen_ok,storeVar,(iB.ty _ _ b7).run_sizeOf,b6,ne_eq,not_true,bm,Z]
  ·simp at y
end
end
noncomputable section
section
variable {P:ai}{cx:Ctx}{base:Nat}{w:World}{μ:Mu}{h h':H}{mask:Nat}{e:Env}{a:Act}{o:Oper}{hp hp':af Obj}
theorem Jx{g:Nat}{c:List T}(d:fits g c=true){k:Nat}(i:∀b∈c,b.cells.length=k):∀b∈c,b.cells.length=g:=by
 cases c with
 |nil=>intro b f;simp at f
 |cons j c=>
  have d:Nat.beq (kc j.cells) g=true:=d
  have:=aC d
  rw[iX]at this
  have l:=i j (by simp)
  intro b f
  rw[i b f];omega
structure zp(P:ai)(w:World)(μ:Mu)(c:am)(es:List T)(sz:Nat):Prop where
 Hk:∀v∈es,v.cells.length=sz
 scalar:∀v∈d6 es,v.scalar=true
 form:∃ad cap news,c= .slice ad es.length cap/\es.length<=cap/\fI w.heap μ (d6 es) news/\(∀u∈news,u.oneCell'=true)/\
  ((ad=none/\es=[])\/∃x:Addr,ad=some x/\∀(j:Nat) u,news[j]? =some u->w.cell? (x.add j)=some u)
theorem fI.Dz{b:List T}{c:List am}(d:fI hp μ b c)(l:∀v∈b,v.scalar=true):∀j∈c,j.oneCell'=true:=by
 intro j m
 obtain⟨k,g,rfl⟩:=List.getElem_of_mem m
 have i:k<b.length:=by rw[d.1];exact g
 obtain⟨n,f,hr⟩:=d.get (k:=k) (v:=b[k]) (by simp[i])
 simp[g]at f;subst f
 exact qq hr (l _ (aF i))
theorem nj(s:St cx base w.heap μ h){E:T}{m:am}{es:List T}(x:eg w.heap μ E m)(c:h.iy E=some es):∃A,zp P w μ m es A:=by
 unfold H.iy at c
 cases E<;>simp at c
 ·
  rename_i W X
  subst c
  cases W with
  |nil=>
   obtain⟨k,rfl⟩:=x.sN
   refine⟨0,by simp,by simp[d6],k,0,[],rfl,au _,fI.nil,by simp,?_⟩
   cases k with
   |none=>exact .inl ⟨rfl,rfl⟩
   |some y=>exact .inr ⟨y,rfl,by simp⟩
  |cons p es=>
   obtain⟨F,off,C,A,q,Q,fz,rfl,bN,L,aN,bv,bk,bi,ap,hr⟩:=x.sO
   have D:∀f∈d6 (p::es),f.scalar=true:=λf g=>(ap f g).1
   have t:rI w.heap μ F off (d6 (p::es)):=⟨⟨q,Q,fz,L,bi,hr⟩,D⟩
   have r:fI w.heap μ (d6 (p::es)) ((q.toList.drop off).take (d6 (p::es)).length):=by
    refine⟨by simp;omega,λz f g=> ?_⟩
    have aE:z<(d6 (p::es)).length:=by
     rcases aD z (d6 (p::es)).length with y|y
     ·exact y
     ·rw[aM y]at g;simp at g
    have:=hr z f g
    have a7:off+z<q.size:=by omega
    simpa[List.getD,bK,aE,aW,a7]using this
   refine⟨A,bk,D,some ⟨F,off,none⟩,C,_,rfl,aN,r,r.Dz D,.inr ⟨_,rfl,λj u d=> ?_⟩⟩
   rw[kd]
   rw[bK]at d
   split at d
   ·rw[bH]at d
    simp only[World.cell?,L]
    simpa using d
   ·simp at d
 ·subst c
  obtain⟨k,C,rfl⟩:=x.yx
  refine⟨0,by simp,by simp[d6],k,C,[],rfl,aw _,fI.nil,by simp,?_⟩
  cases k with
  |none=>exact .inl ⟨rfl,rfl⟩
  |some y=>exact .inr ⟨y,rfl,by simp⟩
 ·rename_i b U l i X
  replace c:=dj.1 c;obtain⟨R,an,c⟩:=c
  obtain⟨A,V,bX,bs,O,n⟩:=R
  have c:fy (Nat.beq V U) (@Bool.rec (λ_=>aa (List T)) (dB (je l n) λt=>takeN i t) none O)=some es:=c
  replace c:=dz.1 c;obtain⟨K,c⟩:=c
  cases O with
  |true=>simp at c
  |false=>
   have c:(dB (je l n) λt=>takeN i t)=some es:=c
   replace c:=dj.1 c;obtain⟨t,hr,c⟩:=c
   rw[kZ]at hr
   split at hr
   ·rename_i bB
    simp at hr;subst hr
    rw[mS]at c
    split at c
    ·rename_i a6
     simp at c a6;subst c
     obtain⟨B,k,G,rfl,al,bu,av,aA⟩:=x.rD
     obtain⟨m,Y,Z⟩:=s.AG al an rfl
     simp only[]at Y Z
     have K:=aC K
     obtain⟨bn,bp,S⟩:=aA (by omega)
     obtain⟨q,Q,a8,bT,r⟩:=m.row
     have v:=m.size
     simp only[]at v r
     have J:=Bv v l i
     have M:((n.drop l).take i).length=i:=by simp;omega
     have bz:=fM v
     have I:fI w.heap μ (d6 ((n.drop l).take i)) (((q.toList.take (d6 n).length).drop (l*B.sz)).take (i*B.sz)):=by
      rw[J];exact(r.drop _).take _
     have N:∀f∈d6 ((n.drop l).take i),f.scalar=true:=by
      intro f g;rw[J]at g;exact m.scalar f (bE (bG g))
     refine⟨B.sz,λf g=>v f (bE (bG g)),N,k,G,_,by rw[M],by rw[M];exact av,I,I.Dz N,?_⟩
     by_cases ae:G=0
     ·have aX:i=0:=by omega
      subst aX
      cases k with
      |none=>exact .inl ⟨rfl,by simp⟩
      |some y=>exact .inr ⟨y,rfl,by simp⟩
     ·refine .inr ⟨_,S ae,λj u d=> ?_⟩
      rw[kd]
      rw[bK]at d
      split at d
      ·rw[bH,bK]at d
       split at d
       ·simp only[World.cell?,a8]
        simpa using d
       ·simp at d
      ·simp at d
    ·simp at c
   ·simp at hr
theorem zp.src{f:am}{c:List T}{d:Nat}(k:zp P w μ f c d){l m:ab}(j:P.underlying l=some (.slice m)):∃b,Src P d l f c.length b w/\fI w.heap μ (d6 c) b:=by
 obtain⟨s,g,b,rfl,t,i,n,p⟩:=k.form
 refine⟨b,?_,i⟩
 have hl:b.length=c.length*d:=by rw[<-i.1,fM k.Hk]
 rcases p with⟨rfl,rfl⟩|⟨r,rfl,q⟩
 ·have:b=[]:=bh (by simpa using hl)
  subst this
  exact Src.ofNil w j g
 ·exact Src.ofSlice w j r c.length g b hl q n
theorem zp.first{f:am}{c:List T}{d:Nat}(j:zp P w μ f c d):∃b,(Builtin.firstCells d c.length f).run P w.drew= .ok b.toArray w.drew/\fI w.heap μ (d6 c) b:=by
 obtain⟨n,g,b,rfl,q,i,p,k⟩:=j.form
 refine⟨b,?_,i⟩
 have hl:b.length=c.length*d:=by rw[<-i.1,fM j.Hk]
 rcases k with⟨rfl,rfl⟩|⟨m,rfl,l⟩
 ·have:b=[]:=bh (by simpa using hl)
  subst this
  exact run_firstCells_none w.drew d 0 0 g
 ·exact run_firstCells_some w.drew d c.length m c.length g b hl (by simpa using l)
end
end
end Go.TI
