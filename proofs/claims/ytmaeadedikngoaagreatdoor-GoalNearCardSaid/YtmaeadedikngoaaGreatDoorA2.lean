/- Texts TiRead3 to TiAppend2. -/
import Derived.Test.YtmaeadedikngoaaGreatDoorA1
import Derived.Great.FillDense
import Derived.Laws.Tables
import Derived.Great.BuildSlice
import Derived.Deep.AppendSrc
import Derived.Laws.AppendOwn
set_option linter.all false
set_option maxRecDepth 100000
set_option maxHeartbeats 8000000
namespace Go.TI
noncomputable section
section
variable {P:ai}{cx:Ctx}{base:Nat}{w:World}{μ:Mu}{h:H}{mask:Nat}{e:Env}{a:Act}{o:Oper}{hp:af Obj}
def An(iG:iP P cx){q j:ab}{s:ah}(g:St cx base w.heap μ h)(A:j7 w.heap μ mask e a.tmps)(n:o.op= .convert q j s){r:T}{k:H}{c:T}
 (d:∃i,cx.ty q=some i) (hp:fG cx mask e s=some c) (b:conv cx j c=some r) (x:k=h):iZ cx base w μ h.size ((execOp a.eval o).run P w) r k:=by
 subst x;obtain⟨D,d⟩:=d;obtain⟨C,m,_⟩:=kq (iG.ty _ _ d);replace b:=dD.1 b;obtain⟨i,y,b⟩:=b;obtain⟨B,l,f⟩:=kq (iG.ty _ _ y);have p:=fX g A hp;cases z:i.u<;>rw[z]at b f<;>simp at b
 ·have:=vy f;subst this;cases c<;>simp at b;subst b;exact iZ.pure g (by simp[execOp,n,convert,run_underlying m,run_underlying l,p.jH,Conv.intToInt]) (.int _ _)
 ·have:=rI f;subst this;cases c<;>simp at b;subst b;obtain⟨v,t⟩:=p.ll;exact iZ.pure g (by simp[execOp,n,convert,run_underlying m,run_underlying l,v]) (.str _ t)
def uf{g:aa ah}{c:aa Nat}(p:St cx base w.heap μ h)(n:j7 w.heap μ mask e a.tmps)(b:jB cx mask e g=some c):
 (g=none/\c=none)\/∃d i f,g=some d/\c=some f/\a.eval d= .int i (f:Nat):=by
 cases g with
 |none=>left;simp[jB]at b;exact⟨rfl,b.symm⟩
 |some d=>
  right;have b:(dM (fG cx mask e d) λj=>dM (o9 j) λc=>some (some c))=some c:=b;replace b:=dD.1 b;obtain⟨j,m,b⟩:=b;replace b:=dD.1 b;obtain⟨f,l,b⟩:=b;simp at b;subst b;obtain⟨i,k⟩:=m8 l;exact⟨d,i,f,rfl,rfl,(k▸fX p n m).jH⟩
def run_sliceBound{d:am}{j:ak}{b:Nat}(i:d= .int j (b:Nat)){c:Nat}(k:b<=c)(f:BoundsCode):(Instr.sliceBound d c f).run P w= .ok b w:=by
 subst i;have g:0<=((b:Nat):Int)/\((b:Nat):Int)<=(c:Int):=⟨dq,dq⟩;simp only[Instr.sliceBound,asIntOf,Sem.run_bind,Sem.run_pure,Result.andThen_ok,g,and_self,bo];simp
def pN{isS:Bool}{len cap:Nat}{r p s:aa ah}{l d m:aa Nat}
 (n:(r=none/\l=none)\/∃c i b,r=some c/\l=some b/\a.eval c= .int i (b:Nat)) (u:(p=none/\d=none)\/∃c i b,p=some c/\d=some b/\a.eval c= .int i (b:Nat))
 (B:(s=none/\m=none)\/∃c i b,s=some c/\m=some b/\a.eval c= .int i (b:Nat)) (C:∀b,m=some b->b<=cap/\d=some b) (hl:fQ l 0<=fQ d len) (v:fQ d len<=len) (G:len<=cap):
 (Instr.sliceBounds isS len cap (r.map a.eval) (p.map a.eval) (s.map a.eval)).run P w= .ok (fQ l 0,fQ d len,fQ m cap) w:=by
 rcases B with⟨rfl,rfl⟩|⟨J,I,E,rfl,rfl,t⟩
 ·rcases u with⟨rfl,rfl⟩|⟨F,D,k,rfl,rfl,g⟩
  ·rcases n with⟨rfl,rfl⟩|⟨A,z,j,rfl,rfl,f⟩
   ·simp[Instr.sliceBounds,fQ]
   ·have hl:j<=len:=hl;simp[Instr.sliceBounds,fQ,run_sliceBound f hl]
  ·have v:k<=len:=v;have x:k<=cap:=dq;rcases n with⟨rfl,rfl⟩|⟨A,z,j,rfl,rfl,f⟩
   ·simp[Instr.sliceBounds,fQ,run_sliceBound g x]
   ·have hl:j<=k:=hl;simp[Instr.sliceBounds,fQ,run_sliceBound g x,run_sliceBound f hl]
 ·obtain⟨y,q⟩:=C E rfl;rcases u with⟨rfl,rfl⟩|⟨F,D,k,rfl,rfl,g⟩
  ·simp at q
  ·simp at q;subst q;rcases n with⟨rfl,rfl⟩|⟨A,z,j,rfl,rfl,f⟩
   ·simp[Instr.sliceBounds,fQ,run_sliceBound g (au _),run_sliceBound t y]
   ·have hl:j<=k:=hl;simp[Instr.sliceBounds,fQ,run_sliceBound g (au _),run_sliceBound t y,run_sliceBound f hl]
def Dm(b:Nat):fQ none b=b:=rfl
def yr{l:Type}{g j:List l}{f d:Nat}(m:f<=d)(i:Jb g f d=some j):d<=g.length/\j=(g.drop f).take (d-f):=by
 unfold Jb at i;obtain⟨n,b,c⟩:=dD.1 i;rw[lF]at b;split at b
 ·simp at b;subst b;rw[m9]at c;split at c
  ·rename_i k;simp at k c;refine⟨?_,c.symm⟩;omega
  ·simp at c
 ·simp at b
def Cb{c:Nat}{b:List T}(f:∀d∈b,d.cells.length=c)(g i:Nat):fa ((b.drop g).take i)=((fa b).drop (g*c)).take (i*c):=by
 rw[oQ f,qC (λd j=>f d (bA j))]
def FM{i:T}{g:List T}{n off j:Nat}{m:af am}{t:ab}{fz:Nat×Nat}{c f:Nat}{q:T}{l:List T}{full:Bool}{cap:Nat}(C:¬mR μ n)(y:hp[n]? =some (.cells m t fz))
 (r:∀b∈i::g,b.cells.length=j) (F:off+(fa (i::g)).length<=m.size) (u:∀b∈fa (i::g),uH b)
 (hr:∀(k:Nat) b,(fa (i::g))[k]? =some b->fg hp μ b (m.getD (off+k) Go.undef)) (E:c<=f) (z:f<=(i::g).length) (s:q::l=((i::g).drop c).take (f-c))
 (D:f-c<=cap) (v:full=true->cap=f-c):fg hp μ (.dF (q::l) full) (.slice (some ⟨n,off+c*j,none⟩) (f-c) cap):=by
 have A:l.length+1=f-c:=by
  have:=bM List.length s;simp only[aZ,List.length_take,List.length_drop]at this;simp only[aZ]at z;omega
 have x:=gD r;have p:=Cb r c (f-c);rw[<-s]at p;have B:∀b∈q::l,b∈i::g:=λb d=>bA (bw (s▸d));rw[<-A];refine .dF q l full n (off+c*j) cap j m t fz C y dq (λk=>by rw[v k];omega) (λb d=>r b (B b d)) ?_ ?_ ?_
 ·rw[p];simp only[List.length_take,List.length_drop];have:c*j+(f-c)*j<=(fa (i::g)).length:=by
   rw[x,<-bY];exact aW _ dq
  omega
 ·intro b d;rw[p]at d;exact u b (bA (bw d))
 ·intro k b d;rw[p,bJ]at d;split at d
  ·rw[bG]at d;have:=hr _ b d;rwa[<-cB]at this
  ·simp at d
def AH(d:List Nat)(b c:Nat):(bytesOf d).extract b c=bytesOf ((d.drop b).take (c-b)):=by
 apply ByteArray.ext;have:((bytesOf d).extract b c).data.toList=((bytesOf d).data.toList.drop b).take (c-b):=Lib.extract_data _ _ _;apply cq;rw[this];simp[bytesOf,List.map_take,List.map_drop]
def FP(iG:iP P cx){t:ab}{x:ah}{Q G R:aa ah}(S:St cx base w.heap μ h)(bi:o.op= .slice t x Q G R){c:Nat}{y:ab}(a6:P.underlying t=some (.array c y)){u:T}
 (bu:fg w.heap μ u (a.eval x)) {d g l:aa Nat}
 (bC:(Q=none/\d=none)\/∃n m f,Q=some n/\d=some f/\a.eval n= .int m (f:Nat)) (bH:(G=none/\g=none)\/∃n m f,G=some n/\g=some f/\a.eval n= .int m (f:Nat))
 (bN:(R=none/\l=none)\/∃n m f,R=some n/\l=some f/\a.eval n= .int m (f:Nat)) (bk:zg g l=true) (k:jl cx h (.array c y) u=true) {v:T}
 (b:oF (asSlice (.array c y) u) d g l=some v):iZ cx base w μ h.size ((execOp a.eval o).run P w) v h:=by
 unfold jl at k;simp only at k;cases K:cx.ty y with
 |none=>rw[K]at k;simp at k
 |some ap=>
  rw[K]at k;have bs:=(iG.ty _ _ K).run_sizeOf w;have hp:∃p r al j,u= .ptr p r al j:=by cases u<;>first|exact⟨_,_,_,_,rfl⟩|(simp at k)
  obtain⟨p,r,al,j,rfl⟩:=hp;simp only at k;cases F:h.get p with
  |none=>rw[F]at k;simp at k
  |some U=>
   rw[F]at k;obtain⟨bS,aE,cb,b8,ca,aA⟩:=U;simp only[aB,bL]at k;obtain⟨⟨⟨⟨⟨⟨L,an⟩,M⟩,N⟩,bz⟩,bB⟩,O⟩:=k;have L:=aC L;have an:=aC an;have M:=aC M;have N:=aC N;have O:=aC O;rw[jt]at O;subst M N bz bB;obtain⟨i,bT,bn,s,X,aX⟩:=bu.oX;obtain⟨U,E,D⟩:=S.box p i s;rw[F]at E;simp only[ar]at E;subst E;have b6:aE=i.ep:=D.ep;have av:bS=i.sz:=D.sz;have b7:i.cap=aA.length:=(D.plain rfl).sx rfl;have W:=aX dq;simp at W;subst W;have b:uO p r 0 c false (fQ d 0) (fQ g c) l=some v:=b;unfold uO at b;replace b:=dL.1 b;obtain⟨I,b⟩:=b;replace b:=dL.1 b;obtain⟨z,b⟩:=b;have I:=bm I;have z:=bm z;simp only[iw,dR,Nat.add_eq,Nat.zero_add,Nat.sub_eq]at b;have ae:(∀f,l=some f->f=fQ g c)->
    (execOp a.eval o).run P w= .ok (.value (.slice (some (if fQ l c=fQ d 0 then⟨i.iI,0,none⟩else(⟨i.iI,0,none⟩:Addr).add (fQ d 0*ap.size))) (fQ g c-fQ d 0) (fQ l c-fQ d 0))) w:=by
    intro aN;have s:=pN (P:=P) (w:=w) (isS:=false) (len:=c) (cap:=c) bC bH bN (by
     intro f Y;have q:=aN f Y;cases g with
     |none=>subst Y;simp[zg]at bk
     |some m=>
      have q:f=m:=q;subst q;have b9:f<=c:=z;exact⟨dq,rfl⟩) I z (au _)
    simp[execOp,bi,Instr.sliceAt,run_underlying a6,bn,Instr.sureAddr,s,bs]
   have V:∀B:Nat,(⟨i.iI,0,none⟩:Addr).add (B*ap.size)=⟨i.iI,B*i.sz,none⟩:=by
    intro B;rw[ko,<-L,av];simp
   cases Z:l with
   |none=>
    subst Z;have A:=ae dt;have b:some (T.arr p r (fQ d 0) (fQ g c-fQ d 0) false)=some v:=b;simp only[ar]at b;subst b;refine iZ.pure S A (.arr _ _ _ _ _ i _ _ s X ?_ λa7=>⟨dt,λ_=> ?_,λJ=> ?_⟩)
    ·show fQ g c-fQ d 0<=c-fQ d 0;omega
    ·show fQ d 0+(c-fQ d 0)=i.cap;omega
    ·have J:c-fQ d 0≠0:=J;have C:¬fQ none c=fQ d 0:=by show¬c=fQ d 0;omega
     rw[ao C,V]
   |some f=>
    subst Z;have b:fT (Nat.beq f (fQ g c)) (some (T.arr p r (fQ d 0) (fQ g c-fQ d 0) true))=some v:=b;replace b:=dL.1 b;obtain⟨q,b⟩:=b;have q:=aC q;simp only[ar]at b;subst b;have A:=ae (by intro m a8;simp at a8;omega);have bl:fQ (some f) c=fQ g c:=q;rw[bl]at A;refine iZ.pure S A (.arr _ _ _ _ _ i _ _ s X (au _) λa7=>⟨λ_=>rfl,dt,λJ=> ?_⟩);have C:¬fQ g c=fQ d 0:=dq;rw[ao C,V]
def EB(iG:iP P cx){t:ab}{x:ah}{dd cL b7:aa ah}(r:St cx base w.heap μ h)(Z:j7 w.heap μ mask e a.tmps)(bC:o.op= .slice t x dd cL b7){q:T}{bl:H}
 (j:BZ t x dd cL b7 cx mask e h=some (.val q bl)):iZ cx base w μ h.size ((execOp a.eval o).run P w) q bl:=by
 replace j:=dD.1 j;obtain⟨de,et,j⟩:=j;replace j:=dD.1 j;obtain⟨p,hp,j⟩:=j;replace j:=dL.1 j;obtain⟨m,j⟩:=j;replace j:=dD.1 j;obtain⟨g,dv,j⟩:=j;replace j:=dD.1 j;obtain⟨i,ds,j⟩:=j;replace j:=dD.1 j;obtain⟨F,ec,j⟩:=j;replace j:=dL.1 j;obtain⟨c7,j⟩:=j;obtain⟨f,rfl⟩:=fK.1 j;have b8:=uf r Z dv;have b9:=uf r Z ds;have bk:=uf r Z ec;obtain⟨d,bu,av⟩:=kq (iG.ty _ _ et);have W:=fX r Z hp;by_cases cb:∃n aA,de.u= .array n aA
 ·obtain⟨n,aA,bi⟩:=cb;rw[bi]at m av f;have:=qv av;subst this;exact FP iG r bC bu W b8 b9 bk c7 m f
 unfold jl at m;cases bi:de.u<;>rw[bi]at m av f<;>(try simp at m)
 ·
  have:=rI av;subst this;replace f:oF p g i F=some q:=f;cases p<;>simp at m;rename_i S;obtain⟨G,di⟩:=W.ll;unfold oF at f;cases E:F with
  |some k=>rw[E]at f;simp at f
  |none=>
   subst E;have f:fT (Nat.ble (fQ g 0) (fQ i (kC S))) (dM (Jb S (fQ g 0) (fQ i (kC S))) λZ=>some (T.str Z))=some q:=f;rw[jt]at f;replace f:=dL.1 f;obtain⟨v,f⟩:=f;have v:=bm v;replace f:=dD.1 f;obtain⟨Y,bN,f⟩:=f;obtain⟨aX,rfl⟩:=yr v bN;simp at f;subst f;have eb:b7=none:=by rcases bk with⟨K,_⟩|⟨_,_,_,_,K,_⟩;exact K;simp at K
   subst eb;have D:=pN (P:=P) (w:=w) (isS:=false) (len:=S.length) (cap:=S.length) b8 b9 bk dt v aX (au _);simp only[Option.map_none]at D;refine iZ.pure (c:= .string ((bytesOf S).extract (fQ g 0) (fQ i S.length))) r ?_ ?_
   ·simp[execOp,bC,Instr.sliceAt,Instr.slice,run_underlying bu,G,jG,D]
   ·rw[AH];exact .str _ λc V=>di c (bA (bw V))
 ·rename_i aA;have:=lq av;subst this;replace f:oF p g i F=some q:=f;cases bS:cx.ty aA with
  |none=>rw[bS]at m;simp at m
  |some ae=>
   rw[bS]at m;have er:=(iG.ty _ _ bS).run_sizeOf w;have ef:∀k,F=some k->i.isSome=true:=by
    intro k a7;subst a7;cases i with
    |none=>simp[zg]at c7
    |some K=>rfl
   have O:∀(B:aa Addr) (len cap:Nat),a.eval x= .slice B len cap->len<=cap->fQ g 0<=fQ i len->fQ i len<=len->(∀k,F=some k->k=fQ i len)->
    (execOp a.eval o).run P w= .ok (.value (.slice (if fQ F cap=fQ g 0 then B else B.map (·.add (fQ g 0*ae.size))) (fQ i len-fQ g 0) (fQ F cap-fQ g 0))) w:=by
    intro B len cap J V U N ap;have D:=pN (P:=P) (w:=w) (isS:=true) (len:=len) (cap:=cap) b8 b9 bk (by
     intro k a7;have a8:=ef k a7;have z:=ap k a7;cases i with
     |none=>simp at a8
     |some K=>
      have z:k=K:=z;subst z;have N:k<=len:=N;exact⟨dq,rfl⟩) U N V
    simp[execOp,bC,Instr.sliceAt,Instr.slice,run_underlying bu,J,D,er]
   unfold oF at f;cases p<;>simp at m
   ·rename_i l full;have f:sO l full (fQ g 0) (fQ i l.length) F=some q:=by rw[<-jt];exact f
    unfold sO at f;replace f:=dL.1 f;obtain⟨v,f⟩:=f;have v:=bm v;replace f:=dD.1 f;obtain⟨Y,bN,f⟩:=f;obtain⟨aX,R⟩:=yr v bN;cases l with
    |nil=>
     obtain⟨B,G⟩:=W.tK;have eo:Y=[]:=by rw[R];simp
     rw[eo]at f;have cy:fQ i 0=0:=by simpa using aX
     have c4:fQ g 0=0:=by simp only[cT]at v;omega
     cases E:F with
     |none=>
      subst E;have f:some (T.dF [] false)=some q:=f;simp at f;subst f;have:=O B 0 0 G (au _) dq dq dt;refine iZ.pure r this ?_;rw[c4,cy,Dm];exact .m7 _ _
     |some k=>
      subst E;have f:fT (Nat.beq k (fQ i 0)) (some (T.dF [] false))=some q:=f;replace f:=dL.1 f;obtain⟨z,f⟩:=f;have z:=aC z;simp at f;subst f;have:=O B 0 0 G (au _) dq dq (by intro K Q;simp at Q;omega);refine iZ.pure r this ?_;have ea:fQ (some k) 0=0:=by show k=0;omega
      rw[c4,cy,ea];exact .m7 _ _
    |cons L l=>
     obtain⟨eA,off,cap,eu,ey,eB,fz,G,c6,cv,c1,dn,bT,a8,V,hr⟩:=W.tL;have c9:eu=ae.size:=by
      have m:Nat.beq (kC L.cells) ae.size=true:=m;have:=aC m;rw[jt]at this;rw[<-this];exact(bT L dt).symm
     have a6:fQ i (l.length+1)<=l.length+1:=by simpa using aX
     have aN:fQ g 0<=fQ i (l.length+1):=by simpa using v
     cases E:F with
     |none=>
      subst E;have s:=O _ _ _ G c1 aN a6 dt;cases Y with
      |nil=>
       have f:some T.fR=some q:=f;simp at f;subst f;have b6:fQ i (l.length+1)-fQ g 0=0:=by
        have:=bM List.length R;simp only[cT,List.length_take,List.length_drop,aZ]at this;omega
       rw[b6]at s;exact iZ.pure r s (.fR _ _)
      |cons y ca=>
       have f:some (T.dF (y::ca) (@Bool.rec (λ_=>Bool) false (Nat.beq (fQ i (L::l).length) (kC (L::l))) full))=some q:=f;have eh:fQ g 0<fQ i (l.length+1):=by
        have:=bM List.length R;simp only[aZ,List.length_take,List.length_drop]at this;omega
       have I:¬cap=fQ g 0:=dq;simp only[Dm,I,br,cJ,ko]at s;refine iZ.pure r s ?_;simp only[ar]at f;rw[<-f,<-c9];have:=FM (full:= @Bool.rec (λ_=>Bool) false (Nat.beq (fQ i (L::l).length) (kC (L::l))) full) (cap:=cap-fQ g 0) c6 cv bT a8 V hr aN (by simpa using a6) R dq (by
        intro D;cases full with
        |false=>simp at D
        |true=>
         have D:Nat.beq (fQ i (L::l).length) (kC (L::l))=true:=D;have:=aC D;rw[jt]at this;simp only[aZ]at this;rw[dn rfl,this])
       exact this
     |some k=>
      subst E;have f:fT (Nat.beq k (fQ i (L::l).length)) (@List.rec T (λ_=>aa T) (some (T.dF [] false)) (λ_ _ _=>some (T.dF Y true)) Y)=some q:=f;replace f:=dL.1 f;obtain⟨z,f⟩:=f;have z:=aC z;simp only[aZ]at z;have s:=O _ _ _ G c1 aN a6 (by intro K Q;simp at Q;omega);have bH:fQ (some k) cap=fQ i (l.length+1):=z;rw[bH]at s;cases Y with
      |nil=>
       have f:some (T.dF [] false)=some q:=f;simp at f;subst f;have b6:fQ i (l.length+1)-fQ g 0=0:=by
        have:=bM List.length R;simp only[cT,List.length_take,List.length_drop,aZ]at this;omega
       rw[b6]at s;exact iZ.pure r s (.m7 _ _)
      |cons y ca=>
       have f:some (T.dF (y::ca) true)=some q:=f;have eh:fQ g 0<fQ i (l.length+1):=by
        have:=bM List.length R;simp only[aZ,List.length_take,List.length_drop]at this;omega
       have I:¬fQ i (l.length+1)=fQ g 0:=dq;simp only[I,br,cJ,ko]at s;refine iZ.pure r s ?_;simp only[ar]at f;rw[<-f,<-c9];exact FM c6 cv bT a8 V hr aN (by simpa using a6) R (au _) (λ_=>rfl)
   ·
    obtain⟨B,cap,G⟩:=W.zj;have f:fT (Nat.beq (fQ g 0) 0) (fT (Nat.beq (fQ i 0) 0) (@Option.rec Nat (λ_=>aa T) (some T.fR) (λk=>fT (Nat.beq k 0) (some (T.dF [] false))) F))=some q:=f;replace f:=dL.1 f;obtain⟨U,f⟩:=f;replace f:=dL.1 f;obtain⟨N,f⟩:=f;have U:=aC U;have N:=aC N;cases E:F with
    |none=>
     subst E;have f:some T.fR=some q:=f;simp at f;subst f;have:=O B 0 cap G (aw _) dq dq dt;rw[U,N]at this;exact iZ.pure r this (.fR _ _)
    |some k=>
     subst E;have f:fT (Nat.beq k 0) (some (T.dF [] false))=some q:=f;replace f:=dL.1 f;obtain⟨ap,f⟩:=f;have ap:=aC ap;simp at f;subst f;subst ap;have:=O B 0 cap G (aw _) dq dq (by intro K Q;simp at Q;omega);rw[U,N]at this;exact iZ.pure r this (.m7 _ _)
   ·rename_i b al X A full;obtain⟨M,B,C,G,D,bz,ce,bs⟩:=W.rV;have f:uO b al X A full (fQ g 0) (fQ i A) F=some q:=f;unfold uO at f;replace f:=dL.1 f;obtain⟨v,f⟩:=f;replace f:=dL.1 f;obtain⟨aE,f⟩:=f;have v:=bm v;have aE:=bm aE;simp only[iw,dR]at f;have dm:M.sz=ae.size:=by
     cases bB:bl.get b with
     |none=>rw[bB]at m;simp at m
     |some dk=>
      rw[bB]at m;have m:Nat.beq dk.sz ae.size=true:=m;rw[<-aC m];exact(r.JG D bB).1.symm
    have bn:∀c:Nat,C≠0->al=M.ep->B.map (·.add (c*ae.size))=some ⟨M.iI,(X+c)*M.sz,none⟩:=by
     intro c I J;rw[(bs J).2.2 I,<-dm];simp[ko,bY]
    cases E:F with
    |none=>
     subst E;have s:=O B A C G ce v aE dt;have f:(@Bool.rec (λ_=>aa T) (some (T.arr b al (X+fQ g 0) (fQ i A-fQ g 0) false)) (fT (Nat.beq (fQ i A) A) (some (T.arr b al (X+fQ g 0) (fQ i A-fQ g 0) true))) full)=some q:=f;cases full with
     |false=>
      simp at f;subst f;refine iZ.pure r s (.arr _ _ _ _ _ M _ _ D bz ?_ λJ=>⟨dt,λ_=> ?_,λI=> ?_⟩)
      ·show fQ i A-fQ g 0<=C-fQ g 0;omega
      ·have:=(bs J).2.1 rfl;show X+fQ g 0+(C-fQ g 0)=M.cap;omega
      ·have I:C-fQ g 0≠0:=I;have an:¬fQ none C=fQ g 0:=by show¬C=fQ g 0;omega
       rw[ao an];exact bn _ dq J
     |true=>
      replace f:=dL.1 f;obtain⟨cp,f⟩:=f;have cp:=aC cp;simp at f;subst f;refine iZ.pure r s (.arr _ _ _ _ _ M _ _ D bz ?_ λJ=>⟨λ_=> ?_,dt,λI=> ?_⟩)
      ·show fQ i A-fQ g 0<=C-fQ g 0;omega
      ·have:=(bs J).1 rfl;show C-fQ g 0=fQ i A-fQ g 0;omega
      ·have I:C-fQ g 0≠0:=I;have an:¬fQ none C=fQ g 0:=by show¬C=fQ g 0;omega
       rw[ao an];exact bn _ dq J
    |some k=>
     subst E;have f:fT (Nat.beq k (fQ i A)) (some (T.arr b al (X+fQ g 0) (fQ i A-fQ g 0) true))=some q:=f;replace f:=dL.1 f;obtain⟨z,f⟩:=f;have z:=aC z;simp at f;subst f;have s:=O B A C G ce v aE (by intro K Q;simp at Q;omega);have bH:fQ (some k) C=fQ i A:=z;rw[bH]at s;refine iZ.pure r s (.arr _ _ _ _ _ M _ _ D bz (au _) λJ=>⟨λ_=>rfl,dt,λI=> ?_⟩);have an:¬fQ i A=fQ g 0:=dq;rw[ao an];exact bn _ dq J
 ·exact absurd ⟨_,_,bi⟩ cb
end
end
noncomputable section
section
variable {P:ai}{cx:Ctx}{base:Nat}{w:World}{μ:Mu}{h h':H}{mask:Nat}{e:Env}{a:Act}{o:Oper}{hp hp':af Obj}
def St.ez(g:St cx base hp μ h){b:Nat}{d:Loc}(f:μ b=some d):b<h.size:=by
 obtain⟨i,c,_⟩:=g.box b d f;rw[H.get_eq]at c;split at c
 ·assumption
 ·simp at c
def St.Om(c:St cx base hp μ h):μ h.size=none:=by
 cases b:μ h.size with
 |none=>rfl
 |some d=>exact absurd (c.ez b) (Nat.lt_irrefl _)
def pV(μ:Mu)(d:Nat)(c:Loc):Mu:=⟨λb=>if b=d then some c else μ b,μ.oH⟩
def jh(μ:Mu)(c:Nat)(b:Loc):pV μ c b c=some b:=by simp[pV]
def iC(μ:Mu){c b:Nat}(d:Loc)(h:b≠c):pV μ c d b=μ b:=by simp[pV,h]
def H.cons(h:H)(b:iN):H:=⟨h.size+1,h.low,b::h.fc⟩
def H.kz(b:Nat->T)(h:H)(c:iN):h.new b c=some (b h.size,h.cons c):=H.On b h c
def H.sq(c:h.fc.length=h.size)(b:iN):(h.cons b).get h.size=some b:=by
 rw[H.get_eq];simp[H.cons]
def H.mH{b:Nat}(f:b<h.size)(c:iN):(h.cons c).get b=h.get b:=by
 rw[H.get_eq,H.get_eq];have d:b<(h.cons c).size:=by show b<h.size+1;omega
 rw[aq d,aq f];show(c::h.fc)[h.size+1-1-b]? =_;have:h.size+1-1-b=(h.size-1-b)+1:=dq;rw[this];simp
def St.new(d:St cx base hp μ h)(n:Obj)(l:Loc)(m:iN)(z:l.iI=hp.size)(E:Ext hp μ (hp.push n) (pV μ h.size l)->pZ (hp.push n) (pV μ h.size l) l m):
 St cx base (hp.push n) (pV μ h.size l) (h.cons m)/\Ext hp μ (hp.push n) (pV μ h.size l)/\xE μ (pV μ h.size l) h.size (h.cons m).size:=by
 have D:=d.Om;have p:Ext hp μ (hp.push n) (pV μ h.size l):=by
  refine⟨dt,λr C t=>⟨?_,?_⟩,λc k b=> ?_,rfl,λr C _=> ?_⟩
  rotate_right
  ·rw[Array.getElem?_push];simp;omega
  ·rw[Array.getElem?_push];simp;omega
  ·rintro(⟨c,k,b,rfl⟩|hr)
   ·by_cases g:c=h.size
    ·subst g;rw[jh]at b;simp at b;subst b;omega
    ·rw[iC _ _ g]at b;exact t (.inl ⟨c,k,b,rfl⟩)
   ·exact t (.inr hr)
  ·have:c≠h.size:=by rintro rfl;rw[D]at b;simp at b
   exact⟨k,by rw[iC _ _ this];exact b,.inl rfl⟩
 refine⟨⟨?_,?_,?_,?_,?_,?_,?_,?_⟩,p,?_⟩
 ·show(m::h.fc).length=h.size+1;simp[d.wf]
 ·simp;have:=d.fit;omega
 ·intro c k b;by_cases g:c=h.size
  ·subst g;rw[jh]at b;simp at b;subst b;exact⟨m,H.sq d.wf m,E p⟩
  ·rw[iC _ _ g]at b;obtain⟨F,j,i⟩:=d.box c k b;refine⟨F,by rw[H.mH (d.ez b)];exact j,i.ext p ?_⟩;have:=d.lt b;rw[Array.getElem?_push];simp;omega
 ·intro c s u v j i A;by_cases b:c=h.size<;>by_cases q:s=h.size
  ·omega
  ·subst b;rw[jh]at j;simp at j;subst j;rw[iC _ _ q]at i;have:=d.lt i;omega
  ·subst q;rw[jh]at i;simp at i;subst i;rw[iC _ _ b]at j;have:=d.lt j;omega
  ·rw[iC _ _ b]at j;rw[iC _ _ q]at i;exact d.inj c s u v j i A
 ·intro c k b;by_cases g:c=h.size
  ·subst g;rw[jh]at b;simp at b;subst b;rw[z];exact d.fit
  ·rw[iC _ _ g]at b;exact d.low c k b
 ·intro c k b hr;by_cases g:c=h.size
  ·subst g;rw[jh]at b;simp at b;subst b;have:=d.pW _ hr;omega
  ·rw[iC _ _ g]at b;exact d.apart c k b hr
 ·intro r hr;have:=d.pW r hr;simp;omega
 ·intro y x B;exact(d.yh y x B).ext p
 ·refine⟨by show h.size<=h.size+1;omega,λc b=> ?_,λc j i=> ?_⟩
  ·by_cases g:c=h.size
   ·right;exact⟨dq,by show c<h.size+1;omega⟩
   ·left;rwa[iC _ _ g]at b
  ·have:c=h.size:=by have i:c<h.size+1:=i;omega
   subst this;rw[jh];simp
def AP{c:Nat}{f:iN}(j:h.put c f=some h')(k:h.fc.length=h.size):
 h'.size=h.size/\h'.fc.length=h'.size/\h'.get c=some f/\∀b,b≠c->h'.get b=h.get b:=by
 obtain⟨g,i,rfl⟩:=H.uU.1 j;refine⟨rfl,by simp[k],?_,λb l=> ?_⟩
 ·rw[H.get_eq];simp[g,i]
 ·rw[H.get_eq,H.get_eq];by_cases d:b<h.size
  ·simp only[d,bo];rw[cC];omega
  ·simp[d]
def St.change(g:St cx base hp μ h){d:Nat}{i L':Loc}{z:iN}(n:μ d=some i)(I:h.put d z=some h')(C:hp.size<=hp'.size)(y:∀p,p<hp.size->p≠i.iI->hp'[p]? =hp[p]?)
 (s:L'=i\/(i.ep<L'.ep/\(L'.iI=i.iI\/hp.size<=L'.iI))) (J:Ext hp μ hp' (pV μ d L')->pZ hp' (pV μ d L') L' z):
 St cx base hp' (pV μ d L') h'/\Ext hp μ hp' (pV μ d L')/\xE μ (pV μ d L') h.size h'.size:=by
 obtain⟨p1,p2,p3,p4⟩:=AP I g.wf;have q:L'.iI=i.iI\/hp.size<=L'.iI:=by
  rcases s with rfl|s
  ·exact .inl rfl
  ·exact s.2
 have u:Ext hp μ hp' (pV μ d L'):=by
  refine⟨C,λp x v=>⟨y p x λk=>v (.inl ⟨d,i,n,k.symm⟩),?_⟩,λc m b=> ?_,rfl,λp x hr=>y p x λk=>g.apart d i n (k▸hr)⟩
  ·rintro(⟨c,m,b,rfl⟩|hr)
   ·by_cases f:c=d
    ·subst f;rw[jh]at b;simp at b;subst b;rcases q with k|k
     ·exact v (.inl ⟨c,i,n,k.symm⟩)
     ·omega
    ·rw[iC _ _ f]at b;exact v (.inl ⟨c,m,b,rfl⟩)
   ·exact v (.inr hr)
  ·by_cases f:c=d
   ·subst f;rw[n]at b;simp at b;subst b;refine⟨L',jh _ _ _,?_⟩;rcases s with k|k
    ·exact .inl k
    ·exact .inr k.1
   ·exact⟨m,by rw[iC _ _ f];exact b,.inl rfl⟩
 refine⟨⟨p2,by have:=g.fit;omega,?_,?_,?_,?_,λp hr=>bE (g.pW p hr) C,?_⟩,u,⟨dq,λc b=> ?_,λc j l=>by omega⟩⟩
 ·intro c m b;by_cases f:c=d
  ·subst f;rw[jh]at b;simp at b;subst b;exact⟨z,p3,J u⟩
  ·rw[iC _ _ f]at b;obtain⟨K,j,l⟩:=g.box c m b;refine⟨K,by rw[p4 c f];exact j,l.ext u (y _ (g.lt b) λk=>f (g.inj c d m i b n k))⟩
 ·intro c r A B j l F;by_cases b:c=d<;>by_cases t:r=d
  ·omega
  ·subst b;rw[jh]at j;simp at j;subst j;rw[iC _ _ t]at l;rcases q with k|k
   ·exact absurd (g.inj r c B i l n dq) t
   ·have:=g.lt l;omega
  ·subst t;rw[jh]at l;simp at l;subst l;rw[iC _ _ b]at j;rcases q with k|k
   ·exact absurd (g.inj c r A i j n dq) b
   ·have:=g.lt j;omega
  ·rw[iC _ _ b]at j;rw[iC _ _ t]at l;exact g.inj c r A B j l F
 ·intro c m b;by_cases f:c=d
  ·subst f;rw[jh]at b;simp at b;subst b;rcases q with k|k
   ·rw[k];exact g.low _ _ n
   ·have:=g.fit;omega
  ·rw[iC _ _ f]at b;exact g.low c m b
 ·intro c m b hr;by_cases f:c=d
  ·subst f;rw[jh]at b;simp at b;subst b;rcases q with k|k
   ·exact g.apart c i n (by rw[<-k];exact hr)
   ·have:=g.pW _ hr;omega
  ·rw[iC _ _ f]at b;exact g.apart c m b hr
 ·intro E D G;exact(g.yh E D G).ext u
 ·left;by_cases f:c=d
  ·subst f;rw[n];simp
  ·rwa[iC _ _ f]at b
end
end
noncomputable section
section
variable {P:ai}{cx:Ctx}{base:Nat}{w:World}{μ:Mu}{h h':H}{mask:Nat}{e:Env}{a:Act}{o:Oper}{hp hp':af Obj}
def je{b:aa (T×H)}{c:T}{h':H}:jp b=some (.val c h')↔b=some (c,h'):=by
 unfold jp;cases b with
 |none=>simp
 |some d=>obtain⟨g,f⟩:=d;simp
def vZ(s:St cx base w.heap μ h)(b:ab){arr:af am}{cap sz:Nat}{ex:Bool}{es:List T}(k:arr.size=cap*sz)(n:es.length<=cap)(l:ex=true->cap=es.length)
 (q:∀d∈es,d.cells.length=sz) (p:∀d∈fa es,d.scalar=true) (j:fV w.heap μ (fa es) (arr.toList.take (fa es).length)):
 ∃c,St cx base (w.heap.push (.cells arr b)) c (h.cons (kX sz ex es))/\oU w μ {w with heap:=w.heap.push (.cells arr b)} c/\xE μ c h.size (h.cons (kX sz ex es)).size/\
  c h.size=some ⟨0,w.heap.size,cap,sz⟩:=by
 obtain⟨f,g,i⟩:=s.new (.cells arr b) ⟨0,w.heap.size,cap,sz⟩ (kX sz ex es) rfl (by
  intro m;refine⟨rfl,rfl,λ_=>⟨⟨arr,b,dt,k,j.ext m⟩,n,l,q,p⟩,λr=>by simp[kX]at r⟩)
 exact⟨_,f,⟨g,rfl,rfl,rfl⟩,i,jh _ _ _⟩
def xJ{b:T}(h:b.scalar=true):b.cells=[b]:=by
 cases b<;>first|rfl|(simp[T.scalar]at h)
def yi{b:List T}(h:∀c∈b,c.scalar=true):fa b=b:=by
 induction b with
 |nil=>rfl
 |cons c b i=>
  have f:=xJ (h c dt);have d:=i λj g=>h j (by simp[g]);unfold fa at d|-;rw[cD,f,d];rfl
def EI(iG:iP P cx){i:ab}(y:St cx base w.heap μ h)(u:o.op= .alloc i){j:T}
 (b:B5 i cx mask e h=some (.val j h')):iZ cx base w μ h.size ((execOp a.eval o).run P w) j h':=by
 replace b:=dD.1 b;obtain⟨c,z,b⟩:=b;obtain⟨f,v,_,x,g,A,m,B,C⟩:=(iG.ty _ _ z).zero w;cases t:wc cx c with
 |false=>
  rw[t]at b;have b:jp (h.new (λl=>T.ptr l 0 0 0) (kX c.size true [c.j1]))=some (.val j h'):=b;rw[je,H.kz]at b;simp only[ar,ay]at b;obtain⟨rfl,rfl⟩:=b;obtain⟨s,n,p,q,r⟩:=vZ y i (arr:=f.cells) (cap:=1) (sz:=c.size) (ex:=true) (es:=[c.j1]) dq dt dt
   (by intro k d;simp at d;subst d;rw[m];exact A) (by intro k d;simp[fa]at d;rw[m]at d;exact g k d)
   (by
     have:fa [c.j1]=c.zero:=by simp[fa,m]
     rw[this];have hl:f.cells.toList.take c.zero.length=f.cells.toList:=by rw[bF];simp;omega
     rw[hl];exact x _ _)
  refine⟨.pointer (some ⟨w.heap.size,0,none⟩),_,s,.inl ?_,.ptr _ 0 0 0 _ _ r (au _) (λ_=>by simp),n,p,q⟩;simp[execOp,u,Instr.alloc,v,newVar,newRow]
 |true=>
  rw[t]at b;have b:jp (h.new (λl=>T.ptr l 0 0 0) (kX 1 true c.zero))=some (.val j h'):=b;rw[je,H.kz]at b;simp only[ar,ay]at b;obtain⟨rfl,rfl⟩:=b;obtain⟨s,n,p,q,r⟩:=vZ y i (arr:=f.cells) (cap:=c.zero.length) (sz:=1) (ex:=true) (es:=c.zero) dq (au _) (λ_=>rfl)
   (by intro k d;rw[xJ (g k d)];rfl) (by rw[yi g];exact g)
   (by
     rw[yi g];have hl:f.cells.toList.take c.zero.length=f.cells.toList:=by rw[bF];simp;omega
     rw[hl];exact x _ _)
  refine⟨.pointer (some ⟨w.heap.size,0,none⟩),_,s,.inl ?_,.ptr _ 0 0 0 _ _ r (au _) (λ_=>by simp),n,p,q⟩;simp[execOp,u,Instr.alloc,v,newVar,newRow]
def IT{k:ab}{c:ah}(j:St cx base w.heap μ h)(u:j7 w.heap μ mask e a.tmps)(n:o.op= .box k c){l:T}
 (b:LP c cx mask e h=some (.val l h')):iZ cx base w μ h.size ((execOp a.eval o).run P w) l h':=by
 replace b:=dD.1 b;obtain⟨f,hp,b⟩:=b;replace b:=dL.1 b;obtain⟨m,b⟩:=b;rw[je,H.kz]at b;simp only[ar,ay]at b;obtain⟨rfl,rfl⟩:=b;obtain⟨g,p,_⟩:=(fX j u hp).cells m;have i:=g.1;obtain⟨v,q,r,s,t⟩:=vZ j k (arr:=(a.eval c).cells) (cap:=1) (sz:=f.cells.length) (ex:=true) (es:=[f]) (by simp at i;omega) dt dt
  (by intro c d;simp at d;subst d;rfl) (by intro c d;simp[fa]at d;exact p c d)
  (by
    have:fa [f]=f.cells:=by simp[fa]
    rw[this,i,aL];exact g)
 rw[jt];refine⟨.pointer (some ⟨w.heap.size,0,none⟩),_,v,.inl ?_,.ptr _ 0 0 0 _ _ t (au _) (λ_=>by simp),q,r,s⟩;simp[execOp,n,Instr.box,newVar,newRow]
def QI(b c:List T):over b c=if c.length<=b.length then some (c++b.drop c.length)else none:=by
 induction c generalizing b with
 |nil=>rfl
 |cons i c f=>cases b with
  |nil=>rfl
  |cons j b=>
   show(dM (over b c) λg=>some (i::g))=_;rw[f];by_cases d:c.length<=b.length<;>simp[d]
def sN(b:List T)(c:Nat)(d:List T):kx b c d=if c+d.length<=b.length then some (b.take c++d++b.drop (c+d.length))else none:=by
 induction c generalizing b with
 |zero=>show over b d=_;rw[QI];simp
 |succ c j=>cases b with
  |nil=>show none=_;simp
  |cons g b=>
   show(dM (kx b c d) λk=>some (g::k))=_;rw[j];have i:c+1+d.length=(c+d.length)+1:=dq;by_cases f:c+d.length<=b.length
   ·rw[aq f,aq du,i];simp
   ·rw[ao f,ao du];rfl
def nS{c f g:List T}{d:Nat}(b:kx c d f=some g):d+f.length<=c.length/\g=c.take d++f++c.drop (d+f.length):=by
 rw[sN]at b;split at b
 ·simp at b;exact⟨by assumption,by rw[<-b];simp⟩
 ·simp at b
def IE{f j i:List T}{m:Nat}(l:kx f m j=some i){d:T->Prop}(g:∀c∈f,d c)(k:∀c∈j,d c):∀c∈i,d c:=by
 obtain⟨_,rfl⟩:=nS l;intro c b;rcases List.mem_append.1 b with b|b
 ·rcases List.mem_append.1 b with b|b
  ·exact g c (bw b)
  ·exact k c b
 ·exact g c (bA b)
def DU{cells:af am}{c:am}{off:Nat}(l:off+c.cells.size<=cells.size):
 (c.cells.zipIdx.foldl (λd (b:am×Nat)=>d.setIfInBounds (off+b.2) b.1) cells).toList=cells.toList.take off++c.cells.toList++cells.toList.drop (off+c.cells.size):=by
 have j:c.cells.zipIdx.foldl (λd (b:am×Nat)=>d.setIfInBounds (off+b.2) b.1) cells=(c.cells.toList.zipIdx 0).foldl (λd (b:am×Nat)=>d.setIfInBounds (off+b.2) b.1) cells:=by
  rw[<-Array.foldl_toList,Array.toList_zipIdx]
 rw[j];obtain⟨k,i⟩:=Great.foldl_set off c.cells.toList 0 cells;apply cU;intro f;have:=i f;rw[<-Array.getElem?_toList]at this;rw[this];simp only[Nat.add_zero,bZ];rcases aD f off with hk|hk
 ·rw[ao dq,cr,co du,bJ,aq hk];simp
 ·rcases aD f (off+c.cells.size)with g|g
  ·rw[aq ⟨hk,g,dq⟩,cr,cu du];have:(cells.toList.take off).length=off:=du;rw[this,co du]
  ·rw[ao dq,cr,cu du];have:(cells.toList.take off).length=off:=du;rw[this,cu du,bG];simp only[bZ,Array.getElem?_toList];congr 1;omega
def Cf(c:Nat->aa (Nat×Nat))(b:Nat×T)(f:List (Nat×T))(d:List T):
 mf c (b::f) d=dM (c b.1) λg=>fT (Nat.beq (kC b.2.cells) g.2) (dM (kx d g.1 b.2.cells) λi=>mf c f i):=rfl
def Md(hp:af Obj)(μ:Mu)(g:List (Nat×T))(qs:List (Nat×am)):Prop:=
 g.length=qs.length/\∀(f:Nat) d b,g[f]? =some (d,b)->∃c,qs[f]? =some (d,c)/\fg hp μ b c/\b.gJ=true
def Md.lJ{b:Nat×T}{g:List (Nat×T)}{qs:List (Nat×am)}(h:Md hp μ (b::g) qs):∃c i,qs=(b.1,c)::i/\fg hp μ b.2 c/\b.2.gJ=true/\Md hp μ g i:=by
 obtain⟨hl,f⟩:=h;cases qs with
 |nil=>simp at hl
 |cons p qs=>
  obtain⟨c,d,hr,j⟩:=f 0 b.1 b.2 dt;simp at d;subst d;exact⟨c,qs,rfl,hr,j,by simpa using hl,λm l n k=>by simpa using f (m+1) l n (by simpa using k)⟩
def wB(x:St cx base w.heap μ h)(v:j7 w.heap μ mask e a.tmps){d:List (Nat×ah)}{j:List (Nat×T)}(k:partsOf cx mask e d=some j):
 Md w.heap μ j (d.map λp=>(p.1,a.eval p.2)):=by
 unfold partsOf at k;obtain⟨hl,r⟩:=qT.1 k;refine⟨by simp[hl],λc t f g=> ?_⟩;have m:c<d.length:=by
  rcases aD c j.length with y|y
  ·omega
  ·rw[aK y]at g;simp at g
 obtain⟨y,i,b⟩:=r c d[c] (by simp[m]);rw[g]at i;simp at i;subst i;rcases l:d[c]with⟨u,n⟩;rw[l]at b;have b:(dM (fG cx mask e n) λf=>fT f.gJ (some (u,f)))=some (t,f):=b;obtain⟨z,s,b⟩:=dD.1 b;obtain⟨q,b⟩:=dL.1 b;simp at b;obtain⟨rfl,rfl⟩:=b;exact⟨a.eval n,by simp[m,l],fX x v s,q⟩
def uB{u place':Nat->aa (Nat×Nat)}(I:∀t f,u t=some f->place' t=some f):∀(k:List (Nat×T)) (qs:List (Nat×am)) (d g:List T) (cells:af am),
 Md hp μ k qs->fV hp μ d cells.toList->(∀n∈d,n.scalar=true)->mf u k d=some g->
 ∃j,Instr.fill place' cells qs=some j/\fV hp μ g j.toList/\(∀n∈g,n.scalar=true)/\j.size=cells.size:=by
 intro k;induction k with
 |nil=>
  intro qs d g cells hp i m b;have:qs=[]:=aY hp.1.symm;subst this;have:g=d:=by simpa[mf]using b.symm
  subst this;exact⟨cells,rfl,i,m,rfl⟩
 |cons S k K=>
  intro qs d g cells A i m b;obtain⟨c,Q,rfl,hr,E,B⟩:=A.lJ;rw[Cf]at b;obtain⟨f,J,b⟩:=dD.1 b;obtain⟨hl,b⟩:=dL.1 b;obtain⟨q,r,b⟩:=dD.1 b;obtain⟨p,x,_⟩:=hr.cells E;have G:=aC hl;rw[jt]at G;obtain⟨R,D⟩:=nS r;have y:=i.1;have l:=p.1;simp only[bZ]at y l;have F:f.1+c.cells.size<=cells.size:=dq;have s:=DU (cells:=cells) (c:=c) F;have z:fV hp μ q (c.cells.zipIdx.foldl (λd (v:am×Nat)=>d.setIfInBounds (f.1+v.2) v.1) cells).toList:=by
   rw[s,D,<-l];exact((i.take f.1).append p).append (by rw[l];exact i.drop _)
  obtain⟨j,L,M,N,O⟩:=K Q q g _ B z (IE r m x) b;refine⟨j,?_,M,N,?_⟩
  ·simp only[Instr.fill,I _ _ J];have C:¬(c.cells.size≠f.2||decide (f.1+c.cells.size>cells.size))=true:=du;rw[ao C];exact L
  ·rw[O];have:=bM List.length s;simp only[bZ,bh,List.length_take,List.length_drop]at this;omega
end
end
noncomputable section
section
variable {P:ai}{cx:Ctx}{base:Nat}{w:World}{μ:Mu}{h h':H}{mask:Nat}{e:Env}{a:Act}{o:Oper}{hp hp':af Obj}
def Aj:∀(g:List Field),(∀f∈g,∃b,P.info? f.type=some b/\b.size≠0)->∃m,g.mapM (λf=>(P.info? f.type).map λb=>(f.offset,b.size))=some m/\
 ∀(c:Nat) f b,g[c]? =some f->P.info? f.type=some b->m[c]? =some (f.offset,b.size)
 | [],_=>⟨[],rfl,λc f b d=>by simp at d⟩
 |f::g,k=>by
  obtain⟨b,l,_⟩:=k f dt;obtain⟨s,n,p⟩:=Aj g λj q=>k j (by simp[q]);refine⟨(f.offset,b.size)::s,by simp[List.mapM_cons,l,n],λc j r d i=> ?_⟩;cases c with
  |zero=>simp at d;subst d;rw[l]at i;simp at i;subst i;simp
  |succ c=>simp at d;simpa using p c j r d i
def xU(c:af (Nat×ah)):(c.map λ(d,f)=>(d,a.eval f)).toList=c.toList.map λb=>(b.1,a.eval b.2):=by
 simp
def EH(iG:iP P cx){t:ab}{D:af (Nat×ah)}(Q:St cx base w.heap μ h)(r:j7 w.heap μ mask e a.tmps)(Y:o.op= .build t D){l:T}
 (b:zu t D cx mask e h=some (.val l h')):iZ cx base w μ h.size ((execOp a.eval o).run P w) l h':=by
 replace b:=dD.1 b;obtain⟨aX,aA,b⟩:=b;replace b:=dD.1 b;obtain⟨O,al,b⟩:=b;have J:=wB Q r al;obtain⟨a8,d,R,F,G,I,U,x,_⟩:=(iG.ty _ _ aA).unfold;obtain⟨L,M⟩:=fV.rQ (hp:=w.heap) (μ:=μ) U;have fin:∀(j:af am) (g:List T),P.built t (D.toList.map λN=>(N.1,a.eval N.2))=some j->fV w.heap μ g j.toList->(∀l∈g,l.scalar=true)->l= .agg g->h'=h->
  iZ cx base w μ h.size ((execOp a.eval o).run P w) l h':=by
  rintro j g K V an rfl rfl;refine iZ.pure Q ?_ (fg.wP V an);rw[<-xU]at K;simp only[execOp,Y,Sem.run_bind,run_build w t _ j K,Result.andThen_ok,Sem.run_pure]
 cases aE:aX.u<;>rw[aE]at b x<;>simp at b
 ·rename_i n a6;have:=qv x;subst this;replace b:=dD.1 b;obtain⟨bi,ap,b⟩:=b;replace b:=dD.1 b;obtain⟨g,y,b⟩:=b;obtain⟨m,rfl⟩:=fK.1 b;simp at m;subst m;obtain⟨s,_,_,p,_,_,_,_,_,_,v,_⟩:=(iG.ty _ _ ap).unfold;obtain⟨j,A,B,C,_⟩:=uB (place':=λk=>some (k*s.size,s.size)) (by intro k q c;rw[v];exact c) O _ _ _ R.cells J L M y;exact fin j g (by simp only[Program.built,F,G,I,p];exact A) B C rfl rfl
 ·rename_i a7;obtain⟨E,rfl,X,W⟩:=qH x;replace b:=dD.1 b;obtain⟨g,y,b⟩:=b;obtain⟨m,rfl⟩:=fK.1 b;simp at m;subst m;obtain⟨aN,Z,ae⟩:=Aj E.toList W;obtain⟨j,A,B,C,_⟩:=uB (place':=λk=>aN.toArray[k]?) (by
   intro k q c;obtain⟨f,i,c⟩:=dD.1 c;obtain⟨bk,av,c⟩:=dD.1 c;simp at c;rw[X]at i;rw[aQ]at i;cases z:E.toList[k]? with
   |none=>rw[z]at i;simp at i
   |some S=>
    rw[z]at i;simp at i;obtain⟨s,_,_,p,_,_,_,_,_,_,v,_⟩:=(iG.ty _ _ av).unfold;rw[<-i]at p;have:=ae k S s z p;rw[<-i]at c;simp only[]at c;rw[<-c,<-v];simpa using this) O _ _ _ R.cells J L M y
  exact fin j g (by simp only[Program.built,F,G,I,Z];exact A) B C rfl rfl
def Hh{d:Nat}{b:List T}(g:∀f∈b,f.cells.length=d){c:Nat}(i:c<b.length)(f:T):fa (b.set c f)=(fa b).take (c*d)++f.cells++(fa b).drop (c*d+d):=by
 rw[qC g,<-bX,oQ g,List.set_eq_take_append_cons_drop,aq i,mI,lA,cr]
def qZ{c:T}(b:Nat):fa (List.replicate b c)=(List.replicate b c.cells).flatten:=by
 induction b with
 |zero=>rfl
 |succ b d=>rw[da,lA,d,da,List.flatten_cons]
def yR{b:af am}(c:Nat)(j:0<b.size):((Array.range (c*b.size)).map (b[· % b.size]!)).toList=(List.replicate c b.toList).flatten:=by
 induction c with
 |zero=>simp
 |succ c g=>
  have f:(Array.range ((c+1)*b.size)).toList=(Array.range (c*b.size)).toList++(List.range b.size).map (c*b.size+ ·):=by
   simp only[Array.toList_range];rw[bX,List.range_add]
  rw[Array.toList_map,f,List.map_append,<-Array.toList_map,g,List.replicate_succ',List.flatten_append];congr 1;simp only[List.flatten_cons,List.flatten_nil,cg,cH];apply List.ext_getElem
  ·simp
  ·intro k d i;simp at d;simp[Nat.mod_eq_of_lt d,d]
def fV.replicate{d:List T}{c:List am}(f:fV hp μ d c)(b:Nat):fV hp μ (List.replicate b d).flatten (List.replicate b c).flatten:=by
 induction b with
 |zero=>exact fV.nil
 |succ b g=>rw[da,da,List.flatten_cons,List.flatten_cons];exact f.append g
def Ce(b:Nat)(f:Nat)(c:T)(g:List (Nat×T))(d:List T):oR b ((f,c)::g) d=fT (Nat.beq (kC c.cells) b) (dM (kr d f c) λi=>oR b g i):=rfl
def AD{b:Nat}(Y:0<b):∀(p:List (Nat×T)) (qs:List (Nat×am)) (g i:List T) (cells:af am),
 Md hp μ p qs->(∀d∈g,d.cells.length=b)->fV hp μ (fa g) cells.toList->(∀d∈fa g,d.scalar=true)->oR b p g=some i->
 ∃r,Instr.fill (λk=>some (k*b,b)) cells qs=some r/\fV hp μ (fa i) r.toList/\(∀d∈fa i,d.scalar=true)/\(∀d∈i,d.cells.length=b)/\i.length=g.length:=by
 intro p;induction p with
 |nil=>
  intro qs g i cells hp n l q j;have:qs=[]:=aY hp.1.symm;subst this;have:i=g:=by simpa[oR]using j.symm
  subst this;exact⟨cells,rfl,l,q,n,rfl⟩
 |cons V p M=>
  intro qs g i cells C n l q j;obtain⟨c,W,rfl,hr,G,D⟩:=C.lJ;obtain⟨k,d⟩:=V;rw[Ce]at j;obtain⟨hl,j⟩:=dL.1 j;obtain⟨X,m,j⟩:=dD.1 j;have s:=aC hl;rw[jt]at s;rw[kt]at m;split at m
  ·rename_i y;simp at m;subst m;obtain⟨t,A,_⟩:=hr.cells G;have u:=l.1;have v:=t.1;simp only[bZ]at u v;have F:=gD n;have I:k*b+c.cells.size<=cells.size:=by
    rw[<-u,F,<-v,s,<-bX];exact aW _ y
   have K:=DU (cells:=cells) (c:=c) I;have x:=Hh n y d;have L:∀f∈g.set k d,f.cells.length=b:=by
    intro f hx;rcases bV hx with N|rfl
    ·exact n f N
    ·exact s
   have B:fV hp μ (fa (g.set k d)) (c.cells.zipIdx.foldl (λz (f:am×Nat)=>z.setIfInBounds (k*b+f.2) f.1) cells).toList:=by
    rw[K,x];have:c.cells.size=b:=dq;rw[this];exact((l.take _).append t).append (l.drop _)
   have J:∀f∈fa (g.set k d),f.scalar=true:=by
    intro f hx;rw[x]at hx;rcases List.mem_append.1 hx with hx|hx
    ·rcases List.mem_append.1 hx with hx|hx
     ·exact q f (bw hx)
     ·exact A f hx
    ·exact q f (bA hx)
   obtain⟨r,O,Q,R,S,U⟩:=M W _ i _ D L B J j;refine⟨r,?_,Q,R,S,by simpa using U⟩;simp only[Instr.fill];have E:¬(c.cells.size≠b||decide (k*b+c.cells.size>cells.size))=true:=du;rw[ao E];exact O
  ·simp at m
def yg(iG:iP P cx){M:ab}{c:Nat}{A:af (Nat×ah)}(L:St cx base w.heap μ h)(r:j7 w.heap μ mask e a.tmps)(F:o.op= .buildSlice M c A){g:T}
 (b:nN M c A cx mask e h=some (.val g h')):iZ cx base w μ h.size ((execOp a.eval o).run P w) g h':=by
 replace b:=dD.1 b;obtain⟨bn,Z,b⟩:=b;obtain⟨d,D,I⟩:=kq (iG.ty _ _ Z);cases al:bn.u<;>rw[al]at b I<;>simp at b;rename_i C;have:=lq I;subst this;replace b:=dD.1 b;obtain⟨f,p,b⟩:=b;replace b:=dD.1 b;obtain⟨bl,W,b⟩:=b;replace b:=dL.1 b;obtain⟨G,b⟩:=b;replace b:=dL.1 b;obtain⟨m,b⟩:=b;replace b:=dD.1 b;obtain⟨es,E,b⟩:=b;rw[je,H.kz]at b;simp only[ar,ay]at b;obtain⟨rfl,rfl⟩:=b;have G:=bm G;have m:=bm m;have m:c*f.size<=65536:=m;rw[<-ng]at*
 have N:=wB L r W;obtain⟨B,J,bB,av,aE,aA,s,bC,aN⟩:=(iG.ty _ _ p).zero w;have Q:∃j:af am,(if c*f.size=0 then(pure #[]:Sem (af am))else do pure (<-zeroValue C).cells).run P w= .ok (if c*f.size=0 then #[]else B.cells) w/\
  ((Array.range (c*f.size)).map ((if c*f.size=0 then #[]else B.cells)[· % (if c*f.size=0 then #[]else B.cells).size]!))=j/\fV w.heap μ (fa (List.replicate c f.j1)) j.toList:=by
  by_cases i:c*f.size=0
  ·have S:c=0:=by
    rcases Nat.mul_eq_zero.1 i with k|k
    ·exact k
    ·omega
   subst S;refine⟨_,dt,rfl,?_⟩;simp[fa];exact fV.nil
  ·refine⟨_,by simp[i,J],rfl,?_⟩;rw[ao i,<-aN,yR c dq,qZ,s];exact(av _ _).replicate c
 obtain⟨j,bz,q,ap⟩:=Q;have ae:∀g∈List.replicate c f.j1,g.cells.length=f.size:=by
  intro g l;rw[bO l,s];exact aA
 have Y:∀g∈fa (List.replicate c f.j1),g.scalar=true:=by
  intro g l;obtain⟨y,an,l⟩:=List.mem_flatMap.1 l;rw[bO an,s]at l;exact aE g l
 rw[ng]at E;obtain⟨z,n,v,bi,K,bk⟩:=AD dq bl _ _ es j N ae ap Y E;have R:es.length=c:=by simpa using bk
 have V:z.size=c*f.size:=by
  have:=v.1;rw[gD K,R]at this;simpa using this.symm
 obtain⟨bs,aX,a6,a7,a8⟩:=vZ L C (arr:=z) (cap:=c) (sz:=f.size) (ex:=true) (es:=es) V dq dq K bi (by
  rw[bF]
  ·exact v
  ·have:=v.1;simp at this|-;omega)
 refine⟨.slice (some ⟨w.heap.size,0,none⟩) c c,_,bs,.inl ?_,.arr _ 0 0 c false _ _ c a8 (au _) (au _) (λ_=>⟨dt,dt,dt⟩),aX,a6,a7⟩;have U:¬c*f.size>2^24:=dq;have bu:Instr.fill (λt=>some (t*f.size,f.size)) j (A.map λ(t,x)=>(t,a.eval x)).toList=some z:=by rw[xU];exact n
 by_cases i:c*f.size=0
 ·have O:j= #[]:=by rw[<-q,i];simp
  rw[O]at n;have X:Array.map (λ_=>(default:am)) (Array.range 0)= #[]:=dt;simp[execOp,F,Instr.buildSlice,run_underlying D,(iG.ty _ _ p).run_sizeOf,i,X,n,newRow]
 ·simp only[i,br]at q;simp[execOp,F,Instr.buildSlice,run_underlying D,(iG.ty _ _ p).run_sizeOf,i,U,J,q,n,newRow]
set_option maxRecDepth 20000 in
def zm(iG:iP P cx){U:ab}{V A:ah}(z:St cx base w.heap μ h)(S:j7 w.heap μ mask e a.tmps)(I:o.op= .makeSlice U V A){i:T}
 (b:oN U V A cx mask e h=some (.val i h')):iZ cx base w μ h.size ((execOp a.eval o).run P w) i h':=by
 replace b:=dD.1 b;obtain⟨bk,ap,b⟩:=b;obtain⟨d,G,M⟩:=kq (iG.ty _ _ ap);cases av:bk.u<;>rw[av]at b M<;>simp at b;rename_i E;have:=lq M;subst this;replace b:=dD.1 b;obtain⟨f,s,b⟩:=b;replace b:=dD.1 b;obtain⟨p,hp,b⟩:=b;replace b:=dD.1 b;obtain⟨q,al,b⟩:=b;replace b:=dD.1 b;obtain⟨g,hl,b⟩:=b;replace b:=dD.1 b;obtain⟨c,X,b⟩:=b;replace b:=dL.1 b;obtain⟨J,b⟩:=b;replace b:=dL.1 b;obtain⟨F,b⟩:=b;replace b:=dL.1 b;obtain⟨n,b⟩:=b;replace b:=dL.1 b;obtain⟨r,b⟩:=b;rw[je,H.kz]at b;simp only[ar,ay]at b;obtain⟨rfl,rfl⟩:=b;have J:=bm J;have F:=bm F;have n:=bm n;have r:c*f.bytes<=70368744177664:=bm r;obtain⟨bC,rfl⟩:=m8 hl;obtain⟨bH,rfl⟩:=m8 X;have N:=(fX z S hp).jH;have v:=(fX z S al).jH;obtain⟨B,O,bz,aA,aN,aE,y,bB,aX⟩:=(iG.ty _ _ s).zero w;obtain⟨bN,L,K,bs⟩:=(iG.ty _ _ s).run_typeInfo w;have bn:c<=70368744177664:=aS (Nat.le_mul_of_pos_right c dq) r;have Y:∃m:af am,(if c*f.size=0 then(pure #[]:Sem (af am))else do pure (<-zeroValue E).cells).run P w= .ok (if c*f.size=0 then #[]else B.cells) w/\
  ((Array.range (c*f.size)).map ((if c*f.size=0 then #[]else B.cells)[· % (if c*f.size=0 then #[]else B.cells).size]!))=m/\fV w.heap μ (fa (List.replicate c f.j1)) m.toList:=by
  by_cases j:c*f.size=0
  ·have Z:c=0:=by
    rcases Nat.mul_eq_zero.1 j with k|k
    ·exact k
    ·omega
   subst Z;refine⟨_,dt,rfl,?_⟩;simp[fa];exact fV.nil
  ·refine⟨_,by simp[j,O],rfl,?_⟩;rw[ao j,<-aX,yR c dq,qZ,y];exact(aA _ _).replicate c
 obtain⟨m,bu,x,Q⟩:=Y;have t:∀R,∀i∈List.replicate R f.j1,i.cells.length=f.size:=by
  intro R i l;rw[bO l,y];exact aE
 have an:∀i∈fa (List.replicate g f.j1),i.scalar=true:=by
  intro i l;obtain⟨A,v,l⟩:=List.mem_flatMap.1 l;rw[bO v,y]at l;exact aN i l
 have ae:m.size=c*f.size:=by
  have:=Q.1;rw[gD (t c)]at this;simpa using this.symm
 obtain⟨bl,a6,a7,a8,bi⟩:=vZ z E (arr:=m) (cap:=c) (sz:=f.size) (ex:=Nat.beq g c) (es:=List.replicate g f.j1) ae (by simpa using n) (by intro W;simp;exact(aC W).symm) (t g) an (by
  rw[gD (t g),List.length_replicate];have:=Q.take (g*f.size);rw[qC (t c)]at this;rw[List.take_replicate,cw n]at this;exact this)
 refine⟨.slice (some ⟨w.heap.size,0,none⟩) g c,_,bl,.inl ?_,.arr _ 0 0 g false _ _ c bi (au _) n (λ_=>⟨dt,dt,dt⟩),a6,a7,a8⟩;have C:IntKind.i64.wrap (Int.ofNat c)=(c:Int):=IntWalk.i64_in (c:Int) ⟨dq,dq⟩;have D:IntKind.i64.wrap (Int.ofNat g)=(g:Int):=IntWalk.i64_in (g:Int) ⟨dq,dq⟩;have t1:¬((f.bytes:Int)*(c:Int)>2^48):=by
  have:((c*f.bytes:Nat):Int)<=70368744177664:=Int.ofNat_le.2 r;rw[Int.mul_comm];push_cast at this;omega
 have t2:(decide ((c:Int)<0)||decide ((f.bytes:Int)*(c:Int)>2^48)||decide ((g:Int)<0)||decide ((g:Int)>(c:Int)))=false:=by
  simp only[bI,bj];exact⟨⟨⟨dq,t1⟩,dq⟩,dq⟩
 by_cases j:c*f.size=0
 ·simp only[j,bo]at x;simp only[execOp,I,Instr.makeSlice,Sem.run_bind,run_underlying G,Result.andThen_ok,N,v,asInt,asIntOf,Sem.run_pure,L,K,C,D,t2,cd,br,run_askRoom,(iG.ty _ _ s).run_sizeOf,cE,j,bo,x,newRow,run_newObj]
 ·simp only[j,br]at x;simp only[execOp,I,Instr.makeSlice,Sem.run_bind,run_underlying G,Result.andThen_ok,N,v,asInt,asIntOf,Sem.run_pure,L,K,C,D,t2,cd,br,run_askRoom,(iG.ty _ _ s).run_sizeOf,cE,j,O,x,newRow,run_newObj]
def EC{f:ab}{i:ah}(d:St cx base w.heap μ h)(t:j7 w.heap μ mask e a.tmps)(l:o.op= .range f i)(m:P.underlying f=some .string){g:T}
 (b:B0 i cx mask e h=some (.val g h')):iZ cx base w μ h.size ((execOp a.eval o).run P w) g h':=by
 replace b:=dD.1 b;obtain⟨s,hp,b⟩:=b;cases s<;>simp at b;rename_i c;rw[je,H.kz]at b;simp only[ar,ay]at b;obtain⟨rfl,rfl⟩:=b;obtain⟨k,j⟩:=(fX d t hp).ll;obtain⟨p,q,r⟩:=d.new (.stringIter (bytesOf c) 0) ⟨0,w.heap.size,0,1⟩ ⟨1,0,0,true,true,[.str c,.int .i64 0]⟩ rfl (by
  intro u;refine⟨rfl,rfl,λn=>by simp at n,λ_=>⟨rfl,.inl ⟨c,0,rfl,j,dt⟩⟩⟩)
 refine⟨.pointer (some ⟨w.heap.size,0,none⟩),{w with heap:=w.heap.push (.stringIter (bytesOf c) 0)},_,.inl ?_,.iter _ _ _ (jh _ _ _) (λ_=>rfl),p,⟨q,rfl,rfl,rfl⟩,r⟩;simp[execOp,l,Instr.range,run_underlying m,k]
end
end
noncomputable section
section
variable {P:ai}{cx:Ctx}{base:Nat}{w:World}{μ:Mu}{h h':H}{mask:Nat}{e:Env}{a:Act}{o:Oper}{hp hp':af Obj}
def St.Bl(l:St cx base hp μ h){d:Nat}{c:Loc}{b:iN}(i:μ d=some c)(j:h.get d=some b)(k:b.it=false):yH hp μ c b.exact b.em/\b.ep=c.ep/\b.sz=c.sz:=by
 obtain⟨m,f,g⟩:=l.box d c i;rw[j]at f;simp at f;subst f;exact⟨g.plain k,g.ep,g.sz⟩
def yJ(p:St cx base w.heap μ h){f:Nat}{b:Loc}{k:iN}(n:μ f=some b)(u:h.get f=some k)(v:k.it=false){l arr':af am}{i:ab}(B:w.heap[b.iI]? =some (.cells l i (0,0)))
 {ep' M:Nat} {m:Bool} {c:List T} (r:ep'=b.ep\/ep'=b.ep+1) (z:h.put f ⟨k.sz,ep',M,m,false,c⟩=some h') (E:arr'.size=b.cap*b.sz) (A:c.length<=b.cap) (s:m=true->b.cap=c.length)
 (F:∀j∈c,j.cells.length=b.sz) (D:∀j∈fa c,j.scalar=true) (q:fV w.heap μ (fa c) (arr'.toList.take (fa c).length)):
 ∃g,St cx base (w.setRow b.iI arr').heap g h'/\oU w μ (w.setRow b.iI arr') g/\xE μ g h.size h'.size/\g f=some ⟨ep',b.iI,b.cap,b.sz⟩:=by
 obtain⟨N,O,G⟩:=p.Bl n u v;have y:∀d,d<w.heap.size->d≠b.iI->(w.setRow b.iI arr').heap[d]? =w.heap[d]? :=λd _ x=>setRow_other w b.iI d arr' x;have C:=setRow_heap w b.iI l arr' i (0,0) B;obtain⟨J,K,L⟩:=p.change (L':=⟨ep',b.iI,b.cap,b.sz⟩) n z dt y (by
  rcases r with rfl|rfl
  ·exact .inl rfl
  ·exact .inr ⟨dt,.inl rfl⟩) (by
  intro t;refine⟨rfl,G,λ_=>⟨⟨arr',i,C,E,q.ext t⟩,A,s,F,D⟩,λI=>by simp at I⟩)
 exact⟨_,J,⟨K,rfl,rfl,rfl⟩,L,jh _ _ _⟩
def zR{j:Type}(b d:List j){o c:Nat}(k:o+d.length<=c)(l:c<=b.length):(b.take o++d++b.drop (o+d.length)).take c=(b.take c).take o++d++(b.take c).drop (o+d.length):=by
 rw[List.take_append,List.take_append];have f:(b.take o).take c=(b.take c).take o:=by rw[List.take_take,List.take_take,Nat.min_comm]
 have g:(b.take o).length=o:=du;have i:(b.take o++d).length=o+d.length:=du;rw[f,g,i];congr 1
 ·congr 1;rw[bF dq]
 ·rw[List.drop_take]
def MM{b c:T}{g:Nat}{f:List T}(q:∀r∈f,r.scalar=true)(d:mz b g f=some c):
 g+f.length<=b.cells.length/\c.cells=b.cells.take g++f++b.cells.drop (g+f.length):=by
 by_cases i:∃j,b= .agg j
 ·obtain⟨j,rfl⟩:=i;obtain⟨s,l,k⟩:=dD.1 d;simp at k;subst k;exact nS l
 ·have n:b.cells=[b]:=by cases b<;>first|rfl|exact absurd ⟨_,rfl⟩ i
  have m:g=0/\f=[c]:=by
   unfold mz at d;cases b<;>first|(exact absurd ⟨_,rfl⟩ i)|(simp only[]at d;split at d<;>simp at d;subst d;exact⟨rfl,rfl⟩)
  obtain⟨rfl,rfl⟩:=m;have p:=q c dt;have:c.cells=[c]:=by cases c<;>simp[T.scalar]at p<;>rfl
  rw[n,this];simp
def EA(iG:iP P cx){t:ab}{x n:ah}(E:St cx base w.heap μ h)(r:j7 w.heap μ mask e a.tmps)(bB:o.op= .store t x n){k:T}
 (f:BY t x n cx mask e h=some (.val k h')):iZ cx base w μ h.size ((execOp a.eval o).run P w) k h':=by
 replace f:=dD.1 f;obtain⟨cp,b6,f⟩:=f;replace f:=dD.1 f;obtain⟨p,hp,f⟩:=f;replace f:=dD.1 f;obtain⟨u,bH,f⟩:=f;replace f:=dL.1 f;obtain⟨bs,f⟩:=f;replace f:=dD.1 f;obtain⟨Q,b,f⟩:=f;simp at f;obtain⟨rfl,rfl⟩:=f;have b7:=fX E r hp;obtain⟨ap,qs,cb⟩:=(fX E r bH).cells bs;have bC:∃z F c i,p= .ptr z F c i:=by
  unfold H.store at b;cases p<;>first|(exact⟨_,_,_,_,rfl⟩)|(simp at b)
 obtain⟨z,F,c,i,rfl⟩:=bC;unfold H.store at b;replace b:=dL.1 b;obtain⟨D,b⟩:=b;replace b:=dD.1 b;obtain⟨aE,S,b⟩:=b;obtain⟨av,G,aA,N,an,d⟩:=aE;have b:fT (Nat.beq G F) (@Bool.rec (λ_=>aa H) (dM (lM d c) λl=>dM (mz l i u.cells) λm=>dM (kr d c m) λA=>dM (gh (Nat.succ aA)) λM=>h.put z ⟨av,G,M,N,false,A⟩) none an)=some Q:=b;replace b:=dL.1 b;obtain⟨W,b⟩:=b;cases an with
 |true=>simp at b
 |false=>
  have b:(dM (lM d c) λl=>dM (mz l i u.cells) λm=>dM (kr d c m) λA=>dM (gh (Nat.succ aA)) λM=>h.put z ⟨av,G,M,N,false,A⟩)=some Q:=b;replace b:=dD.1 b;obtain⟨l,B,b⟩:=b;replace b:=dD.1 b;obtain⟨m,bl,b⟩:=b;replace b:=dD.1 b;obtain⟨A,y,b⟩:=b;simp only[iw,dR]at b;rw[ks]at B;have W:=aC W;have D:=aC D;rw[jt]at D;rw[kt]at y;split at y
  ·rename_i C;simp at y;subst y;obtain⟨g,cy,bN,R,_,a7⟩:=b7.oX;obtain⟨q,O,aN⟩:=E.Bl R S rfl;simp only[]at O aN;have a8:=a7 dq;subst a8;obtain⟨v,ce,Y,ae,I⟩:=q.row;have s:=q.size;simp only[]at s I;have bz:l∈d:=ax B;obtain⟨bu,U⟩:=MM qs bl;have c1:=s l bz;have bk:d[c]=l:=by rw[az C]at B;simpa using B
   have J:=gD s;have X:fa (d.set c m)=(fa d).take (c*g.sz+i)++u.cells++(fa d).drop (c*g.sz+i+u.cells.length):=by
    rw[Hh s C,U];have V:(fa d).drop (c*g.sz)=l.cells++(fa d).drop (c*g.sz+g.sz):=by
     rw[<-bX,oQ s,oQ s,aI C,bk,lA]
    have ht:(fa d).take (c*g.sz+i)=(fa d).take (c*g.sz)++l.cells.take i:=by
     rw[List.take_add,V,cV dq]
    have bi:(fa d).drop (c*g.sz+i+u.cells.length)=l.cells.drop (i+u.cells.length)++(fa d).drop (c*g.sz+g.sz):=by
     rw[cB,<-cS,V,List.drop_append_of_le_length bu]
    rw[ht,bi];simp[cr]
   have cL:c*g.sz+i+u.cells.length<=(fa d).length:=by
    rw[J];have:(c+1)*g.sz<=d.length*g.sz:=aW _ C;rw[bX]at this;omega
   have a6:(fa d).length<=v.size:=by
    rw[J,ae];exact aW _ q.room
   have K:=ap.1;have al:∀k∈d.set c m,k.cells.length=g.sz:=by
    intro k j;rcases bV j with L|rfl
    ·exact s k L
    ·rw[U];simp;omega
   have bS:∀k∈fa (d.set c m),k.scalar=true:=by
    intro k j;rw[X]at j;rcases List.mem_append.1 j with j|j
    ·rcases List.mem_append.1 j with j|j
     ·exact q.scalar k (bw j)
     ·exact qs k j
    ·exact q.scalar k (bA j)
   have bn:(fa (d.set c m)).length=(fa d).length:=by
    rw[gD al,J];simp
   have aX:fV w.heap μ (fa (d.set c m)) ((v.toList.take (c*g.sz+i)++(a.eval n).cells.toList++v.toList.drop (c*g.sz+i+(a.eval n).cells.toList.length)).toArray.toList.take (fa (d.set c m)).length):=by
    rw[bn,X];rw[db,zR _ _ dq (by simpa using a6)];rw[<-K];exact((I.take _).append ap).append (I.drop _)
   obtain⟨cv,b8,b9,ca,c4⟩:=yJ E R S rfl Y (.inl O) b (arr':=(v.toList.take (c*g.sz+i)++(a.eval n).cells.toList++v.toList.drop (c*g.sz+i+(a.eval n).cells.toList.length)).toArray)
    (by simp only[List.size_toArray,bh,List.length_take,List.length_drop,bZ]at K|-;rw[<-ae];omega) (by simpa using q.room) (by intro L;have:=q.sx L;simpa using this) al bS aX
   refine⟨Go.undef,_,cv,.inr ⟨?_,rfl⟩,.undef,b8,b9,ca⟩;have Z:=run_storeCells_at (P:=P) g.iI (c*g.sz+i) ce (a.eval n).cells.toList 0 v w Y (by simp only[Nat.add_zero];omega) cb;simp only[Nat.add_zero]at Z;have bT:(a.eval n).cells.size=cp.size:=by rw[<-D,K];simp
   simp only[execOp,bB,Instr.storeAt,Sem.run_bind,bN,Instr.sureAddr,Sem.run_pure,Result.andThen_ok,storeVar,(iG.ty _ _ b6).run_sizeOf,bT,ne_eq,not_true,br,Z]
  ·simp at y
end
end
noncomputable section
section
variable {P:ai}{cx:Ctx}{base:Nat}{w:World}{μ:Mu}{h h':H}{mask:Nat}{e:Env}{a:Act}{o:Oper}{hp hp':af Obj}
def Ke{g:Nat}{c:List T}(d:fits g c=true){k:Nat}(i:∀b∈c,b.cells.length=k):∀b∈c,b.cells.length=g:=by
 cases c with
 |nil=>intro b f;simp at f
 |cons j c=>
  have d:Nat.beq (kC j.cells) g=true:=d;have:=aC d;rw[jt]at this;have l:=i j dt;intro b f;rw[i b f];omega
structure Au(P:ai)(w:World)(μ:Mu)(c:am)(es:List T)(sz:Nat):Prop where
 HX:∀v∈es,v.cells.length=sz
 scalar:∀v∈fa es,v.scalar=true
 form:∃ad cap news,c= .slice ad es.length cap/\es.length<=cap/\fV w.heap μ (fa es) news/\(∀u∈news,u.oneCell'=true)/\
  ((ad=none/\es=[])\/∃x:Addr,ad=some x/\∀(j:Nat) u,news[j]? =some u->w.cell? (x.add j)=some u)
def fV.El{b:List T}{c:List am}(d:fV hp μ b c)(l:∀v∈b,v.scalar=true):∀j∈c,j.oneCell'=true:=by
 intro j m;obtain⟨k,g,rfl⟩:=List.getElem_of_mem m;have i:k<b.length:=by rw[d.1];exact g
 obtain⟨n,f,hr⟩:=d.get (k:=k) (v:=b[k]) (by simp[i]);simp[g]at f;subst f;exact qI hr (l _ (aF i))
def nM(s:St cx base w.heap μ h){E:T}{m:am}{es:List T}(x:fg w.heap μ E m)(c:h.jg E=some es):∃A,Au P w μ m es A:=by
 unfold H.jg at c;cases E<;>simp at c
 ·
  rename_i W X;subst c;cases W with
  |nil=>
   obtain⟨k,rfl⟩:=x.tK;refine⟨0,dt,by simp[fa],k,0,[],rfl,au _,fV.nil,dt,?_⟩;cases k with
   |none=>exact .inl ⟨rfl,rfl⟩
   |some y=>exact .inr ⟨y,rfl,dt⟩
  |cons p es=>
   obtain⟨F,off,C,A,q,Q,fz,rfl,bH,L,aN,bz,bk,bi,ap,hr⟩:=x.tL;have D:∀f∈fa (p::es),f.scalar=true:=λf g=>(ap f g).1;have t:sa w.heap μ F off (fa (p::es)):=⟨⟨q,Q,fz,L,bi,hr⟩,D⟩;have r:fV w.heap μ (fa (p::es)) ((q.toList.drop off).take (fa (p::es)).length):=by
    refine⟨du,λz f g=> ?_⟩;have aE:z<(fa (p::es)).length:=by
     rcases aD z (fa (p::es)).length with y|y
     ·exact y
     ·rw[aK y]at g;simp at g
    have:=hr z f g;have a7:off+z<q.size:=dq;simpa[List.getD,bJ,aE,aV,a7]using this
   refine⟨A,bk,D,some ⟨F,off,none⟩,C,_,rfl,aN,r,r.El D,.inr ⟨_,rfl,λj u d=> ?_⟩⟩;rw[ko];rw[bJ]at d;split at d
   ·rw[bG]at d;simp only[World.cell?,L];simpa using d
   ·simp at d
 ·subst c;obtain⟨k,C,rfl⟩:=x.zj;refine⟨0,dt,by simp[fa],k,C,[],rfl,aw _,fV.nil,dt,?_⟩;cases k with
  |none=>exact .inl ⟨rfl,rfl⟩
  |some y=>exact .inr ⟨y,rfl,dt⟩
 ·rename_i b U l i X;replace c:=dD.1 c;obtain⟨R,an,c⟩:=c;obtain⟨A,V,bS,bs,O,n⟩:=R;have c:fT (Nat.beq V U) (@Bool.rec (λ_=>aa (List T)) (dM (jJ l n) λt=>takeN i t) none O)=some es:=c;replace c:=dL.1 c;obtain⟨K,c⟩:=c;cases O with
  |true=>simp at c
  |false=>
   have c:(dM (jJ l n) λt=>takeN i t)=some es:=c;replace c:=dD.1 c;obtain⟨t,hr,c⟩:=c;rw[lF]at hr;split at hr
   ·rename_i bC;simp at hr;subst hr;rw[m9]at c;split at c
    ·rename_i a6;simp at c a6;subst c;obtain⟨B,k,G,rfl,al,bu,av,aA⟩:=x.rV;obtain⟨m,Y,Z⟩:=s.Bl al an rfl;simp only[]at Y Z;have K:=aC K;obtain⟨bl,bn,S⟩:=aA dq;obtain⟨q,Q,a8,bN,r⟩:=m.row;have v:=m.size;simp only[]at v r;have J:=Cb v l i;have M:((n.drop l).take i).length=i:=du;have bB:=gD v;have I:fV w.heap μ (fa ((n.drop l).take i)) (((q.toList.take (fa n).length).drop (l*B.sz)).take (i*B.sz)):=by
      rw[J];exact(r.drop _).take _
     have N:∀f∈fa ((n.drop l).take i),f.scalar=true:=by
      intro f g;rw[J]at g;exact m.scalar f (bA (bw g))
     refine⟨B.sz,λf g=>v f (bA (bw g)),N,k,G,_,by rw[M],by rw[M];exact av,I,I.El N,?_⟩;by_cases ae:G=0
     ·have aX:i=0:=dq;subst aX;cases k with
      |none=>exact .inl ⟨rfl,dt⟩
      |some y=>exact .inr ⟨y,rfl,dt⟩
     ·refine .inr ⟨_,S ae,λj u d=> ?_⟩;rw[ko];rw[bJ]at d;split at d
      ·rw[bG,bJ]at d;split at d
       ·simp only[World.cell?,a8];simpa using d
       ·simp at d
      ·simp at d
    ·simp at c
   ·simp at hr
def Au.src{f:am}{c:List T}{d:Nat}(k:Au P w μ f c d){l m:ab}(j:P.underlying l=some (.slice m)):∃b,Src P d l f c.length b w/\fV w.heap μ (fa c) b:=by
 obtain⟨s,g,b,rfl,t,i,n,p⟩:=k.form;refine⟨b,?_,i⟩;have hl:b.length=c.length*d:=by rw[<-i.1,gD k.HX]
 rcases p with⟨rfl,rfl⟩|⟨r,rfl,q⟩
 ·have:b=[]:=aY (by simpa using hl);subst this;exact Src.ofNil w j g
 ·exact Src.ofSlice w j r c.length g b hl q n
def Au.first{f:am}{c:List T}{d:Nat}(j:Au P w μ f c d):∃b,(Builtin.firstCells d c.length f).run P w.drew= .ok b.toArray w.drew/\fV w.heap μ (fa c) b:=by
 obtain⟨n,g,b,rfl,q,i,p,k⟩:=j.form;refine⟨b,?_,i⟩;have hl:b.length=c.length*d:=by rw[<-i.1,gD j.HX]
 rcases k with⟨rfl,rfl⟩|⟨m,rfl,l⟩
 ·have:b=[]:=aY (by simpa using hl);subst this;exact run_firstCells_none w.drew d 0 0 g
 ·exact run_firstCells_some w.drew d c.length m c.length g b hl (by simpa using l)
end
end
noncomputable section
section
variable {P:ai}{cx:Ctx}{base:Nat}{w:World}{μ:Mu}{h h':H}{mask:Nat}{e:Env}{a:Act}{o:Oper}{hp hp':af Obj}
structure R1(P:ai)(w:World)(μ:Mu)(sz:Nat)(tx:ab)(x:am)(xs:List T)(news:List am):Prop where
 src:Src P sz tx x xs.length news w
 rel:fV w.heap μ (fa xs) news
 HX:∀v∈xs,v.cells.length=sz
 scalar:∀v∈fa xs,v.scalar=true
structure RZ(P:ai)(w:World)(μ:Mu)(sz:Nat)(c:am)(es:List T)(olds:List am):Prop where
 first:(Builtin.firstCells sz es.length c).run P w.drew= .ok olds.toArray w.drew
 rel:fV w.heap μ (fa es) olds
 HX:∀v∈es,v.cells.length=sz
 scalar:∀v∈fa es,v.scalar=true
def qF(c:af am)(b:Nat):(Builtin.zeroCells c b).size=b*c.size:=by simp[Builtin.zeroCells]
def uA{f g:List T}{c:T->Prop}(i:∀b∈fa f,c b)(j:∀b∈fa g,c b):∀b∈fa (f++g),c b:=by
 intro b d;rw[mI]at d;rcases List.mem_append.1 d with k|k
 ·exact i b k
 ·exact j b k
def B6{g f:List am}{i:af am}{b c d:Nat}(j:g.length+f.length=c*d)(k:i.size=d)(l:c<=b):
 ((g++f).toArray++Builtin.zeroCells i (b-c)).size=b*d:=by
 simp only[Array.size_append,List.size_toArray,bh,qF,j,k];rw[<-bY];congr 1;omega
def FR(iG:iP P cx){n p ty' i:ab}{d:Ty}(A:P.underlying n=some (.slice i))(C:cx.ty i=some d){j:aa Addr}{g:Nat}{b c:List T}{m l:List am}{q:am}
 (G:RZ P w μ d.size (.slice j b.length g) b m) (F:R1 P w μ d.size p q c l) (t:g<b.length+c.length) (N:1<=d.bytes) (B:(b.length+c.length)*d.bytes<=70368744177664):
 ∃(f:am) (k:Nat),b.length+c.length<=k/\f.cells.size=d.size/\(Builtin.append_ #[n,p] ty' #[.slice j b.length g,q]).run P w=
  .ok (.slice (some ⟨w.heap.size,0,none⟩) (b.length+c.length) k) {w with drawn:=w.drawn+1,heap:=w.heap.push (.cells ((m++l).toArray++Builtin.zeroCells f.cells (k-(b.length+c.length))) i)}:=by
 obtain⟨E,I,f,u,J,v,x,K,L,M,y,z,_⟩:=(iG.ty _ _ C).unfold;have D:f.cells.size=d.size:=by
  have:=(fV.rQ (hp:= #[]) (μ:=⟨λ_=>none,λ_=>False⟩) x).1.1;simp at this;omega
 have O:b.length+c.length<=70368744177664:=aS (Nat.le_mul_of_pos_right _ dq) B;have r:=G.first;have s:=F.src;rw[<-y]at r s;have:=run_append_grow_src w n p ty' i E f A u v j b.length g m r q c.length l s t dq (by rw[z];exact growslice_fits t dq);exact⟨f,_,grownCap_ge w _ _ _,D,this⟩
def AI(iG:iP P cx)(N:St cx base w.heap μ h){x y ty' n:ab}{d:Ty}(B:P.underlying x=some (.slice n))(F:cx.ty n=some d){ad:aa Addr}{cap:Nat}{es c:List T}{t s:List am}{z:am}
 (i:RZ P w μ d.size (.slice ad es.length cap) es t) (g:R1 P w μ d.size y z c s) (C:cap<es.length+c.length) {f:T} (b:h.iY d.size d.bytes es c=some (f,h')):
 ∃u m j,(Builtin.append_ #[x,y] ty' #[.slice ad es.length cap,z]).run P w= .ok u m/\fg m.heap j f u/\St cx base m.heap j h'/\oU w μ m j/\xE μ j h.size h'.size:=by
 unfold H.iY at b;simp only[qr,dR,iw,jt]at b;replace b:=dL.1 b;obtain⟨p,b⟩:=b;replace b:=dL.1 b;obtain⟨l,b⟩:=b;replace b:=dL.1 b;obtain⟨_,b⟩:=b;replace b:=dL.1 b;obtain⟨_,b⟩:=b;rw[H.kz]at b;simp only[ar,ay]at b;obtain⟨rfl,rfl⟩:=b;have p:=bm p;have l:(es++c).length*d.bytes<=70368744177664:=bm l;rw[bh]at l;obtain⟨Q,r,q,I,E⟩:=FR iG B F (ty':=ty') i g C p l;have v:∀f∈es++c,f.cells.length=d.size:=by
  intro f G;rcases List.mem_append.1 G with k|k
  ·exact i.HX f k
  ·exact g.HX f k
 have D:t.length+s.length=(es.length+c.length)*d.size:=by
  rw[<-i.rel.1,<-g.rel.1,gD i.HX,gD g.HX,bY]
 have A:fV w.heap μ (fa (es++c)) (((t++s).toArray++Builtin.zeroCells Q.cells (r-(es.length+c.length))).toList.take (fa (es++c)).length):=by
  rw[gD v,bh,Array.toList_append,db,cV du,bF du,mI];exact i.rel.append g.rel
 have O:St cx base ({w with drawn:=w.drawn+1}:World).heap μ h:=N;obtain⟨j,J,K,L,M⟩:=vZ O n (cap:=r) (sz:=d.size) (ex:=false) (es:=es++c) (B6 D I q) (by simpa using q) dt v (uA i.scalar g.scalar) A;rw[bh];exact⟨_,_,j,E,.arr _ 0 0 _ false _ _ r M (au _) q (λ_=>⟨dt,dt,dt⟩),J,⟨K.ext,rfl,rfl,rfl⟩,L⟩
def MQ(iG:iP P cx){n q ty' l:ab}{c:Ty}(v:P.underlying n=some (.slice l))(z:cx.ty l=some c){d b j k:Nat}{g:List am}{r:am}
 (i:Src P c.size q r k g w) (x:b+k<=j) {f:af am} {p:ab} (y:w.heap[d]? =some (.cells f p (0,0))) (K:b*c.size+g.length<=f.size):
 (Builtin.append_ #[n,q] ty' #[.slice (some ⟨d,0,none⟩) b j,r]).run P w= .ok (.slice (some ⟨d,0,none⟩) (b+k) j) (w.setRow d (f.toList.take (b*c.size)++g++f.toList.drop (b*c.size+g.length)).toArray):=by
 obtain⟨L,A,M,s,C,D,E,F,G,I,t,J,_⟩:=(iG.ty _ _ z).unfold;have m:=run_storeCells_at (P:=P) d (b*c.size) p g 0 f w y dq i.one;simp only[Nat.add_zero]at m;have u:(⟨d,0,none⟩:Addr).add (b*c.size)=⟨d,b*c.size,none⟩:=by rw[ko];simp
 rcases i.kind with⟨B,hk⟩|hk<;>simp[Builtin.append_,run_underlying v,run_underlying hk,sizeOf,typeInfo,s,t,i.len,x,i.cells,u,m]
def MR(iG:iP P cx){i k ty' g:ab}{j:Ty}(p:P.underlying i=some (.slice g))(r:cx.ty g=some j){b:aa Addr}{f c:Nat}{l:am}(d:Src P j.size k l 0 [] w)(q:f<=c):
 (Builtin.append_ #[i,k] ty' #[.slice b f c,l]).run P w= .ok (.slice b f c) w:=by
 obtain⟨C,s,D,m,u,v,x,y,z,A,n,B,_⟩:=(iG.ty _ _ r).unfold;rcases d.kind with⟨t,hk⟩|hk<;>cases b<;>simp[Builtin.append_,run_underlying p,run_underlying hk,sizeOf,typeInfo,m,n,d.len,q,d.cells,storeCells]
def CD(iG:iP P cx)(s:St cx base w.heap μ h){t b9 ty' M:ab}{d:Ty}(bu:P.underlying t=some (.slice M))(b7:cx.ty M=some d){D X b:Nat}{f:List T}{m:List am}{E x:am}
 (ds:fg w.heap μ (.arr D X 0 b false) E) (v:R1 P w μ d.size b9 x f m) (dm:f≠ []) {l:T} (c:h.ma d.size d.bytes D X b f=some (l,h')):
 ∃a7 V I,(Builtin.append_ #[t,b9] ty' #[E,x]).run P w= .ok a7 V/\fg V.heap I l a7/\St cx base V.heap I h'/\oU w μ V I/\xE μ I h.size h'.size:=by
 unfold H.ma at c;replace c:=dD.1 c;obtain⟨cb,bs,c⟩:=c;obtain⟨a6,ep',ca,ef,b8,g⟩:=cb;have c:(dM (takeN b g) λJ=>dM (Db J f) λbk=>dM (gh (kC bk)) λn=>fT (Nat.ble 1 d.bytes)<|fT (Nat.beq ep' X) (fT (Nat.beq a6 d.size) (fT (Nat.ble (Nat.mul n d.bytes) 70368744177664) (fT (fits d.size f) (@Bool.rec (λ_=>aa (T×H))
  (dM (gh (Nat.succ ep')) λbi=>dM (gh (Nat.succ ca)) λec=>dM (h.put D ⟨a6,bi,ec,false,false,bk⟩) λh'=>some (.arr D bi 0 n false,h')) none b8)))))=some (l,h'):=c
 replace c:=dD.1 c;obtain⟨J,K,c⟩:=c;simp only[qr,dR,iw,jt]at c;replace c:=dL.1 c;obtain⟨ae,c⟩:=c;replace c:=dL.1 c;obtain⟨bz,c⟩:=c;replace c:=dL.1 c;obtain⟨b6,c⟩:=c;replace c:=dL.1 c;obtain⟨R,c⟩:=c;replace c:=dL.1 c;obtain⟨_,c⟩:=c;cases b8 with
 |true=>simp at c
 |false=>
  have c:(dM (h.put D ⟨a6,ep'+1,ca+1,false,false,J++f⟩) λh'=>some (T.arr D (ep'+1) 0 (J++f).length false,h'))=some (l,h'):=c;replace c:=dD.1 c;obtain⟨eh,bC,c⟩:=c;simp only[ar,ay]at c;obtain⟨rfl,rfl⟩:=c;have ae:=bm ae;have bz:=aC bz;have b6:=aC b6;have R:(J++f).length*d.bytes<=70368744177664:=bm R;rw[bh]at R;rw[m9]at K;split at K
  ·rename_i de;simp at K;subst K;obtain⟨A,W,r,rfl,Z,er,eo,c6⟩:=ds.rV;obtain⟨E,cp,cv⟩:=s.Bl Z bs rfl;simp only[]at cp cv;obtain⟨_,ce,a8⟩:=c6 dq;have c1:r=A.cap:=by have:=ce rfl;omega
   obtain⟨q,ey,av,bT,bl⟩:=E.row;have L:=E.size;simp only[]at L bl;have C:A.sz=d.size:=dq;have p:(g.take b).length=b:=du;have aA:∀l∈g.take b,l.cells.length=d.size:=λl F=>by rw[<-C];exact L l (bw F)
   have bN:∀l∈fa (g.take b),l.scalar=true:=by
    intro l F;rw[<-qC L]at F;exact E.scalar l (bw F)
   have S:∀l∈g.take b++f,l.cells.length=A.sz:=by
    intro l F;rw[C];rcases List.mem_append.1 F with k|k
    ·exact aA l k
    ·exact v.HX l k
   have bS:=uA bN v.scalar;have c9:=gD L;have bB:m.length=f.length*d.size:=by rw[<-v.rel.1,gD v.HX]
   have N:fV w.heap μ (fa (g.take b)) (q.toList.take (b*A.sz)):=by
    have:=bl.take (b*A.sz);rw[qC L,List.take_take,cw (by rw[c9];exact aW _ de)]at this;exact this
   have eu:0<f.length:=List.length_pos_iff.2 dm;by_cases bH:b+f.length<=r
   ·
    have c4:r≠0:=dq;have bn:=a8 c4;simp only[Nat.zero_mul]at bn;subst bn;have cL:b*d.size+m.length<=q.size:=by
     rw[bT,bB,C,<-bY];exact aW _ dq
    have Q:=MQ (ty':=ty') iG bu b7 v.src bH av cL;have al:(fa (g.take b++f)).length=b*d.size+m.length:=by
     rw[gD S,bh,p,bB,C,bY]
    have Y:fV w.heap μ (fa (g.take b++f)) ((q.toList.take (b*d.size)++m++q.toList.drop (b*d.size+m.length)).toArray.toList.take (fa (g.take b++f)).length):=by
     have ht:(q.toList.take (b*d.size)++m).take (b*d.size+m.length)=q.toList.take (b*d.size)++m:=bF du;rw[al,db,cV du,ht,mI];rw[C]at N;exact N.append v.rel
    obtain⟨I,aE,aN,aX,ea⟩:=yJ s Z bs rfl av (ep':=ep'+1) (.inr dq) bC (arr':=(q.toList.take (b*d.size)++m++q.toList.drop (b*d.size+m.length)).toArray)
     (by simp only[List.size_toArray,bh,List.length_take,List.length_drop,bZ];rw[<-bT];omega) (by simp[p];omega) dt S bS Y
    refine⟨_,_,I,Q,?_,aE,aN,aX⟩;have an:(g.take b++f).length=b+f.length:=by rw[bh,p]
    rw[an];exact .arr _ _ 0 _ false _ _ r ea (au _) bH (λ_=>⟨dt,by simp[c1],dt⟩)
   ·
    have G:∃B,RZ P w μ d.size (.slice W b r) (g.take b) B:=by
     refine⟨q.toList.take (b*A.sz),?_,N,aA,bN⟩;rw[p];have dk:(q.toList.take (b*A.sz)).length=b*d.size:=by rw[<-N.1,gD aA,p]
     by_cases cy:r=0
     ·have dd:b=0:=dq;subst dd;simp only[Nat.zero_mul,List.take_zero];cases W with
      |none=>exact run_firstCells_none w.drew d.size 0 0 r
      |some y=>exact run_firstCells_some w.drew d.size 0 y 0 r [] dt dt
     ·rw[a8 cy];refine run_firstCells_some w.drew d.size b _ b r _ dk (λj u O=> ?_);rw[ko];rw[bJ]at O;split at O
      ·show World.cell? w _=_;simp only[World.cell?,av];simpa using O
      ·simp at O
    obtain⟨B,G⟩:=G;have dn:((g.take b).length+f.length)*d.bytes<=70368744177664:=by rw[<-p]at*;exact R
    have eb:RZ P w μ d.size (.slice W (g.take b).length r) (g.take b) B:=by rw[p];exact G
    obtain⟨z,U,ap,dv,Q⟩:=FR iG bu b7 (ty':=ty') eb v (by rw[p];omega) ae dn;rw[p]at Q ap;have di:B.length+m.length=(b+f.length)*d.size:=by
     rw[<-G.rel.1,<-v.rel.1,gD G.HX,gD v.HX,p,bY]
    have al:(fa (g.take b++f)).length=(b+f.length)*d.size:=by
     rw[gD S,bh,p,C]
    have Y:fV w.heap μ (fa (g.take b++f)) (((B++m).toArray++Builtin.zeroCells z.cells (U-(b+f.length))).toList.take (fa (g.take b++f)).length):=by
     have ht:(B++m).take ((b+f.length)*d.size)=B++m:=bF du;rw[al,Array.toList_append,db,cV du,ht,mI];exact G.rel.append v.rel
    have an:(g.take b++f).length=b+f.length:=by rw[bh,p]
    obtain⟨aE,aN,aX⟩:=s.change (L':=⟨ep'+1,w.heap.size,U,A.sz⟩) (hp':=w.heap.push (.cells ((B++m).toArray++Builtin.zeroCells z.cells (U-(b+f.length))) M)) Z bC dt
     (by intro i et _;rw[Array.getElem?_push];simp;omega) (.inr ⟨du,.inr (au _)⟩) (by
     intro c7;refine⟨rfl,du,λ_=>⟨⟨_,M,dt,?_,Y.ext c7⟩,by simp[p];omega,dt,S,bS⟩,λk=>by simp at k⟩;rw[B6 di dv ap,C])
    refine⟨_,_,_,Q,?_,aE,⟨aN,rfl,rfl,rfl⟩,aX⟩;rw[an];exact .arr _ _ 0 _ false _ _ U (jh _ _ _) (au _) ap (λ_=>⟨dt,dt,dt⟩)
  ·simp at K
end
end
end Go.TI
