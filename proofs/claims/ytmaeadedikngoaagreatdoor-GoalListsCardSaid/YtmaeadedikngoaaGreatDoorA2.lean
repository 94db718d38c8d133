/- Texts TiRead3 to TiOps. -/
import Derived.Test.YtmaeadedikngoaaGreatDoorA1
import Derived.Great.FillDense
import Derived.Laws.Tables
import Derived.Great.BuildSlice
import Derived.Deep.AppendSrc
import Derived.Laws.AppendOwn
import Derived.Lib.ConvBytes
set_option linter.all false
set_option maxRecDepth 100000
set_option maxHeartbeats 8000000
namespace Go.TI
noncomputable section
section
variable {P:ai}{cx:Ctx}{base:Nat}{w:World}{μ:Mu}{h:H}{mask:Nat}{e:Env}{a:Act}{o:Oper}{hp:af Obj}
def AN(iZ:jd P cx){q j:ab}{s:ah}(g:St cx base w.heap μ h)(A:kt w.heap μ mask e a.tmps)(n:o.op= .convert q j s){r:T}{k:H}{c:T}
 (d:∃i,cx.ty q=some i) (hp:fR cx mask e s=some c) (b:conv cx j c=some r) (x:k=h):jm cx base w μ h.size ((execOp a.eval o).run P w) r k:=by
 subst x;obtain⟨D,d⟩:=d;obtain⟨C,m,_⟩:=kO (iZ.ty _ _ d);replace b:=dL.1 b;obtain⟨i,y,b⟩:=b;obtain⟨B,l,f⟩:=kO (iZ.ty _ _ y);have p:=gU g A hp;cases z:i.u<;>rw[z]at b f<;>simp at b
 ·have:=yi f;subst this;cases c<;>simp at b;subst b;exact jm.pure g (by simp[execOp,n,convert,run_underlying m,run_underlying l,p.jV,Conv.intToInt]) (.int _ _)
 ·have:=sw f;subst this;cases c<;>simp at b;subst b;obtain⟨v,t⟩:=p.lJ;exact jm.pure g (by simp[execOp,n,convert,run_underlying m,run_underlying l,v]) (.str _ t)
def uH{g:aa ah}{c:aa Nat}(p:St cx base w.heap μ h)(n:kt w.heap μ mask e a.tmps)(b:jQ cx mask e g=some c):
 (g=none/\c=none)\/∃d i f,g=some d/\c=some f/\a.eval d= .int i (f:Nat):=by
 cases g with
 |none=>left;simp[jQ]at b;exact⟨rfl,b.symm⟩
 |some d=>
  right;have b:(dV (fR cx mask e d) λj=>dV (pR j) λc=>some (some c))=some c:=b;replace b:=dL.1 b;obtain⟨j,m,b⟩:=b;replace b:=dL.1 b;obtain⟨f,l,b⟩:=b;simp at b;subst b;obtain⟨i,k⟩:=nN l;exact⟨d,i,f,rfl,rfl,(k▸gU p n m).jV⟩
def run_sliceBound{d:am}{j:ak}{b:Nat}(i:d= .int j (b:Nat)){c:Nat}(k:b<=c)(f:BoundsCode):(Instr.sliceBound d c f).run P w= .ok b w:=by
 subst i;have g:0<=((b:Nat):Int)/\((b:Nat):Int)<=(c:Int):=⟨dB,dB⟩;simp only[Instr.sliceBound,asIntOf,Sem.run_bind,Sem.run_pure,Result.andThen_ok,g,and_self,bg];simp
def qr{isS:Bool}{len cap:Nat}{r p s:aa ah}{l d m:aa Nat}
 (n:(r=none/\l=none)\/∃c i b,r=some c/\l=some b/\a.eval c= .int i (b:Nat)) (u:(p=none/\d=none)\/∃c i b,p=some c/\d=some b/\a.eval c= .int i (b:Nat))
 (B:(s=none/\m=none)\/∃c i b,s=some c/\m=some b/\a.eval c= .int i (b:Nat)) (C:∀b,m=some b->b<=cap/\d=some b) (hl:f6 l 0<=f6 d len) (v:f6 d len<=len) (G:len<=cap):
 (Instr.sliceBounds isS len cap (r.map a.eval) (p.map a.eval) (s.map a.eval)).run P w= .ok (f6 l 0,f6 d len,f6 m cap) w:=by
 rcases B with⟨rfl,rfl⟩|⟨J,I,E,rfl,rfl,t⟩
 ·rcases u with⟨rfl,rfl⟩|⟨F,D,k,rfl,rfl,g⟩
  ·rcases n with⟨rfl,rfl⟩|⟨A,z,j,rfl,rfl,f⟩
   ·simp[Instr.sliceBounds,f6]
   ·have hl:j<=len:=hl;simp[Instr.sliceBounds,f6,run_sliceBound f hl]
  ·have v:k<=len:=v;have x:k<=cap:=dB;rcases n with⟨rfl,rfl⟩|⟨A,z,j,rfl,rfl,f⟩
   ·simp[Instr.sliceBounds,f6,run_sliceBound g x]
   ·have hl:j<=k:=hl;simp[Instr.sliceBounds,f6,run_sliceBound g x,run_sliceBound f hl]
 ·obtain⟨y,q⟩:=C E rfl;rcases u with⟨rfl,rfl⟩|⟨F,D,k,rfl,rfl,g⟩
  ·simp at q
  ·simp at q;subst q;rcases n with⟨rfl,rfl⟩|⟨A,z,j,rfl,rfl,f⟩
   ·simp[Instr.sliceBounds,f6,run_sliceBound g (au _),run_sliceBound t y]
   ·have hl:j<=k:=hl;simp[Instr.sliceBounds,f6,run_sliceBound g (au _),run_sliceBound t y,run_sliceBound f hl]
def En(b:Nat):f6 none b=b:=rfl
def yV{l:Type}{g j:List l}{f d:Nat}(m:f<=d)(i:J9 g f d=some j):d<=g.length/\j=(g.drop f).take (d-f):=by
 unfold J9 at i;obtain⟨n,b,c⟩:=dL.1 i;rw[lU]at b;split at b
 ·simp at b;subst b;rw[nO]at c;split at c
  ·rename_i k;simp at k c;refine⟨?_,c.symm⟩;omega
  ·simp at c
 ·simp at b
def CL{c:Nat}{b:List T}(f:∀d∈b,d.cells.length=c)(g i:Nat):fx ((b.drop g).take i)=((fx b).drop (g*c)).take (i*c):=by
 rw[pG f,rx (λd j=>f d (bF j))]
def GL{i:T}{g:List T}{n off j:Nat}{m:af am}{t:ab}{fz:Nat×Nat}{c f:Nat}{q:T}{l:List T}{full:Bool}{cap:Nat}(C:¬nz μ n)(y:hp[n]? =some (.cells m t fz))
 (r:∀b∈i::g,b.cells.length=j) (F:off+(fx (i::g)).length<=m.size) (u:∀b∈fx (i::g),vj b)
 (hr:∀(k:Nat) b,(fx (i::g))[k]? =some b->fD hp μ b (m.getD (off+k) Go.undef)) (E:c<=f) (z:f<=(i::g).length) (s:q::l=((i::g).drop c).take (f-c))
 (D:f-c<=cap) (v:full=true->cap=f-c):fD hp μ (.dN (q::l) full) (.slice (some ⟨n,off+c*j,none⟩) (f-c) cap):=by
 have A:l.length+1=f-c:=by
  have:=bP List.length s;simp only[bh,List.length_take,List.length_drop]at this;simp only[bh]at z;omega
 have x:=il r;have p:=CL r c (f-c);rw[<-s]at p;have B:∀b∈q::l,b∈i::g:=λb d=>bF (bE (s▸d));rw[<-A];refine .dN q l full n (off+c*j) cap j m t fz C y dB (λk=>by rw[v k];omega) (λb d=>r b (B b d)) ?_ ?_ ?_
 ·rw[p];simp only[List.length_take,List.length_drop];have:c*j+(f-c)*j<=(fx (i::g)).length:=by
   rw[x,<-cg];exact aY _ dB
  omega
 ·intro b d;rw[p]at d;exact u b (bF (bE d))
 ·intro k b d;rw[p,bM]at d;split at d
  ·rw[bK]at d;have:=hr _ b d;rwa[<-cH]at this
  ·simp at d
def A8(d:List Nat)(b c:Nat):(bytesOf d).extract b c=bytesOf ((d.drop b).take (c-b)):=by
 apply ByteArray.ext;have:((bytesOf d).extract b c).data.toList=((bytesOf d).data.toList.drop b).take (c-b):=Lib.extract_data _ _ _;apply cC;rw[this];simp[bytesOf,List.map_take,List.map_drop]
def GQ(iZ:jd P cx){t:ab}{x:ah}{Q G R:aa ah}(S:St cx base w.heap μ h)(bi:o.op= .slice t x Q G R){c:Nat}{y:ab}(a6:P.underlying t=some (.array c y)){u:T}
 (bu:fD w.heap μ u (a.eval x)) {d g l:aa Nat}
 (bC:(Q=none/\d=none)\/∃n m f,Q=some n/\d=some f/\a.eval n= .int m (f:Nat)) (bH:(G=none/\g=none)\/∃n m f,G=some n/\g=some f/\a.eval n= .int m (f:Nat))
 (bN:(R=none/\l=none)\/∃n m f,R=some n/\l=some f/\a.eval n= .int m (f:Nat)) (bk:yD g l=true) (k:jp cx h (.array c y) u=true) {v:T}
 (b:o9 (asSlice (.array c y) u) d g l=some v):jm cx base w μ h.size ((execOp a.eval o).run P w) v h:=by
 unfold jp at k;simp only at k;cases K:cx.ty y with
 |none=>rw[K]at k;simp at k
 |some ap=>
  rw[K]at k;have bs:=(iZ.ty _ _ K).run_sizeOf w;have hp:∃p r al j,u= .ptr p r al j:=by cases u<;>first|exact⟨_,_,_,_,rfl⟩|(simp at k)
  obtain⟨p,r,al,j,rfl⟩:=hp;simp only at k;cases F:h.get p with
  |none=>rw[F]at k;simp at k
  |some U=>
   rw[F]at k;obtain⟨bS,aE,cb,b8,ca,aA⟩:=U;simp only[ay,ci]at k;obtain⟨⟨⟨⟨⟨⟨L,an⟩,M⟩,N⟩,bz⟩,bB⟩,O⟩:=k;have L:=aD L;have an:=aD an;have M:=aD M;have N:=aD N;have O:=aD O;rw[jH]at O;subst M N bz bB;obtain⟨i,bT,bp,s,X,aX⟩:=bu.pJ;obtain⟨U,E,D⟩:=S.box p i s;rw[F]at E;simp only[ar]at E;subst E;have b6:aE=i.ep:=D.ep;have av:bS=i.sz:=D.sz;have b7:i.cap=aA.length:=(D.plain rfl).tz rfl;have W:=aX dB;simp at W;subst W;have b:vz p r 0 c false (f6 d 0) (f6 g c) l=some v:=b;unfold vz at b;replace b:=dT.1 b;obtain⟨I,b⟩:=b;replace b:=dT.1 b;obtain⟨z,b⟩:=b;have I:=bw I;have z:=bw z;simp only[iE,dY,Nat.add_eq,Nat.zero_add,Nat.sub_eq]at b;have ae:(∀f,l=some f->f=f6 g c)->
    (execOp a.eval o).run P w= .ok (.value (.slice (some (if f6 l c=f6 d 0 then⟨i.iR,0,none⟩else(⟨i.iR,0,none⟩:Addr).add (f6 d 0*ap.size))) (f6 g c-f6 d 0) (f6 l c-f6 d 0))) w:=by
    intro aN;have s:=qr (P:=P) (w:=w) (isS:=false) (len:=c) (cap:=c) bC bH bN (by
     intro f Y;have q:=aN f Y;cases g with
     |none=>subst Y;simp[yD]at bk
     |some m=>
      have q:f=m:=q;subst q;have b9:f<=c:=z;exact⟨dB,rfl⟩) I z (au _)
    simp[execOp,bi,Instr.sliceAt,run_underlying a6,bp,Instr.sureAddr,s,bs]
   have V:∀B:Nat,(⟨i.iR,0,none⟩:Addr).add (B*ap.size)=⟨i.iR,B*i.sz,none⟩:=by
    intro B;rw[kI,<-L,av];simp
   cases Z:l with
   |none=>
    subst Z;have A:=ae dC;have b:some (T.arr p r (f6 d 0) (f6 g c-f6 d 0) false)=some v:=b;simp only[ar]at b;subst b;refine jm.pure S A (.arr _ _ _ _ _ i _ _ s X ?_ λa7=>⟨dC,λ_=> ?_,λJ=> ?_⟩)
    ·show f6 g c-f6 d 0<=c-f6 d 0;omega
    ·show f6 d 0+(c-f6 d 0)=i.cap;omega
    ·have J:c-f6 d 0≠0:=J;have C:¬f6 none c=f6 d 0:=by show¬c=f6 d 0;omega
     rw[ao C,V]
   |some f=>
    subst Z;have b:gh (Nat.beq f (f6 g c)) (some (T.arr p r (f6 d 0) (f6 g c-f6 d 0) true))=some v:=b;replace b:=dT.1 b;obtain⟨q,b⟩:=b;have q:=aD q;simp only[ar]at b;subst b;have A:=ae (by intro m a8;simp at a8;omega);have bn:f6 (some f) c=f6 g c:=q;rw[bn]at A;refine jm.pure S A (.arr _ _ _ _ _ i _ _ s X (au _) λa7=>⟨λ_=>rfl,dC,λJ=> ?_⟩);have C:¬f6 g c=f6 d 0:=dB;rw[ao C,V]
def FE(iZ:jd P cx){t:ab}{x:ah}{dd cX b7:aa ah}(r:St cx base w.heap μ h)(Z:kt w.heap μ mask e a.tmps)(bC:o.op= .slice t x dd cX b7){q:T}{bn:H}
 (j:Cy t x dd cX b7 cx mask e h=some (.val q bn)):jm cx base w μ h.size ((execOp a.eval o).run P w) q bn:=by
 replace j:=dL.1 j;obtain⟨de,et,j⟩:=j;replace j:=dL.1 j;obtain⟨p,hp,j⟩:=j;replace j:=dT.1 j;obtain⟨m,j⟩:=j;replace j:=dL.1 j;obtain⟨g,dv,j⟩:=j;replace j:=dL.1 j;obtain⟨i,ds,j⟩:=j;replace j:=dL.1 j;obtain⟨F,ec,j⟩:=j;replace j:=dT.1 j;obtain⟨c7,j⟩:=j;obtain⟨f,rfl⟩:=fW.1 j;have b8:=uH r Z dv;have b9:=uH r Z ds;have bk:=uH r Z ec;obtain⟨d,bu,av⟩:=kO (iZ.ty _ _ et);have W:=gU r Z hp;by_cases cb:∃n aA,de.u= .array n aA
 ·obtain⟨n,aA,bi⟩:=cb;rw[bi]at m av f;have:=rf av;subst this;exact GQ iZ r bC bu W b8 b9 bk c7 m f
 unfold jp at m;cases bi:de.u<;>rw[bi]at m av f<;>(try simp at m)
 ·
  have:=sw av;subst this;replace f:o9 p g i F=some q:=f;cases p<;>simp at m;rename_i S;obtain⟨G,di⟩:=W.lJ;unfold o9 at f;cases E:F with
  |some k=>rw[E]at f;simp at f
  |none=>
   subst E;have f:gh (Nat.ble (f6 g 0) (f6 i (kR S))) (dV (J9 S (f6 g 0) (f6 i (kR S))) λZ=>some (T.str Z))=some q:=f;rw[jH]at f;replace f:=dT.1 f;obtain⟨v,f⟩:=f;have v:=bw v;replace f:=dL.1 f;obtain⟨Y,bN,f⟩:=f;obtain⟨aX,rfl⟩:=yV v bN;simp at f;subst f;have eb:b7=none:=by rcases bk with⟨K,_⟩|⟨_,_,_,_,K,_⟩;exact K;simp at K
   subst eb;have D:=qr (P:=P) (w:=w) (isS:=false) (len:=S.length) (cap:=S.length) b8 b9 bk dC v aX (au _);simp only[Option.map_none]at D;refine jm.pure (c:= .string ((bytesOf S).extract (f6 g 0) (f6 i S.length))) r ?_ ?_
   ·simp[execOp,bC,Instr.sliceAt,Instr.slice,run_underlying bu,G,jU,D]
   ·rw[A8];exact .str _ λc V=>di c (bF (bE V))
 ·rename_i aA;have:=mv av;subst this;replace f:o9 p g i F=some q:=f;cases bS:cx.ty aA with
  |none=>rw[bS]at m;simp at m
  |some ae=>
   rw[bS]at m;have er:=(iZ.ty _ _ bS).run_sizeOf w;have ef:∀k,F=some k->i.isSome=true:=by
    intro k a7;subst a7;cases i with
    |none=>simp[yD]at c7
    |some K=>rfl
   have O:∀(B:aa Addr) (len cap:Nat),a.eval x= .slice B len cap->len<=cap->f6 g 0<=f6 i len->f6 i len<=len->(∀k,F=some k->k=f6 i len)->
    (execOp a.eval o).run P w= .ok (.value (.slice (if f6 F cap=f6 g 0 then B else B.map (·.add (f6 g 0*ae.size))) (f6 i len-f6 g 0) (f6 F cap-f6 g 0))) w:=by
    intro B len cap J V U N ap;have D:=qr (P:=P) (w:=w) (isS:=true) (len:=len) (cap:=cap) b8 b9 bk (by
     intro k a7;have a8:=ef k a7;have z:=ap k a7;cases i with
     |none=>simp at a8
     |some K=>
      have z:k=K:=z;subst z;have N:k<=len:=N;exact⟨dB,rfl⟩) U N V
    simp[execOp,bC,Instr.sliceAt,Instr.slice,run_underlying bu,J,D,er]
   unfold o9 at f;cases p<;>simp at m
   ·rename_i l full;have f:tO l full (f6 g 0) (f6 i l.length) F=some q:=by rw[<-jH];exact f
    unfold tO at f;replace f:=dT.1 f;obtain⟨v,f⟩:=f;have v:=bw v;replace f:=dL.1 f;obtain⟨Y,bN,f⟩:=f;obtain⟨aX,R⟩:=yV v bN;cases l with
    |nil=>
     obtain⟨B,G⟩:=W.uj;have eo:Y=[]:=by rw[R];simp
     rw[eo]at f;have cL:f6 i 0=0:=by simpa using aX
     have c4:f6 g 0=0:=by simp only[cZ]at v;omega
     cases E:F with
     |none=>
      subst E;have f:some (T.dN [] false)=some q:=f;simp at f;subst f;have:=O B 0 0 G (au _) dB dB dC;refine jm.pure r this ?_;rw[c4,cL,En];exact .nM _ _
     |some k=>
      subst E;have f:gh (Nat.beq k (f6 i 0)) (some (T.dN [] false))=some q:=f;replace f:=dT.1 f;obtain⟨z,f⟩:=f;have z:=aD z;simp at f;subst f;have:=O B 0 0 G (au _) dB dB (by intro K Q;simp at Q;omega);refine jm.pure r this ?_;have ea:f6 (some k) 0=0:=by show k=0;omega
      rw[c4,cL,ea];exact .nM _ _
    |cons L l=>
     obtain⟨eA,off,cap,eu,ey,eB,fz,G,c6,cy,c1,dn,bT,a8,V,hr⟩:=W.uk;have c9:eu=ae.size:=by
      have m:Nat.beq (kR L.cells) ae.size=true:=m;have:=aD m;rw[jH]at this;rw[<-this];exact(bT L dC).symm
     have a6:f6 i (l.length+1)<=l.length+1:=by simpa using aX
     have aN:f6 g 0<=f6 i (l.length+1):=by simpa using v
     cases E:F with
     |none=>
      subst E;have s:=O _ _ _ G c1 aN a6 dC;cases Y with
      |nil=>
       have f:some T.gu=some q:=f;simp at f;subst f;have b6:f6 i (l.length+1)-f6 g 0=0:=by
        have:=bP List.length R;simp only[cZ,List.length_take,List.length_drop,bh]at this;omega
       rw[b6]at s;exact jm.pure r s (.gu _ _)
      |cons y ca=>
       have f:some (T.dN (y::ca) (@Bool.rec (λ_=>Bool) false (Nat.beq (f6 i (L::l).length) (kR (L::l))) full))=some q:=f;have eh:f6 g 0<f6 i (l.length+1):=by
        have:=bP List.length R;simp only[bh,List.length_take,List.length_drop]at this;omega
       have I:¬cap=f6 g 0:=dB;simp only[En,I,bo,cO,kI]at s;refine jm.pure r s ?_;simp only[ar]at f;rw[<-f,<-c9];have:=GL (full:= @Bool.rec (λ_=>Bool) false (Nat.beq (f6 i (L::l).length) (kR (L::l))) full) (cap:=cap-f6 g 0) c6 cy bT a8 V hr aN (by simpa using a6) R dB (by
        intro D;cases full with
        |false=>simp at D
        |true=>
         have D:Nat.beq (f6 i (L::l).length) (kR (L::l))=true:=D;have:=aD D;rw[jH]at this;simp only[bh]at this;rw[dn rfl,this])
       exact this
     |some k=>
      subst E;have f:gh (Nat.beq k (f6 i (L::l).length)) (@List.rec T (λ_=>aa T) (some (T.dN [] false)) (λ_ _ _=>some (T.dN Y true)) Y)=some q:=f;replace f:=dT.1 f;obtain⟨z,f⟩:=f;have z:=aD z;simp only[bh]at z;have s:=O _ _ _ G c1 aN a6 (by intro K Q;simp at Q;omega);have bH:f6 (some k) cap=f6 i (l.length+1):=z;rw[bH]at s;cases Y with
      |nil=>
       have f:some (T.dN [] false)=some q:=f;simp at f;subst f;have b6:f6 i (l.length+1)-f6 g 0=0:=by
        have:=bP List.length R;simp only[cZ,List.length_take,List.length_drop,bh]at this;omega
       rw[b6]at s;exact jm.pure r s (.nM _ _)
      |cons y ca=>
       have f:some (T.dN (y::ca) true)=some q:=f;have eh:f6 g 0<f6 i (l.length+1):=by
        have:=bP List.length R;simp only[bh,List.length_take,List.length_drop]at this;omega
       have I:¬f6 i (l.length+1)=f6 g 0:=dB;simp only[I,bo,cO,kI]at s;refine jm.pure r s ?_;simp only[ar]at f;rw[<-f,<-c9];exact GL c6 cy bT a8 V hr aN (by simpa using a6) R (au _) (λ_=>rfl)
   ·
    obtain⟨B,cap,G⟩:=W.z8;have f:gh (Nat.beq (f6 g 0) 0) (gh (Nat.beq (f6 i 0) 0) (@Option.rec Nat (λ_=>aa T) (some T.gu) (λk=>gh (Nat.beq k 0) (some (T.dN [] false))) F))=some q:=f;replace f:=dT.1 f;obtain⟨U,f⟩:=f;replace f:=dT.1 f;obtain⟨N,f⟩:=f;have U:=aD U;have N:=aD N;cases E:F with
    |none=>
     subst E;have f:some T.gu=some q:=f;simp at f;subst f;have:=O B 0 cap G (aw _) dB dB dC;rw[U,N]at this;exact jm.pure r this (.gu _ _)
    |some k=>
     subst E;have f:gh (Nat.beq k 0) (some (T.dN [] false))=some q:=f;replace f:=dT.1 f;obtain⟨ap,f⟩:=f;have ap:=aD ap;simp at f;subst f;subst ap;have:=O B 0 cap G (aw _) dB dB (by intro K Q;simp at Q;omega);rw[U,N]at this;exact jm.pure r this (.nM _ _)
   ·rename_i b al X A full;obtain⟨M,B,C,G,D,bz,ce,bs⟩:=W.sS;have f:vz b al X A full (f6 g 0) (f6 i A) F=some q:=f;unfold vz at f;replace f:=dT.1 f;obtain⟨v,f⟩:=f;replace f:=dT.1 f;obtain⟨aE,f⟩:=f;have v:=bw v;have aE:=bw aE;simp only[iE,dY]at f;have dm:M.sz=ae.size:=by
     cases bB:bn.get b with
     |none=>rw[bB]at m;simp at m
     |some dk=>
      rw[bB]at m;have m:Nat.beq dk.sz ae.size=true:=m;rw[<-aD m];exact(r.KC D bB).1.symm
    have bp:∀c:Nat,C≠0->al=M.ep->B.map (·.add (c*ae.size))=some ⟨M.iR,(X+c)*M.sz,none⟩:=by
     intro c I J;rw[(bs J).2.2 I,<-dm];simp[kI,cg]
    cases E:F with
    |none=>
     subst E;have s:=O B A C G ce v aE dC;have f:(@Bool.rec (λ_=>aa T) (some (T.arr b al (X+f6 g 0) (f6 i A-f6 g 0) false)) (gh (Nat.beq (f6 i A) A) (some (T.arr b al (X+f6 g 0) (f6 i A-f6 g 0) true))) full)=some q:=f;cases full with
     |false=>
      simp at f;subst f;refine jm.pure r s (.arr _ _ _ _ _ M _ _ D bz ?_ λJ=>⟨dC,λ_=> ?_,λI=> ?_⟩)
      ·show f6 i A-f6 g 0<=C-f6 g 0;omega
      ·have:=(bs J).2.1 rfl;show X+f6 g 0+(C-f6 g 0)=M.cap;omega
      ·have I:C-f6 g 0≠0:=I;have an:¬f6 none C=f6 g 0:=by show¬C=f6 g 0;omega
       rw[ao an];exact bp _ dB J
     |true=>
      replace f:=dT.1 f;obtain⟨cp,f⟩:=f;have cp:=aD cp;simp at f;subst f;refine jm.pure r s (.arr _ _ _ _ _ M _ _ D bz ?_ λJ=>⟨λ_=> ?_,dC,λI=> ?_⟩)
      ·show f6 i A-f6 g 0<=C-f6 g 0;omega
      ·have:=(bs J).1 rfl;show C-f6 g 0=f6 i A-f6 g 0;omega
      ·have I:C-f6 g 0≠0:=I;have an:¬f6 none C=f6 g 0:=by show¬C=f6 g 0;omega
       rw[ao an];exact bp _ dB J
    |some k=>
     subst E;have f:gh (Nat.beq k (f6 i A)) (some (T.arr b al (X+f6 g 0) (f6 i A-f6 g 0) true))=some q:=f;replace f:=dT.1 f;obtain⟨z,f⟩:=f;have z:=aD z;simp at f;subst f;have s:=O B A C G ce v aE (by intro K Q;simp at Q;omega);have bH:f6 (some k) C=f6 i A:=z;rw[bH]at s;refine jm.pure r s (.arr _ _ _ _ _ M _ _ D bz (au _) λJ=>⟨λ_=>rfl,dC,λI=> ?_⟩);have an:¬f6 i A=f6 g 0:=dB;rw[ao an];exact bp _ dB J
 ·exact absurd ⟨_,_,bi⟩ cb
end
end
noncomputable section
section
variable {P:ai}{cx:Ctx}{base:Nat}{w:World}{μ:Mu}{h h':H}{mask:Nat}{e:Env}{a:Act}{o:Oper}{hp hp':af Obj}
def St.eJ(g:St cx base hp μ h){b:Nat}{d:Loc}(f:μ b=some d):b<h.size:=by
 obtain⟨i,c,_⟩:=g.box b d f;rw[H.get_eq]at c;split at c
 ·assumption
 ·simp at c
def St.Pr(c:St cx base hp μ h):μ h.size=none:=by
 cases b:μ h.size with
 |none=>rfl
 |some d=>exact absurd (c.eJ b) (Nat.lt_irrefl _)
def qC(μ:Mu)(d:Nat)(c:Loc):Mu:=⟨λb=>if b=d then some c else μ b,μ.pi⟩
def jA(μ:Mu)(c:Nat)(b:Loc):qC μ c b c=some b:=by simp[qC]
def iP(μ:Mu){c b:Nat}(d:Loc)(h:b≠c):qC μ c d b=μ b:=by simp[qC,h]
def H.cons(h:H)(b:iY):H:=⟨h.size+1,h.low,b::h.fy⟩
def H.kF(b:Nat->T)(h:H)(c:iY):h.new b c=some (b h.size,h.cons c):=H.Ps b h c
def H.tq(c:h.fy.length=h.size)(b:iY):(h.cons b).get h.size=some b:=by
 rw[H.get_eq];simp[H.cons]
def H.mZ{b:Nat}(f:b<h.size)(c:iY):(h.cons c).get b=h.get b:=by
 rw[H.get_eq,H.get_eq];have d:b<(h.cons c).size:=by show b<h.size+1;omega
 rw[aq d,aq f];show(c::h.fy)[h.size+1-1-b]? =_;have:h.size+1-1-b=(h.size-1-b)+1:=dB;rw[this];simp
def St.new(d:St cx base hp μ h)(n:Obj)(l:Loc)(m:iY)(z:l.iR=hp.size)(E:Ext hp μ (hp.push n) (qC μ h.size l)->qI (hp.push n) (qC μ h.size l) l m):
 St cx base (hp.push n) (qC μ h.size l) (h.cons m)/\Ext hp μ (hp.push n) (qC μ h.size l)/\ye μ (qC μ h.size l) h.size (h.cons m).size:=by
 have D:=d.Pr;have p:Ext hp μ (hp.push n) (qC μ h.size l):=by
  refine⟨dC,λr C t=>⟨?_,?_⟩,λb k c=> ?_,rfl,λr C _=> ?_⟩
  rotate_right
  ·rw[Array.getElem?_push];simp;omega
  ·rw[Array.getElem?_push];simp;omega
  ·rintro(⟨b,k,c,rfl⟩|hr)
   ·by_cases g:b=h.size
    ·subst g;rw[jA]at c;simp at c;subst c;omega
    ·rw[iP _ _ g]at c;exact t (.inl ⟨b,k,c,rfl⟩)
   ·exact t (.inr hr)
  ·have:b≠h.size:=by rintro rfl;rw[D]at c;simp at c
   exact⟨k,by rw[iP _ _ this];exact c,.inl rfl⟩
 refine⟨⟨?_,?_,?_,?_,?_,?_,?_,?_⟩,p,?_⟩
 ·show(m::h.fy).length=h.size+1;simp[d.wf]
 ·simp;have:=d.fit;omega
 ·intro b k c;by_cases g:b=h.size
  ·subst g;rw[jA]at c;simp at c;subst c;exact⟨m,H.tq d.wf m,E p⟩
  ·rw[iP _ _ g]at c;obtain⟨F,j,i⟩:=d.box b k c;refine⟨F,by rw[H.mZ (d.eJ c)];exact j,i.ext p ?_⟩;have:=d.lt c;rw[Array.getElem?_push];simp;omega
 ·intro b s u v j i A;by_cases c:b=h.size<;>by_cases q:s=h.size
  ·omega
  ·subst c;rw[jA]at j;simp at j;subst j;rw[iP _ _ q]at i;have:=d.lt i;omega
  ·subst q;rw[jA]at i;simp at i;subst i;rw[iP _ _ c]at j;have:=d.lt j;omega
  ·rw[iP _ _ c]at j;rw[iP _ _ q]at i;exact d.inj b s u v j i A
 ·intro b k c;by_cases g:b=h.size
  ·subst g;rw[jA]at c;simp at c;subst c;rw[z];exact d.fit
  ·rw[iP _ _ g]at c;exact d.low b k c
 ·intro b k c hr;by_cases g:b=h.size
  ·subst g;rw[jA]at c;simp at c;subst c;have:=d.qF _ hr;omega
  ·rw[iP _ _ g]at c;exact d.apart b k c hr
 ·intro r hr;have:=d.qF r hr;simp;omega
 ·intro y x B;exact(d.yM y x B).ext p
 ·refine⟨by show h.size<=h.size+1;omega,λb c=> ?_,λb j i=> ?_⟩
  ·by_cases g:b=h.size
   ·right;exact⟨dB,by show b<h.size+1;omega⟩
   ·left;rwa[iP _ _ g]at c
  ·have:b=h.size:=by have i:b<h.size+1:=i;omega
   subst this;rw[jA];simp
def Bg{c:Nat}{f:iY}(j:h.put c f=some h')(k:h.fy.length=h.size):
 h'.size=h.size/\h'.fy.length=h'.size/\h'.get c=some f/\∀b,b≠c->h'.get b=h.get b:=by
 obtain⟨g,i,rfl⟩:=H.vK.1 j;refine⟨rfl,by simp[k],?_,λb l=> ?_⟩
 ·rw[H.get_eq];simp[g,i]
 ·rw[H.get_eq,H.get_eq];by_cases d:b<h.size
  ·simp only[d,bg];rw[cI];omega
  ·simp[d]
def St.change(g:St cx base hp μ h){d:Nat}{i L':Loc}{z:iY}(n:μ d=some i)(I:h.put d z=some h')(C:hp.size<=hp'.size)(y:∀p,p<hp.size->p≠i.iR->hp'[p]? =hp[p]?)
 (s:L'=i\/(i.ep<L'.ep/\(L'.iR=i.iR\/hp.size<=L'.iR))) (J:Ext hp μ hp' (qC μ d L')->qI hp' (qC μ d L') L' z):
 St cx base hp' (qC μ d L') h'/\Ext hp μ hp' (qC μ d L')/\ye μ (qC μ d L') h.size h'.size:=by
 obtain⟨p1,p2,p3,p4⟩:=Bg I g.wf;have q:L'.iR=i.iR\/hp.size<=L'.iR:=by
  rcases s with rfl|s
  ·exact .inl rfl
  ·exact s.2
 have u:Ext hp μ hp' (qC μ d L'):=by
  refine⟨C,λp x v=>⟨y p x λk=>v (.inl ⟨d,i,n,k.symm⟩),?_⟩,λc m b=> ?_,rfl,λp x hr=>y p x λk=>g.apart d i n (k▸hr)⟩
  ·rintro(⟨c,m,b,rfl⟩|hr)
   ·by_cases f:c=d
    ·subst f;rw[jA]at b;simp at b;subst b;rcases q with k|k
     ·exact v (.inl ⟨c,i,n,k.symm⟩)
     ·omega
    ·rw[iP _ _ f]at b;exact v (.inl ⟨c,m,b,rfl⟩)
   ·exact v (.inr hr)
  ·by_cases f:c=d
   ·subst f;rw[n]at b;simp at b;subst b;refine⟨L',jA _ _ _,?_⟩;rcases s with k|k
    ·exact .inl k
    ·exact .inr k.1
   ·exact⟨m,by rw[iP _ _ f];exact b,.inl rfl⟩
 refine⟨⟨p2,by have:=g.fit;omega,?_,?_,?_,?_,λp hr=>bG (g.qF p hr) C,?_⟩,u,⟨dB,λc b=> ?_,λc j l=>by omega⟩⟩
 ·intro c m b;by_cases f:c=d
  ·subst f;rw[jA]at b;simp at b;subst b;exact⟨z,p3,J u⟩
  ·rw[iP _ _ f]at b;obtain⟨K,j,l⟩:=g.box c m b;refine⟨K,by rw[p4 c f];exact j,l.ext u (y _ (g.lt b) λk=>f (g.inj c d m i b n k))⟩
 ·intro c r A B j l F;by_cases b:c=d<;>by_cases t:r=d
  ·omega
  ·subst b;rw[jA]at j;simp at j;subst j;rw[iP _ _ t]at l;rcases q with k|k
   ·exact absurd (g.inj r c B i l n dB) t
   ·have:=g.lt l;omega
  ·subst t;rw[jA]at l;simp at l;subst l;rw[iP _ _ b]at j;rcases q with k|k
   ·exact absurd (g.inj c r A i j n dB) b
   ·have:=g.lt j;omega
  ·rw[iP _ _ b]at j;rw[iP _ _ t]at l;exact g.inj c r A B j l F
 ·intro c m b;by_cases f:c=d
  ·subst f;rw[jA]at b;simp at b;subst b;rcases q with k|k
   ·rw[k];exact g.low _ _ n
   ·have:=g.fit;omega
  ·rw[iP _ _ f]at b;exact g.low c m b
 ·intro c m b hr;by_cases f:c=d
  ·subst f;rw[jA]at b;simp at b;subst b;rcases q with k|k
   ·exact g.apart c i n (by rw[<-k];exact hr)
   ·have:=g.qF _ hr;omega
  ·rw[iP _ _ f]at b;exact g.apart c m b hr
 ·intro E D G;exact(g.yM E D G).ext u
 ·left;by_cases f:c=d
  ·subst f;rw[n];simp
  ·rwa[iP _ _ f]at b
end
end
noncomputable section
section
variable {P:ai}{cx:Ctx}{base:Nat}{w:World}{μ:Mu}{h h':H}{mask:Nat}{e:Env}{a:Act}{o:Oper}{hp hp':af Obj}
def jw{b:aa (T×H)}{c:T}{h':H}:jz b=some (.val c h')↔b=some (c,h'):=by
 unfold jz;cases b with
 |none=>simp
 |some d=>obtain⟨g,f⟩:=d;simp
def wD(s:St cx base w.heap μ h)(b:ab){arr:af am}{cap sz:Nat}{ex:Bool}{es:List T}(k:arr.size=cap*sz)(n:es.length<=cap)(l:ex=true->cap=es.length)
 (q:∀d∈es,d.cells.length=sz) (p:∀d∈fx es,d.scalar=true) (j:gJ w.heap μ (fx es) (arr.toList.take (fx es).length)):
 ∃c,St cx base (w.heap.push (.cells arr b)) c (h.cons (ly sz ex es))/\pI w μ {w with heap:=w.heap.push (.cells arr b)} c/\ye μ c h.size (h.cons (ly sz ex es)).size/\
  c h.size=some ⟨0,w.heap.size,cap,sz⟩:=by
 obtain⟨f,g,i⟩:=s.new (.cells arr b) ⟨0,w.heap.size,cap,sz⟩ (ly sz ex es) rfl (by
  intro m;refine⟨rfl,rfl,λ_=>⟨⟨arr,b,dC,k,j.ext m⟩,n,l,q,p⟩,λr=>by simp[ly]at r⟩)
 exact⟨_,f,⟨g,rfl,rfl,rfl⟩,i,jA _ _ _⟩
def yk{b:T}(h:b.scalar=true):b.cells=[b]:=by
 cases b<;>first|rfl|(simp[T.scalar]at h)
def yN{b:List T}(h:∀c∈b,c.scalar=true):fx b=b:=by
 induction b with
 |nil=>rfl
 |cons c b i=>
  have f:=yk (h c dC);have d:=i λj g=>h j (by simp[g]);unfold fx at d|-;rw[bA,f,d];rfl
def FM(iZ:jd P cx){i:ab}(y:St cx base w.heap μ h)(u:o.op= .alloc i){j:T}
 (b:CE i cx mask e h=some (.val j h')):jm cx base w μ h.size ((execOp a.eval o).run P w) j h':=by
 replace b:=dL.1 b;obtain⟨c,z,b⟩:=b;obtain⟨f,v,_,x,g,A,m,B,C⟩:=(iZ.ty _ _ z).zero w;cases t:wH cx c with
 |false=>
  rw[t]at b;have b:jz (h.new (λl=>T.ptr l 0 0 0) (ly c.size true [c.kl]))=some (.val j h'):=b;rw[jw,H.kF]at b;simp only[ar,az]at b;obtain⟨rfl,rfl⟩:=b;obtain⟨s,n,p,q,r⟩:=wD y i (arr:=f.cells) (cap:=1) (sz:=c.size) (ex:=true) (es:=[c.kl]) dB dC dC
   (by intro k d;simp at d;subst d;rw[m];exact A) (by intro k d;simp[fx]at d;rw[m]at d;exact g k d)
   (by
     have:fx [c.kl]=c.zero:=by simp[fx,m]
     rw[this];have hl:f.cells.toList.take c.zero.length=f.cells.toList:=by rw[bJ];simp;omega
     rw[hl];exact x _ _)
  refine⟨.pointer (some ⟨w.heap.size,0,none⟩),_,s,.inl ?_,.ptr _ 0 0 0 _ _ r (au _) (λ_=>by simp),n,p,q⟩;simp[execOp,u,Instr.alloc,v,newVar,newRow]
 |true=>
  rw[t]at b;have b:jz (h.new (λl=>T.ptr l 0 0 0) (ly 1 true c.zero))=some (.val j h'):=b;rw[jw,H.kF]at b;simp only[ar,az]at b;obtain⟨rfl,rfl⟩:=b;obtain⟨s,n,p,q,r⟩:=wD y i (arr:=f.cells) (cap:=c.zero.length) (sz:=1) (ex:=true) (es:=c.zero) dB (au _) (λ_=>rfl)
   (by intro k d;rw[yk (g k d)];rfl) (by rw[yN g];exact g)
   (by
     rw[yN g];have hl:f.cells.toList.take c.zero.length=f.cells.toList:=by rw[bJ];simp;omega
     rw[hl];exact x _ _)
  refine⟨.pointer (some ⟨w.heap.size,0,none⟩),_,s,.inl ?_,.ptr _ 0 0 0 _ _ r (au _) (λ_=>by simp),n,p,q⟩;simp[execOp,u,Instr.alloc,v,newVar,newRow]
def JN{k:ab}{c:ah}(j:St cx base w.heap μ h)(u:kt w.heap μ mask e a.tmps)(n:o.op= .box k c){l:T}
 (b:MP c cx mask e h=some (.val l h')):jm cx base w μ h.size ((execOp a.eval o).run P w) l h':=by
 replace b:=dL.1 b;obtain⟨f,hp,b⟩:=b;replace b:=dT.1 b;obtain⟨m,b⟩:=b;rw[jw,H.kF]at b;simp only[ar,az]at b;obtain⟨rfl,rfl⟩:=b;obtain⟨g,p,_⟩:=(gU j u hp).cells m;have i:=g.1;obtain⟨v,q,r,s,t⟩:=wD j k (arr:=(a.eval c).cells) (cap:=1) (sz:=f.cells.length) (ex:=true) (es:=[f]) (by simp at i;omega) dC dC
  (by intro c d;simp at d;subst d;rfl) (by intro c d;simp[fx]at d;exact p c d)
  (by
    have:fx [f]=f.cells:=by simp[fx]
    rw[this,i,aL];exact g)
 rw[jH];refine⟨.pointer (some ⟨w.heap.size,0,none⟩),_,v,.inl ?_,.ptr _ 0 0 0 _ _ t (au _) (λ_=>by simp),q,r,s⟩;simp[execOp,n,Instr.box,newVar,newRow]
def RL(b c:List T):over b c=if c.length<=b.length then some (c++b.drop c.length)else none:=by
 induction c generalizing b with
 |nil=>rfl
 |cons i c f=>cases b with
  |nil=>rfl
  |cons j b=>
   show(dV (over b c) λg=>some (i::g))=_;rw[f];by_cases d:c.length<=b.length<;>simp[d]
def tN(b:List T)(c:Nat)(d:List T):kQ b c d=if c+d.length<=b.length then some (b.take c++d++b.drop (c+d.length))else none:=by
 induction c generalizing b with
 |zero=>show over b d=_;rw[RL];simp
 |succ c j=>cases b with
  |nil=>show none=_;simp
  |cons g b=>
   show(dV (kQ b c d) λk=>some (g::k))=_;rw[j];have i:c+1+d.length=(c+d.length)+1:=dB;by_cases f:c+d.length<=b.length
   ·rw[aq f,aq dD,i];simp
   ·rw[ao f,ao dD];rfl
def oz{c f g:List T}{d:Nat}(b:kQ c d f=some g):d+f.length<=c.length/\g=c.take d++f++c.drop (d+f.length):=by
 rw[tN]at b;split at b
 ·simp at b;exact⟨by assumption,by rw[<-b];simp⟩
 ·simp at b
def Jy{f j i:List T}{m:Nat}(l:kQ f m j=some i){d:T->Prop}(g:∀c∈f,d c)(k:∀c∈j,d c):∀c∈i,d c:=by
 obtain⟨_,rfl⟩:=oz l;intro c b;rcases List.mem_append.1 b with b|b
 ·rcases List.mem_append.1 b with b|b
  ·exact g c (bE b)
  ·exact k c b
 ·exact g c (bF b)
def ET{cells:af am}{c:am}{off:Nat}(l:off+c.cells.size<=cells.size):
 (c.cells.zipIdx.foldl (λd (b:am×Nat)=>d.setIfInBounds (off+b.2) b.1) cells).toList=cells.toList.take off++c.cells.toList++cells.toList.drop (off+c.cells.size):=by
 have j:c.cells.zipIdx.foldl (λd (b:am×Nat)=>d.setIfInBounds (off+b.2) b.1) cells=(c.cells.toList.zipIdx 0).foldl (λd (b:am×Nat)=>d.setIfInBounds (off+b.2) b.1) cells:=by
  rw[<-Array.foldl_toList,Array.toList_zipIdx]
 rw[j];obtain⟨k,i⟩:=Great.foldl_set off c.cells.toList 0 cells;apply c8;intro f;have:=i f;rw[<-Array.getElem?_toList]at this;rw[this];simp only[Nat.add_zero,cj];rcases aF f off with hk|hk
 ·rw[ao dB,aV,bY dD,bM,aq hk];simp
 ·rcases aF f (off+c.cells.size)with g|g
  ·rw[aq ⟨hk,g,dB⟩,aV,cD dD];have:(cells.toList.take off).length=off:=dD;rw[this,bY dD]
  ·rw[ao dB,aV,cD dD];have:(cells.toList.take off).length=off:=dD;rw[this,cD dD,bK];simp only[cj,Array.getElem?_toList];congr 1;omega
def CO(c:Nat->aa (Nat×Nat))(b:Nat×T)(f:List (Nat×T))(d:List T):
 my c (b::f) d=dV (c b.1) λg=>gh (Nat.beq (kR b.2.cells) g.2) (dV (kQ d g.1 b.2.cells) λi=>my c f i):=rfl
def Nf(hp:af Obj)(μ:Mu)(g:List (Nat×T))(qs:List (Nat×am)):Prop:=
 g.length=qs.length/\∀(f:Nat) d b,g[f]? =some (d,b)->∃c,qs[f]? =some (d,c)/\fD hp μ b c/\b.im=true
def Nf.mz{b:Nat×T}{g:List (Nat×T)}{qs:List (Nat×am)}(h:Nf hp μ (b::g) qs):∃c i,qs=(b.1,c)::i/\fD hp μ b.2 c/\b.2.im=true/\Nf hp μ g i:=by
 obtain⟨hl,f⟩:=h;cases qs with
 |nil=>simp at hl
 |cons p qs=>
  obtain⟨c,d,hr,j⟩:=f 0 b.1 b.2 dC;simp at d;subst d;exact⟨c,qs,rfl,hr,j,by simpa using hl,λm l n k=>by simpa using f (m+1) l n (by simpa using k)⟩
def xc(x:St cx base w.heap μ h)(v:kt w.heap μ mask e a.tmps){d:List (Nat×ah)}{j:List (Nat×T)}(k:partsOf cx mask e d=some j):
 Nf w.heap μ j (d.map λp=>(p.1,a.eval p.2)):=by
 unfold partsOf at k;obtain⟨hl,r⟩:=rO.1 k;refine⟨by simp[hl],λc t f g=> ?_⟩;have m:c<d.length:=by
  rcases aF c j.length with y|y
  ·omega
  ·rw[aM y]at g;simp at g
 obtain⟨y,i,b⟩:=r c d[c] (by simp[m]);rw[g]at i;simp at i;subst i;rcases l:d[c]with⟨u,n⟩;rw[l]at b;have b:(dV (fR cx mask e n) λf=>gh f.im (some (u,f)))=some (t,f):=b;obtain⟨z,s,b⟩:=dL.1 b;obtain⟨q,b⟩:=dT.1 b;simp at b;obtain⟨rfl,rfl⟩:=b;exact⟨a.eval n,by simp[m,l],gU x v s,q⟩
def u6{u place':Nat->aa (Nat×Nat)}(I:∀t f,u t=some f->place' t=some f):∀(k:List (Nat×T)) (qs:List (Nat×am)) (d g:List T) (cells:af am),
 Nf hp μ k qs->gJ hp μ d cells.toList->(∀n∈d,n.scalar=true)->my u k d=some g->
 ∃j,Instr.fill place' cells qs=some j/\gJ hp μ g j.toList/\(∀n∈g,n.scalar=true)/\j.size=cells.size:=by
 intro k;induction k with
 |nil=>
  intro qs d g cells hp i m b;have:qs=[]:=bj hp.1.symm;subst this;have:g=d:=by simpa[my]using b.symm
  subst this;exact⟨cells,rfl,i,m,rfl⟩
 |cons S k K=>
  intro qs d g cells A i m b;obtain⟨c,Q,rfl,hr,E,B⟩:=A.mz;rw[CO]at b;obtain⟨f,J,b⟩:=dL.1 b;obtain⟨hl,b⟩:=dT.1 b;obtain⟨q,r,b⟩:=dL.1 b;obtain⟨p,x,_⟩:=hr.cells E;have G:=aD hl;rw[jH]at G;obtain⟨R,D⟩:=oz r;have y:=i.1;have l:=p.1;simp only[cj]at y l;have F:f.1+c.cells.size<=cells.size:=dB;have s:=ET (cells:=cells) (c:=c) F;have z:gJ hp μ q (c.cells.zipIdx.foldl (λd (v:am×Nat)=>d.setIfInBounds (f.1+v.2) v.1) cells).toList:=by
   rw[s,D,<-l];exact((i.take f.1).append p).append (by rw[l];exact i.drop _)
  obtain⟨j,L,M,N,O⟩:=K Q q g _ B z (Jy r m x) b;refine⟨j,?_,M,N,?_⟩
  ·simp only[Instr.fill,I _ _ J];have C:¬(c.cells.size≠f.2||decide (f.1+c.cells.size>cells.size))=true:=dD;rw[ao C];exact L
  ·rw[O];have:=bP List.length s;simp only[cj,aU,List.length_take,List.length_drop]at this;omega
end
end
noncomputable section
section
variable {P:ai}{cx:Ctx}{base:Nat}{w:World}{μ:Mu}{h h':H}{mask:Nat}{e:Env}{a:Act}{o:Oper}{hp hp':af Obj}
def AK:∀(g:List Field),(∀f∈g,∃b,P.info? f.type=some b/\b.size≠0)->∃m,g.mapM (λf=>(P.info? f.type).map λb=>(f.offset,b.size))=some m/\
 ∀(c:Nat) f b,g[c]? =some f->P.info? f.type=some b->m[c]? =some (f.offset,b.size)
 | [],_=>⟨[],rfl,λc f b d=>by simp at d⟩
 |f::g,k=>by
  obtain⟨b,l,_⟩:=k f dC;obtain⟨s,n,p⟩:=AK g λj q=>k j (by simp[q]);refine⟨(f.offset,b.size)::s,by simp[List.mapM_cons,l,n],λc j r d i=> ?_⟩;cases c with
  |zero=>simp at d;subst d;rw[l]at i;simp at i;subst i;simp
  |succ c=>simp at d;simpa using p c j r d i
def yw(c:af (Nat×ah)):(c.map λ(d,f)=>(d,a.eval f)).toList=c.toList.map λb=>(b.1,a.eval b.2):=by
 simp
def FL(iZ:jd P cx){t:ab}{D:af (Nat×ah)}(Q:St cx base w.heap μ h)(r:kt w.heap μ mask e a.tmps)(Y:o.op= .build t D){l:T}
 (b:Aj t D cx mask e h=some (.val l h')):jm cx base w μ h.size ((execOp a.eval o).run P w) l h':=by
 replace b:=dL.1 b;obtain⟨aX,aA,b⟩:=b;replace b:=dL.1 b;obtain⟨O,al,b⟩:=b;have J:=xc Q r al;obtain⟨a8,d,R,F,G,I,U,x,_⟩:=(iZ.ty _ _ aA).unfold;obtain⟨L,M⟩:=gJ.sO (hp:=w.heap) (μ:=μ) U;have fin:∀(j:af am) (g:List T),P.built t (D.toList.map λN=>(N.1,a.eval N.2))=some j->gJ w.heap μ g j.toList->(∀l∈g,l.scalar=true)->l= .agg g->h'=h->
  jm cx base w μ h.size ((execOp a.eval o).run P w) l h':=by
  rintro j g K V an rfl rfl;refine jm.pure Q ?_ (fD.xu V an);rw[<-yw]at K;simp only[execOp,Y,Sem.run_bind,run_build w t _ j K,Result.andThen_ok,Sem.run_pure]
 cases aE:aX.u<;>rw[aE]at b x<;>simp at b
 ·rename_i n a6;have:=rf x;subst this;replace b:=dL.1 b;obtain⟨bi,ap,b⟩:=b;replace b:=dL.1 b;obtain⟨g,y,b⟩:=b;obtain⟨m,rfl⟩:=fW.1 b;simp at m;subst m;obtain⟨s,_,_,p,_,_,_,_,_,_,v,_⟩:=(iZ.ty _ _ ap).unfold;obtain⟨j,A,B,C,_⟩:=u6 (place':=λk=>some (k*s.size,s.size)) (by intro k q c;rw[v];exact c) O _ _ _ R.cells J L M y;exact fin j g (by simp only[Program.built,F,G,I,p];exact A) B C rfl rfl
 ·rename_i a7;obtain⟨E,rfl,X,W⟩:=rD x;replace b:=dL.1 b;obtain⟨g,y,b⟩:=b;obtain⟨m,rfl⟩:=fW.1 b;simp at m;subst m;obtain⟨aN,Z,ae⟩:=AK E.toList W;obtain⟨j,A,B,C,_⟩:=u6 (place':=λk=>aN.toArray[k]?) (by
   intro k q c;obtain⟨f,i,c⟩:=dL.1 c;obtain⟨bk,av,c⟩:=dL.1 c;simp at c;rw[X]at i;rw[aQ]at i;cases z:E.toList[k]? with
   |none=>rw[z]at i;simp at i
   |some S=>
    rw[z]at i;simp at i;obtain⟨s,_,_,p,_,_,_,_,_,_,v,_⟩:=(iZ.ty _ _ av).unfold;rw[<-i]at p;have:=ae k S s z p;rw[<-i]at c;simp only[]at c;rw[<-c,<-v];simpa using this) O _ _ _ R.cells J L M y
  exact fin j g (by simp only[Program.built,F,G,I,Z];exact A) B C rfl rfl
def H7{d:Nat}{b:List T}(g:∀f∈b,f.cells.length=d){c:Nat}(i:c<b.length)(f:T):fx (b.set c f)=(fx b).take (c*d)++f.cells++(fx b).drop (c*d+d):=by
 rw[rx g,<-bX,pG g,List.set_eq_take_append_cons_drop,aq i,m7,lQ,aV]
def rX{c:T}(b:Nat):fx (List.replicate b c)=(List.replicate b c.cells).flatten:=by
 induction b with
 |zero=>rfl
 |succ b d=>rw[dj,lQ,d,dj,List.flatten_cons]
def zq{b:af am}(c:Nat)(j:0<b.size):((Array.range (c*b.size)).map (b[· % b.size]!)).toList=(List.replicate c b.toList).flatten:=by
 induction c with
 |zero=>simp
 |succ c g=>
  have f:(Array.range ((c+1)*b.size)).toList=(Array.range (c*b.size)).toList++(List.range b.size).map (c*b.size+ ·):=by
   simp only[Array.toList_range];rw[bX,List.range_add]
  rw[Array.toList_map,f,List.map_append,<-Array.toList_map,g,List.replicate_succ',List.flatten_append];congr 1;simp only[List.flatten_cons,List.flatten_nil,bL,cM];apply List.ext_getElem
  ·simp
  ·intro k d i;simp at d;simp[Nat.mod_eq_of_lt d,d]
def gJ.replicate{d:List T}{c:List am}(f:gJ hp μ d c)(b:Nat):gJ hp μ (List.replicate b d).flatten (List.replicate b c).flatten:=by
 induction b with
 |zero=>exact gJ.nil
 |succ b g=>rw[dj,dj,List.flatten_cons,List.flatten_cons];exact f.append g
def CN(b:Nat)(f:Nat)(c:T)(g:List (Nat×T))(d:List T):pH b ((f,c)::g) d=gh (Nat.beq (kR c.cells) b) (dV (kJ d f c) λi=>pH b g i):=rfl
def A3{b:Nat}(Y:0<b):∀(p:List (Nat×T)) (qs:List (Nat×am)) (g i:List T) (cells:af am),
 Nf hp μ p qs->(∀d∈g,d.cells.length=b)->gJ hp μ (fx g) cells.toList->(∀d∈fx g,d.scalar=true)->pH b p g=some i->
 ∃r,Instr.fill (λk=>some (k*b,b)) cells qs=some r/\gJ hp μ (fx i) r.toList/\(∀d∈fx i,d.scalar=true)/\(∀d∈i,d.cells.length=b)/\i.length=g.length:=by
 intro p;induction p with
 |nil=>
  intro qs g i cells hp n l q j;have:qs=[]:=bj hp.1.symm;subst this;have:i=g:=by simpa[pH]using j.symm
  subst this;exact⟨cells,rfl,l,q,n,rfl⟩
 |cons V p M=>
  intro qs g i cells C n l q j;obtain⟨c,W,rfl,hr,G,D⟩:=C.mz;obtain⟨k,d⟩:=V;rw[CN]at j;obtain⟨hl,j⟩:=dT.1 j;obtain⟨X,m,j⟩:=dL.1 j;have s:=aD hl;rw[jH]at s;rw[kL]at m;split at m
  ·rename_i y;simp at m;subst m;obtain⟨t,A,_⟩:=hr.cells G;have u:=l.1;have v:=t.1;simp only[cj]at u v;have F:=il n;have I:k*b+c.cells.size<=cells.size:=by
    rw[<-u,F,<-v,s,<-bX];exact aY _ y
   have K:=ET (cells:=cells) (c:=c) I;have x:=H7 n y d;have L:∀f∈g.set k d,f.cells.length=b:=by
    intro f hx;rcases bZ hx with N|rfl
    ·exact n f N
    ·exact s
   have B:gJ hp μ (fx (g.set k d)) (c.cells.zipIdx.foldl (λz (f:am×Nat)=>z.setIfInBounds (k*b+f.2) f.1) cells).toList:=by
    rw[K,x];have:c.cells.size=b:=dB;rw[this];exact((l.take _).append t).append (l.drop _)
   have J:∀f∈fx (g.set k d),f.scalar=true:=by
    intro f hx;rw[x]at hx;rcases List.mem_append.1 hx with hx|hx
    ·rcases List.mem_append.1 hx with hx|hx
     ·exact q f (bE hx)
     ·exact A f hx
    ·exact q f (bF hx)
   obtain⟨r,O,Q,R,S,U⟩:=M W _ i _ D L B J j;refine⟨r,?_,Q,R,S,by simpa using U⟩;simp only[Instr.fill];have E:¬(c.cells.size≠b||decide (k*b+c.cells.size>cells.size))=true:=dD;rw[ao E];exact O
  ·simp at m
def yL(iZ:jd P cx){M:ab}{c:Nat}{A:af (Nat×ah)}(L:St cx base w.heap μ h)(r:kt w.heap μ mask e a.tmps)(F:o.op= .buildSlice M c A){g:T}
 (b:ot M c A cx mask e h=some (.val g h')):jm cx base w μ h.size ((execOp a.eval o).run P w) g h':=by
 replace b:=dL.1 b;obtain⟨bp,Z,b⟩:=b;obtain⟨d,D,I⟩:=kO (iZ.ty _ _ Z);cases al:bp.u<;>rw[al]at b I<;>simp at b;rename_i C;have:=mv I;subst this;replace b:=dL.1 b;obtain⟨f,p,b⟩:=b;replace b:=dL.1 b;obtain⟨bn,W,b⟩:=b;replace b:=dT.1 b;obtain⟨G,b⟩:=b;replace b:=dT.1 b;obtain⟨m,b⟩:=b;replace b:=dL.1 b;obtain⟨es,E,b⟩:=b;rw[jw,H.kF]at b;simp only[ar,az]at b;obtain⟨rfl,rfl⟩:=b;have G:=bw G;have m:=bw m;have m:c*f.size<=65536:=m;rw[<-nQ]at*
 have N:=xc L r W;obtain⟨B,J,bB,av,aE,aA,s,bC,aN⟩:=(iZ.ty _ _ p).zero w;have Q:∃j:af am,(if c*f.size=0 then(pure #[]:Sem (af am))else do pure (<-zeroValue C).cells).run P w= .ok (if c*f.size=0 then #[]else B.cells) w/\
  ((Array.range (c*f.size)).map ((if c*f.size=0 then #[]else B.cells)[· % (if c*f.size=0 then #[]else B.cells).size]!))=j/\gJ w.heap μ (fx (List.replicate c f.kl)) j.toList:=by
  by_cases i:c*f.size=0
  ·have S:c=0:=by
    rcases Nat.mul_eq_zero.1 i with k|k
    ·exact k
    ·omega
   subst S;refine⟨_,dC,rfl,?_⟩;simp[fx];exact gJ.nil
  ·refine⟨_,by simp[i,J],rfl,?_⟩;rw[ao i,<-aN,zq c dB,rX,s];exact(av _ _).replicate c
 obtain⟨j,bz,q,ap⟩:=Q;have ae:∀g∈List.replicate c f.kl,g.cells.length=f.size:=by
  intro g l;rw[bR l,s];exact aA
 have Y:∀g∈fx (List.replicate c f.kl),g.scalar=true:=by
  intro g l;obtain⟨y,an,l⟩:=List.mem_flatMap.1 l;rw[bR an,s]at l;exact aE g l
 rw[nQ]at E;obtain⟨z,n,v,bi,K,bk⟩:=A3 dB bn _ _ es j N ae ap Y E;have R:es.length=c:=by simpa using bk
 have V:z.size=c*f.size:=by
  have:=v.1;rw[il K,R]at this;simpa using this.symm
 obtain⟨bs,aX,a6,a7,a8⟩:=wD L C (arr:=z) (cap:=c) (sz:=f.size) (ex:=true) (es:=es) V dB dB K bi (by
  rw[bJ]
  ·exact v
  ·have:=v.1;simp at this|-;omega)
 refine⟨.slice (some ⟨w.heap.size,0,none⟩) c c,_,bs,.inl ?_,.arr _ 0 0 c false _ _ c a8 (au _) (au _) (λ_=>⟨dC,dC,dC⟩),aX,a6,a7⟩;have U:¬c*f.size>2^24:=dB;have bu:Instr.fill (λt=>some (t*f.size,f.size)) j (A.map λ(t,x)=>(t,a.eval x)).toList=some z:=by rw[yw];exact n
 by_cases i:c*f.size=0
 ·have O:j= #[]:=by rw[<-q,i];simp
  rw[O]at n;have X:Array.map (λ_=>(default:am)) (Array.range 0)= #[]:=dC;simp[execOp,F,Instr.buildSlice,run_underlying D,(iZ.ty _ _ p).run_sizeOf,i,X,n,newRow]
 ·simp only[i,bo]at q;simp[execOp,F,Instr.buildSlice,run_underlying D,(iZ.ty _ _ p).run_sizeOf,i,U,J,q,n,newRow]
set_option maxRecDepth 20000 in
def Ad(iZ:jd P cx){U:ab}{V A:ah}(z:St cx base w.heap μ h)(S:kt w.heap μ mask e a.tmps)(I:o.op= .makeSlice U V A){i:T}
 (b:pA U V A cx mask e h=some (.val i h')):jm cx base w μ h.size ((execOp a.eval o).run P w) i h':=by
 replace b:=dL.1 b;obtain⟨bk,ap,b⟩:=b;obtain⟨d,G,M⟩:=kO (iZ.ty _ _ ap);cases av:bk.u<;>rw[av]at b M<;>simp at b;rename_i E;have:=mv M;subst this;replace b:=dL.1 b;obtain⟨f,s,b⟩:=b;replace b:=dL.1 b;obtain⟨p,hp,b⟩:=b;replace b:=dL.1 b;obtain⟨q,al,b⟩:=b;replace b:=dL.1 b;obtain⟨g,hl,b⟩:=b;replace b:=dL.1 b;obtain⟨c,X,b⟩:=b;replace b:=dT.1 b;obtain⟨J,b⟩:=b;replace b:=dT.1 b;obtain⟨F,b⟩:=b;replace b:=dT.1 b;obtain⟨n,b⟩:=b;replace b:=dT.1 b;obtain⟨r,b⟩:=b;rw[jw,H.kF]at b;simp only[ar,az]at b;obtain⟨rfl,rfl⟩:=b;have J:=bw J;have F:=bw F;have n:=bw n;have r:c*f.bytes<=70368744177664:=bw r;obtain⟨bC,rfl⟩:=nN hl;obtain⟨bH,rfl⟩:=nN X;have N:=(gU z S hp).jV;have v:=(gU z S al).jV;obtain⟨B,O,bz,aA,aN,aE,y,bB,aX⟩:=(iZ.ty _ _ s).zero w;obtain⟨bN,L,K,bs⟩:=(iZ.ty _ _ s).run_typeInfo w;have bp:c<=70368744177664:=aS (Nat.le_mul_of_pos_right c dB) r;have Y:∃m:af am,(if c*f.size=0 then(pure #[]:Sem (af am))else do pure (<-zeroValue E).cells).run P w= .ok (if c*f.size=0 then #[]else B.cells) w/\
  ((Array.range (c*f.size)).map ((if c*f.size=0 then #[]else B.cells)[· % (if c*f.size=0 then #[]else B.cells).size]!))=m/\gJ w.heap μ (fx (List.replicate c f.kl)) m.toList:=by
  by_cases j:c*f.size=0
  ·have Z:c=0:=by
    rcases Nat.mul_eq_zero.1 j with k|k
    ·exact k
    ·omega
   subst Z;refine⟨_,dC,rfl,?_⟩;simp[fx];exact gJ.nil
  ·refine⟨_,by simp[j,O],rfl,?_⟩;rw[ao j,<-aX,zq c dB,rX,y];exact(aA _ _).replicate c
 obtain⟨m,bu,x,Q⟩:=Y;have t:∀R,∀i∈List.replicate R f.kl,i.cells.length=f.size:=by
  intro R i l;rw[bR l,y];exact aE
 have an:∀i∈fx (List.replicate g f.kl),i.scalar=true:=by
  intro i l;obtain⟨A,v,l⟩:=List.mem_flatMap.1 l;rw[bR v,y]at l;exact aN i l
 have ae:m.size=c*f.size:=by
  have:=Q.1;rw[il (t c)]at this;simpa using this.symm
 obtain⟨bn,a6,a7,a8,bi⟩:=wD z E (arr:=m) (cap:=c) (sz:=f.size) (ex:=Nat.beq g c) (es:=List.replicate g f.kl) ae (by simpa using n) (by intro W;simp;exact(aD W).symm) (t g) an (by
  rw[il (t g),List.length_replicate];have:=Q.take (g*f.size);rw[rx (t c)]at this;rw[List.take_replicate,cE n]at this;exact this)
 refine⟨.slice (some ⟨w.heap.size,0,none⟩) g c,_,bn,.inl ?_,.arr _ 0 0 g false _ _ c bi (au _) n (λ_=>⟨dC,dC,dC⟩),a6,a7,a8⟩;have C:IntKind.i64.wrap (Int.ofNat c)=(c:Int):=IntWalk.i64_in (c:Int) ⟨dB,dB⟩;have D:IntKind.i64.wrap (Int.ofNat g)=(g:Int):=IntWalk.i64_in (g:Int) ⟨dB,dB⟩;have t1:¬((f.bytes:Int)*(c:Int)>2^48):=by
  have:((c*f.bytes:Nat):Int)<=70368744177664:=Int.ofNat_le.2 r;rw[Int.mul_comm];push_cast at this;omega
 have t2:(decide ((c:Int)<0)||decide ((f.bytes:Int)*(c:Int)>2^48)||decide ((g:Int)<0)||decide ((g:Int)>(c:Int)))=false:=by
  simp only[cr,bU];exact⟨⟨⟨dB,t1⟩,dB⟩,dB⟩
 by_cases j:c*f.size=0
 ·simp only[j,bg]at x;simp only[execOp,I,Instr.makeSlice,Sem.run_bind,run_underlying G,Result.andThen_ok,N,v,asInt,asIntOf,Sem.run_pure,L,K,C,D,t2,cq,bo,run_askRoom,(iZ.ty _ _ s).run_sizeOf,da,j,bg,x,newRow,run_newObj]
 ·simp only[j,bo]at x;simp only[execOp,I,Instr.makeSlice,Sem.run_bind,run_underlying G,Result.andThen_ok,N,v,asInt,asIntOf,Sem.run_pure,L,K,C,D,t2,cq,bo,run_askRoom,(iZ.ty _ _ s).run_sizeOf,da,j,O,x,newRow,run_newObj]
def FF{f:ab}{i:ah}(d:St cx base w.heap μ h)(t:kt w.heap μ mask e a.tmps)(l:o.op= .range f i)(m:P.underlying f=some .string){g:T}
 (b:Cz i cx mask e h=some (.val g h')):jm cx base w μ h.size ((execOp a.eval o).run P w) g h':=by
 replace b:=dL.1 b;obtain⟨s,hp,b⟩:=b;cases s<;>simp at b;rename_i c;rw[jw,H.kF]at b;simp only[ar,az]at b;obtain⟨rfl,rfl⟩:=b;obtain⟨k,j⟩:=(gU d t hp).lJ;obtain⟨p,q,r⟩:=d.new (.stringIter (bytesOf c) 0) ⟨0,w.heap.size,0,1⟩ ⟨1,0,0,true,true,[.str c,.int .i64 0]⟩ rfl (by
  intro u;refine⟨rfl,rfl,λn=>by simp at n,λ_=>⟨rfl,.inl ⟨c,0,rfl,j,dC⟩⟩⟩)
 refine⟨.pointer (some ⟨w.heap.size,0,none⟩),{w with heap:=w.heap.push (.stringIter (bytesOf c) 0)},_,.inl ?_,.iter _ _ _ (jA _ _ _) (λ_=>rfl),p,⟨q,rfl,rfl,rfl⟩,r⟩;simp[execOp,l,Instr.range,run_underlying m,k]
end
end
noncomputable section
section
variable {P:ai}{cx:Ctx}{base:Nat}{w:World}{μ:Mu}{h h':H}{mask:Nat}{e:Env}{a:Act}{o:Oper}{hp hp':af Obj}
def St.BT(l:St cx base hp μ h){d:Nat}{c:Loc}{b:iY}(i:μ d=some c)(j:h.get d=some b)(k:b.it=false):zg hp μ c b.exact b.eZ/\b.ep=c.ep/\b.sz=c.sz:=by
 obtain⟨m,f,g⟩:=l.box d c i;rw[j]at f;simp at f;subst f;exact⟨g.plain k,g.ep,g.sz⟩
def zi(p:St cx base w.heap μ h){f:Nat}{b:Loc}{k:iY}(n:μ f=some b)(u:h.get f=some k)(v:k.it=false){l arr':af am}{i:ab}(B:w.heap[b.iR]? =some (.cells l i (0,0)))
 {ep' M:Nat} {m:Bool} {c:List T} (r:ep'=b.ep\/ep'=b.ep+1) (z:h.put f ⟨k.sz,ep',M,m,false,c⟩=some h') (E:arr'.size=b.cap*b.sz) (A:c.length<=b.cap) (s:m=true->b.cap=c.length)
 (F:∀j∈c,j.cells.length=b.sz) (D:∀j∈fx c,j.scalar=true) (q:gJ w.heap μ (fx c) (arr'.toList.take (fx c).length)):
 ∃g,St cx base (w.setRow b.iR arr').heap g h'/\pI w μ (w.setRow b.iR arr') g/\ye μ g h.size h'.size/\g f=some ⟨ep',b.iR,b.cap,b.sz⟩:=by
 obtain⟨N,O,G⟩:=p.BT n u v;have y:∀d,d<w.heap.size->d≠b.iR->(w.setRow b.iR arr').heap[d]? =w.heap[d]? :=λd _ x=>setRow_other w b.iR d arr' x;have C:=setRow_heap w b.iR l arr' i (0,0) B;obtain⟨J,K,L⟩:=p.change (L':=⟨ep',b.iR,b.cap,b.sz⟩) n z dC y (by
  rcases r with rfl|rfl
  ·exact .inl rfl
  ·exact .inr ⟨dC,.inl rfl⟩) (by
  intro t;refine⟨rfl,G,λ_=>⟨⟨arr',i,C,E,q.ext t⟩,A,s,F,D⟩,λI=>by simp at I⟩)
 exact⟨_,J,⟨K,rfl,rfl,rfl⟩,L,jA _ _ _⟩
def Aw{j:Type}(b d:List j){o c:Nat}(k:o+d.length<=c)(l:c<=b.length):(b.take o++d++b.drop (o+d.length)).take c=(b.take c).take o++d++(b.take c).drop (o+d.length):=by
 rw[List.take_append,List.take_append];have f:(b.take o).take c=(b.take c).take o:=by rw[List.take_take,List.take_take,Nat.min_comm]
 have g:(b.take o).length=o:=dD;have i:(b.take o++d).length=o+d.length:=dD;rw[f,g,i];congr 1
 ·congr 1;rw[bJ dB]
 ·rw[List.drop_take]
def NO{b c:T}{g:Nat}{f:List T}(q:∀r∈f,r.scalar=true)(d:ml b g f=some c):
 g+f.length<=b.cells.length/\c.cells=b.cells.take g++f++b.cells.drop (g+f.length):=by
 by_cases i:∃j,b= .agg j
 ·obtain⟨j,rfl⟩:=i;obtain⟨s,l,k⟩:=dL.1 d;simp at k;subst k;exact oz l
 ·have n:b.cells=[b]:=by cases b<;>first|rfl|exact absurd ⟨_,rfl⟩ i
  have m:g=0/\f=[c]:=by
   unfold ml at d;cases b<;>first|(exact absurd ⟨_,rfl⟩ i)|(simp only[]at d;split at d<;>simp at d;subst d;exact⟨rfl,rfl⟩)
  obtain⟨rfl,rfl⟩:=m;have p:=q c dC;have:c.cells=[c]:=by cases c<;>simp[T.scalar]at p<;>rfl
  rw[n,this];simp
def FD(iZ:jd P cx){t:ab}{x n:ah}(E:St cx base w.heap μ h)(r:kt w.heap μ mask e a.tmps)(bB:o.op= .store t x n){k:T}
 (f:Cx t x n cx mask e h=some (.val k h')):jm cx base w μ h.size ((execOp a.eval o).run P w) k h':=by
 replace f:=dL.1 f;obtain⟨cp,b6,f⟩:=f;replace f:=dL.1 f;obtain⟨p,hp,f⟩:=f;replace f:=dL.1 f;obtain⟨u,bH,f⟩:=f;replace f:=dT.1 f;obtain⟨bs,f⟩:=f;replace f:=dL.1 f;obtain⟨Q,b,f⟩:=f;simp at f;obtain⟨rfl,rfl⟩:=f;have b7:=gU E r hp;obtain⟨ap,qs,cb⟩:=(gU E r bH).cells bs;have bC:∃z F c i,p= .ptr z F c i:=by
  unfold H.store at b;cases p<;>first|(exact⟨_,_,_,_,rfl⟩)|(simp at b)
 obtain⟨z,F,c,i,rfl⟩:=bC;unfold H.store at b;replace b:=dT.1 b;obtain⟨D,b⟩:=b;replace b:=dL.1 b;obtain⟨aE,S,b⟩:=b;obtain⟨av,G,aA,N,an,d⟩:=aE;have b:gh (Nat.beq G F) (@Bool.rec (λ_=>aa H) (dV (md d c) λl=>dV (ml l i u.cells) λm=>dV (kJ d c m) λA=>dV (hU (Nat.succ aA)) λM=>h.put z ⟨av,G,M,N,false,A⟩) none an)=some Q:=b;replace b:=dT.1 b;obtain⟨W,b⟩:=b;cases an with
 |true=>simp at b
 |false=>
  have b:(dV (md d c) λl=>dV (ml l i u.cells) λm=>dV (kJ d c m) λA=>dV (hU (Nat.succ aA)) λM=>h.put z ⟨av,G,M,N,false,A⟩)=some Q:=b;replace b:=dL.1 b;obtain⟨l,B,b⟩:=b;replace b:=dL.1 b;obtain⟨m,bn,b⟩:=b;replace b:=dL.1 b;obtain⟨A,y,b⟩:=b;simp only[iE,dY]at b;rw[kA]at B;have W:=aD W;have D:=aD D;rw[jH]at D;rw[kL]at y;split at y
  ·rename_i C;simp at y;subst y;obtain⟨g,cL,bN,R,_,a7⟩:=b7.pJ;obtain⟨q,O,aN⟩:=E.BT R S rfl;simp only[]at O aN;have a8:=a7 dB;subst a8;obtain⟨v,ce,Y,ae,I⟩:=q.row;have s:=q.size;simp only[]at s I;have bz:l∈d:=ax B;obtain⟨bu,U⟩:=NO qs bn;have c1:=s l bz;have bk:d[c]=l:=by rw[aB C]at B;simpa using B
   have J:=il s;have X:fx (d.set c m)=(fx d).take (c*g.sz+i)++u.cells++(fx d).drop (c*g.sz+i+u.cells.length):=by
    rw[H7 s C,U];have V:(fx d).drop (c*g.sz)=l.cells++(fx d).drop (c*g.sz+g.sz):=by
     rw[<-bX,pG s,pG s,aI C,bk,lQ]
    have ht:(fx d).take (c*g.sz+i)=(fx d).take (c*g.sz)++l.cells.take i:=by
     rw[List.take_add,V,db dB]
    have bi:(fx d).drop (c*g.sz+i+u.cells.length)=l.cells.drop (i+u.cells.length)++(fx d).drop (c*g.sz+g.sz):=by
     rw[cH,<-cY,V,List.drop_append_of_le_length bu]
    rw[ht,bi];simp[aV]
   have cX:c*g.sz+i+u.cells.length<=(fx d).length:=by
    rw[J];have:(c+1)*g.sz<=d.length*g.sz:=aY _ C;rw[bX]at this;omega
   have a6:(fx d).length<=v.size:=by
    rw[J,ae];exact aY _ q.room
   have K:=ap.1;have al:∀k∈d.set c m,k.cells.length=g.sz:=by
    intro k j;rcases bZ j with L|rfl
    ·exact s k L
    ·rw[U];simp;omega
   have bS:∀k∈fx (d.set c m),k.scalar=true:=by
    intro k j;rw[X]at j;rcases List.mem_append.1 j with j|j
    ·rcases List.mem_append.1 j with j|j
     ·exact q.scalar k (bE j)
     ·exact qs k j
    ·exact q.scalar k (bF j)
   have bp:(fx (d.set c m)).length=(fx d).length:=by
    rw[il al,J];simp
   have aX:gJ w.heap μ (fx (d.set c m)) ((v.toList.take (c*g.sz+i)++(a.eval n).cells.toList++v.toList.drop (c*g.sz+i+(a.eval n).cells.toList.length)).toArray.toList.take (fx (d.set c m)).length):=by
    rw[bp,X];rw[dp,Aw _ _ dB (by simpa using a6)];rw[<-K];exact((I.take _).append ap).append (I.drop _)
   obtain⟨cy,b8,b9,ca,c4⟩:=zi E R S rfl Y (.inl O) b (arr':=(v.toList.take (c*g.sz+i)++(a.eval n).cells.toList++v.toList.drop (c*g.sz+i+(a.eval n).cells.toList.length)).toArray)
    (by simp only[List.size_toArray,aU,List.length_take,List.length_drop,cj]at K|-;rw[<-ae];omega) (by simpa using q.room) (by intro L;have:=q.tz L;simpa using this) al bS aX
   refine⟨Go.undef,_,cy,.inr ⟨?_,rfl⟩,.undef,b8,b9,ca⟩;have Z:=run_storeCells_at (P:=P) g.iR (c*g.sz+i) ce (a.eval n).cells.toList 0 v w Y (by simp only[Nat.add_zero];omega) cb;simp only[Nat.add_zero]at Z;have bT:(a.eval n).cells.size=cp.size:=by rw[<-D,K];simp
   simp only[execOp,bB,Instr.storeAt,Sem.run_bind,bN,Instr.sureAddr,Sem.run_pure,Result.andThen_ok,storeVar,(iZ.ty _ _ b6).run_sizeOf,bT,ne_eq,not_true,bo,Z]
  ·simp at y
end
end
noncomputable section
section
variable {P:ai}{cx:Ctx}{base:Nat}{w:World}{μ:Mu}{h h':H}{mask:Nat}{e:Env}{a:Act}{o:Oper}{hp hp':af Obj}
def K8{g:Nat}{c:List T}(d:fits g c=true){k:Nat}(i:∀b∈c,b.cells.length=k):∀b∈c,b.cells.length=g:=by
 cases c with
 |nil=>intro b f;simp at f
 |cons j c=>
  have d:Nat.beq (kR j.cells) g=true:=d;have:=aD d;rw[jH]at this;have l:=i j dC;intro b f;rw[i b f];omega
structure AT(P:ai)(w:World)(μ:Mu)(c:am)(es:List T)(sz:Nat):Prop where
 IQ:∀v∈es,v.cells.length=sz
 scalar:∀v∈fx es,v.scalar=true
 form:∃ad cap news,c= .slice ad es.length cap/\es.length<=cap/\gJ w.heap μ (fx es) news/\(∀u∈news,u.oneCell'=true)/\
  ((ad=none/\es=[])\/∃x:Addr,ad=some x/\∀(j:Nat) u,news[j]? =some u->w.cell? (x.add j)=some u)
def gJ.Fi{b:List T}{c:List am}(d:gJ hp μ b c)(l:∀v∈b,v.scalar=true):∀j∈c,j.oneCell'=true:=by
 intro j m;obtain⟨k,g,rfl⟩:=List.getElem_of_mem m;have i:k<b.length:=by rw[d.1];exact g
 obtain⟨n,f,hr⟩:=d.get (k:=k) (v:=b[k]) (by simp[i]);simp[g]at f;subst f;exact rE hr (l _ (aC i))
def oq(s:St cx base w.heap μ h){E:T}{m:am}{es:List T}(x:fD w.heap μ E m)(c:h.ji E=some es):∃A,AT P w μ m es A:=by
 unfold H.ji at c;cases E<;>simp at c
 ·
  rename_i W X;subst c;cases W with
  |nil=>
   obtain⟨k,rfl⟩:=x.uj;refine⟨0,dC,by simp[fx],k,0,[],rfl,au _,gJ.nil,dC,?_⟩;cases k with
   |none=>exact .inl ⟨rfl,rfl⟩
   |some y=>exact .inr ⟨y,rfl,dC⟩
  |cons p es=>
   obtain⟨F,off,C,A,q,Q,fz,rfl,bH,L,aN,bz,bk,bi,ap,hr⟩:=x.uk;have D:∀f∈fx (p::es),f.scalar=true:=λf g=>(ap f g).1;have t:sZ w.heap μ F off (fx (p::es)):=⟨⟨q,Q,fz,L,bi,hr⟩,D⟩;have r:gJ w.heap μ (fx (p::es)) ((q.toList.drop off).take (fx (p::es)).length):=by
    refine⟨dD,λz f g=> ?_⟩;have aE:z<(fx (p::es)).length:=by
     rcases aF z (fx (p::es)).length with y|y
     ·exact y
     ·rw[aM y]at g;simp at g
    have:=hr z f g;have a7:off+z<q.size:=dB;simpa[List.getD,bM,aE,aZ,a7]using this
   refine⟨A,bk,D,some ⟨F,off,none⟩,C,_,rfl,aN,r,r.Fi D,.inr ⟨_,rfl,λj u d=> ?_⟩⟩;rw[kI];rw[bM]at d;split at d
   ·rw[bK]at d;simp only[World.cell?,L];simpa using d
   ·simp at d
 ·subst c;obtain⟨k,C,rfl⟩:=x.z8;refine⟨0,dC,by simp[fx],k,C,[],rfl,aw _,gJ.nil,dC,?_⟩;cases k with
  |none=>exact .inl ⟨rfl,rfl⟩
  |some y=>exact .inr ⟨y,rfl,dC⟩
 ·rename_i b U l i X;replace c:=dL.1 c;obtain⟨R,an,c⟩:=c;obtain⟨A,V,bS,bs,O,n⟩:=R;have c:gh (Nat.beq V U) (@Bool.rec (λ_=>aa (List T)) (dV (jX l n) λt=>takeN i t) none O)=some es:=c;replace c:=dT.1 c;obtain⟨K,c⟩:=c;cases O with
  |true=>simp at c
  |false=>
   have c:(dV (jX l n) λt=>takeN i t)=some es:=c;replace c:=dL.1 c;obtain⟨t,hr,c⟩:=c;rw[lU]at hr;split at hr
   ·rename_i bC;simp at hr;subst hr;rw[nO]at c;split at c
    ·rename_i a6;simp at c a6;subst c;obtain⟨B,k,G,rfl,al,bu,av,aA⟩:=x.sS;obtain⟨m,Y,Z⟩:=s.BT al an rfl;simp only[]at Y Z;have K:=aD K;obtain⟨bn,bp,S⟩:=aA dB;obtain⟨q,Q,a8,bN,r⟩:=m.row;have v:=m.size;simp only[]at v r;have J:=CL v l i;have M:((n.drop l).take i).length=i:=dD;have bB:=il v;have I:gJ w.heap μ (fx ((n.drop l).take i)) (((q.toList.take (fx n).length).drop (l*B.sz)).take (i*B.sz)):=by
      rw[J];exact(r.drop _).take _
     have N:∀f∈fx ((n.drop l).take i),f.scalar=true:=by
      intro f g;rw[J]at g;exact m.scalar f (bF (bE g))
     refine⟨B.sz,λf g=>v f (bF (bE g)),N,k,G,_,by rw[M],by rw[M];exact av,I,I.Fi N,?_⟩;by_cases ae:G=0
     ·have aX:i=0:=dB;subst aX;cases k with
      |none=>exact .inl ⟨rfl,dC⟩
      |some y=>exact .inr ⟨y,rfl,dC⟩
     ·refine .inr ⟨_,S ae,λj u d=> ?_⟩;rw[kI];rw[bM]at d;split at d
      ·rw[bK,bM]at d;split at d
       ·simp only[World.cell?,a8];simpa using d
       ·simp at d
      ·simp at d
    ·simp at c
   ·simp at hr
def AT.src{f:am}{c:List T}{d:Nat}(k:AT P w μ f c d){l m:ab}(j:P.underlying l=some (.slice m)):∃b,Src P d l f c.length b w/\gJ w.heap μ (fx c) b:=by
 obtain⟨s,g,b,rfl,t,i,n,p⟩:=k.form;refine⟨b,?_,i⟩;have hl:b.length=c.length*d:=by rw[<-i.1,il k.IQ]
 rcases p with⟨rfl,rfl⟩|⟨r,rfl,q⟩
 ·have:b=[]:=bj (by simpa using hl);subst this;exact Src.ofNil w j g
 ·exact Src.ofSlice w j r c.length g b hl q n
def AT.first{f:am}{c:List T}{d:Nat}(j:AT P w μ f c d):∃b,(Builtin.firstCells d c.length f).run P w.drew= .ok b.toArray w.drew/\gJ w.heap μ (fx c) b:=by
 obtain⟨n,g,b,rfl,q,i,p,k⟩:=j.form;refine⟨b,?_,i⟩;have hl:b.length=c.length*d:=by rw[<-i.1,il j.IQ]
 rcases k with⟨rfl,rfl⟩|⟨m,rfl,l⟩
 ·have:b=[]:=bj (by simpa using hl);subst this;exact run_firstCells_none w.drew d 0 0 g
 ·exact run_firstCells_some w.drew d c.length m c.length g b hl (by simpa using l)
end
end
noncomputable section
section
variable {P:ai}{cx:Ctx}{base:Nat}{w:World}{μ:Mu}{h h':H}{mask:Nat}{e:Env}{a:Act}{o:Oper}{hp hp':af Obj}
structure Tt(P:ai)(w:World)(μ:Mu)(sz:Nat)(tx:ab)(x:am)(xs:List T)(news:List am):Prop where
 src:Src P sz tx x xs.length news w
 rel:gJ w.heap μ (fx xs) news
 IQ:∀v∈xs,v.cells.length=sz
 scalar:∀v∈fx xs,v.scalar=true
structure Tr(P:ai)(w:World)(μ:Mu)(sz:Nat)(c:am)(es:List T)(olds:List am):Prop where
 first:(Builtin.firstCells sz es.length c).run P w.drew= .ok olds.toArray w.drew
 rel:gJ w.heap μ (fx es) olds
 IQ:∀v∈es,v.cells.length=sz
 scalar:∀v∈fx es,v.scalar=true
def rC(c:af am)(b:Nat):(Builtin.zeroCells c b).size=b*c.size:=by simp[Builtin.zeroCells]
def u5{f g:List T}{c:T->Prop}(i:∀b∈fx f,c b)(j:∀b∈fx g,c b):∀b∈fx (f++g),c b:=by
 intro b d;rw[m7]at d;rcases List.mem_append.1 d with k|k
 ·exact i b k
 ·exact j b k
def CF{g f:List am}{i:af am}{b c d:Nat}(j:g.length+f.length=c*d)(k:i.size=d)(l:c<=b):
 ((g++f).toArray++Builtin.zeroCells i (b-c)).size=b*d:=by
 simp only[Array.size_append,List.size_toArray,aU,rC,j,k];rw[<-cg];congr 1;omega
def GS(iZ:jd P cx){n p ty' i:ab}{d:Ty}(A:P.underlying n=some (.slice i))(C:cx.ty i=some d){j:aa Addr}{g:Nat}{b c:List T}{m l:List am}{q:am}
 (G:Tr P w μ d.size (.slice j b.length g) b m) (F:Tt P w μ d.size p q c l) (t:g<b.length+c.length) (N:1<=d.bytes) (B:(b.length+c.length)*d.bytes<=70368744177664):
 ∃(f:am) (k:Nat),b.length+c.length<=k/\f.cells.size=d.size/\(Builtin.append_ #[n,p] ty' #[.slice j b.length g,q]).run P w=
  .ok (.slice (some ⟨w.heap.size,0,none⟩) (b.length+c.length) k) {w with drawn:=w.drawn+1,heap:=w.heap.push (.cells ((m++l).toArray++Builtin.zeroCells f.cells (k-(b.length+c.length))) i)}:=by
 obtain⟨E,I,f,u,J,v,x,K,L,M,y,z,_⟩:=(iZ.ty _ _ C).unfold;have D:f.cells.size=d.size:=by
  have:=(gJ.sO (hp:= #[]) (μ:=⟨λ_=>none,λ_=>False⟩) x).1.1;simp at this;omega
 have O:b.length+c.length<=70368744177664:=aS (Nat.le_mul_of_pos_right _ dB) B;have r:=G.first;have s:=F.src;rw[<-y]at r s;have:=run_append_grow_src w n p ty' i E f A u v j b.length g m r q c.length l s t dB (by rw[z];exact growslice_fits t dB);exact⟨f,_,grownCap_ge w _ _ _,D,this⟩
def A9(iZ:jd P cx)(N:St cx base w.heap μ h){x y ty' n:ab}{d:Ty}(B:P.underlying x=some (.slice n))(F:cx.ty n=some d){ad:aa Addr}{cap:Nat}{es c:List T}{t s:List am}{z:am}
 (i:Tr P w μ d.size (.slice ad es.length cap) es t) (g:Tt P w μ d.size y z c s) (C:cap<es.length+c.length) {f:T} (b:h.jb d.size d.bytes es c=some (f,h')):
 ∃u m j,(Builtin.append_ #[x,y] ty' #[.slice ad es.length cap,z]).run P w= .ok u m/\fD m.heap j f u/\St cx base m.heap j h'/\pI w μ m j/\ye μ j h.size h'.size:=by
 unfold H.jb at b;simp only[pO,dY,iE,jH]at b;replace b:=dT.1 b;obtain⟨p,b⟩:=b;replace b:=dT.1 b;obtain⟨l,b⟩:=b;replace b:=dT.1 b;obtain⟨_,b⟩:=b;replace b:=dT.1 b;obtain⟨_,b⟩:=b;rw[H.kF]at b;simp only[ar,az]at b;obtain⟨rfl,rfl⟩:=b;have p:=bw p;have l:(es++c).length*d.bytes<=70368744177664:=bw l;rw[aU]at l;obtain⟨Q,r,q,I,E⟩:=GS iZ B F (ty':=ty') i g C p l;have v:∀f∈es++c,f.cells.length=d.size:=by
  intro f G;rcases List.mem_append.1 G with k|k
  ·exact i.IQ f k
  ·exact g.IQ f k
 have D:t.length+s.length=(es.length+c.length)*d.size:=by
  rw[<-i.rel.1,<-g.rel.1,il i.IQ,il g.IQ,cg]
 have A:gJ w.heap μ (fx (es++c)) (((t++s).toArray++Builtin.zeroCells Q.cells (r-(es.length+c.length))).toList.take (fx (es++c)).length):=by
  rw[il v,aU,Array.toList_append,dp,db dD,bJ dD,m7];exact i.rel.append g.rel
 have O:St cx base ({w with drawn:=w.drawn+1}:World).heap μ h:=N;obtain⟨j,J,K,L,M⟩:=wD O n (cap:=r) (sz:=d.size) (ex:=false) (es:=es++c) (CF D I q) (by simpa using q) dC v (u5 i.scalar g.scalar) A;rw[aU];exact⟨_,_,j,E,.arr _ 0 0 _ false _ _ r M (au _) q (λ_=>⟨dC,dC,dC⟩),J,⟨K.ext,rfl,rfl,rfl⟩,L⟩
def NT(iZ:jd P cx){n q ty' l:ab}{c:Ty}(v:P.underlying n=some (.slice l))(z:cx.ty l=some c){d b j k:Nat}{g:List am}{r:am}
 (i:Src P c.size q r k g w) (x:b+k<=j) {f:af am} {p:ab} (y:w.heap[d]? =some (.cells f p (0,0))) (K:b*c.size+g.length<=f.size):
 (Builtin.append_ #[n,q] ty' #[.slice (some ⟨d,0,none⟩) b j,r]).run P w= .ok (.slice (some ⟨d,0,none⟩) (b+k) j) (w.setRow d (f.toList.take (b*c.size)++g++f.toList.drop (b*c.size+g.length)).toArray):=by
 obtain⟨L,A,M,s,C,D,E,F,G,I,t,J,_⟩:=(iZ.ty _ _ z).unfold;have m:=run_storeCells_at (P:=P) d (b*c.size) p g 0 f w y dB i.one;simp only[Nat.add_zero]at m;have u:(⟨d,0,none⟩:Addr).add (b*c.size)=⟨d,b*c.size,none⟩:=by rw[kI];simp
 rcases i.kind with⟨B,hk⟩|hk<;>simp[Builtin.append_,run_underlying v,run_underlying hk,sizeOf,typeInfo,s,t,i.len,x,i.cells,u,m]
def NU(iZ:jd P cx){i k ty' g:ab}{j:Ty}(p:P.underlying i=some (.slice g))(r:cx.ty g=some j){b:aa Addr}{f c:Nat}{l:am}(d:Src P j.size k l 0 [] w)(q:f<=c):
 (Builtin.append_ #[i,k] ty' #[.slice b f c,l]).run P w= .ok (.slice b f c) w:=by
 obtain⟨C,s,D,m,u,v,x,y,z,A,n,B,_⟩:=(iZ.ty _ _ r).unfold;rcases d.kind with⟨t,hk⟩|hk<;>cases b<;>simp[Builtin.append_,run_underlying p,run_underlying hk,sizeOf,typeInfo,m,n,d.len,q,d.cells,storeCells]
def Db(iZ:jd P cx)(s:St cx base w.heap μ h){t b9 ty' M:ab}{d:Ty}(bu:P.underlying t=some (.slice M))(b7:cx.ty M=some d){D X b:Nat}{f:List T}{m:List am}{E x:am}
 (ds:fD w.heap μ (.arr D X 0 b false) E) (v:Tt P w μ d.size b9 x f m) (dm:f≠ []) {l:T} (c:h.mt d.size d.bytes D X b f=some (l,h')):
 ∃a7 V I,(Builtin.append_ #[t,b9] ty' #[E,x]).run P w= .ok a7 V/\fD V.heap I l a7/\St cx base V.heap I h'/\pI w μ V I/\ye μ I h.size h'.size:=by
 unfold H.mt at c;replace c:=dL.1 c;obtain⟨cb,bs,c⟩:=c;obtain⟨a6,ep',ca,ef,b8,g⟩:=cb;have c:(dV (takeN b g) λJ=>dV (Eb J f) λbk=>dV (hU (kR bk)) λn=>gh (Nat.ble 1 d.bytes)<|gh (Nat.beq ep' X) (gh (Nat.beq a6 d.size) (gh (Nat.ble (Nat.mul n d.bytes) 70368744177664) (gh (fits d.size f) (@Bool.rec (λ_=>aa (T×H))
  (dV (hU (Nat.succ ep')) λbi=>dV (hU (Nat.succ ca)) λec=>dV (h.put D ⟨a6,bi,ec,false,false,bk⟩) λh'=>some (.arr D bi 0 n false,h')) none b8)))))=some (l,h'):=c
 replace c:=dL.1 c;obtain⟨J,K,c⟩:=c;simp only[pO,dY,iE,jH]at c;replace c:=dT.1 c;obtain⟨ae,c⟩:=c;replace c:=dT.1 c;obtain⟨bz,c⟩:=c;replace c:=dT.1 c;obtain⟨b6,c⟩:=c;replace c:=dT.1 c;obtain⟨R,c⟩:=c;replace c:=dT.1 c;obtain⟨_,c⟩:=c;cases b8 with
 |true=>simp at c
 |false=>
  have c:(dV (h.put D ⟨a6,ep'+1,ca+1,false,false,J++f⟩) λh'=>some (T.arr D (ep'+1) 0 (J++f).length false,h'))=some (l,h'):=c;replace c:=dL.1 c;obtain⟨eh,bC,c⟩:=c;simp only[ar,az]at c;obtain⟨rfl,rfl⟩:=c;have ae:=bw ae;have bz:=aD bz;have b6:=aD b6;have R:(J++f).length*d.bytes<=70368744177664:=bw R;rw[aU]at R;rw[nO]at K;split at K
  ·rename_i de;simp at K;subst K;obtain⟨A,W,r,rfl,Z,er,eo,c6⟩:=ds.sS;obtain⟨E,cp,cy⟩:=s.BT Z bs rfl;simp only[]at cp cy;obtain⟨_,ce,a8⟩:=c6 dB;have c1:r=A.cap:=by have:=ce rfl;omega
   obtain⟨q,ey,av,bT,bn⟩:=E.row;have L:=E.size;simp only[]at L bn;have C:A.sz=d.size:=dB;have p:(g.take b).length=b:=dD;have aA:∀l∈g.take b,l.cells.length=d.size:=λl F=>by rw[<-C];exact L l (bE F)
   have bN:∀l∈fx (g.take b),l.scalar=true:=by
    intro l F;rw[<-rx L]at F;exact E.scalar l (bE F)
   have S:∀l∈g.take b++f,l.cells.length=A.sz:=by
    intro l F;rw[C];rcases List.mem_append.1 F with k|k
    ·exact aA l k
    ·exact v.IQ l k
   have bS:=u5 bN v.scalar;have c9:=il L;have bB:m.length=f.length*d.size:=by rw[<-v.rel.1,il v.IQ]
   have N:gJ w.heap μ (fx (g.take b)) (q.toList.take (b*A.sz)):=by
    have:=bn.take (b*A.sz);rw[rx L,List.take_take,cE (by rw[c9];exact aY _ de)]at this;exact this
   have eu:0<f.length:=List.length_pos_iff.2 dm;by_cases bH:b+f.length<=r
   ·
    have c4:r≠0:=dB;have bp:=a8 c4;simp only[Nat.zero_mul]at bp;subst bp;have cX:b*d.size+m.length<=q.size:=by
     rw[bT,bB,C,<-cg];exact aY _ dB
    have Q:=NT (ty':=ty') iZ bu b7 v.src bH av cX;have al:(fx (g.take b++f)).length=b*d.size+m.length:=by
     rw[il S,aU,p,bB,C,cg]
    have Y:gJ w.heap μ (fx (g.take b++f)) ((q.toList.take (b*d.size)++m++q.toList.drop (b*d.size+m.length)).toArray.toList.take (fx (g.take b++f)).length):=by
     have ht:(q.toList.take (b*d.size)++m).take (b*d.size+m.length)=q.toList.take (b*d.size)++m:=bJ dD;rw[al,dp,db dD,ht,m7];rw[C]at N;exact N.append v.rel
    obtain⟨I,aE,aN,aX,ea⟩:=zi s Z bs rfl av (ep':=ep'+1) (.inr dB) bC (arr':=(q.toList.take (b*d.size)++m++q.toList.drop (b*d.size+m.length)).toArray)
     (by simp only[List.size_toArray,aU,List.length_take,List.length_drop,cj];rw[<-bT];omega) (by simp[p];omega) dC S bS Y
    refine⟨_,_,I,Q,?_,aE,aN,aX⟩;have an:(g.take b++f).length=b+f.length:=by rw[aU,p]
    rw[an];exact .arr _ _ 0 _ false _ _ r ea (au _) bH (λ_=>⟨dC,by simp[c1],dC⟩)
   ·
    have G:∃B,Tr P w μ d.size (.slice W b r) (g.take b) B:=by
     refine⟨q.toList.take (b*A.sz),?_,N,aA,bN⟩;rw[p];have dk:(q.toList.take (b*A.sz)).length=b*d.size:=by rw[<-N.1,il aA,p]
     by_cases cL:r=0
     ·have dd:b=0:=dB;subst dd;simp only[Nat.zero_mul,List.take_zero];cases W with
      |none=>exact run_firstCells_none w.drew d.size 0 0 r
      |some y=>exact run_firstCells_some w.drew d.size 0 y 0 r [] dC dC
     ·rw[a8 cL];refine run_firstCells_some w.drew d.size b _ b r _ dk (λj u O=> ?_);rw[kI];rw[bM]at O;split at O
      ·show World.cell? w _=_;simp only[World.cell?,av];simpa using O
      ·simp at O
    obtain⟨B,G⟩:=G;have dn:((g.take b).length+f.length)*d.bytes<=70368744177664:=by rw[<-p]at*;exact R
    have eb:Tr P w μ d.size (.slice W (g.take b).length r) (g.take b) B:=by rw[p];exact G
    obtain⟨z,U,ap,dv,Q⟩:=GS iZ bu b7 (ty':=ty') eb v (by rw[p];omega) ae dn;rw[p]at Q ap;have di:B.length+m.length=(b+f.length)*d.size:=by
     rw[<-G.rel.1,<-v.rel.1,il G.IQ,il v.IQ,p,cg]
    have al:(fx (g.take b++f)).length=(b+f.length)*d.size:=by
     rw[il S,aU,p,C]
    have Y:gJ w.heap μ (fx (g.take b++f)) (((B++m).toArray++Builtin.zeroCells z.cells (U-(b+f.length))).toList.take (fx (g.take b++f)).length):=by
     have ht:(B++m).take ((b+f.length)*d.size)=B++m:=bJ dD;rw[al,Array.toList_append,dp,db dD,ht,m7];exact G.rel.append v.rel
    have an:(g.take b++f).length=b+f.length:=by rw[aU,p]
    obtain⟨aE,aN,aX⟩:=s.change (L':=⟨ep'+1,w.heap.size,U,A.sz⟩) (hp':=w.heap.push (.cells ((B++m).toArray++Builtin.zeroCells z.cells (U-(b+f.length))) M)) Z bC dC
     (by intro i et _;rw[Array.getElem?_push];simp;omega) (.inr ⟨dD,.inr (au _)⟩) (by
     intro c7;refine⟨rfl,dD,λ_=>⟨⟨_,M,dC,?_,Y.ext c7⟩,by simp[p];omega,dC,S,bS⟩,λk=>by simp at k⟩;rw[CF di dv ap,C])
    refine⟨_,_,_,Q,?_,aE,⟨aN,rfl,rfl,rfl⟩,aX⟩;rw[an];exact .arr _ _ 0 _ false _ _ U (jA _ _ _) (au _) ap (λ_=>⟨dC,dC,dC⟩)
  ·simp at K
end
end
noncomputable section
section
variable {P:ai}{cx:Ctx}{base:Nat}{w:World}{μ:Mu}{h h':H}{mask:Nat}{e:Env}{a:Act}{o:Oper}{hp hp':af Obj}{p:T}
def qH(cx:Ctx)(base:Nat)(w:World)(μ:Mu)(f:Nat)(g:Result am)(i:T)(h':H):Prop:=
 ∃d b c,g= .ok d b/\fD b.heap c i d/\St cx base b.heap c h'/\pI w μ b c/\ye μ c f h'.size
def qH.pure{b:Result am}{d:T}{c:am}(g:St cx base w.heap μ h)(hr:b= .ok c w)(f:fD w.heap μ d c):qH cx base w μ h.size b d h:=
 ⟨c,w,μ,hr,f,g,pI.refl _ _,ye.refl _ _⟩
def uQ(iZ:jd P cx){f:ab}{g:Ty}(b:oP cx f=some g):∃c,P.underlying f=some (.slice c)/\cx.ty c=some g:=by
 obtain⟨l,j,b⟩:=dL.1 b;obtain⟨m,i,d⟩:=kO (iZ.ty _ _ j);cases k:l.u<;>rw[k]at b d<;>simp at b;have:=mv d;subst this;exact⟨_,i,b⟩
def yE(b:List Nat):fP (λc=>some (T.int .u8 (.ofNat c))) b=some (b.map λc=>T.int .u8 (.ofNat c)):=by
 induction b with
 |nil=>rfl
 |cons f b d=>rw[jK,d];rfl
def ry(b:List Nat):fx (b.map λc=>T.int .u8 (.ofNat c))=b.map λc=>T.int .u8 (.ofNat c):=by
 induction b with
 |nil=>rfl
 |cons f b d=>rw[aT,lQ,d];rfl
def Jw(iZ:jd P cx)(O:St cx base w.heap μ h){C:ab}{n:T}{f:am}{j:List T}{i:Nat}(z:fD w.heap μ n f)(c:mh cx h C n=some j)(k:fits i j=true):
 ∃s,Tt P w μ i C f j s:=by
 obtain⟨Q,L,c⟩:=dL.1 c;obtain⟨R,q,r⟩:=kO (iZ.ty _ _ L);cases M:Q.u<;>rw[M]at c r<;>simp at c
 ·have:=sw r;subst this;have G:∃d,n= .str d:=by cases n<;>first|exact⟨_,rfl⟩|(simp at c)
  obtain⟨d,rfl⟩:=G;have c:fP (λf=>some (T.int .u8 (.ofNat f))) d=some j:=c;rw[yE]at c;simp only[ar]at c;subst c;obtain⟨rfl,F⟩:=z.lJ;cases d with
  |nil=>
   have A:bytesOf []=ByteArray.empty:=rfl;refine⟨[],⟨⟨.inr q,λV=>by simp[Builtin.lenOf];rfl,?_,?_,dC,dC⟩,gJ.nil,dC,by simp[fx]⟩⟩
   ·simp[Builtin.firstCells,A]
   ·simp[Builtin.firstCells,A]
  |cons g d=>
   have K:i=1:=by
    have k:Nat.beq 1 i=true:=k;exact(aD k).symm
   subst K;have x:=Src.ofString w q (bytesOf (g::d));have v:(bytesOf (g::d)).size=((g::d).map λf=>T.int .u8 (.ofNat f)).length:=by rw[jU];simp
   rw[v]at x;refine⟨_,x,?_,by intro D b;simp only[cu]at b;obtain⟨_,_,rfl⟩:=b;rfl,by rw[ry];intro D b;simp only[cu]at b;obtain⟨_,_,rfl⟩:=b;rfl⟩;rw[ry];refine⟨by rw[byteCells_length,v],λB D b=> ?_⟩;rw[aQ]at b;cases l:(g::d)[B]? with
   |none=>rw[l]at b;simp at b
   |some t=>
    rw[l]at b;simp at b;subst b;have I:t<256:=F t (ax l);have:(byteCells (bytesOf (g::d)))[B]? =some (.int .u8 (t:Int)):=by
     simp only[byteCells,bytesOf,aQ,dp,l,cO,jJ I]
    rw[List.getD,this];exact .int _ _
 ·rename_i S;have:=mv r;subst this;obtain⟨U,m⟩:=oq (P:=P) O z c;have y:=K8 k m.IQ;have N:AT P w μ f j i:=⟨y,m.scalar,m.form⟩;obtain⟨s,J,E⟩:=N.src q;exact⟨s,J,E,y,m.scalar⟩
def Ef(g:oN p=true){b:am}(hp:fD w.heap μ p b):∃f d c,b= .slice f d c/\d<=c:=by
 cases hp<;>simp[oN]at g
 ·exact⟨_,_,_,rfl,au _⟩
 ·exact⟨_,_,_,rfl,by assumption⟩
 ·exact⟨_,_,_,rfl,aw _⟩
 ·exact⟨_,_,_,rfl,by assumption⟩
def xq(iZ:jd P cx)(j:St cx base w.heap μ h){I J ty':ab}{L k:T}{c B:am}(hp:fD w.heap μ p c)(aA:fD w.heap μ L B)(b:iM cx h I J p L=some (.val k h')):
 qH cx base w μ h.size ((Builtin.append_ #[I,J] ty' #[c,B]).run P w) k h':=by
 replace b:=dL.1 b;obtain⟨f,aN,b⟩:=b;replace b:=dL.1 b;obtain⟨l,aX,b⟩:=b;replace b:=dT.1 b;obtain⟨Z,b⟩:=b;rw[jw]at b;obtain⟨bs,E,F⟩:=uQ iZ aN;obtain⟨a6,y⟩:=Jw (P:=P) iZ j aA aX Z;cases l with
 |nil=>
  have b:gh (oN p) (some (p,h))=some (k,h'):=b;obtain⟨aE,b⟩:=dT.1 b;simp only[ar,az]at b;obtain⟨rfl,rfl⟩:=b;have ap:a6=[]:=bj (by have:=y.src.newsLen;simpa using this);subst ap;obtain⟨ad,g,t,rfl,K⟩:=Ef aE hp;exact qH.pure j (NU (ty':=ty') iZ E F y.src K) hp
 |cons s l=>
  have av:s::l≠ []:=dC;have bB:0<(s::l).length:=dC;have C:∀{es:List T} {v:Nat},AT P w μ c es v->(∀ad g t,c= .slice ad g t->t=g)->h.jb f.size f.bytes es (s::l)=some (k,h')->qH cx base w μ h.size ((Builtin.append_ #[I,J] ty' #[c,B]).run P w) k h':=by
   intro es v d W i;have al:fits f.size es=true:=by
    unfold H.jb at i;simp only[pO,dY,iE,jH]at i;obtain⟨_,i⟩:=dT.1 i;obtain⟨_,i⟩:=dT.1 i;exact(dT.1 i).1
   have x:AT P w μ c es f.size:=⟨K8 al d.IQ,d.scalar,d.form⟩;obtain⟨ad,cap,bH,G,K,_⟩:=x.form;obtain⟨bN,a7,a8⟩:=x.first;subst G;have:=W _ _ _ rfl;obtain⟨Q,bi,bk,r1,r2,r3,r4,r5⟩:=A9 iZ j E F (ty':=ty') (ad:=ad) (cap:=cap) ⟨a7,a8,x.IQ,x.scalar⟩ y dB i;exact⟨Q,bi,bk,r1,r2,r3,r4,r5⟩
  have G:(∃es m,p= .dN es m)\/∃A u o g m,p= .arr A u o g m:=by
   cases p<;>first|(exact .inl ⟨_,_,rfl⟩)|(exact .inr ⟨_,_,_,_,_,rfl⟩)|(simp[H.append]at b)
  rcases G with⟨es,m,rfl⟩|⟨A,u,z,g,m,rfl⟩
  ·cases es with
   |nil=>
    have b:h.jb f.size f.bytes [] (s::l)=some (k,h'):=b;obtain⟨ad,rfl⟩:=hp.uj;obtain⟨v,d⟩:=oq (P:=P) (es:=[]) j hp rfl;exact C d (by intro _ _ _ n;simp at n;omega) b
   |cons M es=>
    have b:gh m (h.jb f.size f.bytes (M::es) (s::l))=some (k,h'):=b;obtain⟨an,b⟩:=dT.1 b;obtain⟨v,d⟩:=oq (P:=P) (es:=M::es) j hp rfl;refine C d ?_ b;intro ad g t n;obtain⟨_,_,_,_,_,_,_,D,_,_,_,ae,_⟩:=hp.uk;rw[D]at n;simp at n;have:=ae an;omega
  ·cases m with
   |true=>
    have b:(dV (h.ji (.arr A u z g true)) λes=>h.jb f.size f.bytes es (s::l))=some (k,h'):=b;obtain⟨es,q,b⟩:=dL.1 b;obtain⟨v,d⟩:=oq (P:=P) j hp q;refine C d ?_ b;intro ad bC t n;obtain⟨N,bn,bp,D,U,_,_,X⟩:=hp.sS;rw[D]at n;simp at n;have Y:u=N.ep:=by
     unfold H.ji at q;obtain⟨O,V,q⟩:=dL.1 q;obtain⟨bS,S,bT,bu,d,R⟩:=O;have q:gh (Nat.beq S u) (@Bool.rec (λ_=>aa (List T)) (dV (jX z R) λr=>takeN g r) none d)=some es:=q;have bz:=aD (dT.1 q).1;have:=(j.KC U V).2;simp only[]at this;omega
    have:=(X Y).1 rfl;omega
   |false=>
    cases z with
    |succ z=>exact absurd b (by simp[H.append])
    |zero=>exact Db iZ j E F (ty':=ty') hp y av b
def Gu(iZ:jd P cx)(M:St cx base w.heap μ h){N a7:ab}{f:T}{C:am}(hp:fD w.heap μ p C)(c:C7 cx h N p=some (.val f h')):
 qH cx base w μ h.size ((Builtin.clear_ #[N] a7 #[C]).run P w) f h':=by
 replace c:=dL.1 c;obtain⟨s,b9,c⟩:=c;obtain⟨dd,W,bN⟩:=uQ iZ b9;have L:∀{t:aa Addr} {D:Nat},C= .slice t 0 D->f= .undef->h'=h->qH cx base w μ h.size ((Builtin.clear_ #[N] a7 #[C]).run P w) f h':=by
  intro t D V d bT;subst V d bT;refine qH.pure M ?_ .undef;cases t<;>simp[Builtin.clear_,run_underlying W]
 cases p<;>simp only[reduceCtorEq]at c
 ·rename_i j bs;cases j with
  |nil=>
   simp only[ar,lH.val.injEq]at c;obtain⟨t,rfl⟩:=hp.uj;exact L rfl c.1.symm c.2.symm
  |cons x j=>simp at c
 ·simp only[ar,lH.val.injEq]at c;obtain⟨t,g,D,V,I⟩:=Ef (p:= .gu) rfl hp;cases hp;exact L rfl c.1.symm c.2.symm
 ·rename_i b bn m g bs;obtain⟨i,t,D,rfl,S,dk,dm,bH⟩:=hp.sS;cases g with
  |zero=>
   have c:some (lH.val .undef h)=some (.val f h'):=c;simp only[ar,lH.val.injEq]at c;exact L rfl c.1.symm c.2.symm
  |succ g=>
   replace c:=dL.1 c;obtain⟨a8,U,c⟩:=c;obtain⟨sz,O,c6,bp,a6,q⟩:=a8;have c:(gh (Nat.beq O bn)<|gh (Nat.beq sz s.size) (@Bool.rec (λ_=>aa lH)
    (dV (kQ q m (pj s.kl (g+1))) λj=>dV (hU (Nat.succ c6)) λc7=>
      dV (h.put b ⟨sz,O,c7,bp,false,j⟩) λh'=>some (.val .undef h')) none a6))=some (.val f h'):=c
   replace c:=dT.1 c;obtain⟨X,c⟩:=c;replace c:=dT.1 c;obtain⟨an,c⟩:=c;cases a6 with
   |true=>simp at c
   |false=>
    replace c:=dL.1 c;obtain⟨j,r,c⟩:=c;simp only[iE,dY]at c;replace c:=dL.1 c;obtain⟨de,b7,c⟩:=c;simp only[ar,lH.val.injEq]at c;obtain⟨rfl,rfl⟩:=c;have X:=aD X;have an:=aD an;obtain⟨n,Q,bu⟩:=M.BT S U rfl;simp only[]at Q bu;obtain⟨_,_,F⟩:=bH dB;have F:=F dB;subst F;obtain⟨v,c4,Z,al,E⟩:=n.row;have z:=n.size;simp only[]at z E;obtain⟨B,ca,dn,av,aN,aE,A,ds,dv⟩:=(iZ.ty _ _ bN).zero w;rw[nQ]at r;obtain⟨I,r⟩:=oz r;rw[List.length_replicate]at I r;have G:=il z;have cb:(fx (List.replicate (g+1) s.kl)).length=(g+1)*i.sz:=by
     rw[il (sz:=i.sz) (by intro f d;rw[bR d,A,aE];omega),List.length_replicate]
    have Y:fx j=(fx q).take (m*i.sz)++fx (List.replicate (g+1) s.kl)++(fx q).drop (m*i.sz+(g+1)*i.sz):=by
     rw[r,m7,m7,rx z,<-cg,pG z]
    have ap:∀f∈j,f.cells.length=i.sz:=by
     intro f d;rw[r]at d;rcases List.mem_append.1 d with d|d
     ·rcases List.mem_append.1 d with d|d
      ·exact z f (bE d)
      ·rw[bR d,A,aE];omega
     ·exact z f (bF d)
    have b8:∀f∈fx j,f.scalar=true:=by
     intro f d;rw[Y]at d;rcases List.mem_append.1 d with d|d
     ·rcases List.mem_append.1 d with d|d
      ·exact n.scalar f (bE d)
      ·obtain⟨y,K,d⟩:=List.mem_flatMap.1 d;rw[bR K,A]at d;exact aN f d
     ·exact n.scalar f (bF d)
    have J:j.length=q.length:=by rw[r];simp;omega
    have bS:(fx j).length=(fx q).length:=by rw[il ap,G,J]
    have bB:(fx q).length<=v.size:=by
     rw[G,al];exact aY _ n.room
    have di:m*i.sz+(g+1)*i.sz<=(fx q).length:=by
     rw[G,<-cg];exact aY _ I
    have aX:B.cells.size=i.sz:=by have:=(av w.heap μ).1;simp only[cj]at this;omega
    have cy:∃l:List am,(Builtin.zeroCells B.cells (g+1)).toList=l/\l.length=(g+1)*i.sz/\gJ w.heap μ (fx (List.replicate (g+1) s.kl)) l:=by
     have bC:gJ w.heap μ (fx (List.replicate (g+1) s.kl)) (Builtin.zeroCells B.cells (g+1)).toList:=by
      by_cases R:B.cells.size=0
      ·have bi:fx (List.replicate (g+1) s.kl)=[]:=bj (by rw[cb,<-aX,R];simp);have bk:(Builtin.zeroCells B.cells (g+1)).toList=[]:=bj (by rw[cj,rC,R];simp);rw[bi,bk];exact gJ.nil
      ·rw[Builtin.zeroCells,zq (g+1) dB,rX,A];exact(av _ _).replicate (g+1)
     exact⟨_,rfl,by rw[cj,rC,aX],bC⟩
    obtain⟨l,ce,cp,aA⟩:=cy;have b6:∀u∈l,u.oneCell'=true:=aA.Fi (by
     intro f d;obtain⟨y,K,d⟩:=List.mem_flatMap.1 d;rw[bR K,A]at d;exact aN f d)
    have bz:gJ w.heap μ (fx j) ((v.toList.take (m*i.sz)++l++v.toList.drop (m*i.sz+l.length)).toArray.toList.take (fx j).length):=by
     rw[bS,Y];rw[dp,Aw _ _ dB (by simpa using bB)];rw[cp];exact((E.take _).append aA).append (E.drop _)
    obtain⟨c9,cL,cX,c1,ea⟩:=zi M S U rfl Z (.inl Q) b7 (arr':=(v.toList.take (m*i.sz)++l++v.toList.drop (m*i.sz+l.length)).toArray)
     (by simp only[List.size_toArray,aU,List.length_take,List.length_drop,cj];rw[<-al];omega) (by rw[J];exact n.room) (by intro k;have:=n.tz k;simp only at this;rw[J];exact this) ap b8 bz
    refine⟨.tuple #[],_,c9,?_,.undef,cL,cX,c1⟩;have ae:=run_storeCells_at (P:=P) i.iR (m*i.sz) c4 l 0 v w Z (by simp only[Nat.add_zero];omega) b6;simp only[Nat.add_zero]at ae;simp[Builtin.clear_,run_underlying W,ca,ce,ae]
end
end
noncomputable section
section
variable {P:ai}{cx:Ctx}{base:Nat}{w:World}{μ:Mu}{h h':H}{mask:Nat}{e:Env}{a:Act}{o:Oper}{hp hp':af Obj}{p:T}
def St.grow(c:St cx base hp μ h)(l:hp.size<=hp'.size)(j:∀b,b<hp.size->hp'[b]? =hp[b]?):St cx base hp' μ h/\Ext hp μ hp' μ:=by
 have g:Ext hp μ hp' μ:=⟨l,λb i t=>⟨j b i,t⟩,λk f d=>⟨f,d,.inl rfl⟩,rfl,λb i _=>j b i⟩;refine⟨⟨c.wf,by have:=c.fit;omega,λk f d=> ?_,c.inj,c.low,c.apart,λb hr=>bG (c.qF b hr) l,λn m s=>(c.yM n m s).ext g⟩,g⟩;obtain⟨u,q,r⟩:=c.box k f d;exact⟨u,q,r.ext g (j _ (c.lt d))⟩
def Gs(iZ:jd P cx){D z:ab}{K:ah}(x:St cx base w.heap μ h)(r:kt w.heap μ mask e a.tmps)(ap:o.op= .convert D z K){m:T}
 (C:∃F,cx.ty D=some F) (hp:fR cx mask e K=some p) (b:C4 cx z p=some m) (Y:h'=h):jm cx base w μ h.size ((execOp a.eval o).run P w) m h':=by
 subst Y;obtain⟨bB,C⟩:=C;obtain⟨bs,U,_⟩:=kO (iZ.ty _ _ C);replace b:=dL.1 b;obtain⟨F,a7,b⟩:=b;obtain⟨d,R,I⟩:=kO (iZ.ty _ _ a7);have bk:=gU x r hp;cases a8:F.u<;>rw[a8]at b I<;>simp only[reduceCtorEq]at b;rename_i s;have:=mv I;subst this;have W:∃c,p= .str c:=by cases p<;>first|exact⟨_,rfl⟩|(simp at b)
 obtain⟨c,rfl⟩:=W;have b:(dV (cx.ty s) λE=>(match E.u with
  | .int l=>gh (Dk l .u8) (@List.rec Nat (λ_=>aa T) (some .gu) (λ_ _ _=>dV (fP (λg=>some (T.int .u8 (.ofNat g))) c) λA=>some (.dN A false)) c)
  |_=>none))=some m:=b
 replace b:=dL.1 b;obtain⟨E,a6,b⟩:=b;obtain⟨bp,S,J⟩:=kO (iZ.ty _ _ a6);cases bi:E.u<;>rw[bi]at b J<;>simp only[reduceCtorEq]at b;rename_i l;replace b:=dT.1 b;obtain⟨k,b⟩:=b;rw[xQ]at k;subst k;have:=yi J;subst this;obtain⟨M,N⟩:=bk.lJ
 let n:=(bytesOf c).size
 have B:∃q j,n<=q/\(execOp a.eval o).run P w= .ok (.value (.slice (some ⟨w.heap.size,0,none⟩) n q)) j/\j.heap.size=w.heap.size+1/\(∀t,t<w.heap.size->j.heap[t]? =w.heap[t]?)/\
  j.os=w.os/\j.tape=w.tape/\j.output=w.output/\∃fz,j.heap[w.heap.size]? =some (.cells ((bytesOf c).data.map (λi=>Value.int .u8 i.toNat)++Array.replicate (q-n) (.int .u8 0)) s fz):=by
  refine⟨grownCap w n 0 s,Lib.bytesWorld w s (bytesOf c),grownCap_ge w _ _ _,?_,Lib.bytesWorld_size _ _ _,λt Z=>Lib.bytesWorld_at_old _ _ _ t Z,rfl,rfl,rfl,_,Lib.bytesWorld_at_new _ _ _⟩;simp only[execOp,ap,Sem.run_bind,M,Lib.run_convert_string_bytes w D z s (bytesOf c) U R S,Result.andThen_ok,Sem.run_pure];rfl
 obtain⟨q,j,bu,B,bz,aN,av,aA,aE,fz,O⟩:=B;obtain⟨bn,V⟩:=x.grow (hp':=j.heap) dB aN;have G:n=c.length:=jU c;refine⟨_,j,μ,.inl B,?_,bn,⟨V,av,aA,aE⟩,ye.refl _ _⟩;cases c with
 |nil=>
  have b:some T.gu=some m:=b;simp at b;subst b;rw[G];exact .gu _ _
 |cons i c=>
  have b:(dV (fP (λg=>some (T.int .u8 (.ofNat g))) (i::c)) λA=>some (T.dN A false))=some m:=b;rw[yE]at b;simp only[dY,ar]at b;subst b;have an:¬nz μ w.heap.size:=by
   rintro(⟨g,L,Q,hl⟩|hr)
   ·have:=x.lt Q;omega
   ·have:=x.qF _ hr;omega
  have al:n=(c.map λg=>T.int .u8 (.ofNat g)).length+1:=by rw[G];simp
  rw[al];refine .dN (T.int .u8 (.ofNat i)) (c.map λg=>T.int .u8 (.ofNat g)) false w.heap.size 0 q 1 _ s fz an O dB dC ?_ ?_ ?_ ?_
  ·intro m b;rw[<-aT (f:=λg=>T.int .u8 (.ofNat g))]at b;obtain⟨g,_,rfl⟩:=List.mem_map.1 b;rfl
  ·rw[<-aT (f:=λg=>T.int .u8 (.ofNat g)),ry];simp[bytesOf]
  ·rw[<-aT (f:=λg=>T.int .u8 (.ofNat g)),ry];intro m b;obtain⟨g,_,rfl⟩:=List.mem_map.1 b;exact⟨rfl,.int _ _⟩
  ·rw[<-aT (f:=λg=>T.int .u8 (.ofNat g)),ry];intro l m b;rw[aQ]at b;cases k:(i::c)[l]? with
   |none=>rw[k]at b;simp at b
   |some v=>
    rw[k]at b;simp at b;subst b;have aX:v<256:=N v (ax k);have ae:l<(i::c).length:=by
     rcases aF l (i::c).length with y|y
     ·exact y
     ·rw[aM y]at k;simp at k
    have X:((bytesOf (i::c)).data.map (λi=>Value.int .u8 i.toNat)++Array.replicate (q-n) (.int .u8 0))[0+l]? =some (.int .u8 (v:Int)):=by
     rw[Nat.zero_add,Array.getElem?_append_left (by simp[bytesOf];simpa using ae),Array.getElem?_map];have:(bytesOf (i::c)).data[l]? =some (UInt8.ofNat v):=by
      simp only[bytesOf,List.getElem?_toArray,aQ,k,cO]
     rw[this];simp[jJ aX]
    rw[aZ,X];exact .int _ _
def FG{x:ah}(A:St cx base w.heap μ h)(r:kt w.heap μ mask e a.tmps)(U:o.op= .next x true){t:T}
 (b:Ab x cx mask e h=some (.val t h')):jm cx base w μ h.size ((execOp a.eval o).run P w) t h':=by
 unfold Ab at b;replace b:=dL.1 b;obtain⟨p,hp,b⟩:=b;have bp:=gU A r hp;have aE:∃v,p= .iter v:=by cases p<;>first|exact⟨_,rfl⟩|(simp at b)
 obtain⟨v,rfl⟩:=aE;replace b:=dL.1 b;obtain⟨l,al,b⟩:=b;replace b:=dT.1 b;obtain⟨a6,b⟩:=b;obtain⟨n,bC,M,D,Z⟩:=bp.PF;obtain⟨y,G,C⟩:=A.box v n D;rw[al]at G;simp at G;subst G;obtain⟨R,a8⟩:=C.iter a6;rcases a8 with⟨f,d,aA,O,N⟩|⟨bN,b8,b9,bB⟩|⟨ca,m,d,ce,bH,V,W,bS,bT⟩;rotate_left;rotate_left
 ·exfalso;rw[V]at b;simp at b
 rotate_left
 ·exfalso;cases hE:l.eZ with
  |nil=>rw[hE]at b;simp at b
  |cons z cp=>
   obtain⟨k,u,cb,rfl,_⟩:=bB 0 z (by simp[hE]);rw[hE]at b;simp at b
 have X:n.ep=0:=by rw[<-C.ep];exact R
 have ae:=Z X;subst ae;rw[aA]at b;have S:(getObj n.iR).run P w= .ok (.stringIter (bytesOf f) d) w:=by simp[getObj,Sem.run,N]
 have b:(@Bool.rec (λ_=>aa lH) (some (.val (.tuple [.bool false]) h)) (dV (yC f d) λK=>two K λc wd=>dV (hU (Nat.add d wd)) λJ=>dV (hU (Nat.succ l.ver)) λL=>
  dV (h.put v ⟨l.sz,l.ep,L,l.exact,true,[.str f,.int .i64 (.ofNat J)]⟩) λh'=>
   some (.val (.tuple [.bool true,.int .i64 (.ofNat d),.int .i32 (.ofNat c)]) h')) (Nat.blt d (kR f)))=some (.val t h'):=b
 rw[jH]at b;cases s:Nat.blt d f.length with
 |false=>
  rw[s]at b;have b:some (lH.val (.tuple [.bool false]) h)=some (.val t h'):=b;simp at b;obtain⟨rfl,rfl⟩:=b;have aX:¬d<f.length:=by rw[<-aH];simp[s]
  refine jm.pure (c:= .tuple #[.bool false]) A ?_ (.tuple _ _ rfl λk t g=> ?_)
  ·simp[execOp,U,Instr.next,M,S,jU,aX]
  ·cases k with
   |zero=>simp at g;subst g;exact .bool _
   |succ k=>simp at g
 |true=>
  rw[s]at b;have F:d<f.length:=by rw[aH]at s;exact s
  have b:(dV (yC f d) λK=>two K λc wd=>dV (hU (Nat.add d wd)) λJ=>dV (hU (Nat.succ l.ver)) λL=>
   dV (h.put v ⟨l.sz,l.ep,L,l.exact,true,[.str f,.int .i64 (.ofNat J)]⟩) λh'=>
    some (lH.val (.tuple [.bool true,.int .i64 (.ofNat d),.int .i32 (.ofNat c)]) h'))=some (.val t h'):=b
  replace b:=dL.1 b;obtain⟨⟨c,wd⟩,Q,b⟩:=b;simp only[kC,iE,dY]at b;replace b:=dL.1 b;obtain⟨W,bi,b⟩:=b;simp only[ar,lH.val.injEq]at b;obtain⟨rfl,rfl⟩:=b;unfold yC at Q;obtain⟨q,B,j⟩:=dL.1 Q;rw[kA]at B;have av:Utf8.decode (bytesOf f) d=(c,wd):=by
   cases E:Nat.blt q 128 with
   |false=>
    rw[E]at j;have s:q<256:=O q (ax B);have an:Nat.blt q 256=true:=by rw[aH];exact s
    rw[an]at j;have j:some (Utf8.decode (bytesOf f) d)=some (c,wd):=j;simpa using j
   |true=>
    rw[E]at j;have j:some (q,1)=some (c,wd):=j;simp only[ar,az]at j;obtain⟨rfl,rfl⟩:=j;rw[aH]at E;have ap:q<256:=dB;have aN:(bytesOf f).get! d=UInt8.ofNat q:=by
     have bk:d<(bytesOf f).size:=by rw[jU];exact F
     show(bytesOf f).data[d]! =_;rw[getElem!_pos (bytesOf f).data d bk];simp only[bytesOf,List.getElem_toArray,List.getElem_map];have:f[d]=q:=by rw[aB F]at B;simpa using B
     rw[this]
    unfold Utf8.decode;simp only[Nat.add_zero,aN,jJ ap];rw[aq dB]
  have bn:∀I:Obj,(setObj n.iR I).run P w= .ok () {w with heap:=w.heap.setIfInBounds n.iR I}:=by
   intro I;simp[setObj,Sem.run,N]
  have Y:=A.lt D;obtain⟨bs,bu,bz⟩:=A.change (L':=n) (hp':=w.heap.setIfInBounds n.iR (.stringIter (bytesOf f) (d+wd))) D bi dC (by
   intro i b7 a7;rw[Array.getElem?_setIfInBounds_ne (bm a7)]) (.inl rfl) (by
   intro b6;refine⟨C.ep,C.sz,λk=>by simp at k,λ_=>⟨R,.inl ⟨f,d+wd,rfl,O,by simp[Y]⟩⟩⟩)
  refine⟨.tuple #[.bool true,.int .i64 d,.int .i32 c],{w with heap:=w.heap.setIfInBounds n.iR (.stringIter (bytesOf f) (d+wd))},_,.inl ?_,.tuple _ _ rfl λk t g=> ?_,bs,⟨bu,rfl,rfl,rfl⟩,bz⟩
  ·simp[execOp,U,Instr.next,M,S,jU,F,av,bn,goInt]
  ·match k,g with
   |0,g=>simp at g;subst g;exact .bool _
   |1,g=>simp at g;subst g;exact .int _ _
   |2,g=>simp at g;subst g;exact .int _ _
   |k+3,g=>simp at g
def Kk(iZ:jd P cx)(g:St cx base w.heap μ h){l:af ab}{y:ab}{k q:T}{m:am}(i:fD w.heap μ k m)(b:M7 cx h l.toList k=some (.val q h')):
 qH cx base w μ h.size ((Builtin.len_ l y #[m]).run P w) q h':=by
 replace b:=dL.1 b;obtain⟨v,ht,b⟩:=b;replace b:=dL.1 b;obtain⟨x,s,b⟩:=b;obtain⟨A,f,j⟩:=kO (iZ.ty _ _ s);have ht:l[0]? =some v:=by rw[kA]at ht;simpa using ht
 cases t:x.u<;>rw[t]at b j<;>simp only[reduceCtorEq]at b
 ·have:=sw j;subst this;cases k<;>simp at b;obtain⟨c,rfl⟩:=fW.1 b;simp at c;subst c;obtain⟨d,_⟩:=i.lJ;exact qH.pure g (by simp[Builtin.len_,ht,run_underlying f,d,jU,goInt]) (.int _ _)
 ·have:=mv j;subst this;cases k<;>simp at b
  ·obtain⟨c,rfl⟩:=fW.1 b;simp at c;subst c;rename_i n B;cases n with
   |nil=>obtain⟨r,d⟩:=i.uj;exact qH.pure g (by simp[Builtin.len_,ht,run_underlying f,d,goInt]) (.int _ _)
   |cons C n=>obtain⟨_,_,_,_,_,_,_,d,_⟩:=i.uk;exact qH.pure g (by simp[Builtin.len_,ht,run_underlying f,d,goInt]) (.int _ _)
  ·obtain⟨c,rfl⟩:=fW.1 b;simp at c;subst c;obtain⟨r,z,d⟩:=i.z8;exact qH.pure g (by simp[Builtin.len_,ht,run_underlying f,d,goInt]) (.int _ _)
  ·obtain⟨c,rfl⟩:=fW.1 b;simp at c;subst c;obtain⟨_,_,_,d,_⟩:=i.sS;exact qH.pure g (by simp[Builtin.len_,ht,run_underlying f,d,goInt]) (.int _ _)
 ·have:=rf j;subst this;obtain⟨c,rfl⟩:=fW.1 b;simp at c;subst c;exact qH.pure g (by simp[Builtin.len_,ht,run_underlying f,goInt]) (.int _ _)
def D9(iZ:jd P cx)(u:St cx base w.heap μ h)(r:kt w.heap μ mask e a.tmps){c:Call}{F:Builtin}(al:o.op= .call c)(Z:c.callee= .builtin F){n:List T}(Y:pZ cx mask e c.args.toList=some n){v:T}
 (b:lm F cx h c.argTypes.toList n=some (.val v h')):jm cx base w μ h.size ((execOp a.eval o).run P w) v h':=by
 have d:=vM u r Y;have N:∀{m:Sem am},(execOp a.eval o).run P w=((m.run P w).andThen λv O=> .ok (Next.value v) O)->qH cx base w μ h.size (m.run P w) v h'->jm cx base w μ h.size ((execOp a.eval o).run P w) v h':=by
  intro m hr ae;obtain⟨z,O,an,S,U,V,W,X⟩:=ae;exact⟨z,O,an,.inl (by rw[hr,S];rfl),U,V,W,X⟩
 have A:(execOp a.eval o).run P w=(builtin F c.argTypes o.type (c.args.map λ| .const _=>true|_=>false) (c.args.map a.eval)).run P w:=by
  simp[execOp,al,resolve,Z,invoke];rfl
 have y:(c.args.map a.eval).toList=c.args.toList.map a.eval:=dC;cases F<;>simp only[lm,reduceCtorEq]at b
 case len=>
  match n,b,d with
  | [I],b,d=>
   obtain⟨g,t,f,l,k⟩:=d.mz;have j:t=[]:=bj (by have:=k.1;simpa using this.symm);subst j;have i:c.args.map a.eval= #[g]:=by apply cC;rw[y,f]
   refine N (m:=Builtin.len_ c.argTypes o.type #[g]) ?_ (Kk iZ u l b);rw[A,i];simp[builtin]
 case append=>
  match n,b,d with
  | [I,R],b,d=>
   match L:c.argTypes.toList,b with
   | [E,Q],b=>
    obtain⟨g,t,f,l,k⟩:=d.mz;obtain⟨G,x,rfl,C,B⟩:=k.mz;have j:x=[]:=bj (by have:=B.1;simpa using this.symm);subst j;have i:c.args.map a.eval= #[g,G]:=by apply cC;rw[y,f]
    have K:c.argTypes= #[E,Q]:=by apply cC;rw[L]
    refine N (m:=Builtin.append_ #[E,Q] o.type #[g,G]) ?_ (xq iZ u l C b);rw[A,i,K];simp[builtin]
 case clear=>
  match n,b,d with
  | [I],b,d=>
   match L:c.argTypes.toList,b with
   | [E],b=>
    obtain⟨g,t,f,l,k⟩:=d.mz;have j:t=[]:=bj (by have:=k.1;simpa using this.symm);subst j;have i:c.args.map a.eval= #[g]:=by apply cC;rw[y,f]
    have K:c.argTypes= #[E]:=by apply cC;rw[L]
    refine N (m:=Builtin.clear_ #[E] o.type #[g]) ?_ (Gu iZ u l b);rw[A,i,K];simp[builtin]
 case min=>
  match n,b,d with
  | [I,R],b,d=>
   obtain⟨M,rfl⟩:=fW.1 b;obtain⟨D,m,s,rfl,rfl,q⟩:=uO M;obtain⟨g,t,f,l,k⟩:=d.mz;obtain⟨G,x,rfl,C,B⟩:=k.mz;have j:x=[]:=bj (by have:=B.1;simpa using this.symm);subst j;rw[l.jV,C.jV]at f;have i:c.args.map a.eval= #[.int D m,.int D s]:=by apply cC;rw[y,f]
   rw[oH]at q;simp only[ar]at q;subst q;refine jm.pure u ?_ (.int _ _);rw[A,i];simp only[builtin,Builtin.min_,List.foldlM,Builtin.min2,Sem.run_bind,Sem.run_pure,Result.andThen_ok];have:=xM s m;by_cases J:s<m<;>simp[this,J]
 case max=>
  match n,b,d with
  | [I,R],b,d=>
   obtain⟨M,rfl⟩:=fW.1 b;obtain⟨D,m,s,rfl,rfl,q⟩:=uO M;obtain⟨g,t,f,l,k⟩:=d.mz;obtain⟨G,x,rfl,C,B⟩:=k.mz;have j:x=[]:=bj (by have:=B.1;simpa using this.symm);subst j;rw[l.jV,C.jV]at f;have i:c.args.map a.eval= #[.int D m,.int D s]:=by apply cC;rw[y,f]
   rw[oH]at q;simp only[ar]at q;subst q;refine jm.pure u ?_ (.int _ _);rw[A,i];have:=xM m s;by_cases J:m<s<;>simp[builtin,Builtin.max_,Builtin.max2,this,J]
end
end
end Go.TI
