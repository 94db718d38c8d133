/- Texts TiRead3 to TiOps. -/
import Derived.Test.YtmaeadedikngoaaGreatDoorA1
import Derived.Great.FillDense
import Derived.Laws.Tables
import Derived.Great.BuildSlice
import Derived.Deep.AppendSrc
import Derived.Laws.AppendOwn
import Derived.Lib.ConvBytes
set_option linter.all false
set_option maxRecDepth 100000
set_option maxHeartbeats 8000000
namespace Go.TI
noncomputable section
section
variable {P:ai}{cx:Ctx}{base:Nat}{w:World}{μ:Mu}{h:H}{mask:Nat}{e:Env}{a:Act}{o:Oper}{hp:af Obj}
def AX(ja:jg P cx){q j:ab}{s:ah}(g:St cx base w.heap μ h)(A:ku w.heap μ mask e a.tmps)(n:o.op= .convert q j s){r:T}{k:H}{c:T}
 (d:∃i,cx.ty q=some i) (hp:fP cx mask e s=some c) (b:conv cx j c=some r) (x:k=h):jn cx base w μ h.size ((execOp a.eval o).run P w) r k:=by
 subst x;obtain⟨D,d⟩:=d;obtain⟨C,m,_⟩:=kR (ja.ty _ _ d);replace b:=dJ.1 b;obtain⟨i,y,b⟩:=b;obtain⟨B,l,f⟩:=kR (ja.ty _ _ y);have p:=gU g A hp;cases z:i.u<;>rw[z]at b f<;>simp at b
 ·have:=yl f;subst this;cases c<;>simp at b;subst b;exact jn.pure g (by simp[execOp,n,convert,run_underlying m,run_underlying l,p.jV,Conv.intToInt]) (.int _ _)
 ·have:=sx f;subst this;cases c<;>simp at b;subst b;obtain⟨v,t⟩:=p.lU;exact jn.pure g (by simp[execOp,n,convert,run_underlying m,run_underlying l,v]) (.str _ t)
def uH{g:aa ah}{c:aa Nat}(p:St cx base w.heap μ h)(n:ku w.heap μ mask e a.tmps)(b:jP cx mask e g=some c):
 (g=none/\c=none)\/∃d i f,g=some d/\c=some f/\a.eval d= .int i (f:Nat):=by
 cases g with
 |none=>left;simp[jP]at b;exact⟨rfl,b.symm⟩
 |some d=>
  right;have b:(dU (fP cx mask e d) λj=>dU (pV j) λc=>some (some c))=some c:=b;replace b:=dJ.1 b;obtain⟨j,m,b⟩:=b;replace b:=dJ.1 b;obtain⟨f,l,b⟩:=b;simp at b;subst b;obtain⟨i,k⟩:=nQ l;exact⟨d,i,f,rfl,rfl,(k▸gU p n m).jV⟩
def run_sliceBound{d:am}{j:ak}{b:Nat}(i:d= .int j (b:Nat)){c:Nat}(k:b<=c)(f:BoundsCode):(Instr.sliceBound d c f).run P w= .ok b w:=by
 subst i;have g:0<=((b:Nat):Int)/\((b:Nat):Int)<=(c:Int):=⟨dz,dz⟩;simp only[Instr.sliceBound,asIntOf,Sem.run_bind,Sem.run_pure,Result.andThen_ok,g,and_self,bh];simp
def qu{isS:Bool}{len cap:Nat}{r p s:aa ah}{l d m:aa Nat}
 (n:(r=none/\l=none)\/∃c i b,r=some c/\l=some b/\a.eval c= .int i (b:Nat)) (u:(p=none/\d=none)\/∃c i b,p=some c/\d=some b/\a.eval c= .int i (b:Nat))
 (B:(s=none/\m=none)\/∃c i b,s=some c/\m=some b/\a.eval c= .int i (b:Nat)) (C:∀b,m=some b->b<=cap/\d=some b) (hl:f7 l 0<=f7 d len) (v:f7 d len<=len) (G:len<=cap):
 (Instr.sliceBounds isS len cap (r.map a.eval) (p.map a.eval) (s.map a.eval)).run P w= .ok (f7 l 0,f7 d len,f7 m cap) w:=by
 rcases B with⟨rfl,rfl⟩|⟨J,I,E,rfl,rfl,t⟩
 ·rcases u with⟨rfl,rfl⟩|⟨F,D,k,rfl,rfl,g⟩
  ·rcases n with⟨rfl,rfl⟩|⟨A,z,j,rfl,rfl,f⟩
   ·simp[Instr.sliceBounds,f7]
   ·have hl:j<=len:=hl;simp[Instr.sliceBounds,f7,run_sliceBound f hl]
  ·have v:k<=len:=v;have x:k<=cap:=dz;rcases n with⟨rfl,rfl⟩|⟨A,z,j,rfl,rfl,f⟩
   ·simp[Instr.sliceBounds,f7,run_sliceBound g x]
   ·have hl:j<=k:=hl;simp[Instr.sliceBounds,f7,run_sliceBound g x,run_sliceBound f hl]
 ·obtain⟨y,q⟩:=C E rfl;rcases u with⟨rfl,rfl⟩|⟨F,D,k,rfl,rfl,g⟩
  ·simp at q
  ·simp at q;subst q;rcases n with⟨rfl,rfl⟩|⟨A,z,j,rfl,rfl,f⟩
   ·simp[Instr.sliceBounds,f7,run_sliceBound g (au _),run_sliceBound t y]
   ·have hl:j<=k:=hl;simp[Instr.sliceBounds,f7,run_sliceBound g (au _),run_sliceBound t y,run_sliceBound f hl]
def Eu(b:Nat):f7 none b=b:=rfl
def yX{l:Type}{g j:List l}{f d:Nat}(m:f<=d)(i:Kl g f d=some j):d<=g.length/\j=(g.drop f).take (d-f):=by
 unfold Kl at i;obtain⟨n,b,c⟩:=dJ.1 i;rw[md]at b;split at b
 ·simp at b;subst b;rw[nR]at c;split at c
  ·rename_i k;simp at k c;refine⟨?_,c.symm⟩;omega
  ·simp at c
 ·simp at b
def CV{c:Nat}{b:List T}(f:∀d∈b,d.cells.length=c)(g i:Nat):fw ((b.drop g).take i)=((fw b).drop (g*c)).take (i*c):=by
 rw[pK f,rD (λd j=>f d (bG j))]
def GW{i:T}{g:List T}{n off j:Nat}{m:af am}{t:ab}{fz:Nat×Nat}{c f:Nat}{q:T}{l:List T}{full:Bool}{cap:Nat}(C:¬nC μ n)(y:hp[n]? =some (.cells m t fz))
 (r:∀b∈i::g,b.cells.length=j) (F:off+(fw (i::g)).length<=m.size) (u:∀b∈fw (i::g),vj b)
 (hr:∀(k:Nat) b,(fw (i::g))[k]? =some b->fD hp μ b (m.getD (off+k) Go.undef)) (E:c<=f) (z:f<=(i::g).length) (s:q::l=((i::g).drop c).take (f-c))
 (D:f-c<=cap) (v:full=true->cap=f-c):fD hp μ (.dM (q::l) full) (.slice (some ⟨n,off+c*j,none⟩) (f-c) cap):=by
 have A:l.length+1=f-c:=by
  have:=bQ List.length s;simp only[bj,List.length_take,List.length_drop]at this;simp only[bj]at z;omega
 have x:=io r;have p:=CV r c (f-c);rw[<-s]at p;have B:∀b∈q::l,b∈i::g:=λb d=>bG (bF (s▸d));rw[<-A];refine .dM q l full n (off+c*j) cap j m t fz C y dz (λk=>by rw[v k];omega) (λb d=>r b (B b d)) ?_ ?_ ?_
 ·rw[p];simp only[List.length_take,List.length_drop];have:c*j+(f-c)*j<=(fw (i::g)).length:=by
   rw[x,<-co];exact aW _ dz
  omega
 ·intro b d;rw[p]at d;exact u b (bG (bF d))
 ·intro k b d;rw[p,bO]at d;split at d
  ·rw[bK]at d;have:=hr _ b d;rwa[<-cH]at this
  ·simp at d
def Bi(d:List Nat)(b c:Nat):(bytesOf d).extract b c=bytesOf ((d.drop b).take (c-b)):=by
 apply ByteArray.ext;have:((bytesOf d).extract b c).data.toList=((bytesOf d).data.toList.drop b).take (c-b):=Lib.extract_data _ _ _;apply cy;rw[this];simp[bytesOf,List.map_take,List.map_drop]
def G4(ja:jg P cx){t:ab}{x:ah}{Q G R:aa ah}(S:St cx base w.heap μ h)(bi:o.op= .slice t x Q G R){c:Nat}{y:ab}(a6:P.underlying t=some (.array c y)){u:T}
 (bu:fD w.heap μ u (a.eval x)) {d g l:aa Nat}
 (bC:(Q=none/\d=none)\/∃n m f,Q=some n/\d=some f/\a.eval n= .int m (f:Nat)) (bH:(G=none/\g=none)\/∃n m f,G=some n/\g=some f/\a.eval n= .int m (f:Nat))
 (bN:(R=none/\l=none)\/∃n m f,R=some n/\l=some f/\a.eval n= .int m (f:Nat)) (bk:yG g l=true) (k:jr cx h (.array c y) u=true) {v:T}
 (b:po (asSlice (.array c y) u) d g l=some v):jn cx base w μ h.size ((execOp a.eval o).run P w) v h:=by
 unfold jr at k;simp only at k;cases K:cx.ty y with
 |none=>rw[K]at k;simp at k
 |some ap=>
  rw[K]at k;have bs:=(ja.ty _ _ K).run_sizeOf w;have hp:∃p r al j,u= .ptr p r al j:=by cases u<;>first|exact⟨_,_,_,_,rfl⟩|(simp at k)
  obtain⟨p,r,al,j,rfl⟩:=hp;simp only at k;cases F:h.get p with
  |none=>rw[F]at k;simp at k
  |some U=>
   rw[F]at k;obtain⟨bS,aE,ca,b7,b9,aA⟩:=U;simp only[aB,bR]at k;obtain⟨⟨⟨⟨⟨⟨L,an⟩,M⟩,N⟩,bz⟩,bB⟩,O⟩:=k;have L:=aD L;have an:=aD an;have M:=aD M;have N:=aD N;have O:=aD O;rw[jE]at O;subst M N bz bB;obtain⟨i,bT,bp,s,X,aX⟩:=bu.pO;obtain⟨U,E,D⟩:=S.box p i s;rw[F]at E;simp only[ar]at E;subst E;have bX:aE=i.ep:=D.ep;have av:bS=i.sz:=D.sz;have b6:i.cap=aA.length:=(D.plain rfl).tz rfl;have W:=aX dz;simp at W;subst W;have b:vz p r 0 c false (f7 d 0) (f7 g c) l=some v:=b;unfold vz at b;replace b:=dR.1 b;obtain⟨I,b⟩:=b;replace b:=dR.1 b;obtain⟨z,b⟩:=b;have I:=bA I;have z:=bA z;simp only[iE,dX,Nat.add_eq,Nat.zero_add,Nat.sub_eq]at b;have ae:(∀f,l=some f->f=f7 g c)->
    (execOp a.eval o).run P w= .ok (.value (.slice (some (if f7 l c=f7 d 0 then⟨i.iS,0,none⟩else(⟨i.iS,0,none⟩:Addr).add (f7 d 0*ap.size))) (f7 g c-f7 d 0) (f7 l c-f7 d 0))) w:=by
    intro aN;have s:=qu (P:=P) (w:=w) (isS:=false) (len:=c) (cap:=c) bC bH bN (by
     intro f Y;have q:=aN f Y;cases g with
     |none=>subst Y;simp[yG]at bk
     |some m=>
      have q:f=m:=q;subst q;have b8:f<=c:=z;exact⟨dz,rfl⟩) I z (au _)
    simp[execOp,bi,Instr.sliceAt,run_underlying a6,bp,Instr.sureAddr,s,bs]
   have V:∀B:Nat,(⟨i.iS,0,none⟩:Addr).add (B*ap.size)=⟨i.iS,B*i.sz,none⟩:=by
    intro B;rw[kL,<-L,av];simp
   cases Z:l with
   |none=>
    subst Z;have A:=ae dA;have b:some (T.arr p r (f7 d 0) (f7 g c-f7 d 0) false)=some v:=b;simp only[ar]at b;subst b;refine jn.pure S A (.arr _ _ _ _ _ i _ _ s X ?_ λa7=>⟨dA,λ_=> ?_,λJ=> ?_⟩)
    ·show f7 g c-f7 d 0<=c-f7 d 0;omega
    ·show f7 d 0+(c-f7 d 0)=i.cap;omega
    ·have J:c-f7 d 0≠0:=J;have C:¬f7 none c=f7 d 0:=by show¬c=f7 d 0;omega
     rw[ao C,V]
   |some f=>
    subst Z;have b:gD (Nat.beq f (f7 g c)) (some (T.arr p r (f7 d 0) (f7 g c-f7 d 0) true))=some v:=b;replace b:=dR.1 b;obtain⟨q,b⟩:=b;have q:=aD q;simp only[ar]at b;subst b;have A:=ae (by intro m a8;simp at a8;omega);have bn:f7 (some f) c=f7 g c:=q;rw[bn]at A;refine jn.pure S A (.arr _ _ _ _ _ i _ _ s X (au _) λa7=>⟨λ_=>rfl,dA,λJ=> ?_⟩);have C:¬f7 g c=f7 d 0:=dz;rw[ao C,V]
def FP(ja:jg P cx){t:ab}{x:ah}{dd cX b6:aa ah}(r:St cx base w.heap μ h)(Z:ku w.heap μ mask e a.tmps)(bC:o.op= .slice t x dd cX b6){q:T}{bn:H}
 (j:CI t x dd cX b6 cx mask e h=some (.val q bn)):jn cx base w μ h.size ((execOp a.eval o).run P w) q bn:=by
 replace j:=dJ.1 j;obtain⟨de,et,j⟩:=j;replace j:=dJ.1 j;obtain⟨p,hp,j⟩:=j;replace j:=dR.1 j;obtain⟨m,j⟩:=j;replace j:=dJ.1 j;obtain⟨g,dv,j⟩:=j;replace j:=dJ.1 j;obtain⟨i,ds,j⟩:=j;replace j:=dJ.1 j;obtain⟨F,ec,j⟩:=j;replace j:=dR.1 j;obtain⟨c7,j⟩:=j;obtain⟨f,rfl⟩:=fV.1 j;have b7:=uH r Z dv;have b8:=uH r Z ds;have bk:=uH r Z ec;obtain⟨d,bu,av⟩:=kR (ja.ty _ _ et);have W:=gU r Z hp;by_cases ca:∃n aA,de.u= .array n aA
 ·obtain⟨n,aA,bi⟩:=ca;rw[bi]at m av f;have:=rj av;subst this;exact G4 ja r bC bu W b7 b8 bk c7 m f
 unfold jr at m;cases bi:de.u<;>rw[bi]at m av f<;>(try simp at m)
 ·
  have:=sx av;subst this;replace f:po p g i F=some q:=f;cases p<;>simp at m;rename_i S;obtain⟨G,di⟩:=W.lU;unfold po at f;cases E:F with
  |some k=>rw[E]at f;simp at f
  |none=>
   subst E;have f:gD (Nat.ble (f7 g 0) (f7 i (kW S))) (dU (Kl S (f7 g 0) (f7 i (kW S))) λZ=>some (T.str Z))=some q:=f;rw[jE]at f;replace f:=dR.1 f;obtain⟨v,f⟩:=f;have v:=bA v;replace f:=dJ.1 f;obtain⟨Y,bN,f⟩:=f;obtain⟨aX,rfl⟩:=yX v bN;simp at f;subst f;have eb:b6=none:=by rcases bk with⟨K,_⟩|⟨_,_,_,_,K,_⟩;exact K;simp at K
   subst eb;have D:=qu (P:=P) (w:=w) (isS:=false) (len:=S.length) (cap:=S.length) b7 b8 bk dA v aX (au _);simp only[Option.map_none]at D;refine jn.pure (c:= .string ((bytesOf S).extract (f7 g 0) (f7 i S.length))) r ?_ ?_
   ·simp[execOp,bC,Instr.sliceAt,Instr.slice,run_underlying bu,G,jU,D]
   ·rw[Bi];exact .str _ λc V=>di c (bG (bF V))
 ·rename_i aA;have:=mE av;subst this;replace f:po p g i F=some q:=f;cases bS:cx.ty aA with
  |none=>rw[bS]at m;simp at m
  |some ae=>
   rw[bS]at m;have er:=(ja.ty _ _ bS).run_sizeOf w;have ef:∀k,F=some k->i.isSome=true:=by
    intro k a7;subst a7;cases i with
    |none=>simp[yG]at c7
    |some K=>rfl
   have O:∀(B:aa Addr) (len cap:Nat),a.eval x= .slice B len cap->len<=cap->f7 g 0<=f7 i len->f7 i len<=len->(∀k,F=some k->k=f7 i len)->
    (execOp a.eval o).run P w= .ok (.value (.slice (if f7 F cap=f7 g 0 then B else B.map (·.add (f7 g 0*ae.size))) (f7 i len-f7 g 0) (f7 F cap-f7 g 0))) w:=by
    intro B len cap J V U N ap;have D:=qu (P:=P) (w:=w) (isS:=true) (len:=len) (cap:=cap) b7 b8 bk (by
     intro k a7;have a8:=ef k a7;have z:=ap k a7;cases i with
     |none=>simp at a8
     |some K=>
      have z:k=K:=z;subst z;have N:k<=len:=N;exact⟨dz,rfl⟩) U N V
    simp[execOp,bC,Instr.sliceAt,Instr.slice,run_underlying bu,J,D,er]
   unfold po at f;cases p<;>simp at m
   ·rename_i l full;have f:tN l full (f7 g 0) (f7 i l.length) F=some q:=by rw[<-jE];exact f
    unfold tN at f;replace f:=dR.1 f;obtain⟨v,f⟩:=f;have v:=bA v;replace f:=dJ.1 f;obtain⟨Y,bN,f⟩:=f;obtain⟨aX,R⟩:=yX v bN;cases l with
    |nil=>
     obtain⟨B,G⟩:=W.ui;have eo:Y=[]:=by rw[R];simp
     rw[eo]at f;have cL:f7 i 0=0:=by simpa using aX
     have c4:f7 g 0=0:=by simp only[cY]at v;omega
     cases E:F with
     |none=>
      subst E;have f:some (T.dM [] false)=some q:=f;simp at f;subst f;have:=O B 0 0 G (au _) dz dz dA;refine jn.pure r this ?_;rw[c4,cL,Eu];exact .nP _ _
     |some k=>
      subst E;have f:gD (Nat.beq k (f7 i 0)) (some (T.dM [] false))=some q:=f;replace f:=dR.1 f;obtain⟨z,f⟩:=f;have z:=aD z;simp at f;subst f;have:=O B 0 0 G (au _) dz dz (by intro K Q;simp at Q;omega);refine jn.pure r this ?_;have ea:f7 (some k) 0=0:=by show k=0;omega
      rw[c4,cL,ea];exact .nP _ _
    |cons L l=>
     obtain⟨eA,off,cap,eu,ey,eB,fz,G,c6,cp,c1,dn,bT,a8,V,hr⟩:=W.uj;have c9:eu=ae.size:=by
      have m:Nat.beq (kW L.cells) ae.size=true:=m;have:=aD m;rw[jE]at this;rw[<-this];exact(bT L dA).symm
     have a6:f7 i (l.length+1)<=l.length+1:=by simpa using aX
     have aN:f7 g 0<=f7 i (l.length+1):=by simpa using v
     cases E:F with
     |none=>
      subst E;have s:=O _ _ _ G c1 aN a6 dA;cases Y with
      |nil=>
       have f:some T.gu=some q:=f;simp at f;subst f;have bX:f7 i (l.length+1)-f7 g 0=0:=by
        have:=bQ List.length R;simp only[cY,List.length_take,List.length_drop,bj]at this;omega
       rw[bX]at s;exact jn.pure r s (.gu _ _)
      |cons y b9=>
       have f:some (T.dM (y::b9) (@Bool.rec (λ_=>Bool) false (Nat.beq (f7 i (L::l).length) (kW (L::l))) full))=some q:=f;have eh:f7 g 0<f7 i (l.length+1):=by
        have:=bQ List.length R;simp only[bj,List.length_take,List.length_drop]at this;omega
       have I:¬cap=f7 g 0:=dz;simp only[Eu,I,br,cN,kL]at s;refine jn.pure r s ?_;simp only[ar]at f;rw[<-f,<-c9];have:=GW (full:= @Bool.rec (λ_=>Bool) false (Nat.beq (f7 i (L::l).length) (kW (L::l))) full) (cap:=cap-f7 g 0) c6 cp bT a8 V hr aN (by simpa using a6) R dz (by
        intro D;cases full with
        |false=>simp at D
        |true=>
         have D:Nat.beq (f7 i (L::l).length) (kW (L::l))=true:=D;have:=aD D;rw[jE]at this;simp only[bj]at this;rw[dn rfl,this])
       exact this
     |some k=>
      subst E;have f:gD (Nat.beq k (f7 i (L::l).length)) (@List.rec T (λ_=>aa T) (some (T.dM [] false)) (λ_ _ _=>some (T.dM Y true)) Y)=some q:=f;replace f:=dR.1 f;obtain⟨z,f⟩:=f;have z:=aD z;simp only[bj]at z;have s:=O _ _ _ G c1 aN a6 (by intro K Q;simp at Q;omega);have bH:f7 (some k) cap=f7 i (l.length+1):=z;rw[bH]at s;cases Y with
      |nil=>
       have f:some (T.dM [] false)=some q:=f;simp at f;subst f;have bX:f7 i (l.length+1)-f7 g 0=0:=by
        have:=bQ List.length R;simp only[cY,List.length_take,List.length_drop,bj]at this;omega
       rw[bX]at s;exact jn.pure r s (.nP _ _)
      |cons y b9=>
       have f:some (T.dM (y::b9) true)=some q:=f;have eh:f7 g 0<f7 i (l.length+1):=by
        have:=bQ List.length R;simp only[bj,List.length_take,List.length_drop]at this;omega
       have I:¬f7 i (l.length+1)=f7 g 0:=dz;simp only[I,br,cN,kL]at s;refine jn.pure r s ?_;simp only[ar]at f;rw[<-f,<-c9];exact GW c6 cp bT a8 V hr aN (by simpa using a6) R (au _) (λ_=>rfl)
   ·
    obtain⟨B,cap,G⟩:=W.Ag;have f:gD (Nat.beq (f7 g 0) 0) (gD (Nat.beq (f7 i 0) 0) (@Option.rec Nat (λ_=>aa T) (some T.gu) (λk=>gD (Nat.beq k 0) (some (T.dM [] false))) F))=some q:=f;replace f:=dR.1 f;obtain⟨U,f⟩:=f;replace f:=dR.1 f;obtain⟨N,f⟩:=f;have U:=aD U;have N:=aD N;cases E:F with
    |none=>
     subst E;have f:some T.gu=some q:=f;simp at f;subst f;have:=O B 0 cap G (aw _) dz dz dA;rw[U,N]at this;exact jn.pure r this (.gu _ _)
    |some k=>
     subst E;have f:gD (Nat.beq k 0) (some (T.dM [] false))=some q:=f;replace f:=dR.1 f;obtain⟨ap,f⟩:=f;have ap:=aD ap;simp at f;subst f;subst ap;have:=O B 0 cap G (aw _) dz dz (by intro K Q;simp at Q;omega);rw[U,N]at this;exact jn.pure r this (.nP _ _)
   ·rename_i b al X A full;obtain⟨M,B,C,G,D,bz,cb,bs⟩:=W.sS;have f:vz b al X A full (f7 g 0) (f7 i A) F=some q:=f;unfold vz at f;replace f:=dR.1 f;obtain⟨v,f⟩:=f;replace f:=dR.1 f;obtain⟨aE,f⟩:=f;have v:=bA v;have aE:=bA aE;simp only[iE,dX]at f;have dm:M.sz=ae.size:=by
     cases bB:bn.get b with
     |none=>rw[bB]at m;simp at m
     |some dk=>
      rw[bB]at m;have m:Nat.beq dk.sz ae.size=true:=m;rw[<-aD m];exact(r.KN D bB).1.symm
    have bp:∀c:Nat,C≠0->al=M.ep->B.map (·.add (c*ae.size))=some ⟨M.iS,(X+c)*M.sz,none⟩:=by
     intro c I J;rw[(bs J).2.2 I,<-dm];simp[kL,co]
    cases E:F with
    |none=>
     subst E;have s:=O B A C G cb v aE dA;have f:(@Bool.rec (λ_=>aa T) (some (T.arr b al (X+f7 g 0) (f7 i A-f7 g 0) false)) (gD (Nat.beq (f7 i A) A) (some (T.arr b al (X+f7 g 0) (f7 i A-f7 g 0) true))) full)=some q:=f;cases full with
     |false=>
      simp at f;subst f;refine jn.pure r s (.arr _ _ _ _ _ M _ _ D bz ?_ λJ=>⟨dA,λ_=> ?_,λI=> ?_⟩)
      ·show f7 i A-f7 g 0<=C-f7 g 0;omega
      ·have:=(bs J).2.1 rfl;show X+f7 g 0+(C-f7 g 0)=M.cap;omega
      ·have I:C-f7 g 0≠0:=I;have an:¬f7 none C=f7 g 0:=by show¬C=f7 g 0;omega
       rw[ao an];exact bp _ dz J
     |true=>
      replace f:=dR.1 f;obtain⟨ce,f⟩:=f;have ce:=aD ce;simp at f;subst f;refine jn.pure r s (.arr _ _ _ _ _ M _ _ D bz ?_ λJ=>⟨λ_=> ?_,dA,λI=> ?_⟩)
      ·show f7 i A-f7 g 0<=C-f7 g 0;omega
      ·have:=(bs J).1 rfl;show C-f7 g 0=f7 i A-f7 g 0;omega
      ·have I:C-f7 g 0≠0:=I;have an:¬f7 none C=f7 g 0:=by show¬C=f7 g 0;omega
       rw[ao an];exact bp _ dz J
    |some k=>
     subst E;have f:gD (Nat.beq k (f7 i A)) (some (T.arr b al (X+f7 g 0) (f7 i A-f7 g 0) true))=some q:=f;replace f:=dR.1 f;obtain⟨z,f⟩:=f;have z:=aD z;simp at f;subst f;have s:=O B A C G cb v aE (by intro K Q;simp at Q;omega);have bH:f7 (some k) C=f7 i A:=z;rw[bH]at s;refine jn.pure r s (.arr _ _ _ _ _ M _ _ D bz (au _) λJ=>⟨λ_=>rfl,dA,λI=> ?_⟩);have an:¬f7 i A=f7 g 0:=dz;rw[ao an];exact bp _ dz J
 ·exact absurd ⟨_,_,bi⟩ ca
end
end
noncomputable section
section
variable {P:ai}{cx:Ctx}{base:Nat}{w:World}{μ:Mu}{h h':H}{mask:Nat}{e:Env}{a:Act}{o:Oper}{hp hp':af Obj}
def St.ew(g:St cx base hp μ h){b:Nat}{d:Loc}(f:μ b=some d):b<h.size:=by
 obtain⟨i,c,_⟩:=g.box b d f;rw[H.get_eq]at c;split at c
 ·assumption
 ·simp at c
def St.PI(c:St cx base hp μ h):μ h.size=none:=by
 cases b:μ h.size with
 |none=>rfl
 |some d=>exact absurd (c.ew b) (Nat.lt_irrefl _)
def qF(μ:Mu)(d:Nat)(c:Loc):Mu:=⟨λb=>if b=d then some c else μ b,μ.pw⟩
def jx(μ:Mu)(c:Nat)(b:Loc):qF μ c b c=some b:=by simp[qF]
def iP(μ:Mu){c b:Nat}(d:Loc)(h:b≠c):qF μ c d b=μ b:=by simp[qF,h]
def H.cons(h:H)(b:iZ):H:=⟨h.size+1,h.low,b::h.fx⟩
def H.kI(b:Nat->T)(h:H)(c:iZ):h.new b c=some (b h.size,h.cons c):=H.PK b h c
def H.tq(c:h.fx.length=h.size)(b:iZ):(h.cons b).get h.size=some b:=by
 rw[H.get_eq];simp[H.cons]
def H.m7{b:Nat}(f:b<h.size)(c:iZ):(h.cons c).get b=h.get b:=by
 rw[H.get_eq,H.get_eq];have d:b<(h.cons c).size:=by show b<h.size+1;omega
 rw[aq d,aq f];show(c::h.fx)[h.size+1-1-b]? =_;have:h.size+1-1-b=(h.size-1-b)+1:=dz;rw[this];simp
def St.new(d:St cx base hp μ h)(n:Obj)(l:Loc)(m:iZ)(z:l.iS=hp.size)(E:Ext hp μ (hp.push n) (qF μ h.size l)->qM (hp.push n) (qF μ h.size l) l m):
 St cx base (hp.push n) (qF μ h.size l) (h.cons m)/\Ext hp μ (hp.push n) (qF μ h.size l)/\yg μ (qF μ h.size l) h.size (h.cons m).size:=by
 have D:=d.PI;have p:Ext hp μ (hp.push n) (qF μ h.size l):=by
  refine⟨dA,λr C t=>⟨?_,?_⟩,λb k c=> ?_,rfl,λr C _=> ?_⟩
  rotate_right
  ·rw[Array.getElem?_push];simp;omega
  ·rw[Array.getElem?_push];simp;omega
  ·rintro(⟨b,k,c,rfl⟩|hr)
   ·by_cases g:b=h.size
    ·subst g;rw[jx]at c;simp at c;subst c;omega
    ·rw[iP _ _ g]at c;exact t (.inl ⟨b,k,c,rfl⟩)
   ·exact t (.inr hr)
  ·have:b≠h.size:=by rintro rfl;rw[D]at c;simp at c
   exact⟨k,by rw[iP _ _ this];exact c,.inl rfl⟩
 refine⟨⟨?_,?_,?_,?_,?_,?_,?_,?_⟩,p,?_⟩
 ·show(m::h.fx).length=h.size+1;simp[d.wf]
 ·simp;have:=d.fit;omega
 ·intro b k c;by_cases g:b=h.size
  ·subst g;rw[jx]at c;simp at c;subst c;exact⟨m,H.tq d.wf m,E p⟩
  ·rw[iP _ _ g]at c;obtain⟨F,j,i⟩:=d.box b k c;refine⟨F,by rw[H.m7 (d.ew c)];exact j,i.ext p ?_⟩;have:=d.lt c;rw[Array.getElem?_push];simp;omega
 ·intro b s u v j i A;by_cases c:b=h.size<;>by_cases q:s=h.size
  ·omega
  ·subst c;rw[jx]at j;simp at j;subst j;rw[iP _ _ q]at i;have:=d.lt i;omega
  ·subst q;rw[jx]at i;simp at i;subst i;rw[iP _ _ c]at j;have:=d.lt j;omega
  ·rw[iP _ _ c]at j;rw[iP _ _ q]at i;exact d.inj b s u v j i A
 ·intro b k c;by_cases g:b=h.size
  ·subst g;rw[jx]at c;simp at c;subst c;rw[z];exact d.fit
  ·rw[iP _ _ g]at c;exact d.low b k c
 ·intro b k c hr;by_cases g:b=h.size
  ·subst g;rw[jx]at c;simp at c;subst c;have:=d.qH _ hr;omega
  ·rw[iP _ _ g]at c;exact d.apart b k c hr
 ·intro r hr;have:=d.qH r hr;simp;omega
 ·intro y x B;exact(d.yN y x B).ext p
 ·refine⟨by show h.size<=h.size+1;omega,λb c=> ?_,λb j i=> ?_⟩
  ·by_cases g:b=h.size
   ·right;exact⟨dz,by show b<h.size+1;omega⟩
   ·left;rwa[iP _ _ g]at c
  ·have:b=h.size:=by have i:b<h.size+1:=i;omega
   subst this;rw[jx];simp
def Bq{c:Nat}{f:iZ}(j:h.put c f=some h')(k:h.fx.length=h.size):
 h'.size=h.size/\h'.fx.length=h'.size/\h'.get c=some f/\∀b,b≠c->h'.get b=h.get b:=by
 obtain⟨g,i,rfl⟩:=H.vK.1 j;refine⟨rfl,by simp[k],?_,λb l=> ?_⟩
 ·rw[H.get_eq];simp[g,i]
 ·rw[H.get_eq,H.get_eq];by_cases d:b<h.size
  ·simp only[d,bh];rw[cI];omega
  ·simp[d]
def St.change(g:St cx base hp μ h){d:Nat}{i L':Loc}{z:iZ}(n:μ d=some i)(I:h.put d z=some h')(C:hp.size<=hp'.size)(y:∀p,p<hp.size->p≠i.iS->hp'[p]? =hp[p]?)
 (s:L'=i\/(i.ep<L'.ep/\(L'.iS=i.iS\/hp.size<=L'.iS))) (J:Ext hp μ hp' (qF μ d L')->qM hp' (qF μ d L') L' z):
 St cx base hp' (qF μ d L') h'/\Ext hp μ hp' (qF μ d L')/\yg μ (qF μ d L') h.size h'.size:=by
 obtain⟨p1,p2,p3,p4⟩:=Bq I g.wf;have q:L'.iS=i.iS\/hp.size<=L'.iS:=by
  rcases s with rfl|s
  ·exact .inl rfl
  ·exact s.2
 have u:Ext hp μ hp' (qF μ d L'):=by
  refine⟨C,λp x v=>⟨y p x λk=>v (.inl ⟨d,i,n,k.symm⟩),?_⟩,λc m b=> ?_,rfl,λp x hr=>y p x λk=>g.apart d i n (k▸hr)⟩
  ·rintro(⟨c,m,b,rfl⟩|hr)
   ·by_cases f:c=d
    ·subst f;rw[jx]at b;simp at b;subst b;rcases q with k|k
     ·exact v (.inl ⟨c,i,n,k.symm⟩)
     ·omega
    ·rw[iP _ _ f]at b;exact v (.inl ⟨c,m,b,rfl⟩)
   ·exact v (.inr hr)
  ·by_cases f:c=d
   ·subst f;rw[n]at b;simp at b;subst b;refine⟨L',jx _ _ _,?_⟩;rcases s with k|k
    ·exact .inl k
    ·exact .inr k.1
   ·exact⟨m,by rw[iP _ _ f];exact b,.inl rfl⟩
 refine⟨⟨p2,by have:=g.fit;omega,?_,?_,?_,?_,λp hr=>bE (g.qH p hr) C,?_⟩,u,⟨dz,λc b=> ?_,λc j l=>by omega⟩⟩
 ·intro c m b;by_cases f:c=d
  ·subst f;rw[jx]at b;simp at b;subst b;exact⟨z,p3,J u⟩
  ·rw[iP _ _ f]at b;obtain⟨K,j,l⟩:=g.box c m b;refine⟨K,by rw[p4 c f];exact j,l.ext u (y _ (g.lt b) λk=>f (g.inj c d m i b n k))⟩
 ·intro c r A B j l F;by_cases b:c=d<;>by_cases t:r=d
  ·omega
  ·subst b;rw[jx]at j;simp at j;subst j;rw[iP _ _ t]at l;rcases q with k|k
   ·exact absurd (g.inj r c B i l n dz) t
   ·have:=g.lt l;omega
  ·subst t;rw[jx]at l;simp at l;subst l;rw[iP _ _ b]at j;rcases q with k|k
   ·exact absurd (g.inj c r A i j n dz) b
   ·have:=g.lt j;omega
  ·rw[iP _ _ b]at j;rw[iP _ _ t]at l;exact g.inj c r A B j l F
 ·intro c m b;by_cases f:c=d
  ·subst f;rw[jx]at b;simp at b;subst b;rcases q with k|k
   ·rw[k];exact g.low _ _ n
   ·have:=g.fit;omega
  ·rw[iP _ _ f]at b;exact g.low c m b
 ·intro c m b hr;by_cases f:c=d
  ·subst f;rw[jx]at b;simp at b;subst b;rcases q with k|k
   ·exact g.apart c i n (by rw[<-k];exact hr)
   ·have:=g.qH _ hr;omega
  ·rw[iP _ _ f]at b;exact g.apart c m b hr
 ·intro E D G;exact(g.yN E D G).ext u
 ·left;by_cases f:c=d
  ·subst f;rw[n];simp
  ·rwa[iP _ _ f]at b
end
end
noncomputable section
section
variable {P:ai}{cx:Ctx}{base:Nat}{w:World}{μ:Mu}{h h':H}{mask:Nat}{e:Env}{a:Act}{o:Oper}{hp hp':af Obj}
def ju{b:aa (T×H)}{c:T}{h':H}:jA b=some (.val c h')↔b=some (c,h'):=by
 unfold jA;cases b with
 |none=>simp
 |some d=>obtain⟨g,f⟩:=d;simp
def wF(s:St cx base w.heap μ h)(b:ab){arr:af am}{cap sz:Nat}{ex:Bool}{es:List T}(k:arr.size=cap*sz)(n:es.length<=cap)(l:ex=true->cap=es.length)
 (q:∀d∈es,d.cells.length=sz) (p:∀d∈fw es,d.scalar=true) (j:gJ w.heap μ (fw es) (arr.toList.take (fw es).length)):
 ∃c,St cx base (w.heap.push (.cells arr b)) c (h.cons (lJ sz ex es))/\pN w μ {w with heap:=w.heap.push (.cells arr b)} c/\yg μ c h.size (h.cons (lJ sz ex es)).size/\
  c h.size=some ⟨0,w.heap.size,cap,sz⟩:=by
 obtain⟨f,g,i⟩:=s.new (.cells arr b) ⟨0,w.heap.size,cap,sz⟩ (lJ sz ex es) rfl (by
  intro m;refine⟨rfl,rfl,λ_=>⟨⟨arr,b,dA,k,j.ext m⟩,n,l,q,p⟩,λr=>by simp[lJ]at r⟩)
 exact⟨_,f,⟨g,rfl,rfl,rfl⟩,i,jx _ _ _⟩
def yn{b:T}(h:b.scalar=true):b.cells=[b]:=by
 cases b<;>first|rfl|(simp[T.scalar]at h)
def yO{b:List T}(h:∀c∈b,c.scalar=true):fw b=b:=by
 induction b with
 |nil=>rfl
 |cons c b i=>
  have f:=yn (h c dA);have d:=i λj g=>h j (by simp[g]);unfold fw at d|-;rw[aQ,f,d];rfl
def FX(ja:jg P cx){i:ab}(y:St cx base w.heap μ h)(u:o.op= .alloc i){j:T}
 (b:CP i cx mask e h=some (.val j h')):jn cx base w μ h.size ((execOp a.eval o).run P w) j h':=by
 replace b:=dJ.1 b;obtain⟨c,z,b⟩:=b;obtain⟨f,v,_,x,g,A,m,B,C⟩:=(ja.ty _ _ z).zero w;cases t:wJ cx c with
 |false=>
  rw[t]at b;have b:jA (h.new (λl=>T.ptr l 0 0 0) (lJ c.size true [c.kf]))=some (.val j h'):=b;rw[ju,H.kI]at b;simp only[ar,ay]at b;obtain⟨rfl,rfl⟩:=b;obtain⟨s,n,p,q,r⟩:=wF y i (arr:=f.cells) (cap:=1) (sz:=c.size) (ex:=true) (es:=[c.kf]) dz dA dA
   (by intro k d;simp at d;subst d;rw[m];exact A) (by intro k d;simp[fw]at d;rw[m]at d;exact g k d)
   (by
     have:fw [c.kf]=c.zero:=by simp[fw,m]
     rw[this];have hl:f.cells.toList.take c.zero.length=f.cells.toList:=by rw[bJ];simp;omega
     rw[hl];exact x _ _)
  refine⟨.pointer (some ⟨w.heap.size,0,none⟩),_,s,.inl ?_,.ptr _ 0 0 0 _ _ r (au _) (λ_=>by simp),n,p,q⟩;simp[execOp,u,Instr.alloc,v,newVar,newRow]
 |true=>
  rw[t]at b;have b:jA (h.new (λl=>T.ptr l 0 0 0) (lJ 1 true c.zero))=some (.val j h'):=b;rw[ju,H.kI]at b;simp only[ar,ay]at b;obtain⟨rfl,rfl⟩:=b;obtain⟨s,n,p,q,r⟩:=wF y i (arr:=f.cells) (cap:=c.zero.length) (sz:=1) (ex:=true) (es:=c.zero) dz (au _) (λ_=>rfl)
   (by intro k d;rw[yn (g k d)];rfl) (by rw[yO g];exact g)
   (by
     rw[yO g];have hl:f.cells.toList.take c.zero.length=f.cells.toList:=by rw[bJ];simp;omega
     rw[hl];exact x _ _)
  refine⟨.pointer (some ⟨w.heap.size,0,none⟩),_,s,.inl ?_,.ptr _ 0 0 0 _ _ r (au _) (λ_=>by simp),n,p,q⟩;simp[execOp,u,Instr.alloc,v,newVar,newRow]
def JZ{k:ab}{c:ah}(j:St cx base w.heap μ h)(u:ku w.heap μ mask e a.tmps)(n:o.op= .box k c){l:T}
 (b:M5 c cx mask e h=some (.val l h')):jn cx base w μ h.size ((execOp a.eval o).run P w) l h':=by
 replace b:=dJ.1 b;obtain⟨f,hp,b⟩:=b;replace b:=dR.1 b;obtain⟨m,b⟩:=b;rw[ju,H.kI]at b;simp only[ar,ay]at b;obtain⟨rfl,rfl⟩:=b;obtain⟨g,p,_⟩:=(gU j u hp).cells m;have i:=g.1;obtain⟨v,q,r,s,t⟩:=wF j k (arr:=(a.eval c).cells) (cap:=1) (sz:=f.cells.length) (ex:=true) (es:=[f]) (by simp at i;omega) dA dA
  (by intro c d;simp at d;subst d;rfl) (by intro c d;simp[fw]at d;exact p c d)
  (by
    have:fw [f]=f.cells:=by simp[fw]
    rw[this,i,aO];exact g)
 rw[jE];refine⟨.pointer (some ⟨w.heap.size,0,none⟩),_,v,.inl ?_,.ptr _ 0 0 0 _ _ t (au _) (λ_=>by simp),q,r,s⟩;simp[execOp,n,Instr.box,newVar,newRow]
def RY(b c:List T):over b c=if c.length<=b.length then some (c++b.drop c.length)else none:=by
 induction c generalizing b with
 |nil=>rfl
 |cons i c f=>cases b with
  |nil=>rfl
  |cons j b=>
   show(dU (over b c) λg=>some (i::g))=_;rw[f];by_cases d:c.length<=b.length<;>simp[d]
def tM(b:List T)(c:Nat)(d:List T):kT b c d=if c+d.length<=b.length then some (b.take c++d++b.drop (c+d.length))else none:=by
 induction c generalizing b with
 |zero=>show over b d=_;rw[RY];simp
 |succ c j=>cases b with
  |nil=>show none=_;simp
  |cons g b=>
   show(dU (kT b c d) λk=>some (g::k))=_;rw[j];have i:c+1+d.length=(c+d.length)+1:=dz;by_cases f:c+d.length<=b.length
   ·rw[aq f,aq dB,i];simp
   ·rw[ao f,ao dB];rfl
def oI{c f g:List T}{d:Nat}(b:kT c d f=some g):d+f.length<=c.length/\g=c.take d++f++c.drop (d+f.length):=by
 rw[tM]at b;split at b
 ·simp at b;exact⟨by assumption,by rw[<-b];simp⟩
 ·simp at b
def JL{f j i:List T}{m:Nat}(l:kT f m j=some i){d:T->Prop}(g:∀c∈f,d c)(k:∀c∈j,d c):∀c∈i,d c:=by
 obtain⟨_,rfl⟩:=oI l;intro c b;rcases List.mem_append.1 b with b|b
 ·rcases List.mem_append.1 b with b|b
  ·exact g c (bF b)
  ·exact k c b
 ·exact g c (bG b)
def EY{cells:af am}{c:am}{off:Nat}(l:off+c.cells.size<=cells.size):
 (c.cells.zipIdx.foldl (λd (b:am×Nat)=>d.setIfInBounds (off+b.2) b.1) cells).toList=cells.toList.take off++c.cells.toList++cells.toList.drop (off+c.cells.size):=by
 have j:c.cells.zipIdx.foldl (λd (b:am×Nat)=>d.setIfInBounds (off+b.2) b.1) cells=(c.cells.toList.zipIdx 0).foldl (λd (b:am×Nat)=>d.setIfInBounds (off+b.2) b.1) cells:=by
  rw[<-Array.foldl_toList,Array.toList_zipIdx]
 rw[j];obtain⟨k,i⟩:=Great.foldl_set off c.cells.toList 0 cells;apply cZ;intro f;have:=i f;rw[<-Array.getElem?_toList]at this;rw[this];simp only[Nat.add_zero,cq];rcases aF f off with hk|hk
 ·rw[ao dz,aI,cm dB,bO,aq hk];simp
 ·rcases aF f (off+c.cells.size)with g|g
  ·rw[aq ⟨hk,g,dz⟩,aI,cz dB];have:(cells.toList.take off).length=off:=dB;rw[this,cm dB]
  ·rw[ao dz,aI,cz dB];have:(cells.toList.take off).length=off:=dB;rw[this,cz dB,bK];simp only[cq,Array.getElem?_toList];congr 1;omega
def CY(c:Nat->aa (Nat×Nat))(b:Nat×T)(f:List (Nat×T))(d:List T):
 mG c (b::f) d=dU (c b.1) λg=>gD (Nat.beq (kW b.2.cells) g.2) (dU (kT d g.1 b.2.cells) λi=>mG c f i):=rfl
def Nv(hp:af Obj)(μ:Mu)(g:List (Nat×T))(qs:List (Nat×am)):Prop:=
 g.length=qs.length/\∀(f:Nat) d b,g[f]? =some (d,b)->∃c,qs[f]? =some (d,c)/\fD hp μ b c/\b.il=true
def Nv.mH{b:Nat×T}{g:List (Nat×T)}{qs:List (Nat×am)}(h:Nv hp μ (b::g) qs):∃c i,qs=(b.1,c)::i/\fD hp μ b.2 c/\b.2.il=true/\Nv hp μ g i:=by
 obtain⟨hl,f⟩:=h;cases qs with
 |nil=>simp at hl
 |cons p qs=>
  obtain⟨c,d,hr,j⟩:=f 0 b.1 b.2 dA;simp at d;subst d;exact⟨c,qs,rfl,hr,j,by simpa using hl,λm l n k=>by simpa using f (m+1) l n (by simpa using k)⟩
def xd(x:St cx base w.heap μ h)(v:ku w.heap μ mask e a.tmps){d:List (Nat×ah)}{j:List (Nat×T)}(k:partsOf cx mask e d=some j):
 Nv w.heap μ j (d.map λp=>(p.1,a.eval p.2)):=by
 unfold partsOf at k;obtain⟨hl,r⟩:=rS.1 k;refine⟨by simp[hl],λc t f g=> ?_⟩;have m:c<d.length:=by
  rcases aF c j.length with y|y
  ·omega
  ·rw[aM y]at g;simp at g
 obtain⟨y,i,b⟩:=r c d[c] (by simp[m]);rw[g]at i;simp at i;subst i;rcases l:d[c]with⟨u,n⟩;rw[l]at b;have b:(dU (fP cx mask e n) λf=>gD f.il (some (u,f)))=some (t,f):=b;obtain⟨z,s,b⟩:=dJ.1 b;obtain⟨q,b⟩:=dR.1 b;simp at b;obtain⟨rfl,rfl⟩:=b;exact⟨a.eval n,by simp[m,l],gU x v s,q⟩
def u6{u place':Nat->aa (Nat×Nat)}(I:∀t f,u t=some f->place' t=some f):∀(k:List (Nat×T)) (qs:List (Nat×am)) (d g:List T) (cells:af am),
 Nv hp μ k qs->gJ hp μ d cells.toList->(∀n∈d,n.scalar=true)->mG u k d=some g->
 ∃j,Instr.fill place' cells qs=some j/\gJ hp μ g j.toList/\(∀n∈g,n.scalar=true)/\j.size=cells.size:=by
 intro k;induction k with
 |nil=>
  intro qs d g cells hp i m b;have:qs=[]:=bm hp.1.symm;subst this;have:g=d:=by simpa[mG]using b.symm
  subst this;exact⟨cells,rfl,i,m,rfl⟩
 |cons S k K=>
  intro qs d g cells A i m b;obtain⟨c,Q,rfl,hr,E,B⟩:=A.mH;rw[CY]at b;obtain⟨f,J,b⟩:=dJ.1 b;obtain⟨hl,b⟩:=dR.1 b;obtain⟨q,r,b⟩:=dJ.1 b;obtain⟨p,x,_⟩:=hr.cells E;have G:=aD hl;rw[jE]at G;obtain⟨R,D⟩:=oI r;have y:=i.1;have l:=p.1;simp only[cq]at y l;have F:f.1+c.cells.size<=cells.size:=dz;have s:=EY (cells:=cells) (c:=c) F;have z:gJ hp μ q (c.cells.zipIdx.foldl (λd (v:am×Nat)=>d.setIfInBounds (f.1+v.2) v.1) cells).toList:=by
   rw[s,D,<-l];exact((i.take f.1).append p).append (by rw[l];exact i.drop _)
  obtain⟨j,L,M,N,O⟩:=K Q q g _ B z (JL r m x) b;refine⟨j,?_,M,N,?_⟩
  ·simp only[Instr.fill,I _ _ J];have C:¬(c.cells.size≠f.2||decide (f.1+c.cells.size>cells.size))=true:=dB;rw[ao C];exact L
  ·rw[O];have:=bQ List.length s;simp only[cq,aT,List.length_take,List.length_drop]at this;omega
end
end
noncomputable section
section
variable {P:ai}{cx:Ctx}{base:Nat}{w:World}{μ:Mu}{h h':H}{mask:Nat}{e:Env}{a:Act}{o:Oper}{hp hp':af Obj}
def AT:∀(g:List Field),(∀f∈g,∃b,P.info? f.type=some b/\b.size≠0)->∃m,g.mapM (λf=>(P.info? f.type).map λb=>(f.offset,b.size))=some m/\
 ∀(c:Nat) f b,g[c]? =some f->P.info? f.type=some b->m[c]? =some (f.offset,b.size)
 | [],_=>⟨[],rfl,λc f b d=>by simp at d⟩
 |f::g,k=>by
  obtain⟨b,l,_⟩:=k f dA;obtain⟨s,n,p⟩:=AT g λj q=>k j (by simp[q]);refine⟨(f.offset,b.size)::s,by simp[List.mapM_cons,l,n],λc j r d i=> ?_⟩;cases c with
  |zero=>simp at d;subst d;rw[l]at i;simp at i;subst i;simp
  |succ c=>simp at d;simpa using p c j r d i
def yz(c:af (Nat×ah)):(c.map λ(d,f)=>(d,a.eval f)).toList=c.toList.map λb=>(b.1,a.eval b.2):=by
 simp
def FW(ja:jg P cx){t:ab}{D:af (Nat×ah)}(Q:St cx base w.heap μ h)(r:ku w.heap μ mask e a.tmps)(Y:o.op= .build t D){l:T}
 (b:Aq t D cx mask e h=some (.val l h')):jn cx base w μ h.size ((execOp a.eval o).run P w) l h':=by
 replace b:=dJ.1 b;obtain⟨aX,aA,b⟩:=b;replace b:=dJ.1 b;obtain⟨O,al,b⟩:=b;have J:=xd Q r al;obtain⟨a8,d,R,F,G,I,U,x,_⟩:=(ja.ty _ _ aA).unfold;obtain⟨L,M⟩:=gJ.sN (hp:=w.heap) (μ:=μ) U;have fin:∀(j:af am) (g:List T),P.built t (D.toList.map λN=>(N.1,a.eval N.2))=some j->gJ w.heap μ g j.toList->(∀l∈g,l.scalar=true)->l= .agg g->h'=h->
  jn cx base w μ h.size ((execOp a.eval o).run P w) l h':=by
  rintro j g K V an rfl rfl;refine jn.pure Q ?_ (fD.xu V an);rw[<-yz]at K;simp only[execOp,Y,Sem.run_bind,run_build w t _ j K,Result.andThen_ok,Sem.run_pure]
 cases aE:aX.u<;>rw[aE]at b x<;>simp at b
 ·rename_i n a6;have:=rj x;subst this;replace b:=dJ.1 b;obtain⟨bi,ap,b⟩:=b;replace b:=dJ.1 b;obtain⟨g,y,b⟩:=b;obtain⟨m,rfl⟩:=fV.1 b;simp at m;subst m;obtain⟨s,_,_,p,_,_,_,_,_,_,v,_⟩:=(ja.ty _ _ ap).unfold;obtain⟨j,A,B,C,_⟩:=u6 (place':=λk=>some (k*s.size,s.size)) (by intro k q c;rw[v];exact c) O _ _ _ R.cells J L M y;exact fin j g (by simp only[Program.built,F,G,I,p];exact A) B C rfl rfl
 ·rename_i a7;obtain⟨E,rfl,X,W⟩:=rH x;replace b:=dJ.1 b;obtain⟨g,y,b⟩:=b;obtain⟨m,rfl⟩:=fV.1 b;simp at m;subst m;obtain⟨aN,Z,ae⟩:=AT E.toList W;obtain⟨j,A,B,C,_⟩:=u6 (place':=λk=>aN.toArray[k]?) (by
   intro k q c;obtain⟨f,i,c⟩:=dJ.1 c;obtain⟨bk,av,c⟩:=dJ.1 c;simp at c;rw[X]at i;rw[aU]at i;cases z:E.toList[k]? with
   |none=>rw[z]at i;simp at i
   |some S=>
    rw[z]at i;simp at i;obtain⟨s,_,_,p,_,_,_,_,_,_,v,_⟩:=(ja.ty _ _ av).unfold;rw[<-i]at p;have:=ae k S s z p;rw[<-i]at c;simp only[]at c;rw[<-c,<-v];simpa using this) O _ _ _ R.cells J L M y
  exact fin j g (by simp only[Program.built,F,G,I,Z];exact A) B C rfl rfl
def Id{d:Nat}{b:List T}(g:∀f∈b,f.cells.length=d){c:Nat}(i:c<b.length)(f:T):fw (b.set c f)=(fw b).take (c*d)++f.cells++(fw b).drop (c*d+d):=by
 rw[rD g,<-cd,pK g,List.set_eq_take_append_cons_drop,aq i,m8,mc,aI]
def r6{c:T}(b:Nat):fw (List.replicate b c)=(List.replicate b c.cells).flatten:=by
 induction b with
 |zero=>rfl
 |succ b d=>rw[dh,mc,d,dh,List.flatten_cons]
def zu{b:af am}(c:Nat)(j:0<b.size):((Array.range (c*b.size)).map (b[· % b.size]!)).toList=(List.replicate c b.toList).flatten:=by
 induction c with
 |zero=>simp
 |succ c g=>
  have f:(Array.range ((c+1)*b.size)).toList=(Array.range (c*b.size)).toList++(List.range b.size).map (c*b.size+ ·):=by
   simp only[Array.toList_range];rw[cd,List.range_add]
  rw[Array.toList_map,f,List.map_append,<-Array.toList_map,g,List.replicate_succ',List.flatten_append];congr 1;simp only[List.flatten_cons,List.flatten_nil,bL,cK];apply List.ext_getElem
  ·simp
  ·intro k d i;simp at d;simp[Nat.mod_eq_of_lt d,d]
def gJ.replicate{d:List T}{c:List am}(f:gJ hp μ d c)(b:Nat):gJ hp μ (List.replicate b d).flatten (List.replicate b c).flatten:=by
 induction b with
 |zero=>exact gJ.nil
 |succ b g=>rw[dh,dh,List.flatten_cons,List.flatten_cons];exact f.append g
def CX(b:Nat)(f:Nat)(c:T)(g:List (Nat×T))(d:List T):pL b ((f,c)::g) d=gD (Nat.beq (kW c.cells) b) (dU (kM d f c) λi=>pL b g i):=rfl
def Be{b:Nat}(Y:0<b):∀(p:List (Nat×T)) (qs:List (Nat×am)) (g i:List T) (cells:af am),
 Nv hp μ p qs->(∀d∈g,d.cells.length=b)->gJ hp μ (fw g) cells.toList->(∀d∈fw g,d.scalar=true)->pL b p g=some i->
 ∃r,Instr.fill (λk=>some (k*b,b)) cells qs=some r/\gJ hp μ (fw i) r.toList/\(∀d∈fw i,d.scalar=true)/\(∀d∈i,d.cells.length=b)/\i.length=g.length:=by
 intro p;induction p with
 |nil=>
  intro qs g i cells hp n l q j;have:qs=[]:=bm hp.1.symm;subst this;have:i=g:=by simpa[pL]using j.symm
  subst this;exact⟨cells,rfl,l,q,n,rfl⟩
 |cons V p M=>
  intro qs g i cells C n l q j;obtain⟨c,W,rfl,hr,G,D⟩:=C.mH;obtain⟨k,d⟩:=V;rw[CX]at j;obtain⟨hl,j⟩:=dR.1 j;obtain⟨X,m,j⟩:=dJ.1 j;have s:=aD hl;rw[jE]at s;rw[kO]at m;split at m
  ·rename_i y;simp at m;subst m;obtain⟨t,A,_⟩:=hr.cells G;have u:=l.1;have v:=t.1;simp only[cq]at u v;have F:=io n;have I:k*b+c.cells.size<=cells.size:=by
    rw[<-u,F,<-v,s,<-cd];exact aW _ y
   have K:=EY (cells:=cells) (c:=c) I;have x:=Id n y d;have L:∀f∈g.set k d,f.cells.length=b:=by
    intro f hx;rcases cg hx with N|rfl
    ·exact n f N
    ·exact s
   have B:gJ hp μ (fw (g.set k d)) (c.cells.zipIdx.foldl (λz (f:am×Nat)=>z.setIfInBounds (k*b+f.2) f.1) cells).toList:=by
    rw[K,x];have:c.cells.size=b:=dz;rw[this];exact((l.take _).append t).append (l.drop _)
   have J:∀f∈fw (g.set k d),f.scalar=true:=by
    intro f hx;rw[x]at hx;rcases List.mem_append.1 hx with hx|hx
    ·rcases List.mem_append.1 hx with hx|hx
     ·exact q f (bF hx)
     ·exact A f hx
    ·exact q f (bG hx)
   obtain⟨r,O,Q,R,S,U⟩:=M W _ i _ D L B J j;refine⟨r,?_,Q,R,S,by simpa using U⟩;simp only[Instr.fill];have E:¬(c.cells.size≠b||decide (k*b+c.cells.size>cells.size))=true:=dB;rw[ao E];exact O
  ·simp at m
def yM(ja:jg P cx){M:ab}{c:Nat}{A:af (Nat×ah)}(L:St cx base w.heap μ h)(r:ku w.heap μ mask e a.tmps)(F:o.op= .buildSlice M c A){g:T}
 (b:oz M c A cx mask e h=some (.val g h')):jn cx base w μ h.size ((execOp a.eval o).run P w) g h':=by
 replace b:=dJ.1 b;obtain⟨bp,Z,b⟩:=b;obtain⟨d,D,I⟩:=kR (ja.ty _ _ Z);cases al:bp.u<;>rw[al]at b I<;>simp at b;rename_i C;have:=mE I;subst this;replace b:=dJ.1 b;obtain⟨f,p,b⟩:=b;replace b:=dJ.1 b;obtain⟨bn,W,b⟩:=b;replace b:=dR.1 b;obtain⟨G,b⟩:=b;replace b:=dR.1 b;obtain⟨m,b⟩:=b;replace b:=dJ.1 b;obtain⟨es,E,b⟩:=b;rw[ju,H.kI]at b;simp only[ar,ay]at b;obtain⟨rfl,rfl⟩:=b;have G:=bA G;have m:=bA m;have m:c*f.size<=65536:=m;rw[<-nT]at*
 have N:=xd L r W;obtain⟨B,J,bB,av,aE,aA,s,bC,aN⟩:=(ja.ty _ _ p).zero w;have Q:∃j:af am,(if c*f.size=0 then(pure #[]:Sem (af am))else do pure (<-zeroValue C).cells).run P w= .ok (if c*f.size=0 then #[]else B.cells) w/\
  ((Array.range (c*f.size)).map ((if c*f.size=0 then #[]else B.cells)[· % (if c*f.size=0 then #[]else B.cells).size]!))=j/\gJ w.heap μ (fw (List.replicate c f.kf)) j.toList:=by
  by_cases i:c*f.size=0
  ·have S:c=0:=by
    rcases Nat.mul_eq_zero.1 i with k|k
    ·exact k
    ·omega
   subst S;refine⟨_,dA,rfl,?_⟩;simp[fw];exact gJ.nil
  ·refine⟨_,by simp[i,J],rfl,?_⟩;rw[ao i,<-aN,zu c dz,r6,s];exact(av _ _).replicate c
 obtain⟨j,bz,q,ap⟩:=Q;have ae:∀g∈List.replicate c f.kf,g.cells.length=f.size:=by
  intro g l;rw[bU l,s];exact aA
 have Y:∀g∈fw (List.replicate c f.kf),g.scalar=true:=by
  intro g l;obtain⟨y,an,l⟩:=List.mem_flatMap.1 l;rw[bU an,s]at l;exact aE g l
 rw[nT]at E;obtain⟨z,n,v,bi,K,bk⟩:=Be dz bn _ _ es j N ae ap Y E;have R:es.length=c:=by simpa using bk
 have V:z.size=c*f.size:=by
  have:=v.1;rw[io K,R]at this;simpa using this.symm
 obtain⟨bs,aX,a6,a7,a8⟩:=wF L C (arr:=z) (cap:=c) (sz:=f.size) (ex:=true) (es:=es) V dz dz K bi (by
  rw[bJ]
  ·exact v
  ·have:=v.1;simp at this|-;omega)
 refine⟨.slice (some ⟨w.heap.size,0,none⟩) c c,_,bs,.inl ?_,.arr _ 0 0 c false _ _ c a8 (au _) (au _) (λ_=>⟨dA,dA,dA⟩),aX,a6,a7⟩;have U:¬c*f.size>2^24:=dz;have bu:Instr.fill (λt=>some (t*f.size,f.size)) j (A.map λ(t,x)=>(t,a.eval x)).toList=some z:=by rw[yz];exact n
 by_cases i:c*f.size=0
 ·have O:j= #[]:=by rw[<-q,i];simp
  rw[O]at n;have X:Array.map (λ_=>(default:am)) (Array.range 0)= #[]:=dA;simp[execOp,F,Instr.buildSlice,run_underlying D,(ja.ty _ _ p).run_sizeOf,i,X,n,newRow]
 ·simp only[i,br]at q;simp[execOp,F,Instr.buildSlice,run_underlying D,(ja.ty _ _ p).run_sizeOf,i,U,J,q,n,newRow]
set_option maxRecDepth 20000 in
def Ak(ja:jg P cx){U:ab}{V A:ah}(z:St cx base w.heap μ h)(S:ku w.heap μ mask e a.tmps)(I:o.op= .makeSlice U V A){i:T}
 (b:pH U V A cx mask e h=some (.val i h')):jn cx base w μ h.size ((execOp a.eval o).run P w) i h':=by
 replace b:=dJ.1 b;obtain⟨bk,ap,b⟩:=b;obtain⟨d,G,M⟩:=kR (ja.ty _ _ ap);cases av:bk.u<;>rw[av]at b M<;>simp at b;rename_i E;have:=mE M;subst this;replace b:=dJ.1 b;obtain⟨f,s,b⟩:=b;replace b:=dJ.1 b;obtain⟨p,hp,b⟩:=b;replace b:=dJ.1 b;obtain⟨q,al,b⟩:=b;replace b:=dJ.1 b;obtain⟨g,hl,b⟩:=b;replace b:=dJ.1 b;obtain⟨c,X,b⟩:=b;replace b:=dR.1 b;obtain⟨J,b⟩:=b;replace b:=dR.1 b;obtain⟨F,b⟩:=b;replace b:=dR.1 b;obtain⟨n,b⟩:=b;replace b:=dR.1 b;obtain⟨r,b⟩:=b;rw[ju,H.kI]at b;simp only[ar,ay]at b;obtain⟨rfl,rfl⟩:=b;have J:=bA J;have F:=bA F;have n:=bA n;have r:c*f.bytes<=70368744177664:=bA r;obtain⟨bC,rfl⟩:=nQ hl;obtain⟨bH,rfl⟩:=nQ X;have N:=(gU z S hp).jV;have v:=(gU z S al).jV;obtain⟨B,O,bz,aA,aN,aE,y,bB,aX⟩:=(ja.ty _ _ s).zero w;obtain⟨bN,L,K,bs⟩:=(ja.ty _ _ s).run_typeInfo w;have bp:c<=70368744177664:=aS (Nat.le_mul_of_pos_right c dz) r;have Y:∃m:af am,(if c*f.size=0 then(pure #[]:Sem (af am))else do pure (<-zeroValue E).cells).run P w= .ok (if c*f.size=0 then #[]else B.cells) w/\
  ((Array.range (c*f.size)).map ((if c*f.size=0 then #[]else B.cells)[· % (if c*f.size=0 then #[]else B.cells).size]!))=m/\gJ w.heap μ (fw (List.replicate c f.kf)) m.toList:=by
  by_cases j:c*f.size=0
  ·have Z:c=0:=by
    rcases Nat.mul_eq_zero.1 j with k|k
    ·exact k
    ·omega
   subst Z;refine⟨_,dA,rfl,?_⟩;simp[fw];exact gJ.nil
  ·refine⟨_,by simp[j,O],rfl,?_⟩;rw[ao j,<-aX,zu c dz,r6,y];exact(aA _ _).replicate c
 obtain⟨m,bu,x,Q⟩:=Y;have t:∀R,∀i∈List.replicate R f.kf,i.cells.length=f.size:=by
  intro R i l;rw[bU l,y];exact aE
 have an:∀i∈fw (List.replicate g f.kf),i.scalar=true:=by
  intro i l;obtain⟨A,v,l⟩:=List.mem_flatMap.1 l;rw[bU v,y]at l;exact aN i l
 have ae:m.size=c*f.size:=by
  have:=Q.1;rw[io (t c)]at this;simpa using this.symm
 obtain⟨bn,a6,a7,a8,bi⟩:=wF z E (arr:=m) (cap:=c) (sz:=f.size) (ex:=Nat.beq g c) (es:=List.replicate g f.kf) ae (by simpa using n) (by intro W;simp;exact(aD W).symm) (t g) an (by
  rw[io (t g),List.length_replicate];have:=Q.take (g*f.size);rw[rD (t c)]at this;rw[List.take_replicate,cA n]at this;exact this)
 refine⟨.slice (some ⟨w.heap.size,0,none⟩) g c,_,bn,.inl ?_,.arr _ 0 0 g false _ _ c bi (au _) n (λ_=>⟨dA,dA,dA⟩),a6,a7,a8⟩;have C:IntKind.i64.wrap (Int.ofNat c)=(c:Int):=IntWalk.i64_in (c:Int) ⟨dz,dz⟩;have D:IntKind.i64.wrap (Int.ofNat g)=(g:Int):=IntWalk.i64_in (g:Int) ⟨dz,dz⟩;have t1:¬((f.bytes:Int)*(c:Int)>2^48):=by
  have:((c*f.bytes:Nat):Int)<=70368744177664:=Int.ofNat_le.2 r;rw[Int.mul_comm];push_cast at this;omega
 have t2:(decide ((c:Int)<0)||decide ((f.bytes:Int)*(c:Int)>2^48)||decide ((g:Int)<0)||decide ((g:Int)>(c:Int)))=false:=by
  simp only[bM,bw];exact⟨⟨⟨dz,t1⟩,dz⟩,dz⟩
 by_cases j:c*f.size=0
 ·simp only[j,bh]at x;simp only[execOp,I,Instr.makeSlice,Sem.run_bind,run_underlying G,Result.andThen_ok,N,v,asInt,asIntOf,Sem.run_pure,L,K,C,D,t2,cr,br,run_askRoom,(ja.ty _ _ s).run_sizeOf,cJ,j,bh,x,newRow,run_newObj]
 ·simp only[j,br]at x;simp only[execOp,I,Instr.makeSlice,Sem.run_bind,run_underlying G,Result.andThen_ok,N,v,asInt,asIntOf,Sem.run_pure,L,K,C,D,t2,cr,br,run_askRoom,(ja.ty _ _ s).run_sizeOf,cJ,j,O,x,newRow,run_newObj]
def FQ{f:ab}{i:ah}(d:St cx base w.heap μ h)(t:ku w.heap μ mask e a.tmps)(l:o.op= .range f i)(m:P.underlying f=some .string){g:T}
 (b:CJ i cx mask e h=some (.val g h')):jn cx base w μ h.size ((execOp a.eval o).run P w) g h':=by
 replace b:=dJ.1 b;obtain⟨s,hp,b⟩:=b;cases s<;>simp at b;rename_i c;rw[ju,H.kI]at b;simp only[ar,ay]at b;obtain⟨rfl,rfl⟩:=b;obtain⟨k,j⟩:=(gU d t hp).lU;obtain⟨p,q,r⟩:=d.new (.stringIter (bytesOf c) 0) ⟨0,w.heap.size,0,1⟩ ⟨1,0,0,true,true,[.str c,.int .i64 0]⟩ rfl (by
  intro u;refine⟨rfl,rfl,λn=>by simp at n,λ_=>⟨rfl,.inl ⟨c,0,rfl,j,dA⟩⟩⟩)
 refine⟨.pointer (some ⟨w.heap.size,0,none⟩),{w with heap:=w.heap.push (.stringIter (bytesOf c) 0)},_,.inl ?_,.iter _ _ _ (jx _ _ _) (λ_=>rfl),p,⟨q,rfl,rfl,rfl⟩,r⟩;simp[execOp,l,Instr.range,run_underlying m,k]
end
end
noncomputable section
section
variable {P:ai}{cx:Ctx}{base:Nat}{w:World}{μ:Mu}{h h':H}{mask:Nat}{e:Env}{a:Act}{o:Oper}{hp hp':af Obj}
def St.B2(l:St cx base hp μ h){d:Nat}{c:Loc}{b:iZ}(i:μ d=some c)(j:h.get d=some b)(k:b.it=false):zj hp μ c b.exact b.eY/\b.ep=c.ep/\b.sz=c.sz:=by
 obtain⟨m,f,g⟩:=l.box d c i;rw[j]at f;simp at f;subst f;exact⟨g.plain k,g.ep,g.sz⟩
def zl(p:St cx base w.heap μ h){f:Nat}{b:Loc}{k:iZ}(n:μ f=some b)(u:h.get f=some k)(v:k.it=false){l arr':af am}{i:ab}(B:w.heap[b.iS]? =some (.cells l i (0,0)))
 {ep' M:Nat} {m:Bool} {c:List T} (r:ep'=b.ep\/ep'=b.ep+1) (z:h.put f ⟨k.sz,ep',M,m,false,c⟩=some h') (E:arr'.size=b.cap*b.sz) (A:c.length<=b.cap) (s:m=true->b.cap=c.length)
 (F:∀j∈c,j.cells.length=b.sz) (D:∀j∈fw c,j.scalar=true) (q:gJ w.heap μ (fw c) (arr'.toList.take (fw c).length)):
 ∃g,St cx base (w.setRow b.iS arr').heap g h'/\pN w μ (w.setRow b.iS arr') g/\yg μ g h.size h'.size/\g f=some ⟨ep',b.iS,b.cap,b.sz⟩:=by
 obtain⟨N,O,G⟩:=p.B2 n u v;have y:∀d,d<w.heap.size->d≠b.iS->(w.setRow b.iS arr').heap[d]? =w.heap[d]? :=λd _ x=>setRow_other w b.iS d arr' x;have C:=setRow_heap w b.iS l arr' i (0,0) B;obtain⟨J,K,L⟩:=p.change (L':=⟨ep',b.iS,b.cap,b.sz⟩) n z dA y (by
  rcases r with rfl|rfl
  ·exact .inl rfl
  ·exact .inr ⟨dA,.inl rfl⟩) (by
  intro t;refine⟨rfl,G,λ_=>⟨⟨arr',i,C,E,q.ext t⟩,A,s,F,D⟩,λI=>by simp at I⟩)
 exact⟨_,J,⟨K,rfl,rfl,rfl⟩,L,jx _ _ _⟩
def AF{j:Type}(b d:List j){o c:Nat}(k:o+d.length<=c)(l:c<=b.length):(b.take o++d++b.drop (o+d.length)).take c=(b.take c).take o++d++(b.take c).drop (o+d.length):=by
 rw[List.take_append,List.take_append];have f:(b.take o).take c=(b.take c).take o:=by rw[List.take_take,List.take_take,Nat.min_comm]
 have g:(b.take o).length=o:=dB;have i:(b.take o++d).length=o+d.length:=dB;rw[f,g,i];congr 1
 ·congr 1;rw[bJ dz]
 ·rw[List.drop_take]
def N0{b c:T}{g:Nat}{f:List T}(q:∀r∈f,r.scalar=true)(d:mr b g f=some c):
 g+f.length<=b.cells.length/\c.cells=b.cells.take g++f++b.cells.drop (g+f.length):=by
 by_cases i:∃j,b= .agg j
 ·obtain⟨j,rfl⟩:=i;obtain⟨s,l,k⟩:=dJ.1 d;simp at k;subst k;exact oI l
 ·have n:b.cells=[b]:=by cases b<;>first|rfl|exact absurd ⟨_,rfl⟩ i
  have m:g=0/\f=[c]:=by
   unfold mr at d;cases b<;>first|(exact absurd ⟨_,rfl⟩ i)|(simp only[]at d;split at d<;>simp at d;subst d;exact⟨rfl,rfl⟩)
  obtain⟨rfl,rfl⟩:=m;have p:=q c dA;have:c.cells=[c]:=by cases c<;>simp[T.scalar]at p<;>rfl
  rw[n,this];simp
def FO(ja:jg P cx){t:ab}{x n:ah}(E:St cx base w.heap μ h)(r:ku w.heap μ mask e a.tmps)(bB:o.op= .store t x n){k:T}
 (f:CH t x n cx mask e h=some (.val k h')):jn cx base w μ h.size ((execOp a.eval o).run P w) k h':=by
 replace f:=dJ.1 f;obtain⟨ce,bX,f⟩:=f;replace f:=dJ.1 f;obtain⟨p,hp,f⟩:=f;replace f:=dJ.1 f;obtain⟨u,bH,f⟩:=f;replace f:=dR.1 f;obtain⟨bs,f⟩:=f;replace f:=dJ.1 f;obtain⟨Q,b,f⟩:=f;simp at f;obtain⟨rfl,rfl⟩:=f;have b6:=gU E r hp;obtain⟨ap,qs,ca⟩:=(gU E r bH).cells bs;have bC:∃z F c i,p= .ptr z F c i:=by
  unfold H.store at b;cases p<;>first|(exact⟨_,_,_,_,rfl⟩)|(simp at b)
 obtain⟨z,F,c,i,rfl⟩:=bC;unfold H.store at b;replace b:=dR.1 b;obtain⟨D,b⟩:=b;replace b:=dJ.1 b;obtain⟨aE,S,b⟩:=b;obtain⟨av,G,aA,N,an,d⟩:=aE;have b:gD (Nat.beq G F) (@Bool.rec (λ_=>aa H) (dU (mm d c) λl=>dU (mr l i u.cells) λm=>dU (kM d c m) λA=>dU (gY (Nat.succ aA)) λM=>h.put z ⟨av,G,M,N,false,A⟩) none an)=some Q:=b;replace b:=dR.1 b;obtain⟨W,b⟩:=b;cases an with
 |true=>simp at b
 |false=>
  have b:(dU (mm d c) λl=>dU (mr l i u.cells) λm=>dU (kM d c m) λA=>dU (gY (Nat.succ aA)) λM=>h.put z ⟨av,G,M,N,false,A⟩)=some Q:=b;replace b:=dJ.1 b;obtain⟨l,B,b⟩:=b;replace b:=dJ.1 b;obtain⟨m,bn,b⟩:=b;replace b:=dJ.1 b;obtain⟨A,y,b⟩:=b;simp only[iE,dX]at b;rw[kE]at B;have W:=aD W;have D:=aD D;rw[jE]at D;rw[kO]at y;split at y
  ·rename_i C;simp at y;subst y;obtain⟨g,cL,bN,R,_,a7⟩:=b6.pO;obtain⟨q,O,aN⟩:=E.B2 R S rfl;simp only[]at O aN;have a8:=a7 dz;subst a8;obtain⟨v,cb,Y,ae,I⟩:=q.row;have s:=q.size;simp only[]at s I;have bz:l∈d:=ax B;obtain⟨bu,U⟩:=N0 qs bn;have c1:=s l bz;have bk:d[c]=l:=by rw[az C]at B;simpa using B
   have J:=io s;have X:fw (d.set c m)=(fw d).take (c*g.sz+i)++u.cells++(fw d).drop (c*g.sz+i+u.cells.length):=by
    rw[Id s C,U];have V:(fw d).drop (c*g.sz)=l.cells++(fw d).drop (c*g.sz+g.sz):=by
     rw[<-cd,pK s,pK s,aJ C,bk,mc]
    have ht:(fw d).take (c*g.sz+i)=(fw d).take (c*g.sz)++l.cells.take i:=by
     rw[List.take_add,V,c8 dz]
    have bi:(fw d).drop (c*g.sz+i+u.cells.length)=l.cells.drop (i+u.cells.length)++(fw d).drop (c*g.sz+g.sz):=by
     rw[cH,<-cW,V,List.drop_append_of_le_length bu]
    rw[ht,bi];simp[aI]
   have cX:c*g.sz+i+u.cells.length<=(fw d).length:=by
    rw[J];have:(c+1)*g.sz<=d.length*g.sz:=aW _ C;rw[cd]at this;omega
   have a6:(fw d).length<=v.size:=by
    rw[J,ae];exact aW _ q.room
   have K:=ap.1;have al:∀k∈d.set c m,k.cells.length=g.sz:=by
    intro k j;rcases cg j with L|rfl
    ·exact s k L
    ·rw[U];simp;omega
   have bS:∀k∈fw (d.set c m),k.scalar=true:=by
    intro k j;rw[X]at j;rcases List.mem_append.1 j with j|j
    ·rcases List.mem_append.1 j with j|j
     ·exact q.scalar k (bF j)
     ·exact qs k j
    ·exact q.scalar k (bG j)
   have bp:(fw (d.set c m)).length=(fw d).length:=by
    rw[io al,J];simp
   have aX:gJ w.heap μ (fw (d.set c m)) ((v.toList.take (c*g.sz+i)++(a.eval n).cells.toList++v.toList.drop (c*g.sz+i+(a.eval n).cells.toList.length)).toArray.toList.take (fw (d.set c m)).length):=by
    rw[bp,X];rw[dj,AF _ _ dz (by simpa using a6)];rw[<-K];exact((I.take _).append ap).append (I.drop _)
   obtain⟨cp,b7,b8,b9,c4⟩:=zl E R S rfl Y (.inl O) b (arr':=(v.toList.take (c*g.sz+i)++(a.eval n).cells.toList++v.toList.drop (c*g.sz+i+(a.eval n).cells.toList.length)).toArray)
    (by simp only[List.size_toArray,aT,List.length_take,List.length_drop,cq]at K|-;rw[<-ae];omega) (by simpa using q.room) (by intro L;have:=q.tz L;simpa using this) al bS aX
   refine⟨Go.undef,_,cp,.inr ⟨?_,rfl⟩,.undef,b7,b8,b9⟩;have Z:=run_storeCells_at (P:=P) g.iS (c*g.sz+i) cb (a.eval n).cells.toList 0 v w Y (by simp only[Nat.add_zero];omega) ca;simp only[Nat.add_zero]at Z;have bT:(a.eval n).cells.size=ce.size:=by rw[<-D,K];simp
   simp only[execOp,bB,Instr.storeAt,Sem.run_bind,bN,Instr.sureAddr,Sem.run_pure,Result.andThen_ok,storeVar,(ja.ty _ _ bX).run_sizeOf,bT,ne_eq,not_true,br,Z]
  ·simp at y
end
end
noncomputable section
section
variable {P:ai}{cx:Ctx}{base:Nat}{w:World}{μ:Mu}{h h':H}{mask:Nat}{e:Env}{a:Act}{o:Oper}{hp hp':af Obj}
def Ln{g:Nat}{c:List T}(d:fits g c=true){k:Nat}(i:∀b∈c,b.cells.length=k):∀b∈c,b.cells.length=g:=by
 cases c with
 |nil=>intro b f;simp at f
 |cons j c=>
  have d:Nat.beq (kW j.cells) g=true:=d;have:=aD d;rw[jE]at this;have l:=i j dA;intro b f;rw[i b f];omega
structure A4(P:ai)(w:World)(μ:Mu)(c:am)(es:List T)(sz:Nat):Prop where
 IY:∀v∈es,v.cells.length=sz
 scalar:∀v∈fw es,v.scalar=true
 form:∃ad cap news,c= .slice ad es.length cap/\es.length<=cap/\gJ w.heap μ (fw es) news/\(∀u∈news,u.oneCell'=true)/\
  ((ad=none/\es=[])\/∃x:Addr,ad=some x/\∀(j:Nat) u,news[j]? =some u->w.cell? (x.add j)=some u)
def gJ.Fv{b:List T}{c:List am}(d:gJ hp μ b c)(l:∀v∈b,v.scalar=true):∀j∈c,j.oneCell'=true:=by
 intro j m;obtain⟨k,g,rfl⟩:=List.getElem_of_mem m;have i:k<b.length:=by rw[d.1];exact g
 obtain⟨n,f,hr⟩:=d.get (k:=k) (v:=b[k]) (by simp[i]);simp[g]at f;subst f;exact rI hr (l _ (aC i))
def oy(s:St cx base w.heap μ h){E:T}{m:am}{es:List T}(x:fD w.heap μ E m)(c:h.jf E=some es):∃A,A4 P w μ m es A:=by
 unfold H.jf at c;cases E<;>simp at c
 ·
  rename_i W X;subst c;cases W with
  |nil=>
   obtain⟨k,rfl⟩:=x.ui;refine⟨0,dA,by simp[fw],k,0,[],rfl,au _,gJ.nil,dA,?_⟩;cases k with
   |none=>exact .inl ⟨rfl,rfl⟩
   |some y=>exact .inr ⟨y,rfl,dA⟩
  |cons p es=>
   obtain⟨F,off,C,A,q,Q,fz,rfl,bH,L,aN,bz,bk,bi,ap,hr⟩:=x.uj;have D:∀f∈fw (p::es),f.scalar=true:=λf g=>(ap f g).1;have t:sZ w.heap μ F off (fw (p::es)):=⟨⟨q,Q,fz,L,bi,hr⟩,D⟩;have r:gJ w.heap μ (fw (p::es)) ((q.toList.drop off).take (fw (p::es)).length):=by
    refine⟨dB,λz f g=> ?_⟩;have aE:z<(fw (p::es)).length:=by
     rcases aF z (fw (p::es)).length with y|y
     ·exact y
     ·rw[aM y]at g;simp at g
    have:=hr z f g;have a7:off+z<q.size:=dz;simpa[List.getD,bO,aE,bg,a7]using this
   refine⟨A,bk,D,some ⟨F,off,none⟩,C,_,rfl,aN,r,r.Fv D,.inr ⟨_,rfl,λj u d=> ?_⟩⟩;rw[kL];rw[bO]at d;split at d
   ·rw[bK]at d;simp only[World.cell?,L];simpa using d
   ·simp at d
 ·subst c;obtain⟨k,C,rfl⟩:=x.Ag;refine⟨0,dA,by simp[fw],k,C,[],rfl,aw _,gJ.nil,dA,?_⟩;cases k with
  |none=>exact .inl ⟨rfl,rfl⟩
  |some y=>exact .inr ⟨y,rfl,dA⟩
 ·rename_i b U l i X;replace c:=dJ.1 c;obtain⟨R,an,c⟩:=c;obtain⟨A,V,bS,bs,O,n⟩:=R;have c:gD (Nat.beq V U) (@Bool.rec (λ_=>aa (List T)) (dU (jX l n) λt=>takeN i t) none O)=some es:=c;replace c:=dR.1 c;obtain⟨K,c⟩:=c;cases O with
  |true=>simp at c
  |false=>
   have c:(dU (jX l n) λt=>takeN i t)=some es:=c;replace c:=dJ.1 c;obtain⟨t,hr,c⟩:=c;rw[md]at hr;split at hr
   ·rename_i bC;simp at hr;subst hr;rw[nR]at c;split at c
    ·rename_i a6;simp at c a6;subst c;obtain⟨B,k,G,rfl,al,bu,av,aA⟩:=x.sS;obtain⟨m,Y,Z⟩:=s.B2 al an rfl;simp only[]at Y Z;have K:=aD K;obtain⟨bn,bp,S⟩:=aA dz;obtain⟨q,Q,a8,bN,r⟩:=m.row;have v:=m.size;simp only[]at v r;have J:=CV v l i;have M:((n.drop l).take i).length=i:=dB;have bB:=io v;have I:gJ w.heap μ (fw ((n.drop l).take i)) (((q.toList.take (fw n).length).drop (l*B.sz)).take (i*B.sz)):=by
      rw[J];exact(r.drop _).take _
     have N:∀f∈fw ((n.drop l).take i),f.scalar=true:=by
      intro f g;rw[J]at g;exact m.scalar f (bG (bF g))
     refine⟨B.sz,λf g=>v f (bG (bF g)),N,k,G,_,by rw[M],by rw[M];exact av,I,I.Fv N,?_⟩;by_cases ae:G=0
     ·have aX:i=0:=dz;subst aX;cases k with
      |none=>exact .inl ⟨rfl,dA⟩
      |some y=>exact .inr ⟨y,rfl,dA⟩
     ·refine .inr ⟨_,S ae,λj u d=> ?_⟩;rw[kL];rw[bO]at d;split at d
      ·rw[bK,bO]at d;split at d
       ·simp only[World.cell?,a8];simpa using d
       ·simp at d
      ·simp at d
    ·simp at c
   ·simp at hr
def A4.src{f:am}{c:List T}{d:Nat}(k:A4 P w μ f c d){l m:ab}(j:P.underlying l=some (.slice m)):∃b,Src P d l f c.length b w/\gJ w.heap μ (fw c) b:=by
 obtain⟨s,g,b,rfl,t,i,n,p⟩:=k.form;refine⟨b,?_,i⟩;have hl:b.length=c.length*d:=by rw[<-i.1,io k.IY]
 rcases p with⟨rfl,rfl⟩|⟨r,rfl,q⟩
 ·have:b=[]:=bm (by simpa using hl);subst this;exact Src.ofNil w j g
 ·exact Src.ofSlice w j r c.length g b hl q n
def A4.first{f:am}{c:List T}{d:Nat}(j:A4 P w μ f c d):∃b,(Builtin.firstCells d c.length f).run P w.drew= .ok b.toArray w.drew/\gJ w.heap μ (fw c) b:=by
 obtain⟨n,g,b,rfl,q,i,p,k⟩:=j.form;refine⟨b,?_,i⟩;have hl:b.length=c.length*d:=by rw[<-i.1,io j.IY]
 rcases k with⟨rfl,rfl⟩|⟨m,rfl,l⟩
 ·have:b=[]:=bm (by simpa using hl);subst this;exact run_firstCells_none w.drew d 0 0 g
 ·exact run_firstCells_some w.drew d c.length m c.length g b hl (by simpa using l)
end
end
noncomputable section
section
variable {P:ai}{cx:Ctx}{base:Nat}{w:World}{μ:Mu}{h h':H}{mask:Nat}{e:Env}{a:Act}{o:Oper}{hp hp':af Obj}
structure TM(P:ai)(w:World)(μ:Mu)(sz:Nat)(tx:ab)(x:am)(xs:List T)(news:List am):Prop where
 src:Src P sz tx x xs.length news w
 rel:gJ w.heap μ (fw xs) news
 IY:∀v∈xs,v.cells.length=sz
 scalar:∀v∈fw xs,v.scalar=true
structure TK(P:ai)(w:World)(μ:Mu)(sz:Nat)(c:am)(es:List T)(olds:List am):Prop where
 first:(Builtin.firstCells sz es.length c).run P w.drew= .ok olds.toArray w.drew
 rel:gJ w.heap μ (fw es) olds
 IY:∀v∈es,v.cells.length=sz
 scalar:∀v∈fw es,v.scalar=true
def rF(c:af am)(b:Nat):(Builtin.zeroCells c b).size=b*c.size:=by simp[Builtin.zeroCells]
def u5{f g:List T}{c:T->Prop}(i:∀b∈fw f,c b)(j:∀b∈fw g,c b):∀b∈fw (f++g),c b:=by
 intro b d;rw[m8]at d;rcases List.mem_append.1 d with k|k
 ·exact i b k
 ·exact j b k
def CQ{g f:List am}{i:af am}{b c d:Nat}(j:g.length+f.length=c*d)(k:i.size=d)(l:c<=b):
 ((g++f).toArray++Builtin.zeroCells i (b-c)).size=b*d:=by
 simp only[Array.size_append,List.size_toArray,aT,rF,j,k];rw[<-co];congr 1;omega
def G6(ja:jg P cx){n p ty' i:ab}{d:Ty}(A:P.underlying n=some (.slice i))(C:cx.ty i=some d){j:aa Addr}{g:Nat}{b c:List T}{m l:List am}{q:am}
 (G:TK P w μ d.size (.slice j b.length g) b m) (F:TM P w μ d.size p q c l) (t:g<b.length+c.length) (N:1<=d.bytes) (B:(b.length+c.length)*d.bytes<=70368744177664):
 ∃(f:am) (k:Nat),b.length+c.length<=k/\f.cells.size=d.size/\(Builtin.append_ #[n,p] ty' #[.slice j b.length g,q]).run P w=
  .ok (.slice (some ⟨w.heap.size,0,none⟩) (b.length+c.length) k) {w with drawn:=w.drawn+1,heap:=w.heap.push (.cells ((m++l).toArray++Builtin.zeroCells f.cells (k-(b.length+c.length))) i)}:=by
 obtain⟨E,I,f,u,J,v,x,K,L,M,y,z,_⟩:=(ja.ty _ _ C).unfold;have D:f.cells.size=d.size:=by
  have:=(gJ.sN (hp:= #[]) (μ:=⟨λ_=>none,λ_=>False⟩) x).1.1;simp at this;omega
 have O:b.length+c.length<=70368744177664:=aS (Nat.le_mul_of_pos_right _ dz) B;have r:=G.first;have s:=F.src;rw[<-y]at r s;have:=run_append_grow_src w n p ty' i E f A u v j b.length g m r q c.length l s t dz (by rw[z];exact growslice_fits t dz);exact⟨f,_,grownCap_ge w _ _ _,D,this⟩
def Bj(ja:jg P cx)(N:St cx base w.heap μ h){x y ty' n:ab}{d:Ty}(B:P.underlying x=some (.slice n))(F:cx.ty n=some d){ad:aa Addr}{cap:Nat}{es c:List T}{t s:List am}{z:am}
 (i:TK P w μ d.size (.slice ad es.length cap) es t) (g:TM P w μ d.size y z c s) (C:cap<es.length+c.length) {f:T} (b:h.jc d.size d.bytes es c=some (f,h')):
 ∃u m j,(Builtin.append_ #[x,y] ty' #[.slice ad es.length cap,z]).run P w= .ok u m/\fD m.heap j f u/\St cx base m.heap j h'/\pN w μ m j/\yg μ j h.size h'.size:=by
 unfold H.jc at b;simp only[pT,dX,iE,jE]at b;replace b:=dR.1 b;obtain⟨p,b⟩:=b;replace b:=dR.1 b;obtain⟨l,b⟩:=b;replace b:=dR.1 b;obtain⟨_,b⟩:=b;replace b:=dR.1 b;obtain⟨_,b⟩:=b;rw[H.kI]at b;simp only[ar,ay]at b;obtain⟨rfl,rfl⟩:=b;have p:=bA p;have l:(es++c).length*d.bytes<=70368744177664:=bA l;rw[aT]at l;obtain⟨Q,r,q,I,E⟩:=G6 ja B F (ty':=ty') i g C p l;have v:∀f∈es++c,f.cells.length=d.size:=by
  intro f G;rcases List.mem_append.1 G with k|k
  ·exact i.IY f k
  ·exact g.IY f k
 have D:t.length+s.length=(es.length+c.length)*d.size:=by
  rw[<-i.rel.1,<-g.rel.1,io i.IY,io g.IY,co]
 have A:gJ w.heap μ (fw (es++c)) (((t++s).toArray++Builtin.zeroCells Q.cells (r-(es.length+c.length))).toList.take (fw (es++c)).length):=by
  rw[io v,aT,Array.toList_append,dj,c8 dB,bJ dB,m8];exact i.rel.append g.rel
 have O:St cx base ({w with drawn:=w.drawn+1}:World).heap μ h:=N;obtain⟨j,J,K,L,M⟩:=wF O n (cap:=r) (sz:=d.size) (ex:=false) (es:=es++c) (CQ D I q) (by simpa using q) dA v (u5 i.scalar g.scalar) A;rw[aT];exact⟨_,_,j,E,.arr _ 0 0 _ false _ _ r M (au _) q (λ_=>⟨dA,dA,dA⟩),J,⟨K.ext,rfl,rfl,rfl⟩,L⟩
def N5(ja:jg P cx){n q ty' l:ab}{c:Ty}(v:P.underlying n=some (.slice l))(z:cx.ty l=some c){d b j k:Nat}{g:List am}{r:am}
 (i:Src P c.size q r k g w) (x:b+k<=j) {f:af am} {p:ab} (y:w.heap[d]? =some (.cells f p (0,0))) (K:b*c.size+g.length<=f.size):
 (Builtin.append_ #[n,q] ty' #[.slice (some ⟨d,0,none⟩) b j,r]).run P w= .ok (.slice (some ⟨d,0,none⟩) (b+k) j) (w.setRow d (f.toList.take (b*c.size)++g++f.toList.drop (b*c.size+g.length)).toArray):=by
 obtain⟨L,A,M,s,C,D,E,F,G,I,t,J,_⟩:=(ja.ty _ _ z).unfold;have m:=run_storeCells_at (P:=P) d (b*c.size) p g 0 f w y dz i.one;simp only[Nat.add_zero]at m;have u:(⟨d,0,none⟩:Addr).add (b*c.size)=⟨d,b*c.size,none⟩:=by rw[kL];simp
 rcases i.kind with⟨B,hk⟩|hk<;>simp[Builtin.append_,run_underlying v,run_underlying hk,sizeOf,typeInfo,s,t,i.len,x,i.cells,u,m]
def N6(ja:jg P cx){i k ty' g:ab}{j:Ty}(p:P.underlying i=some (.slice g))(r:cx.ty g=some j){b:aa Addr}{f c:Nat}{l:am}(d:Src P j.size k l 0 [] w)(q:f<=c):
 (Builtin.append_ #[i,k] ty' #[.slice b f c,l]).run P w= .ok (.slice b f c) w:=by
 obtain⟨C,s,D,m,u,v,x,y,z,A,n,B,_⟩:=(ja.ty _ _ r).unfold;rcases d.kind with⟨t,hk⟩|hk<;>cases b<;>simp[Builtin.append_,run_underlying p,run_underlying hk,sizeOf,typeInfo,m,n,d.len,q,d.cells,storeCells]
def Dl(ja:jg P cx)(s:St cx base w.heap μ h){t b8 ty' M:ab}{d:Ty}(bu:P.underlying t=some (.slice M))(b6:cx.ty M=some d){D X b:Nat}{f:List T}{m:List am}{E x:am}
 (ds:fD w.heap μ (.arr D X 0 b false) E) (v:TM P w μ d.size b8 x f m) (dm:f≠ []) {l:T} (c:h.mB d.size d.bytes D X b f=some (l,h')):
 ∃a7 V I,(Builtin.append_ #[t,b8] ty' #[E,x]).run P w= .ok a7 V/\fD V.heap I l a7/\St cx base V.heap I h'/\pN w μ V I/\yg μ I h.size h'.size:=by
 unfold H.mB at c;replace c:=dJ.1 c;obtain⟨ca,bs,c⟩:=c;obtain⟨a6,ep',b9,ef,b7,g⟩:=ca;have c:(dU (takeN b g) λJ=>dU (Ej J f) λbk=>dU (gY (kW bk)) λn=>gD (Nat.ble 1 d.bytes)<|gD (Nat.beq ep' X) (gD (Nat.beq a6 d.size) (gD (Nat.ble (Nat.mul n d.bytes) 70368744177664) (gD (fits d.size f) (@Bool.rec (λ_=>aa (T×H))
  (dU (gY (Nat.succ ep')) λbi=>dU (gY (Nat.succ b9)) λec=>dU (h.put D ⟨a6,bi,ec,false,false,bk⟩) λh'=>some (.arr D bi 0 n false,h')) none b7)))))=some (l,h'):=c
 replace c:=dJ.1 c;obtain⟨J,K,c⟩:=c;simp only[pT,dX,iE,jE]at c;replace c:=dR.1 c;obtain⟨ae,c⟩:=c;replace c:=dR.1 c;obtain⟨bz,c⟩:=c;replace c:=dR.1 c;obtain⟨bX,c⟩:=c;replace c:=dR.1 c;obtain⟨R,c⟩:=c;replace c:=dR.1 c;obtain⟨_,c⟩:=c;cases b7 with
 |true=>simp at c
 |false=>
  have c:(dU (h.put D ⟨a6,ep'+1,b9+1,false,false,J++f⟩) λh'=>some (T.arr D (ep'+1) 0 (J++f).length false,h'))=some (l,h'):=c;replace c:=dJ.1 c;obtain⟨eh,bC,c⟩:=c;simp only[ar,ay]at c;obtain⟨rfl,rfl⟩:=c;have ae:=bA ae;have bz:=aD bz;have bX:=aD bX;have R:(J++f).length*d.bytes<=70368744177664:=bA R;rw[aT]at R;rw[nR]at K;split at K
  ·rename_i de;simp at K;subst K;obtain⟨A,W,r,rfl,Z,er,eo,c6⟩:=ds.sS;obtain⟨E,ce,cp⟩:=s.B2 Z bs rfl;simp only[]at ce cp;obtain⟨_,cb,a8⟩:=c6 dz;have c1:r=A.cap:=by have:=cb rfl;omega
   obtain⟨q,ey,av,bT,bn⟩:=E.row;have L:=E.size;simp only[]at L bn;have C:A.sz=d.size:=dz;have p:(g.take b).length=b:=dB;have aA:∀l∈g.take b,l.cells.length=d.size:=λl F=>by rw[<-C];exact L l (bF F)
   have bN:∀l∈fw (g.take b),l.scalar=true:=by
    intro l F;rw[<-rD L]at F;exact E.scalar l (bF F)
   have S:∀l∈g.take b++f,l.cells.length=A.sz:=by
    intro l F;rw[C];rcases List.mem_append.1 F with k|k
    ·exact aA l k
    ·exact v.IY l k
   have bS:=u5 bN v.scalar;have c9:=io L;have bB:m.length=f.length*d.size:=by rw[<-v.rel.1,io v.IY]
   have N:gJ w.heap μ (fw (g.take b)) (q.toList.take (b*A.sz)):=by
    have:=bn.take (b*A.sz);rw[rD L,List.take_take,cA (by rw[c9];exact aW _ de)]at this;exact this
   have eu:0<f.length:=List.length_pos_iff.2 dm;by_cases bH:b+f.length<=r
   ·
    have c4:r≠0:=dz;have bp:=a8 c4;simp only[Nat.zero_mul]at bp;subst bp;have cX:b*d.size+m.length<=q.size:=by
     rw[bT,bB,C,<-co];exact aW _ dz
    have Q:=N5 (ty':=ty') ja bu b6 v.src bH av cX;have al:(fw (g.take b++f)).length=b*d.size+m.length:=by
     rw[io S,aT,p,bB,C,co]
    have Y:gJ w.heap μ (fw (g.take b++f)) ((q.toList.take (b*d.size)++m++q.toList.drop (b*d.size+m.length)).toArray.toList.take (fw (g.take b++f)).length):=by
     have ht:(q.toList.take (b*d.size)++m).take (b*d.size+m.length)=q.toList.take (b*d.size)++m:=bJ dB;rw[al,dj,c8 dB,ht,m8];rw[C]at N;exact N.append v.rel
    obtain⟨I,aE,aN,aX,ea⟩:=zl s Z bs rfl av (ep':=ep'+1) (.inr dz) bC (arr':=(q.toList.take (b*d.size)++m++q.toList.drop (b*d.size+m.length)).toArray)
     (by simp only[List.size_toArray,aT,List.length_take,List.length_drop,cq];rw[<-bT];omega) (by simp[p];omega) dA S bS Y
    refine⟨_,_,I,Q,?_,aE,aN,aX⟩;have an:(g.take b++f).length=b+f.length:=by rw[aT,p]
    rw[an];exact .arr _ _ 0 _ false _ _ r ea (au _) bH (λ_=>⟨dA,by simp[c1],dA⟩)
   ·
    have G:∃B,TK P w μ d.size (.slice W b r) (g.take b) B:=by
     refine⟨q.toList.take (b*A.sz),?_,N,aA,bN⟩;rw[p];have dk:(q.toList.take (b*A.sz)).length=b*d.size:=by rw[<-N.1,io aA,p]
     by_cases cL:r=0
     ·have dd:b=0:=dz;subst dd;simp only[Nat.zero_mul,List.take_zero];cases W with
      |none=>exact run_firstCells_none w.drew d.size 0 0 r
      |some y=>exact run_firstCells_some w.drew d.size 0 y 0 r [] dA dA
     ·rw[a8 cL];refine run_firstCells_some w.drew d.size b _ b r _ dk (λj u O=> ?_);rw[kL];rw[bO]at O;split at O
      ·show World.cell? w _=_;simp only[World.cell?,av];simpa using O
      ·simp at O
    obtain⟨B,G⟩:=G;have dn:((g.take b).length+f.length)*d.bytes<=70368744177664:=by rw[<-p]at*;exact R
    have eb:TK P w μ d.size (.slice W (g.take b).length r) (g.take b) B:=by rw[p];exact G
    obtain⟨z,U,ap,dv,Q⟩:=G6 ja bu b6 (ty':=ty') eb v (by rw[p];omega) ae dn;rw[p]at Q ap;have di:B.length+m.length=(b+f.length)*d.size:=by
     rw[<-G.rel.1,<-v.rel.1,io G.IY,io v.IY,p,co]
    have al:(fw (g.take b++f)).length=(b+f.length)*d.size:=by
     rw[io S,aT,p,C]
    have Y:gJ w.heap μ (fw (g.take b++f)) (((B++m).toArray++Builtin.zeroCells z.cells (U-(b+f.length))).toList.take (fw (g.take b++f)).length):=by
     have ht:(B++m).take ((b+f.length)*d.size)=B++m:=bJ dB;rw[al,Array.toList_append,dj,c8 dB,ht,m8];exact G.rel.append v.rel
    have an:(g.take b++f).length=b+f.length:=by rw[aT,p]
    obtain⟨aE,aN,aX⟩:=s.change (L':=⟨ep'+1,w.heap.size,U,A.sz⟩) (hp':=w.heap.push (.cells ((B++m).toArray++Builtin.zeroCells z.cells (U-(b+f.length))) M)) Z bC dA
     (by intro i et _;rw[Array.getElem?_push];simp;omega) (.inr ⟨dB,.inr (au _)⟩) (by
     intro c7;refine⟨rfl,dB,λ_=>⟨⟨_,M,dA,?_,Y.ext c7⟩,by simp[p];omega,dA,S,bS⟩,λk=>by simp at k⟩;rw[CQ di dv ap,C])
    refine⟨_,_,_,Q,?_,aE,⟨aN,rfl,rfl,rfl⟩,aX⟩;rw[an];exact .arr _ _ 0 _ false _ _ U (jx _ _ _) (au _) ap (λ_=>⟨dA,dA,dA⟩)
  ·simp at K
end
end
noncomputable section
section
variable {P:ai}{cx:Ctx}{base:Nat}{w:World}{μ:Mu}{h h':H}{mask:Nat}{e:Env}{a:Act}{o:Oper}{hp hp':af Obj}{p:T}
def qK(cx:Ctx)(base:Nat)(w:World)(μ:Mu)(f:Nat)(g:Result am)(i:T)(h':H):Prop:=
 ∃d b c,g= .ok d b/\fD b.heap c i d/\St cx base b.heap c h'/\pN w μ b c/\yg μ c f h'.size
def qK.pure{b:Result am}{d:T}{c:am}(g:St cx base w.heap μ h)(hr:b= .ok c w)(f:fD w.heap μ d c):qK cx base w μ h.size b d h:=
 ⟨c,w,μ,hr,f,g,pN.refl _ _,yg.refl _ _⟩
def uQ(ja:jg P cx){f:ab}{g:Ty}(b:pM cx f=some g):∃c,P.underlying f=some (.slice c)/\cx.ty c=some g:=by
 obtain⟨l,j,b⟩:=dJ.1 b;obtain⟨m,i,d⟩:=kR (ja.ty _ _ j);cases k:l.u<;>rw[k]at b d<;>simp at b;have:=mE d;subst this;exact⟨_,i,b⟩
def yH(b:List Nat):fN (λc=>some (T.int .u8 (.ofNat c))) b=some (b.map λc=>T.int .u8 (.ofNat c)):=by
 induction b with
 |nil=>rfl
 |cons f b d=>rw[jH,d];rfl
def rE(b:List Nat):fw (b.map λc=>T.int .u8 (.ofNat c))=b.map λc=>T.int .u8 (.ofNat c):=by
 induction b with
 |nil=>rfl
 |cons f b d=>rw[aV,mc,d];rfl
def JJ(ja:jg P cx)(O:St cx base w.heap μ h){C:ab}{n:T}{f:am}{j:List T}{i:Nat}(z:fD w.heap μ n f)(c:mV cx h C n=some j)(k:fits i j=true):
 ∃s,TM P w μ i C f j s:=by
 obtain⟨Q,L,c⟩:=dJ.1 c;obtain⟨R,q,r⟩:=kR (ja.ty _ _ L);cases M:Q.u<;>rw[M]at c r<;>simp at c
 ·have:=sx r;subst this;have G:∃d,n= .str d:=by cases n<;>first|exact⟨_,rfl⟩|(simp at c)
  obtain⟨d,rfl⟩:=G;have c:fN (λf=>some (T.int .u8 (.ofNat f))) d=some j:=c;rw[yH]at c;simp only[ar]at c;subst c;obtain⟨rfl,F⟩:=z.lU;cases d with
  |nil=>
   have A:bytesOf []=ByteArray.empty:=rfl;refine⟨[],⟨⟨.inr q,λV=>by simp[Builtin.lenOf];rfl,?_,?_,dA,dA⟩,gJ.nil,dA,by simp[fw]⟩⟩
   ·simp[Builtin.firstCells,A]
   ·simp[Builtin.firstCells,A]
  |cons g d=>
   have K:i=1:=by
    have k:Nat.beq 1 i=true:=k;exact(aD k).symm
   subst K;have x:=Src.ofString w q (bytesOf (g::d));have v:(bytesOf (g::d)).size=((g::d).map λf=>T.int .u8 (.ofNat f)).length:=by rw[jU];simp
   rw[v]at x;refine⟨_,x,?_,by intro D b;simp only[List.mem_map]at b;obtain⟨_,_,rfl⟩:=b;rfl,by rw[rE];intro D b;simp only[List.mem_map]at b;obtain⟨_,_,rfl⟩:=b;rfl⟩;rw[rE];refine⟨by rw[byteCells_length,v],λB D b=> ?_⟩;rw[aU]at b;cases l:(g::d)[B]? with
   |none=>rw[l]at b;simp at b
   |some t=>
    rw[l]at b;simp at b;subst b;have I:t<256:=F t (ax l);have:(byteCells (bytesOf (g::d)))[B]? =some (.int .u8 (t:Int)):=by
     simp only[byteCells,bytesOf,aU,dj,l,cN,jG I]
    rw[List.getD,this];exact .int _ _
 ·rename_i S;have:=mE r;subst this;obtain⟨U,m⟩:=oy (P:=P) O z c;have y:=Ln k m.IY;have N:A4 P w μ f j i:=⟨y,m.scalar,m.form⟩;obtain⟨s,J,E⟩:=N.src q;exact⟨s,J,E,y,m.scalar⟩
def En(g:oX p=true){b:am}(hp:fD w.heap μ p b):∃f d c,b= .slice f d c/\d<=c:=by
 cases hp<;>simp[oX]at g
 ·exact⟨_,_,_,rfl,au _⟩
 ·exact⟨_,_,_,rfl,by assumption⟩
 ·exact⟨_,_,_,rfl,aw _⟩
 ·exact⟨_,_,_,rfl,by assumption⟩
def xr(ja:jg P cx)(j:St cx base w.heap μ h){I J ty':ab}{L k:T}{c B:am}(hp:fD w.heap μ p c)(aA:fD w.heap μ L B)(b:iO cx h I J p L=some (.val k h')):
 qK cx base w μ h.size ((Builtin.append_ #[I,J] ty' #[c,B]).run P w) k h':=by
 replace b:=dJ.1 b;obtain⟨f,aN,b⟩:=b;replace b:=dJ.1 b;obtain⟨l,aX,b⟩:=b;replace b:=dR.1 b;obtain⟨Z,b⟩:=b;rw[ju]at b;obtain⟨bs,E,F⟩:=uQ ja aN;obtain⟨a6,y⟩:=JJ (P:=P) ja j aA aX Z;cases l with
 |nil=>
  have b:gD (oX p) (some (p,h))=some (k,h'):=b;obtain⟨aE,b⟩:=dR.1 b;simp only[ar,ay]at b;obtain⟨rfl,rfl⟩:=b;have ap:a6=[]:=bm (by have:=y.src.newsLen;simpa using this);subst ap;obtain⟨ad,g,t,rfl,K⟩:=En aE hp;exact qK.pure j (N6 (ty':=ty') ja E F y.src K) hp
 |cons s l=>
  have av:s::l≠ []:=dA;have bB:0<(s::l).length:=dA;have C:∀{es:List T} {v:Nat},A4 P w μ c es v->(∀ad g t,c= .slice ad g t->t=g)->h.jc f.size f.bytes es (s::l)=some (k,h')->qK cx base w μ h.size ((Builtin.append_ #[I,J] ty' #[c,B]).run P w) k h':=by
   intro es v d W i;have al:fits f.size es=true:=by
    unfold H.jc at i;simp only[pT,dX,iE,jE]at i;obtain⟨_,i⟩:=dR.1 i;obtain⟨_,i⟩:=dR.1 i;exact(dR.1 i).1
   have x:A4 P w μ c es f.size:=⟨Ln al d.IY,d.scalar,d.form⟩;obtain⟨ad,cap,bH,G,K,_⟩:=x.form;obtain⟨bN,a7,a8⟩:=x.first;subst G;have:=W _ _ _ rfl;obtain⟨Q,bi,bk,r1,r2,r3,r4,r5⟩:=Bj ja j E F (ty':=ty') (ad:=ad) (cap:=cap) ⟨a7,a8,x.IY,x.scalar⟩ y dz i;exact⟨Q,bi,bk,r1,r2,r3,r4,r5⟩
  have G:(∃es m,p= .dM es m)\/∃A u o g m,p= .arr A u o g m:=by
   cases p<;>first|(exact .inl ⟨_,_,rfl⟩)|(exact .inr ⟨_,_,_,_,_,rfl⟩)|(simp[H.append]at b)
  rcases G with⟨es,m,rfl⟩|⟨A,u,z,g,m,rfl⟩
  ·cases es with
   |nil=>
    have b:h.jc f.size f.bytes [] (s::l)=some (k,h'):=b;obtain⟨ad,rfl⟩:=hp.ui;obtain⟨v,d⟩:=oy (P:=P) (es:=[]) j hp rfl;exact C d (by intro _ _ _ n;simp at n;omega) b
   |cons M es=>
    have b:gD m (h.jc f.size f.bytes (M::es) (s::l))=some (k,h'):=b;obtain⟨an,b⟩:=dR.1 b;obtain⟨v,d⟩:=oy (P:=P) (es:=M::es) j hp rfl;refine C d ?_ b;intro ad g t n;obtain⟨_,_,_,_,_,_,_,D,_,_,_,ae,_⟩:=hp.uj;rw[D]at n;simp at n;have:=ae an;omega
  ·cases m with
   |true=>
    have b:(dU (h.jf (.arr A u z g true)) λes=>h.jc f.size f.bytes es (s::l))=some (k,h'):=b;obtain⟨es,q,b⟩:=dJ.1 b;obtain⟨v,d⟩:=oy (P:=P) j hp q;refine C d ?_ b;intro ad bC t n;obtain⟨N,bn,bp,D,U,_,_,X⟩:=hp.sS;rw[D]at n;simp at n;have Y:u=N.ep:=by
     unfold H.jf at q;obtain⟨O,V,q⟩:=dJ.1 q;obtain⟨bS,S,bT,bu,d,R⟩:=O;have q:gD (Nat.beq S u) (@Bool.rec (λ_=>aa (List T)) (dU (jX z R) λr=>takeN g r) none d)=some es:=q;have bz:=aD (dR.1 q).1;have:=(j.KN U V).2;simp only[]at this;omega
    have:=(X Y).1 rfl;omega
   |false=>
    cases z with
    |succ z=>exact absurd b (by simp[H.append])
    |zero=>exact Dl ja j E F (ty':=ty') hp y av b
def GE(ja:jg P cx)(M:St cx base w.heap μ h){N a7:ab}{f:T}{C:am}(hp:fD w.heap μ p C)(c:Di cx h N p=some (.val f h')):
 qK cx base w μ h.size ((Builtin.clear_ #[N] a7 #[C]).run P w) f h':=by
 replace c:=dJ.1 c;obtain⟨s,b8,c⟩:=c;obtain⟨dd,W,bN⟩:=uQ ja b8;have L:∀{t:aa Addr} {D:Nat},C= .slice t 0 D->f= .undef->h'=h->qK cx base w μ h.size ((Builtin.clear_ #[N] a7 #[C]).run P w) f h':=by
  intro t D V d bT;subst V d bT;refine qK.pure M ?_ .undef;cases t<;>simp[Builtin.clear_,run_underlying W]
 cases p<;>simp only[reduceCtorEq]at c
 ·rename_i j bs;cases j with
  |nil=>
   simp only[ar,lN.val.injEq]at c;obtain⟨t,rfl⟩:=hp.ui;exact L rfl c.1.symm c.2.symm
  |cons x j=>simp at c
 ·simp only[ar,lN.val.injEq]at c;obtain⟨t,g,D,V,I⟩:=En (p:= .gu) rfl hp;cases hp;exact L rfl c.1.symm c.2.symm
 ·rename_i b bn m g bs;obtain⟨i,t,D,rfl,S,dk,dm,bH⟩:=hp.sS;cases g with
  |zero=>
   have c:some (lN.val .undef h)=some (.val f h'):=c;simp only[ar,lN.val.injEq]at c;exact L rfl c.1.symm c.2.symm
  |succ g=>
   replace c:=dJ.1 c;obtain⟨a8,U,c⟩:=c;obtain⟨sz,O,c6,bp,a6,q⟩:=a8;have c:(gD (Nat.beq O bn)<|gD (Nat.beq sz s.size) (@Bool.rec (λ_=>aa lN)
    (dU (kT q m (py s.kf (g+1))) λj=>dU (gY (Nat.succ c6)) λc7=>
      dU (h.put b ⟨sz,O,c7,bp,false,j⟩) λh'=>some (.val .undef h')) none a6))=some (.val f h'):=c
   replace c:=dR.1 c;obtain⟨X,c⟩:=c;replace c:=dR.1 c;obtain⟨an,c⟩:=c;cases a6 with
   |true=>simp at c
   |false=>
    replace c:=dJ.1 c;obtain⟨j,r,c⟩:=c;simp only[iE,dX]at c;replace c:=dJ.1 c;obtain⟨de,b6,c⟩:=c;simp only[ar,lN.val.injEq]at c;obtain⟨rfl,rfl⟩:=c;have X:=aD X;have an:=aD an;obtain⟨n,Q,bu⟩:=M.B2 S U rfl;simp only[]at Q bu;obtain⟨_,_,F⟩:=bH dz;have F:=F dz;subst F;obtain⟨v,c4,Z,al,E⟩:=n.row;have z:=n.size;simp only[]at z E;obtain⟨B,b9,dn,av,aN,aE,A,ds,dv⟩:=(ja.ty _ _ bN).zero w;rw[nT]at r;obtain⟨I,r⟩:=oI r;rw[List.length_replicate]at I r;have G:=io z;have ca:(fw (List.replicate (g+1) s.kf)).length=(g+1)*i.sz:=by
     rw[io (sz:=i.sz) (by intro f d;rw[bU d,A,aE];omega),List.length_replicate]
    have Y:fw j=(fw q).take (m*i.sz)++fw (List.replicate (g+1) s.kf)++(fw q).drop (m*i.sz+(g+1)*i.sz):=by
     rw[r,m8,m8,rD z,<-co,pK z]
    have ap:∀f∈j,f.cells.length=i.sz:=by
     intro f d;rw[r]at d;rcases List.mem_append.1 d with d|d
     ·rcases List.mem_append.1 d with d|d
      ·exact z f (bF d)
      ·rw[bU d,A,aE];omega
     ·exact z f (bG d)
    have b7:∀f∈fw j,f.scalar=true:=by
     intro f d;rw[Y]at d;rcases List.mem_append.1 d with d|d
     ·rcases List.mem_append.1 d with d|d
      ·exact n.scalar f (bF d)
      ·obtain⟨y,K,d⟩:=List.mem_flatMap.1 d;rw[bU K,A]at d;exact aN f d
     ·exact n.scalar f (bG d)
    have J:j.length=q.length:=by rw[r];simp;omega
    have bS:(fw j).length=(fw q).length:=by rw[io ap,G,J]
    have bB:(fw q).length<=v.size:=by
     rw[G,al];exact aW _ n.room
    have di:m*i.sz+(g+1)*i.sz<=(fw q).length:=by
     rw[G,<-co];exact aW _ I
    have aX:B.cells.size=i.sz:=by have:=(av w.heap μ).1;simp only[cq]at this;omega
    have cp:∃l:List am,(Builtin.zeroCells B.cells (g+1)).toList=l/\l.length=(g+1)*i.sz/\gJ w.heap μ (fw (List.replicate (g+1) s.kf)) l:=by
     have bC:gJ w.heap μ (fw (List.replicate (g+1) s.kf)) (Builtin.zeroCells B.cells (g+1)).toList:=by
      by_cases R:B.cells.size=0
      ·have bi:fw (List.replicate (g+1) s.kf)=[]:=bm (by rw[ca,<-aX,R];simp);have bk:(Builtin.zeroCells B.cells (g+1)).toList=[]:=bm (by rw[cq,rF,R];simp);rw[bi,bk];exact gJ.nil
      ·rw[Builtin.zeroCells,zu (g+1) dz,r6,A];exact(av _ _).replicate (g+1)
     exact⟨_,rfl,by rw[cq,rF,aX],bC⟩
    obtain⟨l,cb,ce,aA⟩:=cp;have bX:∀u∈l,u.oneCell'=true:=aA.Fv (by
     intro f d;obtain⟨y,K,d⟩:=List.mem_flatMap.1 d;rw[bU K,A]at d;exact aN f d)
    have bz:gJ w.heap μ (fw j) ((v.toList.take (m*i.sz)++l++v.toList.drop (m*i.sz+l.length)).toArray.toList.take (fw j).length):=by
     rw[bS,Y];rw[dj,AF _ _ dz (by simpa using bB)];rw[ce];exact((E.take _).append aA).append (E.drop _)
    obtain⟨c9,cL,cX,c1,ea⟩:=zl M S U rfl Z (.inl Q) b6 (arr':=(v.toList.take (m*i.sz)++l++v.toList.drop (m*i.sz+l.length)).toArray)
     (by simp only[List.size_toArray,aT,List.length_take,List.length_drop,cq];rw[<-al];omega) (by rw[J];exact n.room) (by intro k;have:=n.tz k;simp only at this;rw[J];exact this) ap b7 bz
    refine⟨.tuple #[],_,c9,?_,.undef,cL,cX,c1⟩;have ae:=run_storeCells_at (P:=P) i.iS (m*i.sz) c4 l 0 v w Z (by simp only[Nat.add_zero];omega) bX;simp only[Nat.add_zero]at ae;simp[Builtin.clear_,run_underlying W,b9,cb,ae]
end
end
noncomputable section
section
variable {P:ai}{cx:Ctx}{base:Nat}{w:World}{μ:Mu}{h h':H}{mask:Nat}{e:Env}{a:Act}{o:Oper}{hp hp':af Obj}{p:T}
def St.grow(c:St cx base hp μ h)(l:hp.size<=hp'.size)(j:∀b,b<hp.size->hp'[b]? =hp[b]?):St cx base hp' μ h/\Ext hp μ hp' μ:=by
 have g:Ext hp μ hp' μ:=⟨l,λb i t=>⟨j b i,t⟩,λk f d=>⟨f,d,.inl rfl⟩,rfl,λb i _=>j b i⟩;refine⟨⟨c.wf,by have:=c.fit;omega,λk f d=> ?_,c.inj,c.low,c.apart,λb hr=>bE (c.qH b hr) l,λn m s=>(c.yN n m s).ext g⟩,g⟩;obtain⟨u,q,r⟩:=c.box k f d;exact⟨u,q,r.ext g (j _ (c.lt d))⟩
def GA(ja:jg P cx){D z:ab}{K:ah}(x:St cx base w.heap μ h)(r:ku w.heap μ mask e a.tmps)(ap:o.op= .convert D z K){m:T}
 (C:∃F,cx.ty D=some F) (hp:fP cx mask e K=some p) (b:Df cx z p=some m) (Y:h'=h):jn cx base w μ h.size ((execOp a.eval o).run P w) m h':=by
 subst Y;obtain⟨bB,C⟩:=C;obtain⟨bs,U,_⟩:=kR (ja.ty _ _ C);replace b:=dJ.1 b;obtain⟨F,a7,b⟩:=b;obtain⟨d,R,I⟩:=kR (ja.ty _ _ a7);have bk:=gU x r hp;cases a8:F.u<;>rw[a8]at b I<;>simp only[reduceCtorEq]at b;rename_i s;have:=mE I;subst this;have W:∃c,p= .str c:=by cases p<;>first|exact⟨_,rfl⟩|(simp at b)
 obtain⟨c,rfl⟩:=W;have b:(dU (cx.ty s) λE=>(match E.u with
  | .int l=>gD (Dx l .u8) (@List.rec Nat (λ_=>aa T) (some .gu) (λ_ _ _=>dU (fN (λg=>some (T.int .u8 (.ofNat g))) c) λA=>some (.dM A false)) c)
  |_=>none))=some m:=b
 replace b:=dJ.1 b;obtain⟨E,a6,b⟩:=b;obtain⟨bp,S,J⟩:=kR (ja.ty _ _ a6);cases bi:E.u<;>rw[bi]at b J<;>simp only[reduceCtorEq]at b;rename_i l;replace b:=dR.1 b;obtain⟨k,b⟩:=b;rw[xS]at k;subst k;have:=yl J;subst this;obtain⟨M,N⟩:=bk.lU
 let n:=(bytesOf c).size
 have B:∃q j,n<=q/\(execOp a.eval o).run P w= .ok (.value (.slice (some ⟨w.heap.size,0,none⟩) n q)) j/\j.heap.size=w.heap.size+1/\(∀t,t<w.heap.size->j.heap[t]? =w.heap[t]?)/\
  j.os=w.os/\j.tape=w.tape/\j.output=w.output/\∃fz,j.heap[w.heap.size]? =some (.cells ((bytesOf c).data.map (λi=>Value.int .u8 i.toNat)++Array.replicate (q-n) (.int .u8 0)) s fz):=by
  refine⟨grownCap w n 0 s,Lib.bytesWorld w s (bytesOf c),grownCap_ge w _ _ _,?_,Lib.bytesWorld_size _ _ _,λt Z=>Lib.bytesWorld_at_old _ _ _ t Z,rfl,rfl,rfl,_,Lib.bytesWorld_at_new _ _ _⟩;simp only[execOp,ap,Sem.run_bind,M,Lib.run_convert_string_bytes w D z s (bytesOf c) U R S,Result.andThen_ok,Sem.run_pure];rfl
 obtain⟨q,j,bu,B,bz,aN,av,aA,aE,fz,O⟩:=B;obtain⟨bn,V⟩:=x.grow (hp':=j.heap) dz aN;have G:n=c.length:=jU c;refine⟨_,j,μ,.inl B,?_,bn,⟨V,av,aA,aE⟩,yg.refl _ _⟩;cases c with
 |nil=>
  have b:some T.gu=some m:=b;simp at b;subst b;rw[G];exact .gu _ _
 |cons i c=>
  have b:(dU (fN (λg=>some (T.int .u8 (.ofNat g))) (i::c)) λA=>some (T.dM A false))=some m:=b;rw[yH]at b;simp only[dX,ar]at b;subst b;have an:¬nC μ w.heap.size:=by
   rintro(⟨g,L,Q,hl⟩|hr)
   ·have:=x.lt Q;omega
   ·have:=x.qH _ hr;omega
  have al:n=(c.map λg=>T.int .u8 (.ofNat g)).length+1:=by rw[G];simp
  rw[al];refine .dM (T.int .u8 (.ofNat i)) (c.map λg=>T.int .u8 (.ofNat g)) false w.heap.size 0 q 1 _ s fz an O dz dA ?_ ?_ ?_ ?_
  ·intro m b;rw[<-aV (f:=λg=>T.int .u8 (.ofNat g))]at b;obtain⟨g,_,rfl⟩:=List.mem_map.1 b;rfl
  ·rw[<-aV (f:=λg=>T.int .u8 (.ofNat g)),rE];simp[bytesOf]
  ·rw[<-aV (f:=λg=>T.int .u8 (.ofNat g)),rE];intro m b;obtain⟨g,_,rfl⟩:=List.mem_map.1 b;exact⟨rfl,.int _ _⟩
  ·rw[<-aV (f:=λg=>T.int .u8 (.ofNat g)),rE];intro l m b;rw[aU]at b;cases k:(i::c)[l]? with
   |none=>rw[k]at b;simp at b
   |some v=>
    rw[k]at b;simp at b;subst b;have aX:v<256:=N v (ax k);have ae:l<(i::c).length:=by
     rcases aF l (i::c).length with y|y
     ·exact y
     ·rw[aM y]at k;simp at k
    have X:((bytesOf (i::c)).data.map (λi=>Value.int .u8 i.toNat)++Array.replicate (q-n) (.int .u8 0))[0+l]? =some (.int .u8 (v:Int)):=by
     rw[Nat.zero_add,Array.getElem?_append_left (by simp[bytesOf];simpa using ae),Array.getElem?_map];have:(bytesOf (i::c)).data[l]? =some (UInt8.ofNat v):=by
      simp only[bytesOf,List.getElem?_toArray,aU,k,cN]
     rw[this];simp[jG aX]
    rw[bg,X];exact .int _ _
def FR{x:ah}(A:St cx base w.heap μ h)(r:ku w.heap μ mask e a.tmps)(U:o.op= .next x true){t:T}
 (b:Aj x cx mask e h=some (.val t h')):jn cx base w μ h.size ((execOp a.eval o).run P w) t h':=by
 unfold Aj at b;replace b:=dJ.1 b;obtain⟨p,hp,b⟩:=b;have bp:=gU A r hp;have aE:∃v,p= .iter v:=by cases p<;>first|exact⟨_,rfl⟩|(simp at b)
 obtain⟨v,rfl⟩:=aE;replace b:=dJ.1 b;obtain⟨l,al,b⟩:=b;replace b:=dR.1 b;obtain⟨a6,b⟩:=b;obtain⟨n,bC,M,D,Z⟩:=bp.PX;obtain⟨y,G,C⟩:=A.box v n D;rw[al]at G;simp at G;subst G;obtain⟨R,a8⟩:=C.iter a6;rcases a8 with⟨f,d,aA,O,N⟩|⟨bN,b7,b8,bB⟩|⟨b9,m,d,cb,bH,V,W,bS,bT⟩;rotate_left;rotate_left
 ·exfalso;rw[V]at b;simp at b
 rotate_left
 ·exfalso;cases hE:l.eY with
  |nil=>rw[hE]at b;simp at b
  |cons z ce=>
   obtain⟨k,u,ca,rfl,_⟩:=bB 0 z (by simp[hE]);rw[hE]at b;simp at b
 have X:n.ep=0:=by rw[<-C.ep];exact R
 have ae:=Z X;subst ae;rw[aA]at b;have S:(getObj n.iS).run P w= .ok (.stringIter (bytesOf f) d) w:=by simp[getObj,Sem.run,N]
 have b:(@Bool.rec (λ_=>aa lN) (some (.val (.tuple [.bool false]) h)) (dU (yF f d) λK=>two K λc wd=>dU (gY (Nat.add d wd)) λJ=>dU (gY (Nat.succ l.ver)) λL=>
  dU (h.put v ⟨l.sz,l.ep,L,l.exact,true,[.str f,.int .i64 (.ofNat J)]⟩) λh'=>
   some (.val (.tuple [.bool true,.int .i64 (.ofNat d),.int .i32 (.ofNat c)]) h')) (Nat.blt d (kW f)))=some (.val t h'):=b
 rw[jE]at b;cases s:Nat.blt d f.length with
 |false=>
  rw[s]at b;have b:some (lN.val (.tuple [.bool false]) h)=some (.val t h'):=b;simp at b;obtain⟨rfl,rfl⟩:=b;have aX:¬d<f.length:=by rw[<-aH];simp[s]
  refine jn.pure (c:= .tuple #[.bool false]) A ?_ (.tuple _ _ rfl λk t g=> ?_)
  ·simp[execOp,U,Instr.next,M,S,jU,aX]
  ·cases k with
   |zero=>simp at g;subst g;exact .bool _
   |succ k=>simp at g
 |true=>
  rw[s]at b;have F:d<f.length:=by rw[aH]at s;exact s
  have b:(dU (yF f d) λK=>two K λc wd=>dU (gY (Nat.add d wd)) λJ=>dU (gY (Nat.succ l.ver)) λL=>
   dU (h.put v ⟨l.sz,l.ep,L,l.exact,true,[.str f,.int .i64 (.ofNat J)]⟩) λh'=>
    some (lN.val (.tuple [.bool true,.int .i64 (.ofNat d),.int .i32 (.ofNat c)]) h'))=some (.val t h'):=b
  replace b:=dJ.1 b;obtain⟨⟨c,wd⟩,Q,b⟩:=b;simp only[kG,iE,dX]at b;replace b:=dJ.1 b;obtain⟨W,bi,b⟩:=b;simp only[ar,lN.val.injEq]at b;obtain⟨rfl,rfl⟩:=b;unfold yF at Q;obtain⟨q,B,j⟩:=dJ.1 Q;rw[kE]at B;have av:Utf8.decode (bytesOf f) d=(c,wd):=by
   cases E:Nat.blt q 128 with
   |false=>
    rw[E]at j;have s:q<256:=O q (ax B);have an:Nat.blt q 256=true:=by rw[aH];exact s
    rw[an]at j;have j:some (Utf8.decode (bytesOf f) d)=some (c,wd):=j;simpa using j
   |true=>
    rw[E]at j;have j:some (q,1)=some (c,wd):=j;simp only[ar,ay]at j;obtain⟨rfl,rfl⟩:=j;rw[aH]at E;have ap:q<256:=dz;have aN:(bytesOf f).get! d=UInt8.ofNat q:=by
     have bk:d<(bytesOf f).size:=by rw[jU];exact F
     show(bytesOf f).data[d]! =_;rw[getElem!_pos (bytesOf f).data d bk];simp only[bytesOf,List.getElem_toArray,List.getElem_map];have:f[d]=q:=by rw[az F]at B;simpa using B
     rw[this]
    unfold Utf8.decode;simp only[Nat.add_zero,aN,jG ap];rw[aq dz]
  have bn:∀I:Obj,(setObj n.iS I).run P w= .ok () {w with heap:=w.heap.setIfInBounds n.iS I}:=by
   intro I;simp[setObj,Sem.run,N]
  have Y:=A.lt D;obtain⟨bs,bu,bz⟩:=A.change (L':=n) (hp':=w.heap.setIfInBounds n.iS (.stringIter (bytesOf f) (d+wd))) D bi dA (by
   intro i b6 a7;rw[Array.getElem?_setIfInBounds_ne (bo a7)]) (.inl rfl) (by
   intro bX;refine⟨C.ep,C.sz,λk=>by simp at k,λ_=>⟨R,.inl ⟨f,d+wd,rfl,O,by simp[Y]⟩⟩⟩)
  refine⟨.tuple #[.bool true,.int .i64 d,.int .i32 c],{w with heap:=w.heap.setIfInBounds n.iS (.stringIter (bytesOf f) (d+wd))},_,.inl ?_,.tuple _ _ rfl λk t g=> ?_,bs,⟨bu,rfl,rfl,rfl⟩,bz⟩
  ·simp[execOp,U,Instr.next,M,S,jU,F,av,bn,goInt]
  ·match k,g with
   |0,g=>simp at g;subst g;exact .bool _
   |1,g=>simp at g;subst g;exact .int _ _
   |2,g=>simp at g;subst g;exact .int _ _
   |k+3,g=>simp at g
def Kx(ja:jg P cx)(g:St cx base w.heap μ h){l:af ab}{y:ab}{k q:T}{m:am}(i:fD w.heap μ k m)(b:Np cx h l.toList k=some (.val q h')):
 qK cx base w μ h.size ((Builtin.len_ l y #[m]).run P w) q h':=by
 replace b:=dJ.1 b;obtain⟨v,ht,b⟩:=b;replace b:=dJ.1 b;obtain⟨x,s,b⟩:=b;obtain⟨A,f,j⟩:=kR (ja.ty _ _ s);have ht:l[0]? =some v:=by rw[kE]at ht;simpa using ht
 cases t:x.u<;>rw[t]at b j<;>simp only[reduceCtorEq]at b
 ·have:=sx j;subst this;cases k<;>simp at b;obtain⟨c,rfl⟩:=fV.1 b;simp at c;subst c;obtain⟨d,_⟩:=i.lU;exact qK.pure g (by simp[Builtin.len_,ht,run_underlying f,d,jU,goInt]) (.int _ _)
 ·have:=mE j;subst this;cases k<;>simp at b
  ·obtain⟨c,rfl⟩:=fV.1 b;simp at c;subst c;rename_i n B;cases n with
   |nil=>obtain⟨r,d⟩:=i.ui;exact qK.pure g (by simp[Builtin.len_,ht,run_underlying f,d,goInt]) (.int _ _)
   |cons C n=>obtain⟨_,_,_,_,_,_,_,d,_⟩:=i.uj;exact qK.pure g (by simp[Builtin.len_,ht,run_underlying f,d,goInt]) (.int _ _)
  ·obtain⟨c,rfl⟩:=fV.1 b;simp at c;subst c;obtain⟨r,z,d⟩:=i.Ag;exact qK.pure g (by simp[Builtin.len_,ht,run_underlying f,d,goInt]) (.int _ _)
  ·obtain⟨c,rfl⟩:=fV.1 b;simp at c;subst c;obtain⟨_,_,_,d,_⟩:=i.sS;exact qK.pure g (by simp[Builtin.len_,ht,run_underlying f,d,goInt]) (.int _ _)
 ·have:=rj j;subst this;obtain⟨c,rfl⟩:=fV.1 b;simp at c;subst c;exact qK.pure g (by simp[Builtin.len_,ht,run_underlying f,goInt]) (.int _ _)
def Eh(ja:jg P cx)(u:St cx base w.heap μ h)(r:ku w.heap μ mask e a.tmps){c:Call}{F:Builtin}(al:o.op= .call c)(Z:c.callee= .builtin F){n:List T}(Y:p9 cx mask e c.args.toList=some n){v:T}
 (b:lA F cx h c.argTypes.toList n=some (.val v h')):jn cx base w μ h.size ((execOp a.eval o).run P w) v h':=by
 have d:=vL u r Y;have N:∀{m:Sem am},(execOp a.eval o).run P w=((m.run P w).andThen λv O=> .ok (Next.value v) O)->qK cx base w μ h.size (m.run P w) v h'->jn cx base w μ h.size ((execOp a.eval o).run P w) v h':=by
  intro m hr ae;obtain⟨z,O,an,S,U,V,W,X⟩:=ae;exact⟨z,O,an,.inl (by rw[hr,S];rfl),U,V,W,X⟩
 have A:(execOp a.eval o).run P w=(builtin F c.argTypes o.type (c.args.map λ| .const _=>true|_=>false) (c.args.map a.eval)).run P w:=by
  simp[execOp,al,resolve,Z,invoke];rfl
 have y:(c.args.map a.eval).toList=c.args.toList.map a.eval:=dA;cases F<;>simp only[lA,reduceCtorEq]at b
 case len=>
  match n,b,d with
  | [I],b,d=>
   obtain⟨g,t,f,l,k⟩:=d.mH;have j:t=[]:=bm (by have:=k.1;simpa using this.symm);subst j;have i:c.args.map a.eval= #[g]:=by apply cy;rw[y,f]
   refine N (m:=Builtin.len_ c.argTypes o.type #[g]) ?_ (Kx ja u l b);rw[A,i];simp[builtin]
 case append=>
  match n,b,d with
  | [I,R],b,d=>
   match L:c.argTypes.toList,b with
   | [E,Q],b=>
    obtain⟨g,t,f,l,k⟩:=d.mH;obtain⟨G,x,rfl,C,B⟩:=k.mH;have j:x=[]:=bm (by have:=B.1;simpa using this.symm);subst j;have i:c.args.map a.eval= #[g,G]:=by apply cy;rw[y,f]
    have K:c.argTypes= #[E,Q]:=by apply cy;rw[L]
    refine N (m:=Builtin.append_ #[E,Q] o.type #[g,G]) ?_ (xr ja u l C b);rw[A,i,K];simp[builtin]
 case clear=>
  match n,b,d with
  | [I],b,d=>
   match L:c.argTypes.toList,b with
   | [E],b=>
    obtain⟨g,t,f,l,k⟩:=d.mH;have j:t=[]:=bm (by have:=k.1;simpa using this.symm);subst j;have i:c.args.map a.eval= #[g]:=by apply cy;rw[y,f]
    have K:c.argTypes= #[E]:=by apply cy;rw[L]
    refine N (m:=Builtin.clear_ #[E] o.type #[g]) ?_ (GE ja u l b);rw[A,i,K];simp[builtin]
 case min=>
  match n,b,d with
  | [I,R],b,d=>
   obtain⟨M,rfl⟩:=fV.1 b;obtain⟨D,m,s,rfl,rfl,q⟩:=uO M;obtain⟨g,t,f,l,k⟩:=d.mH;obtain⟨G,x,rfl,C,B⟩:=k.mH;have j:x=[]:=bm (by have:=B.1;simpa using this.symm);subst j;rw[l.jV,C.jV]at f;have i:c.args.map a.eval= #[.int D m,.int D s]:=by apply cy;rw[y,f]
   rw[oO]at q;simp only[ar]at q;subst q;refine jn.pure u ?_ (.int _ _);rw[A,i];simp only[builtin,Builtin.min_,List.foldlM,Builtin.min2,Sem.run_bind,Sem.run_pure,Result.andThen_ok];have:=xP s m;by_cases J:s<m<;>simp[this,J]
 case max=>
  match n,b,d with
  | [I,R],b,d=>
   obtain⟨M,rfl⟩:=fV.1 b;obtain⟨D,m,s,rfl,rfl,q⟩:=uO M;obtain⟨g,t,f,l,k⟩:=d.mH;obtain⟨G,x,rfl,C,B⟩:=k.mH;have j:x=[]:=bm (by have:=B.1;simpa using this.symm);subst j;rw[l.jV,C.jV]at f;have i:c.args.map a.eval= #[.int D m,.int D s]:=by apply cy;rw[y,f]
   rw[oO]at q;simp only[ar]at q;subst q;refine jn.pure u ?_ (.int _ _);rw[A,i];have:=xP m s;by_cases J:m<s<;>simp[builtin,Builtin.max_,Builtin.max2,this,J]
end
end
end Go.TI
