/- Texts TiRead3 to TiAppend2. -/
import Derived.Test.YtmaeadedikngoaaGreatDoorA1
import Derived.Great.FillDense
import Derived.Laws.Tables
import Derived.Great.BuildSlice
import Derived.Deep.AppendSrc
import Derived.Laws.AppendOwn
set_option linter.unusedVariables false
set_option linter.unusedSimpArgs false
set_option linter.defProp false
set_option maxRecDepth 100000
set_option maxHeartbeats 8000000
namespace Go.TI
noncomputable section
section
variable {P:ai}{cx:Ctx}{base:Nat}{w:World}{μ:Mu}{h:H}{mask:Nat}{e:Env}{a:Act}{o:Oper}{hp:af Obj}
def Ag(iH:iM P cx){q j:ab}{s:ah}(g:St cx base w.heap μ h)(A:j1 w.heap μ mask e a.tmps)(n:o.op= .convert q j s){r:T}{k:H}{c:T}
 (d:∃i,cx.ty q=some i) (hp:fy cx mask e s=some c) (b:conv cx j c=some r) (x:k=h):iV cx base w μ h.size ((execOp a.eval o).run P w) r k:=by
 subst x;obtain⟨D,d⟩:=d;obtain⟨C,m,_⟩:=kr (iH.ty _ _ d);replace b:=dA.1 b;obtain⟨i,y,b⟩:=b;obtain⟨B,l,f⟩:=kr (iH.ty _ _ y);have p:=fT g A hp;cases z:i.u<;>rw[z]at b f<;>simp at b
 ·have:=xy f;subst this;cases c<;>simp at b;subst b;exact iV.pure g (by simp[execOp,n,convert,run_underlying m,run_underlying l,p.jD,Conv.intToInt]) (.int _ _)
 ·have:=rE f;subst this;cases c<;>simp at b;subst b;obtain⟨v,t⟩:=p.kZ;exact iV.pure g (by simp[execOp,n,convert,run_underlying m,run_underlying l,v]) (.str _ t)
def tZ{g:aa ah}{c:aa Nat}(p:St cx base w.heap μ h)(n:j1 w.heap μ mask e a.tmps)(b:jx cx mask e g=some c):
 (g=none/\c=none)\/∃d i f,g=some d/\c=some f/\a.eval d= .int i (f:Nat):=by
 cases g with
 |none=>left;simp[jx]at b;exact⟨rfl,b.symm⟩
 |some d=>
  right;have b:(dJ (fy cx mask e d) λj=>dJ (oZ j) λc=>some (some c))=some c:=b;replace b:=dA.1 b;obtain⟨j,m,b⟩:=b;replace b:=dA.1 b;obtain⟨f,l,b⟩:=b;simp at b;subst b;obtain⟨i,k⟩:=mW l;exact⟨d,i,f,rfl,rfl,(k▸fT p n m).jD⟩
def run_sliceBound{d:am}{j:ak}{b:Nat}(i:d= .int j (b:Nat)){c:Nat}(k:b<=c)(f:BoundsCode):(Instr.sliceBound d c f).run P w= .ok b w:=by
 subst i;have g:0<=((b:Nat):Int)/\((b:Nat):Int)<=(c:Int):=⟨dj,dj⟩;simp only[Instr.sliceBound,asIntOf,Sem.run_bind,Sem.run_pure,Result.andThen_ok,g,and_self,bo];simp
def pJ{isS:Bool}{len cap:Nat}{r p s:aa ah}{l d m:aa Nat}
 (n:(r=none/\l=none)\/∃c i b,r=some c/\l=some b/\a.eval c= .int i (b:Nat)) (u:(p=none/\d=none)\/∃c i b,p=some c/\d=some b/\a.eval c= .int i (b:Nat))
 (B:(s=none/\m=none)\/∃c i b,s=some c/\m=some b/\a.eval c= .int i (b:Nat)) (C:∀b,m=some b->b<=cap/\d=some b) (hl:fN l 0<=fN d len) (v:fN d len<=len) (G:len<=cap):
 (Instr.sliceBounds isS len cap (r.map a.eval) (p.map a.eval) (s.map a.eval)).run P w= .ok (fN l 0,fN d len,fN m cap) w:=by
 rcases B with⟨rfl,rfl⟩|⟨J,I,E,rfl,rfl,t⟩
 ·rcases u with⟨rfl,rfl⟩|⟨F,D,k,rfl,rfl,g⟩
  ·rcases n with⟨rfl,rfl⟩|⟨A,z,j,rfl,rfl,f⟩
   ·simp[Instr.sliceBounds,fN]
   ·have hl:j<=len:=hl;simp[Instr.sliceBounds,fN,run_sliceBound f hl]
  ·have v:k<=len:=v;have x:k<=cap:=dj;rcases n with⟨rfl,rfl⟩|⟨A,z,j,rfl,rfl,f⟩
   ·simp[Instr.sliceBounds,fN,run_sliceBound g x]
   ·have hl:j<=k:=hl;simp[Instr.sliceBounds,fN,run_sliceBound g x,run_sliceBound f hl]
 ·obtain⟨y,q⟩:=C E rfl;rcases u with⟨rfl,rfl⟩|⟨F,D,k,rfl,rfl,g⟩
  ·simp at q
  ·simp at q;subst q;rcases n with⟨rfl,rfl⟩|⟨A,z,j,rfl,rfl,f⟩
   ·simp[Instr.sliceBounds,fN,run_sliceBound g (au _),run_sliceBound t y]
   ·have hl:j<=k:=hl;simp[Instr.sliceBounds,fN,run_sliceBound g (au _),run_sliceBound t y,run_sliceBound f hl]
def DD(b:Nat):fN none b=b:=rfl
def yj{l:Type}{g j:List l}{f d:Nat}(m:f<=d)(i:I4 g f d=some j):d<=g.length/\j=(g.drop f).take (d-f):=by
 unfold I4 at i;obtain⟨n,b,c⟩:=dA.1 i;rw[ls]at b;split at b
 ·simp at b;subst b;rw[mX]at c;split at c
  ·rename_i k;simp at k c;refine⟨?_,c.symm⟩;omega
  ·simp at c
 ·simp at b
def B3{c:Nat}{b:List T}(f:∀d∈b,d.cells.length=c)(g i:Nat):eQ ((b.drop g).take i)=((eQ b).drop (g*c)).take (i*c):=by
 rw[oM f,qy (λd j=>f d (bA j))]
def FO{i:T}{g:List T}{n off j:Nat}{m:af am}{t:ab}{fz:Nat×Nat}{c f:Nat}{q:T}{l:List T}{full:Bool}{cap:Nat}(C:¬mN μ n)(y:hp[n]? =some (.cells m t fz))
 (r:∀b∈i::g,b.cells.length=j) (F:off+(eQ (i::g)).length<=m.size) (u:∀b∈eQ (i::g),uB b)
 (hr:∀(k:Nat) b,(eQ (i::g))[k]? =some b->fa hp μ b (m.getD (off+k) Go.undef)) (E:c<=f) (z:f<=(i::g).length) (s:q::l=((i::g).drop c).take (f-c))
 (D:f-c<=cap) (v:full=true->cap=f-c):fa hp μ (.dC (q::l) full) (.slice (some ⟨n,off+c*j,none⟩) (f-c) cap):=by
 have A:l.length+1=f-c:=by
  have:=bM List.length s;simp only[aZ,List.length_take,List.length_drop]at this;simp only[aZ]at z;omega
 have x:=f9 r;have p:=B3 r c (f-c);rw[<-s]at p;have B:∀b∈q::l,b∈i::g:=λb d=>bA (bw (s▸d));rw[<-A];refine .dC q l full n (off+c*j) cap j m t fz C y dj (λk=>by rw[v k];omega) (λb d=>r b (B b d)) ?_ ?_ ?_
 ·rw[p];simp only[List.length_take,List.length_drop];have:c*j+(f-c)*j<=(eQ (i::g)).length:=by
   rw[x,<-bY];exact aW _ dj
  omega
 ·intro b d;rw[p]at d;exact u b (bA (bw d))
 ·intro k b d;rw[p,bJ]at d;split at d
  ·rw[bG]at d;have:=hr _ b d;rwa[<-cz]at this
  ·simp at d
def Az(d:List Nat)(b c:Nat):(bytesOf d).extract b c=bytesOf ((d.drop b).take (c-b)):=by
 apply ByteArray.ext;have:((bytesOf d).extract b c).data.toList=((bytesOf d).data.toList.drop b).take (c-b):=Lib.extract_data _ _ _;apply cq;rw[this];simp[bytesOf,List.map_take,List.map_drop]
def FR(iH:iM P cx){t:ab}{x:ah}{Q G R:aa ah}(S:St cx base w.heap μ h)(bi:o.op= .slice t x Q G R){c:Nat}{y:ab}(a6:P.underlying t=some (.array c y)){u:T}
 (bu:fa w.heap μ u (a.eval x)) {d g l:aa Nat}
 (bC:(Q=none/\d=none)\/∃n m f,Q=some n/\d=some f/\a.eval n= .int m (f:Nat)) (bH:(G=none/\g=none)\/∃n m f,G=some n/\g=some f/\a.eval n= .int m (f:Nat))
 (bN:(R=none/\l=none)\/∃n m f,R=some n/\l=some f/\a.eval n= .int m (f:Nat)) (bk:yX g l=true) (k:jg cx h (.array c y) u=true) {v:T}
 (b:oy (asSlice (.array c y) u) d g l=some v):iV cx base w μ h.size ((execOp a.eval o).run P w) v h:=by
 unfold jg at k;simp only at k;cases K:cx.ty y with
 |none=>rw[K]at k;simp at k
 |some ap=>
  rw[K]at k;have bs:=(iH.ty _ _ K).run_sizeOf w;have hp:∃p r al j,u= .ptr p r al j:=by cases u<;>first|exact⟨_,_,_,_,rfl⟩|(simp at k)
  obtain⟨p,r,al,j,rfl⟩:=hp;simp only at k;cases F:h.get p with
  |none=>rw[F]at k;simp at k
  |some U=>
   rw[F]at k;obtain⟨bS,aE,cb,b8,ca,aA⟩:=U;simp only[aB,bL]at k;obtain⟨⟨⟨⟨⟨⟨L,an⟩,M⟩,N⟩,bz⟩,bB⟩,O⟩:=k;have L:=aC L;have an:=aC an;have M:=aC M;have N:=aC N;have O:=aC O;rw[jq]at O;subst M N bz bB;obtain⟨i,bT,bn,s,X,aX⟩:=bu.oQ;obtain⟨U,E,D⟩:=S.box p i s;rw[F]at E;simp only[ar]at E;subst E;have b6:aE=i.ep:=D.ep;have av:bS=i.sz:=D.sz;have b7:i.cap=aA.length:=(D.plain rfl).sh rfl;have W:=aX dj;simp at W;subst W;have b:uI p r 0 c false (fN d 0) (fN g c) l=some v:=b;unfold uI at b;replace b:=dI.1 b;obtain⟨I,b⟩:=b;replace b:=dI.1 b;obtain⟨z,b⟩:=b;have I:=bm I;have z:=bm z;simp only[iq,dO,Nat.add_eq,Nat.zero_add,Nat.sub_eq]at b;have ae:(∀f,l=some f->f=fN g c)->
    (execOp a.eval o).run P w= .ok (.value (.slice (some (if fN l c=fN d 0 then⟨i.iD,0,none⟩else(⟨i.iD,0,none⟩:Addr).add (fN d 0*ap.size))) (fN g c-fN d 0) (fN l c-fN d 0))) w:=by
    intro aN;have s:=pJ (P:=P) (w:=w) (isS:=false) (len:=c) (cap:=c) bC bH bN (by
     intro f Y;have q:=aN f Y;cases g with
     |none=>subst Y;simp[yX]at bk
     |some m=>
      have q:f=m:=q;subst q;have b9:f<=c:=z;exact⟨dj,rfl⟩) I z (au _)
    simp[execOp,bi,Instr.sliceAt,run_underlying a6,bn,Instr.sureAddr,s,bs]
   have V:∀B:Nat,(⟨i.iD,0,none⟩:Addr).add (B*ap.size)=⟨i.iD,B*i.sz,none⟩:=by
    intro B;rw[kh,<-L,av];simp
   cases Z:l with
   |none=>
    subst Z;have A:=ae dp;have b:some (T.arr p r (fN d 0) (fN g c-fN d 0) false)=some v:=b;simp only[ar]at b;subst b;refine iV.pure S A (.arr _ _ _ _ _ i _ _ s X ?_ λa7=>⟨dp,λ_=> ?_,λJ=> ?_⟩)
    ·show fN g c-fN d 0<=c-fN d 0;omega
    ·show fN d 0+(c-fN d 0)=i.cap;omega
    ·have J:c-fN d 0≠0:=J;have C:¬fN none c=fN d 0:=by show¬c=fN d 0;omega
     rw[ao C,V]
   |some f=>
    subst Z;have b:fP (Nat.beq f (fN g c)) (some (T.arr p r (fN d 0) (fN g c-fN d 0) true))=some v:=b;replace b:=dI.1 b;obtain⟨q,b⟩:=b;have q:=aC q;simp only[ar]at b;subst b;have A:=ae (by intro m a8;simp at a8;omega);have bl:fN (some f) c=fN g c:=q;rw[bl]at A;refine iV.pure S A (.arr _ _ _ _ _ i _ _ s X (au _) λa7=>⟨λ_=>rfl,dp,λJ=> ?_⟩);have C:¬fN g c=fN d 0:=dj;rw[ao C,V]
def EO(iH:iM P cx){t:ab}{x:ah}{di c4 b7:aa ah}(r:St cx base w.heap μ h)(Z:j1 w.heap μ mask e a.tmps)(bC:o.op= .slice t x di c4 b7){q:T}{bl:H}
 (j:BR t x di c4 b7 cx mask e h=some (.val q bl)):iV cx base w μ h.size ((execOp a.eval o).run P w) q bl:=by
 replace j:=dA.1 j;obtain⟨dk,ey,j⟩:=j;replace j:=dA.1 j;obtain⟨p,hp,j⟩:=j;replace j:=dI.1 j;obtain⟨m,j⟩:=j;replace j:=dA.1 j;obtain⟨g,eb,j⟩:=j;replace j:=dA.1 j;obtain⟨i,ea,j⟩:=j;replace j:=dA.1 j;obtain⟨F,eh,j⟩:=j;replace j:=dI.1 j;obtain⟨dd,j⟩:=j;obtain⟨f,rfl⟩:=fH.1 j;have b8:=tZ r Z eb;have b9:=tZ r Z ea;have bk:=tZ r Z eh;obtain⟨d,bu,av⟩:=kr (iH.ty _ _ ey);have W:=fT r Z hp;by_cases cb:∃n aA,dk.u= .array n aA
 ·obtain⟨n,aA,bi⟩:=cb;rw[bi]at m av f;have:=qq av;subst this;exact FR iH r bC bu W b8 b9 bk dd m f
 unfold jg at m;cases bi:dk.u<;>rw[bi]at m av f<;>(try simp at m)
 ·
  have:=rE av;subst this;replace f:oy p g i F=some q:=f;cases p<;>simp at m;rename_i S;obtain⟨G,dm⟩:=W.kZ;unfold oy at f;cases E:F with
  |some k=>rw[E]at f;simp at f
  |none=>
   subst E;have f:fP (Nat.ble (fN g 0) (fN i (kx S))) (dJ (I4 S (fN g 0) (fN i (kx S))) λZ=>some (T.str Z))=some q:=f;rw[jq]at f;replace f:=dI.1 f;obtain⟨v,f⟩:=f;have v:=bm v;replace f:=dA.1 f;obtain⟨Y,bN,f⟩:=f;obtain⟨aX,rfl⟩:=yj v bN;simp at f;subst f;have ef:b7=none:=by rcases bk with⟨K,_⟩|⟨_,_,_,_,K,_⟩;exact K;simp at K
   subst ef;have D:=pJ (P:=P) (w:=w) (isS:=false) (len:=S.length) (cap:=S.length) b8 b9 bk dp v aX (au _);simp only[Option.map_none]at D;refine iV.pure (c:= .string ((bytesOf S).extract (fN g 0) (fN i S.length))) r ?_ ?_
   ·simp[execOp,bC,Instr.sliceAt,Instr.slice,run_underlying bu,G,jB,D]
   ·rw[Az];exact .str _ λc V=>dm c (bA (bw V))
 ·rename_i aA;have:=lP av;subst this;replace f:oy p g i F=some q:=f;cases bS:cx.ty aA with
  |none=>rw[bS]at m;simp at m
  |some ae=>
   rw[bS]at m;have eu:=(iH.ty _ _ bS).run_sizeOf w;have eo:∀k,F=some k->i.isSome=true:=by
    intro k a7;subst a7;cases i with
    |none=>simp[yX]at dd
    |some K=>rfl
   have O:∀(B:aa Addr) (len cap:Nat),a.eval x= .slice B len cap->len<=cap->fN g 0<=fN i len->fN i len<=len->(∀k,F=some k->k=fN i len)->
    (execOp a.eval o).run P w= .ok (.value (.slice (if fN F cap=fN g 0 then B else B.map (·.add (fN g 0*ae.size))) (fN i len-fN g 0) (fN F cap-fN g 0))) w:=by
    intro B len cap J V U N ap;have D:=pJ (P:=P) (w:=w) (isS:=true) (len:=len) (cap:=cap) b8 b9 bk (by
     intro k a7;have a8:=eo k a7;have z:=ap k a7;cases i with
     |none=>simp at a8
     |some K=>
      have z:k=K:=z;subst z;have N:k<=len:=N;exact⟨dj,rfl⟩) U N V
    simp[execOp,bC,Instr.sliceAt,Instr.slice,run_underlying bu,J,D,eu]
   unfold oy at f;cases p<;>simp at m
   ·rename_i l full;have f:sH l full (fN g 0) (fN i l.length) F=some q:=by rw[<-jq];exact f
    unfold sH at f;replace f:=dI.1 f;obtain⟨v,f⟩:=f;have v:=bm v;replace f:=dA.1 f;obtain⟨Y,bN,f⟩:=f;obtain⟨aX,R⟩:=yj v bN;cases l with
    |nil=>
     obtain⟨B,G⟩:=W.tu;have et:Y=[]:=by rw[R];simp
     rw[et]at f;have c1:fN i 0=0:=by simpa using aX
     have c7:fN g 0=0:=by simp only[cR]at v;omega
     cases E:F with
     |none=>
      subst E;have f:some (T.dC [] false)=some q:=f;simp at f;subst f;have:=O B 0 0 G (au _) dj dj dp;refine iV.pure r this ?_;rw[c7,c1,DD];exact .mV _ _
     |some k=>
      subst E;have f:fP (Nat.beq k (fN i 0)) (some (T.dC [] false))=some q:=f;replace f:=dI.1 f;obtain⟨z,f⟩:=f;have z:=aC z;simp at f;subst f;have:=O B 0 0 G (au _) dj dj (by intro K Q;simp at Q;omega);refine iV.pure r this ?_;have ec:fN (some k) 0=0:=by show k=0;omega
      rw[c7,c1,ec];exact .mV _ _
    |cons L l=>
     obtain⟨eC,off,cap,eA,eB,eD,fz,G,c9,cL,c6,dv,bT,a8,V,hr⟩:=W.tv;have de:eA=ae.size:=by
      have m:Nat.beq (kx L.cells) ae.size=true:=m;have:=aC m;rw[jq]at this;rw[<-this];exact(bT L dp).symm
     have a6:fN i (l.length+1)<=l.length+1:=by simpa using aX
     have aN:fN g 0<=fN i (l.length+1):=by simpa using v
     cases E:F with
     |none=>
      subst E;have s:=O _ _ _ G c6 aN a6 dp;cases Y with
      |nil=>
       have f:some T.fO=some q:=f;simp at f;subst f;have b6:fN i (l.length+1)-fN g 0=0:=by
        have:=bM List.length R;simp only[cR,List.length_take,List.length_drop,aZ]at this;omega
       rw[b6]at s;exact iV.pure r s (.fO _ _)
      |cons y ca=>
       have f:some (T.dC (y::ca) (@Bool.rec (λ_=>Bool) false (Nat.beq (fN i (L::l).length) (kx (L::l))) full))=some q:=f;have er:fN g 0<fN i (l.length+1):=by
        have:=bM List.length R;simp only[aZ,List.length_take,List.length_drop]at this;omega
       have I:¬cap=fN g 0:=dj;simp only[DD,I,br,cH,kh]at s;refine iV.pure r s ?_;simp only[ar]at f;rw[<-f,<-de];have:=FO (full:= @Bool.rec (λ_=>Bool) false (Nat.beq (fN i (L::l).length) (kx (L::l))) full) (cap:=cap-fN g 0) c9 cL bT a8 V hr aN (by simpa using a6) R dj (by
        intro D;cases full with
        |false=>simp at D
        |true=>
         have D:Nat.beq (fN i (L::l).length) (kx (L::l))=true:=D;have:=aC D;rw[jq]at this;simp only[aZ]at this;rw[dv rfl,this])
       exact this
     |some k=>
      subst E;have f:fP (Nat.beq k (fN i (L::l).length)) (@List.rec T (λ_=>aa T) (some (T.dC [] false)) (λ_ _ _=>some (T.dC Y true)) Y)=some q:=f;replace f:=dI.1 f;obtain⟨z,f⟩:=f;have z:=aC z;simp only[aZ]at z;have s:=O _ _ _ G c6 aN a6 (by intro K Q;simp at Q;omega);have bH:fN (some k) cap=fN i (l.length+1):=z;rw[bH]at s;cases Y with
      |nil=>
       have f:some (T.dC [] false)=some q:=f;simp at f;subst f;have b6:fN i (l.length+1)-fN g 0=0:=by
        have:=bM List.length R;simp only[cR,List.length_take,List.length_drop,aZ]at this;omega
       rw[b6]at s;exact iV.pure r s (.mV _ _)
      |cons y ca=>
       have f:some (T.dC (y::ca) true)=some q:=f;have er:fN g 0<fN i (l.length+1):=by
        have:=bM List.length R;simp only[aZ,List.length_take,List.length_drop]at this;omega
       have I:¬fN i (l.length+1)=fN g 0:=dj;simp only[I,br,cH,kh]at s;refine iV.pure r s ?_;simp only[ar]at f;rw[<-f,<-de];exact FO c9 cL bT a8 V hr aN (by simpa using a6) R (au _) (λ_=>rfl)
   ·
    obtain⟨B,cap,G⟩:=W.y8;have f:fP (Nat.beq (fN g 0) 0) (fP (Nat.beq (fN i 0) 0) (@Option.rec Nat (λ_=>aa T) (some T.fO) (λk=>fP (Nat.beq k 0) (some (T.dC [] false))) F))=some q:=f;replace f:=dI.1 f;obtain⟨U,f⟩:=f;replace f:=dI.1 f;obtain⟨N,f⟩:=f;have U:=aC U;have N:=aC N;cases E:F with
    |none=>
     subst E;have f:some T.fO=some q:=f;simp at f;subst f;have:=O B 0 cap G (aw _) dj dj dp;rw[U,N]at this;exact iV.pure r this (.fO _ _)
    |some k=>
     subst E;have f:fP (Nat.beq k 0) (some (T.dC [] false))=some q:=f;replace f:=dI.1 f;obtain⟨ap,f⟩:=f;have ap:=aC ap;simp at f;subst f;subst ap;have:=O B 0 cap G (aw _) dj dj (by intro K Q;simp at Q;omega);rw[U,N]at this;exact iV.pure r this (.mV _ _)
   ·rename_i b al X A full;obtain⟨M,B,C,G,D,bz,ce,bs⟩:=W.rQ;have f:uI b al X A full (fN g 0) (fN i A) F=some q:=f;unfold uI at f;replace f:=dI.1 f;obtain⟨v,f⟩:=f;replace f:=dI.1 f;obtain⟨aE,f⟩:=f;have v:=bm v;have aE:=bm aE;simp only[iq,dO]at f;have ds:M.sz=ae.size:=by
     cases bB:bl.get b with
     |none=>rw[bB]at m;simp at m
     |some dn=>
      rw[bB]at m;have m:Nat.beq dn.sz ae.size=true:=m;rw[<-aC m];exact(r.Jw D bB).1.symm
    have bn:∀c:Nat,C≠0->al=M.ep->B.map (·.add (c*ae.size))=some ⟨M.iD,(X+c)*M.sz,none⟩:=by
     intro c I J;rw[(bs J).2.2 I,<-ds];simp[kh,bY]
    cases E:F with
    |none=>
     subst E;have s:=O B A C G ce v aE dp;have f:(@Bool.rec (λ_=>aa T) (some (T.arr b al (X+fN g 0) (fN i A-fN g 0) false)) (fP (Nat.beq (fN i A) A) (some (T.arr b al (X+fN g 0) (fN i A-fN g 0) true))) full)=some q:=f;cases full with
     |false=>
      simp at f;subst f;refine iV.pure r s (.arr _ _ _ _ _ M _ _ D bz ?_ λJ=>⟨dp,λ_=> ?_,λI=> ?_⟩)
      ·show fN i A-fN g 0<=C-fN g 0;omega
      ·have:=(bs J).2.1 rfl;show X+fN g 0+(C-fN g 0)=M.cap;omega
      ·have I:C-fN g 0≠0:=I;have an:¬fN none C=fN g 0:=by show¬C=fN g 0;omega
       rw[ao an];exact bn _ dj J
     |true=>
      replace f:=dI.1 f;obtain⟨cp,f⟩:=f;have cp:=aC cp;simp at f;subst f;refine iV.pure r s (.arr _ _ _ _ _ M _ _ D bz ?_ λJ=>⟨λ_=> ?_,dp,λI=> ?_⟩)
      ·show fN i A-fN g 0<=C-fN g 0;omega
      ·have:=(bs J).1 rfl;show C-fN g 0=fN i A-fN g 0;omega
      ·have I:C-fN g 0≠0:=I;have an:¬fN none C=fN g 0:=by show¬C=fN g 0;omega
       rw[ao an];exact bn _ dj J
    |some k=>
     subst E;have f:fP (Nat.beq k (fN i A)) (some (T.arr b al (X+fN g 0) (fN i A-fN g 0) true))=some q:=f;replace f:=dI.1 f;obtain⟨z,f⟩:=f;have z:=aC z;simp at f;subst f;have s:=O B A C G ce v aE (by intro K Q;simp at Q;omega);have bH:fN (some k) C=fN i A:=z;rw[bH]at s;refine iV.pure r s (.arr _ _ _ _ _ M _ _ D bz (au _) λJ=>⟨λ_=>rfl,dp,λI=> ?_⟩);have an:¬fN i A=fN g 0:=dj;rw[ao an];exact bn _ dj J
 ·exact absurd ⟨_,_,bi⟩ cb
end
end
noncomputable section
section
variable {P:ai}{cx:Ctx}{base:Nat}{w:World}{μ:Mu}{h h':H}{mask:Nat}{e:Env}{a:Act}{o:Oper}{hp hp':af Obj}
def St.ej(g:St cx base hp μ h){b:Nat}{d:Loc}(f:μ b=some d):b<h.size:=by
 obtain⟨i,c,_⟩:=g.box b d f;rw[H.get_eq]at c;split at c
 ·assumption
 ·simp at c
def St.Oa(c:St cx base hp μ h):μ h.size=none:=by
 cases b:μ h.size with
 |none=>rfl
 |some d=>exact absurd (c.ej b) (Nat.lt_irrefl _)
def pR(μ:Mu)(d:Nat)(c:Loc):Mu:=⟨λb=>if b=d then some c else μ b,μ.oD⟩
def jd(μ:Mu)(c:Nat)(b:Loc):pR μ c b c=some b:=by simp[pR]
def iy(μ:Mu){c b:Nat}(d:Loc)(h:b≠c):pR μ c d b=μ b:=by simp[pR,h]
def H.cons(h:H)(b:iJ):H:=⟨h.size+1,h.low,b::h.eY⟩
def H.kv(b:Nat->T)(h:H)(c:iJ):h.new b c=some (b h.size,h.cons c):=H.Ob b h c
def H.sa(c:h.eY.length=h.size)(b:iJ):(h.cons b).get h.size=some b:=by
 rw[H.get_eq];simp[H.cons]
def H.mD{b:Nat}(f:b<h.size)(c:iJ):(h.cons c).get b=h.get b:=by
 rw[H.get_eq,H.get_eq];have d:b<(h.cons c).size:=by show b<h.size+1;omega
 rw[aq d,aq f];show(c::h.eY)[h.size+1-1-b]? =_;have:h.size+1-1-b=(h.size-1-b)+1:=dj;rw[this];simp
def St.new(d:St cx base hp μ h)(n:Obj)(l:Loc)(m:iJ)(z:l.iD=hp.size)(E:Ext hp μ (hp.push n) (pR μ h.size l)->pV (hp.push n) (pR μ h.size l) l m):
 St cx base (hp.push n) (pR μ h.size l) (h.cons m)/\Ext hp μ (hp.push n) (pR μ h.size l)/\xu μ (pR μ h.size l) h.size (h.cons m).size:=by
 have D:=d.Oa;have p:Ext hp μ (hp.push n) (pR μ h.size l):=by
  refine⟨dp,λr C t=>⟨?_,?_⟩,λc k b=> ?_,rfl,λr C _=> ?_⟩
  rotate_right
  ·rw[Array.getElem?_push];simp;omega
  ·rw[Array.getElem?_push];simp;omega
  ·rintro(⟨c,k,b,rfl⟩|hr)
   ·by_cases g:c=h.size
    ·subst g;rw[jd]at b;simp at b;subst b;omega
    ·rw[iy _ _ g]at b;exact t (.inl ⟨c,k,b,rfl⟩)
   ·exact t (.inr hr)
  ·have:c≠h.size:=by rintro rfl;rw[D]at b;simp at b
   exact⟨k,by rw[iy _ _ this];exact b,.inl rfl⟩
 refine⟨⟨?_,?_,?_,?_,?_,?_,?_,?_⟩,p,?_⟩
 ·show(m::h.eY).length=h.size+1;simp[d.wf]
 ·simp;have:=d.fit;omega
 ·intro c k b;by_cases g:c=h.size
  ·subst g;rw[jd]at b;simp at b;subst b;exact⟨m,H.sa d.wf m,E p⟩
  ·rw[iy _ _ g]at b;obtain⟨F,j,i⟩:=d.box c k b;refine⟨F,by rw[H.mD (d.ej b)];exact j,i.ext p ?_⟩;have:=d.lt b;rw[Array.getElem?_push];simp;omega
 ·intro c s u v j i A;by_cases b:c=h.size<;>by_cases q:s=h.size
  ·omega
  ·subst b;rw[jd]at j;simp at j;subst j;rw[iy _ _ q]at i;have:=d.lt i;omega
  ·subst q;rw[jd]at i;simp at i;subst i;rw[iy _ _ b]at j;have:=d.lt j;omega
  ·rw[iy _ _ b]at j;rw[iy _ _ q]at i;exact d.inj c s u v j i A
 ·intro c k b;by_cases g:c=h.size
  ·subst g;rw[jd]at b;simp at b;subst b;rw[z];exact d.fit
  ·rw[iy _ _ g]at b;exact d.low c k b
 ·intro c k b hr;by_cases g:c=h.size
  ·subst g;rw[jd]at b;simp at b;subst b;have:=d.pS _ hr;omega
  ·rw[iy _ _ g]at b;exact d.apart c k b hr
 ·intro r hr;have:=d.pS r hr;simp;omega
 ·intro y x B;exact(d.x6 y x B).ext p
 ·refine⟨by show h.size<=h.size+1;omega,λc b=> ?_,λc j i=> ?_⟩
  ·by_cases g:c=h.size
   ·right;exact⟨dj,by show c<h.size+1;omega⟩
   ·left;rwa[iy _ _ g]at b
  ·have:c=h.size:=by have i:c<h.size+1:=i;omega
   subst this;rw[jd];simp
def AH{c:Nat}{f:iJ}(j:h.put c f=some h')(k:h.eY.length=h.size):
 h'.size=h.size/\h'.eY.length=h'.size/\h'.get c=some f/\∀b,b≠c->h'.get b=h.get b:=by
 obtain⟨g,i,rfl⟩:=H.uO.1 j;refine⟨rfl,by simp[k],?_,λb l=> ?_⟩
 ·rw[H.get_eq];simp[g,i]
 ·rw[H.get_eq,H.get_eq];by_cases d:b<h.size
  ·simp only[d,bo];rw[cA];omega
  ·simp[d]
def St.change(g:St cx base hp μ h){d:Nat}{i L':Loc}{z:iJ}(n:μ d=some i)(I:h.put d z=some h')(C:hp.size<=hp'.size)(y:∀p,p<hp.size->p≠i.iD->hp'[p]? =hp[p]?)
 (s:L'=i\/(i.ep<L'.ep/\(L'.iD=i.iD\/hp.size<=L'.iD))) (J:Ext hp μ hp' (pR μ d L')->pV hp' (pR μ d L') L' z):
 St cx base hp' (pR μ d L') h'/\Ext hp μ hp' (pR μ d L')/\xu μ (pR μ d L') h.size h'.size:=by
 obtain⟨p1,p2,p3,p4⟩:=AH I g.wf;have q:L'.iD=i.iD\/hp.size<=L'.iD:=by
  rcases s with rfl|s
  ·exact .inl rfl
  ·exact s.2
 have u:Ext hp μ hp' (pR μ d L'):=by
  refine⟨C,λp x v=>⟨y p x λk=>v (.inl ⟨d,i,n,k.symm⟩),?_⟩,λc m b=> ?_,rfl,λp x hr=>y p x λk=>g.apart d i n (k▸hr)⟩
  ·rintro(⟨c,m,b,rfl⟩|hr)
   ·by_cases f:c=d
    ·subst f;rw[jd]at b;simp at b;subst b;rcases q with k|k
     ·exact v (.inl ⟨c,i,n,k.symm⟩)
     ·omega
    ·rw[iy _ _ f]at b;exact v (.inl ⟨c,m,b,rfl⟩)
   ·exact v (.inr hr)
  ·by_cases f:c=d
   ·subst f;rw[n]at b;simp at b;subst b;refine⟨L',jd _ _ _,?_⟩;rcases s with k|k
    ·exact .inl k
    ·exact .inr k.1
   ·exact⟨m,by rw[iy _ _ f];exact b,.inl rfl⟩
 refine⟨⟨p2,by have:=g.fit;omega,?_,?_,?_,?_,λp hr=>bE (g.pS p hr) C,?_⟩,u,⟨dj,λc b=> ?_,λc j l=>by omega⟩⟩
 ·intro c m b;by_cases f:c=d
  ·subst f;rw[jd]at b;simp at b;subst b;exact⟨z,p3,J u⟩
  ·rw[iy _ _ f]at b;obtain⟨K,j,l⟩:=g.box c m b;refine⟨K,by rw[p4 c f];exact j,l.ext u (y _ (g.lt b) λk=>f (g.inj c d m i b n k))⟩
 ·intro c r A B j l F;by_cases b:c=d<;>by_cases t:r=d
  ·omega
  ·subst b;rw[jd]at j;simp at j;subst j;rw[iy _ _ t]at l;rcases q with k|k
   ·exact absurd (g.inj r c B i l n dj) t
   ·have:=g.lt l;omega
  ·subst t;rw[jd]at l;simp at l;subst l;rw[iy _ _ b]at j;rcases q with k|k
   ·exact absurd (g.inj c r A i j n dj) b
   ·have:=g.lt j;omega
  ·rw[iy _ _ b]at j;rw[iy _ _ t]at l;exact g.inj c r A B j l F
 ·intro c m b;by_cases f:c=d
  ·subst f;rw[jd]at b;simp at b;subst b;rcases q with k|k
   ·rw[k];exact g.low _ _ n
   ·have:=g.fit;omega
  ·rw[iy _ _ f]at b;exact g.low c m b
 ·intro c m b hr;by_cases f:c=d
  ·subst f;rw[jd]at b;simp at b;subst b;rcases q with k|k
   ·exact g.apart c i n (by rw[<-k];exact hr)
   ·have:=g.pS _ hr;omega
  ·rw[iy _ _ f]at b;exact g.apart c m b hr
 ·intro E D G;exact(g.x6 E D G).ext u
 ·left;by_cases f:c=d
  ·subst f;rw[n];simp
  ·rwa[iy _ _ f]at b
end
end
noncomputable section
section
variable {P:ai}{cx:Ctx}{base:Nat}{w:World}{μ:Mu}{h h':H}{mask:Nat}{e:Env}{a:Act}{o:Oper}{hp hp':af Obj}
def ja{b:aa (T×H)}{c:T}{h':H}:jl b=some (.val c h')↔b=some (c,h'):=by
 unfold jl;cases b with
 |none=>simp
 |some d=>obtain⟨g,f⟩:=d;simp
def vO(s:St cx base w.heap μ h)(b:ab){arr:af am}{cap sz:Nat}{ex:Bool}{es:List T}(k:arr.size=cap*sz)(n:es.length<=cap)(l:ex=true->cap=es.length)
 (q:∀d∈es,d.cells.length=sz) (p:∀d∈eQ es,d.scalar=true) (j:fQ w.heap μ (eQ es) (arr.toList.take (eQ es).length)):
 ∃c,St cx base (w.heap.push (.cells arr b)) c (h.cons (kS sz ex es))/\oP w μ {w with heap:=w.heap.push (.cells arr b)} c/\xu μ c h.size (h.cons (kS sz ex es)).size/\
  c h.size=some ⟨0,w.heap.size,cap,sz⟩:=by
 obtain⟨f,g,i⟩:=s.new (.cells arr b) ⟨0,w.heap.size,cap,sz⟩ (kS sz ex es) rfl (by
  intro m;refine⟨rfl,rfl,λ_=>⟨⟨arr,b,dp,k,j.ext m⟩,n,l,q,p⟩,λr=>by simp[kS]at r⟩)
 exact⟨_,f,⟨g,rfl,rfl,rfl⟩,i,jd _ _ _⟩
def xC{b:T}(h:b.scalar=true):b.cells=[b]:=by
 cases b<;>first|rfl|(simp[T.scalar]at h)
def x7{b:List T}(h:∀c∈b,c.scalar=true):eQ b=b:=by
 induction b with
 |nil=>rfl
 |cons c b i=>
  have f:=xC (h c dp);have d:=i λj g=>h j (by simp[g]);unfold eQ at d|-;rw[cB,f,d];rfl
def EV(iH:iM P cx){i:ab}(y:St cx base w.heap μ h)(u:o.op= .alloc i){j:T}
 (b:BX i cx mask e h=some (.val j h')):iV cx base w μ h.size ((execOp a.eval o).run P w) j h':=by
 replace b:=dA.1 b;obtain⟨c,z,b⟩:=b;obtain⟨f,v,_,x,g,A,m,B,C⟩:=(iH.ty _ _ z).zero w;cases t:vU cx c with
 |false=>
  rw[t]at b;have b:jl (h.new (λl=>T.ptr l 0 0 0) (kS c.size true [c.jV]))=some (.val j h'):=b;rw[ja,H.kv]at b;simp only[ar,ay]at b;obtain⟨rfl,rfl⟩:=b;obtain⟨s,n,p,q,r⟩:=vO y i (arr:=f.cells) (cap:=1) (sz:=c.size) (ex:=true) (es:=[c.jV]) dj dp dp
   (by intro k d;simp at d;subst d;rw[m];exact A) (by intro k d;simp[eQ]at d;rw[m]at d;exact g k d)
   (by
     have:eQ [c.jV]=c.zero:=by simp[eQ,m]
     rw[this];have hl:f.cells.toList.take c.zero.length=f.cells.toList:=by rw[bF];simp;omega
     rw[hl];exact x _ _)
  refine⟨.pointer (some ⟨w.heap.size,0,none⟩),_,s,.inl ?_,.ptr _ 0 0 0 _ _ r (au _) (λ_=>by simp),n,p,q⟩;simp[execOp,u,Instr.alloc,v,newVar,newRow]
 |true=>
  rw[t]at b;have b:jl (h.new (λl=>T.ptr l 0 0 0) (kS 1 true c.zero))=some (.val j h'):=b;rw[ja,H.kv]at b;simp only[ar,ay]at b;obtain⟨rfl,rfl⟩:=b;obtain⟨s,n,p,q,r⟩:=vO y i (arr:=f.cells) (cap:=c.zero.length) (sz:=1) (ex:=true) (es:=c.zero) dj (au _) (λ_=>rfl)
   (by intro k d;rw[xC (g k d)];rfl) (by rw[x7 g];exact g)
   (by
     rw[x7 g];have hl:f.cells.toList.take c.zero.length=f.cells.toList:=by rw[bF];simp;omega
     rw[hl];exact x _ _)
  refine⟨.pointer (some ⟨w.heap.size,0,none⟩),_,s,.inl ?_,.ptr _ 0 0 0 _ _ r (au _) (λ_=>by simp),n,p,q⟩;simp[execOp,u,Instr.alloc,v,newVar,newRow]
def IL{k:ab}{c:ah}(j:St cx base w.heap μ h)(u:j1 w.heap μ mask e a.tmps)(n:o.op= .box k c){l:T}
 (b:LD c cx mask e h=some (.val l h')):iV cx base w μ h.size ((execOp a.eval o).run P w) l h':=by
 replace b:=dA.1 b;obtain⟨f,hp,b⟩:=b;replace b:=dI.1 b;obtain⟨m,b⟩:=b;rw[ja,H.kv]at b;simp only[ar,ay]at b;obtain⟨rfl,rfl⟩:=b;obtain⟨g,p,_⟩:=(fT j u hp).cells m;have i:=g.1;obtain⟨v,q,r,s,t⟩:=vO j k (arr:=(a.eval c).cells) (cap:=1) (sz:=f.cells.length) (ex:=true) (es:=[f]) (by simp at i;omega) dp dp
  (by intro c d;simp at d;subst d;rfl) (by intro c d;simp[eQ]at d;exact p c d)
  (by
    have:eQ [f]=f.cells:=by simp[eQ]
    rw[this,i,aL];exact g)
 rw[jq];refine⟨.pointer (some ⟨w.heap.size,0,none⟩),_,v,.inl ?_,.ptr _ 0 0 0 _ _ t (au _) (λ_=>by simp),q,r,s⟩;simp[execOp,n,Instr.box,newVar,newRow]
def Qx(b c:List T):over b c=if c.length<=b.length then some (c++b.drop c.length)else none:=by
 induction c generalizing b with
 |nil=>rfl
 |cons i c f=>cases b with
  |nil=>rfl
  |cons j b=>
   show(dJ (over b c) λg=>some (i::g))=_;rw[f];by_cases d:c.length<=b.length<;>simp[d]
def sx(b:List T)(c:Nat)(d:List T):kt b c d=if c+d.length<=b.length then some (b.take c++d++b.drop (c+d.length))else none:=by
 induction c generalizing b with
 |zero=>show over b d=_;rw[Qx];simp
 |succ c j=>cases b with
  |nil=>show none=_;simp
  |cons g b=>
   show(dJ (kt b c d) λk=>some (g::k))=_;rw[j];have i:c+1+d.length=(c+d.length)+1:=dj;by_cases f:c+d.length<=b.length
   ·rw[aq f,aq dq,i];simp
   ·rw[ao f,ao dq];rfl
def nP{c f g:List T}{d:Nat}(b:kt c d f=some g):d+f.length<=c.length/\g=c.take d++f++c.drop (d+f.length):=by
 rw[sx]at b;split at b
 ·simp at b;exact⟨by assumption,by rw[<-b];simp⟩
 ·simp at b
def Ix{f j i:List T}{m:Nat}(l:kt f m j=some i){d:T->Prop}(g:∀c∈f,d c)(k:∀c∈j,d c):∀c∈i,d c:=by
 obtain⟨_,rfl⟩:=nP l;intro c b;rcases List.mem_append.1 b with b|b
 ·rcases List.mem_append.1 b with b|b
  ·exact g c (bw b)
  ·exact k c b
 ·exact g c (bA b)
def D8{cells:af am}{c:am}{off:Nat}(l:off+c.cells.size<=cells.size):
 (c.cells.zipIdx.foldl (λd (b:am×Nat)=>d.setIfInBounds (off+b.2) b.1) cells).toList=cells.toList.take off++c.cells.toList++cells.toList.drop (off+c.cells.size):=by
 have j:c.cells.zipIdx.foldl (λd (b:am×Nat)=>d.setIfInBounds (off+b.2) b.1) cells=(c.cells.toList.zipIdx 0).foldl (λd (b:am×Nat)=>d.setIfInBounds (off+b.2) b.1) cells:=by
  rw[<-Array.foldl_toList,Array.toList_zipIdx]
 rw[j];obtain⟨k,i⟩:=Great.foldl_set off c.cells.toList 0 cells;apply cS;intro f;have:=i f;rw[<-Array.getElem?_toList]at this;rw[this];simp only[Nat.add_zero,bZ];rcases aD f off with hk|hk
 ·rw[ao dj,cr,co dq,bJ,aq hk];simp
 ·rcases aD f (off+c.cells.size)with g|g
  ·rw[aq ⟨hk,g,dj⟩,cr,cu dq];have:(cells.toList.take off).length=off:=dq;rw[this,co dq]
  ·rw[ao dj,cr,cu dq];have:(cells.toList.take off).length=off:=dq;rw[this,cu dq,bG];simp only[bZ,Array.getElem?_toList];congr 1;omega
def B6(c:Nat->aa (Nat×Nat))(b:Nat×T)(f:List (Nat×T))(d:List T):
 lU c (b::f) d=dJ (c b.1) λg=>fP (Nat.beq (kx b.2.cells) g.2) (dJ (kt d g.1 b.2.cells) λi=>lU c f i):=rfl
def L3(hp:af Obj)(μ:Mu)(g:List (Nat×T))(qs:List (Nat×am)):Prop:=
 g.length=qs.length/\∀(f:Nat) d b,g[f]? =some (d,b)->∃c,qs[f]? =some (d,c)/\fa hp μ b c/\b.gD=true
def L3.lV{b:Nat×T}{g:List (Nat×T)}{qs:List (Nat×am)}(h:L3 hp μ (b::g) qs):∃c i,qs=(b.1,c)::i/\fa hp μ b.2 c/\b.2.gD=true/\L3 hp μ g i:=by
 obtain⟨hl,f⟩:=h;cases qs with
 |nil=>simp at hl
 |cons p qs=>
  obtain⟨c,d,hr,j⟩:=f 0 b.1 b.2 dp;simp at d;subst d;exact⟨c,qs,rfl,hr,j,by simpa using hl,λm l n k=>by simpa using f (m+1) l n (by simpa using k)⟩
def wt(x:St cx base w.heap μ h)(v:j1 w.heap μ mask e a.tmps){d:List (Nat×ah)}{j:List (Nat×T)}(k:partsOf cx mask e d=some j):
 L3 w.heap μ j (d.map λp=>(p.1,a.eval p.2)):=by
 unfold partsOf at k;obtain⟨hl,r⟩:=qP.1 k;refine⟨by simp[hl],λc t f g=> ?_⟩;have m:c<d.length:=by
  rcases aD c j.length with y|y
  ·omega
  ·rw[aK y]at g;simp at g
 obtain⟨y,i,b⟩:=r c d[c] (by simp[m]);rw[g]at i;simp at i;subst i;rcases l:d[c]with⟨u,n⟩;rw[l]at b;have b:(dJ (fy cx mask e n) λf=>fP f.gD (some (u,f)))=some (t,f):=b;obtain⟨z,s,b⟩:=dA.1 b;obtain⟨q,b⟩:=dI.1 b;simp at b;obtain⟨rfl,rfl⟩:=b;exact⟨a.eval n,by simp[m,l],fT x v s,q⟩
def uv{u place':Nat->aa (Nat×Nat)}(I:∀t f,u t=some f->place' t=some f):∀(k:List (Nat×T)) (qs:List (Nat×am)) (d g:List T) (cells:af am),
 L3 hp μ k qs->fQ hp μ d cells.toList->(∀n∈d,n.scalar=true)->lU u k d=some g->
 ∃j,Instr.fill place' cells qs=some j/\fQ hp μ g j.toList/\(∀n∈g,n.scalar=true)/\j.size=cells.size:=by
 intro k;induction k with
 |nil=>
  intro qs d g cells hp i m b;have:qs=[]:=aY hp.1.symm;subst this;have:g=d:=by simpa[lU]using b.symm
  subst this;exact⟨cells,rfl,i,m,rfl⟩
 |cons S k K=>
  intro qs d g cells A i m b;obtain⟨c,Q,rfl,hr,E,B⟩:=A.lV;rw[B6]at b;obtain⟨f,J,b⟩:=dA.1 b;obtain⟨hl,b⟩:=dI.1 b;obtain⟨q,r,b⟩:=dA.1 b;obtain⟨p,x,_⟩:=hr.cells E;have G:=aC hl;rw[jq]at G;obtain⟨R,D⟩:=nP r;have y:=i.1;have l:=p.1;simp only[bZ]at y l;have F:f.1+c.cells.size<=cells.size:=dj;have s:=D8 (cells:=cells) (c:=c) F;have z:fQ hp μ q (c.cells.zipIdx.foldl (λd (v:am×Nat)=>d.setIfInBounds (f.1+v.2) v.1) cells).toList:=by
   rw[s,D,<-l];exact((i.take f.1).append p).append (by rw[l];exact i.drop _)
  obtain⟨j,L,M,N,O⟩:=K Q q g _ B z (Ix r m x) b;refine⟨j,?_,M,N,?_⟩
  ·simp only[Instr.fill,I _ _ J];have C:¬(c.cells.size≠f.2||decide (f.1+c.cells.size>cells.size))=true:=dq;rw[ao C];exact L
  ·rw[O];have:=bM List.length s;simp only[bZ,bh,List.length_take,List.length_drop]at this;omega
end
end
noncomputable section
section
variable {P:ai}{cx:Ctx}{base:Nat}{w:World}{μ:Mu}{h h':H}{mask:Nat}{e:Env}{a:Act}{o:Oper}{hp hp':af Obj}
def Ab:∀(g:List Field),(∀f∈g,∃b,P.info? f.type=some b/\b.size≠0)->∃m,g.mapM (λf=>(P.info? f.type).map λb=>(f.offset,b.size))=some m/\
 ∀(c:Nat) f b,g[c]? =some f->P.info? f.type=some b->m[c]? =some (f.offset,b.size)
 | [],_=>⟨[],rfl,λc f b d=>by simp at d⟩
 |f::g,k=>by
  obtain⟨b,l,_⟩:=k f dp;obtain⟨s,n,p⟩:=Ab g λj q=>k j (by simp[q]);refine⟨(f.offset,b.size)::s,by simp[List.mapM_cons,l,n],λc j r d i=> ?_⟩;cases c with
  |zero=>simp at d;subst d;rw[l]at i;simp at i;subst i;simp
  |succ c=>simp at d;simpa using p c j r d i
def xM(c:af (Nat×ah)):(c.map λ(d,f)=>(d,a.eval f)).toList=c.toList.map λb=>(b.1,a.eval b.2):=by
 simp
def EU(iH:iM P cx){t:ab}{D:af (Nat×ah)}(Q:St cx base w.heap μ h)(r:j1 w.heap μ mask e a.tmps)(Y:o.op= .build t D){l:T}
 (b:zj t D cx mask e h=some (.val l h')):iV cx base w μ h.size ((execOp a.eval o).run P w) l h':=by
 replace b:=dA.1 b;obtain⟨aX,aA,b⟩:=b;replace b:=dA.1 b;obtain⟨O,al,b⟩:=b;have J:=wt Q r al;obtain⟨a8,d,R,F,G,I,U,x,_⟩:=(iH.ty _ _ aA).unfold;obtain⟨L,M⟩:=fQ.rL (hp:=w.heap) (μ:=μ) U;have fin:∀(j:af am) (g:List T),P.built t (D.toList.map λN=>(N.1,a.eval N.2))=some j->fQ w.heap μ g j.toList->(∀l∈g,l.scalar=true)->l= .agg g->h'=h->
  iV cx base w μ h.size ((execOp a.eval o).run P w) l h':=by
  rintro j g K V an rfl rfl;refine iV.pure Q ?_ (fa.wH V an);rw[<-xM]at K;simp only[execOp,Y,Sem.run_bind,run_build w t _ j K,Result.andThen_ok,Sem.run_pure]
 cases aE:aX.u<;>rw[aE]at b x<;>simp at b
 ·rename_i n a6;have:=qq x;subst this;replace b:=dA.1 b;obtain⟨bi,ap,b⟩:=b;replace b:=dA.1 b;obtain⟨g,y,b⟩:=b;obtain⟨m,rfl⟩:=fH.1 b;simp at m;subst m;obtain⟨s,_,_,p,_,_,_,_,_,_,v,_⟩:=(iH.ty _ _ ap).unfold;obtain⟨j,A,B,C,_⟩:=uv (place':=λk=>some (k*s.size,s.size)) (by intro k q c;rw[v];exact c) O _ _ _ R.cells J L M y;exact fin j g (by simp only[Program.built,F,G,I,p];exact A) B C rfl rfl
 ·rename_i a7;obtain⟨E,rfl,X,W⟩:=qC x;replace b:=dA.1 b;obtain⟨g,y,b⟩:=b;obtain⟨m,rfl⟩:=fH.1 b;simp at m;subst m;obtain⟨aN,Z,ae⟩:=Ab E.toList W;obtain⟨j,A,B,C,_⟩:=uv (place':=λk=>aN.toArray[k]?) (by
   intro k q c;obtain⟨f,i,c⟩:=dA.1 c;obtain⟨bk,av,c⟩:=dA.1 c;simp at c;rw[X]at i;rw[aQ]at i;cases z:E.toList[k]? with
   |none=>rw[z]at i;simp at i
   |some S=>
    rw[z]at i;simp at i;obtain⟨s,_,_,p,_,_,_,_,_,_,v,_⟩:=(iH.ty _ _ av).unfold;rw[<-i]at p;have:=ae k S s z p;rw[<-i]at c;simp only[]at c;rw[<-c,<-v];simpa using this) O _ _ _ R.cells J L M y
  exact fin j g (by simp only[Program.built,F,G,I,Z];exact A) B C rfl rfl
def G8{d:Nat}{b:List T}(g:∀f∈b,f.cells.length=d){c:Nat}(i:c<b.length)(f:T):eQ (b.set c f)=(eQ b).take (c*d)++f.cells++(eQ b).drop (c*d+d):=by
 rw[qy g,<-bX,oM g,List.set_eq_take_append_cons_drop,aq i,mE,lr,cr]
def qV{c:T}(b:Nat):eQ (List.replicate b c)=(List.replicate b c.cells).flatten:=by
 induction b with
 |zero=>rfl
 |succ b d=>rw[cZ,lr,d,cZ,List.flatten_cons]
def yH{b:af am}(c:Nat)(j:0<b.size):((Array.range (c*b.size)).map (b[· % b.size]!)).toList=(List.replicate c b.toList).flatten:=by
 induction c with
 |zero=>simp
 |succ c g=>
  have f:(Array.range ((c+1)*b.size)).toList=(Array.range (c*b.size)).toList++(List.range b.size).map (c*b.size+ ·):=by
   simp only[Array.toList_range];rw[bX,List.range_add]
  rw[Array.toList_map,f,List.map_append,<-Array.toList_map,g,List.replicate_succ',List.flatten_append];congr 1;simp only[List.flatten_cons,List.flatten_nil,cg,cF];apply List.ext_getElem
  ·simp
  ·intro k d i;simp at d;simp[Nat.mod_eq_of_lt d,d]
def fQ.replicate{d:List T}{c:List am}(f:fQ hp μ d c)(b:Nat):fQ hp μ (List.replicate b d).flatten (List.replicate b c).flatten:=by
 induction b with
 |zero=>exact fQ.nil
 |succ b g=>rw[cZ,cZ,List.flatten_cons,List.flatten_cons];exact f.append g
def B5(b:Nat)(f:Nat)(c:T)(g:List (Nat×T))(d:List T):oN b ((f,c)::g) d=fP (Nat.beq (kx c.cells) b) (dJ (kj d f c) λi=>oN b g i):=rfl
def Av{b:Nat}(Y:0<b):∀(p:List (Nat×T)) (qs:List (Nat×am)) (g i:List T) (cells:af am),
 L3 hp μ p qs->(∀d∈g,d.cells.length=b)->fQ hp μ (eQ g) cells.toList->(∀d∈eQ g,d.scalar=true)->oN b p g=some i->
 ∃r,Instr.fill (λk=>some (k*b,b)) cells qs=some r/\fQ hp μ (eQ i) r.toList/\(∀d∈eQ i,d.scalar=true)/\(∀d∈i,d.cells.length=b)/\i.length=g.length:=by
 intro p;induction p with
 |nil=>
  intro qs g i cells hp n l q j;have:qs=[]:=aY hp.1.symm;subst this;have:i=g:=by simpa[oN]using j.symm
  subst this;exact⟨cells,rfl,l,q,n,rfl⟩
 |cons V p M=>
  intro qs g i cells C n l q j;obtain⟨c,W,rfl,hr,G,D⟩:=C.lV;obtain⟨k,d⟩:=V;rw[B5]at j;obtain⟨hl,j⟩:=dI.1 j;obtain⟨X,m,j⟩:=dA.1 j;have s:=aC hl;rw[jq]at s;rw[km]at m;split at m
  ·rename_i y;simp at m;subst m;obtain⟨t,A,_⟩:=hr.cells G;have u:=l.1;have v:=t.1;simp only[bZ]at u v;have F:=f9 n;have I:k*b+c.cells.size<=cells.size:=by
    rw[<-u,F,<-v,s,<-bX];exact aW _ y
   have K:=D8 (cells:=cells) (c:=c) I;have x:=G8 n y d;have L:∀f∈g.set k d,f.cells.length=b:=by
    intro f hx;rcases bV hx with N|rfl
    ·exact n f N
    ·exact s
   have B:fQ hp μ (eQ (g.set k d)) (c.cells.zipIdx.foldl (λz (f:am×Nat)=>z.setIfInBounds (k*b+f.2) f.1) cells).toList:=by
    rw[K,x];have:c.cells.size=b:=dj;rw[this];exact((l.take _).append t).append (l.drop _)
   have J:∀f∈eQ (g.set k d),f.scalar=true:=by
    intro f hx;rw[x]at hx;rcases List.mem_append.1 hx with hx|hx
    ·rcases List.mem_append.1 hx with hx|hx
     ·exact q f (bw hx)
     ·exact A f hx
    ·exact q f (bA hx)
   obtain⟨r,O,Q,R,S,U⟩:=M W _ i _ D L B J j;refine⟨r,?_,Q,R,S,by simpa using U⟩;simp only[Instr.fill];have E:¬(c.cells.size≠b||decide (k*b+c.cells.size>cells.size))=true:=dq;rw[ao E];exact O
  ·simp at m
def xZ(iH:iM P cx){M:ab}{c:Nat}{A:af (Nat×ah)}(L:St cx base w.heap μ h)(r:j1 w.heap μ mask e a.tmps)(F:o.op= .buildSlice M c A){g:T}
 (b:nJ M c A cx mask e h=some (.val g h')):iV cx base w μ h.size ((execOp a.eval o).run P w) g h':=by
 replace b:=dA.1 b;obtain⟨bn,Z,b⟩:=b;obtain⟨d,D,I⟩:=kr (iH.ty _ _ Z);cases al:bn.u<;>rw[al]at b I<;>simp at b;rename_i C;have:=lP I;subst this;replace b:=dA.1 b;obtain⟨f,p,b⟩:=b;replace b:=dA.1 b;obtain⟨bl,W,b⟩:=b;replace b:=dI.1 b;obtain⟨G,b⟩:=b;replace b:=dI.1 b;obtain⟨m,b⟩:=b;replace b:=dA.1 b;obtain⟨es,E,b⟩:=b;rw[ja,H.kv]at b;simp only[ar,ay]at b;obtain⟨rfl,rfl⟩:=b;have G:=bm G;have m:=bm m;have m:c*f.size<=65536:=m;rw[<-m6]at*
 have N:=wt L r W;obtain⟨B,J,bB,av,aE,aA,s,bC,aN⟩:=(iH.ty _ _ p).zero w;have Q:∃j:af am,(if c*f.size=0 then(pure #[]:Sem (af am))else do pure (<-zeroValue C).cells).run P w= .ok (if c*f.size=0 then #[]else B.cells) w/\
  ((Array.range (c*f.size)).map ((if c*f.size=0 then #[]else B.cells)[· % (if c*f.size=0 then #[]else B.cells).size]!))=j/\fQ w.heap μ (eQ (List.replicate c f.jV)) j.toList:=by
  by_cases i:c*f.size=0
  ·have S:c=0:=by
    rcases Nat.mul_eq_zero.1 i with k|k
    ·exact k
    ·omega
   subst S;refine⟨_,dp,rfl,?_⟩;simp[eQ];exact fQ.nil
  ·refine⟨_,by simp[i,J],rfl,?_⟩;rw[ao i,<-aN,yH c dj,qV,s];exact(av _ _).replicate c
 obtain⟨j,bz,q,ap⟩:=Q;have ae:∀g∈List.replicate c f.jV,g.cells.length=f.size:=by
  intro g l;rw[bO l,s];exact aA
 have Y:∀g∈eQ (List.replicate c f.jV),g.scalar=true:=by
  intro g l;obtain⟨y,an,l⟩:=List.mem_flatMap.1 l;rw[bO an,s]at l;exact aE g l
 rw[m6]at E;obtain⟨z,n,v,bi,K,bk⟩:=Av dj bl _ _ es j N ae ap Y E;have R:es.length=c:=by simpa using bk
 have V:z.size=c*f.size:=by
  have:=v.1;rw[f9 K,R]at this;simpa using this.symm
 obtain⟨bs,aX,a6,a7,a8⟩:=vO L C (arr:=z) (cap:=c) (sz:=f.size) (ex:=true) (es:=es) V dj dj K bi (by
  rw[bF]
  ·exact v
  ·have:=v.1;simp at this|-;omega)
 refine⟨.slice (some ⟨w.heap.size,0,none⟩) c c,_,bs,.inl ?_,.arr _ 0 0 c false _ _ c a8 (au _) (au _) (λ_=>⟨dp,dp,dp⟩),aX,a6,a7⟩;have U:¬c*f.size>2^24:=dj;have bu:Instr.fill (λt=>some (t*f.size,f.size)) j (A.map λ(t,x)=>(t,a.eval x)).toList=some z:=by rw[xM];exact n
 by_cases i:c*f.size=0
 ·have O:j= #[]:=by rw[<-q,i];simp
  rw[O]at n;have X:Array.map (λ_=>(default:am)) (Array.range 0)= #[]:=dp;simp[execOp,F,Instr.buildSlice,run_underlying D,(iH.ty _ _ p).run_sizeOf,i,X,n,newRow]
 ·simp only[i,br]at q;simp[execOp,F,Instr.buildSlice,run_underlying D,(iH.ty _ _ p).run_sizeOf,i,U,J,q,n,newRow]
set_option maxRecDepth 20000 in
def zd(iH:iM P cx){U:ab}{V A:ah}(z:St cx base w.heap μ h)(S:j1 w.heap μ mask e a.tmps)(I:o.op= .makeSlice U V A){i:T}
 (b:oJ U V A cx mask e h=some (.val i h')):iV cx base w μ h.size ((execOp a.eval o).run P w) i h':=by
 replace b:=dA.1 b;obtain⟨bk,ap,b⟩:=b;obtain⟨d,G,M⟩:=kr (iH.ty _ _ ap);cases av:bk.u<;>rw[av]at b M<;>simp at b;rename_i E;have:=lP M;subst this;replace b:=dA.1 b;obtain⟨f,s,b⟩:=b;replace b:=dA.1 b;obtain⟨p,hp,b⟩:=b;replace b:=dA.1 b;obtain⟨q,al,b⟩:=b;replace b:=dA.1 b;obtain⟨g,hl,b⟩:=b;replace b:=dA.1 b;obtain⟨c,X,b⟩:=b;replace b:=dI.1 b;obtain⟨J,b⟩:=b;replace b:=dI.1 b;obtain⟨F,b⟩:=b;replace b:=dI.1 b;obtain⟨n,b⟩:=b;replace b:=dI.1 b;obtain⟨r,b⟩:=b;rw[ja,H.kv]at b;simp only[ar,ay]at b;obtain⟨rfl,rfl⟩:=b;have J:=bm J;have F:=bm F;have n:=bm n;have r:c*f.bytes<=70368744177664:=bm r;obtain⟨bC,rfl⟩:=mW hl;obtain⟨bH,rfl⟩:=mW X;have N:=(fT z S hp).jD;have v:=(fT z S al).jD;obtain⟨B,O,bz,aA,aN,aE,y,bB,aX⟩:=(iH.ty _ _ s).zero w;obtain⟨bN,L,K,bs⟩:=(iH.ty _ _ s).run_typeInfo w;have bn:c<=70368744177664:=aS (Nat.le_mul_of_pos_right c dj) r;have Y:∃m:af am,(if c*f.size=0 then(pure #[]:Sem (af am))else do pure (<-zeroValue E).cells).run P w= .ok (if c*f.size=0 then #[]else B.cells) w/\
  ((Array.range (c*f.size)).map ((if c*f.size=0 then #[]else B.cells)[· % (if c*f.size=0 then #[]else B.cells).size]!))=m/\fQ w.heap μ (eQ (List.replicate c f.jV)) m.toList:=by
  by_cases j:c*f.size=0
  ·have Z:c=0:=by
    rcases Nat.mul_eq_zero.1 j with k|k
    ·exact k
    ·omega
   subst Z;refine⟨_,dp,rfl,?_⟩;simp[eQ];exact fQ.nil
  ·refine⟨_,by simp[j,O],rfl,?_⟩;rw[ao j,<-aX,yH c dj,qV,y];exact(aA _ _).replicate c
 obtain⟨m,bu,x,Q⟩:=Y;have t:∀R,∀i∈List.replicate R f.jV,i.cells.length=f.size:=by
  intro R i l;rw[bO l,y];exact aE
 have an:∀i∈eQ (List.replicate g f.jV),i.scalar=true:=by
  intro i l;obtain⟨A,v,l⟩:=List.mem_flatMap.1 l;rw[bO v,y]at l;exact aN i l
 have ae:m.size=c*f.size:=by
  have:=Q.1;rw[f9 (t c)]at this;simpa using this.symm
 obtain⟨bl,a6,a7,a8,bi⟩:=vO z E (arr:=m) (cap:=c) (sz:=f.size) (ex:=Nat.beq g c) (es:=List.replicate g f.jV) ae (by simpa using n) (by intro W;simp;exact(aC W).symm) (t g) an (by
  rw[f9 (t g),List.length_replicate];have:=Q.take (g*f.size);rw[qy (t c)]at this;rw[List.take_replicate,cv n]at this;exact this)
 refine⟨.slice (some ⟨w.heap.size,0,none⟩) g c,_,bl,.inl ?_,.arr _ 0 0 g false _ _ c bi (au _) n (λ_=>⟨dp,dp,dp⟩),a6,a7,a8⟩;have C:IntKind.i64.wrap (Int.ofNat c)=(c:Int):=IntWalk.i64_in (c:Int) ⟨dj,dj⟩;have D:IntKind.i64.wrap (Int.ofNat g)=(g:Int):=IntWalk.i64_in (g:Int) ⟨dj,dj⟩;have t1:¬((f.bytes:Int)*(c:Int)>2^48):=by
  have:((c*f.bytes:Nat):Int)<=70368744177664:=Int.ofNat_le.2 r;rw[Int.mul_comm];push_cast at this;omega
 have t2:(decide ((c:Int)<0)||decide ((f.bytes:Int)*(c:Int)>2^48)||decide ((g:Int)<0)||decide ((g:Int)>(c:Int)))=false:=by
  simp only[bI,bj];exact⟨⟨⟨dj,t1⟩,dj⟩,dj⟩
 by_cases j:c*f.size=0
 ·simp only[j,bo]at x;simp only[execOp,I,Instr.makeSlice,Sem.run_bind,run_underlying G,Result.andThen_ok,N,v,asInt,asIntOf,Sem.run_pure,L,K,C,D,t2,cd,br,run_askRoom,(iH.ty _ _ s).run_sizeOf,cC,j,bo,x,newRow,run_newObj]
 ·simp only[j,br]at x;simp only[execOp,I,Instr.makeSlice,Sem.run_bind,run_underlying G,Result.andThen_ok,N,v,asInt,asIntOf,Sem.run_pure,L,K,C,D,t2,cd,br,run_askRoom,(iH.ty _ _ s).run_sizeOf,cC,j,O,x,newRow,run_newObj]
def EP{f:ab}{i:ah}(d:St cx base w.heap μ h)(t:j1 w.heap μ mask e a.tmps)(l:o.op= .range f i)(m:P.underlying f=some .string){g:T}
 (b:BS i cx mask e h=some (.val g h')):iV cx base w μ h.size ((execOp a.eval o).run P w) g h':=by
 replace b:=dA.1 b;obtain⟨s,hp,b⟩:=b;cases s<;>simp at b;rename_i c;rw[ja,H.kv]at b;simp only[ar,ay]at b;obtain⟨rfl,rfl⟩:=b;obtain⟨k,j⟩:=(fT d t hp).kZ;obtain⟨p,q,r⟩:=d.new (.stringIter (bytesOf c) 0) ⟨0,w.heap.size,0,1⟩ ⟨1,0,0,true,true,[.str c,.int .i64 0]⟩ rfl (by
  intro u;refine⟨rfl,rfl,λn=>by simp at n,λ_=>⟨rfl,.inl ⟨c,0,rfl,j,dp⟩⟩⟩)
 refine⟨.pointer (some ⟨w.heap.size,0,none⟩),{w with heap:=w.heap.push (.stringIter (bytesOf c) 0)},_,.inl ?_,.iter _ _ _ (jd _ _ _) (λ_=>rfl),p,⟨q,rfl,rfl,rfl⟩,r⟩;simp[execOp,l,Instr.range,run_underlying m,k]
end
end
noncomputable section
section
variable {P:ai}{cx:Ctx}{base:Nat}{w:World}{μ:Mu}{h h':H}{mask:Nat}{e:Env}{a:Act}{o:Oper}{hp hp':af Obj}
def St.Bd(l:St cx base hp μ h){d:Nat}{c:Loc}{b:iJ}(i:μ d=some c)(j:h.get d=some b)(k:b.it=false):yy hp μ c b.exact b.ee/\b.ep=c.ep/\b.sz=c.sz:=by
 obtain⟨m,f,g⟩:=l.box d c i;rw[j]at f;simp at f;subst f;exact⟨g.plain k,g.ep,g.sz⟩
def yA(p:St cx base w.heap μ h){f:Nat}{b:Loc}{k:iJ}(n:μ f=some b)(u:h.get f=some k)(v:k.it=false){l arr':af am}{i:ab}(B:w.heap[b.iD]? =some (.cells l i (0,0)))
 {ep' M:Nat} {m:Bool} {c:List T} (r:ep'=b.ep\/ep'=b.ep+1) (z:h.put f ⟨k.sz,ep',M,m,false,c⟩=some h') (E:arr'.size=b.cap*b.sz) (A:c.length<=b.cap) (s:m=true->b.cap=c.length)
 (F:∀j∈c,j.cells.length=b.sz) (D:∀j∈eQ c,j.scalar=true) (q:fQ w.heap μ (eQ c) (arr'.toList.take (eQ c).length)):
 ∃g,St cx base (w.setRow b.iD arr').heap g h'/\oP w μ (w.setRow b.iD arr') g/\xu μ g h.size h'.size/\g f=some ⟨ep',b.iD,b.cap,b.sz⟩:=by
 obtain⟨N,O,G⟩:=p.Bd n u v;have y:∀d,d<w.heap.size->d≠b.iD->(w.setRow b.iD arr').heap[d]? =w.heap[d]? :=λd _ x=>setRow_other w b.iD d arr' x;have C:=setRow_heap w b.iD l arr' i (0,0) B;obtain⟨J,K,L⟩:=p.change (L':=⟨ep',b.iD,b.cap,b.sz⟩) n z dp y (by
  rcases r with rfl|rfl
  ·exact .inl rfl
  ·exact .inr ⟨dp,.inl rfl⟩) (by
  intro t;refine⟨rfl,G,λ_=>⟨⟨arr',i,C,E,q.ext t⟩,A,s,F,D⟩,λI=>by simp at I⟩)
 exact⟨_,J,⟨K,rfl,rfl,rfl⟩,L,jd _ _ _⟩
def zH{j:Type}(b d:List j){o c:Nat}(k:o+d.length<=c)(l:c<=b.length):(b.take o++d++b.drop (o+d.length)).take c=(b.take c).take o++d++(b.take c).drop (o+d.length):=by
 rw[List.take_append,List.take_append];have f:(b.take o).take c=(b.take c).take o:=by rw[List.take_take,List.take_take,Nat.min_comm]
 have g:(b.take o).length=o:=dq;have i:(b.take o++d).length=o+d.length:=dq;rw[f,g,i];congr 1
 ·congr 1;rw[bF dj]
 ·rw[List.drop_take]
def MB{b c:T}{g:Nat}{f:List T}(q:∀r∈f,r.scalar=true)(d:mt b g f=some c):
 g+f.length<=b.cells.length/\c.cells=b.cells.take g++f++b.cells.drop (g+f.length):=by
 by_cases i:∃j,b= .agg j
 ·obtain⟨j,rfl⟩:=i;obtain⟨s,l,k⟩:=dA.1 d;simp at k;subst k;exact nP l
 ·have n:b.cells=[b]:=by cases b<;>first|rfl|exact absurd ⟨_,rfl⟩ i
  have m:g=0/\f=[c]:=by
   unfold mt at d;cases b<;>first|(exact absurd ⟨_,rfl⟩ i)|(simp only[]at d;split at d<;>simp at d;subst d;exact⟨rfl,rfl⟩)
  obtain⟨rfl,rfl⟩:=m;have p:=q c dp;have:c.cells=[c]:=by cases c<;>simp[T.scalar]at p<;>rfl
  rw[n,this];simp
def EN(iH:iM P cx){t:ab}{x n:ah}(E:St cx base w.heap μ h)(r:j1 w.heap μ mask e a.tmps)(bB:o.op= .store t x n){k:T}
 (f:BQ t x n cx mask e h=some (.val k h')):iV cx base w μ h.size ((execOp a.eval o).run P w) k h':=by
 replace f:=dA.1 f;obtain⟨cp,b6,f⟩:=f;replace f:=dA.1 f;obtain⟨p,hp,f⟩:=f;replace f:=dA.1 f;obtain⟨u,bH,f⟩:=f;replace f:=dI.1 f;obtain⟨bs,f⟩:=f;replace f:=dA.1 f;obtain⟨Q,b,f⟩:=f;simp at f;obtain⟨rfl,rfl⟩:=f;have b7:=fT E r hp;obtain⟨ap,qs,cb⟩:=(fT E r bH).cells bs;have bC:∃z F c i,p= .ptr z F c i:=by
  unfold H.store at b;cases p<;>first|(exact⟨_,_,_,_,rfl⟩)|(simp at b)
 obtain⟨z,F,c,i,rfl⟩:=bC;unfold H.store at b;replace b:=dI.1 b;obtain⟨D,b⟩:=b;replace b:=dA.1 b;obtain⟨aE,S,b⟩:=b;obtain⟨av,G,aA,N,an,d⟩:=aE;have b:fP (Nat.beq G F) (@Bool.rec (λ_=>aa H) (dJ (lF d c) λl=>dJ (mt l i u.cells) λm=>dJ (kj d c m) λA=>dJ (f6 (Nat.succ aA)) λM=>h.put z ⟨av,G,M,N,false,A⟩) none an)=some Q:=b;replace b:=dI.1 b;obtain⟨W,b⟩:=b;cases an with
 |true=>simp at b
 |false=>
  have b:(dJ (lF d c) λl=>dJ (mt l i u.cells) λm=>dJ (kj d c m) λA=>dJ (f6 (Nat.succ aA)) λM=>h.put z ⟨av,G,M,N,false,A⟩)=some Q:=b;replace b:=dA.1 b;obtain⟨l,B,b⟩:=b;replace b:=dA.1 b;obtain⟨m,bl,b⟩:=b;replace b:=dA.1 b;obtain⟨A,y,b⟩:=b;simp only[iq,dO]at b;rw[kl]at B;have W:=aC W;have D:=aC D;rw[jq]at D;rw[km]at y;split at y
  ·rename_i C;simp at y;subst y;obtain⟨g,c1,bN,R,_,a7⟩:=b7.oQ;obtain⟨q,O,aN⟩:=E.Bd R S rfl;simp only[]at O aN;have a8:=a7 dj;subst a8;obtain⟨v,ce,Y,ae,I⟩:=q.row;have s:=q.size;simp only[]at s I;have bz:l∈d:=ax B;obtain⟨bu,U⟩:=MB qs bl;have c6:=s l bz;have bk:d[c]=l:=by rw[az C]at B;simpa using B
   have J:=f9 s;have X:eQ (d.set c m)=(eQ d).take (c*g.sz+i)++u.cells++(eQ d).drop (c*g.sz+i+u.cells.length):=by
    rw[G8 s C,U];have V:(eQ d).drop (c*g.sz)=l.cells++(eQ d).drop (c*g.sz+g.sz):=by
     rw[<-bX,oM s,oM s,aI C,bk,lr]
    have ht:(eQ d).take (c*g.sz+i)=(eQ d).take (c*g.sz)++l.cells.take i:=by
     rw[List.take_add,V,cT dj]
    have bi:(eQ d).drop (c*g.sz+i+u.cells.length)=l.cells.drop (i+u.cells.length)++(eQ d).drop (c*g.sz+g.sz):=by
     rw[cz,<-cQ,V,List.drop_append_of_le_length bu]
    rw[ht,bi];simp[cr]
   have c4:c*g.sz+i+u.cells.length<=(eQ d).length:=by
    rw[J];have:(c+1)*g.sz<=d.length*g.sz:=aW _ C;rw[bX]at this;omega
   have a6:(eQ d).length<=v.size:=by
    rw[J,ae];exact aW _ q.room
   have K:=ap.1;have al:∀k∈d.set c m,k.cells.length=g.sz:=by
    intro k j;rcases bV j with L|rfl
    ·exact s k L
    ·rw[U];simp;omega
   have bS:∀k∈eQ (d.set c m),k.scalar=true:=by
    intro k j;rw[X]at j;rcases List.mem_append.1 j with j|j
    ·rcases List.mem_append.1 j with j|j
     ·exact q.scalar k (bw j)
     ·exact qs k j
    ·exact q.scalar k (bA j)
   have bn:(eQ (d.set c m)).length=(eQ d).length:=by
    rw[f9 al,J];simp
   have aX:fQ w.heap μ (eQ (d.set c m)) ((v.toList.take (c*g.sz+i)++(a.eval n).cells.toList++v.toList.drop (c*g.sz+i+(a.eval n).cells.toList.length)).toArray.toList.take (eQ (d.set c m)).length):=by
    rw[bn,X];rw[c8,zH _ _ dj (by simpa using a6)];rw[<-K];exact((I.take _).append ap).append (I.drop _)
   obtain⟨cL,b8,b9,ca,c7⟩:=yA E R S rfl Y (.inl O) b (arr':=(v.toList.take (c*g.sz+i)++(a.eval n).cells.toList++v.toList.drop (c*g.sz+i+(a.eval n).cells.toList.length)).toArray)
    (by simp only[List.size_toArray,bh,List.length_take,List.length_drop,bZ]at K|-;rw[<-ae];omega) (by simpa using q.room) (by intro L;have:=q.sh L;simpa using this) al bS aX
   refine⟨Go.undef,_,cL,.inr ⟨?_,rfl⟩,.undef,b8,b9,ca⟩;have Z:=run_storeCells_at (P:=P) g.iD (c*g.sz+i) ce (a.eval n).cells.toList 0 v w Y (by simp only[Nat.add_zero];omega) cb;simp only[Nat.add_zero]at Z;have bT:(a.eval n).cells.size=cp.size:=by rw[<-D,K];simp
   simp only[execOp,bB,Instr.storeAt,Sem.run_bind,bN,Instr.sureAddr,Sem.run_pure,Result.andThen_ok,storeVar,(iH.ty _ _ b6).run_sizeOf,bT,ne_eq,not_true,br,Z]
  ·simp at y
end
end
noncomputable section
section
variable {P:ai}{cx:Ctx}{base:Nat}{w:World}{μ:Mu}{h h':H}{mask:Nat}{e:Env}{a:Act}{o:Oper}{hp hp':af Obj}
def J5{g:Nat}{c:List T}(d:fits g c=true){k:Nat}(i:∀b∈c,b.cells.length=k):∀b∈c,b.cells.length=g:=by
 cases c with
 |nil=>intro b f;simp at f
 |cons j c=>
  have d:Nat.beq (kx j.cells) g=true:=d;have:=aC d;rw[jq]at this;have l:=i j dp;intro b f;rw[i b f];omega
structure Am(P:ai)(w:World)(μ:Mu)(c:am)(es:List T)(sz:Nat):Prop where
 HQ:∀v∈es,v.cells.length=sz
 scalar:∀v∈eQ es,v.scalar=true
 form:∃ad cap news,c= .slice ad es.length cap/\es.length<=cap/\fQ w.heap μ (eQ es) news/\(∀u∈news,u.oneCell'=true)/\
  ((ad=none/\es=[])\/∃x:Addr,ad=some x/\∀(j:Nat) u,news[j]? =some u->w.cell? (x.add j)=some u)
def fQ.EA{b:List T}{c:List am}(d:fQ hp μ b c)(l:∀v∈b,v.scalar=true):∀j∈c,j.oneCell'=true:=by
 intro j m;obtain⟨k,g,rfl⟩:=List.getElem_of_mem m;have i:k<b.length:=by rw[d.1];exact g
 obtain⟨n,f,hr⟩:=d.get (k:=k) (v:=b[k]) (by simp[i]);simp[g]at f;subst f;exact qD hr (l _ (aF i))
def nI(s:St cx base w.heap μ h){E:T}{m:am}{es:List T}(x:fa w.heap μ E m)(c:h.jc E=some es):∃A,Am P w μ m es A:=by
 unfold H.jc at c;cases E<;>simp at c
 ·
  rename_i W X;subst c;cases W with
  |nil=>
   obtain⟨k,rfl⟩:=x.tu;refine⟨0,dp,by simp[eQ],k,0,[],rfl,au _,fQ.nil,dp,?_⟩;cases k with
   |none=>exact .inl ⟨rfl,rfl⟩
   |some y=>exact .inr ⟨y,rfl,dp⟩
  |cons p es=>
   obtain⟨F,off,C,A,q,Q,fz,rfl,bH,L,aN,bz,bk,bi,ap,hr⟩:=x.tv;have D:∀f∈eQ (p::es),f.scalar=true:=λf g=>(ap f g).1;have t:rX w.heap μ F off (eQ (p::es)):=⟨⟨q,Q,fz,L,bi,hr⟩,D⟩;have r:fQ w.heap μ (eQ (p::es)) ((q.toList.drop off).take (eQ (p::es)).length):=by
    refine⟨dq,λz f g=> ?_⟩;have aE:z<(eQ (p::es)).length:=by
     rcases aD z (eQ (p::es)).length with y|y
     ·exact y
     ·rw[aK y]at g;simp at g
    have:=hr z f g;have a7:off+z<q.size:=dj;simpa[List.getD,bJ,aE,aV,a7]using this
   refine⟨A,bk,D,some ⟨F,off,none⟩,C,_,rfl,aN,r,r.EA D,.inr ⟨_,rfl,λj u d=> ?_⟩⟩;rw[kh];rw[bJ]at d;split at d
   ·rw[bG]at d;simp only[World.cell?,L];simpa using d
   ·simp at d
 ·subst c;obtain⟨k,C,rfl⟩:=x.y8;refine⟨0,dp,by simp[eQ],k,C,[],rfl,aw _,fQ.nil,dp,?_⟩;cases k with
  |none=>exact .inl ⟨rfl,rfl⟩
  |some y=>exact .inr ⟨y,rfl,dp⟩
 ·rename_i b U l i X;replace c:=dA.1 c;obtain⟨R,an,c⟩:=c;obtain⟨A,V,bS,bs,O,n⟩:=R;have c:fP (Nat.beq V U) (@Bool.rec (λ_=>aa (List T)) (dJ (jF l n) λt=>takeN i t) none O)=some es:=c;replace c:=dI.1 c;obtain⟨K,c⟩:=c;cases O with
  |true=>simp at c
  |false=>
   have c:(dJ (jF l n) λt=>takeN i t)=some es:=c;replace c:=dA.1 c;obtain⟨t,hr,c⟩:=c;rw[ls]at hr;split at hr
   ·rename_i bC;simp at hr;subst hr;rw[mX]at c;split at c
    ·rename_i a6;simp at c a6;subst c;obtain⟨B,k,G,rfl,al,bu,av,aA⟩:=x.rQ;obtain⟨m,Y,Z⟩:=s.Bd al an rfl;simp only[]at Y Z;have K:=aC K;obtain⟨bl,bn,S⟩:=aA dj;obtain⟨q,Q,a8,bN,r⟩:=m.row;have v:=m.size;simp only[]at v r;have J:=B3 v l i;have M:((n.drop l).take i).length=i:=dq;have bB:=f9 v;have I:fQ w.heap μ (eQ ((n.drop l).take i)) (((q.toList.take (eQ n).length).drop (l*B.sz)).take (i*B.sz)):=by
      rw[J];exact(r.drop _).take _
     have N:∀f∈eQ ((n.drop l).take i),f.scalar=true:=by
      intro f g;rw[J]at g;exact m.scalar f (bA (bw g))
     refine⟨B.sz,λf g=>v f (bA (bw g)),N,k,G,_,by rw[M],by rw[M];exact av,I,I.EA N,?_⟩;by_cases ae:G=0
     ·have aX:i=0:=dj;subst aX;cases k with
      |none=>exact .inl ⟨rfl,dp⟩
      |some y=>exact .inr ⟨y,rfl,dp⟩
     ·refine .inr ⟨_,S ae,λj u d=> ?_⟩;rw[kh];rw[bJ]at d;split at d
      ·rw[bG,bJ]at d;split at d
       ·simp only[World.cell?,a8];simpa using d
       ·simp at d
      ·simp at d
    ·simp at c
   ·simp at hr
def Am.src{f:am}{c:List T}{d:Nat}(k:Am P w μ f c d){l m:ab}(j:P.underlying l=some (.slice m)):∃b,Src P d l f c.length b w/\fQ w.heap μ (eQ c) b:=by
 obtain⟨s,g,b,rfl,t,i,n,p⟩:=k.form;refine⟨b,?_,i⟩;have hl:b.length=c.length*d:=by rw[<-i.1,f9 k.HQ]
 rcases p with⟨rfl,rfl⟩|⟨r,rfl,q⟩
 ·have:b=[]:=aY (by simpa using hl);subst this;exact Src.ofNil w j g
 ·exact Src.ofSlice w j r c.length g b hl q n
def Am.first{f:am}{c:List T}{d:Nat}(j:Am P w μ f c d):∃b,(Builtin.firstCells d c.length f).run P w.drew= .ok b.toArray w.drew/\fQ w.heap μ (eQ c) b:=by
 obtain⟨n,g,b,rfl,q,i,p,k⟩:=j.form;refine⟨b,?_,i⟩;have hl:b.length=c.length*d:=by rw[<-i.1,f9 j.HQ]
 rcases k with⟨rfl,rfl⟩|⟨m,rfl,l⟩
 ·have:b=[]:=aY (by simpa using hl);subst this;exact run_firstCells_none w.drew d 0 0 g
 ·exact run_firstCells_some w.drew d c.length m c.length g b hl (by simpa using l)
end
end
noncomputable section
section
variable {P:ai}{cx:Ctx}{base:Nat}{w:World}{μ:Mu}{h h':H}{mask:Nat}{e:Env}{a:Act}{o:Oper}{hp hp':af Obj}
structure RQ(P:ai)(w:World)(μ:Mu)(sz:Nat)(tx:ab)(x:am)(xs:List T)(news:List am):Prop where
 src:Src P sz tx x xs.length news w
 rel:fQ w.heap μ (eQ xs) news
 HQ:∀v∈xs,v.cells.length=sz
 scalar:∀v∈eQ xs,v.scalar=true
structure RO(P:ai)(w:World)(μ:Mu)(sz:Nat)(c:am)(es:List T)(olds:List am):Prop where
 first:(Builtin.firstCells sz es.length c).run P w.drew= .ok olds.toArray w.drew
 rel:fQ w.heap μ (eQ es) olds
 HQ:∀v∈es,v.cells.length=sz
 scalar:∀v∈eQ es,v.scalar=true
def qA(c:af am)(b:Nat):(Builtin.zeroCells c b).size=b*c.size:=by simp[Builtin.zeroCells]
def uu{f g:List T}{c:T->Prop}(i:∀b∈eQ f,c b)(j:∀b∈eQ g,c b):∀b∈eQ (f++g),c b:=by
 intro b d;rw[mE]at d;rcases List.mem_append.1 d with k|k
 ·exact i b k
 ·exact j b k
def BY{g f:List am}{i:af am}{b c d:Nat}(j:g.length+f.length=c*d)(k:i.size=d)(l:c<=b):
 ((g++f).toArray++Builtin.zeroCells i (b-c)).size=b*d:=by
 simp only[Array.size_append,List.size_toArray,bh,qA,j,k];rw[<-bY];congr 1;omega
def FU(iH:iM P cx){n p ty' i:ab}{d:Ty}(A:P.underlying n=some (.slice i))(C:cx.ty i=some d){j:aa Addr}{g:Nat}{b c:List T}{m l:List am}{q:am}
 (G:RO P w μ d.size (.slice j b.length g) b m) (F:RQ P w μ d.size p q c l) (t:g<b.length+c.length) (N:1<=d.bytes) (B:(b.length+c.length)*d.bytes<=70368744177664):
 ∃(f:am) (k:Nat),b.length+c.length<=k/\f.cells.size=d.size/\(Builtin.append_ #[n,p] ty' #[.slice j b.length g,q]).run P w=
  .ok (.slice (some ⟨w.heap.size,0,none⟩) (b.length+c.length) k) {w with drawn:=w.drawn+1,heap:=w.heap.push (.cells ((m++l).toArray++Builtin.zeroCells f.cells (k-(b.length+c.length))) i)}:=by
 obtain⟨E,I,f,u,J,v,x,K,L,M,y,z,_⟩:=(iH.ty _ _ C).unfold;have D:f.cells.size=d.size:=by
  have:=(fQ.rL (hp:= #[]) (μ:=⟨λ_=>none,λ_=>False⟩) x).1.1;simp at this;omega
 have O:b.length+c.length<=70368744177664:=aS (Nat.le_mul_of_pos_right _ dj) B;have r:=G.first;have s:=F.src;rw[<-y]at r s;have:=run_append_grow_src w n p ty' i E f A u v j b.length g m r q c.length l s t dj (by rw[z];exact growslice_fits t dj);exact⟨f,_,grownCap_ge w _ _ _,D,this⟩
def AA(iH:iM P cx)(N:St cx base w.heap μ h){x y ty' n:ab}{d:Ty}(B:P.underlying x=some (.slice n))(F:cx.ty n=some d){ad:aa Addr}{cap:Nat}{es c:List T}{t s:List am}{z:am}
 (i:RO P w μ d.size (.slice ad es.length cap) es t) (g:RQ P w μ d.size y z c s) (C:cap<es.length+c.length) {f:T} (b:h.iU d.size d.bytes es c=some (f,h')):
 ∃u m j,(Builtin.append_ #[x,y] ty' #[.slice ad es.length cap,z]).run P w= .ok u m/\fa m.heap j f u/\St cx base m.heap j h'/\oP w μ m j/\xu μ j h.size h'.size:=by
 unfold H.iU at b;simp only[qm,dO,iq,jq]at b;replace b:=dI.1 b;obtain⟨p,b⟩:=b;replace b:=dI.1 b;obtain⟨l,b⟩:=b;replace b:=dI.1 b;obtain⟨_,b⟩:=b;replace b:=dI.1 b;obtain⟨_,b⟩:=b;rw[H.kv]at b;simp only[ar,ay]at b;obtain⟨rfl,rfl⟩:=b;have p:=bm p;have l:(es++c).length*d.bytes<=70368744177664:=bm l;rw[bh]at l;obtain⟨Q,r,q,I,E⟩:=FU iH B F (ty':=ty') i g C p l;have v:∀f∈es++c,f.cells.length=d.size:=by
  intro f G;rcases List.mem_append.1 G with k|k
  ·exact i.HQ f k
  ·exact g.HQ f k
 have D:t.length+s.length=(es.length+c.length)*d.size:=by
  rw[<-i.rel.1,<-g.rel.1,f9 i.HQ,f9 g.HQ,bY]
 have A:fQ w.heap μ (eQ (es++c)) (((t++s).toArray++Builtin.zeroCells Q.cells (r-(es.length+c.length))).toList.take (eQ (es++c)).length):=by
  rw[f9 v,bh,Array.toList_append,c8,cT dq,bF dq,mE];exact i.rel.append g.rel
 have O:St cx base ({w with drawn:=w.drawn+1}:World).heap μ h:=N;obtain⟨j,J,K,L,M⟩:=vO O n (cap:=r) (sz:=d.size) (ex:=false) (es:=es++c) (BY D I q) (by simpa using q) dp v (uu i.scalar g.scalar) A;rw[bh];exact⟨_,_,j,E,.arr _ 0 0 _ false _ _ r M (au _) q (λ_=>⟨dp,dp,dp⟩),J,⟨K.ext,rfl,rfl,rfl⟩,L⟩
def MG(iH:iM P cx){n q ty' l:ab}{c:Ty}(v:P.underlying n=some (.slice l))(z:cx.ty l=some c){d b j k:Nat}{g:List am}{r:am}
 (i:Src P c.size q r k g w) (x:b+k<=j) {f:af am} {p:ab} (y:w.heap[d]? =some (.cells f p (0,0))) (K:b*c.size+g.length<=f.size):
 (Builtin.append_ #[n,q] ty' #[.slice (some ⟨d,0,none⟩) b j,r]).run P w= .ok (.slice (some ⟨d,0,none⟩) (b+k) j) (w.setRow d (f.toList.take (b*c.size)++g++f.toList.drop (b*c.size+g.length)).toArray):=by
 obtain⟨L,A,M,s,C,D,E,F,G,I,t,J,_⟩:=(iH.ty _ _ z).unfold;have m:=run_storeCells_at (P:=P) d (b*c.size) p g 0 f w y dj i.one;simp only[Nat.add_zero]at m;have u:(⟨d,0,none⟩:Addr).add (b*c.size)=⟨d,b*c.size,none⟩:=by rw[kh];simp
 rcases i.kind with⟨B,hk⟩|hk<;>simp[Builtin.append_,run_underlying v,run_underlying hk,sizeOf,typeInfo,s,t,i.len,x,i.cells,u,m]
def MH(iH:iM P cx){i k ty' g:ab}{j:Ty}(p:P.underlying i=some (.slice g))(r:cx.ty g=some j){b:aa Addr}{f c:Nat}{l:am}(d:Src P j.size k l 0 [] w)(q:f<=c):
 (Builtin.append_ #[i,k] ty' #[.slice b f c,l]).run P w= .ok (.slice b f c) w:=by
 obtain⟨C,s,D,m,u,v,x,y,z,A,n,B,_⟩:=(iH.ty _ _ r).unfold;rcases d.kind with⟨t,hk⟩|hk<;>cases b<;>simp[Builtin.append_,run_underlying p,run_underlying hk,sizeOf,typeInfo,m,n,d.len,q,d.cells,storeCells]
def Cv(iH:iM P cx)(s:St cx base w.heap μ h){t b9 ty' M:ab}{d:Ty}(bu:P.underlying t=some (.slice M))(b7:cx.ty M=some d){D X b:Nat}{f:List T}{m:List am}{E x:am}
 (ea:fa w.heap μ (.arr D X 0 b false) E) (v:RQ P w μ d.size b9 x f m) (ds:f≠ []) {l:T} (c:h.lO d.size d.bytes D X b f=some (l,h')):
 ∃a7 V I,(Builtin.append_ #[t,b9] ty' #[E,x]).run P w= .ok a7 V/\fa V.heap I l a7/\St cx base V.heap I h'/\oP w μ V I/\xu μ I h.size h'.size:=by
 unfold H.lO at c;replace c:=dA.1 c;obtain⟨cb,bs,c⟩:=c;obtain⟨a6,ep',ca,eo,b8,g⟩:=cb;have c:(dJ (takeN b g) λJ=>dJ (Dp J f) λbk=>dJ (f6 (kx bk)) λn=>fP (Nat.ble 1 d.bytes)<|fP (Nat.beq ep' X) (fP (Nat.beq a6 d.size) (fP (Nat.ble (Nat.mul n d.bytes) 70368744177664) (fP (fits d.size f) (@Bool.rec (λ_=>aa (T×H))
  (dJ (f6 (Nat.succ ep')) λbi=>dJ (f6 (Nat.succ ca)) λeh=>dJ (h.put D ⟨a6,bi,eh,false,false,bk⟩) λh'=>some (.arr D bi 0 n false,h')) none b8)))))=some (l,h'):=c
 replace c:=dA.1 c;obtain⟨J,K,c⟩:=c;simp only[qm,dO,iq,jq]at c;replace c:=dI.1 c;obtain⟨ae,c⟩:=c;replace c:=dI.1 c;obtain⟨bz,c⟩:=c;replace c:=dI.1 c;obtain⟨b6,c⟩:=c;replace c:=dI.1 c;obtain⟨R,c⟩:=c;replace c:=dI.1 c;obtain⟨_,c⟩:=c;cases b8 with
 |true=>simp at c
 |false=>
  have c:(dJ (h.put D ⟨a6,ep'+1,ca+1,false,false,J++f⟩) λh'=>some (T.arr D (ep'+1) 0 (J++f).length false,h'))=some (l,h'):=c;replace c:=dA.1 c;obtain⟨er,bC,c⟩:=c;simp only[ar,ay]at c;obtain⟨rfl,rfl⟩:=c;have ae:=bm ae;have bz:=aC bz;have b6:=aC b6;have R:(J++f).length*d.bytes<=70368744177664:=bm R;rw[bh]at R;rw[mX]at K;split at K
  ·rename_i dk;simp at K;subst K;obtain⟨A,W,r,rfl,Z,eu,et,c9⟩:=ea.rQ;obtain⟨E,cp,cL⟩:=s.Bd Z bs rfl;simp only[]at cp cL;obtain⟨_,ce,a8⟩:=c9 dj;have c6:r=A.cap:=by have:=ce rfl;omega
   obtain⟨q,eB,av,bT,bl⟩:=E.row;have L:=E.size;simp only[]at L bl;have C:A.sz=d.size:=dj;have p:(g.take b).length=b:=dq;have aA:∀l∈g.take b,l.cells.length=d.size:=λl F=>by rw[<-C];exact L l (bw F)
   have bN:∀l∈eQ (g.take b),l.scalar=true:=by
    intro l F;rw[<-qy L]at F;exact E.scalar l (bw F)
   have S:∀l∈g.take b++f,l.cells.length=A.sz:=by
    intro l F;rw[C];rcases List.mem_append.1 F with k|k
    ·exact aA l k
    ·exact v.HQ l k
   have bS:=uu bN v.scalar;have de:=f9 L;have bB:m.length=f.length*d.size:=by rw[<-v.rel.1,f9 v.HQ]
   have N:fQ w.heap μ (eQ (g.take b)) (q.toList.take (b*A.sz)):=by
    have:=bl.take (b*A.sz);rw[qy L,List.take_take,cv (by rw[de];exact aW _ dk)]at this;exact this
   have eA:0<f.length:=List.length_pos_iff.2 ds;by_cases bH:b+f.length<=r
   ·
    have c7:r≠0:=dj;have bn:=a8 c7;simp only[Nat.zero_mul]at bn;subst bn;have c4:b*d.size+m.length<=q.size:=by
     rw[bT,bB,C,<-bY];exact aW _ dj
    have Q:=MG (ty':=ty') iH bu b7 v.src bH av c4;have al:(eQ (g.take b++f)).length=b*d.size+m.length:=by
     rw[f9 S,bh,p,bB,C,bY]
    have Y:fQ w.heap μ (eQ (g.take b++f)) ((q.toList.take (b*d.size)++m++q.toList.drop (b*d.size+m.length)).toArray.toList.take (eQ (g.take b++f)).length):=by
     have ht:(q.toList.take (b*d.size)++m).take (b*d.size+m.length)=q.toList.take (b*d.size)++m:=bF dq;rw[al,c8,cT dq,ht,mE];rw[C]at N;exact N.append v.rel
    obtain⟨I,aE,aN,aX,ec⟩:=yA s Z bs rfl av (ep':=ep'+1) (.inr dj) bC (arr':=(q.toList.take (b*d.size)++m++q.toList.drop (b*d.size+m.length)).toArray)
     (by simp only[List.size_toArray,bh,List.length_take,List.length_drop,bZ];rw[<-bT];omega) (by simp[p];omega) dp S bS Y
    refine⟨_,_,I,Q,?_,aE,aN,aX⟩;have an:(g.take b++f).length=b+f.length:=by rw[bh,p]
    rw[an];exact .arr _ _ 0 _ false _ _ r ec (au _) bH (λ_=>⟨dp,by simp[c6],dp⟩)
   ·
    have G:∃B,RO P w μ d.size (.slice W b r) (g.take b) B:=by
     refine⟨q.toList.take (b*A.sz),?_,N,aA,bN⟩;rw[p];have dn:(q.toList.take (b*A.sz)).length=b*d.size:=by rw[<-N.1,f9 aA,p]
     by_cases c1:r=0
     ·have di:b=0:=dj;subst di;simp only[Nat.zero_mul,List.take_zero];cases W with
      |none=>exact run_firstCells_none w.drew d.size 0 0 r
      |some y=>exact run_firstCells_some w.drew d.size 0 y 0 r [] dp dp
     ·rw[a8 c1];refine run_firstCells_some w.drew d.size b _ b r _ dn (λj u O=> ?_);rw[kh];rw[bJ]at O;split at O
      ·show World.cell? w _=_;simp only[World.cell?,av];simpa using O
      ·simp at O
    obtain⟨B,G⟩:=G;have dv:((g.take b).length+f.length)*d.bytes<=70368744177664:=by rw[<-p]at*;exact R
    have ef:RO P w μ d.size (.slice W (g.take b).length r) (g.take b) B:=by rw[p];exact G
    obtain⟨z,U,ap,eb,Q⟩:=FU iH bu b7 (ty':=ty') ef v (by rw[p];omega) ae dv;rw[p]at Q ap;have dm:B.length+m.length=(b+f.length)*d.size:=by
     rw[<-G.rel.1,<-v.rel.1,f9 G.HQ,f9 v.HQ,p,bY]
    have al:(eQ (g.take b++f)).length=(b+f.length)*d.size:=by
     rw[f9 S,bh,p,C]
    have Y:fQ w.heap μ (eQ (g.take b++f)) (((B++m).toArray++Builtin.zeroCells z.cells (U-(b+f.length))).toList.take (eQ (g.take b++f)).length):=by
     have ht:(B++m).take ((b+f.length)*d.size)=B++m:=bF dq;rw[al,Array.toList_append,c8,cT dq,ht,mE];exact G.rel.append v.rel
    have an:(g.take b++f).length=b+f.length:=by rw[bh,p]
    obtain⟨aE,aN,aX⟩:=s.change (L':=⟨ep'+1,w.heap.size,U,A.sz⟩) (hp':=w.heap.push (.cells ((B++m).toArray++Builtin.zeroCells z.cells (U-(b+f.length))) M)) Z bC dp
     (by intro i ey _;rw[Array.getElem?_push];simp;omega) (.inr ⟨dq,.inr (au _)⟩) (by
     intro dd;refine⟨rfl,dq,λ_=>⟨⟨_,M,dp,?_,Y.ext dd⟩,by simp[p];omega,dp,S,bS⟩,λk=>by simp at k⟩;rw[BY dm eb ap,C])
    refine⟨_,_,_,Q,?_,aE,⟨aN,rfl,rfl,rfl⟩,aX⟩;rw[an];exact .arr _ _ 0 _ false _ _ U (jd _ _ _) (au _) ap (λ_=>⟨dp,dp,dp⟩)
  ·simp at K
end
end
end Go.TI
