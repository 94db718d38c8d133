/- TiWrite3 -/
import Derived.Test.YtmoiekepclmgbaaGreatDoorA1
import Derived.Laws.Tables
import Derived.Great.BuildSlice
import Derived.Deep.AppendSrc
import Derived.Laws.AppendOwn
import Derived.Lib.ConvBytes
set_option linter.all false
set_option maxRecDepth 100000
set_option maxHeartbeats 0
namespace Go.TI
noncomputable section
section
section
variable {P:ai}{cx:Ctx}{base:Nat}{w:World}{μ:Mu}{h h':H}{J:Nat}{e:Env}{a:Act}{o:Oper}{hp hp':af Obj}
def CT:∀(c:List Field),(∀f∈c,∃b,P.info? f.type=some b/\b.size≠0)->∃j,c.mapM (λf=>(P.info? f.type).map λb=>(f.offset,b.size))=some j/\
 ∀(d:Nat) f b,c[d]? =some f->P.info? f.type=some b->j[d]? =some (f.offset,b.size)
 | [],_=>⟨[],rfl,λd f b k=>by grind⟩
 |f::c,i=>by
  have⟨b,q,_⟩:=i f Y;have⟨l,m,n⟩:=CT c λg p=>i g (by grind);refine⟨(f.offset,b.size)::l,by simp_all,λd g s k r=>?_⟩
  grind
def AX(c:af (Nat×ah)):(c.map λ(d,f)=>(d,a.eval f)).toList=c.toList.map λb=>(b.1,a.eval b.2):=by
 simp
theorem Iq(jQ:jF P cx){t:ab}{E:af (Nat×ah)}(U:St cx base w.heap μ h)(r:lj w.heap μ J e a.tmps)(an:o.op= .build t E){l:T}
 (b:Co t E cx J e h=some (.val l h')):jP cx base w μ h.size ((execOp a.eval o).run P w) l h':=by
 replace b:=dX.1 b;obtain⟨bi,a6,b⟩:=b;replace b:=dX.1 b;obtain⟨S,aA,b⟩:=b;have M:=zi U r aA;obtain⟨bs,d,V,I,K,L,X,x,_⟩:=(jQ.ty _ _ a6).unfold;obtain⟨O,Q⟩:=iJ.uX (hp:=w.heap) (μ:=μ) X;have fin:∀(i:af am) (g:List T),P.built t (E.toList.map λR=>(R.1,a.eval R.2))=some i->iJ w.heap μ g i.toList->(∀l∈g,l.scalar=true)->l= .agg g->h'=h->
  jP cx base w μ h.size ((execOp a.eval o).run P w) l h':=by
  rintro i g N Z aE rfl rfl;refine jP.pure U ?_ (gW.zJ Z aE);rw[<-AX]at N;simp only[execOp,an,Sem.run_bind,run_build w t _ i N,Result.andThen_ok,Sem.run_pure]
 cases a7:bi.u<;>rw[a7]at b x<;>simp at b
 ·rename_i n bn;have:=tH x;subst this;replace b:=dX.1 b;obtain⟨bu,aN,b⟩:=b;replace b:=dX.1 b;obtain⟨g,y,b⟩:=b;obtain⟨m,rfl⟩:=iv.1 b;simp at m;subst m;obtain⟨s,_,_,p,_,_,_,_,_,_,v,_⟩:=(jQ.ty _ _ aN).unfold;obtain⟨i,A,B,C,_⟩:=xu (place':=λk=>some (k*s.size,s.size)) (by intro k q c;rw[v];exact c) S _ _ _ V.cells M O Q y;exact fin i g (by simp only[Program.built,I,K,L,p];exact A) B C rfl rfl
 ·rename_i bp;obtain⟨F,rfl,al,ae⟩:=tU x;replace b:=dX.1 b;obtain⟨g,y,b⟩:=b;obtain⟨m,rfl⟩:=iv.1 b;simp at m;subst m;obtain⟨a8,ap,av⟩:=CT F.toList ae;obtain⟨i,A,B,C,_⟩:=xu (place':=λk=>a8.toArray[k]?) (by
   intro k q c;obtain⟨f,j,c⟩:=dX.1 c;obtain⟨bA,aX,c⟩:=dX.1 c;simp at c;rw[al]at j;rw[aR]at j;cases z:F.toList[k]? with
   |none=>rw[z]at j;grind
   |some W=>
    rw[z]at j;simp at j;obtain⟨s,_,_,p,_,_,_,_,_,_,v,_⟩:=(jQ.ty _ _ aX).unfold;rw[<-j]at p;have:=av k W s z p;rw[<-j]at c;simp only[]at c;rw[<-c,<-v]
    grind) S _ _ _ V.cells M O Q y
  exact fin i g (by simp only[Program.built,I,K,L,ap];exact A) B C rfl rfl
def KI{d:Nat}{b:List T}(g:∀f∈b,f.cells.length=d){c:Nat}(i:c<b.length)(f:T):gH (b.set c f)=(gH b).take (c*d)++f.cells++(gH b).drop (c*d+d):=by
 rw[tR g,<-cg,rg g,List.set_eq_take_append_cons_drop,aq i,ox,nc,aZ]
def ut{c:T}(b:Nat):gH (List.replicate b c)=(List.replicate b c.cells).flatten:=by
 induction b with
 |zero=>rfl
 |succ b d=>rw[dz,nc,d,dz,List.flatten_cons]
def BU{b:af am}(c:Nat)(g:0<b.size):((Array.range (c*b.size)).map (b[· % b.size]!)).toList=(List.replicate c b.toList).flatten:=by
 induction c with
 |zero=>simp
 |succ c f=>
  have d:(Array.range ((c+1)*b.size)).toList=(Array.range (c*b.size)).toList++(List.range b.size).map (c*b.size+ ·):=by
   simp only[Array.toList_range];rw[cg,List.range_add]
  rw[Array.toList_map,d,List.map_append,<-Array.toList_map,f,List.replicate_succ',List.flatten_append];congr 1;simp only[List.flatten_cons,List.flatten_nil,bG,List.map_map];apply List.ext_getElem
  ·simp
  simp_all[Nat.mod_eq_of_lt]
theorem iJ.replicate{d:List T}{c:List am}(f:iJ hp μ d c)(b:Nat):iJ hp μ (List.replicate b d).flatten (List.replicate b c).flatten:=by
 induction b with
 |zero=>exact iJ.nil
 |succ b g=>rw[dz,dz,List.flatten_cons,List.flatten_cons];exact f.append g
def Fv(b:Nat)(f:Nat)(c:T)(g:List (Nat×T))(d:List T):rh b ((f,c)::g) d=iG (Nat.beq (ml c.cells) b) (Z (lU d f c) λi=>rh b g i):=rfl
def Dh{b:Nat}(ae:0<b):∀(m:List (Nat×T)) (qs:List (Nat×am)) (f g:List T) (cells:af am),
 QI hp μ m qs->(∀d∈f,d.cells.length=b)->iJ hp μ (gH f) cells.toList->(∀d∈gH f,d.scalar=true)->rh b m f=some g->
 ∃q,Instr.fill (λi=>some (i*b,b)) cells qs=some q/\iJ hp μ (gH g) q.toList/\(∀d∈gH g,d.scalar=true)/\(∀d∈g,d.cells.length=b)/\g.length=f.length:=by
 intro m;induction m with
 |nil=>
  intro qs f g cells hp p l y j;have:qs=[]:=aW hp.1.symm;subst this;have:g=f:=by grind [rh]
  subst this;exact⟨cells,rfl,l,y,p,rfl⟩
 |cons V m O=>
  intro qs f g cells B p l y j;obtain⟨c,W,rfl,hr,I,C⟩:=B.nl;obtain⟨i,d⟩:=V;rw[Fv]at j;obtain⟨hl,j⟩:=ew.1 j;obtain⟨Z,n,j⟩:=dX.1 j;have x:=aF hl;rw[kq]at x;rw[lZ]at n;split at n
  ·rename_i v;simp at n;subst n;obtain⟨r,X,_⟩:=hr.cells I;have s:=l.1;have t:=r.1;simp only[cR]at s t;have F:=iS p;have J:i*b+c.cells.size<=cells.size:=by
    rw[<-s,F,<-t,x,<-cg];exact aV _ v
   have L:=Hu (cells:=cells) (c:=c) J;have u:=KI p v d;have M:∀k∈f.set i d,k.cells.length=b:=by
    grind
   have A:iJ hp μ (gH (f.set i d)) (c.cells.zipIdx.foldl (λz (k:am×Nat)=>z.setIfInBounds (i*b+k.2) k.1) cells).toList:=by
    rw[L,u];have:c.cells.size=b:=D;rw[this];exact((l.take _).append r).append (l.drop _)
   have K:∀k∈gH (f.set i d),k.scalar=true:=by
    intro k N;rw[u]at N
    grind
   obtain⟨q,Q,R,S,U,al⟩:=O W _ g _ C M A K j;refine⟨q,?_,R,S,U,by grind⟩;simp only[Instr.fill];have E:¬(c.cells.size≠b||decide (i*b+c.cells.size>cells.size))=true:=by grind
   rw[ao E];exact Q
  grind
theorem Bj(jQ:jF P cx){N:ab}{c:Nat}{z:af (Nat×ah)}(M:St cx base w.heap μ h)(r:lj w.heap μ J e a.tmps)(F:o.op= .buildSlice N c z){g:T}
 (b:pW N c z cx J e h=some (.val g h')):jP cx base w μ h.size ((execOp a.eval o).run P w) g h':=by
 replace b:=dX.1 b;obtain⟨bs,al,b⟩:=b;obtain⟨d,C,K⟩:=lP (jQ.ty _ _ al);cases ap:bs.u<;>rw[ap]at b K<;>simp at b;rename_i B;have:=mV K;subst this;replace b:=dX.1 b;obtain⟨f,n,b⟩:=b;replace b:=dX.1 b;obtain⟨bp,X,b⟩:=b;replace b:=ew.1 b;obtain⟨I,b⟩:=b;replace b:=ew.1 b;obtain⟨l,b⟩:=b;replace b:=dX.1 b;obtain⟨es,E,b⟩:=b;rw[j3,H.mh]at b;simp only[ar,aB]at b;obtain⟨rfl,rfl⟩:=b;have I:=aY I;have l:=aY l;have l:c*f.size<=65536:=l;rw[<-rx]at*
 have O:=zi M r X;obtain⟨A,aA,bC,aN,bS,bN,q,bH,aX⟩:=(jQ.ty _ _ n).zero w;have R:∃i:af am,(if c*f.size=0 then(pure #[]:Sem (af am))else do pure (<-zeroValue B).cells).run P w= .ok (if c*f.size=0 then #[]else A.cells) w/\
  ((Array.range (c*f.size)).map ((if c*f.size=0 then #[]else A.cells)[· % (if c*f.size=0 then #[]else A.cells).size]!))=i/\iJ w.heap μ (gH (List.replicate c f.kR)) i.toList:=by
  by_cases j:c*f.size=0
  ·have U:c=0:=by
    grind [Nat.mul_eq_zero]
   subst U;refine⟨_,Y,rfl,?_⟩;simp[gH,iJ.nil]
  ·refine⟨_,by simp_all,rfl,?_⟩;rw[ao j,<-aX,BU c D,ut,q];exact(aN _ _).replicate c
 obtain⟨i,bB,p,aE⟩:=R;have an:∀g∈List.replicate c f.kR,g.cells.length=f.size:=by
  intro g k;rw[bY k,q];omega
 have ae:∀g∈gH (List.replicate c f.kR),g.scalar=true:=by
  intro g k;obtain⟨y,av,k⟩:=List.mem_flatMap.1 k;rw[bY av,q]at k
  grind
 rw[rx]at E;obtain⟨v,m,t,bn,L,bT⟩:=Dh D bp _ _ es i O an aE ae E;have S:es.length=c:=by grind
 have W:v.size=c*f.size:=by
  have:=t.1;rw[iS L,S]at this
  grind
 obtain⟨bu,a6,a7,a8,bi⟩:=yL M B (arr:=v) (cap:=c) (sz:=f.size) (ex:=true) (es:=es) W D D L bn (by
  rw[bL]
  ·exact t
  ·have:=t.1;omega)
 refine⟨.slice (some ⟨w.heap.size,0,none⟩) c c,_,bu,.inl ?_,.arr _ 0 0 c false _ _ c bi (au _) (au _) (λ_=>⟨Y,Y,Y⟩),a6,a7,a8⟩;have V:¬c*f.size>2^24:=D;have bA:Instr.fill (λs=>some (s*f.size,f.size)) i (z.map λ(s,x)=>(s,a.eval x)).toList=some v:=by rw[AX];exact m
 by_cases j:c*f.size=0
 ·have Q:i= #[]:=by rw[<-p,j];simp
  rw[Q]at m;have Z:Array.map (λ_=>(default:am)) (Array.range 0)= #[]:=Y;simp[execOp,F,Instr.buildSlice,run_underlying C,(jQ.ty _ _ n).run_sizeOf,j,Z,m,newRow]
 ·simp only[j,bh]at p;simp[execOp,F,Instr.buildSlice,run_underlying C,(jQ.ty _ _ n).run_sizeOf,j,V,aA,p,m,newRow]
set_option maxRecDepth 20000 in
theorem Ch(jQ:jF P cx){V:ab}{W z:ah}(y:St cx base w.heap μ h)(U:lj w.heap μ J e a.tmps)(K:o.op= .makeSlice V W z){i:T}
 (b:qY V W z cx J e h=some (.val i h')):jP cx base w μ h.size ((execOp a.eval o).run P w) i h':=by
 replace b:=dX.1 b;obtain⟨bn,av,b⟩:=b;obtain⟨d,I,O⟩:=lP (jQ.ty _ _ av);cases aA:bn.u<;>rw[aA]at b O<;>simp at b;rename_i E;have:=mV O;subst this;replace b:=dX.1 b;obtain⟨f,r,b⟩:=b;replace b:=dX.1 b;obtain⟨p,hp,b⟩:=b;replace b:=dX.1 b;obtain⟨q,an,b⟩:=b;replace b:=dX.1 b;obtain⟨g,hl,b⟩:=b;replace b:=dX.1 b;obtain⟨c,X,b⟩:=b;replace b:=ew.1 b;obtain⟨L,b⟩:=b;replace b:=ew.1 b;obtain⟨F,b⟩:=b;replace b:=ew.1 b;obtain⟨m,b⟩:=b;replace b:=ew.1 b;obtain⟨n,b⟩:=b;rw[j3,H.mh]at b;simp only[ar,aB]at b;obtain⟨rfl,rfl⟩:=b;have L:=aY L;have F:=aY F;have m:=aY m;have n:c*f.bytes<=70368744177664:=aY n;obtain⟨bS,rfl⟩:=pi hl;obtain⟨bT,rfl⟩:=pi X;have Q:=(iL y U hp).kA;have t:=(iL y U an).kA;obtain⟨A,aE,bB,aN,bN,bH,x,bC,aX⟩:=(jQ.ty _ _ r).zero w;obtain⟨bW,N,M,bu⟩:=(jQ.ty _ _ r).run_typeInfo w;have bs:c<=70368744177664:=aQ (Nat.le_mul_of_pos_right c D) n;have Z:∃k:af am,(if c*f.size=0 then(pure #[]:Sem (af am))else do pure (<-zeroValue E).cells).run P w= .ok (if c*f.size=0 then #[]else A.cells) w/\
  ((Array.range (c*f.size)).map ((if c*f.size=0 then #[]else A.cells)[· % (if c*f.size=0 then #[]else A.cells).size]!))=k/\iJ w.heap μ (gH (List.replicate c f.kR)) k.toList:=by
  by_cases j:c*f.size=0
  ·have ae:c=0:=by
    grind [Nat.mul_eq_zero]
   subst ae;refine⟨_,Y,rfl,?_⟩;simp[gH,iJ.nil]
  ·refine⟨_,by simp_all,rfl,?_⟩;rw[ao j,<-aX,BU c D,ut,x];exact(aN _ _).replicate c
 obtain⟨k,bA,v,R⟩:=Z;have s:∀S,∀i∈List.replicate S f.kR,i.cells.length=f.size:=by
  intro S i l;rw[bY l,x];omega
 have ap:∀i∈gH (List.replicate g f.kR),i.scalar=true:=by
  intro i l;obtain⟨z,t,l⟩:=List.mem_flatMap.1 l;rw[bY t,x]at l
  grind
 have al:k.size=c*f.size:=by
  have:=R.1;rw[iS (s c)]at this
  grind
 obtain⟨bp,a6,a7,a8,bi⟩:=yL y E (arr:=k) (cap:=c) (sz:=f.size) (ex:=Nat.beq g c) (es:=List.replicate g f.kR) al (by grind) (by simp_all) (s g) ap (by
  rw[iS (s g),List.length_replicate];have:=R.take (g*f.size);rw[tR (s c)]at this;rw[List.take_replicate,cy m]at this;omega)
 refine⟨.slice (some ⟨w.heap.size,0,none⟩) g c,_,bp,.inl ?_,.arr _ 0 0 g false _ _ c bi (au _) m (λ_=>⟨Y,Y,Y⟩),a6,a7,a8⟩;have B:IntKind.i64.wrap (Int.ofNat c)=(c:Int):=IntWalk.i64_in (c:Int) ⟨D,D⟩;have C:IntKind.i64.wrap (Int.ofNat g)=(g:Int):=IntWalk.i64_in (g:Int) ⟨D,D⟩;have t1:¬((f.bytes:Int)*(c:Int)>2^48):=by
  have:((c*f.bytes:Nat):Int)<=70368744177664:=Int.ofNat_le.2 n;rw[Int.mul_comm];omega
 have t2:(decide ((c:Int)<0)||decide ((f.bytes:Int)*(c:Int)>2^48)||decide ((g:Int)<0)||decide ((g:Int)>(c:Int)))=false:=by
  grind
 by_cases j:c*f.size=0
 ·simp only[j,bj]at v;simp only[execOp,K,Instr.makeSlice,Sem.run_bind,run_underlying I,Result.andThen_ok,Q,t,asInt,asIntOf,Sem.run_pure,N,M,B,C,t2,cD,bh,run_askRoom,(jQ.ty _ _ r).run_sizeOf,cm,j,bj,v,newRow,run_newObj]
 ·simp only[j,bh]at v;simp only[execOp,K,Instr.makeSlice,Sem.run_bind,run_underlying I,Result.andThen_ok,Q,t,asInt,asIntOf,Sem.run_pure,N,M,B,C,t2,cD,bh,run_askRoom,(jQ.ty _ _ r).run_sizeOf,cm,j,aE,v,newRow,run_newObj]
theorem Il{f:ab}{i:ah}(d:St cx base w.heap μ h)(s:lj w.heap μ J e a.tmps)(l:o.op= .range f i)(m:P.underlying f=some .string){g:T}
 (b:Fb i cx J e h=some (.val g h')):jP cx base w μ h.size ((execOp a.eval o).run P w) g h':=by
 replace b:=dX.1 b;obtain⟨r,hp,b⟩:=b;cases r<;>simp at b;rename_i c;rw[j3,H.mh]at b;simp only[ar,aB]at b;obtain⟨rfl,rfl⟩:=b;obtain⟨k,j⟩:=(iL d s hp).mU;obtain⟨n,p,q⟩:=d.new (.stringIter (bytesOf c) 0) ⟨0,w.heap.size,0,1⟩ ⟨1,0,0,true,true,[.str c,.int .i64 0]⟩ rfl (by
  intro t;refine⟨rfl,rfl,λu=>by grind,λ_=>⟨rfl,.inl ⟨c,0,rfl,j,Y⟩⟩⟩)
 refine⟨.pointer (some ⟨w.heap.size,0,none⟩),{w with heap:=w.heap.push (.stringIter (bytesOf c) 0)},_,.inl ?_,.iter _ _ _ (j8 _ _ _) (λ_=>rfl),n,⟨p,rfl,rfl,rfl⟩,q⟩;simp[execOp,l,Instr.range,run_underlying m,k]
end
end
section
section
variable {P:ai}{cx:Ctx}{base:Nat}{w:World}{μ:Mu}{h h':H}{J:Nat}{e:Env}{a:Act}{o:Oper}{hp hp':af Obj}
def St.Ef(l:St cx base hp μ h){d:Nat}{c:Loc}{b:jv}(i:μ d=some c)(j:h.get d=some b)(k:b.it=false):BK hp μ c b.exact b.fR/\b.ep=c.ep/\b.sz=c.sz:=by
 have⟨m,f,g⟩:=l.box d c i;rw[j]at f;simp at f;subst f;exact⟨g.plain k,g.ep,g.sz⟩
def BN(p:St cx base w.heap μ h){f:Nat}{b:Loc}{k:jv}(n:μ f=some b)(u:h.get f=some k)(v:k.it=false){l arr':af am}{i:ab}(B:w.heap[b.jz]? =some (.cells l i (0,0)))
 {ep' N:Nat} {m:Bool} {c:List T} (r:ep'=b.ep\/ep'=b.ep+1) (z:h.put f ⟨k.sz,ep',N,m,false,c⟩=some h') (F:arr'.size=b.cap*b.sz) (A:c.length<=b.cap) (s:m=true->b.cap=c.length)
 (I:∀j∈c,j.cells.length=b.sz) (E:∀j∈gH c,j.scalar=true) (q:iJ w.heap μ (gH c) (arr'.toList.take (gH c).length)):
 ∃g,St cx base (w.setRow b.jz arr').heap g h'/\rk w μ (w.setRow b.jz arr') g/\Ax μ g h.size h'.size/\g f=some ⟨ep',b.jz,b.cap,b.sz⟩:=by
 have⟨O,Q,J⟩:=p.Ef n u v;have y:∀d,d<w.heap.size->d≠b.jz->(w.setRow b.jz arr').heap[d]? =w.heap[d]? :=λd _ x=>setRow_other w b.jz d arr' x;have C:=setRow_heap w b.jz l arr' i (0,0) B;have⟨K,L,M⟩:=p.change (L':=⟨ep',b.jz,b.cap,b.sz⟩) n z Y y (by
  rcases r with rfl|rfl
  ·simp
  simp) (by
  intro t;refine⟨rfl,J,λ_=>⟨⟨arr',i,C,F,q.ext t⟩,A,s,I,E⟩,λR=>by grind⟩)
 exact⟨_,K,⟨L,rfl,rfl,rfl⟩,M,j8 _ _ _⟩
def CE{j:Type}(b d:List j){o c:Nat}(k:o+d.length<=c)(l:c<=b.length):(b.take o++d++b.drop (o+d.length)).take c=(b.take c).take o++d++(b.take c).drop (o+d.length):=by
 rw[List.take_append,List.take_append];have f:(b.take o).take c=(b.take c).take o:=by rw[List.take_take,List.take_take,Nat.min_comm]
 have g:(b.take o).length=o:=by grind
 have i:(b.take o++d).length=o+d.length:=by grind
 rw[f,g,i]
 grind [bL,List.drop_take]
def Ri{b c:T}{g:Nat}{f:List T}(q:∀r∈f,r.scalar=true)(d:mG b g f=some c):
 g+f.length<=b.cells.length/\c.cells=b.cells.take g++f++b.cells.drop (g+f.length):=by
 by_cases k:∃i,b= .agg i
 ·obtain⟨i,rfl⟩:=k;have⟨s,l,j⟩:=dX.1 d;simp at j;subst j;exact p9 l
 ·have n:b.cells=[b]:=by cases b<;>first|rfl|grind
  have m:g=0/\f=[c]:=by
   unfold mG at d;cases b<;>first|(exact absurd ⟨_,rfl⟩ k)|(simp only[]at d;split at d<;>simp at d;subst d;exact⟨rfl,rfl⟩)
  obtain⟨rfl,rfl⟩:=m;have p:=q c Y;have:c.cells=[c]:=by cases c<;>simp[T.scalar]at p<;>rfl
  rw[n,this];simp
theorem Ij(jQ:jF P cx){t:ab}{x n:ah}(F:St cx base w.heap μ h)(r:lj w.heap μ J e a.tmps)(bT:o.op= .store t x n){k:T}
 (f:E9 t x n cx J e h=some (.val k h')):jP cx base w μ h.size ((execOp a.eval o).run P w) k h':=by
 replace f:=dX.1 f;obtain⟨c1,b9,f⟩:=f;replace f:=dX.1 f;obtain⟨p,hp,f⟩:=f;replace f:=dX.1 f;obtain⟨u,bX,f⟩:=f;replace f:=ew.1 f;obtain⟨bH,f⟩:=f;replace f:=dX.1 f;obtain⟨U,b,f⟩:=f;simp at f;obtain⟨rfl,rfl⟩:=f;have ca:=iL F r hp;obtain⟨aX,qs,cL⟩:=(iL F r bX).cells bH;have bW:∃y I c i,p= .ptr y I c i:=by
  unfold H.store at b;cases p<;>first|(exact⟨_,_,_,_,rfl⟩)|(simp at b)
 obtain⟨y,I,c,i,rfl⟩:=bW;unfold H.store at b;replace b:=ew.1 b;obtain⟨E,b⟩:=b;replace b:=dX.1 b;obtain⟨a8,W,b⟩:=b;obtain⟨a6,K,a7,R,aN,d⟩:=a8;have b:iG (Nat.beq K I) (@Bool.rec (λ_=>aa H) (Z (nJ d c) λl=>Z (mG l i u.cells) λm=>Z (lU d c m) λz=>Z (iQ (Nat.succ a7)) λQ=>h.put y ⟨a6,K,Q,R,false,z⟩) none aN)=some U:=b;replace b:=ew.1 b;obtain⟨al,b⟩:=b;cases aN with
 |true=>simp at b
 |false=>
  have b:(Z (nJ d c) λl=>Z (mG l i u.cells) λm=>Z (lU d c m) λz=>Z (iQ (Nat.succ a7)) λQ=>h.put y ⟨a6,K,Q,R,false,z⟩)=some U:=b;replace b:=dX.1 b;obtain⟨l,A,b⟩:=b;replace b:=dX.1 b;obtain⟨m,bB,b⟩:=b;replace b:=dX.1 b;obtain⟨z,B,b⟩:=b;simp only[jd,eJ]at b;rw[lI]at A;have al:=aF al;have E:=aF E;rw[kq]at E;rw[lZ]at B;split at B
  ·rename_i C;simp at B;subst B;obtain⟨g,c6,b6,V,_,bp⟩:=ca.rH;obtain⟨q,S,bi⟩:=F.Ef V W rfl;simp only[]at S bi;have bs:=bp D;subst bs;obtain⟨v,cX,ap,aA,L⟩:=q.row;have s:=q.size;simp only[]at s L;have bS:l∈d:=ay A;obtain⟨bN,X⟩:=Ri qs bB;have dd:=s l bS;have bA:d[c]=l:=by rw[az C]at A;simpa using A
   have M:=iS s;have an:gH (d.set c m)=(gH d).take (c*g.sz+i)++u.cells++(gH d).drop (c*g.sz+i+u.cells.length):=by
    rw[KI s C,X];have ae:(gH d).drop (c*g.sz)=l.cells++(gH d).drop (c*g.sz+g.sz):=by
     rw[<-cg,rg s,rg s,aH C,bA,nc]
    have ht:(gH d).take (c*g.sz+i)=(gH d).take (c*g.sz)++l.cells.take i:=by
     rw[List.take_add,ae,dj D]
    have bu:(gH d).drop (c*g.sz+i+u.cells.length)=l.cells.drop (i+u.cells.length)++(gH d).drop (c*g.sz+g.sz):=by
     rw[cV,<-dg,ae,List.drop_append_of_le_length bN]
    rw[ht,bu];simp[aZ]
   have c9:c*g.sz+i+u.cells.length<=(gH d).length:=by
    rw[M];have:(c+1)*g.sz<=d.length*g.sz:=aV _ C;rw[cg]at this;omega
   have c7:(gH d).length<=v.size:=by
    rw[M,aA];exact aV _ q.room
   have N:=aX.1;have aE:∀k∈d.set c m,k.cells.length=g.sz:=by
    intro k j;rcases cE j with O|rfl
    ·exact s k O
    ·rw[X];simp;omega
   have b7:∀k∈gH (d.set c m),k.scalar=true:=by
    intro k j;rw[an]at j;rcases List.mem_append.1 j with j|j
    ·rcases List.mem_append.1 j with j|j
     ·exact q.scalar k (bJ j)
     grind
    ·exact q.scalar k (bK j)
   have bC:(gH (d.set c m)).length=(gH d).length:=by
    rw[iS aE,M];simp
   have bn:iJ w.heap μ (gH (d.set c m)) ((v.toList.take (c*g.sz+i)++(a.eval n).cells.toList++v.toList.drop (c*g.sz+i+(a.eval n).cells.toList.length)).toArray.toList.take (gH (d.set c m)).length):=by
    rw[bC,an];rw[dA,CE _ _ D D];rw[<-N];exact((L.take _).append aX).append (L.drop _)
   obtain⟨c4,cb,cp,cF,de⟩:=BN F V W rfl ap (.inl S) b (arr':=(v.toList.take (c*g.sz+i)++(a.eval n).cells.toList++v.toList.drop (c*g.sz+i+(a.eval n).cells.toList.length)).toArray)
    (by simp only[List.size_toArray,aT,List.length_take,List.length_drop,cR]at N|-;rw[<-aA];omega) (by simpa using q.room) (by intro O;have:=q.vC O;grind) aE b7 bn
   refine⟨Go.undef,_,c4,.inr ⟨?_,rfl⟩,.undef,cb,cp,cF⟩;have av:=run_storeCells_at (P:=P) g.jz (c*g.sz+i) cX (a.eval n).cells.toList 0 v w ap D cL;simp only[Nat.add_zero]at av;have b8:(a.eval n).cells.size=c1.size:=by rw[<-E,N];simp
   simp only[execOp,bT,Instr.storeAt,Sem.run_bind,b6,Instr.sureAddr,Sem.run_pure,Result.andThen_ok,storeVar,(jQ.ty _ _ b9).run_sizeOf,b8,ne_eq,not_true,bh,av]
  grind
end
end
section
section
variable {P:ai}{cx:Ctx}{base:Nat}{w:World}{μ:Mu}{h h':H}{J:Nat}{e:Env}{a:Act}{o:Oper}{hp hp':af Obj}
def N9{g:Nat}{c:List T}(d:fits g c=true){k:Nat}(i:∀b∈c,b.cells.length=k):∀b∈c,b.cells.length=g:=by
 cases c with
 |nil=>intro b f;simp at f
 |cons j c=>
  have d:Nat.beq (ml j.cells) g=true:=d;have:=aF d;rw[kq]at this;have l:=i j Y;intro b f;rw[i b f];omega
structure C4(P:ai)(w:World)(μ:Mu)(c:am)(es:List T)(sz:Nat):Prop where
 Lw:∀v∈es,v.cells.length=sz
 scalar:∀v∈gH es,v.scalar=true
 form:∃ad cap news,c= .slice ad es.length cap/\es.length<=cap/\iJ w.heap μ (gH es) news/\(∀u∈news,u.oneCell'=true)/\
  ((ad=none/\es=[])\/∃x:Addr,ad=some x/\∀(j:Nat) u,news[j]? =some u->w.cell? (x.add j)=some u)
def iJ.H4{b:List T}{c:List am}(d:iJ hp μ b c)(l:∀v∈b,v.scalar=true):∀j∈c,j.oneCell'=true:=by
 intro j m;obtain⟨k,g,rfl⟩:=dy m;have i:k<b.length:=by rw[d.1];exact g
 have⟨n,f,hr⟩:=d.get (k:=k) (v:=b[k]) (by simp[i]);simp[g]at f;subst f;exact t7 hr (l _ (aC i))
def pV(s:St cx base w.heap μ h){F:T}{m:am}{es:List T}(x:gW w.heap μ F m)(c:h.jM F=some es):∃A,C4 P w μ m es A:=by
 unfold H.jM at c;cases F<;>simp at c
 ·
  rename_i ae al;subst c;cases ae with
  |nil=>
   obtain⟨k,rfl⟩:=x.wj;refine⟨0,Y,by simp[gH],k,0,[],rfl,au _,iJ.nil,Y,?_⟩;cases k with
   |none=>exact .inl ⟨rfl,rfl⟩
   |some y=>exact .inr ⟨y,rfl,Y⟩
  |cons p es=>
   obtain⟨I,off,C,A,q,S,fz,rfl,bX,N,a8,bS,bA,bu,aN,hr⟩:=x.wm;have E:∀f∈gH (p::es),f.scalar=true:=λf g=>(aN f g).1;have t:vf w.heap μ I off (gH (p::es)):=⟨⟨q,S,fz,N,bu,hr⟩,E⟩;have r:iJ w.heap μ (gH (p::es)) ((q.toList.drop off).take (gH (p::es)).length):=by
    refine⟨dN,λz f g=>?_⟩;have a7:z<(gH (p::es)).length:=by
     rcases aS z (gH (p::es)).length with y|y
     ·exact y
     ·rw[bP y]at g;simp at g
    have:=hr z f g;have bp:off+z<q.size:=D;simpa[List.getD,ci,a7,cd,bp]using this
   refine⟨A,bA,E,some ⟨I,off,none⟩,C,_,rfl,a8,r,r.H4 E,.inr ⟨_,rfl,λj u d=>?_⟩⟩;rw[lO];rw[ci]at d;split at d
   ·rw[bM]at d;simp only[World.cell?,N];simpa using d
   ·simp at d
 ·subst c;obtain⟨k,C,rfl⟩:=x.Ce;refine⟨0,Y,by simp[gH],k,C,[],rfl,aw _,iJ.nil,Y,?_⟩;cases k with
  |none=>exact .inl ⟨rfl,rfl⟩
  |some y=>exact .inr ⟨y,rfl,Y⟩
 ·rename_i b W l i al;replace c:=dX.1 c;obtain⟨U,aE,c⟩:=c;obtain⟨A,X,b7,bH,R,n⟩:=U;have c:iG (Nat.beq X W) (@Bool.rec (λ_=>aa (List T)) (Z (kH l n) λt=>takeN i t) none R)=some es:=c;replace c:=ew.1 c;obtain⟨M,c⟩:=c;cases R with
  |true=>simp at c
  |false=>
   have c:(Z (kH l n) λt=>takeN i t)=some es:=c;replace c:=dX.1 c;obtain⟨t,hr,c⟩:=c;rw[nd]at hr;split at hr
   ·rename_i bW;simp at hr;subst hr;rw[pj]at c;split at c
    ·rename_i bn;simp at c bn;subst c;obtain⟨B,k,J,rfl,aA,bN,aX,a6⟩:=x.u5;obtain⟨m,an,ap⟩:=s.Ef aA aE rfl;simp only[]at an ap;have M:=aF M;obtain⟨bB,bC,V⟩:=a6 D;obtain⟨q,S,bs,b6,r⟩:=m.row;have v:=m.size;simp only[]at v r;have L:=Fs v l i;have O:((n.drop l).take i).length=i:=dN;have bT:=iS v;have K:iJ w.heap μ (gH ((n.drop l).take i)) (((q.toList.take (gH n).length).drop (l*B.sz)).take (i*B.sz)):=by
      rw[L];exact(r.drop _).take _
     have Q:∀f∈gH ((n.drop l).take i),f.scalar=true:=by
      intro f g;rw[L]at g;exact m.scalar f (bK (bJ g))
     refine⟨B.sz,λf g=>v f (bK (bJ g)),Q,k,J,_,by rw[O],by rw[O];exact aX,K,K.H4 Q,?_⟩;by_cases av:J=0
     ·have bi:i=0:=D;subst bi;cases k with
      |none=>exact .inl ⟨rfl,Y⟩
      |some y=>exact .inr ⟨y,rfl,Y⟩
     ·refine .inr ⟨_,V av,λj u d=>?_⟩;rw[lO];rw[ci]at d;split at d
      ·rw[bM,ci]at d;split at d
       ·simp only[World.cell?,bs];simpa using d
       ·simp at d
      ·simp at d
    ·simp at c
   ·simp at hr
def C4.src{f:am}{c:List T}{d:Nat}(k:C4 P w μ f c d){l m:ab}(j:P.underlying l=some (.slice m)):∃b,Src P d l f c.length b w/\iJ w.heap μ (gH c) b:=by
 obtain⟨s,g,b,rfl,t,i,n,p⟩:=k.form;refine⟨b,?_,i⟩;have hl:b.length=c.length*d:=by rw[<-i.1,iS k.Lw]
 rcases p with⟨rfl,rfl⟩|⟨r,rfl,q⟩
 ·have:b=[]:=aW (by simpa using hl);subst this;exact Src.ofNil w j g
 ·exact Src.ofSlice w j r c.length g b hl q n
def C4.first{f:am}{c:List T}{d:Nat}(j:C4 P w μ f c d):∃b,(Builtin.firstCells d c.length f).run P w.drew= .ok b.toArray w.drew/\iJ w.heap μ (gH c) b:=by
 obtain⟨n,g,b,rfl,q,i,p,k⟩:=j.form;refine⟨b,?_,i⟩;have hl:b.length=c.length*d:=by rw[<-i.1,iS j.Lw]
 rcases k with⟨rfl,rfl⟩|⟨m,rfl,l⟩
 ·have:b=[]:=aW (by simpa using hl);subst this;exact run_firstCells_none w.drew d 0 0 g
 ·exact run_firstCells_some w.drew d c.length m c.length g b hl (by simpa using l)
end
end
section
section
variable {P:ai}{cx:Ctx}{base:Nat}{w:World}{μ:Mu}{h h':H}{J:Nat}{e:Env}{a:Act}{o:Oper}{hp hp':af Obj}
structure Xu(P:ai)(w:World)(μ:Mu)(sz:Nat)(tx:ab)(x:am)(xs:List T)(news:List am):Prop where
 src:Src P sz tx x xs.length news w
 rel:iJ w.heap μ (gH xs) news
 Lw:∀v∈xs,v.cells.length=sz
 scalar:∀v∈gH xs,v.scalar=true
structure Xr(P:ai)(w:World)(μ:Mu)(sz:Nat)(c:am)(es:List T)(olds:List am):Prop where
 first:(Builtin.firstCells sz es.length c).run P w.drew= .ok olds.toArray w.drew
 rel:iJ w.heap μ (gH es) olds
 Lw:∀v∈es,v.cells.length=sz
 scalar:∀v∈gH es,v.scalar=true
def tT(c:af am)(b:Nat):(Builtin.zeroCells c b).size=b*c.size:=by simp[Builtin.zeroCells]
def xr{d f:List T}{c:T->Prop}(i:∀b∈gH d,c b)(j:∀b∈gH f,c b):∀b∈gH (d++f),c b:=by
 intro b g;rw[ox]at g
 grind
def Fh{g f:List am}{i:af am}{b c d:Nat}(j:g.length+f.length=c*d)(k:i.size=d)(l:c<=b):
 ((g++f).toArray++Builtin.zeroCells i (b-c)).size=b*d:=by
 simp only[Array.size_append,List.size_toArray,aT,tT,j,k];rw[<-cw]
 grind
def Jk(jQ:jF P cx){n p ty' i:ab}{d:Ty}(A:P.underlying n=some (.slice i))(C:cx.ty i=some d){j:aa Addr}{g:Nat}{b c:List T}{m l:List am}{q:am}
 (J:Xr P w μ d.size (.slice j b.length g) b m) (I:Xu P w μ d.size p q c l) (t:g<b.length+c.length) (Q:1<=d.bytes) (B:(b.length+c.length)*d.bytes<=70368744177664):
 ∃(f:am) (k:Nat),b.length+c.length<=k/\f.cells.size=d.size/\(Builtin.append_ #[n,p] ty' #[.slice j b.length g,q]).run P w=
  .ok (.slice (some ⟨w.heap.size,0,none⟩) (b.length+c.length) k) {w with drawn:=w.drawn+1,heap:=w.heap.push (.cells ((m++l).toArray++Builtin.zeroCells f.cells (k-(b.length+c.length))) i)}:=by
 have⟨F,K,f,u,L,v,x,M,N,O,y,z,_⟩:=(jQ.ty _ _ C).unfold;have E:f.cells.size=d.size:=by
  have:=(iJ.uX (hp:= #[]) (μ:=⟨λ_=>none,λ_=>False⟩) x).1.1
  grind
 have R:b.length+c.length<=70368744177664:=aQ (Nat.le_mul_of_pos_right _ D) B;have r:=J.first;have s:=I.src;rw[<-y]at r s;have:=run_append_grow_src w n p ty' i F f A u v j b.length g m r q c.length l s t D (by rw[z];exact growslice_fits t D);exact⟨f,_,grownCap_ge w _ _ _,E,this⟩
def Do(jQ:jF P cx)(Q:St cx base w.heap μ h){x y ty' n:ab}{d:Ty}(B:P.underlying x=some (.slice n))(I:cx.ty n=some d){ad:aa Addr}{cap:Nat}{es c:List T}{s r:List am}{z:am}
 (i:Xr P w μ d.size (.slice ad es.length cap) es s) (g:Xu P w μ d.size y z c r) (C:cap<es.length+c.length) {f:T} (b:h.js d.size d.bytes es c=some (f,h')):
 ∃t m j,(Builtin.append_ #[x,y] ty' #[.slice ad es.length cap,z]).run P w= .ok t m/\gW m.heap j f t/\St cx base m.heap j h'/\rk w μ m j/\Ax μ j h.size h'.size:=by
 unfold H.js at b;simp only[qz,eJ,jd,kq]at b;replace b:=ew.1 b;obtain⟨p,b⟩:=b;replace b:=ew.1 b;obtain⟨l,b⟩:=b;replace b:=ew.1 b;obtain⟨_,b⟩:=b;replace b:=ew.1 b;obtain⟨_,b⟩:=b;rw[H.mh]at b;simp only[ar,aB]at b;obtain⟨rfl,rfl⟩:=b;have p:=aY p;have l:(es++c).length*d.bytes<=70368744177664:=aY l;rw[aT]at l;have⟨S,q,u,K,F⟩:=Jk jQ B I (ty':=ty') i g C p l;have v:∀f∈es++c,f.cells.length=d.size:=by
  intro f J;rcases List.mem_append.1 J with k|k
  ·exact i.Lw f k
  ·exact g.Lw f k
 have E:s.length+r.length=(es.length+c.length)*d.size:=by
  rw[<-i.rel.1,<-g.rel.1,iS i.Lw,iS g.Lw,cw]
 have A:iJ w.heap μ (gH (es++c)) (((s++r).toArray++Builtin.zeroCells S.cells (q-(es.length+c.length))).toList.take (gH (es++c)).length):=by
  rw[iS v,aT,Array.toList_append,dA,dj (by grind),bL (by grind),ox];exact i.rel.append g.rel
 have R:St cx base ({w with drawn:=w.drawn+1}:World).heap μ h:=Q;have⟨j,L,M,N,O⟩:=yL R n (cap:=q) (sz:=d.size) (ex:=false) (es:=es++c) (Fh E K u) (by grind) Y v (xr i.scalar g.scalar) A;rw[aT];exact⟨_,_,j,F,.arr _ 0 0 _ false _ _ q O (au _) u (λ_=>⟨Y,Y,Y⟩),L,⟨M.ext,rfl,rfl,rfl⟩,N⟩
def Rm(jQ:jF P cx){n q ty' l:ab}{c:Ty}(v:P.underlying n=some (.slice l))(z:cx.ty l=some c){d b j k:Nat}{g:List am}{r:am}
 (i:Src P c.size q r k g w) (x:b+k<=j) {f:af am} {p:ab} (y:w.heap[d]? =some (.cells f p (0,0))) (M:b*c.size+g.length<=f.size):
 (Builtin.append_ #[n,q] ty' #[.slice (some ⟨d,0,none⟩) b j,r]).run P w= .ok (.slice (some ⟨d,0,none⟩) (b+k) j) (w.setRow d (f.toList.take (b*c.size)++g++f.toList.drop (b*c.size+g.length)).toArray):=by
 have⟨N,A,O,s,C,E,F,I,J,K,t,L,_⟩:=(jQ.ty _ _ z).unfold;have m:=run_storeCells_at (P:=P) d (b*c.size) p g 0 f w y D i.one;simp only[Nat.add_zero]at m;have u:(⟨d,0,none⟩:Addr).add (b*c.size)=⟨d,b*c.size,none⟩:=by rw[lO];simp
 rcases i.kind with⟨B,hk⟩|hk<;>simp[Builtin.append_,run_underlying v,run_underlying hk,sizeOf,typeInfo,s,t,i.len,x,i.cells,u,m]
def Rn(jQ:jF P cx){i k ty' g:ab}{j:Ty}(p:P.underlying i=some (.slice g))(r:cx.ty g=some j){b:aa Addr}{f c:Nat}{l:am}(d:Src P j.size k l 0 [] w)(q:f<=c):
 (Builtin.append_ #[i,k] ty' #[.slice b f c,l]).run P w= .ok (.slice b f c) w:=by
 have⟨C,s,E,m,u,v,x,y,z,A,n,B,_⟩:=(jQ.ty _ _ r).unfold;rcases d.kind with⟨t,hk⟩|hk<;>cases b<;>simp[Builtin.append_,run_underlying p,run_underlying hk,sizeOf,typeInfo,m,n,d.len,q,d.cells,storeCells]
def FY(jQ:jF P cx)(s:St cx base w.heap μ h){t cp ty' N:ab}{d:Ty}(bN:P.underlying t=some (.slice N))(ca:cx.ty N=some d){E al b:Nat}{f:List T}{m:List am}{F x:am}
 (ec:gW w.heap μ (.arr E al 0 b false) F) (v:Xu P w μ d.size cp x f m) (ea:f≠ []) {l:T} (c:h.nP d.size d.bytes E al b f=some (l,h')):
 ∃bp X K,(Builtin.append_ #[t,cp] ty' #[F,x]).run P w= .ok bp X/\gW X.heap K l bp/\St cx base X.heap K h'/\rk w μ X K/\Ax μ K h.size h'.size:=by
 unfold H.nP at c;replace c:=dX.1 c;obtain⟨cL,bH,c⟩:=c;obtain⟨bn,ep',cF,et,cb,g⟩:=cL;have c:(Z (takeN b g) λL=>Z (GA L f) λbA=>Z (iQ (ml bA)) λn=>iG (Nat.ble 1 d.bytes)<|iG (Nat.beq ep' al) (iG (Nat.beq bn d.size) (iG (Nat.ble (Nat.mul n d.bytes) 70368744177664) (iG (fits d.size f) (@Bool.rec (λ_=>aa (T×H))
  (Z (iQ (Nat.succ ep')) λbu=>Z (iQ (Nat.succ cF)) λer=>Z (h.put E ⟨bn,bu,er,false,false,bA⟩) λh'=>some (.arr E bu 0 n false,h')) none cb)))))=some (l,h'):=c
 replace c:=dX.1 c;obtain⟨L,Q,c⟩:=c;simp only[qz,eJ,jd,kq]at c;replace c:=ew.1 c;obtain⟨av,c⟩:=c;replace c:=ew.1 c;obtain⟨bS,c⟩:=c;replace c:=ew.1 c;obtain⟨b9,c⟩:=c;replace c:=ew.1 c;obtain⟨U,c⟩:=c;replace c:=ew.1 c;obtain⟨_,c⟩:=c;cases cb with
 |true=>simp at c
 |false=>
  have c:(Z (h.put E ⟨bn,ep'+1,cF+1,false,false,L++f⟩) λh'=>some (T.arr E (ep'+1) 0 (L++f).length false,h'))=some (l,h'):=c;replace c:=dX.1 c;obtain⟨eu,bW,c⟩:=c;simp only[ar,aB]at c;obtain⟨rfl,rfl⟩:=c;have av:=aY av;have bS:=aF bS;have b9:=aF b9;have U:(L++f).length*d.bytes<=70368744177664:=aY U;rw[aT]at U;rw[pj]at Q;split at Q
  ·rename_i dn;simp at Q;subst Q;obtain⟨A,ae,r,rfl,ap,eA,ey,de⟩:=ec.u5;obtain⟨F,c1,c4⟩:=s.Ef ap bH rfl;simp only[]at c1 c4;obtain⟨_,cX,bs⟩:=de D;have c9:r=A.cap:=by have:=cX rfl;omega
   obtain⟨q,eD,aX,b8,bB⟩:=F.row;have M:=F.size;simp only[]at M bB;have C:A.sz=d.size:=D;have p:(g.take b).length=b:=dN;have a6:∀l∈g.take b,l.cells.length=d.size:=λl I=>by rw[<-C];exact M l (bJ I)
   have b6:∀l∈gH (g.take b),l.scalar=true:=by
    intro l I;rw[<-tR M]at I;exact F.scalar l (bJ I)
   have V:∀l∈g.take b++f,l.cells.length=A.sz:=by
    intro l I;rw[C];rcases List.mem_append.1 I with k|k
    ·exact a6 l k
    ·exact v.Lw l k
   have b7:=xr b6 v.scalar;have dk:=iS M;have bT:m.length=f.length*d.size:=by rw[<-v.rel.1,iS v.Lw]
   have O:iJ w.heap μ (gH (g.take b)) (q.toList.take (b*A.sz)):=by
    have:=bB.take (b*A.sz);rw[tR M,List.take_take,cy (by rw[dk];exact aV _ dn)]at this;exact this
   have eC:0<f.length:=List.length_pos_iff.2 ea;by_cases bX:b+f.length<=r
   ·
    have dd:r≠0:=D;have bC:=bs dd;simp only[Nat.zero_mul]at bC;subst bC;have c7:b*d.size+m.length<=q.size:=by
     rw[b8,bT,C,<-cw];exact aV _ D
    have S:=Rm (ty':=ty') jQ bN ca v.src bX aX c7;have aA:(gH (g.take b++f)).length=b*d.size+m.length:=by
     rw[iS V,aT,p,bT,C,cw]
    have an:iJ w.heap μ (gH (g.take b++f)) ((q.toList.take (b*d.size)++m++q.toList.drop (b*d.size+m.length)).toArray.toList.take (gH (g.take b++f)).length):=by
     have ht:(q.toList.take (b*d.size)++m).take (b*d.size+m.length)=q.toList.take (b*d.size)++m:=bL dN;rw[aA,dA,dj dN,ht,ox];rw[C]at O;exact O.append v.rel
    obtain⟨K,a7,a8,bi,eh⟩:=BN s ap bH rfl aX (ep':=ep'+1) (.inr D) bW (arr':=(q.toList.take (b*d.size)++m++q.toList.drop (b*d.size+m.length)).toArray)
     (by simp only[List.size_toArray,aT,List.length_take,List.length_drop,cR];rw[<-b8];omega) (by simp[p];omega) Y V b7 an
    refine⟨_,_,K,S,?_,a7,a8,bi⟩;have aE:(g.take b++f).length=b+f.length:=by rw[aT,p]
    rw[aE];exact .arr _ _ 0 _ false _ _ r eh (au _) bX (λ_=>⟨Y,by simp[c9],Y⟩)
   ·
    have J:∃B,Xr P w μ d.size (.slice ae b r) (g.take b) B:=by
     refine⟨q.toList.take (b*A.sz),?_,O,a6,b6⟩;rw[p];have dv:(q.toList.take (b*A.sz)).length=b*d.size:=by rw[<-O.1,iS a6,p]
     by_cases c6:r=0
     ·have dm:b=0:=D;subst dm;simp only[Nat.zero_mul,List.take_zero];cases ae with
      |none=>exact run_firstCells_none w.drew d.size 0 0 r
      |some y=>exact run_firstCells_some w.drew d.size 0 y 0 r [] Y Y
     ·rw[bs c6];refine run_firstCells_some w.drew d.size b _ b r _ dv (λj u R=>?_);rw[lO];rw[ci]at R;split at R
      ·show World.cell? w _=_;simp only[World.cell?,aX];simpa using R
      ·simp at R
    obtain⟨B,J⟩:=J;have eb:((g.take b).length+f.length)*d.bytes<=70368744177664:=by rw[<-p]at*;exact U
    have eo:Xr P w μ d.size (.slice ae (g.take b).length r) (g.take b) B:=by rw[p];exact J
    obtain⟨z,W,aN,ef,S⟩:=Jk jQ bN ca (ty':=ty') eo v (by rw[p];omega) av eb;rw[p]at S aN;have ds:B.length+m.length=(b+f.length)*d.size:=by
     rw[<-J.rel.1,<-v.rel.1,iS J.Lw,iS v.Lw,p,cw]
    have aA:(gH (g.take b++f)).length=(b+f.length)*d.size:=by
     rw[iS V,aT,p,C]
    have an:iJ w.heap μ (gH (g.take b++f)) (((B++m).toArray++Builtin.zeroCells z.cells (W-(b+f.length))).toList.take (gH (g.take b++f)).length):=by
     have ht:(B++m).take ((b+f.length)*d.size)=B++m:=bL dN;rw[aA,Array.toList_append,dA,dj dN,ht,ox];exact J.rel.append v.rel
    have aE:(g.take b++f).length=b+f.length:=by rw[aT,p]
    obtain⟨a7,a8,bi⟩:=s.change (L':=⟨ep'+1,w.heap.size,W,A.sz⟩) (hp':=w.heap.push (.cells ((B++m).toArray++Builtin.zeroCells z.cells (W-(b+f.length))) N)) ap bW Y
     (by intro i eB _;rw[Array.getElem?_push];grind) (.inr ⟨by grind,.inr (au _)⟩) (by
     intro di;refine⟨rfl,D,λ_=>⟨⟨_,N,Y,?_,an.ext di⟩,by grind,Y,V,b7⟩,λk=>by grind⟩;rw[Fh ds ef aN,C])
    refine⟨_,_,_,S,?_,a7,⟨a8,rfl,rfl,rfl⟩,bi⟩;rw[aE];exact .arr _ _ 0 _ false _ _ W (j8 _ _ _) (au _) aN (λ_=>⟨Y,Y,Y⟩)
  grind
end
end
section
section
variable {P:ai}{cx:Ctx}{base:Nat}{w:World}{μ:Mu}{h h':H}{J:Nat}{e:Env}{a:Act}{o:Oper}{hp hp':af Obj}{p:T}
def sZ(cx:Ctx)(base:Nat)(w:World)(μ:Mu)(f:Nat)(g:Result am)(i:T)(h':H):Prop:=
 ∃d b c,g= .ok d b/\gW b.heap c i d/\St cx base b.heap c h'/\rk w μ b c/\Ax μ c f h'.size
def sZ.pure{b:Result am}{d:T}{c:am}(g:St cx base w.heap μ h)(hr:b= .ok c w)(f:gW w.heap μ d c):sZ cx base w μ h.size b d h:=
 ⟨c,w,μ,hr,f,g,rk.refl _ _,Ax.refl _ _⟩
def w7(jQ:jF P cx){f:ab}{g:Ty}(b:qt cx f=some g):∃c,P.underlying f=some (.slice c)/\cx.ty c=some g:=by
 have⟨k,i,b⟩:=dX.1 b;have⟨l,m,d⟩:=lP (jQ.ty _ _ i);cases j:k.u<;>rw[j]at b d<;>simp at b;have:=mV d;grind
def Ba(b:List Nat):iu (λc=>some (T.int .u8 (.ofNat c))) b=some (b.map λc=>T.int .u8 (.ofNat c)):=by
 induction b with
 |nil=>rfl
 |cons f b d=>rw[kl,d];rfl
def tS(b:List Nat):gH (b.map λc=>T.int .u8 (.ofNat c))=b.map λc=>T.int .u8 (.ofNat c):=by
 induction b with
 |nil=>rfl
 |cons f b d=>rw[aL,nc,d];rfl
def Mm(jQ:jF P cx)(R:St cx base w.heap μ h){C:ab}{m:T}{f:am}{j:List T}{i:Nat}(z:gW w.heap μ m f)(b:nH cx h C m=some j)(q:fits i j=true):
 ∃s,Xu P w μ i C f j s:=by
 obtain⟨S,N,b⟩:=dX.1 b;obtain⟨U,n,r⟩:=lP (jQ.ty _ _ N);cases O:S.u<;>rw[O]at b r<;>simp at b
 ·have:=uJ r;subst this;have J:∃d,m= .str d:=by cases m<;>first|exact⟨_,rfl⟩|(simp at b)
  obtain⟨d,rfl⟩:=J;have b:iu (λf=>some (T.int .u8 (.ofNat f))) d=some j:=b;rw[Ba]at b;simp only[ar]at b;subst b;obtain⟨rfl,I⟩:=z.mU;cases d with
  |nil=>
   have A:bytesOf []=ByteArray.empty:=rfl;refine⟨[],⟨⟨.inr n,λX=>by rfl,?_,?_,Y,Y⟩,iJ.nil,Y,by simp[gH]⟩⟩
   ·simp[Builtin.firstCells,A]
   ·simp[Builtin.firstCells,A]
  |cons g d=>
   have M:i=1:=by
    have q:Nat.beq 1 i=true:=q;simp_all
   subst M;have x:=Src.ofString w n (bytesOf (g::d));have v:(bytesOf (g::d)).size=((g::d).map λf=>T.int .u8 (.ofNat f)).length:=by rw[kz];simp
   rw[v]at x;refine⟨_,x,?_,by intro E c;simp only[cW]at c;obtain⟨_,_,rfl⟩:=c;rfl,by rw[tS];intro E c;simp only[cW]at c;obtain⟨_,_,rfl⟩:=c;rfl⟩;rw[tS];refine⟨by rw[byteCells_length,v],λB E c=>?_⟩;rw[aR]at c;cases k:(g::d)[B]? with
   |none=>rw[k]at c;grind
   |some t=>
    rw[k]at c;simp at c;subst c;have K:t<256:=I t (ay k);have:(byteCells (bytesOf (g::d)))[B]? =some (.int .u8 (t:Int)):=by
     simp only[byteCells,bytesOf,aR,dA,k,Option.map_some,kj K]
    rw[List.getD,this];exact .int _ _
 ·rename_i V;have:=mV r;subst this;obtain⟨W,l⟩:=pV (P:=P) R z b;have y:=N9 q l.Lw;have Q:C4 P w μ f j i:=⟨y,l.scalar,l.form⟩;obtain⟨s,L,F⟩:=Q.src n;exact⟨s,L,F,y,l.scalar⟩
def GJ(g:qp p=true){b:am}(hp:gW w.heap μ p b):∃f d c,b= .slice f d c/\d<=c:=by
 cases hp<;>simp[qp]at g
 ·grind
 ·grind
 ·grind
 grind
def zI(jQ:jF P cx)(i:St cx base w.heap μ h){I J ty':ab}{M j:T}{c A:am}(hp:gW w.heap μ p c)(a6:gW w.heap μ M A)(b:jn cx h I J p M=some (.val j h')):
 sZ cx base w μ h.size ((Builtin.append_ #[I,J] ty' #[c,A]).run P w) j h':=by
 replace b:=dX.1 b;obtain⟨f,a8,b⟩:=b;replace b:=dX.1 b;obtain⟨k,bi,b⟩:=b;replace b:=ew.1 b;obtain⟨an,b⟩:=b;rw[j3]at b;have⟨bH,C,E⟩:=w7 jQ a8;have⟨bn,x⟩:=Mm (P:=P) jQ i a6 bi an;cases k with
 |nil=>
  have b:iG (qp p) (some (p,h))=some (j,h'):=b;have⟨a7,b⟩:=ew.1 b;simp only[ar,aB]at b;obtain⟨rfl,rfl⟩:=b;have aN:bn=[]:=aW (by have:=x.src.newsLen;grind);subst aN;obtain⟨ad,g,q,rfl,L⟩:=GJ a7 hp;exact sZ.pure i (Rn (ty':=ty') jQ C E x.src L) hp
 |cons n k=>
  have aX:n::k≠ []:=Y;have bT:0<(n::k).length:=Y;have K:∀{es:List T} {u:Nat},C4 P w μ c es u->(∀ad g q,c= .slice ad g q->q=g)->h.js f.size f.bytes es (n::k)=some (j,h')->sZ cx base w μ h.size ((Builtin.append_ #[I,J] ty' #[c,A]).run P w) j h':=by
   intro es u d X aE;have av:fits f.size es=true:=by
    simp_all[H.js,kq,jd,eJ,qz,ew]
   have v:C4 P w μ c es f.size:=⟨N9 av d.Lw,d.scalar,d.form⟩;have⟨ad,cap,bX,F,L,_⟩:=v.form;have⟨b6,bp,bs⟩:=v.first;subst F;have:=X _ _ _ rfl;have⟨R,bu,bA,r1,r2,r3,r4,r5⟩:=Do jQ i C E (ty':=ty') (ad:=ad) (cap:=cap) ⟨bp,bs,v.Lw,v.scalar⟩ x D aE;exact⟨R,bu,bA,r1,r2,r3,r4,r5⟩
  have F:(∃es l,p= .ed es l)\/∃z s o g l,p= .arr z s o g l:=by
   cases p<;>first|(exact .inl ⟨_,_,rfl⟩)|(exact .inr ⟨_,_,_,_,_,rfl⟩)|(simp[H.append]at b)
  rcases F with⟨es,l,rfl⟩|⟨z,s,y,g,l,rfl⟩
  ·cases es with
   |nil=>
    have b:h.js f.size f.bytes [] (n::k)=some (j,h'):=b;obtain⟨ad,rfl⟩:=hp.wj;have⟨u,d⟩:=pV (P:=P) (es:=[]) i hp rfl
    grind
   |cons N es=>
    have b:iG l (h.js f.size f.bytes (N::es) (n::k))=some (j,h'):=b;have⟨aA,b⟩:=ew.1 b;have⟨u,d⟩:=pV (P:=P) (es:=N::es) i hp rfl;refine K d ?_ b;intro ad g q t;have⟨_,_,_,_,_,_,_,B,_,_,_,ap,_⟩:=hp.wm;rw[B]at t;simp at t;have:=ap aA;omega
  ·cases l with
   |true=>
    have b:(Z (h.jM (.arr z s y g true)) λes=>h.js f.size f.bytes es (n::k))=some (j,h'):=b;have⟨es,m,b⟩:=dX.1 b;have⟨u,d⟩:=pV (P:=P) i hp m;refine K d ?_ b;intro ad bW q t;have⟨O,bB,bC,B,V,_,_,ae⟩:=hp.u5;rw[B]at t;simp at t;have al:s=O.ep:=by
     unfold H.jM at m;have⟨Q,W,m⟩:=dX.1 m;obtain⟨b7,U,b8,bN,d,S⟩:=Q;have m:iG (Nat.beq U s) (@Bool.rec (λ_=>aa (List T)) (Z (kH y S) λr=>takeN g r) none d)=some es:=m;have bS:=aF (ew.1 m).1;have:=(i.Nv V W).2
     grind
    have:=(ae al).1 rfl;omega
   |false=>
    cases y with
    |succ y=>grind [H.append,absurd]
    |zero=>exact FY jQ i C E (ty':=ty') hp x aX b
def IW(jQ:jF P cx)(O:St cx base w.heap μ h){Q bn:ab}{f:T}{C:am}(hp:gW w.heap μ p C)(c:FW cx h Q p=some (.val f h')):
 sZ cx base w μ h.size ((Builtin.clear_ #[Q] bn #[C]).run P w) f h':=by
 replace c:=dX.1 c;obtain⟨s,ca,c⟩:=c;obtain⟨dk,ae,bW⟩:=w7 jQ ca;have N:∀{t:aa Addr} {E:Nat},C= .slice t 0 E->f= .undef->h'=h->sZ cx base w μ h.size ((Builtin.clear_ #[Q] bn #[C]).run P w) f h':=by
  intro t E X d b6;subst X d b6;refine sZ.pure O ?_ .undef;cases t<;>simp[Builtin.clear_,run_underlying ae]
 cases p<;>simp only[reduceCtorEq]at c
 ·rename_i j bC;cases j with
  |nil=>
   simp only[ar,mS.val.injEq]at c;obtain⟨t,rfl⟩:=hp.wj;exact N rfl c.1.symm c.2.symm
  |cons x j=>simp at c
 ·simp only[ar,mS.val.injEq]at c;obtain⟨t,g,E,X,K⟩:=GJ (p:= .iO) rfl hp;cases hp;exact N rfl c.1.symm c.2.symm
 ·rename_i b bA m g bC;obtain⟨i,t,E,rfl,V,dv,ea,bT⟩:=hp.u5;cases g with
  |zero=>
   have c:some (mS.val .undef h)=some (.val f h'):=c;simp only[ar,mS.val.injEq]at c;exact N rfl c.1.symm c.2.symm
  |succ g=>
   replace c:=dX.1 c;obtain⟨bp,W,c⟩:=c;obtain⟨sz,R,dd,bB,bi,q⟩:=bp;have c:(iG (Nat.beq R bA)<|iG (Nat.beq sz s.size) (@Bool.rec (λ_=>aa mS)
    (Z (mg q m (qS s.kR (g+1))) λj=>Z (iQ (Nat.succ dd)) λde=>
      Z (h.put b ⟨sz,R,de,bB,false,j⟩) λh'=>some (.val .undef h')) none bi))=some (.val f h'):=c
   replace c:=ew.1 c;obtain⟨al,c⟩:=c;replace c:=ew.1 c;obtain⟨aE,c⟩:=c;cases bi with
   |true=>simp at c
   |false=>
    replace c:=dX.1 c;obtain⟨j,r,c⟩:=c;simp only[jd,eJ]at c;replace c:=dX.1 c;obtain⟨dm,b8,c⟩:=c;simp only[ar,mS.val.injEq]at c;obtain⟨rfl,rfl⟩:=c;have al:=aF al;have aE:=aF aE;obtain⟨n,S,bH⟩:=O.Ef V W rfl;simp only[]at S bH;obtain⟨_,_,I⟩:=bT D;have I:=I D;subst I;obtain⟨v,c9,ap,aA,F⟩:=n.row;have z:=n.size;simp only[]at z F;obtain⟨B,cb,eb,aX,c1,a7,A,ec,ef⟩:=(jQ.ty _ _ bW).zero w;rw[rx]at r;obtain⟨K,r⟩:=p9 r;rw[List.length_replicate]at K r;have J:=iS z;have cp:(gH (List.replicate (g+1) s.kR)).length=(g+1)*i.sz:=by
     rw[iS (sz:=i.sz) (by intro f d;rw[bY d,A,a7];omega),List.length_replicate]
    have an:gH j=(gH q).take (m*i.sz)++gH (List.replicate (g+1) s.kR)++(gH q).drop (m*i.sz+(g+1)*i.sz):=by
     rw[r,ox,ox,tR z,<-cw,rg z]
    have aN:∀f∈j,f.cells.length=i.sz:=by
     intro f d;rw[r]at d;rcases List.mem_append.1 d with d|d
     ·rcases List.mem_append.1 d with d|d
      ·exact z f (bJ d)
      ·rw[bY d,A,a7];omega
     ·exact z f (bK d)
    have b9:∀f∈gH j,f.scalar=true:=by
     intro f d;rw[an]at d;rcases List.mem_append.1 d with d|d
     ·rcases List.mem_append.1 d with d|d
      ·exact n.scalar f (bJ d)
      ·obtain⟨y,M,d⟩:=List.mem_flatMap.1 d;rw[bY M,A]at d;exact c1 f d
     ·exact n.scalar f (bK d)
    have L:j.length=q.length:=by rw[r];simp;omega
    have bX:(gH j).length=(gH q).length:=by rw[iS aN,J,L]
    have dn:(gH q).length<=v.size:=by
     rw[J,aA];exact aV _ n.room
    have ds:m*i.sz+(g+1)*i.sz<=(gH q).length:=by
     rw[J,<-cw];exact aV _ K
    have a8:B.cells.size=i.sz:=by have:=(aX w.heap μ).1;simp only[cR]at this;omega
    have cX:∃l:List am,(Builtin.zeroCells B.cells (g+1)).toList=l/\l.length=(g+1)*i.sz/\iJ w.heap μ (gH (List.replicate (g+1) s.kR)) l:=by
     have bS:iJ w.heap μ (gH (List.replicate (g+1) s.kR)) (Builtin.zeroCells B.cells (g+1)).toList:=by
      by_cases U:B.cells.size=0
      ·have bs:gH (List.replicate (g+1) s.kR)=[]:=aW (by rw[cp,<-a8,U];simp);have bu:(Builtin.zeroCells B.cells (g+1)).toList=[]:=aW (by rw[cR,tT,U];simp);rw[bs,bu];exact iJ.nil
      ·rw[Builtin.zeroCells,BU (g+1) D,ut,A];exact(aX _ _).replicate (g+1)
     exact⟨_,rfl,by rw[cR,tT,a8],bS⟩
    obtain⟨l,cF,cL,a6⟩:=cX;have b7:∀u∈l,u.oneCell'=true:=a6.H4 (by
     intro f d;obtain⟨y,M,d⟩:=List.mem_flatMap.1 d;rw[bY M,A]at d
     grind)
    have bN:iJ w.heap μ (gH j) ((v.toList.take (m*i.sz)++l++v.toList.drop (m*i.sz+l.length)).toArray.toList.take (gH j).length):=by
     rw[bX,an];rw[dA,CE _ _ D D];rw[cL];exact((F.take _).append a6).append (F.drop _)
    obtain⟨di,c4,c6,c7,eh⟩:=BN O V W rfl ap (.inl S) b8 (arr':=(v.toList.take (m*i.sz)++l++v.toList.drop (m*i.sz+l.length)).toArray)
     (by simp only[List.size_toArray,aT,List.length_take,List.length_drop,cR];rw[<-aA];omega) (by rw[L];exact n.room) (by intro k;have:=n.vC k;simp only at this;rw[L];omega) aN b9 bN
    refine⟨.tuple #[],_,di,?_,.undef,c4,c6,c7⟩;have av:=run_storeCells_at (P:=P) i.jz (m*i.sz) c9 l 0 v w ap D b7;simp only[Nat.add_zero]at av;simp[Builtin.clear_,run_underlying ae,cb,cF,av]
end
end
section
section
variable {P:ai}{cx:Ctx}{base:Nat}{w:World}{μ:Mu}{h h':H}{J:Nat}{e:Env}{a:Act}{o:Oper}{hp hp':af Obj}{p:T}
def St.grow(c:St cx base hp μ h)(l:hp.size<=hp'.size)(j:∀b,b<hp.size->hp'[b]? =hp[b]?):St cx base hp' μ h/\Ext hp μ hp' μ:=by
 have g:Ext hp μ hp' μ:=⟨l,λb i t=>⟨j b i,t⟩,λk f d=>⟨f,d,.inl rfl⟩,rfl,λb i _=>j b i⟩;refine⟨⟨c.wf,by have:=c.fit;omega,λk f d=>?_,c.inj,c.low,c.apart,λb hr=>bF (c.sY b hr) l,λn m s=>(c.Bl n m s).ext g⟩,g⟩;have⟨u,q,r⟩:=c.box k f d;exact⟨u,q,r.ext g (j _ (c.lt d))⟩
theorem IU(jQ:jF P cx){C y:ab}{N:ah}(x:St cx base w.heap μ h)(r:lj w.heap μ J e a.tmps)(aE:o.op= .convert C y N){k:T}
 (B:∃F,cx.ty C=some F) (hp:ir cx J e N=some p) (b:FS cx y p=some k) (an:h'=h):jP cx base w μ h.size ((execOp a.eval o).run P w) k h':=by
 subst an;obtain⟨bT,B⟩:=B;obtain⟨bC,W,_⟩:=lP (jQ.ty _ _ B);replace b:=dX.1 b;obtain⟨F,bn,b⟩:=b;obtain⟨d,U,K⟩:=lP (jQ.ty _ _ bn);have bu:=iL x r hp;cases bp:F.u<;>rw[bp]at b K<;>simp only[reduceCtorEq]at b;rename_i q;have:=mV K;subst this;have ae:∃c,p= .str c:=by cases p<;>first|exact⟨_,rfl⟩|(simp at b)
 obtain⟨c,rfl⟩:=ae;have b:(Z (cx.ty q) λE=>(match E.u with
  | .int l=>iG (F8 l .u8) (@List.rec Nat (λ_=>aa T) (some .iO) (λ_ _ _=>Z (iu (λg=>some (T.int .u8 (.ofNat g))) c) λz=>some (.ed z false)) c)
  |_=>none))=some k:=b
 replace b:=dX.1 b;obtain⟨E,bi,b⟩:=b;obtain⟨bB,V,M⟩:=lP (jQ.ty _ _ bi);cases bs:E.u<;>rw[bs]at b M<;>simp only[reduceCtorEq]at b;rename_i l;replace b:=ew.1 b;obtain⟨s,b⟩:=b;rw[Ak]at s;subst s;have:=yx M;subst this;obtain⟨O,Q⟩:=bu.mU
 let m:=(bytesOf c).size
 have A:∃n j,m<=n/\(execOp a.eval o).run P w= .ok (.value (.slice (some ⟨w.heap.size,0,none⟩) m n)) j/\j.heap.size=w.heap.size+1/\(∀t,t<w.heap.size->j.heap[t]? =w.heap[t]?)/\
  j.os=w.os/\j.tape=w.tape/\j.output=w.output/\∃fz,j.heap[w.heap.size]? =some (.cells ((bytesOf c).data.map (λi=>Value.int .u8 i.toNat)++Array.replicate (n-m) (.int .u8 0)) q fz):=by
  refine⟨grownCap w m 0 q,Lib.bytesWorld w q (bytesOf c),grownCap_ge w _ _ _,?_,Lib.bytesWorld_size _ _ _,λt ap=>Lib.bytesWorld_at_old _ _ _ t ap,rfl,rfl,rfl,_,Lib.bytesWorld_at_new _ _ _⟩;simp only[execOp,aE,Sem.run_bind,O,Lib.run_convert_string_bytes w C y q (bytesOf c) W U V,Result.andThen_ok,Sem.run_pure];rfl
 obtain⟨n,j,bH,A,bS,a7,aN,aX,a6,fz,R⟩:=A;obtain⟨bA,X⟩:=x.grow (hp':=j.heap) D a7;have I:m=c.length:=kz c;refine⟨_,j,μ,.inl A,?_,bA,⟨X,aN,aX,a6⟩,Ax.refl _ _⟩;cases c with
 |nil=>
  have b:some T.iO=some k:=b;simp at b;subst b;rw[I];exact .iO _ _
 |cons i c=>
  have b:(Z (iu (λg=>some (T.int .u8 (.ofNat g))) (i::c)) λz=>some (T.ed z false))=some k:=b;rw[Ba]at b;simp only[eJ,ar]at b;subst b;have aA:¬oU μ w.heap.size:=by
   rintro(⟨g,L,S,hl⟩|hr)
   ·have:=x.lt S;omega
   ·have:=x.sY _ hr;omega
  have av:m=(c.map λg=>T.int .u8 (.ofNat g)).length+1:=by rw[I];simp
  rw[av];refine .ed (T.int .u8 (.ofNat i)) (c.map λg=>T.int .u8 (.ofNat g)) false w.heap.size 0 n 1 _ q fz aA R D Y ?_ ?_ ?_ ?_
  ·intro k b;rw[<-aL (f:=λg=>T.int .u8 (.ofNat g))]at b;obtain⟨g,_,rfl⟩:=List.mem_map.1 b;rfl
  ·rw[<-aL (f:=λg=>T.int .u8 (.ofNat g)),tS];simp[bytesOf]
  ·rw[<-aL (f:=λg=>T.int .u8 (.ofNat g)),tS];intro k b;obtain⟨g,_,rfl⟩:=List.mem_map.1 b;exact⟨rfl,.int _ _⟩
  ·rw[<-aL (f:=λg=>T.int .u8 (.ofNat g)),tS];intro l k b;rw[aR]at b;cases s:(i::c)[l]? with
   |none=>rw[s]at b;grind
   |some v=>
    rw[s]at b;simp at b;subst b;have a8:v<256:=Q v (ay s);have bN:l<(i::c).length:=by
     grind
    have al:((bytesOf (i::c)).data.map (λi=>Value.int .u8 i.toNat)++Array.replicate (n-m) (.int .u8 0))[0+l]? =some (.int .u8 (v:Int)):=by
     rw[cJ,Array.getElem?_append_left (by grind [bytesOf]),Array.getElem?_map];have:(bytesOf (i::c)).data[l]? =some (UInt8.ofNat v):=by
      grind [bytesOf]
     rw[this];simp[kj a8]
    rw[cd,al];exact .int _ _
def Im{x:ah}(v:St cx base w.heap μ h)(r:lj w.heap μ J e a.tmps)(V:o.op= .next x true){s:T}
 (b:Cg x cx J e h=some (.val s h')):jP cx base w μ h.size ((execOp a.eval o).run P w) s h':=by
 unfold Cg at b;replace b:=dX.1 b;obtain⟨p,hp,b⟩:=b;have bC:=iL v r hp;have a7:∃t,p= .iter t:=by cases p<;>first|exact⟨_,rfl⟩|(simp at b)
 obtain⟨t,rfl⟩:=a7;replace b:=dX.1 b;obtain⟨j,av,b⟩:=b;replace b:=ew.1 b;obtain⟨bn,b⟩:=b;obtain⟨n,bW,O,C,an⟩:=bC.TA;obtain⟨y,I,B⟩:=v.box t n C;rw[av]at I;simp at I;subst I;obtain⟨a6,bs⟩:=B.iter bn;rcases bs with⟨f,d,aX,R,Q⟩|⟨b6,cp,cF,bT⟩|⟨cL,m,d,c1,bX,X,ae,b7,b8⟩;rotate_left;rotate_left
 ·exfalso;rw[X]at b
  grind
 rotate_left
 ·exfalso;cases hE:j.fR with
  |nil=>rw[hE]at b;grind
  |cons z c4=>
   obtain⟨k,u,cX,rfl,_⟩:=bT 0 z (by grind);rw[hE]at b
   grind
 have al:n.ep=0:=by rw[<-B.ep];omega
 have ap:=an al;subst ap;rw[aX]at b;have U:(getObj n.jz).run P w= .ok (.stringIter (bytesOf f) d) w:=by simp[getObj,Sem.run,Q]
 have b:(@Bool.rec (λ_=>aa mS) (some (.val (.tuple [.bool false]) h)) (Z (A8 f d) λM=>two M λc wd=>Z (iQ (Nat.add d wd)) λL=>Z (iQ (Nat.succ j.ver)) λN=>
  Z (h.put t ⟨j.sz,j.ep,N,j.exact,true,[.str f,.int .i64 (.ofNat L)]⟩) λh'=>
   some (.val (.tuple [.bool true,.int .i64 (.ofNat d),.int .i32 (.ofNat c)]) h')) (Nat.blt d (ml f)))=some (.val s h'):=b
 rw[kq]at b;cases A:Nat.blt d f.length with
 |false=>
  rw[A]at b;have b:some (mS.val (.tuple [.bool false]) h)=some (.val s h'):=b;simp at b;obtain⟨rfl,rfl⟩:=b;have bi:¬d<f.length:=by rw[<-aJ];grind
  refine jP.pure (c:= .tuple #[.bool false]) v ?_ (.tuple _ _ rfl λk s g=>?_)
  ·simp[execOp,V,Instr.next,O,U,kz,bi]
  ·cases k with
   |zero=>simp at g;subst g;exact .bool _
   |succ k=>grind
 |true=>
  rw[A]at b;have W:d<f.length:=by rw[aJ]at A;omega
  have b:(Z (A8 f d) λM=>two M λc wd=>Z (iQ (Nat.add d wd)) λL=>Z (iQ (Nat.succ j.ver)) λN=>
   Z (h.put t ⟨j.sz,j.ep,N,j.exact,true,[.str f,.int .i64 (.ofNat L)]⟩) λh'=>
    some (mS.val (.tuple [.bool true,.int .i64 (.ofNat d),.int .i32 (.ofNat c)]) h'))=some (.val s h'):=b
  replace b:=dX.1 b;obtain⟨⟨c,wd⟩,S,b⟩:=b;simp only[lQ,jd,eJ]at b;replace b:=dX.1 b;obtain⟨ae,bu,b⟩:=b;simp only[ar,mS.val.injEq]at b;obtain⟨rfl,rfl⟩:=b;unfold A8 at S;obtain⟨q,E,l⟩:=dX.1 S;rw[lI]at E;have aN:Utf8.decode (bytesOf f) d=(c,wd):=by
   cases F:Nat.blt q 128 with
   |false=>
    rw[F]at l;have A:q<256:=R q (ay E);have aA:Nat.blt q 256=true:=by rw[aJ];omega
    rw[aA]at l;have l:some (Utf8.decode (bytesOf f) d)=some (c,wd):=l
    grind
   |true=>
    rw[F]at l;have l:some (q,1)=some (c,wd):=l;simp only[ar,aB]at l;obtain⟨rfl,rfl⟩:=l;rw[aJ]at F;have aE:q<256:=D;have a8:(bytesOf f).get! d=UInt8.ofNat q:=by
     have bA:d<(bytesOf f).size:=by rw[kz];omega
     show(bytesOf f).data[d]! =_;rw[getElem!_pos (bytesOf f).data d bA];simp only[bytesOf,List.getElem_toArray,List.getElem_map];have:f[d]=q:=by rw[az W]at E;grind
     rw[this]
    unfold Utf8.decode;simp only[Nat.add_zero,a8,kj aE];rw[aq D]
  have bB:∀K:Obj,(setObj n.jz K).run P w= .ok () {w with heap:=w.heap.setIfInBounds n.jz K}:=by
   intro K;simp[setObj,Sem.run,Q]
  have b9:=v.lt C;obtain⟨bH,bN,bS⟩:=v.change (L':=n) (hp':=w.heap.setIfInBounds n.jz (.stringIter (bytesOf f) (d+wd))) C bu Y (by
   intro i cb bp;rw[Array.getElem?_setIfInBounds_ne (br bp)]) (.inl rfl) (by
   intro ca;refine⟨B.ep,B.sz,λk=>by grind,λ_=>⟨a6,.inl ⟨f,d+wd,rfl,R,by grind⟩⟩⟩)
  refine⟨.tuple #[.bool true,.int .i64 d,.int .i32 c],{w with heap:=w.heap.setIfInBounds n.jz (.stringIter (bytesOf f) (d+wd))},_,.inl ?_,.tuple _ _ rfl λk s g=>?_,bH,⟨bN,rfl,rfl,rfl⟩,bS⟩
  ·simp[execOp,V,Instr.next,O,U,kz,W,aN,bB,goInt]
  ·match k,g with
   |0,g=>simp at g;subst g;exact .bool _
   |1,g=>simp at g;subst g;exact .int _ _
   |2,g=>simp at g;subst g;exact .int _ _
   |k+3,g=>grind
def Na(jQ:jF P cx)(g:St cx base w.heap μ h){l:af ab}{y:ab}{k q:T}{m:am}(i:gW w.heap μ k m)(b:QF cx h l.toList k=some (.val q h')):
 sZ cx base w μ h.size ((Builtin.len_ l y #[m]).run P w) q h':=by
 replace b:=dX.1 b;obtain⟨v,ht,b⟩:=b;replace b:=dX.1 b;obtain⟨x,s,b⟩:=b;obtain⟨A,f,j⟩:=lP (jQ.ty _ _ s);have ht:l[0]? =some v:=by rw[lI]at ht;grind
 cases t:x.u<;>rw[t]at b j<;>simp only[reduceCtorEq]at b
 ·have:=uJ j;subst this;cases k<;>simp at b;obtain⟨c,rfl⟩:=iv.1 b;simp at c;subst c;obtain⟨d,_⟩:=i.mU;exact sZ.pure g (by simp[Builtin.len_,ht,run_underlying f,d,kz,goInt]) (.int _ _)
 ·have:=mV j;subst this;cases k<;>simp at b
  ·obtain⟨c,rfl⟩:=iv.1 b;simp at c;subst c;rename_i n B;cases n with
   |nil=>obtain⟨r,d⟩:=i.wj;exact sZ.pure g (by simp[Builtin.len_,ht,run_underlying f,d,goInt]) (.int _ _)
   |cons C n=>obtain⟨_,_,_,_,_,_,_,d,_⟩:=i.wm;exact sZ.pure g (by simp[Builtin.len_,ht,run_underlying f,d,goInt]) (.int _ _)
  ·obtain⟨c,rfl⟩:=iv.1 b;simp at c;subst c;obtain⟨r,z,d⟩:=i.Ce;exact sZ.pure g (by simp[Builtin.len_,ht,run_underlying f,d,goInt]) (.int _ _)
  ·obtain⟨c,rfl⟩:=iv.1 b;simp at c;subst c;obtain⟨_,_,_,d,_⟩:=i.u5;exact sZ.pure g (by simp[Builtin.len_,ht,run_underlying f,d,goInt]) (.int _ _)
 ·have:=tH j;subst this;obtain⟨c,rfl⟩:=iv.1 b;simp at c;subst c;exact sZ.pure g (by simp[Builtin.len_,ht,run_underlying f,goInt]) (.int _ _)
theorem Gy(jQ:jF P cx)(u:St cx base w.heap μ h)(r:lj w.heap μ J e a.tmps){c:Call}{I:Builtin}(aA:o.op= .call c)(ap:c.callee= .builtin I){n:List T}(an:r7 cx J e c.args.toList=some n){v:T}
 (b:mH I cx h c.argTypes.toList n=some (.val v h')):jP cx base w μ h.size ((execOp a.eval o).run P w) v h':=by
 have d:=yd u r an;have R:∀{m:Sem am},(execOp a.eval o).run P w=((m.run P w).andThen λv S=> .ok (Next.value v) S)->sZ cx base w μ h.size (m.run P w) v h'->jP cx base w μ h.size ((execOp a.eval o).run P w) v h':=by
  intro m hr av;obtain⟨z,S,aE,W,X,Z,ae,al⟩:=av;exact⟨z,S,aE,.inl (by rw[hr,W];rfl),X,Z,ae,al⟩
 have A:(execOp a.eval o).run P w=(builtin I c.argTypes o.type (c.args.map λ| .const _=>true|_=>false) (c.args.map a.eval)).run P w:=by
  simp[execOp,aA,resolve,ap,invoke];rfl
 have y:(c.args.map a.eval).toList=c.args.toList.map a.eval:=Y;cases I<;>simp only[mH,reduceCtorEq]at b
 case len=>
  match n,b,d with
  | [L],b,d=>
   obtain⟨g,t,f,l,k⟩:=d.nl;have j:t=[]:=aW (by have:=k.1;grind);subst j;have i:c.args.map a.eval= #[g]:=by apply cI;rw[y,f]
   refine R (m:=Builtin.len_ c.argTypes o.type #[g]) ?_ (Na jQ u l b);rw[A,i];simp[builtin]
 case append=>
  match n,b,d with
  | [L,V],b,d=>
   match O:c.argTypes.toList,b with
   | [F,U],b=>
    obtain⟨g,t,f,l,k⟩:=d.nl;obtain⟨K,x,rfl,C,B⟩:=k.nl;have j:x=[]:=aW (by have:=B.1;grind);subst j;have i:c.args.map a.eval= #[g,K]:=by apply cI;rw[y,f]
    have N:c.argTypes= #[F,U]:=by apply cI;rw[O]
    refine R (m:=Builtin.append_ #[F,U] o.type #[g,K]) ?_ (zI jQ u l C b);rw[A,i,N];simp[builtin]
 case clear=>
  match n,b,d with
  | [L],b,d=>
   match O:c.argTypes.toList,b with
   | [F],b=>
    obtain⟨g,t,f,l,k⟩:=d.nl;have j:t=[]:=aW (by have:=k.1;grind);subst j;have i:c.args.map a.eval= #[g]:=by apply cI;rw[y,f]
    have N:c.argTypes= #[F]:=by apply cI;rw[O]
    refine R (m:=Builtin.clear_ #[F] o.type #[g]) ?_ (IW jQ u l b);rw[A,i,N];simp[builtin]
 case min=>
  match n,b,d with
  | [L,V],b,d=>
   obtain⟨Q,rfl⟩:=iv.1 b;obtain⟨E,m,s,rfl,rfl,q⟩:=wX Q;obtain⟨g,t,f,l,k⟩:=d.nl;obtain⟨K,x,rfl,C,B⟩:=k.nl;have j:x=[]:=aW (by have:=B.1;grind);subst j;rw[l.kA,C.kA]at f;have i:c.args.map a.eval= #[.int E m,.int E s]:=by apply cI;rw[y,f]
   rw[qg]at q;simp only[ar]at q;subst q;refine jP.pure u ?_ (.int _ _);rw[A,i];simp only[builtin,Builtin.min_,List.foldlM,Builtin.min2,Sem.run_bind,Sem.run_pure,Result.andThen_ok];have:=Ah s m;by_cases M:s<m<;>simp[this,M]
 case max=>
  match n,b,d with
  | [L,V],b,d=>
   obtain⟨Q,rfl⟩:=iv.1 b;obtain⟨E,m,s,rfl,rfl,q⟩:=wX Q;obtain⟨g,t,f,l,k⟩:=d.nl;obtain⟨K,x,rfl,C,B⟩:=k.nl;have j:x=[]:=aW (by have:=B.1;grind);subst j;rw[l.kA,C.kA]at f;have i:c.args.map a.eval= #[.int E m,.int E s]:=by apply cI;rw[y,f]
   rw[qg]at q;simp only[ar]at q;subst q;refine jP.pure u ?_ (.int _ _);rw[A,i];have:=Ah m s;by_cases M:m<s<;>simp[builtin,Builtin.max_,Builtin.max2,this,M]
