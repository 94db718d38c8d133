/- TiWrite3 -/
import Derived.Test.YtalknpnbaceflaaGreatDoorA1
import Derived.Laws.Tables
import Derived.Great.BuildSlice
import Derived.Deep.AppendSrc
import Derived.Laws.AppendOwn
import Derived.Lib.ConvBytes
set_option linter.all false
set_option maxRecDepth 100000
set_option maxHeartbeats 0
namespace Go.TI
noncomputable section
section
section
variable {P:aj}{cx:Ctx}{base:Nat}{w:World}{μ:Mu}{h h':H}{D:Nat}{e:Env}{a:Act}{o:Oper}{hp hp':ah Obj}
def DI:∀(c:List Field),(∀f∈c,∃b,P.info? f.type=some b/\b.size≠0)->∃j,c.mapM (λf=>(P.info? f.type).map λb=>(f.offset,b.size))=some j/\
 ∀(d:Nat) f b,c[d]? =some f->P.info? f.type=some b->j[d]? =some (f.offset,b.size)
 | [],_=>⟨[],rfl,λd f b k=>by grind⟩
 |f::c,i=>by
  have⟨b,q,_⟩:=i f G;have⟨l,m,n⟩:=DI c λg p=>i g (by grind);refine⟨(f.offset,b.size)::l,by simp_all,λd g s k r=>?_⟩
  grind
def BJ(c:ah (Nat×ai)):(c.map λ(d,f)=>(d,a.eval f)).toList=c.toList.map λb=>(b.1,a.eval b.2):=by
 simp
theorem Jk(j7:jT P cx){t:af}{I:ah (Nat×ai)}(V:St cx base w.heap μ h)(r:lO w.heap μ D e a.tmps)(ap:o.op= .build t I){l:T}
 (b:Da t I cx D e h=some (.val l h')):j4 cx base w μ h.size ((execOp a.eval o).run P w) l h':=by
 replace b:=eg.1 b;obtain⟨bi,a7,b⟩:=b;replace b:=eg.1 b;obtain⟨U,aE,b⟩:=b;have N:=Am V r aE;obtain⟨bs,d,W,K,L,M,ab,x,_⟩:=(j7.ty _ _ a7).unfold;obtain⟨Q,R⟩:=iW.vJ (hp:=w.heap) (μ:=μ) ab;have fin:∀(i:ah aq) (g:List T),P.built t (I.toList.map λS=>(S.1,a.eval S.2))=some i->iW w.heap μ g i.toList->(∀l∈g,l.scalar=true)->l= .eZ g->h'=h->
  j4 cx base w μ h.size ((execOp a.eval o).run P w) l h':=by
  rintro i g O ae aN rfl rfl;refine j4.pure V ?_ (iu.AB ae aN);rw[<-BJ]at O;simp only[execOp,ap,Sem.run_bind,run_build w t _ i O,Result.andThen_ok,Sem.run_pure]
 cases a8:bi.u<;>rw[a8]at b x<;>simp at b
 ·rename_i n bn;have:=us x;subst this;replace b:=eg.1 b;obtain⟨bu,aX,b⟩:=b;replace b:=eg.1 b;obtain⟨g,y,b⟩:=b;obtain⟨m,rfl⟩:=iI.1 b;simp at m;subst m;obtain⟨s,_,_,p,_,_,_,_,_,_,v,_⟩:=(j7.ty _ _ aX).unfold;obtain⟨i,A,E,F,_⟩:=x6 (place':=λk=>some (k*s.size,s.size)) (by intro k q c;rw[v];exact c) U _ _ _ W.cells N Q R y;exact fin i g (by simp only[Program.built,K,L,M,p];exact A) E F rfl rfl
 ·rename_i bp;obtain⟨J,rfl,an,al⟩:=uB x;replace b:=eg.1 b;obtain⟨g,y,b⟩:=b;obtain⟨m,rfl⟩:=iI.1 b;simp at m;subst m;obtain⟨bg,av,aA⟩:=DI J.toList al;obtain⟨i,A,E,F,_⟩:=x6 (place':=λk=>bg.toArray[k]?) (by
   intro k q c;obtain⟨f,j,c⟩:=eg.1 c;obtain⟨bA,a6,c⟩:=eg.1 c;simp at c;rw[an]at j;rw[aR]at j;cases z:J.toList[k]? with
   |none=>rw[z]at j;grind
   |some Z=>
    rw[z]at j;simp at j;obtain⟨s,_,_,p,_,_,_,_,_,_,v,_⟩:=(j7.ty _ _ a6).unfold;rw[<-j]at p;have:=aA k Z s z p;rw[<-j]at c;simp only[]at c;rw[<-c,<-v]
    grind) U _ _ _ W.cells N Q R y
  exact fin i g (by simp only[Program.built,K,L,M,av];exact A) E F rfl rfl
def LE{d:Nat}{b:List T}(g:∀f∈b,f.cells.length=d){c:Nat}(i:c<b.length)(f:T):iq (b.set c f)=(iq b).take (c*d)++f.cells++(iq b).drop (c*d+d):=by
 rw[uy g,<-cm,r6 g,List.set_eq_take_append_cons_drop,au i,o7,nN,bj]
def uT{c:T}(b:Nat):iq (List.replicate b c)=(List.replicate b c.cells).flatten:=by
 induction b with
 |zero=>rfl
 |succ b d=>rw[dC,nN,d,dC,List.flatten_cons]
def CG{b:ah aq}(c:Nat)(g:0<b.size):((Array.range (c*b.size)).map (b[· % b.size]!)).toList=(List.replicate c b.toList).flatten:=by
 induction c with
 |zero=>simp
 |succ c f=>
  have d:(Array.range ((c+1)*b.size)).toList=(Array.range (c*b.size)).toList++(List.range b.size).map (c*b.size+ ·):=by
   simp only[Array.toList_range];rw[cm,List.range_add]
  rw[Array.toList_map,d,List.map_append,<-Array.toList_map,f,List.replicate_succ',List.flatten_append];congr 1;simp only[List.flatten_cons,List.flatten_nil,bG,List.map_map];apply List.ext_getElem
  ·simp
  simp_all[Nat.mod_eq_of_lt]
theorem iW.replicate{d:List T}{c:List aq}(f:iW hp μ d c)(b:Nat):iW hp μ (List.replicate b d).flatten (List.replicate b c).flatten:=by
 induction b with
 |zero=>exact iW.nil
 |succ b g=>rw[dC,dC,List.flatten_cons,List.flatten_cons];exact f.append g
def Gl(b:Nat)(f:Nat)(c:T)(g:List (Nat×T))(d:List T):r8 b ((f,c)::g) d=iS (Nat.beq (mJ c.cells) b) (J (mw d f c) λi=>r8 b g i):=rfl
def D9{b:Nat}(an:0<b):∀(m:List (Nat×T)) (qs:List (Nat×aq)) (f g:List T) (cells:ah aq),
 RM hp μ m qs->(∀d∈f,d.cells.length=b)->iW hp μ (iq f) cells.toList->(∀d∈iq f,d.scalar=true)->r8 b m f=some g->
 ∃q,Instr.fill (λi=>some (i*b,b)) cells qs=some q/\iW hp μ (iq g) q.toList/\(∀d∈iq g,d.scalar=true)/\(∀d∈g,d.cells.length=b)/\g.length=f.length:=by
 intro m;induction m with
 |nil=>
  intro qs f g cells hp p l y j;have:qs=[]:=aZ hp.1.symm;subst this;have:g=f:=by grind [r8]
  subst this;exact⟨cells,rfl,l,y,p,rfl⟩
 |cons W m Q=>
  intro qs f g cells D p l y j;obtain⟨c,ab,rfl,hr,J,E⟩:=D.nU;obtain⟨i,d⟩:=W;rw[Gl]at j;obtain⟨hl,j⟩:=fj.1 j;obtain⟨al,n,j⟩:=eg.1 j;have x:=aH hl;rw[kE]at x;rw[mz]at n;split at n
  ·rename_i v;simp at n;subst n;obtain⟨r,ae,_⟩:=hr.cells J;have s:=l.1;have t:=r.1;simp only[cY]at s t;have I:=jh p;have K:i*b+c.cells.size<=cells.size:=by
    rw[<-s,I,<-t,x,<-cm];exact aY _ v
   have M:=Iq (cells:=cells) (c:=c) K;have u:=LE p v d;have N:∀k∈f.set i d,k.cells.length=b:=by
    grind
   have A:iW hp μ (iq (f.set i d)) (c.cells.zipIdx.foldl (λz (k:aq×Nat)=>z.setIfInBounds (i*b+k.2) k.1) cells).toList:=by
    rw[M,u];have:c.cells.size=b:=B;rw[this];exact((l.take _).append r).append (l.drop _)
   have L:∀k∈iq (f.set i d),k.scalar=true:=by
    intro k O;rw[u]at O
    grind
   obtain⟨q,R,S,U,V,ap⟩:=Q ab _ g _ E N A L j;refine⟨q,?_,S,U,V,by grind⟩;simp only[Instr.fill];have F:¬(c.cells.size≠b||decide (i*b+c.cells.size>cells.size))=true:=by grind
   rw[Z F];exact R
  grind
theorem B4(j7:jT P cx){O:af}{c:Nat}{z:ah (Nat×ai)}(N:St cx base w.heap μ h)(r:lO w.heap μ D e a.tmps)(J:o.op= .buildSlice O c z){g:T}
 (b:qx O c z cx D e h=some (.val g h')):j4 cx base w μ h.size ((execOp a.eval o).run P w) g h':=by
 replace b:=eg.1 b;obtain⟨bu,ap,b⟩:=b;obtain⟨d,F,L⟩:=mt (j7.ty _ _ ap);cases aA:bu.u<;>rw[aA]at b L<;>simp at b;rename_i E;have:=nz L;subst this;replace b:=eg.1 b;obtain⟨f,n,b⟩:=b;replace b:=eg.1 b;obtain⟨bs,ae,b⟩:=b;replace b:=fj.1 b;obtain⟨K,b⟩:=b;replace b:=fj.1 b;obtain⟨l,b⟩:=b;replace b:=eg.1 b;obtain⟨es,I,b⟩:=b;rw[ko,H.mI]at b;simp only[aw,aF]at b;obtain⟨rfl,rfl⟩:=b;have K:=bh K;have l:=bh l;have l:c*f.size<=65536:=l;rw[<-sj]at*
 have Q:=Am N r ae;obtain⟨A,aN,bH,a6,bT,bS,q,bN,a7⟩:=(j7.ty _ _ n).zero w;have S:∃i:ah aq,(if c*f.size=0 then(pure #[]:Sem (ah aq))else do pure (<-zeroValue E).cells).run P w= .ok (if c*f.size=0 then #[]else A.cells) w/\
  ((Array.range (c*f.size)).map ((if c*f.size=0 then #[]else A.cells)[· % (if c*f.size=0 then #[]else A.cells).size]!))=i/\iW w.heap μ (iq (List.replicate c f.lH)) i.toList:=by
  by_cases j:c*f.size=0
  ·have V:c=0:=by
    grind [Nat.mul_eq_zero]
   subst V;refine⟨_,G,rfl,?_⟩;simp[iq,iW.nil]
  ·refine⟨_,by simp_all,rfl,?_⟩;rw[Z j,<-a7,CG c B,uT,q];exact(a6 _ _).replicate c
 obtain⟨i,bC,p,aX⟩:=S;have av:∀g∈List.replicate c f.lH,g.cells.length=f.size:=by
  intro g k;rw[bZ k,q];omega
 have an:∀g∈iq (List.replicate c f.lH),g.scalar=true:=by
  intro g k;obtain⟨y,aE,k⟩:=List.mem_flatMap.1 k;rw[bZ aE,q]at k
  grind
 rw[sj]at I;obtain⟨v,m,t,bp,M,bW⟩:=D9 B bs _ _ es i Q av aX an I;have U:es.length=c:=by grind
 have ab:v.size=c*f.size:=by
  have:=t.1;rw[jh M,U]at this
  grind
 obtain⟨bA,a8,bg,bi,bn⟩:=zw N E (arr:=v) (cap:=c) (sz:=f.size) (ex:=true) (es:=es) ab B B M bp (by
  rw[bQ]
  ·exact t
  ·have:=t.1;omega)
 refine⟨.slice (some ⟨w.heap.size,0,none⟩) c c,_,bA,.inl ?_,.arr _ 0 0 c false _ _ c bn (ax _) (ax _) (λ_=>⟨G,G,G⟩),a8,bg,bi⟩;have W:¬c*f.size>2^24:=B;have bB:Instr.fill (λs=>some (s*f.size,f.size)) i (z.map λ(s,x)=>(s,a.eval x)).toList=some v:=by rw[BJ];exact m
 by_cases j:c*f.size=0
 ·have R:i= #[]:=by rw[<-p,j];simp
  rw[R]at m;have al:Array.map (λ_=>(default:aq)) (Array.range 0)= #[]:=G;simp[execOp,J,Instr.buildSlice,run_underlying F,(j7.ty _ _ n).run_sizeOf,j,al,m,newRow]
 ·simp only[j,br]at p;simp[execOp,J,Instr.buildSlice,run_underlying F,(j7.ty _ _ n).run_sizeOf,j,W,aN,p,m,newRow]
set_option maxRecDepth 20000 in
theorem C3(j7:jT P cx){t:af}{x I:ai}(F:St cx base w.heap μ h)(r:lO w.heap μ D e a.tmps)(Q:o.op= .makeSlice t x I){i:T}
 (b:rU t x I cx D e h=some (.val i h')):j4 cx base w μ h.size ((execOp a.eval o).run P w) i h':=by
 replace b:=eg.1 b;obtain⟨bp,aE,b⟩:=b;obtain⟨d,O,V⟩:=mt (j7.ty _ _ aE);cases aN:bp.u<;>rw[aN]at b V<;>simp at b;rename_i M;have:=nz V;subst this;replace b:=eg.1 b;obtain⟨f,v,b⟩:=b;replace b:=eg.1 b;obtain⟨p,hp,b⟩:=b;replace b:=eg.1 b;obtain⟨q,av,b⟩:=b;replace b:=eg.1 b;obtain⟨g,hl,b⟩:=b;replace b:=eg.1 b;obtain⟨c,ae,b⟩:=b;replace b:=fj.1 b;obtain⟨R,b⟩:=b;replace b:=fj.1 b;obtain⟨N,b⟩:=b;replace b:=fj.1 b;obtain⟨m,b⟩:=b;replace b:=fj.1 b;obtain⟨s,b⟩:=b;rw[ko,H.mI]at b;simp only[aw,aF]at b;obtain⟨rfl,rfl⟩:=b;have R:=bh R;have N:=bh N;have m:=bh m;have s:c*f.bytes<=70368744177664:=bh s;obtain⟨bT,rfl⟩:=pQ hl;obtain⟨bW,rfl⟩:=pQ ae;have W:=(iZ F r hp).kR;have z:=(iZ F r av).kR;obtain⟨J,aX,bC,a6,bS,bN,E,bH,a7⟩:=(j7.ty _ _ v).zero w;obtain⟨bX,U,S,bA⟩:=(j7.ty _ _ v).run_typeInfo w;have bu:c<=70368744177664:=aU (Nat.le_mul_of_pos_right c B) s;have al:∃k:ah aq,(if c*f.size=0 then(pure #[]:Sem (ah aq))else do pure (<-zeroValue M).cells).run P w= .ok (if c*f.size=0 then #[]else J.cells) w/\
  ((Array.range (c*f.size)).map ((if c*f.size=0 then #[]else J.cells)[· % (if c*f.size=0 then #[]else J.cells).size]!))=k/\iW w.heap μ (iq (List.replicate c f.lH)) k.toList:=by
  by_cases j:c*f.size=0
  ·have an:c=0:=by
    grind [Nat.mul_eq_zero]
   subst an;refine⟨_,G,rfl,?_⟩;simp[iq,iW.nil]
  ·refine⟨_,by simp_all,rfl,?_⟩;rw[Z j,<-a7,CG c B,uT,E];exact(a6 _ _).replicate c
 obtain⟨k,bB,A,ab⟩:=al;have y:∀n,∀i∈List.replicate n f.lH,i.cells.length=f.size:=by
  intro n i l;rw[bZ l,E];omega
 have aA:∀i∈iq (List.replicate g f.lH),i.scalar=true:=by
  intro i l;obtain⟨I,z,l⟩:=List.mem_flatMap.1 l;rw[bZ z,E]at l
  grind
 have ap:k.size=c*f.size:=by
  have:=ab.1;rw[jh (y c)]at this
  grind
 obtain⟨bs,a8,bg,bi,bn⟩:=zw F M (arr:=k) (cap:=c) (sz:=f.size) (ex:=Nat.beq g c) (es:=List.replicate g f.lH) ap (by grind) (by simp_all) (y g) aA (by
  rw[jh (y g),List.length_replicate];have:=ab.take (g*f.size);rw[uy (y c)]at this;rw[List.take_replicate,cE m]at this;omega)
 refine⟨.slice (some ⟨w.heap.size,0,none⟩) g c,_,bs,.inl ?_,.arr _ 0 0 g false _ _ c bn (ax _) m (λ_=>⟨G,G,G⟩),a8,bg,bi⟩;have K:IntKind.i64.wrap (Int.ofNat c)=(c:Int):=IntWalk.i64_in (c:Int) ⟨B,B⟩;have L:IntKind.i64.wrap (Int.ofNat g)=(g:Int):=IntWalk.i64_in (g:Int) ⟨B,B⟩;have t1:¬((f.bytes:Int)*(c:Int)>2^48):=by
  have:((c*f.bytes:Nat):Int)<=70368744177664:=Int.ofNat_le.2 s;rw[Int.mul_comm];omega
 have t2:(decide ((c:Int)<0)||decide ((f.bytes:Int)*(c:Int)>2^48)||decide ((g:Int)<0)||decide ((g:Int)>(c:Int)))=false:=by
  grind
 by_cases j:c*f.size=0
 ·simp only[j,bw]at A;simp only[execOp,Q,Instr.makeSlice,Sem.run_bind,run_underlying O,Result.andThen_ok,W,z,asInt,asIntOf,Sem.run_pure,U,S,K,L,t2,cC,br,run_askRoom,(j7.ty _ _ v).run_sizeOf,cG,j,bw,A,newRow,run_newObj]
 ·simp only[j,br]at A;simp only[execOp,Q,Instr.makeSlice,Sem.run_bind,run_underlying O,Result.andThen_ok,W,z,asInt,asIntOf,Sem.run_pure,U,S,K,L,t2,cC,br,run_askRoom,(j7.ty _ _ v).run_sizeOf,cG,j,aX,A,newRow,run_newObj]
theorem Jf{f:af}{i:ai}(d:St cx base w.heap μ h)(s:lO w.heap μ D e a.tmps)(l:o.op= .range f i)(m:P.underlying f=some .string){g:T}
 (b:F7 i cx D e h=some (.val g h')):j4 cx base w μ h.size ((execOp a.eval o).run P w) g h':=by
 replace b:=eg.1 b;obtain⟨r,hp,b⟩:=b;cases r<;>simp at b;rename_i c;rw[ko,H.mI]at b;simp only[aw,aF]at b;obtain⟨rfl,rfl⟩:=b;obtain⟨k,j⟩:=(iZ d s hp).nq;obtain⟨n,p,q⟩:=d.new (.stringIter (bytesOf c) 0) ⟨0,w.heap.size,0,1⟩ ⟨1,0,0,true,true,[.str c,.int .i64 0]⟩ rfl (by
  intro t;refine⟨rfl,rfl,λu=>by grind,λ_=>⟨rfl,.inl ⟨c,0,rfl,j,G⟩⟩⟩)
 refine⟨.pointer (some ⟨w.heap.size,0,none⟩),{w with heap:=w.heap.push (.stringIter (bytesOf c) 0)},_,.inl ?_,.iter _ _ _ (kt _ _ _) (λ_=>rfl),n,⟨p,rfl,rfl,rfl⟩,q⟩;simp[execOp,l,Instr.range,run_underlying m,k]
end
end
section
section
variable {P:aj}{cx:Ctx}{base:Nat}{w:World}{μ:Mu}{h h':H}{D:Nat}{e:Env}{a:Act}{o:Oper}{hp hp':ah Obj}
def St.E3(l:St cx base hp μ h){d:Nat}{c:Loc}{b:jK}(i:μ d=some c)(j:h.get d=some b)(k:b.it=false):Cw hp μ c b.exact b.gW/\b.ep=c.ep/\b.sz=c.sz:=by
 have⟨m,f,g⟩:=l.box d c i;rw[j]at f;simp at f;subst f;exact⟨g.plain k,g.ep,g.sz⟩
def Cz(p:St cx base w.heap μ h){f:Nat}{b:Loc}{k:jK}(n:μ f=some b)(u:h.get f=some k)(v:k.it=false){l arr':ah aq}{i:af}(D:w.heap[b.jO]? =some (.cells l i (0,0)))
 {ep' O:Nat} {m:Bool} {c:List T} (r:ep'=b.ep\/ep'=b.ep+1) (z:h.put f ⟨k.sz,ep',O,m,false,c⟩=some h') (I:arr'.size=b.cap*b.sz) (A:c.length<=b.cap) (s:m=true->b.cap=c.length)
 (J:∀j∈c,j.cells.length=b.sz) (F:∀j∈iq c,j.scalar=true) (q:iW w.heap μ (iq c) (arr'.toList.take (iq c).length)):
 ∃g,St cx base (w.setRow b.jO arr').heap g h'/\sd w μ (w.setRow b.jO arr') g/\Bb μ g h.size h'.size/\g f=some ⟨ep',b.jO,b.cap,b.sz⟩:=by
 have⟨Q,R,K⟩:=p.E3 n u v;have y:∀d,d<w.heap.size->d≠b.jO->(w.setRow b.jO arr').heap[d]? =w.heap[d]? :=λd _ x=>setRow_other w b.jO d arr' x;have E:=setRow_heap w b.jO l arr' i (0,0) D;have⟨L,M,N⟩:=p.change (L':=⟨ep',b.jO,b.cap,b.sz⟩) n z G y (by
  rcases r with rfl|rfl
  ·simp
  simp) (by
  intro t;refine⟨rfl,K,λ_=>⟨⟨arr',i,E,I,q.ext t⟩,A,s,J,F⟩,λS=>by grind⟩)
 exact⟨_,L,⟨M,rfl,rfl,rfl⟩,N,kt _ _ _⟩
def Dq{j:Type}(b d:List j){o c:Nat}(k:o+d.length<=c)(l:c<=b.length):(b.take o++d++b.drop (o+d.length)).take c=(b.take c).take o++d++(b.take c).drop (o+d.length):=by
 rw[List.take_append,List.take_append];have f:(b.take o).take c=(b.take c).take o:=by rw[List.take_take,List.take_take,Nat.min_comm]
 have g:(b.take o).length=o:=by grind
 have i:(b.take o++d).length=o+d.length:=by grind
 rw[f,g,i]
 grind [bQ,List.drop_take]
def Sq{b c:T}{g:Nat}{f:List T}(q:∀r∈f,r.scalar=true)(d:mS b g f=some c):
 g+f.length<=b.cells.length/\c.cells=b.cells.take g++f++b.cells.drop (g+f.length):=by
 by_cases k:∃i,b= .eZ i
 ·obtain⟨i,rfl⟩:=k;have⟨s,l,j⟩:=eg.1 d;simp at j;subst j;exact qF l
 ·have n:b.cells=[b]:=by cases b<;>first|rfl|grind
  have m:g=0/\f=[c]:=by
   unfold mS at d;cases b<;>first|(exact absurd ⟨_,rfl⟩ k)|(simp only[]at d;split at d<;>simp at d;subst d;exact⟨rfl,rfl⟩)
  obtain⟨rfl,rfl⟩:=m;have p:=q c G;have:c.cells=[c]:=by cases c<;>simp[T.scalar]at p<;>rfl
  rw[n,this];simp
theorem Jd(j7:jT P cx){t:af}{x n:ai}(K:St cx base w.heap μ h)(r:lO w.heap μ D e a.tmps)(bT:o.op= .store t x n){k:T}
 (f:F5 t x n cx D e h=some (.val k h')):j4 cx base w μ h.size ((execOp a.eval o).run P w) k h':=by
 replace f:=eg.1 f;obtain⟨cX,b9,f⟩:=f;replace f:=eg.1 f;obtain⟨p,hp,f⟩:=f;replace f:=eg.1 f;obtain⟨u,bX,f⟩:=f;replace f:=fj.1 f;obtain⟨bH,f⟩:=f;replace f:=eg.1 f;obtain⟨W,b,f⟩:=f;simp at f;obtain⟨rfl,rfl⟩:=f;have ca:=iZ K r hp;obtain⟨a6,qs,cF⟩:=(iZ K r bX).cells bH;have bW:∃y L c i,p= .fc y L c i:=by
  unfold H.store at b;cases p<;>first|(exact⟨_,_,_,_,rfl⟩)|(simp at b)
 obtain⟨y,L,c,i,rfl⟩:=bW;unfold H.store at b;replace b:=fj.1 b;obtain⟨I,b⟩:=b;replace b:=eg.1 b;obtain⟨bg,ab,b⟩:=b;obtain⟨a7,M,a8,U,aX,d⟩:=bg;have b:iS (Nat.beq M L) (@Bool.rec (λ_=>aa H) (J (oo d c) λl=>J (mS l i u.cells) λm=>J (mw d c m) λz=>J (jd (Nat.succ a8)) λS=>h.put y ⟨a7,M,S,U,false,z⟩) none aX)=some W:=b;replace b:=fj.1 b;obtain⟨an,b⟩:=b;cases aX with
 |true=>simp at b
 |false=>
  have b:(J (oo d c) λl=>J (mS l i u.cells) λm=>J (mw d c m) λz=>J (jd (Nat.succ a8)) λS=>h.put y ⟨a7,M,S,U,false,z⟩)=some W:=b;replace b:=eg.1 b;obtain⟨l,A,b⟩:=b;replace b:=eg.1 b;obtain⟨m,bB,b⟩:=b;replace b:=eg.1 b;obtain⟨z,E,b⟩:=b;simp only[jt,fw]at b;rw[mg]at A;have an:=aH an;have I:=aH I;rw[kE]at I;rw[mz]at E;split at E
  ·rename_i F;simp at E;subst E;obtain⟨g,c4,b6,Z,_,bp⟩:=ca.sx;obtain⟨q,V,bi⟩:=K.E3 Z ab rfl;simp only[]at V bi;have bs:=bp B;subst bs;obtain⟨v,cL,av,aE,N⟩:=q.row;have s:=q.size;simp only[]at s N;have bS:l∈d:=aC A;obtain⟨bN,ae⟩:=Sq qs bB;have c9:=s l bS;have bA:d[c]=l:=by rw[aB F]at A;simpa using A
   have O:=jh s;have ap:iq (d.set c m)=(iq d).take (c*g.sz+i)++u.cells++(iq d).drop (c*g.sz+i+u.cells.length):=by
    rw[LE s F,ae];have al:(iq d).drop (c*g.sz)=l.cells++(iq d).drop (c*g.sz+g.sz):=by
     rw[<-cm,r6 s,r6 s,aJ F,bA,nN]
    have ht:(iq d).take (c*g.sz+i)=(iq d).take (c*g.sz)++l.cells.take i:=by
     rw[List.take_add,al,dt B]
    have bu:(iq d).drop (c*g.sz+i+u.cells.length)=l.cells.drop (i+u.cells.length)++(iq d).drop (c*g.sz+g.sz):=by
     rw[da,<-dh,al,List.drop_append_of_le_length bN]
    rw[ht,bu];simp[bj]
   have c7:c*g.sz+i+u.cells.length<=(iq d).length:=by
    rw[O];have:(c+1)*g.sz<=d.length*g.sz:=aY _ F;rw[cm]at this;omega
   have c6:(iq d).length<=v.size:=by
    rw[O,aE];exact aY _ q.room
   have Q:=a6.1;have aN:∀k∈d.set c m,k.cells.length=g.sz:=by
    intro k j;rcases cH j with R|rfl
    ·exact s k R
    ·rw[ae];simp;omega
   have b7:∀k∈iq (d.set c m),k.scalar=true:=by
    intro k j;rw[ap]at j;rcases List.mem_append.1 j with j|j
    ·rcases List.mem_append.1 j with j|j
     ·exact q.scalar k (bO j)
     grind
    ·exact q.scalar k (bP j)
   have bC:(iq (d.set c m)).length=(iq d).length:=by
    rw[jh aN,O];simp
   have bn:iW w.heap μ (iq (d.set c m)) ((v.toList.take (c*g.sz+i)++(a.eval n).cells.toList++v.toList.drop (c*g.sz+i+(a.eval n).cells.toList.length)).toArray.toList.take (iq (d.set c m)).length):=by
    rw[bC,ap];rw[dD,Dq _ _ B B];rw[<-Q];exact((N.take _).append a6).append (N.drop _)
   obtain⟨c1,cb,cd,cp,dd⟩:=Cz K Z ab rfl av (.inl V) b (arr':=(v.toList.take (c*g.sz+i)++(a.eval n).cells.toList++v.toList.drop (c*g.sz+i+(a.eval n).cells.toList.length)).toArray)
    (by simp only[List.size_toArray,aV,List.length_take,List.length_drop,cY]at Q|-;rw[<-aE];omega) (by simpa using q.room) (by intro R;have:=q.wq R;grind) aN b7 bn
   refine⟨Go.undef,_,c1,.inr ⟨?_,rfl⟩,.undef,cb,cd,cp⟩;have aA:=run_storeCells_at (P:=P) g.jO (c*g.sz+i) cL (a.eval n).cells.toList 0 v w av B cF;simp only[Nat.add_zero]at aA;have b8:(a.eval n).cells.size=cX.size:=by rw[<-I,Q];simp
   simp only[execOp,bT,Instr.storeAt,Sem.run_bind,b6,Instr.sureAddr,Sem.run_pure,Result.andThen_ok,storeVar,(j7.ty _ _ b9).run_sizeOf,b8,ne_eq,not_true,br,aA]
  grind
end
end
section
section
variable {P:aj}{cx:Ctx}{base:Nat}{w:World}{μ:Mu}{h h':H}{D:Nat}{e:Env}{a:Act}{o:Oper}{hp hp':ah Obj}
def Pm{g:Nat}{c:List T}(d:fits g c=true){k:Nat}(i:∀b∈c,b.cells.length=k):∀b∈c,b.cells.length=g:=by
 cases c with
 |nil=>intro b f;simp at f
 |cons j c=>
  have d:Nat.beq (mJ j.cells) g=true:=d;have:=aH d;rw[kE]at this;have l:=i j G;intro b f;rw[i b f];omega
structure DW(P:aj)(w:World)(μ:Mu)(c:aq)(es:List T)(sz:Nat):Prop where
 Mz:∀v∈es,v.cells.length=sz
 scalar:∀v∈iq es,v.scalar=true
 form:∃ad cap news,c= .slice ad es.length cap/\es.length<=cap/\iW w.heap μ (iq es) news/\(∀u∈news,u.oneCell'=true)/\
  ((ad=none/\es=[])\/∃x:Addr,ad=some x/\∀(j:Nat) u,news[j]? =some u->w.cell? (x.add j)=some u)
def iW.IX{b:List T}{c:List aq}(d:iW hp μ b c)(l:∀v∈b,v.scalar=true):∀j∈c,j.oneCell'=true:=by
 intro j m;obtain⟨k,g,rfl⟩:=List.getElem_of_mem m;have i:k<b.length:=by rw[d.1];exact g
 have⟨n,f,hr⟩:=d.get (k:=k) (v:=b[k]) (by simp[i]);simp[g]at f;subst f;exact uD hr (l _ (aG i))
def qv(s:St cx base w.heap μ h){I:T}{m:aq}{es:List T}(x:iu w.heap μ I m)(c:h.j1 I=some es):∃A,DW P w μ m es A:=by
 unfold H.j1 at c;cases I<;>simp at c
 ·
  rename_i al an;subst c;cases al with
  |nil=>
   obtain⟨k,rfl⟩:=x.wO;refine⟨0,G,by simp[iq],k,0,[],rfl,ax _,iW.nil,G,?_⟩;cases k with
   |none=>exact .inl ⟨rfl,rfl⟩
   |some y=>exact .inr ⟨y,rfl,G⟩
  |cons p es=>
   obtain⟨K,off,E,A,q,V,fz,rfl,bX,Q,bg,bS,bA,bu,aX,hr⟩:=x.wP;have F:∀f∈iq (p::es),f.scalar=true:=λf g=>(aX f g).1;have t:vY w.heap μ K off (iq (p::es)):=⟨⟨q,V,fz,Q,bu,hr⟩,F⟩;have r:iW w.heap μ (iq (p::es)) ((q.toList.drop off).take (iq (p::es)).length):=by
    refine⟨dR,λz f g=>?_⟩;have a8:z<(iq (p::es)).length:=by
     rcases aT z (iq (p::es)).length with y|y
     ·exact y
     ·rw[bV y]at g;simp at g
    have:=hr z f g;have bp:off+z<q.size:=B;simpa[List.getD,cD,a8,cj,bp]using this
   refine⟨A,bA,F,some ⟨K,off,none⟩,E,_,rfl,bg,r,r.IX F,.inr ⟨_,rfl,λj u d=>?_⟩⟩;rw[mp];rw[cD]at d;split at d
   ·rw[bU]at d;simp only[World.cell?,Q];simpa using d
   ·simp at d
 ·subst c;obtain⟨k,E,rfl⟩:=x.C0;refine⟨0,G,by simp[iq],k,E,[],rfl,ay _,iW.nil,G,?_⟩;cases k with
  |none=>exact .inl ⟨rfl,rfl⟩
  |some y=>exact .inr ⟨y,rfl,G⟩
 ·rename_i b ab l i an;replace c:=eg.1 c;obtain⟨W,aN,c⟩:=c;obtain⟨A,ae,b7,bH,U,n⟩:=W;have c:iS (Nat.beq ae ab) (@Bool.rec (λ_=>aa (List T)) (J (kZ l n) λt=>takeN i t) none U)=some es:=c;replace c:=fj.1 c;obtain⟨O,c⟩:=c;cases U with
  |true=>simp at c
  |false=>
   have c:(J (kZ l n) λt=>takeN i t)=some es:=c;replace c:=eg.1 c;obtain⟨t,hr,c⟩:=c;rw[nO]at hr;split at hr
   ·rename_i bW;simp at hr;subst hr;rw[pR]at c;split at c
    ·rename_i bn;simp at c bn;subst c;obtain⟨D,k,L,rfl,aE,bN,a6,a7⟩:=x.vP;obtain⟨m,ap,av⟩:=s.E3 aE aN rfl;simp only[]at ap av;have O:=aH O;obtain⟨bB,bC,Z⟩:=a7 B;obtain⟨q,V,bs,b6,r⟩:=m.row;have v:=m.size;simp only[]at v r;have N:=Gj v l i;have R:((n.drop l).take i).length=i:=dR;have bT:=jh v;have M:iW w.heap μ (iq ((n.drop l).take i)) (((q.toList.take (iq n).length).drop (l*D.sz)).take (i*D.sz)):=by
      rw[N];exact(r.drop _).take _
     have S:∀f∈iq ((n.drop l).take i),f.scalar=true:=by
      intro f g;rw[N]at g;exact m.scalar f (bP (bO g))
     refine⟨D.sz,λf g=>v f (bP (bO g)),S,k,L,_,by rw[R],by rw[R];exact a6,M,M.IX S,?_⟩;by_cases aA:L=0
     ·have bi:i=0:=B;subst bi;cases k with
      |none=>exact .inl ⟨rfl,G⟩
      |some y=>exact .inr ⟨y,rfl,G⟩
     ·refine .inr ⟨_,Z aA,λj u d=>?_⟩;rw[mp];rw[cD]at d;split at d
      ·rw[bU,cD]at d;split at d
       ·simp only[World.cell?,bs];simpa using d
       ·simp at d
      ·simp at d
    ·simp at c
   ·simp at hr
def DW.src{f:aq}{c:List T}{d:Nat}(k:DW P w μ f c d){l m:af}(j:P.underlying l=some (.slice m)):∃b,Src P d l f c.length b w/\iW w.heap μ (iq c) b:=by
 obtain⟨s,g,b,rfl,t,i,n,p⟩:=k.form;refine⟨b,?_,i⟩;have hl:b.length=c.length*d:=by rw[<-i.1,jh k.Mz]
 rcases p with⟨rfl,rfl⟩|⟨r,rfl,q⟩
 ·have:b=[]:=aZ (by simpa using hl);subst this;exact Src.ofNil w j g
 ·exact Src.ofSlice w j r c.length g b hl q n
def DW.first{f:aq}{c:List T}{d:Nat}(j:DW P w μ f c d):∃b,(Builtin.firstCells d c.length f).run P w.drew= .ok b.toArray w.drew/\iW w.heap μ (iq c) b:=by
 obtain⟨n,g,b,rfl,q,i,p,k⟩:=j.form;refine⟨b,?_,i⟩;have hl:b.length=c.length*d:=by rw[<-i.1,jh j.Mz]
 rcases k with⟨rfl,rfl⟩|⟨m,rfl,l⟩
 ·have:b=[]:=aZ (by simpa using hl);subst this;exact run_firstCells_none w.drew d 0 0 g
 ·exact run_firstCells_some w.drew d c.length m c.length g b hl (by simpa using l)
end
end
section
section
variable {P:aj}{cx:Ctx}{base:Nat}{w:World}{μ:Mu}{h h':H}{D:Nat}{e:Env}{a:Act}{o:Oper}{hp hp':ah Obj}
structure Yj(P:aj)(w:World)(μ:Mu)(sz:Nat)(tx:af)(x:aq)(xs:List T)(news:List aq):Prop where
 src:Src P sz tx x xs.length news w
 rel:iW w.heap μ (iq xs) news
 Mz:∀v∈xs,v.cells.length=sz
 scalar:∀v∈iq xs,v.scalar=true
structure Yh(P:aj)(w:World)(μ:Mu)(sz:Nat)(c:aq)(es:List T)(olds:List aq):Prop where
 first:(Builtin.firstCells sz es.length c).run P w.drew= .ok olds.toArray w.drew
 rel:iW w.heap μ (iq es) olds
 Mz:∀v∈es,v.cells.length=sz
 scalar:∀v∈iq es,v.scalar=true
def uA(c:ah aq)(b:Nat):(Builtin.zeroCells c b).size=b*c.size:=by simp[Builtin.zeroCells]
def xY{d f:List T}{c:T->Prop}(i:∀b∈iq d,c b)(j:∀b∈iq f,c b):∀b∈iq (d++f),c b:=by
 intro b g;rw[o7]at g
 grind
def Ge{g f:List aq}{i:ah aq}{b c d:Nat}(j:g.length+f.length=c*d)(k:i.size=d)(l:c<=b):
 ((g++f).toArray++Builtin.zeroCells i (b-c)).size=b*d:=by
 simp only[Array.size_append,List.size_toArray,aV,uA,j,k];rw[<-cy]
 grind
def Ks(j7:jT P cx){n p ty' i:af}{d:Ty}(A:P.underlying n=some (.slice i))(E:cx.ty i=some d){j:aa Addr}{g:Nat}{b c:List T}{m l:List aq}{q:aq}
 (K:Yh P w μ d.size (.slice j b.length g) b m) (J:Yj P w μ d.size p q c l) (t:g<b.length+c.length) (R:1<=d.bytes) (D:(b.length+c.length)*d.bytes<=70368744177664):
 ∃(f:aq) (k:Nat),b.length+c.length<=k/\f.cells.size=d.size/\(Builtin.append_ #[n,p] ty' #[.slice j b.length g,q]).run P w=
  .ok (.slice (some ⟨w.heap.size,0,none⟩) (b.length+c.length) k) {w with drawn:=w.drawn+1,heap:=w.heap.push (.cells ((m++l).toArray++Builtin.zeroCells f.cells (k-(b.length+c.length))) i)}:=by
 have⟨I,L,f,u,M,v,x,N,O,Q,y,z,_⟩:=(j7.ty _ _ E).unfold;have F:f.cells.size=d.size:=by
  have:=(iW.vJ (hp:= #[]) (μ:=⟨λ_=>none,λ_=>False⟩) x).1.1
  grind
 have S:b.length+c.length<=70368744177664:=aU (Nat.le_mul_of_pos_right _ B) D;have r:=K.first;have s:=J.src;rw[<-y]at r s;have:=run_append_grow_src w n p ty' i I f A u v j b.length g m r q c.length l s t B (by rw[z];exact growslice_fits t B);exact⟨f,_,grownCap_ge w _ _ _,F,this⟩
def Eg(j7:jT P cx)(R:St cx base w.heap μ h){x y ty' n:af}{d:Ty}(D:P.underlying x=some (.slice n))(J:cx.ty n=some d){ad:aa Addr}{cap:Nat}{es c:List T}{s r:List aq}{z:aq}
 (i:Yh P w μ d.size (.slice ad es.length cap) es s) (g:Yj P w μ d.size y z c r) (E:cap<es.length+c.length) {f:T} (b:h.jH d.size d.bytes es c=some (f,h')):
 ∃t m j,(Builtin.append_ #[x,y] ty' #[.slice ad es.length cap,z]).run P w= .ok t m/\iu m.heap j f t/\St cx base m.heap j h'/\sd w μ m j/\Bb μ j h.size h'.size:=by
 unfold H.jH at b;simp only[qY,fw,jt,kE]at b;replace b:=fj.1 b;obtain⟨p,b⟩:=b;replace b:=fj.1 b;obtain⟨l,b⟩:=b;replace b:=fj.1 b;obtain⟨_,b⟩:=b;replace b:=fj.1 b;obtain⟨_,b⟩:=b;rw[H.mI]at b;simp only[aw,aF]at b;obtain⟨rfl,rfl⟩:=b;have p:=bh p;have l:(es++c).length*d.bytes<=70368744177664:=bh l;rw[aV]at l;have⟨U,q,u,L,I⟩:=Ks j7 D J (ty':=ty') i g E p l;have v:∀f∈es++c,f.cells.length=d.size:=by
  intro f K;rcases List.mem_append.1 K with k|k
  ·exact i.Mz f k
  ·exact g.Mz f k
 have F:s.length+r.length=(es.length+c.length)*d.size:=by
  rw[<-i.rel.1,<-g.rel.1,jh i.Mz,jh g.Mz,cy]
 have A:iW w.heap μ (iq (es++c)) (((s++r).toArray++Builtin.zeroCells U.cells (q-(es.length+c.length))).toList.take (iq (es++c)).length):=by
  rw[jh v,aV,Array.toList_append,dD,dt (by grind),bQ (by grind),o7];exact i.rel.append g.rel
 have S:St cx base ({w with drawn:=w.drawn+1}:World).heap μ h:=R;have⟨j,M,N,O,Q⟩:=zw S n (cap:=q) (sz:=d.size) (ex:=false) (es:=es++c) (Ge F L u) (by grind) G v (xY i.scalar g.scalar) A;rw[aV];exact⟨_,_,j,I,.arr _ 0 0 _ false _ _ q Q (ax _) u (λ_=>⟨G,G,G⟩),M,⟨N.ext,rfl,rfl,rfl⟩,O⟩
def Sv(j7:jT P cx){n q ty' l:af}{c:Ty}(v:P.underlying n=some (.slice l))(z:cx.ty l=some c){d b j k:Nat}{g:List aq}{r:aq}
 (i:Src P c.size q r k g w) (x:b+k<=j) {f:ah aq} {p:af} (y:w.heap[d]? =some (.cells f p (0,0))) (N:b*c.size+g.length<=f.size):
 (Builtin.append_ #[n,q] ty' #[.slice (some ⟨d,0,none⟩) b j,r]).run P w= .ok (.slice (some ⟨d,0,none⟩) (b+k) j) (w.setRow d (f.toList.take (b*c.size)++g++f.toList.drop (b*c.size+g.length)).toArray):=by
 have⟨O,A,Q,s,E,F,I,J,K,L,t,M,_⟩:=(j7.ty _ _ z).unfold;have m:=run_storeCells_at (P:=P) d (b*c.size) p g 0 f w y B i.one;simp only[Nat.add_zero]at m;have u:(⟨d,0,none⟩:Addr).add (b*c.size)=⟨d,b*c.size,none⟩:=by rw[mp];simp
 rcases i.kind with⟨D,hk⟩|hk<;>simp[Builtin.append_,run_underlying v,run_underlying hk,sizeOf,typeInfo,s,t,i.len,x,i.cells,u,m]
def Sw(j7:jT P cx){i k ty' g:af}{j:Ty}(p:P.underlying i=some (.slice g))(r:cx.ty g=some j){b:aa Addr}{f c:Nat}{l:aq}(d:Src P j.size k l 0 [] w)(q:f<=c):
 (Builtin.append_ #[i,k] ty' #[.slice b f c,l]).run P w= .ok (.slice b f c) w:=by
 have⟨E,s,F,m,u,v,x,y,z,A,n,D,_⟩:=(j7.ty _ _ r).unfold;rcases d.kind with⟨t,hk⟩|hk<;>cases b<;>simp[Builtin.append_,run_underlying p,run_underlying hk,sizeOf,typeInfo,m,n,d.len,q,d.cells,storeCells]
def GQ(j7:jT P cx)(s:St cx base w.heap μ h){t cd ty' Q:af}{d:Ty}(bN:P.underlying t=some (.slice Q))(ca:cx.ty Q=some d){F an b:Nat}{f:List T}{m:List aq}{I x:aq}
 (eb:iu w.heap μ (.arr F an 0 b false) I) (v:Yj P w μ d.size cd x f m) (dv:f≠ []) {l:T} (c:h.oz d.size d.bytes F an b f=some (l,h')):
 ∃bp ae M,(Builtin.append_ #[t,cd] ty' #[I,x]).run P w= .ok bp ae/\iu ae.heap M l bp/\St cx base ae.heap M h'/\sd w μ ae M/\Bb μ M h.size h'.size:=by
 unfold H.oz at c;replace c:=eg.1 c;obtain⟨cF,bH,c⟩:=c;obtain⟨bn,ep',cp,eo,cb,g⟩:=cF;have c:(J (takeN b g) λN=>J (HC N f) λbA=>J (jd (mJ bA)) λn=>iS (Nat.ble 1 d.bytes)<|iS (Nat.beq ep' an) (iS (Nat.beq bn d.size) (iS (Nat.ble (Nat.mul n d.bytes) 70368744177664) (iS (fits d.size f) (@Bool.rec (λ_=>aa (T×H))
  (J (jd (Nat.succ ep')) λbu=>J (jd (Nat.succ cp)) λeh=>J (h.put F ⟨bn,bu,eh,false,false,bA⟩) λh'=>some (.arr F bu 0 n false,h')) none cb)))))=some (l,h'):=c
 replace c:=eg.1 c;obtain⟨N,S,c⟩:=c;simp only[qY,fw,jt,kE]at c;replace c:=fj.1 c;obtain⟨aA,c⟩:=c;replace c:=fj.1 c;obtain⟨bS,c⟩:=c;replace c:=fj.1 c;obtain⟨b9,c⟩:=c;replace c:=fj.1 c;obtain⟨W,c⟩:=c;replace c:=fj.1 c;obtain⟨_,c⟩:=c;cases cb with
 |true=>simp at c
 |false=>
  have c:(J (h.put F ⟨bn,ep'+1,cp+1,false,false,N++f⟩) λh'=>some (T.arr F (ep'+1) 0 (N++f).length false,h'))=some (l,h'):=c;replace c:=eg.1 c;obtain⟨er,bW,c⟩:=c;simp only[aw,aF]at c;obtain⟨rfl,rfl⟩:=c;have aA:=bh aA;have bS:=aH bS;have b9:=aH b9;have W:(N++f).length*d.bytes<=70368744177664:=bh W;rw[aV]at W;rw[pR]at S;split at S
  ·rename_i dm;simp at S;subst S;obtain⟨A,al,r,rfl,av,eu,et,dd⟩:=eb.vP;obtain⟨I,cX,c1⟩:=s.E3 av bH rfl;simp only[]at cX c1;obtain⟨_,cL,bs⟩:=dd B;have c7:r=A.cap:=by have:=cL rfl;omega
   obtain⟨q,eB,a6,b8,bB⟩:=I.row;have O:=I.size;simp only[]at O bB;have E:A.sz=d.size:=B;have p:(g.take b).length=b:=dR;have a7:∀l∈g.take b,l.cells.length=d.size:=λl K=>by rw[<-E];exact O l (bO K)
   have b6:∀l∈iq (g.take b),l.scalar=true:=by
    intro l K;rw[<-uy O]at K;exact I.scalar l (bO K)
   have Z:∀l∈g.take b++f,l.cells.length=A.sz:=by
    intro l K;rw[E];rcases List.mem_append.1 K with k|k
    ·exact a7 l k
    ·exact v.Mz l k
   have b7:=xY b6 v.scalar;have di:=jh O;have bT:m.length=f.length*d.size:=by rw[<-v.rel.1,jh v.Mz]
   have R:iW w.heap μ (iq (g.take b)) (q.toList.take (b*A.sz)):=by
    have:=bB.take (b*A.sz);rw[uy O,List.take_take,cE (by rw[di];exact aY _ dm)]at this;exact this
   have eA:0<f.length:=List.length_pos_iff.2 dv;by_cases bX:b+f.length<=r
   ·
    have c9:r≠0:=B;have bC:=bs c9;simp only[Nat.zero_mul]at bC;subst bC;have c6:b*d.size+m.length<=q.size:=by
     rw[b8,bT,E,<-cy];exact aY _ B
    have V:=Sv (ty':=ty') j7 bN ca v.src bX a6 c6;have aE:(iq (g.take b++f)).length=b*d.size+m.length:=by
     rw[jh Z,aV,p,bT,E,cy]
    have ap:iW w.heap μ (iq (g.take b++f)) ((q.toList.take (b*d.size)++m++q.toList.drop (b*d.size+m.length)).toArray.toList.take (iq (g.take b++f)).length):=by
     have ht:(q.toList.take (b*d.size)++m).take (b*d.size+m.length)=q.toList.take (b*d.size)++m:=bQ dR;rw[aE,dD,dt dR,ht,o7];rw[E]at R;exact R.append v.rel
    obtain⟨M,a8,bg,bi,ed⟩:=Cz s av bH rfl a6 (ep':=ep'+1) (.inr B) bW (arr':=(q.toList.take (b*d.size)++m++q.toList.drop (b*d.size+m.length)).toArray)
     (by simp only[List.size_toArray,aV,List.length_take,List.length_drop,cY];rw[<-b8];omega) (by simp[p];omega) G Z b7 ap
    refine⟨_,_,M,V,?_,a8,bg,bi⟩;have aN:(g.take b++f).length=b+f.length:=by rw[aV,p]
    rw[aN];exact .arr _ _ 0 _ false _ _ r ed (ax _) bX (λ_=>⟨G,by simp[c7],G⟩)
   ·
    have L:∃D,Yh P w μ d.size (.slice al b r) (g.take b) D:=by
     refine⟨q.toList.take (b*A.sz),?_,R,a7,b6⟩;rw[p];have ds:(q.toList.take (b*A.sz)).length=b*d.size:=by rw[<-R.1,jh a7,p]
     by_cases c4:r=0
     ·have dk:b=0:=B;subst dk;simp only[Nat.zero_mul,List.take_zero];cases al with
      |none=>exact run_firstCells_none w.drew d.size 0 0 r
      |some y=>exact run_firstCells_some w.drew d.size 0 y 0 r [] G G
     ·rw[bs c4];refine run_firstCells_some w.drew d.size b _ b r _ ds (λj u U=>?_);rw[mp];rw[cD]at U;split at U
      ·show World.cell? w _=_;simp only[World.cell?,a6];simpa using U
      ·simp at U
    obtain⟨D,L⟩:=L;have ea:((g.take b).length+f.length)*d.bytes<=70368744177664:=by rw[<-p]at*;exact W
    have ef:Yh P w μ d.size (.slice al (g.take b).length r) (g.take b) D:=by rw[p];exact L
    obtain⟨z,ab,aX,ec,V⟩:=Ks j7 bN ca (ty':=ty') ef v (by rw[p];omega) aA ea;rw[p]at V aX;have dn:D.length+m.length=(b+f.length)*d.size:=by
     rw[<-L.rel.1,<-v.rel.1,jh L.Mz,jh v.Mz,p,cy]
    have aE:(iq (g.take b++f)).length=(b+f.length)*d.size:=by
     rw[jh Z,aV,p,E]
    have ap:iW w.heap μ (iq (g.take b++f)) (((D++m).toArray++Builtin.zeroCells z.cells (ab-(b+f.length))).toList.take (iq (g.take b++f)).length):=by
     have ht:(D++m).take ((b+f.length)*d.size)=D++m:=bQ dR;rw[aE,Array.toList_append,dD,dt dR,ht,o7];exact L.rel.append v.rel
    have aN:(g.take b++f).length=b+f.length:=by rw[aV,p]
    obtain⟨a8,bg,bi⟩:=s.change (L':=⟨ep'+1,w.heap.size,ab,A.sz⟩) (hp':=w.heap.push (.cells ((D++m).toArray++Builtin.zeroCells z.cells (ab-(b+f.length))) Q)) av bW G
     (by intro i ey _;rw[Array.getElem?_push];grind) (.inr ⟨by grind,.inr (ax _)⟩) (by
     intro de;refine⟨rfl,B,λ_=>⟨⟨_,Q,G,?_,ap.ext de⟩,by grind,G,Z,b7⟩,λk=>by grind⟩;rw[Ge dn ec aX,E])
    refine⟨_,_,_,V,?_,a8,⟨bg,rfl,rfl,rfl⟩,bi⟩;rw[aN];exact .arr _ _ 0 _ false _ _ ab (kt _ _ _) (ax _) aX (λ_=>⟨G,G,G⟩)
  grind
end
end
section
section
variable {P:aj}{cx:Ctx}{base:Nat}{w:World}{μ:Mu}{h h':H}{D:Nat}{e:Env}{a:Act}{o:Oper}{hp hp':ah Obj}{p:T}
def uc(cx:Ctx)(base:Nat)(w:World)(μ:Mu)(f:Nat)(g:Result aq)(i:T)(h':H):Prop:=
 ∃d b c,g= .ok d b/\iu b.heap c i d/\St cx base b.heap c h'/\sd w μ b c/\Bb μ c f h'.size
def uc.pure{b:Result aq}{d:T}{c:aq}(g:St cx base w.heap μ h)(hr:b= .ok c w)(f:iu w.heap μ d c):uc cx base w μ h.size b d h:=
 ⟨c,w,μ,hr,f,g,sd.refl _ _,Bb.refl _ _⟩
def xG(j7:jT P cx){f:af}{g:Ty}(b:ql cx f=some g):∃c,P.underlying f=some (.slice c)/\cx.ty c=some g:=by
 have⟨k,i,b⟩:=eg.1 b;have⟨l,m,d⟩:=mt (j7.ty _ _ i);cases j:k.u<;>rw[j]at b d<;>simp at b;have:=nz d;grind
def BU(b:List Nat):iH (λc=>some (T.int .u8 (.ofNat c))) b=some (b.map λc=>T.int .u8 (.ofNat c)):=by
 induction b with
 |nil=>rfl
 |cons f b d=>rw[kx,d];rfl
def uz(b:List Nat):iq (b.map λc=>T.int .u8 (.ofNat c))=b.map λc=>T.int .u8 (.ofNat c):=by
 induction b with
 |nil=>rfl
 |cons f b d=>rw[aO,nN,d];rfl
def Nh(j7:jT P cx)(S:St cx base w.heap μ h){E:af}{m:T}{f:aq}{j:List T}{i:Nat}(z:iu w.heap μ m f)(b:nD cx h E m=some j)(q:fits i j=true):
 ∃s,Yj P w μ i E f j s:=by
 obtain⟨U,O,b⟩:=eg.1 b;obtain⟨V,n,r⟩:=mt (j7.ty _ _ O);cases Q:U.u<;>rw[Q]at b r<;>simp at b
 ·have:=vi r;subst this;have K:∃d,m= .str d:=by cases m<;>first|exact⟨_,rfl⟩|(simp at b)
  obtain⟨d,rfl⟩:=K;have b:iH (λf=>some (T.int .u8 (.ofNat f))) d=some j:=b;rw[BU]at b;simp only[aw]at b;subst b;obtain⟨rfl,J⟩:=z.nq;cases d with
  |nil=>
   have A:bytesOf []=ByteArray.empty:=rfl;refine⟨[],⟨⟨.inr n,λab=>by rfl,?_,?_,G,G⟩,iW.nil,G,by simp[iq]⟩⟩
   ·simp[Builtin.firstCells,A]
   ·simp[Builtin.firstCells,A]
  |cons g d=>
   have N:i=1:=by
    have q:Nat.beq 1 i=true:=q;simp_all
   subst N;have x:=Src.ofString w n (bytesOf (g::d));have v:(bytesOf (g::d)).size=((g::d).map λf=>T.int .u8 (.ofNat f)).length:=by rw[kQ];simp
   rw[v]at x;refine⟨_,x,?_,by intro F c;simp only[List.mem_map]at c;obtain⟨_,_,rfl⟩:=c;rfl,by rw[uz];intro F c;simp only[List.mem_map]at c;obtain⟨_,_,rfl⟩:=c;rfl⟩;rw[uz];refine⟨by rw[byteCells_length,v],λD F c=>?_⟩;rw[aR]at c;cases k:(g::d)[D]? with
   |none=>rw[k]at c;grind
   |some t=>
    rw[k]at c;simp at c;subst c;have L:t<256:=J t (aC k);have:(byteCells (bytesOf (g::d)))[D]? =some (.int .u8 (t:Int)):=by
     simp only[byteCells,bytesOf,aR,dD,k,dj,kw L]
    rw[List.getD,this];exact .int _ _
 ·rename_i W;have:=nz r;subst this;obtain⟨Z,l⟩:=qv (P:=P) S z b;have y:=Pm q l.Mz;have R:DW P w μ f j i:=⟨y,l.scalar,l.form⟩;obtain⟨s,M,I⟩:=R.src n;exact⟨s,M,I,y,l.scalar⟩
def HJ(g:qQ p=true){b:aq}(hp:iu w.heap μ p b):∃f d c,b= .slice f d c/\d<=c:=by
 cases hp<;>simp[qQ]at g
 ·grind
 ·grind
 ·grind
 grind
def AA(j7:jT P cx)(i:St cx base w.heap μ h){K L ty':af}{O j:T}{c A:aq}(hp:iu w.heap μ p c)(a8:iu w.heap μ O A)(b:jx cx h K L p O=some (.val j h')):
 uc cx base w μ h.size ((Builtin.append_ #[K,L] ty' #[c,A]).run P w) j h':=by
 replace b:=eg.1 b;obtain⟨f,bi,b⟩:=b;replace b:=eg.1 b;obtain⟨k,bn,b⟩:=b;replace b:=fj.1 b;obtain⟨av,b⟩:=b;rw[ko]at b;have⟨bN,E,F⟩:=xG j7 bi;have⟨bp,x⟩:=Nh (P:=P) j7 i a8 bn av;cases k with
 |nil=>
  have b:iS (qQ p) (some (p,h))=some (j,h'):=b;have⟨bg,b⟩:=fj.1 b;simp only[aw,aF]at b;obtain⟨rfl,rfl⟩:=b;have a6:bp=[]:=aZ (by have:=x.src.newsLen;grind);subst a6;obtain⟨ad,g,q,rfl,N⟩:=HJ bg hp;exact uc.pure i (Sw (ty':=ty') j7 E F x.src N) hp
 |cons n k=>
  have a7:n::k≠ []:=G;have bW:0<(n::k).length:=G;have M:∀{es:List T} {u:Nat},DW P w μ c es u->(∀ad g q,c= .slice ad g q->q=g)->h.jH f.size f.bytes es (n::k)=some (j,h')->uc cx base w μ h.size ((Builtin.append_ #[K,L] ty' #[c,A]).run P w) j h':=by
   intro es u d al aX;have aE:fits f.size es=true:=by
    simp_all[H.jH,kE,jt,fw,qY,fj]
   have v:DW P w μ c es f.size:=⟨Pm aE d.Mz,d.scalar,d.form⟩;have⟨ad,cap,b6,I,N,_⟩:=v.form;have⟨b7,bs,bu⟩:=v.first;subst I;have:=al _ _ _ rfl;have⟨U,bA,bB,r1,r2,r3,r4,r5⟩:=Eg j7 i E F (ty':=ty') (ad:=ad) (cap:=cap) ⟨bs,bu,v.Mz,v.scalar⟩ x B aX;exact⟨U,bA,bB,r1,r2,r3,r4,r5⟩
  have I:(∃es l,p= .V es l)\/∃z s o g l,p= .arr z s o g l:=by
   cases p<;>first|(exact .inl ⟨_,_,rfl⟩)|(exact .inr ⟨_,_,_,_,_,rfl⟩)|(simp[H.append]at b)
  rcases I with⟨es,l,rfl⟩|⟨z,s,y,g,l,rfl⟩
  ·cases es with
   |nil=>
    have b:h.jH f.size f.bytes [] (n::k)=some (j,h'):=b;obtain⟨ad,rfl⟩:=hp.wO;have⟨u,d⟩:=qv (P:=P) (es:=[]) i hp rfl
    grind
   |cons Q es=>
    have b:iS l (h.jH f.size f.bytes (Q::es) (n::k))=some (j,h'):=b;have⟨aN,b⟩:=fj.1 b;have⟨u,d⟩:=qv (P:=P) (es:=Q::es) i hp rfl;refine M d ?_ b;intro ad g q t;have⟨_,_,_,_,_,_,_,D,_,_,_,aA,_⟩:=hp.wP;rw[D]at t;simp at t;have:=aA aN;omega
  ·cases l with
   |true=>
    have b:(J (h.j1 (.arr z s y g true)) λes=>h.jH f.size f.bytes es (n::k))=some (j,h'):=b;have⟨es,m,b⟩:=eg.1 b;have⟨u,d⟩:=qv (P:=P) i hp m;refine M d ?_ b;intro ad bX q t;have⟨R,bC,bH,D,ab,_,_,an⟩:=hp.vP;rw[D]at t;simp at t;have ap:s=R.ep:=by
     unfold H.j1 at m;have⟨S,ae,m⟩:=eg.1 m;obtain⟨b8,Z,b9,bS,d,W⟩:=S;have m:iS (Nat.beq Z s) (@Bool.rec (λ_=>aa (List T)) (J (kZ y W) λr=>takeN g r) none d)=some es:=m;have bT:=aH (fj.1 m).1;have:=(i.OB ab ae).2
     grind
    have:=(an ap).1 rfl;omega
   |false=>
    cases y with
    |succ y=>grind [H.append,absurd]
    |zero=>exact GQ j7 i E F (ty':=ty') hp x a7 b
def JU(j7:jT P cx)(R:St cx base w.heap μ h){S bn:af}{f:T}{E:aq}(hp:iu w.heap μ p E)(c:GM cx h S p=some (.val f h')):
 uc cx base w μ h.size ((Builtin.clear_ #[S] bn #[E]).run P w) f h':=by
 replace c:=eg.1 c;obtain⟨s,ca,c⟩:=c;obtain⟨di,al,bW⟩:=xG j7 ca;have Q:∀{t:aa Addr} {F:Nat},E= .slice t 0 F->f= .undef->h'=h->uc cx base w μ h.size ((Builtin.clear_ #[S] bn #[E]).run P w) f h':=by
  intro t F ae d b6;subst ae d b6;refine uc.pure R ?_ .undef;cases t<;>simp[Builtin.clear_,run_underlying al]
 cases p<;>simp only[reduceCtorEq]at c
 ·rename_i j bC;cases j with
  |nil=>
   simp only[aw,nh.val.injEq]at c;obtain⟨t,rfl⟩:=hp.wO;exact Q rfl c.1.symm c.2.symm
  |cons x j=>simp at c
 ·simp only[aw,nh.val.injEq]at c;obtain⟨t,g,F,ae,M⟩:=HJ (p:= .iX) rfl hp;cases hp;exact Q rfl c.1.symm c.2.symm
 ·rename_i b bA m g bC;obtain⟨i,t,F,rfl,Z,ds,dv,bT⟩:=hp.vP;cases g with
  |zero=>
   have c:some (nh.val .undef h)=some (.val f h'):=c;simp only[aw,nh.val.injEq]at c;exact Q rfl c.1.symm c.2.symm
  |succ g=>
   replace c:=eg.1 c;obtain⟨bp,ab,c⟩:=c;obtain⟨sz,U,c9,bB,bi,q⟩:=bp;have c:(iS (Nat.beq U bA)<|iS (Nat.beq sz s.size) (@Bool.rec (λ_=>aa nh)
    (J (mG q m (rJ s.lH (g+1))) λj=>J (jd (Nat.succ c9)) λdd=>
      J (h.put b ⟨sz,U,dd,bB,false,j⟩) λh'=>some (.val .undef h')) none bi))=some (.val f h'):=c
   replace c:=fj.1 c;obtain⟨an,c⟩:=c;replace c:=fj.1 c;obtain⟨aN,c⟩:=c;cases bi with
   |true=>simp at c
   |false=>
    replace c:=eg.1 c;obtain⟨j,r,c⟩:=c;simp only[jt,fw]at c;replace c:=eg.1 c;obtain⟨dk,b8,c⟩:=c;simp only[aw,nh.val.injEq]at c;obtain⟨rfl,rfl⟩:=c;have an:=aH an;have aN:=aH aN;obtain⟨n,V,bH⟩:=R.E3 Z ab rfl;simp only[]at V bH;obtain⟨_,_,K⟩:=bT B;have K:=K B;subst K;obtain⟨v,c7,av,aE,I⟩:=n.row;have z:=n.size;simp only[]at z I;obtain⟨D,cb,ea,a6,cX,a8,A,eb,ec⟩:=(j7.ty _ _ bW).zero w;rw[sj]at r;obtain⟨M,r⟩:=qF r;rw[List.length_replicate]at M r;have L:=jh z;have cd:(iq (List.replicate (g+1) s.lH)).length=(g+1)*i.sz:=by
     rw[jh (sz:=i.sz) (by intro f d;rw[bZ d,A,a8];omega),List.length_replicate]
    have ap:iq j=(iq q).take (m*i.sz)++iq (List.replicate (g+1) s.lH)++(iq q).drop (m*i.sz+(g+1)*i.sz):=by
     rw[r,o7,o7,uy z,<-cy,r6 z]
    have aX:∀f∈j,f.cells.length=i.sz:=by
     intro f d;rw[r]at d;rcases List.mem_append.1 d with d|d
     ·rcases List.mem_append.1 d with d|d
      ·exact z f (bO d)
      ·rw[bZ d,A,a8];omega
     ·exact z f (bP d)
    have b9:∀f∈iq j,f.scalar=true:=by
     intro f d;rw[ap]at d;rcases List.mem_append.1 d with d|d
     ·rcases List.mem_append.1 d with d|d
      ·exact n.scalar f (bO d)
      ·obtain⟨y,O,d⟩:=List.mem_flatMap.1 d;rw[bZ O,A]at d;exact cX f d
     ·exact n.scalar f (bP d)
    have N:j.length=q.length:=by rw[r];simp;omega
    have bX:(iq j).length=(iq q).length:=by rw[jh aX,L,N]
    have dm:(iq q).length<=v.size:=by
     rw[L,aE];exact aY _ n.room
    have dn:m*i.sz+(g+1)*i.sz<=(iq q).length:=by
     rw[L,<-cy];exact aY _ M
    have bg:D.cells.size=i.sz:=by have:=(a6 w.heap μ).1;simp only[cY]at this;omega
    have cL:∃l:List aq,(Builtin.zeroCells D.cells (g+1)).toList=l/\l.length=(g+1)*i.sz/\iW w.heap μ (iq (List.replicate (g+1) s.lH)) l:=by
     have bS:iW w.heap μ (iq (List.replicate (g+1) s.lH)) (Builtin.zeroCells D.cells (g+1)).toList:=by
      by_cases W:D.cells.size=0
      ·have bs:iq (List.replicate (g+1) s.lH)=[]:=aZ (by rw[cd,<-bg,W];simp);have bu:(Builtin.zeroCells D.cells (g+1)).toList=[]:=aZ (by rw[cY,uA,W];simp);rw[bs,bu];exact iW.nil
      ·rw[Builtin.zeroCells,CG (g+1) B,uT,A];exact(a6 _ _).replicate (g+1)
     exact⟨_,rfl,by rw[cY,uA,bg],bS⟩
    obtain⟨l,cp,cF,a7⟩:=cL;have b7:∀u∈l,u.oneCell'=true:=a7.IX (by
     intro f d;obtain⟨y,O,d⟩:=List.mem_flatMap.1 d;rw[bZ O,A]at d
     grind)
    have bN:iW w.heap μ (iq j) ((v.toList.take (m*i.sz)++l++v.toList.drop (m*i.sz+l.length)).toArray.toList.take (iq j).length):=by
     rw[bX,ap];rw[dD,Dq _ _ B B];rw[cF];exact((I.take _).append a7).append (I.drop _)
    obtain⟨de,c1,c4,c6,ed⟩:=Cz R Z ab rfl av (.inl V) b8 (arr':=(v.toList.take (m*i.sz)++l++v.toList.drop (m*i.sz+l.length)).toArray)
     (by simp only[List.size_toArray,aV,List.length_take,List.length_drop,cY];rw[<-aE];omega) (by rw[N];exact n.room) (by intro k;have:=n.wq k;simp only at this;rw[N];omega) aX b9 bN
    refine⟨.tuple #[],_,de,?_,.undef,c1,c4,c6⟩;have aA:=run_storeCells_at (P:=P) i.jO (m*i.sz) c7 l 0 v w av B b7;simp only[Nat.add_zero]at aA;simp[Builtin.clear_,run_underlying al,cb,cp,aA]
end
end
section
section
variable {P:aj}{cx:Ctx}{base:Nat}{w:World}{μ:Mu}{h h':H}{D:Nat}{e:Env}{a:Act}{o:Oper}{hp hp':ah Obj}{p:T}
def St.grow(c:St cx base hp μ h)(l:hp.size<=hp'.size)(j:∀b,b<hp.size->hp'[b]? =hp[b]?):St cx base hp' μ h/\Ext hp μ hp' μ:=by
 have g:Ext hp μ hp' μ:=⟨l,λb i t=>⟨j b i,t⟩,λk f d=>⟨f,d,.inl rfl⟩,rfl,λb i _=>j b i⟩;refine⟨⟨c.wf,by have:=c.fit;omega,λk f d=>?_,c.inj,c.low,c.apart,λb hr=>bK (c.tV b hr) l,λn m s=>(c.B7 n m s).ext g⟩,g⟩;have⟨u,q,r⟩:=c.box k f d;exact⟨u,q,r.ext g (j _ (c.lt d))⟩
theorem JR(j7:jT P cx){F y:af}{Q:ai}(x:St cx base w.heap μ h)(r:lO w.heap μ D e a.tmps)(aX:o.op= .convert F y Q){k:T}
 (E:∃K,cx.ty F=some K) (hp:iG cx D e Q=some p) (b:GI cx y p=some k) (av:h'=h):j4 cx base w μ h.size ((execOp a.eval o).run P w) k h':=by
 subst av;obtain⟨bW,E⟩:=E;obtain⟨bH,ae,_⟩:=mt (j7.ty _ _ E);replace b:=eg.1 b;obtain⟨K,bp,b⟩:=b;obtain⟨d,Z,N⟩:=mt (j7.ty _ _ bp);have bA:=iZ x r hp;cases bs:K.u<;>rw[bs]at b N<;>simp only[reduceCtorEq]at b;rename_i q;have:=nz N;subst this;have an:∃c,p= .str c:=by cases p<;>first|exact⟨_,rfl⟩|(simp at b)
 obtain⟨c,rfl⟩:=an;have b:(J (cx.ty q) λI=>(match I.u with
  | .int l=>iS (G6 l .u8) (@List.rec Nat (λ_=>aa T) (some .iX) (λ_ _ _=>J (iH (λg=>some (T.int .u8 (.ofNat g))) c) λz=>some (.V z false)) c)
  |_=>none))=some k:=b
 replace b:=eg.1 b;obtain⟨I,bn,b⟩:=b;obtain⟨bC,ab,O⟩:=mt (j7.ty _ _ bn);cases bu:I.u<;>rw[bu]at b O<;>simp only[reduceCtorEq]at b;rename_i l;replace b:=fj.1 b;obtain⟨s,b⟩:=b;rw[AT]at s;subst s;have:=y9 O;subst this;obtain⟨R,S⟩:=bA.nq
 let m:=(bytesOf c).size
 have A:∃n j,m<=n/\(execOp a.eval o).run P w= .ok (.value (.slice (some ⟨w.heap.size,0,none⟩) m n)) j/\j.heap.size=w.heap.size+1/\(∀t,t<w.heap.size->j.heap[t]? =w.heap[t]?)/\
  j.os=w.os/\j.tape=w.tape/\j.output=w.output/\∃fz,j.heap[w.heap.size]? =some (.cells ((bytesOf c).data.map (λi=>Value.int .u8 i.toNat)++Array.replicate (n-m) (.int .u8 0)) q fz):=by
  refine⟨grownCap w m 0 q,Lib.bytesWorld w q (bytesOf c),grownCap_ge w _ _ _,?_,Lib.bytesWorld_size _ _ _,λt aA=>Lib.bytesWorld_at_old _ _ _ t aA,rfl,rfl,rfl,_,Lib.bytesWorld_at_new _ _ _⟩;simp only[execOp,aX,Sem.run_bind,R,Lib.run_convert_string_bytes w F y q (bytesOf c) ae Z ab,Result.andThen_ok,Sem.run_pure];rfl
 obtain⟨n,j,bN,A,bT,bg,a6,a7,a8,fz,U⟩:=A;obtain⟨bB,al⟩:=x.grow (hp':=j.heap) B bg;have M:m=c.length:=kQ c;refine⟨_,j,μ,.inl A,?_,bB,⟨al,a6,a7,a8⟩,Bb.refl _ _⟩;cases c with
 |nil=>
  have b:some T.iX=some k:=b;simp at b;subst b;rw[M];exact .iX _ _
 |cons i c=>
  have b:(J (iH (λg=>some (T.int .u8 (.ofNat g))) (i::c)) λz=>some (T.V z false))=some k:=b;rw[BU]at b;simp only[fw,aw]at b;subst b;have aN:¬pG μ w.heap.size:=by
   rintro(⟨g,L,W,hl⟩|hr)
   ·have:=x.lt W;omega
   ·have:=x.tV _ hr;omega
  have aE:m=(c.map λg=>T.int .u8 (.ofNat g)).length+1:=by rw[M];simp
  rw[aE];refine .V (T.int .u8 (.ofNat i)) (c.map λg=>T.int .u8 (.ofNat g)) false w.heap.size 0 n 1 _ q fz aN U B G ?_ ?_ ?_ ?_
  ·intro k b;rw[<-aO (f:=λg=>T.int .u8 (.ofNat g))]at b;obtain⟨g,_,rfl⟩:=List.mem_map.1 b;rfl
  ·rw[<-aO (f:=λg=>T.int .u8 (.ofNat g)),uz];simp[bytesOf]
  ·rw[<-aO (f:=λg=>T.int .u8 (.ofNat g)),uz];intro k b;obtain⟨g,_,rfl⟩:=List.mem_map.1 b;exact⟨rfl,.int _ _⟩
  ·rw[<-aO (f:=λg=>T.int .u8 (.ofNat g)),uz];intro l k b;rw[aR]at b;cases s:(i::c)[l]? with
   |none=>rw[s]at b;grind
   |some v=>
    rw[s]at b;simp at b;subst b;have bi:v<256:=S v (aC s);have bS:l<(i::c).length:=by
     grind
    have ap:((bytesOf (i::c)).data.map (λi=>Value.int .u8 i.toNat)++Array.replicate (n-m) (.int .u8 0))[0+l]? =some (.int .u8 (v:Int)):=by
     rw[cU,Array.getElem?_append_left (by grind [bytesOf]),Array.getElem?_map];have:(bytesOf (i::c)).data[l]? =some (UInt8.ofNat v):=by
      grind [bytesOf]
     rw[this];simp[kw bi]
    rw[cj,ap];exact .int _ _
def Jg{x:ai}(v:St cx base w.heap μ h)(r:lO w.heap μ D e a.tmps)(Z:o.op= .next x true){s:T}
 (b:C2 x cx D e h=some (.val s h')):j4 cx base w μ h.size ((execOp a.eval o).run P w) s h':=by
 unfold C2 at b;replace b:=eg.1 b;obtain⟨p,hp,b⟩:=b;have bC:=iZ v r hp;have a8:∃t,p= .iter t:=by cases p<;>first|exact⟨_,rfl⟩|(simp at b)
 obtain⟨t,rfl⟩:=a8;replace b:=eg.1 b;obtain⟨j,aA,b⟩:=b;replace b:=fj.1 b;obtain⟨bn,b⟩:=b;obtain⟨n,bW,R,F,ap⟩:=bC.Uv;obtain⟨y,L,E⟩:=v.box t n F;rw[aA]at L;simp at L;subst L;obtain⟨a7,bs⟩:=E.iter bn;rcases bs with⟨f,d,a6,U,S⟩|⟨b6,cd,cp,bT⟩|⟨cF,m,d,cX,bX,ae,al,b7,b8⟩;rotate_left;rotate_left
 ·exfalso;rw[ae]at b
  grind
 rotate_left
 ·exfalso;cases hE:j.gW with
  |nil=>rw[hE]at b;grind
  |cons z c1=>
   obtain⟨k,u,cL,rfl,_⟩:=bT 0 z (by grind);rw[hE]at b
   grind
 have an:n.ep=0:=by rw[<-E.ep];omega
 have av:=ap an;subst av;rw[a6]at b;have W:(getObj n.jO).run P w= .ok (.stringIter (bytesOf f) d) w:=by simp[getObj,Sem.run,S]
 have b:(@Bool.rec (λ_=>aa nh) (some (.val (.tuple [.ez false]) h)) (J (BR f d) λO=>two O λc wd=>J (jd (Nat.add d wd)) λN=>J (jd (Nat.succ j.ver)) λQ=>
  J (h.put t ⟨j.sz,j.ep,Q,j.exact,true,[.str f,.int .i64 (.ofNat N)]⟩) λh'=>
   some (.val (.tuple [.ez true,.int .i64 (.ofNat d),.int .i32 (.ofNat c)]) h')) (Nat.blt d (mJ f)))=some (.val s h'):=b
 rw[kE]at b;cases A:Nat.blt d f.length with
 |false=>
  rw[A]at b;have b:some (nh.val (.tuple [.ez false]) h)=some (.val s h'):=b;simp at b;obtain⟨rfl,rfl⟩:=b;have bi:¬d<f.length:=by rw[<-aK];grind
  refine j4.pure (c:= .tuple #[.bool false]) v ?_ (.tuple _ _ rfl λk s g=>?_)
  ·simp[execOp,Z,Instr.next,R,W,kQ,bi]
  ·cases k with
   |zero=>simp at g;subst g;exact .ez _
   |succ k=>grind
 |true=>
  rw[A]at b;have ab:d<f.length:=by rw[aK]at A;omega
  have b:(J (BR f d) λO=>two O λc wd=>J (jd (Nat.add d wd)) λN=>J (jd (Nat.succ j.ver)) λQ=>
   J (h.put t ⟨j.sz,j.ep,Q,j.exact,true,[.str f,.int .i64 (.ofNat N)]⟩) λh'=>
    some (nh.val (.tuple [.ez true,.int .i64 (.ofNat d),.int .i32 (.ofNat c)]) h'))=some (.val s h'):=b
  replace b:=eg.1 b;obtain⟨⟨c,wd⟩,V,b⟩:=b;simp only[mv,jt,fw]at b;replace b:=eg.1 b;obtain⟨al,bu,b⟩:=b;simp only[aw,nh.val.injEq]at b;obtain⟨rfl,rfl⟩:=b;unfold BR at V;obtain⟨q,I,l⟩:=eg.1 V;rw[mg]at I;have aX:Utf8.decode (bytesOf f) d=(c,wd):=by
   cases K:Nat.blt q 128 with
   |false=>
    rw[K]at l;have A:q<256:=U q (aC I);have aE:Nat.blt q 256=true:=by rw[aK];omega
    rw[aE]at l;have l:some (Utf8.decode (bytesOf f) d)=some (c,wd):=l
    grind
   |true=>
    rw[K]at l;have l:some (q,1)=some (c,wd):=l;simp only[aw,aF]at l;obtain⟨rfl,rfl⟩:=l;rw[aK]at K;have aN:q<256:=B;have bg:(bytesOf f).get! d=UInt8.ofNat q:=by
     have bA:d<(bytesOf f).size:=by rw[kQ];omega
     show(bytesOf f).data[d]! =_;rw[getElem!_pos (bytesOf f).data d bA];simp only[bytesOf,List.getElem_toArray,List.getElem_map];have:f[d]=q:=by rw[aB ab]at I;grind
     rw[this]
    unfold Utf8.decode;simp only[Nat.add_zero,bg,kw aN];rw[au B]
  have bB:∀M:Obj,(setObj n.jO M).run P w= .ok () {w with heap:=w.heap.setIfInBounds n.jO M}:=by
   intro M;simp[setObj,Sem.run,S]
  have b9:=v.lt F;obtain⟨bH,bN,bS⟩:=v.change (L':=n) (hp':=w.heap.setIfInBounds n.jO (.stringIter (bytesOf f) (d+wd))) F bu G (by
   intro i cb bp;rw[Array.getElem?_setIfInBounds_ne (bE bp)]) (.inl rfl) (by
   intro ca;refine⟨E.ep,E.sz,λk=>by grind,λ_=>⟨a7,.inl ⟨f,d+wd,rfl,U,by grind⟩⟩⟩)
  refine⟨.tuple #[.bool true,.int .i64 d,.int .i32 c],{w with heap:=w.heap.setIfInBounds n.jO (.stringIter (bytesOf f) (d+wd))},_,.inl ?_,.tuple _ _ rfl λk s g=>?_,bH,⟨bN,rfl,rfl,rfl⟩,bS⟩
  ·simp[execOp,Z,Instr.next,R,W,kQ,ab,aX,bB,goInt]
  ·match k,g with
   |0,g=>simp at g;subst g;exact .ez _
   |1,g=>simp at g;subst g;exact .int _ _
   |2,g=>simp at g;subst g;exact .int _ _
   |k+3,g=>grind
def Od(j7:jT P cx)(g:St cx base w.heap μ h){l:ah af}{y:af}{k q:T}{m:aq}(i:iu w.heap μ k m)(b:RH cx h l.toList k=some (.val q h')):
 uc cx base w μ h.size ((Builtin.len_ l y #[m]).run P w) q h':=by
 replace b:=eg.1 b;obtain⟨v,ht,b⟩:=b;replace b:=eg.1 b;obtain⟨x,s,b⟩:=b;obtain⟨A,f,j⟩:=mt (j7.ty _ _ s);have ht:l[0]? =some v:=by rw[mg]at ht;grind
 cases t:x.u<;>rw[t]at b j<;>simp only[reduceCtorEq]at b
 ·have:=vi j;subst this;cases k<;>simp at b;obtain⟨c,rfl⟩:=iI.1 b;simp at c;subst c;obtain⟨d,_⟩:=i.nq;exact uc.pure g (by simp[Builtin.len_,ht,run_underlying f,d,kQ,goInt]) (.int _ _)
 ·have:=nz j;subst this;cases k<;>simp at b
  ·obtain⟨c,rfl⟩:=iI.1 b;simp at c;subst c;rename_i n D;cases n with
   |nil=>obtain⟨r,d⟩:=i.wO;exact uc.pure g (by simp[Builtin.len_,ht,run_underlying f,d,goInt]) (.int _ _)
   |cons E n=>obtain⟨_,_,_,_,_,_,_,d,_⟩:=i.wP;exact uc.pure g (by simp[Builtin.len_,ht,run_underlying f,d,goInt]) (.int _ _)
  ·obtain⟨c,rfl⟩:=iI.1 b;simp at c;subst c;obtain⟨r,z,d⟩:=i.C0;exact uc.pure g (by simp[Builtin.len_,ht,run_underlying f,d,goInt]) (.int _ _)
  ·obtain⟨c,rfl⟩:=iI.1 b;simp at c;subst c;obtain⟨_,_,_,d,_⟩:=i.vP;exact uc.pure g (by simp[Builtin.len_,ht,run_underlying f,d,goInt]) (.int _ _)
 ·have:=us j;subst this;obtain⟨c,rfl⟩:=iI.1 b;simp at c;subst c;exact uc.pure g (by simp[Builtin.len_,ht,run_underlying f,goInt]) (.int _ _)
theorem HA(j7:jT P cx)(u:St cx base w.heap μ h)(r:lO w.heap μ D e a.tmps){c:Call}{K:Builtin}(aE:o.op= .call c)(av:c.callee= .builtin K){n:List T}(ap:s7 cx D e c.args.toList=some n){v:T}
 (b:mU K cx h c.argTypes.toList n=some (.val v h')):j4 cx base w μ h.size ((execOp a.eval o).run P w) v h':=by
 have d:=yG u r ap;have S:∀{m:Sem aq},(execOp a.eval o).run P w=((m.run P w).andThen λv U=> .ok (Next.value v) U)->uc cx base w μ h.size (m.run P w) v h'->j4 cx base w μ h.size ((execOp a.eval o).run P w) v h':=by
  intro m hr aA;obtain⟨z,U,aN,Z,ab,ae,al,an⟩:=aA;exact⟨z,U,aN,.inl (by rw[hr,Z];rfl),ab,ae,al,an⟩
 have A:(execOp a.eval o).run P w=(builtin K c.argTypes o.type (c.args.map λ| .const _=>true|_=>false) (c.args.map a.eval)).run P w:=by
  simp[execOp,aE,resolve,av,invoke];rfl
 have y:(c.args.map a.eval).toList=c.args.toList.map a.eval:=G;cases K<;>simp only[mU,reduceCtorEq]at b
 case len=>
  match n,b,d with
  | [M],b,d=>
   obtain⟨g,t,f,l,k⟩:=d.nU;have j:t=[]:=aZ (by have:=k.1;grind);subst j;have i:c.args.map a.eval= #[g]:=by apply cM;rw[y,f]
   refine S (m:=Builtin.len_ c.argTypes o.type #[g]) ?_ (Od j7 u l b);rw[A,i];simp[builtin]
 case append=>
  match n,b,d with
  | [M,W],b,d=>
   match Q:c.argTypes.toList,b with
   | [J,V],b=>
    obtain⟨g,t,f,l,k⟩:=d.nU;obtain⟨L,x,rfl,F,E⟩:=k.nU;have j:x=[]:=aZ (by have:=E.1;grind);subst j;have i:c.args.map a.eval= #[g,L]:=by apply cM;rw[y,f]
    have O:c.argTypes= #[J,V]:=by apply cM;rw[Q]
    refine S (m:=Builtin.append_ #[J,V] o.type #[g,L]) ?_ (AA j7 u l F b);rw[A,i,O];simp[builtin]
 case clear=>
  match n,b,d with
  | [M],b,d=>
   match Q:c.argTypes.toList,b with
   | [J],b=>
    obtain⟨g,t,f,l,k⟩:=d.nU;have j:t=[]:=aZ (by have:=k.1;grind);subst j;have i:c.args.map a.eval= #[g]:=by apply cM;rw[y,f]
    have O:c.argTypes= #[J]:=by apply cM;rw[Q]
    refine S (m:=Builtin.clear_ #[J] o.type #[g]) ?_ (JU j7 u l b);rw[A,i,O];simp[builtin]
 case min=>
  match n,b,d with
  | [M,W],b,d=>
   obtain⟨R,rfl⟩:=iI.1 b;obtain⟨I,m,s,rfl,rfl,q⟩:=xC R;obtain⟨g,t,f,l,k⟩:=d.nU;obtain⟨L,x,rfl,F,E⟩:=k.nU;have j:x=[]:=aZ (by have:=E.1;grind);subst j;rw[l.kR,F.kR]at f;have i:c.args.map a.eval= #[.int I m,.int I s]:=by apply cM;rw[y,f]
   rw[qI]at q;simp only[aw]at q;subst q;refine j4.pure u ?_ (.int _ _);rw[A,i];simp only[builtin,Builtin.min_,List.foldlM,Builtin.min2,Sem.run_bind,Sem.run_pure,Result.andThen_ok];have:=AQ s m;by_cases N:s<m<;>simp[this,N]
 case max=>
  match n,b,d with
  | [M,W],b,d=>
   obtain⟨R,rfl⟩:=iI.1 b;obtain⟨I,m,s,rfl,rfl,q⟩:=xC R;obtain⟨g,t,f,l,k⟩:=d.nU;obtain⟨L,x,rfl,F,E⟩:=k.nU;have j:x=[]:=aZ (by have:=E.1;grind);subst j;rw[l.kR,F.kR]at f;have i:c.args.map a.eval= #[.int I m,.int I s]:=by apply cM;rw[y,f]
   rw[qI]at q;simp only[aw]at q;subst q;refine j4.pure u ?_ (.int _ _);rw[A,i];have:=AQ m s;by_cases N:m<s<;>simp[builtin,Builtin.max_,Builtin.max2,this,N]
