/- TiWrite3 -/
import Derived.Test.YtbappgeamhmmbaaGreatDoorA1
import Derived.Laws.Tables
import Derived.Great.BuildSlice
import Derived.Deep.AppendSrc
import Derived.Laws.AppendOwn
import Derived.Lib.ConvBytes
set_option linter.all false
set_option maxRecDepth 100000
set_option maxHeartbeats 0
namespace Go.TI
noncomputable section
section
section
variable {P:ai}{cx:Ctx}{base:Nat}{w:World}{μ:Mu}{h h':H}{G:Nat}{e:Env}{a:Act}{o:Oper}{hp hp':af Obj}
def AA:∀(c:List Field),(∀f∈c,∃b,P.info? f.type=some b/\b.size≠0)->∃j,c.mapM (λf=>(P.info? f.type).map λb=>(f.offset,b.size))=some j/\
 ∀(d:Nat) f b,c[d]? =some f->P.info? f.type=some b->j[d]? =some (f.offset,b.size)
 | [],_=>⟨[],rfl,λd f b k=>by grind⟩
 |f::c,i=>by
  have⟨b,q,_⟩:=i f J;have⟨l,m,n⟩:=AA c λg p=>i g (by grind);refine⟨(f.offset,b.size)::l,by simp_all,λd g s k r=>?_⟩
  grind
def ym(c:af (Nat×ah)):(c.map λ(d,f)=>(d,a.eval f)).toList=c.toList.map λb=>(b.1,a.eval b.2):=by
 simp
theorem E1(iU:iG P cx){t:ab}{F:af (Nat×ah)}(V:St cx base w.heap μ h)(r:jY w.heap μ G e a.tmps)(ap:o.op= .build t F){l:T}
 (b:Aa t F cx G e h=some (.val l h')):iO cx base w μ h.size ((execOp a.eval o).run P w) l h':=by
 replace b:=dB.1 b;obtain⟨bl,a8,b⟩:=b;replace b:=dB.1 b;obtain⟨U,aE,b⟩:=b;have N:=wI V r aE;obtain⟨bu,d,W,K,L,M,Y,x,_⟩:=(iU.ty _ _ a8).unfold;obtain⟨Q,R⟩:=fX.rR (hp:=w.heap) (μ:=μ) Y;have fin:∀(i:af am) (g:List T),P.built t (F.toList.map λS=>(S.1,a.eval S.2))=some i->fX w.heap μ g i.toList->(∀l∈g,l.scalar=true)->l= .agg g->h'=h->
  iO cx base w μ h.size ((execOp a.eval o).run P w) l h':=by
  rintro i g O ae aN rfl rfl;refine iO.pure V ?_ (eK.wX ae aN);rw[<-ym]at O;simp only[execOp,ap,Sem.run_bind,run_build w t _ i O,Result.andThen_ok,Sem.run_pure]
 cases bi:bl.u<;>rw[bi]at b x<;>simp at b
 ·rename_i n bn;have:=qq x;subst this;replace b:=dB.1 b;obtain⟨bz,aX,b⟩:=b;replace b:=dB.1 b;obtain⟨g,y,b⟩:=b;obtain⟨m,rfl⟩:=fF.1 b;simp at m;subst m;obtain⟨s,_,_,p,_,_,_,_,_,_,v,_⟩:=(iU.ty _ _ aX).unfold;obtain⟨i,A,C,E,_⟩:=uw (place':=λk=>some (k*s.size,s.size)) (by intro k q c;rw[v];exact c) U _ _ _ W.cells N Q R y;exact fin i g (by simp only[Program.built,K,L,M,p];exact A) C E rfl rfl
 ·rename_i bs;obtain⟨I,rfl,an,al⟩:=qG x;replace b:=dB.1 b;obtain⟨g,y,b⟩:=b;obtain⟨m,rfl⟩:=fF.1 b;simp at m;subst m;obtain⟨bk,av,aA⟩:=AA I.toList al;obtain⟨i,A,C,E,_⟩:=uw (place':=λk=>bk.toArray[k]?) (by
   intro k q c;obtain⟨f,j,c⟩:=dB.1 c;obtain⟨bB,a7,c⟩:=dB.1 c;simp at c;rw[an]at j;rw[aQ]at j;cases z:I.toList[k]? with
   |none=>rw[z]at j;grind
   |some X=>
    rw[z]at j;simp at j;obtain⟨s,_,_,p,_,_,_,_,_,_,v,_⟩:=(iU.ty _ _ a7).unfold;rw[<-j]at p;have:=aA k X s z p;rw[<-j]at c;simp only[]at c;rw[<-c,<-v]
    grind) U _ _ _ W.cells N Q R y
  exact fin i g (by simp only[Program.built,K,L,M,av];exact A) C E rfl rfl
def G9{d:Nat}{b:List T}(g:∀f∈b,f.cells.length=d){c:Nat}(i:c<b.length)(f:T):eY (b.set c f)=(eY b).take (c*d)++f.cells++(eY b).drop (c*d+d):=by
 rw[qB g,<-bV,oO g,List.set_eq_take_append_cons_drop,aq i,mI,lz,cO]
def qX{c:T}(b:Nat):eY (List.replicate b c)=(List.replicate b c.cells).flatten:=by
 induction b with
 |zero=>rfl
 |succ b d=>rw[cY,lz,d,cY,List.flatten_cons]
def zk{b:af am}(c:Nat)(g:0<b.size):((Array.range (c*b.size)).map (b[· % b.size]!)).toList=(List.replicate c b.toList).flatten:=by
 induction c with
 |zero=>simp
 |succ c f=>
  have d:(Array.range ((c+1)*b.size)).toList=(Array.range (c*b.size)).toList++(List.range b.size).map (c*b.size+ ·):=by
   simp only[Array.toList_range];rw[bV,List.range_add]
  rw[Array.toList_map,d,List.map_append,<-Array.toList_map,f,List.replicate_succ',List.flatten_append];congr 1;simp only[List.flatten_cons,List.flatten_nil,cj,cz];apply List.ext_getElem
  ·simp
  simp_all[Nat.mod_eq_of_lt,Nat.mul_add_mod]
theorem fX.replicate{d:List T}{c:List am}(f:fX hp μ d c)(b:Nat):fX hp μ (List.replicate b d).flatten (List.replicate b c).flatten:=by
 induction b with
 |zero=>exact fX.nil
 |succ b g=>rw[cY,cY,List.flatten_cons,List.flatten_cons];exact f.append g
def CA(b:Nat)(f:Nat)(c:T)(g:List (Nat×T))(d:List T):oP b ((f,c)::g) d=fQ (Nat.beq (kv c.cells) b) (M (kf d f c) λi=>oP b g i):=rfl
def AP{b:Nat}(al:0<b):∀(m:List (Nat×T)) (qs:List (Nat×am)) (f g:List T) (cells:af am),
 Me hp μ m qs->(∀d∈f,d.cells.length=b)->fX hp μ (eY f) cells.toList->(∀d∈eY f,d.scalar=true)->oP b m f=some g->
 ∃q,Instr.fill (λi=>some (i*b,b)) cells qs=some q/\fX hp μ (eY g) q.toList/\(∀d∈eY g,d.scalar=true)/\(∀d∈g,d.cells.length=b)/\g.length=f.length:=by
 intro m;induction m with
 |nil=>
  intro qs f g cells hp p l y j;have:qs=[]:=aS hp.1.symm;subst this;have:g=f:=by grind [oP]
  subst this;exact⟨cells,rfl,l,y,p,rfl⟩
 |cons W m Q=>
  intro qs f g cells C p l y j;obtain⟨c,X,rfl,hr,I,E⟩:=C.mg;obtain⟨i,d⟩:=W;rw[CA]at j;obtain⟨hl,j⟩:=dJ.1 j;obtain⟨ae,n,j⟩:=dB.1 j;have x:=aC hl;rw[jz]at x;rw[kl]at n;split at n
  ·rename_i v;simp at n;subst n;obtain⟨r,Y,_⟩:=hr.cells I;have s:=l.1;have t:=r.1;simp only[cu]at s t;have G:=gD p;have K:i*b+c.cells.size<=cells.size:=by
    rw[<-s,G,<-t,x,<-bV];exact aV _ v
   have M:=Ee (cells:=cells) (c:=c) K;have u:=G9 p v d;have N:∀k∈f.set i d,k.cells.length=b:=by
    grind
   have A:fX hp μ (eY (f.set i d)) (c.cells.zipIdx.foldl (λz (k:am×Nat)=>z.setIfInBounds (i*b+k.2) k.1) cells).toList:=by
    rw[M,u];have:c.cells.size=b:=B;rw[this];exact((l.take _).append r).append (l.drop _)
   have L:∀k∈eY (f.set i d),k.scalar=true:=by
    intro k O;rw[u]at O
    grind
   obtain⟨q,R,S,U,V,an⟩:=Q X _ g _ E N A L j;refine⟨q,?_,S,U,V,by grind⟩;simp only[Instr.fill];have F:¬(c.cells.size≠b||decide (i*b+c.cells.size>cells.size))=true:=by grind
   rw[ao F];exact R
  grind
theorem yz(iU:iG P cx){O:ab}{c:Nat}{z:af (Nat×ah)}(N:St cx base w.heap μ h)(r:jY w.heap μ G e a.tmps)(I:o.op= .buildSlice O c z){g:T}
 (b:nK O c z cx G e h=some (.val g h')):iO cx base w μ h.size ((execOp a.eval o).run P w) g h':=by
 replace b:=dB.1 b;obtain⟨bu,an,b⟩:=b;obtain⟨d,E,L⟩:=j3 (iU.ty _ _ an);cases av:bu.u<;>rw[av]at b L<;>simp at b;rename_i C;have:=mc L;subst this;replace b:=dB.1 b;obtain⟨f,n,b⟩:=b;replace b:=dB.1 b;obtain⟨bs,Y,b⟩:=b;replace b:=dJ.1 b;obtain⟨K,b⟩:=b;replace b:=dJ.1 b;obtain⟨l,b⟩:=b;replace b:=dB.1 b;obtain⟨es,F,b⟩:=b;rw[iX,H.ku]at b;simp only[ar,aB]at b;obtain⟨rfl,rfl⟩:=b;have K:=aU K;have l:=aU l;have l:c*f.size<=65536:=l;rw[<-oY]at*
 have Q:=wI N r Y;obtain⟨A,aE,bH,aX,bT,bS,q,bN,a7⟩:=(iU.ty _ _ n).zero w;have S:∃i:af am,(if c*f.size=0 then(pure #[]:Sem (af am))else do pure (<-zeroValue C).cells).run P w= .ok (if c*f.size=0 then #[]else A.cells) w/\
  ((Array.range (c*f.size)).map ((if c*f.size=0 then #[]else A.cells)[· % (if c*f.size=0 then #[]else A.cells).size]!))=i/\fX w.heap μ (eY (List.replicate c f.jW)) i.toList:=by
  by_cases j:c*f.size=0
  ·have V:c=0:=by
    grind [Nat.mul_eq_zero]
   subst V;refine⟨_,J,rfl,?_⟩;simp[eY,fX.nil]
  ·refine⟨_,by simp_all,rfl,?_⟩;rw[ao j,<-a7,zk c B,qX,q];exact(aX _ _).replicate c
 obtain⟨i,bC,p,aN⟩:=S;have ap:∀g∈List.replicate c f.jW,g.cells.length=f.size:=by
  intro g k;rw[bK k,q];omega
 have al:∀g∈eY (List.replicate c f.jW),g.scalar=true:=by
  intro g k;obtain⟨y,aA,k⟩:=List.mem_flatMap.1 k;rw[bK aA,q]at k
  grind
 rw[oY]at F;obtain⟨v,m,t,bn,M,b6⟩:=AP B bs _ _ es i Q ap aN al F;have U:es.length=c:=by grind
 have X:v.size=c*f.size:=by
  have:=t.1;rw[gD M,U]at this
  grind
 obtain⟨bz,a8,bi,bk,bl⟩:=wc N C (arr:=v) (cap:=c) (sz:=f.size) (ex:=true) (es:=es) X B B M bn (by
  rw[bA]
  ·exact t
  ·have:=t.1;omega)
 refine⟨.slice (some ⟨w.heap.size,0,none⟩) c c,_,bz,.inl ?_,.arr _ 0 0 c false _ _ c bl (au _) (au _) (λ_=>⟨J,J,J⟩),a8,bi,bk⟩;have W:¬c*f.size>2^24:=B;have bB:Instr.fill (λs=>some (s*f.size,f.size)) i (z.map λ(s,x)=>(s,a.eval x)).toList=some v:=by rw[ym];exact m
 by_cases j:c*f.size=0
 ·have R:i= #[]:=by rw[<-p,j];simp
  rw[R]at m;have ae:Array.map (λ_=>(default:am)) (Array.range 0)= #[]:=J;simp[execOp,I,Instr.buildSlice,run_underlying E,(iU.ty _ _ n).run_sizeOf,j,ae,m,newRow]
 ·simp only[j,bo]at p;simp[execOp,I,Instr.buildSlice,run_underlying E,(iU.ty _ _ n).run_sizeOf,j,W,aE,p,m,newRow]
set_option maxRecDepth 20000 in
theorem zR(iU:iG P cx){W:ab}{X z:ah}(y:St cx base w.heap μ h)(V:jY w.heap μ G e a.tmps)(L:o.op= .makeSlice W X z){i:T}
 (b:oL W X z cx G e h=some (.val i h')):iO cx base w μ h.size ((execOp a.eval o).run P w) i h':=by
 replace b:=dB.1 b;obtain⟨bn,aA,b⟩:=b;obtain⟨d,K,Q⟩:=j3 (iU.ty _ _ aA);cases aE:bn.u<;>rw[aE]at b Q<;>simp at b;rename_i F;have:=mc Q;subst this;replace b:=dB.1 b;obtain⟨f,r,b⟩:=b;replace b:=dB.1 b;obtain⟨p,hp,b⟩:=b;replace b:=dB.1 b;obtain⟨q,ap,b⟩:=b;replace b:=dB.1 b;obtain⟨g,hl,b⟩:=b;replace b:=dB.1 b;obtain⟨c,Y,b⟩:=b;replace b:=dJ.1 b;obtain⟨M,b⟩:=b;replace b:=dJ.1 b;obtain⟨I,b⟩:=b;replace b:=dJ.1 b;obtain⟨m,b⟩:=b;replace b:=dJ.1 b;obtain⟨n,b⟩:=b;rw[iX,H.ku]at b;simp only[ar,aB]at b;obtain⟨rfl,rfl⟩:=b;have M:=aU M;have I:=aU I;have m:=aU m;have n:c*f.bytes<=70368744177664:=aU n;obtain⟨bT,rfl⟩:=mY hl;obtain⟨b6,rfl⟩:=mY Y;have R:=(fN y V hp).jI;have t:=(fN y V ap).jI;obtain⟨A,aN,bC,aX,bS,bN,x,bH,a7⟩:=(iU.ty _ _ r).zero w;obtain⟨b7,O,N,bz⟩:=(iU.ty _ _ r).run_typeInfo w;have bu:c<=70368744177664:=aO (Nat.le_mul_of_pos_right c B) n;have ae:∃k:af am,(if c*f.size=0 then(pure #[]:Sem (af am))else do pure (<-zeroValue F).cells).run P w= .ok (if c*f.size=0 then #[]else A.cells) w/\
  ((Array.range (c*f.size)).map ((if c*f.size=0 then #[]else A.cells)[· % (if c*f.size=0 then #[]else A.cells).size]!))=k/\fX w.heap μ (eY (List.replicate c f.jW)) k.toList:=by
  by_cases j:c*f.size=0
  ·have al:c=0:=by
    grind [Nat.mul_eq_zero]
   subst al;refine⟨_,J,rfl,?_⟩;simp[eY,fX.nil]
  ·refine⟨_,by simp_all,rfl,?_⟩;rw[ao j,<-a7,zk c B,qX,x];exact(aX _ _).replicate c
 obtain⟨k,bB,v,S⟩:=ae;have s:∀U,∀i∈List.replicate U f.jW,i.cells.length=f.size:=by
  intro U i l;rw[bK l,x];omega
 have av:∀i∈eY (List.replicate g f.jW),i.scalar=true:=by
  intro i l;obtain⟨z,t,l⟩:=List.mem_flatMap.1 l;rw[bK t,x]at l
  grind
 have an:k.size=c*f.size:=by
  have:=S.1;rw[gD (s c)]at this
  grind
 obtain⟨bs,a8,bi,bk,bl⟩:=wc y F (arr:=k) (cap:=c) (sz:=f.size) (ex:=Nat.beq g c) (es:=List.replicate g f.jW) an (by grind) (by simp_all) (s g) av (by
  rw[gD (s g),List.length_replicate];have:=S.take (g*f.size);rw[qB (s c)]at this;rw[List.take_replicate,cm m]at this;omega)
 refine⟨.slice (some ⟨w.heap.size,0,none⟩) g c,_,bs,.inl ?_,.arr _ 0 0 g false _ _ c bl (au _) m (λ_=>⟨J,J,J⟩),a8,bi,bk⟩;have C:IntKind.i64.wrap (Int.ofNat c)=(c:Int):=IntWalk.i64_in (c:Int) ⟨B,B⟩;have E:IntKind.i64.wrap (Int.ofNat g)=(g:Int):=IntWalk.i64_in (g:Int) ⟨B,B⟩;have t1:¬((f.bytes:Int)*(c:Int)>2^48):=by
  have:((c*f.bytes:Nat):Int)<=70368744177664:=Int.ofNat_le.2 n;rw[Int.mul_comm];omega
 have t2:(decide ((c:Int)<0)||decide ((f.bytes:Int)*(c:Int)>2^48)||decide ((g:Int)<0)||decide ((g:Int)>(c:Int)))=false:=by
  grind
 by_cases j:c*f.size=0
 ·simp only[j,bj]at v;simp only[execOp,L,Instr.makeSlice,Sem.run_bind,run_underlying K,Result.andThen_ok,R,t,asInt,asIntOf,Sem.run_pure,O,N,C,E,t2,cd,bo,run_askRoom,(iU.ty _ _ r).run_sizeOf,cv,j,bj,v,newRow,run_newObj]
 ·simp only[j,bo]at v;simp only[execOp,L,Instr.makeSlice,Sem.run_bind,run_underlying K,Result.andThen_ok,R,t,asInt,asIntOf,Sem.run_pure,O,N,C,E,t2,cd,bo,run_askRoom,(iU.ty _ _ r).run_sizeOf,cv,j,aN,v,newRow,run_newObj]
theorem EW{f:ab}{i:ah}(d:St cx base w.heap μ h)(s:jY w.heap μ G e a.tmps)(l:o.op= .range f i)(m:P.underlying f=some .string){g:T}
 (b:Cn i cx G e h=some (.val g h')):iO cx base w μ h.size ((execOp a.eval o).run P w) g h':=by
 replace b:=dB.1 b;obtain⟨r,hp,b⟩:=b;cases r<;>simp at b;rename_i c;rw[iX,H.ku]at b;simp only[ar,aB]at b;obtain⟨rfl,rfl⟩:=b;obtain⟨k,j⟩:=(fN d s hp).kz;obtain⟨n,p,q⟩:=d.new (.stringIter (bytesOf c) 0) ⟨0,w.heap.size,0,1⟩ ⟨1,0,0,true,true,[.str c,.int .i64 0]⟩ rfl (by
  intro t;refine⟨rfl,rfl,λu=>by grind,λ_=>⟨rfl,.inl ⟨c,0,rfl,j,J⟩⟩⟩)
 refine⟨.pointer (some ⟨w.heap.size,0,none⟩),{w with heap:=w.heap.push (.stringIter (bytesOf c) 0)},_,.inl ?_,.iter _ _ _ (jd _ _ _) (λ_=>rfl),n,⟨p,rfl,rfl,rfl⟩,q⟩;simp[execOp,l,Instr.range,run_underlying m,k]
end
end
section
section
variable {P:ai}{cx:Ctx}{base:Nat}{w:World}{μ:Mu}{h h':H}{G:Nat}{e:Env}{a:Act}{o:Oper}{hp hp':af Obj}
def St.BD(l:St cx base hp μ h){d:Nat}{c:Loc}{b:iI}(i:μ d=some c)(j:h.get d=some b)(k:b.it=false):yZ hp μ c b.exact b.eg/\b.ep=c.ep/\b.sz=c.sz:=by
 have⟨m,f,g⟩:=l.box d c i;rw[j]at f;simp at f;subst f;exact⟨g.plain k,g.ep,g.sz⟩
def y9(p:St cx base w.heap μ h){f:Nat}{b:Loc}{k:iI}(n:μ f=some b)(u:h.get f=some k)(v:k.it=false){l arr':af am}{i:ab}(C:w.heap[b.iE]? =some (.cells l i (0,0)))
 {ep' O:Nat} {m:Bool} {c:List T} (r:ep'=b.ep\/ep'=b.ep+1) (z:h.put f ⟨k.sz,ep',O,m,false,c⟩=some h') (G:arr'.size=b.cap*b.sz) (A:c.length<=b.cap) (s:m=true->b.cap=c.length)
 (I:∀j∈c,j.cells.length=b.sz) (F:∀j∈eY c,j.scalar=true) (q:fX w.heap μ (eY c) (arr'.toList.take (eY c).length)):
 ∃g,St cx base (w.setRow b.iE arr').heap g h'/\oS w μ (w.setRow b.iE arr') g/\xJ μ g h.size h'.size/\g f=some ⟨ep',b.iE,b.cap,b.sz⟩:=by
 have⟨Q,R,K⟩:=p.BD n u v;have y:∀d,d<w.heap.size->d≠b.iE->(w.setRow b.iE arr').heap[d]? =w.heap[d]? :=λd _ x=>setRow_other w b.iE d arr' x;have E:=setRow_heap w b.iE l arr' i (0,0) C;have⟨L,M,N⟩:=p.change (L':=⟨ep',b.iE,b.cap,b.sz⟩) n z J y (by
  rcases r with rfl|rfl
  ·simp
  simp) (by
  intro t;refine⟨rfl,K,λ_=>⟨⟨arr',i,E,G,q.ext t⟩,A,s,I,F⟩,λS=>by grind⟩)
 exact⟨_,L,⟨M,rfl,rfl,rfl⟩,N,jd _ _ _⟩
def Am{j:Type}(b d:List j){o c:Nat}(k:o+d.length<=c)(l:c<=b.length):(b.take o++d++b.drop (o+d.length)).take c=(b.take c).take o++d++(b.take c).drop (o+d.length):=by
 rw[List.take_append,List.take_append];have f:(b.take o).take c=(b.take c).take o:=by rw[List.take_take,List.take_take,Nat.min_comm]
 have g:(b.take o).length=o:=by grind
 have i:(b.take o++d).length=o+d.length:=by grind
 rw[f,g,i]
 grind [bA,List.drop_take]
def MP{b c:T}{g:Nat}{f:List T}(q:∀r∈f,r.scalar=true)(d:lj b g f=some c):
 g+f.length<=b.cells.length/\c.cells=b.cells.take g++f++b.cells.drop (g+f.length):=by
 by_cases k:∃i,b= .agg i
 ·obtain⟨i,rfl⟩:=k;have⟨s,l,j⟩:=dB.1 d;simp at j;subst j;exact nR l
 ·have n:b.cells=[b]:=by cases b<;>first|rfl|grind
  have m:g=0/\f=[c]:=by
   unfold lj at d;cases b<;>first|(exact absurd ⟨_,rfl⟩ k)|(simp only[]at d;split at d<;>simp at d;subst d;exact⟨rfl,rfl⟩)
  obtain⟨rfl,rfl⟩:=m;have p:=q c J;have:c.cells=[c]:=by cases c<;>simp[T.scalar]at p<;>rfl
  rw[n,this];simp
theorem EU(iU:iG P cx){t:ab}{x n:ah}(I:St cx base w.heap μ h)(r:jY w.heap μ G e a.tmps)(b6:o.op= .store t x n){k:T}
 (f:Ck t x n cx G e h=some (.val k h')):iO cx base w μ h.size ((execOp a.eval o).run P w) k h':=by
 replace f:=dB.1 f;obtain⟨c9,ce,f⟩:=f;replace f:=dB.1 f;obtain⟨p,hp,f⟩:=f;replace f:=dB.1 f;obtain⟨u,b8,f⟩:=f;replace f:=dJ.1 f;obtain⟨bN,f⟩:=f;replace f:=dB.1 f;obtain⟨W,b,f⟩:=f;simp at f;obtain⟨rfl,rfl⟩:=f;have cp:=fN I r hp;obtain⟨a7,qs,c6⟩:=(fN I r b8).cells bN;have b7:∃y K c i,p= .ptr y K c i:=by
  unfold H.store at b;cases p<;>first|(exact⟨_,_,_,_,rfl⟩)|(simp at b)
 obtain⟨y,K,c,i,rfl⟩:=b7;unfold H.store at b;replace b:=dJ.1 b;obtain⟨F,b⟩:=b;replace b:=dB.1 b;obtain⟨bk,Y,b⟩:=b;obtain⟨a8,L,bi,U,aX,d⟩:=bk;have b:fQ (Nat.beq L K) (@Bool.rec (λ_=>aa H) (M (lF d c) λl=>M (lj l i u.cells) λm=>M (kf d c m) λz=>M (fU (Nat.succ bi)) λS=>h.put y ⟨a8,L,S,U,false,z⟩) none aX)=some W:=b;replace b:=dJ.1 b;obtain⟨an,b⟩:=b;cases aX with
 |true=>simp at b
 |false=>
  have b:(M (lF d c) λl=>M (lj l i u.cells) λm=>M (kf d c m) λz=>M (fU (Nat.succ bi)) λS=>h.put y ⟨a8,L,S,U,false,z⟩)=some W:=b;replace b:=dB.1 b;obtain⟨l,A,b⟩:=b;replace b:=dB.1 b;obtain⟨m,bC,b⟩:=b;replace b:=dB.1 b;obtain⟨z,C,b⟩:=b;simp only[gX,dS]at b;rw[ky]at A;have an:=aC an;have F:=aC F;rw[jz]at F;rw[kl]at C;split at C
  ·rename_i E;simp at C;subst C;obtain⟨g,de,b9,X,_,bs⟩:=cp.o7;obtain⟨q,V,bl⟩:=I.BD X Y rfl;simp only[]at V bl;have bu:=bs B;subst bu;obtain⟨v,c7,av,aE,N⟩:=q.row;have s:=q.size;simp only[]at s N;have bT:l∈d:=ax A;obtain⟨bS,ae⟩:=MP qs bC;have dm:=s l bT;have bB:d[c]=l:=by rw[ay E]at A;simpa using A
   have O:=gD s;have ap:eY (d.set c m)=(eY d).take (c*g.sz+i)++u.cells++(eY d).drop (c*g.sz+i+u.cells.length):=by
    rw[G9 s E,ae];have al:(eY d).drop (c*g.sz)=l.cells++(eY d).drop (c*g.sz+g.sz):=by
     rw[<-bV,oO s,oO s,aH E,bB,lz]
    have ht:(eY d).take (c*g.sz+i)=(eY d).take (c*g.sz)++l.cells.take i:=by
     rw[List.take_add,al,cP B]
    have bz:(eY d).drop (c*g.sz+i+u.cells.length)=l.cells.drop (i+u.cells.length)++(eY d).drop (c*g.sz+g.sz):=by
     rw[cA,<-cI,al,List.drop_append_of_le_length bS]
    rw[ht,bz];simp[cO]
   have dk:c*g.sz+i+u.cells.length<=(eY d).length:=by
    rw[O];have:(c+1)*g.sz<=d.length*g.sz:=aV _ E;rw[bV]at this;omega
   have di:(eY d).length<=v.size:=by
    rw[O,aE];exact aV _ q.room
   have Q:=a7.1;have aN:∀k∈d.set c m,k.cells.length=g.sz:=by
    intro k j;rcases bZ j with R|rfl
    ·exact s k R
    ·rw[ae];simp;omega
   have ca:∀k∈eY (d.set c m),k.scalar=true:=by
    intro k j;rw[ap]at j;rcases List.mem_append.1 j with j|j
    ·rcases List.mem_append.1 j with j|j
     ·exact q.scalar k (br j)
     grind
    ·exact q.scalar k (bw j)
   have bH:(eY (d.set c m)).length=(eY d).length:=by
    rw[gD aN,O];simp
   have bn:fX w.heap μ (eY (d.set c m)) ((v.toList.take (c*g.sz+i)++(a.eval n).cells.toList++v.toList.drop (c*g.sz+i+(a.eval n).cells.toList.length)).toArray.toList.take (eY (d.set c m)).length):=by
    rw[bH,ap];rw[cZ,Am _ _ B B];rw[<-Q];exact((N.take _).append a7).append (N.drop _)
   obtain⟨dd,cL,c1,c4,dn⟩:=y9 I X Y rfl av (.inl V) b (arr':=(v.toList.take (c*g.sz+i)++(a.eval n).cells.toList++v.toList.drop (c*g.sz+i+(a.eval n).cells.toList.length)).toArray)
    (by simp only[List.size_toArray,bh,List.length_take,List.length_drop,cu]at Q|-;rw[<-aE];omega) (by simpa using q.room) (by intro R;have:=q.sw R;grind) aN ca bn
   refine⟨Go.undef,_,dd,.inr ⟨?_,rfl⟩,.undef,cL,c1,c4⟩;have aA:=run_storeCells_at (P:=P) g.iE (c*g.sz+i) c7 (a.eval n).cells.toList 0 v w av B c6;simp only[Nat.add_zero]at aA;have cb:(a.eval n).cells.size=c9.size:=by rw[<-F,Q];simp
   simp only[execOp,b6,Instr.storeAt,Sem.run_bind,b9,Instr.sureAddr,Sem.run_pure,Result.andThen_ok,storeVar,(iU.ty _ _ ce).run_sizeOf,cb,ne_eq,not_true,bo,aA]
  grind
end
end
section
section
variable {P:ai}{cx:Ctx}{base:Nat}{w:World}{μ:Mu}{h h':H}{G:Nat}{e:Env}{a:Act}{o:Oper}{hp hp':af Obj}
def Ka{g:Nat}{c:List T}(d:fits g c=true){k:Nat}(i:∀b∈c,b.cells.length=k):∀b∈c,b.cells.length=g:=by
 cases c with
 |nil=>intro b f;simp at f
 |cons j c=>
  have d:Nat.beq (kv j.cells) g=true:=d;have:=aC d;rw[jz]at this;have l:=i j J;intro b f;rw[i b f];omega
structure AK(P:ai)(w:World)(μ:Mu)(c:am)(es:List T)(sz:Nat):Prop where
 HT:∀v∈es,v.cells.length=sz
 scalar:∀v∈eY es,v.scalar=true
 form:∃ad cap news,c= .slice ad es.length cap/\es.length<=cap/\fX w.heap μ (eY es) news/\(∀u∈news,u.oneCell'=true)/\
  ((ad=none/\es=[])\/∃x:Addr,ad=some x/\∀(j:Nat) u,news[j]? =some u->w.cell? (x.add j)=some u)
def fX.EI{b:List T}{c:List am}(d:fX hp μ b c)(l:∀v∈b,v.scalar=true):∀j∈c,j.oneCell'=true:=by
 intro j m;obtain⟨k,g,rfl⟩:=List.getElem_of_mem m;have i:k<b.length:=by rw[d.1];exact g
 have⟨n,f,hr⟩:=d.get (k:=k) (v:=b[k]) (by simp[i]);simp[g]at f;subst f;exact qI hr (l _ (aD i))
def nJ(s:St cx base w.heap μ h){G:T}{m:am}{es:List T}(x:eK w.heap μ G m)(c:h.jf G=some es):∃A,AK P w μ m es A:=by
 unfold H.jf at c;cases G<;>simp at c
 ·
  rename_i al an;subst c;cases al with
  |nil=>
   obtain⟨k,rfl⟩:=x.tv;refine⟨0,J,by simp[eY],k,0,[],rfl,au _,fX.nil,J,?_⟩;cases k with
   |none=>exact .inl ⟨rfl,rfl⟩
   |some y=>exact .inr ⟨y,rfl,J⟩
  |cons p es=>
   obtain⟨I,off,E,A,q,V,fz,rfl,b8,Q,bk,bT,bB,bz,aX,hr⟩:=x.tz;have F:∀f∈eY (p::es),f.scalar=true:=λf g=>(aX f g).1;have t:r8 w.heap μ I off (eY (p::es)):=⟨⟨q,V,fz,Q,bz,hr⟩,F⟩;have r:fX w.heap μ (eY (p::es)) ((q.toList.drop off).take (eY (p::es)).length):=by
    refine⟨dp,λz f g=>?_⟩;have bi:z<(eY (p::es)).length:=by
     rcases aM z (eY (p::es)).length with y|y
     ·exact y
     ·rw[bL y]at g;simp at g
    have:=hr z f g;have bs:off+z<q.size:=B;simpa[List.getD,cg,bi,bQ,bs]using this
   refine⟨A,bB,F,some ⟨I,off,none⟩,E,_,rfl,bk,r,r.EI F,.inr ⟨_,rfl,λj u d=>?_⟩⟩;rw[kx];rw[cg]at d;split at d
   ·rw[bJ]at d;simp only[World.cell?,Q];simpa using d
   ·simp at d
 ·subst c;obtain⟨k,E,rfl⟩:=x.zL;refine⟨0,J,by simp[eY],k,E,[],rfl,aw _,fX.nil,J,?_⟩;cases k with
  |none=>exact .inl ⟨rfl,rfl⟩
  |some y=>exact .inr ⟨y,rfl,J⟩
 ·rename_i b Y l i an;replace c:=dB.1 c;obtain⟨W,aN,c⟩:=c;obtain⟨A,ae,ca,bN,U,n⟩:=W;have c:fQ (Nat.beq ae Y) (@Bool.rec (λ_=>aa (List T)) (M (jB l n) λt=>takeN i t) none U)=some es:=c;replace c:=dJ.1 c;obtain⟨O,c⟩:=c;cases U with
  |true=>simp at c
  |false=>
   have c:(M (jB l n) λt=>takeN i t)=some es:=c;replace c:=dB.1 c;obtain⟨t,hr,c⟩:=c;rw[lA]at hr;split at hr
   ·rename_i b7;simp at hr;subst hr;rw[m6]at c;split at c
    ·rename_i bn;simp at c bn;subst c;obtain⟨C,k,K,rfl,aE,bS,a7,a8⟩:=x.rX;obtain⟨m,ap,av⟩:=s.BD aE aN rfl;simp only[]at ap av;have O:=aC O;obtain⟨bC,bH,X⟩:=a8 B;obtain⟨q,V,bu,b9,r⟩:=m.row;have v:=m.size;simp only[]at v r;have N:=Cy v l i;have R:((n.drop l).take i).length=i:=dp;have b6:=gD v;have L:fX w.heap μ (eY ((n.drop l).take i)) (((q.toList.take (eY n).length).drop (l*C.sz)).take (i*C.sz)):=by
      rw[N];exact(r.drop _).take _
     have S:∀f∈eY ((n.drop l).take i),f.scalar=true:=by
      intro f g;rw[N]at g;exact m.scalar f (bw (br g))
     refine⟨C.sz,λf g=>v f (bw (br g)),S,k,K,_,by rw[R],by rw[R];exact a7,L,L.EI S,?_⟩;by_cases aA:K=0
     ·have bl:i=0:=B;subst bl;cases k with
      |none=>exact .inl ⟨rfl,J⟩
      |some y=>exact .inr ⟨y,rfl,J⟩
     ·refine .inr ⟨_,X aA,λj u d=>?_⟩;rw[kx];rw[cg]at d;split at d
      ·rw[bJ,cg]at d;split at d
       ·simp only[World.cell?,bu];simpa using d
       ·simp at d
      ·simp at d
    ·simp at c
   ·simp at hr
def AK.src{f:am}{c:List T}{d:Nat}(k:AK P w μ f c d){l m:ab}(j:P.underlying l=some (.slice m)):∃b,Src P d l f c.length b w/\fX w.heap μ (eY c) b:=by
 obtain⟨s,g,b,rfl,t,i,n,p⟩:=k.form;refine⟨b,?_,i⟩;have hl:b.length=c.length*d:=by rw[<-i.1,gD k.HT]
 rcases p with⟨rfl,rfl⟩|⟨r,rfl,q⟩
 ·have:b=[]:=aS (by simpa using hl);subst this;exact Src.ofNil w j g
 ·exact Src.ofSlice w j r c.length g b hl q n
def AK.first{f:am}{c:List T}{d:Nat}(j:AK P w μ f c d):∃b,(Builtin.firstCells d c.length f).run P w.drew= .ok b.toArray w.drew/\fX w.heap μ (eY c) b:=by
 obtain⟨n,g,b,rfl,q,i,p,k⟩:=j.form;refine⟨b,?_,i⟩;have hl:b.length=c.length*d:=by rw[<-i.1,gD j.HT]
 rcases k with⟨rfl,rfl⟩|⟨m,rfl,l⟩
 ·have:b=[]:=aS (by simpa using hl);subst this;exact run_firstCells_none w.drew d 0 0 g
 ·exact run_firstCells_some w.drew d c.length m c.length g b hl (by simpa using l)
end
end
section
section
variable {P:ai}{cx:Ctx}{base:Nat}{w:World}{μ:Mu}{h h':H}{G:Nat}{e:Env}{a:Act}{o:Oper}{hp hp':af Obj}
structure R9(P:ai)(w:World)(μ:Mu)(sz:Nat)(tx:ab)(x:am)(xs:List T)(news:List am):Prop where
 src:Src P sz tx x xs.length news w
 rel:fX w.heap μ (eY xs) news
 HT:∀v∈xs,v.cells.length=sz
 scalar:∀v∈eY xs,v.scalar=true
structure R7(P:ai)(w:World)(μ:Mu)(sz:Nat)(c:am)(es:List T)(olds:List am):Prop where
 first:(Builtin.firstCells sz es.length c).run P w.drew= .ok olds.toArray w.drew
 rel:fX w.heap μ (eY es) olds
 HT:∀v∈es,v.cells.length=sz
 scalar:∀v∈eY es,v.scalar=true
def qD(c:af am)(b:Nat):(Builtin.zeroCells c b).size=b*c.size:=by simp[Builtin.zeroCells]
def uv{d f:List T}{c:T->Prop}(i:∀b∈eY d,c b)(j:∀b∈eY f,c b):∀b∈eY (d++f),c b:=by
 intro b g;rw[mI]at g
 grind
def Cv{g f:List am}{i:af am}{b c d:Nat}(j:g.length+f.length=c*d)(k:i.size=d)(l:c<=b):
 ((g++f).toArray++Builtin.zeroCells i (b-c)).size=b*d:=by
 simp only[Array.size_append,List.size_toArray,bh,qD,j,k];rw[<-bW]
 grind
def FR(iU:iG P cx){n p ty' i:ab}{d:Ty}(A:P.underlying n=some (.slice i))(E:cx.ty i=some d){j:aa Addr}{g:Nat}{b c:List T}{m l:List am}{q:am}
 (K:R7 P w μ d.size (.slice j b.length g) b m) (I:R9 P w μ d.size p q c l) (t:g<b.length+c.length) (R:1<=d.bytes) (C:(b.length+c.length)*d.bytes<=70368744177664):
 ∃(f:am) (k:Nat),b.length+c.length<=k/\f.cells.size=d.size/\(Builtin.append_ #[n,p] ty' #[.slice j b.length g,q]).run P w=
  .ok (.slice (some ⟨w.heap.size,0,none⟩) (b.length+c.length) k) {w with drawn:=w.drawn+1,heap:=w.heap.push (.cells ((m++l).toArray++Builtin.zeroCells f.cells (k-(b.length+c.length))) i)}:=by
 have⟨G,L,f,u,M,v,x,N,O,Q,y,z,_⟩:=(iU.ty _ _ E).unfold;have F:f.cells.size=d.size:=by
  have:=(fX.rR (hp:= #[]) (μ:=⟨λ_=>none,λ_=>False⟩) x).1.1
  grind
 have S:b.length+c.length<=70368744177664:=aO (Nat.le_mul_of_pos_right _ B) C;have r:=K.first;have s:=I.src;rw[<-y]at r s;have:=run_append_grow_src w n p ty' i G f A u v j b.length g m r q c.length l s t B (by rw[z];exact growslice_fits t B);exact⟨f,_,grownCap_ge w _ _ _,F,this⟩
def AU(iU:iG P cx)(R:St cx base w.heap μ h){x y ty' n:ab}{d:Ty}(C:P.underlying x=some (.slice n))(I:cx.ty n=some d){ad:aa Addr}{cap:Nat}{es c:List T}{s r:List am}{z:am}
 (i:R7 P w μ d.size (.slice ad es.length cap) es s) (g:R9 P w μ d.size y z c r) (E:cap<es.length+c.length) {f:T} (b:h.ja d.size d.bytes es c=some (f,h')):
 ∃t m j,(Builtin.append_ #[x,y] ty' #[.slice ad es.length cap,z]).run P w= .ok t m/\eK m.heap j f t/\St cx base m.heap j h'/\oS w μ m j/\xJ μ j h.size h'.size:=by
 unfold H.ja at b;simp only[pf,dS,gX,jz]at b;replace b:=dJ.1 b;obtain⟨p,b⟩:=b;replace b:=dJ.1 b;obtain⟨l,b⟩:=b;replace b:=dJ.1 b;obtain⟨_,b⟩:=b;replace b:=dJ.1 b;obtain⟨_,b⟩:=b;rw[H.ku]at b;simp only[ar,aB]at b;obtain⟨rfl,rfl⟩:=b;have p:=aU p;have l:(es++c).length*d.bytes<=70368744177664:=aU l;rw[bh]at l;have⟨U,q,u,L,G⟩:=FR iU C I (ty':=ty') i g E p l;have v:∀f∈es++c,f.cells.length=d.size:=by
  intro f K;rcases List.mem_append.1 K with k|k
  ·exact i.HT f k
  ·exact g.HT f k
 have F:s.length+r.length=(es.length+c.length)*d.size:=by
  rw[<-i.rel.1,<-g.rel.1,gD i.HT,gD g.HT,bW]
 have A:fX w.heap μ (eY (es++c)) (((s++r).toArray++Builtin.zeroCells U.cells (q-(es.length+c.length))).toList.take (eY (es++c)).length):=by
  rw[gD v,bh,Array.toList_append,cZ,cP (by grind),bA (by grind),mI];exact i.rel.append g.rel
 have S:St cx base ({w with drawn:=w.drawn+1}:World).heap μ h:=R;have⟨j,M,N,O,Q⟩:=wc S n (cap:=q) (sz:=d.size) (ex:=false) (es:=es++c) (Cv F L u) (by grind) J v (uv i.scalar g.scalar) A;rw[bh];exact⟨_,_,j,G,.arr _ 0 0 _ false _ _ q Q (au _) u (λ_=>⟨J,J,J⟩),M,⟨N.ext,rfl,rfl,rfl⟩,O⟩
def MU(iU:iG P cx){n q ty' l:ab}{c:Ty}(v:P.underlying n=some (.slice l))(z:cx.ty l=some c){d b j k:Nat}{g:List am}{r:am}
 (i:Src P c.size q r k g w) (x:b+k<=j) {f:af am} {p:ab} (y:w.heap[d]? =some (.cells f p (0,0))) (N:b*c.size+g.length<=f.size):
 (Builtin.append_ #[n,q] ty' #[.slice (some ⟨d,0,none⟩) b j,r]).run P w= .ok (.slice (some ⟨d,0,none⟩) (b+k) j) (w.setRow d (f.toList.take (b*c.size)++g++f.toList.drop (b*c.size+g.length)).toArray):=by
 have⟨O,A,Q,s,E,F,G,I,K,L,t,M,_⟩:=(iU.ty _ _ z).unfold;have m:=run_storeCells_at (P:=P) d (b*c.size) p g 0 f w y B i.one;simp only[Nat.add_zero]at m;have u:(⟨d,0,none⟩:Addr).add (b*c.size)=⟨d,b*c.size,none⟩:=by rw[kx];simp
 rcases i.kind with⟨C,hk⟩|hk<;>simp[Builtin.append_,run_underlying v,run_underlying hk,sizeOf,typeInfo,s,t,i.len,x,i.cells,u,m]
def MV(iU:iG P cx){i k ty' g:ab}{j:Ty}(p:P.underlying i=some (.slice g))(r:cx.ty g=some j){b:aa Addr}{f c:Nat}{l:am}(d:Src P j.size k l 0 [] w)(q:f<=c):
 (Builtin.append_ #[i,k] ty' #[.slice b f c,l]).run P w= .ok (.slice b f c) w:=by
 have⟨E,s,F,m,u,v,x,y,z,A,n,C,_⟩:=(iU.ty _ _ r).unfold;rcases d.kind with⟨t,hk⟩|hk<;>cases b<;>simp[Builtin.append_,run_underlying p,run_underlying hk,sizeOf,typeInfo,m,n,d.len,q,d.cells,storeCells]
def CY(iU:iG P cx)(s:St cx base w.heap μ h){t c1 ty' Q:ab}{d:Ty}(bS:P.underlying t=some (.slice Q))(cp:cx.ty Q=some d){F an b:Nat}{f:List T}{m:List am}{G x:am}
 (er:eK w.heap μ (.arr F an 0 b false) G) (v:R9 P w μ d.size c1 x f m) (eh:f≠ []) {l:T} (c:h.ma d.size d.bytes F an b f=some (l,h')):
 ∃bs ae L,(Builtin.append_ #[t,c1] ty' #[G,x]).run P w= .ok bs ae/\eK ae.heap L l bs/\St cx base ae.heap L h'/\oS w μ ae L/\xJ μ L h.size h'.size:=by
 unfold H.ma at c;replace c:=dB.1 c;obtain⟨c6,bN,c⟩:=c;obtain⟨bn,ep',c4,eB,cL,g⟩:=c6;have c:(M (takeN b g) λN=>M (AV N f) λbB=>M (fU (kv bB)) λn=>fQ (Nat.ble 1 d.bytes)<|fQ (Nat.beq ep' an) (fQ (Nat.beq bn d.size) (fQ (Nat.ble (Nat.mul n d.bytes) 70368744177664) (fQ (fits d.size f) (@Bool.rec (λ_=>aa (T×H))
  (M (fU (Nat.succ ep')) λbz=>M (fU (Nat.succ c4)) λeA=>M (h.put F ⟨bn,bz,eA,false,false,bB⟩) λh'=>some (.arr F bz 0 n false,h')) none cL)))))=some (l,h'):=c
 replace c:=dB.1 c;obtain⟨N,S,c⟩:=c;simp only[pf,dS,gX,jz]at c;replace c:=dJ.1 c;obtain⟨aA,c⟩:=c;replace c:=dJ.1 c;obtain⟨bT,c⟩:=c;replace c:=dJ.1 c;obtain⟨ce,c⟩:=c;replace c:=dJ.1 c;obtain⟨W,c⟩:=c;replace c:=dJ.1 c;obtain⟨_,c⟩:=c;cases cL with
 |true=>simp at c
 |false=>
  have c:(M (h.put F ⟨bn,ep'+1,c4+1,false,false,N++f⟩) λh'=>some (T.arr F (ep'+1) 0 (N++f).length false,h'))=some (l,h'):=c;replace c:=dB.1 c;obtain⟨eC,b7,c⟩:=c;simp only[ar,aB]at c;obtain⟨rfl,rfl⟩:=c;have aA:=aU aA;have bT:=aC bT;have ce:=aC ce;have W:(N++f).length*d.bytes<=70368744177664:=aU W;rw[bh]at W;rw[m6]at S;split at S
  ·rename_i eb;simp at S;subst S;obtain⟨A,al,r,rfl,av,eE,eD,dn⟩:=er.rX;obtain⟨G,c9,dd⟩:=s.BD av bN rfl;simp only[]at c9 dd;obtain⟨_,c7,bu⟩:=dn B;have dk:r=A.cap:=by have:=c7 rfl;omega
   obtain⟨q,eI,a7,cb,bC⟩:=G.row;have O:=G.size;simp only[]at O bC;have E:A.sz=d.size:=B;have p:(g.take b).length=b:=dp;have a8:∀l∈g.take b,l.cells.length=d.size:=λl I=>by rw[<-E];exact O l (br I)
   have b9:∀l∈eY (g.take b),l.scalar=true:=by
    intro l I;rw[<-qB O]at I;exact G.scalar l (br I)
   have X:∀l∈g.take b++f,l.cells.length=A.sz:=by
    intro l I;rw[E];rcases List.mem_append.1 I with k|k
    ·exact a8 l k
    ·exact v.HT l k
   have ca:=uv b9 v.scalar;have dv:=gD O;have b6:m.length=f.length*d.size:=by rw[<-v.rel.1,gD v.HT]
   have R:fX w.heap μ (eY (g.take b)) (q.toList.take (b*A.sz)):=by
    have:=bC.take (b*A.sz);rw[qB O,List.take_take,cm (by rw[dv];exact aV _ eb)]at this;exact this
   have eH:0<f.length:=List.length_pos_iff.2 eh;by_cases b8:b+f.length<=r
   ·
    have dm:r≠0:=B;have bH:=bu dm;simp only[Nat.zero_mul]at bH;subst bH;have di:b*d.size+m.length<=q.size:=by
     rw[cb,b6,E,<-bW];exact aV _ B
    have V:=MU (ty':=ty') iU bS cp v.src b8 a7 di;have aE:(eY (g.take b++f)).length=b*d.size+m.length:=by
     rw[gD X,bh,p,b6,E,bW]
    have ap:fX w.heap μ (eY (g.take b++f)) ((q.toList.take (b*d.size)++m++q.toList.drop (b*d.size+m.length)).toArray.toList.take (eY (g.take b++f)).length):=by
     have ht:(q.toList.take (b*d.size)++m).take (b*d.size+m.length)=q.toList.take (b*d.size)++m:=bA dp;rw[aE,cZ,cP dp,ht,mI];rw[E]at R;exact R.append v.rel
    obtain⟨L,bi,bk,bl,eu⟩:=y9 s av bN rfl a7 (ep':=ep'+1) (.inr B) b7 (arr':=(q.toList.take (b*d.size)++m++q.toList.drop (b*d.size+m.length)).toArray)
     (by simp only[List.size_toArray,bh,List.length_take,List.length_drop,cu];rw[<-cb];omega) (by simp[p];omega) J X ca ap
    refine⟨_,_,L,V,?_,bi,bk,bl⟩;have aN:(g.take b++f).length=b+f.length:=by rw[bh,p]
    rw[aN];exact .arr _ _ 0 _ false _ _ r eu (au _) b8 (λ_=>⟨J,by simp[dk],J⟩)
   ·
    have K:∃C,R7 P w μ d.size (.slice al b r) (g.take b) C:=by
     refine⟨q.toList.take (b*A.sz),?_,R,a8,b9⟩;rw[p];have ef:(q.toList.take (b*A.sz)).length=b*d.size:=by rw[<-R.1,gD a8,p]
     by_cases de:r=0
     ·have ea:b=0:=B;subst ea;simp only[Nat.zero_mul,List.take_zero];cases al with
      |none=>exact run_firstCells_none w.drew d.size 0 0 r
      |some y=>exact run_firstCells_some w.drew d.size 0 y 0 r [] J J
     ·rw[bu de];refine run_firstCells_some w.drew d.size b _ b r _ ef (λj u U=>?_);rw[kx];rw[cg]at U;split at U
      ·show World.cell? w _=_;simp only[World.cell?,a7];simpa using U
      ·simp at U
    obtain⟨C,K⟩:=K;have eo:((g.take b).length+f.length)*d.bytes<=70368744177664:=by rw[<-p]at*;exact W
    have ey:R7 P w μ d.size (.slice al (g.take b).length r) (g.take b) C:=by rw[p];exact K
    obtain⟨z,Y,aX,et,V⟩:=FR iU bS cp (ty':=ty') ey v (by rw[p];omega) aA eo;rw[p]at V aX;have ec:C.length+m.length=(b+f.length)*d.size:=by
     rw[<-K.rel.1,<-v.rel.1,gD K.HT,gD v.HT,p,bW]
    have aE:(eY (g.take b++f)).length=(b+f.length)*d.size:=by
     rw[gD X,bh,p,E]
    have ap:fX w.heap μ (eY (g.take b++f)) (((C++m).toArray++Builtin.zeroCells z.cells (Y-(b+f.length))).toList.take (eY (g.take b++f)).length):=by
     have ht:(C++m).take ((b+f.length)*d.size)=C++m:=bA dp;rw[aE,Array.toList_append,cZ,cP dp,ht,mI];exact K.rel.append v.rel
    have aN:(g.take b++f).length=b+f.length:=by rw[bh,p]
    obtain⟨bi,bk,bl⟩:=s.change (L':=⟨ep'+1,w.heap.size,Y,A.sz⟩) (hp':=w.heap.push (.cells ((C++m).toArray++Builtin.zeroCells z.cells (Y-(b+f.length))) Q)) av b7 J
     (by intro i eF _;rw[cX];grind) (.inr ⟨by grind,.inr (au _)⟩) (by
     intro ds;refine⟨rfl,B,λ_=>⟨⟨_,Q,J,?_,ap.ext ds⟩,by grind,J,X,ca⟩,λk=>by grind⟩;rw[Cv ec et aX,E])
    refine⟨_,_,_,V,?_,bi,⟨bk,rfl,rfl,rfl⟩,bl⟩;rw[aN];exact .arr _ _ 0 _ false _ _ Y (jd _ _ _) (au _) aX (λ_=>⟨J,J,J⟩)
  grind
end
end
section
section
variable {P:ai}{cx:Ctx}{base:Nat}{w:World}{μ:Mu}{h h':H}{G:Nat}{e:Env}{a:Act}{o:Oper}{hp hp':af Obj}{p:T}
def pZ(cx:Ctx)(base:Nat)(w:World)(μ:Mu)(f:Nat)(g:Result am)(i:T)(h':H):Prop:=
 ∃d b c,g= .ok d b/\eK b.heap c i d/\St cx base b.heap c h'/\oS w μ b c/\xJ μ c f h'.size
def pZ.pure{b:Result am}{d:T}{c:am}(g:St cx base w.heap μ h)(hr:b= .ok c w)(f:eK w.heap μ d c):pZ cx base w μ h.size b d h:=
 ⟨c,w,μ,hr,f,g,oS.refl _ _,xJ.refl _ _⟩
def ui(iU:iG P cx){f:ab}{g:Ty}(b:pS cx f=some g):∃c,P.underlying f=some (.slice c)/\cx.ty c=some g:=by
 have⟨k,i,b⟩:=dB.1 b;have⟨l,m,d⟩:=j3 (iU.ty _ _ i);cases j:k.u<;>rw[j]at b d<;>simp at b;have:=mc d;grind
def yt(b:List Nat):fG (λc=>some (T.int .u8 (.ofNat c))) b=some (b.map λc=>T.int .u8 (.ofNat c)):=by
 induction b with
 |nil=>rfl
 |cons f b d=>rw[jp,d];rfl
def qC(b:List Nat):eY (b.map λc=>T.int .u8 (.ofNat c))=b.map λc=>T.int .u8 (.ofNat c):=by
 induction b with
 |nil=>rfl
 |cons f b d=>rw[aP,lz,d];rfl
def Iy(iU:iG P cx)(S:St cx base w.heap μ h){E:ab}{m:T}{f:am}{j:List T}{i:Nat}(z:eK w.heap μ m f)(b:m7 cx h E m=some j)(q:fits i j=true):
 ∃s,R9 P w μ i E f j s:=by
 obtain⟨U,O,b⟩:=dB.1 b;obtain⟨V,n,r⟩:=j3 (iU.ty _ _ O);cases Q:U.u<;>rw[Q]at b r<;>simp at b
 ·have:=oX r;subst this;have K:∃d,m= .str d:=by cases m<;>first|exact⟨_,rfl⟩|(simp at b)
  obtain⟨d,rfl⟩:=K;have b:fG (λf=>some (T.int .u8 (.ofNat f))) d=some j:=b;rw[yt]at b;simp only[ar]at b;subst b;obtain⟨rfl,I⟩:=z.kz;cases d with
  |nil=>
   have A:bytesOf []=ByteArray.empty:=rfl;refine⟨[],⟨⟨.inr n,λY=>by rfl,?_,?_,J,J⟩,fX.nil,J,by simp[eY]⟩⟩
   ·simp[Builtin.firstCells,A]
   ·simp[Builtin.firstCells,A]
  |cons g d=>
   have N:i=1:=by
    have q:Nat.beq 1 i=true:=q;simp_all
   subst N;have x:=Src.ofString w n (bytesOf (g::d));have v:(bytesOf (g::d)).size=((g::d).map λf=>T.int .u8 (.ofNat f)).length:=by rw[jH];simp
   rw[v]at x;refine⟨_,x,?_,by intro F c;simp only[List.mem_map]at c;obtain⟨_,_,rfl⟩:=c;rfl,by rw[qC];intro F c;simp only[List.mem_map]at c;obtain⟨_,_,rfl⟩:=c;rfl⟩;rw[qC];refine⟨by rw[byteCells_length,v],λC F c=>?_⟩;rw[aQ]at c;cases k:(g::d)[C]? with
   |none=>rw[k]at c;grind
   |some t=>
    rw[k]at c;simp at c;subst c;have L:t<256:=I t (ax k);have:(byteCells (bytesOf (g::d)))[C]? =some (.int .u8 (t:Int)):=by
     simp only[byteCells,bytesOf,aQ,cZ,k,cJ,jo L]
    rw[List.getD,this];exact .int _ _
 ·rename_i W;have:=mc r;subst this;obtain⟨X,l⟩:=nJ (P:=P) S z b;have y:=Ka q l.HT;have R:AK P w μ f j i:=⟨y,l.scalar,l.form⟩;obtain⟨s,M,G⟩:=R.src n;exact⟨s,M,G,y,l.scalar⟩
def DC(g:oa p=true){b:am}(hp:eK w.heap μ p b):∃f d c,b= .slice f d c/\d<=c:=by
 cases hp<;>simp[oa]at g
 ·grind
 ·grind
 ·grind
 grind
def wW(iU:iG P cx)(i:St cx base w.heap μ h){I K ty':ab}{O j:T}{c A:am}(hp:eK w.heap μ p c)(bi:eK w.heap μ O A)(b:iN cx h I K p O=some (.val j h')):
 pZ cx base w μ h.size ((Builtin.append_ #[I,K] ty' #[c,A]).run P w) j h':=by
 replace b:=dB.1 b;obtain⟨f,bl,b⟩:=b;replace b:=dB.1 b;obtain⟨k,bn,b⟩:=b;replace b:=dJ.1 b;obtain⟨av,b⟩:=b;rw[iX]at b;have⟨bS,E,F⟩:=ui iU bl;have⟨bs,x⟩:=Iy (P:=P) iU i bi bn av;cases k with
 |nil=>
  have b:fQ (oa p) (some (p,h))=some (j,h'):=b;have⟨bk,b⟩:=dJ.1 b;simp only[ar,aB]at b;obtain⟨rfl,rfl⟩:=b;have a7:bs=[]:=aS (by have:=x.src.newsLen;grind);subst a7;obtain⟨ad,g,q,rfl,N⟩:=DC bk hp;exact pZ.pure i (MV (ty':=ty') iU E F x.src N) hp
 |cons n k=>
  have a8:n::k≠ []:=J;have b7:0<(n::k).length:=J;have L:∀{es:List T} {u:Nat},AK P w μ c es u->(∀ad g q,c= .slice ad g q->q=g)->h.ja f.size f.bytes es (n::k)=some (j,h')->pZ cx base w μ h.size ((Builtin.append_ #[I,K] ty' #[c,A]).run P w) j h':=by
   intro es u d al aX;have aE:fits f.size es=true:=by
    simp_all[H.ja,jz,gX,dS,pf,dJ]
   have v:AK P w μ c es f.size:=⟨Ka aE d.HT,d.scalar,d.form⟩;have⟨ad,cap,b9,G,N,_⟩:=v.form;have⟨ca,bu,bz⟩:=v.first;subst G;have:=al _ _ _ rfl;have⟨U,bB,bC,r1,r2,r3,r4,r5⟩:=AU iU i E F (ty':=ty') (ad:=ad) (cap:=cap) ⟨bu,bz,v.HT,v.scalar⟩ x B aX;exact⟨U,bB,bC,r1,r2,r3,r4,r5⟩
  have G:(∃es l,p= .Y es l)\/∃z s o g l,p= .arr z s o g l:=by
   cases p<;>first|(exact .inl ⟨_,_,rfl⟩)|(exact .inr ⟨_,_,_,_,_,rfl⟩)|(simp[H.append]at b)
  rcases G with⟨es,l,rfl⟩|⟨z,s,y,g,l,rfl⟩
  ·cases es with
   |nil=>
    have b:h.ja f.size f.bytes [] (n::k)=some (j,h'):=b;obtain⟨ad,rfl⟩:=hp.tv;have⟨u,d⟩:=nJ (P:=P) (es:=[]) i hp rfl
    grind
   |cons Q es=>
    have b:fQ l (h.ja f.size f.bytes (Q::es) (n::k))=some (j,h'):=b;have⟨aN,b⟩:=dJ.1 b;have⟨u,d⟩:=nJ (P:=P) (es:=Q::es) i hp rfl;refine L d ?_ b;intro ad g q t;have⟨_,_,_,_,_,_,_,C,_,_,_,aA,_⟩:=hp.tz;rw[C]at t;simp at t;have:=aA aN;omega
  ·cases l with
   |true=>
    have b:(M (h.jf (.arr z s y g true)) λes=>h.ja f.size f.bytes es (n::k))=some (j,h'):=b;have⟨es,m,b⟩:=dB.1 b;have⟨u,d⟩:=nJ (P:=P) i hp m;refine L d ?_ b;intro ad b8 q t;have⟨R,bH,bN,C,X,_,_,an⟩:=hp.rX;rw[C]at t;simp at t;have ap:s=R.ep:=by
     unfold H.jf at m;have⟨S,ae,m⟩:=dB.1 m;obtain⟨cb,W,ce,bT,d,V⟩:=S;have m:fQ (Nat.beq W s) (@Bool.rec (λ_=>aa (List T)) (M (jB y V) λr=>takeN g r) none d)=some es:=m;have b6:=aC (dJ.1 m).1;have:=(i.JF X ae).2
     grind
    have:=(an ap).1 rfl;omega
   |false=>
    cases y with
    |succ y=>grind [H.append,absurd]
    |zero=>exact CY iU i E F (ty':=ty') hp x a8 b
def Fq(iU:iG P cx)(R:St cx base w.heap μ h){S bn:ab}{f:T}{E:am}(hp:eK w.heap μ p E)(c:CV cx h S p=some (.val f h')):
 pZ cx base w μ h.size ((Builtin.clear_ #[S] bn #[E]).run P w) f h':=by
 replace c:=dB.1 c;obtain⟨s,cp,c⟩:=c;obtain⟨dv,al,b7⟩:=ui iU cp;have Q:∀{t:aa Addr} {F:Nat},E= .slice t 0 F->f= .undef->h'=h->pZ cx base w μ h.size ((Builtin.clear_ #[S] bn #[E]).run P w) f h':=by
  intro t F ae d b9;subst ae d b9;refine pZ.pure R ?_ .undef;cases t<;>simp[Builtin.clear_,run_underlying al]
 cases p<;>simp only[reduceCtorEq]at c
 ·rename_i j bH;cases j with
  |nil=>
   simp only[ar,kC.val.injEq]at c;obtain⟨t,rfl⟩:=hp.tv;exact Q rfl c.1.symm c.2.symm
  |cons x j=>simp at c
 ·simp only[ar,kC.val.injEq]at c;obtain⟨t,g,F,ae,L⟩:=DC (p:= .fK) rfl hp;cases hp;exact Q rfl c.1.symm c.2.symm
 ·rename_i b bB m g bH;obtain⟨i,t,F,rfl,X,ef,eh,b6⟩:=hp.rX;cases g with
  |zero=>
   have c:some (kC.val .undef h)=some (.val f h'):=c;simp only[ar,kC.val.injEq]at c;exact Q rfl c.1.symm c.2.symm
  |succ g=>
   replace c:=dB.1 c;obtain⟨bs,Y,c⟩:=c;obtain⟨sz,U,dm,bC,bl,q⟩:=bs;have c:(fQ (Nat.beq U bB)<|fQ (Nat.beq sz s.size) (@Bool.rec (λ_=>aa kC)
    (M (kc q m (oG s.jW (g+1))) λj=>M (fU (Nat.succ dm)) λdn=>
      M (h.put b ⟨sz,U,dn,bC,false,j⟩) λh'=>some (.val .undef h')) none bl))=some (.val f h'):=c
   replace c:=dJ.1 c;obtain⟨an,c⟩:=c;replace c:=dJ.1 c;obtain⟨aN,c⟩:=c;cases bl with
   |true=>simp at c
   |false=>
    replace c:=dB.1 c;obtain⟨j,r,c⟩:=c;simp only[gX,dS]at c;replace c:=dB.1 c;obtain⟨ea,cb,c⟩:=c;simp only[ar,kC.val.injEq]at c;obtain⟨rfl,rfl⟩:=c;have an:=aC an;have aN:=aC aN;obtain⟨n,V,bN⟩:=R.BD X Y rfl;simp only[]at V bN;obtain⟨_,_,I⟩:=b6 B;have I:=I B;subst I;obtain⟨v,dk,av,aE,G⟩:=n.row;have z:=n.size;simp only[]at z G;obtain⟨C,cL,eo,a7,c9,bi,A,er,et⟩:=(iU.ty _ _ b7).zero w;rw[oY]at r;obtain⟨L,r⟩:=nR r;rw[List.length_replicate]at L r;have K:=gD z;have c1:(eY (List.replicate (g+1) s.jW)).length=(g+1)*i.sz:=by
     rw[gD (sz:=i.sz) (by intro f d;rw[bK d,A,bi];omega),List.length_replicate]
    have ap:eY j=(eY q).take (m*i.sz)++eY (List.replicate (g+1) s.jW)++(eY q).drop (m*i.sz+(g+1)*i.sz):=by
     rw[r,mI,mI,qB z,<-bW,oO z]
    have aX:∀f∈j,f.cells.length=i.sz:=by
     intro f d;rw[r]at d;rcases List.mem_append.1 d with d|d
     ·rcases List.mem_append.1 d with d|d
      ·exact z f (br d)
      ·rw[bK d,A,bi];omega
     ·exact z f (bw d)
    have ce:∀f∈eY j,f.scalar=true:=by
     intro f d;rw[ap]at d;rcases List.mem_append.1 d with d|d
     ·rcases List.mem_append.1 d with d|d
      ·exact n.scalar f (br d)
      ·obtain⟨y,O,d⟩:=List.mem_flatMap.1 d;rw[bK O,A]at d;exact c9 f d
     ·exact n.scalar f (bw d)
    have N:j.length=q.length:=by rw[r];simp;omega
    have b8:(eY j).length=(eY q).length:=by rw[gD aX,K,N]
    have eb:(eY q).length<=v.size:=by
     rw[K,aE];exact aV _ n.room
    have ec:m*i.sz+(g+1)*i.sz<=(eY q).length:=by
     rw[K,<-bW];exact aV _ L
    have bk:C.cells.size=i.sz:=by have:=(a7 w.heap μ).1;simp only[cu]at this;omega
    have c7:∃l:List am,(Builtin.zeroCells C.cells (g+1)).toList=l/\l.length=(g+1)*i.sz/\fX w.heap μ (eY (List.replicate (g+1) s.jW)) l:=by
     have bT:fX w.heap μ (eY (List.replicate (g+1) s.jW)) (Builtin.zeroCells C.cells (g+1)).toList:=by
      by_cases W:C.cells.size=0
      ·have bu:eY (List.replicate (g+1) s.jW)=[]:=aS (by rw[c1,<-bk,W];simp);have bz:(Builtin.zeroCells C.cells (g+1)).toList=[]:=aS (by rw[cu,qD,W];simp);rw[bu,bz];exact fX.nil
      ·rw[Builtin.zeroCells,zk (g+1) B,qX,A];exact(a7 _ _).replicate (g+1)
     exact⟨_,rfl,by rw[cu,qD,bk],bT⟩
    obtain⟨l,c4,c6,a8⟩:=c7;have ca:∀u∈l,u.oneCell'=true:=a8.EI (by
     intro f d;obtain⟨y,O,d⟩:=List.mem_flatMap.1 d;rw[bK O,A]at d
     grind)
    have bS:fX w.heap μ (eY j) ((v.toList.take (m*i.sz)++l++v.toList.drop (m*i.sz+l.length)).toArray.toList.take (eY j).length):=by
     rw[b8,ap];rw[cZ,Am _ _ B B];rw[c6];exact((G.take _).append a8).append (G.drop _)
    obtain⟨ds,dd,de,di,eu⟩:=y9 R X Y rfl av (.inl V) cb (arr':=(v.toList.take (m*i.sz)++l++v.toList.drop (m*i.sz+l.length)).toArray)
     (by simp only[List.size_toArray,bh,List.length_take,List.length_drop,cu];rw[<-aE];omega) (by rw[N];exact n.room) (by intro k;have:=n.sw k;simp only at this;rw[N];omega) aX ce bS
    refine⟨.tuple #[],_,ds,?_,.undef,dd,de,di⟩;have aA:=run_storeCells_at (P:=P) i.iE (m*i.sz) dk l 0 v w av B ca;simp only[Nat.add_zero]at aA;simp[Builtin.clear_,run_underlying al,cL,c4,aA]
end
end
section
section
variable {P:ai}{cx:Ctx}{base:Nat}{w:World}{μ:Mu}{h h':H}{G:Nat}{e:Env}{a:Act}{o:Oper}{hp hp':af Obj}{p:T}
def St.grow(c:St cx base hp μ h)(l:hp.size<=hp'.size)(j:∀b,b<hp.size->hp'[b]? =hp[b]?):St cx base hp' μ h/\Ext hp μ hp' μ:=by
 have g:Ext hp μ hp' μ:=⟨l,λb i t=>⟨j b i,t⟩,λk f d=>⟨f,d,.inl rfl⟩,rfl,λb i _=>j b i⟩;refine⟨⟨c.wf,by have:=c.fit;omega,λk f d=>?_,c.inj,c.low,c.apart,λb hr=>bp (c.pY b hr) l,λn m s=>(c.yA n m s).ext g⟩,g⟩;have⟨u,q,r⟩:=c.box k f d;exact⟨u,q,r.ext g (j _ (c.lt d))⟩
theorem Fl(iU:iG P cx){E y:ab}{Q:ah}(x:St cx base w.heap μ h)(r:jY w.heap μ G e a.tmps)(aX:o.op= .convert E y Q){k:T}
 (C:∃I,cx.ty E=some I) (hp:fq cx G e Q=some p) (b:CS cx y p=some k) (av:h'=h):iO cx base w μ h.size ((execOp a.eval o).run P w) k h':=by
 subst av;obtain⟨b7,C⟩:=C;obtain⟨bN,ae,_⟩:=j3 (iU.ty _ _ C);replace b:=dB.1 b;obtain⟨I,bs,b⟩:=b;obtain⟨d,W,N⟩:=j3 (iU.ty _ _ bs);have bB:=fN x r hp;cases bu:I.u<;>rw[bu]at b N<;>simp only[reduceCtorEq]at b;rename_i q;have:=mc N;subst this;have an:∃c,p= .str c:=by cases p<;>first|exact⟨_,rfl⟩|(simp at b)
 obtain⟨c,rfl⟩:=an;have b:(M (cx.ty q) λF=>(match F.u with
  | .int l=>fQ (C7 l .u8) (@List.rec Nat (λ_=>aa T) (some .fK) (λ_ _ _=>M (fG (λg=>some (T.int .u8 (.ofNat g))) c) λz=>some (.Y z false)) c)
  |_=>none))=some k:=b
 replace b:=dB.1 b;obtain⟨F,bn,b⟩:=b;obtain⟨bH,X,O⟩:=j3 (iU.ty _ _ bn);cases bz:F.u<;>rw[bz]at b O<;>simp only[reduceCtorEq]at b;rename_i l;replace b:=dJ.1 b;obtain⟨s,b⟩:=b;rw[xq]at s;subst s;have:=xQ O;subst this;obtain⟨R,S⟩:=bB.kz
 let m:=(bytesOf c).size
 have A:∃n j,m<=n/\(execOp a.eval o).run P w= .ok (.value (.slice (some ⟨w.heap.size,0,none⟩) m n)) j/\j.heap.size=w.heap.size+1/\(∀t,t<w.heap.size->j.heap[t]? =w.heap[t]?)/\
  j.os=w.os/\j.tape=w.tape/\j.output=w.output/\∃fz,j.heap[w.heap.size]? =some (.cells ((bytesOf c).data.map (λi=>Value.int .u8 i.toNat)++Array.replicate (n-m) (.int .u8 0)) q fz):=by
  refine⟨grownCap w m 0 q,Lib.bytesWorld w q (bytesOf c),grownCap_ge w _ _ _,?_,Lib.bytesWorld_size _ _ _,λt aA=>Lib.bytesWorld_at_old _ _ _ t aA,rfl,rfl,rfl,_,Lib.bytesWorld_at_new _ _ _⟩;simp only[execOp,aX,Sem.run_bind,R,Lib.run_convert_string_bytes w E y q (bytesOf c) ae W X,Result.andThen_ok,Sem.run_pure];rfl
 obtain⟨n,j,bS,A,b6,bk,a7,a8,bi,fz,U⟩:=A;obtain⟨bC,al⟩:=x.grow (hp':=j.heap) B bk;have K:m=c.length:=jH c;refine⟨_,j,μ,.inl A,?_,bC,⟨al,a7,a8,bi⟩,xJ.refl _ _⟩;cases c with
 |nil=>
  have b:some T.fK=some k:=b;simp at b;subst b;rw[K];exact .fK _ _
 |cons i c=>
  have b:(M (fG (λg=>some (T.int .u8 (.ofNat g))) (i::c)) λz=>some (T.Y z false))=some k:=b;rw[yt]at b;simp only[dS,ar]at b;subst b;have aN:¬mR μ w.heap.size:=by
   rintro(⟨g,L,V,hl⟩|hr)
   ·have:=x.lt V;omega
   ·have:=x.pY _ hr;omega
  have aE:m=(c.map λg=>T.int .u8 (.ofNat g)).length+1:=by rw[K];simp
  rw[aE];refine .Y (T.int .u8 (.ofNat i)) (c.map λg=>T.int .u8 (.ofNat g)) false w.heap.size 0 n 1 _ q fz aN U B J ?_ ?_ ?_ ?_
  ·intro k b;rw[<-aP (f:=λg=>T.int .u8 (.ofNat g))]at b;obtain⟨g,_,rfl⟩:=List.mem_map.1 b;rfl
  ·rw[<-aP (f:=λg=>T.int .u8 (.ofNat g)),qC];simp[bytesOf]
  ·rw[<-aP (f:=λg=>T.int .u8 (.ofNat g)),qC];intro k b;obtain⟨g,_,rfl⟩:=List.mem_map.1 b;exact⟨rfl,.int _ _⟩
  ·rw[<-aP (f:=λg=>T.int .u8 (.ofNat g)),qC];intro l k b;rw[aQ]at b;cases s:(i::c)[l]? with
   |none=>rw[s]at b;grind
   |some v=>
    rw[s]at b;simp at b;subst b;have bl:v<256:=S v (ax s);have bT:l<(i::c).length:=by
     grind
    have ap:((bytesOf (i::c)).data.map (λi=>Value.int .u8 i.toNat)++Array.replicate (n-m) (.int .u8 0))[0+l]? =some (.int .u8 (v:Int)):=by
     rw[cB,Array.getElem?_append_left (by grind [bytesOf]),Array.getElem?_map];have:(bytesOf (i::c)).data[l]? =some (UInt8.ofNat v):=by
      grind [bytesOf]
     rw[this];simp[jo bl]
    rw[bQ,ap];exact .int _ _
def EX{x:ah}(v:St cx base w.heap μ h)(r:jY w.heap μ G e a.tmps)(X:o.op= .next x true){s:T}
 (b:vk x cx G e h=some (.val s h')):iO cx base w μ h.size ((execOp a.eval o).run P w) s h':=by
 unfold vk at b;replace b:=dB.1 b;obtain⟨p,hp,b⟩:=b;have bH:=fN v r hp;have bi:∃t,p= .iter t:=by cases p<;>first|exact⟨_,rfl⟩|(simp at b)
 obtain⟨t,rfl⟩:=bi;replace b:=dB.1 b;obtain⟨j,aA,b⟩:=b;replace b:=dJ.1 b;obtain⟨bn,b⟩:=b;obtain⟨n,b7,R,E,ap⟩:=bH.OH;obtain⟨y,K,C⟩:=v.box t n E;rw[aA]at K;simp at K;subst K;obtain⟨a8,bu⟩:=C.iter bn;rcases bu with⟨f,d,a7,U,S⟩|⟨b9,c1,c4,b6⟩|⟨c6,m,d,c9,b8,ae,al,ca,cb⟩;rotate_left;rotate_left
 ·exfalso;rw[ae]at b
  grind
 rotate_left
 ·exfalso;cases hE:j.eg with
  |nil=>rw[hE]at b;grind
  |cons z dd=>
   obtain⟨k,u,c7,rfl,_⟩:=b6 0 z (by grind);rw[hE]at b
   grind
 have an:n.ep=0:=by rw[<-C.ep];omega
 have av:=ap an;subst av;rw[a7]at b;have W:(getObj n.iE).run P w= .ok (.stringIter (bytesOf f) d) w:=by simp[getObj,Sem.run,S]
 have b:(@Bool.rec (λ_=>aa kC) (some (.val (.tuple [.bool false]) h)) (M (u6 f d) λO=>two O λc wd=>M (fU (Nat.add d wd)) λN=>M (fU (Nat.succ j.ver)) λQ=>
  M (h.put t ⟨j.sz,j.ep,Q,j.exact,true,[.str f,.int .i64 (.ofNat N)]⟩) λh'=>
   some (.val (.tuple [.bool true,.int .i64 (.ofNat d),.int .i32 (.ofNat c)]) h')) (Nat.blt d (kv f)))=some (.val s h'):=b
 rw[jz]at b;cases A:Nat.blt d f.length with
 |false=>
  rw[A]at b;have b:some (kC.val (.tuple [.bool false]) h)=some (.val s h'):=b;simp at b;obtain⟨rfl,rfl⟩:=b;have bl:¬d<f.length:=by rw[<-aF];grind
  refine iO.pure (c:= .tuple #[.bool false]) v ?_ (.tuple _ _ rfl λk s g=>?_)
  ·simp[execOp,X,Instr.next,R,W,jH,bl]
  ·cases k with
   |zero=>simp at g;subst g;exact .bool _
   |succ k=>grind
 |true=>
  rw[A]at b;have Y:d<f.length:=by rw[aF]at A;omega
  have b:(M (u6 f d) λO=>two O λc wd=>M (fU (Nat.add d wd)) λN=>M (fU (Nat.succ j.ver)) λQ=>
   M (h.put t ⟨j.sz,j.ep,Q,j.exact,true,[.str f,.int .i64 (.ofNat N)]⟩) λh'=>
    some (kC.val (.tuple [.bool true,.int .i64 (.ofNat d),.int .i32 (.ofNat c)]) h'))=some (.val s h'):=b
  replace b:=dB.1 b;obtain⟨⟨c,wd⟩,V,b⟩:=b;simp only[km,gX,dS]at b;replace b:=dB.1 b;obtain⟨al,bz,b⟩:=b;simp only[ar,kC.val.injEq]at b;obtain⟨rfl,rfl⟩:=b;unfold u6 at V;obtain⟨q,F,l⟩:=dB.1 V;rw[ky]at F;have aX:Utf8.decode (bytesOf f) d=(c,wd):=by
   cases I:Nat.blt q 128 with
   |false=>
    rw[I]at l;have A:q<256:=U q (ax F);have aE:Nat.blt q 256=true:=by rw[aF];omega
    rw[aE]at l;have l:some (Utf8.decode (bytesOf f) d)=some (c,wd):=l
    grind
   |true=>
    rw[I]at l;have l:some (q,1)=some (c,wd):=l;simp only[ar,aB]at l;obtain⟨rfl,rfl⟩:=l;rw[aF]at I;have aN:q<256:=B;have bk:(bytesOf f).get! d=UInt8.ofNat q:=by
     have bB:d<(bytesOf f).size:=by rw[jH];omega
     show(bytesOf f).data[d]! =_;rw[getElem!_pos (bytesOf f).data d bB];simp only[bytesOf,List.getElem_toArray,List.getElem_map];have:f[d]=q:=by rw[ay Y]at F;grind
     rw[this]
    unfold Utf8.decode;simp only[Nat.add_zero,bk,jo aN];rw[aq B]
  have bC:∀L:Obj,(setObj n.iE L).run P w= .ok () {w with heap:=w.heap.setIfInBounds n.iE L}:=by
   intro L;simp[setObj,Sem.run,S]
  have ce:=v.lt E;obtain⟨bN,bS,bT⟩:=v.change (L':=n) (hp':=w.heap.setIfInBounds n.iE (.stringIter (bytesOf f) (d+wd))) E bz J (by
   intro i cL bs;rw[dg (aW bs)]) (.inl rfl) (by
   intro cp;refine⟨C.ep,C.sz,λk=>by grind,λ_=>⟨a8,.inl ⟨f,d+wd,rfl,U,by grind⟩⟩⟩)
  refine⟨.tuple #[.bool true,.int .i64 d,.int .i32 c],{w with heap:=w.heap.setIfInBounds n.iE (.stringIter (bytesOf f) (d+wd))},_,.inl ?_,.tuple _ _ rfl λk s g=>?_,bN,⟨bS,rfl,rfl,rfl⟩,bT⟩
  ·simp[execOp,X,Instr.next,R,W,jH,Y,aX,bC,goInt]
  ·match k,g with
   |0,g=>simp at g;subst g;exact .bool _
   |1,g=>simp at g;subst g;exact .int _ _
   |2,g=>simp at g;subst g;exact .int _ _
   |k+3,g=>grind
def Jl(iU:iG P cx)(g:St cx base w.heap μ h){l:af ab}{y:ab}{k q:T}{m:am}(i:eK w.heap μ k m)(b:L9 cx h l.toList k=some (.val q h')):
 pZ cx base w μ h.size ((Builtin.len_ l y #[m]).run P w) q h':=by
 replace b:=dB.1 b;obtain⟨v,ht,b⟩:=b;replace b:=dB.1 b;obtain⟨x,s,b⟩:=b;obtain⟨A,f,j⟩:=j3 (iU.ty _ _ s);have ht:l[0]? =some v:=by rw[ky]at ht;grind
 cases t:x.u<;>rw[t]at b j<;>simp only[reduceCtorEq]at b
 ·have:=oX j;subst this;cases k<;>simp at b;obtain⟨c,rfl⟩:=fF.1 b;simp at c;subst c;obtain⟨d,_⟩:=i.kz;exact pZ.pure g (by simp[Builtin.len_,ht,run_underlying f,d,jH,goInt]) (.int _ _)
 ·have:=mc j;subst this;cases k<;>simp at b
  ·obtain⟨c,rfl⟩:=fF.1 b;simp at c;subst c;rename_i n C;cases n with
   |nil=>obtain⟨r,d⟩:=i.tv;exact pZ.pure g (by simp[Builtin.len_,ht,run_underlying f,d,goInt]) (.int _ _)
   |cons E n=>obtain⟨_,_,_,_,_,_,_,d,_⟩:=i.tz;exact pZ.pure g (by simp[Builtin.len_,ht,run_underlying f,d,goInt]) (.int _ _)
  ·obtain⟨c,rfl⟩:=fF.1 b;simp at c;subst c;obtain⟨r,z,d⟩:=i.zL;exact pZ.pure g (by simp[Builtin.len_,ht,run_underlying f,d,goInt]) (.int _ _)
  ·obtain⟨c,rfl⟩:=fF.1 b;simp at c;subst c;obtain⟨_,_,_,d,_⟩:=i.rX;exact pZ.pure g (by simp[Builtin.len_,ht,run_underlying f,d,goInt]) (.int _ _)
 ·have:=qq j;subst this;obtain⟨c,rfl⟩:=fF.1 b;simp at c;subst c;exact pZ.pure g (by simp[Builtin.len_,ht,run_underlying f,goInt]) (.int _ _)
theorem Dx(iU:iG P cx)(u:St cx base w.heap μ h)(r:jY w.heap μ G e a.tmps){c:Call}{K:Builtin}(aE:o.op= .call c)(av:c.callee= .builtin K){n:List T}(ap:py cx G e c.args.toList=some n){v:T}
 (b:kR K cx h c.argTypes.toList n=some (.val v h')):iO cx base w μ h.size ((execOp a.eval o).run P w) v h':=by
 have d:=u5 u r ap;have S:∀{m:Sem am},(execOp a.eval o).run P w=((m.run P w).andThen λv U=> .ok (Next.value v) U)->pZ cx base w μ h.size (m.run P w) v h'->iO cx base w μ h.size ((execOp a.eval o).run P w) v h':=by
  intro m hr aA;obtain⟨z,U,aN,X,Y,ae,al,an⟩:=aA;exact⟨z,U,aN,.inl (by rw[hr,X];rfl),Y,ae,al,an⟩
 have A:(execOp a.eval o).run P w=(builtin K c.argTypes o.type (c.args.map λ| .const _=>true|_=>false) (c.args.map a.eval)).run P w:=by
  simp[execOp,aE,resolve,av,invoke];rfl
 have y:(c.args.map a.eval).toList=c.args.toList.map a.eval:=J;cases K<;>simp only[kR,reduceCtorEq]at b
 case len=>
  match n,b,d with
  | [M],b,d=>
   obtain⟨g,t,f,l,k⟩:=d.mg;have j:t=[]:=aS (by have:=k.1;grind);subst j;have i:c.args.map a.eval= #[g]:=by apply ci;rw[y,f]
   refine S (m:=Builtin.len_ c.argTypes o.type #[g]) ?_ (Jl iU u l b);rw[A,i];simp[builtin]
 case append=>
  match n,b,d with
  | [M,W],b,d=>
   match Q:c.argTypes.toList,b with
   | [I,V],b=>
    obtain⟨g,t,f,l,k⟩:=d.mg;obtain⟨L,x,rfl,E,C⟩:=k.mg;have j:x=[]:=aS (by have:=C.1;grind);subst j;have i:c.args.map a.eval= #[g,L]:=by apply ci;rw[y,f]
    have O:c.argTypes= #[I,V]:=by apply ci;rw[Q]
    refine S (m:=Builtin.append_ #[I,V] o.type #[g,L]) ?_ (wW iU u l E b);rw[A,i,O];simp[builtin]
 case clear=>
  match n,b,d with
  | [M],b,d=>
   match Q:c.argTypes.toList,b with
   | [I],b=>
    obtain⟨g,t,f,l,k⟩:=d.mg;have j:t=[]:=aS (by have:=k.1;grind);subst j;have i:c.args.map a.eval= #[g]:=by apply ci;rw[y,f]
    have O:c.argTypes= #[I]:=by apply ci;rw[Q]
    refine S (m:=Builtin.clear_ #[I] o.type #[g]) ?_ (Fq iU u l b);rw[A,i,O];simp[builtin]
 case min=>
  match n,b,d with
  | [M,W],b,d=>
   obtain⟨R,rfl⟩:=fF.1 b;obtain⟨F,m,s,rfl,rfl,q⟩:=ug R;obtain⟨g,t,f,l,k⟩:=d.mg;obtain⟨L,x,rfl,E,C⟩:=k.mg;have j:x=[]:=aS (by have:=C.1;grind);subst j;rw[l.jI,E.jI]at f;have i:c.args.map a.eval= #[.int F m,.int F s]:=by apply ci;rw[y,f]
   rw[nV]at q;simp only[ar]at q;subst q;refine iO.pure u ?_ (.int _ _);rw[A,i];simp only[builtin,Builtin.min_,List.foldlM,Builtin.min2,Sem.run_bind,Sem.run_pure,Result.andThen_ok];have:=xm s m;by_cases N:s<m<;>simp[this,N,Builtin.min2]
 case max=>
  match n,b,d with
  | [M,W],b,d=>
   obtain⟨R,rfl⟩:=fF.1 b;obtain⟨F,m,s,rfl,rfl,q⟩:=ug R;obtain⟨g,t,f,l,k⟩:=d.mg;obtain⟨L,x,rfl,E,C⟩:=k.mg;have j:x=[]:=aS (by have:=C.1;grind);subst j;rw[l.jI,E.jI]at f;have i:c.args.map a.eval= #[.int F m,.int F s]:=by apply ci;rw[y,f]
   rw[nV]at q;simp only[ar]at q;subst q;refine iO.pure u ?_ (.int _ _);rw[A,i];have:=xm m s;by_cases N:m<s<;>simp[builtin,Builtin.max_,Builtin.max2,this,N]
