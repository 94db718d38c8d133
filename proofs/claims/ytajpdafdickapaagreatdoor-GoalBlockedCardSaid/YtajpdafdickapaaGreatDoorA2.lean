/- TiWrite3 -/
import Derived.Test.YtajpdafdickapaaGreatDoorA1
import Derived.Laws.Tables
import Derived.Great.BuildSlice
import Derived.Deep.AppendSrc
import Derived.Laws.AppendOwn
import Derived.Lib.ConvBytes
set_option linter.all false
set_option maxRecDepth 100000
set_option maxHeartbeats 8000000
namespace Go.TI
noncomputable section
section
section
variable {P:ai}{cx:Ctx}{base:Nat}{w:World}{μ:Mu}{h h':H}{mask:Nat}{e:Env}{a:Act}{o:Oper}{hp hp':af Obj}
def Bo:∀(c:List Field),(∀f∈c,∃b,P.info? f.type=some b/\b.size≠0)->∃j,c.mapM (λf=>(P.info? f.type).map λb=>(f.offset,b.size))=some j/\
 ∀(d:Nat) f b,c[d]? =some f->P.info? f.type=some b->j[d]? =some (f.offset,b.size)
 | [],_=>⟨[],rfl,λd f b k=>by grind⟩
 |f::c,i=>by
  have⟨b,q,_⟩:=i f dy;have⟨l,m,n⟩:=Bo c λg p=>i g (by grind);refine⟨(f.offset,b.size)::l,by simp_all,λd g s k r=>?_⟩
  grind
def zh(c:af (Nat×ah)):(c.map λ(d,f)=>(d,a.eval f)).toList=c.toList.map λb=>(b.1,a.eval b.2):=by
 simp
theorem GT(jq:jg P cx){t:ab}{D:af (Nat×ah)}(R:St cx base w.heap μ h)(r:kA w.heap μ mask e a.tmps)(ae:o.op= .build t D){l:T}
 (b:AS t D cx mask e h=some (.val l h')):jp cx base w μ h.size ((execOp a.eval o).run P w) l h':=by
 replace b:=dI.1 b;obtain⟨a7,aN,b⟩:=b;replace b:=dI.1 b;obtain⟨Q,ap,b⟩:=b;have K:=xN R r ap;obtain⟨bn,d,S,F,G,I,V,x,_⟩:=(jq.ty _ _ aN).unfold;obtain⟨M,N⟩:=gU.tq (hp:=w.heap) (μ:=μ) V;have fin:∀(i:af ao) (g:List T),P.built t (D.toList.map λO=>(O.1,a.eval O.2))=some i->gU w.heap μ g i.toList->(∀l∈g,l.scalar=true)->l= .agg g->h'=h->
  jp cx base w μ h.size ((execOp a.eval o).run P w) l h':=by
  rintro i g L W av rfl rfl;refine jp.pure R ?_ (fI.x7 W av);rw[<-zh]at L;simp only[execOp,ae,Sem.run_bind,run_build w t _ i L,Result.andThen_ok,Sem.run_pure]
 cases aX:a7.u<;>rw[aX]at b x<;>simp at b
 ·rename_i n a8;have:=rM x;subst this;replace b:=dI.1 b;obtain⟨bs,aA,b⟩:=b;replace b:=dI.1 b;obtain⟨g,y,b⟩:=b;obtain⟨m,rfl⟩:=fT.1 b;simp at m;subst m;obtain⟨s,_,_,p,_,_,_,_,_,_,v,_⟩:=(jq.ty _ _ aA).unfold;obtain⟨i,A,B,C,_⟩:=vz (place':=λk=>some (k*s.size,s.size)) (by intro k q c;rw[v];exact c) Q _ _ _ S.cells K M N y;exact fin i g (by simp only[Program.built,F,G,I,p];exact A) B C rfl rfl
 ·rename_i bi;obtain⟨E,rfl,Y,X⟩:=rY x;replace b:=dI.1 b;obtain⟨g,y,b⟩:=b;obtain⟨m,rfl⟩:=fT.1 b;simp at m;subst m;obtain⟨a6,al,an⟩:=Bo E.toList X;obtain⟨i,A,B,C,_⟩:=vz (place':=λk=>a6.toArray[k]?) (by
   intro k q c;obtain⟨f,j,c⟩:=dI.1 c;obtain⟨bu,aE,c⟩:=dI.1 c;simp at c;rw[Y]at j;rw[aS]at j;cases z:E.toList[k]? with
   |none=>rw[z]at j;grind
   |some U=>
    rw[z]at j;simp at j;obtain⟨s,_,_,p,_,_,_,_,_,_,v,_⟩:=(jq.ty _ _ aE).unfold;rw[<-j]at p;have:=an k U s z p;rw[<-j]at c;simp only[]at c;rw[<-c,<-v]
    grind) Q _ _ _ S.cells K M N y
  exact fin i g (by simp only[Program.built,F,G,I,al];exact A) B C rfl rfl
def IU{d:Nat}{b:List T}(g:∀f∈b,f.cells.length=d){c:Nat}(i:c<b.length)(f:T):fF (b.set c f)=(fF b).take (c*d)++f.cells++(fF b).drop (c*d+d):=by
 rw[rU g,<-bW,pU g,List.set_eq_take_append_cons_drop,ar i,nl,mg,cO]
def sH{c:T}(b:Nat):fF (List.replicate b c)=(List.replicate b c.cells).flatten:=by
 induction b with
 |zero=>rfl
 |succ b d=>rw[da,mg,d,da,List.flatten_cons]
def Aw{b:af ao}(c:Nat)(g:0<b.size):((Array.range (c*b.size)).map (b[· % b.size]!)).toList=(List.replicate c b.toList).flatten:=by
 induction c with
 |zero=>simp
 |succ c f=>
  have d:(Array.range ((c+1)*b.size)).toList=(Array.range (c*b.size)).toList++(List.range b.size).map (c*b.size+ ·):=by
   simp only[Array.toList_range];rw[bW,List.range_add]
  rw[Array.toList_map,d,List.map_append,<-Array.toList_map,f,List.replicate_succ',List.flatten_append];congr 1;simp only[List.flatten_cons,List.flatten_nil,bQ,cI];apply List.ext_getElem
  ·simp
  simp_all[Nat.mod_eq_of_lt]
theorem gU.replicate{d:List T}{c:List ao}(f:gU hp μ d c)(b:Nat):gU hp μ (List.replicate b d).flatten (List.replicate b c).flatten:=by
 induction b with
 |zero=>exact gU.nil
 |succ b g=>rw[da,da,List.flatten_cons,List.flatten_cons];exact f.append g
def Ed(b:Nat)(f:Nat)(c:T)(g:List (Nat×T))(d:List T):pW b ((f,c)::g) d=gJ (Nat.beq (kY c.cells) b) (dV (kO d f c) λi=>pW b g i):=rfl
def B6{b:Nat}(Y:0<b):∀(m:List (Nat×T)) (qs:List (Nat×ao)) (f g:List T) (cells:af ao),
 Oc hp μ m qs->(∀d∈f,d.cells.length=b)->gU hp μ (fF f) cells.toList->(∀d∈fF f,d.scalar=true)->pW b m f=some g->
 ∃q,Instr.fill (λi=>some (i*b,b)) cells qs=some q/\gU hp μ (fF g) q.toList/\(∀d∈fF g,d.scalar=true)/\(∀d∈g,d.cells.length=b)/\g.length=f.length:=by
 intro m;induction m with
 |nil=>
  intro qs f g cells hp p l y j;have:qs=[]:=bg hp.1.symm;subst this;have:g=f:=by grind [pW]
  subst this;exact⟨cells,rfl,l,y,p,rfl⟩
 |cons U m N=>
  intro qs f g cells B p l y j;obtain⟨c,V,rfl,hr,F,C⟩:=B.mt;obtain⟨i,d⟩:=U;rw[Ed]at j;obtain⟨hl,j⟩:=dQ.1 j;obtain⟨X,n,j⟩:=dI.1 j;have x:=aG hl;rw[jW]at x;rw[kQ]at n;split at n
  ·rename_i v;simp at n;subst n;obtain⟨r,W,_⟩:=hr.cells F;have s:=l.1;have t:=r.1;simp only[cC]at s t;have E:=iu p;have G:i*b+c.cells.size<=cells.size:=by
    rw[<-s,E,<-t,x,<-bW];exact aW _ v
   have K:=FZ (cells:=cells) (c:=c) G;have u:=IU p v d;have L:∀k∈f.set i d,k.cells.length=b:=by
    grind
   have A:gU hp μ (fF (f.set i d)) (c.cells.zipIdx.foldl (λz (k:ao×Nat)=>z.setIfInBounds (i*b+k.2) k.1) cells).toList:=by
    rw[K,u];have:c.cells.size=b:=J;rw[this];exact((l.take _).append r).append (l.drop _)
   have I:∀k∈fF (f.set i d),k.scalar=true:=by
    intro k M;rw[u]at M
    grind
   obtain⟨q,O,Q,R,S,ae⟩:=N V _ g _ C L A I j;refine⟨q,?_,Q,R,S,by grind⟩;simp only[Instr.fill];have D:¬(c.cells.size≠b||decide (i*b+c.cells.size>cells.size))=true:=by grind
   rw[aq D];exact O
  grind
theorem zx(jq:jg P cx){L:ab}{c:Nat}{z:af (Nat×ah)}(K:St cx base w.heap μ h)(r:kA w.heap μ mask e a.tmps)(E:o.op= .buildSlice L c z){g:T}
 (b:oN L c z cx mask e h=some (.val g h')):jp cx base w μ h.size ((execOp a.eval o).run P w) g h':=by
 replace b:=dI.1 b;obtain⟨bn,Y,b⟩:=b;obtain⟨d,C,G⟩:=kM (jq.ty _ _ Y);cases al:bn.u<;>rw[al]at b G<;>simp at b;rename_i B;have:=lV G;subst this;replace b:=dI.1 b;obtain⟨f,n,b⟩:=b;replace b:=dI.1 b;obtain⟨bi,V,b⟩:=b;replace b:=dQ.1 b;obtain⟨F,b⟩:=b;replace b:=dQ.1 b;obtain⟨l,b⟩:=b;replace b:=dI.1 b;obtain⟨es,D,b⟩:=b;rw[ju,H.ly]at b;simp only[au,aD]at b;obtain⟨rfl,rfl⟩:=b;have F:=bh F;have l:=bh l;have l:c*f.size<=65536:=l;rw[<-p9]at*
 have M:=xN K r V;obtain⟨A,ap,bC,aA,bS,bN,q,bH,aE⟩:=(jq.ty _ _ n).zero w;have O:∃i:af ao,(if c*f.size=0 then(pure #[]:Sem (af ao))else do pure (<-zeroValue B).cells).run P w= .ok (if c*f.size=0 then #[]else A.cells) w/\
  ((Array.range (c*f.size)).map ((if c*f.size=0 then #[]else A.cells)[· % (if c*f.size=0 then #[]else A.cells).size]!))=i/\gU w.heap μ (fF (List.replicate c f.ku)) i.toList:=by
  by_cases j:c*f.size=0
  ·have R:c=0:=by
    grind [Nat.mul_eq_zero]
   subst R;refine⟨_,dy,rfl,?_⟩;simp[fF,gU.nil]
  ·refine⟨_,by simp_all,rfl,?_⟩;rw[aq j,<-aE,Aw c J,sH,q];exact(aA _ _).replicate c
 obtain⟨i,bB,p,av⟩:=O;have ae:∀g∈List.replicate c f.ku,g.cells.length=f.size:=by
  intro g k;rw[bM k,q];omega
 have X:∀g∈fF (List.replicate c f.ku),g.scalar=true:=by
  intro g k;obtain⟨y,an,k⟩:=List.mem_flatMap.1 k;rw[bM an,q]at k
  grind
 rw[p9]at D;obtain⟨v,m,t,a8,I,bT⟩:=B6 J bi _ _ es i M ae av X D;have Q:es.length=c:=by grind
 have U:v.size=c*f.size:=by
  have:=t.1;rw[iu I,Q]at this
  grind
 obtain⟨bs,aN,aX,a6,a7⟩:=xq K B (arr:=v) (cap:=c) (sz:=f.size) (ex:=true) (es:=es) U J J I a8 (by
  rw[bJ]
  ·exact t
  ·have:=t.1;omega)
 refine⟨.slice (some ⟨w.heap.size,0,none⟩) c c,_,bs,.inl ?_,.arr _ 0 0 c false _ _ c a7 (aw _) (aw _) (λ_=>⟨dy,dy,dy⟩),aN,aX,a6⟩;have S:¬c*f.size>2^24:=J;have bu:Instr.fill (λs=>some (s*f.size,f.size)) i (z.map λ(s,x)=>(s,a.eval x)).toList=some v:=by rw[zh];exact m
 by_cases j:c*f.size=0
 ·have N:i= #[]:=by rw[<-p,j];simp
  rw[N]at m;have W:Array.map (λ_=>(default:ao)) (Array.range 0)= #[]:=dy;simp[execOp,E,Instr.buildSlice,run_underlying C,(jq.ty _ _ n).run_sizeOf,j,W,m,newRow]
 ·simp only[j,bw]at p;simp[execOp,E,Instr.buildSlice,run_underlying C,(jq.ty _ _ n).run_sizeOf,j,S,ap,p,m,newRow]
set_option maxRecDepth 20000 in
theorem AM(jq:jg P cx){S:ab}{U z:ah}(y:St cx base w.heap μ h)(R:kA w.heap μ mask e a.tmps)(G:o.op= .makeSlice S U z){i:T}
 (b:pR S U z cx mask e h=some (.val i h')):jp cx base w μ h.size ((execOp a.eval o).run P w) i h':=by
 replace b:=dI.1 b;obtain⟨a8,an,b⟩:=b;obtain⟨d,F,M⟩:=kM (jq.ty _ _ an);cases ap:a8.u<;>rw[ap]at b M<;>simp at b;rename_i D;have:=lV M;subst this;replace b:=dI.1 b;obtain⟨f,r,b⟩:=b;replace b:=dI.1 b;obtain⟨p,hp,b⟩:=b;replace b:=dI.1 b;obtain⟨q,ae,b⟩:=b;replace b:=dI.1 b;obtain⟨g,hl,b⟩:=b;replace b:=dI.1 b;obtain⟨c,V,b⟩:=b;replace b:=dQ.1 b;obtain⟨I,b⟩:=b;replace b:=dQ.1 b;obtain⟨E,b⟩:=b;replace b:=dQ.1 b;obtain⟨m,b⟩:=b;replace b:=dQ.1 b;obtain⟨n,b⟩:=b;rw[ju,H.ly]at b;simp only[au,aD]at b;obtain⟨rfl,rfl⟩:=b;have I:=bh I;have E:=bh E;have m:=bh m;have n:c*f.bytes<=70368744177664:=bh n;obtain⟨bS,rfl⟩:=nW hl;obtain⟨bT,rfl⟩:=nW V;have N:=(gY y R hp).jX;have t:=(gY y R ae).jX;obtain⟨A,av,bB,aA,bN,bH,x,bC,aE⟩:=(jq.ty _ _ r).zero w;obtain⟨b6,L,K,bs⟩:=(jq.ty _ _ r).run_typeInfo w;have bn:c<=70368744177664:=aT (Nat.le_mul_of_pos_right c J) n;have W:∃k:af ao,(if c*f.size=0 then(pure #[]:Sem (af ao))else do pure (<-zeroValue D).cells).run P w= .ok (if c*f.size=0 then #[]else A.cells) w/\
  ((Array.range (c*f.size)).map ((if c*f.size=0 then #[]else A.cells)[· % (if c*f.size=0 then #[]else A.cells).size]!))=k/\gU w.heap μ (fF (List.replicate c f.ku)) k.toList:=by
  by_cases j:c*f.size=0
  ·have X:c=0:=by
    grind [Nat.mul_eq_zero]
   subst X;refine⟨_,dy,rfl,?_⟩;simp[fF,gU.nil]
  ·refine⟨_,by simp_all,rfl,?_⟩;rw[aq j,<-aE,Aw c J,sH,x];exact(aA _ _).replicate c
 obtain⟨k,bu,v,O⟩:=W;have s:∀Q,∀i∈List.replicate Q f.ku,i.cells.length=f.size:=by
  intro Q i l;rw[bM l,x];omega
 have al:∀i∈fF (List.replicate g f.ku),i.scalar=true:=by
  intro i l;obtain⟨z,t,l⟩:=List.mem_flatMap.1 l;rw[bM t,x]at l
  grind
 have Y:k.size=c*f.size:=by
  have:=O.1;rw[iu (s c)]at this
  grind
 obtain⟨bi,aN,aX,a6,a7⟩:=xq y D (arr:=k) (cap:=c) (sz:=f.size) (ex:=Nat.beq g c) (es:=List.replicate g f.ku) Y (by grind) (by simp_all) (s g) al (by
  rw[iu (s g),List.length_replicate];have:=O.take (g*f.size);rw[rU (s c)]at this;rw[List.take_replicate,ci m]at this;omega)
 refine⟨.slice (some ⟨w.heap.size,0,none⟩) g c,_,bi,.inl ?_,.arr _ 0 0 g false _ _ c a7 (aw _) m (λ_=>⟨dy,dy,dy⟩),aN,aX,a6⟩;have B:IntKind.i64.wrap (Int.ofNat c)=(c:Int):=IntWalk.i64_in (c:Int) ⟨J,J⟩;have C:IntKind.i64.wrap (Int.ofNat g)=(g:Int):=IntWalk.i64_in (g:Int) ⟨J,J⟩;have t1:¬((f.bytes:Int)*(c:Int)>2^48):=by
  have:((c*f.bytes:Nat):Int)<=70368744177664:=Int.ofNat_le.2 n;rw[Int.mul_comm];omega
 have t2:(decide ((c:Int)<0)||decide ((f.bytes:Int)*(c:Int)>2^48)||decide ((g:Int)<0)||decide ((g:Int)>(c:Int)))=false:=by
  grind
 by_cases j:c*f.size=0
 ·simp only[j,bA]at v;simp only[execOp,G,Instr.makeSlice,Sem.run_bind,run_underlying F,Result.andThen_ok,N,t,asInt,asIntOf,Sem.run_pure,L,K,B,C,t2,cr,bw,run_askRoom,(jq.ty _ _ r).run_sizeOf,cj,j,bA,v,newRow,run_newObj]
 ·simp only[j,bw]at v;simp only[execOp,G,Instr.makeSlice,Sem.run_bind,run_underlying F,Result.andThen_ok,N,t,asInt,asIntOf,Sem.run_pure,L,K,B,C,t2,cr,bw,run_askRoom,(jq.ty _ _ r).run_sizeOf,cj,j,av,v,newRow,run_newObj]
theorem GM{f:ab}{i:ah}(d:St cx base w.heap μ h)(s:kA w.heap μ mask e a.tmps)(l:o.op= .range f i)(m:P.underlying f=some .string){g:T}
 (b:DR i cx mask e h=some (.val g h')):jp cx base w μ h.size ((execOp a.eval o).run P w) g h':=by
 replace b:=dI.1 b;obtain⟨r,hp,b⟩:=b;cases r<;>simp at b;rename_i c;rw[ju,H.ly]at b;simp only[au,aD]at b;obtain⟨rfl,rfl⟩:=b;obtain⟨k,j⟩:=(gY d s hp).lU;obtain⟨n,p,q⟩:=d.new (.stringIter (bytesOf c) 0) ⟨0,w.heap.size,0,1⟩ ⟨1,0,0,true,true,[.str c,.int .i64 0]⟩ rfl (by
  intro t;refine⟨rfl,rfl,λu=>by grind,λ_=>⟨rfl,.inl ⟨c,0,rfl,j,dy⟩⟩⟩)
 refine⟨.pointer (some ⟨w.heap.size,0,none⟩),{w with heap:=w.heap.push (.stringIter (bytesOf c) 0)},_,.inl ?_,.iter _ _ _ (jz _ _ _) (λ_=>rfl),n,⟨p,rfl,rfl,rfl⟩,q⟩;simp[execOp,l,Instr.range,run_underlying m,k]
end
end
section
section
variable {P:ai}{cx:Ctx}{base:Nat}{w:World}{μ:Mu}{h h':H}{mask:Nat}{e:Env}{a:Act}{o:Oper}{hp hp':af Obj}
def St.CX(l:St cx base hp μ h){d:Nat}{c:Loc}{b:iY}(i:μ d=some c)(j:h.get d=some b)(k:b.it=false):Am hp μ c b.exact b.fg/\b.ep=c.ep/\b.sz=c.sz:=by
 have⟨m,f,g⟩:=l.box d c i;rw[j]at f;simp at f;subst f;exact⟨g.plain k,g.ep,g.sz⟩
def Ao(p:St cx base w.heap μ h){f:Nat}{b:Loc}{k:iY}(n:μ f=some b)(u:h.get f=some k)(v:k.it=false){l arr':af ao}{i:ab}(B:w.heap[b.jc]? =some (.cells l i (0,0)))
 {ep' M:Nat} {m:Bool} {c:List T} (r:ep'=b.ep\/ep'=b.ep+1) (z:h.put f ⟨k.sz,ep',M,m,false,c⟩=some h') (E:arr'.size=b.cap*b.sz) (A:c.length<=b.cap) (s:m=true->b.cap=c.length)
 (F:∀j∈c,j.cells.length=b.sz) (D:∀j∈fF c,j.scalar=true) (q:gU w.heap μ (fF c) (arr'.toList.take (fF c).length)):
 ∃g,St cx base (w.setRow b.jc arr').heap g h'/\p7 w μ (w.setRow b.jc arr') g/\yJ μ g h.size h'.size/\g f=some ⟨ep',b.jc,b.cap,b.sz⟩:=by
 have⟨N,O,G⟩:=p.CX n u v;have y:∀d,d<w.heap.size->d≠b.jc->(w.setRow b.jc arr').heap[d]? =w.heap[d]? :=λd _ x=>setRow_other w b.jc d arr' x;have C:=setRow_heap w b.jc l arr' i (0,0) B;have⟨I,K,L⟩:=p.change (L':=⟨ep',b.jc,b.cap,b.sz⟩) n z dy y (by
  rcases r with rfl|rfl
  ·simp
  simp) (by
  intro t;refine⟨rfl,G,λ_=>⟨⟨arr',i,C,E,q.ext t⟩,A,s,F,D⟩,λQ=>by grind⟩)
 exact⟨_,I,⟨K,rfl,rfl,rfl⟩,L,jz _ _ _⟩
def A9{j:Type}(b d:List j){o c:Nat}(k:o+d.length<=c)(l:c<=b.length):(b.take o++d++b.drop (o+d.length)).take c=(b.take c).take o++d++(b.take c).drop (o+d.length):=by
 rw[List.take_append,List.take_append];have f:(b.take o).take c=(b.take c).take o:=by rw[List.take_take,List.take_take,Nat.min_comm]
 have g:(b.take o).length=o:=by grind
 have i:(b.take o++d).length=o+d.length:=by grind
 rw[f,g,i]
 grind [bJ,List.drop_take]
def OP{b c:T}{g:Nat}{f:List T}(q:∀r∈f,r.scalar=true)(d:mG b g f=some c):
 g+f.length<=b.cells.length/\c.cells=b.cells.take g++f++b.cells.drop (g+f.length):=by
 by_cases k:∃i,b= .agg i
 ·obtain⟨i,rfl⟩:=k;have⟨s,l,j⟩:=dI.1 d;simp at j;subst j;exact oR l
 ·have n:b.cells=[b]:=by cases b<;>first|rfl|grind
  have m:g=0/\f=[c]:=by
   unfold mG at d;cases b<;>first|(exact absurd ⟨_,rfl⟩ k)|(simp only[]at d;split at d<;>simp at d;subst d;exact⟨rfl,rfl⟩)
  obtain⟨rfl,rfl⟩:=m;have p:=q c dy;have:c.cells=[c]:=by cases c<;>simp[T.scalar]at p<;>rfl
  rw[n,this];simp
theorem GJ(jq:jg P cx){t:ab}{x n:ah}(E:St cx base w.heap μ h)(r:kA w.heap μ mask e a.tmps)(bS:o.op= .store t x n){k:T}
 (f:DP t x n cx mask e h=some (.val k h')):jp cx base w μ h.size ((execOp a.eval o).run P w) k h':=by
 replace f:=dI.1 f;obtain⟨c7,ca,f⟩:=f;replace f:=dI.1 f;obtain⟨p,hp,f⟩:=f;replace f:=dI.1 f;obtain⟨u,b6,f⟩:=f;replace f:=dQ.1 f;obtain⟨bC,f⟩:=f;replace f:=dI.1 f;obtain⟨R,b,f⟩:=f;simp at f;obtain⟨rfl,rfl⟩:=f;have cb:=gY E r hp;obtain⟨aA,qs,c4⟩:=(gY E r b6).cells bC;have bT:∃y F c i,p= .ptr y F c i:=by
  unfold H.store at b;cases p<;>first|(exact⟨_,_,_,_,rfl⟩)|(simp at b)
 obtain⟨y,F,c,i,rfl⟩:=bT;unfold H.store at b;replace b:=dQ.1 b;obtain⟨D,b⟩:=b;replace b:=dI.1 b;obtain⟨aX,U,b⟩:=b;obtain⟨aE,G,aN,O,av,d⟩:=aX;have b:gJ (Nat.beq G F) (@Bool.rec (λ_=>aa H) (dV (mI d c) λl=>dV (mG l i u.cells) λm=>dV (kO d c m) λz=>dV (ir (Nat.succ aN)) λN=>h.put y ⟨aE,G,N,O,false,z⟩) none av)=some R:=b;replace b:=dQ.1 b;obtain⟨X,b⟩:=b;cases av with
 |true=>simp at b
 |false=>
  have b:(dV (mI d c) λl=>dV (mG l i u.cells) λm=>dV (kO d c m) λz=>dV (ir (Nat.succ aN)) λN=>h.put y ⟨aE,G,N,O,false,z⟩)=some R:=b;replace b:=dI.1 b;obtain⟨l,A,b⟩:=b;replace b:=dI.1 b;obtain⟨m,bu,b⟩:=b;replace b:=dI.1 b;obtain⟨z,B,b⟩:=b;simp only[iO,ed]at b;rw[kP]at A;have X:=aG X;have D:=aG D;rw[jW]at D;rw[kQ]at B;split at B
  ·rename_i C;simp at B;subst B;obtain⟨g,dd,b7,S,_,a8⟩:=cb.qf;obtain⟨q,Q,a6⟩:=E.CX S U rfl;simp only[]at Q a6;have bi:=a8 J;subst bi;obtain⟨v,c6,ae,an,I⟩:=q.row;have s:=q.size;simp only[]at s I;have bN:l∈d:=ay A;obtain⟨bH,V⟩:=OP qs bu;have dk:=s l bN;have bs:d[c]=l:=by rw[az C]at A;simpa using A
   have K:=iu s;have Y:fF (d.set c m)=(fF d).take (c*g.sz+i)++u.cells++(fF d).drop (c*g.sz+i+u.cells.length):=by
    rw[IU s C,V];have W:(fF d).drop (c*g.sz)=l.cells++(fF d).drop (c*g.sz+g.sz):=by
     rw[<-bW,pU s,pU s,aI C,bs,mg]
    have ht:(fF d).take (c*g.sz+i)=(fF d).take (c*g.sz)++l.cells.take i:=by
     rw[List.take_add,W,cU J]
    have bn:(fF d).drop (c*g.sz+i+u.cells.length)=l.cells.drop (i+u.cells.length)++(fF d).drop (c*g.sz+g.sz):=by
     rw[cJ,<-cS,W,List.drop_append_of_le_length bH]
    rw[ht,bn];simp[cO]
   have di:c*g.sz+i+u.cells.length<=(fF d).length:=by
    rw[K];have:(c+1)*g.sz<=d.length*g.sz:=aW _ C;rw[bW]at this;omega
   have de:(fF d).length<=v.size:=by
    rw[K,an];exact aW _ q.room
   have L:=aA.1;have ap:∀k∈d.set c m,k.cells.length=g.sz:=by
    intro k j;rcases cm j with M|rfl
    ·exact s k M
    ·rw[V];simp;omega
   have b8:∀k∈fF (d.set c m),k.scalar=true:=by
    intro k j;rw[Y]at j;rcases List.mem_append.1 j with j|j
    ·rcases List.mem_append.1 j with j|j
     ·exact q.scalar k (bF j)
     grind
    ·exact q.scalar k (bG j)
   have bB:(fF (d.set c m)).length=(fF d).length:=by
    rw[iu ap,K];simp
   have a7:gU w.heap μ (fF (d.set c m)) ((v.toList.take (c*g.sz+i)++(a.eval n).cells.toList++v.toList.drop (c*g.sz+i+(a.eval n).cells.toList.length)).toArray.toList.take (fF (d.set c m)).length):=by
    rw[bB,Y];rw[db,A9 _ _ J J];rw[<-L];exact((I.take _).append aA).append (I.drop _)
   obtain⟨c9,cp,cL,c1,dm⟩:=Ao E S U rfl ae (.inl Q) b (arr':=(v.toList.take (c*g.sz+i)++(a.eval n).cells.toList++v.toList.drop (c*g.sz+i+(a.eval n).cells.toList.length)).toArray)
    (by simp only[List.size_toArray,bj,List.length_take,List.length_drop,cC]at L|-;rw[<-an];omega) (by simpa using q.room) (by intro M;have:=q.tZ M;grind) ap b8 a7
   refine⟨Go.undef,_,c9,.inr ⟨?_,rfl⟩,.undef,cp,cL,c1⟩;have al:=run_storeCells_at (P:=P) g.jc (c*g.sz+i) c6 (a.eval n).cells.toList 0 v w ae J c4;simp only[Nat.add_zero]at al;have b9:(a.eval n).cells.size=c7.size:=by rw[<-D,L];simp
   simp only[execOp,bS,Instr.storeAt,Sem.run_bind,b7,Instr.sureAddr,Sem.run_pure,Result.andThen_ok,storeVar,(jq.ty _ _ ca).run_sizeOf,b9,ne_eq,not_true,bw,al]
  grind
end
end
section
section
variable {P:ai}{cx:Ctx}{base:Nat}{w:World}{μ:Mu}{h h':H}{mask:Nat}{e:Env}{a:Act}{o:Oper}{hp hp':af Obj}
def LU{g:Nat}{c:List T}(d:fits g c=true){k:Nat}(i:∀b∈c,b.cells.length=k):∀b∈c,b.cells.length=g:=by
 cases c with
 |nil=>intro b f;simp at f
 |cons j c=>
  have d:Nat.beq (kY j.cells) g=true:=d;have:=aG d;rw[jW]at this;have l:=i j dy;intro b f;rw[i b f];omega
structure BD(P:ai)(w:World)(μ:Mu)(c:ao)(es:List T)(sz:Nat):Prop where
 JC:∀v∈es,v.cells.length=sz
 scalar:∀v∈fF es,v.scalar=true
 form:∃ad cap news,c= .slice ad es.length cap/\es.length<=cap/\gU w.heap μ (fF es) news/\(∀u∈news,u.oneCell'=true)/\
  ((ad=none/\es=[])\/∃x:Addr,ad=some x/\∀(j:Nat) u,news[j]? =some u->w.cell? (x.add j)=some u)
def gU.Gs{b:List T}{c:List ao}(d:gU hp μ b c)(l:∀v∈b,v.scalar=true):∀j∈c,j.oneCell'=true:=by
 intro j m;obtain⟨k,g,rfl⟩:=List.getElem_of_mem m;have i:k<b.length:=by rw[d.1];exact g
 have⟨n,f,hr⟩:=d.get (k:=k) (v:=b[k]) (by simp[i]);simp[g]at f;subst f;exact r6 hr (l _ (aF i))
def oM(s:St cx base w.heap μ h){E:T}{m:ao}{es:List T}(x:fI w.heap μ E m)(c:h.jw E=some es):∃A,BD P w μ m es A:=by
 unfold H.jw at c;cases E<;>simp at c
 ·
  rename_i X Y;subst c;cases X with
  |nil=>
   obtain⟨k,rfl⟩:=x.uA;refine⟨0,dy,by simp[fF],k,0,[],rfl,aw _,gU.nil,dy,?_⟩;cases k with
   |none=>exact .inl ⟨rfl,rfl⟩
   |some y=>exact .inr ⟨y,rfl,dy⟩
  |cons p es=>
   obtain⟨F,off,C,A,q,R,fz,rfl,b7,M,a6,bS,bu,bs,aA,hr⟩:=x.uB;have D:∀f∈fF (p::es),f.scalar=true:=λf g=>(aA f g).1;have t:tN w.heap μ F off (fF (p::es)):=⟨⟨q,R,fz,M,bs,hr⟩,D⟩;have r:gU w.heap μ (fF (p::es)) ((q.toList.drop off).take (fF (p::es)).length):=by
    refine⟨dz,λz f g=>?_⟩;have aX:z<(fF (p::es)).length:=by
     rcases aR z (fF (p::es)).length with y|y
     ·exact y
     ·rw[bK y]at g;simp at g
    have:=hr z f g;have bi:off+z<q.size:=J;simpa[List.getD,cu,aX,bP,bi]using this
   refine⟨A,bu,D,some ⟨F,off,none⟩,C,_,rfl,a6,r,r.Gs D,.inr ⟨_,rfl,λj u d=>?_⟩⟩;rw[kL];rw[cu]at d;split at d
   ·rw[bL]at d;simp only[World.cell?,M];simpa using d
   ·simp at d
 ·subst c;obtain⟨k,C,rfl⟩:=x.AJ;refine⟨0,dy,by simp[fF],k,C,[],rfl,ax _,gU.nil,dy,?_⟩;cases k with
  |none=>exact .inl ⟨rfl,rfl⟩
  |some y=>exact .inr ⟨y,rfl,dy⟩
 ·rename_i b V l i Y;replace c:=dI.1 c;obtain⟨S,av,c⟩:=c;obtain⟨A,W,b9,bH,Q,n⟩:=S;have c:gJ (Nat.beq W V) (@Bool.rec (λ_=>aa (List T)) (dV (j4 l n) λt=>takeN i t) none Q)=some es:=c;replace c:=dQ.1 c;obtain⟨L,c⟩:=c;cases Q with
  |true=>simp at c
  |false=>
   have c:(dV (j4 l n) λt=>takeN i t)=some es:=c;replace c:=dI.1 c;obtain⟨t,hr,c⟩:=c;rw[mh]at hr;split at hr
   ·rename_i b6;simp at hr;subst hr;rw[nY]at c;split at c
    ·rename_i a8;simp at c a8;subst c;obtain⟨B,k,G,rfl,ap,bN,aE,aN⟩:=x.tH;obtain⟨m,ae,al⟩:=s.CX ap av rfl;simp only[]at ae al;have L:=aG L;obtain⟨bB,bC,U⟩:=aN J;obtain⟨q,R,bn,b8,r⟩:=m.row;have v:=m.size;simp only[]at v r;have K:=Eb v l i;have N:((n.drop l).take i).length=i:=dz;have bT:=iu v;have I:gU w.heap μ (fF ((n.drop l).take i)) (((q.toList.take (fF n).length).drop (l*B.sz)).take (i*B.sz)):=by
      rw[K];exact(r.drop _).take _
     have O:∀f∈fF ((n.drop l).take i),f.scalar=true:=by
      intro f g;rw[K]at g;exact m.scalar f (bG (bF g))
     refine⟨B.sz,λf g=>v f (bG (bF g)),O,k,G,_,by rw[N],by rw[N];exact aE,I,I.Gs O,?_⟩;by_cases an:G=0
     ·have a7:i=0:=J;subst a7;cases k with
      |none=>exact .inl ⟨rfl,dy⟩
      |some y=>exact .inr ⟨y,rfl,dy⟩
     ·refine .inr ⟨_,U an,λj u d=>?_⟩;rw[kL];rw[cu]at d;split at d
      ·rw[bL,cu]at d;split at d
       ·simp only[World.cell?,bn];simpa using d
       ·simp at d
      ·simp at d
    ·simp at c
   ·simp at hr
def BD.src{f:ao}{c:List T}{d:Nat}(k:BD P w μ f c d){l m:ab}(j:P.underlying l=some (.slice m)):∃b,Src P d l f c.length b w/\gU w.heap μ (fF c) b:=by
 obtain⟨s,g,b,rfl,t,i,n,p⟩:=k.form;refine⟨b,?_,i⟩;have hl:b.length=c.length*d:=by rw[<-i.1,iu k.JC]
 rcases p with⟨rfl,rfl⟩|⟨r,rfl,q⟩
 ·have:b=[]:=bg (by simpa using hl);subst this;exact Src.ofNil w j g
 ·exact Src.ofSlice w j r c.length g b hl q n
def BD.first{f:ao}{c:List T}{d:Nat}(j:BD P w μ f c d):∃b,(Builtin.firstCells d c.length f).run P w.drew= .ok b.toArray w.drew/\gU w.heap μ (fF c) b:=by
 obtain⟨n,g,b,rfl,q,i,p,k⟩:=j.form;refine⟨b,?_,i⟩;have hl:b.length=c.length*d:=by rw[<-i.1,iu j.JC]
 rcases k with⟨rfl,rfl⟩|⟨m,rfl,l⟩
 ·have:b=[]:=bg (by simpa using hl);subst this;exact run_firstCells_none w.drew d 0 0 g
 ·exact run_firstCells_some w.drew d c.length m c.length g b hl (by simpa using l)
end
end
section
section
variable {P:ai}{cx:Ctx}{base:Nat}{w:World}{μ:Mu}{h h':H}{mask:Nat}{e:Env}{a:Act}{o:Oper}{hp hp':af Obj}
structure Uz(P:ai)(w:World)(μ:Mu)(sz:Nat)(tx:ab)(x:ao)(xs:List T)(news:List ao):Prop where
 src:Src P sz tx x xs.length news w
 rel:gU w.heap μ (fF xs) news
 JC:∀v∈xs,v.cells.length=sz
 scalar:∀v∈fF xs,v.scalar=true
structure Ux(P:ai)(w:World)(μ:Mu)(sz:Nat)(c:ao)(es:List T)(olds:List ao):Prop where
 first:(Builtin.firstCells sz es.length c).run P w.drew= .ok olds.toArray w.drew
 rel:gU w.heap μ (fF es) olds
 JC:∀v∈es,v.cells.length=sz
 scalar:∀v∈fF es,v.scalar=true
def rX(c:af ao)(b:Nat):(Builtin.zeroCells c b).size=b*c.size:=by simp[Builtin.zeroCells]
def vx{d f:List T}{c:T->Prop}(i:∀b∈fF d,c b)(j:∀b∈fF f,c b):∀b∈fF (d++f),c b:=by
 intro b g;rw[nl]at g
 grind
def DX{g f:List ao}{i:af ao}{b c d:Nat}(j:g.length+f.length=c*d)(k:i.size=d)(l:c<=b):
 ((g++f).toArray++Builtin.zeroCells i (b-c)).size=b*d:=by
 simp only[Array.size_append,List.size_toArray,bj,rX,j,k];rw[<-bX]
 grind
def HP(jq:jg P cx){n p ty' i:ab}{d:Ty}(A:P.underlying n=some (.slice i))(C:cx.ty i=some d){j:aa Addr}{g:Nat}{b c:List T}{m l:List ao}{q:ao}
 (G:Ux P w μ d.size (.slice j b.length g) b m) (F:Uz P w μ d.size p q c l) (t:g<b.length+c.length) (O:1<=d.bytes) (B:(b.length+c.length)*d.bytes<=70368744177664):
 ∃(f:ao) (k:Nat),b.length+c.length<=k/\f.cells.size=d.size/\(Builtin.append_ #[n,p] ty' #[.slice j b.length g,q]).run P w=
  .ok (.slice (some ⟨w.heap.size,0,none⟩) (b.length+c.length) k) {w with drawn:=w.drawn+1,heap:=w.heap.push (.cells ((m++l).toArray++Builtin.zeroCells f.cells (k-(b.length+c.length))) i)}:=by
 have⟨E,I,f,u,K,v,x,L,M,N,y,z,_⟩:=(jq.ty _ _ C).unfold;have D:f.cells.size=d.size:=by
  have:=(gU.tq (hp:= #[]) (μ:=⟨λ_=>none,λ_=>False⟩) x).1.1
  grind
 have Q:b.length+c.length<=70368744177664:=aT (Nat.le_mul_of_pos_right _ J) B;have r:=G.first;have s:=F.src;rw[<-y]at r s;have:=run_append_grow_src w n p ty' i E f A u v j b.length g m r q c.length l s t J (by rw[z];exact growslice_fits t J);exact⟨f,_,grownCap_ge w _ _ _,D,this⟩
def Cb(jq:jg P cx)(O:St cx base w.heap μ h){x y ty' n:ab}{d:Ty}(B:P.underlying x=some (.slice n))(F:cx.ty n=some d){ad:aa Addr}{cap:Nat}{es c:List T}{s r:List ao}{z:ao}
 (i:Ux P w μ d.size (.slice ad es.length cap) es s) (g:Uz P w μ d.size y z c r) (C:cap<es.length+c.length) {f:T} (b:h.jo d.size d.bytes es c=some (f,h')):
 ∃t m j,(Builtin.append_ #[x,y] ty' #[.slice ad es.length cap,z]).run P w= .ok t m/\fI m.heap j f t/\St cx base m.heap j h'/\p7 w μ m j/\yJ μ j h.size h'.size:=by
 unfold H.jo at b;simp only[rL,ed,iO,jW]at b;replace b:=dQ.1 b;obtain⟨p,b⟩:=b;replace b:=dQ.1 b;obtain⟨l,b⟩:=b;replace b:=dQ.1 b;obtain⟨_,b⟩:=b;replace b:=dQ.1 b;obtain⟨_,b⟩:=b;rw[H.ly]at b;simp only[au,aD]at b;obtain⟨rfl,rfl⟩:=b;have p:=bh p;have l:(es++c).length*d.bytes<=70368744177664:=bh l;rw[bj]at l;have⟨R,q,u,I,E⟩:=HP jq B F (ty':=ty') i g C p l;have v:∀f∈es++c,f.cells.length=d.size:=by
  intro f G;rcases List.mem_append.1 G with k|k
  ·exact i.JC f k
  ·exact g.JC f k
 have D:s.length+r.length=(es.length+c.length)*d.size:=by
  rw[<-i.rel.1,<-g.rel.1,iu i.JC,iu g.JC,bX]
 have A:gU w.heap μ (fF (es++c)) (((s++r).toArray++Builtin.zeroCells R.cells (q-(es.length+c.length))).toList.take (fF (es++c)).length):=by
  rw[iu v,bj,Array.toList_append,db,cU (by grind),bJ (by grind),nl];exact i.rel.append g.rel
 have Q:St cx base ({w with drawn:=w.drawn+1}:World).heap μ h:=O;have⟨j,K,L,M,N⟩:=xq Q n (cap:=q) (sz:=d.size) (ex:=false) (es:=es++c) (DX D I u) (by grind) dy v (vx i.scalar g.scalar) A;rw[bj];exact⟨_,_,j,E,.arr _ 0 0 _ false _ _ q N (aw _) u (λ_=>⟨dy,dy,dy⟩),K,⟨L.ext,rfl,rfl,rfl⟩,M⟩
def OT(jq:jg P cx){n q ty' l:ab}{c:Ty}(v:P.underlying n=some (.slice l))(z:cx.ty l=some c){d b j k:Nat}{g:List ao}{r:ao}
 (i:Src P c.size q r k g w) (x:b+k<=j) {f:af ao} {p:ab} (y:w.heap[d]? =some (.cells f p (0,0))) (L:b*c.size+g.length<=f.size):
 (Builtin.append_ #[n,q] ty' #[.slice (some ⟨d,0,none⟩) b j,r]).run P w= .ok (.slice (some ⟨d,0,none⟩) (b+k) j) (w.setRow d (f.toList.take (b*c.size)++g++f.toList.drop (b*c.size+g.length)).toArray):=by
 have⟨M,A,N,s,C,D,E,F,G,I,t,K,_⟩:=(jq.ty _ _ z).unfold;have m:=run_storeCells_at (P:=P) d (b*c.size) p g 0 f w y J i.one;simp only[Nat.add_zero]at m;have u:(⟨d,0,none⟩:Addr).add (b*c.size)=⟨d,b*c.size,none⟩:=by rw[kL];simp
 rcases i.kind with⟨B,hk⟩|hk<;>simp[Builtin.append_,run_underlying v,run_underlying hk,sizeOf,typeInfo,s,t,i.len,x,i.cells,u,m]
def OU(jq:jg P cx){i k ty' g:ab}{j:Ty}(p:P.underlying i=some (.slice g))(r:cx.ty g=some j){b:aa Addr}{f c:Nat}{l:ao}(d:Src P j.size k l 0 [] w)(q:f<=c):
 (Builtin.append_ #[i,k] ty' #[.slice b f c,l]).run P w= .ok (.slice b f c) w:=by
 have⟨C,s,D,m,u,v,x,y,z,A,n,B,_⟩:=(jq.ty _ _ r).unfold;rcases d.kind with⟨t,hk⟩|hk<;>cases b<;>simp[Builtin.append_,run_underlying p,run_underlying hk,sizeOf,typeInfo,m,n,d.len,q,d.cells,storeCells]
def EB(jq:jg P cx)(s:St cx base w.heap μ h){t c1 ty' M:ab}{d:Ty}(bN:P.underlying t=some (.slice M))(cp:cx.ty M=some d){D Y b:Nat}{f:List T}{m:List ao}{E x:ao}
 (er:fI w.heap μ (.arr D Y 0 b false) E) (v:Uz P w μ d.size c1 x f m) (eh:f≠ []) {l:T} (c:h.mN d.size d.bytes D Y b f=some (l,h')):
 ∃bi W I,(Builtin.append_ #[t,c1] ty' #[E,x]).run P w= .ok bi W/\fI W.heap I l bi/\St cx base W.heap I h'/\p7 w μ W I/\yJ μ I h.size h'.size:=by
 unfold H.mN at c;replace c:=dI.1 c;obtain⟨c6,bH,c⟩:=c;obtain⟨a8,ep',c4,eB,cL,g⟩:=c6;have c:(dV (takeN b g) λK=>dV (Fb K f) λbu=>dV (ir (kY bu)) λn=>gJ (Nat.ble 1 d.bytes)<|gJ (Nat.beq ep' Y) (gJ (Nat.beq a8 d.size) (gJ (Nat.ble (Nat.mul n d.bytes) 70368744177664) (gJ (fits d.size f) (@Bool.rec (λ_=>aa (T×H))
  (dV (ir (Nat.succ ep')) λbs=>dV (ir (Nat.succ c4)) λeA=>dV (h.put D ⟨a8,bs,eA,false,false,bu⟩) λh'=>some (.arr D bs 0 n false,h')) none cL)))))=some (l,h'):=c
 replace c:=dI.1 c;obtain⟨K,O,c⟩:=c;simp only[rL,ed,iO,jW]at c;replace c:=dQ.1 c;obtain⟨an,c⟩:=c;replace c:=dQ.1 c;obtain⟨bS,c⟩:=c;replace c:=dQ.1 c;obtain⟨cb,c⟩:=c;replace c:=dQ.1 c;obtain⟨S,c⟩:=c;replace c:=dQ.1 c;obtain⟨_,c⟩:=c;cases cL with
 |true=>simp at c
 |false=>
  have c:(dV (h.put D ⟨a8,ep'+1,c4+1,false,false,K++f⟩) λh'=>some (T.arr D (ep'+1) 0 (K++f).length false,h'))=some (l,h'):=c;replace c:=dI.1 c;obtain⟨eC,b6,c⟩:=c;simp only[au,aD]at c;obtain⟨rfl,rfl⟩:=c;have an:=bh an;have bS:=aG bS;have cb:=aG cb;have S:(K++f).length*d.bytes<=70368744177664:=bh S;rw[bj]at S;rw[nY]at O;split at O
  ·rename_i eb;simp at O;subst O;obtain⟨A,X,r,rfl,al,eE,eD,dn⟩:=er.tH;obtain⟨E,c9,dd⟩:=s.CX al bH rfl;simp only[]at c9 dd;obtain⟨_,c7,bn⟩:=dn J;have dk:r=A.cap:=by have:=c7 rfl;omega
   obtain⟨q,eI,aE,ca,bB⟩:=E.row;have L:=E.size;simp only[]at L bB;have C:A.sz=d.size:=J;have p:(g.take b).length=b:=dz;have aN:∀l∈g.take b,l.cells.length=d.size:=λl F=>by rw[<-C];exact L l (bF F)
   have b8:∀l∈fF (g.take b),l.scalar=true:=by
    intro l F;rw[<-rU L]at F;exact E.scalar l (bF F)
   have U:∀l∈g.take b++f,l.cells.length=A.sz:=by
    intro l F;rw[C];rcases List.mem_append.1 F with k|k
    ·exact aN l k
    ·exact v.JC l k
   have b9:=vx b8 v.scalar;have dv:=iu L;have bT:m.length=f.length*d.size:=by rw[<-v.rel.1,iu v.JC]
   have N:gU w.heap μ (fF (g.take b)) (q.toList.take (b*A.sz)):=by
    have:=bB.take (b*A.sz);rw[rU L,List.take_take,ci (by rw[dv];exact aW _ eb)]at this;exact this
   have eH:0<f.length:=List.length_pos_iff.2 eh;by_cases b7:b+f.length<=r
   ·
    have dm:r≠0:=J;have bC:=bn dm;simp only[Nat.zero_mul]at bC;subst bC;have di:b*d.size+m.length<=q.size:=by
     rw[ca,bT,C,<-bX];exact aW _ J
    have R:=OT (ty':=ty') jq bN cp v.src b7 aE di;have ap:(fF (g.take b++f)).length=b*d.size+m.length:=by
     rw[iu U,bj,p,bT,C,bX]
    have ae:gU w.heap μ (fF (g.take b++f)) ((q.toList.take (b*d.size)++m++q.toList.drop (b*d.size+m.length)).toArray.toList.take (fF (g.take b++f)).length):=by
     have ht:(q.toList.take (b*d.size)++m).take (b*d.size+m.length)=q.toList.take (b*d.size)++m:=bJ dz;rw[ap,db,cU dz,ht,nl];rw[C]at N;exact N.append v.rel
    obtain⟨I,aX,a6,a7,eu⟩:=Ao s al bH rfl aE (ep':=ep'+1) (.inr J) b6 (arr':=(q.toList.take (b*d.size)++m++q.toList.drop (b*d.size+m.length)).toArray)
     (by simp only[List.size_toArray,bj,List.length_take,List.length_drop,cC];rw[<-ca];omega) (by simp[p];omega) dy U b9 ae
    refine⟨_,_,I,R,?_,aX,a6,a7⟩;have av:(g.take b++f).length=b+f.length:=by rw[bj,p]
    rw[av];exact .arr _ _ 0 _ false _ _ r eu (aw _) b7 (λ_=>⟨dy,by simp[dk],dy⟩)
   ·
    have G:∃B,Ux P w μ d.size (.slice X b r) (g.take b) B:=by
     refine⟨q.toList.take (b*A.sz),?_,N,aN,b8⟩;rw[p];have ef:(q.toList.take (b*A.sz)).length=b*d.size:=by rw[<-N.1,iu aN,p]
     by_cases de:r=0
     ·have ea:b=0:=J;subst ea;simp only[Nat.zero_mul,List.take_zero];cases X with
      |none=>exact run_firstCells_none w.drew d.size 0 0 r
      |some y=>exact run_firstCells_some w.drew d.size 0 y 0 r [] dy dy
     ·rw[bn de];refine run_firstCells_some w.drew d.size b _ b r _ ef (λj u Q=>?_);rw[kL];rw[cu]at Q;split at Q
      ·show World.cell? w _=_;simp only[World.cell?,aE];simpa using Q
      ·simp at Q
    obtain⟨B,G⟩:=G;have eo:((g.take b).length+f.length)*d.bytes<=70368744177664:=by rw[<-p]at*;exact S
    have ey:Ux P w μ d.size (.slice X (g.take b).length r) (g.take b) B:=by rw[p];exact G
    obtain⟨z,V,aA,et,R⟩:=HP jq bN cp (ty':=ty') ey v (by rw[p];omega) an eo;rw[p]at R aA;have ec:B.length+m.length=(b+f.length)*d.size:=by
     rw[<-G.rel.1,<-v.rel.1,iu G.JC,iu v.JC,p,bX]
    have ap:(fF (g.take b++f)).length=(b+f.length)*d.size:=by
     rw[iu U,bj,p,C]
    have ae:gU w.heap μ (fF (g.take b++f)) (((B++m).toArray++Builtin.zeroCells z.cells (V-(b+f.length))).toList.take (fF (g.take b++f)).length):=by
     have ht:(B++m).take ((b+f.length)*d.size)=B++m:=bJ dz;rw[ap,Array.toList_append,db,cU dz,ht,nl];exact G.rel.append v.rel
    have av:(g.take b++f).length=b+f.length:=by rw[bj,p]
    obtain⟨aX,a6,a7⟩:=s.change (L':=⟨ep'+1,w.heap.size,V,A.sz⟩) (hp':=w.heap.push (.cells ((B++m).toArray++Builtin.zeroCells z.cells (V-(b+f.length))) M)) al b6 dy
     (by intro i eF _;rw[Array.getElem?_push];grind) (.inr ⟨by grind,.inr (aw _)⟩) (by
     intro ds;refine⟨rfl,J,λ_=>⟨⟨_,M,dy,?_,ae.ext ds⟩,by grind,dy,U,b9⟩,λk=>by grind⟩;rw[DX ec et aA,C])
    refine⟨_,_,_,R,?_,aX,⟨a6,rfl,rfl,rfl⟩,a7⟩;rw[av];exact .arr _ _ 0 _ false _ _ V (jz _ _ _) (aw _) aA (λ_=>⟨dy,dy,dy⟩)
  grind
end
end
section
section
variable {P:ai}{cx:Ctx}{base:Nat}{w:World}{μ:Mu}{h h':H}{mask:Nat}{e:Env}{a:Act}{o:Oper}{hp hp':af Obj}{p:T}
def rx(cx:Ctx)(base:Nat)(w:World)(μ:Mu)(f:Nat)(g:Result ao)(i:T)(h':H):Prop:=
 ∃d b c,g= .ok d b/\fI b.heap c i d/\St cx base b.heap c h'/\p7 w μ b c/\yJ μ c f h'.size
def rx.pure{b:Result ao}{d:T}{c:ao}(g:St cx base w.heap μ h)(hr:b= .ok c w)(f:fI w.heap μ d c):rx cx base w μ h.size b d h:=
 ⟨c,w,μ,hr,f,g,p7.refl _ _,yJ.refl _ _⟩
def u7(jq:jg P cx){f:ab}{g:Ty}(b:pX cx f=some g):∃c,P.underlying f=some (.slice c)/\cx.ty c=some g:=by
 have⟨k,i,b⟩:=dI.1 b;have⟨l,m,d⟩:=kM (jq.ty _ _ i);cases j:k.u<;>rw[j]at b d<;>simp at b;have:=lV d;grind
def zq(b:List Nat):fQ (λc=>some (T.int .u8 (.ofNat c))) b=some (b.map λc=>T.int .u8 (.ofNat c)):=by
 induction b with
 |nil=>rfl
 |cons f b d=>rw[jK,d];rfl
def rV(b:List Nat):fF (b.map λc=>T.int .u8 (.ofNat c))=b.map λc=>T.int .u8 (.ofNat c):=by
 induction b with
 |nil=>rfl
 |cons f b d=>rw[aP,mg,d];rfl
def Kl(jq:jg P cx)(Q:St cx base w.heap μ h){C:ab}{m:T}{f:ao}{j:List T}{i:Nat}(z:fI w.heap μ m f)(b:nc cx h C m=some j)(q:fits i j=true):
 ∃s,Uz P w μ i C f j s:=by
 obtain⟨R,M,b⟩:=dI.1 b;obtain⟨S,n,r⟩:=kM (jq.ty _ _ M);cases N:R.u<;>rw[N]at b r<;>simp at b
 ·have:=sW r;subst this;have G:∃d,m= .str d:=by cases m<;>first|exact⟨_,rfl⟩|(simp at b)
  obtain⟨d,rfl⟩:=G;have b:fQ (λf=>some (T.int .u8 (.ofNat f))) d=some j:=b;rw[zq]at b;simp only[au]at b;subst b;obtain⟨rfl,F⟩:=z.lU;cases d with
  |nil=>
   have A:bytesOf []=ByteArray.empty:=rfl;refine⟨[],⟨⟨.inr n,λW=>by rfl,?_,?_,dy,dy⟩,gU.nil,dy,by simp[fF]⟩⟩
   ·simp[Builtin.firstCells,A]
   ·simp[Builtin.firstCells,A]
  |cons g d=>
   have L:i=1:=by
    have q:Nat.beq 1 i=true:=q;simp_all
   subst L;have x:=Src.ofString w n (bytesOf (g::d));have v:(bytesOf (g::d)).size=((g::d).map λf=>T.int .u8 (.ofNat f)).length:=by rw[jV];simp
   rw[v]at x;refine⟨_,x,?_,by intro D c;simp only[List.mem_map]at c;obtain⟨_,_,rfl⟩:=c;rfl,by rw[rV];intro D c;simp only[List.mem_map]at c;obtain⟨_,_,rfl⟩:=c;rfl⟩;rw[rV];refine⟨by rw[byteCells_length,v],λB D c=>?_⟩;rw[aS]at c;cases k:(g::d)[B]? with
   |none=>rw[k]at c;grind
   |some t=>
    rw[k]at c;simp at c;subst c;have I:t<256:=F t (ay k);have:(byteCells (bytesOf (g::d)))[B]? =some (.int .u8 (t:Int)):=by
     simp only[byteCells,bytesOf,aS,db,k,cT,jJ I]
    rw[List.getD,this];exact .int _ _
 ·rename_i U;have:=lV r;subst this;obtain⟨V,l⟩:=oM (P:=P) Q z b;have y:=LU q l.JC;have O:BD P w μ f j i:=⟨y,l.scalar,l.form⟩;obtain⟨s,K,E⟩:=O.src n;exact⟨s,K,E,y,l.scalar⟩
def Fi(g:o9 p=true){b:ao}(hp:fI w.heap μ p b):∃f d c,b= .slice f d c/\d<=c:=by
 cases hp<;>simp[o9]at g
 ·grind
 ·grind
 ·grind
 grind
def x6(jq:jg P cx)(i:St cx base w.heap μ h){F G ty':ab}{L j:T}{c A:ao}(hp:fI w.heap μ p c)(aN:fI w.heap μ L A)(b:iU cx h F G p L=some (.val j h')):
 rx cx base w μ h.size ((Builtin.append_ #[F,G] ty' #[c,A]).run P w) j h':=by
 replace b:=dI.1 b;obtain⟨f,a6,b⟩:=b;replace b:=dI.1 b;obtain⟨k,a7,b⟩:=b;replace b:=dQ.1 b;obtain⟨ae,b⟩:=b;rw[ju]at b;have⟨bH,C,D⟩:=u7 jq a6;have⟨a8,x⟩:=Kl (P:=P) jq i aN a7 ae;cases k with
 |nil=>
  have b:gJ (o9 p) (some (p,h))=some (j,h'):=b;have⟨aX,b⟩:=dQ.1 b;simp only[au,aD]at b;obtain⟨rfl,rfl⟩:=b;have aA:a8=[]:=bg (by have:=x.src.newsLen;grind);subst aA;obtain⟨ad,g,q,rfl,K⟩:=Fi aX hp;exact rx.pure i (OU (ty':=ty') jq C D x.src K) hp
 |cons n k=>
  have aE:n::k≠ []:=dy;have bT:0<(n::k).length:=dy;have I:∀{es:List T} {u:Nat},BD P w μ c es u->(∀ad g q,c= .slice ad g q->q=g)->h.jo f.size f.bytes es (n::k)=some (j,h')->rx cx base w μ h.size ((Builtin.append_ #[F,G] ty' #[c,A]).run P w) j h':=by
   intro es u d W av;have an:fits f.size es=true:=by
    simp_all[H.jo,jW,iO,ed,rL,dQ]
   have v:BD P w μ c es f.size:=⟨LU an d.JC,d.scalar,d.form⟩;have⟨ad,cap,b7,E,K,_⟩:=v.form;have⟨b8,bi,bn⟩:=v.first;subst E;have:=W _ _ _ rfl;have⟨Q,bs,bu,r1,r2,r3,r4,r5⟩:=Cb jq i C D (ty':=ty') (ad:=ad) (cap:=cap) ⟨bi,bn,v.JC,v.scalar⟩ x J av;exact⟨Q,bs,bu,r1,r2,r3,r4,r5⟩
  have E:(∃es l,p= .dK es l)\/∃z s o g l,p= .arr z s o g l:=by
   cases p<;>first|(exact .inl ⟨_,_,rfl⟩)|(exact .inr ⟨_,_,_,_,_,rfl⟩)|(simp[H.append]at b)
  rcases E with⟨es,l,rfl⟩|⟨z,s,y,g,l,rfl⟩
  ·cases es with
   |nil=>
    have b:h.jo f.size f.bytes [] (n::k)=some (j,h'):=b;obtain⟨ad,rfl⟩:=hp.uA;have⟨u,d⟩:=oM (P:=P) (es:=[]) i hp rfl
    grind
   |cons M es=>
    have b:gJ l (h.jo f.size f.bytes (M::es) (n::k))=some (j,h'):=b;have⟨ap,b⟩:=dQ.1 b;have⟨u,d⟩:=oM (P:=P) (es:=M::es) i hp rfl;refine I d ?_ b;intro ad g q t;have⟨_,_,_,_,_,_,_,B,_,_,_,al,_⟩:=hp.uB;rw[B]at t;simp at t;have:=al ap;omega
  ·cases l with
   |true=>
    have b:(dV (h.jw (.arr z s y g true)) λes=>h.jo f.size f.bytes es (n::k))=some (j,h'):=b;have⟨es,m,b⟩:=dI.1 b;have⟨u,d⟩:=oM (P:=P) i hp m;refine I d ?_ b;intro ad b6 q t;have⟨N,bB,bC,B,U,_,_,X⟩:=hp.tH;rw[B]at t;simp at t;have Y:s=N.ep:=by
     unfold H.jw at m;have⟨O,V,m⟩:=dI.1 m;obtain⟨b9,S,ca,bN,d,R⟩:=O;have m:gJ (Nat.beq S s) (@Bool.rec (λ_=>aa (List T)) (dV (j4 y R) λr=>takeN g r) none d)=some es:=m;have bS:=aG (dQ.1 m).1;have:=(i.Lo U V).2
     grind
    have:=(X Y).1 rfl;omega
   |false=>
    cases y with
    |succ y=>grind [H.append,absurd]
    |zero=>exact EB jq i C D (ty':=ty') hp x aE b
def Ho(jq:jg P cx)(N:St cx base w.heap μ h){O a8:ab}{f:T}{C:ao}(hp:fI w.heap μ p C)(c:Ey cx h O p=some (.val f h')):
 rx cx base w μ h.size ((Builtin.clear_ #[O] a8 #[C]).run P w) f h':=by
 replace c:=dI.1 c;obtain⟨s,cp,c⟩:=c;obtain⟨dv,X,b6⟩:=u7 jq cp;have M:∀{t:aa Addr} {D:Nat},C= .slice t 0 D->f= .undef->h'=h->rx cx base w μ h.size ((Builtin.clear_ #[O] a8 #[C]).run P w) f h':=by
  intro t D W d b8;subst W d b8;refine rx.pure N ?_ .undef;cases t<;>simp[Builtin.clear_,run_underlying X]
 cases p<;>simp only[reduceCtorEq]at c
 ·rename_i j bC;cases j with
  |nil=>
   simp only[au,lP.val.injEq]at c;obtain⟨t,rfl⟩:=hp.uA;exact M rfl c.1.symm c.2.symm
  |cons x j=>simp at c
 ·simp only[au,lP.val.injEq]at c;obtain⟨t,g,D,W,I⟩:=Fi (p:= .gX) rfl hp;cases hp;exact M rfl c.1.symm c.2.symm
 ·rename_i b bu m g bC;obtain⟨i,t,D,rfl,U,ef,eh,bT⟩:=hp.tH;cases g with
  |zero=>
   have c:some (lP.val .undef h)=some (.val f h'):=c;simp only[au,lP.val.injEq]at c;exact M rfl c.1.symm c.2.symm
  |succ g=>
   replace c:=dI.1 c;obtain⟨bi,V,c⟩:=c;obtain⟨sz,Q,dm,bB,a7,q⟩:=bi;have c:(gJ (Nat.beq Q bu)<|gJ (Nat.beq sz s.size) (@Bool.rec (λ_=>aa lP)
    (dV (kX q m (pK s.ku (g+1))) λj=>dV (ir (Nat.succ dm)) λdn=>
      dV (h.put b ⟨sz,Q,dn,bB,false,j⟩) λh'=>some (.val .undef h')) none a7))=some (.val f h'):=c
   replace c:=dQ.1 c;obtain⟨Y,c⟩:=c;replace c:=dQ.1 c;obtain⟨av,c⟩:=c;cases a7 with
   |true=>simp at c
   |false=>
    replace c:=dI.1 c;obtain⟨j,r,c⟩:=c;simp only[iO,ed]at c;replace c:=dI.1 c;obtain⟨ea,ca,c⟩:=c;simp only[au,lP.val.injEq]at c;obtain⟨rfl,rfl⟩:=c;have Y:=aG Y;have av:=aG av;obtain⟨n,R,bH⟩:=N.CX U V rfl;simp only[]at R bH;obtain⟨_,_,F⟩:=bT J;have F:=F J;subst F;obtain⟨v,dk,al,ap,E⟩:=n.row;have z:=n.size;simp only[]at z E;obtain⟨B,cL,eo,aE,c9,aX,A,er,et⟩:=(jq.ty _ _ b6).zero w;rw[p9]at r;obtain⟨I,r⟩:=oR r;rw[List.length_replicate]at I r;have G:=iu z;have c1:(fF (List.replicate (g+1) s.ku)).length=(g+1)*i.sz:=by
     rw[iu (sz:=i.sz) (by intro f d;rw[bM d,A,aX];omega),List.length_replicate]
    have ae:fF j=(fF q).take (m*i.sz)++fF (List.replicate (g+1) s.ku)++(fF q).drop (m*i.sz+(g+1)*i.sz):=by
     rw[r,nl,nl,rU z,<-bX,pU z]
    have aA:∀f∈j,f.cells.length=i.sz:=by
     intro f d;rw[r]at d;rcases List.mem_append.1 d with d|d
     ·rcases List.mem_append.1 d with d|d
      ·exact z f (bF d)
      ·rw[bM d,A,aX];omega
     ·exact z f (bG d)
    have cb:∀f∈fF j,f.scalar=true:=by
     intro f d;rw[ae]at d;rcases List.mem_append.1 d with d|d
     ·rcases List.mem_append.1 d with d|d
      ·exact n.scalar f (bF d)
      ·obtain⟨y,L,d⟩:=List.mem_flatMap.1 d;rw[bM L,A]at d;exact c9 f d
     ·exact n.scalar f (bG d)
    have K:j.length=q.length:=by rw[r];simp;omega
    have b7:(fF j).length=(fF q).length:=by rw[iu aA,G,K]
    have eb:(fF q).length<=v.size:=by
     rw[G,ap];exact aW _ n.room
    have ec:m*i.sz+(g+1)*i.sz<=(fF q).length:=by
     rw[G,<-bX];exact aW _ I
    have a6:B.cells.size=i.sz:=by have:=(aE w.heap μ).1;simp only[cC]at this;omega
    have c7:∃l:List ao,(Builtin.zeroCells B.cells (g+1)).toList=l/\l.length=(g+1)*i.sz/\gU w.heap μ (fF (List.replicate (g+1) s.ku)) l:=by
     have bS:gU w.heap μ (fF (List.replicate (g+1) s.ku)) (Builtin.zeroCells B.cells (g+1)).toList:=by
      by_cases S:B.cells.size=0
      ·have bn:fF (List.replicate (g+1) s.ku)=[]:=bg (by rw[c1,<-a6,S];simp);have bs:(Builtin.zeroCells B.cells (g+1)).toList=[]:=bg (by rw[cC,rX,S];simp);rw[bn,bs];exact gU.nil
      ·rw[Builtin.zeroCells,Aw (g+1) J,sH,A];exact(aE _ _).replicate (g+1)
     exact⟨_,rfl,by rw[cC,rX,a6],bS⟩
    obtain⟨l,c4,c6,aN⟩:=c7;have b9:∀u∈l,u.oneCell'=true:=aN.Gs (by
     intro f d;obtain⟨y,L,d⟩:=List.mem_flatMap.1 d;rw[bM L,A]at d
     grind)
    have bN:gU w.heap μ (fF j) ((v.toList.take (m*i.sz)++l++v.toList.drop (m*i.sz+l.length)).toArray.toList.take (fF j).length):=by
     rw[b7,ae];rw[db,A9 _ _ J J];rw[c6];exact((E.take _).append aN).append (E.drop _)
    obtain⟨ds,dd,de,di,eu⟩:=Ao N U V rfl al (.inl R) ca (arr':=(v.toList.take (m*i.sz)++l++v.toList.drop (m*i.sz+l.length)).toArray)
     (by simp only[List.size_toArray,bj,List.length_take,List.length_drop,cC];rw[<-ap];omega) (by rw[K];exact n.room) (by intro k;have:=n.tZ k;simp only at this;rw[K];omega) aA cb bN
    refine⟨.tuple #[],_,ds,?_,.undef,dd,de,di⟩;have an:=run_storeCells_at (P:=P) i.jc (m*i.sz) dk l 0 v w al J b9;simp only[Nat.add_zero]at an;simp[Builtin.clear_,run_underlying X,cL,c4,an]
end
end
section
section
variable {P:ai}{cx:Ctx}{base:Nat}{w:World}{μ:Mu}{h h':H}{mask:Nat}{e:Env}{a:Act}{o:Oper}{hp hp':af Obj}{p:T}
def St.grow(c:St cx base hp μ h)(l:hp.size<=hp'.size)(j:∀b,b<hp.size->hp'[b]? =hp[b]?):St cx base hp' μ h/\Ext hp μ hp' μ:=by
 have g:Ext hp μ hp' μ:=⟨l,λb i t=>⟨j b i,t⟩,λk f d=>⟨f,d,.inl rfl⟩,rfl,λb i _=>j b i⟩;refine⟨⟨c.wf,by have:=c.fit;omega,λk f d=>?_,c.inj,c.low,c.apart,λb hr=>bD (c.rm b hr) l,λn m s=>(c.zI n m s).ext g⟩,g⟩;have⟨u,q,r⟩:=c.box k f d;exact⟨u,q,r.ext g (j _ (c.lt d))⟩
theorem Hm(jq:jg P cx){C y:ab}{K:ah}(x:St cx base w.heap μ h)(r:kA w.heap μ mask e a.tmps)(ap:o.op= .convert C y K){k:T}
 (B:∃E,cx.ty C=some E) (hp:fO cx mask e K=some p) (b:Et cx y p=some k) (Y:h'=h):jp cx base w μ h.size ((execOp a.eval o).run P w) k h':=by
 subst Y;obtain⟨bS,B⟩:=B;obtain⟨bB,U,_⟩:=kM (jq.ty _ _ B);replace b:=dI.1 b;obtain⟨E,a7,b⟩:=b;obtain⟨d,R,G⟩:=kM (jq.ty _ _ a7);have bn:=gY x r hp;cases a8:E.u<;>rw[a8]at b G<;>simp only[reduceCtorEq]at b;rename_i q;have:=lV G;subst this;have W:∃c,p= .str c:=by cases p<;>first|exact⟨_,rfl⟩|(simp at b)
 obtain⟨c,rfl⟩:=W;have b:(dV (cx.ty q) λD=>(match D.u with
  | .int l=>gJ (EK l .u8) (@List.rec Nat (λ_=>aa T) (some .gX) (λ_ _ _=>dV (fQ (λg=>some (T.int .u8 (.ofNat g))) c) λz=>some (.dK z false)) c)
  |_=>none))=some k:=b
 replace b:=dI.1 b;obtain⟨D,a6,b⟩:=b;obtain⟨bu,S,I⟩:=kM (jq.ty _ _ a6);cases bi:D.u<;>rw[bi]at b I<;>simp only[reduceCtorEq]at b;rename_i l;replace b:=dQ.1 b;obtain⟨s,b⟩:=b;rw[yu]at s;subst s;have:=wY I;subst this;obtain⟨M,N⟩:=bn.lU
 let m:=(bytesOf c).size
 have A:∃n j,m<=n/\(execOp a.eval o).run P w= .ok (.value (.slice (some ⟨w.heap.size,0,none⟩) m n)) j/\j.heap.size=w.heap.size+1/\(∀t,t<w.heap.size->j.heap[t]? =w.heap[t]?)/\
  j.os=w.os/\j.tape=w.tape/\j.output=w.output/\∃fz,j.heap[w.heap.size]? =some (.cells ((bytesOf c).data.map (λi=>Value.int .u8 i.toNat)++Array.replicate (n-m) (.int .u8 0)) q fz):=by
  refine⟨grownCap w m 0 q,Lib.bytesWorld w q (bytesOf c),grownCap_ge w _ _ _,?_,Lib.bytesWorld_size _ _ _,λt ae=>Lib.bytesWorld_at_old _ _ _ t ae,rfl,rfl,rfl,_,Lib.bytesWorld_at_new _ _ _⟩;simp only[execOp,ap,Sem.run_bind,M,Lib.run_convert_string_bytes w C y q (bytesOf c) U R S,Result.andThen_ok,Sem.run_pure];rfl
 obtain⟨n,j,bC,A,bN,aN,av,aA,aE,fz,O⟩:=A;obtain⟨bs,V⟩:=x.grow (hp':=j.heap) J aN;have F:m=c.length:=jV c;refine⟨_,j,μ,.inl A,?_,bs,⟨V,av,aA,aE⟩,yJ.refl _ _⟩;cases c with
 |nil=>
  have b:some T.gX=some k:=b;simp at b;subst b;rw[F];exact .gX _ _
 |cons i c=>
  have b:(dV (fQ (λg=>some (T.int .u8 (.ofNat g))) (i::c)) λz=>some (T.dK z false))=some k:=b;rw[zq]at b;simp only[ed,au]at b;subst b;have an:¬nN μ w.heap.size:=by
   rintro(⟨g,L,Q,hl⟩|hr)
   ·have:=x.lt Q;omega
   ·have:=x.rm _ hr;omega
  have al:m=(c.map λg=>T.int .u8 (.ofNat g)).length+1:=by rw[F];simp
  rw[al];refine .dK (T.int .u8 (.ofNat i)) (c.map λg=>T.int .u8 (.ofNat g)) false w.heap.size 0 n 1 _ q fz an O J dy ?_ ?_ ?_ ?_
  ·intro k b;rw[<-aP (f:=λg=>T.int .u8 (.ofNat g))]at b;obtain⟨g,_,rfl⟩:=List.mem_map.1 b;rfl
  ·rw[<-aP (f:=λg=>T.int .u8 (.ofNat g)),rV];simp[bytesOf]
  ·rw[<-aP (f:=λg=>T.int .u8 (.ofNat g)),rV];intro k b;obtain⟨g,_,rfl⟩:=List.mem_map.1 b;exact⟨rfl,.int _ _⟩
  ·rw[<-aP (f:=λg=>T.int .u8 (.ofNat g)),rV];intro l k b;rw[aS]at b;cases s:(i::c)[l]? with
   |none=>rw[s]at b;grind
   |some v=>
    rw[s]at b;simp at b;subst b;have aX:v<256:=N v (ay s);have bH:l<(i::c).length:=by
     grind
    have X:((bytesOf (i::c)).data.map (λi=>Value.int .u8 i.toNat)++Array.replicate (n-m) (.int .u8 0))[0+l]? =some (.int .u8 (v:Int)):=by
     rw[cA,Array.getElem?_append_left (by grind [bytesOf]),Array.getElem?_map];have:(bytesOf (i::c)).data[l]? =some (UInt8.ofNat v):=by
      grind [bytesOf]
     rw[this];simp[jJ aX]
    rw[bP,X];exact .int _ _
def GN{x:ah}(v:St cx base w.heap μ h)(r:kA w.heap μ mask e a.tmps)(S:o.op= .next x true){s:T}
 (b:AL x cx mask e h=some (.val s h')):jp cx base w μ h.size ((execOp a.eval o).run P w) s h':=by
 unfold AL at b;replace b:=dI.1 b;obtain⟨p,hp,b⟩:=b;have bB:=gY v r hp;have aN:∃t,p= .iter t:=by cases p<;>first|exact⟨_,rfl⟩|(simp at b)
 obtain⟨t,rfl⟩:=aN;replace b:=dI.1 b;obtain⟨j,al,b⟩:=b;replace b:=dQ.1 b;obtain⟨a7,b⟩:=b;obtain⟨n,bT,M,C,Y⟩:=bB.QV;obtain⟨y,F,B⟩:=v.box t n C;rw[al]at F;simp at F;subst F;obtain⟨aE,bi⟩:=B.iter a7;rcases bi with⟨f,d,aA,O,N⟩|⟨b7,cL,c1,bS⟩|⟨c4,m,d,c7,b6,V,W,b8,b9⟩;rotate_left;rotate_left
 ·exfalso;rw[V]at b
  grind
 rotate_left
 ·exfalso;cases hE:j.fg with
  |nil=>rw[hE]at b;grind
  |cons z c9=>
   obtain⟨k,u,c6,rfl,_⟩:=bS 0 z (by grind);rw[hE]at b
   grind
 have X:n.ep=0:=by rw[<-B.ep];omega
 have ae:=Y X;subst ae;rw[aA]at b;have R:(getObj n.jc).run P w= .ok (.stringIter (bytesOf f) d) w:=by simp[getObj,Sem.run,N]
 have b:(@Bool.rec (λ_=>aa lP) (some (.val (.tuple [.bool false]) h)) (dV (zo f d) λK=>two K λc wd=>dV (ir (Nat.add d wd)) λI=>dV (ir (Nat.succ j.ver)) λL=>
  dV (h.put t ⟨j.sz,j.ep,L,j.exact,true,[.str f,.int .i64 (.ofNat I)]⟩) λh'=>
   some (.val (.tuple [.bool true,.int .i64 (.ofNat d),.int .i32 (.ofNat c)]) h')) (Nat.blt d (kY f)))=some (.val s h'):=b
 rw[jW]at b;cases A:Nat.blt d f.length with
 |false=>
  rw[A]at b;have b:some (lP.val (.tuple [.bool false]) h)=some (.val s h'):=b;simp at b;obtain⟨rfl,rfl⟩:=b;have a6:¬d<f.length:=by rw[<-aJ];grind
  refine jp.pure (c:= .tuple #[.bool false]) v ?_ (.tuple _ _ rfl λk s g=>?_)
  ·simp[execOp,S,Instr.next,M,R,jV,a6]
  ·cases k with
   |zero=>simp at g;subst g;exact .bool _
   |succ k=>grind
 |true=>
  rw[A]at b;have U:d<f.length:=by rw[aJ]at A;omega
  have b:(dV (zo f d) λK=>two K λc wd=>dV (ir (Nat.add d wd)) λI=>dV (ir (Nat.succ j.ver)) λL=>
   dV (h.put t ⟨j.sz,j.ep,L,j.exact,true,[.str f,.int .i64 (.ofNat I)]⟩) λh'=>
    some (lP.val (.tuple [.bool true,.int .i64 (.ofNat d),.int .i32 (.ofNat c)]) h'))=some (.val s h'):=b
  replace b:=dI.1 b;obtain⟨⟨c,wd⟩,Q,b⟩:=b;simp only[kN,iO,ed]at b;replace b:=dI.1 b;obtain⟨W,bn,b⟩:=b;simp only[au,lP.val.injEq]at b;obtain⟨rfl,rfl⟩:=b;unfold zo at Q;obtain⟨q,D,l⟩:=dI.1 Q;rw[kP]at D;have av:Utf8.decode (bytesOf f) d=(c,wd):=by
   cases E:Nat.blt q 128 with
   |false=>
    rw[E]at l;have A:q<256:=O q (ay D);have an:Nat.blt q 256=true:=by rw[aJ];omega
    rw[an]at l;have l:some (Utf8.decode (bytesOf f) d)=some (c,wd):=l
    grind
   |true=>
    rw[E]at l;have l:some (q,1)=some (c,wd):=l;simp only[au,aD]at l;obtain⟨rfl,rfl⟩:=l;rw[aJ]at E;have ap:q<256:=J;have aX:(bytesOf f).get! d=UInt8.ofNat q:=by
     have bs:d<(bytesOf f).size:=by rw[jV];omega
     show(bytesOf f).data[d]! =_;rw[getElem!_pos (bytesOf f).data d bs];simp only[bytesOf,List.getElem_toArray,List.getElem_map];have:f[d]=q:=by rw[az U]at D;grind
     rw[this]
    unfold Utf8.decode;simp only[Nat.add_zero,aX,jJ ap];rw[ar J]
  have bu:∀G:Obj,(setObj n.jc G).run P w= .ok () {w with heap:=w.heap.setIfInBounds n.jc G}:=by
   intro G;simp[setObj,Sem.run,N]
  have ca:=v.lt C;obtain⟨bC,bH,bN⟩:=v.change (L':=n) (hp':=w.heap.setIfInBounds n.jc (.stringIter (bytesOf f) (d+wd))) C bn dy (by
   intro i cp a8;rw[Array.getElem?_setIfInBounds_ne (aY a8)]) (.inl rfl) (by
   intro cb;refine⟨B.ep,B.sz,λk=>by grind,λ_=>⟨aE,.inl ⟨f,d+wd,rfl,O,by grind⟩⟩⟩)
  refine⟨.tuple #[.bool true,.int .i64 d,.int .i32 c],{w with heap:=w.heap.setIfInBounds n.jc (.stringIter (bytesOf f) (d+wd))},_,.inl ?_,.tuple _ _ rfl λk s g=>?_,bC,⟨bH,rfl,rfl,rfl⟩,bN⟩
  ·simp[execOp,S,Instr.next,M,R,jV,U,av,bu,goInt]
  ·match k,g with
   |0,g=>simp at g;subst g;exact .bool _
   |1,g=>simp at g;subst g;exact .int _ _
   |2,g=>simp at g;subst g;exact .int _ _
   |k+3,g=>grind
def K4(jq:jg P cx)(g:St cx base w.heap μ h){l:af ab}{y:ab}{k q:T}{m:ao}(i:fI w.heap μ k m)(b:N8 cx h l.toList k=some (.val q h')):
 rx cx base w μ h.size ((Builtin.len_ l y #[m]).run P w) q h':=by
 replace b:=dI.1 b;obtain⟨v,ht,b⟩:=b;replace b:=dI.1 b;obtain⟨x,s,b⟩:=b;obtain⟨A,f,j⟩:=kM (jq.ty _ _ s);have ht:l[0]? =some v:=by rw[kP]at ht;grind
 cases t:x.u<;>rw[t]at b j<;>simp only[reduceCtorEq]at b
 ·have:=sW j;subst this;cases k<;>simp at b;obtain⟨c,rfl⟩:=fT.1 b;simp at c;subst c;obtain⟨d,_⟩:=i.lU;exact rx.pure g (by simp[Builtin.len_,ht,run_underlying f,d,jV,goInt]) (.int _ _)
 ·have:=lV j;subst this;cases k<;>simp at b
  ·obtain⟨c,rfl⟩:=fT.1 b;simp at c;subst c;rename_i n B;cases n with
   |nil=>obtain⟨r,d⟩:=i.uA;exact rx.pure g (by simp[Builtin.len_,ht,run_underlying f,d,goInt]) (.int _ _)
   |cons C n=>obtain⟨_,_,_,_,_,_,_,d,_⟩:=i.uB;exact rx.pure g (by simp[Builtin.len_,ht,run_underlying f,d,goInt]) (.int _ _)
  ·obtain⟨c,rfl⟩:=fT.1 b;simp at c;subst c;obtain⟨r,z,d⟩:=i.AJ;exact rx.pure g (by simp[Builtin.len_,ht,run_underlying f,d,goInt]) (.int _ _)
  ·obtain⟨c,rfl⟩:=fT.1 b;simp at c;subst c;obtain⟨_,_,_,d,_⟩:=i.tH;exact rx.pure g (by simp[Builtin.len_,ht,run_underlying f,d,goInt]) (.int _ _)
 ·have:=rM j;subst this;obtain⟨c,rfl⟩:=fT.1 b;simp at c;subst c;exact rx.pure g (by simp[Builtin.len_,ht,run_underlying f,goInt]) (.int _ _)
theorem E8(jq:jg P cx)(u:St cx base w.heap μ h)(r:kA w.heap μ mask e a.tmps){c:Call}{F:Builtin}(ap:o.op= .call c)(al:c.callee= .builtin F){n:List T}(ae:qz cx mask e c.args.toList=some n){v:T}
 (b:lA F cx h c.argTypes.toList n=some (.val v h')):jp cx base w μ h.size ((execOp a.eval o).run P w) v h':=by
 have d:=wz u r ae;have O:∀{m:Sem ao},(execOp a.eval o).run P w=((m.run P w).andThen λv Q=> .ok (Next.value v) Q)->rx cx base w μ h.size (m.run P w) v h'->jp cx base w μ h.size ((execOp a.eval o).run P w) v h':=by
  intro m hr an;obtain⟨z,Q,av,U,V,W,X,Y⟩:=an;exact⟨z,Q,av,.inl (by rw[hr,U];rfl),V,W,X,Y⟩
 have A:(execOp a.eval o).run P w=(builtin F c.argTypes o.type (c.args.map λ| .const _=>true|_=>false) (c.args.map a.eval)).run P w:=by
  simp[execOp,ap,resolve,al,invoke];rfl
 have y:(c.args.map a.eval).toList=c.args.toList.map a.eval:=dy;cases F<;>simp only[lA,reduceCtorEq]at b
 case len=>
  match n,b,d with
  | [I],b,d=>
   obtain⟨g,t,f,l,k⟩:=d.mt;have j:t=[]:=bg (by have:=k.1;grind);subst j;have i:c.args.map a.eval= #[g]:=by apply cv;rw[y,f]
   refine O (m:=Builtin.len_ c.argTypes o.type #[g]) ?_ (K4 jq u l b);rw[A,i];simp[builtin]
 case append=>
  match n,b,d with
  | [I,S],b,d=>
   match M:c.argTypes.toList,b with
   | [E,R],b=>
    obtain⟨g,t,f,l,k⟩:=d.mt;obtain⟨G,x,rfl,C,B⟩:=k.mt;have j:x=[]:=bg (by have:=B.1;grind);subst j;have i:c.args.map a.eval= #[g,G]:=by apply cv;rw[y,f]
    have L:c.argTypes= #[E,R]:=by apply cv;rw[M]
    refine O (m:=Builtin.append_ #[E,R] o.type #[g,G]) ?_ (x6 jq u l C b);rw[A,i,L];simp[builtin]
 case clear=>
  match n,b,d with
  | [I],b,d=>
   match M:c.argTypes.toList,b with
   | [E],b=>
    obtain⟨g,t,f,l,k⟩:=d.mt;have j:t=[]:=bg (by have:=k.1;grind);subst j;have i:c.args.map a.eval= #[g]:=by apply cv;rw[y,f]
    have L:c.argTypes= #[E]:=by apply cv;rw[M]
    refine O (m:=Builtin.clear_ #[E] o.type #[g]) ?_ (Ho jq u l b);rw[A,i,L];simp[builtin]
 case min=>
  match n,b,d with
  | [I,S],b,d=>
   obtain⟨N,rfl⟩:=fT.1 b;obtain⟨D,m,s,rfl,rfl,q⟩:=u5 N;obtain⟨g,t,f,l,k⟩:=d.mt;obtain⟨G,x,rfl,C,B⟩:=k.mt;have j:x=[]:=bg (by have:=B.1;grind);subst j;rw[l.jX,C.jX]at f;have i:c.args.map a.eval= #[.int D m,.int D s]:=by apply cv;rw[y,f]
   rw[oY]at q;simp only[au]at q;subst q;refine jp.pure u ?_ (.int _ _);rw[A,i];simp only[builtin,Builtin.min_,List.foldlM,Builtin.min2,Sem.run_bind,Sem.run_pure,Result.andThen_ok];have:=yq s m;by_cases K:s<m<;>simp[this,K]
 case max=>
  match n,b,d with
  | [I,S],b,d=>
   obtain⟨N,rfl⟩:=fT.1 b;obtain⟨D,m,s,rfl,rfl,q⟩:=u5 N;obtain⟨g,t,f,l,k⟩:=d.mt;obtain⟨G,x,rfl,C,B⟩:=k.mt;have j:x=[]:=bg (by have:=B.1;grind);subst j;rw[l.jX,C.jX]at f;have i:c.args.map a.eval= #[.int D m,.int D s]:=by apply cv;rw[y,f]
   rw[oY]at q;simp only[au]at q;subst q;refine jp.pure u ?_ (.int _ _);rw[A,i];have:=yq m s;by_cases K:m<s<;>simp[builtin,Builtin.max_,Builtin.max2,this,K]
