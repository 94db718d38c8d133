/- TiMap -/
import Derived.Test.YtbappgeamhmmbaaGreatDoorA2
import Derived.MapKept
import Derived.Laws.IdiomStrings
import Derived.WideKeyRuns
import Derived.Maps.RangeRun
set_option linter.all false
namespace Go.TI
noncomputable section
open Go.MapKept
section
def Hu{c b:List Nat}(g:∀d∈c,d<256)(ht:∀d∈b,d<256)(h:bytesOf c=bytesOf b):c=b:=by
 have:=bytes_beq g ht;rw[h]at this;have f:(bytesOf b==bytesOf b)=true:=by rw[bytes_beq ht ht,xw];simp
 rw[f,xw]at this;simpa using this.symm
section
variable {P:ai}{cx:Ctx}{base:Nat}{w:World}{μ:Mu}{h h':H}{G:Nat}{e:Env}{a:Act}{o:Oper}{hp hp':af Obj}{p:T}
theorem Cp(iU:iG P cx){d:ab}{c:aa ah}(q:St cx base w.heap μ h)(g:o.op= .makeMap d c){f:T}
 (b:tI d c cx G e h=some (.val f h')):iO cx base w μ h.size ((execOp a.eval o).run P w) f h':=by
 unfold tI at b;cases c with
 |some x=>simp at b
 |none=>
  simp only at b;replace b:=dB.1 b;obtain⟨r,t,b⟩:=b;cases i:r.u<;>rw[i]at b<;>simp only[reduceCtorEq]at b;rw[iX,H.ku]at b;simp only[ar,aB]at b;obtain⟨rfl,rfl⟩:=b;have⟨l,m,n⟩:=q.new (.map #[] 0) ⟨0,w.heap.size,0,0⟩ ⟨0,0,0,true,true,[]⟩ rfl (by
   intro s;refine⟨rfl,rfl,λk=>by simp at k,λ_=>⟨rfl,.inr (.inl ⟨#[],J,rfl,λv c j=>by simp at j⟩)⟩⟩)
  refine⟨.map (some w.heap.size),{w with heap:=w.heap.push (.map #[] 0)},_,.inl ?_,.map _ _ _ (jd _ _ _) (λ_=>rfl),l,⟨m,rfl,rfl,rfl⟩,n⟩;simp[execOp,g,Instr.makeMap]
def D6{d:U}{c:T}(b:J5 d c=true):d= .str/\∃f,c= .str f:=by
 unfold J5 at b;split at b<;>try simp at b
 split at b<;>simp_all
def R6(hp:af Obj)(μ:Mu)(g:List T)(c:List MapEntry):Prop:=
 g.length=c.length/\∀(d:Nat) j,g[d]? =some j->∃f i b,j= .tuple [f,i]/\c[d]? =some b/\eK hp μ f b.key/\eK hp μ i b.val
def wO{j:List Nat}(N:∀x∈j,x<256):∀(k:List T) (g:List MapEntry) (f:Nat) (i:aa (Nat×T)),
 R6 hp μ k g->wq .str (.str j) k f=some i->
 (i=none/\Instr.findNow .string (.string (bytesOf j)) g f=some none)\/∃n q l,i=some (f+n,q)/\Instr.findNow .string (.string (bytesOf j)) g f=some (some (f+n,l.val))/\g[n]? =some l/\eK hp μ q l.val/\l.key= .string (bytesOf j):=by
 intro k;induction k with
 |nil=>
  intro g f i m c;have L:g=[]:=aS m.1.symm;subst L;have c:some none=some i:=c;simp only[ar]at c;exact .inl ⟨c.symm,rfl⟩
 |cons x k S=>
  intro g f i m c;obtain⟨z,v,l,rfl,r,G,I⟩:=m.2 0 x J;have c:(M (oe .str (.str j) z) λu=> @Bool.rec (λ_=>aa (aa (Nat×T))) (M (fU (Nat.succ f)) λR=>wq .str (.str j) k R) (some (some (f,v))) u)=some i:=c;replace c:=dB.1 c;obtain⟨u,ht,c⟩:=c;cases z<;>simp only[oe,reduceCtorEq]at ht;rename_i W;obtain⟨y,F⟩:=G.kz;simp only[ar,xw]at ht;cases g with
  |nil=>simp at r
  |cons A g=>
   simp at r;subst r;obtain⟨E,t,C⟩:=sameNow_of_keys (d:= .string) (a:= .string (bytesOf j)) (b:=A.key) (by simp[IsKey]) (by rw[y];simp[IsKey]);have O:E=u:=by
    rw[bg,C,y,<-ht];simp only[beq_iff_eq,Value.string.injEq];exact⟨λs=>Hu N F s,λs=>by rw[s]⟩
   subst O;cases E with
   |true=>
    have c:some (some (f,v))=some i:=c;simp only[ar]at c;exact .inr ⟨0,v,A,c.symm,by simp[Instr.findNow,t],rfl,I,(C.1 rfl).symm⟩
   |false=>
    have c:wq .str (.str j) k (f+1)=some i:=by simpa using c
    have K:R6 hp μ k g:=⟨by have:=m.1;simpa using this,λU V Q=>by
     have:=m.2 (U+1) V (by simpa using Q);simpa using this⟩
    rcases S g (f+1) i K c with⟨r1,r2⟩|⟨n,q,l,r1,r2,r3,r4,r5⟩
    ·exact .inl ⟨r1,by simp[Instr.findNow,t,r2]⟩
    ·refine .inr ⟨n+1,q,l,by rw[r1];congr 2;omega,?_,by simpa using r3,r4,r5⟩;simp only[Instr.findNow,t,r2];congr 3;omega
def HF.ZR{L:Loc}{j:List T}{i:af MapEntry}(q:i.size=j.length)
 (r:∀(c:Nat) g,j[c]? =some g->∃d f b,g= .tuple [d,f]/\i[c]? =some b/\b.born=c/\eK hp μ d b.key/\eK hp μ f b.val):R6 hp μ j i.toList:=
 ⟨by simp[q],λc g s=>by
   have⟨d,f,b,k,l,t,m,n⟩:=r c g s;exact⟨d,f,b,k,by simpa using l,m,n⟩⟩
def yC{j:U}{i:T}{b:List T}{g:Nat}{d:aa (Nat×T)}(f:wq j i b g=some d):A5 b=true:=by
 cases b with
 |nil=>rfl
 |cons k b=>
  cases k with
  |tuple l=>rfl
  |_=>exact absurd f (by intro c;have c:(none:aa (aa (Nat×T)))=some d:=c;simp at c)
def St.mapOf(s:St cx base hp μ h){f:Nat}{c:Loc}{b:iI}(l:μ f=some c)(m:h.get f=some b)(n:b.it=true)(d:A5 b.eg=true):
 c.ep=0/\b.ep=0/\HF hp μ c b.eg:=by
 have⟨z,g,k⟩:=s.box f c l;rw[m]at g;simp only[ar]at g;subst g;have⟨j,q⟩:=k.iter n;refine⟨by rw[<-k.ep];exact j,j,?_⟩;rcases q with⟨y,r,i,_⟩|hm|⟨v,u,r,x,t,i,_⟩
 ·rw[i]at d;simp[A5]at d
 ·exact hm
 ·rw[i]at d;simp[A5]at d
def JA{f:Ty}{c:TypeDesc}{d e:ab}(b:ze P c=some f.u)(g:f.u= .map d e):c= .map d e:=by
 rw[g]at b;cases c<;>simp only[ze]at b<;>first
  |(simp only[ar,reduceCtorEq]at b;done)
  |(simp only[ar,U.map.injEq]at b;obtain⟨rfl,rfl⟩:=b;rfl)
  |(split at b<;>simp at b)
theorem Dp(iU:iG P cx){U:ab}{m s:ah}{y:Bool}(l:St cx base w.heap μ h)(S:jY w.heap μ G e a.tmps)(bi:o.op= .lookup U m s y){V:T}
 (b:wm U m s y cx G e h=some (.val V h')):iO cx base w μ h.size ((execOp a.eval o).run P w) V h':=by
 replace b:=dB.1 b;obtain⟨bT,bs,b⟩:=b;obtain⟨d,av,bu⟩:=j3 (iU.ty _ _ bs);cases O:bT.u<;>rw[O]at b<;>simp only[reduceCtorEq]at b;rename_i kt b9;have:=JA bu O;subst this;replace b:=dB.1 b;obtain⟨c7,bn,b⟩:=b;replace b:=dB.1 b;obtain⟨c6,bl,b⟩:=b;replace b:=dB.1 b;obtain⟨p,hp,b⟩:=b;replace b:=dB.1 b;obtain⟨k,a7,b⟩:=b;replace b:=dJ.1 b;obtain⟨a8,b⟩:=b;replace b:=dB.1 b;obtain⟨F,c,b⟩:=b;replace b:=dB.1 b;obtain⟨bS,v,b⟩:=b;cases y with
 |true=>simp at b
 |false=>
 obtain⟨Q,rfl⟩:=fF.1 b;simp only[ar]at Q;subst Q;obtain⟨b6,K,N⟩:=j3 (iU.ty _ _ bn);obtain⟨bN,c1,rfl⟩:=D6 a8;rw[bN]at N v;have:=oX N;subst this;have r:=fN l S hp;obtain⟨E,W⟩:=(fN l S a7).kz;obtain⟨z,R,bz,_⟩:=(iU.ty _ _ bl).zero w;have aE:∃f:af MapEntry,R6 w.heap μ F f.toList/\
  ((a.eval m= .map none/\f= #[])\/∃g C,a.eval m= .map (some g)/\w.heap[g]? =some (.map f C)):=by
  unfold H.entries at c;cases p<;>simp only[reduceCtorEq]at c
  ·rename_i A;replace c:=dB.1 c;obtain⟨X,ap,c⟩:=c;obtain⟨c4,b8,dd,ca,cp,b7⟩:=X;replace c:=dJ.1 c;obtain⟨aX,c⟩:=c;simp only[ar]at c;subst c;obtain⟨L,g,n,an,aN⟩:=r.J6;obtain⟨l0,_,f,bB,bC,bH⟩:=l.mapOf an ap aX (yC v);exact⟨f,HF.ZR (L:=L) bC bH,.inr ⟨g,f.size,n,by rw[aN l0];exact bB⟩⟩
  ·simp only[ar]at c;subst c;exact⟨#[],⟨rfl,λg m r=>by simp at r⟩,.inl ⟨r.OG,rfl⟩⟩
 obtain⟨f,al,aA⟩:=aE;have x:∀i:aa (Nat×am),Instr.findNow .string (a.eval s) f.toList 0=some i->
  (execOp a.eval o).run P w= .ok (.value (match i with|some q=>q.2|none=>z)) w:=by
  intro i bk;have I:=λA=>run_checkKey (P:=P) (w:=w) K (k:=a.eval s) (by rw[E];simp[IsKey]) A 9999;have M:=run_findKey (P:=P) (w:=w) (kt:=kt) K bk;rcases aA with⟨n,rfl⟩|⟨g,C,n,Y⟩<;>simp only[execOp,bi,Instr.lookup,Sem.run_bind,run_underlying av,Result.andThen_ok,n,Sem.run_pure,I,M];rotate_left
  ·simp only[Go.MapKept.run_getObj_map (P:=P) Y,Sem.run_bind,Result.andThen_ok,Sem.run_pure,I,M];cases i<;>simp only[Sem.run_bind,R,Result.andThen_ok,Sem.run_pure]<;>rfl
  ·cases i<;>simp only[Sem.run_bind,R,Result.andThen_ok,Sem.run_pure]<;>rfl
 rw[E]at x;rcases wO W F f.toList 0 bS al v with⟨rfl,t⟩|⟨j,c9,cL,rfl,t,cb,ae,ce⟩
 ·exact iO.pure l (x none t) (bz _ _)
 ·exact iO.pure l (x _ t) ae
theorem zQ(iU:iG P cx){t:ab}{A l M:ah}(y:St cx base w.heap μ h)(r:jY w.heap μ G e a.tmps)(bn:o.op= .mapUpdate t A l M){i:T}
 (b:qW t A l M cx G e h=some (.val i h')):iO cx base w μ h.size ((execOp a.eval o).run P w) i h':=by
 replace b:=dB.1 b;obtain⟨eo,dn,b⟩:=b;obtain⟨d,a8,ds⟩:=j3 (iU.ty _ _ dn);cases bB:eo.u<;>rw[bB]at b<;>simp only[reduceCtorEq]at b;rename_i kt eu;have:=JA ds bB;subst this;replace b:=dB.1 b;obtain⟨eH,dm,b⟩:=b;replace b:=dB.1 b;obtain⟨p,hp,b⟩:=b;replace b:=dB.1 b;obtain⟨k,cp,b⟩:=b;replace b:=dB.1 b;obtain⟨V,dd,b⟩:=b;replace b:=dJ.1 b;obtain⟨cL,b⟩:=b;replace b:=dJ.1 b;obtain⟨eB,b⟩:=b;have c7:∃N,p= .map N:=by cases p<;>first|exact⟨_,rfl⟩|(simp at b)
 obtain⟨N,rfl⟩:=c7;simp only at b;replace b:=dB.1 b;obtain⟨bT,aX,b⟩:=b;obtain⟨eF,et,eM,ey,eC,m⟩:=bT;simp only at b;replace b:=dJ.1 b;obtain⟨ce,b⟩:=b;replace b:=dB.1 b;obtain⟨eh,an,b⟩:=b;simp only[gX,dS]at b;replace b:=dB.1 b;obtain⟨Q,f,b⟩:=b;replace b:=dB.1 b;obtain⟨b9,c9,b⟩:=b;simp only[ar,kC.val.injEq]at b;obtain⟨rfl,rfl⟩:=b;obtain⟨er,bi,bz⟩:=j3 (iU.ty _ _ dm);obtain⟨ef,bH,rfl⟩:=D6 cL;rw[ef]at bz an;have:=oX bz;subst this;have ap:=fN y r hp;have al:=fN y r cp;obtain⟨W,bS⟩:=al.kz;have bs:=fN y r dd;obtain⟨L,s,aN,R,S⟩:=ap.J6;obtain⟨l0,bN,n,aA,K,O⟩:=y.mapOf R aX ce (yC an);simp only at bN K O;have cb:=HF.ZR (L:=L) K O;have S:=S l0;subst S;have ca:=y.lt R;obtain⟨eN,av,bC⟩:=y.box N L R;rw[aX]at av;simp only[ar]at av;subst av;have bu:∀U:Obj,(setObj L.iE U).run P w= .ok () {w with heap:=w.heap.setIfInBounds L.iE U}:=λU=>Go.MapKept.run_setObj_map (P:=P) U aA;have a7:=λN=>run_checkKey (P:=P) (w:=w) bi (k:=a.eval l) (by rw[W];simp[IsKey]) N 9999;have fin:∀{esM':af MapEntry},esM'.size=Q.length->
  (∀(s:Nat) A,Q[s]? =some A->∃k i c,A= .tuple [k,i]/\esM'[s]? =some c/\c.born=s/\eK w.heap μ k c.key/\eK w.heap μ i c.val)->
  (execOp a.eval o).run P w= .ok .skip {w with heap:=w.heap.setIfInBounds L.iE (.map esM' esM'.size)}->iO cx base w μ h.size ((execOp a.eval o).run P w) .undef b9:=by
  intro esM' c1 de di;obtain⟨ea,eb,ec⟩:=y.change (L':=L) (hp':=w.heap.setIfInBounds L.iE (.map esM' esM'.size)) R c9 J (by
   intro s S c6;rw[dg (aW c6)]) (.inl rfl) (by
   intro bk;refine⟨bC.ep,bC.sz,λk=>by simp at k,λ_=>⟨bN,.inr (.inl ⟨esM',by simp[ca],c1,λs A ap=>?_⟩)⟩⟩;obtain⟨k,i,c,C,j,q,E,F⟩:=de s A ap;exact⟨k,i,c,C,j,q,E.ext bk,F.ext bk⟩)
  exact⟨Go.undef,_,_,.inr ⟨di,rfl⟩,.undef,ea,⟨eb,rfl,rfl,rfl⟩,ec⟩
 rcases wO bS m n.toList 0 eh cb an with⟨rfl,X⟩|⟨v,eI,c,rfl,X,b7,eA,b8⟩<;>rw[<-W]at X<;>have ae:=run_findKey (P:=P) (w:=w) (kt:=kt) bi X
 ·replace f:AV m [.tuple [.str bH,V]]=some Q:=f;rw[pf]at f;simp only[ar]at f;subst f;refine fin (esM':=n.push {key:=a.eval l,val:=a.eval M,born:=n.size}) (by simp[K]) (λx z g=>?_) ?_
  ·by_cases I:x<m.length
   ·rw[cr I]at g;obtain⟨k,i,c,C,j,q,E,F⟩:=O x z g;refine⟨k,i,c,C,?_,q,E,F⟩;rw[cX];have:x≠n.size:=B;simp[this,j]
   ·rw[cC B]at g;have c4:x=m.length:=by
     rcases Nat.eq_or_lt_of_le (Nat.le_of_not_lt I)with h|h
     ·exact h.symm
     ·rw[bL dp]at g;simp at g
    subst c4;simp at g;subst g;exact⟨_,V,{key:=a.eval l,val:=a.eval M,born:=n.size},rfl,by rw[<-K];simp,K,al,bs⟩
  ·simp only[execOp,bn,Instr.mapUpdate,Sem.run_bind,run_underlying a8,Result.andThen_ok,aN,Go.MapKept.run_getObj_map (P:=P) aA,a7,ae,bu,Sem.run_pure];simp
 ·rw[cB]at f ae;replace f:kf m v (.tuple [.str bH,V])=some Q:=f;rw[kl]at f;split at f
  ·rename_i bl;simp only[ar]at f;subst f;have Y:n[v]? =some c:=by simpa using b7
   refine fin (esM':=n.modify v λb6=>{b6 with key:=a.eval l,val:=a.eval M}) (by simp[K]) (λx z g=>?_) ?_
   ·rw[Array.getElem?_modify];by_cases I:v=x
    ·subst I;rw[cQ bl]at g;simp only[ar]at g;subst g;obtain⟨aE,dv⟩:∃aE,m[v]? =some aE:=⟨m[v],by simp[bl]⟩;obtain⟨eD,eL,eE,C,j,q,E,F⟩:=O v aE dv;rw[Y]at j;simp only[ar]at j;subst j;exact⟨_,V,{c with key:=a.eval l,val:=a.eval M},rfl,by simp[Y],q,al,bs⟩
    ·rw[cR I]at g;obtain⟨k,i,c,C,j,q,E,F⟩:=O x z g;exact⟨k,i,c,C,by simp[I,j],q,E,F⟩
   ·have dk:Instr.sameBits 10000 c.key (a.eval l)=true:=by rw[b8,W];simp[Instr.sameBits,Go.MapKept.bytes_beq]
    simp only[execOp,bn,Instr.mapUpdate,Sem.run_bind,run_underlying a8,Result.andThen_ok,aN,Go.MapKept.run_getObj_map (P:=P) aA,a7,ae,Instr.keyThatStays,Y,cJ,Option.getD_some,dk,bj,Sem.run_pure,bu];simp
  ·simp at f
theorem pL{j:Type}{c:j->Bool}{d:List j}(b:wC c d=true):∀f∈d,c f=true:=by
 induction d with
 |nil=>intro f hx;simp at hx
 |cons i d k=>
  have b: @Bool.rec (λ_=>Bool) false (wC c d) (c i)=true:=b;cases g:c i with
  |false=>rw[g]at b;simp at b
  |true=>
   rw[g]at b;intro f hx;rcases List.mem_cons.1 hx with rfl|hx
   ·exact g
   ·exact k b f hx
def Ek{g:T}{b:Nat}(c:byteOf g=some b):g= .int .u8 (.ofNat b)/\b<256:=by
 cases g with
 |int m l=>
  have c:fQ (C7 m .u8) (@Int.rec (λ_=>aa Nat) (λb=>fQ (Nat.blt b 256) (some b)) (λ_=>none) l)=some b:=c;have⟨i,d⟩:=dJ.1 c;rw[xq]at i;subst i;cases l with
  |ofNat f=>
   have d:fQ (Nat.blt f 256) (some f)=some b:=d;have⟨j,k⟩:=dJ.1 d;rw[aF]at j;simp only[ar]at k;subst k;exact⟨rfl,j⟩
  |negSucc f=>simp at d
 |_=>simp[byteOf]at c
theorem HV(iU:iG P cx){n j:ab}{A:ah}(x:St cx base w.heap μ h)(r:jY w.heap μ G e a.tmps)(aE:o.op= .convert n j A)(N:P.underlying j=some .string){v:T}
 (hp:fq cx G e A=some p) (b:FN cx h n p=some v) (ap:h'=h):iO cx base w μ h.size ((execOp a.eval o).run P w) v h':=by
 subst ap;replace b:=dB.1 b;obtain⟨bz,a7,b⟩:=b;obtain⟨d,L,R⟩:=j3 (iU.ty _ _ a7);cases bk:bz.u<;>rw[bk]at b R<;>simp only[reduceCtorEq]at b;rename_i E;have:=mc R;subst this;replace b:=dB.1 b;obtain⟨bu,aX,b⟩:=b;obtain⟨bH,M,S⟩:=j3 (iU.ty _ _ aX);cases bl:bu.u<;>rw[bl]at b S<;>simp only[reduceCtorEq]at b;rename_i k;replace b:=dJ.1 b;obtain⟨O,b⟩:=b;rw[xq]at O;subst O;have:=xQ S;subst this;replace b:=dB.1 b;obtain⟨l,an,b⟩:=b;replace b:=dB.1 b;obtain⟨f,X,b⟩:=b;replace b:=dJ.1 b;obtain⟨_,b⟩:=b;simp only[ar]at b;subst b;obtain⟨bT,bn⟩:=nJ (P:=P) x (fN x r hp) an;obtain⟨bB,C,bs,U,bN,F,bS,Y⟩:=bn.form;obtain⟨t,K⟩:=qP.1 X;have al:l=f.map λi=>T.int .u8 (.ofNat i):=by
  apply cN;intro c;rw[aQ];cases g:l[c]? with
  |none=>
   have:f[c]? =none:=by
    rw[List.getElem?_eq_none_iff]at g|-;omega
   rw[this];rfl
  |some z=>
   obtain⟨i,m,s⟩:=K c z g;rw[m,(Ek s).1];rfl
 have I:∀i∈f,i<256:=by
  intro i m;obtain⟨c,g⟩:=List.mem_iff_getElem?.1 m;have av:c<l.length:=by
   rw[t];rcases aM c f.length with y|y
   ·exact y
   ·rw[bL y]at g;simp at g
  obtain⟨bC,q,s⟩:=K c l[c] (by simp[av]);rw[g]at q;simp only[ar]at q;subst q;exact(Ek s).2
 have aN:eK w.heap μ (.str f) (.string (bytesOf f)):= .str f I;rw[al,qC]at F;have aA:∀(c:Nat) i,f[c]? =some i->bs[c]? =some (.int .u8 (i:Int)):=by
  intro c i g;obtain⟨b6,a8,bi⟩:=F.get (k:=c) (v:= .int .u8 (.ofNat i)) (by simp[g]);rw[a8,bi.jI];rfl
 have ae:(convert n j (a.eval A)).run P w= .ok (.string (bytesOf f)) w:=by
  rw[U];rcases Y with⟨rfl,Q⟩|⟨y,rfl,m⟩
  ·have V:f=[]:=by
    have:=t;rw[Q]at this;simp at this;exact aS this.symm
   subst V;rw[Q];rw[run_convert_bytes_string w n j E none _ C L M N];simp[Conv.bytesToString];rfl
  ·have hl:l.length=(f.map UInt8.ofNat).length:=by simp[t]
   rw[hl];have:=run_convert_bytes_back (P:=P) w n j E y C (f.map UInt8.ofNat) L M N (by
    intro c g;simp only[aG]at g;have W:f[c]? =some f[c]:=by simp[g]
    rw[m c _ (aA c _ W)];simp only[List.getElem_map];rw[jo (I _ (aD g))])
   rw[this];rfl
 exact iO.pure x (by simp only[execOp,aE,Sem.run_bind,ae,Result.andThen_ok,Sem.run_pure]) aN
end
end
section
section
variable {P:ai}{cx:Ctx}{base:Nat}{w:World}{μ:Mu}{h h':H}{G:Nat}{e:Env}{a:Act}{o:Oper}{hp hp':af Obj}{p:T}
theorem GW{x:ah}{b:Bool}(j:St cx base w.heap μ h)(i:jY w.heap μ G e a.tmps)(g:o.op= .next x b){d:T}
 (f:GY x b cx G e h=some (.val d h')):iO cx base w μ h.size ((execOp a.eval o).run P w) d h':=by
 cases b with
 |true=>exact EX j i g f
 |false=>exact absurd f (by intro c;have c:(none:aa kC)=some (.val d h'):=c;simp at c)
end
end
end
noncomputable section
section
def yW(P:ai)(c:am->World->Prop):Result Next->Prop
 | .ok (.value d) b=>c d b
 | .ok .skip b=>c Go.undef b
 | .ok (.enter g f) b=>Calls P g f b λ
  | .returned d,i=>c d i
  |_,_=>False
 |_=>False
def yW.mono{P:ai}{c d:am->World->Prop}{b:Result Next}(h:yW P c b)(g:∀i w,c i w->d i w):yW P d b:=by
 cases b with
 |halt l w=>exact h
 |ok j w=>
  cases j<;>simp only[yW]at h|- <;>first|exact h|exact g _ _ h|skip
  exact Calls.mono h λe k f=>by cases e<;>first|exact g _ _ f|exact f
def yW.wp{P:ai}{o:Oper}{a:Act}{w:World}{c:am->World->Prop}{next:Act->World->Prop}{Q:Exit->Act->World->Prop}
 (h:yW P c ((execOp a.eval o).run P w)) (f:∀g b,c g b->next (a.put o.dst g) b):o.wp P a w next Q:=by
 unfold Oper.wp;generalize(execOp a.eval o).run P w=j at h;cases j with
 |halt k w=>exact h.elim
 |ok i w=>
  cases i<;>simp only[yW]at h<;>simp only[Oper.upon]<;>first|exact h.elim|exact f _ _ h|skip
  exact Calls.mono h λe b d=>by cases e<;>first|exact f _ _ d|exact d.elim
def yW.some{P:ai}{b:am->World->Prop}{d:Result Next}(h:yW P b d):∃g w,b g w:=by
 cases d with
 |halt k w=>exact h.elim
 |ok f w=>
  cases f<;>simp only[yW]at h<;>first|exact h.elim|exact⟨_,_,h⟩|skip
  have⟨e,j,i,c,_⟩:=h [];cases e<;>first|exact⟨_,_,c⟩|exact c.elim
section
variable {P:ai}{cx:Ctx}{base:Nat}{w:World}{μ:Mu}{h h':H}{G:Nat}{e:Env}{a:Act}{o:Oper}
def UC(cx:Ctx)(base:Nat)(w:World)(μ:Mu)(f:Nat)(g:T)(h':H)(d:am)(c:World):Prop:=
 ∃b,eK c.heap b g d/\St cx base c.heap b h'/\oS w μ c b/\xJ μ b f h'.size
def iO.ZT{i:Result Next}{g:Nat}{j:T}(h:iO cx base w μ g i j h'):yW P (UC cx base w μ g j h') i:=by
 obtain⟨m,n,k,l,b,c,d,f⟩:=h;rcases l with rfl|⟨rfl,rfl⟩
 ·exact⟨k,b,c,d,f⟩
 ·exact⟨k,b,c,d,f⟩
theorem LO(iU:iG P cx)(i:St cx base w.heap μ h)(g:jY w.heap μ G e a.tmps){b:Call}(f:o.op= .call b){d:T}
 (c:Ct b cx G e h=some (.val d h')):iO cx base w μ h.size ((execOp a.eval o).run P w) d h':=by
 replace c:=dB.1 c;grind [dB,reduceCtorEq,Dx]
theorem uy{i:Builtin}{r:List ab}{k:List T}{d:aj}{g:List T}(b:kR i cx h r k=some (.call d g)):False:=by
 have n:∀{c:aa T},val h c=some (.call d g)->False:=λf=>Ak f;have v:∀{c:aa (T×H)},jl c=some (.call d g)->False:=by
  intro c f;unfold jl at f;cases c<;>simp[two]at f
 cases i<;>simp only[kR,reduceCtorEq]at b
 case len=>
  split at b
  ·replace b:=dB.1 b;obtain⟨q,_,b⟩:=b;replace b:=dB.1 b;grind
  grind
 case append=>
  split at b
  ·split at b
   ·replace b:=dB.1 b;obtain⟨q,_,b⟩:=b;replace b:=dB.1 b;grind [dJ]
   grind
  grind
 case clear=>
  split at b
  ·split at b
   ·replace b:=dB.1 b;obtain⟨y,_,b⟩:=b;split at b
    ·rename_i m _;cases m<;>simp at b
    ·grind
    ·rename_i j _;cases j with
     |zero=>
      have b:some (kC.val .undef h)=some (.call d g):=b
      grind
     |succ j=>
      replace b:=dB.1 b;obtain⟨l,_,b⟩:=b;obtain⟨x,t,z,u,p,s⟩:=l;obtain⟨_,b⟩:=dJ.1 b;obtain⟨_,b⟩:=dJ.1 b;cases p with
      |true=>grind
      |false=>
       replace b:=dB.1 b;obtain⟨_,_,b⟩:=b;replace b:=dB.1 b;obtain⟨_,_,b⟩:=b;replace b:=dB.1 b;grind
    grind
   grind
  grind
 case min=>split at b<;>first|exact n b|grind
 grind
def IN(k:St cx base w.heap μ h)(j:jY w.heap μ G e a.tmps){c:Call}(r:o.op= .call c){g:aj}{i:List T}
 (b:Ct c cx G e h=some (.call g i)):∃f:af am,fX w.heap μ i f.toList/\(execOp a.eval o).run P w=(callFunc g f).run P w:=by
 replace b:=dB.1 b;obtain⟨v,q,b⟩:=b;have n:=u5 k j q;cases d:c.callee with
 |builtin x=>rw[d]at b;grind [uy]
 |invoke F E=>rw[d]at b;grind
 |value A=>
  rw[d]at b;simp only at b;replace b:=dB.1 b;obtain⟨u,s,b⟩:=b;have t:=fN k j s;cases u<;>simp only[reduceCtorEq]at b;rename_i z y;replace b:=dB.1 b;obtain⟨C,hl,b⟩:=b;simp only[ar,kC.call.injEq]at b;obtain⟨rfl,rfl⟩:=b;obtain⟨l,m,p⟩:=t.qU;rw[pf]at hl;simp only[ar]at hl;refine⟨c.args.map a.eval++l,?_,?_⟩
  ·rw[<-hl];simpa using n.append p
  ·simp[execOp,r,resolve,d,m,Deferred.ofValue,invoke]
def yn(iU:iG P cx)(f:St cx base w.heap μ h)(d:jY w.heap μ G e a.tmps){k:T}
 (b:iT o.op cx G e h=some (.val k h')):iO cx base w μ h.size ((execOp a.eval o).run P w) k h':=by
 cases c:o.op<;>rw[c]at b<;>simp only[iT,reduceCtorEq]at b
 case move g=>grind [AD]
 case assign g=>exact AD f d (.inr c) b
 case pick=>grind [GV]
 case alloc=>grind [E2]
 case box=>grind [IP]
 case build=>grind [E1]
 case buildSlice=>grind [yz]
 case load=>grind [GZ]
 case store=>grind [EU]
 case nilCheck=>grind [AO]
 case binOp q j g Q O=>
  cases q<;>first
   |exact Eb iU (neg:=false) rfl f d c b
   |exact Eb iU (neg:=true) rfl f d c b
   |exact IQ J J f d c b
 case unOp=>grind [LM]
 case convert M t g=>
  replace b:=dB.1 b;obtain⟨N,F,b⟩:=b;replace b:=dB.1 b;obtain⟨L,C,b⟩:=b;replace b:=dB.1 b;obtain⟨l,m,b⟩:=b;split at b
  ·grind [fF,Fl]
  ·rename_i p;split at b
   ·grind [fF,AE]
   ·obtain⟨I,E⟩:=fF.1 b;obtain⟨s,A,i⟩:=j3 (iU.ty _ _ m);rw[p]at i;have:=oX i;grind [HV]
  grind [AE,fF]
 case makeInterface=>grind [EZ]
 case makeFunc=>grind [G5]
 case makeSlice=>grind [zR]
 case slice=>grind [EV]
 case fieldAddr=>grind [z8]
 case field=>grind [E0]
 case indexAddr=>grind [zU]
 case index=>grind [EY]
 case extract=>grind [Cs]
 case makeMap=>grind [Cp]
 case lookup=>grind [Dp]
 case mapUpdate=>grind [zQ]
 case range j g=>
  replace b:=dB.1 b;obtain⟨r,n,b⟩:=b;obtain⟨K,l,R,u,v,x,y,z,_⟩:=(iU.ty j r n).unfold
  grind [EW,oX]
 case next=>grind [GW]
 grind [LO]
def NC(d:aa kC):Prop:=∀b c,d≠some (.call b c)
theorem NC.none:NC none:=λ_ _=>by simp
theorem NC.val{b:aa T}:NC (val h b):=λ_ _=>Ak
def NC.some{b:T}:NC (some (.val b h)):=λ_ _=>by simp
theorem NC.M{f:Type}{d:aa f}{c:f->aa kC}(h:∀b,NC (c b)):NC (M d c):=by
 cases d with
 |none=>exact NC.none
 |some b=>exact h b
theorem NC.fQ{b:Bool}{c:aa kC}(h:NC c):NC (fQ b c):=by
 cases b with
 |false=>exact NC.none
 |true=>exact h
def NC.bool{b:Bool}{c d:aa kC}(f:NC c)(g:NC d):NC (Bool.casesOn b c d):=by
 cases b<;>assumption
def NC.opt{g:Type}{c:aa g}{d:aa kC}{b:g->aa kC}(i:NC d)(j:∀f,NC (b f)):NC (Option.casesOn c d b):=by
 cases c with
 |none=>exact i
 |some f=>grind
def B6{b:Op}(d:∀c,b≠ .call c):NC (iT b cx G e h):=by
 cases b<;>simp only[iT]<;>first
  |exact absurd rfl (d _)
  |exact NC.none
  |skip
 all_goals
  first
   |unfold Co|unfold Ea|unfold Cu|unfold LP|unfold Aa|unfold nK|unfold G4|unfold Ck|unfold qy|unfold hUn|unfold J8|unfold z7|unfold Cr
   |unfold oL|unfold Cm|unfold oN|unfold z9|unfold oM|unfold zW|unfold tJ|unfold yy|unfold GY|unfold tI|unfold wm|unfold qW|skip
 case binOp b f i j g=>
  cases b<;>first
   |(simp only[];unfold VT;exact NC.M λ_=>NC.M λ_=>NC.M λ_=>NC.fQ (NC.M λ_=>NC.val))
   |(simp only[];unfold LQ;exact NC.M λ_=>NC.M λ_=>NC.val)
 all_goals
  repeat first
   |exact NC.none
   |exact NC.val
   |exact NC.some
   |exact NC.new
   |refine NC.M λ_=>?_
   |refine NC.fQ ?_
   |refine NC.bool ?_ ?_
   |split
   |unfold kw
   |unfold oc
   |unfold Cn
   |unfold vk
   |(refine NC.nat ?_ λ_=>?_)
   |(refine NC.opt ?_ λ_=>?_)
   |(unfold two)
def Ga(m:St cx base w.heap μ h)(l:jY w.heap μ G e a.tmps){c:aj}{g:List T}
 (d:iT o.op cx G e h=some (.call c g)):(∃b,o.op= .call b)/\∃i:af am,fX w.heap μ g i.toList/\(execOp a.eval o).run P w=(callFunc c i).run P w:=by
 by_cases j:∃b,o.op= .call b
 ·obtain⟨b,f⟩:=j;rw[f]at d;exact⟨⟨b,f⟩,IN m l f d⟩
 ·exact absurd d (B6 (λb k=>j ⟨b,k⟩) c g)
end
end
section
structure kJ(h h':H):Prop where
 wf:h'.eZ.length=h'.size
 size:h.size<=h'.size
 low:h'.low<=h.low
 jV:∀b,b<h.size->b<h'.low->h'.get b=h.get b
 ver:∀b x,h.get b=some x->∃x',h'.get b=some x'/\(x'=x\/x.ver<x'.ver)
def kJ.refl{h:H}(a:h.eZ.length=h.size):kJ h h:=⟨a,au _,au _,λ_ _ _=>rfl,λ_ c b=>⟨c,b,.inl rfl⟩⟩
def kJ.trans{h d e:H}(b:kJ h d)(a:kJ d e):kJ h e:=by
 refine⟨a.wf,aO b.size a.size,aO a.low b.low,λc f hl=>?_,λc i g=>?_⟩
 ·rw[a.jV c (bp f b.size) hl,b.jV c f (bp hl a.low)]
 ·have⟨j,d,r1⟩:=b.ver c i g;have⟨k,e,r2⟩:=a.ver c j d;refine⟨k,e,?_⟩;rcases r1 with rfl|r1<;>rcases r2 with rfl|r2
  ·simp
  ·omega
  ·omega
  omega
def H.ej{h:H}{a:Nat}{c:iI}(b:h.get a=some c):a<h.size:=by
 rw[H.get_eq]at b
 grind
theorem kJ.cons{h:H}(e:h.eZ.length=h.size)(a:iI):kJ h (h.cons a):=by
 refine⟨by simp[H.cons,e],by simp[H.cons],by simp[H.cons],λc d _=>H.mH d a,λc f b=>⟨f,?_,.inl rfl⟩⟩;rw[H.mH (H.ej b) a];exact b
theorem kJ.put{h b:H}(f:h.eZ.length=h.size){a:Nat}{x e:iI}(i:h.get a=some x)(d:h.put a e=some b)(j:x.ver<e.ver):kJ h b:=by
 have⟨p1,p2,p3,p4⟩:=A1 d f;obtain⟨l,m,rfl⟩:=H.u0.1 d;refine⟨p2,J,?_,λc g hl=>p4 c ?_,λc o k=>?_⟩
 ·simp only;split<;>omega
 ·rintro rfl;simp only at hl;split at hl<;>omega
 grind
def Mv(h:H)(c:aa kC):Prop:=∀b a,c=some (.val b a)->kJ h a
section
variable {h:H}
theorem Mv.none(b:h.eZ.length=h.size):Mv h none:=λ_ _ a=>by grind
theorem Mv.val(b:h.eZ.length=h.size){c:aa T}:Mv h (val h c):=λe d a=>by obtain⟨_,rfl⟩:=fF.1 a;exact kJ.refl b
def Mv.some(c:h.eZ.length=h.size){b:T}:Mv h (some (.val b h)):=λb d a=>by simp at a;obtain⟨_,rfl⟩:=a;exact kJ.refl c
def Mv.new(c:h.eZ.length=h.size){f:Nat->T}{b:iI}:Mv h (jl (h.new f b)):=λe d a=>by
 rw[iX,H.ku]at a;simp only[ar,aB]at a;obtain⟨_,rfl⟩:=a;exact kJ.cons c b
theorem Mv.M(e:h.eZ.length=h.size){d:Type}{a:aa d}{c:d->aa kC}(f:∀b,a=Option.some b->Mv h (c b)):Mv h (M a c):=by
 cases a with
 |none=>exact Mv.none e
 |some b=>simp_all
theorem Mv.fQ(c:h.eZ.length=h.size){a:Bool}{b:aa kC}(d:Mv h b):Mv h (fQ a b):=by
 cases a with
 |false=>exact Mv.none c
 |true=>exact d
def Mv.bool(d:h.eZ.length=h.size){a:Bool}{b c:aa kC}(e:Mv h b)(f:Mv h c):Mv h (Bool.casesOn a b c):=by
 cases a<;>assumption
def Mv.opt(i:h.eZ.length=h.size){e:Type}{b:aa e}{c:aa kC}{a:e->aa kC}(f:Mv h c)(g:∀d,Mv h (a d)):Mv h (Option.casesOn b c a):=by
 cases b with
 |none=>exact f
 |some d=>grind
theorem om(c:h.eZ.length=h.size){e bytes:Nat}{d g:List T}{f:T}{b:H}(a:h.ja e bytes d g=Option.some (f,b)):kJ h b:=by
 replace a:=dB.1 a;obtain⟨i,_,a⟩:=a;replace a:=dB.1 a;obtain⟨j,_,a⟩:=a;have⟨_,a⟩:=dJ.1 a;have⟨_,a⟩:=dJ.1 a;have⟨_,a⟩:=dJ.1 a;have⟨_,a⟩:=dJ.1 a;rw[H.ku]at a;simp only[ar,aB]at a;obtain⟨_,rfl⟩:=a;exact kJ.cons c _
def Dy(s:h.eZ.length=h.size){g bytes c d f:Nat}{k:List T}{i:T}{b:H}(a:h.ma g bytes c d f k=Option.some (i,b)):kJ h b:=by
 replace a:=dB.1 a;obtain⟨j,t,a⟩:=a;obtain⟨v,m,w,p,e,l⟩:=j;simp only at a;replace a:=dB.1 a;obtain⟨o,_,a⟩:=a;replace a:=dB.1 a;obtain⟨n,_,a⟩:=a;replace a:=dB.1 a;obtain⟨u,_,a⟩:=a;have⟨_,a⟩:=dJ.1 a;have⟨_,a⟩:=dJ.1 a;have⟨_,a⟩:=dJ.1 a;have⟨_,a⟩:=dJ.1 a;have⟨_,a⟩:=dJ.1 a;cases e with
 |true=>grind
 |false=>
  simp only[gX,dS]at a;replace a:=dB.1 a;obtain⟨q,r,a⟩:=a;simp only[ar,aB]at a;obtain⟨_,rfl⟩:=a
  grind [kJ.put]
theorem Hy(e:h.eZ.length=h.size){k bytes:Nat}{b:T}{i:List T}{g:T}{c:H}(a:h.append k bytes b i=Option.some (g,c)):kJ h c:=by
 unfold H.append at a;cases i with
 |nil=>
  have a:Go.TI.fQ (oa b) (Option.some (b,h))=Option.some (g,c):=a;obtain⟨_,a⟩:=dJ.1 a;simp only[ar,aB]at a;obtain⟨_,rfl⟩:=a;exact kJ.refl e
 |cons o p=>
  simp only at a;cases b<;>simp only[reduceCtorEq]at a
  case Y j d=>
   cases j with
   |nil=>grind [om]
   |cons q r=>grind [dJ,om]
  case arr l m f n d=>
   cases d with
   |false=>
    cases f with
    |zero=>exact Dy e a
    |succ f=>grind
   |true=>replace a:=dB.1 a;grind [om]
theorem HW(l:h.eZ.length=h.size){e:Ty}{b f:T}{c:H}(a:h.store e b f=Option.some c):kJ h c:=by
 unfold H.store at a;cases b<;>simp only[reduceCtorEq]at a;have⟨_,a⟩:=dJ.1 a;replace a:=dB.1 a;obtain⟨g,m,a⟩:=a;obtain⟨n,j,o,k,d,i⟩:=g;simp only at a;have⟨_,a⟩:=dJ.1 a;cases d with
 |true=>grind
 |false=>
  simp only at a;replace a:=dB.1 a;obtain⟨_,_,a⟩:=a;replace a:=dB.1 a;obtain⟨_,_,a⟩:=a;replace a:=dB.1 a;grind [dS,gX,kJ.put]
def Ot(a:h.eZ.length=h.size){f:Op}{cx:Ctx}{r:Nat}{p:Env}:Mv h (iT f cx r p h):=by
 by_cases l:∃d,f= .call d
 ·obtain⟨d,rfl⟩:=l;simp only[iT];unfold Ct;refine Mv.M a λt _=>?_;split
  ·rename_i o _;cases o<;>simp only[kR]<;>first|exact Mv.none a|skip
   case len=>
    split
    ·unfold L9
     grind [Mv.M,Mv.val,Mv.none]
    grind [Mv.none]
   case append=>
    split
    ·split
     ·unfold iN;refine Mv.M a λ_ _=>Mv.M a λ_ _=>Mv.fQ a ?_;intro c e b
      grind [iX,Hy]
     grind [Mv.none]
    grind [Mv.none]
   case clear=>
    split
    ·split
     ·unfold CV;refine Mv.M a λC _=>?_;split
      ·rename_i k _ _;cases k
       ·exact Mv.some a
       grind [Mv.none]
      ·exact Mv.some a
      ·rename_i j _ _;cases j with
       |zero=>exact Mv.some a
       |succ j=>
        refine Mv.M a λg q=>?_;refine Mv.fQ a (Mv.fQ a (Mv.bool a ?_ ?_))
        ·refine Mv.M a λk _=>?_;simp only[gX,dS];refine Mv.M a λi m=>?_;intro c e b;simp only[ar,kC.val.injEq]at b;obtain⟨_,rfl⟩:=b
         grind [kJ.put]
        grind [Mv.none]
      grind [Mv.none]
     grind [Mv.none]
    grind [Mv.none]
   all_goals (split<;>first|exact Mv.val a|exact Mv.none a)
  ·refine Mv.M a λc _=>?_;split
   ·refine Mv.M a λj _=>?_;intro c e b
    grind
   grind [Mv.none]
  grind [Mv.none]
 cases f<;>simp only[iT]<;>first
  |exact Mv.none a
  |exact(l ⟨_,rfl⟩).elim
  |skip
 case binOp f n g G F=>
  cases f<;>first
   |(simp only[];unfold VT;exact Mv.M a λ_ _=>Mv.M a λ_ _=>Mv.M a λ_ _=>Mv.fQ a (Mv.M a λ_ _=>Mv.val a))
   |(simp only[];unfold LQ;exact Mv.M a λ_ _=>Mv.M a λ_ _=>Mv.val a)
 case store n s g=>
  unfold Ck;refine Mv.M a λ_ _=>Mv.M a λ_ _=>Mv.M a λ_ _=>Mv.fQ a (Mv.M a λi w=>?_);intro c e b;simp only[ar,kC.val.injEq]at b;obtain⟨_,rfl⟩:=b
  grind [HW]
 case mapUpdate n y x g=>
  unfold qW;refine Mv.M a λE _=>?_;split
  ·refine Mv.M a λ_ _=>Mv.M a λ_ _=>Mv.M a λ_ _=>Mv.M a λ_ _=>Mv.fQ a (Mv.fQ a ?_);split
   ·refine Mv.M a λu v=>Mv.fQ a (Mv.M a λz _=>?_);simp only[gX,dS];refine Mv.M a λ_ _=>Mv.M a λi m=>?_;intro c e b;simp only[ar,kC.val.injEq]at b;obtain⟨_,rfl⟩:=b
    grind [kJ.put]
   grind [Mv.none]
  grind [Mv.none]
 case next it A=>
  unfold GY;refine Mv.bool a ?_ ?_
  ·exact Mv.none a
  ·unfold vk;refine Mv.M a λc _=>?_;cases c<;>simp only<;>first|exact Mv.none a|skip
   refine Mv.M a λg q=>Mv.fQ a ?_;split
   ·refine Mv.bool a (Mv.some a) (Mv.M a λd _=>?_);obtain⟨d,wd⟩:=d;simp only[km,gX,dS];refine Mv.M a λi m=>?_;intro c e b;simp only[ar,kC.val.injEq]at b;obtain⟨_,rfl⟩:=b
    grind [kJ.put]
   grind [Mv.none]
 all_goals
  first
   |unfold Co|unfold Ea|unfold Cu|unfold LP|unfold Aa|unfold nK|unfold G4|unfold qy|unfold hUn|unfold J8|unfold z7|unfold Cr
   |unfold oL|unfold Cm|unfold oN|unfold z9|unfold oM|unfold zW|unfold tJ|unfold tI|unfold wm|unfold yy|skip
 all_goals
  repeat first
   |exact Mv.none a
   |exact Mv.val a
   |exact Mv.some a
   |exact Mv.new a
   |refine Mv.M a λ_ _=>?_
   |refine Mv.fQ a ?_
   |refine Mv.bool a ?_ ?_
   |split
   |unfold kw
   |unfold oc
   |unfold Cn
   |(refine Mv.opt a ?_ λ_=>?_)
   |(unfold two)
end
end
section
inductive oR (n:Nat):T->Prop where
 |undef:oR n .undef
 |bool (b:Bool):oR n (.bool b)
 |int (k:ak) (m:Int):oR n (.int k m)
 |str (s:List Nat):oR n (.str s)
 |jQ:oR n .jQ
 |ptr (b ep i j:Nat) (h:b<n):oR n (.ptr b ep i j)
 |jh (cs:List T) (h:∀v∈cs,oR n v):oR n (.jh cs)
 |Y (es:List T) (full:Bool) (h:∀v∈eY es,oR n v):oR n (.Y es full)
 |fK:oR n .fK
 |arr (b ep o l:Nat) (full:Bool) (h:b<n):oR n (.arr b ep o l full)
 |func (f:aj) (cs:List T) (h:∀v∈cs,oR n v):oR n (.func f cs)
 |kj:oR n .kj
 |kq:oR n .kq
 |iface (t:ab) (v:T) (h:oR n v):oR n (.iface t v)
 |iter (b:Nat) (h:b<n):oR n (.iter b)
 |map (b:Nat) (h:b<n):oR n (.map b)
 |mw:oR n .mw
 |agg (cs:List T) (h:∀v∈cs,oR n v):oR n (.agg cs)
 |tuple (vs:List T) (h:∀v∈vs,oR n v):oR n (.tuple vs)
theorem oR.cells{n:Nat}{b:T}(h:oR n b):∀c∈b.cells,oR n c:=by
 cases h with
 |agg d h=>exact h
 |_=>intro c a;simp[T.cells]at a;subst a;constructor<;>assumption
def j9.low{a:T}(h:j9 a)(n:Nat):oR n a:=by
 induction h with
 |Y c d _ i=>
  refine .Y c d λa f=>?_;have⟨b,e,g⟩:=List.mem_flatMap.1 f;exact(i b e).cells a g
 |_=>constructor<;>assumption
def eK.low{hp:af Obj}{μ:Mu}{a:T}{k:am}(h:eK hp μ a k){n:Nat}(g:∀c e,μ c=some e->c<n):oR n a:=by
 induction h with
 |ptr c s w K e j b t F=>exact .ptr _ _ _ _ (g _ _ b)
 |arr c s M L m e j z b t hl h=>exact .arr _ _ _ _ _ (g _ _ b)
 |iter c e j b h=>exact .iter _ (g _ _ b)
 |map c e w b h=>exact .map _ (g _ _ b)
 |jh r q off arr p fz v u i o hr d=>exact .jh _ λa f=>by grind [c8]
 |mX m j=>exact .Y _ _ λa f=>by grind [eY]
 |Y A C m q off x N arr p fz v u hl G I i o hr d=>exact .Y _ _ λa f=>by grind [c8]
 |func E y l i hr d=>exact .func _ _ λa f=>by grind [c8]
 |agg r l i o hr d=>exact .agg _ λa f=>by grind [c8]
 |tuple O l i hr d=>exact .tuple _ λa f=>by grind [c8]
 |iface p a k h d=>exact .iface _ _ d
 |_=>constructor
def lZ(n:Nat)(μ:Mu):Mu:=⟨λa=>if a<n then μ a else none,μ.mt⟩
def tL{n a:Nat}{μ:Mu}(h:a<n):lZ n μ a=μ a:=by simp[lZ,h]
def jT{n a:Nat}{μ:Mu}{b:Loc}(h:lZ n μ a=some b):a<n/\μ a=some b:=by
 have h:(if a<n then μ a else none)=some b:=h
 grind
theorem wa{n a:Nat}{μ:Mu}(h:¬mR μ a):¬mR (lZ n μ) a:=by
 rintro(⟨c,b,d,rfl⟩|hr)
 ·exact h (.inl ⟨c,b,(jT d).2,rfl⟩)
 ·exact h (.inr hr)
def eK.cut{hp:af Obj}{μ:Mu}{a:T}{q:am}(h:eK hp μ a q){n:Nat}(hl:oR n a):eK hp (lZ n μ) a q:=by
 induction h with
 |undef=>exact .undef
 |bool f=>exact .bool f
 |int d O=>exact .int d O
 |str Q h=>exact .str Q h
 |jQ=>exact .jQ
 |ptr f u z M i e j v I=>cases hl with|ptr _ _ _ _ h=>exact .ptr f u z M i e (by rw[tL h];exact j) v I
 |jh t r off arr p fz y w g o hr c=>
  cases hl with|jh _ h=>exact .jh t r off arr p fz (wa y) w g o λd a b=>c d a b (h a (ax b))
 |mX l e=>exact .mX l e
 |Y E F l r off s R arr p fz y w x K L g o hr c=>
  cases hl with|Y _ _ h=>exact .Y E F l r off s R arr p fz (wa y) w x K L g o λd a b=>c d a b (h a (ax b))
 |fK e s=>exact .fK e s
 |arr f u P N l i e C j v x m=>cases hl with|arr _ _ _ _ _ h=>exact .arr f u P N l i e C (by rw[tL h];exact j) v x m
 |func G A k g hr c=>cases hl with|func _ _ h=>exact .func G A k g λd a b=>c d a b (h a (ax b))
 |kj=>exact .kj
 |kq=>exact .kq
 |iface p a q h c=>cases hl with|iface _ _ h=>exact .iface p a q (c h)
 |iter f i e j m=>cases hl with|iter _ h=>exact .iter f i e (by rw[tL h];exact j) m
 |map f i z j m=>cases hl with|map _ h=>exact .map f i z (by rw[tL h];exact j) m
 |mw=>exact .mw
 |agg t k g o hr c=>cases hl with|agg _ h=>exact .agg t k g o λd a b=>c d a b (h a (ax b))
 |tuple S k g hr c=>cases hl with|tuple _ h=>exact .tuple S k g λd a b=>c d a b (h a (ax b))
def fX.cut{hp:af Obj}{μ:Mu}{b:List T}{c:List am}(h:fX hp μ b c){n:Nat}(hl:∀a∈b,oR n a):fX hp (lZ n μ) b c:=
 ⟨h.1,λe a d=>(h.2 e a d).cut (hl a (ax d))⟩
def p8.cut{hp:af Obj}{μ:Mu}{l:Loc}{j:iI}(h:p8 hp μ l j){n:Nat}(hl:∀g∈eY j.eg,oR n g):p8 hp (lZ n μ) l j:=by
 refine⟨h.ep,h.sz,λb=>?_,λb=>?_⟩
 ·have f:=h.plain b;have⟨p,F,a,c,d⟩:=f.row;exact⟨⟨p,F,a,c,d.cut hl⟩,f.room,f.sw,f.size,f.scalar⟩
 ·obtain⟨m,a|⟨r,a,c,d⟩|⟨z,y,C,E,q,a,c,d,w⟩⟩:=h.iter b
  ·grind
  rotate_left
  ·exact⟨m,.inr (.inr ⟨z,y,C,E,q,a,c.cut (hl _ (by rw[a];simp[eY,T.cells])),d,w⟩)⟩
  ·refine⟨m,.inr (.inl ⟨r,a,c,λx k o=>?_⟩)⟩;have⟨b,g,A,i,s,t,u,v⟩:=d x k o;have e:=hl k (List.mem_flatMap.2 ⟨k,ax o,by rw[i];simp[T.cells]⟩);rw[i]at e;cases e with|tuple _ e=>exact⟨b,g,A,i,s,t,u.cut (e b J),v.cut (e g J)⟩
def p8.low{hp:af Obj}{μ:Mu}{e:Loc}{k:iI}(h:p8 hp μ e k){n:Nat}(c:∀l e,μ l=some e->l<n):∀j∈eY k.eg,oR n j:=by
 intro j a;cases d:k.it with
 |false=>
  have⟨y,N,f,g,b⟩:=(h.plain d).row;have⟨o,t⟩:=List.mem_iff_getElem?.1 a;exact(b.2 o j t).low c
 |true=>
  obtain⟨_,⟨L,w,s,_⟩|⟨A,f,g,b⟩|⟨I,G,w,M,z,f,g,b,F⟩⟩:=h.iter d
  ·rw[s]at a;simp[eY,T.cells]at a;rcases a with rfl|rfl<;>constructor
  rotate_left
  ·rw[f]at a;simp[eY,T.cells]at a;rcases a with rfl|rfl|rfl|rfl
   ·exact g.low c
   all_goals constructor
  ·have⟨x,u,i⟩:=List.mem_flatMap.1 a;have⟨v,d⟩:=List.mem_iff_getElem?.1 u;have⟨o,O,K,p,C,E,q,r⟩:=b v x d;rw[p]at i;simp[T.cells]at i;subst i;refine .tuple _ λP m=>?_;simp at m;rcases m with rfl|rfl
   ·exact q.low c
   ·exact r.low c
inductive ir {α β:Type} (R:α->β->Prop):List α->List β->Prop where
 |nil:ir R [] []
 |cons {a:α} {b:β} {l:List α} {m:List β} (h:R a b) (t:ir R l m):ir R (a::l) (b::m)
def ir.imp{g i:Type}{b c:g->i->Prop}{e:List g}{f:List i}(h:ir b e f)(j:∀a d,b a d->c a d):ir c e f:=by
 induction h with
 |nil=>exact .nil
 |cons a _ k=>exact .cons (j _ _ a) k
def ir.length{c d:Type}{e:c->d->Prop}{a:List c}{b:List d}(h:ir e a b):a.length=b.length:=by
 induction h with
 |nil=>rfl
 |cons _ _ f=>grind
theorem ir.append{f g:Type}{a:f->g->Prop}{b c:List f}{d e:List g}(h:ir a b d)(j:ir a c e):ir a (b++c) (d++e):=by
 induction h with
 |nil=>exact j
 |cons i _ k=>exact .cons i k
def ir.get{g a:Type}{b:g->a->Prop}{c:List g}{d:List a}(h:ir b c d){k:Nat}{f:a}(j:d[k]? =some f):∃e,c[k]? =some e/\b e f:=by
 induction h generalizing k with
 |nil=>grind
 |cons i _ l=>grind
def ir.mem{g a:Type}{b:g->a->Prop}{c:List g}{d:List a}(h:ir b c d){f:a}(j:f∈d):∃e∈c,b e f:=by
 have⟨l,i⟩:=List.mem_iff_getElem?.1 j;have⟨e,k,m⟩:=h.get i
 grind
def ir.map{b:Type}{g:b->aa b}{f:b->b->Prop}{a e:List b}(i:∀c∈a,∀d,g c=some d->f c d)(h:fG g a=some e):ir f a e:=by
 induction a generalizing e with
 |nil=>simp at h;subst h;exact .nil
 |cons c a k=>
  rw[jp]at h;replace h:=dB.1 h;obtain⟨d,j,h⟩:=h;replace h:=dB.1 h;obtain⟨o,ht,h⟩:=h;simp at h;subst h;exact .cons (i c J d j) (k (λl m=>i l (by grind)) ht)
structure Fz(hp:af Obj)(μ:Mu)(n:Nat)(v v':T):Prop where
 rel:∀c,eK hp μ v c->eK hp (lZ n μ) v' c
 scalar:v'.scalar=v.scalar
 cells:ir (λx x'=>(∀c,eK hp μ x c->eK hp (lZ n μ) x' c)/\x'.scalar=x.scalar/\j9 x') v.cells v'.cells
 closed:j9 v'
theorem ir.eY{a:T->T->Prop}{b c:List T}(h:ir (λf g=>ir a f.cells g.cells) b c):ir a (TI.eY b) (TI.eY c):=by
 induction h with
 |nil=>exact .nil
 |cons d _ e=>simpa[TI.eY]using ir.append d e
section
variable {cx:Ctx}{base:Nat}{hp:af Obj}{μ:Mu}{h:H}{n:Nat}
def Fz.same{b:T}(hl:j9 b)(a:b.cells=[b]):Fz hp μ n b b:=
 ⟨λc a=>a.cut (hl.low n),rfl,by rw[a];exact .cons ⟨λc a=>a.cut (hl.low n),rfl,hl⟩ .nil,hl⟩
def AS{a:T}(b:∀d∈a.cells,j9 d):j9 a:=by
 cases a with
 |agg c=>exact .agg c b
 |_=>exact b _ (by simp[T.cells])
def FX{a:List T}(e:∀d∈a,∃b,eK hp μ d b):∃c,fX hp μ a c:=by
 induction a with
 |nil=>exact⟨[],fX.nil⟩
 |cons j a i=>
  have⟨b,f⟩:=e j J;have⟨c,g⟩:=i λd k=>e d (by grind);exact⟨b::c,fX.cons f g⟩
def Ez{a:T}(d:∀c∈a.cells,∃b,eK hp μ c b)(g:∀c∈a.cells,c.scalar=true):∃b,eK hp μ a b:=by
 cases a with
 |agg f=>
  have⟨e,hl⟩:=FX d;exact⟨.agg e.toArray,eK.wX (by have hl:fX hp μ f e:=hl;omega) g⟩
 |_=>exact d _ (by simp[T.cells])
def fX.mem{b:List T}{d:List am}(h:fX hp μ b d){a:T}(f:a∈b):∃c,eK hp μ a c:=by
 have⟨g,e⟩:=List.mem_iff_getElem?.1 f;exact⟨_,h.2 g a e⟩
def E4(s:St cx base hp μ h):∀(F:Nat) (d c:T),(∃o,eK hp μ d o)->freeze h n F d=some c->Fz hp μ n d c:=by
 intro F;induction F with
 |zero=>intro d c _ b;simp[freeze]at b
 |succ F bH=>
  intro d c al b;cases d with
  |undef=>exact absurd b (by show¬(none=some c);simp)
  |ptr=>exact absurd b (by show¬(none=some c);simp)
  |jh=>exact absurd b (by show¬(none=some c);simp)
  |func=>exact absurd b (by show¬(none=some c);simp)
  |iface=>exact absurd b (by show¬(none=some c);simp)
  |iter=>exact absurd b (by show¬(none=some c);simp)
  |map=>exact absurd b (by show¬(none=some c);simp)
  |mw=>exact absurd b (by show¬(none=some c);simp)
  |tuple=>exact absurd b (by show¬(none=some c);simp)
  |bool l=>have b:some (T.bool l)=some c:=b;simp only[ar]at b;subst b;exact Fz.same (.bool l) rfl
  |int x m=>have b:some (T.int x m)=some c:=b;simp only[ar]at b;subst b;exact Fz.same (.int x m) rfl
  |str l=>have b:some (T.str l)=some c:=b;simp only[ar]at b;subst b;exact Fz.same (.str l) rfl
  |jQ=>have b:some (T.jQ)=some c:=b;simp only[ar]at b;subst b;exact Fz.same .jQ rfl
  |fK=>have b:some (T.fK)=some c:=b;simp only[ar]at b;subst b;exact Fz.same .fK rfl
  |kj=>have b:some (T.kj)=some c:=b;simp only[ar]at b;subst b;exact Fz.same .kj rfl
  |kq=>have b:some (T.kq)=some c:=b;simp only[ar]at b;subst b;exact Fz.same .kq rfl
  |Y r A=>
   have b:some (T.Y r A)=some c:=b;simp only[ar]at b;subst b;obtain⟨o,q⟩:=al;refine Fz.same ?_ rfl;cases q with
   |mX=>exact .Y _ _ λd g=>by simp at g
   |Y e r A et off eu eo arr t fz eC b hl bn eE eD q hr=>
    exact .Y _ _ λd g=>AS λi f=>(q i (List.mem_flatMap.2 ⟨d,g,f⟩)).2
  |agg S=>
   have b:(M (fG (freeze h n F) S) λz=>some (T.agg z))=some c:=b;replace b:=dB.1 b;obtain⟨z,hr,b⟩:=b;simp only[ar]at b;subst b;obtain⟨o,q⟩:=al;obtain⟨b9,rfl,N,dv⟩:=q.o8;have p:ir (Fz hp μ n) S z:=ir.map (λi f C av=>bH i C (N.mem f) av) hr;have ae:∀d∈z,j9 d:=λd g=>by obtain⟨i,_,f⟩:=p.mem g;exact f.closed
   have ea:∀d∈z,d.scalar=true:=λd g=>by obtain⟨i,dk,f⟩:=p.mem g;rw[f.scalar];exact dv i dk
   refine⟨λo q=>?_,rfl,?_,.agg z ae⟩
   ·obtain⟨b9,rfl,N,_⟩:=q.o8;refine eK.wX ⟨by rw[<-p.length];exact N.1,λx d bz=>?_⟩ ea;obtain⟨i,f,bn⟩:=p.get bz;exact bn.rel _ (N.2 x i f)
   ·show ir _ S z;exact p.imp λa l K=>⟨K.rel,K.scalar,K.closed⟩
  |arr l U v u A=>
   have b:fQ (Nat.ble n l) (M (h.get l) λi=> @iI.rec (λ_=>aa T) (λ_ V _ exact aE k=>
    fQ (Nat.beq V U) (@Bool.rec (λ_=>aa T) (M (M (jB v k) λz=>takeN u z) λr=>M (fG (freeze h n F) r) λG=>
     @List.rec T (λ_=>aa T) (@List.rec T (λ_=>aa T) (@Bool.rec (λ_=>aa T) (some .fK) (some (.Y [] false)) exact) (λ_ _ _=>some .fK) k) (λ_ _ _=>some (.Y G A)) G) none aE)) i)=some c:=b
   obtain⟨bC,b⟩:=dJ.1 b;have bC:n<=l:=aU bC;replace b:=dB.1 b;obtain⟨b7,cL,b⟩:=b;obtain⟨eo,V,eH,W,aE,k⟩:=b7;simp only at b;obtain⟨bk,b⟩:=dJ.1 b;have bk:V=U:=aC bk;cases aE with
   |true=>simp at b
   |false=>
    replace b:=dB.1 b;obtain⟨r,w,b⟩:=b;replace b:=dB.1 b;obtain⟨G,c4,O⟩:=b;obtain⟨de,w⟩:v+u<=k.length/\r=(k.drop v).take u:=by
     replace w:=dB.1 w;obtain⟨r0,E,p⟩:=w;rw[lA]at E;split at E
     ·simp only[ar]at E;subst E;rw[m6]at p;split at p
      ·simp only[ar]at p;rename_i di dd;simp only[List.length_drop]at dd;exact⟨B,p.symm⟩
      ·simp at p
     ·simp at E
    have aN:∀o,eK hp μ (.arr l U v u A) o->eK hp (lZ n μ) c o/\j9 c/\c.cells=[c]/\c.scalar=true:=by
     intro o q;obtain⟨j,er,aX,rfl,X,bi,hl,ds⟩:=q.rX;obtain⟨eI,I,P⟩:=s.box l j X;rw[cL]at I;simp only[ar]at I;subst I;have ca:=P.ep;simp only at ca;obtain⟨bu,dm,cb⟩:=ds B;have y:=P.plain rfl;simp only at y;obtain⟨arr,t,E,p,a7⟩:=y.row;have bl:∀d∈r,d.cells.length=j.sz:=λd g=>y.size d (bw (br (w▸g)));have dn:∀d∈eY k,∃o,eK hp μ d o:=λd g=>a7.mem g;have bB:∀d∈r,d∈k:=λd g=>bw (br (w▸g));have L:ir (Fz hp μ n) r G:=ir.map (λi f C av=>bH i C (Ez (λR aA=>dn R (List.mem_flatMap.2 ⟨i,bB i f,aA⟩)) λR aA=>y.scalar R (List.mem_flatMap.2 ⟨i,bB i f,aA⟩)) av) c4;have ap:G.length=u:=by rw[<-L.length,w];simp;omega
     have c1:W=true->j.cap=k.length:=y.sw;cases G with
     |nil=>
      have c9:u=0:=by simpa using ap.symm
      subst c9;have bi:c= .fK\/(k=[]/\W=true/\c= .Y [] false):=by
       cases k with
       |cons R eL=>have b:some T.fK=some c:=O;simp only[ar]at b;exact .inl b.symm
       |nil=>
        cases W with
        |false=>have b:some T.fK=some c:=O;simp only[ar]at b;exact .inl b.symm
        |true=>have b:some (T.Y [] false)=some c:=O;simp only[ar]at b;exact .inr ⟨rfl,rfl,b.symm⟩
      rcases bi with rfl|⟨rfl,rfl,rfl⟩
      ·exact⟨.fK _ _,.fK,rfl,rfl⟩
      ·have a8:j.cap=0:=by simpa using c1 rfl
       have:aX=0:=by
        cases A with
        |false=>have:=dm rfl;omega
        |true=>exact bu rfl
       subst this;exact⟨.mX _ _,.Y _ _ λd g=>by simp at g,rfl,rfl⟩
     |cons C Q=>
      have b:some (T.Y (C::Q) A)=some c:=O;simp only[ar]at b;subst b;simp only[aY]at ap;have ae:∀d∈C::Q,j9 d:=λd g=>by obtain⟨i,_,f⟩:=L.mem g;exact f.closed
      refine⟨?_,.Y _ _ ae,rfl,rfl⟩;rw[cb B,<-ap];have an:=ir.eY (L.imp λa l K=>K.cells);have c7:(eY (C::Q)).length=u*j.sz:=by rw[<-an.length,gD bl,w];congr 1;simp;omega
      have bs:eY r=((eY k).drop (v*j.sz)).take (u*j.sz):=by rw[w];exact Cy y.size v u
      have c6:(eY k).length=k.length*j.sz:=gD y.size;have ey:v*j.sz+u*j.sz<=k.length*j.sz:=by rw[<-bW];exact aV _ de
      have eA:k.length*j.sz<=j.cap*j.sz:=aV _ y.room;refine .Y C Q A j.iE (v*j.sz) aX j.sz arr t (0,0) ?_ E B (λx=>by rw[bu x];omega) ?_ ?_ ?_ ?_
      ·rintro(⟨b6,bT,ce,cp⟩|hr)
       ·obtain⟨eF,eh⟩:=jT ce;have:=s.inj b6 l bT j eh X cp;omega
       ·exact s.apart l j X hr
      ·intro d g;obtain⟨i,f,ec⟩:=L.mem g;rw[<-ec.cells.length];exact bl i f
      ·rw[c7,p];omega
      ·intro d g;obtain⟨i,f,I,P,eb⟩:=an.mem g;refine⟨?_,eb⟩;rw[P];rw[bs]at f;exact y.scalar i (bw (br f))
      ·intro x d g;obtain⟨i,f,I,_⟩:=an.get g;refine I _ ?_;rw[bs,cg]at f;split at f
       ·rename_i bz;rw[bJ]at f;have:=a7.2 _ i f;have di:v*j.sz+x<(eY k).length:=by rw[c6];omega
        have eB:v*j.sz+x<arr.size:=by rw[p];omega
        simp_all
       grind
    obtain⟨b8,a8⟩:=al;obtain⟨_,bN,ef,bS⟩:=aN b8 a8;exact⟨λo q=>(aN o q).1,by rw[bS];rfl,by rw[ef];exact .cons ⟨λo q=>(aN o q).1,by rw[bS];rfl,bN⟩ .nil,bN⟩
end
end
section
section
variable {cx:Ctx}{base:Nat}{hp:af Obj}{μ:Mu}{h:H}{n:Nat}
def tK(t:St cx base hp μ h){e c:T}(q:∃d,eK hp μ e d)(a:iu h n e=some c):
 (∀d,eK hp μ e d->eK hp (lZ n μ) c d)/\c.scalar=e.scalar:=by
 have s:freeze h n 12 e=some c->(∀d,eK hp μ e d->eK hp (lZ n μ) c d)/\c.scalar=e.scalar:=λr=>
  let m:=E4 t 12 e c q r
  ⟨m.rel,m.scalar⟩
 cases e with
 |undef=>
  have a:some T.undef=some c:=a;simp only[ar]at a;subst a;exact⟨λd g=>g.cut .undef,rfl⟩
 |ptr b i o p=>
  have a: @Bool.rec (λ_=>aa T) (some (.ptr b i o p)) none (Nat.ble n b)=some c:=a;cases f:Nat.ble n b with
  |true=>rw[f]at a;grind
  |false=>
   rw[f]at a;have a:some (T.ptr b i o p)=some c:=a;simp only[ar]at a;subst a;have:b<n:=by
    grind [aM,bR]
   exact⟨λd g=>g.cut (.ptr _ _ _ _ this),rfl⟩
 |map b=>
  have a: @Bool.rec (λ_=>aa T) (some (.map b)) none (Nat.ble n b)=some c:=a;cases f:Nat.ble n b with
  |true=>rw[f]at a;grind
  |false=>
   rw[f]at a;have a:some (T.map b)=some c:=a;simp only[ar]at a;subst a;have:b<n:=by
    grind [aM,bR]
   exact⟨λd g=>g.cut (.map _ this),rfl⟩
 |arr b i l k j=>
  have a: @Bool.rec (λ_=>aa T) (some (.arr b i l k j)) (freeze h n 12 (.arr b i l k j)) (Nat.ble n b)=some c:=a;cases f:Nat.ble n b with
  |true=>rw[f]at a;grind
  |false=>
   rw[f]at a;have a:some (T.arr b i l k j)=some c:=a;simp only[ar]at a;subst a;have:b<n:=by
    grind [aM,bR]
   exact⟨λd g=>g.cut (.arr _ _ _ _ _ this),rfl⟩
 |_=>exact s a
theorem Dj(s:St cx base hp μ h){d c:List T}{k:List am}(f:fX hp μ d k)(p:fG (iu h n) d=some c):
 fX hp (lZ n μ) c k/\∀b∈c,∃i∈d,b.scalar=i.scalar:=by
 have e:ir (λg o=>(∀j,eK hp μ g j->eK hp (lZ n μ) o j)/\o.scalar=g.scalar) d c:=ir.map (λb a i m=>tK s (f.mem a) m) p;refine⟨⟨by rw[<-e.length];exact f.1,λr g q=>?_⟩,λb a=>?_⟩
 ·have⟨b,a,l⟩:=e.get q;exact l.1 _ (f.2 r b a)
 ·have⟨i,m,l⟩:=e.mem a
  grind
def pQ(i:St cx base hp μ h){d e:T}{b:am}(c:eK hp μ d b)(a:j7 h n d=some e):eK hp (lZ n μ) e b:=by
 cases d with
 |agg g=>
  have a:(M (fG (iu h n) g) λf=>some (T.agg f))=some e:=a;replace a:=dB.1 a;obtain⟨f,hr,a⟩:=a;simp only[ar]at a;subst a;obtain⟨j,rfl,k,l⟩:=c.o8
  grind [Dj,eK.wX]
 |_=>exact(tK i ⟨b,c⟩ a).1 b c
def uu(k:St cx base hp μ h){c d:T}{b:am}(e:eK hp μ c b)(a:iZ h n c=some d):eK hp (lZ n μ) d b:=by
 cases c with
 |tuple l=>
  have a:(M (fG (j7 h n) l) λf=>some (T.tuple f))=some d:=a;replace a:=dB.1 a;obtain⟨f,hr,a⟩:=a;simp only[ar]at a;subst a;obtain⟨o,rfl,i⟩:=e.zK;have g:ir (λc d=>∀b,eK hp μ c b->eK hp (lZ n μ) d b) l f:=ir.map (λm j t r b e=>pQ k e r) hr;refine .tuple f o (by rw[<-g.length];simpa using i.1.symm) λs c q=>?_;have⟨m,j,p⟩:=g.get q;have:=p _ (i.2 s m j);simp_all
 |_=>exact pQ k e a
theorem kX{b:T}{i:am}(g:eK hp μ b i)(a:j8 n b=true):oR n b:=by
 cases b with
 |ptr c j m o=>exact .ptr _ _ _ _ (by have a:Nat.blt c n=true:=a;rwa[aF]at a)
 |arr c j q p k=>exact .arr _ _ _ _ _ (by have a:Nat.blt c n=true:=a;rwa[aF]at a)
 |map c=>exact .map _ (by have a:Nat.blt c n=true:=a;rwa[aF]at a)
 |jh l=>
  have⟨_,_,_,_,_,_,_,_,_,d,_⟩:=g.lx;exact .jh _ λb e=>(d b e).2.low n
 |Y f k=>
  refine .Y _ _ λb e=>?_;cases f with
  |nil=>grind [eY]
  |cons r f=>have⟨_,_,_,_,_,_,_,_,_,_,_,_,_,_,d,_⟩:=g.tz;exact(d b e).2.low n
 |undef=>grind [j8]
 |func=>grind [j8]
 |iface=>grind [j8]
 |iter=>grind [j8]
 |agg=>grind [j8]
 |tuple=>grind [j8]
 |_=>constructor
def L8{i:T}(g:below n i=true)(b:∀c∈i.cells,∃d,eK hp μ c d):∀c∈i.cells,oR n c:=by
 cases i with
 |agg e=>
  intro c a;have⟨d,b⟩:=b c a;exact kX b (pL (show wC (j8 n) e=true from g) c a)
 |func p e=>
  intro c a;have⟨d,b⟩:=b c a;simp[T.cells]at a;subst a;obtain⟨m,rfl,j⟩:=b.qU;exact .func _ _ λl f=>by have⟨o,k⟩:=j.mem f;exact kX k (pL (show wC (j8 n) e=true from g) l f)
 |tuple e=>
  intro c a;have⟨d,b⟩:=b c a;simp[T.cells]at a;subst a;obtain⟨m,rfl,j⟩:=b.zK;exact .tuple _ λl f=>by have⟨o,k⟩:=j.mem f;exact kX k (pL (show wC (j8 n) e=true from g) l f)
 |_=>
  intro c a;have⟨d,b⟩:=b c a;simp[T.cells]at a;subst a;exact kX b g
def CU{a:Nat}{c:List iI}(b:rj n a c=true):∀d e,d<a->c[d]? =some e->∀j∈e.eg,below n j=true:=by
 induction a generalizing c with
 |zero=>omega
 |succ a m=>
  intro d e k l;cases c with
  |nil=>grind
  |cons g i=>
   have b: @Bool.rec (λ_=>Bool) false (rj n a i) (wC (below n) g.eg)=true:=b;cases f:wC (below n) g.eg with
   |false=>rw[f]at b;grind
   |true=>
    rw[f]at b
    grind [pL]
def St.cut(c:St cx base hp μ h)(y:n<=h.size){low:Nat}(hl:∀a b e,a<n->μ a=some b->h.get a=some e->∀f∈eY e.eg,oR n f):
 St cx base hp (lZ n μ) ⟨n,low,h.eZ.drop (h.size-n)⟩:=by
 have t:∀a,a<n->(⟨n,low,h.eZ.drop (h.size-n)⟩:H).get a=h.get a:=by
  intro a d;rw[H.get_eq,H.get_eq];have g:a<h.size:=B
  grind
 refine⟨?_,c.fit,?_,?_,?_,λa b d=>c.apart a b (jT d).2,c.pY,?_⟩
 ·simp only[List.length_drop,c.wf];omega
 ·intro a b d;have⟨j,k⟩:=jT d;have⟨e,i,u⟩:=c.box a b k;exact⟨e,by rw[t a j];exact i,u.cut (hl a b e j k i)⟩
 ·intro a m b l g q r;exact c.inj a m b l (jT g).2 (jT q).2 r
 ·intro a b d;exact c.low a b (jT d).2
 ·intro p o s;have:=c.yA p o s;refine this.cut ?_;have⟨_,_,_,_,_,_,_,_,_,v,_⟩:=this.lx;exact .jh _ λf x=>(v f x).2.low n
def St.JK(a:St cx base hp μ h)(e:Nat):St cx base hp μ ⟨h.size,e,h.eZ⟩:=by
 refine⟨a.wf,a.fit,λc b d=>?_,a.inj,a.low,a.apart,a.pY,a.yA⟩;have⟨i,g,f⟩:=a.box c b d
 grind [H.get_eq]
def Left(cx:Ctx)(base:Nat)(w w':World)(μ:Mu)(d:H)(e:T)(b:H)(c:am):Prop:=
 ∃a,eK w'.heap a e c/\St cx base w'.heap a b/\oS w μ w' a/\xJ μ a d.size b.size
theorem H.qz(h:H)(b a:Nat):(⟨h.size,b,h.eZ⟩:H).get a=h.get a:=by rw[H.get_eq,H.get_eq]
def Cw{n low0 low:Nat}{b:List iI}(c:kJ ⟨n,n,b⟩ h)(hl:low<=low0)(g:∀a,a<n->a<low->a<h.low):kJ ⟨n,low0,b⟩ ⟨h.size,low,h.eZ⟩:=by
 have d:∀a,(⟨n,low0,b⟩:H).get a=(⟨n,n,b⟩:H).get a:=λa=>by rw[H.get_eq,H.get_eq]
 refine⟨c.wf,c.size,hl,λa e i=>?_,λa j f=>?_⟩
 ·rw[H.qz,d];exact c.jV a e (g a e i)
 ·rw[d]at f;have⟨m,k,l⟩:=c.ver a j f
  grind [H.qz]
def EO{low0:Nat}{d f:T}{e:H}(a:mN low0 d h=some (f,e)):f=d/\e=⟨h.size,if h.low<low0 then h.low else low0,h.eZ⟩:=by
 obtain⟨i,b,g⟩:=h;have a: @Bool.rec (λ_=>aa (T×H)) (some (d,⟨i,low0,g⟩)) (some (d,⟨i,b,g⟩)) (Nat.blt b low0)=some (f,e):=a;cases c:Nat.blt b low0 with
 |true=>
  rw[c]at a;simp only[ar,aB]at a;have:b<low0:=by rwa[aF]at c
  grind
 |false=>
  rw[c]at a;simp only[ar,aB]at a;have:¬b<low0:=λj=>by rw[<-aF,c]at j;grind
  grind
variable {w w':World}{μ0:Mu}{low0:Nat}{rk:List iI}
def xp{c d:T}{b:am}{a:H}(k:St cx base w'.heap μ h)(f:kJ ⟨n,n,rk⟩ h)(l:oS w μ0 w' μ)(e:xJ μ0 μ n h.size)(i:eK w'.heap μ c b)
 (j:mN low0 c h=some (d,a)):Left cx base w w' μ0 ⟨n,low0,rk⟩ d a b/\kJ ⟨n,low0,rk⟩ a:=by
 obtain⟨rfl,rfl⟩:=EO j;exact⟨⟨μ,i,k.JK _,l,e⟩,Cw f (by split<;>omega) (λm _ g=>by split at g<;>omega)⟩
def GG{bk:Bool}{x y:T}{U:am}{C:H}(bl:St cx base w.heap μ0 ⟨n,low0,rk⟩)(F:St cx base w'.heap μ h)(A:kJ ⟨n,n,rk⟩ h)(g:oS w μ0 w' μ)(I:xJ μ0 μ n h.size)
 (P:eK w'.heap μ x U) (b:qR bk n low0 x h=some (y,C)):Left cx base w w' μ0 ⟨n,low0,rk⟩ y C U/\kJ ⟨n,low0,rk⟩ C:=by
 cases bk with
 |true=>exact xp F A g I P b
 |false=>
  have b: @Option.rec T (λ_=>aa (T×H)) (mN low0 x h) (λy=>tq n low0 x y h) (iZ h n x)=some (y,C):=b;cases ae:iZ h n x with
  |none=>rw[ae]at b;exact xp F A g I P b
  |some L=>
   rw[ae]at b;have cL:=uu F P ae;have an:n<=h.size:=A.size;have aX:∀a c,μ0 a=some c->a<n:=λa c d=>bl.ej d;have bu:∀s,s<=low0->(∀a,a<n->a<s->a<h.low)->(∀a c e,a<n->μ a=some c->h.get a=some e->∀z∈eY e.eg,oR n z)->
    Left cx base w w' μ0 ⟨n,low0,rk⟩ L ⟨n,s,h.eZ.drop (h.size-n)⟩ U/\kJ ⟨n,low0,rk⟩ ⟨n,s,h.eZ.drop (h.size-n)⟩:=by
    intro s al cb hl;have aN:=St.cut (low:=s) F an hl;refine⟨⟨lZ n μ,cL,aN,⟨⟨g.ext.size,λi Q ce=>?_,λa c d=>?_,g.ext.mt,g.ext.kept⟩,g.os,g.tape,g.output⟩,au _,λa d=>?_,λa c4 bi=>absurd c4 (by show¬n<=a;have bi:a<n:=bi;omega)⟩,?_⟩
    ·have⟨bB,bC⟩:=g.ext.mV i Q ce;exact⟨bB,wa bC⟩
    ·rw[tL (aX a c d)];exact g.ext.mu a c d
    ·left;have⟨c,E⟩:=Option.ne_none_iff_exists'.1 d;have⟨eo,c9⟩:=jT E;rcases I.2.1 a (by rw[c9];simp)with k|k
     ·exact k
     ·omega
    ·have W:=Cw (low:=s) A al cb;have a7:∀a,a<n->(⟨n,s,h.eZ.drop (h.size-n)⟩:H).get a=h.get a:=by
      intro a d;rw[H.get_eq,H.get_eq];have O:a<h.size:=B;simp only[d,O,bj,bJ];congr 1;omega
     refine⟨aN.wf,au _,W.low,λa d ca=>?_,λa S r=>?_⟩
     ·rw[a7 a d];have:=W.jV a d ca;rwa[H.qz]at this
     ·rw[a7 a (H.ej r)];have:=W.ver a S r;simpa only[H.qz]using this
   have bn:∀a c e,a<n->a<h.low->μ a=some c->h.get a=some e->∀z∈eY e.eg,oR n z:=by
    intro a c e d al E v;have a8:=A.jV a d al;rw[v]at a8;rcases I.2.1 a (by rw[E];simp)with k|k
    ·have⟨bs,bN⟩:=Option.ne_none_iff_exists'.1 k;have⟨ey,av,R⟩:=bl.box a bs bN;have bz:(⟨n,low0,rk⟩:H).get a=(⟨n,n,rk⟩:H).get a:=by rw[H.get_eq,H.get_eq]
     rw[bz,<-a8]at av;simp only[ar]at av;subst av;exact R.low aX
    ·omega
   obtain⟨G,low,N⟩:=h;have b:(M (jB (Nat.sub G n) N) λq=>
    @Bool.rec (λ_=>aa (T×H))
     (@Bool.rec (λ_=>aa (T×H)) (mN low0 x ⟨G,low,N⟩)
       (@Bool.rec (λ_=>aa (T×H)) (some (L,⟨n,low0,q⟩)) (some (L,⟨n,low,q⟩)) (Nat.blt low low0)) (rj n (Nat.sub n low) q))
     (some (L,⟨n,low0,q⟩)) (Nat.ble n low))=some (y,C):=b
   replace b:=dB.1 b;obtain⟨q,o,b⟩:=b;rw[lA]at o;have o:q=N.drop (G-n):=by
    split at o
    ·simp only[ar]at o;exact o.symm
    ·simp at o
   have ea:low0<=n\/n<low0:=B;cases K:Nat.ble n low with
   |true=>
    rw[K]at b;simp only[ar,aB]at b;obtain⟨rfl,rfl⟩:=b;have cp:n<=low:=aU K;rw[o];exact bu _ (au _) (λa d _=>by show a<low;omega) λa c e d=>bn a c e d (by show a<low;omega)
   |false=>
    rw[K]at b;have cp:low<n:=by
     rcases aM low n with k|k
     ·exact k
     ·rw[bR k]at K;simp at K
    cases X:rj n (Nat.sub n low) q with
    |false=>rw[X]at b;exact xp F A g I P b
    |true=>
     rw[X]at b;have dd:∀a c e,a<n->μ a=some c->(⟨G,low,N⟩:H).get a=some e->∀z∈eY e.eg,oR n z:=by
      intro a c e d E v;by_cases bS:a<low
      ·exact bn a c e d bS E v
      ·have⟨eu,ap,R⟩:=F.box a c E;rw[v]at ap;simp only[ar]at ap;subst ap;have b8:q[n-1-a]? =some e:=by
        rw[H.get_eq]at v;have an:n<=G:=an;have bT:a<G:=B;simp only[bT,bj]at v;rw[o,bJ,<-v];congr 1;omega
       have Y:=CU X (n-1-a) e (by show _<n-low;omega) b8;intro z c1;have⟨V,f,p⟩:=List.mem_flatMap.1 c1;cases Q:e.it with
       |true=>
        obtain⟨_,⟨et,c7,b7,_⟩|⟨dk,eb,ec,c6⟩|⟨ef,m,c7,er,di,O,aA,aE,dv⟩⟩:=R.iter Q
        ·rw[b7]at f;simp at f;rcases f with rfl|rfl<;>(simp[T.cells]at p;subst p;constructor)
        rotate_left
        ·have l:=Y _ f;rw[O]at f;simp at f;rcases f with rfl|rfl|rfl|rfl
         ·simp[T.cells]at p;subst p;exact kX aA l
         all_goals (simp[T.cells]at p;subst p;constructor)
        ·have⟨j,b9⟩:=List.mem_iff_getElem?.1 f;obtain⟨k,u,eh,rfl,dm,dn,bH,ds⟩:=c6 j V b9;have l:=Y _ f;have l:wC (j8 n) [k,u]=true:=l;simp[T.cells]at p;subst p;refine .tuple _ λS r=>?_;have b6:=pL l S r;simp at r;rcases r with rfl|rfl
         ·exact kX bH b6
         grind [kX]
       |false=>
        have⟨de,t,O,aA,aE⟩:=(R.plain Q).row;exact L8 (Y V f) (λS r=>aE.mem (List.mem_flatMap.2 ⟨V,f,r⟩)) z p
     have:y=L/\C=⟨n,if low<low0 then low else low0,q⟩:=by
      cases l:Nat.blt low low0 with
      |true=>
       rw[l]at b;simp only[ar,aB]at b;have:low<low0:=by rwa[aF]at l
       grind
      |false=>
       rw[l]at b;simp only[ar,aB]at b;have:¬low<low0:=λk=>by rw[<-aF,l]at k;grind
       grind
     obtain⟨rfl,rfl⟩:=this;rw[o]
     grind
