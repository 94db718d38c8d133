/- TiMap -/
import Derived.Test.YtdpclhaknmicoaaGreatDoorA1
import Derived.MapKept
import Derived.Laws.IdiomStrings
import Derived.WideKeyRuns
import Derived.Maps.RangeRun
import Derived.Orders
set_option linter.all false
namespace Go.TI
noncomputable section
open Go.MapKept
section
def MB{c b:List Nat}(g:∀d∈c,d<256)(ht:∀d∈b,d<256)(h:bytesOf c=bytesOf b):c=b:=by
 have:=bytes_beq g ht;rw[h]at this;have f:(bytesOf b==bytesOf b):=by rw[bytes_beq ht ht,BF];simp
 rw[f,BF]at this;simpa using this.symm
section
variable {P:ai}{cx:Ctx}{base:Nat}{w:World}{μ:Mu}{h h':H}{V:Nat}{e:Env}{a:Act}{o:Oper}{hp hp':af Obj}{p:T}
theorem GR(j8:jR P cx){d:ab}{c:aa ah}(q:St cx base w.heap μ h)(g:o.op= .makeMap d c){f:T}
 (b:xJ d c cx V e h=be f h'):j4 cx base w μ h.size ((execOp a.eval o).run P w) f h':=by
 unfold xJ at b;rcases c with _|x
 obtain⟨r,t,b⟩:=eQ.1 b;cases i:r.u<;>rw[i]at b<;>simp[reduceCtorEq]at b;rw[km,H.ny]at b;simp[aw,aH]at b;obtain⟨rfl,rfl⟩:=b;have⟨l,m,n⟩:=q.new (.map #[] 0) ⟨0,w.heap.size,0,0⟩ ⟨0,0,0,true,true,[]⟩ rfl (by
  intro s;refine⟨rfl,rfl,Y,λ_=>⟨rfl,.inr (.inl ⟨#[],Y,rfl,Y⟩)⟩⟩)
 refine⟨.map (some w.heap.size),{w with heap:=w.heap.push (.map #[] 0)},_,.inl ?_,.map _ _ _ (kw _ _ _) (λ_=>rfl),l,⟨m,rfl,rfl,rfl⟩,n⟩;simp[execOp,g,Instr.makeMap];simp at b
def IS{d:U}{c:T}(b:Ev d c):d= .str/\∃f,c= .str f:=by
 unfold Ev at b;split at b<;>try simp at b
 split at b<;>simp_all
def YD(hp:af Obj)(μ:Mu)(g:List T)(c:List MapEntry):Prop:=
 g.length=c.length/\∀(d:Nat) j,g[d]? =G j->∃f i b,j= .tuple [f,i]/\c[d]? =G b/\iz hp μ f b.key/\iz hp μ i b.val
def AY{j:List Nat}(L:∀x∈j,x<256):∀(k:List T) (g:List MapEntry) (f:Nat) (i:aa (Nat×T)),
 YD hp μ k g->rY .str (.str j) k f=G i->
 (i=none/\Instr.findNow .string (.string (bytesOf j)) g f=G none)\/∃n q l,i=G (f+n,q)/\Instr.findNow .string (.string (bytesOf j)) g f=G (some (f+n,l.val))/\g[n]? =G l/\iz hp μ q l.val/\l.key= .string (bytesOf j):=by
 intro k;induction k with
 |nil=>
  intro g f i m c;have K:g=[]:=bC m.1.symm;subst K;have c:some none=G i:=c;simp only[aw]at c;exact .inl ⟨c.symm,rfl⟩
 |cons x k R=>
  intro g f i m c;obtain⟨z,v,l,rfl,r,E,F⟩:=m.2 0 x Y;have c:(Z (tq .str (.str j) z) λu=> @Bool.rec (λ_=>aa (aa (Nat×T))) (Z (jd (Nat.succ f)) λQ=>rY .str (.str j) k Q) (some (some (f,v))) u)=G i:=c;replace c:=eQ.1 c;obtain⟨u,ht,c⟩:=c;cases z<;>simp only[tq,reduceCtorEq]at ht;rename_i V;obtain⟨y,D⟩:=E.m7;simp only[aw,BF]at ht;rcases g with _|⟨A,g⟩
  simp at r;simp at r;subst r;obtain⟨C,t,B⟩:=sameNow_of_keys (d:= .string) (a:= .string (bytesOf j)) (b:=A.key) (by simp[IsKey]) (by rw[y];simp[IsKey]);have N:C=u:=by
   rw[bD,B,y,<-ht];simp only[beq_iff_eq,Value.string.injEq];exact⟨λs=>MB L D s,λs=>by rw[s]⟩
  subst N;cases C;have c:rY .str (.str j) k (f+1)=G i:=iC c;have I:YD hp μ k g:=⟨by have:=m.1;simpa using this,λS U O=>by
   have:=m.2 (S+1) U (iC O);simpa using this⟩
  rcases R g (f+1) i I c with⟨r1,r2⟩|⟨n,q,l,r1,r2,r3,r4,r5⟩;exact .inl ⟨r1,by simp[Instr.findNow,t,r2]⟩;refine .inr ⟨n+1,q,l,by rw[r1];congr 2;omega,?_,iC r3,r4,r5⟩;simp only[Instr.findNow,t,r2];congr 3;omega;have c:some (some (f,v))=G i:=c;simp only[aw]at c;exact .inr ⟨0,v,A,c.symm,by simp[Instr.findNow,t],rfl,F,(B.1 rfl).symm⟩
def MN.aeA{L:Loc}{j:List T}{i:af MapEntry}(q:i.size=j.length)
 (r:∀(c:Nat) g,j[c]? =G g->∃d f b,g= .tuple [d,f]/\i[c]? =G b/\b.born=c/\iz hp μ d b.key/\iz hp μ f b.val):YD hp μ j i.toList:=
 ⟨by simp[q],λc g s=>by
   have⟨d,f,b,k,l,t,m,n⟩:=r c g s;exact⟨d,f,b,k,iC l,m,n⟩⟩
def CL{j:U}{i:T}{b:List T}{g:Nat}{d:aa (Nat×T)}(f:rY j i b g=G d):E3 b=true:=by
 rcases b with _|⟨k,b⟩;rfl;cases k with
 |tuple l=>rfl
 |_=>exact absurd f (by intro c;have c:(none:aa (aa (Nat×T)))=G d:=c;simp at c)
def St.mapOf(s:St cx base hp μ h){f:Nat}{c:Loc}{b:jO}(l:μ f=G c)(m:h.get f=G b)(n:b.it)(d:E3 b.im):
 c.ep=0/\b.ep=0/\MN hp μ c b.im:=by
 have⟨z,g,k⟩:=s.box f c l;rw[m]at g;cases g;have⟨j,q⟩:=k.iter n;refine⟨k.ep▸j,j,?_⟩;rcases q with⟨y,r,i,_⟩|hm|⟨v,u,r,x,t,i,_⟩;rw[i]at d;simp[E3]at d;exact hm;rw[i]at d;simp[E3]at d
def O8{f:Ty}{c:TypeDesc}{d e:ab}(b:De P c=G f.u)(g:f.u= .map d e):c= .map d e:=by
 rw[g]at b;cases c<;>simp only[De]at b<;>first
  |(simp only[aw,reduceCtorEq]at b;done)
  |(simp only[aw,U.map.injEq]at b;obtain⟨rfl,rfl⟩:=b;rfl)
  |(split at b<;>simp at b)
theorem H5(j8:jR P cx){S:ab}{m s:ah}{y:Bool}(l:St cx base w.heap μ h)(R:mo w.heap μ V e a.tmps)(aX:o.op= .lookup S m s y){U:T}
 (b:wK S m s y cx V e h=be U h'):j4 cx base w μ h.size ((execOp a.eval o).run P w) U h':=by
 replace b:=eQ.1 b;obtain⟨bX,bn,b⟩:=b;obtain⟨d,ap,br⟩:=mp (j8.ty _ _ bn);cases N:bX.u<;>rw[N]at b<;>simp only[reduceCtorEq]at b;rename_i kt b8;have:=O8 br N;subst this;replace b:=eQ.1 b;obtain⟨c7,bi,b⟩:=b;replace b:=eQ.1 b;obtain⟨c6,a8,b⟩:=b;replace b:=eQ.1 b;obtain⟨p,hp,b⟩:=b;replace b:=eQ.1 b;obtain⟨k,aE,b⟩:=b;replace b:=fq.1 b;obtain⟨aN,b⟩:=b;replace b:=eQ.1 b;obtain⟨D,c,b⟩:=b;replace b:=eQ.1 b;obtain⟨bW,v,b⟩:=b;cases y with
 |true=>simp at b
 |false=>
 obtain⟨O,rfl⟩:=iI.1 b;cases O;obtain⟨bZ,F,K⟩:=mp (j8.ty _ _ bi);obtain⟨bT,c1,rfl⟩:=IS aN;rw[bT]at K v;have:=uR K;subst this;have r:=iU l R hp;obtain⟨C,W⟩:=(iU l R aE).m7;obtain⟨z,Q,bs,_⟩:=(j8.ty _ _ a8).zero w;have av:∃f:af MapEntry,YD w.heap μ D f.toList/\
  ((a.eval m= .map none/\f= #[])\/∃g B,a.eval m= .map (some g)/\w.heap[g]? =G (.map f B)):=by
  unfold H.entries at c;cases p<;>simp only[reduceCtorEq]at c;rename_i A;replace c:=eQ.1 c;obtain⟨X,ao,c⟩:=c;obtain⟨c4,b7,dd,b9,cp,b6⟩:=X;replace c:=fq.1 c;obtain⟨aA,c⟩:=c;cases c;obtain⟨L,g,n,an,ax⟩:=r.PE;obtain⟨l0,_,f,bu,bA,bN⟩:=l.mapOf an ao aA (CL v);exact⟨f,MN.aeA (L:=L) bA bN,.inr ⟨g,f.size,n,ax l0▸bu⟩⟩;cases c;exact⟨#[],⟨rfl,Y⟩,.inl ⟨r.UL,rfl⟩⟩
 obtain⟨f,al,ar⟩:=av;have x:∀i:aa (Nat×am),Instr.findNow .string (a.eval s) f.toList 0=G i->
  (execOp a.eval o).run P w= .ok (.value (match i with|some q=>q.2|none=>z)) w:=by
  intro i a7;have E:=λA=>run_checkKey (P:=P) (w:=w) F (k:=a.eval s) (by rw[C];simp[IsKey]) A 9999;have I:=run_findKey (P:=P) (w:=w) (kt:=kt) F a7;rcases ar with⟨n,rfl⟩|⟨g,B,n,Z⟩<;>simp only[execOp,aX,Instr.lookup,Sem.run_bind,run_underlying ap,Result.andThen_ok,n,Sem.run_pure,E,I];rotate_left
  simp only[Go.MapKept.run_getObj_map (P:=P) Z,Sem.run_bind,Result.andThen_ok,Sem.run_pure,E,I];cases i<;>simp only[Sem.run_bind,Q,Result.andThen_ok,Sem.run_pure]<;>rfl;cases i<;>simp only[Sem.run_bind,Q,Result.andThen_ok,Sem.run_pure]<;>rfl
 rw[C]at x;rcases AY W D f.toList 0 bW al v with⟨rfl,t⟩|⟨j,c9,cL,rfl,t,ca,ae,cb⟩
 exact j4.pure l (x none t) (bs _ _);exact j4.pure l (x _ t) ae
theorem DM(j8:jR P cx){t:ab}{x l I:ah}(v:St cx base w.heap μ h)(r:mo w.heap μ V e a.tmps)(bi:o.op= .mapUpdate t x l I){i:T}
 (b:qR t x l I cx V e h=be i h'):j4 cx base w μ h.size ((execOp a.eval o).run P w) i h':=by
 replace b:=eQ.1 b;obtain⟨ej,dn,b⟩:=b;obtain⟨d,aN,ds⟩:=mp (j8.ty _ _ dn);cases bu:ej.u<;>rw[bu]at b<;>simp only[reduceCtorEq]at b;rename_i kt eu;have:=O8 ds bu;subst this;replace b:=eQ.1 b;obtain⟨eG,dm,b⟩:=b;replace b:=eQ.1 b;obtain⟨p,hp,b⟩:=b;replace b:=eQ.1 b;obtain⟨k,cp,b⟩:=b;replace b:=eQ.1 b;obtain⟨U,dd,b⟩:=b;replace b:=fq.1 b;obtain⟨cL,b⟩:=b;replace b:=fq.1 b;obtain⟨eB,b⟩:=b;have c7:∃K,p= .map K:=by cases p<;>first|exact⟨_,rfl⟩|(simp at b)
 obtain⟨K,rfl⟩:=c7;replace b:=eQ.1 b;obtain⟨bX,aA,b⟩:=b;obtain⟨eF,et,eK,ey,eC,m⟩:=bX;replace b:=fq.1 b;obtain⟨cb,b⟩:=b;replace b:=eQ.1 b;obtain⟨eh,an,b⟩:=b;simp only[jx,fw]at b;replace b:=eQ.1 b;obtain⟨O,c,b⟩:=b;replace b:=eQ.1 b;obtain⟨b8,c9,b⟩:=b;simp only[aw,nO.val.injEq]at b;obtain⟨rfl,rfl⟩:=b;obtain⟨eo,aX,bs⟩:=mp (j8.ty _ _ dm);obtain⟨ef,bN,rfl⟩:=IS cL;rw[ef]at bs an;have:=uR bs;subst this;have ao:=iU v r hp;have al:=iU v r cp;obtain⟨W,bW⟩:=al.m7;have bn:=iU v r dd;obtain⟨L,q,ax,Q,R⟩:=ao.PE;obtain⟨l0,bT,y,ar,F,N⟩:=v.mapOf Q aA cb (CL an);simp only at bT F N;have ca:=MN.aeA (L:=L) F N;have R:=R l0;subst R;have b9:=v.lt Q;obtain⟨eL,ap,bA⟩:=v.box K L Q;rw[aA]at ap;simp only[aw]at ap;subst ap;have br:∀S:Obj,(setObj L.jV S).run P w= .ok () {w with heap:=w.heap.setIfInBounds L.jV S}:=λS=>Go.MapKept.run_setObj_map (P:=P) S ar;have aE:=λK=>run_checkKey (P:=P) (w:=w) aX (k:=a.eval l) (by rw[W];simp[IsKey]) K 9999;have fin:∀{esM':af MapEntry},esM'.size=O.length->
  (∀(q:Nat) x,O[q]? =G x->∃k i g,x= .tuple [k,i]/\esM'[q]? =G g/\g.born=q/\iz w.heap μ k g.key/\iz w.heap μ i g.val)->
  (execOp a.eval o).run P w= .ok .skip {w with heap:=w.heap.setIfInBounds L.jV (.map esM' esM'.size)}->j4 cx base w μ h.size ((execOp a.eval o).run P w) .undef b8:=by
  intro esM' c1 de di;obtain⟨eb,ec,ee⟩:=v.change (L':=L) (hp':=w.heap.setIfInBounds L.jV (.map esM' esM'.size)) Q c9 Y (by
   intro q R c6;rw[Array.getElem?_setIfInBounds_ne (bH c6)]) (.inl rfl) (by
   intro a7;refine⟨bA.ep,bA.sz,Y,λ_=>⟨bT,.inr (.inl ⟨esM',by simp[b9],c1,λq x ao=>?_⟩)⟩⟩;obtain⟨k,i,g,A,j,n,B,C⟩:=de q x ao;exact⟨k,i,g,A,j,n,B.ext a7,C.ext a7⟩)
  exact⟨Go.undef,_,_,.inr ⟨di,rfl⟩,.undef,eb,⟨ec,rfl,rfl,rfl⟩,ee⟩
 rcases AY bW m y.toList 0 eh ca an with⟨rfl,X⟩|⟨E,eH,g,rfl,X,b6,eA,b7⟩<;>rw[<-W]at X<;>have ae:=run_findKey (P:=P) (w:=w) (kt:=kt) aX X;replace c:D7 m [.tuple [.str bN,U]]=G O:=c;rw[sd]at c;simp only[aw]at c;subst c;refine fin (esM':=y.push {key:=a.eval l,val:=a.eval I,born:=y.size}) (by simp[F]) (λs z f=>?_) ?_;by_cases D:s<m.length;rw[cN D]at f;obtain⟨k,i,g,A,j,n,B,C⟩:=N s z f;refine⟨k,i,g,A,?_,n,B,C⟩;rw[dI];have:s≠y.size:=J;simp[this,j];rw[cX J]at f;have c4:s=m.length:=by
  rcases Nat.eq_or_lt_of_le (Nat.le_of_not_lt D)with h|h;exact h.symm;rw[cj dY]at f;simp at f
 subst c4;simp at f;subst f;exact⟨_,U,{key:=a.eval l,val:=a.eval I,born:=y.size},rfl,by rw[<-F];simp,F,al,bn⟩;simp only[execOp,bi,Instr.mapUpdate,Sem.run_bind,run_underlying aN,Result.andThen_ok,ax,Go.MapKept.run_getObj_map (P:=P) ar,aE,ae,br,Sem.run_pure];simp;rw[cV]at c ae;replace c:nH m E (.tuple [.str bN,U])=G O:=c;rw[mv]at c;split at c;rename_i a8;simp only[aw]at c;subst c;have Z:=iC b6;refine fin (esM':=y.modify E λbZ=>{bZ with key:=a.eval l,val:=a.eval I}) (by simp[F]) (λs z f=>?_) ?_;rw[Array.getElem?_modify];by_cases D:E=s;subst D;rw[dt a8]at f;simp only[aw]at f;subst f;obtain⟨av,ea⟩:∃av,m[E]? =G av:=⟨m[E],by simp[a8]⟩;obtain⟨eD,eI,eE,A,j,n,B,C⟩:=N E av ea;rw[Z]at j;simp only[aw]at j;subst j;exact⟨_,U,{g with key:=a.eval l,val:=a.eval I},rfl,by simp[Z],n,al,bn⟩;rw[List.getElem?_set_ne D]at f;obtain⟨k,i,g,A,j,n,B,C⟩:=N s z f;exact⟨k,i,g,A,by simp[D,j],n,B,C⟩;have dk:Instr.sameBits 10000 g.key (a.eval l):=by rw[b7,W];simp[Instr.sameBits,Go.MapKept.bytes_beq]
 simp only[execOp,bi,Instr.mapUpdate,Sem.run_bind,run_underlying aN,Result.andThen_ok,ax,Go.MapKept.run_getObj_map (P:=P) ar,aE,ae,Instr.keyThatStays,Z,dA,Option.getD_some,dk,if_true,Sem.run_pure,br];simp;simp at c
theorem un{j:Type}{c:j->Bool}{d:List j}(b:D8 c d):∀f∈d,c f=true:=by
 induction d with
 |nil=>intro f hx;simp at hx
 |cons i d k=>
  have b: @Bool.rec (λ_=>Bool) false (D8 c d) (c i):=b;cases g:c i;rw[g]at b;simp at b;rw[g]at b;intro f hx;rcases List.mem_cons.1 hx with rfl|hx
  exact g;exact k b f hx
def Ja{f:T}{d:Nat}(b:byteOf f=G d):f= .int .u8 (.ofNat d)/\d<256:=by
 cases f with
 |int m l=>
  have b:=b;have⟨g,c⟩:=fq.1 b;rw[BB]at g;subst g;cases l with
  |ofNat k=>
   have c:=c;have⟨i,j⟩:=fq.1 c;rw[aQ]at i;simp[aw]at j;subst j;exact⟨rfl,i⟩
  |negSucc k=>simp at c
 |_=>simp[byteOf]at b
theorem M4(j8:jR P cx){n j:ab}{A:ah}(x:St cx base w.heap μ h)(r:mo w.heap μ V e a.tmps)(av:o.op= .convert n j A)(L:P.underlying j=G .string){v:T}
 (hp:iG cx V e A=G p) (b:HL cx h n p=G v) (ao:h'=h):j4 cx base w μ h.size ((execOp a.eval o).run P w) v h':=by
 subst ao;replace b:=eQ.1 b;obtain⟨bs,aE,b⟩:=b;obtain⟨d,I,Q⟩:=mp (j8.ty _ _ aE);cases a7:bs.u<;>rw[a7]at b Q<;>simp only[reduceCtorEq]at b;rename_i C;have:=nU Q;subst this;replace b:=eQ.1 b;obtain⟨br,aA,b⟩:=b;obtain⟨bN,K,R⟩:=mp (j8.ty _ _ aA);cases a8:br.u<;>rw[a8]at b R<;>simp only[reduceCtorEq]at b;rename_i k;replace b:=fq.1 b;obtain⟨N,b⟩:=b;rw[BB]at N;subst N;have:=Ab R;subst this;replace b:=eQ.1 b;obtain⟨l,an,b⟩:=b;replace b:=eQ.1 b;obtain⟨f,X,b⟩:=b;replace b:=fq.1 b;obtain⟨_,b⟩:=b;cases b;obtain⟨bX,bi⟩:=qW (P:=P) x (iU x r hp) an;obtain⟨bu,B,bn,S,bT,D,bW,Z⟩:=bi.form;obtain⟨t,F⟩:=vI.1 X;have al:l=f.map λi=>T.int .u8 (.ofNat i):=by
  apply dB;intro c;rw[bw];rcases g:l[c]? with _|z
  have:f[c]? =none:=by
   rw[List.getElem?_eq_none_iff]at g|-;omega
  rw[this];rfl;obtain⟨i,m,s⟩:=F c z g;rw[m,(Ja s).1];rfl
 have E:∀i∈f,i<256:=by
  intro i m;obtain⟨c,g⟩:=List.mem_iff_getElem?.1 m;have ap:c<l.length:=by
   rw[t];rcases aR c f.length with y|y
   exact y;rw[cj y]at g;simp at g
  obtain⟨bA,q,s⟩:=F c l[c] (by simp[ap]);rw[g]at q;cases q;exact(Ja s).2
 have ax:iz w.heap μ (.str f) (.string (bytesOf f)):= .str f E;rw[al,vl]at D;have ar:∀(c:Nat) i,f[c]? =G i->bn[c]? =G (.int .u8 (i:Int)):=by
  intro c i g;obtain⟨bZ,aN,aX⟩:=D.get (k:=c) (v:= .int .u8 (.ofNat i)) (by simp[g]);rw[aN,aX.lq];rfl
 have ae:(convert n j (a.eval A)).run P w= .ok (.string (bytesOf f)) w:=by
  rw[S];rcases Z with⟨rfl,O⟩|⟨y,rfl,m⟩
  have U:f=[]:=by
   have:=t;rw[O]at this;simp at this;exact bC this.symm
  subst U;rw[O];rw[run_convert_bytes_string w n j C none _ B I K L];simp[Conv.bytesToString];rfl;have hl:l.length=(f.map UInt8.ofNat).length:=by simp[t]
  rw[hl];have:=run_convert_bytes_back (P:=P) w n j C y B (f.map UInt8.ofNat) I K L (by
   intro c g;simp only[aL]at g;have W:f[c]? =G f[c]:=by simp[g]
   rw[m c _ (ar c _ W)];simp only[List.getElem_map];rw[lf (E _ (aG g))])
  rw[this];rfl
 exact j4.pure x (by simp only[execOp,av,Sem.run_bind,ae,Result.andThen_ok,Sem.run_pure]) ax
end
end
end
noncomputable section
section
def C6(P:ai)(c:am->World->Prop):Result Next->Prop
 | .ok (.value d) b=>c d b
 | .ok .skip b=>c Go.undef b
 | .ok (.enter g f) b=>Calls P g f b λ
  | .returned d,i=>c d i
  |_,_=>False
 |_=>False
def C6.mono{P:ai}{c d:am->World->Prop}{b:Result Next}(h:C6 P c b)(g:∀i w,c i w->d i w):C6 P d b:=by
 cases b with
 |halt l w=>exact h
 |ok j w=>
  cases j<;>simp[C6]at h|- <;>first|exact h|exact g _ _ h|skip
  exact Calls.mono h λe k f=>by cases e<;>first|exact g _ _ f|exact f
def C6.wp{P:ai}{o:Oper}{a:Act}{w:World}{c:am->World->Prop}{next:Act->World->Prop}{Q:Exit->Act->World->Prop}
 (h:C6 P c ((execOp a.eval o).run P w)) (f:∀g b,c g b->next (a.put o.dst g) b):o.wp P a w next Q:=by
 unfold Oper.wp;generalize(execOp a.eval o).run P w=j at h;cases j with
 |halt k w=>exact h.elim
 |ok i w=>
  cases i<;>simp[C6]at h<;>simp[Oper.upon]<;>first|exact h.elim|exact f _ _ h|skip
  exact Calls.mono h λe b d=>by cases e<;>first|exact f _ _ d|exact d.elim
def C6.some{P:ai}{b:am->World->Prop}{d:Result Next}(h:C6 P b d):∃g w,b g w:=by
 cases d with
 |halt k w=>exact h.elim
 |ok f w=>
  cases f<;>simp[C6]at h<;>first|exact h.elim|exact⟨_,_,h⟩|skip
  have⟨e,j,i,c,_⟩:=h [];cases e<;>first|exact⟨_,_,c⟩|exact c.elim
section
variable {P:ai}{cx:Ctx}{base:Nat}{w:World}{μ:Mu}{h h':H}{V:Nat}{e:Env}{a:Act}{o:Oper}
def aad(cx:Ctx)(base:Nat)(w:World)(μ:Mu)(f:Nat)(g:T)(h':H)(d:am)(c:World):Prop:=
 ∃b,iz c.heap b g d/\St cx base c.heap b h'/\tH w μ c b/\BT μ b f h'.size
def j4.ran{i:Result Next}{g:Nat}{j:T}(h:j4 cx base w μ g i j h'):C6 P (aad cx base w μ g j h') i:=by obtain⟨m,n,k,l,b,c,d,f⟩:=h;rcases l with rfl|⟨rfl,rfl⟩;exact⟨k,b,c,d,f⟩;exact⟨k,b,c,d,f⟩
theorem RL(j8:jR P cx)(i:St cx base w.heap μ h)(g:mo w.heap μ V e a.tmps){b:Call}(f:o.op= .call b){d:T}
 (c:IX b cx V e h=be d h'):j4 cx base w μ h.size ((execOp a.eval o).run P w) d h':=by
 replace c:=eQ.1 c;grind [eQ,reduceCtorEq,Ib]
theorem yH{i:Builtin}{r:List ab}{k:List T}{d:aj}{g:List T}(b:nG i cx h r k=G (.call d g)):False:=by
 have n:∀{c:aa T},val h c=G (.call d g)->False:=λf=>Ec f;have v:∀{c:aa (T×H)},kJ c=G (.call d g)->False:=by
  intro c f;unfold kJ at f;cases c<;>simp[two]at f
 cases i<;>simp[nG,reduceCtorEq]at b
 case len=>
  split at b;replace b:=eQ.1 b;obtain⟨q,_,b⟩:=b;replace b:=eQ.1 b;grind
  grind
 case append=>
  split at b;split at b;replace b:=eQ.1 b;obtain⟨q,_,b⟩:=b;replace b:=eQ.1 b;grind [fq]
  grind
  grind
 case clear=>
  split at b;split at b;replace b:=eQ.1 b;obtain⟨y,_,b⟩:=b;split at b;rename_i m _;cases m<;>simp at b
  grind
  rename_i j _;rcases j with _|j
  have b:some (nO.val .undef h)=G (.call d g):=b
  grind
  replace b:=eQ.1 b;obtain⟨l,_,b⟩:=b;obtain⟨x,t,z,u,p,s⟩:=l;obtain⟨_,b⟩:=fq.1 b;obtain⟨_,b⟩:=fq.1 b;cases p;replace b:=eQ.1 b;obtain⟨_,_,b⟩:=b;replace b:=eQ.1 b;obtain⟨_,_,b⟩:=b;replace b:=eQ.1 b;grind
  grind
  grind
  grind
  grind
 case min=>split at b<;>first|exact n b|grind
 grind
def N4(k:St cx base w.heap μ h)(j:mo w.heap μ V e a.tmps){c:Call}(q:o.op= .call c){g:aj}{i:List T}
 (b:IX c cx V e h=G (.call g i)):∃f:af am,ja w.heap μ i f.toList/\(execOp a.eval o).run P w=(callFunc g f).run P w:=by
 replace b:=eQ.1 b;obtain⟨t,p,b⟩:=b;cases d:c.callee with
 |builtin u=>rw[d]at b;grind [yH]
 |invoke B A=>rw[d]at b;grind
 |value y=>
  rw[d]at b;simp only at b;replace b:=eQ.1 b;obtain⟨s,r,b⟩:=b;cases s<;>simp only[reduceCtorEq]at b;rename_i x v;replace b:=eQ.1 b;obtain⟨z,hl,b⟩:=b;simp only[aw,nO.call.injEq]at b;obtain⟨rfl,rfl⟩:=b;obtain⟨l,m,n⟩:=(iU k j r).vN;rw[sd]at hl;simp only[aw]at hl;refine⟨c.args.map a.eval++l,?_,?_⟩;rw[<-hl];simpa using(zt k j p).append n;simp[execOp,q,resolve,d,m,Deferred.ofValue,invoke]
def Cw(j8:jR P cx)(f:St cx base w.heap μ h)(d:mo w.heap μ V e a.tmps){j:T}
 (b:j9 o.op cx V e h=be j h'):j4 cx base w μ h.size ((execOp a.eval o).run P w) j h':=by
 cases c:o.op<;>rw[c]at b<;>simp[j9,reduceCtorEq]at b
 case move g=>grind [Ey]
 case assign g=>exact Ey f d (.inr c) b
 case pick=>grind [LY]
 case alloc=>grind [JR]
 case box=>grind [N5]
 case build=>grind [JQ]
 case buildSlice=>grind [CG]
 case load=>grind [LZ]
 case store=>grind [JJ]
 case nilCheck=>grind [EL]
 case binOp m z g C B=>
  cases m<;>first
   |exact IW j8 (neg:=false) rfl f d c b
   |exact IW j8 (neg:=true) rfl f d c b
   |exact N6 Y Y f d c b
 case unOp=>grind [RJ]
 case convert y q g=>
  replace b:=eQ.1 b;obtain⟨A,u,b⟩:=b;replace b:=eQ.1 b;obtain⟨x,s,b⟩:=b;replace b:=eQ.1 b;obtain⟨n,k,b⟩:=b;split at b
  grind [iI,Kl]
  rename_i l;split at b
  grind [iI,Ez]
  obtain⟨v,t⟩:=iI.1 b;obtain⟨p,r,i⟩:=mp (j8.ty _ _ k);rw[l]at i;have:=uR i;grind [M4]
  grind [Ez,iI]
 case makeInterface=>grind [JO]
 case makeFunc=>grind [L4]
 case makeSlice=>grind [DN]
 case slice=>grind [JL]
 case fieldAddr=>grind [DR]
 case field=>grind [JP]
 case indexAddr=>grind [DO]
 case index=>grind [JN]
 case extract=>grind [GT]
 case makeMap=>grind [GR]
 case lookup=>grind [H5]
 case mapUpdate=>grind [DM]
 grind [RL]
def NC(d:aa nO):Prop:=∀b c,d≠some (.call b c)
theorem NC.none:NC none:=λ_ _=>by simp
theorem NC.val{b:aa T}:NC (val h b):=λ_ _=>Ec
def NC.some{b:T}:NC (be b h):=λ_ _=>by simp
theorem NC.Z{f:Type}{d:aa f}{c:f->aa nO}(h:∀b,NC (c b)):NC (Z d c):=by rcases d with _|b;exact NC.none;exact h b
theorem NC.iX{b:Bool}{c:aa nO}(h:NC c):NC (iX b c):=by cases b;exact NC.none;exact h
def NC.bool{b:Bool}{c d:aa nO}(f:NC c)(g:NC d):NC (Bool.casesOn b c d):=by cases b<;>assumption
def NC.opt{g:Type}{c:aa g}{d:aa nO}{b:g->aa nO}(i:NC d)(j:∀f,NC (b f)):NC (Option.casesOn c d b):=by
 rcases c with _|f;exact i
 grind
def Gx{b:Op}(d:∀c,b≠ .call c):NC (j9 b cx V e h):=by
 cases b<;>simp[j9]<;>first
  |exact absurd rfl (d _)
  |exact NC.none
  |skip
 all_goals
  first
   |unfold GQ|unfold IV|unfold GU|unfold RM|unfold DT|unfold qY|unfold L3|unfold GN|unfold vi|unfold hUn|unfold PK|unfold DQ|unfold GS
   |unfold sY|unfold GP|unfold s7|unfold DS|unfold sZ|unfold DP|unfold xK|unfold xJ|unfold wK|unfold qR|skip
 case binOp b f i j g=>
  cases b<;>first
   |(simp[];unfold hEq;exact NC.Z λ_=>NC.Z λ_=>NC.Z λ_=>NC.iX (NC.Z λ_=>NC.val))
   |(simp[];unfold RN;exact NC.Z λ_=>NC.Z λ_=>NC.val)
 all_goals
  repeat first
   |exact NC.none
   |exact NC.val
   |exact NC.some
   |exact NC.new
   |refine NC.Z λ_=>?_
   |refine NC.iX ?_
   |refine NC.bool ?_ ?_
   |split
   |unfold nC
   |unfold pX
   |(refine NC.nat ?_ λ_=>?_)
   |(refine NC.opt ?_ λ_=>?_)
   |(unfold two)
def Ld(m:St cx base w.heap μ h)(l:mo w.heap μ V e a.tmps){c:aj}{g:List T}
 (d:j9 o.op cx V e h=G (.call c g)):(∃b,o.op= .call b)/\∃i:af am,ja w.heap μ g i.toList/\(execOp a.eval o).run P w=(callFunc c i).run P w:=by
 by_cases j:∃b,o.op= .call b;obtain⟨b,f⟩:=j;rw[f]at d;exact⟨⟨b,f⟩,N4 m l f d⟩;exact absurd d (Gx (λb k=>j ⟨b,k⟩) c g)
end
end
section
structure ng(h h':H):Prop where
 wf:h'.iA.length=h'.size
 size:h.size<=h'.size
 low:h'.low<=h.low
 mO:∀b,b<h.size->b<h'.low->h'.get b=h.get b
 ver:∀b x,h.get b=G x->∃x',h'.get b=G x'/\(x'=x\/x.ver<x'.ver)
def ng.refl{h:H}(a:h.iA.length=h.size):ng h h:=⟨a,ay _,ay _,λ_ _ _=>rfl,λ_ c b=>⟨c,b,.inl rfl⟩⟩
def ng.trans{h d e:H}(a:ng h d)(b:ng d e):ng h e:=by refine⟨b.wf,aV a.size b.size,aV b.low a.low,λc f hl=>?_,λc i g=>?_⟩;rw[b.mO c (bS f a.size) hl,a.mO c f (bS hl b.low)];have⟨j,d,r1⟩:=a.ver c i g;have⟨k,e,r2⟩:=b.ver c j d;refine⟨k,e,?_⟩;rcases r1 with rfl|r1<;>rcases r2 with rfl|r2;simp;omega;omega;omega
def H.fV{h:H}{a:Nat}{c:jO}(b:h.get a=G c):a<h.size:=by
 rw[H.get_eq]at b
 grind
theorem ng.cons{h:H}(e:h.iA.length=h.size)(a:jO):ng h (h.cons a):=by refine⟨by simp[H.cons,e],by simp[H.cons],by simp[H.cons],λc d _=>H.pY d a,λc f b=>⟨f,?_,.inl rfl⟩⟩;rw[H.pY (H.fV b) a];exact b
theorem ng.put{h c:H}(e:h.iA.length=h.size){a:Nat}{x y:jO}(g:h.get a=G x)(d:h.put a y=G c)(i:x.ver<y.ver):ng h c:=by
 have⟨p1,p2,p3,p4⟩:=EZ d e;obtain⟨k,l,rfl⟩:=H.zo.1 d;refine⟨p2,Y,?_,λb f hl=>p4 b ?_,λb m j=>?_⟩;simp only;split<;>omega;rintro rfl
 dsimp at hl
 split at hl<;>omega
 grind
def Mv(h:H)(c:aa nO):Prop:=∀b a,c=be b a->ng h a
section
variable {h:H}
theorem Mv.none(b:h.iA.length=h.size):Mv h none:=λ_ _ a=>by grind
theorem Mv.val(b:h.iA.length=h.size){c:aa T}:Mv h (val h c):=λe d a=>by obtain⟨_,rfl⟩:=iI.1 a;exact ng.refl b
def Mv.some(c:h.iA.length=h.size){b:T}:Mv h (be b h):=λb d a=>by simp at a;obtain⟨_,rfl⟩:=a;exact ng.refl c
def Mv.new(d:h.iA.length=h.size){f:Nat->T}{c:jO}:Mv h (kJ (h.new f c)):=λg e a=>by
 rw[km,H.ny]at a;simp[aw,aH]at a;obtain⟨_,rfl⟩:=a;exact ng.cons d c
theorem Mv.Z(e:h.iA.length=h.size){d:Type}{a:aa d}{c:d->aa nO}(f:∀b,a=Option.some b->Mv h (c b)):Mv h (Z a c):=by rcases a with _|b;exact Mv.none e;simp_all
theorem Mv.iX(c:h.iA.length=h.size){a:Bool}{b:aa nO}(d:Mv h b):Mv h (iX a b):=by cases a;exact Mv.none c;exact d
def Mv.bool(d:h.iA.length=h.size){a:Bool}{b c:aa nO}(e:Mv h b)(f:Mv h c):Mv h (Bool.casesOn a b c):=by cases a<;>assumption
def Mv.opt(i:h.iA.length=h.size){e:Type}{b:aa e}{c:aa nO}{a:e->aa nO}(f:Mv h c)(g:∀d,Mv h (a d)):Mv h (Option.casesOn b c a):=by
 rcases b with _|d;exact f
 grind
theorem r9(c:h.iA.length=h.size){e bytes:Nat}{d g:List T}{f:T}{b:H}(a:h.ku e bytes d g=Option.some (f,b)):ng h b:=by obtain⟨i,_,a⟩:=eQ.1 a;obtain⟨j,_,a⟩:=eQ.1 a;have⟨_,a⟩:=fq.1 a;have⟨_,a⟩:=fq.1 a;have⟨_,a⟩:=fq.1 a;have⟨_,a⟩:=fq.1 a;rw[H.ny]at a;simp[aw,aH]at a;obtain⟨_,rfl⟩:=a;exact ng.cons c _
def Ic(s:h.iA.length=h.size){g bytes c d f:Nat}{k:List T}{i:T}{b:H}(a:h.o6 g bytes c d f k=Option.some (i,b)):ng h b:=by
 obtain⟨j,t,a⟩:=eQ.1 a;obtain⟨v,m,w,p,e,l⟩:=j;obtain⟨o,_,a⟩:=eQ.1 a;obtain⟨n,_,a⟩:=eQ.1 a;obtain⟨u,_,a⟩:=eQ.1 a;have⟨_,a⟩:=fq.1 a;have⟨_,a⟩:=fq.1 a;have⟨_,a⟩:=fq.1 a;have⟨_,a⟩:=fq.1 a;have⟨_,a⟩:=fq.1 a;cases e;simp[jx,fw]at a;obtain⟨q,r,a⟩:=eQ.1 a;simp[aw,aH]at a;obtain⟨_,rfl⟩:=a
 grind [ng.put]
 grind
theorem MG(d:h.iA.length=h.size){j bytes:Nat}{f:T}{g:List T}{k:T}{c:H}(a:h.append j bytes f g=Option.some (k,c)):ng h c:=by
 unfold H.append at a;cases g with
 |nil=>
  have a:=a;obtain⟨_,a⟩:=fq.1 a;simp[aw,aH]at a;obtain⟨_,rfl⟩:=a;exact ng.refl d
 |cons o p=>
  cases f<;>simp[reduceCtorEq]at a
  case fg i b=>
   rcases i with _|⟨q,r⟩
   grind [r9]
   grind [fq,r9]
  case arr l m e n b=>
   cases b;rcases e with _|e;exact Ic d a
   grind
   replace a:=eQ.1 a;grind [r9]
theorem M6(l:h.iA.length=h.size){e:Ty}{b f:T}{c:H}(a:h.store e b f=Option.some c):ng h c:=by
 unfold H.store at a;cases b<;>simp[reduceCtorEq]at a;have⟨_,a⟩:=fq.1 a;obtain⟨g,m,a⟩:=eQ.1 a;obtain⟨n,j,o,k,d,i⟩:=g;have⟨_,a⟩:=fq.1 a;cases d;obtain⟨_,_,a⟩:=eQ.1 a;obtain⟨_,_,a⟩:=eQ.1 a;replace a:=eQ.1 a;grind [fw,jx,ng.put]
 grind
def Uw(a:h.iA.length=h.size){c:Op}{cx:Ctx}{q:Nat}{o:Env}:Mv h (j9 c cx q o h):=by
 by_cases l:∃i,c= .call i
 .obtain⟨i,rfl⟩:=l;simp[j9];unfold IX;refine Mv.Z a λs _=>?_;split
  .rename_i n _;cases n<;>simp[nG]<;>first|exact Mv.none a|skip
   case len=>
    split;unfold R7
    grind [Mv.Z,Mv.val,Mv.none]
    grind [Mv.none]
   case append=>
    split;split;unfold jE;refine Mv.Z a λ_ _=>Mv.Z a λ_ _=>Mv.iX a ?_;intro d e b
    grind [km,MG]
    grind [Mv.none]
    grind [Mv.none]
   case clear=>
    split;split;unfold Hw;refine Mv.Z a λA _=>?_;split;rename_i j _ _;cases j;exact Mv.some a
    grind [Mv.none]
    exact Mv.some a;rename_i f _ _;rcases f with _|f
    exact Mv.some a;refine Mv.Z a λg w=>?_;refine Mv.iX a (Mv.iX a (Mv.bool a ?_ ?_));refine Mv.Z a λj _=>?_;simp[jx,fw];refine Mv.Z a λk p=>?_;intro d e b;simp[aw,nO.val.injEq]at b;obtain⟨_,rfl⟩:=b
    grind [ng.put]
    grind [Mv.none]
    grind [Mv.none]
    grind [Mv.none]
    grind [Mv.none]
   all_goals (split<;>first|exact Mv.val a|exact Mv.none a)
  refine Mv.Z a λd _=>?_;split;refine Mv.Z a λf _=>?_;intro d e b
  grind
  grind [Mv.none]
  grind [Mv.none]
 cases c<;>simp[j9]<;>first
  |exact Mv.none a
  |exact(l ⟨_,rfl⟩).elim
  |skip
 case binOp c m g D C=>
  cases c<;>first
   |(simp[];unfold hEq;exact Mv.Z a λ_ _=>Mv.Z a λ_ _=>Mv.Z a λ_ _=>Mv.iX a (Mv.Z a λ_ _=>Mv.val a))
   |(simp[];unfold RN;exact Mv.Z a λ_ _=>Mv.Z a λ_ _=>Mv.val a)
 case store m r g=>
  unfold GN;refine Mv.Z a λ_ _=>Mv.Z a λ_ _=>Mv.Z a λ_ _=>Mv.iX a (Mv.Z a λk v=>?_);intro d e b;simp[aw,nO.val.injEq]at b;obtain⟨_,rfl⟩:=b
  grind [M6]
 case mapUpdate m y x g=>
  unfold qR;refine Mv.Z a λB _=>?_;split;refine Mv.Z a λ_ _=>Mv.Z a λ_ _=>Mv.Z a λ_ _=>Mv.Z a λ_ _=>Mv.iX a (Mv.iX a ?_);split;refine Mv.Z a λt u=>Mv.iX a (Mv.Z a λz _=>?_);simp[jx,fw];refine Mv.Z a λ_ _=>Mv.Z a λk p=>?_;intro d e b;simp[aw,nO.val.injEq]at b;obtain⟨_,rfl⟩:=b
  grind [ng.put]
  grind [Mv.none]
  grind [Mv.none]
 all_goals
  first
   |unfold GQ|unfold IV|unfold GU|unfold RM|unfold DT|unfold qY|unfold L3|unfold vi|unfold hUn|unfold PK|unfold DQ|unfold GS
   |unfold sY|unfold GP|unfold s7|unfold DS|unfold sZ|unfold DP|unfold xK|unfold xJ|unfold wK|skip
 all_goals
  repeat first
   |exact Mv.none a
   |exact Mv.val a
   |exact Mv.some a
   |exact Mv.new a
   |refine Mv.Z a λ_ _=>?_
   |refine Mv.iX a ?_
   |refine Mv.bool a ?_ ?_
   |split
   |unfold nC
   |unfold pX
   |(refine Mv.opt a ?_ λ_=>?_)
   |(unfold two)
end
end
section
inductive tF (n:Nat):T->Prop where
 |undef:tF n .undef
 |bool (b:Bool):tF n (.bool b)
 |int (k:ak) (m:Int):tF n (.int k m)
 |str (s:List Nat):tF n (.str s)
 |mn:tF n .mn
 |ptr (b ep i j:Nat) (h:b<n):tF n (.ptr b ep i j)
 |kH (cs:List T) (h:∀v∈cs,tF n v):tF n (.kH cs)
 |fg (es:List T) (full:Bool) (h:∀v∈iy es,tF n v):tF n (.fg es full)
 |jf:tF n .jf
 |arr (b ep o l:Nat) (full:Bool) (h:b<n):tF n (.arr b ep o l full)
 |func (f:aj) (cs:List T) (h:∀v∈cs,tF n v):tF n (.func f cs)
 |mF:tF n .mF
 |mN:tF n .mN
 |iface (t:ab) (v:T) (h:tF n v):tF n (.iface t v)
 |iter (b:Nat) (h:b<n):tF n (.iter b)
 |map (b:Nat) (h:b<n):tF n (.map b)
 |pV:tF n .pV
 |agg (cs:List T) (h:∀v∈cs,tF n v):tF n (.agg cs)
 |tuple (vs:List T) (h:∀v∈vs,tF n v):tF n (.tuple vs)
theorem tF.cells{n:Nat}{b:T}(h:tF n b):∀c∈b.cells,tF n c:=by
 cases h with
 |agg d h=>exact h
 |_=>intro c a;simp[T.cells]at a;subst a;constructor<;>assumption
def ma.low{a:T}(h:ma a)(n:Nat):tF n a:=by
 induction h with
 |fg c d _ i=>
  refine .fg c d λa f=>?_;have⟨b,e,g⟩:=List.mem_flatMap.1 f;exact(i b e).cells a g
 |_=>constructor<;>assumption
def iz.low{hp:af Obj}{μ:Mu}{a:T}{k:am}(h:iz hp μ a k){n:Nat}(g:∀c e,μ c=G e->c<n):tF n a:=by
 induction h with
 |ptr c s w I e j b t D=>exact .ptr _ _ _ _ (g _ _ b)
 |arr c s L K m e j z b t hl h=>exact .arr _ _ _ _ _ (g _ _ b)
 |iter c e j b h=>exact .iter _ (g _ _ b)
 |map c e w b h=>exact .map _ (g _ _ b)
 |kH r q off arr p fz v u i o hr d=>exact .kH _ λa f=>by grind [dL]
 |qy m j=>exact .fg _ _ λa f=>by grind [iy]
 |fg A B m q off x N arr p fz v u hl E F i o hr d=>exact .fg _ _ λa f=>by grind [dL]
 |func C y l i hr d=>exact .func _ _ λa f=>by grind [dL]
 |agg r l i o hr d=>exact .agg _ λa f=>by grind [dL]
 |tuple O l i hr d=>exact .tuple _ λa f=>by grind [dL]
 |iface p a k h d=>exact .iface _ _ d
 |_=>constructor
def pH(n:Nat)(μ:Mu):Mu:=⟨λa=>if a<n then μ a else none,μ.qJ⟩
def xP{n a:Nat}{μ:Mu}(h:a<n):pH n μ a=μ a:=by simp[pH,h]
def lK{n a:Nat}{μ:Mu}{b:Loc}(h:pH n μ a=G b):a<n/\μ a=G b:=by
 have h:(if a<n then μ a else none)=G b:=h
 grind
theorem As{n a:Nat}{μ:Mu}(h:¬qt μ a):¬qt (pH n μ) a:=by rintro(⟨c,b,d,rfl⟩|hr);exact h (.inl ⟨c,b,(lK d).2,rfl⟩);exact h (.inr hr)
def iz.cut{hp:af Obj}{μ:Mu}{a:T}{q:am}(h:iz hp μ a q){n:Nat}(hl:tF n a):iz hp (pH n μ) a q:=by
 induction h with
 |undef=>exact .undef
 |bool f=>exact .bool f
 |int d O=>exact .int d O
 |str Q h=>exact .str Q h
 |mn=>exact .mn
 |ptr f u z L i e j v F=>cases hl with|ptr _ _ _ _ h=>exact .ptr f u z L i e (by rw[xP h];exact j) v F
 |kH t r off arr p fz y w g o hr c=>
  cases hl with|kH _ h=>exact .kH t r off arr p fz (As y) w g o λd a b=>c d a b (h a (aB b))
 |qy l e=>exact .qy l e
 |fg C D l r off s R arr p fz y w x I K g o hr c=>
  cases hl with|fg _ _ h=>exact .fg C D l r off s R arr p fz (As y) w x I K g o λd a b=>c d a b (h a (aB b))
 |jf e s=>exact .jf e s
 |arr f u P N l i e B j v x m=>cases hl with|arr _ _ _ _ _ h=>exact .arr f u P N l i e B (by rw[xP h];exact j) v x m
 |func E A k g hr c=>cases hl with|func _ _ h=>exact .func E A k g λd a b=>c d a b (h a (aB b))
 |mF=>exact .mF
 |mN=>exact .mN
 |iface p a q h c=>cases hl with|iface _ _ h=>exact .iface p a q (c h)
 |iter f i e j m=>cases hl with|iter _ h=>exact .iter f i e (by rw[xP h];exact j) m
 |map f i z j m=>cases hl with|map _ h=>exact .map f i z (by rw[xP h];exact j) m
 |pV=>exact .pV
 |agg t k g o hr c=>cases hl with|agg _ h=>exact .agg t k g o λd a b=>c d a b (h a (aB b))
 |tuple S k g hr c=>cases hl with|tuple _ h=>exact .tuple S k g λd a b=>c d a b (h a (aB b))
def ja.cut{hp:af Obj}{μ:Mu}{b:List T}{c:List am}(h:ja hp μ b c){n:Nat}(hl:∀a∈b,tF n a):ja hp (pH n μ) b c:=
 ⟨h.1,λe a d=>(h.2 e a d).cut (hl a (aB d))⟩
def uQ.cut{hp:af Obj}{μ:Mu}{l:Loc}{j:jO}(h:uQ hp μ l j){n:Nat}(hl:∀g∈iy j.im,tF n g):uQ hp (pH n μ) l j:=by
 refine⟨h.ep,h.sz,λb=>?_,λb=>?_⟩;have f:=h.plain b;have⟨p,D,a,c,d⟩:=f.row;exact⟨⟨p,D,a,c,d.cut hl⟩,f.room,f.wW,f.size,f.scalar⟩
 .obtain⟨m,a|⟨r,a,c,d⟩|⟨z,y,B,C,q,a,c,d,w⟩⟩:=h.iter b
  grind
  rotate_left;exact⟨m,.inr (.inr ⟨z,y,B,C,q,a,c.cut (hl _ (by rw[a];simp[iy,T.cells])),d,w⟩)⟩;refine⟨m,.inr (.inl ⟨r,a,c,λx k o=>?_⟩)⟩;have⟨b,g,A,i,s,t,u,v⟩:=d x k o;have e:=hl k (List.mem_flatMap.2 ⟨k,aB o,by rw[i];simp[T.cells]⟩);rw[i]at e;cases e with|tuple _ e=>exact⟨b,g,A,i,s,t,u.cut (e b Y),v.cut (e g Y)⟩
def uQ.low{hp:af Obj}{μ:Mu}{e:Loc}{k:jO}(h:uQ hp μ e k){n:Nat}(c:∀l e,μ l=G e->l<n):∀j∈iy k.im,tF n j:=by
 intro j a;cases d:k.it with
 |false=>
  have⟨y,N,f,g,b⟩:=(h.plain d).row;have⟨o,t⟩:=List.mem_iff_getElem?.1 a;exact(b.2 o j t).low c
 |true=>
  obtain⟨_,⟨K,w,s,_⟩|⟨A,f,g,b⟩|⟨F,E,w,L,z,f,g,b,D⟩⟩:=h.iter d;rw[s]at a;simp[iy,T.cells]at a;rcases a with rfl|rfl<;>constructor
  rotate_left
  .rw[f]at a;simp[iy,T.cells]at a;rcases a with rfl|rfl|rfl|rfl
   exact g.low c
   all_goals constructor
  have⟨x,u,i⟩:=List.mem_flatMap.1 a;have⟨v,d⟩:=List.mem_iff_getElem?.1 u;have⟨o,O,I,p,B,C,q,r⟩:=b v x d;rw[p]at i;simp[T.cells]at i;subst i;refine .tuple _ λP m=>?_;simp at m;rcases m with rfl|rfl;exact q.low c;exact r.low c
inductive jw {α β:Type} (R:α->β->Prop):List α->List β->Prop where
 |nil:jw R [] []
 |cons {a:α} {b:β} {l:List α} {m:List β} (h:R a b) (t:jw R l m):jw R (a::l) (b::m)
def jw.imp{g i:Type}{b c:g->i->Prop}{e:List g}{f:List i}(h:jw b e f)(j:∀a d,b a d->c a d):jw c e f:=by
 induction h with
 |nil=>exact .nil
 |cons a _ k=>exact .cons (j _ _ a) k
def jw.length{c d:Type}{e:c->d->Prop}{a:List c}{b:List d}(h:jw e a b):a.length=b.length:=by
 induction h with
 |nil=>rfl
 |cons _ _ f=>grind
theorem jw.append{f g:Type}{a:f->g->Prop}{b c:List f}{d e:List g}(h:jw a b d)(j:jw a c e):jw a (b++c) (d++e):=by
 induction h with
 |nil=>exact j
 |cons i _ k=>exact .cons i k
def jw.get{f a:Type}{b:f->a->Prop}{c:List f}{d:List a}(h:jw b c d){k:Nat}{y:a}(i:d[k]? =G y):∃e,c[k]? =G e/\b e y:=by
 induction h generalizing k with
 |nil=>grind
 |cons g _ j=>grind
def jw.mem{g a:Type}{b:g->a->Prop}{c:List g}{d:List a}(h:jw b c d){f:a}(j:f∈d):∃e∈c,b e f:=by
 have⟨l,i⟩:=List.mem_iff_getElem?.1 j;have⟨e,k,m⟩:=h.get i
 grind
def jw.map{b:Type}{g:b->aa b}{f:b->b->Prop}{a e:List b}(i:∀c∈a,∀d,g c=G d->f c d)(h:iN g a=G e):jw f a e:=by
 induction a generalizing e with
 |nil=>simp at h;subst h;exact .nil
 |cons c a k=>
  rw[kv]at h;obtain⟨d,j,h⟩:=eQ.1 h;obtain⟨o,ht,h⟩:=eQ.1 h;simp at h;subst h;exact .cons (i c Y d j) (k (λl m=>i l c5) ht)
structure Fz(hp:af Obj)(μ:Mu)(n:Nat)(v v':T):Prop where
 rel:∀c,iz hp μ v c->iz hp (pH n μ) v' c
 scalar:v'.scalar=v.scalar
 cells:jw (λx x'=>(∀c,iz hp μ x c->iz hp (pH n μ) x' c)/\x'.scalar=x.scalar/\ma x') v.cells v'.cells
 closed:ma v'
theorem jw.iy{a:T->T->Prop}{b c:List T}(h:jw (λf g=>jw a f.cells g.cells) b c):jw a (TI.iy b) (TI.iy c):=by
 induction h with
 |nil=>exact .nil
 |cons d _ e=>simpa[TI.iy]using jw.append d e
section
variable {cx:Ctx}{base:Nat}{hp:af Obj}{μ:Mu}{h:H}{n:Nat}
def Fz.same{b:T}(hl:ma b)(a:b.cells=[b]):Fz hp μ n b b:=
 ⟨λc a=>a.cut (hl.low n),rfl,a▸ .cons ⟨λc a=>a.cut (hl.low n),rfl,hl⟩ .nil,hl⟩
theorem d1{p:Prop}(h:p:=by simp[T.cells]):p:=h
def EP{a:T}(b:∀d∈a.cells,ma d):ma a:=by
 cases a with
 |agg c=>exact .agg c b
 |_=>exact b _ d1
def KU{a:List T}(e:∀d∈a,∃b,iz hp μ d b):∃c,ja hp μ a c:=by
 induction a with
 |nil=>exact⟨[],ja.nil⟩
 |cons j a i=>
  have⟨b,f⟩:=e j Y;have⟨c,g⟩:=i λd k=>e d c5;exact⟨b::c,ja.cons f g⟩
def Jm{a:T}(d:∀c∈a.cells,∃b,iz hp μ c b)(g:∀c∈a.cells,c.scalar):∃b,iz hp μ a b:=by
 cases a with
 |agg f=>
  have⟨e,hl⟩:=KU d;exact⟨.agg e.toArray,iz.C4 (by have hl:ja hp μ f e:=hl;omega) g⟩
 |_=>exact d _ d1
def ja.mem{b:List T}{d:List am}(h:ja hp μ b d){a:T}(f:a∈b):∃c,iz hp μ a c:=by have⟨g,e⟩:=List.mem_iff_getElem?.1 f;exact⟨_,h.2 g a e⟩
def JU(s:St cx base hp μ h):∀(E:Nat) (c d:T),(∃l,iz hp μ c l)->freeze h n E c=G d->Fz hp μ n c d:=by
 intro E;induction E with
 |zero=>intro c d _ b;simp[freeze]at b
 |succ E bu=>
  intro c d S b;cases c with
  |undef=>exact absurd b (by show¬(none=G d);simp)
  |ptr=>exact absurd b (by show¬(none=G d);simp)
  |kH=>exact absurd b (by show¬(none=G d);simp)
  |func=>exact absurd b (by show¬(none=G d);simp)
  |iface=>exact absurd b (by show¬(none=G d);simp)
  |iter=>exact absurd b (by show¬(none=G d);simp)
  |map=>exact absurd b (by show¬(none=G d);simp)
  |pV=>exact absurd b (by show¬(none=G d);simp)
  |tuple=>exact absurd b (by show¬(none=G d);simp)
  |bool k=>have b:some (T.bool k)=G d:=b;simp[aw]at b;subst b;exact Fz.same (.bool k) rfl
  |int u m=>have b:some (T.int u m)=G d:=b;simp[aw]at b;subst b;exact Fz.same (.int u m) rfl
  |str k=>have b:some (T.str k)=G d:=b;simp[aw]at b;subst b;exact Fz.same (.str k) rfl
  |mn=>have b:some (T.mn)=G d:=b;simp[aw]at b;subst b;exact Fz.same .mn rfl
  |jf=>have b:some (T.jf)=G d:=b;simp[aw]at b;subst b;exact Fz.same .jf rfl
  |mF=>have b:some (T.mF)=G d:=b;simp[aw]at b;subst b;exact Fz.same .mF rfl
  |mN=>have b:some (T.mN)=G d:=b;simp[aw]at b;subst b;exact Fz.same .mN rfl
  |fg w z=>
   have b:some (T.fg w z)=G d:=b;simp[aw]at b;subst b;obtain⟨l,q⟩:=S;refine Fz.same ?_ rfl;cases q with
   |qy=>exact .fg _ _ Y
   |fg e w z ej off eo ef arr t fz eA b hl a7 eC eB q hr=>
    exact .fg _ _ λc g=>EP λi f=>(q i (List.mem_flatMap.2 ⟨c,g,f⟩)).2
  |agg b7=>
   have b:=b;replace b:=eQ.1 b;obtain⟨D,hr,b⟩:=b;simp[aw]at b;subst b;obtain⟨l,q⟩:=S;obtain⟨b6,rfl,L,dn⟩:=q.tQ;have p:=jw.map (λi f B W=>bu i B (L.mem f) W) hr;have R:∀c∈D,ma c:=λc g=>by obtain⟨i,_,f⟩:=p.mem g;exact f.closed
   have ds:∀c∈D,c.scalar:=λc g=>by obtain⟨i,de,f⟩:=p.mem g;rw[f.scalar];exact dn i de
   refine⟨λl q=>?_,rfl,?_,.agg D R⟩;obtain⟨b6,rfl,L,_⟩:=q.tQ;refine iz.C4 ⟨p.length▸L.1,λu c bn=>?_⟩ ds;obtain⟨i,f,a7⟩:=p.get bn;exact a7.rel _ (L.2 u i f);show jw _ b7 D;exact p.imp λa k I=>⟨I.rel,I.scalar,I.closed⟩
  |arr k ap v x z=>
   have b:iX (Nat.ble n k) (Z (h.get k) λi=> @jO.rec (λ_=>aa T) (λ_ ar _ exact ae o=>
    iX (Nat.beq ar ap) (@Bool.rec (λ_=>aa T) (Z (Z (lJ v o) λD=>takeN x D) λw=>Z (iN (freeze h n E) w) λF=>
     @List.rec T (λ_=>aa T) (@List.rec T (λ_=>aa T) (@Bool.rec (λ_=>aa T) (some .jf) (some (.fg [] false)) exact) (λ_ _ _=>some .jf) o) (λ_ _ _=>some (.fg F z)) F) none ae)) i)=G d:=b
   obtain⟨bs,b⟩:=fq.1 b;have bs:=bp bs;replace b:=eQ.1 b;obtain⟨bX,cp,b⟩:=b;obtain⟨ef,ar,eE,av,ae,o⟩:=bX;obtain⟨aN,b⟩:=fq.1 b;have aN:=aK aN;cases ae;replace b:=eQ.1 b;obtain⟨w,r,b⟩:=b;replace b:=eQ.1 b;obtain⟨F,cL,N⟩:=b;obtain⟨c9,r⟩:v+x<=o.length/\w=(o.drop v).take x:=by
    replace r:=eQ.1 r;obtain⟨r0,A,p⟩:=r;rw[ox]at A;split at A;simp[aw]at A;subst A;rw[qB]at p;split at p;simp[aw]at p;rename_i dd c7;simp[List.length_drop]at c7;exact⟨J,p.symm⟩;simp at p;simp at A
   have al:∀l,iz hp μ (.arr k ap v x z) l->iz hp (pH n μ) d l/\ma d/\d.cells=[d]/\d.scalar=true:=by
    intro l q;obtain⟨j,eh,ao,rfl,Q,aE,hl,dm⟩:=q.wJ;obtain⟨eF,C,O⟩:=s.box k j Q;rw[cp]at C;simp[aw]at C;subst C;have b8:=O.ep
    dsimp at b8
    obtain⟨bi,di,b9⟩:=dm J;have y:=O.plain rfl;obtain⟨arr,t,A,p,ax⟩:=y.row;have aX:∀c∈w,c.cells.length=j.sz:=λc g=>y.size c (bY (bU (r▸g)));have dk:∀c∈iy o,∃l,iz hp μ c l:=λc g=>ax.mem g;have br:∀c∈w,c∈o:=λc g=>bY (bU (r▸g));have K:=jw.map (λi f B W=>bu i B (Jm (λP X=>dk P (List.mem_flatMap.2 ⟨i,br i f,X⟩)) λP X=>y.scalar P (List.mem_flatMap.2 ⟨i,br i f,X⟩)) W) cL;have V:F.length=x:=by rw[<-K.length,r];simp;omega
    rcases F with _|⟨B,an⟩;have c6:=iC V.symm;subst c6;have aE:d= .jf\/(o=[]/\av/\d= .fg [] false):=by
     rcases o with _|⟨P,eG⟩;cases av;have b:=N;simp[aw]at b;exact .inl b.symm;have b:=N;simp[aw]at b;exact .inr ⟨rfl,rfl,b.symm⟩;have b:=N;simp[aw]at b;exact .inl b.symm
    rcases aE with rfl|⟨rfl,rfl,rfl⟩;exact⟨.jf _ _,.jf,rfl,rfl⟩;have aA:=iC (y.wW rfl);have:ao=0:=by
     cases z;have:=di rfl;omega;exact bi rfl
    subst this;exact⟨.qy _ _,.fg _ _ Y,rfl,rfl⟩;have b:=N;simp[aw]at b;subst b;simp[aU]at V;have R:∀c∈B::an,ma c:=λc g=>by obtain⟨i,_,f⟩:=K.mem g;exact f.closed
    refine⟨?_,.fg _ _ R,rfl,rfl⟩;rw[b9 J,<-V];have U:=jw.iy (K.imp λa k I=>I.cells);have c4:(iy (B::an)).length=x*j.sz:=by rw[<-U.length,ji aX,r];congr 1;simp;omega
    have a8:=r▸GZ y.size v x;have c1:(iy o).length=o.length*j.sz:=ji y.size;have et:v*j.sz+x*j.sz<=o.length*j.sz:=by rw[<-cJ];exact bG _ c9
    have eu:o.length*j.sz<=j.cap*j.sz:=bG _ y.room;refine .fg B an z j.jV (v*j.sz) ao j.sz arr t (0,0) ?_ A J (λu=>by rw[bi u];omega) ?_ ?_ ?_ ?_;rintro(⟨bW,bT,ca,cb⟩|hr);obtain⟨eD,ee⟩:=lK ca;have:=s.inj bW k bT j ee Q cb;omega;exact s.apart k j Q hr;intro c g;obtain⟨i,f,eb⟩:=K.mem g;rw[<-eb.cells.length];exact aX i f;rw[c4,p];omega;intro c g;obtain⟨i,f,C,O,ea⟩:=U.mem g;refine⟨?_,ea⟩;rw[O];rw[a8]at f;exact y.scalar i (bY (bU f));intro u c g;obtain⟨i,f,C,_⟩:=U.get g;refine C _ ?_;rw[a8,cM]at f;split at f;rename_i bn;rw[cu]at f;have:=ax.2 _ i f;have dd:v*j.sz+u<(iy o).length:=by rw[c1];omega
    have ey:v*j.sz+u<arr.size:=by rw[p];omega
    simp_all
    grind
   obtain⟨bZ,aA⟩:=S;obtain⟨_,bA,ec,bN⟩:=al bZ aA;exact⟨λl q=>(al l q).1,by rw[bN];rfl,ec▸ .cons ⟨λl q=>(al l q).1,by rw[bN];rfl,bA⟩ .nil,bA⟩;simp at b
end
end
section
section
variable {cx:Ctx}{base:Nat}{hp:af Obj}{μ:Mu}{h:H}{n:Nat}
def xL(t:St cx base hp μ h){e c:T}(q:∃d,iz hp μ e d)(a:kh h n e=G c):
 (∀d,iz hp μ e d->iz hp (pH n μ) c d)/\c.scalar=e.scalar:=by
 have s:freeze h n 12 e=G c->(∀d,iz hp μ e d->iz hp (pH n μ) c d)/\c.scalar=e.scalar:=λr=>
  let m:=JU t 12 e c q r
  ⟨m.rel,m.scalar⟩
 cases e with
 |undef=>
  have a:some T.undef=G c:=a;cases a;exact⟨λd g=>g.cut .undef,rfl⟩
 |ptr b i o p=>
  have a: @Bool.rec (λ_=>aa T) (some (.ptr b i o p)) none (Nat.ble n b)=G c:=a;cases f:Nat.ble n b;rw[f]at a;have a:some (T.ptr b i o p)=G c:=a;cases a;have:b<n:=by
   grind [aR,cQ]
  exact⟨λd g=>g.cut (.ptr _ _ _ _ this),rfl⟩;rw[f]at a;grind
 |map b=>
  have a: @Bool.rec (λ_=>aa T) (some (.map b)) none (Nat.ble n b)=G c:=a;cases f:Nat.ble n b;rw[f]at a;have a:some (T.map b)=G c:=a;cases a;have:b<n:=by
   grind [aR,cQ]
  exact⟨λd g=>g.cut (.map _ this),rfl⟩;rw[f]at a;grind
 |arr b i l k j=>
  have a: @Bool.rec (λ_=>aa T) (some (.arr b i l k j)) (freeze h n 12 (.arr b i l k j)) (Nat.ble n b)=G c:=a;cases f:Nat.ble n b;rw[f]at a;have a:some (T.arr b i l k j)=G c:=a;cases a;have:b<n:=by
   grind [aR,cQ]
  exact⟨λd g=>g.cut (.arr _ _ _ _ _ this),rfl⟩;rw[f]at a;grind
 |_=>exact s a
theorem HV(p:St cx base hp μ h){f e:List T}{i:List am}(d:ja hp μ f i)(l:iN (kh h n) f=G e):
 ja hp (pH n μ) e i/\∀b∈e,∃g∈f,b.scalar=g.scalar:=by
 have c:=jw.map (λb a g k=>xL p (d.mem a) k) l;refine⟨⟨c.length▸d.1,λo q m=>?_⟩,λb a=>?_⟩;have⟨b,a,j⟩:=c.get m;exact j.1 _ (d.2 o b a);have⟨g,k,j⟩:=c.mem a
 grind
def uE(f:St cx base hp μ h){d e:T}{b:am}(c:iz hp μ d b)(a:mw h n d=G e):iz hp (pH n μ) e b:=by
 cases d with
 |agg i=>
  have a:=a;obtain⟨l,hr,a⟩:=eQ.1 a;simp[aw]at a;subst a;obtain⟨g,rfl,j,k⟩:=c.tQ
  grind [HV,iz.C4]
 |_=>exact(xL f ⟨b,c⟩ a).1 b c
def yD(k:St cx base hp μ h){c e:T}{b:am}(d:iz hp μ c b)(a:kI h n c=G e):iz hp (pH n μ) e b:=by
 cases c with
 |tuple s=>
  have a:=a;obtain⟨j,hr,a⟩:=eQ.1 a;simp[aw]at a;subst a;obtain⟨m,rfl,g⟩:=d.DG;have f:jw (λc e=>∀b,iz hp μ c b->iz hp (pH n μ) e b) s j:=jw.map (λl i t q b d=>uE k d q) hr;refine .tuple j m (by rw[<-f.length];simpa using g.1.symm) λr c p=>?_;have⟨l,i,o⟩:=f.get p;have:=o _ (g.2 r l i);simp_all
 |_=>exact uE k d a
theorem nK{b:T}{i:am}(g:iz hp μ b i)(a:nq n b):tF n b:=by
 cases b with
 |ptr c j m o=>exact .ptr _ _ _ _ (by have a:Nat.blt c n:=a;rwa[aQ]at a)
 |arr c j q p k=>exact .arr _ _ _ _ _ (by have a:Nat.blt c n:=a;rwa[aQ]at a)
 |map c=>exact .map _ (by have a:Nat.blt c n:=a;rwa[aQ]at a)
 |kH l=>
  have⟨_,_,_,_,_,_,_,_,_,d,_⟩:=g.oq;exact .kH _ λb e=>(d b e).2.low n
 |fg f k=>
  refine .fg _ _ λb e=>?_;rcases f with _|⟨r,f⟩
  grind [iy]
  have⟨_,_,_,_,_,_,_,_,_,_,_,_,_,_,d,_⟩:=g.xG;exact(d b e).2.low n
 |undef=>grind [nq]
 |func=>grind [nq]
 |iface=>grind [nq]
 |iter=>grind [nq]
 |agg=>grind [nq]
 |tuple=>grind [nq]
 |_=>constructor
def R1{g:T}(f:below n g)(b:∀c∈g.cells,∃d,iz hp μ c d):∀c∈g.cells,tF n c:=by
 cases g with
 |agg l=>
  intro c a;have⟨d,b⟩:=b c a;exact nK b (un (f) c a)
 |func p l=>
  intro c a;have⟨d,b⟩:=b c a;simp[T.cells]at a;subst a;obtain⟨m,rfl,i⟩:=b.vN;exact .func _ _ λk e=>by have⟨o,j⟩:=i.mem e;exact nK j (un (f) k e)
 |tuple l=>
  intro c a;have⟨d,b⟩:=b c a;simp[T.cells]at a;subst a;obtain⟨m,rfl,i⟩:=b.DG;exact .tuple _ λk e=>by have⟨o,j⟩:=i.mem e;exact nK j (un (f) k e)
 |_=>
  intro c a;have⟨d,b⟩:=b c a;simp[T.cells]at a;subst a;exact nK b f
def Hu{a:Nat}{c:List jO}(b:v7 n a c):∀d e,d<a->c[d]? =G e->∀j∈e.im,below n j=true:=by
 induction a generalizing c with
 |zero=>omega
 |succ a m=>
  intro d e k l;rcases c with _|⟨g,i⟩
  grind
  have b: @Bool.rec (λ_=>Bool) false (v7 n a i) (D8 (below n) g.im):=b;cases f:D8 (below n) g.im;rw[f]at b;grind;rw[f]at b
  grind [un]
def St.cut(c:St cx base hp μ h)(y:n<=h.size){low:Nat}(hl:∀a b e,a<n->μ a=G b->h.get a=G e->∀f∈iy e.im,tF n f):
 St cx base hp (pH n μ) ⟨n,low,h.iA.drop (h.size-n)⟩:=by
 have t:∀a,a<n->(⟨n,low,h.iA.drop (h.size-n)⟩:H).get a=h.get a:=by
  intro a d;rw[H.get_eq,H.get_eq];have g:a<h.size:=J
  grind
 refine⟨?_,c.fit,?_,?_,?_,λa b d=>c.apart a b (lK d).2,c.uM,?_⟩;simp[List.length_drop,c.wf];omega;intro a b d;have⟨j,k⟩:=lK d;have⟨e,i,u⟩:=c.box a b k;exact⟨e,t a j▸i,u.cut (hl a b e j k i)⟩;intro a m b l g q r;exact c.inj a m b l (lK g).2 (lK q).2 r;intro a b d;exact c.low a b (lK d).2;intro p o s;have:=c.CH p o s;refine this.cut ?_;have⟨_,_,_,_,_,_,_,_,_,v,_⟩:=this.oq;exact .kH _ λf x=>(v f x).2.low n
def St.Pi(a:St cx base hp μ h)(e:Nat):St cx base hp μ ⟨h.size,e,h.iA⟩:=by
 refine⟨a.wf,a.fit,λc b d=>?_,a.inj,a.low,a.apart,a.uM,a.CH⟩;have⟨i,g,f⟩:=a.box c b d
 grind [H.get_eq]
def Left(cx:Ctx)(base:Nat)(w w':World)(μ:Mu)(d:H)(e:T)(b:H)(c:am):Prop:=
 ∃a,iz w'.heap a e c/\St cx base w'.heap a b/\tH w μ w' a/\BT μ a d.size b.size
theorem H.vj(h:H)(b a:Nat):(⟨h.size,b,h.iA⟩:H).get a=h.get a:=by rw[H.get_eq,H.get_eq]
def GW{n low0 low:Nat}{b:List jO}(c:ng ⟨n,n,b⟩ h)(hl:low<=low0)(g:∀a,a<n->a<low->a<h.low):ng ⟨n,low0,b⟩ ⟨h.size,low,h.iA⟩:=by
 have d:∀a,(⟨n,low0,b⟩:H).get a=(⟨n,n,b⟩:H).get a:=λa=>by rw[H.get_eq,H.get_eq]
 refine⟨c.wf,c.size,hl,λa e i=>?_,λa j f=>?_⟩;rw[H.vj,d];exact c.mO a e (g a e i);rw[d]at f;have⟨m,k,l⟩:=c.ver a j f
 grind [H.vj]
def JB{low0:Nat}{d f:T}{e:H}(a:qm low0 d h=G (f,e)):f=d/\e=⟨h.size,if h.low<low0 then h.low else low0,h.iA⟩:=by
 obtain⟨i,b,g⟩:=h;have a: @Bool.rec (λ_=>aa (T×H)) (some (d,⟨i,low0,g⟩)) (some (d,⟨i,b,g⟩)) (Nat.blt b low0)=G (f,e):=a;cases c:Nat.blt b low0;rw[c]at a;simp[aw,aH]at a;have:¬b<low0:=λj=>by rw[<-aQ,c]at j;grind
 grind
 rw[c]at a;simp[aw,aH]at a;have:b<low0:=by rwa[aQ]at c
 grind
variable {w w':World}{μ0:Mu}{low0:Nat}{v8:List jO}
def BA{c d:T}{b:am}{a:H}(k:St cx base w'.heap μ h)(f:ng ⟨n,n,v8⟩ h)(l:tH w μ0 w' μ)(e:BT μ0 μ n h.size)(i:iz w'.heap μ c b)
 (j:qm low0 c h=G (d,a)):Left cx base w w' μ0 ⟨n,low0,v8⟩ d a b/\ng ⟨n,low0,v8⟩ a:=by
 obtain⟨rfl,rfl⟩:=JB j;exact⟨⟨μ,i,k.Pi _,l,e⟩,GW f (by split<;>omega) (λm _ g=>by split at g<;>omega)⟩
def LL{a7:Bool}{x y:T}{S:am}{B:H}(a8:St cx base w.heap μ0 ⟨n,low0,v8⟩)(D:St cx base w'.heap μ h)(A:ng ⟨n,n,v8⟩ h)(g:tH w μ0 w' μ)(F:BT μ0 μ n h.size)
 (O:iz w'.heap μ x S) (b:GE a7 n low0 x h=G (y,B)):Left cx base w w' μ0 ⟨n,low0,v8⟩ y B S/\ng ⟨n,low0,v8⟩ B:=by
 cases a7 with
 |true=>exact BA D A g F O b
 |false=>
  have b: @Option.rec T (λ_=>aa (T×H)) (qm low0 x h) (λy=>xD n low0 x y h) (kI h n x)=G (y,B):=b;cases ae:kI h n x with
  |none=>rw[ae]at b;exact BA D A g F O b
  |some K=>
   rw[ae]at b;have cL:=yD D O ae;have an:n<=h.size:=A.size;have aA:∀a c,μ0 a=G c->a<n:=λa c d=>a8.fV d;have br:∀s,s<=low0->(∀a,a<n->a<s->a<h.low)->(∀a c e,a<n->μ a=G c->h.get a=G e->∀z∈iy e.im,tF n z)->
    Left cx base w w' μ0 ⟨n,low0,v8⟩ K ⟨n,s,h.iA.drop (h.size-n)⟩ S/\ng ⟨n,low0,v8⟩ ⟨n,s,h.iA.drop (h.size-n)⟩:=by
    intro s al ca hl;have ax:=St.cut (low:=s) D an hl;refine⟨⟨pH n μ,cL,ax,⟨⟨g.ext.size,λi P cb=>?_,λa c d=>?_,g.ext.qJ,g.ext.kept⟩,g.os,g.tape,g.output⟩,ay _,λa d=>?_,λa c4 aX=>absurd c4 (by show¬n<=a;have aX:a<n:=aX;omega)⟩,?_⟩;have⟨bu,bA⟩:=g.ext.Bo i P cb;exact⟨bu,As bA⟩;rw[xP (aA a c d)];exact g.ext.mu a c d;left;have⟨c,C⟩:=Option.ne_none_iff_exists'.1 d;have⟨ej,c9⟩:=lK C;rcases F.2.1 a (by rw[c9];simp)with k|k
    exact k;omega;have V:=GW (low:=s) A al ca;have aE:∀a,a<n->(⟨n,s,h.iA.drop (h.size-n)⟩:H).get a=h.get a:=by
     intro a d;rw[H.get_eq,H.get_eq];have N:a<h.size:=J;simp[d,N,cu];congr 1;omega
    refine⟨ax.wf,ay _,V.low,λa d b9=>?_,λa R r=>?_⟩;rw[aE a d];have:=V.mO a d b9;rwa[H.vj]at this;rw[aE a (H.fV r)];have:=V.ver a R r;simpa only[H.vj]using this
   have bi:∀a c e,a<n->a<h.low->μ a=G c->h.get a=G e->∀z∈iy e.im,tF n z:=by
    intro a c e d al C v;have aN:=A.mO a d al;rw[v]at aN;rcases F.2.1 a (by rw[C];simp)with k|k
    have⟨bn,bT⟩:=Option.ne_none_iff_exists'.1 k;have⟨ey,ap,Q⟩:=a8.box a bn bT;have bs:(⟨n,low0,v8⟩:H).get a=(⟨n,n,v8⟩:H).get a:=by rw[H.get_eq,H.get_eq]
    rw[bs,<-aN]at ap;cases ap;exact Q.low aA;omega
   obtain⟨E,low,L⟩:=h;have b:(Z (lJ (Nat.sub E n) L) λq=>
    @Bool.rec (λ_=>aa (T×H))
     (@Bool.rec (λ_=>aa (T×H)) (qm low0 x ⟨E,low,L⟩)
       (@Bool.rec (λ_=>aa (T×H)) (some (K,⟨n,low0,q⟩)) (some (K,⟨n,low,q⟩)) (Nat.blt low low0)) (v7 n (Nat.sub n low) q))
     (some (K,⟨n,low0,q⟩)) (Nat.ble n low))=G (y,B):=b
   obtain⟨q,o,b⟩:=eQ.1 b;rw[ox]at o;have o:q=L.drop (E-n):=by
    split at o;simp[aw]at o;exact o.symm;simp at o
   have eb:low0<=n\/n<low0:=J;cases I:Nat.ble n low with
   |true=>
    rw[I]at b;simp[aw,aH]at b;obtain⟨rfl,rfl⟩:=b;have cp:n<=low:=bp I;rw[o];exact br _ (ay _) (λa d _=>by show a<low;omega) λa c e d=>bi a c e d (by show a<low;omega)
   |false=>
    rw[I]at b;have cp:low<n:=by
     rcases aR low n with k|k;exact k;rw[cQ k]at I;simp at I
    cases W:v7 n (Nat.sub n low) q with
    |false=>rw[W]at b;exact BA D A g F O b
    |true=>
     rw[W]at b;have dd:∀a c e,a<n->μ a=G c->(⟨E,low,L⟩:H).get a=G e->∀z∈iy e.im,tF n z:=by
      intro a c e d C v;by_cases bW:a<low;exact bi a c e d bW C v
      .have⟨eu,ao,Q⟩:=D.box a c C;rw[v]at ao;cases ao;have b7:q[n-1-a]? =G e:=by
        rw[H.get_eq]at v;have an:n<=E:=an;have bX:a<E:=J;simp[bX]at v;rw[o,cu,<-v];congr 1;omega
       have X:=Hu W (n-1-a) e (by show _<n-low;omega) b7;intro z c1;have⟨U,f,p⟩:=List.mem_flatMap.1 c1;cases P:e.it with
       |true=>
        obtain⟨_,⟨et,c7,b6,_⟩|⟨dk,ec,ee,c6⟩|⟨ef,m,c7,eo,di,N,ar,av,ea⟩⟩:=Q.iter P;rw[b6]at f;simp at f;rcases f with rfl|rfl<;>(simp[T.cells]at p;subst p;constructor)
        rotate_left
        .have l:=X _ f;rw[N]at f;simp at f;rcases f with rfl|rfl|rfl|rfl
         simp[T.cells]at p;subst p;exact nK ar l
         all_goals (simp[T.cells]at p;subst p;constructor)
        have⟨j,b8⟩:=List.mem_iff_getElem?.1 f;obtain⟨k,u,eh,rfl,dm,dn,bN,ds⟩:=c6 j U b8;have l:=X _ f;have l:D8 (nq n) [k,u]:=l;simp[T.cells]at p;subst p;refine .tuple _ λR r=>?_;have bZ:=un l R r;simp at r;rcases r with rfl|rfl;exact nK bN bZ
        grind [nK]
       |false=>
        have⟨de,t,N,ar,av⟩:=(Q.plain P).row;exact R1 (X U f) (λR r=>av.mem (List.mem_flatMap.2 ⟨U,f,r⟩)) z p
     have:y=K/\B=⟨n,if low<low0 then low else low0,q⟩:=by
      cases l:Nat.blt low low0;rw[l]at b;simp[aw,aH]at b;have:¬low<low0:=λk=>by rw[<-aQ,l]at k;grind
      grind
      rw[l]at b;simp[aw,aH]at b;have:low<low0:=by rwa[aQ]at l
      grind
     obtain⟨rfl,rfl⟩:=this;rw[o]
     grind
end
end
def ql(b:Nat)(d:T)(c:iM)(a:Nat):mB (.cons b d c) a=if b=a then some d else mB c a:=by show @Bool.rec (λ_=>aa T) (mB c a) (some d) (Nat.beq b a)=_;cases e:Nat.beq b a;have:=du e;simp[this];have:=aK e;simp[this]
def KO{i f:iM}{c:Nat}{g:T}(a:pQ i c g=G f)(d:Nat):mB f d=if d=c then some g else mB i d:=by
 induction i generalizing f with
 |nil=>
  have a:some (iM.cons c g .nil)=G f:=a;simp[aw]at a;subst a;rw[ql];by_cases b:c=d;simp[b];simp[b,bH b]
 |cons e o j n=>
  have a: @Bool.rec (λ_=>aa iM) (Z (pQ j c g) λk=>some (.cons e o k)) (some (.cons e g j)) (Nat.beq e c)=G f:=a;cases h:Nat.beq e c;rw[h]at a;have a:=a;have⟨k,ht,a⟩:=eQ.1 a;simp[aw]at a;subst a;rw[ql,ql,n ht];by_cases b:e=d;have:d≠c:=λl=>(du h) (b.trans l);simp[b,this];simp[b];rw[h]at a;have m:=aK h;have a:some (iM.cons e g j)=G f:=a;simp[aw]at a;subst a;rw[ql,ql,m];by_cases b:c=d;simp[b];simp[b,bH b]
def Env.E5{c:Nat}{j i:Env}{d:Nat}{f:T}(a:j.set c d f=G i)(b:Nat):i.get c b=if b=d then some f else j.get c b:=by
 obtain⟨l,k⟩:=j;have a: @Bool.rec (λ_=>aa Env) (some ⟨l,.cons d f k⟩) (Z (pQ l d f) λm=>some ⟨m,k⟩) (lO c d)=G i:=a;have get:∀(g h:iM),(⟨g,h⟩:Env).get c b=if lO c b=true then mB g b else mB h b:=by
  intro g h;show @Bool.rec (λ_=>aa T) (mB h b) (mB g b) (lO c b)=_;cases lO c b<;>rfl
 cases hl:lO c d;rw[hl]at a;have a:some (⟨l,.cons d f k⟩:Env)=G i:=a;simp[aw]at a;subst a;rw[get,get,ql];by_cases e:b=d;subst e;simp[hl];simp[e,bH e];rw[hl]at a;have a:=a;have⟨m,n,a⟩:=eQ.1 a;simp[aw]at a;subst a;rw[get,get,KO n];by_cases e:b=d;subst e;simp[hl];simp[e]
theorem mo.put{i:af Obj}{k:Mu}{j:Nat}{f g:Env}{e:Act}{d:aa Tmp}{p:T}{l:am}(m:mo i k j f e.tmps)(s:iz i k p l)(q:∀c,d=G c->c<e.tmps.size)
 (a:f.dst j d p=G g):mo i k j g (e.put d l).tmps:=by
 rcases d with _|c;have a:some f=G g:=a;cases a;exact m;intro o t b;rw[Env.E5 a]at b;have r:=q c rfl;by_cases h:o=c;subst h;rw[au rfl]at b;cases b;simpa[Act.put,cC,r]using s;simp[h]at b;have:=m o t b;simpa[Act.put,cC,Array.getElem?_setIfInBounds_ne (bH h)]using this
def Act.tZ(a:Act)(b:aa Tmp)(c:am):(a.put b c).tmps.size=a.tmps.size:=by cases b<;>simp[Act.put]
def Act.uc(a:Act)(b:aa Tmp)(c:am):(a.put b c).defers=a.defers:=by cases b<;>rfl
def Fl{w:af Obj}{z:Mu}{l:Nat}{j:Env}{b:Act}{i:af Oper}{h:Oper}{c:Bool}(y:mo w z l j b.tmps)(v:∀(g:Nat) (e:Oper) t,i[g]? =G e->e.dst=G t->t<b.tmps.size)
 (a:mf i l j h.guard=G c):Region.wanted h (yielded i b.tmps)=c:=by
 unfold Region.wanted;cases o:h.guard with
 |none=>
  rw[o]at a;have a:some true=G c:=a;simpa using a
 |some e=>
  obtain⟨g,n⟩:=e;rw[o]at a;have a:(Z (Z (Z (qN i.toList g) λh=>h.dst) λd=>j.get l d) λm=>
   match m with
   | .bool c=>some (@Bool.rec (λ_=>Bool) (@Bool.rec (λ_=>Bool) true false n) n c)
   |_=>some false)=G c:=a
  replace a:=eQ.1 a;obtain⟨m,f,a⟩:=a;replace f:=eQ.1 f;obtain⟨d,k,f⟩:=f;replace k:=eQ.1 k;obtain⟨e,p,r⟩:=k;rw[m6]at p;have q:=iC p;have s:=y d m f;have x:((i[g]?).bind (·.dst)).bind (b.tmps[·]?)=G (b.tmps.getD d Go.undef):=by
   simp[q,r,cC,(v g e d q r)]
  simp only[yielded,x];generalize b.tmps.getD d Go.undef=A at s;cases s<;>simp only[aw]at a<;>first
   |(subst a;rfl)
   |skip
  rename_i u;subst a;cases u<;>cases n<;>rfl
section
def uI(cx:Ctx)(base:Nat)(w:World)(f:Mu)(h:H)(c:T)(h':H)(b:am)(d:World):Prop:=aad cx base w f h.size c h' b d/\ng h h'
def qx(P:ai)(cx:Ctx)(cf:jS):Prop:=
 ∀f c h g h',cf f c h=G (g,h')->∀base w b (d:af am),St cx base w.heap b h->ja w.heap b c d.toList->C6 P (uI cx base w b h g h') ((callFunc f d).run P w)
def wX(cx:Ctx)(base V m:Nat)(w0:World)(μ0:Mu)(h0:H)(e:Env)(h:H)(a:Act)(w:World):Prop:=
 ∃b,St cx base w.heap b h/\mo w.heap b V e a.tmps/\tH w0 μ0 w b/\BT μ0 b h0.size h.size/\ng h0 h/\a.tmps.size=m/\a.defers=[]
section
variable {P:ai}{cx:Ctx}{cf:jS}{base V m:Nat}{w0 w:World}{μ0:Mu}{h0 h h':H}{e e':Env}{a:Act}{ops:af Oper}{Q:Exit->Act->World->Prop}
def Jf(m:Nat)(ops:af Oper):Prop:=∀(d:Nat) (b:Oper) c,ops[d]? =G b->b.dst=G c->c<m
def wX.after(H:wX cx base V m w0 μ0 h0 e h a w){d:aa Tmp}(z:∀b,d=G b->b<m){l:T}(r:e.dst V d l=G e')
 {g:Result Next} (hr:∀base c,St cx base w.heap c h->mo w.heap c V e a.tmps->C6 P (uI cx base w c h l h') g):C6 P (λi n=>wX cx base V m w0 μ0 h0 e' h' (a.put d i) n) g:=by
 obtain⟨c,b,k,x,o,p,j,A⟩:=H;refine(hr base c b k).mono λi n q=>?_;obtain⟨⟨y,s,t,f,u⟩,v⟩:=q;refine⟨y,t,?_,x.trans f,o.trans (hp:=w.heap) u f.ext,p.trans v,by rw[Act.tZ];exact j,by rw[Act.uc];omega⟩;exact mo.put (k.ext f.ext) s (λb B=>by rw[j];grind) r
def M7(j8:jR P cx)(K:qx P cx cf){n:Nat}{d:Oper}(s:ops[n]? =G d)(r:Jf m ops)(b:nW cx cf V ops e h d=G (e',h'))
 (H:wX cx base V m w0 μ0 h0 e h a w) {A:Act->World->Prop} (v:∀B o,wX cx base V m w0 μ0 h0 e' h' B o->A B o):wpOp P ops Q n A a w:=by
 have F:=H;obtain⟨t,c,f,x,L,N,y,al⟩:=F;unfold wpOp;simp[s];obtain⟨ae,U,b⟩:=eQ.1 b;have E:=Fl f (λW X c S i=>y▸r W X c S i) U;cases ae with
 |false=>
  have b:(Z (e.dst V d.dst .undef) λe'=>some (e',h))=G (e',h'):=b;obtain⟨D,l,b⟩:=eQ.1 b;simp[aw,aH]at b;obtain⟨rfl,rfl⟩:=b;simp[E,dj];refine v _ _ ⟨t,c,mo.put f .undef (λc i=>by rw[y];exact r n d c s i) l,x,L,N,by rw[Act.tZ];exact y,by rw[Act.uc];omega⟩
 |true=>
  simp[E];left;have b:(Z (j9 d.op cx V e h) λu=> @nO.rec (λ_=>aa (Env×TI.H))
   (λg h'=>Z (e.dst V d.dst g) λe'=>some (e',h'))
   (λq p=>Z (cf q p h) λf=>two f λg h'=>Z (e.dst V d.dst g) λe'=>some (e',h')) u)=G (e',h'):=b
  obtain⟨u,z,b⟩:=eQ.1 b;rcases u with⟨g,j⟩|⟨q,p⟩
  .skip
   have b:(Z (e.dst V d.dst g) λe'=>some (e',j))=G (e',h'):=b;obtain⟨D,l,b⟩:=eQ.1 b;simp[aw,aH]at b;obtain⟨rfl,rfl⟩:=b;refine C6.wp (H.after (λc i=>r n d c s i) l (h':=j) λbase t c f=>?_) (λC o k=>v _ _ k);exact((Cw j8 c f z).ran).mono λC o k=>⟨k,Uw c.wf g j z⟩
  .skip
   have b:(Z (cf q p h) λf=>two f λg h'=>Z (e.dst V d.dst g) λe'=>some (e',h'))=G (e',h'):=b;obtain⟨⟨g,j⟩,R,b⟩:=eQ.1 b;simp[nh]at b;obtain⟨D,l,b⟩:=eQ.1 b;simp[aw,aH]at b;obtain⟨rfl,rfl⟩:=b;refine C6.wp (H.after (λc i=>r n d c s i) l (h':=j) λbase t c f=>?_) (λC o k=>v _ _ k);have⟨_,I,O,T⟩:=Ld (P:=P) c f z;rw[T];exact K q p h g j R base w t I c O
def Ji(j8:jR P cx)(l:qx P cx cf)(p:Jf m ops):∀(d:List Oper) (c:Nat) (e:Env) (h:H) (a:Act) (w:World),(∀g,d[g]? =ops[c+g]?)->
 mK cx cf V ops d e h=G (e',h')->wX cx base V m w0 μ0 h0 e h a w->(∀f i,wX cx base V m w0 μ0 h0 e' h' f i->Q .normal f i)->wpOps P ops Q (List.range' c d.length) a w:=by
 intro d;induction d with
 |nil=>
  intro c e h a w _ b H j;have b:some (e,h)=G (e',h'):=b;simp[aw,aH]at b;obtain⟨rfl,rfl⟩:=b;exact j a w H
 |cons t d s=>
  intro c e h a w hl b H j;have b:=b;obtain⟨⟨n,o⟩,r,b⟩:=eQ.1 b;simp[nh]at b;simp[aU,List.range'_succ];rw[wpOps_cons];have q:ops[c]? =G t:=by have:=hl 0;grind
  refine M7 j8 l q p r H λf i k=>s (c+1) n o f i (λg=>?_) b k j;have:=hl (g+1);simp[dM]at this;rw[this];grind
def XX(m:Nat)(ops:af Oper):Bool:=ops.toList.all λb=>match b.dst with|some c=>Nat.blt c m|none=>true
def XW(b:XX m ops):Jf m ops:=by intro g d i f c;unfold XX at b;rw[cw]at b;have:=b d c5;rw[c]at this;simp_all
def pi(m:Nat)(rZ:af Oper->Bool):Code->Bool
 | .region _ ops c=>XX m ops&&(!c||rZ ops)
 | .seq a b=>pi m rZ a&&pi m rZ b
 | .cond _ a b=>pi m rZ a&&pi m rZ b
 | .block _ b=>pi m rZ b
 | .loop b=>pi m rZ b
 |_=>true
def af8:Ex->Exit
 | .normal=> .normal
 | .exit b=> .exit b
 | .ret=> .ret
def V8(P:ai)(cx:Ctx)(cf:jS)(rZ:af Oper->Bool):Prop:=
 ∀(base V m:Nat) (w0:World) (μ0:Mu) (h0:H) (ops:af Oper) (e e':Env) (h h':H) (a:Act) (w:World) (Q:Exit->Act->World->Prop) (id:Nat),rZ ops->Jf m ops->
  lH cx cf V ops ops.toList 0 ⟨[],[]⟩ e h=G (e',h')->wX cx base V m w0 μ0 h0 e h a w->(∀b c,wX cx base V m w0 μ0 h0 e' h' b c->Q .normal b c)->(Code.region id ops true).wp P Q a w
def wX.drop(H:wX cx base V m w0 μ0 h0 e h a w):wX cx base V m w0 μ0 h0 ⟨e.vars,.nil⟩ h a w:=by obtain⟨q,n,l,p,g,i,k,j⟩:=H;refine⟨q,n,λb d c=>l b d ?_,p,g,i,k,j⟩;obtain⟨f,o⟩:=e;have c: @Bool.rec (λ_=>aa T) (mB .nil b) (mB f b) (lO V b)=G d:=c;show @Bool.rec (λ_=>aa T) (mB o b) (mB f b) (lO V b)=G d;cases hl:lO V b;rw[hl]at c;grind [mB];rw[hl]at c;exact c
def wpL(P:ai)(d:Code)(Q:Exit->Act->World->Prop)(a:Act)(w:World):Prop:=
 ∀(c:Frame) (g:List Item) (f:List Frame),∃e b i,Q e b i/\Arrives P (lone (c.at a (.code d:: .inLoop d::g)) f w) c g f e b i
def QB{b:Code}(h:b.wp P (Exit.then (wpL P b Q) Q) a w):wpL P b Q a w:=by
 intro i k j;have⟨e,f,g,d,c⟩:=h i (.inLoop b::k) j;cases e with
 |normal=>
  have⟨n,l,q,p,o⟩:=d i k j;exact⟨n,l,q,p,.of_steps (Steps.trans c (.one step_inLoop)) o⟩
 |exit id=>exact⟨_,f,g,d,.pass (x:= .inLoop b) rfl (λ_ _=> .inl Y) c⟩
 |goto s=>exact⟨_,f,g,d,.pass (x:= .inLoop b) rfl (λ_ _=> .inl Y) c⟩
 |ret=>exact⟨_,f,g,d,.pass (x:= .inLoop b) rfl (λ_ _=> .inl Y) c⟩
 |panic r=>exact⟨_,f,g,d,.pass (x:= .inLoop b) rfl (λ_ _=> .inl Y) c⟩
 |outgrown=>exact⟨_,f,g,d,.pass (x:= .inLoop b) rfl (λ_ _=> .inl Y) c⟩
def QA{b:Code}(h:wpL P b Q a w):(Code.loop b).wp P Q a w:=by intro d j f;have⟨e,c,k,i,g⟩:=h d j f;exact⟨e,c,k,i,.of_steps (.one step_loop) g⟩
def agG(P:ai)(cx:Ctx)(base V m:Nat)(w0:World)(μ0:Mu)(h0:H)(f:Code)(g:Env->H->Out):Prop:=
 ∀e h d e' h',g e h=G (d,e',h')->∀a w Q,wX cx base V m w0 μ0 h0 e h a w->(∀b c,wX cx base V m w0 μ0 h0 e' h' b c->Q (af8 d) b c)->f.wp P Q a w
def NT{k:Code}{n:Env->H->Out}(r:agG P cx base V m w0 μ0 h0 k n):∀(f:Nat) (e:Env) (h:H) (g:Ex) (e':Env) (h':H),su n f e h=G (g,e',h')->
 ∀a w Q,wX cx base V m w0 μ0 h0 e h a w->(∀c d,wX cx base V m w0 μ0 h0 e' h' c d->Q (af8 g) c d)->wpL P k Q a w:=by
 intro f;induction f with
 |zero=>simp[su]
 |succ f s=>
  intro e h g e' h' b a w Q H j;have b:=b;obtain⟨⟨p,l,o⟩,q,b⟩:=eQ.1 b;refine QB (r e h p l o q a w _ H λc d i=>?_);cases p with
  |normal=>
   have b:=b;exact s l o g e' h' b c d Q i j
  |exit t=>
   have b:=b;simp[aw,aH]at b;obtain⟨rfl,rfl,rfl⟩:=b;exact j c d i
  |ret=>
   have b:=b;simp[aw,aH]at b;obtain⟨rfl,rfl,rfl⟩:=b;exact j c d i
def Ot(j8:jR P cx)(F:qx P cx cf){rZ:af Oper->Bool}(I:V8 P cx cf rZ)(s:Nat):∀(p:Code),pi m rZ p->agG P cx base V m w0 μ0 h0 p (lV cx cf s V p):=by
 intro p;induction p with
 |skip=>
  intro _ e h d e' h' b a w Q H c;have b:some (Ex.normal,e,h)=G (d,e',h'):=b;simp[aw,aH]at b;obtain⟨rfl,rfl,rfl⟩:=b;exact wp_skip (c a w H)
 |exit id=>
  intro _ e h d e' h' b a w Q H c;have b:some (Ex.exit id,e,h)=G (d,e',h'):=b;simp[aw,aH]at b;obtain⟨rfl,rfl,rfl⟩:=b;exact wp_exit (c a w H)
 |ret=>
  intro _ e h d e' h' b a w Q H c;have b:some (Ex.ret,e,h)=G (d,e',h'):=b;simp[aw,aH]at b;obtain⟨rfl,rfl,rfl⟩:=b;exact wp_ret (c a w H)
 |region id ops K=>
  intro g e h d e' h' b a w Q H c;simp[pi,aC]at g;have D:=XW g.1;have j:=H.drop;obtain⟨R,T⟩:=e;cases K;have b:=b;replace b:=eQ.1 b;obtain⟨⟨l,k⟩,n,b⟩:=b;simp[nh,aw,aH]at b;obtain⟨rfl,rfl,rfl⟩:=b;refine wp_region ?_;rw[List.range_eq_range'];have:=Ji (Q:=Q) j8 F D ops.toList 0 ⟨R,.nil⟩ h a w (λS=>by simp) n j λf i v=>c f i v.drop;omega;have b:=b;replace b:=eQ.1 b;obtain⟨⟨l,k⟩,n,b⟩:=b;simp[nh,aw,aH]at b;obtain⟨rfl,rfl,rfl⟩:=b;exact I base V m w0 μ0 h0 ops _ _ h k a w Q id c5 D n j λf i v=>c f i v.drop
 |seq r B y z=>
  intro g e h d e' h' b a w Q H c;simp[pi,aC]at g;have b:=b;replace b:=eQ.1 b;obtain⟨⟨q,l,k⟩,n,b⟩:=b;refine wp_seq (y g.1 e h q l k n a w _ H λf i j=>?_);cases q with
  |normal=>exact z g.2 l k d e' h' b f i Q j c
  |exit o=>
   have b:=b;simp[aw,aH]at b;obtain⟨rfl,rfl,rfl⟩:=b;exact c f i j
  |ret=>
   have b:=b;simp[aw,aH]at b;obtain⟨rfl,rfl,rfl⟩:=b;exact c f i j
 |cond E r B y z=>
  intro g e h d e' h' b a w Q H c;simp[pi,aC]at g;have b:(Z (iG cx V e E) λA=>match A with
   | .bool u=> @Bool.rec (λ_=>Out) (lV cx cf s V B e h) (lV cx cf s V r e h) u
   |_=>none)=G (d,e',h'):=b
  replace b:=eQ.1 b;obtain⟨A,L,b⟩:=b;cases A<;>simp[reduceCtorEq]at b;rename_i u;have C:a.eval E= .bool u:=by
   obtain⟨U,O,N,_⟩:=H;exact(iU O N L).ui
  cases u;exact wp_cond_false C (z g.2 e h d e' h' b a w Q H c);exact wp_cond_true C (y g.1 e h d e' h' b a w Q H c)
 |block id r x=>
  intro g e h d e' h' b a w Q H c;have b:=b;replace b:=eQ.1 b;obtain⟨⟨q,l,k⟩,n,b⟩:=b;refine wp_block (x g e h q l k n a w _ H λf i j=>?_);cases q with
  |normal=>
   have b:some (Ex.normal,l,k)=G (d,e',h'):=b;simp[aw,aH]at b;obtain⟨rfl,rfl,rfl⟩:=b;exact c f i j
  |exit o=>
   have b: @Bool.rec (λ_=>Out) (some (.exit o,l,k)) (some (.normal,l,k)) (Nat.beq o id)=G (d,e',h'):=b;show(if o=id then Q .normal f i else Q (.exit o) f i);cases t:Nat.beq o id;rw[t]at b;simp[aw,aH]at b;obtain⟨rfl,rfl,rfl⟩:=b;rw[aq (du t)];exact c f i j;rw[t]at b;simp[aw,aH]at b;obtain⟨rfl,rfl,rfl⟩:=b;rw[au (aK t)];exact c f i j
  |ret=>
   have b:=b;simp[aw,aH]at b;obtain⟨rfl,rfl,rfl⟩:=b;exact c f i j
 |loop r x=>
  intro g e h d e' h' b a w Q H c;exact QA (NT (x g) s e h d e' h' b a w Q H c)
 |_=>intro _ e h d e' h' b;exact absurd b (by simp[lV])
end
end
section
def qk{d g:Type}{b c:d->aa g}:∀{a:List d},(∀x∈a,b x=c x)->iN b a=iN c a
 | [],_=>rfl
 |x::a,h=>by
  rw[kv,kv,h x Y,qk λf i=>h f c5]
section
variable {cx:Ctx}{V:Nat}{e e':Env}{h h1 h2:H}
def Ep{a:List ah}(c:∀b∈a,iG cx V e b=iG cx V e' b):ud cx V e a=ud cx V e' a:=qk c
def AU{b:List (Nat×ah)}(d:∀a∈b,iG cx V e a.2=iG cx V e' a.2):partsOf cx V e b=partsOf cx V e' b:=by unfold partsOf;refine qk λa c=>?_;obtain⟨f,g⟩:=a;simp[nh];rw[d (f,g) c]
def yd{b:aa ah}(f:∀a,b=G a->iG cx V e a=iG cx V e' a):li cx V e b=li cx V e' b:=by rcases b with _|a;rfl;show(Z (iG cx V e a) λd=>Z (uJ d) λc=>some (some c))=(Z (iG cx V e' a) λd=>Z (uJ d) λc=>some (some c));rw[f a rfl]
theorem d0{p:Prop}(h:p:=by simp[Op.operands]):p:=h
def Dz{f:Op}(b:∀a∈f.operands,iG cx V e a=iG cx V e' a):j9 f cx V e h=j9 f cx V e' h:=by
 by_cases v:∃d,f= .call d;obtain⟨d,rfl⟩:=v;have h1:ud cx V e d.args.toList=ud cx V e' d.args.toList:=Ep λa w=>b a (by simp[Op.operands,Call.operands,Array.mem_append];grind);simp[j9,IX,h1];cases u:d.callee with
 |builtin j=>rfl
 |invoke a s=>rfl
 |value n=>
  have h2:=b n (by simp only[Op.operands,Call.operands,u];simp)
  grind
 cases f with
 |move a=>have h1:=b a d0;simp_all[GQ,j9]
 |assign a=>have h1:=b a d0;simp_all[GQ,j9]
 |pick d g j=>
  have h1:=b d d0;have h2:=b g d0;have p:=b j d0;simp_all[IV,j9]
 |alloc c=>rfl
 |box c a=>have h1:=b a d0;simp_all[RM,j9]
 |build c m=>
  have h1:partsOf cx V e m.toList=partsOf cx V e' m.toList:=AU λo x=>b o.2 (by simp[Op.operands,List.mem_toArray,dq];grind);simp_all[DT,j9]
 |buildSlice c E m=>
  have h1:partsOf cx V e m.toList=partsOf cx V e' m.toList:=AU λo x=>b o.2 (by simp[Op.operands,List.mem_toArray,dq];grind);simp_all[qY,j9]
 |load c g=>have h1:=b g d0;simp_all[L3,j9]
 |store c g a=>have h1:=b g d0;have h2:=b a d0;simp_all[GN,j9]
 |nilCheck a=>have h1:=b a d0;simp_all[vi,j9]
 |binOp f c a A L=>
  have h1:=b a d0;have h2:=b A d0;cases f<;>simp[j9,hEq,RN,h1,h2]
 |unOp f c a=>have h1:=b a d0;simp_all[hUn,j9]
 |convert K B a=>have h1:=b a d0;simp_all[PK,j9]
 |makeInterface c a=>have h1:=b a d0;simp_all[DQ,j9]
 |makeFunc C g j=>
  have h1:ud cx V e j.toList=ud cx V e' j.toList:=Ep λa w=>b a (by simp[Op.operands,Array.mem_append];grind);simp_all[GS,j9]
 |makeSlice c z d=>have h1:=b z d0;have h2:=b d d0;simp_all[sY,j9]
 |slice c a r q t=>
  have h1:=b a d0;have h2:li cx V e r=li cx V e' r:=yd λl k=>b l (by subst k;simp[Op.operands]);have p:li cx V e q=li cx V e' q:=yd λl k=>b l (by subst k;simp[Op.operands]);have D:li cx V e t=li cx V e' t:=yd λl k=>b l (by subst k;simp[Op.operands]);simp_all[GP,j9]
 |fieldAddr c a n=>have h1:=b a d0;simp_all[s7,j9]
 |field c a n=>have h1:=b a d0;simp_all[DS,j9]
 |indexAddr c a i=>have h1:=b a d0;have h2:=b i d0;simp_all[sZ,j9]
 |index c a i=>have h1:=b a d0;have h2:=b i d0;simp_all[DP,j9]
 |extract a i=>have h1:=b a d0;simp_all[xK,j9]
 |makeMap c I=>rfl
 |lookup c a i F=>have h1:=b a d0;have h2:=b i d0;simp_all[wK,j9]
 |mapUpdate c s y a=>
  have h1:=b s d0;have h2:=b y d0;have p:=b a d0;simp_all[qR,j9]
 |range=>rfl
 |next=>rfl
 |entry=>rfl
 |_=>first|rfl|grind
def zx{c:Op}(b:∀a∈c.operands,iG cx V e a=iG cx V e' a):iY cx V e h c=iY cx V e' h c:=by
 cases c with
 |load d a=>have h1:=b a d0;grind [iY]
 |indexAddr d a f=>have h1:=b a d0;grind [iY]
 |slice d a j i k=>have h1:=b a d0;grind [iY]
 |convert m g a=>have h1:=b a d0;grind [iY]
 |lookup d a f l=>have h1:=b a d0;grind [iY]
 |_=>rfl
def kz(h1 h2:H)(c d:aa nO):Prop:=∀b a,c=be b a->a=h1/\d=be b h2
theorem kz.none:kz h1 h2 none none:=λ_ _ a=>by grind
theorem kz.val{a:aa T}:kz h1 h2 (val h1 a) (val h2 a):=λd c b=>by
 obtain⟨rfl,rfl⟩:=iI.1 b;exact⟨rfl,iI.2 ⟨rfl,rfl⟩⟩
def kz.some{a:T}:kz h1 h2 (be a h1) (be a h2):=λa b c=>by
 grind
theorem kz.Z{f:Type}{a:aa f}{c d:f->aa nO}(g:∀b,a=Option.some b->kz h1 h2 (c b) (d b)):kz h1 h2 (Z a c) (Z a d):=by rcases a with _|b;exact kz.none;simp_all
theorem kz.iX{a:Bool}{b c:aa nO}(d:kz h1 h2 b c):kz h1 h2 (iX a b) (iX a c):=by cases a;exact kz.none;exact d
def kz.bool{a:Bool}{b d c f:aa nO}(g:kz h1 h2 b c)(i:kz h1 h2 d f):kz h1 h2 (Bool.casesOn a b d) (Bool.casesOn a c f):=by cases a<;>assumption
def Qy(b:Nat->T):Prop:=(∀a,b a= .ptr a 0 0 0)\/(∃c,∀a,b a= .arr a 0 0 c false)\/(∀a,b a= .iter a)\/(∀a,b a= .map a)
def Mk(h1 h2:H)(f g:aa nO):Prop:=∀c b,f=be c b->∃a d,Qy a/\c=a h1.size/\b=h1.cons d/\g=be (a h2.size) (h2.cons d)
theorem Mk.none:Mk h1 h2 none none:=λ_ _ a=>by grind
def Mk.new{f:Nat->T}{c:jO}(d:Qy f):Mk h1 h2 (kJ (h1.new f c)) (kJ (h2.new f c)):=λi g a=>by
 rw[km,H.ny]at a;simp[aw,aH]at a;obtain⟨rfl,rfl⟩:=a;exact⟨f,c,d,rfl,rfl,by rw[km,H.ny]⟩
theorem Mk.Z{f:Type}{a:aa f}{c d:f->aa nO}(g:∀b,a=Option.some b->Mk h1 h2 (c b) (d b)):Mk h1 h2 (Z a c) (Z a d):=by rcases a with _|b;exact Mk.none;simp_all
theorem Mk.iX{a:Bool}{b c:aa nO}(d:Mk h1 h2 b c):Mk h1 h2 (iX a b) (iX a c):=by cases a;exact Mk.none;exact d
def Ux{a:ab}:Mk h1 h2 (j9 (.alloc a) cx V e h1) (j9 (.alloc a) cx V e h2):=by simp[j9,GU];refine Mk.Z λb _=>?_;cases Ay cx b<;>exact Mk.new (.inl λ_=>rfl)
def abg{a:ab}{b:ah}:Mk h1 h2 (j9 (.box a b) cx V e h1) (j9 (.box a b) cx V e h2):=by simp[j9,RM];exact Mk.Z λc _=>Mk.iX (Mk.new (.inl λ_=>rfl))
def HT{c:ab}{b:Nat}{a:af (Nat×ah)}:Mk h1 h2 (j9 (.buildSlice c b a) cx V e h1) (j9 (.buildSlice c b a) cx V e h2):=by
 simp[j9,qY];refine Mk.Z λd _=>?_;cases d.u<;>first
  |exact Mk.none
  |exact Mk.Z λg _=>Mk.Z λa _=>Mk.iX (Mk.iX (Mk.Z λf _=>Mk.new (.inr (.inl ⟨_,λ_=>rfl⟩))))
def JA{c:ab}{b a:ah}:Mk h1 h2 (j9 (.makeSlice c b a) cx V e h1) (j9 (.makeSlice c b a) cx V e h2):=by
 simp[j9,sY];refine Mk.Z λd _=>?_;cases d.u<;>first
  |exact Mk.none
  |exact Mk.Z λf _=>Mk.Z λ_ _=>Mk.Z λ_ _=>Mk.Z λ_ _=>Mk.Z λ_ _=>Mk.iX (Mk.iX (Mk.iX (Mk.iX (Mk.new (.inr (.inl ⟨_,λ_=>rfl⟩))))))
def NP{b:ab}{a:aa ah}:Mk h1 h2 (j9 (.makeMap b a) cx V e h1) (j9 (.makeMap b a) cx V e h2):=by
 simp[j9,xJ];rcases a with _|d
 refine Mk.Z λc _=>?_;cases c.u<;>first
  |exact Mk.none
  |exact Mk.new (.inr (.inr (.inr λ_=>rfl)))
 exact Mk.none
def RB{f:Ty}{c g:T}(hl:∀a,fD c=G a->a<h1.size->h2.get a=h1.get a)(b:h1.load f c=G g):h2.load f c=G g:=by
 cases c with
 |ptr a i k p=>
  have b:=b;show(Z (h2.elem a i k) λe=>Z (lJ p e.cells) λl=>lI f l)=G g;obtain⟨m,j,b⟩:=eQ.1 b;have n:h2.elem a i k=G m:=by
   have d:=j;unfold H.elem at d|-;obtain⟨q,o,_⟩:=eQ.1 d;rw[hl a rfl (H.fV o)];exact j
  rw[n];exact b
 |_=>exact b
def H3{g:Ty}{i:T}{b:Nat}(hl:∀a,fD i=G a->a<h1.size->h2.get a=h1.get a):kz h1 h2 (nC h1 g i b) (nC h2 g i b):=by
 cases i with
 |fg r m=>exact kz.Z λ_ _=>kz.iX kz.some
 |arr a f l k m=>
  intro q n c;have o:=c;have c:=c;have⟨_,c⟩:=fq.1 c;have⟨i,p,_⟩:=eQ.1 c;have:nC h2 g (.arr a f l k m) b=iX (Nat.blt b k) (Z (h1.get a) λd=>iX (Nat.beq d.sz g.size)<|iX (Nat.beq d.ep f) (Z (jd (Nat.add l b)) λj=>some (nO.val (.ptr a f j 0) h2))):=by
   rw[<-(hl a rfl (H.fV p))];rfl
  rw[this];exact(kz.iX (kz.Z λ_ _=>kz.iX (kz.iX (kz.Z λ_ _=>kz.some))):kz h1 h2 (iX (Nat.blt b k) (Z (h1.get a) λd=>iX (Nat.beq d.sz g.size)<|iX (Nat.beq d.ep f) (Z (jd (Nat.add l b)) λj=>some (nO.val (.ptr a f j 0) h1)))) _) q n o
 |_=>exact kz.none
theorem H4{f:Nat}{g:Ty}{b:T}{d:Nat}(hl:∀a,fD b=G a->a<h1.size->h2.get a=h1.get a):kz h1 h2 (pX h1 f g b d) (pX h2 f g b d):=by
 unfold pX;refine kz.iX ?_;cases b<;>first
  |exact kz.none
  |exact kz.Z λ_ _=>kz.some
  |skip
 rename_i a k m n;simp only;rcases c:h1.get a with _|j
 intro o l i;simp at i;rw[hl a rfl (H.fV c),c];simp[fw,kz.some,kz.iX,kz.bool]
def NY{b:T}{f:List T}(hl:∀a,fD b=G a->a<h1.size->h2.get a=h1.get a)(c:h1.kd b=G f):h2.kd b=G f:=by
 cases b with
 |arr a j m l k=>
  have d:=c;unfold H.kd at d|-
  dsimp at d|-
  have⟨i,g,_⟩:=eQ.1 d;rw[hl a rfl (H.fV g)];exact c
 |_=>exact c
def JZ{b:T}{f:List T}(hl:∀a,fD b=G a->a<h1.size->h2.get a=h1.get a)(c:h1.entries b=G f):h2.entries b=G f:=by
 cases b with
 |map a=>
  have d:=c;unfold H.entries at d|-
  dsimp at d|-
  have⟨i,g,_⟩:=eQ.1 d;rw[hl a rfl (H.fV g)];exact c
 |_=>exact c
def FC{g:U}{f:T}(hl:∀b,fD f=G b->b<h1.size->h2.get b=h1.get b)(a:jL cx h1 g f):jL cx h2 g f=true:=by
 cases g with
 |slice e=>
  unfold jL at a|-
  dsimp at a|-
  rcases d:cx.ty e with _|k;rw[d]at a;exact a;rw[d]at a;cases f with
  |arr b j q o l=>
   dsimp at a|-
   rcases c:h1.get b with _|i;rw[c]at a;grind;rw[hl b rfl (H.fV c),c];rw[c]at a;exact a
  |_=>exact a
 |array p e=>
  unfold jL at a|-
  dsimp at a|-
  rcases d:cx.ty e with _|k;rw[d]at a;exact a;rw[d]at a;cases f with
  |ptr b j m n=>
   dsimp at a|-
   rcases c:h1.get b with _|i;rw[c]at a;grind;rw[hl b rfl (H.fV c),c];rw[c]at a;exact a
  |_=>exact a
 |_=>exact a
def La{m:Op}(ap:ju m=false)(hl:∀f,iY cx V e h1 m=G f->f<h1.size->h2.get f=h1.get f){c:T}{g:H}(a:j9 m cx V e h1=be c g):
 (g=h1/\j9 m cx V e h2=be c h2)\/
 (∃q b,Qy q/\iY cx V e h1 m=G h1.size/\c=q h1.size/\g=h1.cons b/\j9 m cx V e h2=be (q h2.size) (h2.cons b)):=by
 have F:Mk h1 h2 (j9 m cx V e h1) (j9 m cx V e h2)->iY cx V e h1 m=G h1.size->(g=h1/\j9 m cx V e h2=be c h2)\/
  (∃q b,Qy q/\iY cx V e h1 m=G h1.size/\c=q h1.size/\g=h1.cons b/\j9 m cx V e h2=be (q h2.size) (h2.cons b)):=λX x=>by
  obtain⟨q,b,W,bi,bu,bA⟩:=X c g a
  grind
 by_cases U:∃y,m= .call y
 .obtain⟨y,rfl⟩:=U;left;have:kz h1 h2 (j9 (.call y) cx V e h1) (j9 (.call y) cx V e h2):=by
   simp only[j9,IX];refine kz.Z λS _=>?_;cases ao:y.callee with
   |invoke b X=>exact kz.none
   |value q=>grind [ju]
   |builtin f=>
    cases f<;>simp[ju,ao]at ap<;>simp only[nG]
    case len=>
     match S with
     | []=>exact kz.none
     | [b]=>
      simp only[R7];refine kz.Z λ_ _=>kz.Z λj _=>?_;cases j.u<;>first
       |exact kz.none
       |exact kz.val
       |(cases b<;>first|exact kz.none|exact kz.val)
     |_::_::_=>exact kz.none
    all_goals
     match S with
     | []=>exact kz.none
     | [b]=>exact kz.none
     | [b,R]=>exact kz.val
     |_::_::_::_=>exact kz.none
  exact this c g a
 cases m with
 |alloc d=>exact F Ux rfl
 |box d b=>exact F abg rfl
 |buildSlice d n P=>exact F HT rfl
 |makeSlice d l y=>exact F JA rfl
 |range=>grind [ju]
 |entry=>grind [ju]
 |store=>grind [ju]
 |next=>grind [ju]
 |load d i=>
  left;have a:=a;replace a:=eQ.1 a;obtain⟨j,N,a⟩:=a;replace a:=eQ.1 a;obtain⟨v,s,a⟩:=a;obtain⟨C,rfl⟩:=iI.1 a;refine⟨rfl,?_⟩;show(Z (cx.ty d) λj=>Z (iG cx V e i) λi=>val h2 (h2.load j i))=be c h2;rw[N,s];exact iI.2 ⟨RB (λf x z=>hl f (by show Z (iG cx V e i) fD=G f;rw[s];exact x) z) C,rfl⟩
 |indexAddr d b B=>
  left;have bn:∀v,iG cx V e b=G v->∀f,fD v=G f->f<h1.size->h2.get f=h1.get f:=λv s f x z=>
   hl f (by show Z (iG cx V e b) fD=G f;rw[s];exact x) z
  have:kz h1 h2 (j9 (.indexAddr d b B) cx V e h1) (j9 (.indexAddr d b B) cx V e h2):=by
   simp only[j9,sZ];refine kz.Z λj _=>kz.Z λv s=>kz.Z λ_ _=>kz.Z λO _=>?_;cases j.u<;>first
    |exact kz.none
    |exact kz.Z λQ _=>H3 (bn v s)
    |grind [H4,kz.Z]
  exact this c g a
 |slice d b w o p=>
  left;have a:(Z (cx.ty d) λj=>Z (iG cx V e b) λb=>iX (jL cx h1 j.u b)<|Z (li cx V e w) λw=>Z (li cx V e o) λo=>Z (li cx V e p) λp=>
   iX (AI o p) (val h1 (sK (asSlice j.u b) w o p)))=be c g:=a
  replace a:=eQ.1 a;obtain⟨j,N,a⟩:=a;replace a:=eQ.1 a;obtain⟨v,s,a⟩:=a;obtain⟨ar,a⟩:=fq.1 a;have bs:=FC (λf x z=>hl f (by show Z (iG cx V e b) fD=G f;rw[s];exact x) z) ar;have:kz h1 h2 (Z (li cx V e w) λw=>Z (li cx V e o) λo=>Z (li cx V e p) λp=>iX (AI o p) (val h1 (sK (asSlice j.u v) w o p)))
   (Z (li cx V e w) λw=>Z (li cx V e o) λo=>Z (li cx V e p) λp=>iX (AI o p) (val h2 (sK (asSlice j.u v) w o p))):=
   kz.Z λ_ _=>kz.Z λ_ _=>kz.Z λ_ _=>kz.iX kz.val
  obtain⟨W,bi⟩:=this c g a;refine⟨W,?_⟩;show(Z (cx.ty d) λj=>Z (iG cx V e b) λb=>iX (jL cx h2 j.u b)<|Z (li cx V e w) λw=>Z (li cx V e o) λo=>Z (li cx V e p) λp=>
   iX (AI o p) (val h2 (sK (asSlice j.u b) w o p)))=be c h2
  rw[N,s];simp_all
 |binOp m d b R E=>
  left;have:kz h1 h2 (j9 (.binOp m d b R E) cx V e h1) (j9 (.binOp m d b R E) cx V e h2):=by
   cases m<;>simp only[j9,hEq,RN]<;>first
    |exact kz.Z λ_ _=>kz.Z λ_ _=>kz.Z λ_ _=>kz.iX (kz.Z λ_ _=>kz.val)
    |exact kz.Z λ_ _=>kz.Z λ_ _=>kz.val
  exact this c g a
 |move b=>left;exact(kz.val) c g a
 |assign b=>left;exact(kz.val) c g a
 |pick y i f=>
  left;have:kz h1 h2 (j9 (.pick y i f) cx V e h1) (j9 (.pick y i f) cx V e h2):=by
   simp only[j9,IV];refine kz.Z λc _=>?_;cases c<;>first|exact kz.none|simp[kz.val,kz.bool]
  exact this c g a
 |build d P=>
  left;have:kz h1 h2 (j9 (.build d P) cx V e h1) (j9 (.build d P) cx V e h2):=by
   simp only[j9,DT];refine kz.Z λj _=>kz.Z λ_ _=>?_;cases j.u<;>first|exact kz.none|exact kz.Z λ_ _=>kz.val|simp[kz.val,kz.Z]
  exact this c g a
 |nilCheck b=>
  left;have:kz h1 h2 (j9 (.nilCheck b) cx V e h1) (j9 (.nilCheck b) cx V e h2):=by
   simp only[j9,vi];refine kz.Z λc _=>?_;cases c<;>first|exact kz.none|exact kz.some
  exact this c g a
 |unOp m d b=>left;exact(kz.Z λ_ _=>kz.val) c g a
 |convert D A b=>
  left;have a:(Z (cx.ty D) λ_=>Z (iG cx V e b) λi=>Z (cx.ty A) λI=>match I.u with
   | .slice _=>val h1 (Hr cx A i)
   | .str=>(match i with
    | .str _=>val h1 (conv cx A i)
    |_=>val h1 (HL cx h1 D i))
   |_=>val h1 (conv cx A i))=be c g:=a
  show g=h1/\(Z (cx.ty D) λ_=>Z (iG cx V e b) λi=>Z (cx.ty A) λI=>match I.u with
   | .slice _=>val h2 (Hr cx A i)
   | .str=>(match i with
    | .str _=>val h2 (conv cx A i)
    |_=>val h2 (HL cx h2 D i))
   |_=>val h2 (conv cx A i))=be c h2
  obtain⟨bT,aN,a⟩:=eQ.1 a;obtain⟨v,s,a⟩:=eQ.1 a;obtain⟨br,aA,a⟩:=eQ.1 a;rw[aN,s,aA];simp only[fw];have av:∀{E:T},HL cx h1 D v=G E->HL cx h2 D v=G E:=by
   intro E t;unfold HL at t|-;obtain⟨t2,ax,t⟩:=eQ.1 t;rw[ax];simp only[fw];cases a7:t2.u<;>rw[a7]at t<;>simp only[reduceCtorEq]at t|-;obtain⟨Q,aE,t⟩:=eQ.1 t;rw[aE];simp only[fw];cases a8:Q.u<;>rw[a8]at t<;>simp only[reduceCtorEq]at t|-;obtain⟨an,t⟩:=fq.1 t;rw[an,iP];obtain⟨al,L,t⟩:=eQ.1 t;rw[NY (λf x z=>hl f (by show Z (iG cx V e b) fD=G f;rw[s];exact x) z) L];exact t
  cases aX:br.u<;>rw[aX]at a<;>simp only at a|-
  case str=>
   cases v<;>simp only at a|- <;>(obtain⟨C,rfl⟩:=iI.1 a)<;>first
    |exact⟨rfl,iI.2 ⟨av C,rfl⟩⟩
    |exact⟨rfl,iI.2 ⟨C,rfl⟩⟩
  all_goals
   obtain⟨C,rfl⟩:=iI.1 a;exact⟨rfl,iI.2 ⟨C,rfl⟩⟩
 |lookup d b B ae=>
  left;have:kz h1 h2 (j9 (.lookup d b B ae) cx V e h1) (j9 (.lookup d b B ae) cx V e h2):=by
   simp only[j9,wK];refine kz.Z λj _=>?_;cases j.u<;>first
    |exact kz.none
    |skip
   refine kz.Z λbN _=>kz.Z λQ _=>kz.Z λv s=>kz.Z λk _=>kz.iX ?_;intro c g a;obtain⟨al,L,a⟩:=eQ.1 a;rw[JZ (h2:=h2) (λf x z=>hl f (by show Z (iG cx V e b) fD=G f;rw[s];exact x) z) L];exact(kz.Z λ_ _=>kz.bool kz.val kz.none:kz h1 h2 _ _) c g a
  exact this c g a
 |makeMap d r=>exact F NP rfl
 |mapUpdate=>grind [ju]
 |makeInterface d b=>
  left;have:kz h1 h2 (j9 (.makeInterface d b) cx V e h1) (j9 (.makeInterface d b) cx V e h2):=by
   simp only[j9,DQ];refine kz.Z λj _=>?_;cases j.u<;>first|exact kz.none|exact kz.Z λ_ _=>kz.iX kz.val
  exact this c g a
 |makeFunc K i f=>
  left;have:kz h1 h2 (j9 (.makeFunc K i f) cx V e h1) (j9 (.makeFunc K i f) cx V e h2):=by
   simp only[j9,GS];cases K<;>first
    |exact kz.none
    |(cases i.toList<;>first|exact kz.none|simp[kz.val,kz.Z])
  exact this c g a
 |fieldAddr d b q=>
  left;have:kz h1 h2 (j9 (.fieldAddr d b q) cx V e h1) (j9 (.fieldAddr d b q) cx V e h2):=by
   simp only[j9,s7];refine kz.Z λ_ _=>kz.Z λc _=>?_;cases c<;>first|exact kz.none|exact kz.Z λ_ _=>kz.some
  exact this c g a
 |field d b q=>
  left;have:kz h1 h2 (j9 (.field d b q) cx V e h1) (j9 (.field d b q) cx V e h2):=by
   simp only[j9,DS];refine kz.Z λ_ _=>kz.Z λ_ _=>kz.Z λc _=>?_;cases c<;>first|exact kz.none|simp[kz.val,kz.Z]
  exact this c g a
 |index d b B=>
  left;have:kz h1 h2 (j9 (.index d b B) cx V e h1) (j9 (.index d b B) cx V e h2):=by
   simp only[j9,DP];refine kz.Z λj _=>kz.Z λc _=>kz.Z λ_ _=>kz.Z λ_ _=>?_;cases j.u<;>first
    |exact kz.none
    |(cases c<;>first|exact kz.none|exact kz.Z λ_ _=>kz.val|grind [kz.val,kz.Z,kz.iX])
  exact this c g a
 |extract b O=>
  left;have:kz h1 h2 (j9 (.extract b O) cx V e h1) (j9 (.extract b O) cx V e h2):=by
   simp only[j9,xK];refine kz.Z λc _=>?_;cases c<;>first|exact kz.none|exact kz.val
  exact this c g a
 |_=>first|exact(U ⟨_,rfl⟩).elim|exact absurd a (by simp[j9])
end
end
section
def MD{c:List Nat}{b:List Edge}{d:Nat}(h:(AF c b).testBit d):
 ∃a∈b,Region.binds .any a/\(d=a.on\/(c.getD a.on 0).testBit d=true):=by
 induction b with
 |nil=>grind [AF]
 |cons a b f=>
  have h:(@Bool.rec (λ_=>Nat) (AF c b) ((AF c b)|||((1<<<a.on)|||(c.getD a.on 0))) (Region.binds .any a)).testBit d:=h;cases e:Region.binds .any a;rw[e]at h
  grind
  rw[e]at h;simp only[Nat.testBit_or,cm]at h;rcases h with h|h|h
  grind
  refine⟨a,Y,e,.inl ?_⟩;rw[Nat.one_shiftLeft,Nat.testBit_two_pow]at h
  grind
  grind
structure Cl(ops:af Oper)(listed:af Bool):Prop where
 size:listed.size=ops.size
 closed:∀j oj,ops[j]? =G oj->listed.getD j false->∀e∈oj.after,Region.binds .any e->listed.getD e.on false
theorem Yv{ops:af Oper}{g:af Bool}(q:Cl ops g):∀(k:List Oper) (d:List Nat),(∀n:Nat,k[n]? =ops[d.length+n]?)->
 (∀(b c:Nat),d[b]? =G c->∀f,c.testBit f->∀i,ops[b]? =G i->(∀a∈i.after,Region.binds .any a->g.getD a.on false=true)->g.getD f false=true)->
 ∀(b c:Nat),(OI k d)[b]? =G c->∀f,c.testBit f->∀i,ops[b]? =G i->(∀a∈i.after,Region.binds .any a->g.getD a.on false=true)->g.getD f false=true:=by
 intro k;induction k with
 |nil=>intro d _ l b c e;exact l b c e
 |cons i k B=>
  intro d hl l;refine B (d++[AF d i.after.toList]) (λn=>?_) ?_;have:=hl (n+1);simp[dM]at this;rw[this];congr 1;simp;omega;intro b c e f u C m s;by_cases v:b<d.length;rw[cN v]at e;exact l b c e f u C m s;rw[cX J]at e;have z:b=d.length:=by
   rcases Nat.eq_or_lt_of_le (Nat.le_of_not_lt v)with h|h;exact h.symm;rw[cj dY]at e;simp at e
  subst z;simp at e;subst e;have r:=hl 0;simp at r;rw[<-r]at m;simp at m;subst m;have⟨a,x,w,j⟩:=MD u;have o:=s a (iC x) w;rcases j with rfl|j
  exact o;have y:a.on<g.size:=by
   rcases aR a.on g.size with h|h;exact h;simp[Array.getElem?_eq_none h]at o
  have A:a.on<ops.size:=q.size▸y;have t:ops[a.on]? =G ops[a.on]:=by simp[A]
  rcases p:d[a.on]? with _|c;rw[da,p]at j;simp at j;rw[da,p]at j;exact l a.on c p f j ops[a.on] t (q.closed a.on _ t o)
def Ge{ops:af Oper}{a:af Bool}(g:Cl ops a){d e:Nat}{f:Oper}(c:kY ops d e)(i:ops[e]? =G f)
 (h:∀b∈f.after,Region.binds .any b->a.getD b.on false):a.getD d false=true:=by
 unfold kY at c;rw[da]at c
 grind [Yv,OI]
def rU:Op->Bool
 | .store .. =>true
 |_=>false
def rZ(ops:af Oper):Bool:=
 let e:=OI ops.toList []
 let d:=ops.toList.zipIdx
 d.all λa=>(a.1.after.toList.all λc=> !Region.binds .any c||Nat.blt c.on a.2)&&
  d.all λb=> !Nat.blt b.2 a.2||(b.1.apart ops a.1&&(!(ju b.1.op&&ju a.1.op)||(rU b.1.op&&rU a.1.op)))||(e.getD a.2 0).testBit b.2
def mem_zipIdx{ops:af Oper}{a:Nat}{b:Oper}(c:ops[a]? =G b):(b,a)∈ops.toList.zipIdx:=by rw[dL];exact⟨a,by simp[c]⟩
def Oj{ops:af Oper}(e:rZ ops){b:Nat}{c:Oper}(f:ops[b]? =G c):∀a∈c.after,Region.binds .any a->a.on<b:=by intro a i h;unfold rZ at e;have d:=List.all_eq_true.1 e (c,b) (mem_zipIdx f);simp only[aC]at d;have g:=List.all_eq_true.1 d.1 a c5;simp_all
def Mf{ops:af Oper}(f:rZ ops){a b:Nat}{c d:Oper}(h:ops[a]? =G c)(i:ops[b]? =G d)(k:a<b):
 (c.apart ops d/\(ju c.op->ju d.op->rU c.op/\rU d.op=true))\/kY ops a b=true:=by
 unfold rZ at f;have e:=List.all_eq_true.1 f (d,b) (mem_zipIdx i);simp only[aC]at e;have h2:=List.all_eq_true.1 e.2 (c,a) (mem_zipIdx h);have g:Nat.blt a b:=by rw[aQ];omega
 simp only[g,Bool.not_true,Bool.false_or,cm,aC,cO,dN]at h2;rcases h2 with⟨h2,j⟩|h2
 grind
 right;exact h2
section
variable {cx:Ctx}{cf:jS}{V:Nat}{ops:af Oper}
def sq(V:Nat)(ops:af Oper)(c:Nat->Env)(b:Nat):Prop:=∃a,ops[b]? =G a/\ju a.op/\mf ops V (c b) a.guard=G true
def A9(cx:Ctx)(V:Nat)(ops:af Oper)(c:Nat->Env)(d:Nat->H)(a e:Nat):Prop:=
 ∃b,ops[a]? =G b/\ju b.op=false/\mf ops V (c a) b.guard=G true/\iY cx V (c a) (d a) b.op=G e
def Z6(cx:Ctx)(V:Nat)(ops:af Oper)(c:Nat->Env)(a e:Nat):Prop:=
 ∃b f d g,ops[a]? =G b/\b.op= .store f d g/\mf ops V (c a) b.guard=G true/\Z (iG cx V (c a) d) fD=G e
structure Trace(cx:Ctx)(cf:jS)(V:Nat)(ops:af Oper)(E:Nat->Env)(Hs:Nat->H):Prop where
 step:∀k o,ops[k]? =G o->nW cx cf V ops (E k) (Hs k) o=G (E (k+1),Hs (k+1))
 ahead:∀k k' b,A9 cx V ops E Hs k b->sq V ops E k'->k<k'->il (Hs k') (Hs (k'+1)) b\/kY ops k k'
 behind:∀k k' b,A9 cx V ops E Hs k b->sq V ops E k'->k'<k->il (Hs k') (Hs (k'+1)) b\/kY ops k' k
 both:∀k k' b,Z6 cx V ops E k b->sq V ops E k'->k'<k->il (Hs k') (Hs (k'+1)) b\/kY ops k' k
def BO{a b:Bool}(c: @Bool.rec (λ_=>Bool) b true a):a\/b=true:=by cases a<;>simp_all
def B5{e:Oper}{k:List Oper}{c:Nat}{d:Seen}{g n:Env}{a o:H}(b:lH cx cf V ops (e::k) c d g a=G (n,o)):
 ∃h f j,nW cx cf V ops g a e=G (h,f)/\mf ops V g e.guard=G j/\
  ∃m,lH cx cf V ops k (c+1) m h f=G (n,o)/\(∀l∈d.oU,l∈m.oU)/\(∀l∈d.mX,l∈m.mX)/\
   (j->ju e.op->A0 ops c a f d.oU/\(c,a,f)∈m.mX/\uS cx V ops c g d.mX e.op=true)/\
   (j->ju e.op=false->∀i,iY cx V g a e.op=G i->qQ ops c i d.mX/\(c,i)∈m.oU):=by
 have b:(Z (nW cx cf V ops g a e) λl=>two l λh f=>
  Z (mf ops V g e.guard) λj=> @Bool.rec (λ_=>aa (Env×H)) (lH cx cf V ops k (c+1) d h f)
   (@Bool.rec (λ_=>aa (Env×H))
     (@Option.rec Nat (λ_=>aa (Env×H)) (lH cx cf V ops k (c+1) d h f)
       (λi=>iX (qQ ops c i d.mX) (lH cx cf V ops k (c+1) ⟨(c,i)::d.oU,d.mX⟩ h f)) (iY cx V g a e.op))
     (iX (A0 ops c a f d.oU) (iX (uS cx V ops c g d.mX e.op) (lH cx cf V ops k (c+1) ⟨d.oU,(c,a,f)::d.mX⟩ h f))) (ju e.op)) j)=G (n,o):=b
 obtain⟨⟨h,f⟩,r,b⟩:=eQ.1 b;simp[nh]at b;obtain⟨j,s,b⟩:=eQ.1 b;refine⟨h,f,j,r,s,?_⟩;cases j
 grind
 cases q:ju e.op;rw[q]at b;rcases p:iY cx V g a e.op with _|i
 rw[p]at b;exact⟨d,b,λ_ a=>a,λ_ a=>a,λ_ a=>by grind,λ_ _ i a=>by grind⟩;rw[p]at b
 grind [fq,aw]
 rw[q]at b
 grind [fq]
def HP:∀(C:List Oper) (c:Nat) (s:Seen) (t D:Env) (o E:H),(∀N,C[N]? =ops[c+N]?)->lH cx cf V ops C c s t o=G (D,E)->
 ∃(h:Nat->Env) (i:Nat->H),h c=t/\i c=o/\h (c+C.length)=D/\i (c+C.length)=E/\
  (∀a f,c<=a->ops[a]? =G f->nW cx cf V ops (h a) (i a) f=G (h (a+1),i (a+1)))/\
  (∀a b,c<=a->A9 cx V ops h i a b->∀g∈s.mX,il g.2.1 g.2.2 b\/kY ops g.1 a=true)/\
  (∀a,c<=a->sq V ops h a->∀g∈s.oU,il (i a) (i (a+1)) g.2\/kY ops g.1 a=true)/\
  (∀a d b,c<=a->A9 cx V ops h i a b->sq V ops h d->a<d->il (i d) (i (d+1)) b\/kY ops a d=true)/\
  (∀a d b,c<=d->A9 cx V ops h i a b->sq V ops h d->d<a->il (i d) (i (d+1)) b\/kY ops d a=true)/\
  (∀a b,c<=a->Z6 cx V ops h a b->∀g∈s.mX,il g.2.1 g.2.2 b\/kY ops g.1 a=true)/\
  (∀a d b,c<=d->Z6 cx V ops h a b->sq V ops h d->d<a->il (i d) (i (d+1)) b\/kY ops d a=true):=by
 intro C;induction C with
 |nil=>
  intro c s t D o E hl F;have F:some (t,o)=G (D,E):=F;simp[aw,aH]at F;obtain⟨rfl,rfl⟩:=F;have A:∀a f,c<=a->ops[a]? =G f->False:=λa f e m=>by
   have:=hl (a-c);rw[show c+(a-c)=a by omega,m]at this;simp at this
  refine⟨λ_=>t,λ_=>o,rfl,rfl,rfl,rfl,λa f e m=>(A a f e m).elim,?_,?_,?_,?_,?_,?_⟩;rintro a b e ⟨f,m,_⟩;exact(A a f e m).elim;rintro a e ⟨f,m,_⟩;exact(A a f e m).elim;rintro a d b e ⟨f,m,_⟩;exact(A a f e m).elim;rintro a d b e _ ⟨f,m,_⟩;exact(A d f e m).elim;rintro a b e ⟨f,_,_,_,m,_⟩;exact(A a f e m).elim;rintro a d b e _ ⟨f,m,_⟩;exact(A d f e m).elim
 |cons f C aX=>
  intro c s t D o E hl F;have⟨ae,I,bX,aN,W,X,aE,av,ax,T,aA⟩:=B5 F;have P:ops[c]? =G f:=by have:=hl 0;simpa using this.symm
  obtain⟨h,i,a7,a8,bi,bn,br,ao,ap,bs,bu,bN,bT⟩:=aX (c+1) X ae D I E (λN=>by
   have:=hl (N+1);simp[dM]at this;rw[this];congr 1;omega) aE
  let n:Nat->Env:=λa=>if a=c then t else h a
  let u:Nat->H:=λa=>if a=c then o else i a
  have hE:∀a,a≠c->n a=h a:=λa e=>by simp[n,e]
  have p:∀a,a≠c->u a=i a:=λa e=>by simp[u,e]
  have y:n c=t:=by simp[n]
  have K:u c=o:=by simp[u]
  have ar:n (c+1)=ae:=by rw[hE _ J,a7]
  have S:u (c+1)=I:=by rw[p _ J,a8]
  have O:∀a,a≠c->sq V ops n a->sq V ops h a:=λa e=>by unfold sq;rw[hE a e];exact id
  have Q:∀a b,a≠c->A9 cx V ops n u a b->A9 cx V ops h i a b:=λa b e=>by unfold A9;rw[hE a e,p a e];exact id
  have bW:∀a b,a≠c->Z6 cx V ops n a b->Z6 cx V ops h a b:=λa b e=>by unfold Z6;rw[hE a e];exact id
  have bA:∀b,Z6 cx V ops n c b->qQ ops c b s.mX=true:=by
   rintro b ⟨R,N,x,v,k,q,l,L⟩;rw[P]at k;cases k;rw[y,W]at l;rw[y]at L;simp[aw]at l;have:=(T l (by rw[q];rfl)).2.2;rw[q]at this;have this: @Option.rec Nat (λ_=>Bool) true (λb=>qQ ops c b s.mX) (Z (iG cx V t x) fD):=this;rw[L]at this;exact this
  have al:sq V ops n c->A0 ops c o I s.oU/\(c,o,I)∈X.mX:=by
   rintro⟨R,k,q,l⟩;rw[P]at k;cases k;rw[y,W]at l;simp[aw]at l;exact⟨(T l q).1,(T l q).2.1⟩
  have an:∀b,A9 cx V ops n u c b->qQ ops c b s.mX/\(c,b)∈X.oU:=by
   rintro b ⟨R,k,q,l,L⟩;rw[P]at k;cases k;rw[y,W]at l;rw[y,K]at L;simp[aw]at l;exact aA l q b L
  refine⟨n,u,y,K,?_,?_,?_,?_,?_,?_,?_,?_,?_⟩;rw[hE _ Y,<-bi];congr 1;simp;omega;rw[p _ Y,<-bn];congr 1;simp;omega;intro a R e k;by_cases j:a=c;subst j;rw[P]at k;cases k;rw[y,K,ar,S];exact aN;rw[hE a j,p a j,hE (a+1) J,p (a+1) J];exact br a R J k;intro a b e r g B;by_cases j:a=c;subst j;have⟨q,_⟩:=an b r;exact BO (un q g B);exact ao a b J (Q a b j r) g (ax g B);intro a e w g B;by_cases j:a=c;subst j;have⟨q,_⟩:=al w;rw[K,S];exact BO (un q g B);rw[p a j,p (a+1) J];exact ap a J (O a j w) g (av g B);intro a d b e r w U;have z:d≠c:=J;rw[p d z,p (d+1) J];by_cases j:a=c;subst j;have⟨_,l⟩:=an b r;exact ap d J (O d z w) (a,b) l;exact bs a d b J (Q a b j r) (O d z w) U;intro a d b e r w U;have j:a≠c:=J;by_cases z:d=c;subst z;have⟨_,l⟩:=al w;rw[K,S];exact ao a b J (Q a b j r) (d,o,I) l;rw[p d z,p (d+1) J];exact bu a d b J (Q a b j r) (O d z w) U;intro a b e r g B;by_cases j:a=c;subst j;exact BO (un (bA b r) g B)
  grind
  grind
def Ih(cx:Ctx)(cf:jS)(V:Nat)(c:Env)(a:H)(f:Op)(g:T)(e:H):Prop:=
 j9 f cx V c a=be g e\/∃d b,j9 f cx V c a=G (.call d b)/\cf d b a=G (g,e)
def pN{c e:Env}{g f:H}{d:Oper}(a:nW cx cf V ops c g d=G (e,f)):
 (mf ops V c d.guard=G false/\c.dst V d.dst .undef=G e/\f=g)\/
 (mf ops V c d.guard=G true/\∃b,Ih cx cf V c g d.op b f/\c.dst V d.dst b=G e):=by
 obtain⟨r,p,a⟩:=eQ.1 a;cases r with
 |false=>
  left;have a:=a;replace a:=eQ.1 a;grind
 |true=>
  right;refine⟨p,?_⟩;have a:(Z (j9 d.op cx V c g) λi=> @nO.rec (λ_=>aa (Env×TI.H))
   (λb f=>Z (c.dst V d.dst b) λe=>some (e,f))
   (λj h=>Z (cf j h g) λq=>two q λb f=>Z (c.dst V d.dst b) λe=>some (e,f)) i)=G (e,f):=a
  obtain⟨i,l,a⟩:=eQ.1 a;rcases i with⟨b,n⟩|⟨j,h⟩
  .skip
   have a:=a;obtain⟨m,k,a⟩:=eQ.1 a;simp[aw,aH]at a;obtain⟨rfl,rfl⟩:=a;exact⟨b,.inl l,k⟩
  .skip
   have a:=a;obtain⟨⟨b,n⟩,o,a⟩:=eQ.1 a;simp[nh]at a;obtain⟨m,k,a⟩:=eQ.1 a;simp[aw,aH]at a;obtain⟨rfl,rfl⟩:=a;exact⟨b,.inr ⟨j,h,l,o⟩,k⟩
def G7{P:ai}{h:Nat}{a:World}{g:Mu}{j:Env}{b c:H}{i:Act}{k:Oper}{f:T}(j8:jR P cx)(o:qx P cx cf)
 (e:St cx h a.heap g b) (l:mo a.heap g V j i.tmps) (u:Ih cx cf V j b k.op f c):C6 P (uI cx h a g b f c) ((execOp i.eval k).run P a):=by
 rcases u with d|⟨p,m,d,s⟩;exact((Cw j8 e l d).ran).mono λv w r=>⟨r,Uw e.wf f c d⟩;have⟨_,n,q,t⟩:=Ld (P:=P) e l d;rw[t];exact o p m b f c s h a g n e q
def Ih.congr{b e':Env}{c d:H}{a:Op}{f:T}(h:∀g∈a.operands,iG cx V b g=iG cx V e' g)(e:Ih cx cf V b c a f d):Ih cx cf V e' c a f d:=by
 unfold Ih at*
 rw[Dz h]at e;exact e
def N0{b:Call}{d:Env}{f:H}{e:aj}{c:List T}(a:j9 (.call b) cx V d f=G (.call e c)):ju (.call b)=true:=by have a:=a;replace a:=eQ.1 a;grind [ju,yH]
def Mb{d:Env}{e f:H}{b:Op}{h:T}(l:ju b=false)(k:Ih cx cf V d e b h f):j9 b cx V d e=be h f:=by rcases k with c|⟨j,i,c,_⟩;omega;by_cases g:∃a,b= .call a;obtain⟨a,rfl⟩:=g;rw[N0 c]at l;grind;exact absurd c (Gx (λa m=>g ⟨a,m⟩) j i)
def El(V:Nat)(a:Env):List Nat->iM
 | []=> .nil
 |s::b=>match a.get V s with
  |some c=> .cons s c (El V a b)
  |none=>El V a b
def NU{b:Env}{c:Nat}:∀(a:List Nat),mB (El V b a) c=if c∈a then b.get V c else none:=by
 intro a;induction a with
 |nil=>rfl
 |cons e a d=>
  unfold El;rcases f:b.get V e with _|g
  grind
  simp[ql,d,cg]
  grind
def FP(V:Nat)(a:Env)(b:List Nat):Env:=⟨El V a b,El V a b⟩
def Ck{b:Env}{a:Nat}{c:List Nat}:(FP V b c).get V a=if a∈c then b.get V a else none:=by show @Bool.rec (λ_=>aa T) (mB (El V b c) a) (mB (El V b c) a) (lO V a)=_;rw[NU];cases lO V a<;>rfl
def Dy{a:Env}{c:Oper}{b:ah}(h:b∈c.op.operands):iG cx V a b=iG cx V (FP V a (c.looksAt ops)) b:=by
 cases b with
 |tmp d=>
  show a.get V d=(FP V a (c.looksAt ops)).get V d;rw[Ck,au];unfold Oper.looksAt;exact dC _ (List.mem_filterMap.2 ⟨.tmp d,by grind,rfl⟩)
 |const e=>rfl
 |global g=>rfl
 |func f=>rfl
def MX{c:Env}{a:Oper}:mf ops V (FP V c (a.looksAt ops)) a.guard=mf ops V c a.guard:=by
 rcases i:a.guard with _|f;rfl;obtain⟨d,k⟩:=f;show(Z (Z (Z (qN ops.toList d) λa=>a.dst) λb=>(FP V c (a.looksAt ops)).get V b) λh=>_)=(Z (Z (Z (qN ops.toList d) λa=>a.dst) λb=>c.get V b) λh=>_);cases e:(Z (qN ops.toList d) λa=>a.dst)with
 |none=>rfl
 |some b=>
  simp[fw];rw[Ck,au];unfold Oper.looksAt;refine dU _ ?_;obtain⟨f,g,j⟩:=eQ.1 e;rw[m6]at g;have:ops[d]? =G f:=by grind
  grind
end
end
section
def iz.conv{E:af Obj}{B C:Mu}{b:T}{r:am}(a:iz E B b r){n:Nat}(hl:tF n b)(s:∀c e,c<n->B c=G e->C c=G e)
 (D:∀k,qt C k->qt B k):iz E C b r:=by
 induction a with
 |undef=>exact .undef
 |bool c=>exact .bool c
 |int d U=>exact .int d U
 |str W a=>exact .str W a
 |mn=>exact .mn
 |ptr c w k R e h j x O=>cases hl with|ptr _ _ _ _ a=>exact .ptr c w k R e h (s c e a j) x O
 |kH v t off arr q fz A y i p hr g=>
  cases hl with|kH _ a=>exact .kH v t off arr q fz (λd=>A (D _ d)) y i p λd b f=>g d b f (a b (aB f))
 |qy m h=>exact .qy m h
 |fg K L m t off u X arr q fz A y z P Q i p hr g=>
  cases hl with|fg _ _ a=>exact .fg K L m t off u X arr q fz (λd=>A (D _ d)) y z P Q i p λd b f=>g d b f (a b (aB f))
 |jf h u=>exact .jf h u
 |arr c w V S m e h I j x z o=>cases hl with|arr _ _ _ _ _ a=>exact .arr c w V S m e h I (s c e a j) x z o
 |func N F l i hr g=>cases hl with|func _ _ a=>exact .func N F l i λd b f=>g d b f (a b (aB f))
 |mF=>exact .mF
 |mN=>exact .mN
 |iface q b r a g=>cases hl with|iface _ _ a=>exact .iface q b r (g a)
 |iter c e h j o=>cases hl with|iter _ a=>exact .iter c e h (s c e a j) o
 |map c e k j o=>cases hl with|map _ a=>exact .map c e k (s c e a j) o
 |pV=>exact .pV
 |agg v l i p hr g=>cases hl with|agg _ a=>exact .agg v l i p λd b f=>g d b f (a b (aB f))
 |tuple Z l i hr g=>cases hl with|tuple _ a=>exact .tuple Z l i λd b f=>g d b f (a b (aB f))
def uQ.conv{u:af Obj}{r s:Mu}{e:Loc}{p:jO}(i:uQ u r e p){n:Nat}(hl:∀c∈iy p.im,tF n c)(k:∀m e,m<n->r m=G e->s m=G e)
 (j:∀l,qt s l->qt r l):uQ u s e p:=by
 refine⟨i.ep,i.sz,λa=>?_,λa=>?_⟩;have h:=i.plain a;have⟨x,O,b,f,d⟩:=h.row;exact⟨⟨x,O,b,f,d.1,λa c v=>(d.2 a c v).conv (hl c (aB v)) k j⟩,h.room,h.wW,h.size,h.scalar⟩
 .obtain⟨t,b|⟨z,b,f,d⟩|⟨I,F,L,N,y,b,f,d,E⟩⟩:=i.iter a
  grind
  rotate_left;exact⟨t,.inr (.inr ⟨I,F,L,N,y,b,f.conv (hl _ (by rw[b];simp[iy,T.cells])) k j,d,E⟩)⟩;refine⟨t,.inr (.inl ⟨z,b,f,λl q w=>?_⟩)⟩;have⟨a,c,K,o,A,B,C,D⟩:=d l q w;have g:=hl q (List.mem_flatMap.2 ⟨q,aB w,by rw[o];simp[T.cells]⟩);rw[o]at g;cases g with|tuple _ g=>exact⟨a,c,K,o,A,B,C.conv (g a Y) k j,D.conv (g c Y) k j⟩
def tF.mono{n c:Nat}{d:T}(a:tF n d)(g:n<=c):tF c d:=by
 induction a with
 |ptr b e h i a=>exact .ptr _ _ _ _ J
 |arr b e k j f a=>exact .arr _ _ _ _ _ J
 |iter b a=>exact .iter _ J
 |map b a=>exact .map _ J
 |_=>constructor<;>assumption
def St.congr{cx:Ctx}{f:Nat}{h:af Obj}{e:Mu}{g c:H}(a:St cx f h e g)(j:c.iA.length=c.size)(l:∀b d,e b=G d->c.get b=g.get b):St cx f h e c:=
 ⟨j,a.fit,λb d i=>by have⟨o,k,m⟩:=a.box b d i;grind,a.inj,a.low,a.apart,a.uM,a.CH⟩
def H.get_some{a:H}(e:a.iA.length=a.size){b:Nat}(c:b<a.size):∃d,a.get b=G d:=by rw[H.get_eq,au c];exact⟨a.iA[a.size-1-b]' J,Y⟩
def yO(Hs:Nat->H)(a:Nat):Nat->Nat
 |0=>0
 |k+1=>if a<(Hs k).size then yO Hs a k else k+1
def Ka(Hs:Nat->H)(a n:Nat):yO Hs a n<=n:=by
 induction n with
 |zero=>simp[yO]
 |succ n b=>unfold yO;split<;>omega
def ab1{Hs:Nat->H}{a:Nat}{n:Nat}(d:∀b,b<n->(Hs b).size<=(Hs (b+1)).size)(c:a<(Hs n).size):a<(Hs (yO Hs a n)).size:=by
 induction n with
 |zero=>exact c
 |succ n e=>
  grind [yO]
theorem Yb{Hs:Nat->H}{c:Nat}:∀{n p:Nat},p<yO Hs c n->(∀b,b<n->(Hs b).size<=(Hs (b+1)).size)->(Hs p).size<=c:=by
 intro n;induction n with
 |zero=>simp[yO]
 |succ n i=>
  intro p d f;unfold yO at d;split at d
  grind
  rename_i h;have:∀a,p+a=n->(Hs p).size<=(Hs n).size:=by
   intro a;induction a generalizing p with
   |zero=>intro e;rw[show p=n by omega];omega
   |succ a g=>
    intro e;have:=f p J;have:=g (p:=p+1) J J;omega
  have:=this (n-p) J;omega
section
variable {Hs:Nat->H}{n:Nat}
def qf(f:∀c,c<n->(Hs c).size<=(Hs (c+1)).size){b d:Nat}(e:b<=d)(j:d<=n):(Hs b).size<=(Hs d).size:=by
 obtain⟨a,rfl⟩:=Nat.exists_eq_add_of_le e;induction a with
 |zero=>simp
 |succ a g=>
  have h:=g J;have i:=f (b+a) J;have:b+(a+1)=b+a+1:=J;rw[this];omega
def m8(c:∀a,a<n->(Hs a).size<=(Hs (a+1)).size){b a:Nat}(e:b<(Hs n).size)(f:a<=n):b<(Hs a).size↔yO Hs b n<=a:=by
 constructor
 grind [yO,aR,Yb]
 intro d;have:=ab1 c e;have:=qf c d f;omega
def oH(l:∀a,a<n->(Hs a).size<=(Hs (a+1)).size){c b e:Nat}(g:b<=e)(f:∀a,b<=a->a<e->(Hs (a+1)).get c=(Hs a).get c):(Hs e).get c=(Hs b).get c:=by
 obtain⟨d,rfl⟩:=Nat.exists_eq_add_of_le g;clear g;induction d with
 |zero=>rfl
 |succ d k=>
  have i:=k λa h c=>f a h J;have j:=f (b+d) J J;have:b+(d+1)=b+d+1:=J;rw[this,j,i]
end
def PH(Hs:Nat->H)(n:Nat)(b:Nat->Nat):H:=
 ⟨(Hs n).size,0,(List.range (Hs n).size).reverse.map λa=>((Hs (max (b a) (yO Hs a n))).get a).getD default⟩
def Je(Hs:Nat->H)(n:Nat)(a:Nat->Nat):(PH Hs n a).iA.length=(PH Hs n a).size:=by simp[PH]
def acv{Hs:Nat->H}{n a:Nat}{c:Nat->Nat}(g:∀b,b<n->(Hs b).size<=(Hs (b+1)).size)(i:∀b,b<=n->(Hs b).iA.length=(Hs b).size)(j:c a<=n)(d:a<(Hs n).size):
 (PH Hs n c).get a=(Hs (max (c a) (yO Hs a n))).get a:=by
 have e:max (c a) (yO Hs a n)<=n:=iV (Ka Hs a n);have f:a<(Hs (max (c a) (yO Hs a n))).size:=(m8 g d e).2 J;have⟨l,k⟩:=H.get_some (i _ e) f;rw[H.get_eq];have h:(PH Hs n c).size=(Hs n).size:=rfl;rw[h,au d];show((List.range (Hs n).size).reverse.map λa=>((Hs (max (c a) (yO Hs a n))).get a).getD default)[(Hs n).size-1-a]? =_;rw[bw,List.getElem?_reverse c5];have:(List.range (Hs n).size).length-1-((Hs n).size-1-a)=a:=by grind
 rw[this]
 grind
def wa(b:af Oper)(a:af Bool)(c:Nat):Nat->Nat
 |0=>0
 |k+1=>if a.getD k false=true/\(b[k]?).bind (·.dst)=G c then k+1 else wa b a c k
theorem CB{ops:af Oper}{listed:af Bool}{s:Nat}:∀(n:Nat),wa ops listed s n=0\/∃a,wa ops listed s n=a+1/\a<n/\listed.getD a false/\(ops[a]?).bind (·.dst)=G s:=by
 intro n;induction n with
 |zero=>left;rfl
 |succ n b=>
  unfold wa
  grind
def NR{ops:af Oper}{listed:af Bool}{s:Nat}:∀{n a:Nat},a<n->listed.getD a false->(ops[a]?).bind (·.dst)=G s->a+1<=wa ops listed s n:=by
 intro n;induction n with
 |zero=>omega
 |succ n e=>
  intro a d b c;unfold wa
  grind
def abi{ops:af Oper}{listed:af Bool}{s:Nat}(n:Nat):wa ops listed s n<=n:=by rcases CB (ops:=ops) (listed:=listed) (s:=s) n with a|⟨d,b,c,_⟩<;>omega
def Rz{b:af Oper}{e f:af Bool}{c:Nat}:∀{n:Nat},(∀a,a<n->(b[a]?).bind (·.dst)=G c->f.getD a false=e.getD a false)->wa b f c n=wa b e c n:=by
 intro n;induction n with
 |zero=>intro _;rfl
 |succ n d=>
  intro g;have d:=d λa h=>g a J
  grind [wa]
end
section
structure Dr(P:ai)(cx:Ctx)(cf:jS)(base V m:Nat)(ops:af Oper)(E:Nat->Env)(Hs:Nat->H)(ws:World)(qC:Mu):Prop where
 j8:jR P cx
 ck:qx P cx cf
 dst:Jf m ops
 tr:Trace cx cf V ops E Hs
 wm:St cx base ws.heap qC (Hs 0)
 Iw:∀i j oi oj,ops[i]? =G oi->ops[j]? =G oj->i<j->(oi.apart ops oj/\(ju oi.op->ju oj.op->rU oi.op/\rU oj.op=true))\/kY ops i j
 back:∀j o,ops[j]? =G o->∀e∈o.after,Region.binds .any e->e.on<j
 ai2:∀k,k<=ops.size->∀s v,(E k).get V s=G v->tF (Hs k).size v
 afp:∀k,k<=ops.size->∀b x,(qC b≠none\/(Hs 0).size<=b)->(Hs k).get b=G x->∀v∈iy x.im,tF (Hs k).size v
 grow:∀k,k<ops.size->ng (Hs k) (Hs (k+1))
 wf:∀k,k<=ops.size->(Hs k).iA.length=(Hs k).size
structure Inv(cx:Ctx)(base V m:Nat)(ops:af Oper)(E:Nat->Env)(Hs:Nat->H)(ws:World)(qC:Mu)(listed:af Bool)(a:Act)(w:World)(μ:Mu)(q:Nat->Nat):Prop where
 cl:Cl ops listed
 size:a.tmps.size=m
 RS:a.defers=[]
 MQ:∀b,q b<=ops.size
 mX:∀k b,sq V ops E k->b<(Hs k).size->il (Hs k) (Hs (k+1)) b=false->(listed.getD k false↔k<q b)
 st:St cx base w.heap μ (PH Hs ops.size q)
 SK:∀s v,(E (wa ops listed s ops.size)).get V s=G v->iz w.heap μ v (a.tmps.getD s Go.undef)
 XY:∀b,μ b≠none↔(qC b≠none\/((Hs 0).size<=b/\b<(Hs ops.size).size/\listed.getD (yO Hs b ops.size-1) false=true))
 ext:tH ws qC w μ
section
variable {P:ai}{cx:Ctx}{cf:jS}{base V m:Nat}{ops:af Oper}{E:Nat->Env}{Hs:Nat->H}{ws w:World}{qC μ:Mu}{listed:af Bool}{a:Act}{q:Nat->Nat}
def Dr.mono(c:Dr P cx cf base V m ops E Hs ws qC):∀b,b<ops.size->(Hs b).size<=(Hs (b+1)).size:=λb d=>(c.grow b d).size
def Dr.lt0(c:Dr P cx cf base V m ops E Hs ws qC){b:Nat}(e:qC b≠none):b<(Hs 0).size:=by have⟨f,d⟩:=Option.ne_none_iff_exists'.1 e;exact c.wm.fV d
def Dr.still(g:Dr P cx cf base V m ops E Hs ws qC){b d:Nat}(p:b<ops.size)(n:d<(Hs b).size)(h:¬sq V ops E b):(Hs (b+1)).get d=(Hs b).get d:=by
 have f:ops[b]? =G ops[b]:=Y;rcases pN (g.tr.step b _ f)with⟨_,_,c⟩|⟨i,r,k,_⟩
 rw[c];have e:ju ops[b].op=false:=by
  cases c:ju ops[b].op;rfl;exact absurd ⟨_,f,c,i⟩ h
 rcases La (h2:=Hs b) e (λ_ _ _=>rfl) (Mb e k)with⟨c,_⟩|⟨l,s,_,_,_,c,_⟩;rw[c]
 grind [H.pY]
def Dr.ver(d:Dr P cx cf base V m ops E Hs ws qC){b c:Nat}(g:b<ops.size)(f:c<(Hs b).size)(n:il (Hs b) (Hs (b+1)) c):(Hs (b+1)).get c=(Hs b).get c:=by have⟨k,e⟩:=H.get_some (d.wf b J) f;have⟨p,i,h⟩:=(d.grow b g).ver c k e;rcases h with rfl|l;rw[e,i];simp_all[il]
def Dr.same(d:Dr P cx cf base V m ops E Hs ws qC){b c:Nat}(f:b<ops.size)(e:c<(Hs b).size)(i:sq V ops E b->il (Hs b) (Hs (b+1)) c=false->False):(Hs (b+1)).get c=(Hs b).get c:=by
 by_cases g:sq V ops E b;cases h:il (Hs b) (Hs (b+1)) c
 grind
 exact d.ver f e h;exact d.still f e g
def Dr.AS(c:Dr P cx cf base V m ops E Hs ws qC){b:Nat}(e:q b<=ops.size)(d:b<(Hs ops.size).size):(PH Hs ops.size q).get b=(Hs (max (q b) (yO Hs b ops.size))).get b:=
 acv c.mono c.wf e d
def Inv.lt(f:Dr P cx cf base V m ops E Hs ws qC)(c:Inv cx base V m ops E Hs ws qC listed a w μ q){b:Nat}{d:Loc}(e:μ b=G d):b<(Hs ops.size).size:=c.st.fV e
variable {j:Nat}{o:Oper}
structure Qv(ops:af Oper)(listed:af Bool)(j:Nat)(o:Oper):Prop where
 op:ops[j]? =G o
 lt:j<ops.size
 not:listed.getD j false=false
 before:∀i,kY ops i j->listed.getD i false
 behind:∀k,kY ops j k->listed.getD k false=false
 agb:∀e∈o.after,Region.binds .any e->listed.getD e.on false
def L6{listed:af Bool}{b:Nat}(c:listed.getD b true=false):listed.getD b false=false:=by grind
def rdy(c:Cl ops listed)(k:j∈Region.ready .any ops listed):∃o,Qv ops listed j o:=by
 have⟨e,o,d,f⟩:=mem_ready.1 k;have n:j<ops.size:=(Array.getElem?_eq_some_iff.1 d).1;refine⟨o,d,n,L6 e,λr i=>Ge c i d f,λb l=>?_,f⟩;cases h:listed.getD b false;rfl;have p:b<listed.size:=by
  grind
 have g:ops[b]? =G (ops[b]'(by rw[<-c.size];omega)):=by
  have:b<ops.size:=by rw[<-c.size];omega
  simp
 have:=Ge c l g (c.closed b _ g h);rw[L6 e]at this;grind
def Cl.set(b:Cl ops listed)(i:Qv ops listed j o):Cl ops (listed.setIfInBounds j true):=by refine⟨by simp[b.size],λh k g hl c e d=>?_⟩;by_cases f:j=h;subst f;have:=db (g.symm.trans i.op);subst this;exact getD_set_true (i.agb c e d);rw[getD_set_ne false f]at hl;exact getD_set_true (b.closed h k g hl c e d)
def yX(b:Cl ops listed)(c:Qv ops listed j o):(listed.setIfInBounds j true).getD j false=true:=by have:=b.size▸c.lt;simp[this]
theorem Inv.mB(p:Dr P cx cf base V m ops E Hs ws qC)(R:Inv cx base V m ops E Hs ws qC listed a w μ q)(f:Qv ops listed j o){s:Nat}(B:s∈o.looksAt ops):
 (E (wa ops listed s ops.size)).get V s=(E j).get V s:=by
 have F:∀b i,ops[b]? =G i->i.dst=G s->(b<j->listed.getD b false=true)/\(j<b->listed.getD b false=false):=by
  intro b i k t;refine⟨λu=>?_,λu=>?_⟩;rcases p.Iw b j i o k f.op u with⟨r,_⟩|v;exact absurd B ((Oper.apart_spec r).1 s t);exact f.before b v;rcases p.Iw j b o i f.op k u with⟨r,_⟩|v;exact absurd B ((Oper.apart_spec r).2.2 s t);exact f.behind b v
 have U:wa ops listed s ops.size<=j:=by
  rcases CB (ops:=ops) (listed:=listed) (s:=s) ops.size with h|⟨b,S,T,K,x⟩;omega;have e:ops[b]? =G ops[b]:=Y;rw[e]at x;have C:=F b _ e x;rcases Nat.lt_trichotomy b j with h|h|h
  omega;subst h;rw[f.not]at K;grind
  grind
 have O:∀c,wa ops listed s ops.size+c<=j->(E (wa ops listed s ops.size+c)).get V s=(E (wa ops listed s ops.size)).get V s:=by
  intro c;induction c with
  |zero=>simp
  |succ c N=>
   intro t;have k:wa ops listed s ops.size+c<ops.size:=iV f.lt;have e:ops[wa ops listed s ops.size+c]? =G ops[wa ops listed s ops.size+c]:=Y;rw[<-N J];have A:ops[wa ops listed s ops.size+c].dst≠some s:=by
    intro y;have C:=(F _ _ e y).1 J;have:=NR (n:=ops.size) k C (by rw[e];exact y);omega
   have W:∀l g,(E (wa ops listed s ops.size+c)).dst V ops[wa ops listed s ops.size+c].dst l=G g->g.get V s=(E (wa ops listed s ops.size+c)).get V s:=by
    intro l g d;rcases z:ops[wa ops listed s ops.size+c].dst with _|D
    rw[z]at d;have d:some _=G g:=d;simp[aw]at d;rw[d];rw[z]at d A;have L:s≠D:=λI=>A (by rw[I]);rw[Env.E5 (show Env.set V _ D l=G g from d) s,aq L]
   rcases pN (p.tr.step _ _ e)with⟨_,d,_⟩|⟨_,l,_,d⟩
   grind
   grind
 have:=O (j-wa ops listed s ops.size) J;rw[show wa ops listed s ops.size+(j-wa ops listed s ops.size)=j by omega]at this
 grind
def Inv.SU(d:Dr P cx cf base V m ops E Hs ws qC)(c:Inv cx base V m ops E Hs ws qC listed a w μ q)(f:Qv ops listed j o):mo w.heap μ V (FP V (E j) (o.looksAt ops)) a.tmps:=by
 intro g h b;rw[Ck]at b;split at b;rename_i e;exact c.SK g h (c.mB d f e▸b)
 grind
def Inv.FB(n:Dr P cx cf base V m ops E Hs ws qC)(g:Inv cx base V m ops E Hs ws qC listed a w μ q)(c:Qv ops listed j o){k:af Obj}{l:Mu}(I:Ext w.heap μ k l){y:T}{p:am}
 (D:iz k l y p) (x:(E j).dst V o.dst y=G (E (j+1))):∀s f,(E (wa ops (listed.setIfInBounds j true) s ops.size)).get V s=G f->iz k l f ((a.put o.dst p).tmps.getD s Go.undef):=by
 intro s f d;by_cases e:o.dst=G s;have i:wa ops (listed.setIfInBounds j true) s ops.size=j+1:=by
  have N:=NR (ops:=ops) (s:=s) c.lt (yX g.cl c) (c.op▸e);rcases CB (ops:=ops) (listed:=listed.setIfInBounds j true) (s:=s) ops.size with h|⟨b,K,L,r,t⟩
  omega;rcases Nat.lt_trichotomy b j with h|h|h;omega;omega;have u:ops[b]? =G ops[b]:=Y;rw[u]at t;rw[getD_set_ne false J]at r;rcases n.Iw j b o _ c.op u h with⟨z,_⟩|C
  exact absurd t ((Oper.apart_spec z).2.1 s e);rw[c.behind b C]at r;grind
 rw[i]at d;rw[e]at x|-;rw[Env.E5 (x) s,au rfl]at d;cases d;simpa[Act.put,cC,(g.size▸n.dst j o s c.op e)]using D;have i:wa ops (listed.setIfInBounds j true) s ops.size=wa ops listed s ops.size:=by
  refine Rz λb R A=>?_;have:j≠b:=by rintro rfl;rw[c.op]at A;grind
  simp_all
 rw[i]at d;have v:=(g.SK s f d).ext I;rcases O:o.dst with _|F
 exact v;have B:F≠s:=by grind
 simpa[Act.put,cC,Array.getElem?_setIfInBounds_ne B]using v
def Inv.looked(d:Dr P cx cf base V m ops E Hs ws qC)(k:Inv cx base V m ops E Hs ws qC listed a w μ q)(n:Qv ops listed j o)(v:ju o.op=false)(K:mf ops V (E j) o.guard=G true)
 {b:Nat} (z:iY cx V (E j) (Hs j) o.op=G b) {e:Nat} (O:j<=e) (x:e<=ops.size) (u:b<(Hs e).size) (R:e=j\/e=j+1):
 (PH Hs ops.size q).get b=(Hs e).get b:=by
 have l:b<(Hs ops.size).size:=bS u (qf d.mono x (ay _));rw[d.AS (k.MQ _) l];have L:yO Hs b ops.size<=e:=(m8 d.mono l x).1 u;have t:A9 cx V ops E Hs j b:=⟨o,n.op,v,K,z⟩;have N:¬sq V ops E j:=by
  rintro⟨S,r,A,_⟩;rw[n.op]at r;cases r;rw[v]at A;grind
 rcases Nat.le_total (max (q b) (yO Hs b ops.size)) e with F|B;refine(oH d.mono F λc C D=>?_).symm;have f:b<(Hs c).size:=(m8 d.mono l J).2 J;by_cases g:sq V ops E c;have p:c<j:=by
  grind
 cases i:il (Hs c) (Hs (c+1)) b;rcases d.tr.behind j c b t g p with h|h;rw[i]at h;grind;have:=(k.mX c b g f i).1 (n.before c h);omega;exact d.ver J f i;exact d.still J f g;refine oH d.mono B λc C D=>?_;have I:c<q b:=J;have s:c<ops.size:=iV (k.MQ b);have f:b<(Hs c).size:=(m8 d.mono l J).2 J;by_cases g:sq V ops E c;have p:j<c:=by
  grind
 cases i:il (Hs c) (Hs (c+1)) b;rcases d.tr.ahead j c b t g p with h|h;rw[i]at h;grind;have y:=(k.mX c b g f i).2 I;rw[n.behind c h]at y;grind;exact d.ver s f i;exact d.still s f g
def Inv.want(b:Dr P cx cf base V m ops E Hs ws qC)(c:Inv cx base V m ops E Hs ws qC listed a w μ q)(k:Qv ops listed j o){d:Bool}(g:mf ops V (E j) o.guard=G d):
 Region.wanted o (yielded ops a.tmps)=d:=
 Fl (c.SU b k) (λh i l e f=>by rw[c.size];exact b.dst h i l e f) (by rw[MX];exact g)
def Dr.made(c:Dr P cx cf base V m ops E Hs ws qC)(g:j<ops.size){b:Nat}(d:b<(Hs ops.size).size):yO Hs b ops.size=j+1↔((Hs j).size<=b/\b<(Hs (j+1)).size):=by have e:=m8 c.mono d (show j<=ops.size by omega);have f:=m8 c.mono d (show j+1<=ops.size by omega);omega
def Dr.cr0(c:Dr P cx cf base V m ops E Hs ws qC){b:Nat}(d:b<(Hs ops.size).size)(e:(Hs 0).size<=b):0<yO Hs b ops.size:=by rcases Nat.eq_zero_or_pos (yO Hs b ops.size)with h|h;have:=(m8 c.mono d (az _)).2 J;omega;omega
def Dr.Ew(c:Dr P cx cf base V m ops E Hs ws qC)(f:j<ops.size){b:Nat}(d:b<(Hs ops.size).size)(e:(Hs 0).size<=b)(g:¬((Hs j).size<=b/\b<(Hs (j+1)).size)):
 (listed.setIfInBounds j true).getD (yO Hs b ops.size-1) false=listed.getD (yO Hs b ops.size-1) false:=by
 refine getD_set_ne false λh=>g ?_;have:=c.cr0 d e;exact(c.made f d).1 J 
def Inv.J3(f:Dr P cx cf base V m ops E Hs ws qC)(k:Inv cx base V m ops E Hs ws qC listed a w μ q)(h:Qv ops listed j o)(g:(Hs (j+1)).size=(Hs j).size){i:Mu}(l:∀b,i b≠none↔μ b≠none):
 ∀b,i b≠none↔(qC b≠none\/((Hs 0).size<=b/\b<(Hs ops.size).size/\(listed.setIfInBounds j true).getD (yO Hs b ops.size-1) false=true)):=by
 intro b;rw[l,k.XY];refine or_congr Iff.rfl ⟨λ⟨c,d,e⟩=>⟨c,d,?_⟩,λ⟨c,d,e⟩=>⟨c,d,?_⟩⟩;rw[f.Ew h.lt d c (by rw[g];omega)];exact e;rw[f.Ew h.lt d c (by rw[g];omega)]at e;exact e
def Gv(c:Qv ops listed j o)(d:ju o.op=false\/mf ops V (E j) o.guard=G false):¬sq V ops E j:=by rintro⟨g,b,e,f⟩;rw[c.op]at b;grind
def Inv.Hb(d:Inv cx base V m ops E Hs ws qC listed a w μ q)(h:¬sq V ops E j):
 ∀b c,sq V ops E b->c<(Hs b).size->il (Hs b) (Hs (b+1)) c=false->((listed.setIfInBounds j true).getD b false↔b<q c):=by
 intro b c f e g;have:j≠b:=by grind
 rw[getD_set_ne false this];exact d.mX b c f e g
variable {Q:Exit->Act->World->Prop}
def Inv.skip(d:Dr P cx cf base V m ops E Hs ws qC)(b:Inv cx base V m ops E Hs ws qC listed a w μ q)(c:Qv ops listed j o)(g:mf ops V (E j) o.guard=G false)
 (f:(E j).dst V o.dst .undef=G (E (j+1))) (e:Hs (j+1)=Hs j):Inv cx base V m ops E Hs ws qC (listed.setIfInBounds j true) (a.put o.dst Go.undef) w μ q:=
 ⟨b.cl.set c,by rw[Act.tZ];exact b.size,by rw[Act.uc];exact b.RS,b.MQ,b.Hb (Gv c (.inr g)),b.st,
   b.FB d c (Ext.refl _ _) .undef f,b.J3 d c (by rw[e]) λ_=>Iff.rfl,b.ext⟩
def Inv.quiet(p:Dr P cx cf base V m ops E Hs ws qC)(i:Inv cx base V m ops E Hs ws qC listed a w μ q)(k:Qv ops listed j o)(cL:mf ops V (E j) o.guard=G true)(ae:ju o.op=false){v:T}
 (bi:Ih cx cf V (E j) (Hs j) o.op v (Hs (j+1))) (cb:(E j).dst V o.dst v=G (E (j+1))):
 C6 P (λc W=>∃t,Inv cx base V m ops E Hs ws qC (listed.setIfInBounds j true) (a.put o.dst c) W t q) ((execOp a.eval o).run P w):=by
 have b9:=Gv (V:=V) (E:=E) k (.inl ae);have ca:=Mb ae bi;have aA:∀C∈o.op.operands,iG cx V (E j) C=iG cx V (FP V (E j) (o.looksAt ops)) C:=λC bi=>Dy bi;rw[Dz aA]at ca;have ds:∀b,iY cx V (FP V (E j) (o.looksAt ops)) (Hs j) o.op=G b->b<(Hs j).size->(PH Hs ops.size q).get b=(Hs j).get b:=by
  intro b d b6;rw[<-zx aA]at d;exact i.looked p k ae cL d (ay _) (bQ k.lt) b6 (.inl rfl)
 rcases La ae ds ca with⟨ao,a7⟩|⟨f,C,K,d,eh,ao,a7⟩
 
 refine((Cw p.j8 i.st (i.SU p k) a7).ran).mono λc W ax=>?_;obtain⟨t,B,x,A,U⟩:=ax;refine⟨t,i.cl.set k,by rw[Act.tZ];exact i.size,by rw[Act.uc];exact i.RS,i.MQ,i.Hb b9,x,i.FB p k A.ext B cb,?_,i.ext.trans A⟩;refine i.J3 p k (by rw[ao]) λb=>⟨λd=>?_,λd=>?_⟩;rcases U.2.1 b d with h|h;exact h;omega;have⟨e,S⟩:=Option.ne_none_iff_exists'.1 d;have⟨an,ap,_⟩:=A.ext.mu b e S;rw[ap];simp
 
 subst eh;have av:(PH Hs ops.size q).size=(Hs ops.size).size:=rfl;have cp:(Hs (j+1)).size=(Hs j).size+1:=by rw[ao];rfl
 have bT:(Hs j).size<(Hs ops.size).size:=by
  have:=qf p.mono (show j+1<=ops.size from k.lt) (ay _);omega
 have bA:=qf p.mono (az _) (bQ k.lt);have bW:=(p.made k.lt bT).2 ⟨ay _,J⟩;have eD:μ (Hs j).size=none:=by
  rcases ea:μ (Hs j).size with _|e;rfl;exfalso;rcases(i.XY (Hs j).size).1 (by rw[ea];simp)with h|⟨_,_,h⟩
  have:=p.lt0 h;omega;rw[bW]at h;simp only[Nat.add_sub_cancel]at h;rw[k.not]at h;grind
 have dm:(Hs (j+1)).get (Hs j).size=G C:=ao▸H.wT (p.wf j (bQ k.lt)) C;have ec:(PH Hs ops.size q).get (Hs j).size=G C:=by
  rw[<-zx aA]at d;rw[i.looked p k ae cL d (show j<=j+1 by omega) k.lt J (.inr rfl)];omega
 refine((Cw p.j8 i.st (i.SU p k) a7).ran).mono λc W ax=>?_;obtain⟨t,B,x,A,U⟩:=ax;rw[av]at B U;have di:((PH Hs ops.size q).cons C).size=(Hs ops.size).size+1:=rfl;rw[di]at U;have eu:t (Hs ops.size).size≠none:=U.2.2 _ (ay _) J;have b7:∀b e,μ b=G e->b<(Hs ops.size).size:=λb e d=>i.st.fV d;have bX:∀b,b≠(Hs ops.size).size->(t b≠none↔μ b≠none):=by
  intro b eB;constructor;intro d;rcases U.2.1 b d with h|h
  exact h;omega;intro d;have⟨e,S⟩:=Option.ne_none_iff_exists'.1 d;have⟨an,ap,_⟩:=A.ext.mu b e S;rw[ap];simp
 have et:t (Hs j).size=none:=by
  grind
 have⟨ey,eA⟩:=Option.ne_none_iff_exists'.1 eu
 let D:Mu:=⟨λb=>if b=(Hs j).size then t (Hs ops.size).size else if b=(Hs ops.size).size then none else t b,t.qJ⟩
 have F:D (Hs j).size=t (Hs ops.size).size:=by grind
 have Z:D (Hs ops.size).size=none:=by
  have:(Hs ops.size).size≠(Hs j).size:=J
  grind
 have R:∀b,b≠(Hs j).size->b≠(Hs ops.size).size->D b=t b:=λb r s=>by grind
 have bZ:∀O,qt D O->qt t O:=by
  rintro O (⟨b,e,d,hl⟩|hr);by_cases r:b=(Hs j).size;subst r;rw[F]at d;exact .inl ⟨_,e,d,hl⟩;by_cases s:b=(Hs ops.size).size;subst s;rw[Z]at d;grind;rw[R b r s]at d;exact .inl ⟨b,e,d,hl⟩;exact .inr hr
 have b8:∀b e,b<(Hs ops.size).size->t b=G e->D b=G e:=by
  intro b e d S;have r:b≠(Hs j).size:=by rintro rfl;rw[et]at S;grind
  rw[R b r J];exact S
 have aN:Ext w.heap μ W.heap D:=by
  refine⟨A.ext.size,λO dn eb=>?_,λb e d=>?_,A.ext.qJ,A.ext.kept⟩;have⟨eE,eF⟩:=A.ext.Bo O dn eb
  grind
  have⟨an,ap,eC⟩:=A.ext.mu b e d
  grind
 have ee:iz W.heap D (f (Hs j).size) c:=by
  rcases K with K|⟨l,K⟩|K|K;rw[K]at B|-;cases B with|ptr _ _ _ _ e X d aE c9=>exact .ptr _ _ _ _ e X (F▸d) aE c9
  rw[K]at B|-;cases B with|arr _ _ _ _ _ e X c4 d aE hl h=>exact .arr _ _ _ _ _ e X c4 (F▸d) aE hl h
  rw[K]at B|-;cases B with|iter _ e X d h=>exact .iter _ e X (F▸d) h
  rw[K]at B|-;cases B with|map _ e O d h=>exact .map _ e O (F▸d) h
 have ef:St cx base W.heap D (PH Hs ops.size q):=by
  refine⟨Je _ _ _,x.fit,λb e d=>?_,λb c1 e an d dd hl=>?_,λb e d=>?_,λb e d=>?_,x.uM,λg c6 dk=>?_⟩;by_cases r:b=(Hs j).size;subst r;rw[F]at d;have⟨y,al,aX⟩:=x.box _ e d;have ej:y=C:=by
   have:=H.wT (Je Hs ops.size q) C;rw[av,al]at this
   grind
  subst ej;refine⟨y,ec,aX.conv (n:=(Hs ops.size).size) (λu a8=>?_) b8 bZ⟩;exact(p.afp (j+1) k.lt _ y (.inr bA) dm u a8).mono J;by_cases s:b=(Hs ops.size).size;subst s;rw[Z]at d;grind;rw[R b r s]at d;have⟨y,al,aX⟩:=x.box b e d;have de:μ b≠none:=(bX b s).1 (by rw[d];simp);have⟨br,bN⟩:=Option.ne_none_iff_exists'.1 de;have b6:=b7 b br bN;rw[H.pY (by rw[av];omega)]at al;refine⟨y,al,aX.conv (n:=(Hs ops.size).size) (λu a8=>?_) b8 bZ⟩;have⟨z,bn,eo⟩:=i.st.box b br bN;rw[al]at bn;cases bn;exact eo.low b7 u a8;have bs:∀b e,D b=G e->(b=(Hs j).size/\t (Hs ops.size).size=G e)\/(b≠(Hs j).size/\b≠(Hs ops.size).size/\t b=G e):=by
   grind
  rcases bs b e d with⟨L,I⟩|⟨L,I,N⟩<;>rcases bs c1 an dd with⟨c7,ar⟩|⟨c7,ar,bu⟩;omega;exact absurd (x.inj _ _ _ _ I bu hl).symm ar;exact absurd (x.inj _ _ _ _ N ar hl) I;exact x.inj _ _ _ _ N bu hl;by_cases r:b=(Hs j).size;subst r;rw[F]at d;exact x.low _ _ d;by_cases s:b=(Hs ops.size).size;subst s;rw[Z]at d;grind;rw[R b r s]at d;exact x.low _ _ d;by_cases r:b=(Hs j).size;subst r;rw[F]at d;exact x.apart _ _ d;by_cases s:b=(Hs ops.size).size;subst s;rw[Z]at d;grind;rw[R b r s]at d;exact x.apart _ _ d;exact(i.st.CH g c6 dk).ext aN
 refine⟨D,i.cl.set k,by rw[Act.tZ];exact i.size,by rw[Act.uc];exact i.RS,i.MQ,i.Hb b9,ef,i.FB p k aN ee cb,λb=>?_,
  i.ext.trans ⟨aN,A.os,A.tape,A.output⟩⟩
 by_cases r:b=(Hs j).size;subst r;refine⟨λ_=> .inr ⟨bA,bT,?_⟩,λ_=>by rw[F];omega⟩;rw[bW];exact yX i.cl k;by_cases s:b=(Hs ops.size).size;subst s;refine⟨λh=>absurd Z h,λh=>?_⟩;rcases h with h|⟨_,h,_⟩
 have:=p.lt0 h;omega;omega;rw[R b r s,bX b s,i.XY];refine or_congr Iff.rfl ⟨λ⟨L,I,N⟩=>⟨L,I,?_⟩,λ⟨L,I,N⟩=>⟨L,I,?_⟩⟩;rw[p.Ew k.lt I L (by rw[cp];omega)];exact N;rw[p.Ew k.lt I L (by rw[cp];omega)]at N;exact N
def Inv.ai3(k:Dr P cx cf base V m ops E Hs ws qC)(f:Inv cx base V m ops E Hs ws qC listed a w μ q)(D:Qv ops listed j o)(ea:mf ops V (E j) o.guard=G true)(c6:ju o.op)
 (b9:∀i ae,ops[i]? =G ae->ju ae.op->(i<j->kY ops i j=true)/\(j<i->kY ops j i=true)) {v:T}
 (z:Ih cx cf V (E j) (Hs j) o.op v (Hs (j+1))) (dk:(E j).dst V o.dst v=G (E (j+1))):
 C6 P (λc ao=>∃F,Inv cx base V m ops E Hs ws qC (listed.setIfInBounds j true) (a.put o.dst c) ao F (λ_=>j+1)) ((execOp a.eval o).run P w):=by
 have eh:sq V ops E j:=⟨o,D.op,c6,ea⟩;have bX:∀i,sq V ops E i->i<j->listed.getD i false=true:=by
  rintro i ⟨ae,K,B,_⟩ br;exact D.before i ((b9 i ae K B).1 br)
 have bW:∀i,sq V ops E i->j<i->listed.getD i false=false:=by
  rintro i ⟨ae,K,B,_⟩ br;exact D.behind i ((b9 i ae K B).2 br)
 have p:=D.lt;have et:=k.mono j p;have eu:=qf k.mono (show j+1<=ops.size from p) (ay _);have ee:(Hs 0).size<=(Hs j).size:=qf k.mono (az _) (bQ p);have c1:∀b,b<(Hs j).size->(PH Hs ops.size q).get b=(Hs j).get b:=by
  intro b e;have r:b<(Hs ops.size).size:=J;rw[k.AS (f.MQ _) r];have bZ:yO Hs b ops.size<=j:=(m8 k.mono r (bQ p)).1 e;rcases Nat.le_total (max (q b) (yO Hs b ops.size)) j with dd|c9
  refine(oH k.mono dd λi bi bn=>?_).symm;have S:b<(Hs i).size:=(m8 k.mono r J).2 J;refine k.same J S λB al=>?_;have:=(f.mX i b B S al).1 (bX i B bn);omega;refine oH k.mono c9 λi bi bn=>?_;have di:=f.MQ b;have S:b<(Hs i).size:=(m8 k.mono r J).2 J;refine k.same J S λB al=>?_;have hl:=(f.mX i b B S al).2 J;rcases Nat.eq_or_lt_of_le bi with h|h
  subst h;rw[D.not]at hl;grind
  grind
 have c7:∀b d,μ b=G d->b<(Hs j).size\/(Hs (j+1)).size<=b:=by
  intro b d e;rcases aR b (Hs j).size with h|h
  omega;right;rcases aR b (Hs (j+1)).size with h2|h2
  exfalso;have r:b<(Hs ops.size).size:=J;rcases(f.XY b).1 (by rw[e];simp)with g|⟨_,_,g⟩
  have:=k.lt0 g;omega;rw[(k.made p r).2 ⟨h,h2⟩]at g;simp only[Nat.add_sub_cancel]at g;rw[D.not]at g;grind;omega
 have c4:∀b,μ b≠none->qC b≠none\/(Hs 0).size<=b:=λb e=>by
  rcases(f.XY b).1 e with g|⟨g,_⟩
  grind
  omega
 let X:Mu:=⟨λb=>if b<(Hs j).size then μ b else none,λl=>μ.qJ l\/∃b d,(Hs j).size<=b/\μ b=G d/\d.jV=l⟩
 have bu:∀b,b<(Hs j).size->X b=μ b:=λb e=>by grind
 have R:∀b d,X b=G d->b<(Hs j).size/\μ b=G d:=by
  grind
 have ap:∀l,qt X l->qt μ l:=by
  rintro l (⟨b,d,e,hl⟩|hr|⟨b,d,e,I,hl⟩);exact .inl ⟨b,d,(R b d e).2,hl⟩;exact .inr hr;exact .inl ⟨b,d,I,hl⟩
 have ar:∀b d,b<(Hs j).size->μ b=G d->X b=G d:=λb d e I=>bu b e▸I;have ec:St cx base w.heap X (Hs j):=by
  refine⟨k.wf j (bQ p),f.st.fit,λb d e=>?_,λb L d A e aA hl=>?_,λb d e=>?_,λb d e=>?_,λl hr=>?_,λg aN a7=>?_⟩;have⟨t,h2⟩:=R b d e;have⟨W,z,K⟩:=f.st.box b d h2;rw[c1 b t]at z;exact⟨W,z,K.conv (k.afp j (bQ p) b W (c4 b (by rw[h2];simp)) z) ar ap⟩;exact f.st.inj b L d A (R b d e).2 (R L A aA).2 hl;exact f.st.low b d (R b d e).2;rintro(hr|⟨L,A,aA,ax,hl⟩);exact f.st.apart b d (R b d e).2 hr;have:=f.st.inj L b A d ax (R b d e).2 hl;have:=(R b d e).1;omega;rcases hr with hr|⟨b,d,_,I,hl⟩;exact f.st.uM l hr;rw[<-hl];exact f.st.lt I;have b6:=f.st.CH g aN a7;refine b6.conv (n:=0) ?_ (λb d e=>by omega) ap;have⟨_,_,_,_,_,_,_,_,_,dm,_⟩:=b6.oq;exact .kH _ λu Z=>(dm u Z).2.low 0
 have eb:mo w.heap X V (FP V (E j) (o.looksAt ops)) a.tmps:=by
  intro s u Z;refine(f.SU k D s u Z).conv (n:=(Hs j).size) ?_ ar ap
  rw[Ck]at Z;split at Z;exact k.ai2 j (bQ p) s u Z
  grind
 refine(G7 k.j8 k.ck ec eb (z.congr (e':=FP V (E j) (o.looksAt ops)) λW z=>Dy z)).mono λc ao cL=>?_;obtain⟨⟨F,ca,U,C,cb⟩,_⟩:=cL
 let O:Mu:=⟨λb=>if b<(Hs (j+1)).size then F b else μ b,μ.qJ⟩
 have aX:∀b,b<(Hs (j+1)).size->O b=F b:=λb e=>by grind
 have bA:∀b,(Hs (j+1)).size<=b->O b=μ b:=λb e=>by
  have:¬b<(Hs (j+1)).size:=J
  grind
 have bs:F.qJ=X.qJ:=C.ext.qJ;have ej:∀b d,(Hs (j+1)).size<=b->μ b=G d->F.qJ d.jV:=by
  intro b d e I;rw[bs]
  grind
 have bN:∀l,qt O l->qt F l:=by
  rintro l (⟨b,d,e,hl⟩|hr);by_cases h:b<(Hs (j+1)).size;rw[aX b h]at e;exact .inl ⟨b,d,e,hl⟩;rw[bA b J]at e;right;rw[<-hl];grind;right;rw[bs];grind
 have b8:∀b d,F b=G d->b<(Hs (j+1)).size:=λb d e=>U.fV e;have bT:∀b d,b<(Hs (j+1)).size->F b=G d->O b=G d:=λb d e I=>aX b e▸I;have aE:Ext w.heap μ ao.heap O:=by
  refine⟨C.ext.size,λl a8 de=>?_,λb d e=>?_,rfl,λl a8 hr=>C.ext.kept l a8 (.inl hr)⟩;have⟨x,y⟩:=C.ext.Bo l a8 λh=>de (ap l h)
  grind
  rcases c7 b d e with h|h;have⟨A,ax,eo⟩:=C.ext.mu b d (ar b d h e)
  grind
  grind
 have dn:St cx base ao.heap O (PH Hs ops.size (λ_=>j+1)):=by
  have an:∀b d,O b=G d->(b<(Hs (j+1)).size/\F b=G d)\/((Hs (j+1)).size<=b/\μ b=G d):=by
   grind
  refine⟨Je _ _ _,U.fit,λb d e=>?_,λb L d A e aA hl=>?_,λb d e=>?_,λb d e hr=>?_,λl hr=>?_,λg aN a7=>(f.st.CH g aN a7).ext aE⟩;rcases an b d e with⟨t,h2⟩|⟨t,h2⟩;have⟨W,z,K⟩:=U.box b d h2;have r:b<(Hs ops.size).size:=J;have bZ:=(m8 k.mono r (p)).1 t;refine⟨W,?_,K.conv (K.low b8) bT bN⟩;rw[k.AS (q:=λ_=>j+1) (p) r,show max (j+1) (yO Hs b ops.size)=j+1 by omega];exact z;have⟨W,z,K⟩:=f.st.box b d h2;have r:=f.st.fV h2;have bZ:¬yO Hs b ops.size<=j+1:=λh=>by
   have:=(m8 k.mono r (show j+1<=ops.size from p)).2 h;omega
  refine⟨W,?_,K.ext aE ?_⟩;rw[k.AS (f.MQ _) r]at z;rw[k.AS (q:=λ_=>j+1) (show j+1<=ops.size from p) r,show max (j+1) (yO Hs b ops.size)=yO Hs b ops.size by omega];rw[<-z];refine(oH k.mono J λi bi bn=>?_).symm;have di:=f.MQ b;have ef:=Ka Hs b ops.size;have S:b<(Hs i).size:=(m8 k.mono r J).2 J;refine k.same J S λB al=>?_;have hl:=(f.mX i b B S al).2 J;rw[bW i B J]at hl;grind;exact C.ext.kept d.jV (f.st.lt h2) (.inr ⟨b,d,J,h2,rfl⟩);rcases an b d e with⟨t,h2⟩|⟨t,h2⟩<;>rcases an L A aA with⟨cp,av⟩|⟨cp,av⟩;exact U.inj b L d A h2 av hl;exact absurd (by rw[hl];grind) (U.apart b d h2);exact absurd (by rw[<-hl];grind) (U.apart L A av);exact f.st.inj b L d A h2 av hl;rcases an b d e with⟨t,h2⟩|⟨t,h2⟩;exact U.low b d h2;exact f.st.low b d h2;rcases an b d e with⟨t,h2⟩|⟨t,h2⟩;exact U.apart b d h2 (by rw[bs];grind);exact f.st.apart b d h2 hr;exact bS (f.st.uM l hr) C.ext.size
 have ds:iz ao.heap O v c:=ca.conv (ca.low b8) bT bN;refine⟨O,f.cl.set D,by rw[Act.tZ];exact f.size,by rw[Act.uc];exact f.RS,λ_=>p,λi b b7 _ _=>?_,dn,f.FB k D aE ds dk,λb=>?_,
  f.ext.trans ⟨aE,C.os,C.tape,C.output⟩⟩
 rcases Nat.lt_trichotomy i j with h|h|h;rw[getD_set_ne false J,bX i b7 h];grind;subst h;rw[yX f.cl D];simp;rw[getD_set_ne false J,bW i b7 h];grind;by_cases t:b<(Hs (j+1)).size;rw[aX b t];have r:b<(Hs ops.size).size:=J;by_cases h2:b<(Hs j).size;have:F b≠none↔μ b≠none:=by
  constructor;intro e;rcases cb.2.1 b e with g|g
  rwa[bu b h2]at g;omega;intro e;have⟨d,I⟩:=Option.ne_none_iff_exists'.1 e;have⟨A,ax,_⟩:=C.ext.mu b d (ar b d h2 I);rw[ax];simp
 rw[this,f.XY];refine or_congr Iff.rfl ⟨λ⟨x,y,N⟩=>⟨x,y,?_⟩,λ⟨x,y,N⟩=>⟨x,y,?_⟩⟩;rw[k.Ew p y x J];exact N;rw[k.Ew p y x J]at N;exact N;refine⟨λ_=> .inr ⟨J,r,?_⟩,λ_=>cb.2.2 b J t⟩;rw[(k.made p r).2 ⟨J,t⟩];exact yX f.cl D;rw[bA b J,f.XY];refine or_congr Iff.rfl ⟨λ⟨x,y,N⟩=>⟨x,y,?_⟩,λ⟨x,y,N⟩=>⟨x,y,?_⟩⟩;rw[k.Ew p y x J];exact N;rw[k.Ew p y x J]at N;exact N
def SD{e l f:H}{B:Ty}{c z n A:Nat}{p:T}(b:e.store B (.ptr c z n A) p=G l)(V:e.iA.length=e.size)(W:f.iA.length=f.size)(F:f.get c=e.get c):
 l.size=e.size/\(∀g,g≠c->l.get g=e.get g)/\il e l c=false/\c<e.size/\∃d,f.store B (.ptr c z n A) p=G d/\d.size=f.size/\d.iA.length=d.size/\d.get c=l.get c/\∀g,g≠c->d.get g=f.get g:=by
 have b:iX (Nat.beq (oo p.cells) B.size) (Z (e.get c) λD=> @jO.rec (λ_=>aa H) (λu h r exact t k=>
  iX (Nat.beq h z) (@Bool.rec (λ_=>aa H) (Z (qN k n) λx=>Z (mT x A p.cells) λy=>Z (nH k n y) λs=>
   Z (jd (Nat.succ r)) λi=>e.put c ⟨u,h,i,exact,false,s⟩) none t)) D)=G l:=b
 have⟨X,b⟩:=fq.1 b;obtain⟨⟨u,h,r,K,t,k⟩,v,b⟩:=eQ.1 b;have⟨ae,b⟩:=fq.1 b;cases t;obtain⟨x,al,b⟩:=eQ.1 b;obtain⟨y,an,b⟩:=eQ.1 b;obtain⟨s,ao,b⟩:=eQ.1 b;obtain⟨i,I,b⟩:=eQ.1 b;have U:i=r+1:=by rw[jx]at I;grind
 have⟨p1,p2,p3,p4⟩:=EZ b V;have S:c<f.size:=H.fV (F.trans v);have C:∃d,f.put c ⟨u,h,i,K,false,s⟩=G d:=⟨_,H.zo.2 ⟨S,J,rfl⟩⟩;obtain⟨d,C⟩:=C;have⟨L,N,O,R⟩:=EZ C W;refine⟨p1,p4,?_,H.fV v,d,?_,L,N,by rw[O,p3],R⟩;unfold il;rw[v,p3];show Nat.beq r i=false;rw[U]
 grind [aK,Nat.beq]
 show iX (Nat.beq (oo p.cells) B.size) (Z (f.get c) λD=> @jO.rec (λ_=>aa H) (λu h r exact t k=>
  iX (Nat.beq h z) (@Bool.rec (λ_=>aa H) (Z (qN k n) λx=>Z (mT x A p.cells) λy=>Z (nH k n y) λs=>
   Z (jd (Nat.succ r)) λi=>f.put c ⟨u,h,i,exact,false,s⟩) none t)) D)=G d
 rw[F,v];simp_all
 grind
def Dr.SE(l:Dr P cx cf base V m ops E Hs ws qC){c:Nat}{h:Oper}(k:ops[c]? =G h)(A:rU h.op)(S:sq V ops E c):
 ∃e,Z6 cx V ops E c e/\e<(Hs c).size/\(Hs (c+1)).size=(Hs c).size/\(∀f,f≠e->(Hs (c+1)).get f=(Hs c).get f)/\il (Hs c) (Hs (c+1)) e=false/\
  ∀d:H,d.iA.length=d.size->d.get e=(Hs c).get e->∃g,j9 h.op cx V (E c) d=be .undef g/\g.size=d.size/\g.iA.length=g.size/\g.get e=(Hs (c+1)).get e/\∀f,f≠e->g.get f=d.get f:=by
 obtain⟨ax,p,_,B⟩:=S;rw[k]at p;simp[aw]at p;subst p;have z:c<ops.size:=(Array.getElem?_eq_some_iff.1 k).1;rcases pN (l.tr.step c _ k)with⟨T,_⟩|⟨_,t,b,_⟩;rw[B]at T;grind;cases r:h.op with
 |store C F I=>
  rw[r]at b;rcases b with b|⟨O,K,b,_⟩
  have b:=b;obtain⟨D,L,b⟩:=eQ.1 b;obtain⟨U,u,b⟩:=eQ.1 b;obtain⟨aA,N,b⟩:=eQ.1 b;have⟨an,b⟩:=fq.1 b;obtain⟨x,v,b⟩:=eQ.1 b;simp[aw,nO.val.injEq]at b;obtain⟨rfl,rfl⟩:=b;cases U with
  |ptr e ao i av=>
   have y:∀d:H,d.iA.length=d.size->d.get e=(Hs c).get e->_:=λd s n=>SD v (l.wf c (bQ z)) s n;have⟨W,X,ae,al,_⟩:=y (Hs c) (l.wf c (bQ z)) rfl;refine⟨e,⟨h,C,F,I,k,r,B,by rw[u];rfl⟩,al,W,X,ae,λd s n=>?_⟩;have⟨_,_,_,_,g,ap,R⟩:=y d s n;refine⟨g,?_,R⟩;show(Z (cx.ty C) λD=>Z (iG cx V (E c) F) λa=>Z (iG cx V (E c) I) λt=>iX t.je (Z (d.store D a t) λx=>some (nO.val .undef x)))=_;rw[L,u,N];simp_all
  |_=>simp[H.store]at v
  exact absurd b (Gx (λf ar=>by grind) O K)
 |_=>rw[r]at A;simp[rU]at A
def Inv.afq(g:Dr P cx cf base V m ops E Hs ws qC)(i:Inv cx base V m ops E Hs ws qC listed a w μ q)(k:Qv ops listed j o)(ca:mf ops V (E j) o.guard=G true)(B:rU o.op)
 {D:T} (t:Ih cx cf V (E j) (Hs j) o.op D (Hs (j+1))) (b6:(E j).dst V o.dst D=G (E (j+1))):
 C6 P (λL an=>∃F c1,Inv cx base V m ops E Hs ws qC (listed.setIfInBounds j true) (a.put o.dst L) an F c1) ((execOp a.eval o).run P w):=by
 have R:ju o.op:=by cases bA:o.op<;>rw[bA]at B<;>simp[rU]at B<;>rfl
 have S:sq V ops E j:=⟨o,k.op,R,ca⟩;have z:=k.lt;have⟨d,aE,N,b7,bT,b9,ae⟩:=g.SE k.op B S;have v:d<(Hs ops.size).size:=bS N (qf g.mono (bQ z) (ay _));have K:∀b,sq V ops E b->b<j->il (Hs b) (Hs (b+1)) d=false->listed.getD b false=true:=by
  intro b l x e;rcases g.tr.both j b d aE l x with h|h
  rw[e]at h;grind;exact k.before b h
 have ao:∀b,sq V ops E b->j<b->il (Hs b) (Hs (b+1)) d=false->listed.getD b false=false:=by
  intro b l x e;have a7:=l;obtain⟨cL,X,bn,_⟩:=a7;rcases g.Iw j b o cL k.op X x with⟨_,h⟩|h
  have⟨y,aN,_,_,bW,_⟩:=g.SE X (h R bn).2 l;have:y=d:=by
   rcases Nat.decEq y d with bu|rfl;exfalso;have a8:=bW d (bH bu);unfold il at e;rw[a8]at e;rcases r:(Hs b).get d with _|s
   rw[r]at e;grind;rw[r]at e;have e:Nat.beq s.ver s.ver=false:=e;simp at e;rfl
  subst this;rcases g.tr.both b j y aN S x with h|h
  rw[b9]at h;grind;exact k.behind b h;exact k.behind b h
 have dd:yO Hs d ops.size<=j:=(m8 g.mono v (bQ z)).1 N;have bX:(PH Hs ops.size q).get d=(Hs j).get d:=by
  rw[g.AS (i.MQ _) v];have di:=i.MQ d;rcases Nat.le_total (max (q d) (yO Hs d ops.size)) j with bs|bi
  refine(oH g.mono bs λb U W=>?_).symm;have p:d<(Hs b).size:=(m8 g.mono v J).2 J;refine g.same J p λl e=>?_;have:=(i.mX b d l p e).1 (K b l W e);omega;refine oH g.mono bi λb U W=>?_;have p:d<(Hs b).size:=(m8 g.mono v J).2 J;refine g.same J p λl e=>?_;have hl:=(i.mX b d l p e).2 J;rcases Nat.eq_or_lt_of_le U with h|h
  subst h;rw[k.not]at hl;grind
  grind
 have⟨c9,Z,ap,c7,ar,av⟩:=ae (PH Hs ops.size q) (Je _ _ _) bX;have b8:D= .undef:=by
  have⟨de,bN,_⟩:=ae (Hs j) (g.wf j (bQ z)) rfl;rcases t with t|⟨f,c6,t,_⟩;rw[bN]at t;grind
  grind
 subst b8;have aX:∀s∈o.op.operands,iG cx V (E j) s=iG cx V (FP V (E j) (o.looksAt ops)) s:=λs t=>Dy t;rw[Dz aX]at Z;refine((Cw g.j8 i.st (i.SU g k) Z).ran).mono λL an r=>?_;obtain⟨F,cb,al,C,cp⟩:=r;refine⟨F,λc=>if c=d then j+1 else q c,i.cl.set k,by rw[Act.tZ];exact i.size,by rw[Act.uc];exact i.RS,λc=>?_,λb c A p e=>?_,
  al.congr (Je _ _ _) λc I u=>?_,i.FB g k C.ext cb b6,i.J3 g k b7 λc=>⟨λu=>?_,λu=>?_⟩,i.ext.trans C⟩
 show(if c=d then j+1 else q c)<=ops.size;have:=i.MQ c;split<;>omega;show _↔b<(if c=d then j+1 else q c);by_cases n:c=d;subst n;rw[au rfl];rcases Nat.lt_trichotomy b j with h|h|h
 rw[getD_set_ne false J,K b A h e];grind;subst h;rw[yX i.cl k];simp;rw[getD_set_ne false J,ao b A h e];grind;rw[aq n];have br:j≠b:=by
  rintro rfl;unfold il at e;rw[(bT c n)]at e;rcases r:(Hs j).get c with _|s;rw[r]at e;grind;rw[r]at e;have e:=e;simp at e
 rw[getD_set_ne false br];exact i.mX b c A p e;have O:c<(Hs ops.size).size:=by
  have:=al.fV u;rw[ap]at this;exact this
 have bZ:(if c=d then j+1 else q c)<=ops.size:=by have:=i.MQ c;split<;>omega
 rw[g.AS (q:=λc=>if c=d then j+1 else q c) bZ O];by_cases n:c=d;subst n;rw[au rfl,ar,show max (j+1) (yO Hs c ops.size)=j+1 by omega];rw[aq n,av c n,g.AS (i.MQ _) O];rcases cp.2.1 c u with h|h;exact h;omega;have⟨I,ax⟩:=Option.ne_none_iff_exists'.1 u;have⟨c4,aA,_⟩:=C.ext.mu c I ax;rw[aA];simp
def Inv.step(c:Dr P cx cf base V m ops E Hs ws qC)(d:Inv cx base V m ops E Hs ws qC listed a w μ q)(z:j∈Region.ready .any ops listed):
 wpOp P ops Q j (λx i=>∃B A,Inv cx base V m ops E Hs ws qC (listed.setIfInBounds j true) x i B A) a w:=by
 have⟨o,b⟩:=rdy d.cl z;unfold wpOp;simp[b.op];rcases pN (c.tr.step j o b.op)with⟨e,f,y⟩|⟨e,C,p,f⟩;simp[d.want c b e,dj];exact⟨μ,q,d.skip c b e f y⟩;simp[d.want c b e];left;cases g:ju o.op;exact C6.wp (d.quiet c b e g p f) λr i k=>by grind
 cases n:rU o.op;refine C6.wp (d.ai3 c b e g (λu v t s=>⟨λl=>?_,λl=>?_⟩) p f) λr i k=>by grind
 rcases c.Iw u j v o t b.op l with⟨_,h⟩|h;have:=(h s g).2;rw[n]at this;grind;omega;rcases c.Iw j u o v b.op t l with⟨_,h⟩|h;have:=(h g s).1;rw[n]at this;grind;omega;exact C6.wp (d.afq c b e n p f) λr i k=>k
def unl(listed:af Bool):Nat:=(listed.toList.filter λb=> !b).length
def Oa:∀(b:List Bool) (j:Nat),b[j]? =G false->((b.set j true).filter λc=> !c).length+1=(b.filter λc=> !c).length:=by
 intro b;induction b with
 |nil=>simp
 |cons f b e=>
  intro j d;rcases j with _|j
  grind
  simp at d;have:=e j d;cases f<;>simp[dc]<;>omega
def O7(b:listed.getD j true=false):unl (listed.setIfInBounds j true)+1=unl listed:=by
 have c:j<listed.size:=by
  grind
 unfold unl;rw[Array.toList_setIfInBounds];simp_all[Oa]
def OM(d:Dr P cx cf base V m ops E Hs ws qC)(e:Cl ops listed)(hr:Region.ready .any ops listed=[]):∀b,b<ops.size->listed.getD b false=true:=by
 intro b;induction b using Nat.strongRecOn with
 |_ b n=>
  intro i;cases k:listed.getD b false;have c:ops[b]? =G ops[b]:=Y;have:b∈Region.ready .any ops listed:=by
   refine mem_ready.2 ⟨?_,ops[b],c,λf h g=>?_⟩;have:=e.size▸i
   grind
   have l:=d.back b _ c f h g
   grind
  rw[hr]at this
  grind
  rfl
def Inv.af5(c:Dr P cx cf base V m ops E Hs ws qC)(f:Inv cx base V m ops E Hs ws qC listed a w μ q)(p:∀g,g<ops.size->listed.getD g false):
 St cx base w.heap μ (Hs ops.size)/\mo w.heap μ V (E ops.size) a.tmps/\BT qC μ (Hs 0).size (Hs ops.size).size:=by
 refine⟨f.st.congr (c.wf _ (ay _)) λd R r=>?_,λs h L=>f.SK s h ?_,?_⟩;have u:=f.lt c r;rw[c.AS (f.MQ _) u];have T:=Ka Hs d ops.size;have:=f.MQ d;refine oH c.mono J λg W y=>?_;have t:d<(Hs g).size:=(m8 c.mono u J).2 J;refine c.same y t λF K=>?_;have:=(f.mX g d F t K).1 (p g y);omega
 
 have O:∀b,wa ops listed s ops.size+b<=ops.size->(E (wa ops listed s ops.size+b)).get V s=(E (wa ops listed s ops.size)).get V s:=by
  intro b;induction b with
  |zero=>simp
  |succ b N=>
   intro U;have x:wa ops listed s ops.size+b<ops.size:=J;have z:ops[wa ops listed s ops.size+b]? =G ops[wa ops listed s ops.size+b]:=Y;rw[<-N J];have A:ops[wa ops listed s ops.size+b].dst≠some s:=by
    intro D;have:=NR (n:=ops.size) x (p _ x) (by rw[z];exact D);omega
   have Z:∀h i,(E (wa ops listed s ops.size+b)).dst V ops[wa ops listed s ops.size+b].dst h=G i->i.get V s=(E (wa ops listed s ops.size+b)).get V s:=by
    intro h i e;rcases v:ops[wa ops listed s ops.size+b].dst with _|B
    rw[v]at e;have e:some _=G i:=e;simp[aw]at e;rw[e];rw[v]at e A;have I:s≠B:=λC=>A (by rw[C]);rw[Env.E5 (show Env.set V _ B h=G i from e) s,aq I]
   rcases pN (c.tr.step _ _ z)with⟨_,e,_⟩|⟨_,h,_,e⟩
   grind
   grind
 have X:=abi (ops:=ops) (listed:=listed) (s:=s) ops.size;have:=O (ops.size-wa ops listed s ops.size) J;rw[show wa ops listed s ops.size+(ops.size-wa ops listed s ops.size)=ops.size by omega]at this;rw[<-this];exact L;refine⟨qf c.mono (az _) (ay _),λd r=>?_,λd k l=>?_⟩;rcases(f.XY d).1 r with S|⟨k,l,_⟩
 grind
 omega;refine(f.XY d).2 (.inr ⟨k,l,p _ ?_⟩);have:=c.cr0 l k;have:=Ka Hs d ops.size;omega
def Sa(f:Dr P cx cf base V m ops E Hs ws qC)
 (p:∀a w μ,St cx base w.heap μ (Hs ops.size)->mo w.heap μ V (E ops.size) a.tmps->BT qC μ (Hs 0).size (Hs ops.size).size->tH ws qC w μ->a.tmps.size=m->a.defers=[]->Q .normal a w):
 ∀(c:Nat) (listed:af Bool) (a:Act) (w:World),unl listed<=c->(∃μ q,Inv cx base V m ops E Hs ws qC listed a w μ q)->wpAny P .any ops Q c listed a w:=by
 have fin:∀(listed:af Bool) (a:Act) (w:World),(∃μ q,Inv cx base V m ops E Hs ws qC listed a w μ q)->Region.ready .any ops listed=[]->Q .normal a w:=by
  rintro listed a w ⟨μ,q,b⟩ hr;have⟨k,l,n⟩:=b.af5 f (OM f b.cl hr);exact p a w μ k l n b.ext b.size b.RS
 intro c;induction c with
 |zero=>
  intro listed a w r d;have hr:Region.ready .any ops listed=[]:=by
   rcases hr:Region.ready .any ops listed with _|⟨g,u⟩;rfl;have e:g∈Region.ready .any ops listed:=by rw[hr];simp
   have:=O7 (mem_ready.1 e).1;omega
  exact⟨hr,fin listed a w d hr⟩
 |succ c s=>
  intro listed a w r d;refine⟨λhr=>fin listed a w d hr,λg e=>?_⟩;obtain⟨μ,q,b⟩:=d;have:=O7 (mem_ready.1 e).1;exact wpOp_mono (λh t i=>s _ h t J i) (b.step f e)
theorem chain{n:World}{p:Mu}{h:H}{u:Env}{g c:H}{f:Env}(j8:jR P cx)(t:qx P cx cf)(v:Jf m ops){l:Nat}(y:ops[l]? =G o)(L:nW cx cf V ops u g o=G (f,c))
 (r:wX cx base V m n p h u g a w):(∃B e,wX cx base V m n p h f c B e)/\ng g c:=by
 have A:=r;obtain⟨μ,b,d,O,C,D,x,S⟩:=A;rcases pN L with⟨N,k,rfl⟩|⟨N,T,z,k⟩
 exact⟨⟨_,w,μ,b,mo.put d .undef (λb i=>by rw[x];exact v l o b y i) k,O,C,D,by rw[Act.tZ];exact x,by rw[Act.uc];omega⟩,ng.refl b.wf⟩;have hr:=G7 (P:=P) j8 t b d z;have⟨s,e,I⟩:=hr.some;have F:C6 P (λs e=>wX cx base V m n p h f c (a.put o.dst s) e) ((execOp a.eval o).run P w):=
  r.after (λb i=>v l o b y i) k λbase μ b d=>G7 j8 t b d z
 have⟨R,U,K⟩:=F.some;exact⟨⟨_,_,K⟩,I.2⟩
def Oi(b8:P.follows .mixedOrders)(j8:jR P cx)(X:qx P cx cf):V8 P cx cf rZ:=by
 intro base V m dn ds dk ops e bu h bN a w Q id ae an ca bn bW;have⟨E,Hs,c1,c6,a7,T,c7,_,_,c9,dd,_,c4⟩:=HP ops.toList 0 ⟨[],[]⟩ e bu h bN (λt=>by simp) ca;simp[cV,c8]at a7 T;have a8:Trace cx cf V ops E Hs:=⟨λb o k=>c7 b o (az _) k,λb B c u v A=>c9 b B c (az _) u v A,λb B c u v A=>dd b B c (az _) u v A,λb B c u v A=>c4 b B c (az _) u v A⟩;obtain⟨qC,p,r,x,bs,g,ar,ao⟩:=bn;subst c1 c6;have L:∀b,b<=ops.size->∃N I,wX cx base V m w qC (Hs 0) (E b) (Hs b) N I:=by
  intro b;induction b with
  |zero=>intro _;exact⟨a,w,qC,p,r,tH.refl _ _,BT.refl _ _,ng.refl p.wf,ar,ao⟩
  |succ b S=>
   intro f;have⟨a1,K,W⟩:=S J;have k:ops[b]? =G ops[b]:=Y;exact(chain j8 X an k (a8.step b _ k) W).1
 have Z:∀b,b<ops.size->ng (Hs b) (Hs (b+1)):=by
  intro b f;have⟨a1,K,W⟩:=L b J;have k:ops[b]? =G ops[b]:=Y
  grind [chain]
 have D:Dr P cx cf base V m ops E Hs {w with drawn:=w.drawn+1} qC:=by
  refine⟨j8,X,an,a8,p,λi j dm cL bX b7 bZ=>Mf ae bX b7 bZ,λj o k=>Oj ae k,λb f sl C n=>?_,λb f c y d ax C n=>?_,Z,λb f=>?_⟩;have⟨a1,K,U,s,r1,_⟩:=L b f;exact(r1 sl C n).low λc l d=>s.fV d;have⟨a1,K,U,s,r1,de,br,_⟩:=L b f;have b6:U c≠none:=by
   rcases d with d|d;have⟨l,O⟩:=Option.ne_none_iff_exists'.1 d;have⟨di,bT,_⟩:=de.ext.mu c l O;rw[bT];simp;exact br.2.2 c d (H.fV ax)
  have⟨l,O⟩:=Option.ne_none_iff_exists'.1 b6;have⟨z,R,b9⟩:=s.box c l O;rw[ax]at R;cases R;exact b9.low (λc l d=>s.fV d) C n;have⟨a1,K,U,s,_⟩:=L b f;exact s.wf
 have bA:∀b,b<=ops.size->ng (Hs 0) (Hs b):=by
  intro b;induction b with
  |zero=>intro _;exact ng.refl p.wf
  |succ b S=>intro f;exact(S J).trans (Z b J)
 refine wp_region_any b8 (Sa D (λN I bi aA aE aN F cb cp=>?_) ops.size _ a _ (by simp[unl]) ⟨qC,λ_=>0,?_⟩);rw[a7]at aE;rw[T]at aA aN;have aX:tH w qC I bi:=⟨F.ext,F.os,F.tape,F.output⟩;exact bW N I ⟨bi,aA,aE,x.trans aX,bs.trans (hp:=w.heap) aN aX.ext,by have:=bA ops.size (ay _);rw[T]at this;exact g.trans this,cb,cp⟩;have av:∀b,(Array.replicate ops.size false).getD b false=false:=by
  intro b;rcases aR b ops.size with h|h<;>simp[h]
 refine⟨⟨Y,λj cL _ hl=>?_⟩,ar,ao,λ_=>az _,λb c _ _ _=>?_,?_,λsl C n=>?_,λc=>?_,⟨Ext.refl _ _,rfl,rfl,rfl⟩⟩;rw[av]at hl;grind;rw[av];simp;refine p.congr (Je _ _ _) λc l d=>?_;have ap:=p.fV d;have al:=bS ap (qf D.mono (az _) (ay _));rw[D.AS (q:=λ_=>0) (az _) al];have:=(m8 D.mono al (az _)).1 ap;rw[show max 0 (yO Hs c ops.size)=0 by omega];have:wa ops (Array.replicate ops.size false) sl ops.size=0:=by
  grind [Array.replicate,CB]
 rw[this]at n;exact r sl C n
 grind
end
end
section
section
variable {P:ai}{cx:Ctx}{cf:jS}{base V m:Nat}{w0 w:World}{μ0 μ:Mu}{h0 h h':H}{e e':Env}{a:Act}
def DA{d:List T}{cs:af am}{g:af Obj}(b:ja g μ d cs.toList):iz g μ (ky d) (if h:cs.size=1 then cs[0]else .tuple cs):=by
 have c:∀(j:cs.size≠1),iz g μ (.tuple d) (if h:cs.size=1 then cs[0]else .tuple cs):=by
  intro j;rw[dif_neg j];exact .tuple d cs (iC b.1.symm) λn i l=>by simpa[cC,List.getD]using b.2 n i l
 have f:=b.1
 match d,b,f,c with
 | [],b,f,c=>exact c c5
 | [i],b,f,c=>
  have k:cs.size=1:=by grind
  rw[dif_pos k];have:=b.2 0 i Y
  grind [List.getD,ky]
 |o::p::d,b,f,c=>exact c c5
def tV(c:af am):ResultVar->Sem am
 | .tmp b=>pure (c.getD b Go.undef)
 | .cell d b=>do loadVar b (<-asAddr (c.getD d Go.undef))
def FJ(c:Func)(d:af am):results c d=(do let b<-c.results.mapM (tV d);pure (if h:b.size=1 then b[0]else .tuple b)):=by unfold results;congr 1
def Jk(j8:jR P cx)(E:St cx base w.heap μ h)(r:mo w.heap μ V e a.tmps):∀(g:List ResultVar) (k:List T),pS cx V e h g=G k->
 ∃d:List am,ja w.heap μ k d/\(g.mapM (tV a.tmps)).run P w= .ok d w:=by
 intro g;induction g with
 |nil=>
  intro k b;have b:some []=G k:=b;simp_all[aw,ja.nil]
 |cons n g D=>
  intro k b;unfold pS at b;rw[kv]at b;obtain⟨j,c,b⟩:=eQ.1 b;obtain⟨s,C,b⟩:=eQ.1 b;cases b;have⟨d,x,A⟩:=D s C;have q:∀f,(tV a.tmps n).run P w= .ok f w->iz w.heap μ j f->∃d:List am,ja w.heap μ (j::s) d/\((n::g).mapM (tV a.tmps)).run P w= .ok d w:=by
   intro f y hr;refine⟨f::d,ja.cons hr x,?_⟩;rw[List.mapM_cons,Sem.run_bind,y,Result.andThen_ok,Sem.run_bind,A,Result.andThen_ok,Sem.run_pure]
  cases n with
  |tmp i=>
   have c:e.get V i=G j:=c;exact q _ (by rfl) (r i j c)
  |cell p i=>
   have c:(Z (e.get V p) λl=>Z (cx.ty i) λo=>h.load o l)=G j:=c;obtain⟨l,z,c⟩:=eQ.1 c;obtain⟨o,B,c⟩:=eQ.1 c;have⟨F,f,t,u,v⟩:=GD (j8.ty i o B) E (r p l z) c;exact q f (by simp[tV,t,asAddr,u]) v
def HQ(j8:jR P cx)(j:St cx base w.heap μ h)(i:mo w.heap μ V e a.tmps){b:Func}{d:List T}(f:pS cx V e h b.results.toList=G d):
 ∃c,(results b a.tmps).run P w= .ok c w/\iz w.heap μ (ky d) c:=by
 have⟨cs,k,g⟩:=Jk (P:=P) j8 j i _ _ f;refine⟨_,?_,DA (cs:=cs.toArray) J⟩;rw[FJ];have:b.results.mapM (tV a.tmps)=List.toArray<$>b.results.toList.mapM (tV a.tmps):=by
  rw[<-List.mapM_toArray]
 rw[this,Sem.run_bind,Sem.run_map,g];rfl
def HZ:∀(f d:Nat) (k:List T) (o:iM),oX V f d k=G o->∀n j,mB o n=G j->(∃c,n=d+c/\c<f/\(k[c]? =G j\/(k.length<=c/\j= .undef))):=by
 intro f;induction f with
 |zero=>
  intro d k o b n j g;have b:some iM.nil=G o:=b;cases b
  grind [mB]
 |succ f u=>
  intro d k o b n j g;have b:(Z (jd (Nat.succ d)) λp=> @List.rec T (λ_=>aa iM)
   (@Bool.rec (λ_=>aa iM) (oX V f p []) (Z (oX V f p []) λi=>some (.cons d .undef i)) (lO V d))
   (λa l _=>Z (oX V f p l) λi=>some (.cons d a i)) k)=G o:=b
  simp[jx,fw]at b;have q:∀{l:List T} {i:iM},oX V f (d+1) l=G i->mB i n=G j->∃c,n=d+(c+1)/\c<f/\(l[c]? =G j\/(l.length<=c/\j= .undef)):=by
   grind
  rcases k with _|⟨v,l⟩;cases hl:lO V d;rw[hl]at b;have⟨c,r,s,t⟩:=q b g;simp_all;rw[hl]at b;obtain⟨i,ht,b⟩:=eQ.1 b;cases b;rw[ql]at g;split at g;simp_all;have⟨c,r,s,t⟩:=q ht g;simp_all;obtain⟨i,ht,b⟩:=eQ.1 b;cases b;rw[ql]at g;split at g;simp_all;have⟨c,r,s,t⟩:=q ht g;simp_all
def N2{n:Nat}{d:List T}{i:iM}{l:af Obj}{c:af am}(k:ja l μ d c.toList)(o:oX V n 0 d=G i):
 mo l μ V ⟨i,.nil⟩ (c++Array.replicate (n-c.size) Go.undef):=by
 intro b j f;have f: @Bool.rec (λ_=>aa T) (mB .nil b) (mB i b) (lO V b)=G j:=f;cases hl:lO V b;rw[hl]at f;grind [mB];rw[hl]at f;have⟨q,r,s,g⟩:=HZ n 0 d i o b j f;have p:b=q:=J;subst p;have t:d.length=c.size:=iC k.1;rcases g with g|⟨g,rfl⟩
 have u:b<d.length:=by
  grind
 have hr:=k.2 b j g;have:(c++Array.replicate (n-c.size) Go.undef).getD b Go.undef=c.toList.getD b Go.undef:=by
  rw[cC,Array.getElem?_append_left J];simp
 rw[this];exact hr;have:(c++Array.replicate (n-c.size) Go.undef).getD b Go.undef=Go.undef:=by
  rw[cC,Array.getElem?_append_right J]
  grind
 rw[this];exact .undef
def Lw{m g:Nat}{f:af Oper->Bool}(p:m<=g):∀(b:Code),pi m f b->pi g f b=true:=by
 intro b;induction b with
 |region id q o=>
  intro h;simp[pi,aC]at h|-;refine⟨?_,h.2⟩;have d:=h.1;unfold XX at d|-;rw[cw]at d|-;intro i j;have:=d i j
  grind [aQ]
 |seq a c l n=>simp_all[aC,pi]
 |cond i a c l n=>simp_all[aC,pi]
 |block id c k=>grind [pi]
 |loop c k=>grind [pi]
 |_=>intro _;rfl
def HD(P:ai)(cx:Ctx)(f:aj)(g:Prim):Prop:=
 ∀b h d h',Cp g b h=G (d,h')->∀base w μ (c:af am),St cx base w.heap μ h->ja w.heap μ b c.toList->C6 P (uI cx base w μ h d h') ((callFunc f c).run P w)
def Cy(b:Fun):Bool:= !(b.fn.name== "runtime.NumGoroutine")&&match b.fn.body with
 |none=>false
 |some c=>pi b.fn.ntmps rZ c
def qI{c:aj}{b:Func}{f:Code}(i:P.funcs[c]? =G b)(k:(b.name== "runtime.NumGoroutine")=false)(g:b.body=G f)(d:af am)(w:World):
 (callFunc c d).run P w= .ok (.enter c d) w:=by
 have j:¬b.name= "runtime.NumGoroutine" :=by grind
 simp[callFunc,i,j,g]
theorem OG(ae:P.follows .mixedOrders)(j8:jR P cx)(z:qx P cx cf){r:aj}{b:Fun}(C:P.funcs[r]? =G b.fn)(j:Cy b){B:Nat}{x:List T}{o:T}
 (c:wM cx cf B b.fn b.V b.mO x h=G (o,h')) (F:St cx base w.heap μ h) {d:af am} (W:ja w.heap μ x d.toList):
 C6 P (uI cx base w μ h o h') ((callFunc r d).run P w):=by
 unfold Cy at j;simp only[aC,cO]at j;obtain⟨al,j⟩:=j;unfold wM at c;rcases l:b.fn.body with _|y
 rw[l]at j;grind;rw[l]at j c;obtain⟨f,t,k⟩:=h;obtain⟨a7,ap,c⟩:=eQ.1 c;obtain⟨⟨q,A,s⟩,X,c⟩:=eQ.1 c;simp only[nV]at c;have g:(q= .normal\/q= .ret)/\(Z (pS cx b.V A s b.fn.results.toList) λK=>GE b.mO f t (ky K) s)=G (o,h'):=by
  cases q with
  |normal=>grind
  |exit i=>grind
  |ret=>grind
 obtain⟨av,g⟩:=g;obtain⟨K,ar,g⟩:=eQ.1 g;rw[qI C al l];show Calls P r d w _;refine calls_of_wp C l ?_;have I:=F.Pi f;have L:wX cx base b.V (d.size+(b.fn.ntmps-d.size)) w μ ⟨f,f,k⟩ ⟨a7,.nil⟩ ⟨f,f,k⟩ {tmps:=d++Array.replicate (b.fn.ntmps-d.size) Go.undef,defers:=[]} w:=
  ⟨μ,I,(N2 (V:=b.V) (n:=b.fn.ntmps) W ap),tH.refl _ _,BT.refl _ _,ng.refl I.wf,Y,rfl⟩
 refine Ot (m:=d.size+(b.fn.ntmps-d.size)) (w0:=w) (μ0:=μ) (h0:=⟨f,f,k⟩) (base:=base) (V:=b.V) j8 z (Oi ae j8 z) B y (Lw J y j) _ _ q A s X _ _ _ L λv u N=>?_;have E:v.defers=[]/\∃p,(results b.fn v.tmps).run P u= .ok p u/\uI cx base w μ ⟨f,t,k⟩ o h' p u:=by
  obtain⟨bn,D,ax,aA,aE,aN,bi,aX⟩:=N;have⟨p,an,ao⟩:=HQ (P:=P) j8 D ax ar;have⟨⟨a8,O,Q,R,S⟩,U⟩:=LL (low0:=t) F D aN aA aE ao g;exact⟨aX,p,an,⟨a8,O,Q,R,S⟩,U⟩
 rcases av with rfl|rfl;exact E;exact E
