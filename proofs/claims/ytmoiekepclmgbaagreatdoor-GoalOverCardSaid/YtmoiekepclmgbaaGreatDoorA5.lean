/- TiPrim -/
import Derived.Test.YtmoiekepclmgbaaGreatDoorA4
import Derived.Laws.Externs
set_option linter.all false
namespace Go.TI
noncomputable section
section
section
variable {P:ai}{cx:Ctx}{base:Nat}{w:World}{μ:Mu}{h h':H}
def Hw(a b:ab):Code:=
 (Code.region 0 #[{dst:=some 2,op:=Op.assign (Operand.const (Value.slice none 0 0)),type:=a,pos:= "slices.go:355",after:= #[],guard:=none}] false).seq
   ((
    (Code.region 1 #[{dst:=some 3,op:=Op.move (Operand.tmp 0),type:=a,pos:= "slices.go:357",after:= #[],guard:=none},
       {dst:=some 4,op:=Op.binOp BinOp.eql a (Operand.tmp 3) (Operand.const (Value.slice none 0 0)) a,type:=b,pos:= "slices.go:357",after:= #[{on:=0,ground:=Ground.data}],guard:=none}] false).seq
       (Code.cond (Operand.tmp 4)
         ((Code.region 2 #[{dst:=some 2,op:=Op.assign (Operand.const (Value.slice none 0 0)),type:=a,pos:= "slices.go:358",after:= #[],guard:=none}] false).seq Code.ret)
         Code.skip)).seq
    ((
     Code.region 3 #[{dst:=some 5,op:=Op.buildSlice a 0 #[],type:=a,pos:= "slices.go:362",after:= #[],guard:=none},
       {dst:=some 6,op:=Op.move (Operand.tmp 0),type:=a,pos:= "slices.go:362",after:= #[],guard:=none},
       {dst:=some 7,op:=Op.call {callee:=Callee.builtin Builtin.append,args:= #[Operand.tmp 5,Operand.tmp 6],argTypes:= #[a,a]},type:=a,pos:= "slices.go:362",
        after:= #[{on:=0,ground:=Ground.data},{on:=1,ground:=Ground.data}],guard:=none},
       {dst:=some 2,op:=Op.assign (Operand.tmp 7),type:=a,pos:= "slices.go:362",
        after:= #[{on:=2,ground:=Ground.data},{on:=2,ground:=Ground.chain},{on:=0,ground:=Ground.phase},{on:=1,ground:=Ground.phase},{on:=2,ground:=Ground.phase}],guard:=none}] false).seq
     Code.ret))
def oe{c:af Oper}{d:Exit->Act->World->Prop}{i:Nat}{rest:List Nat}{b:Act}{w w':World}{a:Oper}{v:am}(f:c[i]? =some a)(e:a.guard=none)
 (g:(execOp b.eval a).run P w= .ok (.value v) w') (h:wpOps P c d rest (b.put a.dst v) w'):wpOps P c d (i::rest) b w:=by
 rw[wpOps_cons];unfold wpOp;simp only[f];have j:Region.wanted a (yielded c b.tmps)=true:=by simp[Region.wanted,e]
 simp only[j,bj];left;simp only[Oper.wp,g,Oper.upon];exact h
def wz(jQ:jF P cx){o:aj}{fn:Func}{t tb:ab}{J bytes:Nat}{te:Ty}(x:P.funcs[o]? =some fn)(bs:(fn.name== "runtime.NumGoroutine")=false)(z:fn.body=some (Hw t tb))(bp:fn.ntmps=8)
 (hr:fn.results= #[.tmp 2]) (n:qt cx t=some te) (bC:te.size=J) (ap:te.bytes=bytes):F4 P cx o (.clone J bytes):=by
 intro s h e h' a base w μ K j W;subst bC ap;have ae:∃k,s=[k]:=by
  match s,a with
  | [k],_=>simp
 obtain⟨k,rfl⟩:=ae;have⟨c,L,aA,E,bA⟩:=W.nl;have bu:L=[]:=aW (by have:=bA.1;grind);subst bu;have av:K= #[c]:=by apply cI;rw[aA]
 subst av;have a:(Z (h.jM k) λb=> @List.rec T (λ_=>aa (T×H)) (some (.ed [] false,h)) (λ_ _ _=>h.js te.size te.bytes [] b) b)=some (e,h'):=a;have⟨b,a6,a⟩:=dX.1 a;have⟨g,A,bH⟩:=w7 jQ n;have⟨c6,bX⟩:=pV (P:=P) j E a6;have⟨d,l,c4,bi,cL,ca,c1,cb⟩:=bX.form;rw[pH x bs z];show Calls P o #[c] w _;refine calls_of_wp x z ?_;have X:({tmps:= #[c]++Array.replicate (fn.ntmps-(#[c]:af am).size) Go.undef,defers:=[]}:Act)={tmps:= #[c,Go.undef,Go.undef,Go.undef,Go.undef,Go.undef,Go.undef,Go.undef],defers:=[]}:=by
  rw[bp];rfl
 rw[X];unfold Hw;refine wp_seq (wp_region ?_);refine oe (i:=0) (rest:=[]) rfl rfl (v:= .slice none 0 0) (w':=w) (by rfl) ?_;refine wp_seq (wp_seq (wp_region ?_));refine oe (i:=0) (rest:=[1]) rfl rfl (v:=c) (w':=w) (by rfl) ?_;refine oe (i:=1) (rest:=[]) rfl rfl (v:= .bool d.isNone) (w':=w) ?_ ?_
 ·have bn:∀q:am,(eqGuard .eql t (.tmp 3) (.const (.slice none 0 0)) (.slice d b.length l) (.slice none 0 0)).run P w= .ok () w:=λ_=>by rfl
  have aX:∀F,(Op.equalIn (F+1) t (.slice d b.length l) (.slice none 0 0)).run P w= .ok d.isNone w:=by
   intro F;cases d<;>simp[Op.equalIn,run_underlying A]
  have aN:(binOp .eql t (.slice d b.length l) (.slice none 0 0)).run P w= .ok (.bool d.isNone) w:=by
   show(do pure (Value.bool (<-Op.equal t (.slice d b.length l) (.slice none 0 0))):Sem am).run P w=_;have U:(Op.equal t (.slice d b.length l) (.slice none 0 0)).run P w= .ok d.isNone w:=aX 9999;rw[Sem.run_bind,U];rfl
  rw[bi];simp[execOp,Act.eval,Act.put,Sem.run_bind,bn Go.undef,aN]
 have I:∀(f:Act) (w':World) (v:am),f.defers=[]->f.tmps.getD 2 Go.undef=v->sS cx base w μ h e h' v w'->
  bodyPost P fn (λS b8=>match S with| .returned v=>sS cx base w μ h e h' v b8|_=>False) .ret f w':=by
  intro f w' v aE bT V;refine⟨aE,v,?_,V⟩;rw[Eg,hr,Sem.run_bind];have:(#[ResultVar.tmp 2].mapM (rR f.tmps)).run P w'= .ok #[f.tmps.getD 2 Go.undef] w':=by
   rw[show #[ResultVar.tmp 2]=[ResultVar.tmp 2].toArray from rfl,List.mapM_toArray,List.mapM_cons];rfl
  rw[this,bT];rfl
 cases cX:d with
 |none=>
  have a7:b=[]:=by
   grind
  rw[a7]at a;have a:some (T.ed [] false,h)=some (e,h'):=a;simp only[ar,aB]at a;obtain⟨rfl,rfl⟩:=a;refine wp_cond_true (by rfl) ?_;refine wp_seq (wp_region ?_);refine oe (i:=0) (rest:=[]) rfl rfl (v:= .slice none 0 0) (w':=w) (by rfl) ?_;refine wp_ret ?_;refine I _ w (.slice none 0 0) rfl (by rfl) ⟨⟨μ,.ph _ _,j,rk.refl _ _,Ax.refl _ _⟩,mz.refl j.wf⟩
 |some y=>
  refine wp_cond_false (by rfl) ?_;refine wp_skip ?_;refine wp_seq (wp_region ?_);have an:(Instr.buildSlice t 0 #[]).run P w= .ok (.slice (some ⟨w.heap.size,0,none⟩) 0 0) (w.alloc (.cells #[] g)):=by
   simp[Instr.buildSlice,run_underlying A,(jQ.ty _ _ bH).run_sizeOf,Instr.fill,newRow];congr 2;apply Array.ext<;>simp
  refine oe (i:=0) (rest:=[1,2,3]) rfl rfl (v:= .slice (some ⟨w.heap.size,0,none⟩) 0 0) (w':=(w.alloc (.cells #[] g))) (by simp[execOp,an]) ?_;have⟨b6,C⟩:=j.grow (hp':=w.heap.push (.cells #[] g)) Y (by intro i cF;rw[Array.getElem?_push];grind);have bW:=E.ext C;refine oe (i:=1) (rest:=[2,3]) rfl rfl (v:=c) (w':=(w.alloc (.cells #[] g))) (by rfl) ?_;have al:jn cx h t t (.ed [] false) k=some (.val e h'):=by
   unfold jn;rw[n];have bB:nH cx h t k=some b:=by
    unfold nH;unfold qt at n;have⟨b7,bN,B⟩:=dX.1 n;rw[bN];simp only[eJ];cases bS:b7.u<;>rw[bS]at B<;>simp only[reduceCtorEq]at B;omega
   rw[bB];simp only[eJ];cases b with
   |nil=>
    have a:some (T.ed [] false,h)=some (e,h'):=a;simp only[ar,aB]at a;obtain⟨rfl,rfl⟩:=a;rfl
   |cons m b=>
    have a:h.js te.size te.bytes [] (m::b)=some (e,h'):=a;have a8:fits te.size (m::b)=true:=by
     have cp:=a
     grind [H.js,kq,jd,eJ,qz,ew]
    rw[a8,iR];show j7 (h.js te.size te.bytes [] (m::b))=_;rw[j3];exact a
  have⟨v,r,b9,M,N,O,Q,R⟩:=zI (P:=P) (w:=(w.alloc (.cells #[] g))) (ty':=t) jQ b6 (p:= .ed [] false) (c:= .slice (some ⟨w.heap.size,0,none⟩) 0 0) (.ph _ _) bW al;refine oe (i:=2) (rest:=[3]) rfl rfl (v:=v) (w':=r) (by simp[execOp,resolve,invoke,builtin,Act.eval,Act.put,M]) ?_;refine oe (i:=3) (rest:=[]) rfl rfl (v:=v) (w':=r) (by simp[execOp,Act.eval,Act.put]) ?_;refine wp_ret ?_;refine I _ r v rfl (by simp[Act.put]) ⟨⟨b9,N,O,?_,R⟩,?_⟩
  ·exact rk.trans (w1:=w.alloc (.cells #[] g)) ⟨C,rfl,rfl,rfl⟩ Q
  ·cases b with
   |nil=>
    have a:some (T.ed [] false,h)=some (e,h'):=a;simp only[ar,aB]at a;obtain⟨rfl,rfl⟩:=a;exact mz.refl j.wf
   |cons m b=>exact qx j.wf a
def KK(c:Nat):∀(a:List Nat) (d:Nat),yo c a d=some (match(List.range a.length).find? (λb=>a[b]! ==c)with|some b=>((d+b:Nat):Int)|none=>-1):=by
 intro a;induction a with
 |nil=>intro d;rfl
 |cons e a l=>
  intro d;have i:yo c (e::a) d= @Bool.rec (λ_=>aa Int) (Z (iQ (Nat.succ d)) λk=>yo c a k) (some (.ofNat d)) (Nat.beq e c):=rfl;rw[i];have hr:List.range (a.length+1)=0::(List.range a.length).map (· +1):=List.range_succ_eq_map;rw[aP,hr,List.find?_cons];cases f:Nat.beq e c with
  |true=>
   have:=aF f;subst this;simp
  |false=>
   have j:=cY f;have g:((e::a)[0]! ==c)=false:=by simpa using j
   rw[g];simp only[jd,eJ];rw[l (d+1),List.find?_map];have:((λb=>(e::a)[b]! ==c)∘λb=>b+1)=λb=>a[b]! ==c:=by
    funext b;simp
   rw[this]
   grind
def Bn{d:Type}{b c:d->Bool}:∀{a:List d},(∀x∈a,b x=c x)->a.find? b=a.find? c
 | [],_=>rfl
 |x::a,h=>by
  rw[List.find?_cons,List.find?_cons,h x Y,Bn λe f=>h e (by grind)]
def firstIdx_eq{a:List Nat}(hl:∀l∈a,l<256){c:Nat}(f:c<256):firstIdx (bytesOf a) (UInt8.ofNat c)=match(List.range a.length).find? (λb=>a[b]! ==c)with|some b=>((b:Nat):Int)|none=>-1:=by
 unfold firstIdx;rw[kz];have:(List.range a.length).find? (λj=>(bytesOf a)[j]! ==UInt8.ofNat c)=(List.range a.length).find? (λb=>a[b]! ==c):=by
  apply Bn;intro b d;have d:b<a.length:=List.mem_range.1 d;have e:(bytesOf a)[b]! =UInt8.ofNat a[b]:=by
   have i:b<(bytesOf a).size:=by rw[kz];exact d
   rw[getElem!_pos (bytesOf a) b i];show(bytesOf a).data[b]=_;simp[bytesOf]
  rw[e,getElem!_pos a b d];have g:=hl a[b] (aC d);by_cases h:a[b]=c
  ·simp[h]
  ·have:UInt8.ofNat a[b]≠UInt8.ofNat c:=λk=>h (by
    have:=bO UInt8.toNat k;rwa[kj g,kj f]at this)
   rw[beq_eq_false_iff_ne.2 this,beq_eq_false_iff_ne.2 h]
 rw[this];cases (List.range a.length).find? (λb=>a[b]! ==c)<;>rfl
def Ii{f:aj}{c:Func}(r:P.funcs[f]? =some c)(C:(c.name== "runtime.NumGoroutine")=false)(t:c.body.isNone=true)(B:Extern.findNext c=none)
 (z:Extern.find c=some Extern.BytealgIndexByte.indexByte):F4 P cx f .pA:=by
 intro j h M h' a base w μ m i s;have A:∃d b,j=[.str d,.int .u8 (.ofNat b)]/\b<256/\(Z (yo b d 0) λg=>some (T.int .i64 g,h))=some (M,h'):=by
  unfold Ez at a;simp only at a;split at a
  ·rename_i d b;obtain⟨q,a⟩:=ew.1 a;rw[aJ]at q
   grind
  grind
 obtain⟨d,b,rfl,u,a⟩:=A;obtain⟨k,N,y,K,F⟩:=s.nl;obtain⟨l,n,rfl,L,I⟩:=F.nl;have E:n=[]:=aW (by have:=I.1;grind);subst E;have v:m= #[k,l]:=by apply cI;rw[y]
 subst v;obtain⟨o,hl⟩:=K.mU;have p:=L.kA;subst o p;obtain⟨g,e,a⟩:=dX.1 a;simp only[ar,aB]at a;obtain⟨rfl,rfl⟩:=a;rw[run_callFunc_extern r C t B z];have J:=run_indexByte_string (P:=P) (bytesOf d) (Int.ofNat b) w;rw[J];have x:(Int.ofNat b).toNat.toUInt8=UInt8.ofNat b:=rfl;rw[x,firstIdx_eq hl u];rw[KK]at e;simp only[ar,cJ]at e;rw[e];exact⟨⟨μ,.int _ _,i,rk.refl _ _,Ax.refl _ _⟩,mz.refl i.wf⟩
end
end
section
def fin(cf:jB)(d:H)(a:aa mS):aa (T×H):=Z a λa=>mS.casesOn a (λf e=>some (f,e)) (λc b=>cf c b d)
section
variable {cx:Ctx}{cf:jB}{J:Nat}{ops:af Oper}
def AD(cx:Ctx)(cf:jB)(J:Nat)(ops:af Oper)(b:Env)(a:H)(c:Oper):aa (T×H):=
 Z (lq ops J b c.guard) λd=>Bool.casesOn d (some (.undef,a)) (fin cf a (jT c.op cx J b a))
def tg{n:Type}(a:Env)(d:H)(b:Oper)(g:Env->H->aa n):
 (Z (mI cx cf J ops a d b) λf=>two f g)=Z (AD cx cf J ops a d b) λf=>two f λc e=>Z (a.dst J b.dst c) λj=>g j e:=by
 unfold mI AD;cases lq ops J a b.guard with
 |none=>rfl
 |some m=>
  simp only[eJ];cases m with
  |false=>
   simp only[lQ,eJ];cases a.dst J b.dst .undef<;>rfl
  |true=>
   simp only;unfold fin;cases jT b.op cx J a d with
   |none=>rfl
   |some i=>
    simp only[eJ];rcases i with⟨c,e⟩|⟨k,h⟩
    ·skip
     simp only[lQ,eJ];cases a.dst J b.dst c<;>rfl
    ·skip
     simp only;cases cf k h d with
     |none=>rfl
     |some l=>
      obtain⟨c,e⟩:=l;simp only[lQ,eJ];cases a.dst J b.dst c<;>rfl
end
def keys:iz->List Nat
 | .nil=>[]
 | .cons a _ b=>a::keys b
def Kl{g d:iz}{b:Nat}{f:T}(l:b∈keys g)(a:mX g b f=some d):keys d=keys g:=by
 induction g generalizing d with
 |nil=>grind [keys]
 |cons c k e n=>
  have a: @Bool.rec (λ_=>aa iz) (Z (mX e b f) λi=>some (.cons c k i)) (some (.cons c f e)) (Nat.beq c b)=some d:=a;cases j:Nat.beq c b with
  |true=>
   rw[j]at a;have a:some (iz.cons c f e)=some d:=a;simp only[ar]at a;subst a;rfl
  |false=>
   rw[j]at a;have a:(Z (mX e b f) λi=>some (iz.cons c k i))=some d:=a;have⟨i,ht,a⟩:=dX.1 a;simp only[ar]at a;subst a;have m:=cY j;have:b∈keys e:=by
    rcases List.mem_cons.1 l with h|h
    ·omega
    omega
   grind [keys]
def EqR(K:List Nat)(c d:Env->H->Out):Prop:=∀a b,keys a.vars=K->c a b=d a b
def UR(K:List Nat)(c:Env->H->Out):Prop:=∀a d f b e,keys a.vars=K->c a d=some (f,b,e)->keys b.vars=K
section
variable {cx:Ctx}{cf:jB}{J fuel:Nat}{K:List Nat}
def Ss(J:Nat)(K:List Nat)(ops:af Oper):Bool:=ops.toList.all λb=>match b.dst with|some a=> !kS J a||K.contains a|none=>true
def vq(J:Nat)(K:List Nat):Code->Bool
 | .region _ ops _=>Ss J K ops
 | .seq b a=>vq J K b&&vq J K a
 | .cond _ b a=>vq J K b&&vq J K a
 | .block _ a=>vq J K a
 | .loop a=>vq J K a
 |_=>true
def Kn{g c:Env}{j:Oper}{f:T}(l:(match j.dst with|some b=> !kS J b||K.contains b|none=>true)=true)(h:keys g.vars=K)(a:g.dst J j.dst f=some c):keys c.vars=K:=by
 cases k:j.dst with
 |none=>
  rw[k]at a;have a:some g=some c:=a
  grind
 |some b=>
  rw[k]at a l;obtain⟨d,i⟩:=g;have a: @Bool.rec (λ_=>aa Env) (some ⟨d,.cons b f i⟩) (Z (mX d b f) λe=>some ⟨e,i⟩) (kS J b)=some c:=a;cases hl:kS J b with
  |false=>
   rw[hl]at a;have a:some (⟨d,.cons b f i⟩:Env)=some c:=a
   grind
  |true=>
   rw[hl]at a;have a:(Z (mX d b f) λe=>some (⟨e,i⟩:Env))=some c:=a;have⟨e,m,a⟩:=dX.1 a;simp only[ar]at a;subst a;simp only[hl,Bool.not_true,Bool.false_or]at l;have n:b∈keys d:=by
    have h:keys d=K:=h;rw[h];grind
   show keys e=K;rw[Kl n m];exact h
def Hk{b c:Env}{h i:H}{f:Oper}{ops:af Oper}(e:(match f.dst with|some g=> !kS J g||K.contains g|none=>true)=true)(d:keys b.vars=K)(j:mI cx cf J ops b h f=some (c,i)):keys c.vars=K:=by
 rcases om j with⟨_,a,_⟩|⟨_,k,_,a⟩
 ·exact Kn e d a
 ·exact Kn e d a
def Km{ops:af Oper}:∀(e:List Oper) (d b:Env) (f c:H),(∀g∈e,(match g.dst with|some j=> !kS J j||K.contains j|none=>true)=true)->keys d.vars=K->ly cx cf J ops e d f=some (b,c)->keys b.vars=K:=by
 intro e;induction e with
 |nil=>
  intro d b f c _ h a;have a:some (d,f)=some (b,c):=a;simp only[ar,aB]at a;rw[<-a.1];exact h
 |cons g e n=>
  intro d b f c i h a;have a:(Z (mI cx cf J ops d f g) λp=>two p λb c=>ly cx cf J ops e b c)=some (b,c):=a;have⟨⟨k,l⟩,m,a⟩:=dX.1 a;exact n k b l c (λo q=>i o (by grind)) (Hk (i g Y) h m) a
def If{ops:af Oper}:∀(f:List Oper) (h:Nat) (c:Seen) (d a:Env) (g e:H),(∀j∈f,(match j.dst with|some c=> !kS J c||K.contains c|none=>true)=true)->keys d.vars=K->
 kI cx cf J ops f h c d g=some (a,e)->keys a.vars=K:=by
 intro f;induction f with
 |nil=>
  intro h c d a g e _ i b;have b:some (d,g)=some (a,e):=b;simp only[ar,aB]at b;rw[<-b.1];exact i
 |cons j f p=>
  intro h c d a g e k i b;have⟨l,m,u,o,t,r,n,_⟩:=AF b;exact p (h+1) r l a m e (λq s=>k q (by grind)) (Hk (k j Y) i o) n
def Jv{ops:af Oper}{j:Bool}(d:Ss J K ops=true):UR K (ND cx cf J ops j):=by
 intro m e l b c k a;unfold Ss at d;have d:=List.all_eq_true.1 d;obtain⟨f,n⟩:=m;cases j with
 |false=>
  have a:(Z (ly cx cf J ops ops.toList ⟨f,.nil⟩ e) λi=>two i λb c=>some (Ex.normal,(⟨b.vars,.nil⟩:Env),c))=some (l,b,c):=a;have⟨⟨g,h⟩,hr,a⟩:=dX.1 a;simp only[lQ,ar,aB]at a;obtain⟨_,rfl,_⟩:=a;exact Km ops.toList ⟨f,.nil⟩ g e h d k hr
 |true=>
  have a:(Z (kI cx cf J ops ops.toList 0 ⟨[],[]⟩ ⟨f,.nil⟩ e) λi=>two i λb c=>some (Ex.normal,(⟨b.vars,.nil⟩:Env),c))=some (l,b,c):=a;have⟨⟨g,h⟩,hr,a⟩:=dX.1 a;simp only[lQ,ar,aB]at a;obtain⟨_,rfl,_⟩:=a;exact If ops.toList 0 ⟨[],[]⟩ ⟨f,.nil⟩ g e h d k hr
def Pz{g:Env->H->Out}(n:UR K g):∀e,UR K (pT g e):=by
 intro e;induction e with
 |zero=>intro i j d b c _ a;simp[pT]at a
 |succ e q=>
  intro i j d b c o a;have a:(Z (g i j) λr=>three r λd b c=> @Ex.rec (λ_=>Out) (pT g e b c) (λk=>some (.exit k,b,c)) (some (.ret,b,c)) d)=some (d,b,c):=a;have⟨⟨l,f,h⟩,m,a⟩:=dX.1 a;have p:=n i j l f h o m;cases l with
  |normal=>exact q f h d b c p a
  |exit k=>
   have a:some (Ex.exit k,f,h)=some (d,b,c):=a
   grind
  |ret=>
   have a:some (Ex.ret,f,h)=some (d,b,c):=a
   grind
def PA:∀(n:Code),vq J K n=true->UR K (kJ cx cf fuel J n):=by
 intro n;have u:∀{d:Ex},UR K (λe f=>some (d,e,f)):=by
  intro d e f m b c h a;simp only[ar,aB]at a;rw[<-a.2.1];exact h
 induction n with
 |skip=>intro _;exact u
 |exit id=>intro _;exact u
 |ret=>intro _;exact u
 |region id ops A=>intro g;exact Jv g
 |seq o k r s=>
  intro g e f d b c h a;simp only[vq,ax]at g;have a:(Z (kJ cx cf fuel J o e f) λt=>three t λd b c=> @Ex.rec (λ_=>Out) (kJ cx cf fuel J k b c) (λi=>some (.exit i,b,c)) (some (.ret,b,c)) d)=some (d,b,c):=a;obtain⟨⟨m,j,l⟩,p,a⟩:=dX.1 a;have x:=r g.1 e f m j l h p;cases m with
  |normal=>exact s g.2 j l d b c x a
  |exit i=>
   have a:some (Ex.exit i,j,l)=some (d,b,c):=a
   grind
  |ret=>
   have a:some (Ex.ret,j,l)=some (d,b,c):=a
   grind
 |cond z o k r s=>
  intro g e f d b c h a;simp only[vq,ax]at g;have a:(Z (ir cx J e z) λw=>match w with
   | .bool v=> @Bool.rec (λ_=>Out) (kJ cx cf fuel J k e f) (kJ cx cf fuel J o e f) v
   |_=>none)=some (d,b,c):=a
  obtain⟨w,B,a⟩:=dX.1 a;cases w<;>simp only[reduceCtorEq]at a;rename_i v;cases v with
  |true=>exact r g.1 e f d b c h a
  |false=>exact s g.2 e f d b c h a
 |block id k q=>
  intro g e f d b c h a;have a:(Z (kJ cx cf fuel J k e f) λt=>three t λd b c=> @Ex.rec (λ_=>Out) (some (.normal,b,c)) (λi=> @Bool.rec (λ_=>Out) (some (.exit i,b,c)) (some (.normal,b,c)) (Nat.beq i id)) (some (.ret,b,c)) d)=some (d,b,c):=a;obtain⟨⟨m,j,l⟩,p,a⟩:=dX.1 a;have x:=q g e f m j l h p;have:b=j:=by
   cases m with
   |normal=>simp_all
   |exit i=>simp only[mW]at a;cases y:Nat.beq i id<;>rw[y]at a<;>simp only[ar,aB]at a<;>exact a.2.1.symm
   |ret=>simp_all
  rw[this];omega
 |loop k q=>intro g;exact Pz (q g) fuel
 |_=>intro _ e f d b c _ a;exact absurd a (by simp[kJ])
def EqR.refl(a:Env->H->Out):EqR K a a:=λ_ _ _=>rfl
def EqR.seq{c e:Code}{d f:Env->H->Out}(n:vq J K c=true)(j:EqR K (kJ cx cf fuel J c) d)(l:EqR K (kJ cx cf fuel J e) f):EqR K (kJ cx cf fuel J (.seq c e)) (Ed d f):=by
 intro a b g;show Ed (kJ cx cf fuel J c) (kJ cx cf fuel J e) a b=Ed d f a b;unfold Ed;rw[j a b g];cases o:d a b with
 |none=>rfl
 |some p=>
  obtain⟨k,h,i⟩:=p;have m:=PA (cx:=cx) (cf:=cf) (fuel:=fuel) c n a b k h i g (by rw[j a b g];exact o);simp only[eJ,mW];cases k with
  |normal=>exact l h i m
  |exit q=>rfl
  |ret=>rfl
end
end
section
section
variable {P:ai}{cx:Ctx}{cf:jB}{J fuel:Nat}{K:List Nat}
def uZ:Op->Bool
 | .load .. | .indexAddr .. | .slice .. | .convert .. | .lookup .. | .alloc .. | .box .. | .buildSlice .. | .makeSlice .. | .range .. | .makeMap .. =>true
 |_=>false
def Nx(c:af Oper):Bool:=
 let e:=M9 c.toList []
 let d:=c.toList.zipIdx
 d.all λa=>d.all λb=> !Nat.blt b.2 a.2|| !((uZ b.1.op&&jb a.1.op)||(jb b.1.op&&(uZ a.1.op||jb a.1.op)))||(e.getD a.2 0).testBit b.2
def xL{f:af Oper}(h:Nx f=true){b c:Nat}{e d:Oper}(l:f[b]? =some e)(m:f[c]? =some d)(o:b<c)
 (n:(uZ e.op=true/\jb d.op=true)\/(jb e.op=true/\(uZ d.op=true\/jb d.op=true))):ku f b c=true:=by
 unfold Nx at h;have j:=List.all_eq_true.1 h (d,c) (mem_zipIdx m);have a:=List.all_eq_true.1 j (e,b) (mem_zipIdx l);have k:Nat.blt b c=true:=by rw[aJ];omega
 simp only[k,Bool.not_true,Bool.false_or,cr,cj]at a;rcases a with a|a
 ·exfalso;rcases n with⟨i,g⟩|⟨i,g|g⟩<;>simp[i,g]at a
 ·exact a
def Kc{c:Env}{d:H}{a:Op}{b:Nat}(e:iM cx J c d a=some b):uZ a=true:=by
 cases a<;>first|rfl|(simp[iM]at e)
def HP{b:af Oper}(v:Nx b=true):∀(k:List Oper) (c:Nat) (e:Seen) (f:Env) (g:H),(∀m,k[m]? =b[c+m]?)->
 (∀a∈e.nK,a.1<c/\∃d,b[a.1]? =some d/\uZ d.op=true)->(∀a∈e.mo,a.1<c/\∃d,b[a.1]? =some d/\jb d.op=true)->
 kI cx cf J b k c e f g=ly cx cf J b k f g:=by
 intro k;induction k with
 |nil=>intro c e f g _ _ _;rfl
 |cons d k w=>
  intro c e f g hl u q;have s:b[c]? =some d:=by have:=hl 0;simpa using this.symm
  have t:∀m,k[m]? =b[c+1+m]? :=λm=>by
   have:=hl (m+1);simp only[dq]at this;rw[this];congr 1;omega
  show(Z (mI cx cf J b f g d) λa=>two a λl i=>
   Z (lq b J f d.guard) λQ=> @Bool.rec (λ_=>aa (Env×H)) (kI cx cf J b k (c+1) e l i)
    (@Bool.rec (λ_=>aa (Env×H))
      (@Option.rec Nat (λ_=>aa (Env×H)) (kI cx cf J b k (c+1) e l i)
        (λh=>iG (pN b c h e.mo) (kI cx cf J b k (c+1) ⟨(c,h)::e.nK,e.mo⟩ l i)) (iM cx J f g d.op))
      (iG (zu b c g i e.nK) (iG (tc cx J b c f e.mo d.op) (kI cx cf J b k (c+1) ⟨e.nK,(c,g,i)::e.mo⟩ l i))) (jb d.op)) Q)
   =Z (mI cx cf J b f g d) λa=>two a λC E=>ly cx cf J b k C E
  cases N:mI cx cf J b f g d with
  |none=>rfl
  |some a=>
   obtain⟨l,i⟩:=a;simp only[eJ,lQ];have A:∀a∈e.nK,a.1<c+1/\∃d,b[a.1]? =some d/\uZ d.op=true:=λa j=>⟨by have:=(u a j).1;omega,(u a j).2⟩;have z:∀a∈e.mo,a.1<c+1/\∃d,b[a.1]? =some d/\jb d.op=true:=λa j=>⟨by have:=(q a j).1;omega,(q a j).2⟩;have O:∃x,lq b J f d.guard=some x:=by
    rcases om N with⟨r,_⟩|⟨r,_⟩<;>exact⟨_,r⟩
   obtain⟨x,r⟩:=O;rw[r];simp only[eJ];cases x with
   |false=>exact w (c+1) e l i t A z
   |true=>
    simp only;cases y:jb d.op with
    |true=>
     have:zu b c g i e.nK=true:=by
      unfold zu;rw[BD,cz];intro a j;obtain⟨n,B,o,p⟩:=u a j;have:=xL v o s n (.inl ⟨p,y⟩);show @Bool.rec (λ_=>Bool) (ku b a.1 c) true (fQ g i a.2)=true;rw[this];cases fQ g i a.2<;>rfl
     have F:∀h,pN b c h e.mo=true:=λh=>by
      unfold pN;rw[BD,cz];intro a j;obtain⟨n,B,o,p⟩:=q a j;have:=xL v o s n (.inr ⟨p,.inr y⟩);show @Bool.rec (λ_=>Bool) (ku b a.1 c) true (fQ a.2.1 a.2.2 h)=true;rw[this];cases fQ a.2.1 a.2.2 h<;>rfl
     have I:tc cx J b c f e.mo d.op=true:=by
      unfold tc;split
      ·rename_i m R S _;cases Z (ir cx J f R) eG with
       |none=>rfl
       |some h=>exact F h
      ·rfl
     simp only[this,I,iR];refine w (c+1) _ l i t A λa j=>?_
     grind
    |false=>
     simp only;cases L:iM cx J f g d.op with
     |none=>grind
     |some h=>
      have M:=Kc L;have:pN b c h e.mo=true:=by
       unfold pN;rw[BD,cz];intro a j;obtain⟨n,B,o,p⟩:=q a j;have:=xL v o s n (.inr ⟨p,.inl M⟩);show @Bool.rec (λ_=>Bool) (ku b a.1 c) true (fQ a.2.1 a.2.2 h)=true;rw[this];cases fQ a.2.1 a.2.2 h<;>rfl
      simp only[this,iR];refine w (c+1) _ l i t (λa j=>?_) z
      grind
abbrev sw:=jB->Nat->List T->H->aa (T×H)
def nG(P:ai)(cx:Ctx)(i:aj)(j:sw):Prop:=
 ∀cf,o6 P cx cf->∀k d b h g,j cf k d b=some (h,g)->∀e a c (f:af am),St cx e a.heap c b->iJ a.heap c d f.toList->BI P (sS cx e a c b h g) ((callFunc i f).run P a)
def qU(l:P.follows .mixedOrders=true)(jQ:jF P cx){b:aj}{F:Fun}(i:P.funcs[b]? =some F.fn)(m:zo F=true):nG P cx b (λcf d a c=>u9 cx cf d F.fn F.J F.md a c):=by
 intro cf g d a c n h k e p q f o j
 grind [M7]
def z9{c:aj}{d:Prim}(j:F4 P cx c d):nG P cx c (λ_ _ a b=>Ez d a b):=by
 intro cf o p a b k g i e m n f l h;exact j a b k g i e m n f l h
def K0(ft:aj->aa sw)(a:Nat):jB:=
 @Nat.rec (λ_=>jB) (λ_ _ _=>none) (λa f c b e=>Z (ft c) λd=>d f a b e) a
def C0{ft:aj->aa sw}(m:∀c d,ft c=some d->nG P cx c d):∀a,o6 P cx (K0 ft a):=by
 intro a;induction a with
 |zero=>intro c e f h g b;simp[K0]at b
 |succ a n=>
  intro c e f h g b i p q j o k;have b:(Z (ft c) λd=>d (K0 ft a) a e f)=some (h,g):=b;have⟨d,l,b⟩:=dX.1 b;exact m c d l (K0 ft a) n a e f h g b i p q j o k
end
def faV(off:Nat)(a:H)(i:T):aa mS:=match i with
 | .ptr b e f g=>Z (iQ (Nat.add g off)) λh=>some (.val (.ptr b e f h) a)
 | .j9 c=>Z (kH off c) λd=>some (.val (.j9 d) a)
 |_=>none
def exV(a:H)(c:T)(b:Nat):aa mS:=match c with| .tuple d=>val a (nJ d b)|_=>none
def ahH(a:H)(e:T):aa mS:=match e with
 | .ed b _=>val a (Z (iQ (ml b)) λd=>some (.int .i64 (.ofNat d)))
 | .iO=>val a (some (.int .i64 0))
 | .arr _ _ _ c _=>val a (some (.int .i64 (.ofNat c)))
 |_=>none
end
inductive Tree (α:Type) where
 |nil
 |node (l:Tree α) (k:Nat) (v:α) (r:Tree α)
def Tree.find{a:Type}(f:Tree a)(b:Nat):aa a:=
 @Tree.rec a (λ_=>aa a) none (λ_ c g _ d e=> @Bool.rec (λ_=>aa a) (@Bool.rec (λ_=>aa a) e d (Nat.blt b c)) (some g) (Nat.beq b c)) f
def Tree.toList{a:Type}:Tree a->List (Nat×a)
 | .nil=>[]
 | .node c b e d=>c.toList++(b,e)::d.toList
def Tree.TF{e:Type}{g:Tree e}{b:Nat}{d:e}(a:g.find b=some d):(b,d)∈g.toList:=by
 induction g with
 |nil=>simp[Tree.find]at a
 |node m c h n k l=>
  have a: @Bool.rec (λ_=>aa e) (@Bool.rec (λ_=>aa e) (n.find b) (m.find b) (Nat.blt b c)) (some h) (Nat.beq b c)=some d:=a;simp only[Tree.toList,List.mem_append,cu];cases f:Nat.beq b c with
  |true=>
   rw[f]at a;have i:=aF f;have j:h=d:=c8 a;rw[i,j];exact .inr (.inl rfl)
  |false=>
   rw[f]at a;cases hl:Nat.blt b c with
   |true=>rw[hl]at a;exact .inl (k a)
   |false=>rw[hl]at a;exact .inr (.inr (l a))
inductive Tree.U3 {α:Type} (p:Nat->α->Prop):Tree α->Prop where
 |nil:U3 p .nil
 |node {l:Tree α} {k:Nat} {v:α} {r:Tree α}:U3 p l->p k v->U3 p r->U3 p (.node l k v r)
def Tree.U3.find{b:Type}{e:Nat->b->Prop}{f:Tree b}(h:f.U3 e){d:Nat}{g:b}(c:f.find d=some g):e d g:=by
 have a:=Tree.TF c;clear c;induction h with
 |nil=>simp[Tree.toList]at a
 |node hl i hr j k=>
  simp only[Tree.toList,List.mem_append,cu,aB]at a;rcases a with h|⟨rfl,rfl⟩|h
  ·exact j h
  ·exact i
  ·exact k h
