/- TiPrim -/
import Derived.Test.YtdpclhaknmicoaaGreatDoorA3
import Derived.Laws.Externs
set_option linter.all false
namespace Go.TI
noncomputable section
section
section
variable {P:ai}{cx:Ctx}{base:Nat}{w:World}{μ:Mu}{h h':H}
def I5(a b:ab):Code:=
 (Code.region 0 #[{dst:=G 2,op:=Op.assign (Operand.const (Value.slice none 0 0)),type:=a,pos:= "slices.go:355",after:= #[],guard:=none}] false).seq
   ((
    (Code.region 1 #[{dst:=G 3,op:=Op.move (Operand.tmp 0),type:=a,pos:= "slices.go:357",after:= #[],guard:=none},
       {dst:=G 4,op:=Op.binOp BinOp.eql a (Operand.tmp 3) (Operand.const (Value.slice none 0 0)) a,type:=b,pos:= "slices.go:357",after:= #[{on:=0,ground:=Ground.data}],guard:=none}] false).seq
       (Code.cond (Operand.tmp 4)
         ((Code.region 2 #[{dst:=G 2,op:=Op.assign (Operand.const (Value.slice none 0 0)),type:=a,pos:= "slices.go:358",after:= #[],guard:=none}] false).seq Code.ret)
         Code.skip)).seq
    ((
     Code.region 3 #[{dst:=G 5,op:=Op.buildSlice a 0 #[],type:=a,pos:= "slices.go:362",after:= #[],guard:=none},
       {dst:=G 6,op:=Op.move (Operand.tmp 0),type:=a,pos:= "slices.go:362",after:= #[],guard:=none},
       {dst:=G 7,op:=Op.call {callee:=Callee.builtin Builtin.append,args:= #[Operand.tmp 5,Operand.tmp 6],argTypes:= #[a,a]},type:=a,pos:= "slices.go:362",
        after:= #[{on:=0,ground:=Ground.data},{on:=1,ground:=Ground.data}],guard:=none},
       {dst:=G 2,op:=Op.assign (Operand.tmp 7),type:=a,pos:= "slices.go:362",
        after:= #[{on:=2,ground:=Ground.data},{on:=2,ground:=Ground.chain},{on:=0,ground:=Ground.phase},{on:=1,ground:=Ground.phase},{on:=2,ground:=Ground.phase}],guard:=none}] false).seq
     Code.ret))
def pK{c:af Oper}{d:Exit->Act->World->Prop}{i:Nat}{rest:List Nat}{b:Act}{w w':World}{a:Oper}{v:am}(f:c[i]? =G a)(e:a.guard=none)
 (g:(execOp b.eval a).run P w= .ok (.value v) w') (h:wpOps P c d rest (b.put a.dst v) w'):wpOps P c d (i::rest) b w:=by
 rw[wpOps_cons];unfold wpOp;simp[f];have j:Region.wanted a (yielded c b.tmps):=by simp[Region.wanted,e]
 simp[j];left;simp[Oper.wp,g,Oper.upon];exact h
def uk(j8:jR P cx){n:aj}{fn:Func}{t tb:ab}{I bytes:Nat}{te:Ty}(x:P.funcs[n]? =G fn)(bi:(fn.name== "runtime.NumGoroutine")=false)(z:fn.body=G (I5 t tb))(a8:fn.ntmps=8)
 (hr:fn.results= #[.tmp 2]) (l:tu cx t=G te) (bu:te.size=I) (an:te.bytes=bytes):HD P cx n (.clone I bytes):=by
 intro s h o h' a base w μ K g W;subst bu an;have Z:∃k,s=[k]:=by
  match s,a with
  | [k],_=>simp
 obtain⟨k,rfl⟩:=Z;have⟨c,L,ap,D,br⟩:=W.oK;have bn:L=[]:=bC (by have:=br.1;grind);subst bn;have ao:K= #[c]:=by apply cU;rw[ap]
 subst ao;have a:=a;have⟨b,aA,a⟩:=eQ.1 a;have⟨f,A,bA⟩:=yj j8 l;have⟨c7,bX⟩:=qW (P:=P) g D aA;have⟨d,j,c6,aX,cL,b9,c4,ca⟩:=bX.form;rw[qI x bi z];show Calls P n #[c] w _;refine calls_of_wp x z ?_;have X:({tmps:= #[c]++Array.replicate (fn.ntmps-(#[c]:af am).size) Go.undef,defers:=[]}:Act)={tmps:= #[c,Go.undef,Go.undef,Go.undef,Go.undef,Go.undef,Go.undef,Go.undef],defers:=[]}:=by
  rw[a8];rfl
 rw[X];unfold I5;refine wp_seq (wp_region ?_);refine pK (i:=0) (rest:=[]) rfl rfl (v:= .slice none 0 0) (w':=w) (by rfl) ?_;refine wp_seq (wp_seq (wp_region ?_));refine pK (i:=0) (rest:=[1]) rfl rfl (v:=c) (w':=w) (by rfl) ?_;refine pK (i:=1) (rest:=[]) rfl rfl (v:= .bool d.isNone) (w':=w) ?_ ?_;have a7:∀q:am,(eqGuard .eql t (.tmp 3) (.const (.slice none 0 0)) (.slice d b.length j) (.slice none 0 0)).run P w= .ok () w:=λ_=>by rfl
 have ax:∀E,(Op.equalIn (E+1) t (.slice d b.length j) (.slice none 0 0)).run P w= .ok d.isNone w:=by
  intro E;cases d<;>simp[Op.equalIn,run_underlying A]
 have av:(binOp .eql t (.slice d b.length j) (.slice none 0 0)).run P w= .ok (.bool d.isNone) w:=by
  show(do pure (Value.bool (<-Op.equal t (.slice d b.length j) (.slice none 0 0))):Sem am).run P w=_;have U:(Op.equal t (.slice d b.length j) (.slice none 0 0)).run P w= .ok d.isNone w:=ax 9999;rw[Sem.run_bind,U];rfl
 rw[aX];simp[execOp,Act.eval,Act.put,Sem.run_bind,a7 Go.undef,av];have F:∀(e:Act) (w':World) (v:am),e.defers=[]->e.tmps.getD 2 Go.undef=v->uI cx base w μ h o h' v w'->
  bodyPost P fn (λT b7=>match T with| .returned v=>uI cx base w μ h o h' v b7|_=>False) .ret e w':=by
  intro e w' v ar bW V;refine⟨ar,v,?_,V⟩;rw[FJ,hr,Sem.run_bind];have:(#[ResultVar.tmp 2].mapM (tV e.tmps)).run P w'= .ok #[e.tmps.getD 2 Go.undef] w':=by
   rw[show #[ResultVar.tmp 2]=[ResultVar.tmp 2].toArray from rfl,List.mapM_toArray,List.mapM_cons];rfl
  rw[this,bW];rfl
 rcases c1:d with _|y;have aE:b=[]:=by
  grind
 rw[aE]at a;have a:=a;simp[aw,aH]at a;obtain⟨rfl,rfl⟩:=a;refine wp_cond_true (by rfl) ?_;refine wp_seq (wp_region ?_);refine pK (i:=0) (rest:=[]) rfl rfl (v:= .slice none 0 0) (w':=w) (by rfl) ?_;refine wp_ret ?_;refine F _ w (.slice none 0 0) rfl (by rfl) ⟨⟨μ,.qy _ _,g,tH.refl _ _,BT.refl _ _⟩,ng.refl g.wf⟩;refine wp_cond_false (by rfl) ?_;refine wp_skip ?_;refine wp_seq (wp_region ?_);have al:(Instr.buildSlice t 0 #[]).run P w= .ok (.slice (some ⟨w.heap.size,0,none⟩) 0 0) (w.alloc (.cells #[] f)):=by
  simp[Instr.buildSlice,run_underlying A,(j8.ty _ _ bA).run_sizeOf,Instr.fill,newRow];congr 2;apply Array.ext<;>simp
 refine pK (i:=0) (rest:=[1,2,3]) rfl rfl (v:= .slice (some ⟨w.heap.size,0,none⟩) 0 0) (w':=(w.alloc (.cells #[] f))) (by simp[execOp,al]) ?_;have⟨bZ,C⟩:=g.grow (hp':=w.heap.push (.cells #[] f)) Y (by intro i cp;rw[dI];grind);refine pK (i:=1) (rest:=[2,3]) rfl rfl (v:=c) (w':=(w.alloc (.cells #[] f))) (by rfl) ?_;have ae:jE cx h t t (.fg [] false) k=be o h':=by
  unfold jE;rw[l];have bs:pP cx h t k=G b:=by
   unfold pP;unfold tu at l;have⟨b6,bN,B⟩:=eQ.1 l;rw[bN];simp[fw];cases bT:b6.u<;>rw[bT]at B<;>simp[reduceCtorEq]at B;omega
  rw[bs];simp[fw];rcases b with _|⟨m,b⟩
  have a:=a;simp[aw,aH]at a;obtain⟨rfl,rfl⟩:=a;rfl;have a:=a;have aN:fits te.size (m::b)=true:=by
   have cb:=a
   grind [H.ku,kQ,jx,fw,sd,fq]
  rw[aN,iP];show kJ (h.ku te.size te.bytes [] (m::b))=_;rw[km];exact a
 have⟨v,r,b8,N,O,Q,R,S⟩:=A7 (P:=P) (w:=(w.alloc (.cells #[] f))) (ty':=t) j8 bZ (p:= .fg [] false) (c:= .slice (some ⟨w.heap.size,0,none⟩) 0 0) (.qy _ _) (D.ext C) ae;refine pK (i:=2) (rest:=[3]) rfl rfl (v:=v) (w':=r) (by simp[execOp,resolve,invoke,builtin,Act.eval,Act.put,N]) ?_;refine pK (i:=3) (rest:=[]) rfl rfl (v:=v) (w':=r) (by simp[execOp,Act.eval,Act.put]) ?_;refine wp_ret ?_;refine F _ r v rfl (by simp[Act.put]) ⟨⟨b8,O,Q,?_,S⟩,?_⟩;exact tH.trans (w1:=w.alloc (.cells #[] f)) ⟨C,rfl,rfl,rfl⟩ R;rcases b with _|⟨m,b⟩;have a:=a;simp[aw,aH]at a;obtain⟨rfl,rfl⟩:=a;exact ng.refl g.wf;exact r9 g.wf a
def Ma(c:Nat):∀(a:List Nat) (d:Nat),zK c a d=G (match(List.range a.length).find? (λb=>a[b]! ==c)with|some b=>((d+b:Nat):Int)|none=>-1):=by
 intro a;induction a with
 |nil=>intro d;rfl
 |cons e a k=>
  intro d;have i:zK c (e::a) d= @Bool.rec (λ_=>aa Int) (Z (jd (Nat.succ d)) λj=>zK c a j) (some (.ofNat d)) (Nat.beq e c):=rfl;rw[i];rw[aU,List.range_succ_eq_map,List.find?_cons];cases f:Nat.beq e c;have g:((e::a)[0]! ==c)=false:=iC (du f);rw[g];simp only[jx,fw];rw[k (d+1),List.find?_map];have:((λb=>(e::a)[b]! ==c)∘λb=>b+1)=λb=>a[b]! ==c:=by
   funext b;simp
  rw[this]
  grind
  have:=aK f;subst this;simp
def CM{d:Type}{b c:d->Bool}:∀{a:List d},(∀x∈a,b x=c x)->a.find? b=a.find? c
 | [],_=>rfl
 |x::a,h=>by
  rw[List.find?_cons,List.find?_cons,h x Y,CM λe f=>h e c5]
def firstIdx_eq{a:List Nat}(hl:∀k∈a,k<256){c:Nat}(f:c<256):firstIdx (bytesOf a) (UInt8.ofNat c)=match(List.range a.length).find? (λb=>a[b]! ==c)with|some b=>((b:Nat):Int)|none=>-1:=by
 unfold firstIdx;rw[mJ];have:(List.range a.length).find? (λi=>(bytesOf a)[i]! ==UInt8.ofNat c)=(List.range a.length).find? (λb=>a[b]! ==c):=by
  apply CM;intro b d;have d:=List.mem_range.1 d;have e:(bytesOf a)[b]! =UInt8.ofNat a[b]:=by
   have g:b<(bytesOf a).size:=by rw[mJ];exact d
   rw[getElem!_pos (bytesOf a) b g];show(bytesOf a).data[b]=_;simp[bytesOf]
  rw[e,getElem!_pos a b d];by_cases h:a[b]=c;simp[h];have:UInt8.ofNat a[b]≠UInt8.ofNat c:=λj=>h (by
   have:=bE UInt8.toNat j;rwa[lf (hl a[b] (aG d)),lf f]at this)
  rw[beq_eq_false_iff_ne.2 this,beq_eq_false_iff_ne.2 h]
 rw[this];cases (List.range a.length).find? (λb=>a[b]! ==c)<;>rfl
def JI{f:aj}{c:Func}(r:P.funcs[f]? =G c)(C:(c.name== "runtime.NumGoroutine")=false)(t:c.body.isNone)(B:Extern.findNext c=none)
 (z:Extern.find c=G Extern.BytealgIndexByte.indexByte):HD P cx f .qF:=by
 intro j h N h' a base w μ m i s;have A:∃d b,j=[.str d,.int .u8 (.ofNat b)]/\b<256/\(Z (zK b d 0) λg=>some (T.int .i64 g,h))=G (N,h'):=by
  unfold Cp at a;simp only at a;split at a;rename_i d b;obtain⟨q,a⟩:=fq.1 a;rw[aQ]at q
  grind
  grind
 obtain⟨d,b,rfl,u,a⟩:=A;obtain⟨k,O,y,K,E⟩:=s.oK;obtain⟨l,n,rfl,L,F⟩:=E.oK;have D:n=[]:=bC (by have:=F.1;grind);subst D;have v:m= #[k,l]:=by apply cU;rw[y]
 subst v;obtain⟨o,hl⟩:=K.m7;have p:=L.lq;subst o p;obtain⟨g,e,a⟩:=eQ.1 a;simp only[aw,aH]at a;obtain⟨rfl,rfl⟩:=a;rw[run_callFunc_extern r C t B z];have I:=run_indexByte_string (P:=P) (bytesOf d) (Int.ofNat b) w;rw[I];have x:(Int.ofNat b).toNat.toUInt8=UInt8.ofNat b:=rfl;rw[x,firstIdx_eq hl u];rw[Ma]at e;simp only[aw,cV]at e;rw[e];exact⟨⟨μ,.int _ _,i,tH.refl _ _,BT.refl _ _⟩,ng.refl i.wf⟩
end
end
section
def fin(cf:jS)(d:H)(a:aa nO):aa (T×H):=Z a λa=>nO.casesOn a (λf e=>some (f,e)) (λc b=>cf c b d)
section
variable {cx:Ctx}{cf:jS}{V:Nat}{ops:af Oper}
def B0(cx:Ctx)(cf:jS)(V:Nat)(ops:af Oper)(b:Env)(a:H)(c:Oper):aa (T×H):=
 Z (mf ops V b c.guard) λd=>Bool.casesOn d (some (.undef,a)) (fin cf a (j9 c.op cx V b a))
def uT{n:Type}(a:Env)(d:H)(b:Oper)(g:Env->H->aa n):
 (Z (nW cx cf V ops a d b) λf=>two f g)=Z (B0 cx cf V ops a d b) λf=>two f λc e=>Z (a.dst V b.dst c) λj=>g j e:=by
 unfold nW B0;cases mf ops V a b.guard with
 |none=>rfl
 |some m=>
  simp[fw];cases m with
  |false=>
   simp[nh,fw];cases a.dst V b.dst .undef<;>rfl
  |true=>
   simp only;unfold fin;cases j9 b.op cx V a d with
   |none=>rfl
   |some i=>
    simp[fw];rcases i with⟨c,e⟩|⟨k,h⟩
    .skip
     simp[nh,fw];cases a.dst V b.dst c<;>rfl
    .skip
     simp only;rcases cf k h d with _|l
     rfl;obtain⟨c,e⟩:=l;simp[nh,fw];cases a.dst V b.dst c<;>rfl
end
def keys:iM->List Nat
 | .nil=>[]
 | .cons a _ b=>a::keys b
def LO{g d:iM}{b:Nat}{f:T}(l:b∈keys g)(a:pQ g b f=G d):keys d=keys g:=by
 induction g generalizing d with
 |nil=>grind [keys]
 |cons c k e n=>
  have a: @Bool.rec (λ_=>aa iM) (Z (pQ e b f) λi=>some (.cons c k i)) (some (.cons c f e)) (Nat.beq c b)=G d:=a;cases j:Nat.beq c b;rw[j]at a;have a:(Z (pQ e b f) λi=>some (iM.cons c k i))=G d:=a;have⟨i,ht,a⟩:=eQ.1 a;cases a;have m:=du j;have:b∈keys e:=by
   rcases List.mem_cons.1 l with h|h;omega;omega
  grind [keys]
  rw[j]at a;have a:some (iM.cons c f e)=G d:=a;cases a;rfl
def EqR(K:List Nat)(c d:Env->H->Out):Prop:=∀a b,keys a.vars=K->c a b=d a b
def V3(K:List Nat)(c:Env->H->Out):Prop:=∀a d f b e,keys a.vars=K->c a d=G (f,b,e)->keys b.vars=K
section
variable {cx:Ctx}{cf:jS}{V fuel:Nat}{K:List Nat}
def TP(V:Nat)(K:List Nat)(ops:af Oper):Bool:=ops.toList.all λb=>match b.dst with|some a=> !lO V a||K.contains a|none=>true
def wS(V:Nat)(K:List Nat):Code->Bool
 | .region _ ops _=>TP V K ops
 | .seq b a=>wS V K b&&wS V K a
 | .cond _ b a=>wS V K b&&wS V K a
 | .block _ a=>wS V K a
 | .loop a=>wS V K a
 |_=>true
def LQ{g c:Env}{j:Oper}{f:T}(l:(match j.dst with|some b=> !lO V b||K.contains b|none=>true)=true)(h:keys g.vars=K)(a:g.dst V j.dst f=G c):keys c.vars=K:=by
 rcases k:j.dst with _|b;rw[k]at a;have a:some g=G c:=a
 grind
 rw[k]at a l;obtain⟨d,i⟩:=g;have a: @Bool.rec (λ_=>aa Env) (some ⟨d,.cons b f i⟩) (Z (pQ d b f) λe=>some ⟨e,i⟩) (lO V b)=G c:=a;cases hl:lO V b;rw[hl]at a;have a:some (⟨d,.cons b f i⟩:Env)=G c:=a
 grind
 rw[hl]at a;have a:(Z (pQ d b f) λe=>some (⟨e,i⟩:Env))=G c:=a;have⟨e,m,a⟩:=eQ.1 a;cases a;simp[hl,Bool.not_true,Bool.false_or]at l;have n:b∈keys d:=by
  have h:keys d=K:=h;rw[h];grind
 show keys e=K;rw[LO n m];exact h
def IR{b c:Env}{h i:H}{f:Oper}{ops:af Oper}(e:(match f.dst with|some g=> !lO V g||K.contains g|none=>true)=true)(d:keys b.vars=K)(j:nW cx cf V ops b h f=G (c,i)):keys c.vars=K:=by rcases pN j with⟨_,a,_⟩|⟨_,k,_,a⟩;exact LQ e d a;exact LQ e d a
def LP{ops:af Oper}:∀(e:List Oper) (d b:Env) (f c:H),(∀g∈e,(match g.dst with|some j=> !lO V j||K.contains j|none=>true)=true)->keys d.vars=K->mK cx cf V ops e d f=G (b,c)->keys b.vars=K:=by
 intro e;induction e with
 |nil=>
  intro d b f c _ h a;have a:some (d,f)=G (b,c):=a;simp[aw,aH]at a;rw[<-a.1];exact h
 |cons g e n=>
  intro d b f c i h a;have a:(Z (nW cx cf V ops d f g) λp=>two p λb c=>mK cx cf V ops e b c)=G (b,c):=a;have⟨⟨k,l⟩,m,a⟩:=eQ.1 a;exact n k b l c (λo q=>i o c5) (IR (i g Y) h m) a
def JG{ops:af Oper}:∀(f:List Oper) (h:Nat) (c:Seen) (d a:Env) (g e:H),(∀j∈f,(match j.dst with|some c=> !lO V c||K.contains c|none=>true)=true)->keys d.vars=K->
 lH cx cf V ops f h c d g=G (a,e)->keys a.vars=K:=by
 intro f;induction f with
 |nil=>
  intro h c d a g e _ i b;have b:some (d,g)=G (a,e):=b;simp[aw,aH]at b;rw[<-b.1];exact i
 |cons j f p=>
  intro h c d a g e k i b;have⟨l,m,u,o,t,r,n,_⟩:=B5 b;exact p (h+1) r l a m e (λq s=>k q c5) (IR (k j Y) i o) n
def K5{ops:af Oper}{j:Bool}(d:TP V K ops):V3 K (Pj cx cf V ops j):=by intro m e l b c k a;unfold TP at d;have d:=List.all_eq_true.1 d;obtain⟨f,n⟩:=m;cases j;have a:(Z (mK cx cf V ops ops.toList ⟨f,.nil⟩ e) λi=>two i λb c=>some (Ex.normal,(⟨b.vars,.nil⟩:Env),c))=G (l,b,c):=a;have⟨⟨g,h⟩,hr,a⟩:=eQ.1 a;simp[nh,aw,aH]at a;obtain⟨_,rfl,_⟩:=a;exact LP ops.toList ⟨f,.nil⟩ g e h d k hr;have a:(Z (lH cx cf V ops ops.toList 0 ⟨[],[]⟩ ⟨f,.nil⟩ e) λi=>two i λb c=>some (Ex.normal,(⟨b.vars,.nil⟩:Env),c))=G (l,b,c):=a;have⟨⟨g,h⟩,hr,a⟩:=eQ.1 a;simp[nh,aw,aH]at a;obtain⟨_,rfl,_⟩:=a;exact JG ops.toList 0 ⟨[],[]⟩ ⟨f,.nil⟩ g e h d k hr
def Q0{g:Env->H->Out}(n:V3 K g):∀e,V3 K (su g e):=by
 intro e;induction e with
 |zero=>intro i j d b c _ a;simp[su]at a
 |succ e q=>
  intro i j d b c o a;have a:(Z (g i j) λr=>three r λd b c=> @Ex.rec (λ_=>Out) (su g e b c) (λk=>some (.exit k,b,c)) (some (.ret,b,c)) d)=G (d,b,c):=a;have⟨⟨l,f,h⟩,m,a⟩:=eQ.1 a;have p:=n i j l f h o m;cases l with
  |normal=>exact q f h d b c p a
  |exit k=>
   have a:some (Ex.exit k,f,h)=G (d,b,c):=a
   grind
  |ret=>
   have a:some (Ex.ret,f,h)=G (d,b,c):=a
   grind
def Q1:∀(n:Code),wS V K n->V3 K (lV cx cf fuel V n):=by
 intro n;have u:∀{d:Ex},V3 K (λe f=>some (d,e,f)):=by
  intro d e f m b c h a;simp[aw,aH]at a;rw[<-a.2.1];exact h
 induction n with
 |skip=>intro _;exact u
 |exit id=>intro _;exact u
 |ret=>intro _;exact u
 |region id ops A=>intro g;exact K5 g
 |seq o k r s=>
  intro g e f d b c h a;simp[wS,aC]at g;have a:(Z (lV cx cf fuel V o e f) λt=>three t λd b c=> @Ex.rec (λ_=>Out) (lV cx cf fuel V k b c) (λi=>some (.exit i,b,c)) (some (.ret,b,c)) d)=G (d,b,c):=a;obtain⟨⟨m,j,l⟩,p,a⟩:=eQ.1 a;have x:=r g.1 e f m j l h p;cases m with
  |normal=>exact s g.2 j l d b c x a
  |exit i=>
   have a:some (Ex.exit i,j,l)=G (d,b,c):=a
   grind
  |ret=>
   have a:some (Ex.ret,j,l)=G (d,b,c):=a
   grind
 |cond z o k r s=>
  intro g e f d b c h a;simp[wS,aC]at g;have a:(Z (iG cx V e z) λw=>match w with
   | .bool v=> @Bool.rec (λ_=>Out) (lV cx cf fuel V k e f) (lV cx cf fuel V o e f) v
   |_=>none)=G (d,b,c):=a
  obtain⟨w,B,a⟩:=eQ.1 a;cases w<;>simp[reduceCtorEq]at a;rename_i v;cases v;exact s g.2 e f d b c h a;exact r g.1 e f d b c h a
 |block id k q=>
  intro g e f d b c h a;have a:(Z (lV cx cf fuel V k e f) λt=>three t λd b c=> @Ex.rec (λ_=>Out) (some (.normal,b,c)) (λi=> @Bool.rec (λ_=>Out) (some (.exit i,b,c)) (some (.normal,b,c)) (Nat.beq i id)) (some (.ret,b,c)) d)=G (d,b,c):=a;obtain⟨⟨m,j,l⟩,p,a⟩:=eQ.1 a;have x:=q g e f m j l h p;have:b=j:=by
   cases m with
   |normal=>simp_all
   |exit i=>simp[nV]at a;cases y:Nat.beq i id<;>rw[y]at a<;>simp[aw,aH]at a<;>exact a.2.1.symm
   |ret=>simp_all
  rw[this];omega
 |loop k q=>intro g;exact Q0 (q g) fuel
 |_=>intro _ e f d b c _ a;exact absurd a (by simp[lV])
def EqR.refl(a:Env->H->Out):EqR K a a:=λ_ _ _=>rfl
def EqR.seq{c e:Code}{d f:Env->H->Out}(n:wS V K c)(j:EqR K (lV cx cf fuel V c) d)(l:EqR K (lV cx cf fuel V e) f):EqR K (lV cx cf fuel V (.seq c e)) (HN d f):=by
 intro a b g;show HN (lV cx cf fuel V c) (lV cx cf fuel V e) a b=HN d f a b;unfold HN;rw[j a b g];rcases o:d a b with _|p
 rfl;obtain⟨k,h,i⟩:=p;have m:=Q1 (cx:=cx) (cf:=cf) (fuel:=fuel) c n a b k h i g (j a b g▸o);simp[fw,nV];cases k with
 |normal=>exact l h i m
 |exit q=>rfl
 |ret=>rfl
end
end
section
section
variable {P:ai}{cx:Ctx}{cf:jS}{V fuel:Nat}{K:List Nat}
def wH:Op->Bool
 | .load .. | .indexAddr .. | .slice .. | .convert .. | .lookup .. | .alloc .. | .box .. | .buildSlice .. | .makeSlice .. | .range .. | .makeMap .. =>true
 |_=>false
def Pd(c:af Oper):Bool:=
 let e:=OI c.toList []
 let d:=c.toList.zipIdx
 d.all λa=>d.all λb=> !Nat.blt b.2 a.2|| !((wH b.1.op&&ju a.1.op)||(ju b.1.op&&(wH a.1.op||ju a.1.op)))||(e.getD a.2 0).testBit b.2
def yU{e:af Oper}(f:Pd e){a b:Nat}{d c:Oper}(j:e[a]? =G d)(k:e[b]? =G c)(m:a<b)
 (l:(wH d.op/\ju c.op=true)\/(ju d.op/\(wH c.op\/ju c.op=true))):kY e a b=true:=by
 unfold Pd at f;have h:=List.all_eq_true.1 f (c,b) (mem_zipIdx k);have h2:=List.all_eq_true.1 h (d,a) (mem_zipIdx j);have i:Nat.blt a b:=by rw[aQ];omega
 simp[i,Bool.not_true,Bool.false_or,cm]at h2;rcases h2 with h2|h2
 exfalso;rcases l with⟨g,k2⟩|⟨g,k2|k2⟩<;>simp[g,k2]at h2
 exact h2
def LK{c:Env}{d:H}{a:Op}{b:Nat}(e:iY cx V c d a=G b):wH a=true:=by cases a<;>first|rfl|(simp[iY]at e)
def Jj{b:af Oper}(v:Pd b):∀(k:List Oper) (c:Nat) (e:Seen) (f:Env) (g:H),(∀m,k[m]? =b[c+m]?)->
 (∀a∈e.oU,a.1<c/\∃d,b[a.1]? =G d/\wH d.op=true)->(∀a∈e.mX,a.1<c/\∃d,b[a.1]? =G d/\ju d.op=true)->
 lH cx cf V b k c e f g=mK cx cf V b k f g:=by
 intro k;induction k with
 |nil=>intro c e f g _ _ _;rfl
 |cons d k w=>
  intro c e f g hl u q;have s:b[c]? =G d:=by have:=hl 0;simpa using this.symm
  have t:∀m,k[m]? =b[c+1+m]? :=λm=>by
   have:=hl (m+1);simp[dM]at this;rw[this];congr 1;omega
  show(Z (nW cx cf V b f g d) λa=>two a λl i=>
   Z (mf b V f d.guard) λQ=> @Bool.rec (λ_=>aa (Env×H)) (lH cx cf V b k (c+1) e l i)
    (@Bool.rec (λ_=>aa (Env×H))
      (@Option.rec Nat (λ_=>aa (Env×H)) (lH cx cf V b k (c+1) e l i)
        (λh=>iX (qQ b c h e.mX) (lH cx cf V b k (c+1) ⟨(c,h)::e.oU,e.mX⟩ l i)) (iY cx V f g d.op))
      (iX (A0 b c g i e.oU) (iX (uS cx V b c f e.mX d.op) (lH cx cf V b k (c+1) ⟨e.oU,(c,g,i)::e.mX⟩ l i))) (ju d.op)) Q)
   =Z (nW cx cf V b f g d) λa=>two a λC D=>mK cx cf V b k C D
  rcases N:nW cx cf V b f g d with _|a;rfl;obtain⟨l,i⟩:=a;simp[fw,nh];have A:∀a∈e.oU,a.1<c+1/\∃d,b[a.1]? =G d/\wH d.op=true:=λa j=>⟨iV (u a j).1,(u a j).2⟩;have z:∀a∈e.mX,a.1<c+1/\∃d,b[a.1]? =G d/\ju d.op=true:=λa j=>⟨iV (q a j).1,(q a j).2⟩;have O:∃x,mf b V f d.guard=G x:=by
   rcases pN N with⟨r,_⟩|⟨r,_⟩<;>exact⟨_,r⟩
  obtain⟨x,r⟩:=O;rw[r];simp[fw];cases x;exact w (c+1) e l i t A z;simp only;cases y:ju d.op;simp only;rcases I:iY cx V f g d.op with _|h
  grind
  have L:=LK I;have:qQ b c h e.mX:=by
   unfold qQ;rw[C3,cw];intro a j;obtain⟨n,B,o,p⟩:=q a j;have:=yU v o s n (.inr ⟨p,.inl L⟩);show @Bool.rec (λ_=>Bool) (kY b a.1 c) true (il a.2.1 a.2.2 h)=true;rw[this];cases il a.2.1 a.2.2 h<;>rfl
  simp[this,iP];refine w (c+1) _ l i t (λa j=>?_) z
  grind
  have:A0 b c g i e.oU:=by
   unfold A0;rw[C3,cw];intro a j;obtain⟨n,B,o,p⟩:=u a j;have:=yU v o s n (.inl ⟨p,y⟩);show @Bool.rec (λ_=>Bool) (kY b a.1 c) true (il g i a.2)=true;rw[this];cases il g i a.2<;>rfl
  have E:∀h,qQ b c h e.mX:=λh=>by
   unfold qQ;rw[C3,cw];intro a j;obtain⟨n,B,o,p⟩:=q a j;have:=yU v o s n (.inr ⟨p,.inr y⟩);show @Bool.rec (λ_=>Bool) (kY b a.1 c) true (il a.2.1 a.2.2 h)=true;rw[this];cases il a.2.1 a.2.2 h<;>rfl
  have F:uS cx V b c f e.mX d.op:=by
   unfold uS;split;rename_i m R S _;rcases Z (iG cx V f R) fD with _|h
   rfl;exact E h;rfl
  simp[this,F,iP];refine w (c+1) _ l i t A λa j=>?_
  grind
abbrev sg:=jS->Nat->List T->H->aa (T×H)
def nR(P:ai)(cx:Ctx)(i:aj)(j:sg):Prop:=
 ∀cf,qx P cx cf->∀k d b h g,j cf k d b=G (h,g)->∀e a c (f:af am),St cx e a.heap c b->ja a.heap c d f.toList->C6 P (uI cx e a c b h g) ((callFunc i f).run P a)
def sP(l:P.follows .mixedOrders)(j8:jR P cx){b:aj}{F:Fun}(i:P.funcs[b]? =G F.fn)(m:Cy F):nR P cx b (λcf d a c=>wM cx cf d F.fn F.V F.mO a c):=by
 intro cf g d a c n h k e p q f o j
 grind [OG]
def vC{c:aj}{d:Prim}(j:HD P cx c d):nR P cx c (λ_ _ a b=>Cp d a b):=by intro cf o p a b k g i e m n f l h;exact j a b k g i e m n f l h
def Mr(ft:aj->aa sg)(a:Nat):jS:=
 @Nat.rec (λ_=>jS) (λ_ _ _=>none) (λa f c b e=>Z (ft c) λd=>d f a b e) a
def Mp{ft:aj->aa sg}(m:∀c d,ft c=G d->nR P cx c d):∀a,qx P cx (Mr ft a):=by
 intro a;induction a with
 |zero=>intro c e f h g b;simp[Mr]at b
 |succ a n=>
  intro c e f h g b i p q j o k;have b:(Z (ft c) λd=>d (Mr ft a) a e f)=G (h,g):=b;have⟨d,l,b⟩:=eQ.1 b;exact m c d l (Mr ft a) n a e f h g b i p q j o k
end
def faV(off:Nat)(a:H)(i:T):aa nO:=match i with
 | .ptr b e f g=>Z (jd (Nat.add g off)) λh=>be (.ptr b e f h) a
 | .kH c=>Z (lJ off c) λd=>be (.kH d) a
 |_=>none
def exV(a:H)(c:T)(b:Nat):aa nO:=match c with| .tuple d=>val a (qN d b)|_=>none
def ai4(a:H)(e:T):aa nO:=match e with
 | .fg b _=>val a (Z (jd (oo b)) λd=>some (.int .i64 (.ofNat d)))
 | .jf=>val a (some (.int .i64 0))
 | .arr _ _ _ c _=>val a (some (.int .i64 (.ofNat c)))
 |_=>none
end
inductive Tree (α:Type) where
 |nil
 |node (l:Tree α) (k:Nat) (v:α) (r:Tree α)
def Tree.find{a:Type}(f:Tree a)(b:Nat):aa a:=
 @Tree.rec a (λ_=>aa a) none (λ_ c g _ d e=> @Bool.rec (λ_=>aa a) (@Bool.rec (λ_=>aa a) e d (Nat.blt b c)) (some g) (Nat.beq b c)) f
def Tree.toList{a:Type}:Tree a->List (Nat×a)
 | .nil=>[]
 | .node c b e d=>c.toList++(b,e)::d.toList
def Tree.UU{e:Type}{g:Tree e}{b:Nat}{d:e}(a:g.find b=G d):(b,d)∈g.toList:=by
 induction g with
 |nil=>simp[Tree.find]at a
 |node m c h n k l=>
  have a: @Bool.rec (λ_=>aa e) (@Bool.rec (λ_=>aa e) (n.find b) (m.find b) (Nat.blt b c)) (some h) (Nat.beq b c)=G d:=a;simp only[Tree.toList,cz,cg];cases f:Nat.beq b c;rw[f]at a;cases hl:Nat.blt b c;rw[hl]at a;exact .inr (.inr (l a));rw[hl]at a;exact .inl (k a);rw[f]at a;have i:=aK f;have j:h=d:=db a;rw[i,j];exact .inr (.inl rfl)
inductive Tree.YP {α:Type} (p:Nat->α->Prop):Tree α->Prop where
 |nil:YP p .nil
 |node {l:Tree α} {k:Nat} {v:α} {r:Tree α}:YP p l->p k v->YP p r->YP p (.node l k v r)
def Tree.YP.find{b:Type}{e:Nat->b->Prop}{f:Tree b}(h:f.YP e){d:Nat}{g:b}(c:f.find d=G g):e d g:=by
 have a:=Tree.UU c;clear c;induction h with
 |nil=>simp[Tree.toList]at a
 |node hl i hr j k=>
  simp[Tree.toList,cz,cg,aH]at a;rcases a with h|⟨rfl,rfl⟩|h
  exact j h;exact i;exact k h
