/- TiPrim -/
import Derived.Test.YtalknpnbaceflaaGreatDoorA4
import Derived.Laws.Externs
set_option linter.all false
namespace Go.TI
noncomputable section
section
section
variable {P:aj}{cx:Ctx}{base:Nat}{w:World}{μ:Mu}{h h':H}
def Is(a b:af):Code:=
 (Code.region 0 #[{dst:=some 2,op:=Op.assign (Operand.const (Value.slice none 0 0)),type:=a,pos:= "slices.go:355",after:= #[],guard:=none}] false).seq
   ((
    (Code.region 1 #[{dst:=some 3,op:=Op.move (Operand.tmp 0),type:=a,pos:= "slices.go:357",after:= #[],guard:=none},
       {dst:=some 4,op:=Op.binOp BinOp.eql a (Operand.tmp 3) (Operand.const (Value.slice none 0 0)) a,type:=b,pos:= "slices.go:357",after:= #[{on:=0,ground:=Ground.data}],guard:=none}] false).seq
       (Code.cond (Operand.tmp 4)
         ((Code.region 2 #[{dst:=some 2,op:=Op.assign (Operand.const (Value.slice none 0 0)),type:=a,pos:= "slices.go:358",after:= #[],guard:=none}] false).seq Code.ret)
         Code.skip)).seq
    ((
     Code.region 3 #[{dst:=some 5,op:=Op.buildSlice a 0 #[],type:=a,pos:= "slices.go:362",after:= #[],guard:=none},
       {dst:=some 6,op:=Op.move (Operand.tmp 0),type:=a,pos:= "slices.go:362",after:= #[],guard:=none},
       {dst:=some 7,op:=Op.call {callee:=Callee.builtin Builtin.append,args:= #[Operand.tmp 5,Operand.tmp 6],argTypes:= #[a,a]},type:=a,pos:= "slices.go:362",
        after:= #[{on:=0,ground:=Ground.data},{on:=1,ground:=Ground.data}],guard:=none},
       {dst:=some 2,op:=Op.assign (Operand.tmp 7),type:=a,pos:= "slices.go:362",
        after:= #[{on:=2,ground:=Ground.data},{on:=2,ground:=Ground.chain},{on:=0,ground:=Ground.phase},{on:=1,ground:=Ground.phase},{on:=2,ground:=Ground.phase}],guard:=none}] false).seq
     Code.ret))
def oR{c:ah Oper}{d:Exit->Act->World->Prop}{i:Nat}{rest:List Nat}{b:Act}{w w':World}{a:Oper}{v:aq}(f:c[i]? =some a)(e:a.guard=none)
 (g:(execOp b.eval a).run P w= .ok (.value v) w') (h:wpOps P c d rest (b.put a.dst v) w'):wpOps P c d (i::rest) b w:=by
 rw[wpOps_cons];unfold wpOp;simp only[f];have j:Region.wanted a (yielded c b.tmps)=true:=by simp[Region.wanted,e]
 simp only[j,bw];left;simp only[Oper.wp,g,Oper.upon];exact h
def wZ(j7:jT P cx){o:ak}{fn:Func}{t tb:af}{L bytes:Nat}{te:Ty}(x:P.funcs[o]? =some fn)(bu:(fn.name== "runtime.NumGoroutine")=false)(z:fn.body=some (Is t tb))(bs:fn.ntmps=8)
 (hr:fn.results= #[.tmp 2]) (n:ql cx t=some te) (bH:te.size=L) (aA:te.bytes=bytes):GY P cx o (.clone L bytes):=by
 intro s h e h' a base w μ M j ae;subst bH aA;have an:∃k,s=[k]:=by
  match s,a with
  | [k],_=>simp
 obtain⟨k,rfl⟩:=an;have⟨c,N,aN,F,bB⟩:=ae.nU;have bA:N=[]:=aZ (by have:=bB.1;grind);subst bA;have aE:M= #[c]:=by apply cM;rw[aN]
 subst aE;have a:(J (h.j1 k) λb=> @List.rec T (λ_=>aa (T×H)) (some (.V [] false,h)) (λ_ _ _=>h.jH te.size te.bytes [] b) b)=some (e,h'):=a;have⟨b,a8,a⟩:=eg.1 a;have⟨g,A,bN⟩:=xG j7 n;have⟨c6,b6⟩:=qv (P:=P) j F a8;have⟨d,l,c4,bn,cL,cb,c1,cd⟩:=b6.form;rw[p9 x bu z];show Calls P o #[c] w _;refine calls_of_wp x z ?_;have al:({tmps:= #[c]++Array.replicate (fn.ntmps-(#[c]:ah aq).size) Go.undef,defers:=[]}:Act)={tmps:= #[c,Go.undef,Go.undef,Go.undef,Go.undef,Go.undef,Go.undef,Go.undef],defers:=[]}:=by
  rw[bs];rfl
 rw[al];unfold Is;refine wp_seq (wp_region ?_);refine oR (i:=0) (rest:=[]) rfl rfl (v:= .slice none 0 0) (w':=w) (by rfl) ?_;refine wp_seq (wp_seq (wp_region ?_));refine oR (i:=0) (rest:=[1]) rfl rfl (v:=c) (w':=w) (by rfl) ?_;refine oR (i:=1) (rest:=[]) rfl rfl (v:= .bool d.isNone) (w':=w) ?_ ?_
 ·have bp:∀q:aq,(eqGuard .eql t (.tmp 3) (.const (.slice none 0 0)) (.slice d b.length l) (.slice none 0 0)).run P w= .ok () w:=λ_=>by rfl
  have a7:∀I,(Op.equalIn (I+1) t (.slice d b.length l) (.slice none 0 0)).run P w= .ok d.isNone w:=by
   intro I;cases d<;>simp[Op.equalIn,run_underlying A]
  have a6:(binOp .eql t (.slice d b.length l) (.slice none 0 0)).run P w= .ok (.bool d.isNone) w:=by
   show(do pure (Value.bool (<-Op.equal t (.slice d b.length l) (.slice none 0 0))):Sem aq).run P w=_;have Z:(Op.equal t (.slice d b.length l) (.slice none 0 0)).run P w= .ok d.isNone w:=a7 9999;rw[Sem.run_bind,Z];rfl
  rw[bn];simp[execOp,Act.eval,Act.put,Sem.run_bind,bp Go.undef,a6]
 have K:∀(f:Act) (w':World) (v:aq),f.defers=[]->f.tmps.getD 2 Go.undef=v->tT cx base w μ h e h' v w'->
  bodyPost P fn (λW b9=>match W with| .returned v=>tT cx base w μ h e h' v b9|_=>False) .ret f w':=by
  intro f w' v aX bW ab;refine⟨aX,v,?_,ab⟩;rw[E4,hr,Sem.run_bind];have:(#[ResultVar.tmp 2].mapM (sO f.tmps)).run P w'= .ok #[f.tmps.getD 2 Go.undef] w':=by
   rw[show #[ResultVar.tmp 2]=[ResultVar.tmp 2].toArray from rfl,List.mapM_toArray,List.mapM_cons];rfl
  rw[this,bW];rfl
 cases cX:d with
 |none=>
  have bg:b=[]:=by
   grind
  rw[bg]at a;have a:some (T.V [] false,h)=some (e,h'):=a;simp only[aw,aF]at a;obtain⟨rfl,rfl⟩:=a;refine wp_cond_true (by rfl) ?_;refine wp_seq (wp_region ?_);refine oR (i:=0) (rest:=[]) rfl rfl (v:= .slice none 0 0) (w':=w) (by rfl) ?_;refine wp_ret ?_;refine K _ w (.slice none 0 0) rfl (by rfl) ⟨⟨μ,.pP _ _,j,sd.refl _ _,Bb.refl _ _⟩,mR.refl j.wf⟩
 |some y=>
  refine wp_cond_false (by rfl) ?_;refine wp_skip ?_;refine wp_seq (wp_region ?_);have av:(Instr.buildSlice t 0 #[]).run P w= .ok (.slice (some ⟨w.heap.size,0,none⟩) 0 0) (w.alloc (.cells #[] g)):=by
   simp[Instr.buildSlice,run_underlying A,(j7.ty _ _ bN).run_sizeOf,Instr.fill,newRow];congr 2;apply Array.ext<;>simp
  refine oR (i:=0) (rest:=[1,2,3]) rfl rfl (v:= .slice (some ⟨w.heap.size,0,none⟩) 0 0) (w':=(w.alloc (.cells #[] g))) (by simp[execOp,av]) ?_;have⟨b7,E⟩:=j.grow (hp':=w.heap.push (.cells #[] g)) G (by intro i cF;rw[Array.getElem?_push];grind);have bX:=F.ext E;refine oR (i:=1) (rest:=[2,3]) rfl rfl (v:=c) (w':=(w.alloc (.cells #[] g))) (by rfl) ?_;have ap:jx cx h t t (.V [] false) k=some (.val e h'):=by
   unfold jx;rw[n];have bC:nD cx h t k=some b:=by
    unfold nD;unfold ql at n;have⟨b8,bS,D⟩:=eg.1 n;rw[bS];simp only[fw];cases bT:b8.u<;>rw[bT]at D<;>simp only[reduceCtorEq]at D;omega
   rw[bC];simp only[fw];cases b with
   |nil=>
    have a:some (T.V [] false,h)=some (e,h'):=a;simp only[aw,aF]at a;obtain⟨rfl,rfl⟩:=a;rfl
   |cons m b=>
    have a:h.jH te.size te.bytes [] (m::b)=some (e,h'):=a;have bi:fits te.size (m::b)=true:=by
     have cp:=a
     grind [H.jH,kE,jt,fw,qY,fj]
    rw[bi,jf];show kr (h.jH te.size te.bytes [] (m::b))=_;rw[ko];exact a
  have⟨v,r,ca,O,Q,R,S,U⟩:=AA (P:=P) (w:=(w.alloc (.cells #[] g))) (ty':=t) j7 b7 (p:= .V [] false) (c:= .slice (some ⟨w.heap.size,0,none⟩) 0 0) (.pP _ _) bX ap;refine oR (i:=2) (rest:=[3]) rfl rfl (v:=v) (w':=r) (by simp[execOp,resolve,invoke,builtin,Act.eval,Act.put,O]) ?_;refine oR (i:=3) (rest:=[]) rfl rfl (v:=v) (w':=r) (by simp[execOp,Act.eval,Act.put]) ?_;refine wp_ret ?_;refine K _ r v rfl (by simp[Act.put]) ⟨⟨ca,Q,R,?_,U⟩,?_⟩
  ·exact sd.trans (w1:=w.alloc (.cells #[] g)) ⟨E,rfl,rfl,rfl⟩ S
  ·cases b with
   |nil=>
    have a:some (T.V [] false,h)=some (e,h'):=a;simp only[aw,aF]at a;obtain⟨rfl,rfl⟩:=a;exact mR.refl j.wf
   |cons m b=>exact qV j.wf a
def LG(c:Nat):∀(a:List Nat) (d:Nat),yT c a d=some (match(List.range a.length).find? (λb=>a[b]! ==c)with|some b=>((d+b:Nat):Int)|none=>-1):=by
 intro a;induction a with
 |nil=>intro d;rfl
 |cons e a l=>
  intro d;have i:yT c (e::a) d= @Bool.rec (λ_=>aa Int) (J (jd (Nat.succ d)) λk=>yT c a k) (some (.ofNat d)) (Nat.beq e c):=rfl;rw[i];have hr:List.range (a.length+1)=0::(List.range a.length).map (· +1):=List.range_succ_eq_map;rw[aQ,hr,List.find?_cons];cases f:Nat.beq e c with
  |true=>
   have:=aH f;subst this;simp
  |false=>
   have j:=db f;have g:((e::a)[0]! ==c)=false:=by simpa using j
   rw[g];simp only[jt,fw];rw[l (d+1),List.find?_map];have:((λb=>(e::a)[b]! ==c)∘λb=>b+1)=λb=>a[b]! ==c:=by
    funext b;simp
   rw[this]
   grind
def B9{d:Type}{b c:d->Bool}:∀{a:List d},(∀x∈a,b x=c x)->a.find? b=a.find? c
 | [],_=>rfl
 |x::a,h=>by
  rw[List.find?_cons,List.find?_cons,h x G,B9 λe f=>h e (by grind)]
def firstIdx_eq{a:List Nat}(hl:∀l∈a,l<256){c:Nat}(f:c<256):firstIdx (bytesOf a) (UInt8.ofNat c)=match(List.range a.length).find? (λb=>a[b]! ==c)with|some b=>((b:Nat):Int)|none=>-1:=by
 unfold firstIdx;rw[kQ];have:(List.range a.length).find? (λj=>(bytesOf a)[j]! ==UInt8.ofNat c)=(List.range a.length).find? (λb=>a[b]! ==c):=by
  apply B9;intro b d;have d:b<a.length:=List.mem_range.1 d;have e:(bytesOf a)[b]! =UInt8.ofNat a[b]:=by
   have i:b<(bytesOf a).size:=by rw[kQ];exact d
   rw[getElem!_pos (bytesOf a) b i];show(bytesOf a).data[b]=_;simp[bytesOf]
  rw[e,getElem!_pos a b d];have g:=hl a[b] (aG d);by_cases h:a[b]=c
  ·simp[h]
  ·have:UInt8.ofNat a[b]≠UInt8.ofNat c:=λk=>h (by
    have:=bL UInt8.toNat k;rwa[kw g,kw f]at this)
   rw[beq_eq_false_iff_ne.2 this,beq_eq_false_iff_ne.2 h]
 rw[this];cases (List.range a.length).find? (λb=>a[b]! ==c)<;>rfl
def Jc{f:ak}{c:Func}(r:P.funcs[f]? =some c)(E:(c.name== "runtime.NumGoroutine")=false)(t:c.body.isNone=true)(D:Extern.findNext c=none)
 (z:Extern.find c=some Extern.BytealgIndexByte.indexByte):GY P cx f .pY:=by
 intro j h O h' a base w μ m i s;have A:∃d b,j=[.str d,.int .u8 (.ofNat b)]/\b<256/\(J (yT b d 0) λg=>some (T.int .i64 g,h))=some (O,h'):=by
  unfold Fl at a;simp only at a;split at a
  ·rename_i d b;obtain⟨q,a⟩:=fj.1 a;rw[aK]at q
   grind
  grind
 obtain⟨d,b,rfl,u,a⟩:=A;obtain⟨k,Q,y,M,I⟩:=s.nU;obtain⟨l,n,rfl,N,K⟩:=I.nU;have F:n=[]:=aZ (by have:=K.1;grind);subst F;have v:m= #[k,l]:=by apply cM;rw[y]
 subst v;obtain⟨o,hl⟩:=M.nq;have p:=N.kR;subst o p;obtain⟨g,e,a⟩:=eg.1 a;simp only[aw,aF]at a;obtain⟨rfl,rfl⟩:=a;rw[run_callFunc_extern r E t D z];have L:=run_indexByte_string (P:=P) (bytesOf d) (Int.ofNat b) w;rw[L];have x:(Int.ofNat b).toNat.toUInt8=UInt8.ofNat b:=rfl;rw[x,firstIdx_eq hl u];rw[LG]at e;simp only[aw,cU]at e;rw[e];exact⟨⟨μ,.int _ _,i,sd.refl _ _,Bb.refl _ _⟩,mR.refl i.wf⟩
end
end
section
def fin(cf:jQ)(d:H)(a:aa nh):aa (T×H):=J a λa=>nh.casesOn a (λf e=>some (f,e)) (λc b=>cf c b d)
section
variable {cx:Ctx}{cf:jQ}{D:Nat}{ops:ah Oper}
def Bj(cx:Ctx)(cf:jQ)(D:Nat)(ops:ah Oper)(b:Env)(a:H)(c:Oper):aa (T×H):=
 J (lQ ops D b c.guard) λd=>Bool.casesOn d (some (.undef,a)) (fin cf a (ke c.op cx D b a))
def uh{n:Type}(a:Env)(d:H)(b:Oper)(g:Env->H->aa n):
 (J (mV cx cf D ops a d b) λf=>two f g)=J (Bj cx cf D ops a d b) λf=>two f λc e=>J (a.dst D b.dst c) λj=>g j e:=by
 unfold mV Bj;cases lQ ops D a b.guard with
 |none=>rfl
 |some m=>
  simp only[fw];cases m with
  |false=>
   simp only[mv,fw];cases a.dst D b.dst .undef<;>rfl
  |true=>
   simp only;unfold fin;cases ke b.op cx D a d with
   |none=>rfl
   |some i=>
    simp only[fw];rcases i with⟨c,e⟩|⟨k,h⟩
    ·skip
     simp only[mv,fw];cases a.dst D b.dst c<;>rfl
    ·skip
     simp only;cases cf k h d with
     |none=>rfl
     |some l=>
      obtain⟨c,e⟩:=l;simp only[mv,fw];cases a.dst D b.dst c<;>rfl
end
def keys:iM->List Nat
 | .nil=>[]
 | .cons a _ b=>a::keys b
def Lj{g d:iM}{b:Nat}{f:T}(l:b∈keys g)(a:nG g b f=some d):keys d=keys g:=by
 induction g generalizing d with
 |nil=>grind [keys]
 |cons c k e n=>
  have a: @Bool.rec (λ_=>aa iM) (J (nG e b f) λi=>some (.cons c k i)) (some (.cons c f e)) (Nat.beq c b)=some d:=a;cases j:Nat.beq c b with
  |true=>
   rw[j]at a;have a:some (iM.cons c f e)=some d:=a;simp only[aw]at a;subst a;rfl
  |false=>
   rw[j]at a;have a:(J (nG e b f) λi=>some (iM.cons c k i))=some d:=a;have⟨i,ht,a⟩:=eg.1 a;simp only[aw]at a;subst a;have m:=db j;have:b∈keys e:=by
    rcases List.mem_cons.1 l with h|h
    ·omega
    omega
   grind [keys]
def EqR(K:List Nat)(c d:Env->H->Out):Prop:=∀a b,keys a.vars=K->c a b=d a b
def VH(K:List Nat)(c:Env->H->Out):Prop:=∀a d f b e,keys a.vars=K->c a d=some (f,b,e)->keys b.vars=K
section
variable {cx:Ctx}{cf:jQ}{D fuel:Nat}{K:List Nat}
def TF(D:Nat)(K:List Nat)(ops:ah Oper):Bool:=ops.toList.all λb=>match b.dst with|some a=> !lI D a||K.contains a|none=>true
def wh(D:Nat)(K:List Nat):Code->Bool
 | .region _ ops _=>TF D K ops
 | .seq b a=>wh D K b&&wh D K a
 | .cond _ b a=>wh D K b&&wh D K a
 | .block _ a=>wh D K a
 | .loop a=>wh D K a
 |_=>true
def Lm{g c:Env}{j:Oper}{f:T}(l:(match j.dst with|some b=> !lI D b||K.contains b|none=>true)=true)(h:keys g.vars=K)(a:g.dst D j.dst f=some c):keys c.vars=K:=by
 cases k:j.dst with
 |none=>
  rw[k]at a;have a:some g=some c:=a
  grind
 |some b=>
  rw[k]at a l;obtain⟨d,i⟩:=g;have a: @Bool.rec (λ_=>aa Env) (some ⟨d,.cons b f i⟩) (J (nG d b f) λe=>some ⟨e,i⟩) (lI D b)=some c:=a;cases hl:lI D b with
  |false=>
   rw[hl]at a;have a:some (⟨d,.cons b f i⟩:Env)=some c:=a
   grind
  |true=>
   rw[hl]at a;have a:(J (nG d b f) λe=>some (⟨e,i⟩:Env))=some c:=a;have⟨e,m,a⟩:=eg.1 a;simp only[aw]at a;subst a;simp only[hl,Bool.not_true,Bool.false_or]at l;have n:b∈keys d:=by
    have h:keys d=K:=h;rw[h];grind
   show keys e=K;rw[Lj n m];exact h
def Ii{b c:Env}{h i:H}{f:Oper}{ops:ah Oper}(e:(match f.dst with|some g=> !lI D g||K.contains g|none=>true)=true)(d:keys b.vars=K)(j:mV cx cf D ops b h f=some (c,i)):keys c.vars=K:=by
 rcases oS j with⟨_,a,_⟩|⟨_,k,_,a⟩
 ·exact Lm e d a
 ·exact Lm e d a
def Ll{ops:ah Oper}:∀(e:List Oper) (d b:Env) (f c:H),(∀g∈e,(match g.dst with|some j=> !lI D j||K.contains j|none=>true)=true)->keys d.vars=K->lZ cx cf D ops e d f=some (b,c)->keys b.vars=K:=by
 intro e;induction e with
 |nil=>
  intro d b f c _ h a;have a:some (d,f)=some (b,c):=a;simp only[aw,aF]at a;rw[<-a.1];exact h
 |cons g e n=>
  intro d b f c i h a;have a:(J (mV cx cf D ops d f g) λp=>two p λb c=>lZ cx cf D ops e b c)=some (b,c):=a;have⟨⟨k,l⟩,m,a⟩:=eg.1 a;exact n k b l c (λo q=>i o (by grind)) (Ii (i g G) h m) a
def Ja{ops:ah Oper}:∀(f:List Oper) (h:Nat) (c:Seen) (d a:Env) (g e:H),(∀j∈f,(match j.dst with|some c=> !lI D c||K.contains c|none=>true)=true)->keys d.vars=K->
 lf cx cf D ops f h c d g=some (a,e)->keys a.vars=K:=by
 intro f;induction f with
 |nil=>
  intro h c d a g e _ i b;have b:some (d,g)=some (a,e):=b;simp only[aw,aF]at b;rw[<-b.1];exact i
 |cons j f p=>
  intro h c d a g e k i b;have⟨l,m,u,o,t,r,n,_⟩:=Bl b;exact p (h+1) r l a m e (λq s=>k q (by grind)) (Ii (k j G) i o) n
def KD{ops:ah Oper}{j:Bool}(d:TF D K ops=true):VH K (OK cx cf D ops j):=by
 intro m e l b c k a;unfold TF at d;have d:=List.all_eq_true.1 d;obtain⟨f,n⟩:=m;cases j with
 |false=>
  have a:(J (lZ cx cf D ops ops.toList ⟨f,.nil⟩ e) λi=>two i λb c=>some (Ex.normal,(⟨b.vars,.nil⟩:Env),c))=some (l,b,c):=a;have⟨⟨g,h⟩,hr,a⟩:=eg.1 a;simp only[mv,aw,aF]at a;obtain⟨_,rfl,_⟩:=a;exact Ll ops.toList ⟨f,.nil⟩ g e h d k hr
 |true=>
  have a:(J (lf cx cf D ops ops.toList 0 ⟨[],[]⟩ ⟨f,.nil⟩ e) λi=>two i λb c=>some (Ex.normal,(⟨b.vars,.nil⟩:Env),c))=some (l,b,c):=a;have⟨⟨g,h⟩,hr,a⟩:=eg.1 a;simp only[mv,aw,aF]at a;obtain⟨_,rfl,_⟩:=a;exact Ja ops.toList 0 ⟨[],[]⟩ ⟨f,.nil⟩ g e h d k hr
def QG{g:Env->H->Out}(n:VH K g):∀e,VH K (qt g e):=by
 intro e;induction e with
 |zero=>intro i j d b c _ a;simp[qt]at a
 |succ e q=>
  intro i j d b c o a;have a:(J (g i j) λr=>three r λd b c=> @Ex.rec (λ_=>Out) (qt g e b c) (λk=>some (.exit k,b,c)) (some (.ret,b,c)) d)=some (d,b,c):=a;have⟨⟨l,f,h⟩,m,a⟩:=eg.1 a;have p:=n i j l f h o m;cases l with
  |normal=>exact q f h d b c p a
  |exit k=>
   have a:some (Ex.exit k,f,h)=some (d,b,c):=a
   grind
  |ret=>
   have a:some (Ex.ret,f,h)=some (d,b,c):=a
   grind
def QH:∀(n:Code),wh D K n=true->VH K (ll cx cf fuel D n):=by
 intro n;have u:∀{d:Ex},VH K (λe f=>some (d,e,f)):=by
  intro d e f m b c h a;simp only[aw,aF]at a;rw[<-a.2.1];exact h
 induction n with
 |skip=>intro _;exact u
 |exit id=>intro _;exact u
 |ret=>intro _;exact u
 |region id ops A=>intro g;exact KD g
 |seq o k r s=>
  intro g e f d b c h a;simp only[wh,az]at g;have a:(J (ll cx cf fuel D o e f) λt=>three t λd b c=> @Ex.rec (λ_=>Out) (ll cx cf fuel D k b c) (λi=>some (.exit i,b,c)) (some (.ret,b,c)) d)=some (d,b,c):=a;obtain⟨⟨m,j,l⟩,p,a⟩:=eg.1 a;have x:=r g.1 e f m j l h p;cases m with
  |normal=>exact s g.2 j l d b c x a
  |exit i=>
   have a:some (Ex.exit i,j,l)=some (d,b,c):=a
   grind
  |ret=>
   have a:some (Ex.ret,j,l)=some (d,b,c):=a
   grind
 |cond z o k r s=>
  intro g e f d b c h a;simp only[wh,az]at g;have a:(J (iG cx D e z) λw=>match w with
   | .ez v=> @Bool.rec (λ_=>Out) (ll cx cf fuel D k e f) (ll cx cf fuel D o e f) v
   |_=>none)=some (d,b,c):=a
  obtain⟨w,E,a⟩:=eg.1 a;cases w<;>simp only[reduceCtorEq]at a;rename_i v;cases v with
  |true=>exact r g.1 e f d b c h a
  |false=>exact s g.2 e f d b c h a
 |block id k q=>
  intro g e f d b c h a;have a:(J (ll cx cf fuel D k e f) λt=>three t λd b c=> @Ex.rec (λ_=>Out) (some (.normal,b,c)) (λi=> @Bool.rec (λ_=>Out) (some (.exit i,b,c)) (some (.normal,b,c)) (Nat.beq i id)) (some (.ret,b,c)) d)=some (d,b,c):=a;obtain⟨⟨m,j,l⟩,p,a⟩:=eg.1 a;have x:=q g e f m j l h p;have:b=j:=by
   cases m with
   |normal=>simp_all
   |exit i=>simp only[nC]at a;cases y:Nat.beq i id<;>rw[y]at a<;>simp only[aw,aF]at a<;>exact a.2.1.symm
   |ret=>simp_all
  rw[this];omega
 |loop k q=>intro g;exact QG (q g) fuel
 |_=>intro _ e f d b c _ a;exact absurd a (by simp[ll])
def EqR.refl(a:Env->H->Out):EqR K a a:=λ_ _ _=>rfl
def EqR.seq{c e:Code}{d f:Env->H->Out}(n:wh D K c=true)(j:EqR K (ll cx cf fuel D c) d)(l:EqR K (ll cx cf fuel D e) f):EqR K (ll cx cf fuel D (.seq c e)) (E1 d f):=by
 intro a b g;show E1 (ll cx cf fuel D c) (ll cx cf fuel D e) a b=E1 d f a b;unfold E1;rw[j a b g];cases o:d a b with
 |none=>rfl
 |some p=>
  obtain⟨k,h,i⟩:=p;have m:=QH (cx:=cx) (cf:=cf) (fuel:=fuel) c n a b k h i g (by rw[j a b g];exact o);simp only[fw,nC];cases k with
  |normal=>exact l h i m
  |exit q=>rfl
  |ret=>rfl
end
end
section
section
variable {P:aj}{cx:Ctx}{cf:jQ}{D fuel:Nat}{K:List Nat}
def vL:Op->Bool
 | .load .. | .indexAddr .. | .slice .. | .convert .. | .lookup .. | .alloc .. | .box .. | .buildSlice .. | .makeSlice .. | .range .. | .makeMap .. =>true
 |_=>false
def OD(c:ah Oper):Bool:=
 let e:=Oc c.toList []
 let d:=c.toList.zipIdx
 d.all λa=>d.all λb=> !Nat.blt b.2 a.2|| !((vL b.1.op&&jr a.1.op)||(jr b.1.op&&(vL a.1.op||jr a.1.op)))||(e.getD a.2 0).testBit b.2
def yn{f:ah Oper}(h:OD f=true){b c:Nat}{e d:Oper}(l:f[b]? =some e)(m:f[c]? =some d)(o:b<c)
 (n:(vL e.op=true/\jr d.op=true)\/(jr e.op=true/\(vL d.op=true\/jr d.op=true))):kL f b c=true:=by
 unfold OD at h;have j:=List.all_eq_true.1 h (d,c) (mem_zipIdx m);have a:=List.all_eq_true.1 j (e,b) (mem_zipIdx l);have k:Nat.blt b c=true:=by rw[aK];omega
 simp only[k,Bool.not_true,Bool.false_or,cu,cq]at a;rcases a with a|a
 ·exfalso;rcases n with⟨i,g⟩|⟨i,g|g⟩<;>simp[i,g]at a
 ·exact a
def Le{c:Env}{d:H}{a:Op}{b:Nat}(e:jb cx D c d a=some b):vL a=true:=by
 cases a<;>first|rfl|(simp[jb]at e)
def IJ{b:ah Oper}(v:OD b=true):∀(k:List Oper) (c:Nat) (e:Seen) (f:Env) (g:H),(∀m,k[m]? =b[c+m]?)->
 (∀a∈e.oq,a.1<c/\∃d,b[a.1]? =some d/\vL d.op=true)->(∀a∈e.mL,a.1<c/\∃d,b[a.1]? =some d/\jr d.op=true)->
 lf cx cf D b k c e f g=lZ cx cf D b k f g:=by
 intro k;induction k with
 |nil=>intro c e f g _ _ _;rfl
 |cons d k w=>
  intro c e f g hl u q;have s:b[c]? =some d:=by have:=hl 0;simpa using this.symm
  have t:∀m,k[m]? =b[c+1+m]? :=λm=>by
   have:=hl (m+1);simp only[dF]at this;rw[this];congr 1;omega
  show(J (mV cx cf D b f g d) λa=>two a λl i=>
   J (lQ b D f d.guard) λS=> @Bool.rec (λ_=>aa (Env×H)) (lf cx cf D b k (c+1) e l i)
    (@Bool.rec (λ_=>aa (Env×H))
      (@Option.rec Nat (λ_=>aa (Env×H)) (lf cx cf D b k (c+1) e l i)
        (λh=>iS (qj b c h e.mL) (lf cx cf D b k (c+1) ⟨(c,h)::e.oq,e.mL⟩ l i)) (jb cx D f g d.op))
      (iS (Au b c g i e.oq) (iS (ug cx D b c f e.mL d.op) (lf cx cf D b k (c+1) ⟨e.oq,(c,g,i)::e.mL⟩ l i))) (jr d.op)) S)
   =J (mV cx cf D b f g d) λa=>two a λF I=>lZ cx cf D b k F I
  cases Q:mV cx cf D b f g d with
  |none=>rfl
  |some a=>
   obtain⟨l,i⟩:=a;simp only[fw,mv];have A:∀a∈e.oq,a.1<c+1/\∃d,b[a.1]? =some d/\vL d.op=true:=λa j=>⟨by have:=(u a j).1;omega,(u a j).2⟩;have z:∀a∈e.mL,a.1<c+1/\∃d,b[a.1]? =some d/\jr d.op=true:=λa j=>⟨by have:=(q a j).1;omega,(q a j).2⟩;have R:∃x,lQ b D f d.guard=some x:=by
    rcases oS Q with⟨r,_⟩|⟨r,_⟩<;>exact⟨_,r⟩
   obtain⟨x,r⟩:=R;rw[r];simp only[fw];cases x with
   |false=>exact w (c+1) e l i t A z
   |true=>
    simp only;cases y:jr d.op with
    |true=>
     have:Au b c g i e.oq=true:=by
      unfold Au;rw[Cr,cg];intro a j;obtain⟨n,E,o,p⟩:=u a j;have:=yn v o s n (.inl ⟨p,y⟩);show @Bool.rec (λ_=>Bool) (kL b a.1 c) true (gU g i a.2)=true;rw[this];cases gU g i a.2<;>rfl
     have L:∀h,qj b c h e.mL=true:=λh=>by
      unfold qj;rw[Cr,cg];intro a j;obtain⟨n,E,o,p⟩:=q a j;have:=yn v o s n (.inr ⟨p,.inr y⟩);show @Bool.rec (λ_=>Bool) (kL b a.1 c) true (gU a.2.1 a.2.2 h)=true;rw[this];cases gU a.2.1 a.2.2 h<;>rfl
     have M:ug cx D b c f e.mL d.op=true:=by
      unfold ug;split
      ·rename_i m T U _;cases J (iG cx D f T) fq with
       |none=>rfl
       |some h=>exact L h
      ·rfl
     simp only[this,M,jf];refine w (c+1) _ l i t A λa j=>?_
     grind
    |false=>
     simp only;cases N:jb cx D f g d.op with
     |none=>grind
     |some h=>
      have O:=Le N;have:qj b c h e.mL=true:=by
       unfold qj;rw[Cr,cg];intro a j;obtain⟨n,E,o,p⟩:=q a j;have:=yn v o s n (.inr ⟨p,.inl O⟩);show @Bool.rec (λ_=>Bool) (kL b a.1 c) true (gU a.2.1 a.2.2 h)=true;rw[this];cases gU a.2.1 a.2.2 h<;>rfl
      simp only[this,jf];refine w (c+1) _ l i t (λa j=>?_) z
      grind
abbrev tH:=jQ->Nat->List T->H->aa (T×H)
def oh(P:aj)(cx:Ctx)(i:ak)(j:tH):Prop:=
 ∀cf,pL P cx cf->∀k d b h g,j cf k d b=some (h,g)->∀e a c (f:ah aq),St cx e a.heap c b->iW a.heap c d f.toList->Cu P (tT cx e a c b h g) ((callFunc i f).run P a)
def rM(l:P.follows .mixedOrders=true)(j7:jT P cx){b:ak}{F:Fun}(i:P.funcs[b]? =some F.fn)(m:Aq F=true):oh P cx b (λcf d a c=>vV cx cf d F.fn F.D F.mE a c):=by
 intro cf g d a c n h k e p q f o j
 grind [N9]
def AJ{c:ak}{d:Prim}(j:GY P cx c d):oh P cx c (λ_ _ a b=>Fl d a b):=by
 intro cf o p a b k g i e m n f l h;exact j a b k g i e m n f l h
def LX(ft:ak->aa tH)(a:Nat):jQ:=
 @Nat.rec (λ_=>jQ) (λ_ _ _=>none) (λa f c b e=>J (ft c) λd=>d f a b e) a
def DR{ft:ak->aa tH}(m:∀c d,ft c=some d->oh P cx c d):∀a,pL P cx (LX ft a):=by
 intro a;induction a with
 |zero=>intro c e f h g b;simp[LX]at b
 |succ a n=>
  intro c e f h g b i p q j o k;have b:(J (ft c) λd=>d (LX ft a) a e f)=some (h,g):=b;have⟨d,l,b⟩:=eg.1 b;exact m c d l (LX ft a) n a e f h g b i p q j o k
end
def faV(off:Nat)(a:H)(i:T):aa nh:=match i with
 | .fc b e f g=>J (jd (Nat.add g off)) λh=>some (.val (.fc b e f h) a)
 | .ks c=>J (kZ off c) λd=>some (.val (.ks d) a)
 |_=>none
def exV(a:H)(c:T)(b:Nat):aa nh:=match c with| .tuple d=>val a (oo d b)|_=>none
def aip(a:H)(e:T):aa nh:=match e with
 | .V b _=>val a (J (jd (mJ b)) λd=>some (.int .i64 (.ofNat d)))
 | .iX=>val a (some (.int .i64 0))
 | .arr _ _ _ c _=>val a (some (.int .i64 (.ofNat c)))
 |_=>none
end
inductive Tree (α:Type) where
 |nil
 |eY (l:Tree α) (k:Nat) (v:α) (r:Tree α)
def Tree.find{a:Type}(f:Tree a)(b:Nat):aa a:=
 @Tree.rec a (λ_=>aa a) none (λ_ c g _ d e=> @Bool.rec (λ_=>aa a) (@Bool.rec (λ_=>aa a) e d (Nat.blt b c)) (some g) (Nat.beq b c)) f
def Tree.toList{a:Type}:Tree a->List (Nat×a)
 | .nil=>[]
 | .eY c b e d=>c.toList++(b,e)::d.toList
def Tree.UA{e:Type}{g:Tree e}{b:Nat}{d:e}(a:g.find b=some d):(b,d)∈g.toList:=by
 induction g with
 |nil=>simp[Tree.find]at a
 |eY m c h n k l=>
  have a: @Bool.rec (λ_=>aa e) (@Bool.rec (λ_=>aa e) (n.find b) (m.find b) (Nat.blt b c)) (some h) (Nat.beq b c)=some d:=a;simp only[Tree.toList,dc,ci];cases f:Nat.beq b c with
  |true=>
   rw[f]at a;have i:=aH f;have j:h=d:=cO a;rw[i,j];exact .inr (.inl rfl)
  |false=>
   rw[f]at a;cases hl:Nat.blt b c with
   |true=>rw[hl]at a;exact .inl (k a)
   |false=>rw[hl]at a;exact .inr (.inr (l a))
inductive Tree.RY {α:Type} (p:Nat->α->Prop):Tree α->Prop where
 |nil:RY p .nil
 |eY {l:Tree α} {k:Nat} {v:α} {r:Tree α}:RY p l->p k v->RY p r->RY p (.eY l k v r)
def Tree.RY.find{b:Type}{e:Nat->b->Prop}{f:Tree b}(h:f.RY e){d:Nat}{g:b}(c:f.find d=some g):e d g:=by
 have a:=Tree.UA c;clear c;induction h with
 |nil=>simp[Tree.toList]at a
 |eY hl i hr j k=>
  simp only[Tree.toList,dc,ci,aF]at a;rcases a with h|⟨rfl,rfl⟩|h
  ·exact j h
  ·exact i
  ·exact k h
