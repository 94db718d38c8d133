/- Texts TiPrim to TiTab. -/
import Derived.Test.YtmaeadedikngoaaGreatDoorA5
import Derived.Laws.Externs
set_option linter.all false
namespace Go.TI
noncomputable section
section
variable {P:ai}{cx:Ctx}{base:Nat}{w:World}{μ:Mu}{h h':H}
def EV(a b:ab):Code:=
 (Code.region 0 #[{dst:=some 2,op:=Op.assign (Operand.const (Value.slice none 0 0)),type:=a,pos:= "slices.go:355",after:= #[],guard:=none}] false).seq
   ((
    (Code.region 1 #[{dst:=some 3,op:=Op.move (Operand.tmp 0),type:=a,pos:= "slices.go:357",after:= #[],guard:=none},
       {dst:=some 4,op:=Op.binOp BinOp.eql a (Operand.tmp 3) (Operand.const (Value.slice none 0 0)) a,type:=b,pos:= "slices.go:357",after:= #[{on:=0,ground:=Ground.data}],guard:=none}] false).seq
       (Code.cond (Operand.tmp 4)
         ((Code.region 2 #[{dst:=some 2,op:=Op.assign (Operand.const (Value.slice none 0 0)),type:=a,pos:= "slices.go:358",after:= #[],guard:=none}] false).seq Code.ret)
         Code.skip)).seq
    ((
     Code.region 3 #[{dst:=some 5,op:=Op.buildSlice a 0 #[],type:=a,pos:= "slices.go:362",after:= #[],guard:=none},
       {dst:=some 6,op:=Op.move (Operand.tmp 0),type:=a,pos:= "slices.go:362",after:= #[],guard:=none},
       {dst:=some 7,op:=Op.call {callee:=Callee.builtin Builtin.append,args:= #[Operand.tmp 5,Operand.tmp 6],argTypes:= #[a,a]},type:=a,pos:= "slices.go:362",
        after:= #[{on:=0,ground:=Ground.data},{on:=1,ground:=Ground.data}],guard:=none},
       {dst:=some 2,op:=Op.assign (Operand.tmp 7),type:=a,pos:= "slices.go:362",
        after:= #[{on:=2,ground:=Ground.data},{on:=2,ground:=Ground.chain},{on:=0,ground:=Ground.phase},{on:=1,ground:=Ground.phase},{on:=2,ground:=Ground.phase}],guard:=none}] false).seq
     Code.ret))
def mO{c:af Oper}{d:Exit->Act->World->Prop}{i:Nat}{rest:List Nat}{b:Act}{w w':World}{a:Oper}{v:am}(f:c[i]? =some a)(e:a.guard=none)
 (g:(execOp b.eval a).run P w= .ok (.value v) w') (h:wpOps P c d rest (b.put a.dst v) w'):wpOps P c d (i::rest) b w:=by
 rw[wpOps_cons];unfold wpOp;simp only[f];have j:Region.wanted a (yielded c b.tmps)=true:=by simp[Region.wanted,e]
 simp only[j,bg];left;simp only[Oper.wp,g,Oper.upon];exact h
def we(iZ:jd P cx){s:aj}{fn:Func}{t tb:ab}{K bytes:Nat}{te:Ty}(A:P.funcs[s]? =some fn)(bn:(fn.name== "runtime.NumGoroutine")=false)(B:fn.body=some (EV t tb))(bk:fn.ntmps=8)
 (hr:fn.results= #[.tmp 2]) (o:oP cx t=some te) (bB:te.size=K) (an:te.bytes=bytes):Dh P cx s (.clone K bytes):=by
 intro z h f h' a base w μ L l X;subst bB an;have Z:∃g,z=[g]:=by
  match z,a with
  | [g],_=>exact⟨g,rfl⟩
 obtain⟨g,rfl⟩:=Z;obtain⟨c,M,aA,G,bu⟩:=X.mz;have bp:M=[]:=bj (by have:=bu.1;simpa using this.symm);subst bp;have ap:L= #[c]:=by apply cC;rw[aA]
 subst ap;have a:(dV (h.ji g) λb=> @List.rec T (λ_=>aa (T×H)) (some (.dN [] false,h)) (λ_ _ _=>h.jb te.size te.bytes [] b) b)=some (f,h'):=a;obtain⟨b,E,a⟩:=dL.1 a;obtain⟨k,C,bC⟩:=uQ iZ o;obtain⟨cX,b6⟩:=oq (P:=P) l G E;obtain⟨d,m,cL,a8,cp,cb,cy,av⟩:=b6.form;rw[nY A bn B];show Calls P s #[c] w _;refine calls_of_wp A B ?_;have Y:({tmps:= #[c]++Array.replicate (fn.ntmps-(#[c]:af am).size) Go.undef,defers:=[]}:Act)={tmps:= #[c,Go.undef,Go.undef,Go.undef,Go.undef,Go.undef,Go.undef,Go.undef],defers:=[]}:=by
  rw[bk];rfl
 rw[Y];unfold EV;refine wp_seq (wp_region ?_);refine mO (i:=0) (rest:=[]) rfl rfl (v:= .slice none 0 0) (w':=w) (by simp[execOp,Act.eval]) ?_;refine wp_seq (wp_seq (wp_region ?_));refine mO (i:=0) (rest:=[1]) rfl rfl (v:=c) (w':=w) (by simp[execOp,Act.eval,Act.put]) ?_;refine mO (i:=1) (rest:=[]) rfl rfl (v:= .bool d.isNone) (w':=w) ?_ ?_
 ·have bi:∀q:am,(eqGuard .eql t (.tmp 3) (.const (.slice none 0 0)) (.slice d b.length m) (.slice none 0 0)).run P w= .ok () w:=λ_=>by simp[eqGuard]
  have aX:∀I,(Op.equalIn (I+1) t (.slice d b.length m) (.slice none 0 0)).run P w= .ok d.isNone w:=by
   intro I;cases d<;>simp[Op.equalIn,run_underlying C]
  have aN:(binOp .eql t (.slice d b.length m) (.slice none 0 0)).run P w= .ok (.bool d.isNone) w:=by
   show(do pure (Value.bool (<-Op.equal t (.slice d b.length m) (.slice none 0 0))):Sem am).run P w=_;have V:(Op.equal t (.slice d b.length m) (.slice none 0 0)).run P w= .ok d.isNone w:=aX 9999;rw[Sem.run_bind,V];rfl
  rw[a8];simp[execOp,Act.eval,Act.put,Sem.run_bind,bi Go.undef,aN]
 have J:∀(j:Act) (w':World) (v:am),j.defers=[]->j.tmps.getD 2 Go.undef=v->qB cx base w μ h f h' v w'->
  bodyPost P fn (λU b9=>match U with| .returned v=>qB cx base w μ h f h' v b9|_=>False) .ret j w':=by
  intro j w' v aE bS W;refine⟨aE,v,?_,W⟩;rw[BU,hr,Sem.run_bind];have:(#[ResultVar.tmp 2].mapM (nP j.tmps)).run P w'= .ok #[j.tmps.getD 2 Go.undef] w':=by
   rw[show #[ResultVar.tmp 2]=[ResultVar.tmp 2].toArray from rfl,List.mapM_toArray,List.mapM_cons];simp[nP]
  rw[this,bS];rfl
 cases bs:d with
 |none=>
  have a6:b=[]:=by
   rcases av with⟨_,r⟩|⟨y,r,_⟩
   ·exact r
   ·rw[bs]at r;simp at r
  rw[a6]at a;have a:some (T.dN [] false,h)=some (f,h'):=a;simp only[ar,az]at a;obtain⟨rfl,rfl⟩:=a;refine wp_cond_true (by simp[Act.eval,Act.put]) ?_;refine wp_seq (wp_region ?_);refine mO (i:=0) (rest:=[]) rfl rfl (v:= .slice none 0 0) (w':=w) (by simp[execOp,Act.eval]) ?_;refine wp_ret ?_;refine J _ w (.slice none 0 0) rfl (by simp[Act.put]) ⟨⟨μ,.nM _ _,l,pI.refl _ _,ye.refl _ _⟩,kW.refl l.wf⟩
 |some y=>
  refine wp_cond_false (by simp[Act.eval,Act.put]) ?_;refine wp_skip ?_;refine wp_seq (wp_region ?_);have al:(Instr.buildSlice t 0 #[]).run P w= .ok (.slice (some ⟨w.heap.size,0,none⟩) 0 0) (w.alloc (.cells #[] k)):=by
   simp[Instr.buildSlice,run_underlying C,(iZ.ty _ _ bC).run_sizeOf,Instr.fill,newRow];congr 2;apply Array.ext<;>simp
  refine mO (i:=0) (rest:=[1,2,3]) rfl rfl (v:= .slice (some ⟨w.heap.size,0,none⟩) 0 0) (w':=(w.alloc (.cells #[] k))) (by simp[execOp,al]) ?_;obtain⟨b7,F⟩:=l.grow (hp':=w.heap.push (.cells #[] k)) dC (by intro i ce;rw[Array.getElem?_push];simp;omega);have bT:=G.ext F;refine mO (i:=1) (rest:=[2,3]) rfl rfl (v:=c) (w':=(w.alloc (.cells #[] k))) (by simp[execOp,Act.eval,Act.put]) ?_;have ae:iM cx h t t (.dN [] false) g=some (.val f h'):=by
   unfold iM;rw[o];have bz:mh cx h t g=some b:=by
    unfold mh;unfold oP at o;obtain⟨b8,bH,D⟩:=dL.1 o;rw[bH];simp only[dY];cases bN:b8.u<;>rw[bN]at D<;>simp only[reduceCtorEq]at D;exact E
   rw[bz];simp only[dY];cases b with
   |nil=>
    have a:some (T.dN [] false,h)=some (f,h'):=a;simp only[ar,az]at a;obtain⟨rfl,rfl⟩:=a;rfl
   |cons n b=>
    have a:h.jb te.size te.bytes [] (n::b)=some (f,h'):=a;have a7:fits te.size (n::b)=true:=by
     have e:=a;unfold H.jb at e;simp only[pO,dY,iE,jH]at e;obtain⟨_,e⟩:=dT.1 e;obtain⟨_,e⟩:=dT.1 e;obtain⟨_,e⟩:=dT.1 e;exact(dT.1 e).1
    rw[a7,ir];show jz (h.jb te.size te.bytes [] (n::b))=_;rw[jw];exact a
  obtain⟨v,x,ca,N,O,Q,R,S⟩:=xq (P:=P) (w:=(w.alloc (.cells #[] k))) (ty':=t) iZ b7 (p:= .dN [] false) (c:= .slice (some ⟨w.heap.size,0,none⟩) 0 0) (.nM _ _) bT ae;refine mO (i:=2) (rest:=[3]) rfl rfl (v:=v) (w':=x) (by simp[execOp,resolve,invoke,builtin,Act.eval,Act.put,N]) ?_;refine mO (i:=3) (rest:=[]) rfl rfl (v:=v) (w':=x) (by simp[execOp,Act.eval,Act.put]) ?_;refine wp_ret ?_;refine J _ x v rfl (by simp[Act.put]) ⟨⟨ca,O,Q,?_,S⟩,?_⟩
  ·exact pI.trans (w1:=w.alloc (.cells #[] k)) ⟨F,rfl,rfl,rfl⟩ R
  ·cases b with
   |nil=>
    have a:some (T.dN [] false,h)=some (f,h'):=a;simp only[ar,az]at a;obtain⟨rfl,rfl⟩:=a;exact kW.refl l.wf
   |cons n b=>exact oS l.wf a
def H8(c:Nat):∀(a:List Nat) (d:Nat),v7 c a d=some (match(List.range a.length).find? (λb=>a[b]! ==c)with|some b=>((d+b:Nat):Int)|none=>-1):=by
 intro a;induction a with
 |nil=>intro d;rfl
 |cons e a l=>
  intro d;have i:v7 c (e::a) d= @Bool.rec (λ_=>aa Int) (dV (hU (Nat.succ d)) λk=>v7 c a k) (some (.ofNat d)) (Nat.beq e c):=rfl;rw[i];have hr:List.range (a.length+1)=0::(List.range a.length).map (· +1):=List.range_succ_eq_map;rw[bh,hr,List.find?_cons];cases f:Nat.beq e c with
  |true=>
   have:=aD f;subst this;simp
  |false=>
   have j:=cP f;have g:((e::a)[0]! ==c)=false:=by simpa using j
   rw[g];simp only[iE,dY];rw[l (d+1),List.find?_map];have:((λb=>(e::a)[b]! ==c)∘λb=>b+1)=λb=>a[b]! ==c:=by
    funext b;simp
   rw[this];cases (List.range a.length).find? (λb=>a[b]! ==c)with
   |none=>rfl
   |some b=>simp only[cO,ar];congr 1;omega
def yO{d:Type}{b c:d->Bool}:∀{a:List d},(∀x∈a,b x=c x)->a.find? b=a.find? c
 | [],_=>rfl
 |x::a,h=>by
  rw[List.find?_cons,List.find?_cons,h x dC,yO λf e=>h f (by simp[e])]
def firstIdx_eq{a:List Nat}(hl:∀l∈a,l<256){c:Nat}(f:c<256):firstIdx (bytesOf a) (UInt8.ofNat c)=match(List.range a.length).find? (λb=>a[b]! ==c)with|some b=>((b:Nat):Int)|none=>-1:=by
 unfold firstIdx;rw[jU];have:(List.range a.length).find? (λj=>(bytesOf a)[j]! ==UInt8.ofNat c)=(List.range a.length).find? (λb=>a[b]! ==c):=by
  apply yO;intro b d;have d:b<a.length:=List.mem_range.1 d;have e:(bytesOf a)[b]! =UInt8.ofNat a[b]:=by
   have i:b<(bytesOf a).size:=by rw[jU];exact d
   rw[getElem!_pos (bytesOf a) b i];show(bytesOf a).data[b]=_;simp[bytesOf]
  rw[e,getElem!_pos a b d];have g:=hl a[b] (aC d);by_cases h:a[b]=c
  ·simp[h]
  ·have:UInt8.ofNat a[b]≠UInt8.ofNat c:=λk=>h (by
    have:=bP UInt8.toNat k;rwa[jJ g,jJ f]at this)
   rw[beq_eq_false_iff_ne.2 this,beq_eq_false_iff_ne.2 h]
 rw[this];cases (List.range a.length).find? (λb=>a[b]! ==c)<;>rfl
def FC{f:aj}{d:Func}(r:P.funcs[f]? =some d)(C:(d.name== "runtime.NumGoroutine")=false)(t:d.body.isNone=true)(B:Extern.findNext d=none)
 (z:Extern.find d=some Extern.BytealgIndexByte.indexByte):Dh P cx f .nU:=by
 intro k h K h' a base w μ n j s;have A:∃c b,k=[.str c,.int .u8 (.ofNat b)]/\b<256/\(dV (v7 b c 0) λi=>some (T.int .i64 i,h))=some (K,h'):=by
  unfold B2 at a;simp only at a;split at a
  ·rename_i c b;obtain⟨g,a⟩:=dT.1 a;rw[aH]at g;exact⟨c,b,rfl,g,a⟩
  ·simp at a
 obtain⟨c,b,rfl,u,a⟩:=A;obtain⟨l,L,y,I,E⟩:=s.mz;obtain⟨m,o,rfl,J,F⟩:=E.mz;have D:o=[]:=bj (by have:=F.1;simpa using this.symm);subst D;have v:n= #[l,m]:=by apply cC;rw[y]
 subst v;obtain⟨p,hl⟩:=I.lJ;have q:=J.jV;subst p q;obtain⟨i,e,a⟩:=dL.1 a;simp only[ar,az]at a;obtain⟨rfl,rfl⟩:=a;rw[run_callFunc_extern r C t B z];have G:=run_indexByte_string (P:=P) (bytesOf c) (Int.ofNat b) w;rw[G];have x:(Int.ofNat b).toNat.toUInt8=UInt8.ofNat b:=rfl;rw[x,firstIdx_eq hl u];rw[H8]at e;simp only[ar,Nat.zero_add]at e;rw[e];exact⟨⟨μ,.int _ _,j,pI.refl _ _,ye.refl _ _⟩,kW.refl j.wf⟩
end
end
noncomputable section
def fin(cf:iX)(d:H)(a:aa lH):aa (T×H):=dV a λa=>lH.casesOn a (λf e=>some (f,e)) (λc b=>cf c b d)
section
variable {cx:Ctx}{cf:iX}{mask:Nat}{ops:af Oper}
def yj(cx:Ctx)(cf:iX)(mask:Nat)(ops:af Oper)(b:Env)(a:H)(c:Oper):aa (T×H):=
 dV (kv ops mask b c.guard) λd=>Bool.casesOn d (some (.undef,a)) (fin cf a (jn c.op cx mask b a))
def qM{n:Type}(a:Env)(d:H)(b:Oper)(g:Env->H->aa n):
 (dV (ls cx cf mask ops a d b) λf=>two f g)=dV (yj cx cf mask ops a d b) λf=>two f λc e=>dV (a.dst mask b.dst c) λj=>g j e:=by
 unfold ls yj;cases kv ops mask a b.guard with
 |none=>rfl
 |some m=>
  simp only[dY];cases m with
  |false=>
   simp only[kC,dY];cases a.dst mask b.dst .undef<;>rfl
  |true=>
   simp only;unfold fin;cases jn b.op cx mask a d with
   |none=>rfl
   |some i=>
    simp only[dY];rcases i with⟨c,e⟩|⟨k,h⟩
    ·skip
     simp only[kC,dY];cases a.dst mask b.dst c<;>rfl
    ·skip
     simp only;cases cf k h d with
     |none=>rfl
     |some l=>
      obtain⟨c,e⟩:=l;simp only[kC,dY];cases a.dst mask b.dst c<;>rfl
end
def keys:fX->List Nat
 | .nil=>[]
 | .cons a _ b=>a::keys b
def HL{g d:fX}{b:Nat}{f:T}(k:b∈keys g)(a:lK g b f=some d):keys d=keys g:=by
 induction g generalizing d with
 |nil=>simp[keys]at k
 |cons c l e n=>
  have a: @Bool.rec (λ_=>aa fX) (dV (lK e b f) λi=>some (.cons c l i)) (some (.cons c f e)) (Nat.beq c b)=some d:=a;cases j:Nat.beq c b with
  |true=>
   rw[j]at a;have a:some (fX.cons c f e)=some d:=a;simp only[ar]at a;subst a;rfl
  |false=>
   rw[j]at a;have a:(dV (lK e b f) λi=>some (fX.cons c l i))=some d:=a;obtain⟨i,ht,a⟩:=dL.1 a;simp only[ar]at a;subst a;have m:=cP j;have:b∈keys e:=by
    rcases List.mem_cons.1 k with h|h
    ·exact absurd h.symm m
    ·exact h
   simp[keys,n this ht]
def Yx(K:List Nat)(c d:Env->H->Out):Prop:=∀a b,keys a.vars=K->c a b=d a b
def Q3(K:List Nat)(c:Env->H->Out):Prop:=∀a d f b e,keys a.vars=K->c a d=some (f,b,e)->keys b.vars=K
section
variable {cx:Ctx}{cf:iX}{mask fuel:Nat}{K:List Nat}
def OO(mask:Nat)(K:List Nat)(ops:af Oper):Bool:=ops.toList.all λb=>match b.dst with|some a=> !km mask a||K.contains a|none=>true
def tk(mask:Nat)(K:List Nat):Code->Bool
 | .region _ ops _=>OO mask K ops
 | .seq b a=>tk mask K b&&tk mask K a
 | .cond _ b a=>tk mask K b&&tk mask K a
 | .block _ a=>tk mask K a
 | .loop a=>tk mask K a
 |_=>true
def HN{h c:Env}{k:Oper}{g:T}(j:(match k.dst with|some b=> !km mask b||K.contains b|none=>true)=true)(d:keys h.vars=K)(a:h.dst mask k.dst g=some c):keys c.vars=K:=by
 cases l:k.dst with
 |none=>
  rw[l]at a;have a:some h=some c:=a;simp only[ar]at a;subst a;exact d
 |some b=>
  rw[l]at a j;obtain⟨e,i⟩:=h;have a: @Bool.rec (λ_=>aa Env) (some ⟨e,.cons b g i⟩) (dV (lK e b g) λf=>some ⟨f,i⟩) (km mask b)=some c:=a;cases hl:km mask b with
  |false=>
   rw[hl]at a;have a:some (⟨e,.cons b g i⟩:Env)=some c:=a;simp only[ar]at a;subst a;exact d
  |true=>
   rw[hl]at a;have a:(dV (lK e b g) λf=>some (⟨f,i⟩:Env))=some c:=a;obtain⟨f,m,a⟩:=dL.1 a;simp only[ar]at a;subst a;simp only[hl,cN,Bool.false_or]at j;have n:b∈keys e:=by
    have d:keys e=K:=d;rw[d];simpa using j
   show keys f=K;rw[HL n m];exact d
def EJ{b c:Env}{h i:H}{f:Oper}{ops:af Oper}(e:(match f.dst with|some g=> !km mask g||K.contains g|none=>true)=true)(d:keys b.vars=K)(j:ls cx cf mask ops b h f=some (c,i)):keys c.vars=K:=by
 rcases mQ j with⟨_,a,_⟩|⟨_,k,_,a⟩
 ·exact HN e d a
 ·exact HN e d a
def HM{ops:af Oper}:∀(e:List Oper) (d b:Env) (f c:H),(∀g∈e,(match g.dst with|some j=> !km mask j||K.contains j|none=>true)=true)->keys d.vars=K->ky cx cf mask ops e d f=some (b,c)->keys b.vars=K:=by
 intro e;induction e with
 |nil=>
  intro d b f c _ h a;have a:some (d,f)=some (b,c):=a;simp only[ar,az]at a;rw[<-a.1];exact h
 |cons g e o=>
  intro d b f c i h a;have a:(dV (ls cx cf mask ops d f g) λq=>two q λb c=>ky cx cf mask ops e b c)=some (b,c):=a;obtain⟨⟨k,l⟩,n,a⟩:=dL.1 a;exact o k b l c (λp m=>i p (by simp[m])) (EJ (i g dC) h n) a
def Fy{ops:af Oper}:∀(f:List Oper) (h:Nat) (c:Seen) (d a:Env) (g e:H),(∀j∈f,(match j.dst with|some c=> !km mask c||K.contains c|none=>true)=true)->keys d.vars=K->
 j3 cx cf mask ops f h c d g=some (a,e)->keys a.vars=K:=by
 intro f;induction f with
 |nil=>
  intro h c d a g e _ i b;have b:some (d,g)=some (a,e):=b;simp only[ar,az]at b;rw[<-b.1];exact i
 |cons j f q=>
  intro h c d a g e k i b;obtain⟨l,m,u,p,t,s,o,_⟩:=yl b;exact q (h+1) s l a m e (λr n=>k r (by simp[n])) (EJ (k j dC) i p) o
def G9{ops:af Oper}{j:Bool}(d:OO mask K ops=true):Q3 K (KJ cx cf mask ops j):=by
 intro m e l b c k a;unfold OO at d;have d:=List.all_eq_true.1 d;obtain⟨f,n⟩:=m;cases j with
 |false=>
  have a:(dV (ky cx cf mask ops ops.toList ⟨f,.nil⟩ e) λi=>two i λb c=>some (Ex.normal,(⟨b.vars,.nil⟩:Env),c))=some (l,b,c):=a;obtain⟨⟨g,h⟩,hr,a⟩:=dL.1 a;simp only[kC,ar,az]at a;obtain⟨_,rfl,_⟩:=a;exact HM ops.toList ⟨f,.nil⟩ g e h d k hr
 |true=>
  have a:(dV (j3 cx cf mask ops ops.toList 0 ⟨[],[]⟩ ⟨f,.nil⟩ e) λi=>two i λb c=>some (Ex.normal,(⟨b.vars,.nil⟩:Env),c))=some (l,b,c):=a;obtain⟨⟨g,h⟩,hr,a⟩:=dL.1 a;simp only[kC,ar,az]at a;obtain⟨_,rfl,_⟩:=a;exact Fy ops.toList 0 ⟨[],[]⟩ ⟨f,.nil⟩ g e h d k hr
def L8{g:Env->H->Out}(o:Q3 K g):∀e,Q3 K (oo g e):=by
 intro e;induction e with
 |zero=>intro i j d b c _ a;simp[oo]at a
 |succ e q=>
  intro i j d b c p a;have a:(dV (g i j) λr=>three r λd b c=> @Ex.rec (λ_=>Out) (oo g e b c) (λl=>some (.exit l,b,c)) (some (.ret,b,c)) d)=some (d,b,c):=a;obtain⟨⟨m,f,h⟩,n,a⟩:=dL.1 a;have k:=o i j m f h p n;cases m with
  |normal=>exact q f h d b c k a
  |exit l=>
   have a:some (Ex.exit l,f,h)=some (d,b,c):=a;simp only[ar,az]at a;obtain⟨_,rfl,_⟩:=a;exact k
  |ret=>
   have a:some (Ex.ret,f,h)=some (d,b,c):=a;simp only[ar,az]at a;obtain⟨_,rfl,_⟩:=a;exact k
def L9:∀(o:Code),tk mask K o=true->Q3 K (j8 cx cf fuel mask o):=by
 intro o;have v:∀{d:Ex},Q3 K (λe f=>some (d,e,f)):=by
  intro d e f m b c h a;simp only[ar,az]at a;rw[<-a.2.1];exact h
 induction o with
 |skip=>intro _;exact v
 |exit id=>intro _;exact v
 |ret=>intro _;exact v
 |region id ops A=>intro g;exact G9 g
 |seq p k s t=>
  intro g e f d b c h a;simp only[tk,ay]at g;have a:(dV (j8 cx cf fuel mask p e f) λu=>three u λd b c=> @Ex.rec (λ_=>Out) (j8 cx cf fuel mask k b c) (λi=>some (.exit i,b,c)) (some (.ret,b,c)) d)=some (d,b,c):=a;obtain⟨⟨m,j,l⟩,q,a⟩:=dL.1 a;have n:=s g.1 e f m j l h q;cases m with
  |normal=>exact t g.2 j l d b c n a
  |exit i=>
   have a:some (Ex.exit i,j,l)=some (d,b,c):=a;simp only[ar,az]at a;obtain⟨_,rfl,_⟩:=a;exact n
  |ret=>
   have a:some (Ex.ret,j,l)=some (d,b,c):=a;simp only[ar,az]at a;obtain⟨_,rfl,_⟩:=a;exact n
 |cond z p k s t=>
  intro g e f d b c h a;simp only[tk,ay]at g;have a:(dV (fR cx mask e z) λx=>match x with
   | .bool w=> @Bool.rec (λ_=>Out) (j8 cx cf fuel mask k e f) (j8 cx cf fuel mask p e f) w
   |_=>none)=some (d,b,c):=a
  obtain⟨x,B,a⟩:=dL.1 a;cases x<;>simp only[reduceCtorEq]at a;rename_i w;cases w with
  |true=>exact s g.1 e f d b c h a
  |false=>exact t g.2 e f d b c h a
 |block id k r=>
  intro g e f d b c h a;have a:(dV (j8 cx cf fuel mask k e f) λu=>three u λd b c=> @Ex.rec (λ_=>Out) (some (.normal,b,c)) (λi=> @Bool.rec (λ_=>Out) (some (.exit i,b,c)) (some (.normal,b,c)) (Nat.beq i id)) (some (.ret,b,c)) d)=some (d,b,c):=a;obtain⟨⟨m,j,l⟩,q,a⟩:=dL.1 a;have n:=r g e f m j l h q;have:b=j:=by
   cases m with
   |normal=>simp only[kP,ar,az]at a;exact a.2.1.symm
   |exit i=>simp only[kP]at a;cases y:Nat.beq i id<;>rw[y]at a<;>simp only[ar,az]at a<;>exact a.2.1.symm
   |ret=>simp only[kP,ar,az]at a;exact a.2.1.symm
  rw[this];exact n
 |loop k r=>intro g;exact L8 (r g) fuel
 |_=>intro _ e f d b c _ a;exact absurd a (by simp[j8])
def Yx.refl(a:Env->H->Out):Yx K a a:=λ_ _ _=>rfl
def Yx.seq{c e:Code}{d f:Env->H->Out}(n:tk mask K c=true)(j:Yx K (j8 cx cf fuel mask c) d)(l:Yx K (j8 cx cf fuel mask e) f):Yx K (j8 cx cf fuel mask (.seq c e)) (BR d f):=by
 intro a b g;show BR (j8 cx cf fuel mask c) (j8 cx cf fuel mask e) a b=BR d f a b;unfold BR;rw[j a b g];cases o:d a b with
 |none=>rfl
 |some p=>
  obtain⟨k,h,i⟩:=p;have m:=L9 (cx:=cx) (cf:=cf) (fuel:=fuel) c n a b k h i g (by rw[j a b g];exact o);simp only[dY,kP];cases k with
  |normal=>exact l h i m
  |exit q=>rfl
  |ret=>rfl
end
end
noncomputable section
section
variable {P:ai}{cx:Ctx}{cf:iX}{mask fuel:Nat}{K:List Nat}
def sR:Op->Bool
 | .load .. | .indexAddr .. | .slice .. | .convert .. | .lookup .. | .alloc .. | .box .. | .buildSlice .. | .makeSlice .. | .range .. | .makeMap .. =>true
 |_=>false
def KD(c:af Oper):Bool:=
 let e:=Kj c.toList []
 let d:=c.toList.zipIdx
 d.all λa=>d.all λb=> !Nat.blt b.2 a.2|| !((sR b.1.op&&iB a.1.op)||(iB b.1.op&&(sR a.1.op||iB a.1.op)))||(e.getD a.2 0).testBit b.2
def vw{f:af Oper}(h:KD f=true){b c:Nat}{e d:Oper}(l:f[b]? =some e)(n:f[c]? =some d)(m:b<c)
 (o:(sR e.op=true/\iB d.op=true)\/(iB e.op=true/\(sR d.op=true\/iB d.op=true))):jN f b c=true:=by
 unfold KD at h;have j:=List.all_eq_true.1 h (d,c) (mem_zipIdx n);have a:=List.all_eq_true.1 j (e,b) (mem_zipIdx l);have k:Nat.blt b c=true:=by rw[aH];exact m
 simp only[k,cN,Bool.false_or,cm,ci]at a;rcases a with a|a
 ·exfalso;rcases o with⟨i,g⟩|⟨i,g|g⟩<;>simp[i,g]at a
 ·exact a
def HF{c:Env}{d:H}{a:Op}{b:Nat}(e:gG cx mask c d a=some b):sR a=true:=by
 cases a<;>first|rfl|(simp[gG]at e)
def E7{c:af Oper}(y:KD c=true):∀(j:List Oper) (b:Nat) (e:Seen) (f:Env) (g:H),(∀l,j[l]? =c[b+l]?)->
 (∀a∈e.mn,a.1<b/\∃d,c[a.1]? =some d/\sR d.op=true)->(∀a∈e.kT,a.1<b/\∃d,c[a.1]? =some d/\iB d.op=true)->
 j3 cx cf mask c j b e f g=ky cx cf mask c j f g:=by
 intro j;induction j with
 |nil=>intro b e f g _ _ _;rfl
 |cons d j v=>
  intro b e f g hl x q;have m:c[b]? =some d:=by have:=hl 0;simpa using this.symm
  have s:∀l,j[l]? =c[b+1+l]? :=λl=>by
   have:=hl (l+1);simp only[dq]at this;rw[this];congr 1;omega
  show(dV (ls cx cf mask c f g d) λa=>two a λk h=>
   dV (kv c mask f d.guard) λL=> @Bool.rec (λ_=>aa (Env×H)) (j3 cx cf mask c j (b+1) e k h)
    (@Bool.rec (λ_=>aa (Env×H))
      (@Option.rec Nat (λ_=>aa (Env×H)) (j3 cx cf mask c j (b+1) e k h)
        (λi=>gh (og c b i e.kT) (j3 cx cf mask c j (b+1) ⟨(b,i)::e.mn,e.kT⟩ k h)) (gG cx mask f g d.op))
      (gh (xj c b g h e.mn) (gh (qK cx mask c b f e.kT d.op) (j3 cx cf mask c j (b+1) ⟨e.mn,(b,g,h)::e.kT⟩ k h))) (iB d.op)) L)
   =dV (ls cx cf mask c f g d) λa=>two a λC D=>ky cx cf mask c j C D
  cases I:ls cx cf mask c f g d with
  |none=>rfl
  |some a=>
   obtain⟨k,h⟩:=a;simp only[dY,kC];have t:∀a∈e.mn,a.1<b+1/\∃d,c[a.1]? =some d/\sR d.op=true:=λa hp=>⟨by have:=(x a hp).1;omega,(x a hp).2⟩;have r:∀a∈e.kT,a.1<b+1/\∃d,c[a.1]? =some d/\iB d.op=true:=λa hp=>⟨by have:=(q a hp).1;omega,(q a hp).2⟩;have J:∃z,kv c mask f d.guard=some z:=by
    rcases mQ I with⟨u,_⟩|⟨u,_⟩<;>exact⟨_,u⟩
   obtain⟨z,u⟩:=J;rw[u];simp only[dY];cases z with
   |false=>exact v (b+1) e k h s t r
   |true=>
    simp only;cases w:iB d.op with
    |true=>
     have:xj c b g h e.mn=true:=by
      unfold xj;rw[y9,cv];intro a hp;obtain⟨n,B,o,p⟩:=x a hp;have:=vw y o m n (.inl ⟨p,w⟩);show @Bool.rec (λ_=>Bool) (jN c a.1 b) true (ff g h a.2)=true;rw[this];cases ff g h a.2<;>rfl
     have E:∀i,og c b i e.kT=true:=λi=>by
      unfold og;rw[y9,cv];intro a hp;obtain⟨n,B,o,p⟩:=q a hp;have:=vw y o m n (.inr ⟨p,.inr w⟩);show @Bool.rec (λ_=>Bool) (jN c a.1 b) true (ff a.2.1 a.2.2 i)=true;rw[this];cases ff a.2.1 a.2.2 i<;>rfl
     have F:qK cx mask c b f e.kT d.op=true:=by
      unfold qK;split
      ·rename_i l M N _;cases dV (fR cx mask f M) dU with
       |none=>rfl
       |some i=>exact E i
      ·rfl
     simp only[this,F,ir];refine v (b+1) _ k h s t λa hp=> ?_;rcases List.mem_cons.1 hp with rfl|hp
     ·exact⟨dC,d,m,w⟩
     ·exact r a hp
    |false=>
     simp only;cases G:gG cx mask f g d.op with
     |none=>exact v (b+1) e k h s t r
     |some i=>
      have A:=HF G;have:og c b i e.kT=true:=by
       unfold og;rw[y9,cv];intro a hp;obtain⟨n,B,o,p⟩:=q a hp;have:=vw y o m n (.inr ⟨p,.inl A⟩);show @Bool.rec (λ_=>Bool) (jN c a.1 b) true (ff a.2.1 a.2.2 i)=true;rw[this];cases ff a.2.1 a.2.2 i<;>rfl
      simp only[this,ir];refine v (b+1) _ k h s (λa hp=> ?_) r;rcases List.mem_cons.1 hp with rfl|hp
      ·exact⟨dC,d,m,A⟩
      ·exact t a hp
abbrev qm:=iX->Nat->List T->H->aa (T×H)
def mg(P:ai)(cx:Ctx)(i:aj)(j:qm):Prop:=
 ∀cf,nH P cx cf->∀k d b h g,j cf k d b=some (h,g)->∀e a c (f:af am),St cx e a.heap c b->gJ a.heap c d f.toList->ze P (qB cx e a c b h g) ((callFunc i f).run P a)
def pw(i:P.follows .mixedOrders=true)(iZ:jd P cx){b:aj}{F:Fun}(f:P.funcs[b]? =some F.fn)(j:xf F=true):mg P cx b (λcf d a c=>sX cx cf d F.fn F.mask F.kS a c):=by
 intro cf e d a c o n h l p q m k g;exact Kh i iZ e f j h k g
def xG{c:aj}{d:Prim}(j:Dh P cx c d):mg P cx c (λ_ _ a b=>B2 d a b):=by
 intro cf o p a b k g i e m n f l h;exact j a b k g i e m n f l h
def Im(ft:aj->aa qm)(a:Nat):iX:=
 @Nat.rec (λ_=>iX) (λ_ _ _=>none) (λa f c b e=>dV (ft c) λd=>d f a b e) a
def AQ{ft:aj->aa qm}(m:∀c d,ft c=some d->mg P cx c d):∀a,nH P cx (Im ft a):=by
 intro a;induction a with
 |zero=>intro c e f h g b;simp[Im]at b
 |succ a n=>
  intro c e f h g b i p q j o k;have b:(dV (ft c) λd=>d (Im ft a) a e f)=some (h,g):=b;obtain⟨d,l,b⟩:=dL.1 b;exact m c d l (Im ft a) n a e f h g b i p q j o k
end
def faV(off:Nat)(a:H)(i:T):aa lH:=match i with
 | .ptr b e f g=>dV (hU (Nat.add g off)) λh=>some (.val (.ptr b e f h) a)
 | .jB c=>dV (jX off c) λd=>some (.val (.jB d) a)
 |_=>none
def exV(a:H)(c:T)(b:Nat):aa lH:=match c with| .tuple d=>val a (md d b)|_=>none
def aeb(a:H)(e:T):aa lH:=match e with
 | .dN b _=>val a (dV (hU (kR b)) λd=>some (.int .i64 (.ofNat d)))
 | .gu=>val a (some (.int .i64 0))
 | .arr _ _ _ c _=>val a (some (.int .i64 (.ofNat c)))
 |_=>none
end
noncomputable section
inductive Tree (α:Type) where
 |nil
 |node (l:Tree α) (k:Nat) (v:α) (r:Tree α)
def Tree.find{a:Type}(f:Tree a)(b:Nat):aa a:=
 @Tree.rec a (λ_=>aa a) none (λ_ c g _ d e=> @Bool.rec (λ_=>aa a) (@Bool.rec (λ_=>aa a) e d (Nat.blt b c)) (some g) (Nat.beq b c)) f
def Tree.toList{a:Type}:Tree a->List (Nat×a)
 | .nil=>[]
 | .node c b e d=>c.toList++(b,e)::d.toList
def Tree.PM{e:Type}{g:Tree e}{b:Nat}{d:e}(a:g.find b=some d):(b,d)∈g.toList:=by
 induction g with
 |nil=>simp[Tree.find]at a
 |node m c h n k l=>
  have a: @Bool.rec (λ_=>aa e) (@Bool.rec (λ_=>aa e) (n.find b) (m.find b) (Nat.blt b c)) (some h) (Nat.beq b c)=some d:=a;simp only[Tree.toList,cF,cw];cases f:Nat.beq b c with
  |true=>
   rw[f]at a;have i:=aD f;have j:h=d:=Option.some.inj a;rw[i,j];exact .inr (.inl rfl)
  |false=>
   rw[f]at a;cases hl:Nat.blt b c with
   |true=>rw[hl]at a;exact .inl (k a)
   |false=>rw[hl]at a;exact .inr (.inr (l a))
inductive Tree.Rn {α:Type} (p:Nat->α->Prop):Tree α->Prop where
 |nil:Rn p .nil
 |node {l:Tree α} {k:Nat} {v:α} {r:Tree α}:Rn p l->p k v->Rn p r->Rn p (.node l k v r)
def Tree.Rn.find{b:Type}{e:Nat->b->Prop}{f:Tree b}(h:f.Rn e){d:Nat}{g:b}(c:f.find d=some g):e d g:=by
 have a:=Tree.PM c;clear c;induction h with
 |nil=>simp[Tree.toList]at a
 |node hl i hr j k=>
  simp only[Tree.toList,cF,cw,az]at a;rcases a with h|⟨rfl,rfl⟩|h
  ·exact j h
  ·exact i
  ·exact k h
end
end Go.TI
