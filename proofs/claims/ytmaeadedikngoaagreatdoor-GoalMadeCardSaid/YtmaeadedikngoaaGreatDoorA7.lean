/- Texts TiPrim to TiTab. -/
import Derived.Test.YtmaeadedikngoaaGreatDoorA6
import Derived.Laws.Externs
set_option linter.unusedVariables false
set_option linter.unusedSimpArgs false
namespace Go.TI
noncomputable section
section
variable {P:ai}{cx:Ctx}{base:Nat}{w:World}{μ:Mu}{h h':H}
def C9(a b:ab):Code:=
 (Code.region 0 #[{dst:=some 2,op:=Op.assign (Operand.const (Value.slice none 0 0)),type:=a,pos:= "slices.go:355",after:= #[],guard:=none}] false).seq
   ((
    (Code.region 1 #[{dst:=some 3,op:=Op.move (Operand.tmp 0),type:=a,pos:= "slices.go:357",after:= #[],guard:=none},
       {dst:=some 4,op:=Op.binOp BinOp.eql a (Operand.tmp 3) (Operand.const (Value.slice none 0 0)) a,type:=b,pos:= "slices.go:357",after:= #[{on:=0,ground:=Ground.data}],guard:=none}] false).seq
       (Code.cond (Operand.tmp 4)
         ((Code.region 2 #[{dst:=some 2,op:=Op.assign (Operand.const (Value.slice none 0 0)),type:=a,pos:= "slices.go:358",after:= #[],guard:=none}] false).seq Code.ret)
         Code.skip)).seq
    ((
     Code.region 3 #[{dst:=some 5,op:=Op.buildSlice a 0 #[],type:=a,pos:= "slices.go:362",after:= #[],guard:=none},
       {dst:=some 6,op:=Op.move (Operand.tmp 0),type:=a,pos:= "slices.go:362",after:= #[],guard:=none},
       {dst:=some 7,op:=Op.call {callee:=Callee.builtin Builtin.append,args:= #[Operand.tmp 5,Operand.tmp 6],argTypes:= #[a,a]},type:=a,pos:= "slices.go:362",
        after:= #[{on:=0,ground:=Ground.data},{on:=1,ground:=Ground.data}],guard:=none},
       {dst:=some 2,op:=Op.assign (Operand.tmp 7),type:=a,pos:= "slices.go:362",
        after:= #[{on:=2,ground:=Ground.data},{on:=2,ground:=Ground.chain},{on:=0,ground:=Ground.phase},{on:=1,ground:=Ground.phase},{on:=2,ground:=Ground.phase}],guard:=none}] false).seq
     Code.ret))
theorem lZ{c:af Oper}{d:Exit->Act->World->Prop}{i:Nat}{rest:List Nat}{b:Act}{w w':World}{a:Oper}{v:am}(f:c[i]? =some a)(e:a.guard=none)
 (g:(execOp b.eval a).run P w= .ok (.value v) w') (h:wpOps P c d rest (b.put a.dst v) w'):wpOps P c d (i::rest) b w:=by
 rw[wpOps_cons]
 unfold wpOp
 simp only[f]
 have j:Region.wanted a (yielded c b.tmps)=true:=by simp[Region.wanted,e]
 simp only[j,aY]
 left
 simp only[Oper.wp,g,Oper.upon]
 exact h
theorem uM(iB:iG P cx){s:aj}{fn:Func}{t tb:ab}{K bytes:Nat}{te:Ty}(A:P.funcs[s]? =some fn)(bn:(fn.name== "runtime.NumGoroutine")=false)(B:fn.body=some (C9 t tb))(bk:fn.ntmps=8)
 (hr:fn.results= #[.tmp 2]) (o:oF cx t=some te) (bz:te.size=K) (an:te.bytes=bytes):B1 P cx s (.clone K bytes):=by
 intro z h f h' a base w μ L l X
 subst bz an
 have Z:∃g,z=[g]:=by
  match z,a with
  | [g],_=>exact⟨g,rfl⟩
 obtain⟨g,rfl⟩:=Z
 obtain⟨c,M,aA,G,bu⟩:=X.ll
 have bp:M=[]:=bh (by have:=bu.1;simpa using this.symm)
 subst bp
 have ap:L= #[c]:=by apply co;rw[aA]
 subst ap
 have a:(dB (h.iy g) λb=> @List.rec T (λ_=>aa (T×H)) (some (.dq [] false,h)) (λ_ _ _=>h.iA te.size te.bytes [] b) b)=some (f,h'):=a
 obtain⟨b,E,a⟩:=dj.1 a
 obtain⟨k,C,bB⟩:=tQ iB o
 obtain⟨c4,b7⟩:=nj (P:=P) l G E
 obtain⟨d,m,c1,a8,cL,ce,cX,av⟩:=b7.form
 rw[m9 A bn B]
 show Calls P s #[c] w _
 refine calls_of_wp A B ?_
 have Y:({tmps:= #[c]++Array.replicate (fn.ntmps-(#[c]:af am).size) Go.undef,defers:=[]}:Act)={tmps:= #[c,Go.undef,Go.undef,Go.undef,Go.undef,Go.undef,Go.undef,Go.undef],defers:=[]}:=by
  rw[bk];rfl
 rw[Y]
 unfold C9
 refine wp_seq (wp_region ?_)
 refine lZ (i:=0) (rest:=[]) rfl rfl (v:= .slice none 0 0) (w':=w) (by simp[execOp,Act.eval]) ?_
 refine wp_seq (wp_seq (wp_region ?_))
 refine lZ (i:=0) (rest:=[1]) rfl rfl (v:=c) (w':=w) (by simp[execOp,Act.eval,Act.put]) ?_
 refine lZ (i:=1) (rest:=[]) rfl rfl (v:= .bool d.isNone) (w':=w) ?_ ?_
 ·have bi:∀q:am,(eqGuard .eql t (.tmp 3) (.const (.slice none 0 0)) (.slice d b.length m) (.slice none 0 0)).run P w= .ok () w:=λ_=>by simp[eqGuard]
  have aX:∀I,(Op.equalIn (I+1) t (.slice d b.length m) (.slice none 0 0)).run P w= .ok d.isNone w:=by
   intro I
   cases d<;>simp[Op.equalIn,run_underlying C]
  have aN:(binOp .eql t (.slice d b.length m) (.slice none 0 0)).run P w= .ok (.bool d.isNone) w:=by
   show(do pure (Value.bool (<-Op.equal t (.slice d b.length m) (.slice none 0 0))):Sem am).run P w=_
   have V:(Op.equal t (.slice d b.length m) (.slice none 0 0)).run P w= .ok d.isNone w:=aX 9999
   rw[Sem.run_bind,V]
   rfl
  rw[a8]
  simp[execOp,Act.eval,Act.put,Sem.run_bind,bi Go.undef,aN]
 have J:∀(j:Act) (w':World) (v:am),j.defers=[]->j.tmps.getD 2 Go.undef=v->pK cx base w μ h f h' v w'->
  bodyPost P fn (λU ca=>match U with| .returned v=>pK cx base w μ h f h' v ca|_=>False) .ret j w':=by
  intro j w' v aE bX W
  refine⟨aE,v,?_,W⟩
  rw[AH,hr,Sem.run_bind]
  have:(#[ResultVar.tmp 2].mapM (mT j.tmps)).run P w'= .ok #[j.tmps.getD 2 Go.undef] w':=by
   rw[show #[ResultVar.tmp 2]=[ResultVar.tmp 2].toArray from rfl,List.mapM_toArray,List.mapM_cons]
   simp[mT]
  rw[this,bX]
  rfl
 cases bs:d with
 |none=>
  have a6:b=[]:=by
   rcases av with⟨_,r⟩|⟨y,r,_⟩
   ·exact r
   ·rw[bs]at r;simp at r
  rw[a6]at a
  have a:some (T.dq [] false,h)=some (f,h'):=a
  simp only[ar,ax]at a
  obtain⟨rfl,rfl⟩:=a
  refine wp_cond_true (by simp[Act.eval,Act.put]) ?_
  refine wp_seq (wp_region ?_)
  refine lZ (i:=0) (rest:=[]) rfl rfl (v:= .slice none 0 0) (w':=w) (by simp[execOp,Act.eval]) ?_
  refine wp_ret ?_
  refine J _ w (.slice none 0 0) rfl (by simp[Act.put]) ⟨⟨μ,.mP _ _,l,oI.refl _ _,wZ.refl _ _⟩,kv.refl l.wf⟩
 |some y=>
  refine wp_cond_false (by simp[Act.eval,Act.put]) ?_
  refine wp_skip ?_
  refine wp_seq (wp_region ?_)
  have al:(Instr.buildSlice t 0 #[]).run P w= .ok (.slice (some ⟨w.heap.size,0,none⟩) 0 0) (w.alloc (.cells #[] k)):=by
   simp[Instr.buildSlice,run_underlying C,(iB.ty _ _ bB).run_sizeOf,Instr.fill,newRow]
   congr 2
   apply Array.ext<;>simp
  refine lZ (i:=0) (rest:=[1,2,3]) rfl rfl (v:= .slice (some ⟨w.heap.size,0,none⟩) 0 0) (w':=(w.alloc (.cells #[] k))) (by simp[execOp,al]) ?_
  obtain⟨b8,F⟩:=l.grow (hp':=w.heap.push (.cells #[] k)) (by simp) (by intro i cp;rw[Array.getElem?_push];simp;omega)
  have b6:=G.ext F
  refine lZ (i:=1) (rest:=[2,3]) rfl rfl (v:=c) (w':=(w.alloc (.cells #[] k))) (by simp[execOp,Act.eval,Act.put]) ?_
  have ae:iu cx h t t (.dq [] false) g=some (.val f h'):=by
   unfold iu
   rw[o]
   have bv:mf cx h t g=some b:=by
    unfold mf
    unfold oF at o
    obtain⟨b9,bN,D⟩:=dj.1 o
    rw[bN]
    simp only[dD]
    cases bT:b9.u<;>rw[bT]at D<;>simp only[reduceCtorEq]at D
    exact E
   rw[bv]
   simp only[dD]
   cases b with
   |nil=>
    have a:some (T.dq [] false,h)=some (f,h'):=a
    simp only[ar,ax]at a
    obtain⟨rfl,rfl⟩:=a
    rfl
   |cons n b=>
    have a:h.iA te.size te.bytes [] (n::b)=some (f,h'):=a
    have a7:fits te.size (n::b)=true:=by
     have e:=a
     unfold H.iA at e
     simp only[oO,dD,gD,iX]at e
     obtain⟨_,e⟩:=dz.1 e
     obtain⟨_,e⟩:=dz.1 e
     obtain⟨_,e⟩:=dz.1 e
     exact(dz.1 e).1
    rw[a7,fO]
    show iV (h.iA te.size te.bytes [] (n::b))=_
    rw[iS];exact a
  obtain⟨v,x,cb,N,O,Q,R,S⟩:=wh (P:=P) (w:=(w.alloc (.cells #[] k))) (ty':=t) iB b8 (p:= .dq [] false) (c:= .slice (some ⟨w.heap.size,0,none⟩) 0 0) (.mP _ _) b6 ae
  refine lZ (i:=2) (rest:=[3]) rfl rfl (v:=v) (w':=x) (by simp[execOp,resolve,invoke,builtin,Act.eval,Act.put,N]) ?_
  refine lZ (i:=3) (rest:=[]) rfl rfl (v:=v) (w':=x) (by simp[execOp,Act.eval,Act.put]) ?_
  refine wp_ret ?_
  refine J _ x v rfl (by simp[Act.put]) ⟨⟨cb,O,Q,?_,S⟩,?_⟩
  ·exact oI.trans (w1:=w.alloc (.cells #[] k)) ⟨F,rfl,rfl,rfl⟩ R
  ·cases b with
   |nil=>
    have a:some (T.dq [] false,h)=some (f,h'):=a
    simp only[ar,ax]at a
    obtain⟨rfl,rfl⟩:=a
    exact kv.refl l.wf
   |cons n b=>exact nV l.wf a
theorem Gp(c:Nat):∀(a:List Nat) (d:Nat),uJ c a d=some (match(List.range a.length).find? (λb=>a[b]! ==c)with|some b=>((d+b:Nat):Int)|none=>-1):=by
 intro a
 induction a with
 |nil=>intro d;rfl
 |cons e a l=>
  intro d
  have i:uJ c (e::a) d= @Bool.rec (λ_=>aa Int) (dB (fF (Nat.succ d)) λk=>uJ c a k) (some (.ofNat d)) (Nat.beq e c):=rfl
  rw[i]
  have hr:List.range (a.length+1)=0::(List.range a.length).map (· +1):=List.range_succ_eq_map
  rw[aZ,hr,List.find?_cons]
  cases f:Nat.beq e c with
  |true=>
   have:=aC f
   subst this
   simp
  |false=>
   have j:=cJ f
   have g:((e::a)[0]! ==c)=false:=by simpa using j
   rw[g]
   simp only[gD,dD]
   rw[l (d+1),List.find?_map]
   have:((λb=>(e::a)[b]! ==c)∘λb=>b+1)=λb=>a[b]! ==c:=by
    funext b;simp
   rw[this]
   cases (List.range a.length).find? (λb=>a[b]! ==c)with
   |none=>rfl
   |some b=>simp only[cI,ar];congr 1;omega
theorem xE{d:Type}{b c:d->Bool}:∀{a:List d},(∀x∈a,b x=c x)->a.find? b=a.find? c
 | [],_=>rfl
 |x::a,h=>by
  rw[List.find?_cons,List.find?_cons,h x (by simp),xE λf e=>h f (by simp[e])]
theorem firstIdx_eq{a:List Nat}(hl:∀l∈a,l<256){c:Nat}(f:c<256):firstIdx (bytesOf a) (UInt8.ofNat c)=match(List.range a.length).find? (λb=>a[b]! ==c)with|some b=>((b:Nat):Int)|none=>-1:=by
 unfold firstIdx
 rw[jp]
 have:(List.range a.length).find? (λj=>(bytesOf a)[j]! ==UInt8.ofNat c)=(List.range a.length).find? (λb=>a[b]! ==c):=by
  apply xE
  intro b d
  have d:b<a.length:=List.mem_range.1 d
  have e:(bytesOf a)[b]! =UInt8.ofNat a[b]:=by
   have i:b<(bytesOf a).size:=by rw[jp];exact d
   rw[getElem!_pos (bytesOf a) b i]
   show(bytesOf a).data[b]=_
   simp[bytesOf]
  rw[e,getElem!_pos a b d]
  have g:=hl a[b] (aF d)
  by_cases h:a[b]=c
  ·simp[h]
  ·have:UInt8.ofNat a[b]≠UInt8.ofNat c:=λk=>h (by
    have:=bO UInt8.toNat k
    rwa[jb g,jb f]at this)
   rw[beq_eq_false_iff_ne.2 this,beq_eq_false_iff_ne.2 h]
 rw[this]
 cases (List.range a.length).find? (λb=>a[b]! ==c)<;>rfl
theorem DO{f:aj}{d:Func}(r:P.funcs[f]? =some d)(C:(d.name== "runtime.NumGoroutine")=false)(t:d.body.isNone=true)(B:Extern.findNext d=none)
 (z:Extern.find d=some Extern.BytealgIndexByte.indexByte):B1 P cx f .mY:=by
 intro k h K h' a base w μ n j s
 have A:∃c b,k=[.str c,.int .u8 (.ofNat b)]/\b<256/\(dB (uJ b c 0) λi=>some (T.int .i64 i,h))=some (K,h'):=by
  unfold AP at a
  simp only at a
  split at a
  ·rename_i c b
   obtain⟨g,a⟩:=dz.1 a
   rw[aG]at g
   exact⟨c,b,rfl,g,a⟩
  ·simp at a
 obtain⟨c,b,rfl,u,a⟩:=A
 obtain⟨l,L,y,I,E⟩:=s.ll
 obtain⟨m,o,rfl,J,F⟩:=E.ll
 have D:o=[]:=bh (by have:=F.1;simpa using this.symm)
 subst D
 have v:n= #[l,m]:=by apply co;rw[y]
 subst v
 obtain⟨p,hl⟩:=I.kR
 have q:=J.jr
 subst p q
 obtain⟨i,e,a⟩:=dj.1 a
 simp only[ar,ax]at a
 obtain⟨rfl,rfl⟩:=a
 rw[run_callFunc_extern r C t B z]
 have G:=run_indexByte_string (P:=P) (bytesOf c) (Int.ofNat b) w
 rw[G]
 have x:(Int.ofNat b).toNat.toUInt8=UInt8.ofNat b:=rfl
 rw[x,firstIdx_eq hl u]
 rw[Gp]at e
 simp only[ar,Nat.zero_add]at e
 rw[e]
 exact⟨⟨μ,.int _ _,j,oI.refl _ _,wZ.refl _ _⟩,kv.refl j.wf⟩
end
end
noncomputable section
def fin(cf:ir)(d:H)(a:aa kx):aa (T×H):=dB a λa=>kx.casesOn a (λf e=>some (f,e)) (λc b=>cf c b d)
def ad2(a:H)(c:aa T):aa (T×H):=Option.casesOn c none λb=>some (b,a)
def ad4(a:H)(b:Bool)(d:aa Bool):aa (T×H):=Bool.casesOn b none (Option.casesOn d none λc=>Bool.casesOn c (some (.bool false,a)) (some (.bool true,a)))
def ad3(a:H)(b:Bool)(d:aa Bool):aa (T×H):=Bool.casesOn b none (Option.casesOn d none λc=>Bool.casesOn c (some (.bool true,a)) (some (.bool false,a)))
section
variable {cx:Ctx}{cf:ir}{mask:Nat}{ops:af Oper}
def xa(cx:Ctx)(cf:ir)(mask:Nat)(ops:af Oper)(b:Env)(a:H)(c:Oper):aa (T×H):=
 dB (jU ops mask b c.guard) λd=>Bool.casesOn d (some (.undef,a)) (fin cf a (iO c.op cx mask b a))
theorem pS{n:Type}(a:Env)(d:H)(b:Oper)(g:Env->H->aa n):
 (dB (kK cx cf mask ops a d b) λf=>two f g)=dB (xa cx cf mask ops a d b) λf=>two f λc e=>dB (a.dst mask b.dst c) λj=>g j e:=by
 unfold kK xa
 cases jU ops mask a b.guard with
 |none=>rfl
 |some m=>
  simp only[dD]
  cases m with
  |false=>
   simp only[jX,dD]
   cases a.dst mask b.dst .undef<;>rfl
  |true=>
   simp only
   unfold fin
   cases iO b.op cx mask a d with
   |none=>rfl
   |some i=>
    simp only[dD]
    cases i with
    |val c e=>
     simp only[jX,dD]
     cases a.dst mask b.dst c<;>rfl
    |«call» k h=>
     simp only
     cases cf k h d with
     |none=>rfl
     |some l=>
      obtain⟨c,e⟩:=l
      simp only[jX,dD]
      cases a.dst mask b.dst c<;>rfl
end
def keys:eZ->List Nat
 | .nil=>[]
 | .cons a _ b=>a::keys b
theorem FQ{g d:eZ}{b:Nat}{f:T}(k:b∈keys g)(a:kT g b f=some d):keys d=keys g:=by
 induction g generalizing d with
 |nil=>simp[keys]at k
 |cons c l e n=>
  have a: @Bool.rec (λ_=>aa eZ) (dB (kT e b f) λi=>some (.cons c l i)) (some (.cons c f e)) (Nat.beq c b)=some d:=a
  cases j:Nat.beq c b with
  |true=>
   rw[j]at a
   have a:some (eZ.cons c f e)=some d:=a
   simp only[ar]at a;subst a;rfl
  |false=>
   rw[j]at a
   have a:(dB (kT e b f) λi=>some (eZ.cons c l i))=some d:=a
   obtain⟨i,ht,a⟩:=dj.1 a
   simp only[ar]at a;subst a
   have m:=cJ j
   have:b∈keys e:=by
    rcases List.mem_cons.1 k with h|h
    ·exact absurd h.symm m
    ·exact h
   simp[keys,n this ht]
def Xe(K:List Nat)(c d:Env->H->Out):Prop:=∀a b,keys a.vars=K->c a b=d a b
def OR(K:List Nat)(c:Env->H->Out):Prop:=∀a d f b e,keys a.vars=K->c a d=some (f,b,e)->keys b.vars=K
section
variable {cx:Ctx}{cf:ir}{mask fuel:Nat}{K:List Nat}
def MK(mask:Nat)(K:List Nat)(ops:af Oper):Bool:=ops.toList.all λb=>match b.dst with|some a=> !jJ mask a||K.contains a|none=>true
def rM(mask:Nat)(K:List Nat):Code->Bool
 | .region _ ops _=>MK mask K ops
 | .seq b a=>rM mask K b&&rM mask K a
 | .cond _ b a=>rM mask K b&&rM mask K a
 | .block _ a=>rM mask K a
 | .loop a=>rM mask K a
 |_=>true
theorem FS{h c:Env}{k:Oper}{g:T}(j:(match k.dst with|some b=> !jJ mask b||K.contains b|none=>true)=true)(d:keys h.vars=K)(a:h.dst mask k.dst g=some c):keys c.vars=K:=by
 cases l:k.dst with
 |none=>
  rw[l]at a
  have a:some h=some c:=a
  simp only[ar]at a;subst a;exact d
 |some b=>
  rw[l]at a j
  obtain⟨e,i⟩:=h
  have a: @Bool.rec (λ_=>aa Env) (some ⟨e,.cons b g i⟩) (dB (kT e b g) λf=>some ⟨f,i⟩) (jJ mask b)=some c:=a
  cases hl:jJ mask b with
  |false=>
   rw[hl]at a
   have a:some (⟨e,.cons b g i⟩:Env)=some c:=a
   simp only[ar]at a;subst a;exact d
  |true=>
   rw[hl]at a
   have a:(dB (kT e b g) λf=>some (⟨f,i⟩:Env))=some c:=a
   obtain⟨f,m,a⟩:=dj.1 a
   simp only[ar]at a;subst a
   simp only[hl,cH,Bool.false_or]at j
   have n:b∈keys e:=by
    have d:keys e=K:=d
    rw[d];simpa using j
   show keys f=K
   rw[FQ n m];exact d
theorem CX{b c:Env}{h i:H}{f:Oper}{ops:af Oper}(e:(match f.dst with|some g=> !jJ mask g||K.contains g|none=>true)=true)(d:keys b.vars=K)(j:kK cx cf mask ops b h f=some (c,i)):keys c.vars=K:=by
 rcases mc j with⟨_,a,_⟩|⟨_,k,_,a⟩
 ·exact FS e d a
 ·exact FS e d a
theorem FR{ops:af Oper}:∀(e:List Oper) (d b:Env) (f c:H),(∀g∈e,(match g.dst with|some j=> !jJ mask j||K.contains j|none=>true)=true)->keys d.vars=K->j2 cx cf mask ops e d f=some (b,c)->keys b.vars=K:=by
 intro e
 induction e with
 |nil=>
  intro d b f c _ h a
  have a:some (d,f)=some (b,c):=a
  simp only[ar,ax]at a
  rw[<-a.1];exact h
 |cons g e o=>
  intro d b f c i h a
  have a:(dB (kK cx cf mask ops d f g) λq=>two q λb c=>j2 cx cf mask ops e b c)=some (b,c):=a
  obtain⟨⟨k,l⟩,n,a⟩:=dj.1 a
  exact o k b l c (λp m=>i p (by simp[m])) (CX (i g (by simp)) h n) a
theorem DM{ops:af Oper}:∀(f:List Oper) (h:Nat) (c:Seen) (d a:Env) (g e:H),(∀j∈f,(match j.dst with|some c=> !jJ mask c||K.contains c|none=>true)=true)->keys d.vars=K->
 jx cx cf mask ops f h c d g=some (a,e)->keys a.vars=K:=by
 intro f
 induction f with
 |nil=>
  intro h c d a g e _ i b
  have b:some (d,g)=some (a,e):=b
  simp only[ar,ax]at b
  rw[<-b.1];exact i
 |cons j f q=>
  intro h c d a g e k i b
  obtain⟨l,m,u,p,t,s,o,_⟩:=xd b
  exact q (h+1) s l a m e (λr n=>k r (by simp[n])) (CX (k j (by simp)) i p) o
theorem Fe{ops:af Oper}{j:Bool}(d:MK mask K ops=true):OR K (Ja cx cf mask ops j):=by
 intro m e l b c k a
 unfold MK at d
 have d:=List.all_eq_true.1 d
 obtain⟨f,n⟩:=m
 cases j with
 |false=>
  have a:(dB (j2 cx cf mask ops ops.toList ⟨f,.nil⟩ e) λi=>two i λb c=>some (Ex.normal,(⟨b.vars,.nil⟩:Env),c))=some (l,b,c):=a
  obtain⟨⟨g,h⟩,hr,a⟩:=dj.1 a
  simp only[jX,ar,ax]at a
  obtain⟨_,rfl,_⟩:=a
  exact FR ops.toList ⟨f,.nil⟩ g e h d k hr
 |true=>
  have a:(dB (jx cx cf mask ops ops.toList 0 ⟨[],[]⟩ ⟨f,.nil⟩ e) λi=>two i λb c=>some (Ex.normal,(⟨b.vars,.nil⟩:Env),c))=some (l,b,c):=a
  obtain⟨⟨g,h⟩,hr,a⟩:=dj.1 a
  simp only[jX,ar,ax]at a
  obtain⟨_,rfl,_⟩:=a
  exact DM ops.toList 0 ⟨[],[]⟩ ⟨f,.nil⟩ g e h d k hr
theorem Ks{g:Env->H->Out}(o:OR K g):∀e,OR K (ni g e):=by
 intro e
 induction e with
 |zero=>intro i j d b c _ a;simp[ni]at a
 |succ e q=>
  intro i j d b c p a
  have a:(dB (g i j) λr=>three r λd b c=> @Ex.rec (λ_=>Out) (ni g e b c) (λl=>some (.exit l,b,c)) (some (.ret,b,c)) d)=some (d,b,c):=a
  obtain⟨⟨m,f,h⟩,n,a⟩:=dj.1 a
  have k:=o i j m f h p n
  cases m with
  |normal=>exact q f h d b c k a
  |exit l=>
   have a:some (Ex.exit l,f,h)=some (d,b,c):=a
   simp only[ar,ax]at a
   obtain⟨_,rfl,_⟩:=a;exact k
  |ret=>
   have a:some (Ex.ret,f,h)=some (d,b,c):=a
   simp only[ar,ax]at a
   obtain⟨_,rfl,_⟩:=a;exact k
theorem Kt:∀(o:Code),rM mask K o=true->OR K (jy cx cf fuel mask o):=by
 intro o
 have v:∀{d:Ex},OR K (λe f=>some (d,e,f)):=by
  intro d e f m b c h a
  simp only[ar,ax]at a
  rw[<-a.2.1];exact h
 induction o with
 |skip=>intro _;exact v
 |exit id=>intro _;exact v
 |ret=>intro _;exact v
 |region id ops A=>intro g;exact Fe g
 |seq p k s t=>
  intro g e f d b c h a
  simp only[rM,ay]at g
  have a:(dB (jy cx cf fuel mask p e f) λu=>three u λd b c=> @Ex.rec (λ_=>Out) (jy cx cf fuel mask k b c) (λi=>some (.exit i,b,c)) (some (.ret,b,c)) d)=some (d,b,c):=a
  obtain⟨⟨m,j,l⟩,q,a⟩:=dj.1 a
  have n:=s g.1 e f m j l h q
  cases m with
  |normal=>exact t g.2 j l d b c n a
  |exit i=>
   have a:some (Ex.exit i,j,l)=some (d,b,c):=a
   simp only[ar,ax]at a
   obtain⟨_,rfl,_⟩:=a;exact n
  |ret=>
   have a:some (Ex.ret,j,l)=some (d,b,c):=a
   simp only[ar,ax]at a
   obtain⟨_,rfl,_⟩:=a;exact n
 |cond z p k s t=>
  intro g e f d b c h a
  simp only[rM,ay]at g
  have a:(dB (eJ cx mask e z) λx=>match x with
   | .bool w=> @Bool.rec (λ_=>Out) (jy cx cf fuel mask k e f) (jy cx cf fuel mask p e f) w
   |_=>none)=some (d,b,c):=a
  obtain⟨x,B,a⟩:=dj.1 a
  cases x<;>simp only[reduceCtorEq]at a
  rename_i w
  cases w with
  |true=>exact s g.1 e f d b c h a
  |false=>exact t g.2 e f d b c h a
 |block id k r=>
  intro g e f d b c h a
  have a:(dB (jy cx cf fuel mask k e f) λu=>three u λd b c=> @Ex.rec (λ_=>Out) (some (.normal,b,c)) (λi=> @Bool.rec (λ_=>Out) (some (.exit i,b,c)) (some (.normal,b,c)) (Nat.beq i id)) (some (.ret,b,c)) d)=some (d,b,c):=a
  obtain⟨⟨m,j,l⟩,q,a⟩:=dj.1 a
  have n:=r g e f m j l h q
  have:b=j:=by
   cases m with
   |normal=>simp only[km,ar,ax]at a;exact a.2.1.symm
   |exit i=>simp only[km]at a;cases y:Nat.beq i id<;>rw[y]at a<;>simp only[ar,ax]at a<;>exact a.2.1.symm
   |ret=>simp only[km,ar,ax]at a;exact a.2.1.symm
  rw[this];exact n
 |loop k r=>intro g;exact Ks (r g) fuel
 |_=>intro _ e f d b c _ a;exact absurd a (by simp[jy])
theorem Xe.refl(a:Env->H->Out):Xe K a a:=λ_ _ _=>rfl
theorem Xe.seq{c e:Code}{d f:Env->H->Out}(n:rM mask K c=true)(j:Xe K (jy cx cf fuel mask c) d)(l:Xe K (jy cx cf fuel mask e) f):Xe K (jy cx cf fuel mask (.seq c e)) (AF d f):=by
 intro a b g
 show AF (jy cx cf fuel mask c) (jy cx cf fuel mask e) a b=AF d f a b
 unfold AF
 rw[j a b g]
 cases o:d a b with
 |none=>rfl
 |some p=>
  obtain⟨k,h,i⟩:=p
  have m:=Kt (cx:=cx) (cf:=cf) (fuel:=fuel) c n a b k h i g (by rw[j a b g];exact o)
  simp only[dD,km]
  cases k with
  |normal=>exact l h i m
  |exit q=>rfl
  |ret=>rfl
end
end
noncomputable section
section
variable {P:ai}{cx:Ctx}{cf:ir}{mask fuel:Nat}{K:List Nat}
def ry:Op->Bool
 | .load .. | .indexAddr .. | .slice .. | .convert .. | .lookup .. | .alloc .. | .box .. | .buildSlice .. | .makeSlice .. | .range .. | .makeMap .. =>true
 |_=>false
def I3(c:af Oper):Bool:=
 let e:=IJ c.toList []
 let d:=c.toList.zipIdx
 d.all λa=>d.all λb=> !Nat.blt b.2 a.2|| !((ry b.1.op&&fZ a.1.op)||(fZ b.1.op&&(ry a.1.op||fZ a.1.op)))||(e.getD a.2 0).testBit b.2
theorem ul{f:af Oper}(h:I3 f=true){b c:Nat}{e d:Oper}(l:f[b]? =some e)(n:f[c]? =some d)(m:b<c)
 (o:(ry e.op=true/\fZ d.op=true)\/(fZ e.op=true/\(ry d.op=true\/fZ d.op=true))):jg f b c=true:=by
 unfold I3 at h
 have j:=List.all_eq_true.1 h (d,c) (mem_zipIdx n)
 have a:=List.all_eq_true.1 j (e,b) (mem_zipIdx l)
 have k:Nat.blt b c=true:=by rw[aG];exact m
 simp only[k,cH,Bool.false_or,bR,bP]at a
 rcases a with a|a
 ·exfalso
  rcases o with⟨i,g⟩|⟨i,g|g⟩<;>simp[i,g]at a
 ·exact a
theorem FN{c:Env}{d:H}{a:Op}{b:Nat}(e:fk cx mask c d a=some b):ry a=true:=by
 cases a<;>first|rfl|(simp[fk]at e)
theorem Do{c:af Oper}(y:I3 c=true):∀(j:List Oper) (b:Nat) (e:Seen) (f:Env) (g:H),(∀l,j[l]? =c[b+l]?)->
 (∀a∈e.ly,a.1<b/\∃d,c[a.1]? =some d/\ry d.op=true)->(∀a∈e.kt,a.1<b/\∃d,c[a.1]? =some d/\fZ d.op=true)->
 jx cx cf mask c j b e f g=j2 cx cf mask c j f g:=by
 intro j
 induction j with
 |nil=>intro b e f g _ _ _;rfl
 |cons d j v=>
  intro b e f g hl x q
  have m:c[b]? =some d:=by have:=hl 0;simpa using this.symm
  have s:∀l,j[l]? =c[b+1+l]? :=λl=>by
   have:=hl (l+1)
   simp only[cZ]at this
   rw[this];congr 1;omega
  show(dB (kK cx cf mask c f g d) λa=>two a λk h=>
   dB (jU c mask f d.guard) λL=> @Bool.rec (λ_=>aa (Env×H)) (jx cx cf mask c j (b+1) e k h)
    (@Bool.rec (λ_=>aa (Env×H))
      (@Option.rec Nat (λ_=>aa (Env×H)) (jx cx cf mask c j (b+1) e k h)
        (λi=>fy (nh c b i e.kt) (jx cx cf mask c j (b+1) ⟨(b,i)::e.ly,e.kt⟩ k h)) (fk cx mask f g d.op))
      (fy (v8 c b g h e.ly) (fy (pR cx mask c b f e.kt d.op) (jx cx cf mask c j (b+1) ⟨e.ly,(b,g,h)::e.kt⟩ k h))) (fZ d.op)) L)
   =dB (kK cx cf mask c f g d) λa=>two a λC D=>j2 cx cf mask c j C D
  cases I:kK cx cf mask c f g d with
  |none=>rfl
  |some a=>
   obtain⟨k,h⟩:=a
   simp only[dD,jX]
   have t:∀a∈e.ly,a.1<b+1/\∃d,c[a.1]? =some d/\ry d.op=true:=λa hp=>⟨by have:=(x a hp).1;omega,(x a hp).2⟩
   have r:∀a∈e.kt,a.1<b+1/\∃d,c[a.1]? =some d/\fZ d.op=true:=λa hp=>⟨by have:=(q a hp).1;omega,(q a hp).2⟩
   have J:∃z,jU c mask f d.guard=some z:=by
    rcases mc I with⟨u,_⟩|⟨u,_⟩<;>exact⟨_,u⟩
   obtain⟨z,u⟩:=J
   rw[u]
   simp only[dD]
   cases z with
   |false=>exact v (b+1) e k h s t r
   |true=>
    simp only
    cases w:fZ d.op with
    |true=>
     have:v8 c b g h e.ly=true:=by
      unfold v8
      rw[xR,cu]
      intro a hp
      obtain⟨n,B,o,p⟩:=x a hp
      have:=ul y o m n (.inl ⟨p,w⟩)
      show @Bool.rec (λ_=>Bool) (jg c a.1 b) true (dY g h a.2)=true
      rw[this]
      cases dY g h a.2<;>rfl
     have E:∀i,nh c b i e.kt=true:=λi=>by
      unfold nh
      rw[xR,cu]
      intro a hp
      obtain⟨n,B,o,p⟩:=q a hp
      have:=ul y o m n (.inr ⟨p,.inr w⟩)
      show @Bool.rec (λ_=>Bool) (jg c a.1 b) true (dY a.2.1 a.2.2 i)=true
      rw[this]
      cases dY a.2.1 a.2.2 i<;>rfl
     have F:pR cx mask c b f e.kt d.op=true:=by
      unfold pR
      split
      ·rename_i l M N _
       cases dB (eJ cx mask f M) dE with
       |none=>rfl
       |some i=>exact E i
      ·rfl
     simp only[this,F,fO]
     refine v (b+1) _ k h s t λa hp=> ?_
     rcases List.mem_cons.1 hp with rfl|hp
     ·exact⟨by simp,d,m,w⟩
     ·exact r a hp
    |false=>
     simp only
     cases G:fk cx mask f g d.op with
     |none=>exact v (b+1) e k h s t r
     |some i=>
      have A:=FN G
      have:nh c b i e.kt=true:=by
       unfold nh
       rw[xR,cu]
       intro a hp
       obtain⟨n,B,o,p⟩:=q a hp
       have:=ul y o m n (.inr ⟨p,.inl A⟩)
       show @Bool.rec (λ_=>Bool) (jg c a.1 b) true (dY a.2.1 a.2.2 i)=true
       rw[this]
       cases dY a.2.1 a.2.2 i<;>rfl
      simp only[this,fO]
      refine v (b+1) _ k h s (λa hp=> ?_) r
      rcases List.mem_cons.1 hp with rfl|hp
      ·exact⟨by simp,d,m,A⟩
      ·exact t a hp
abbrev pk:=ir->Nat->List T->H->aa (T×H)
def lV(P:ai)(cx:Ctx)(i:aj)(j:pk):Prop:=
 ∀cf,mN P cx cf->∀k d b h g,j cf k d b=some (h,g)->∀e a c (f:af am),St cx e a.heap c b->fI a.heap c d f.toList->xV P (pK cx e a c b h g) ((callFunc i f).run P a)
theorem ou(i:P.follows .mixedOrders=true)(iB:iG P cx){b:aj}{F:Fun}(f:P.funcs[b]? =some F.fn)(j:vY F=true):lV P cx b (λcf d a c=>rG cx cf d F.fn F.mask F.j8 a c):=by
 intro cf e d a c o n h l p q m k g
 exact IH i iB e f j h k g
theorem wB{c:aj}{d:Prim}(j:B1 P cx c d):lV P cx c (λ_ _ a b=>AP d a b):=by
 intro cf o p a b k g i e m n f l h
 exact j a b k g i e m n f l h
def GI(ft:aj->aa pk)(a:Nat):ir:=
 @Nat.rec (λ_=>ir) (λ_ _ _=>none) (λa f c b e=>dB (ft c) λd=>d f a b e) a
theorem GH{ft:aj->aa pk}(m:∀c d,ft c=some d->lV P cx c d):∀a,mN P cx (GI ft a):=by
 intro a
 induction a with
 |zero=>intro c e f h g b;simp[GI]at b
 |succ a n=>
  intro c e f h g b i p q j o k
  have b:(dB (ft c) λd=>d (GI ft a) a e f)=some (h,g):=b
  obtain⟨d,l,b⟩:=dj.1 b
  exact m c d l (GI ft a) n a e f h g b i p q j o k
end
def Q9(c:T)(a:Bool):aa Bool:=match c with
 | .bool b=>some (Bool.casesOn b (Bool.casesOn a true false) a)
 |_=>some false
def P1(c:Bool)(a b:T):Bool:=match a with
 | .ka=>(match b with| .ka=>c|_=>true)
 |_=>true
def faV(off:Nat)(a:H)(i:T):aa kx:=match i with
 | .ptr b e f g=>dB (fF (Nat.add g off)) λh=>some (.val (.ptr b e f h) a)
 | .iT c=>dB (je off c) λd=>some (.val (.iT d) a)
 |_=>none
def isV(c:H)(e a:T):aa kx:=dB (mR a) λa=>match e with| .str d=>dB (kW d a) λb=>val c (some (.int .u8 (.ofNat b)))|_=>none
def Yp(a:H)(d b c:T):aa kx:=match d with
 | .bool e=>Bool.casesOn e (val a (some c)) (val a (some b))
 |_=>none
def Vp(c:H)(a:T):aa kx:=fy a.fT (iV (c.new (λb=> .ptr b 0 0 0) (kz (kc a.cells) true [a])))
def exV(a:H)(c:T)(b:Nat):aa kx:=match c with| .tuple d=>val a (kW d b)|_=>none
def Y4(a:H)(e:T):aa kx:=match e with
 | .dq b _=>val a (dB (fF (kc b)) λd=>some (.int .i64 (.ofNat d)))
 | .fg=>val a (some (.int .i64 0))
 | .arr _ _ _ c _=>val a (some (.int .i64 (.ofNat c)))
 |_=>none
def adF(a:H)(d:T):aa kx:=match d with
 | .str c=>val a (dB (fF (kc c)) λb=>some (.int .i64 (.ofNat b)))
 |_=>none
end
noncomputable section
inductive Tree (α:Type) where
 |nil
 |node (l:Tree α) (k:Nat) (v:α) (r:Tree α)
def Tree.find{a:Type}(f:Tree a)(b:Nat):aa a:=
 @Tree.rec a (λ_=>aa a) none (λ_ c g _ d e=> @Bool.rec (λ_=>aa a) (@Bool.rec (λ_=>aa a) e d (Nat.blt b c)) (some g) (Nat.beq b c)) f
def Tree.toList{a:Type}:Tree a->List (Nat×a)
 | .nil=>[]
 | .node c b e d=>c.toList++(b,e)::d.toList
theorem Tree.NK{e:Type}{g:Tree e}{b:Nat}{d:e}(a:g.find b=some d):(b,d)∈g.toList:=by
 induction g with
 |nil=>simp[Tree.find]at a
 |node m c h n k l=>
  have a: @Bool.rec (λ_=>aa e) (@Bool.rec (λ_=>aa e) (n.find b) (m.find b) (Nat.blt b c)) (some h) (Nat.beq b c)=some d:=a
  simp only[Tree.toList,List.mem_append,cv]
  cases f:Nat.beq b c with
  |true=>
   rw[f]at a
   have i:=aC f
   have j:h=d:=Option.some.inj a
   rw[i,j]
   exact .inr (.inl rfl)
  |false=>
   rw[f]at a
   cases hl:Nat.blt b c with
   |true=>rw[hl]at a;exact .inl (k a)
   |false=>rw[hl]at a;exact .inr (.inr (l a))
inductive Tree.Q6 {α:Type} (p:Nat->α->Prop):Tree α->Prop where
 |nil:Q6 p .nil
 |node {l:Tree α} {k:Nat} {v:α} {r:Tree α}:Q6 p l->p k v->Q6 p r->Q6 p (.node l k v r)
theorem Tree.Q6.find{b:Type}{e:Nat->b->Prop}{f:Tree b}(h:f.Q6 e){d:Nat}{g:b}(c:f.find d=some g):e d g:=by
 have a:=Tree.NK c
 clear c
 induction h with
 |nil=>simp[Tree.toList]at a
 |node hl i hr j k=>
  simp only[Tree.toList,List.mem_append,cv,ax]at a
  rcases a with h|⟨rfl,rfl⟩|h
  ·exact j h
  ·exact i
  ·exact k h
end
end Go.TI
