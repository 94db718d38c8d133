/- TiPrim -/
import Derived.Test.YtbappgeamhmmbaaGreatDoorA4
import Derived.Laws.Externs
set_option linter.all false
namespace Go.TI
noncomputable section
section
section
variable {P:ai}{cx:Ctx}{base:Nat}{w:World}{μ:Mu}{h h':H}
def Ei(a b:ab):Code:=
 (Code.region 0 #[{dst:=some 2,op:=Op.assign (Operand.const (Value.slice none 0 0)),type:=a,pos:= "slices.go:355",after:= #[],guard:=none}] false).seq
   ((
    (Code.region 1 #[{dst:=some 3,op:=Op.move (Operand.tmp 0),type:=a,pos:= "slices.go:357",after:= #[],guard:=none},
       {dst:=some 4,op:=Op.binOp BinOp.eql a (Operand.tmp 3) (Operand.const (Value.slice none 0 0)) a,type:=b,pos:= "slices.go:357",after:= #[{on:=0,ground:=Ground.data}],guard:=none}] false).seq
       (Code.cond (Operand.tmp 4)
         ((Code.region 2 #[{dst:=some 2,op:=Op.assign (Operand.const (Value.slice none 0 0)),type:=a,pos:= "slices.go:358",after:= #[],guard:=none}] false).seq Code.ret)
         Code.skip)).seq
    ((
     Code.region 3 #[{dst:=some 5,op:=Op.buildSlice a 0 #[],type:=a,pos:= "slices.go:362",after:= #[],guard:=none},
       {dst:=some 6,op:=Op.move (Operand.tmp 0),type:=a,pos:= "slices.go:362",after:= #[],guard:=none},
       {dst:=some 7,op:=Op.call {callee:=Callee.builtin Builtin.append,args:= #[Operand.tmp 5,Operand.tmp 6],argTypes:= #[a,a]},type:=a,pos:= "slices.go:362",
        after:= #[{on:=0,ground:=Ground.data},{on:=1,ground:=Ground.data}],guard:=none},
       {dst:=some 2,op:=Op.assign (Operand.tmp 7),type:=a,pos:= "slices.go:362",
        after:= #[{on:=2,ground:=Ground.data},{on:=2,ground:=Ground.chain},{on:=0,ground:=Ground.phase},{on:=1,ground:=Ground.phase},{on:=2,ground:=Ground.phase}],guard:=none}] false).seq
     Code.ret))
def mz{c:af Oper}{d:Exit->Act->World->Prop}{i:Nat}{rest:List Nat}{b:Act}{w w':World}{a:Oper}{v:am}(f:c[i]? =some a)(e:a.guard=none)
 (g:(execOp b.eval a).run P w= .ok (.value v) w') (h:wpOps P c d rest (b.put a.dst v) w'):wpOps P c d (i::rest) b w:=by
 rw[wpOps_cons];unfold wpOp;simp only[f];have j:Region.wanted a (yielded c b.tmps)=true:=by simp[Region.wanted,e]
 simp only[j,bj];left;simp only[Oper.wp,g,Oper.upon];exact h
def rf(iU:iG P cx){o:aj}{fn:Func}{t tb:ab}{K bytes:Nat}{te:Ty}(x:P.funcs[o]? =some fn)(bz:(fn.name== "runtime.NumGoroutine")=false)(z:fn.body=some (Ei t tb))(bu:fn.ntmps=8)
 (hr:fn.results= #[.tmp 2]) (n:pS cx t=some te) (bN:te.size=K) (aA:te.bytes=bytes):C2 P cx o (.clone K bytes):=by
 intro s h e h' a base w μ L j ae;subst bN aA;have an:∃k,s=[k]:=by
  match s,a with
  | [k],_=>simp
 obtain⟨k,rfl⟩:=an;have⟨c,N,aN,F,bC⟩:=ae.mg;have bB:N=[]:=aS (by have:=bC.1;grind);subst bB;have aE:L= #[c]:=by apply ci;rw[aN]
 subst aE;have a:(M (h.jf k) λb=> @List.rec T (λ_=>aa (T×H)) (some (.Y [] false,h)) (λ_ _ _=>h.ja te.size te.bytes [] b) b)=some (e,h'):=a;have⟨b,bi,a⟩:=dB.1 a;have⟨g,A,bS⟩:=ui iU n;have⟨di,b9⟩:=nJ (P:=P) j F bi;have⟨d,l,de,bn,c7,cL,dd,c1⟩:=b9.form;rw[nl x bz z];show Calls P o #[c] w _;refine calls_of_wp x z ?_;have al:({tmps:= #[c]++Array.replicate (fn.ntmps-(#[c]:af am).size) Go.undef,defers:=[]}:Act)={tmps:= #[c,Go.undef,Go.undef,Go.undef,Go.undef,Go.undef,Go.undef,Go.undef],defers:=[]}:=by
  rw[bu];rfl
 rw[al];unfold Ei;refine wp_seq (wp_region ?_);refine mz (i:=0) (rest:=[]) rfl rfl (v:= .slice none 0 0) (w':=w) (by rfl) ?_;refine wp_seq (wp_seq (wp_region ?_));refine mz (i:=0) (rest:=[1]) rfl rfl (v:=c) (w':=w) (by rfl) ?_;refine mz (i:=1) (rest:=[]) rfl rfl (v:= .bool d.isNone) (w':=w) ?_ ?_
 ·have bs:∀q:am,(eqGuard .eql t (.tmp 3) (.const (.slice none 0 0)) (.slice d b.length l) (.slice none 0 0)).run P w= .ok () w:=λ_=>by rfl
  have a8:∀G,(Op.equalIn (G+1) t (.slice d b.length l) (.slice none 0 0)).run P w= .ok d.isNone w:=by
   intro G;cases d<;>simp[Op.equalIn,run_underlying A]
  have a7:(binOp .eql t (.slice d b.length l) (.slice none 0 0)).run P w= .ok (.bool d.isNone) w:=by
   show(do pure (Value.bool (<-Op.equal t (.slice d b.length l) (.slice none 0 0))):Sem am).run P w=_;have W:(Op.equal t (.slice d b.length l) (.slice none 0 0)).run P w= .ok d.isNone w:=a8 9999;rw[Sem.run_bind,W];rfl
  rw[bn];simp[execOp,Act.eval,Act.put,Sem.run_bind,bs Go.undef,a7]
 have I:∀(f:Act) (w':World) (v:am),f.defers=[]->f.tmps.getD 2 Go.undef=v->pV cx base w μ h e h' v w'->
  bodyPost P fn (λV ce=>match V with| .returned v=>pV cx base w μ h e h' v ce|_=>False) .ret f w':=by
  intro f w' v aX b7 X;refine⟨aX,v,?_,X⟩;rw[BE,hr,Sem.run_bind];have:(#[ResultVar.tmp 2].mapM (pi f.tmps)).run P w'= .ok #[f.tmps.getD 2 Go.undef] w':=by
   rw[show #[ResultVar.tmp 2]=[ResultVar.tmp 2].toArray from rfl,List.mapM_toArray,List.mapM_cons];rfl
  rw[this,b7];rfl
 cases c9:d with
 |none=>
  have bk:b=[]:=by
   grind
  rw[bk]at a;have a:some (T.Y [] false,h)=some (e,h'):=a;simp only[ar,aB]at a;obtain⟨rfl,rfl⟩:=a;refine wp_cond_true (by rfl) ?_;refine wp_seq (wp_region ?_);refine mz (i:=0) (rest:=[]) rfl rfl (v:= .slice none 0 0) (w':=w) (by rfl) ?_;refine wp_ret ?_;refine I _ w (.slice none 0 0) rfl (by rfl) ⟨⟨μ,.mX _ _,j,oS.refl _ _,xJ.refl _ _⟩,kJ.refl j.wf⟩
 |some y=>
  refine wp_cond_false (by rfl) ?_;refine wp_skip ?_;refine wp_seq (wp_region ?_);have av:(Instr.buildSlice t 0 #[]).run P w= .ok (.slice (some ⟨w.heap.size,0,none⟩) 0 0) (w.alloc (.cells #[] g)):=by
   simp[Instr.buildSlice,run_underlying A,(iU.ty _ _ bS).run_sizeOf,Instr.fill,newRow];congr 2;apply Array.ext<;>simp
  refine mz (i:=0) (rest:=[1,2,3]) rfl rfl (v:= .slice (some ⟨w.heap.size,0,none⟩) 0 0) (w':=(w.alloc (.cells #[] g))) (by simp[execOp,av]) ?_;have⟨ca,E⟩:=j.grow (hp':=w.heap.push (.cells #[] g)) J (by intro i c6;rw[cX];grind);have b8:=F.ext E;refine mz (i:=1) (rest:=[2,3]) rfl rfl (v:=c) (w':=(w.alloc (.cells #[] g))) (by rfl) ?_;have ap:iN cx h t t (.Y [] false) k=some (.val e h'):=by
   unfold iN;rw[n];have bH:m7 cx h t k=some b:=by
    unfold m7;unfold pS at n;have⟨cb,bT,C⟩:=dB.1 n;rw[bT];simp only[dS];cases b6:cb.u<;>rw[b6]at C<;>simp only[reduceCtorEq]at C;omega
   rw[bH];simp only[dS];cases b with
   |nil=>
    have a:some (T.Y [] false,h)=some (e,h'):=a;simp only[ar,aB]at a;obtain⟨rfl,rfl⟩:=a;rfl
   |cons m b=>
    have a:h.ja te.size te.bytes [] (m::b)=some (e,h'):=a;have bl:fits te.size (m::b)=true:=by
     have c4:=a
     grind [H.ja,jz,gX,dS,pf,dJ]
    rw[bl,il];show jl (h.ja te.size te.bytes [] (m::b))=_;rw[iX];exact a
  have⟨v,r,cp,O,Q,R,S,U⟩:=wW (P:=P) (w:=(w.alloc (.cells #[] g))) (ty':=t) iU ca (p:= .Y [] false) (c:= .slice (some ⟨w.heap.size,0,none⟩) 0 0) (.mX _ _) b8 ap;refine mz (i:=2) (rest:=[3]) rfl rfl (v:=v) (w':=r) (by simp[execOp,resolve,invoke,builtin,Act.eval,Act.put,O]) ?_;refine mz (i:=3) (rest:=[]) rfl rfl (v:=v) (w':=r) (by simp[execOp,Act.eval,Act.put]) ?_;refine wp_ret ?_;refine I _ r v rfl (by simp[Act.put]) ⟨⟨cp,Q,R,?_,U⟩,?_⟩
  ·exact oS.trans (w1:=w.alloc (.cells #[] g)) ⟨E,rfl,rfl,rfl⟩ S
  ·cases b with
   |nil=>
    have a:some (T.Y [] false,h)=some (e,h'):=a;simp only[ar,aB]at a;obtain⟨rfl,rfl⟩:=a;exact kJ.refl j.wf
   |cons m b=>exact om j.wf a
def Ha(c:Nat):∀(a:List Nat) (d:Nat),vl c a d=some (match(List.range a.length).find? (λb=>a[b]! ==c)with|some b=>((d+b:Nat):Int)|none=>-1):=by
 intro a;induction a with
 |nil=>intro d;rfl
 |cons e a l=>
  intro d;have i:vl c (e::a) d= @Bool.rec (λ_=>aa Int) (M (fU (Nat.succ d)) λk=>vl c a k) (some (.ofNat d)) (Nat.beq e c):=rfl;rw[i];have hr:List.range (a.length+1)=0::(List.range a.length).map (· +1):=List.range_succ_eq_map;rw[aY,hr,List.find?_cons];cases f:Nat.beq e c with
  |true=>
   have:=aC f;subst this;simp
  |false=>
   have j:=cD f;have g:((e::a)[0]! ==c)=false:=by simpa using j
   rw[g];simp only[gX,dS];rw[l (d+1),List.find?_map];have:((λb=>(e::a)[b]! ==c)∘λb=>b+1)=λb=>a[b]! ==c:=by
    funext b;simp
   rw[this]
   grind
def yD{d:Type}{b c:d->Bool}:∀{a:List d},(∀x∈a,b x=c x)->a.find? b=a.find? c
 | [],_=>rfl
 |x::a,h=>by
  rw[List.find?_cons,List.find?_cons,h x J,yD λe f=>h e (by grind)]
def firstIdx_eq{a:List Nat}(hl:∀l∈a,l<256){c:Nat}(f:c<256):firstIdx (bytesOf a) (UInt8.ofNat c)=match(List.range a.length).find? (λb=>a[b]! ==c)with|some b=>((b:Nat):Int)|none=>-1:=by
 unfold firstIdx;rw[jH];have:(List.range a.length).find? (λj=>(bytesOf a)[j]! ==UInt8.ofNat c)=(List.range a.length).find? (λb=>a[b]! ==c):=by
  apply yD;intro b d;have d:b<a.length:=List.mem_range.1 d;have e:(bytesOf a)[b]! =UInt8.ofNat a[b]:=by
   have i:b<(bytesOf a).size:=by rw[jH];exact d
   rw[getElem!_pos (bytesOf a) b i];show(bytesOf a).data[b]=_;simp[bytesOf]
  rw[e,getElem!_pos a b d];have g:=hl a[b] (aD d);by_cases h:a[b]=c
  ·simp[h]
  ·have:UInt8.ofNat a[b]≠UInt8.ofNat c:=λk=>h (by
    have:=bG UInt8.toNat k;rwa[jo g,jo f]at this)
   rw[beq_eq_false_iff_ne.2 this,beq_eq_false_iff_ne.2 h]
 rw[this];cases (List.range a.length).find? (λb=>a[b]! ==c)<;>rfl
def ET{f:aj}{c:Func}(r:P.funcs[f]? =some c)(E:(c.name== "runtime.NumGoroutine")=false)(t:c.body.isNone=true)(C:Extern.findNext c=none)
 (z:Extern.find c=some Extern.BytealgIndexByte.indexByte):C2 P cx f .ng:=by
 intro j h O h' a base w μ m i s;have A:∃d b,j=[.str d,.int .u8 (.ofNat b)]/\b<256/\(M (vl b d 0) λg=>some (T.int .i64 g,h))=some (O,h'):=by
  unfold yk at a;simp only at a;split at a
  ·rename_i d b;obtain⟨q,a⟩:=dJ.1 a;rw[aF]at q
   grind
  grind
 obtain⟨d,b,rfl,u,a⟩:=A;obtain⟨k,Q,y,L,G⟩:=s.mg;obtain⟨l,n,rfl,N,I⟩:=G.mg;have F:n=[]:=aS (by have:=I.1;grind);subst F;have v:m= #[k,l]:=by apply ci;rw[y]
 subst v;obtain⟨o,hl⟩:=L.kz;have p:=N.jI;subst o p;obtain⟨g,e,a⟩:=dB.1 a;simp only[ar,aB]at a;obtain⟨rfl,rfl⟩:=a;rw[run_callFunc_extern r E t C z];have K:=run_indexByte_string (P:=P) (bytesOf d) (Int.ofNat b) w;rw[K];have x:(Int.ofNat b).toNat.toUInt8=UInt8.ofNat b:=rfl;rw[x,firstIdx_eq hl u];rw[Ha]at e;simp only[ar,cB]at e;rw[e];exact⟨⟨μ,.int _ _,i,oS.refl _ _,xJ.refl _ _⟩,kJ.refl i.wf⟩
end
end
section
def fin(cf:iH)(d:H)(a:aa kC):aa (T×H):=M a λa=>kC.casesOn a (λf e=>some (f,e)) (λc b=>cf c b d)
def afM(a:H)(c:aa T):aa (T×H):=Option.casesOn c none λb=>some (b,a)
def afO(a:H)(b:Bool)(d:aa Bool):aa (T×H):=Bool.casesOn b none (Option.casesOn d none λc=>Bool.casesOn c (some (.bool false,a)) (some (.bool true,a)))
def afN(a:H)(b:Bool)(d:aa Bool):aa (T×H):=Bool.casesOn b none (Option.casesOn d none λc=>Bool.casesOn c (some (.bool true,a)) (some (.bool false,a)))
section
variable {cx:Ctx}{cf:iH}{G:Nat}{ops:af Oper}
def xR(cx:Ctx)(cf:iH)(G:Nat)(ops:af Oper)(b:Env)(a:H)(c:Oper):aa (T×H):=
 M (ka ops G b c.guard) λd=>Bool.casesOn d (some (.undef,a)) (fin cf a (iT c.op cx G b a))
def qg{n:Type}(a:Env)(d:H)(b:Oper)(g:Env->H->aa n):
 (M (kU cx cf G ops a d b) λf=>two f g)=M (xR cx cf G ops a d b) λf=>two f λc e=>M (a.dst G b.dst c) λj=>g j e:=by
 unfold kU xR;cases ka ops G a b.guard with
 |none=>rfl
 |some m=>
  simp only[dS];cases m with
  |false=>
   simp only[km,dS];cases a.dst G b.dst .undef<;>rfl
  |true=>
   simp only;unfold fin;cases iT b.op cx G a d with
   |none=>rfl
   |some i=>
    simp only[dS];rcases i with⟨c,e⟩|⟨k,h⟩
    ·skip
     simp only[km,dS];cases a.dst G b.dst c<;>rfl
    ·skip
     simp only;cases cf k h d with
     |none=>rfl
     |some l=>
      obtain⟨c,e⟩:=l;simp only[km,dS];cases a.dst G b.dst c<;>rfl
end
def keys:fH->List Nat
 | .nil=>[]
 | .cons a _ b=>a::keys b
def GI{g d:fH}{b:Nat}{f:T}(l:b∈keys g)(a:li g b f=some d):keys d=keys g:=by
 induction g generalizing d with
 |nil=>grind [keys]
 |cons c k e n=>
  have a: @Bool.rec (λ_=>aa fH) (M (li e b f) λi=>some (.cons c k i)) (some (.cons c f e)) (Nat.beq c b)=some d:=a;cases j:Nat.beq c b with
  |true=>
   rw[j]at a;have a:some (fH.cons c f e)=some d:=a;simp only[ar]at a;subst a;rfl
  |false=>
   rw[j]at a;have a:(M (li e b f) λi=>some (fH.cons c k i))=some d:=a;have⟨i,ht,a⟩:=dB.1 a;simp only[ar]at a;subst a;have m:=cD j;have:b∈keys e:=by
    rcases List.mem_cons.1 l with h|h
    ·omega
    omega
   grind [keys]
def YS(K:List Nat)(c d:Env->H->Out):Prop:=∀a b,keys a.vars=K->c a b=d a b
def PW(K:List Nat)(c:Env->H->Out):Prop:=∀a d f b e,keys a.vars=K->c a d=some (f,b,e)->keys b.vars=K
section
variable {cx:Ctx}{cf:iH}{G fuel:Nat}{K:List Nat}
def NK(G:Nat)(K:List Nat)(ops:af Oper):Bool:=ops.toList.all λb=>match b.dst with|some a=> !jX G a||K.contains a|none=>true
def sj(G:Nat)(K:List Nat):Code->Bool
 | .region _ ops _=>NK G K ops
 | .seq b a=>sj G K b&&sj G K a
 | .cond _ b a=>sj G K b&&sj G K a
 | .block _ a=>sj G K a
 | .loop a=>sj G K a
 |_=>true
def GL{g c:Env}{j:Oper}{f:T}(l:(match j.dst with|some b=> !jX G b||K.contains b|none=>true)=true)(h:keys g.vars=K)(a:g.dst G j.dst f=some c):keys c.vars=K:=by
 cases k:j.dst with
 |none=>
  rw[k]at a;have a:some g=some c:=a
  grind
 |some b=>
  rw[k]at a l;obtain⟨d,i⟩:=g;have a: @Bool.rec (λ_=>aa Env) (some ⟨d,.cons b f i⟩) (M (li d b f) λe=>some ⟨e,i⟩) (jX G b)=some c:=a;cases hl:jX G b with
  |false=>
   rw[hl]at a;have a:some (⟨d,.cons b f i⟩:Env)=some c:=a
   grind
  |true=>
   rw[hl]at a;have a:(M (li d b f) λe=>some (⟨e,i⟩:Env))=some c:=a;have⟨e,m,a⟩:=dB.1 a;simp only[ar]at a;subst a;simp only[hl,Bool.not_true,Bool.false_or]at l;have n:b∈keys d:=by
    have h:keys d=K:=h;rw[h];grind
   show keys e=K;rw[GI n m];exact h
def D5{b c:Env}{h i:H}{f:Oper}{ops:af Oper}(e:(match f.dst with|some g=> !jX G g||K.contains g|none=>true)=true)(d:keys b.vars=K)(j:kU cx cf G ops b h f=some (c,i)):keys c.vars=K:=by
 rcases mB j with⟨_,a,_⟩|⟨_,k,_,a⟩
 ·exact GL e d a
 ·exact GL e d a
def GJ{ops:af Oper}:∀(e:List Oper) (d b:Env) (f c:H),(∀g∈e,(match g.dst with|some j=> !jX G j||K.contains j|none=>true)=true)->keys d.vars=K->kh cx cf G ops e d f=some (b,c)->keys b.vars=K:=by
 intro e;induction e with
 |nil=>
  intro d b f c _ h a;have a:some (d,f)=some (b,c):=a;simp only[ar,aB]at a;rw[<-a.1];exact h
 |cons g e n=>
  intro d b f c i h a;have a:(M (kU cx cf G ops d f g) λp=>two p λb c=>kh cx cf G ops e b c)=some (b,c):=a;have⟨⟨k,l⟩,m,a⟩:=dB.1 a;exact n k b l c (λo q=>i o (by grind)) (D5 (i g J) h m) a
def ER{ops:af Oper}:∀(f:List Oper) (h:Nat) (c:Seen) (d a:Env) (g e:H),(∀j∈f,(match j.dst with|some c=> !jX G c||K.contains c|none=>true)=true)->keys d.vars=K->
 jL cx cf G ops f h c d g=some (a,e)->keys a.vars=K:=by
 intro f;induction f with
 |nil=>
  intro h c d a g e _ i b;have b:some (d,g)=some (a,e):=b;simp only[ar,aB]at b;rw[<-b.1];exact i
 |cons j f p=>
  intro h c d a g e k i b;have⟨l,m,u,o,t,r,n,_⟩:=xU b;exact p (h+1) r l a m e (λq s=>k q (by grind)) (D5 (k j J) i o) n
def F5{ops:af Oper}{j:Bool}(d:NK G K ops=true):PW K (JL cx cf G ops j):=by
 intro m e l b c k a;unfold NK at d;have d:=List.all_eq_true.1 d;obtain⟨f,n⟩:=m;cases j with
 |false=>
  have a:(M (kh cx cf G ops ops.toList ⟨f,.nil⟩ e) λi=>two i λb c=>some (Ex.normal,(⟨b.vars,.nil⟩:Env),c))=some (l,b,c):=a;have⟨⟨g,h⟩,hr,a⟩:=dB.1 a;simp only[km,ar,aB]at a;obtain⟨_,rfl,_⟩:=a;exact GJ ops.toList ⟨f,.nil⟩ g e h d k hr
 |true=>
  have a:(M (jL cx cf G ops ops.toList 0 ⟨[],[]⟩ ⟨f,.nil⟩ e) λi=>two i λb c=>some (Ex.normal,(⟨b.vars,.nil⟩:Env),c))=some (l,b,c):=a;have⟨⟨g,h⟩,hr,a⟩:=dB.1 a;simp only[km,ar,aB]at a;obtain⟨_,rfl,_⟩:=a;exact ER ops.toList 0 ⟨[],[]⟩ ⟨f,.nil⟩ g e h d k hr
def K8{g:Env->H->Out}(n:PW K g):∀e,PW K (nI g e):=by
 intro e;induction e with
 |zero=>intro i j d b c _ a;simp[nI]at a
 |succ e q=>
  intro i j d b c o a;have a:(M (g i j) λr=>three r λd b c=> @Ex.rec (λ_=>Out) (nI g e b c) (λk=>some (.exit k,b,c)) (some (.ret,b,c)) d)=some (d,b,c):=a;have⟨⟨l,f,h⟩,m,a⟩:=dB.1 a;have p:=n i j l f h o m;cases l with
  |normal=>exact q f h d b c p a
  |exit k=>
   have a:some (Ex.exit k,f,h)=some (d,b,c):=a
   grind
  |ret=>
   have a:some (Ex.ret,f,h)=some (d,b,c):=a
   grind
def K9:∀(n:Code),sj G K n=true->PW K (jP cx cf fuel G n):=by
 intro n;have u:∀{d:Ex},PW K (λe f=>some (d,e,f)):=by
  intro d e f m b c h a;simp only[ar,aB]at a;rw[<-a.2.1];exact h
 induction n with
 |skip=>intro _;exact u
 |exit id=>intro _;exact u
 |ret=>intro _;exact u
 |region id ops A=>intro g;exact F5 g
 |seq o k r s=>
  intro g e f d b c h a;simp only[sj,az]at g;have a:(M (jP cx cf fuel G o e f) λt=>three t λd b c=> @Ex.rec (λ_=>Out) (jP cx cf fuel G k b c) (λi=>some (.exit i,b,c)) (some (.ret,b,c)) d)=some (d,b,c):=a;obtain⟨⟨m,j,l⟩,p,a⟩:=dB.1 a;have x:=r g.1 e f m j l h p;cases m with
  |normal=>exact s g.2 j l d b c x a
  |exit i=>
   have a:some (Ex.exit i,j,l)=some (d,b,c):=a
   grind
  |ret=>
   have a:some (Ex.ret,j,l)=some (d,b,c):=a
   grind
 |cond z o k r s=>
  intro g e f d b c h a;simp only[sj,az]at g;have a:(M (fq cx G e z) λw=>match w with
   | .bool v=> @Bool.rec (λ_=>Out) (jP cx cf fuel G k e f) (jP cx cf fuel G o e f) v
   |_=>none)=some (d,b,c):=a
  obtain⟨w,C,a⟩:=dB.1 a;cases w<;>simp only[reduceCtorEq]at a;rename_i v;cases v with
  |true=>exact r g.1 e f d b c h a
  |false=>exact s g.2 e f d b c h a
 |block id k q=>
  intro g e f d b c h a;have a:(M (jP cx cf fuel G k e f) λt=>three t λd b c=> @Ex.rec (λ_=>Out) (some (.normal,b,c)) (λi=> @Bool.rec (λ_=>Out) (some (.exit i,b,c)) (some (.normal,b,c)) (Nat.beq i id)) (some (.ret,b,c)) d)=some (d,b,c):=a;obtain⟨⟨m,j,l⟩,p,a⟩:=dB.1 a;have x:=q g e f m j l h p;have:b=j:=by
   cases m with
   |normal=>simp_all
   |exit i=>simp only[lh]at a;cases y:Nat.beq i id<;>rw[y]at a<;>simp only[ar,aB]at a<;>exact a.2.1.symm
   |ret=>simp_all
  rw[this];omega
 |loop k q=>intro g;exact K8 (q g) fuel
 |_=>intro _ e f d b c _ a;exact absurd a (by simp[jP])
def YS.refl(a:Env->H->Out):YS K a a:=λ_ _ _=>rfl
def YS.seq{c e:Code}{d f:Env->H->Out}(n:sj G K c=true)(j:YS K (jP cx cf fuel G c) d)(l:YS K (jP cx cf fuel G e) f):YS K (jP cx cf fuel G (.seq c e)) (BB d f):=by
 intro a b g;show BB (jP cx cf fuel G c) (jP cx cf fuel G e) a b=BB d f a b;unfold BB;rw[j a b g];cases o:d a b with
 |none=>rfl
 |some p=>
  obtain⟨k,h,i⟩:=p;have m:=K9 (cx:=cx) (cf:=cf) (fuel:=fuel) c n a b k h i g (by rw[j a b g];exact o);simp only[dS,lh];cases k with
  |normal=>exact l h i m
  |exit q=>rfl
  |ret=>rfl
end
end
section
section
variable {P:ai}{cx:Ctx}{cf:iH}{G fuel:Nat}{K:List Nat}
def rU:Op->Bool
 | .load .. | .indexAddr .. | .slice .. | .convert .. | .lookup .. | .alloc .. | .box .. | .buildSlice .. | .makeSlice .. | .range .. | .makeMap .. =>true
 |_=>false
def JG(c:af Oper):Bool:=
 let e:=Jk c.toList []
 let d:=c.toList.zipIdx
 d.all λa=>d.all λb=> !Nat.blt b.2 a.2|| !((rU b.1.op&&gJ a.1.op)||(gJ b.1.op&&(rU a.1.op||gJ a.1.op)))||(e.getD a.2 0).testBit b.2
def uG{f:af Oper}(h:JG f=true){b c:Nat}{e d:Oper}(l:f[b]? =some e)(m:f[c]? =some d)(o:b<c)
 (n:(rU e.op=true/\gJ d.op=true)\/(gJ e.op=true/\(rU d.op=true\/gJ d.op=true))):jy f b c=true:=by
 unfold JG at h;have j:=List.all_eq_true.1 h (d,c) (mem_zipIdx m);have a:=List.all_eq_true.1 j (e,b) (mem_zipIdx l);have k:Nat.blt b c=true:=by rw[aF];omega
 simp only[k,Bool.not_true,Bool.false_or,bM,bF]at a;rcases a with a|a
 ·exfalso;rcases n with⟨i,g⟩|⟨i,g|g⟩<;>simp[i,g]at a
 ·exact a
def GD{c:Env}{d:H}{a:Op}{b:Nat}(e:fP cx G c d a=some b):rU a=true:=by
 cases a<;>first|rfl|(simp[fP]at e)
def Ew{b:af Oper}(v:JG b=true):∀(k:List Oper) (c:Nat) (e:Seen) (f:Env) (g:H),(∀m,k[m]? =b[c+m]?)->
 (∀a∈e.lU,a.1<c/\∃d,b[a.1]? =some d/\rU d.op=true)->(∀a∈e.kG,a.1<c/\∃d,b[a.1]? =some d/\gJ d.op=true)->
 jL cx cf G b k c e f g=kh cx cf G b k f g:=by
 intro k;induction k with
 |nil=>intro c e f g _ _ _;rfl
 |cons d k w=>
  intro c e f g hl u q;have s:b[c]? =some d:=by have:=hl 0;simpa using this.symm
  have t:∀m,k[m]? =b[c+1+m]? :=λm=>by
   have:=hl (m+1);simp only[da]at this;rw[this];congr 1;omega
  show(M (kU cx cf G b f g d) λa=>two a λl i=>
   M (ka b G f d.guard) λS=> @Bool.rec (λ_=>aa (Env×H)) (jL cx cf G b k (c+1) e l i)
    (@Bool.rec (λ_=>aa (Env×H))
      (@Option.rec Nat (λ_=>aa (Env×H)) (jL cx cf G b k (c+1) e l i)
        (λh=>fQ (nD b c h e.kG) (jL cx cf G b k (c+1) ⟨(c,h)::e.lU,e.kG⟩ l i)) (fP cx G f g d.op))
      (fQ (wQ b c g i e.lU) (fQ (qf cx G b c f e.kG d.op) (jL cx cf G b k (c+1) ⟨e.lU,(c,g,i)::e.kG⟩ l i))) (gJ d.op)) S)
   =M (kU cx cf G b f g d) λa=>two a λE F=>kh cx cf G b k E F
  cases Q:kU cx cf G b f g d with
  |none=>rfl
  |some a=>
   obtain⟨l,i⟩:=a;simp only[dS,km];have A:∀a∈e.lU,a.1<c+1/\∃d,b[a.1]? =some d/\rU d.op=true:=λa j=>⟨by have:=(u a j).1;omega,(u a j).2⟩;have z:∀a∈e.kG,a.1<c+1/\∃d,b[a.1]? =some d/\gJ d.op=true:=λa j=>⟨by have:=(q a j).1;omega,(q a j).2⟩;have R:∃x,ka b G f d.guard=some x:=by
    rcases mB Q with⟨r,_⟩|⟨r,_⟩<;>exact⟨_,r⟩
   obtain⟨x,r⟩:=R;rw[r];simp only[dS];cases x with
   |false=>exact w (c+1) e l i t A z
   |true=>
    simp only;cases y:gJ d.op with
    |true=>
     have:wQ b c g i e.lU=true:=by
      unfold wQ;rw[yS,cw];intro a j;obtain⟨n,C,o,p⟩:=u a j;have:=uG v o s n (.inl ⟨p,y⟩);show @Bool.rec (λ_=>Bool) (jy b a.1 c) true (em g i a.2)=true;rw[this];cases em g i a.2<;>rfl
     have I:∀h,nD b c h e.kG=true:=λh=>by
      unfold nD;rw[yS,cw];intro a j;obtain⟨n,C,o,p⟩:=q a j;have:=uG v o s n (.inr ⟨p,.inr y⟩);show @Bool.rec (λ_=>Bool) (jy b a.1 c) true (em a.2.1 a.2.2 h)=true;rw[this];cases em a.2.1 a.2.2 h<;>rfl
     have L:qf cx G b c f e.kG d.op=true:=by
      unfold qf;split
      ·rename_i m T U _;cases M (fq cx G f T) dM with
       |none=>rfl
       |some h=>exact I h
      ·rfl
     simp only[this,L,il];refine w (c+1) _ l i t A λa j=>?_
     grind
    |false=>
     simp only;cases N:fP cx G f g d.op with
     |none=>grind
     |some h=>
      have O:=GD N;have:nD b c h e.kG=true:=by
       unfold nD;rw[yS,cw];intro a j;obtain⟨n,C,o,p⟩:=q a j;have:=uG v o s n (.inr ⟨p,.inl O⟩);show @Bool.rec (λ_=>Bool) (jy b a.1 c) true (em a.2.1 a.2.2 h)=true;rw[this];cases em a.2.1 a.2.2 h<;>rfl
      simp only[this,il];refine w (c+1) _ l i t (λa j=>?_) z
      grind
abbrev oq:=iH->Nat->List T->H->aa (T×H)
def kS(P:ai)(cx:Ctx)(i:aj)(j:oq):Prop:=
 ∀cf,mU P cx cf->∀k d b h g,j cf k d b=some (h,g)->∀e a c (f:af am),St cx e a.heap c b->fX a.heap c d f.toList->yW P (pV cx e a c b h g) ((callFunc i f).run P a)
def oJ(l:P.follows .mixedOrders=true)(iU:iG P cx){b:aj}{F:Fun}(i:P.funcs[b]? =some F.fn)(m:wM F=true):kS P cx b (λcf d a c=>rZ cx cf d F.fn F.G F.jV a c):=by
 intro cf g d a c n h k e p q f o j
 grind [Ji]
def qK{c:aj}{d:Prim}(j:C2 P cx c d):kS P cx c (λ_ _ a b=>yk d a b):=by
 intro cf o p a b k g i e m n f l h;exact j a b k g i e m n f l h
def Ho(ft:aj->aa oq)(a:Nat):iH:=
 @Nat.rec (λ_=>iH) (λ_ _ _=>none) (λa f c b e=>M (ft c) λd=>d f a b e) a
def AH{ft:aj->aa oq}(m:∀c d,ft c=some d->kS P cx c d):∀a,mU P cx (Ho ft a):=by
 intro a;induction a with
 |zero=>intro c e f h g b;simp[Ho]at b
 |succ a n=>
  intro c e f h g b i p q j o k;have b:(M (ft c) λd=>d (Ho ft a) a e f)=some (h,g):=b;have⟨d,l,b⟩:=dB.1 b;exact m c d l (Ho ft a) n a e f h g b i p q j o k
end
def So(c:T)(a:Bool):aa Bool:=match c with
 | .bool b=>some (Bool.casesOn b (Bool.casesOn a true false) a)
 |_=>some false
def Q9(c:Bool)(a b:T):Bool:=match a with
 | .kq=>(match b with| .kq=>c|_=>true)
 |_=>true
def faV(off:Nat)(a:H)(i:T):aa kC:=match i with
 | .ptr b e f g=>M (fU (Nat.add g off)) λh=>some (.val (.ptr b e f h) a)
 | .jh c=>M (jB off c) λd=>some (.val (.jh d) a)
 |_=>none
def isV(c:H)(e a:T):aa kC:=M (mZ a) λa=>match e with| .str d=>M (lF d a) λb=>val c (some (.int .u8 (.ofNat b)))|_=>none
def aaa(a:H)(d b c:T):aa kC:=match d with
 | .bool e=>Bool.casesOn e (val a (some c)) (val a (some b))
 |_=>none
def WQ(c:H)(a:T):aa kC:=fQ a.fg (jl (c.new (λb=> .ptr b 0 0 0) (kN (kv a.cells) true [a])))
def exV(a:H)(c:T)(b:Nat):aa kC:=match c with| .tuple d=>val a (lF d b)|_=>none
def dK(a:H)(e:T):aa kC:=match e with
 | .Y b _=>val a (M (fU (kv b)) λd=>some (.int .i64 (.ofNat d)))
 | .fK=>val a (some (.int .i64 0))
 | .arr _ _ _ c _=>val a (some (.int .i64 (.ofNat c)))
 |_=>none
def afo(a:H)(d:T):aa kC:=match d with
 | .str c=>val a (M (fU (kv c)) λb=>some (.int .i64 (.ofNat b)))
 |_=>none
end
inductive Tree (α:Type) where
 |nil
 |node (l:Tree α) (k:Nat) (v:α) (r:Tree α)
def Tree.find{a:Type}(f:Tree a)(b:Nat):aa a:=
 @Tree.rec a (λ_=>aa a) none (λ_ c g _ d e=> @Bool.rec (λ_=>aa a) (@Bool.rec (λ_=>aa a) e d (Nat.blt b c)) (some g) (Nat.beq b c)) f
def Tree.toList{a:Type}:Tree a->List (Nat×a)
 | .nil=>[]
 | .node c b e d=>c.toList++(b,e)::d.toList
def Tree.OM{e:Type}{g:Tree e}{b:Nat}{d:e}(a:g.find b=some d):(b,d)∈g.toList:=by
 induction g with
 |nil=>simp[Tree.find]at a
 |node m c h n k l=>
  have a: @Bool.rec (λ_=>aa e) (@Bool.rec (λ_=>aa e) (n.find b) (m.find b) (Nat.blt b c)) (some h) (Nat.beq b c)=some d:=a;simp only[Tree.toList,List.mem_append,co];cases f:Nat.beq b c with
  |true=>
   rw[f]at a;have i:=aC f;have j:h=d:=Option.some.inj a;rw[i,j];exact .inr (.inl rfl)
  |false=>
   rw[f]at a;cases hl:Nat.blt b c with
   |true=>rw[hl]at a;exact .inl (k a)
   |false=>rw[hl]at a;exact .inr (.inr (l a))
inductive Tree.Qm {α:Type} (p:Nat->α->Prop):Tree α->Prop where
 |nil:Qm p .nil
 |node {l:Tree α} {k:Nat} {v:α} {r:Tree α}:Qm p l->p k v->Qm p r->Qm p (.node l k v r)
def Tree.Qm.find{b:Type}{e:Nat->b->Prop}{f:Tree b}(h:f.Qm e){d:Nat}{g:b}(c:f.find d=some g):e d g:=by
 have a:=Tree.OM c;clear c;induction h with
 |nil=>simp[Tree.toList]at a
 |node hl i hr j k=>
  simp only[Tree.toList,List.mem_append,co,aB]at a;rcases a with h|⟨rfl,rfl⟩|h
  ·exact j h
  ·exact i
  ·exact k h
