/- TiPrim -/
import Derived.Test.YtajpdafdickapaaGreatDoorA4
import Derived.Laws.Externs
set_option linter.all false
namespace Go.TI
noncomputable section
section
section
variable {P:ai}{cx:Ctx}{base:Nat}{w:World}{μ:Mu}{h h':H}
def F1(a b:ab):Code:=
 (Code.region 0 #[{dst:=some 2,op:=Op.assign (Operand.const (Value.slice none 0 0)),type:=a,pos:= "slices.go:355",after:= #[],guard:=none}] false).seq
   ((
    (Code.region 1 #[{dst:=some 3,op:=Op.move (Operand.tmp 0),type:=a,pos:= "slices.go:357",after:= #[],guard:=none},
       {dst:=some 4,op:=Op.binOp BinOp.eql a (Operand.tmp 3) (Operand.const (Value.slice none 0 0)) a,type:=b,pos:= "slices.go:357",after:= #[{on:=0,ground:=Ground.data}],guard:=none}] false).seq
       (Code.cond (Operand.tmp 4)
         ((Code.region 2 #[{dst:=some 2,op:=Op.assign (Operand.const (Value.slice none 0 0)),type:=a,pos:= "slices.go:358",after:= #[],guard:=none}] false).seq Code.ret)
         Code.skip)).seq
    ((
     Code.region 3 #[{dst:=some 5,op:=Op.buildSlice a 0 #[],type:=a,pos:= "slices.go:362",after:= #[],guard:=none},
       {dst:=some 6,op:=Op.move (Operand.tmp 0),type:=a,pos:= "slices.go:362",after:= #[],guard:=none},
       {dst:=some 7,op:=Op.call {callee:=Callee.builtin Builtin.append,args:= #[Operand.tmp 5,Operand.tmp 6],argTypes:= #[a,a]},type:=a,pos:= "slices.go:362",
        after:= #[{on:=0,ground:=Ground.data},{on:=1,ground:=Ground.data}],guard:=none},
       {dst:=some 2,op:=Op.assign (Operand.tmp 7),type:=a,pos:= "slices.go:362",
        after:= #[{on:=2,ground:=Ground.data},{on:=2,ground:=Ground.chain},{on:=0,ground:=Ground.phase},{on:=1,ground:=Ground.phase},{on:=2,ground:=Ground.phase}],guard:=none}] false).seq
     Code.ret))
def m6{c:af Oper}{d:Exit->Act->World->Prop}{i:Nat}{rest:List Nat}{b:Act}{w w':World}{a:Oper}{v:ao}(f:c[i]? =some a)(e:a.guard=none)
 (g:(execOp b.eval a).run P w= .ok (.value v) w') (h:wpOps P c d rest (b.put a.dst v) w'):wpOps P c d (i::rest) b w:=by
 rw[wpOps_cons];unfold wpOp;simp only[f];have j:Region.wanted a (yielded c b.tmps)=true:=by simp[Region.wanted,e]
 simp only[j,bA];left;simp only[Oper.wp,g,Oper.upon];exact h
def wQ(jq:jg P cx){o:aj}{fn:Func}{t tb:ab}{G bytes:Nat}{te:Ty}(x:P.funcs[o]? =some fn)(bn:(fn.name== "runtime.NumGoroutine")=false)(z:fn.body=some (F1 t tb))(bi:fn.ntmps=8)
 (hr:fn.results= #[.tmp 2]) (n:pX cx t=some te) (bC:te.size=G) (al:te.bytes=bytes):EG P cx o (.clone G bytes):=by
 intro s h e h' a base w μ I j V;subst bC al;have X:∃k,s=[k]:=by
  match s,a with
  | [k],_=>simp
 obtain⟨k,rfl⟩:=X;have⟨c,K,ap,D,bu⟩:=V.mt;have bs:K=[]:=bg (by have:=bu.1;grind);subst bs;have an:I= #[c]:=by apply cv;rw[ap]
 subst an;have a:(dV (h.jw k) λb=> @List.rec T (λ_=>aa (T×H)) (some (.dK [] false,h)) (λ_ _ _=>h.jo te.size te.bytes [] b) b)=some (e,h'):=a;have⟨b,aN,a⟩:=dI.1 a;have⟨g,A,bH⟩:=u7 jq n;have⟨de,b7⟩:=oM (P:=P) j D aN;have⟨d,l,dd,a7,c6,cp,c9,cL⟩:=b7.form;rw[ou x bn z];show Calls P o #[c] w _;refine calls_of_wp x z ?_;have W:({tmps:= #[c]++Array.replicate (fn.ntmps-(#[c]:af ao).size) Go.undef,defers:=[]}:Act)={tmps:= #[c,Go.undef,Go.undef,Go.undef,Go.undef,Go.undef,Go.undef,Go.undef],defers:=[]}:=by
  rw[bi];rfl
 rw[W];unfold F1;refine wp_seq (wp_region ?_);refine m6 (i:=0) (rest:=[]) rfl rfl (v:= .slice none 0 0) (w':=w) (by rfl) ?_;refine wp_seq (wp_seq (wp_region ?_));refine m6 (i:=0) (rest:=[1]) rfl rfl (v:=c) (w':=w) (by rfl) ?_;refine m6 (i:=1) (rest:=[]) rfl rfl (v:= .bool d.isNone) (w':=w) ?_ ?_
 ·have a8:∀q:ao,(eqGuard .eql t (.tmp 3) (.const (.slice none 0 0)) (.slice d b.length l) (.slice none 0 0)).run P w= .ok () w:=λ_=>by rfl
  have aE:∀E,(Op.equalIn (E+1) t (.slice d b.length l) (.slice none 0 0)).run P w= .ok d.isNone w:=by
   intro E;cases d<;>simp[Op.equalIn,run_underlying A]
  have aA:(binOp .eql t (.slice d b.length l) (.slice none 0 0)).run P w= .ok (.bool d.isNone) w:=by
   show(do pure (Value.bool (<-Op.equal t (.slice d b.length l) (.slice none 0 0))):Sem ao).run P w=_;have S:(Op.equal t (.slice d b.length l) (.slice none 0 0)).run P w= .ok d.isNone w:=aE 9999;rw[Sem.run_bind,S];rfl
  rw[a7];simp[execOp,Act.eval,Act.put,Sem.run_bind,a8 Go.undef,aA]
 have F:∀(f:Act) (w':World) (v:ao),f.defers=[]->f.tmps.getD 2 Go.undef=v->rh cx base w μ h e h' v w'->
  bodyPost P fn (λR ca=>match R with| .returned v=>rh cx base w μ h e h' v ca|_=>False) .ret f w':=by
  intro f w' v av bT U;refine⟨av,v,?_,U⟩;rw[CY,hr,Sem.run_bind];have:(#[ResultVar.tmp 2].mapM (qq f.tmps)).run P w'= .ok #[f.tmps.getD 2 Go.undef] w':=by
   rw[show #[ResultVar.tmp 2]=[ResultVar.tmp 2].toArray from rfl,List.mapM_toArray,List.mapM_cons];rfl
  rw[this,bT];rfl
 cases c7:d with
 |none=>
  have aX:b=[]:=by
   grind
  rw[aX]at a;have a:some (T.dK [] false,h)=some (e,h'):=a;simp only[au,aD]at a;obtain⟨rfl,rfl⟩:=a;refine wp_cond_true (by rfl) ?_;refine wp_seq (wp_region ?_);refine m6 (i:=0) (rest:=[]) rfl rfl (v:= .slice none 0 0) (w':=w) (by rfl) ?_;refine wp_ret ?_;refine F _ w (.slice none 0 0) rfl (by rfl) ⟨⟨μ,.nV _ _,j,p7.refl _ _,yJ.refl _ _⟩,lr.refl j.wf⟩
 |some y=>
  refine wp_cond_false (by rfl) ?_;refine wp_skip ?_;refine wp_seq (wp_region ?_);have ae:(Instr.buildSlice t 0 #[]).run P w= .ok (.slice (some ⟨w.heap.size,0,none⟩) 0 0) (w.alloc (.cells #[] g)):=by
   simp[Instr.buildSlice,run_underlying A,(jq.ty _ _ bH).run_sizeOf,Instr.fill,newRow];congr 2;apply Array.ext<;>simp
  refine m6 (i:=0) (rest:=[1,2,3]) rfl rfl (v:= .slice (some ⟨w.heap.size,0,none⟩) 0 0) (w':=(w.alloc (.cells #[] g))) (by simp[execOp,ae]) ?_;have⟨b8,C⟩:=j.grow (hp':=w.heap.push (.cells #[] g)) dy (by intro i c4;rw[Array.getElem?_push];grind);have b6:=D.ext C;refine m6 (i:=1) (rest:=[2,3]) rfl rfl (v:=c) (w':=(w.alloc (.cells #[] g))) (by rfl) ?_;have Y:iU cx h t t (.dK [] false) k=some (.val e h'):=by
   unfold iU;rw[n];have bB:nc cx h t k=some b:=by
    unfold nc;unfold pX at n;have⟨b9,bN,B⟩:=dI.1 n;rw[bN];simp only[ed];cases bS:b9.u<;>rw[bS]at B<;>simp only[reduceCtorEq]at B;omega
   rw[bB];simp only[ed];cases b with
   |nil=>
    have a:some (T.dK [] false,h)=some (e,h'):=a;simp only[au,aD]at a;obtain⟨rfl,rfl⟩:=a;rfl
   |cons m b=>
    have a:h.jo te.size te.bytes [] (m::b)=some (e,h'):=a;have a6:fits te.size (m::b)=true:=by
     have c1:=a
     grind [H.jo,jW,iO,ed,rL,dQ]
    rw[a6,iH];show jI (h.jo te.size te.bytes [] (m::b))=_;rw[ju];exact a
  have⟨v,r,cb,L,M,N,O,Q⟩:=x6 (P:=P) (w:=(w.alloc (.cells #[] g))) (ty':=t) jq b8 (p:= .dK [] false) (c:= .slice (some ⟨w.heap.size,0,none⟩) 0 0) (.nV _ _) b6 Y;refine m6 (i:=2) (rest:=[3]) rfl rfl (v:=v) (w':=r) (by simp[execOp,resolve,invoke,builtin,Act.eval,Act.put,L]) ?_;refine m6 (i:=3) (rest:=[]) rfl rfl (v:=v) (w':=r) (by simp[execOp,Act.eval,Act.put]) ?_;refine wp_ret ?_;refine F _ r v rfl (by simp[Act.put]) ⟨⟨cb,M,N,?_,Q⟩,?_⟩
  ·exact p7.trans (w1:=w.alloc (.cells #[] g)) ⟨C,rfl,rfl,rfl⟩ O
  ·cases b with
   |nil=>
    have a:some (T.dK [] false,h)=some (e,h'):=a;simp only[au,aD]at a;obtain⟨rfl,rfl⟩:=a;exact lr.refl j.wf
   |cons m b=>exact po j.wf a
def IV(c:Nat):∀(a:List Nat) (d:Nat),wM c a d=some (match(List.range a.length).find? (λb=>a[b]! ==c)with|some b=>((d+b:Nat):Int)|none=>-1):=by
 intro a;induction a with
 |nil=>intro d;rfl
 |cons e a l=>
  intro d;have i:wM c (e::a) d= @Bool.rec (λ_=>aa Int) (dV (ir (Nat.succ d)) λk=>wM c a k) (some (.ofNat d)) (Nat.beq e c):=rfl;rw[i];have hr:List.range (a.length+1)=0::(List.range a.length).map (· +1):=List.range_succ_eq_map;rw[aU,hr,List.find?_cons];cases f:Nat.beq e c with
  |true=>
   have:=aG f;subst this;simp
  |false=>
   have j:=cP f;have g:((e::a)[0]! ==c)=false:=by simpa using j
   rw[g];simp only[iO,ed];rw[l (d+1),List.find?_map];have:((λb=>(e::a)[b]! ==c)∘λb=>b+1)=λb=>a[b]! ==c:=by
    funext b;simp
   rw[this]
   grind
def zK{d:Type}{b c:d->Bool}:∀{a:List d},(∀x∈a,b x=c x)->a.find? b=a.find? c
 | [],_=>rfl
 |x::a,h=>by
  rw[List.find?_cons,List.find?_cons,h x dy,zK λe f=>h e (by grind)]
def firstIdx_eq{a:List Nat}(hl:∀l∈a,l<256){c:Nat}(f:c<256):firstIdx (bytesOf a) (UInt8.ofNat c)=match(List.range a.length).find? (λb=>a[b]! ==c)with|some b=>((b:Nat):Int)|none=>-1:=by
 unfold firstIdx;rw[jV];have:(List.range a.length).find? (λj=>(bytesOf a)[j]! ==UInt8.ofNat c)=(List.range a.length).find? (λb=>a[b]! ==c):=by
  apply zK;intro b d;have d:b<a.length:=List.mem_range.1 d;have e:(bytesOf a)[b]! =UInt8.ofNat a[b]:=by
   have i:b<(bytesOf a).size:=by rw[jV];exact d
   rw[getElem!_pos (bytesOf a) b i];show(bytesOf a).data[b]=_;simp[bytesOf]
  rw[e,getElem!_pos a b d];have g:=hl a[b] (aF d);by_cases h:a[b]=c
  ·simp[h]
  ·have:UInt8.ofNat a[b]≠UInt8.ofNat c:=λk=>h (by
    have:=bE UInt8.toNat k;rwa[jJ g,jJ f]at this)
   rw[beq_eq_false_iff_ne.2 this,beq_eq_false_iff_ne.2 h]
 rw[this];cases (List.range a.length).find? (λb=>a[b]! ==c)<;>rfl
def GI{f:aj}{c:Func}(r:P.funcs[f]? =some c)(C:(c.name== "runtime.NumGoroutine")=false)(t:c.body.isNone=true)(B:Extern.findNext c=none)
 (z:Extern.find c=some Extern.BytealgIndexByte.indexByte):EG P cx f .oo:=by
 intro j h L h' a base w μ m i s;have A:∃d b,j=[.str d,.int .u8 (.ofNat b)]/\b<256/\(dV (wM b d 0) λg=>some (T.int .i64 g,h))=some (L,h'):=by
  unfold Df at a;simp only at a;split at a
  ·rename_i d b;obtain⟨q,a⟩:=dQ.1 a;rw[aJ]at q
   grind
  grind
 obtain⟨d,b,rfl,u,a⟩:=A;obtain⟨k,M,y,I,E⟩:=s.mt;obtain⟨l,n,rfl,K,F⟩:=E.mt;have D:n=[]:=bg (by have:=F.1;grind);subst D;have v:m= #[k,l]:=by apply cv;rw[y]
 subst v;obtain⟨o,hl⟩:=I.lU;have p:=K.jX;subst o p;obtain⟨g,e,a⟩:=dI.1 a;simp only[au,aD]at a;obtain⟨rfl,rfl⟩:=a;rw[run_callFunc_extern r C t B z];have G:=run_indexByte_string (P:=P) (bytesOf d) (Int.ofNat b) w;rw[G];have x:(Int.ofNat b).toNat.toUInt8=UInt8.ofNat b:=rfl;rw[x,firstIdx_eq hl u];rw[IV]at e;simp only[au,cA]at e;rw[e];exact⟨⟨μ,.int _ _,i,p7.refl _ _,yJ.refl _ _⟩,lr.refl i.wf⟩
end
end
section
def fin(cf:jd)(d:H)(a:aa lP):aa (T×H):=dV a λa=>lP.casesOn a (λf e=>some (f,e)) (λc b=>cf c b d)
section
variable {cx:Ctx}{cf:jd}{mask:Nat}{ops:af Oper}
def yO(cx:Ctx)(cf:jd)(mask:Nat)(ops:af Oper)(b:Env)(a:H)(c:Oper):aa (T×H):=
 dV (kE ops mask b c.guard) λd=>Bool.casesOn d (some (.undef,a)) (fin cf a (jr c.op cx mask b a))
def rE{n:Type}(a:Env)(d:H)(b:Oper)(g:Env->H->aa n):
 (dV (lH cx cf mask ops a d b) λf=>two f g)=dV (yO cx cf mask ops a d b) λf=>two f λc e=>dV (a.dst mask b.dst c) λj=>g j e:=by
 unfold lH yO;cases kE ops mask a b.guard with
 |none=>rfl
 |some m=>
  simp only[ed];cases m with
  |false=>
   simp only[kN,ed];cases a.dst mask b.dst .undef<;>rfl
  |true=>
   simp only;unfold fin;cases jr b.op cx mask a d with
   |none=>rfl
   |some i=>
    simp only[ed];rcases i with⟨c,e⟩|⟨k,h⟩
    ·skip
     simp only[kN,ed];cases a.dst mask b.dst c<;>rfl
    ·skip
     simp only;cases cf k h d with
     |none=>rfl
     |some l=>
      obtain⟨c,e⟩:=l;simp only[kN,ed];cases a.dst mask b.dst c<;>rfl
end
def keys:fW->List Nat
 | .nil=>[]
 | .cons a _ b=>a::keys b
def IC{g d:fW}{b:Nat}{f:T}(l:b∈keys g)(a:lZ g b f=some d):keys d=keys g:=by
 induction g generalizing d with
 |nil=>grind [keys]
 |cons c k e n=>
  have a: @Bool.rec (λ_=>aa fW) (dV (lZ e b f) λi=>some (.cons c k i)) (some (.cons c f e)) (Nat.beq c b)=some d:=a;cases j:Nat.beq c b with
  |true=>
   rw[j]at a;have a:some (fW.cons c f e)=some d:=a;simp only[au]at a;subst a;rfl
  |false=>
   rw[j]at a;have a:(dV (lZ e b f) λi=>some (fW.cons c k i))=some d:=a;have⟨i,ht,a⟩:=dI.1 a;simp only[au]at a;subst a;have m:=cP j;have:b∈keys e:=by
    rcases List.mem_cons.1 l with h|h
    ·omega
    omega
   grind [keys]
def Zz(K:List Nat)(c d:Env->H->Out):Prop:=∀a b,keys a.vars=K->c a b=d a b
def R5(K:List Nat)(c:Env->H->Out):Prop:=∀a d f b e,keys a.vars=K->c a d=some (f,b,e)->keys b.vars=K
section
variable {cx:Ctx}{cf:jd}{mask fuel:Nat}{K:List Nat}
def PW(mask:Nat)(K:List Nat)(ops:af Oper):Bool:=ops.toList.all λb=>match b.dst with|some a=> !ks mask a||K.contains a|none=>true
def tU(mask:Nat)(K:List Nat):Code->Bool
 | .region _ ops _=>PW mask K ops
 | .seq b a=>tU mask K b&&tU mask K a
 | .cond _ b a=>tU mask K b&&tU mask K a
 | .block _ a=>tU mask K a
 | .loop a=>tU mask K a
 |_=>true
def IE{g c:Env}{j:Oper}{f:T}(l:(match j.dst with|some b=> !ks mask b||K.contains b|none=>true)=true)(h:keys g.vars=K)(a:g.dst mask j.dst f=some c):keys c.vars=K:=by
 cases k:j.dst with
 |none=>
  rw[k]at a;have a:some g=some c:=a
  grind
 |some b=>
  rw[k]at a l;obtain⟨d,i⟩:=g;have a: @Bool.rec (λ_=>aa Env) (some ⟨d,.cons b f i⟩) (dV (lZ d b f) λe=>some ⟨e,i⟩) (ks mask b)=some c:=a;cases hl:ks mask b with
  |false=>
   rw[hl]at a;have a:some (⟨d,.cons b f i⟩:Env)=some c:=a
   grind
  |true=>
   rw[hl]at a;have a:(dV (lZ d b f) λe=>some (⟨e,i⟩:Env))=some c:=a;have⟨e,m,a⟩:=dI.1 a;simp only[au]at a;subst a;simp only[hl,Bool.not_true,Bool.false_or]at l;have n:b∈keys d:=by
    have h:keys d=K:=h;rw[h];grind
   show keys e=K;rw[IC n m];exact h
def FQ{b c:Env}{h i:H}{f:Oper}{ops:af Oper}(e:(match f.dst with|some g=> !ks mask g||K.contains g|none=>true)=true)(d:keys b.vars=K)(j:lH cx cf mask ops b h f=some (c,i)):keys c.vars=K:=by
 rcases m9 j with⟨_,a,_⟩|⟨_,k,_,a⟩
 ·exact IE e d a
 ·exact IE e d a
def ID{ops:af Oper}:∀(e:List Oper) (d b:Env) (f c:H),(∀g∈e,(match g.dst with|some j=> !ks mask j||K.contains j|none=>true)=true)->keys d.vars=K->kI cx cf mask ops e d f=some (b,c)->keys b.vars=K:=by
 intro e;induction e with
 |nil=>
  intro d b f c _ h a;have a:some (d,f)=some (b,c):=a;simp only[au,aD]at a;rw[<-a.1];exact h
 |cons g e n=>
  intro d b f c i h a;have a:(dV (lH cx cf mask ops d f g) λp=>two p λb c=>kI cx cf mask ops e b c)=some (b,c):=a;have⟨⟨k,l⟩,m,a⟩:=dI.1 a;exact n k b l c (λo q=>i o (by grind)) (FQ (i g dy) h m) a
def GG{ops:af Oper}:∀(f:List Oper) (h:Nat) (c:Seen) (d a:Env) (g e:H),(∀j∈f,(match j.dst with|some c=> !ks mask c||K.contains c|none=>true)=true)->keys d.vars=K->
 j7 cx cf mask ops f h c d g=some (a,e)->keys a.vars=K:=by
 intro f;induction f with
 |nil=>
  intro h c d a g e _ i b;have b:some (d,g)=some (a,e):=b;simp only[au,aD]at b;rw[<-b.1];exact i
 |cons j f p=>
  intro h c d a g e k i b;have⟨l,m,u,o,t,r,n,_⟩:=yQ b;exact p (h+1) r l a m e (λq s=>k q (by grind)) (FQ (k j dy) i o) n
def H6{ops:af Oper}{j:Bool}(d:PW mask K ops=true):R5 K (Lt cx cf mask ops j):=by
 intro m e l b c k a;unfold PW at d;have d:=List.all_eq_true.1 d;obtain⟨f,n⟩:=m;cases j with
 |false=>
  have a:(dV (kI cx cf mask ops ops.toList ⟨f,.nil⟩ e) λi=>two i λb c=>some (Ex.normal,(⟨b.vars,.nil⟩:Env),c))=some (l,b,c):=a;have⟨⟨g,h⟩,hr,a⟩:=dI.1 a;simp only[kN,au,aD]at a;obtain⟨_,rfl,_⟩:=a;exact ID ops.toList ⟨f,.nil⟩ g e h d k hr
 |true=>
  have a:(dV (j7 cx cf mask ops ops.toList 0 ⟨[],[]⟩ ⟨f,.nil⟩ e) λi=>two i λb c=>some (Ex.normal,(⟨b.vars,.nil⟩:Env),c))=some (l,b,c):=a;have⟨⟨g,h⟩,hr,a⟩:=dI.1 a;simp only[kN,au,aD]at a;obtain⟨_,rfl,_⟩:=a;exact GG ops.toList 0 ⟨[],[]⟩ ⟨f,.nil⟩ g e h d k hr
def M6{g:Env->H->Out}(n:R5 K g):∀e,R5 K (oL g e):=by
 intro e;induction e with
 |zero=>intro i j d b c _ a;simp[oL]at a
 |succ e q=>
  intro i j d b c o a;have a:(dV (g i j) λr=>three r λd b c=> @Ex.rec (λ_=>Out) (oL g e b c) (λk=>some (.exit k,b,c)) (some (.ret,b,c)) d)=some (d,b,c):=a;have⟨⟨l,f,h⟩,m,a⟩:=dI.1 a;have p:=n i j l f h o m;cases l with
  |normal=>exact q f h d b c p a
  |exit k=>
   have a:some (Ex.exit k,f,h)=some (d,b,c):=a
   grind
  |ret=>
   have a:some (Ex.ret,f,h)=some (d,b,c):=a
   grind
def M7:∀(n:Code),tU mask K n=true->R5 K (kc cx cf fuel mask n):=by
 intro n;have u:∀{d:Ex},R5 K (λe f=>some (d,e,f)):=by
  intro d e f m b c h a;simp only[au,aD]at a;rw[<-a.2.1];exact h
 induction n with
 |skip=>intro _;exact u
 |exit id=>intro _;exact u
 |ret=>intro _;exact u
 |region id ops A=>intro g;exact H6 g
 |seq o k r s=>
  intro g e f d b c h a;simp only[tU,aB]at g;have a:(dV (kc cx cf fuel mask o e f) λt=>three t λd b c=> @Ex.rec (λ_=>Out) (kc cx cf fuel mask k b c) (λi=>some (.exit i,b,c)) (some (.ret,b,c)) d)=some (d,b,c):=a;obtain⟨⟨m,j,l⟩,p,a⟩:=dI.1 a;have x:=r g.1 e f m j l h p;cases m with
  |normal=>exact s g.2 j l d b c x a
  |exit i=>
   have a:some (Ex.exit i,j,l)=some (d,b,c):=a
   grind
  |ret=>
   have a:some (Ex.ret,j,l)=some (d,b,c):=a
   grind
 |cond z o k r s=>
  intro g e f d b c h a;simp only[tU,aB]at g;have a:(dV (fO cx mask e z) λw=>match w with
   | .bool v=> @Bool.rec (λ_=>Out) (kc cx cf fuel mask k e f) (kc cx cf fuel mask o e f) v
   |_=>none)=some (d,b,c):=a
  obtain⟨w,B,a⟩:=dI.1 a;cases w<;>simp only[reduceCtorEq]at a;rename_i v;cases v with
  |true=>exact r g.1 e f d b c h a
  |false=>exact s g.2 e f d b c h a
 |block id k q=>
  intro g e f d b c h a;have a:(dV (kc cx cf fuel mask k e f) λt=>three t λd b c=> @Ex.rec (λ_=>Out) (some (.normal,b,c)) (λi=> @Bool.rec (λ_=>Out) (some (.exit i,b,c)) (some (.normal,b,c)) (Nat.beq i id)) (some (.ret,b,c)) d)=some (d,b,c):=a;obtain⟨⟨m,j,l⟩,p,a⟩:=dI.1 a;have x:=q g e f m j l h p;have:b=j:=by
   cases m with
   |normal=>simp_all
   |exit i=>simp only[lY]at a;cases y:Nat.beq i id<;>rw[y]at a<;>simp only[au,aD]at a<;>exact a.2.1.symm
   |ret=>simp_all
  rw[this];omega
 |loop k q=>intro g;exact M6 (q g) fuel
 |_=>intro _ e f d b c _ a;exact absurd a (by simp[kc])
def Zz.refl(a:Env->H->Out):Zz K a a:=λ_ _ _=>rfl
def Zz.seq{c e:Code}{d f:Env->H->Out}(n:tU mask K c=true)(j:Zz K (kc cx cf fuel mask c) d)(l:Zz K (kc cx cf fuel mask e) f):Zz K (kc cx cf fuel mask (.seq c e)) (CV d f):=by
 intro a b g;show CV (kc cx cf fuel mask c) (kc cx cf fuel mask e) a b=CV d f a b;unfold CV;rw[j a b g];cases o:d a b with
 |none=>rfl
 |some p=>
  obtain⟨k,h,i⟩:=p;have m:=M7 (cx:=cx) (cf:=cf) (fuel:=fuel) c n a b k h i g (by rw[j a b g];exact o);simp only[ed,lY];cases k with
  |normal=>exact l h i m
  |exit q=>rfl
  |ret=>rfl
end
end
section
section
variable {P:ai}{cx:Ctx}{cf:jd}{mask fuel:Nat}{K:List Nat}
def tv:Op->Bool
 | .load .. | .indexAddr .. | .slice .. | .convert .. | .lookup .. | .alloc .. | .box .. | .buildSlice .. | .makeSlice .. | .range .. | .makeMap .. =>true
 |_=>false
def Lp(c:af Oper):Bool:=
 let e:=K3 c.toList []
 let d:=c.toList.zipIdx
 d.all λa=>d.all λb=> !Nat.blt b.2 a.2|| !((tv b.1.op&&iF a.1.op)||(iF b.1.op&&(tv a.1.op||iF a.1.op)))||(e.getD a.2 0).testBit b.2
def vY{f:af Oper}(h:Lp f=true){b c:Nat}{e d:Oper}(l:f[b]? =some e)(m:f[c]? =some d)(o:b<c)
 (n:(tv e.op=true/\iF d.op=true)\/(iF e.op=true/\(tv d.op=true\/iF d.op=true))):jQ f b c=true:=by
 unfold Lp at h;have j:=List.all_eq_true.1 h (d,c) (mem_zipIdx m);have a:=List.all_eq_true.1 j (e,b) (mem_zipIdx l);have k:Nat.blt b c=true:=by rw[aJ];omega
 simp only[k,Bool.not_true,Bool.false_or,bY,cg]at a;rcases a with a|a
 ·exfalso;rcases n with⟨i,g⟩|⟨i,g|g⟩<;>simp[i,g]at a
 ·exact a
def Iy{c:Env}{d:H}{a:Op}{b:Nat}(e:hU cx mask c d a=some b):tv a=true:=by
 cases a<;>first|rfl|(simp[hU]at e)
def Ge{b:af Oper}(v:Lp b=true):∀(k:List Oper) (c:Nat) (e:Seen) (f:Env) (g:H),(∀m,k[m]? =b[c+m]?)->
 (∀a∈e.mJ,a.1<c/\∃d,b[a.1]? =some d/\tv d.op=true)->(∀a∈e.lf,a.1<c/\∃d,b[a.1]? =some d/\iF d.op=true)->
 j7 cx cf mask b k c e f g=kI cx cf mask b k f g:=by
 intro k;induction k with
 |nil=>intro c e f g _ _ _;rfl
 |cons d k w=>
  intro c e f g hl u q;have s:b[c]? =some d:=by have:=hl 0;simpa using this.symm
  have t:∀m,k[m]? =b[c+1+m]? :=λm=>by
   have:=hl (m+1);simp only[df]at this;rw[this];congr 1;omega
  show(dV (lH cx cf mask b f g d) λa=>two a λl i=>
   dV (kE b mask f d.guard) λN=> @Bool.rec (λ_=>aa (Env×H)) (j7 cx cf mask b k (c+1) e l i)
    (@Bool.rec (λ_=>aa (Env×H))
      (@Option.rec Nat (λ_=>aa (Env×H)) (j7 cx cf mask b k (c+1) e l i)
        (λh=>gJ (oF b c h e.lf) (j7 cx cf mask b k (c+1) ⟨(c,h)::e.mJ,e.lf⟩ l i)) (hU cx mask f g d.op))
      (gJ (xV b c g i e.mJ) (gJ (rD cx mask b c f e.lf d.op) (j7 cx cf mask b k (c+1) ⟨e.mJ,(c,g,i)::e.lf⟩ l i))) (iF d.op)) N)
   =dV (lH cx cf mask b f g d) λa=>two a λC D=>kI cx cf mask b k C D
  cases L:lH cx cf mask b f g d with
  |none=>rfl
  |some a=>
   obtain⟨l,i⟩:=a;simp only[ed,kN];have A:∀a∈e.mJ,a.1<c+1/\∃d,b[a.1]? =some d/\tv d.op=true:=λa j=>⟨by have:=(u a j).1;omega,(u a j).2⟩;have z:∀a∈e.lf,a.1<c+1/\∃d,b[a.1]? =some d/\iF d.op=true:=λa j=>⟨by have:=(q a j).1;omega,(q a j).2⟩;have M:∃x,kE b mask f d.guard=some x:=by
    rcases m9 L with⟨r,_⟩|⟨r,_⟩<;>exact⟨_,r⟩
   obtain⟨x,r⟩:=M;rw[r];simp only[ed];cases x with
   |false=>exact w (c+1) e l i t A z
   |true=>
    simp only;cases y:iF d.op with
    |true=>
     have:xV b c g i e.mJ=true:=by
      unfold xV;rw[Ag,cD];intro a j;obtain⟨n,B,o,p⟩:=u a j;have:=vY v o s n (.inl ⟨p,y⟩);show @Bool.rec (λ_=>Bool) (jQ b a.1 c) true (fk g i a.2)=true;rw[this];cases fk g i a.2<;>rfl
     have E:∀h,oF b c h e.lf=true:=λh=>by
      unfold oF;rw[Ag,cD];intro a j;obtain⟨n,B,o,p⟩:=q a j;have:=vY v o s n (.inr ⟨p,.inr y⟩);show @Bool.rec (λ_=>Bool) (jQ b a.1 c) true (fk a.2.1 a.2.2 h)=true;rw[this];cases fk a.2.1 a.2.2 h<;>rfl
     have F:rD cx mask b c f e.lf d.op=true:=by
      unfold rD;split
      ·rename_i m O Q _;cases dV (fO cx mask f O) dT with
       |none=>rfl
       |some h=>exact E h
      ·rfl
     simp only[this,F,iH];refine w (c+1) _ l i t A λa j=>?_
     grind
    |false=>
     simp only;cases G:hU cx mask f g d.op with
     |none=>grind
     |some h=>
      have I:=Iy G;have:oF b c h e.lf=true:=by
       unfold oF;rw[Ag,cD];intro a j;obtain⟨n,B,o,p⟩:=q a j;have:=vY v o s n (.inr ⟨p,.inl I⟩);show @Bool.rec (λ_=>Bool) (jQ b a.1 c) true (fk a.2.1 a.2.2 h)=true;rw[this];cases fk a.2.1 a.2.2 h<;>rfl
      simp only[this,iH];refine w (c+1) _ l i t (λa j=>?_) z
      grind
abbrev qN:=jd->Nat->List T->H->aa (T×H)
def mE(P:ai)(cx:Ctx)(i:aj)(j:qN):Prop:=
 ∀cf,nR P cx cf->∀k d b h g,j cf k d b=some (h,g)->∀e a c (f:af ao),St cx e a.heap c b->gU a.heap c d f.toList->Aj P (rh cx e a c b h g) ((callFunc i f).run P a)
def pM(l:P.follows .mixedOrders=true)(jq:jg P cx){b:aj}{F:Fun}(i:P.funcs[b]? =some F.fn)(m:xQ F=true):mE P cx b (λcf d a c=>tL cx cf d F.fn F.mask F.kT a c):=by
 intro cf g d a c n h k e p q f o j
 grind [K1]
def yk{c:aj}{d:Prim}(j:EG P cx c d):mE P cx c (λ_ _ a b=>Df d a b):=by
 intro cf o p a b k g i e m n f l h;exact j a b k g i e m n f l h
def Ja(ft:aj->aa qN)(a:Nat):jd:=
 @Nat.rec (λ_=>jd) (λ_ _ _=>none) (λa f c b e=>dV (ft c) λd=>d f a b e) a
def Bw{ft:aj->aa qN}(m:∀c d,ft c=some d->mE P cx c d):∀a,nR P cx (Ja ft a):=by
 intro a;induction a with
 |zero=>intro c e f h g b;simp[Ja]at b
 |succ a n=>
  intro c e f h g b i p q j o k;have b:(dV (ft c) λd=>d (Ja ft a) a e f)=some (h,g):=b;have⟨d,l,b⟩:=dI.1 b;exact m c d l (Ja ft a) n a e f h g b i p q j o k
end
def faV(off:Nat)(a:H)(i:T):aa lP:=match i with
 | .ptr b e f g=>dV (ir (Nat.add g off)) λh=>some (.val (.ptr b e f h) a)
 | .jD c=>dV (j4 off c) λd=>some (.val (.jD d) a)
 |_=>none
def exV(a:H)(c:T)(b:Nat):aa lP:=match c with| .tuple d=>val a (mI d b)|_=>none
def ae3(a:H)(e:T):aa lP:=match e with
 | .dK b _=>val a (dV (ir (kY b)) λd=>some (.int .i64 (.ofNat d)))
 | .gX=>val a (some (.int .i64 0))
 | .arr _ _ _ c _=>val a (some (.int .i64 (.ofNat c)))
 |_=>none
end
inductive Tree (α:Type) where
 |nil
 |node (l:Tree α) (k:Nat) (v:α) (r:Tree α)
def Tree.find{a:Type}(f:Tree a)(b:Nat):aa a:=
 @Tree.rec a (λ_=>aa a) none (λ_ c g _ d e=> @Bool.rec (λ_=>aa a) (@Bool.rec (λ_=>aa a) e d (Nat.blt b c)) (some g) (Nat.beq b c)) f
def Tree.toList{a:Type}:Tree a->List (Nat×a)
 | .nil=>[]
 | .node c b e d=>c.toList++(b,e)::d.toList
def Tree.Q0{e:Type}{g:Tree e}{b:Nat}{d:e}(a:g.find b=some d):(b,d)∈g.toList:=by
 induction g with
 |nil=>simp[Tree.find]at a
 |node m c h n k l=>
  have a: @Bool.rec (λ_=>aa e) (@Bool.rec (λ_=>aa e) (n.find b) (m.find b) (Nat.blt b c)) (some h) (Nat.beq b c)=some d:=a;simp only[Tree.toList,List.mem_append,bZ];cases f:Nat.beq b c with
  |true=>
   rw[f]at a;have i:=aG f;have j:h=d:=Option.some.inj a;rw[i,j];exact .inr (.inl rfl)
  |false=>
   rw[f]at a;cases hl:Nat.blt b c with
   |true=>rw[hl]at a;exact .inl (k a)
   |false=>rw[hl]at a;exact .inr (.inr (l a))
inductive Tree.Ss {α:Type} (p:Nat->α->Prop):Tree α->Prop where
 |nil:Ss p .nil
 |node {l:Tree α} {k:Nat} {v:α} {r:Tree α}:Ss p l->p k v->Ss p r->Ss p (.node l k v r)
def Tree.Ss.find{b:Type}{e:Nat->b->Prop}{f:Tree b}(h:f.Ss e){d:Nat}{g:b}(c:f.find d=some g):e d g:=by
 have a:=Tree.Q0 c;clear c;induction h with
 |nil=>simp[Tree.toList]at a
 |node hl i hr j k=>
  simp only[Tree.toList,List.mem_append,bZ,aD]at a;rcases a with h|⟨rfl,rfl⟩|h
  ·exact j h
  ·exact i
  ·exact k h
