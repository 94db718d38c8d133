/- TiMap -/
import Derived.Test.YtajpdafdickapaaGreatDoorA2
import Derived.MapKept
import Derived.Laws.IdiomStrings
import Derived.WideKeyRuns
import Derived.Maps.RangeRun
set_option linter.all false
namespace Go.TI
noncomputable section
open Go.MapKept
section
section
variable {P:ai}{cx:Ctx}{base:Nat}{w:World}{μ:Mu}{h h':H}{mask:Nat}{e:Env}{a:Act}{o:Oper}{hp hp':af Obj}{p:T}
theorem qS{j:Type}{c:j->Bool}{d:List j}(b:xR c d=true):∀f∈d,c f=true:=by
 induction d with
 |nil=>intro f hx;simp at hx
 |cons i d k=>
  have b: @Bool.rec (λ_=>Bool) false (xR c d) (c i)=true:=b;cases g:c i with
  |false=>rw[g]at b;simp at b
  |true=>
   rw[g]at b;intro f hx;rcases List.mem_cons.1 hx with rfl|hx
   ·exact g
   ·exact k b f hx
def Gj{g:T}{b:Nat}(c:byteOf g=some b):g= .int .u8 (.ofNat b)/\b<256:=by
 cases g with
 |int m l=>
  have c:gX (Ew m .u8) (@Int.rec (λ_=>aa Nat) (λb=>gX (Nat.blt b 256) (some b)) (λ_=>none) l)=some b:=c;have⟨i,d⟩:=dQ.1 c;rw[yF]at i;subst i;cases l with
  |ofNat f=>
   have d:gX (Nat.blt f 256) (some f)=some b:=d;have⟨j,k⟩:=dQ.1 d;rw[aJ]at j;simp only[ar]at k;subst k;exact⟨rfl,j⟩
  |negSucc f=>simp at d
 |_=>simp[byteOf]at c
theorem Ke(jq:jg P cx){n j:ab}{A:ah}(x:St cx base w.heap μ h)(r:kz w.heap μ mask e a.tmps)(ap:o.op= .convert n j A)(K:P.underlying j=some .string){v:T}
 (hp:fN cx mask e A=some p) (b:Id cx h n p=some v) (ae:h'=h):jp cx base w μ h.size ((execOp a.eval o).run P w) v h':=by
 subst ae;replace b:=dI.1 b;obtain⟨bs,aE,b⟩:=b;obtain⟨d,G,N⟩:=kM (jq.ty _ _ aE);cases a6:bs.u<;>rw[a6]at b N<;>simp only[reduceCtorEq]at b;rename_i C;have:=lZ N;subst this;replace b:=dI.1 b;obtain⟨bn,aA,b⟩:=b;obtain⟨bC,I,O⟩:=kM (jq.ty _ _ aA);cases a7:bn.u<;>rw[a7]at b O<;>simp only[reduceCtorEq]at b;rename_i k;replace b:=dQ.1 b;obtain⟨L,b⟩:=b;rw[yF]at L;subst L;have:=xd O;subst this;replace b:=dI.1 b;obtain⟨l,Y,b⟩:=b;replace b:=dI.1 b;obtain⟨f,U,b⟩:=b;replace b:=dQ.1 b;obtain⟨_,b⟩:=b;simp only[ar]at b;subst b;obtain⟨bS,a8⟩:=oR (P:=P) x (ig x r hp) Y;obtain⟨bu,B,bi,Q,bH,D,bN,V⟩:=a8.form;obtain⟨t,F⟩:=sh.1 U;have X:l=f.map λi=>T.int .u8 (.ofNat i):=by
  apply cW;intro c;rw[aW];cases g:l[c]? with
  |none=>
   have:f[c]? =none:=by
    rw[List.getElem?_eq_none_iff]at g|-;omega
   rw[this];rfl
  |some z=>
   obtain⟨i,m,s⟩:=F c z g;rw[m,(Gj s).1];rfl
 have E:∀i∈f,i<256:=by
  intro i m;obtain⟨c,g⟩:=List.mem_iff_getElem?.1 m;have al:c<l.length:=by
   rw[t];rcases aQ c f.length with y|y
   ·exact y
   ·rw[bQ y]at g;simp at g
  obtain⟨bB,q,s⟩:=F c l[c] (by simp[al]);rw[g]at q;simp only[ar]at q;subst q;exact(Gj s).2
 have av:fI w.heap μ (.str f) (.string (bytesOf f)):= .str f E;rw[X,rY]at D;have an:∀(c:Nat) i,f[c]? =some i->bi[c]? =some (.int .u8 (i:Int)):=by
  intro c i g;obtain⟨u,aN,aX⟩:=D.get (k:=c) (v:= .int .u8 (.ofNat i)) (by simp[g]);rw[aN,aX.j3];rfl
 have W:(convert n j (a.eval A)).run P w= .ok (.string (bytesOf f)) w:=by
  rw[Q];rcases V with⟨rfl,M⟩|⟨y,rfl,m⟩
  ·have R:f=[]:=by
    have:=t;rw[M]at this;simp at this;exact bg this.symm
   subst R;rw[M];rw[run_convert_bytes_string w n j C none _ B G I K];simp[Conv.bytesToString];rfl
  ·have hl:l.length=(f.map UInt8.ofNat).length:=by simp[t]
   rw[hl];have:=run_convert_bytes_back (P:=P) w n j C y B (f.map UInt8.ofNat) G I K (by
    intro c g;simp only[aG]at g;have S:f[c]? =some f[c]:=by simp[g]
    rw[m c _ (an c _ S)];simp only[List.getElem_map];rw[jM (E _ (aD g))])
   rw[this];rfl
 exact jp.pure x (by simp only[execOp,ap,Sem.run_bind,W,Result.andThen_ok,Sem.run_pure]) av
end
end
section
section
variable {P:ai}{cx:Ctx}{base:Nat}{w:World}{μ:Mu}{h h':H}{mask:Nat}{e:Env}{a:Act}{o:Oper}{hp hp':af Obj}{p:T}
theorem Jd{x:ah}{b:Bool}(j:St cx base w.heap μ h)(i:kz w.heap μ mask e a.tmps)(g:o.op= .next x b){d:T}
 (f:Je x b cx mask e h=some (.val d h')):jp cx base w μ h.size ((execOp a.eval o).run P w) d h':=by
 cases b with
 |true=>exact Ha j i g f
 |false=>exact absurd f (by intro c;have c:(none:aa lQ)=some (.val d h'):=c;simp at c)
end
end
end
noncomputable section
section
def Ay(P:ai)(c:am->World->Prop):Result Next->Prop
 | .ok (.value d) b=>c d b
 | .ok .skip b=>c Go.undef b
 | .ok (.enter g f) b=>Calls P g f b λ
  | .returned d,i=>c d i
  |_,_=>False
 |_=>False
def Ay.mono{P:ai}{c d:am->World->Prop}{b:Result Next}(h:Ay P c b)(g:∀i w,c i w->d i w):Ay P d b:=by
 cases b with
 |halt l w=>exact h
 |ok j w=>
  cases j<;>simp only[Ay]at h|- <;>first|exact h|exact g _ _ h|skip
  exact Calls.mono h λe k f=>by cases e<;>first|exact g _ _ f|exact f
def Ay.wp{P:ai}{o:Oper}{a:Act}{w:World}{c:am->World->Prop}{next:Act->World->Prop}{Q:Exit->Act->World->Prop}
 (h:Ay P c ((execOp a.eval o).run P w)) (f:∀g b,c g b->next (a.put o.dst g) b):o.wp P a w next Q:=by
 unfold Oper.wp;generalize(execOp a.eval o).run P w=j at h;cases j with
 |halt k w=>exact h.elim
 |ok i w=>
  cases i<;>simp only[Ay]at h<;>simp only[Oper.upon]<;>first|exact h.elim|exact f _ _ h|skip
  exact Calls.mono h λe b d=>by cases e<;>first|exact f _ _ d|exact d.elim
def Ay.some{P:ai}{b:am->World->Prop}{d:Result Next}(h:Ay P b d):∃g w,b g w:=by
 cases d with
 |halt k w=>exact h.elim
 |ok f w=>
  cases f<;>simp only[Ay]at h<;>first|exact h.elim|exact⟨_,_,h⟩|skip
  have⟨e,j,i,c,_⟩:=h [];cases e<;>first|exact⟨_,_,c⟩|exact c.elim
section
variable {P:ai}{cx:Ctx}{base:Nat}{w:World}{μ:Mu}{h h':H}{mask:Nat}{e:Env}{a:Act}{o:Oper}
def WZ(cx:Ctx)(base:Nat)(w:World)(μ:Mu)(f:Nat)(g:T)(h':H)(d:am)(c:World):Prop:=
 ∃b,fI c.heap b g d/\St cx base c.heap b h'/\qg w μ c b/\yS μ b f h'.size
def jp.ran{i:Result Next}{g:Nat}{j:T}(h:jp cx base w μ g i j h'):Ay P (WZ cx base w μ g j h') i:=by
 obtain⟨m,n,k,l,b,c,d,f⟩:=h;rcases l with rfl|⟨rfl,rfl⟩
 ·exact⟨k,b,c,d,f⟩
 ·exact⟨k,b,c,d,f⟩
theorem Ow(jq:jg P cx)(i:St cx base w.heap μ h)(g:kz w.heap μ mask e a.tmps){b:Call}(f:o.op= .call b){d:T}
 (c:DP b cx mask e h=some (.val d h')):jp cx base w μ h.size ((execOp a.eval o).run P w) d h':=by
 replace c:=dI.1 c;grind [dI,reduceCtorEq,Fe]
theorem vU{i:Builtin}{r:List ab}{k:List T}{d:aj}{g:List T}(b:lF i cx h r k=some (.call d g)):False:=by
 have n:∀{c:aa T},val h c=some (.call d g)->False:=λf=>Bp f;have v:∀{c:aa (T×H)},jL c=some (.call d g)->False:=by
  intro c f;unfold jL at f;cases c<;>simp[two]at f
 cases i<;>simp only[lF,reduceCtorEq]at b
 case len=>
  split at b
  ·replace b:=dI.1 b;obtain⟨q,_,b⟩:=b;replace b:=dI.1 b;grind
  grind
 case append=>
  split at b
  ·split at b
   ·replace b:=dI.1 b;obtain⟨q,_,b⟩:=b;replace b:=dI.1 b;grind [dQ]
   grind
  grind
 case clear=>
  split at b
  ·split at b
   ·replace b:=dI.1 b;obtain⟨y,_,b⟩:=b;split at b
    ·rename_i m _;cases m<;>simp at b
    ·grind
    ·rename_i j _;cases j with
     |zero=>
      have b:some (lQ.val .undef h)=some (.call d g):=b
      grind
     |succ j=>
      replace b:=dI.1 b;obtain⟨l,_,b⟩:=b;obtain⟨x,t,z,u,p,s⟩:=l;obtain⟨_,b⟩:=dQ.1 b;obtain⟨_,b⟩:=dQ.1 b;cases p with
      |true=>grind
      |false=>
       replace b:=dI.1 b;obtain⟨_,_,b⟩:=b;replace b:=dI.1 b;obtain⟨_,_,b⟩:=b;replace b:=dI.1 b;grind
    grind
   grind
  grind
 case min=>split at b<;>first|exact n b|grind
 grind
def K7(k:St cx base w.heap μ h)(j:kz w.heap μ mask e a.tmps){c:Call}(r:o.op= .call c){g:aj}{i:List T}
 (b:DP c cx mask e h=some (.call g i)):∃f:af am,gY w.heap μ i f.toList/\(execOp a.eval o).run P w=(callFunc g f).run P w:=by
 replace b:=dI.1 b;obtain⟨v,q,b⟩:=b;have n:=wH k j q;cases d:c.callee with
 |builtin x=>rw[d]at b;grind [vU]
 |invoke D C=>rw[d]at b;grind
 |value A=>
  rw[d]at b;simp only at b;replace b:=dI.1 b;obtain⟨u,s,b⟩:=b;have t:=ig k j s;cases u<;>simp only[reduceCtorEq]at b;rename_i z y;replace b:=dI.1 b;obtain⟨B,hl,b⟩:=b;simp only[ar,lQ.call.injEq]at b;obtain⟨rfl,rfl⟩:=b;obtain⟨l,m,p⟩:=t.sq;rw[rN]at hl;simp only[ar]at hl;refine⟨c.args.map a.eval++l,?_,?_⟩
  ·rw[<-hl];simpa using n.append p
  ·simp[execOp,r,resolve,d,m,Deferred.ofValue,invoke]
def zG(jq:jg P cx)(f:St cx base w.heap μ h)(d:kz w.heap μ mask e a.tmps){k:T}
 (b:jr o.op cx mask e h=some (.val k h')):jp cx base w μ h.size ((execOp a.eval o).run P w) k h':=by
 cases c:o.op<;>rw[c]at b<;>simp only[jr,reduceCtorEq]at b
 case move g=>grind [BL]
 case assign g=>exact BL f d (.inr c) b
 case pick=>grind [Jc]
 case alloc=>grind [Hg]
 case box=>grind [K8]
 case build=>grind [Hf]
 case buildSlice=>grind [Aa]
 case load=>grind [Jf]
 case store=>grind [G7]
 case nilCheck=>grind [B1]
 case binOp q j g M L=>
  cases q<;>first
   |exact F4 jq (neg:=false) rfl f d c b
   |exact F4 jq (neg:=true) rfl f d c b
   |exact K9 dy dy f d c b
 case unOp=>grind [Ov]
 case convert I t g=>
  replace b:=dI.1 b;obtain⟨K,D,b⟩:=b;replace b:=dI.1 b;obtain⟨G,B,b⟩:=b;replace b:=dI.1 b;obtain⟨l,m,b⟩:=b;split at b
  ·grind [fT,HQ]
  ·rename_i p;split at b
   ·grind [fT,BM]
   ·obtain⟨E,C⟩:=fT.1 b;obtain⟨s,A,i⟩:=kM (jq.ty _ _ m);rw[p]at i;have:=sU i;grind [Ke]
  grind [BM,fT]
 case makeInterface=>grind [Hc]
 case makeFunc=>grind [Jh]
 case makeSlice=>grind [A4]
 case slice=>grind [G8]
 case fieldAddr=>grind [A8]
 case field=>grind [He]
 case indexAddr=>grind [A5]
 case index=>grind [Hb]
 case extract=>grind [DO]
 case range j g=>
  replace b:=dI.1 b;obtain⟨r,n,b⟩:=b;obtain⟨F,l,N,u,v,x,y,z,_⟩:=(jq.ty j r n).unfold
  grind [G9,sU]
 case next=>grind [Jd]
 grind [Ow]
def NC(d:aa lQ):Prop:=∀b c,d≠some (.call b c)
theorem NC.none:NC none:=λ_ _=>by simp
theorem NC.val{b:aa T}:NC (val h b):=λ_ _=>Bp
def NC.some{b:T}:NC (some (.val b h)):=λ_ _=>by simp
theorem NC.dW{f:Type}{d:aa f}{c:f->aa lQ}(h:∀b,NC (c b)):NC (dW d c):=by
 cases d with
 |none=>exact NC.none
 |some b=>exact h b
theorem NC.gX{b:Bool}{c:aa lQ}(h:NC c):NC (gX b c):=by
 cases b with
 |false=>exact NC.none
 |true=>exact h
def NC.bool{b:Bool}{c d:aa lQ}(f:NC c)(g:NC d):NC (Bool.casesOn b c d):=by
 cases b<;>assumption
def Du{b:Op}(d:∀c,b≠ .call c):NC (jr b cx mask e h):=by
 cases b<;>simp only[jr]<;>first
  |exact absurd rfl (d _)
  |exact NC.none
  |skip
 all_goals
  first
   |unfold DJ|unfold F3|unfold DQ|unfold Ox|unfold Ba|unfold oS|unfold Jg|unfold DG|unfold rU|unfold hUn|unfold Ms|unfold A7|unfold DM
   |unfold pZ|unfold DH|unfold p8|unfold A9|unfold p7|unfold A6|unfold uM|unfold z9|unfold Je|skip
 case binOp b f i j g=>
  cases b<;>first
   |(simp only[];unfold Ym;exact NC.dW λ_=>NC.dW λ_=>NC.dW λ_=>NC.gX (NC.dW λ_=>NC.val))
   |(simp only[];unfold Oy;exact NC.dW λ_=>NC.dW λ_=>NC.val)
 all_goals
  repeat first
   |exact NC.none
   |exact NC.val
   |exact NC.some
   |exact NC.new
   |refine NC.dW λ_=>?_
   |refine NC.gX ?_
   |refine NC.bool ?_ ?_
   |split
   |unfold kK
   |unfold pA
   |unfold DI
   |unfold A3
   |(refine NC.nat ?_ λ_=>?_)
   |(refine NC.opt ?_ λ_=>?_)
   |(unfold two)
def Iz(m:St cx base w.heap μ h)(l:kz w.heap μ mask e a.tmps){c:aj}{g:List T}
 (d:jr o.op cx mask e h=some (.call c g)):(∃b,o.op= .call b)/\∃i:af am,gY w.heap μ g i.toList/\(execOp a.eval o).run P w=(callFunc c i).run P w:=by
 by_cases j:∃b,o.op= .call b
 ·obtain⟨b,f⟩:=j;rw[f]at d;exact⟨⟨b,f⟩,K7 m l f d⟩
 ·exact absurd d (Du (λb k=>j ⟨b,k⟩) c g)
end
end
section
structure lr(h h':H):Prop where
 wf:h'.fG.length=h'.size
 size:h.size<=h'.size
 low:h'.low<=h.low
 kU:∀b,b<h.size->b<h'.low->h'.get b=h.get b
 ver:∀b x,h.get b=some x->∃x',h'.get b=some x'/\(x'=x\/x.ver<x'.ver)
def lr.refl{h:H}(a:h.fG.length=h.size):lr h h:=⟨a,au _,au _,λ_ _ _=>rfl,λ_ c b=>⟨c,b,.inl rfl⟩⟩
def lr.trans{h d e:H}(b:lr h d)(a:lr d e):lr h e:=by
 refine⟨a.wf,aO b.size a.size,aO a.low b.low,λc f hl=>?_,λc i g=>?_⟩
 ·rw[a.kU c (bD f b.size) hl,b.kU c f (bD hl a.low)]
 ·have⟨j,d,r1⟩:=b.ver c i g;have⟨k,e,r2⟩:=a.ver c j d;refine⟨k,e,?_⟩;rcases r1 with rfl|r1<;>rcases r2 with rfl|r2
  ·simp
  ·omega
  ·omega
  omega
def H.fa{h:H}{a:Nat}{c:iX}(b:h.get a=some c):a<h.size:=by
 rw[H.get_eq]at b
 grind
theorem lr.cons{h:H}(e:h.fG.length=h.size)(a:iX):lr h (h.cons a):=by
 refine⟨by simp[H.cons,e],by simp[H.cons],by simp[H.cons],λc d _=>H.nC d a,λc f b=>⟨f,?_,.inl rfl⟩⟩;rw[H.nC (H.fa b) a];exact b
theorem lr.put{h b:H}(f:h.fG.length=h.size){a:Nat}{x e:iX}(i:h.get a=some x)(d:h.put a e=some b)(j:x.ver<e.ver):lr h b:=by
 have⟨p1,p2,p3,p4⟩:=Cg d f;obtain⟨l,m,rfl⟩:=H.wF.1 d;refine⟨p2,dy,?_,λc g hl=>p4 c ?_,λc o k=>?_⟩
 ·simp only;split<;>omega
 ·rintro rfl;simp only at hl;split at hl<;>omega
 grind
def Mv(h:H)(c:aa lQ):Prop:=∀b a,c=some (.val b a)->lr h a
section
variable {h:H}
theorem Mv.none(b:h.fG.length=h.size):Mv h none:=λ_ _ a=>by grind
theorem Mv.val(b:h.fG.length=h.size){c:aa T}:Mv h (val h c):=λe d a=>by obtain⟨_,rfl⟩:=fT.1 a;exact lr.refl b
def Mv.some(c:h.fG.length=h.size){b:T}:Mv h (some (.val b h)):=λb d a=>by simp at a;obtain⟨_,rfl⟩:=a;exact lr.refl c
def Mv.new(d:h.fG.length=h.size){f:Nat->T}{c:iX}:Mv h (jL (h.new f c)):=λg e a=>by
 rw[jy,H.lz]at a;simp only[ar,aB]at a;obtain⟨_,rfl⟩:=a;exact lr.cons d c
theorem Mv.dW(e:h.fG.length=h.size){d:Type}{a:aa d}{c:d->aa lQ}(f:∀b,a=Option.some b->Mv h (c b)):Mv h (dW a c):=by
 cases a with
 |none=>exact Mv.none e
 |some b=>simp_all
theorem Mv.gX(c:h.fG.length=h.size){a:Bool}{b:aa lQ}(d:Mv h b):Mv h (gX a b):=by
 cases a with
 |false=>exact Mv.none c
 |true=>exact d
def Mv.bool(d:h.fG.length=h.size){a:Bool}{b c:aa lQ}(e:Mv h b)(f:Mv h c):Mv h (Bool.casesOn a b c):=by
 cases a<;>assumption
theorem pH(c:h.fG.length=h.size){e bytes:Nat}{d g:List T}{f:T}{b:H}(a:h.jo e bytes d g=Option.some (f,b)):lr h b:=by
 replace a:=dI.1 a;obtain⟨i,_,a⟩:=a;replace a:=dI.1 a;obtain⟨j,_,a⟩:=a;have⟨_,a⟩:=dQ.1 a;have⟨_,a⟩:=dQ.1 a;have⟨_,a⟩:=dQ.1 a;have⟨_,a⟩:=dQ.1 a;rw[H.lz]at a;simp only[ar,aB]at a;obtain⟨_,rfl⟩:=a;exact lr.cons c _
def Ff(s:h.fG.length=h.size){g bytes c d f:Nat}{k:List T}{i:T}{b:H}(a:h.mR g bytes c d f k=Option.some (i,b)):lr h b:=by
 replace a:=dI.1 a;obtain⟨j,t,a⟩:=a;obtain⟨v,m,w,p,e,l⟩:=j;simp only at a;replace a:=dI.1 a;obtain⟨o,_,a⟩:=a;replace a:=dI.1 a;obtain⟨n,_,a⟩:=a;replace a:=dI.1 a;obtain⟨u,_,a⟩:=a;have⟨_,a⟩:=dQ.1 a;have⟨_,a⟩:=dQ.1 a;have⟨_,a⟩:=dQ.1 a;have⟨_,a⟩:=dQ.1 a;have⟨_,a⟩:=dQ.1 a;cases e with
 |true=>grind
 |false=>
  simp only[iM,ed]at a;replace a:=dI.1 a;obtain⟨q,r,a⟩:=a;simp only[ar,aB]at a;obtain⟨_,rfl⟩:=a
  grind [lr.put]
theorem JM(e:h.fG.length=h.size){k bytes:Nat}{b:T}{i:List T}{g:T}{c:H}(a:h.append k bytes b i=Option.some (g,c)):lr h c:=by
 unfold H.append at a;cases i with
 |nil=>
  have a:Go.TI.gX (pz b) (Option.some (b,h))=Option.some (g,c):=a;obtain⟨_,a⟩:=dQ.1 a;simp only[ar,aB]at a;obtain⟨_,rfl⟩:=a;exact lr.refl e
 |cons o p=>
  simp only at a;cases b<;>simp only[reduceCtorEq]at a
  case dK j d=>
   cases j with
   |nil=>grind [pH]
   |cons q r=>grind [dQ,pH]
  case arr l m f n d=>
   cases d with
   |false=>
    cases f with
    |zero=>exact Ff e a
    |succ f=>grind
   |true=>replace a:=dI.1 a;grind [pH]
theorem Kf(l:h.fG.length=h.size){e:Ty}{b f:T}{c:H}(a:h.store e b f=Option.some c):lr h c:=by
 unfold H.store at a;cases b<;>simp only[reduceCtorEq]at a;have⟨_,a⟩:=dQ.1 a;replace a:=dI.1 a;obtain⟨g,m,a⟩:=a;obtain⟨n,j,o,k,d,i⟩:=g;simp only at a;have⟨_,a⟩:=dQ.1 a;cases d with
 |true=>grind
 |false=>
  simp only at a;replace a:=dI.1 a;obtain⟨_,_,a⟩:=a;replace a:=dI.1 a;obtain⟨_,_,a⟩:=a;replace a:=dI.1 a;grind [ed,iM,lr.put]
def Rr(a:h.fG.length=h.size){e:Op}{cx:Ctx}{q:Nat}{n:Env}:Mv h (jr e cx q n h):=by
 by_cases l:∃d,e= .call d
 ·obtain⟨d,rfl⟩:=l;simp only[jr];unfold DP;refine Mv.dW a λt _=>?_;split
  ·rename_i m _;cases m<;>simp only[lF]<;>first|exact Mv.none a|skip
   case len=>
    split
    ·unfold OS
     grind [Mv.dW,Mv.val,Mv.none]
    grind [Mv.none]
   case append=>
    split
    ·split
     ·unfold jc;refine Mv.dW a λ_ _=>Mv.dW a λ_ _=>Mv.gX a ?_;intro c f b
      grind [jy,JM]
     grind [Mv.none]
    grind [Mv.none]
   case clear=>
    split
    ·split
     ·unfold Ek;refine Mv.dW a λw _=>?_;split
      ·rename_i j _ _;cases j
       ·exact Mv.some a
       grind [Mv.none]
      ·exact Mv.some a
      ·rename_i g _ _;cases g with
       |zero=>exact Mv.some a
       |succ g=>
        refine Mv.dW a λi p=>?_;refine Mv.gX a (Mv.gX a (Mv.bool a ?_ ?_))
        ·refine Mv.dW a λj _=>?_;simp only[iM,ed];refine Mv.dW a λk o=>?_;intro c f b;simp only[ar,lQ.val.injEq]at b;obtain⟨_,rfl⟩:=b
         grind [lr.put]
        grind [Mv.none]
      grind [Mv.none]
     grind [Mv.none]
    grind [Mv.none]
   all_goals (split<;>first|exact Mv.val a|exact Mv.none a)
  ·refine Mv.dW a λc _=>?_;split
   ·refine Mv.dW a λg _=>?_;intro c f b
    grind
   grind [Mv.none]
  grind [Mv.none]
 cases e<;>simp only[jr]<;>first
  |exact Mv.none a
  |exact(l ⟨_,rfl⟩).elim
  |skip
 case binOp e r i y x=>
  cases e<;>first
   |(simp only[];unfold Ym;exact Mv.dW a λ_ _=>Mv.dW a λ_ _=>Mv.dW a λ_ _=>Mv.gX a (Mv.dW a λ_ _=>Mv.val a))
   |(simp only[];unfold Oy;exact Mv.dW a λ_ _=>Mv.dW a λ_ _=>Mv.val a)
 case store r s i=>
  unfold DG;refine Mv.dW a λ_ _=>Mv.dW a λ_ _=>Mv.dW a λ_ _=>Mv.gX a (Mv.dW a λk u=>?_);intro c f b;simp only[ar,lQ.val.injEq]at b;obtain⟨_,rfl⟩:=b
  grind [Kf]
 case next it v=>
  unfold Je;refine Mv.bool a ?_ ?_
  ·exact Mv.none a
  ·unfold A3;refine Mv.dW a λc _=>?_;cases c<;>simp only<;>first|exact Mv.none a|skip
   refine Mv.dW a λi p=>Mv.gX a ?_;split
   ·refine Mv.bool a (Mv.some a) (Mv.dW a λd _=>?_);obtain⟨d,wd⟩:=d;simp only[kN,iM,ed];refine Mv.dW a λk o=>?_;intro c f b;simp only[ar,lQ.val.injEq]at b;obtain⟨_,rfl⟩:=b
    grind [lr.put]
   grind [Mv.none]
 all_goals
  first
   |unfold DJ|unfold F3|unfold DQ|unfold Ox|unfold Ba|unfold oS|unfold Jg|unfold rU|unfold hUn|unfold Ms|unfold A7|unfold DM
   |unfold pZ|unfold DH|unfold p8|unfold A9|unfold p7|unfold A6|unfold uM|unfold z9|skip
 all_goals
  repeat first
   |exact Mv.none a
   |exact Mv.val a
   |exact Mv.some a
   |exact Mv.new a
   |refine Mv.dW a λ_ _=>?_
   |refine Mv.gX a ?_
   |refine Mv.bool a ?_ ?_
   |split
   |unfold kK
   |unfold pA
   |unfold DI
   |(refine Mv.opt a ?_ λ_=>?_)
   |(unfold two)
end
end
section
inductive qf (n:Nat):T->Prop where
 |undef:qf n .undef
 |bool (b:Bool):qf n (.bool b)
 |int (k:ak) (m:Int):qf n (.int k m)
 |str (s:List Nat):qf n (.str s)
 |kE:qf n .kE
 |ptr (b ep i j:Nat) (h:b<n):qf n (.ptr b ep i j)
 |jH (cs:List T) (h:∀v∈cs,qf n v):qf n (.jH cs)
 |dK (es:List T) (full:Bool) (h:∀v∈fF es,qf n v):qf n (.dK es full)
 |gW:qf n .gW
 |arr (b ep o l:Nat) (full:Bool) (h:b<n):qf n (.arr b ep o l full)
 |func (f:aj) (cs:List T) (h:∀v∈cs,qf n v):qf n (.func f cs)
 |kT:qf n .kT
 |kS:qf n .kS
 |iface (t:ab) (v:T) (h:qf n v):qf n (.iface t v)
 |iter (b:Nat) (h:b<n):qf n (.iter b)
 |map (b:Nat) (h:b<n):qf n (.map b)
 |oq:qf n .oq
 |agg (cs:List T) (h:∀v∈cs,qf n v):qf n (.agg cs)
 |tuple (vs:List T) (h:∀v∈vs,qf n v):qf n (.tuple vs)
theorem qf.cells{n:Nat}{b:T}(h:qf n b):∀c∈b.cells,qf n c:=by
 cases h with
 |agg d h=>exact h
 |_=>intro c a;simp[T.cells]at a;subst a;constructor<;>assumption
def kA.low{a:T}(h:kA a)(n:Nat):qf n a:=by
 induction h with
 |dK c d _ i=>
  refine .dK c d λa f=>?_;have⟨b,e,g⟩:=List.mem_flatMap.1 f;exact(i b e).cells a g
 |_=>constructor<;>assumption
def fI.low{hp:af Obj}{μ:Mu}{a:T}{k:am}(h:fI hp μ a k){n:Nat}(g:∀c e,μ c=some e->c<n):qf n a:=by
 induction h with
 |ptr c s w G e j b t D=>exact .ptr _ _ _ _ (g _ _ b)
 |arr c s K I m e j z b t hl h=>exact .arr _ _ _ _ _ (g _ _ b)
 |iter c e j b h=>exact .iter _ (g _ _ b)
 |map c e w b h=>exact .map _ (g _ _ b)
 |jH r q off arr p fz v u i o hr d=>exact .jH _ λa f=>by grind [dg]
 |oc m j=>exact .dK _ _ λa f=>by grind [fF]
 |dK A B m q off x L arr p fz v u hl E F i o hr d=>exact .dK _ _ λa f=>by grind [dg]
 |func C y l i hr d=>exact .func _ _ λa f=>by grind [dg]
 |agg r l i o hr d=>exact .agg _ λa f=>by grind [dg]
 |tuple M l i hr d=>exact .tuple _ λa f=>by grind [dg]
 |iface p a k h d=>exact .iface _ _ d
 |_=>constructor
def mQ(n:Nat)(μ:Mu):Mu:=⟨λa=>if a<n then μ a else none,μ.pM⟩
def uP{n a:Nat}{μ:Mu}(h:a<n):mQ n μ a=μ a:=by simp[mQ,h]
def kj{n a:Nat}{μ:Mu}{b:Loc}(h:mQ n μ a=some b):a<n/\μ a=some b:=by
 have h:(if a<n then μ a else none)=some b:=h
 grind
theorem xz{n a:Nat}{μ:Mu}(h:¬nR μ a):¬nR (mQ n μ) a:=by
 rintro(⟨c,b,d,rfl⟩|hr)
 ·exact h (.inl ⟨c,b,(kj d).2,rfl⟩)
 ·exact h (.inr hr)
def fI.cut{hp:af Obj}{μ:Mu}{a:T}{q:am}(h:fI hp μ a q){n:Nat}(hl:qf n a):fI hp (mQ n μ) a q:=by
 induction h with
 |undef=>exact .undef
 |bool f=>exact .bool f
 |int d M=>exact .int d M
 |str O h=>exact .str O h
 |kE=>exact .kE
 |ptr f u z K i e j v F=>cases hl with|ptr _ _ _ _ h=>exact .ptr f u z K i e (by rw[uP h];exact j) v F
 |jH t r off arr p fz y w g o hr c=>
  cases hl with|jH _ h=>exact .jH t r off arr p fz (xz y) w g o λd a b=>c d a b (h a (ay b))
 |oc l e=>exact .oc l e
 |dK C D l r off s P arr p fz y w x G I g o hr c=>
  cases hl with|dK _ _ h=>exact .dK C D l r off s P arr p fz (xz y) w x G I g o λd a b=>c d a b (h a (ay b))
 |gW e s=>exact .gW e s
 |arr f u N L l i e B j v x m=>cases hl with|arr _ _ _ _ _ h=>exact .arr f u N L l i e B (by rw[uP h];exact j) v x m
 |func E A k g hr c=>cases hl with|func _ _ h=>exact .func E A k g λd a b=>c d a b (h a (ay b))
 |kT=>exact .kT
 |kS=>exact .kS
 |iface p a q h c=>cases hl with|iface _ _ h=>exact .iface p a q (c h)
 |iter f i e j m=>cases hl with|iter _ h=>exact .iter f i e (by rw[uP h];exact j) m
 |map f i z j m=>cases hl with|map _ h=>exact .map f i z (by rw[uP h];exact j) m
 |oq=>exact .oq
 |agg t k g o hr c=>cases hl with|agg _ h=>exact .agg t k g o λd a b=>c d a b (h a (ay b))
 |tuple Q k g hr c=>cases hl with|tuple _ h=>exact .tuple Q k g λd a b=>c d a b (h a (ay b))
def gY.cut{hp:af Obj}{μ:Mu}{b:List T}{c:List am}(h:gY hp μ b c){n:Nat}(hl:∀a∈b,qf n a):gY hp (mQ n μ) b c:=
 ⟨h.1,λe a d=>(h.2 e a d).cut (hl a (ay d))⟩
def rG.cut{hp:af Obj}{μ:Mu}{l:Loc}{j:iX}(h:rG hp μ l j){n:Nat}(hl:∀g∈fF j.fc,qf n g):rG hp (mQ n μ) l j:=by
 refine⟨h.ep,h.sz,λb=>?_,λb=>?_⟩
 ·have f:=h.plain b;have⟨p,D,a,c,d⟩:=f.row;exact⟨⟨p,D,a,c,d.cut hl⟩,f.room,f.tX,f.size,f.scalar⟩
 ·obtain⟨m,a|⟨r,a,c,d⟩|⟨z,y,B,C,q,a,c,d,w⟩⟩:=h.iter b
  ·grind
  rotate_left
  ·exact⟨m,.inr (.inr ⟨z,y,B,C,q,a,c.cut (hl _ (by rw[a];simp[fF,T.cells])),d,w⟩)⟩
  ·refine⟨m,.inr (.inl ⟨r,a,c,λx k o=>?_⟩)⟩;have⟨b,g,A,i,s,t,u,v⟩:=d x k o;have e:=hl k (List.mem_flatMap.2 ⟨k,ay o,by rw[i];simp[T.cells]⟩);rw[i]at e;cases e with|tuple _ e=>exact⟨b,g,A,i,s,t,u.cut (e b dy),v.cut (e g dy)⟩
def rG.low{hp:af Obj}{μ:Mu}{e:Loc}{k:iX}(h:rG hp μ e k){n:Nat}(c:∀l e,μ l=some e->l<n):∀j∈fF k.fc,qf n j:=by
 intro j a;cases d:k.it with
 |false=>
  have⟨y,L,f,g,b⟩:=(h.plain d).row;have⟨o,t⟩:=List.mem_iff_getElem?.1 a;exact(b.2 o j t).low c
 |true=>
  obtain⟨_,⟨I,w,s,_⟩|⟨A,f,g,b⟩|⟨F,E,w,K,z,f,g,b,D⟩⟩:=h.iter d
  ·rw[s]at a;simp[fF,T.cells]at a;rcases a with rfl|rfl<;>constructor
  rotate_left
  ·rw[f]at a;simp[fF,T.cells]at a;rcases a with rfl|rfl|rfl|rfl
   ·exact g.low c
   all_goals constructor
  ·have⟨x,u,i⟩:=List.mem_flatMap.1 a;have⟨v,d⟩:=List.mem_iff_getElem?.1 u;have⟨o,M,G,p,B,C,q,r⟩:=b v x d;rw[p]at i;simp[T.cells]at i;subst i;refine .tuple _ λN m=>?_;simp at m;rcases m with rfl|rfl
   ·exact q.low c
   ·exact r.low c
inductive iF {α β:Type} (R:α->β->Prop):List α->List β->Prop where
 |nil:iF R [] []
 |cons {a:α} {b:β} {l:List α} {m:List β} (h:R a b) (t:iF R l m):iF R (a::l) (b::m)
def iF.imp{g i:Type}{b c:g->i->Prop}{e:List g}{f:List i}(h:iF b e f)(j:∀a d,b a d->c a d):iF c e f:=by
 induction h with
 |nil=>exact .nil
 |cons a _ k=>exact .cons (j _ _ a) k
def iF.length{c d:Type}{e:c->d->Prop}{a:List c}{b:List d}(h:iF e a b):a.length=b.length:=by
 induction h with
 |nil=>rfl
 |cons _ _ f=>grind
theorem iF.append{f g:Type}{a:f->g->Prop}{b c:List f}{d e:List g}(h:iF a b d)(j:iF a c e):iF a (b++c) (d++e):=by
 induction h with
 |nil=>exact j
 |cons i _ k=>exact .cons i k
def iF.get{f a:Type}{b:f->a->Prop}{c:List f}{d:List a}(h:iF b c d){k:Nat}{y:a}(i:d[k]? =some y):∃e,c[k]? =some e/\b e y:=by
 induction h generalizing k with
 |nil=>grind
 |cons g _ j=>grind
def iF.mem{g a:Type}{b:g->a->Prop}{c:List g}{d:List a}(h:iF b c d){f:a}(j:f∈d):∃e∈c,b e f:=by
 have⟨l,i⟩:=List.mem_iff_getElem?.1 j;have⟨e,k,m⟩:=h.get i
 grind
def iF.map{b:Type}{g:b->aa b}{f:b->b->Prop}{a e:List b}(i:∀c∈a,∀d,g c=some d->f c d)(h:fQ g a=some e):iF f a e:=by
 induction a generalizing e with
 |nil=>simp at h;subst h;exact .nil
 |cons c a k=>
  rw[jO]at h;replace h:=dI.1 h;obtain⟨d,j,h⟩:=h;replace h:=dI.1 h;obtain⟨o,ht,h⟩:=h;simp at h;subst h;exact .cons (i c dy d j) (k (λl m=>i l (by grind)) ht)
structure Fz(hp:af Obj)(μ:Mu)(n:Nat)(v v':T):Prop where
 rel:∀c,fI hp μ v c->fI hp (mQ n μ) v' c
 scalar:v'.scalar=v.scalar
 cells:iF (λx x'=>(∀c,fI hp μ x c->fI hp (mQ n μ) x' c)/\x'.scalar=x.scalar/\kA x') v.cells v'.cells
 closed:kA v'
theorem iF.fF{a:T->T->Prop}{b c:List T}(h:iF (λf g=>iF a f.cells g.cells) b c):iF a (TI.fF b) (TI.fF c):=by
 induction h with
 |nil=>exact .nil
 |cons d _ e=>simpa[TI.fF]using iF.append d e
section
variable {cx:Ctx}{base:Nat}{hp:af Obj}{μ:Mu}{h:H}{n:Nat}
def Fz.same{b:T}(hl:kA b)(a:b.cells=[b]):Fz hp μ n b b:=
 ⟨λc a=>a.cut (hl.low n),rfl,by rw[a];exact .cons ⟨λc a=>a.cut (hl.low n),rfl,hl⟩ .nil,hl⟩
def B7{a:T}(b:∀d∈a.cells,kA d):kA a:=by
 cases a with
 |agg c=>exact .agg c b
 |_=>exact b _ (by simp[T.cells])
def Im{a:List T}(e:∀d∈a,∃b,fI hp μ d b):∃c,gY hp μ a c:=by
 induction a with
 |nil=>exact⟨[],gY.nil⟩
 |cons j a i=>
  have⟨b,f⟩:=e j dy;have⟨c,g⟩:=i λd k=>e d (by grind);exact⟨b::c,gY.cons f g⟩
def Gx{a:T}(d:∀c∈a.cells,∃b,fI hp μ c b)(g:∀c∈a.cells,c.scalar=true):∃b,fI hp μ a b:=by
 cases a with
 |agg f=>
  have⟨e,hl⟩:=Im d;exact⟨.agg e.toArray,fI.ym (by have hl:gY hp μ f e:=hl;omega) g⟩
 |_=>exact d _ (by simp[T.cells])
def gY.mem{b:List T}{d:List am}(h:gY hp μ b d){a:T}(f:a∈b):∃c,fI hp μ a c:=by
 have⟨g,e⟩:=List.mem_iff_getElem?.1 f;exact⟨_,h.2 g a e⟩
def Hv(s:St cx base hp μ h):∀(D:Nat) (d c:T),(∃o,fI hp μ d o)->freeze h n D d=some c->Fz hp μ n d c:=by
 intro D;induction D with
 |zero=>intro d c _ b;simp[freeze]at b
 |succ D bB=>
  intro d c W b;cases d with
  |undef=>exact absurd b (by show¬(none=some c);simp)
  |ptr=>exact absurd b (by show¬(none=some c);simp)
  |jH=>exact absurd b (by show¬(none=some c);simp)
  |func=>exact absurd b (by show¬(none=some c);simp)
  |iface=>exact absurd b (by show¬(none=some c);simp)
  |iter=>exact absurd b (by show¬(none=some c);simp)
  |map=>exact absurd b (by show¬(none=some c);simp)
  |oq=>exact absurd b (by show¬(none=some c);simp)
  |tuple=>exact absurd b (by show¬(none=some c);simp)
  |bool l=>have b:some (T.bool l)=some c:=b;simp only[ar]at b;subst b;exact Fz.same (.bool l) rfl
  |int x m=>have b:some (T.int x m)=some c:=b;simp only[ar]at b;subst b;exact Fz.same (.int x m) rfl
  |str l=>have b:some (T.str l)=some c:=b;simp only[ar]at b;subst b;exact Fz.same (.str l) rfl
  |kE=>have b:some (T.kE)=some c:=b;simp only[ar]at b;subst b;exact Fz.same .kE rfl
  |gW=>have b:some (T.gW)=some c:=b;simp only[ar]at b;subst b;exact Fz.same .gW rfl
  |kT=>have b:some (T.kT)=some c:=b;simp only[ar]at b;subst b;exact Fz.same .kT rfl
  |kS=>have b:some (T.kS)=some c:=b;simp only[ar]at b;subst b;exact Fz.same .kS rfl
  |dK r A=>
   have b:some (T.dK r A)=some c:=b;simp only[ar]at b;subst b;obtain⟨o,q⟩:=W;refine Fz.same ?_ rfl;cases q with
   |oc=>exact .dK _ _ λd g=>by simp at g
   |dK e r A eh off eo ec arr t fz ey b hl a7 eB eA q hr=>
    exact .dK _ _ λd g=>B7 λi f=>(q i (List.mem_flatMap.2 ⟨d,g,f⟩)).2
  |agg P=>
   have b:(dW (fQ (freeze h n D) P) λz=>some (T.agg z))=some c:=b;replace b:=dI.1 b;obtain⟨z,hr,b⟩:=b;simp only[ar]at b;subst b;obtain⟨o,q⟩:=W;obtain⟨b6,rfl,K,dm⟩:=q.qm;have p:iF (Fz hp μ n) P z:=iF.map (λi f B ae=>bB i B (K.mem f) ae) hr;have V:∀d∈z,kA d:=λd g=>by obtain⟨i,_,f⟩:=p.mem g;exact f.closed
   have dn:∀d∈z,d.scalar=true:=λd g=>by obtain⟨i,dd,f⟩:=p.mem g;rw[f.scalar];exact dm i dd
   refine⟨λo q=>?_,rfl,?_,.agg z V⟩
   ·obtain⟨b6,rfl,K,_⟩:=q.qm;refine fI.ym ⟨by rw[<-p.length];exact K.1,λx d bn=>?_⟩ dn;obtain⟨i,f,a7⟩:=p.get bn;exact a7.rel _ (K.2 x i f)
   ·show iF _ P z;exact p.imp λa l G=>⟨G.rel,G.scalar,G.closed⟩
  |arr l Q v u A=>
   have b:gX (Nat.ble n l) (dW (h.get l) λi=> @iX.rec (λ_=>aa T) (λ_ R _ exact an k=>
    gX (Nat.beq R Q) (@Bool.rec (λ_=>aa T) (dW (dW (j8 v k) λz=>takeN u z) λr=>dW (fQ (freeze h n D) r) λE=>
     @List.rec T (λ_=>aa T) (@List.rec T (λ_=>aa T) (@Bool.rec (λ_=>aa T) (some .gW) (some (.dK [] false)) exact) (λ_ _ _=>some .gW) k) (λ_ _ _=>some (.dK E A)) E) none an)) i)=some c:=b
   obtain⟨bu,b⟩:=dQ.1 b;have bu:n<=l:=bh bu;replace b:=dI.1 b;obtain⟨bT,cb,b⟩:=b;obtain⟨ec,R,eD,S,an,k⟩:=bT;simp only at b;obtain⟨aX,b⟩:=dQ.1 b;have aX:R=Q:=aF aX;cases an with
   |true=>simp at b
   |false=>
    replace b:=dI.1 b;obtain⟨r,w,b⟩:=b;replace b:=dI.1 b;obtain⟨E,cy,L⟩:=b;obtain⟨c7,w⟩:v+u<=k.length/\r=(k.drop v).take u:=by
     replace w:=dI.1 w;obtain⟨r0,C,p⟩:=w;rw[mn]at C;split at C
     ·simp only[ar]at C;subst C;rw[oh]at p;split at p
      ·simp only[ar]at p;rename_i c9 c6;simp only[List.length_drop]at c6;exact⟨J,p.symm⟩
      ·simp at p
     ·simp at C
    have ap:∀o,fI hp μ (.arr l Q v u A) o->fI hp (mQ n μ) c o/\kA c/\c.cells=[c]/\c.scalar=true:=by
     intro o q;obtain⟨j,ef,av,rfl,U,aN,hl,dk⟩:=q.tJ;obtain⟨eE,F,M⟩:=s.box l j U;rw[cb]at F;simp only[ar]at F;subst F;have b7:=M.ep;simp only at b7;obtain⟨bi,de,b8⟩:=dk J;have y:=M.plain rfl;simp only at y;obtain⟨arr,t,C,p,aA⟩:=y.row;have a6:∀d∈r,d.cells.length=j.sz:=λd g=>y.size d (bI (bG (w▸g)));have di:∀d∈fF k,∃o,fI hp μ d o:=λd g=>aA.mem g;have bs:∀d∈r,d∈k:=λd g=>bI (bG (w▸g));have I:iF (Fz hp μ n) r E:=iF.map (λi f B ae=>bB i B (Gx (λO al=>di O (List.mem_flatMap.2 ⟨i,bs i f,al⟩)) λO al=>y.scalar O (List.mem_flatMap.2 ⟨i,bs i f,al⟩)) ae) cy;have Y:E.length=u:=by rw[<-I.length,w];simp;omega
     have cp:S=true->j.cap=k.length:=y.tX;cases E with
     |nil=>
      have c4:u=0:=by simpa using Y.symm
      subst c4;have aN:c= .gW\/(k=[]/\S=true/\c= .dK [] false):=by
       cases k with
       |cons O eF=>have b:some T.gW=some c:=L;simp only[ar]at b;exact .inl b.symm
       |nil=>
        cases S with
        |false=>have b:some T.gW=some c:=L;simp only[ar]at b;exact .inl b.symm
        |true=>have b:some (T.dK [] false)=some c:=L;simp only[ar]at b;exact .inr ⟨rfl,rfl,b.symm⟩
      rcases aN with rfl|⟨rfl,rfl,rfl⟩
      ·exact⟨.gW _ _,.gW,rfl,rfl⟩
      ·have aE:j.cap=0:=by simpa using cp rfl
       have:av=0:=by
        cases A with
        |false=>have:=de rfl;omega
        |true=>exact bi rfl
       subst this;exact⟨.oc _ _,.dK _ _ λd g=>by simp at g,rfl,rfl⟩
     |cons B N=>
      have b:some (T.dK (B::N) A)=some c:=L;simp only[ar]at b;subst b;simp only[aT]at Y;have V:∀d∈B::N,kA d:=λd g=>by obtain⟨i,_,f⟩:=I.mem g;exact f.closed
      refine⟨?_,.dK _ _ V,rfl,rfl⟩;rw[b8 J,<-Y];have X:=iF.fF (I.imp λa l G=>G.cells);have c1:(fF (B::N)).length=u*j.sz:=by rw[<-X.length,iu a6,w];congr 1;simp;omega
      have a8:fF r=((fF k).drop (v*j.sz)).take (u*j.sz):=by rw[w];exact DX y.size v u
      have cL:(fF k).length=k.length*j.sz:=iu y.size;have er:v*j.sz+u*j.sz<=k.length*j.sz:=by rw[<-cq];exact aV _ c7
      have et:k.length*j.sz<=j.cap*j.sz:=aV _ y.room;refine .dK B N A j.ja (v*j.sz) av j.sz arr t (0,0) ?_ C J (λx=>by rw[bi x];omega) ?_ ?_ ?_ ?_
      ·rintro(⟨bS,bN,b9,ca⟩|hr)
       ·obtain⟨eC,eb⟩:=kj b9;have:=s.inj bS l bN j eb U ca;omega
       ·exact s.apart l j U hr
      ·intro d g;obtain⟨i,f,dv⟩:=I.mem g;rw[<-dv.cells.length];exact a6 i f
      ·rw[c1,p];omega
      ·intro d g;obtain⟨i,f,F,M,ds⟩:=X.mem g;refine⟨?_,ds⟩;rw[M];rw[a8]at f;exact y.scalar i (bI (bG f))
      ·intro x d g;obtain⟨i,f,F,_⟩:=X.get g;refine F _ ?_;rw[a8,cG]at f;split at f
       ·rename_i bn;rw[bU]at f;have:=aA.2 _ i f;have c9:v*j.sz+x<(fF k).length:=by rw[cL];omega
        have eu:v*j.sz+x<arr.size:=by rw[p];omega
        simp_all
       grind
    obtain⟨bX,aE⟩:=W;obtain⟨_,bC,ea,bH⟩:=ap bX aE;exact⟨λo q=>(ap o q).1,by rw[bH];rfl,by rw[ea];exact .cons ⟨λo q=>(ap o q).1,by rw[bH];rfl,bC⟩ .nil,bC⟩
end
end
section
section
variable {cx:Ctx}{base:Nat}{hp:af Obj}{μ:Mu}{h:H}{n:Nat}
def uO(t:St cx base hp μ h){e c:T}(q:∃d,fI hp μ e d)(a:iN h n e=some c):
 (∀d,fI hp μ e d->fI hp (mQ n μ) c d)/\c.scalar=e.scalar:=by
 have s:freeze h n 12 e=some c->(∀d,fI hp μ e d->fI hp (mQ n μ) c d)/\c.scalar=e.scalar:=λr=>
  let m:=Hv t 12 e c q r
  ⟨m.rel,m.scalar⟩
 cases e with
 |undef=>
  have a:some T.undef=some c:=a;simp only[ar]at a;subst a;exact⟨λd g=>g.cut .undef,rfl⟩
 |ptr b i o p=>
  have a: @Bool.rec (λ_=>aa T) (some (.ptr b i o p)) none (Nat.ble n b)=some c:=a;cases f:Nat.ble n b with
  |true=>rw[f]at a;grind
  |false=>
   rw[f]at a;have a:some (T.ptr b i o p)=some c:=a;simp only[ar]at a;subst a;have:b<n:=by
    grind [aQ,cj]
   exact⟨λd g=>g.cut (.ptr _ _ _ _ this),rfl⟩
 |map b=>
  have a: @Bool.rec (λ_=>aa T) (some (.map b)) none (Nat.ble n b)=some c:=a;cases f:Nat.ble n b with
  |true=>rw[f]at a;grind
  |false=>
   rw[f]at a;have a:some (T.map b)=some c:=a;simp only[ar]at a;subst a;have:b<n:=by
    grind [aQ,cj]
   exact⟨λd g=>g.cut (.map _ this),rfl⟩
 |arr b i l k j=>
  have a: @Bool.rec (λ_=>aa T) (some (.arr b i l k j)) (freeze h n 12 (.arr b i l k j)) (Nat.ble n b)=some c:=a;cases f:Nat.ble n b with
  |true=>rw[f]at a;grind
  |false=>
   rw[f]at a;have a:some (T.arr b i l k j)=some c:=a;simp only[ar]at a;subst a;have:b<n:=by
    grind [aQ,cj]
   exact⟨λd g=>g.cut (.arr _ _ _ _ _ this),rfl⟩
 |_=>exact s a
theorem EI(s:St cx base hp μ h){d c:List T}{k:List am}(f:gY hp μ d k)(p:fQ (iN h n) d=some c):
 gY hp (mQ n μ) c k/\∀b∈c,∃i∈d,b.scalar=i.scalar:=by
 have e:iF (λg o=>(∀j,fI hp μ g j->fI hp (mQ n μ) o j)/\o.scalar=g.scalar) d c:=iF.map (λb a i m=>uO s (f.mem a) m) p;refine⟨⟨by rw[<-e.length];exact f.1,λr g q=>?_⟩,λb a=>?_⟩
 ·have⟨b,a,l⟩:=e.get q;exact l.1 _ (f.2 r b a)
 ·have⟨i,m,l⟩:=e.mem a
  grind
def rj(i:St cx base hp μ h){d e:T}{b:am}(c:fI hp μ d b)(a:kw h n d=some e):fI hp (mQ n μ) e b:=by
 cases d with
 |agg g=>
  have a:(dW (fQ (iN h n) g) λf=>some (T.agg f))=some e:=a;replace a:=dI.1 a;obtain⟨f,hr,a⟩:=a;simp only[ar]at a;subst a;obtain⟨j,rfl,k,l⟩:=c.qm
  grind [EI,fI.ym]
 |_=>exact(uO i ⟨b,c⟩ a).1 b c
def vN(k:St cx base hp μ h){c d:T}{b:am}(e:fI hp μ c b)(a:jn h n c=some d):fI hp (mQ n μ) d b:=by
 cases c with
 |tuple l=>
  have a:(dW (fQ (kw h n) l) λf=>some (T.tuple f))=some d:=a;replace a:=dI.1 a;obtain⟨f,hr,a⟩:=a;simp only[ar]at a;subst a;obtain⟨o,rfl,i⟩:=e.AZ;have g:iF (λc d=>∀b,fI hp μ c b->fI hp (mQ n μ) d b) l f:=iF.map (λm j t r b e=>rj k e r) hr;refine .tuple f o (by rw[<-g.length];simpa using i.1.symm) λs c q=>?_;have⟨m,j,p⟩:=g.get q;have:=p _ (i.2 s m j);simp_all
 |_=>exact rj k e a
theorem lN{b:T}{i:am}(g:fI hp μ b i)(a:ky n b=true):qf n b:=by
 cases b with
 |ptr c j m o=>exact .ptr _ _ _ _ (by have a:Nat.blt c n=true:=a;rwa[aJ]at a)
 |arr c j q p k=>exact .arr _ _ _ _ _ (by have a:Nat.blt c n=true:=a;rwa[aJ]at a)
 |map c=>exact .map _ (by have a:Nat.blt c n=true:=a;rwa[aJ]at a)
 |jH l=>
  have⟨_,_,_,_,_,_,_,_,_,d,_⟩:=g.mh;exact .jH _ λb e=>(d b e).2.low n
 |dK f k=>
  refine .dK _ _ λb e=>?_;cases f with
  |nil=>grind [fF]
  |cons r f=>have⟨_,_,_,_,_,_,_,_,_,_,_,_,_,_,d,_⟩:=g.uJ;exact(d b e).2.low n
 |undef=>grind [ky]
 |func=>grind [ky]
 |iface=>grind [ky]
 |iter=>grind [ky]
 |agg=>grind [ky]
 |tuple=>grind [ky]
 |_=>constructor
def OR{i:T}(g:below n i=true)(b:∀c∈i.cells,∃d,fI hp μ c d):∀c∈i.cells,qf n c:=by
 cases i with
 |agg e=>
  intro c a;have⟨d,b⟩:=b c a;exact lN b (qS (show xR (ky n) e=true from g) c a)
 |func p e=>
  intro c a;have⟨d,b⟩:=b c a;simp[T.cells]at a;subst a;obtain⟨m,rfl,j⟩:=b.sq;exact .func _ _ λl f=>by have⟨o,k⟩:=j.mem f;exact lN k (qS (show xR (ky n) e=true from g) l f)
 |tuple e=>
  intro c a;have⟨d,b⟩:=b c a;simp[T.cells]at a;subst a;obtain⟨m,rfl,j⟩:=b.AZ;exact .tuple _ λl f=>by have⟨o,k⟩:=j.mem f;exact lN k (qS (show xR (ky n) e=true from g) l f)
 |_=>
  intro c a;have⟨d,b⟩:=b c a;simp[T.cells]at a;subst a;exact lN b g
def Ej{a:Nat}{c:List iX}(b:sL n a c=true):∀d e,d<a->c[d]? =some e->∀j∈e.fc,below n j=true:=by
 induction a generalizing c with
 |zero=>omega
 |succ a m=>
  intro d e k l;cases c with
  |nil=>grind
  |cons g i=>
   have b: @Bool.rec (λ_=>Bool) false (sL n a i) (xR (below n) g.fc)=true:=b;cases f:xR (below n) g.fc with
   |false=>rw[f]at b;grind
   |true=>
    rw[f]at b
    grind [qS]
def St.cut(c:St cx base hp μ h)(y:n<=h.size){low:Nat}(hl:∀a b e,a<n->μ a=some b->h.get a=some e->∀f∈fF e.fc,qf n f):
 St cx base hp (mQ n μ) ⟨n,low,h.fG.drop (h.size-n)⟩:=by
 have t:∀a,a<n->(⟨n,low,h.fG.drop (h.size-n)⟩:H).get a=h.get a:=by
  intro a d;rw[H.get_eq,H.get_eq];have g:a<h.size:=J
  grind
 refine⟨?_,c.fit,?_,?_,?_,λa b d=>c.apart a b (kj d).2,c.rE,?_⟩
 ·simp only[List.length_drop,c.wf];omega
 ·intro a b d;have⟨j,k⟩:=kj d;have⟨e,i,u⟩:=c.box a b k;exact⟨e,by rw[t a j];exact i,u.cut (hl a b e j k i)⟩
 ·intro a m b l g q r;exact c.inj a m b l (kj g).2 (kj q).2 r
 ·intro a b d;exact c.low a b (kj d).2
 ·intro p o s;have:=c.Ab p o s;refine this.cut ?_;have⟨_,_,_,_,_,_,_,_,_,v,_⟩:=this.mh;exact .jH _ λf x=>(v f x).2.low n
def St.L5(a:St cx base hp μ h)(e:Nat):St cx base hp μ ⟨h.size,e,h.fG⟩:=by
 refine⟨a.wf,a.fit,λc b d=>?_,a.inj,a.low,a.apart,a.rE,a.Ab⟩;have⟨i,g,f⟩:=a.box c b d
 grind [H.get_eq]
def Left(cx:Ctx)(base:Nat)(w w':World)(μ:Mu)(d:H)(e:T)(b:H)(c:am):Prop:=
 ∃a,fI w'.heap a e c/\St cx base w'.heap a b/\qg w μ w' a/\yS μ a d.size b.size
theorem H.rV(h:H)(b a:Nat):(⟨h.size,b,h.fG⟩:H).get a=h.get a:=by rw[H.get_eq,H.get_eq]
def DS{n low0 low:Nat}{b:List iX}(c:lr ⟨n,n,b⟩ h)(hl:low<=low0)(g:∀a,a<n->a<low->a<h.low):lr ⟨n,low0,b⟩ ⟨h.size,low,h.fG⟩:=by
 have d:∀a,(⟨n,low0,b⟩:H).get a=(⟨n,n,b⟩:H).get a:=λa=>by rw[H.get_eq,H.get_eq]
 refine⟨c.wf,c.size,hl,λa e i=>?_,λa j f=>?_⟩
 ·rw[H.rV,d];exact c.kU a e (g a e i)
 ·rw[d]at f;have⟨m,k,l⟩:=c.ver a j f
  grind [H.rV]
def GV{low0:Nat}{d f:T}{e:H}(a:nN low0 d h=some (f,e)):f=d/\e=⟨h.size,if h.low<low0 then h.low else low0,h.fG⟩:=by
 obtain⟨i,b,g⟩:=h;have a: @Bool.rec (λ_=>aa (T×H)) (some (d,⟨i,low0,g⟩)) (some (d,⟨i,b,g⟩)) (Nat.blt b low0)=some (f,e):=a;cases c:Nat.blt b low0 with
 |true=>
  rw[c]at a;simp only[ar,aB]at a;have:b<low0:=by rwa[aJ]at c
  grind
 |false=>
  rw[c]at a;simp only[ar,aB]at a;have:¬b<low0:=λj=>by rw[<-aJ,c]at j;grind
  grind
variable {w w':World}{μ0:Mu}{low0:Nat}{sM:List iX}
def yE{c d:T}{b:am}{a:H}(k:St cx base w'.heap μ h)(f:lr ⟨n,n,sM⟩ h)(l:qg w μ0 w' μ)(e:yS μ0 μ n h.size)(i:fI w'.heap μ c b)
 (j:nN low0 c h=some (d,a)):Left cx base w w' μ0 ⟨n,low0,sM⟩ d a b/\lr ⟨n,low0,sM⟩ a:=by
 obtain⟨rfl,rfl⟩:=GV j;exact⟨⟨μ,i,k.L5 _,l,e⟩,DS f (by split<;>omega) (λm _ g=>by split at g<;>omega)⟩
def IZ{a6:Bool}{x y:T}{Q:am}{B:H}(a7:St cx base w.heap μ0 ⟨n,low0,sM⟩)(D:St cx base w'.heap μ h)(A:lr ⟨n,n,sM⟩ h)(g:qg w μ0 w' μ)(F:yS μ0 μ n h.size)
 (M:fI w'.heap μ x Q) (b:DA a6 n low0 x h=some (y,B)):Left cx base w w' μ0 ⟨n,low0,sM⟩ y B Q/\lr ⟨n,low0,sM⟩ B:=by
 cases a6 with
 |true=>exact yE D A g F M b
 |false=>
  have b: @Option.rec T (λ_=>aa (T×H)) (nN low0 x h) (λy=>uG n low0 x y h) (jn h n x)=some (y,B):=b;cases W:jn h n x with
  |none=>rw[W]at b;exact yE D A g F M b
  |some I=>
   rw[W]at b;have cp:=vN D M W;have Y:n<=h.size:=A.size;have aA:∀a c,μ0 a=some c->a<n:=λa c d=>a7.fa d;have bn:∀s,s<=low0->(∀a,a<n->a<s->a<h.low)->(∀a c e,a<n->μ a=some c->h.get a=some e->∀z∈fF e.fc,qf n z)->
    Left cx base w w' μ0 ⟨n,low0,sM⟩ I ⟨n,s,h.fG.drop (h.size-n)⟩ Q/\lr ⟨n,low0,sM⟩ ⟨n,s,h.fG.drop (h.size-n)⟩:=by
    intro s X b9 hl;have av:=St.cut (low:=s) D Y hl;refine⟨⟨mQ n μ,cp,av,⟨⟨g.ext.size,λi N ca=>?_,λa c d=>?_,g.ext.pM,g.ext.kept⟩,g.os,g.tape,g.output⟩,au _,λa d=>?_,λa cL aX=>absurd cL (by show¬n<=a;have aX:a<n:=aX;omega)⟩,?_⟩
    ·have⟨bu,bB⟩:=g.ext.nZ i N ca;exact⟨bu,xz bB⟩
    ·rw[uP (aA a c d)];exact g.ext.mu a c d
    ·left;have⟨c,C⟩:=Option.ne_none_iff_exists'.1 d;have⟨ef,c6⟩:=kj C;rcases F.2.1 a (by rw[c6];simp)with k|k
     ·exact k
     ·omega
    ·have S:=DS (low:=s) A X b9;have aE:∀a,a<n->(⟨n,s,h.fG.drop (h.size-n)⟩:H).get a=h.get a:=by
      intro a d;rw[H.get_eq,H.get_eq];have L:a<h.size:=J;simp only[d,L,bF,bU];congr 1;omega
     refine⟨av.wf,au _,S.low,λa d b8=>?_,λa P r=>?_⟩
     ·rw[aE a d];have:=S.kU a d b8;rwa[H.rV]at this
     ·rw[aE a (H.fa r)];have:=S.ver a P r;simpa only[H.rV]using this
   have a8:∀a c e,a<n->a<h.low->μ a=some c->h.get a=some e->∀z∈fF e.fc,qf n z:=by
    intro a c e d X C v;have aN:=A.kU a d X;rw[v]at aN;rcases F.2.1 a (by rw[C];simp)with k|k
    ·have⟨bi,bH⟩:=Option.ne_none_iff_exists'.1 k;have⟨et,al,O⟩:=a7.box a bi bH;have bs:(⟨n,low0,sM⟩:H).get a=(⟨n,n,sM⟩:H).get a:=by rw[H.get_eq,H.get_eq]
     rw[bs,<-aN]at al;simp only[ar]at al;subst al;exact O.low aA
    ·omega
   obtain⟨E,low,K⟩:=h;have b:(dW (j8 (Nat.sub E n) K) λq=>
    @Bool.rec (λ_=>aa (T×H))
     (@Bool.rec (λ_=>aa (T×H)) (nN low0 x ⟨E,low,K⟩)
       (@Bool.rec (λ_=>aa (T×H)) (some (I,⟨n,low0,q⟩)) (some (I,⟨n,low,q⟩)) (Nat.blt low low0)) (sL n (Nat.sub n low) q))
     (some (I,⟨n,low0,q⟩)) (Nat.ble n low))=some (y,B):=b
   replace b:=dI.1 b;obtain⟨q,o,b⟩:=b;rw[mn]at o;have o:q=K.drop (E-n):=by
    split at o
    ·simp only[ar]at o;exact o.symm
    ·simp at o
   have ds:low0<=n\/n<low0:=J;cases G:Nat.ble n low with
   |true=>
    rw[G]at b;simp only[ar,aB]at b;obtain⟨rfl,rfl⟩:=b;have cb:n<=low:=bh G;rw[o];exact bn _ (au _) (λa d _=>by show a<low;omega) λa c e d=>a8 a c e d (by show a<low;omega)
   |false=>
    rw[G]at b;have cb:low<n:=by
     rcases aQ low n with k|k
     ·exact k
     ·rw[cj k]at G;simp at G
    cases U:sL n (Nat.sub n low) q with
    |false=>rw[U]at b;exact yE D A g F M b
    |true=>
     rw[U]at b;have c7:∀a c e,a<n->μ a=some c->(⟨E,low,K⟩:H).get a=some e->∀z∈fF e.fc,qf n z:=by
      intro a c e d C v;by_cases bN:a<low
      ·exact a8 a c e d bN C v
      ·have⟨er,ae,O⟩:=D.box a c C;rw[v]at ae;simp only[ar]at ae;subst ae;have b6:q[n-1-a]? =some e:=by
        rw[H.get_eq]at v;have Y:n<=E:=Y;have bS:a<E:=J;simp only[bS,bF]at v;rw[o,bU,<-v];congr 1;omega
       have V:=Ej U (n-1-a) e (by show _<n-low;omega) b6;intro z cy;have⟨R,f,p⟩:=List.mem_flatMap.1 cy;cases N:e.it with
       |true=>
        obtain⟨_,⟨eo,c4,bX,_⟩|⟨de,dv,ea,c1⟩|⟨eb,m,c4,eh,dd,L,an,ap,dn⟩⟩:=O.iter N
        ·rw[bX]at f;simp at f;rcases f with rfl|rfl<;>(simp[T.cells]at p;subst p;constructor)
        rotate_left
        ·have l:=V _ f;rw[L]at f;simp at f;rcases f with rfl|rfl|rfl|rfl
         ·simp[T.cells]at p;subst p;exact lN an l
         all_goals (simp[T.cells]at p;subst p;constructor)
        ·have⟨j,b7⟩:=List.mem_iff_getElem?.1 f;obtain⟨k,u,ec,rfl,di,dk,bC,dm⟩:=c1 j R b7;have l:=V _ f;have l:xR (ky n) [k,u]=true:=l;simp[T.cells]at p;subst p;refine .tuple _ λP r=>?_;have bT:=qS l P r;simp at r;rcases r with rfl|rfl
         ·exact lN bC bT
         grind [lN]
       |false=>
        have⟨c9,t,L,an,ap⟩:=(O.plain N).row;exact OR (V R f) (λP r=>ap.mem (List.mem_flatMap.2 ⟨R,f,r⟩)) z p
     have:y=I/\B=⟨n,if low<low0 then low else low0,q⟩:=by
      cases l:Nat.blt low low0 with
      |true=>
       rw[l]at b;simp only[ar,aB]at b;have:low<low0:=by rwa[aJ]at l
       grind
      |false=>
       rw[l]at b;simp only[ar,aB]at b;have:¬low<low0:=λk=>by rw[<-aJ,l]at k;grind
       grind
     obtain⟨rfl,rfl⟩:=this;rw[o]
     grind
