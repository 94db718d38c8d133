/- TiMap -/
import Derived.Test.YtmoiekepclmgbaaGreatDoorA2
import Derived.MapKept
import Derived.Laws.IdiomStrings
import Derived.WideKeyRuns
import Derived.Maps.RangeRun
set_option linter.all false
namespace Go.TI
noncomputable section
open Go.MapKept
section
section
variable {P:ai}{cx:Ctx}{base:Nat}{w:World}{μ:Mu}{h h':H}{J:Nat}{e:Env}{a:Act}{o:Oper}{hp hp':af Obj}{p:T}
theorem sr{j:Type}{c:j->Bool}{d:List j}(b:y8 c d=true):∀f∈d,c f=true:=by
 induction d with
 |nil=>intro f hx;simp at hx
 |cons i d k=>
  have b: @Bool.rec (λ_=>Bool) false (y8 c d) (c i)=true:=b;cases g:c i with
  |false=>rw[g]at b;simp at b
  |true=>
   rw[g]at b;intro f hx;rcases List.mem_cons.1 hx with rfl|hx
   ·exact g
   ·exact k b f hx
def HC{g:T}{b:Nat}(c:byteOf g=some b):g= .int .u8 (.ofNat b)/\b<256:=by
 cases g with
 |int m l=>
  have c:iG (F8 m .u8) (@Int.rec (λ_=>aa Nat) (λb=>iG (Nat.blt b 256) (some b)) (λ_=>none) l)=some b:=c;have⟨i,d⟩:=ew.1 c;rw[Ak]at i;subst i;cases l with
  |ofNat f=>
   have d:iG (Nat.blt f 256) (some f)=some b:=d;have⟨j,k⟩:=ew.1 d;rw[aJ]at j;simp only[ar]at k;subst k;exact⟨rfl,j⟩
  |negSucc f=>simp at d
 |_=>simp[byteOf]at c
theorem Ly(jQ:jF P cx){n j:ab}{A:ah}(x:St cx base w.heap μ h)(r:lj w.heap μ J e a.tmps)(aA:o.op= .convert n j A)(M:P.underlying j=some .string){v:T}
 (hp:ir cx J e A=some p) (b:Jf cx h n p=some v) (an:h'=h):jP cx base w μ h.size ((execOp a.eval o).run P w) v h':=by
 subst an;replace b:=dX.1 b;obtain⟨bu,aX,b⟩:=b;obtain⟨d,K,Q⟩:=lP (jQ.ty _ _ aX);cases a8:bu.u<;>rw[a8]at b Q<;>simp only[reduceCtorEq]at b;rename_i C;have:=mV Q;subst this;replace b:=dX.1 b;obtain⟨bs,aN,b⟩:=b;obtain⟨bC,L,R⟩:=lP (jQ.ty _ _ aN);cases bi:bs.u<;>rw[bi]at b R<;>simp only[reduceCtorEq]at b;rename_i k;replace b:=ew.1 b;obtain⟨N,b⟩:=b;rw[Ak]at N;subst N;have:=yx R;subst this;replace b:=dX.1 b;obtain⟨l,al,b⟩:=b;replace b:=dX.1 b;obtain⟨f,W,b⟩:=b;replace b:=ew.1 b;obtain⟨_,b⟩:=b;simp only[ar]at b;subst b;obtain⟨bS,bn⟩:=pV (P:=P) x (iL x r hp) al;obtain⟨bA,B,bp,S,bH,E,bN,X⟩:=bn.form;obtain⟨t,I⟩:=ul.1 W;have ae:l=f.map λi=>T.int .u8 (.ofNat i):=by
  apply dh;intro c;rw[aR];cases g:l[c]? with
  |none=>
   have:f[c]? =none:=by
    rw[List.getElem?_eq_none_iff]at g|-;omega
   rw[this];rfl
  |some z=>
   obtain⟨i,m,s⟩:=I c z g;rw[m,(HC s).1];rfl
 have F:∀i∈f,i<256:=by
  intro i m;obtain⟨c,g⟩:=List.mem_iff_getElem?.1 m;have ap:c<l.length:=by
   rw[t];rcases aS c f.length with y|y
   ·exact y
   ·rw[bP y]at g;simp at g
  obtain⟨bB,q,s⟩:=I c l[c] (by simp[ap]);rw[g]at q;simp only[ar]at q;subst q;exact(HC s).2
 have aE:gW w.heap μ (.str f) (.string (bytesOf f)):= .str f F;rw[ae,tS]at E;have av:∀(c:Nat) i,f[c]? =some i->bp[c]? =some (.int .u8 (i:Int)):=by
  intro c i g;obtain⟨bT,a6,a7⟩:=E.get (k:=c) (v:= .int .u8 (.ofNat i)) (by simp[g]);rw[a6,a7.kA];rfl
 have Z:(convert n j (a.eval A)).run P w= .ok (.string (bytesOf f)) w:=by
  rw[S];rcases X with⟨rfl,O⟩|⟨y,rfl,m⟩
  ·have U:f=[]:=by
    have:=t;rw[O]at this;simp at this;exact aW this.symm
   subst U;rw[O];rw[run_convert_bytes_string w n j C none _ B K L M];simp[Conv.bytesToString];rfl
  ·have hl:l.length=(f.map UInt8.ofNat).length:=by simp[t]
   rw[hl];have:=run_convert_bytes_back (P:=P) w n j C y B (f.map UInt8.ofNat) K L M (by
    intro c g;simp only[aG]at g;have V:f[c]? =some f[c]:=by simp[g]
    rw[m c _ (av c _ V)];simp only[List.getElem_map];rw[kj (F _ (aC g))])
   rw[this];rfl
 exact jP.pure x (by simp only[execOp,aA,Sem.run_bind,Z,Result.andThen_ok,Sem.run_pure]) aE
end
end
section
section
variable {P:ai}{cx:Ctx}{base:Nat}{w:World}{μ:Mu}{h h':H}{J:Nat}{e:Env}{a:Act}{o:Oper}{hp hp':af Obj}{p:T}
theorem Kx{x:ah}{b:Bool}(j:St cx base w.heap μ h)(i:lj w.heap μ J e a.tmps)(g:o.op= .next x b){d:T}
 (f:Ky x b cx J e h=some (.val d h')):jP cx base w μ h.size ((execOp a.eval o).run P w) d h':=by
 cases b with
 |true=>exact Im j i g f
 |false=>exact absurd f (by intro c;have c:(none:aa mS)=some (.val d h'):=c;simp at c)
end
end
end
noncomputable section
section
def BI(P:ai)(c:am->World->Prop):Result Next->Prop
 | .ok (.value d) b=>c d b
 | .ok .skip b=>c Go.undef b
 | .ok (.enter g f) b=>Calls P g f b λ
  | .returned d,i=>c d i
  |_,_=>False
 |_=>False
def BI.mono{P:ai}{c d:am->World->Prop}{b:Result Next}(h:BI P c b)(g:∀i w,c i w->d i w):BI P d b:=by
 cases b with
 |halt l w=>exact h
 |ok j w=>
  cases j<;>simp only[BI]at h|- <;>first|exact h|exact g _ _ h|skip
  exact Calls.mono h λe k f=>by cases e<;>first|exact g _ _ f|exact f
def BI.wp{P:ai}{o:Oper}{a:Act}{w:World}{c:am->World->Prop}{next:Act->World->Prop}{Q:Exit->Act->World->Prop}
 (h:BI P c ((execOp a.eval o).run P w)) (f:∀g b,c g b->next (a.put o.dst g) b):o.wp P a w next Q:=by
 unfold Oper.wp;generalize(execOp a.eval o).run P w=j at h;cases j with
 |halt k w=>exact h.elim
 |ok i w=>
  cases i<;>simp only[BI]at h<;>simp only[Oper.upon]<;>first|exact h.elim|exact f _ _ h|skip
  exact Calls.mono h λe b d=>by cases e<;>first|exact f _ _ d|exact d.elim
def BI.some{P:ai}{b:am->World->Prop}{d:Result Next}(h:BI P b d):∃g w,b g w:=by
 cases d with
 |halt k w=>exact h.elim
 |ok f w=>
  cases f<;>simp only[BI]at h<;>first|exact h.elim|exact⟨_,_,h⟩|skip
  have⟨e,j,i,c,_⟩:=h [];cases e<;>first|exact⟨_,_,c⟩|exact c.elim
section
variable {P:ai}{cx:Ctx}{base:Nat}{w:World}{μ:Mu}{h h':H}{J:Nat}{e:Env}{a:Act}{o:Oper}
def YY(cx:Ctx)(base:Nat)(w:World)(μ:Mu)(f:Nat)(g:T)(h':H)(d:am)(c:World):Prop:=
 ∃b,gW c.heap b g d/\St cx base c.heap b h'/\rk w μ c b/\Ax μ b f h'.size
def jP.ran{i:Result Next}{g:Nat}{j:T}(h:jP cx base w μ g i j h'):BI P (YY cx base w μ g j h') i:=by
 obtain⟨m,n,k,l,b,c,d,f⟩:=h;rcases l with rfl|⟨rfl,rfl⟩
 ·exact⟨k,b,c,d,f⟩
 ·exact⟨k,b,c,d,f⟩
theorem Qm(jQ:jF P cx)(i:St cx base w.heap μ h)(g:lj w.heap μ J e a.tmps){b:Call}(f:o.op= .call b){d:T}
 (c:Ff b cx J e h=some (.val d h')):jP cx base w μ h.size ((execOp a.eval o).run P w) d h':=by
 replace c:=dX.1 c;grind [dX,reduceCtorEq,Gy]
theorem xw{i:Builtin}{r:List ab}{k:List T}{d:aj}{g:List T}(b:mH i cx h r k=some (.call d g)):False:=by
 have n:∀{c:aa T},val h c=some (.call d g)->False:=λf=>CB f;have v:∀{c:aa (T×H)},j7 c=some (.call d g)->False:=by
  intro c f;unfold j7 at f;cases c<;>simp[two]at f
 cases i<;>simp only[mH,reduceCtorEq]at b
 case len=>
  split at b
  ·replace b:=dX.1 b;obtain⟨q,_,b⟩:=b;replace b:=dX.1 b;grind
  grind
 case append=>
  split at b
  ·split at b
   ·replace b:=dX.1 b;obtain⟨q,_,b⟩:=b;replace b:=dX.1 b;grind [ew]
   grind
  grind
 case clear=>
  split at b
  ·split at b
   ·replace b:=dX.1 b;obtain⟨y,_,b⟩:=b;split at b
    ·rename_i m _;cases m<;>simp at b
    ·grind
    ·rename_i j _;cases j with
     |zero=>
      have b:some (mS.val .undef h)=some (.call d g):=b
      grind
     |succ j=>
      replace b:=dX.1 b;obtain⟨l,_,b⟩:=b;obtain⟨x,t,z,u,p,s⟩:=l;obtain⟨_,b⟩:=ew.1 b;obtain⟨_,b⟩:=ew.1 b;cases p with
      |true=>grind
      |false=>
       replace b:=dX.1 b;obtain⟨_,_,b⟩:=b;replace b:=dX.1 b;obtain⟨_,_,b⟩:=b;replace b:=dX.1 b;grind
    grind
   grind
  grind
 case min=>split at b<;>first|exact n b|grind
 grind
def MB(k:St cx base w.heap μ h)(j:lj w.heap μ J e a.tmps){c:Call}(r:o.op= .call c){g:aj}{i:List T}
 (b:Ff c cx J e h=some (.call g i)):∃f:af am,iJ w.heap μ i f.toList/\(execOp a.eval o).run P w=(callFunc g f).run P w:=by
 replace b:=dX.1 b;obtain⟨v,q,b⟩:=b;have n:=yd k j q;cases d:c.callee with
 |builtin x=>rw[d]at b;grind [xw]
 |invoke E C=>rw[d]at b;grind
 |value A=>
  rw[d]at b;simp only at b;replace b:=dX.1 b;obtain⟨u,s,b⟩:=b;have t:=iL k j s;cases u<;>simp only[reduceCtorEq]at b;rename_i z y;replace b:=dX.1 b;obtain⟨B,hl,b⟩:=b;simp only[ar,mS.call.injEq]at b;obtain⟨rfl,rfl⟩:=b;obtain⟨l,m,p⟩:=t.uq;rw[qz]at hl;simp only[ar]at hl;refine⟨c.args.map a.eval++l,?_,?_⟩
  ·rw[<-hl];simpa using n.append p
  ·simp[execOp,r,resolve,d,m,Deferred.ofValue,invoke]
def AZ(jQ:jF P cx)(f:St cx base w.heap μ h)(d:lj w.heap μ J e a.tmps){k:T}
 (b:jT o.op cx J e h=some (.val k h')):jP cx base w μ h.size ((execOp a.eval o).run P w) k h':=by
 cases c:o.op<;>rw[c]at b<;>simp only[jT,reduceCtorEq]at b
 case move g=>grind [CW]
 case assign g=>exact CW f d (.inr c) b
 case pick=>grind [Kw]
 case alloc=>grind [Ir]
 case box=>grind [MC]
 case build=>grind [Iq]
 case buildSlice=>grind [Bj]
 case load=>grind [Kz]
 case store=>grind [Ij]
 case nilCheck=>grind [Dc]
 case binOp q j g O N=>
  cases q<;>first
   |exact Hq jQ (neg:=false) rfl f d c b
   |exact Hq jQ (neg:=true) rfl f d c b
   |exact MD Y Y f d c b
 case unOp=>grind [Ql]
 case convert L t g=>
  replace b:=dX.1 b;obtain⟨M,E,b⟩:=b;replace b:=dX.1 b;obtain⟨K,B,b⟩:=b;replace b:=dX.1 b;obtain⟨l,m,b⟩:=b;split at b
  ·grind [iv,IU]
  ·rename_i p;split at b
   ·grind [iv,CX]
   ·obtain⟨F,C⟩:=iv.1 b;obtain⟨s,A,i⟩:=lP (jQ.ty _ _ m);rw[p]at i;have:=uJ i;grind [Ly]
  grind [CX,iv]
 case makeInterface=>grind [Io]
 case makeFunc=>grind [KB]
 case makeSlice=>grind [Ch]
 case slice=>grind [Ik]
 case fieldAddr=>grind [Cm]
 case field=>grind [Ip]
 case indexAddr=>grind [Ci]
 case index=>grind [In]
 case extract=>grind [Fe]
 case range j g=>
  replace b:=dX.1 b;obtain⟨r,n,b⟩:=b;obtain⟨I,l,Q,u,v,x,y,z,_⟩:=(jQ.ty j r n).unfold
  grind [Il,uJ]
 case next=>grind [Kx]
 grind [Qm]
def NC(d:aa mS):Prop:=∀b c,d≠some (.call b c)
theorem NC.none:NC none:=λ_ _=>by simp
theorem NC.val{b:aa T}:NC (val h b):=λ_ _=>CB
def NC.some{b:T}:NC (some (.val b h)):=λ_ _=>by simp
theorem NC.Z{f:Type}{d:aa f}{c:f->aa mS}(h:∀b,NC (c b)):NC (Z d c):=by
 cases d with
 |none=>exact NC.none
 |some b=>exact h b
theorem NC.iG{b:Bool}{c:aa mS}(h:NC c):NC (iG b c):=by
 cases b with
 |false=>exact NC.none
 |true=>exact h
def NC.bool{b:Bool}{c d:aa mS}(f:NC c)(g:NC d):NC (Bool.casesOn b c d):=by
 cases b<;>assumption
def ET{b:Op}(d:∀c,b≠ .call c):NC (jT b cx J e h):=by
 cases b<;>simp only[jT]<;>first
  |exact absurd rfl (d _)
  |exact NC.none
  |skip
 all_goals
  first
   |unfold Fc|unfold Ho|unfold Fg|unfold Qn|unfold Co|unfold pW|unfold KA|unfold E9|unfold tM|unfold hUn|unfold N5|unfold Ck|unfold Fd
   |unfold qY|unfold Fa|unfold rf|unfold Cn|unfold qZ|unfold Cj|unfold wt|unfold Bi|unfold Ky|skip
 case binOp b f i j g=>
  cases b<;>first
   |(simp only[];unfold hEq;exact NC.Z λ_=>NC.Z λ_=>NC.Z λ_=>NC.iG (NC.Z λ_=>NC.val))
   |(simp only[];unfold Qo;exact NC.Z λ_=>NC.Z λ_=>NC.val)
 all_goals
  repeat first
   |exact NC.none
   |exact NC.val
   |exact NC.some
   |exact NC.new
   |refine NC.Z λ_=>?_
   |refine NC.iG ?_
   |refine NC.bool ?_ ?_
   |split
   |unfold lM
   |unfold qr
   |unfold Fb
   |unfold Cg
   |(refine NC.nat ?_ λ_=>?_)
   |(refine NC.opt ?_ λ_=>?_)
   |(unfold two)
def JB(m:St cx base w.heap μ h)(l:lj w.heap μ J e a.tmps){c:aj}{g:List T}
 (d:jT o.op cx J e h=some (.call c g)):(∃b,o.op= .call b)/\∃i:af am,iJ w.heap μ g i.toList/\(execOp a.eval o).run P w=(callFunc c i).run P w:=by
 by_cases j:∃b,o.op= .call b
 ·obtain⟨b,f⟩:=j;rw[f]at d;exact⟨⟨b,f⟩,MB m l f d⟩
 ·exact absurd d (ET (λb k=>j ⟨b,k⟩) c g)
end
end
section
structure mz(h h':H):Prop where
 wf:h'.gU.length=h'.size
 size:h.size<=h'.size
 low:h'.low<=h.low
 md:∀b,b<h.size->b<h'.low->h'.get b=h.get b
 ver:∀b x,h.get b=some x->∃x',h'.get b=some x'/\(x'=x\/x.ver<x'.ver)
def mz.refl{h:H}(a:h.gU.length=h.size):mz h h:=⟨a,au _,au _,λ_ _ _=>rfl,λ_ c b=>⟨c,b,.inl rfl⟩⟩
def mz.trans{h d e:H}(b:mz h d)(a:mz d e):mz h e:=by
 refine⟨a.wf,aQ b.size a.size,aQ a.low b.low,λc f hl=>?_,λc i g=>?_⟩
 ·rw[a.md c (bF f b.size) hl,b.md c f (bF hl a.low)]
 ·have⟨j,d,r1⟩:=b.ver c i g;have⟨k,e,r2⟩:=a.ver c j d;refine⟨k,e,?_⟩;rcases r1 with rfl|r1<;>rcases r2 with rfl|r2
  ·simp
  ·omega
  ·omega
  omega
def H.fG{h:H}{a:Nat}{c:jv}(b:h.get a=some c):a<h.size:=by
 rw[H.get_eq]at b
 grind
theorem mz.cons{h:H}(e:h.gU.length=h.size)(a:jv):mz h (h.cons a):=by
 refine⟨by simp[H.cons,e],by simp[H.cons],by simp[H.cons],λc d _=>H.ow d a,λc f b=>⟨f,?_,.inl rfl⟩⟩;rw[H.ow (H.fG b) a];exact b
theorem mz.put{h b:H}(f:h.gU.length=h.size){a:Nat}{x e:jv}(i:h.get a=some x)(d:h.put a e=some b)(j:x.ver<e.ver):mz h b:=by
 have⟨p1,p2,p3,p4⟩:=Dz d f;obtain⟨l,m,rfl⟩:=H.x8.1 d;refine⟨p2,Y,?_,λc g hl=>p4 c ?_,λc o k=>?_⟩
 ·simp only;split<;>omega
 ·rintro rfl;simp only at hl;split at hl<;>omega
 grind
def Mv(h:H)(c:aa mS):Prop:=∀b a,c=some (.val b a)->mz h a
section
variable {h:H}
theorem Mv.none(b:h.gU.length=h.size):Mv h none:=λ_ _ a=>by grind
theorem Mv.val(b:h.gU.length=h.size){c:aa T}:Mv h (val h c):=λe d a=>by obtain⟨_,rfl⟩:=iv.1 a;exact mz.refl b
def Mv.some(c:h.gU.length=h.size){b:T}:Mv h (some (.val b h)):=λb d a=>by simp at a;obtain⟨_,rfl⟩:=a;exact mz.refl c
def Mv.new(d:h.gU.length=h.size){f:Nat->T}{c:jv}:Mv h (j7 (h.new f c)):=λg e a=>by
 rw[j3,H.mh]at a;simp only[ar,aB]at a;obtain⟨_,rfl⟩:=a;exact mz.cons d c
theorem Mv.Z(e:h.gU.length=h.size){d:Type}{a:aa d}{c:d->aa mS}(f:∀b,a=Option.some b->Mv h (c b)):Mv h (Z a c):=by
 cases a with
 |none=>exact Mv.none e
 |some b=>simp_all
theorem Mv.iG(c:h.gU.length=h.size){a:Bool}{b:aa mS}(d:Mv h b):Mv h (iG a b):=by
 cases a with
 |false=>exact Mv.none c
 |true=>exact d
def Mv.bool(d:h.gU.length=h.size){a:Bool}{b c:aa mS}(e:Mv h b)(f:Mv h c):Mv h (Bool.casesOn a b c):=by
 cases a<;>assumption
theorem qx(c:h.gU.length=h.size){e bytes:Nat}{d g:List T}{f:T}{b:H}(a:h.js e bytes d g=Option.some (f,b)):mz h b:=by
 replace a:=dX.1 a;obtain⟨i,_,a⟩:=a;replace a:=dX.1 a;obtain⟨j,_,a⟩:=a;have⟨_,a⟩:=ew.1 a;have⟨_,a⟩:=ew.1 a;have⟨_,a⟩:=ew.1 a;have⟨_,a⟩:=ew.1 a;rw[H.mh]at a;simp only[ar,aB]at a;obtain⟨_,rfl⟩:=a;exact mz.cons c _
def Gz(s:h.gU.length=h.size){g bytes c d f:Nat}{k:List T}{i:T}{b:H}(a:h.nP g bytes c d f k=Option.some (i,b)):mz h b:=by
 replace a:=dX.1 a;obtain⟨j,t,a⟩:=a;obtain⟨v,m,w,p,e,l⟩:=j;simp only at a;replace a:=dX.1 a;obtain⟨o,_,a⟩:=a;replace a:=dX.1 a;obtain⟨n,_,a⟩:=a;replace a:=dX.1 a;obtain⟨u,_,a⟩:=a;have⟨_,a⟩:=ew.1 a;have⟨_,a⟩:=ew.1 a;have⟨_,a⟩:=ew.1 a;have⟨_,a⟩:=ew.1 a;have⟨_,a⟩:=ew.1 a;cases e with
 |true=>grind
 |false=>
  simp only[jd,eJ]at a;replace a:=dX.1 a;obtain⟨q,r,a⟩:=a;simp only[ar,aB]at a;obtain⟨_,rfl⟩:=a
  grind [mz.put]
theorem La(e:h.gU.length=h.size){k bytes:Nat}{b:T}{i:List T}{g:T}{c:H}(a:h.append k bytes b i=Option.some (g,c)):mz h c:=by
 unfold H.append at a;cases i with
 |nil=>
  have a:Go.TI.iG (qp b) (Option.some (b,h))=Option.some (g,c):=a;obtain⟨_,a⟩:=ew.1 a;simp only[ar,aB]at a;obtain⟨_,rfl⟩:=a;exact mz.refl e
 |cons o p=>
  simp only at a;cases b<;>simp only[reduceCtorEq]at a
  case ed j d=>
   cases j with
   |nil=>grind [qx]
   |cons q r=>grind [ew,qx]
  case arr l m f n d=>
   cases d with
   |false=>
    cases f with
    |zero=>exact Gz e a
    |succ f=>grind
   |true=>replace a:=dX.1 a;grind [qx]
theorem Lz(l:h.gU.length=h.size){e:Ty}{b f:T}{c:H}(a:h.store e b f=Option.some c):mz h c:=by
 unfold H.store at a;cases b<;>simp only[reduceCtorEq]at a;have⟨_,a⟩:=ew.1 a;replace a:=dX.1 a;obtain⟨g,m,a⟩:=a;obtain⟨n,j,o,k,d,i⟩:=g;simp only at a;have⟨_,a⟩:=ew.1 a;cases d with
 |true=>grind
 |false=>
  simp only at a;replace a:=dX.1 a;obtain⟨_,_,a⟩:=a;replace a:=dX.1 a;obtain⟨_,_,a⟩:=a;replace a:=dX.1 a;grind [eJ,jd,mz.put]
def Ti(a:h.gU.length=h.size){e:Op}{cx:Ctx}{q:Nat}{n:Env}:Mv h (jT e cx q n h):=by
 by_cases l:∃d,e= .call d
 ·obtain⟨d,rfl⟩:=l;simp only[jT];unfold Ff;refine Mv.Z a λt _=>?_;split
  ·rename_i m _;cases m<;>simp only[mH]<;>first|exact Mv.none a|skip
   case len=>
    split
    ·unfold QF
     grind [Mv.Z,Mv.val,Mv.none]
    grind [Mv.none]
   case append=>
    split
    ·split
     ·unfold jn;refine Mv.Z a λ_ _=>Mv.Z a λ_ _=>Mv.iG a ?_;intro c f b
      grind [j3,La]
     grind [Mv.none]
    grind [Mv.none]
   case clear=>
    split
    ·split
     ·unfold FW;refine Mv.Z a λw _=>?_;split
      ·rename_i j _ _;cases j
       ·exact Mv.some a
       grind [Mv.none]
      ·exact Mv.some a
      ·rename_i g _ _;cases g with
       |zero=>exact Mv.some a
       |succ g=>
        refine Mv.Z a λi p=>?_;refine Mv.iG a (Mv.iG a (Mv.bool a ?_ ?_))
        ·refine Mv.Z a λj _=>?_;simp only[jd,eJ];refine Mv.Z a λk o=>?_;intro c f b;simp only[ar,mS.val.injEq]at b;obtain⟨_,rfl⟩:=b
         grind [mz.put]
        grind [Mv.none]
      grind [Mv.none]
     grind [Mv.none]
    grind [Mv.none]
   all_goals (split<;>first|exact Mv.val a|exact Mv.none a)
  ·refine Mv.Z a λc _=>?_;split
   ·refine Mv.Z a λg _=>?_;intro c f b
    grind
   grind [Mv.none]
  grind [Mv.none]
 cases e<;>simp only[jT]<;>first
  |exact Mv.none a
  |exact(l ⟨_,rfl⟩).elim
  |skip
 case binOp e r i y x=>
  cases e<;>first
   |(simp only[];unfold hEq;exact Mv.Z a λ_ _=>Mv.Z a λ_ _=>Mv.Z a λ_ _=>Mv.iG a (Mv.Z a λ_ _=>Mv.val a))
   |(simp only[];unfold Qo;exact Mv.Z a λ_ _=>Mv.Z a λ_ _=>Mv.val a)
 case store r s i=>
  unfold E9;refine Mv.Z a λ_ _=>Mv.Z a λ_ _=>Mv.Z a λ_ _=>Mv.iG a (Mv.Z a λk u=>?_);intro c f b;simp only[ar,mS.val.injEq]at b;obtain⟨_,rfl⟩:=b
  grind [Lz]
 case next it v=>
  unfold Ky;refine Mv.bool a ?_ ?_
  ·exact Mv.none a
  ·unfold Cg;refine Mv.Z a λc _=>?_;cases c<;>simp only<;>first|exact Mv.none a|skip
   refine Mv.Z a λi p=>Mv.iG a ?_;split
   ·refine Mv.bool a (Mv.some a) (Mv.Z a λd _=>?_);obtain⟨d,wd⟩:=d;simp only[lQ,jd,eJ];refine Mv.Z a λk o=>?_;intro c f b;simp only[ar,mS.val.injEq]at b;obtain⟨_,rfl⟩:=b
    grind [mz.put]
   grind [Mv.none]
 all_goals
  first
   |unfold Fc|unfold Ho|unfold Fg|unfold Qn|unfold Co|unfold pW|unfold KA|unfold tM|unfold hUn|unfold N5|unfold Ck|unfold Fd
   |unfold qY|unfold Fa|unfold rf|unfold Cn|unfold qZ|unfold Cj|unfold wt|unfold Bi|skip
 all_goals
  repeat first
   |exact Mv.none a
   |exact Mv.val a
   |exact Mv.some a
   |exact Mv.new a
   |refine Mv.Z a λ_ _=>?_
   |refine Mv.iG a ?_
   |refine Mv.bool a ?_ ?_
   |split
   |unfold lM
   |unfold qr
   |unfold Fb
   |(refine Mv.opt a ?_ λ_=>?_)
   |(unfold two)
end
end
section
inductive rj (n:Nat):T->Prop where
 |undef:rj n .undef
 |bool (b:Bool):rj n (.bool b)
 |int (k:ak) (m:Int):rj n (.int k m)
 |str (s:List Nat):rj n (.str s)
 |lr:rj n .lr
 |ptr (b ep i j:Nat) (h:b<n):rj n (.ptr b ep i j)
 |j9 (cs:List T) (h:∀v∈cs,rj n v):rj n (.j9 cs)
 |ed (es:List T) (full:Bool) (h:∀v∈gH es,rj n v):rj n (.ed es full)
 |iO:rj n .iO
 |arr (b ep o l:Nat) (full:Bool) (h:b<n):rj n (.arr b ep o l full)
 |func (f:aj) (cs:List T) (h:∀v∈cs,rj n v):rj n (.func f cs)
 |lV:rj n .lV
 |ma:rj n .ma
 |iface (t:ab) (v:T) (h:rj n v):rj n (.iface t v)
 |iter (b:Nat) (h:b<n):rj n (.iter b)
 |map (b:Nat) (h:b<n):rj n (.map b)
 |po:rj n .po
 |agg (cs:List T) (h:∀v∈cs,rj n v):rj n (.agg cs)
 |tuple (vs:List T) (h:∀v∈vs,rj n v):rj n (.tuple vs)
theorem rj.cells{n:Nat}{b:T}(h:rj n b):∀c∈b.cells,rj n c:=by
 cases h with
 |agg d h=>exact h
 |_=>intro c a;simp[T.cells]at a;subst a;constructor<;>assumption
def ll.low{a:T}(h:ll a)(n:Nat):rj n a:=by
 induction h with
 |ed c d _ i=>
  refine .ed c d λa f=>?_;have⟨b,e,g⟩:=List.mem_flatMap.1 f;exact(i b e).cells a g
 |_=>constructor<;>assumption
def gW.low{hp:af Obj}{μ:Mu}{a:T}{k:am}(h:gW hp μ a k){n:Nat}(g:∀c e,μ c=some e->c<n):rj n a:=by
 induction h with
 |ptr c s w J e j b t E=>exact .ptr _ _ _ _ (g _ _ b)
 |arr c s L K m e j z b t hl h=>exact .arr _ _ _ _ _ (g _ _ b)
 |iter c e j b h=>exact .iter _ (g _ _ b)
 |map c e w b h=>exact .map _ (g _ _ b)
 |j9 r q off arr p fz v u i o hr d=>exact .j9 _ λa f=>by grind [dB]
 |ph m j=>exact .ed _ _ λa f=>by grind [gH]
 |ed A B m q off x M arr p fz v u hl F I i o hr d=>exact .ed _ _ λa f=>by grind [dB]
 |func C y l i hr d=>exact .func _ _ λa f=>by grind [dB]
 |agg r l i o hr d=>exact .agg _ λa f=>by grind [dB]
 |tuple N l i hr d=>exact .tuple _ λa f=>by grind [dB]
 |iface p a k h d=>exact .iface _ _ d
 |_=>constructor
def nN(n:Nat)(μ:Mu):Mu:=⟨λa=>if a<n then μ a else none,μ.qD⟩
def wx{n a:Nat}{μ:Mu}(h:a<n):nN n μ a=μ a:=by simp[nN,h]
def kN{n a:Nat}{μ:Mu}{b:Loc}(h:nN n μ a=some b):a<n/\μ a=some b:=by
 have h:(if a<n then μ a else none)=some b:=h
 grind
theorem yK{n a:Nat}{μ:Mu}(h:¬oU μ a):¬oU (nN n μ) a:=by
 rintro(⟨c,b,d,rfl⟩|hr)
 ·exact h (.inl ⟨c,b,(kN d).2,rfl⟩)
 ·exact h (.inr hr)
def gW.cut{hp:af Obj}{μ:Mu}{a:T}{q:am}(h:gW hp μ a q){n:Nat}(hl:rj n a):gW hp (nN n μ) a q:=by
 induction h with
 |undef=>exact .undef
 |bool f=>exact .bool f
 |int d N=>exact .int d N
 |str P h=>exact .str P h
 |lr=>exact .lr
 |ptr f u z L i e j v I=>cases hl with|ptr _ _ _ _ h=>exact .ptr f u z L i e (by rw[wx h];exact j) v I
 |j9 t r off arr p fz y w g o hr c=>
  cases hl with|j9 _ h=>exact .j9 t r off arr p fz (yK y) w g o λd a b=>c d a b (h a (ay b))
 |ph l e=>exact .ph l e
 |ed C E l r off s Q arr p fz y w x J K g o hr c=>
  cases hl with|ed _ _ h=>exact .ed C E l r off s Q arr p fz (yK y) w x J K g o λd a b=>c d a b (h a (ay b))
 |iO e s=>exact .iO e s
 |arr f u O M l i e B j v x m=>cases hl with|arr _ _ _ _ _ h=>exact .arr f u O M l i e B (by rw[wx h];exact j) v x m
 |func F A k g hr c=>cases hl with|func _ _ h=>exact .func F A k g λd a b=>c d a b (h a (ay b))
 |lV=>exact .lV
 |ma=>exact .ma
 |iface p a q h c=>cases hl with|iface _ _ h=>exact .iface p a q (c h)
 |iter f i e j m=>cases hl with|iter _ h=>exact .iter f i e (by rw[wx h];exact j) m
 |map f i z j m=>cases hl with|map _ h=>exact .map f i z (by rw[wx h];exact j) m
 |po=>exact .po
 |agg t k g o hr c=>cases hl with|agg _ h=>exact .agg t k g o λd a b=>c d a b (h a (ay b))
 |tuple R k g hr c=>cases hl with|tuple _ h=>exact .tuple R k g λd a b=>c d a b (h a (ay b))
def iJ.cut{hp:af Obj}{μ:Mu}{b:List T}{c:List am}(h:iJ hp μ b c){n:Nat}(hl:∀a∈b,rj n a):iJ hp (nN n μ) b c:=
 ⟨h.1,λe a d=>(h.2 e a d).cut (hl a (ay d))⟩
def s7.cut{hp:af Obj}{μ:Mu}{l:Loc}{j:jv}(h:s7 hp μ l j){n:Nat}(hl:∀g∈gH j.fR,rj n g):s7 hp (nN n μ) l j:=by
 refine⟨h.ep,h.sz,λb=>?_,λb=>?_⟩
 ·have f:=h.plain b;have⟨p,E,a,c,d⟩:=f.row;exact⟨⟨p,E,a,c,d.cut hl⟩,f.room,f.vC,f.size,f.scalar⟩
 ·obtain⟨m,a|⟨r,a,c,d⟩|⟨z,y,B,C,q,a,c,d,w⟩⟩:=h.iter b
  ·grind
  rotate_left
  ·exact⟨m,.inr (.inr ⟨z,y,B,C,q,a,c.cut (hl _ (by rw[a];simp[gH,T.cells])),d,w⟩)⟩
  ·refine⟨m,.inr (.inl ⟨r,a,c,λx k o=>?_⟩)⟩;have⟨b,g,A,i,s,t,u,v⟩:=d x k o;have e:=hl k (List.mem_flatMap.2 ⟨k,ay o,by rw[i];simp[T.cells]⟩);rw[i]at e;cases e with|tuple _ e=>exact⟨b,g,A,i,s,t,u.cut (e b Y),v.cut (e g Y)⟩
def s7.low{hp:af Obj}{μ:Mu}{e:Loc}{k:jv}(h:s7 hp μ e k){n:Nat}(c:∀l e,μ l=some e->l<n):∀j∈gH k.fR,rj n j:=by
 intro j a;cases d:k.it with
 |false=>
  have⟨y,M,f,g,b⟩:=(h.plain d).row;have⟨o,t⟩:=List.mem_iff_getElem?.1 a;exact(b.2 o j t).low c
 |true=>
  obtain⟨_,⟨K,w,s,_⟩|⟨A,f,g,b⟩|⟨I,F,w,L,z,f,g,b,E⟩⟩:=h.iter d
  ·rw[s]at a;simp[gH,T.cells]at a;rcases a with rfl|rfl<;>constructor
  rotate_left
  ·rw[f]at a;simp[gH,T.cells]at a;rcases a with rfl|rfl|rfl|rfl
   ·exact g.low c
   all_goals constructor
  ·have⟨x,u,i⟩:=List.mem_flatMap.1 a;have⟨v,d⟩:=List.mem_iff_getElem?.1 u;have⟨o,N,J,p,B,C,q,r⟩:=b v x d;rw[p]at i;simp[T.cells]at i;subst i;refine .tuple _ λO m=>?_;simp at m;rcases m with rfl|rfl
   ·exact q.low c
   ·exact r.low c
inductive jh {α β:Type} (R:α->β->Prop):List α->List β->Prop where
 |nil:jh R [] []
 |cons {a:α} {b:β} {l:List α} {m:List β} (h:R a b) (t:jh R l m):jh R (a::l) (b::m)
def jh.imp{g i:Type}{b c:g->i->Prop}{e:List g}{f:List i}(h:jh b e f)(j:∀a d,b a d->c a d):jh c e f:=by
 induction h with
 |nil=>exact .nil
 |cons a _ k=>exact .cons (j _ _ a) k
def jh.length{c d:Type}{e:c->d->Prop}{a:List c}{b:List d}(h:jh e a b):a.length=b.length:=by
 induction h with
 |nil=>rfl
 |cons _ _ f=>grind
theorem jh.append{f g:Type}{a:f->g->Prop}{b c:List f}{d e:List g}(h:jh a b d)(j:jh a c e):jh a (b++c) (d++e):=by
 induction h with
 |nil=>exact j
 |cons i _ k=>exact .cons i k
def jh.get{g a:Type}{b:g->a->Prop}{c:List g}{d:List a}(h:jh b c d){k:Nat}{f:a}(j:d[k]? =some f):∃e,c[k]? =some e/\b e f:=by
 induction h generalizing k with
 |nil=>grind
 |cons i _ l=>grind
def jh.mem{g a:Type}{b:g->a->Prop}{c:List g}{d:List a}(h:jh b c d){f:a}(j:f∈d):∃e∈c,b e f:=by
 have⟨l,i⟩:=List.mem_iff_getElem?.1 j;have⟨e,k,m⟩:=h.get i
 grind
def jh.map{b:Type}{g:b->aa b}{f:b->b->Prop}{a e:List b}(i:∀c∈a,∀d,g c=some d->f c d)(h:iu g a=some e):jh f a e:=by
 induction a generalizing e with
 |nil=>simp at h;subst h;exact .nil
 |cons c a k=>
  rw[kl]at h;replace h:=dX.1 h;obtain⟨d,j,h⟩:=h;replace h:=dX.1 h;obtain⟨o,ht,h⟩:=h;simp at h;subst h;exact .cons (i c Y d j) (k (λl m=>i l (by grind)) ht)
structure Fz(hp:af Obj)(μ:Mu)(n:Nat)(v v':T):Prop where
 rel:∀c,gW hp μ v c->gW hp (nN n μ) v' c
 scalar:v'.scalar=v.scalar
 cells:jh (λx x'=>(∀c,gW hp μ x c->gW hp (nN n μ) x' c)/\x'.scalar=x.scalar/\ll x') v.cells v'.cells
 closed:ll v'
theorem jh.gH{a:T->T->Prop}{b c:List T}(h:jh (λf g=>jh a f.cells g.cells) b c):jh a (TI.gH b) (TI.gH c):=by
 induction h with
 |nil=>exact .nil
 |cons d _ e=>simpa[TI.gH]using jh.append d e
section
variable {cx:Ctx}{base:Nat}{hp:af Obj}{μ:Mu}{h:H}{n:Nat}
def Fz.same{b:T}(hl:ll b)(a:b.cells=[b]):Fz hp μ n b b:=
 ⟨λc a=>a.cut (hl.low n),rfl,by rw[a];exact .cons ⟨λc a=>a.cut (hl.low n),rfl,hl⟩ .nil,hl⟩
def Dl{a:T}(b:∀d∈a.cells,ll d):ll a:=by
 cases a with
 |agg c=>exact .agg c b
 |_=>exact b _ (by simp[T.cells])
def Jp{a:List T}(e:∀d∈a,∃b,gW hp μ d b):∃c,iJ hp μ a c:=by
 induction a with
 |nil=>exact⟨[],iJ.nil⟩
 |cons j a i=>
  have⟨b,f⟩:=e j Y;have⟨c,g⟩:=i λd k=>e d (by grind);exact⟨b::c,iJ.cons f g⟩
def HR{a:T}(d:∀c∈a.cells,∃b,gW hp μ c b)(g:∀c∈a.cells,c.scalar=true):∃b,gW hp μ a b:=by
 cases a with
 |agg f=>
  have⟨e,hl⟩:=Jp d;exact⟨.agg e.toArray,gW.zJ (by have hl:iJ hp μ f e:=hl;omega) g⟩
 |_=>exact d _ (by simp[T.cells])
def iJ.mem{b:List T}{d:List am}(h:iJ hp μ b d){a:T}(f:a∈b):∃c,gW hp μ a c:=by
 have⟨g,e⟩:=List.mem_iff_getElem?.1 f;exact⟨_,h.2 g a e⟩
def Iu(s:St cx base hp μ h):∀(E:Nat) (d c:T),(∃o,gW hp μ d o)->freeze h n E d=some c->Fz hp μ n d c:=by
 intro E;induction E with
 |zero=>intro d c _ b;simp[freeze]at b
 |succ E bB=>
  intro d c X b;cases d with
  |undef=>exact absurd b (by show¬(none=some c);simp)
  |ptr=>exact absurd b (by show¬(none=some c);simp)
  |j9=>exact absurd b (by show¬(none=some c);simp)
  |func=>exact absurd b (by show¬(none=some c);simp)
  |iface=>exact absurd b (by show¬(none=some c);simp)
  |iter=>exact absurd b (by show¬(none=some c);simp)
  |map=>exact absurd b (by show¬(none=some c);simp)
  |po=>exact absurd b (by show¬(none=some c);simp)
  |tuple=>exact absurd b (by show¬(none=some c);simp)
  |bool l=>have b:some (T.bool l)=some c:=b;simp only[ar]at b;subst b;exact Fz.same (.bool l) rfl
  |int x m=>have b:some (T.int x m)=some c:=b;simp only[ar]at b;subst b;exact Fz.same (.int x m) rfl
  |str l=>have b:some (T.str l)=some c:=b;simp only[ar]at b;subst b;exact Fz.same (.str l) rfl
  |lr=>have b:some (T.lr)=some c:=b;simp only[ar]at b;subst b;exact Fz.same .lr rfl
  |iO=>have b:some (T.iO)=some c:=b;simp only[ar]at b;subst b;exact Fz.same .iO rfl
  |lV=>have b:some (T.lV)=some c:=b;simp only[ar]at b;subst b;exact Fz.same .lV rfl
  |ma=>have b:some (T.ma)=some c:=b;simp only[ar]at b;subst b;exact Fz.same .ma rfl
  |ed r A=>
   have b:some (T.ed r A)=some c:=b;simp only[ar]at b;subst b;obtain⟨o,q⟩:=X;refine Fz.same ?_ rfl;cases q with
   |ph=>exact .ed _ _ λd g=>by simp at g
   |ed e r A ec off ef ea arr t fz et b hl bi ey eu q hr=>
    exact .ed _ _ λd g=>Dl λi f=>(q i (List.mem_flatMap.2 ⟨d,g,f⟩)).2
  |agg Q=>
   have b:(Z (iu (freeze h n E) Q) λz=>some (T.agg z))=some c:=b;replace b:=dX.1 b;obtain⟨z,hr,b⟩:=b;simp only[ar]at b;subst b;obtain⟨o,q⟩:=X;obtain⟨bX,rfl,L,di⟩:=q.rI;have p:jh (Fz hp μ n) Q z:=jh.map (λi f B an=>bB i B (L.mem f) an) hr;have W:∀d∈z,ll d:=λd g=>by obtain⟨i,_,f⟩:=p.mem g;exact f.closed
   have dk:∀d∈z,d.scalar=true:=λd g=>by obtain⟨i,c7,f⟩:=p.mem g;rw[f.scalar];exact di i c7
   refine⟨λo q=>?_,rfl,?_,.agg z W⟩
   ·obtain⟨bX,rfl,L,_⟩:=q.rI;refine gW.zJ ⟨by rw[<-p.length];exact L.1,λx d bs=>?_⟩ dk;obtain⟨i,f,bi⟩:=p.get bs;exact bi.rel _ (L.2 x i f)
   ·show jh _ Q z;exact p.imp λa l J=>⟨J.rel,J.scalar,J.closed⟩
  |arr l R v u A=>
   have b:iG (Nat.ble n l) (Z (h.get l) λi=> @jv.rec (λ_=>aa T) (λ_ S _ exact av k=>
    iG (Nat.beq S R) (@Bool.rec (λ_=>aa T) (Z (Z (kH v k) λz=>takeN u z) λr=>Z (iu (freeze h n E) r) λF=>
     @List.rec T (λ_=>aa T) (@List.rec T (λ_=>aa T) (@Bool.rec (λ_=>aa T) (some .iO) (some (.ed [] false)) exact) (λ_ _ _=>some .iO) k) (λ_ _ _=>some (.ed F A)) F) none av)) i)=some c:=b
   obtain⟨bA,b⟩:=ew.1 b;have bA:n<=l:=aY bA;replace b:=dX.1 b;obtain⟨bT,ca,b⟩:=b;obtain⟨ea,S,eB,U,av,k⟩:=bT;simp only at b;obtain⟨a7,b⟩:=ew.1 b;have a7:S=R:=aF a7;cases av with
   |true=>simp at b
   |false=>
    replace b:=dX.1 b;obtain⟨r,w,b⟩:=b;replace b:=dX.1 b;obtain⟨F,cp,M⟩:=b;obtain⟨c4,w⟩:v+u<=k.length/\r=(k.drop v).take u:=by
     replace w:=dX.1 w;obtain⟨r0,C,p⟩:=w;rw[nd]at C;split at C
     ·simp only[ar]at C;subst C;rw[pj]at p;split at p
      ·simp only[ar]at p;rename_i c6 c1;simp only[List.length_drop]at c1;exact⟨D,p.symm⟩
      ·simp at p
     ·simp at C
    have aA:∀o,gW hp μ (.arr l R v u A) o->gW hp (nN n μ) c o/\ll c/\c.cells=[c]/\c.scalar=true:=by
     intro o q;obtain⟨j,eb,aE,rfl,V,a6,hl,de⟩:=q.u5;obtain⟨eC,I,N⟩:=s.box l j V;rw[ca]at I;simp only[ar]at I;subst I;have b6:=N.ep;simp only at b6;obtain⟨bp,c9,b7⟩:=de D;have y:=N.plain rfl;simp only at y;obtain⟨arr,t,C,p,aN⟩:=y.row;have a8:∀d∈r,d.cells.length=j.sz:=λd g=>y.size d (bK (bJ (w▸g)));have dd:∀d∈gH k,∃o,gW hp μ d o:=λd g=>aN.mem g;have bu:∀d∈r,d∈k:=λd g=>bK (bJ (w▸g));have K:jh (Fz hp μ n) r F:=jh.map (λi f B an=>bB i B (HR (λP ap=>dd P (List.mem_flatMap.2 ⟨i,bu i f,ap⟩)) λP ap=>y.scalar P (List.mem_flatMap.2 ⟨i,bu i f,ap⟩)) an) cp;have al:F.length=u:=by rw[<-K.length,w];simp;omega
     have cb:U=true->j.cap=k.length:=y.vC;cases F with
     |nil=>
      have cX:u=0:=by simpa using al.symm
      subst cX;have a6:c= .iO\/(k=[]/\U=true/\c= .ed [] false):=by
       cases k with
       |cons P eD=>have b:some T.iO=some c:=M;simp only[ar]at b;exact .inl b.symm
       |nil=>
        cases U with
        |false=>have b:some T.iO=some c:=M;simp only[ar]at b;exact .inl b.symm
        |true=>have b:some (T.ed [] false)=some c:=M;simp only[ar]at b;exact .inr ⟨rfl,rfl,b.symm⟩
      rcases a6 with rfl|⟨rfl,rfl,rfl⟩
      ·exact⟨.iO _ _,.iO,rfl,rfl⟩
      ·have aX:j.cap=0:=by simpa using cb rfl
       have:aE=0:=by
        cases A with
        |false=>have:=c9 rfl;omega
        |true=>exact bp rfl
       subst this;exact⟨.ph _ _,.ed _ _ λd g=>by simp at g,rfl,rfl⟩
     |cons B O=>
      have b:some (T.ed (B::O) A)=some c:=M;simp only[ar]at b;subst b;simp only[aP]at al;have W:∀d∈B::O,ll d:=λd g=>by obtain⟨i,_,f⟩:=K.mem g;exact f.closed
      refine⟨?_,.ed _ _ W,rfl,rfl⟩;rw[b7 D,<-al];have ae:=jh.gH (K.imp λa l J=>J.cells);have cL:(gH (B::O)).length=u*j.sz:=by rw[<-ae.length,iS a8,w];congr 1;simp;omega
      have bn:gH r=((gH k).drop (v*j.sz)).take (u*j.sz):=by rw[w];exact Fs y.size v u
      have cF:(gH k).length=k.length*j.sz:=iS y.size;have eh:v*j.sz+u*j.sz<=k.length*j.sz:=by rw[<-cw];exact aV _ c4
      have eo:k.length*j.sz<=j.cap*j.sz:=aV _ y.room;refine .ed B O A j.jz (v*j.sz) aE j.sz arr t (0,0) ?_ C D (λx=>by rw[bp x];omega) ?_ ?_ ?_ ?_
      ·rintro(⟨bS,bN,b8,b9⟩|hr)
       ·obtain⟨eA,dv⟩:=kN b8;have:=s.inj bS l bN j dv V b9;omega
       ·exact s.apart l j V hr
      ·intro d g;obtain⟨i,f,dn⟩:=K.mem g;rw[<-dn.cells.length];exact a8 i f
      ·rw[cL,p];omega
      ·intro d g;obtain⟨i,f,I,N,dm⟩:=ae.mem g;refine⟨?_,dm⟩;rw[N];rw[bn]at f;exact y.scalar i (bK (bJ f))
      ·intro x d g;obtain⟨i,f,I,_⟩:=ae.get g;refine I _ ?_;rw[bn,ci]at f;split at f
       ·rename_i bs;rw[bM]at f;have:=aN.2 _ i f;have c6:v*j.sz+x<(gH k).length:=by rw[cF];omega
        have er:v*j.sz+x<arr.size:=by rw[p];omega
        simp_all
       grind
    obtain⟨bW,aX⟩:=X;obtain⟨_,bC,ds,bH⟩:=aA bW aX;exact⟨λo q=>(aA o q).1,by rw[bH];rfl,by rw[ds];exact .cons ⟨λo q=>(aA o q).1,by rw[bH];rfl,bC⟩ .nil,bC⟩
end
end
section
section
variable {cx:Ctx}{base:Nat}{hp:af Obj}{μ:Mu}{h:H}{n:Nat}
def wv(t:St cx base hp μ h){e c:T}(q:∃d,gW hp μ e d)(a:jk h n e=some c):
 (∀d,gW hp μ e d->gW hp (nN n μ) c d)/\c.scalar=e.scalar:=by
 have s:freeze h n 12 e=some c->(∀d,gW hp μ e d->gW hp (nN n μ) c d)/\c.scalar=e.scalar:=λr=>
  let m:=Iu t 12 e c q r
  ⟨m.rel,m.scalar⟩
 cases e with
 |undef=>
  have a:some T.undef=some c:=a;simp only[ar]at a;subst a;exact⟨λd g=>g.cut .undef,rfl⟩
 |ptr b i o p=>
  have a: @Bool.rec (λ_=>aa T) (some (.ptr b i o p)) none (Nat.ble n b)=some c:=a;cases f:Nat.ble n b with
  |true=>rw[f]at a;grind
  |false=>
   rw[f]at a;have a:some (T.ptr b i o p)=some c:=a;simp only[ar]at a;subst a;have:b<n:=by
    grind [aS,cq]
   exact⟨λd g=>g.cut (.ptr _ _ _ _ this),rfl⟩
 |map b=>
  have a: @Bool.rec (λ_=>aa T) (some (.map b)) none (Nat.ble n b)=some c:=a;cases f:Nat.ble n b with
  |true=>rw[f]at a;grind
  |false=>
   rw[f]at a;have a:some (T.map b)=some c:=a;simp only[ar]at a;subst a;have:b<n:=by
    grind [aS,cq]
   exact⟨λd g=>g.cut (.map _ this),rfl⟩
 |arr b i l k j=>
  have a: @Bool.rec (λ_=>aa T) (some (.arr b i l k j)) (freeze h n 12 (.arr b i l k j)) (Nat.ble n b)=some c:=a;cases f:Nat.ble n b with
  |true=>rw[f]at a;grind
  |false=>
   rw[f]at a;have a:some (T.arr b i l k j)=some c:=a;simp only[ar]at a;subst a;have:b<n:=by
    grind [aS,cq]
   exact⟨λd g=>g.cut (.arr _ _ _ _ _ this),rfl⟩
 |_=>exact s a
theorem Gj(s:St cx base hp μ h){d c:List T}{k:List am}(f:iJ hp μ d k)(p:iu (jk h n) d=some c):
 iJ hp (nN n μ) c k/\∀b∈c,∃i∈d,b.scalar=i.scalar:=by
 have e:jh (λg o=>(∀j,gW hp μ g j->gW hp (nN n μ) o j)/\o.scalar=g.scalar) d c:=jh.map (λb a i m=>wv s (f.mem a) m) p;refine⟨⟨by rw[<-e.length];exact f.1,λr g q=>?_⟩,λb a=>?_⟩
 ·have⟨b,a,l⟩:=e.get q;exact l.1 _ (f.2 r b a)
 ·have⟨i,m,l⟩:=e.mem a
  grind
def sL(i:St cx base hp μ h){d e:T}{b:am}(c:gW hp μ d b)(a:lf h n d=some e):gW hp (nN n μ) e b:=by
 cases d with
 |agg g=>
  have a:(Z (iu (jk h n) g) λf=>some (T.agg f))=some e:=a;replace a:=dX.1 a;obtain⟨f,hr,a⟩:=a;simp only[ar]at a;subst a;obtain⟨j,rfl,k,l⟩:=c.rI
  grind [Gj,gW.zJ]
 |_=>exact(wv i ⟨b,c⟩ a).1 b c
def xq(k:St cx base hp μ h){c d:T}{b:am}(e:gW hp μ c b)(a:jJ h n c=some d):gW hp (nN n μ) d b:=by
 cases c with
 |tuple l=>
  have a:(Z (iu (lf h n) l) λf=>some (T.tuple f))=some d:=a;replace a:=dX.1 a;obtain⟨f,hr,a⟩:=a;simp only[ar]at a;subst a;obtain⟨o,rfl,i⟩:=e.Cc;have g:jh (λc d=>∀b,gW hp μ c b->gW hp (nN n μ) d b) l f:=jh.map (λm j t r b e=>sL k e r) hr;refine .tuple f o (by rw[<-g.length];simpa using i.1.symm) λs c q=>?_;have⟨m,j,p⟩:=g.get q;have:=p _ (i.2 s m j);simp_all
 |_=>exact sL k e a
theorem mO{b:T}{i:am}(g:gW hp μ b i)(a:li n b=true):rj n b:=by
 cases b with
 |ptr c j m o=>exact .ptr _ _ _ _ (by have a:Nat.blt c n=true:=a;rwa[aJ]at a)
 |arr c j q p k=>exact .arr _ _ _ _ _ (by have a:Nat.blt c n=true:=a;rwa[aJ]at a)
 |map c=>exact .map _ (by have a:Nat.blt c n=true:=a;rwa[aJ]at a)
 |j9 l=>
  have⟨_,_,_,_,_,_,_,_,_,d,_⟩:=g.m9;exact .j9 _ λb e=>(d b e).2.low n
 |ed f k=>
  refine .ed _ _ λb e=>?_;cases f with
  |nil=>grind [gH]
  |cons r f=>have⟨_,_,_,_,_,_,_,_,_,_,_,_,_,_,d,_⟩:=g.wm;exact(d b e).2.low n
 |undef=>grind [li]
 |func=>grind [li]
 |iface=>grind [li]
 |iter=>grind [li]
 |agg=>grind [li]
 |tuple=>grind [li]
 |_=>constructor
def QE{i:T}(g:below n i=true)(b:∀c∈i.cells,∃d,gW hp μ c d):∀c∈i.cells,rj n c:=by
 cases i with
 |agg e=>
  intro c a;have⟨d,b⟩:=b c a;exact mO b (sr (show y8 (li n) e=true from g) c a)
 |func p e=>
  intro c a;have⟨d,b⟩:=b c a;simp[T.cells]at a;subst a;obtain⟨m,rfl,j⟩:=b.uq;exact .func _ _ λl f=>by have⟨o,k⟩:=j.mem f;exact mO k (sr (show y8 (li n) e=true from g) l f)
 |tuple e=>
  intro c a;have⟨d,b⟩:=b c a;simp[T.cells]at a;subst a;obtain⟨m,rfl,j⟩:=b.Cc;exact .tuple _ λl f=>by have⟨o,k⟩:=j.mem f;exact mO k (sr (show y8 (li n) e=true from g) l f)
 |_=>
  intro c a;have⟨d,b⟩:=b c a;simp[T.cells]at a;subst a;exact mO b g
def FV{a:Nat}{c:List jv}(b:uA n a c=true):∀d e,d<a->c[d]? =some e->∀j∈e.fR,below n j=true:=by
 induction a generalizing c with
 |zero=>omega
 |succ a m=>
  intro d e k l;cases c with
  |nil=>grind
  |cons g i=>
   have b: @Bool.rec (λ_=>Bool) false (uA n a i) (y8 (below n) g.fR)=true:=b;cases f:y8 (below n) g.fR with
   |false=>rw[f]at b;grind
   |true=>
    rw[f]at b
    grind [sr]
def St.cut(c:St cx base hp μ h)(y:n<=h.size){low:Nat}(hl:∀a b e,a<n->μ a=some b->h.get a=some e->∀f∈gH e.fR,rj n f):
 St cx base hp (nN n μ) ⟨n,low,h.gU.drop (h.size-n)⟩:=by
 have t:∀a,a<n->(⟨n,low,h.gU.drop (h.size-n)⟩:H).get a=h.get a:=by
  intro a d;rw[H.get_eq,H.get_eq];have g:a<h.size:=D
  grind
 refine⟨?_,c.fit,?_,?_,?_,λa b d=>c.apart a b (kN d).2,c.sY,?_⟩
 ·simp only[List.length_drop,c.wf];omega
 ·intro a b d;have⟨j,k⟩:=kN d;have⟨e,i,u⟩:=c.box a b k;exact⟨e,by rw[t a j];exact i,u.cut (hl a b e j k i)⟩
 ·intro a m b l g q r;exact c.inj a m b l (kN g).2 (kN q).2 r
 ·intro a b d;exact c.low a b (kN d).2
 ·intro p o s;have:=c.Bl p o s;refine this.cut ?_;have⟨_,_,_,_,_,_,_,_,_,v,_⟩:=this.m9;exact .j9 _ λf x=>(v f x).2.low n
def St.NB(a:St cx base hp μ h)(e:Nat):St cx base hp μ ⟨h.size,e,h.gU⟩:=by
 refine⟨a.wf,a.fit,λc b d=>?_,a.inj,a.low,a.apart,a.sY,a.Bl⟩;have⟨i,g,f⟩:=a.box c b d
 grind [H.get_eq]
def Left(cx:Ctx)(base:Nat)(w w':World)(μ:Mu)(d:H)(e:T)(b:H)(c:am):Prop:=
 ∃a,gW w'.heap a e c/\St cx base w'.heap a b/\rk w μ w' a/\Ax μ a d.size b.size
theorem H.tO(h:H)(b a:Nat):(⟨h.size,b,h.gU⟩:H).get a=h.get a:=by rw[H.get_eq,H.get_eq]
def Fi{n low0 low:Nat}{b:List jv}(c:mz ⟨n,n,b⟩ h)(hl:low<=low0)(g:∀a,a<n->a<low->a<h.low):mz ⟨n,low0,b⟩ ⟨h.size,low,h.gU⟩:=by
 have d:∀a,(⟨n,low0,b⟩:H).get a=(⟨n,n,b⟩:H).get a:=λa=>by rw[H.get_eq,H.get_eq]
 refine⟨c.wf,c.size,hl,λa e i=>?_,λa j f=>?_⟩
 ·rw[H.tO,d];exact c.md a e (g a e i)
 ·rw[d]at f;have⟨m,k,l⟩:=c.ver a j f
  grind [H.tO]
def Ib{low0:Nat}{d f:T}{e:H}(a:oO low0 d h=some (f,e)):f=d/\e=⟨h.size,if h.low<low0 then h.low else low0,h.gU⟩:=by
 obtain⟨i,b,g⟩:=h;have a: @Bool.rec (λ_=>aa (T×H)) (some (d,⟨i,low0,g⟩)) (some (d,⟨i,b,g⟩)) (Nat.blt b low0)=some (f,e):=a;cases c:Nat.blt b low0 with
 |true=>
  rw[c]at a;simp only[ar,aB]at a;have:b<low0:=by rwa[aJ]at c
  grind
 |false=>
  rw[c]at a;simp only[ar,aB]at a;have:¬b<low0:=λj=>by rw[<-aJ,c]at j;grind
  grind
variable {w w':World}{μ0:Mu}{low0:Nat}{uB:List jv}
def Aj{c d:T}{b:am}{a:H}(k:St cx base w'.heap μ h)(f:mz ⟨n,n,uB⟩ h)(l:rk w μ0 w' μ)(e:Ax μ0 μ n h.size)(i:gW w'.heap μ c b)
 (j:oO low0 c h=some (d,a)):Left cx base w w' μ0 ⟨n,low0,uB⟩ d a b/\mz ⟨n,low0,uB⟩ a:=by
 obtain⟨rfl,rfl⟩:=Ib j;exact⟨⟨μ,i,k.NB _,l,e⟩,Fi f (by split<;>omega) (λm _ g=>by split at g<;>omega)⟩
def Ke{a8:Bool}{x y:T}{R:am}{B:H}(bi:St cx base w.heap μ0 ⟨n,low0,uB⟩)(E:St cx base w'.heap μ h)(A:mz ⟨n,n,uB⟩ h)(g:rk w μ0 w' μ)(I:Ax μ0 μ n h.size)
 (N:gW w'.heap μ x R) (b:E1 a8 n low0 x h=some (y,B)):Left cx base w w' μ0 ⟨n,low0,uB⟩ y B R/\mz ⟨n,low0,uB⟩ B:=by
 cases a8 with
 |true=>exact Aj E A g I N b
 |false=>
  have b: @Option.rec T (λ_=>aa (T×H)) (oO low0 x h) (λy=>wh n low0 x y h) (jJ h n x)=some (y,B):=b;cases X:jJ h n x with
  |none=>rw[X]at b;exact Aj E A g I N b
  |some K=>
   rw[X]at b;have cb:=xq E N X;have al:n<=h.size:=A.size;have aN:∀a c,μ0 a=some c->a<n:=λa c d=>bi.fG d;have bs:∀s,s<=low0->(∀a,a<n->a<s->a<h.low)->(∀a c e,a<n->μ a=some c->h.get a=some e->∀z∈gH e.fR,rj n z)->
    Left cx base w w' μ0 ⟨n,low0,uB⟩ K ⟨n,s,h.gU.drop (h.size-n)⟩ R/\mz ⟨n,low0,uB⟩ ⟨n,s,h.gU.drop (h.size-n)⟩:=by
    intro s ae b8 hl;have aE:=St.cut (low:=s) E al hl;refine⟨⟨nN n μ,cb,aE,⟨⟨g.ext.size,λi O b9=>?_,λa c d=>?_,g.ext.qD,g.ext.kept⟩,g.os,g.tape,g.output⟩,au _,λa d=>?_,λa cF a7=>absurd cF (by show¬n<=a;have a7:a<n:=a7;omega)⟩,?_⟩
    ·have⟨bA,bB⟩:=g.ext.o7 i O b9;exact⟨bA,yK bB⟩
    ·rw[wx (aN a c d)];exact g.ext.mu a c d
    ·left;have⟨c,C⟩:=Option.ne_none_iff_exists'.1 d;have⟨eb,c1⟩:=kN C;rcases I.2.1 a (by rw[c1];simp)with k|k
     ·exact k
     ·omega
    ·have U:=Fi (low:=s) A ae b8;have aX:∀a,a<n->(⟨n,s,h.gU.drop (h.size-n)⟩:H).get a=h.get a:=by
      intro a d;rw[H.get_eq,H.get_eq];have M:a<h.size:=D;simp only[d,M,bj,bM];congr 1;omega
     refine⟨aE.wf,au _,U.low,λa d b7=>?_,λa Q r=>?_⟩
     ·rw[aX a d];have:=U.md a d b7;rwa[H.tO]at this
     ·rw[aX a (H.fG r)];have:=U.ver a Q r;simpa only[H.tO]using this
   have bn:∀a c e,a<n->a<h.low->μ a=some c->h.get a=some e->∀z∈gH e.fR,rj n z:=by
    intro a c e d ae C v;have a6:=A.md a d ae;rw[v]at a6;rcases I.2.1 a (by rw[C];simp)with k|k
    ·have⟨bp,bH⟩:=Option.ne_none_iff_exists'.1 k;have⟨eo,ap,P⟩:=bi.box a bp bH;have bu:(⟨n,low0,uB⟩:H).get a=(⟨n,n,uB⟩:H).get a:=by rw[H.get_eq,H.get_eq]
     rw[bu,<-a6]at ap;simp only[ar]at ap;subst ap;exact P.low aN
    ·omega
   obtain⟨F,low,L⟩:=h;have b:(Z (kH (Nat.sub F n) L) λq=>
    @Bool.rec (λ_=>aa (T×H))
     (@Bool.rec (λ_=>aa (T×H)) (oO low0 x ⟨F,low,L⟩)
       (@Bool.rec (λ_=>aa (T×H)) (some (K,⟨n,low0,q⟩)) (some (K,⟨n,low,q⟩)) (Nat.blt low low0)) (uA n (Nat.sub n low) q))
     (some (K,⟨n,low0,q⟩)) (Nat.ble n low))=some (y,B):=b
   replace b:=dX.1 b;obtain⟨q,o,b⟩:=b;rw[nd]at o;have o:q=L.drop (F-n):=by
    split at o
    ·simp only[ar]at o;exact o.symm
    ·simp at o
   have dm:low0<=n\/n<low0:=D;cases J:Nat.ble n low with
   |true=>
    rw[J]at b;simp only[ar,aB]at b;obtain⟨rfl,rfl⟩:=b;have ca:n<=low:=aY J;rw[o];exact bs _ (au _) (λa d _=>by show a<low;omega) λa c e d=>bn a c e d (by show a<low;omega)
   |false=>
    rw[J]at b;have ca:low<n:=by
     rcases aS low n with k|k
     ·exact k
     ·rw[cq k]at J;simp at J
    cases V:uA n (Nat.sub n low) q with
    |false=>rw[V]at b;exact Aj E A g I N b
    |true=>
     rw[V]at b;have c4:∀a c e,a<n->μ a=some c->(⟨F,low,L⟩:H).get a=some e->∀z∈gH e.fR,rj n z:=by
      intro a c e d C v;by_cases bN:a<low
      ·exact bn a c e d bN C v
      ·have⟨eh,an,P⟩:=E.box a c C;rw[v]at an;simp only[ar]at an;subst an;have bX:q[n-1-a]? =some e:=by
        rw[H.get_eq]at v;have al:n<=F:=al;have bS:a<F:=D;simp only[bS,bj]at v;rw[o,bM,<-v];congr 1;omega
       have W:=FV V (n-1-a) e (by show _<n-low;omega) bX;intro z cp;have⟨S,f,p⟩:=List.mem_flatMap.1 cp;cases O:e.it with
       |true=>
        obtain⟨_,⟨ef,cX,bW,_⟩|⟨c9,dn,ds,cL⟩|⟨dv,m,cX,ec,c7,M,av,aA,dk⟩⟩:=P.iter O
        ·rw[bW]at f;simp at f;rcases f with rfl|rfl<;>(simp[T.cells]at p;subst p;constructor)
        rotate_left
        ·have l:=W _ f;rw[M]at f;simp at f;rcases f with rfl|rfl|rfl|rfl
         ·simp[T.cells]at p;subst p;exact mO av l
         all_goals (simp[T.cells]at p;subst p;constructor)
        ·have⟨j,b6⟩:=List.mem_iff_getElem?.1 f;obtain⟨k,u,ea,rfl,dd,de,bC,di⟩:=cL j S b6;have l:=W _ f;have l:y8 (li n) [k,u]=true:=l;simp[T.cells]at p;subst p;refine .tuple _ λQ r=>?_;have bT:=sr l Q r;simp at r;rcases r with rfl|rfl
         ·exact mO bC bT
         grind [mO]
       |false=>
        have⟨c6,t,M,av,aA⟩:=(P.plain O).row;exact QE (W S f) (λQ r=>aA.mem (List.mem_flatMap.2 ⟨S,f,r⟩)) z p
     have:y=K/\B=⟨n,if low<low0 then low else low0,q⟩:=by
      cases l:Nat.blt low low0 with
      |true=>
       rw[l]at b;simp only[ar,aB]at b;have:low<low0:=by rwa[aJ]at l
       grind
      |false=>
       rw[l]at b;simp only[ar,aB]at b;have:¬low<low0:=λk=>by rw[<-aJ,l]at k;grind
       grind
     obtain⟨rfl,rfl⟩:=this;rw[o]
     grind
