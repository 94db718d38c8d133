/- TiMap -/
import Derived.Test.YtalknpnbaceflaaGreatDoorA2
import Derived.MapKept
import Derived.Laws.IdiomStrings
import Derived.WideKeyRuns
import Derived.Maps.RangeRun
set_option linter.all false
namespace Go.TI
noncomputable section
open Go.MapKept
section
section
variable {P:aj}{cx:Ctx}{base:Nat}{w:World}{μ:Mu}{h h':H}{D:Nat}{e:Env}{a:Act}{o:Oper}{hp hp':ah Obj}{p:T}
theorem tF{j:Type}{c:j->Bool}{d:List j}(b:Af c d=true):∀f∈d,c f=true:=by
 induction d with
 |nil=>intro f hx;simp at hx
 |cons i d k=>
  have b: @Bool.rec (λ_=>Bool) false (Af c d) (c i)=true:=b;cases g:c i with
  |false=>rw[g]at b;simp at b
  |true=>
   rw[g]at b;intro f hx;rcases List.mem_cons.1 hx with rfl|hx
   ·exact g
   ·exact k b f hx
def Iy{g:T}{b:Nat}(c:byteOf g=some b):g= .int .u8 (.ofNat b)/\b<256:=by
 cases g with
 |int m l=>
  have c:iS (G6 m .u8) (@Int.rec (λ_=>aa Nat) (λb=>iS (Nat.blt b 256) (some b)) (λ_=>none) l)=some b:=c;have⟨i,d⟩:=fj.1 c;rw[AT]at i;subst i;cases l with
  |ofNat f=>
   have d:iS (Nat.blt f 256) (some f)=some b:=d;have⟨j,k⟩:=fj.1 d;rw[aK]at j;simp only[aw]at k;subst k;exact⟨rfl,j⟩
  |negSucc f=>simp at d
 |_=>simp[byteOf]at c
theorem MB(j7:jT P cx){n j:af}{A:ai}(x:St cx base w.heap μ h)(r:lO w.heap μ D e a.tmps)(aE:o.op= .convert n j A)(N:P.underlying j=some .string){v:T}
 (hp:iG cx D e A=some p) (b:Kk cx h n p=some v) (ap:h'=h):j4 cx base w μ h.size ((execOp a.eval o).run P w) v h':=by
 subst ap;replace b:=eg.1 b;obtain⟨bu,a6,b⟩:=b;obtain⟨d,L,R⟩:=mt (j7.ty _ _ a6);cases bg:bu.u<;>rw[bg]at b R<;>simp only[reduceCtorEq]at b;rename_i F;have:=nz R;subst this;replace b:=eg.1 b;obtain⟨bs,aX,b⟩:=b;obtain⟨bC,M,S⟩:=mt (j7.ty _ _ aX);cases bi:bs.u<;>rw[bi]at b S<;>simp only[reduceCtorEq]at b;rename_i k;replace b:=fj.1 b;obtain⟨O,b⟩:=b;rw[AT]at O;subst O;have:=y9 S;subst this;replace b:=eg.1 b;obtain⟨l,an,b⟩:=b;replace b:=eg.1 b;obtain⟨f,Z,b⟩:=b;replace b:=fj.1 b;obtain⟨_,b⟩:=b;simp only[aw]at b;subst b;obtain⟨bS,bn⟩:=qv (P:=P) x (iZ x r hp) an;obtain⟨bA,E,bp,U,bH,I,bN,ab⟩:=bn.form;obtain⟨t,K⟩:=uM.1 Z;have al:l=f.map λi=>T.int .u8 (.ofNat i):=by
  apply cW;intro c;rw[aR];cases g:l[c]? with
  |none=>
   have:f[c]? =none:=by
    rw[List.getElem?_eq_none_iff]at g|-;omega
   rw[this];rfl
  |some z=>
   obtain⟨i,m,s⟩:=K c z g;rw[m,(Iy s).1];rfl
 have J:∀i∈f,i<256:=by
  intro i m;obtain⟨c,g⟩:=List.mem_iff_getElem?.1 m;have av:c<l.length:=by
   rw[t];rcases aT c f.length with y|y
   ·exact y
   ·rw[bV y]at g;simp at g
  obtain⟨bB,q,s⟩:=K c l[c] (by simp[av]);rw[g]at q;simp only[aw]at q;subst q;exact(Iy s).2
 have aN:iu w.heap μ (.str f) (.string (bytesOf f)):= .str f J;rw[al,uz]at I;have aA:∀(c:Nat) i,f[c]? =some i->bp[c]? =some (.int .u8 (i:Int)):=by
  intro c i g;obtain⟨bT,a7,a8⟩:=I.get (k:=c) (v:= .int .u8 (.ofNat i)) (by simp[g]);rw[a7,a8.kR];rfl
 have ae:(convert n j (a.eval A)).run P w= .ok (.string (bytesOf f)) w:=by
  rw[U];rcases ab with⟨rfl,Q⟩|⟨y,rfl,m⟩
  ·have V:f=[]:=by
    have:=t;rw[Q]at this;simp at this;exact aZ this.symm
   subst V;rw[Q];rw[run_convert_bytes_string w n j F none _ E L M N];simp[Conv.bytesToString];rfl
  ·have hl:l.length=(f.map UInt8.ofNat).length:=by simp[t]
   rw[hl];have:=run_convert_bytes_back (P:=P) w n j F y E (f.map UInt8.ofNat) L M N (by
    intro c g;simp only[aI]at g;have W:f[c]? =some f[c]:=by simp[g]
    rw[m c _ (aA c _ W)];simp only[List.getElem_map];rw[kw (J _ (aG g))])
   rw[this];rfl
 exact j4.pure x (by simp only[execOp,aE,Sem.run_bind,ae,Result.andThen_ok,Sem.run_pure]) aN
end
end
section
section
variable {P:aj}{cx:Ctx}{base:Nat}{w:World}{μ:Mu}{h h':H}{D:Nat}{e:Env}{a:Act}{o:Oper}{hp hp':ah Obj}{p:T}
theorem Lu{x:ai}{b:Bool}(j:St cx base w.heap μ h)(i:lO w.heap μ D e a.tmps)(g:o.op= .next x b){d:T}
 (f:Lv x b cx D e h=some (.val d h')):j4 cx base w μ h.size ((execOp a.eval o).run P w) d h':=by
 cases b with
 |true=>exact Jg j i g f
 |false=>exact absurd f (by intro c;have c:(none:aa nh)=some (.val d h'):=c;simp at c)
end
end
end
noncomputable section
section
def Cu(P:aj)(c:aq->World->Prop):Result Next->Prop
 | .ok (.value d) b=>c d b
 | .ok .skip b=>c Go.undef b
 | .ok (.enter g f) b=>Calls P g f b λ
  | .returned d,i=>c d i
  |_,_=>False
 |_=>False
def Cu.mono{P:aj}{c d:aq->World->Prop}{b:Result Next}(h:Cu P c b)(g:∀i w,c i w->d i w):Cu P d b:=by
 cases b with
 |halt l w=>exact h
 |ok j w=>
  cases j<;>simp only[Cu]at h|- <;>first|exact h|exact g _ _ h|skip
  exact Calls.mono h λe k f=>by cases e<;>first|exact g _ _ f|exact f
def Cu.wp{P:aj}{o:Oper}{a:Act}{w:World}{c:aq->World->Prop}{next:Act->World->Prop}{Q:Exit->Act->World->Prop}
 (h:Cu P c ((execOp a.eval o).run P w)) (f:∀g b,c g b->next (a.put o.dst g) b):o.wp P a w next Q:=by
 unfold Oper.wp;generalize(execOp a.eval o).run P w=j at h;cases j with
 |halt k w=>exact h.elim
 |ok i w=>
  cases i<;>simp only[Cu]at h<;>simp only[Oper.upon]<;>first|exact h.elim|exact f _ _ h|skip
  exact Calls.mono h λe b d=>by cases e<;>first|exact f _ _ d|exact d.elim
def Cu.some{P:aj}{b:aq->World->Prop}{d:Result Next}(h:Cu P b d):∃g w,b g w:=by
 cases d with
 |halt k w=>exact h.elim
 |ok f w=>
  cases f<;>simp only[Cu]at h<;>first|exact h.elim|exact⟨_,_,h⟩|skip
  have⟨e,j,i,c,_⟩:=h [];cases e<;>first|exact⟨_,_,c⟩|exact c.elim
section
variable {P:aj}{cx:Ctx}{base:Nat}{w:World}{μ:Mu}{h h':H}{D:Nat}{e:Env}{a:Act}{o:Oper}
def ZK(cx:Ctx)(base:Nat)(w:World)(μ:Mu)(f:Nat)(g:T)(h':H)(d:aq)(c:World):Prop:=
 ∃b,iu c.heap b g d/\St cx base c.heap b h'/\sd w μ c b/\Bb μ b f h'.size
def j4.ran{i:Result Next}{g:Nat}{j:T}(h:j4 cx base w μ g i j h'):Cu P (ZK cx base w μ g j h') i:=by
 obtain⟨m,n,k,l,b,c,d,f⟩:=h;rcases l with rfl|⟨rfl,rfl⟩
 ·exact⟨k,b,c,d,f⟩
 ·exact⟨k,b,c,d,f⟩
theorem Rn(j7:jT P cx)(i:St cx base w.heap μ h)(g:lO w.heap μ D e a.tmps){b:Call}(f:o.op= .call b){d:T}
 (c:Gb b cx D e h=some (.val d h')):j4 cx base w μ h.size ((execOp a.eval o).run P w) d h':=by
 replace c:=eg.1 c;grind [eg,reduceCtorEq,HA]
theorem x8{i:Builtin}{r:List af}{k:List T}{d:ak}{g:List T}(b:mU i cx h r k=some (.call d g)):False:=by
 have n:∀{c:aa T},val h c=some (.call d g)->False:=λf=>Do f;have v:∀{c:aa (T×H)},kr c=some (.call d g)->False:=by
  intro c f;unfold kr at f;cases c<;>simp[two]at f
 cases i<;>simp only[mU,reduceCtorEq]at b
 case len=>
  split at b
  ·replace b:=eg.1 b;obtain⟨q,_,b⟩:=b;replace b:=eg.1 b;grind
  grind
 case append=>
  split at b
  ·split at b
   ·replace b:=eg.1 b;obtain⟨q,_,b⟩:=b;replace b:=eg.1 b;grind [fj]
   grind
  grind
 case clear=>
  split at b
  ·split at b
   ·replace b:=eg.1 b;obtain⟨y,_,b⟩:=b;split at b
    ·rename_i m _;cases m<;>simp at b
    ·grind
    ·rename_i j _;cases j with
     |zero=>
      have b:some (nh.val .undef h)=some (.call d g):=b
      grind
     |succ j=>
      replace b:=eg.1 b;obtain⟨l,_,b⟩:=b;obtain⟨x,t,z,u,p,s⟩:=l;obtain⟨_,b⟩:=fj.1 b;obtain⟨_,b⟩:=fj.1 b;cases p with
      |true=>grind
      |false=>
       replace b:=eg.1 b;obtain⟨_,_,b⟩:=b;replace b:=eg.1 b;obtain⟨_,_,b⟩:=b;replace b:=eg.1 b;grind
    grind
   grind
  grind
 case min=>split at b<;>first|exact n b|grind
 grind
def Nz(k:St cx base w.heap μ h)(j:lO w.heap μ D e a.tmps){c:Call}(r:o.op= .call c){g:ak}{i:List T}
 (b:Gb c cx D e h=some (.call g i)):∃f:ah aq,iW w.heap μ i f.toList/\(execOp a.eval o).run P w=(callFunc g f).run P w:=by
 replace b:=eg.1 b;obtain⟨v,q,b⟩:=b;have n:=yG k j q;cases d:c.callee with
 |builtin x=>rw[d]at b;grind [x8]
 |invoke I F=>rw[d]at b;grind
 |value A=>
  rw[d]at b;simp only at b;replace b:=eg.1 b;obtain⟨u,s,b⟩:=b;have t:=iZ k j s;cases u<;>simp only[reduceCtorEq]at b;rename_i z y;replace b:=eg.1 b;obtain⟨E,hl,b⟩:=b;simp only[aw,nh.call.injEq]at b;obtain⟨rfl,rfl⟩:=b;obtain⟨l,m,p⟩:=t.uQ;rw[qY]at hl;simp only[aw]at hl;refine⟨c.args.map a.eval++l,?_,?_⟩
  ·rw[<-hl];simpa using n.append p
  ·simp[execOp,r,resolve,d,m,Deferred.ofValue,invoke]
def BK(j7:jT P cx)(f:St cx base w.heap μ h)(d:lO w.heap μ D e a.tmps){k:T}
 (b:ke o.op cx D e h=some (.val k h')):j4 cx base w μ h.size ((execOp a.eval o).run P w) k h':=by
 cases c:o.op<;>rw[c]at b<;>simp only[ke,reduceCtorEq]at b
 case move g=>grind [DM]
 case assign g=>exact DM f d (.inr c) b
 case pick=>grind [Lt]
 case alloc=>grind [Jl]
 case box=>grind [NA]
 case build=>grind [Jk]
 case buildSlice=>grind [B4]
 case load=>grind [Lw]
 case store=>grind [Jd]
 case nilCheck=>grind [D3]
 case binOp q j g Q O=>
  cases q<;>first
   |exact In j7 (neg:=false) rfl f d c b
   |exact In j7 (neg:=true) rfl f d c b
   |exact NB G G f d c b
 case unOp=>grind [Rm]
 case convert M t g=>
  replace b:=eg.1 b;obtain⟨N,I,b⟩:=b;replace b:=eg.1 b;obtain⟨L,E,b⟩:=b;replace b:=eg.1 b;obtain⟨l,m,b⟩:=b;split at b
  ·grind [iI,JR]
  ·rename_i p;split at b
   ·grind [iI,DO]
   ·obtain⟨J,F⟩:=iI.1 b;obtain⟨s,A,i⟩:=mt (j7.ty _ _ m);rw[p]at i;have:=vi i;grind [MB]
  grind [DO,iI]
 case makeInterface=>grind [Ji]
 case makeFunc=>grind [Ly]
 case makeSlice=>grind [C3]
 case slice=>grind [Je]
 case fieldAddr=>grind [C7]
 case field=>grind [Jj]
 case indexAddr=>grind [C4]
 case index=>grind [Jh]
 case extract=>grind [Ga]
 case range j g=>
  replace b:=eg.1 b;obtain⟨r,n,b⟩:=b;obtain⟨K,l,R,u,v,x,y,z,_⟩:=(j7.ty j r n).unfold
  grind [Jf,vi]
 case next=>grind [Lu]
 grind [Rn]
def NC(d:aa nh):Prop:=∀b c,d≠some (.call b c)
theorem NC.none:NC none:=λ_ _=>by simp
theorem NC.val{b:aa T}:NC (val h b):=λ_ _=>Do
def NC.some{b:T}:NC (some (.val b h)):=λ_ _=>by simp
theorem NC.J{f:Type}{d:aa f}{c:f->aa nh}(h:∀b,NC (c b)):NC (J d c):=by
 cases d with
 |none=>exact NC.none
 |some b=>exact h b
theorem NC.iS{b:Bool}{c:aa nh}(h:NC c):NC (iS b c):=by
 cases b with
 |false=>exact NC.none
 |true=>exact h
def NC.bool{b:Bool}{c d:aa nh}(f:NC c)(g:NC d):NC (Bool.casesOn b c d):=by
 cases b<;>assumption
def FN{b:Op}(d:∀c,b≠ .call c):NC (ke b cx D e h):=by
 cases b<;>simp only[ke]<;>first
  |exact absurd rfl (d _)
  |exact NC.none
  |skip
 all_goals
  first
   |unfold F8|unfold Im|unfold Gd|unfold Rp|unfold Da|unfold qx|unfold Lx|unfold F5|unfold uw|unfold hUn|unfold Ph|unfold C6|unfold F9
   |unfold rU|unfold F6|unfold rY|unfold C9|unfold rV|unfold C5|unfold wU|unfold B3|unfold Lv|skip
 case binOp b f i j g=>
  cases b<;>first
   |(simp only[];unfold hEq;exact NC.J λ_=>NC.J λ_=>NC.J λ_=>NC.iS (NC.J λ_=>NC.val))
   |(simp only[];unfold Rq;exact NC.J λ_=>NC.J λ_=>NC.val)
 all_goals
  repeat first
   |exact NC.none
   |exact NC.val
   |exact NC.some
   |exact NC.new
   |refine NC.J λ_=>?_
   |refine NC.iS ?_
   |refine NC.bool ?_ ?_
   |split
   |unfold mo
   |unfold qR
   |unfold F7
   |unfold C2
   |(refine NC.nat ?_ λ_=>?_)
   |(refine NC.opt ?_ λ_=>?_)
   |(unfold two)
def KI(m:St cx base w.heap μ h)(l:lO w.heap μ D e a.tmps){c:ak}{g:List T}
 (d:ke o.op cx D e h=some (.call c g)):(∃b,o.op= .call b)/\∃i:ah aq,iW w.heap μ g i.toList/\(execOp a.eval o).run P w=(callFunc c i).run P w:=by
 by_cases j:∃b,o.op= .call b
 ·obtain⟨b,f⟩:=j;rw[f]at d;exact⟨⟨b,f⟩,Nz m l f d⟩
 ·exact absurd d (FN (λb k=>j ⟨b,k⟩) c g)
end
end
section
structure mR(h h':H):Prop where
 wf:h'.ir.length=h'.size
 size:h.size<=h'.size
 low:h'.low<=h.low
 mE:∀b,b<h.size->b<h'.low->h'.get b=h.get b
 ver:∀b x,h.get b=some x->∃x',h'.get b=some x'/\(x'=x\/x.ver<x'.ver)
def mR.refl{h:H}(a:h.ir.length=h.size):mR h h:=⟨a,ax _,ax _,λ_ _ _=>rfl,λ_ c b=>⟨c,b,.inl rfl⟩⟩
def mR.trans{h d e:H}(b:mR h d)(a:mR d e):mR h e:=by
 refine⟨a.wf,aU b.size a.size,aU a.low b.low,λc f hl=>?_,λc i g=>?_⟩
 ·rw[a.mE c (bK f b.size) hl,b.mE c f (bK hl a.low)]
 ·have⟨j,d,r1⟩:=b.ver c i g;have⟨k,e,r2⟩:=a.ver c j d;refine⟨k,e,?_⟩;rcases r1 with rfl|r1<;>rcases r2 with rfl|r2
  ·simp
  ·omega
  ·omega
  omega
def H.gh{h:H}{a:Nat}{c:jK}(b:h.get a=some c):a<h.size:=by
 rw[H.get_eq]at b
 grind
theorem mR.cons{h:H}(e:h.ir.length=h.size)(a:jK):mR h (h.cons a):=by
 refine⟨by simp[H.cons,e],by simp[H.cons],by simp[H.cons],λc d _=>H.o6 d a,λc f b=>⟨f,?_,.inl rfl⟩⟩;rw[H.o6 (H.gh b) a];exact b
theorem mR.put{h b:H}(f:h.ir.length=h.size){a:Nat}{x e:jK}(i:h.get a=some x)(d:h.put a e=some b)(j:x.ver<e.ver):mR h b:=by
 have⟨p1,p2,p3,p4⟩:=Eo d f;obtain⟨l,m,rfl⟩:=H.yF.1 d;refine⟨p2,G,?_,λc g hl=>p4 c ?_,λc o k=>?_⟩
 ·simp only;split<;>omega
 ·rintro rfl;simp only at hl;split at hl<;>omega
 grind
def Mv(h:H)(c:aa nh):Prop:=∀b a,c=some (.val b a)->mR h a
section
variable {h:H}
theorem Mv.none(b:h.ir.length=h.size):Mv h none:=λ_ _ a=>by grind
theorem Mv.val(b:h.ir.length=h.size){c:aa T}:Mv h (val h c):=λe d a=>by obtain⟨_,rfl⟩:=iI.1 a;exact mR.refl b
def Mv.some(c:h.ir.length=h.size){b:T}:Mv h (some (.val b h)):=λb d a=>by simp at a;obtain⟨_,rfl⟩:=a;exact mR.refl c
def Mv.new(d:h.ir.length=h.size){f:Nat->T}{c:jK}:Mv h (kr (h.new f c)):=λg e a=>by
 rw[ko,H.mI]at a;simp only[aw,aF]at a;obtain⟨_,rfl⟩:=a;exact mR.cons d c
theorem Mv.J(e:h.ir.length=h.size){d:Type}{a:aa d}{c:d->aa nh}(f:∀b,a=Option.some b->Mv h (c b)):Mv h (J a c):=by
 cases a with
 |none=>exact Mv.none e
 |some b=>simp_all
theorem Mv.iS(c:h.ir.length=h.size){a:Bool}{b:aa nh}(d:Mv h b):Mv h (iS a b):=by
 cases a with
 |false=>exact Mv.none c
 |true=>exact d
def Mv.bool(d:h.ir.length=h.size){a:Bool}{b c:aa nh}(e:Mv h b)(f:Mv h c):Mv h (Bool.casesOn a b c):=by
 cases a<;>assumption
theorem qV(c:h.ir.length=h.size){e bytes:Nat}{d g:List T}{f:T}{b:H}(a:h.jH e bytes d g=Option.some (f,b)):mR h b:=by
 replace a:=eg.1 a;obtain⟨i,_,a⟩:=a;replace a:=eg.1 a;obtain⟨j,_,a⟩:=a;have⟨_,a⟩:=fj.1 a;have⟨_,a⟩:=fj.1 a;have⟨_,a⟩:=fj.1 a;have⟨_,a⟩:=fj.1 a;rw[H.mI]at a;simp only[aw,aF]at a;obtain⟨_,rfl⟩:=a;exact mR.cons c _
def HB(s:h.ir.length=h.size){g bytes c d f:Nat}{k:List T}{i:T}{b:H}(a:h.oz g bytes c d f k=Option.some (i,b)):mR h b:=by
 replace a:=eg.1 a;obtain⟨j,t,a⟩:=a;obtain⟨v,m,w,p,e,l⟩:=j;simp only at a;replace a:=eg.1 a;obtain⟨o,_,a⟩:=a;replace a:=eg.1 a;obtain⟨n,_,a⟩:=a;replace a:=eg.1 a;obtain⟨u,_,a⟩:=a;have⟨_,a⟩:=fj.1 a;have⟨_,a⟩:=fj.1 a;have⟨_,a⟩:=fj.1 a;have⟨_,a⟩:=fj.1 a;have⟨_,a⟩:=fj.1 a;cases e with
 |true=>grind
 |false=>
  simp only[jt,fw]at a;replace a:=eg.1 a;obtain⟨q,r,a⟩:=a;simp only[aw,aF]at a;obtain⟨_,rfl⟩:=a
  grind [mR.put]
theorem Ma(e:h.ir.length=h.size){k bytes:Nat}{b:T}{i:List T}{g:T}{c:H}(a:h.append k bytes b i=Option.some (g,c)):mR h c:=by
 unfold H.append at a;cases i with
 |nil=>
  have a:Go.TI.iS (qQ b) (Option.some (b,h))=Option.some (g,c):=a;obtain⟨_,a⟩:=fj.1 a;simp only[aw,aF]at a;obtain⟨_,rfl⟩:=a;exact mR.refl e
 |cons o p=>
  simp only at a;cases b<;>simp only[reduceCtorEq]at a
  case V j d=>
   cases j with
   |nil=>grind [qV]
   |cons q r=>grind [fj,qV]
  case arr l m f n d=>
   cases d with
   |false=>
    cases f with
    |zero=>exact HB e a
    |succ f=>grind
   |true=>replace a:=eg.1 a;grind [qV]
theorem MC(l:h.ir.length=h.size){e:Ty}{b f:T}{c:H}(a:h.store e b f=Option.some c):mR h c:=by
 unfold H.store at a;cases b<;>simp only[reduceCtorEq]at a;have⟨_,a⟩:=fj.1 a;replace a:=eg.1 a;obtain⟨g,m,a⟩:=a;obtain⟨n,j,o,k,d,i⟩:=g;simp only at a;have⟨_,a⟩:=fj.1 a;cases d with
 |true=>grind
 |false=>
  simp only at a;replace a:=eg.1 a;obtain⟨_,_,a⟩:=a;replace a:=eg.1 a;obtain⟨_,_,a⟩:=a;replace a:=eg.1 a;grind [fw,jt,mR.put]
def Uj(a:h.ir.length=h.size){e:Op}{cx:Ctx}{q:Nat}{n:Env}:Mv h (ke e cx q n h):=by
 by_cases l:∃d,e= .call d
 ·obtain⟨d,rfl⟩:=l;simp only[ke];unfold Gb;refine Mv.J a λt _=>?_;split
  ·rename_i m _;cases m<;>simp only[mU]<;>first|exact Mv.none a|skip
   case len=>
    split
    ·unfold RH
     grind [Mv.J,Mv.val,Mv.none]
    grind [Mv.none]
   case append=>
    split
    ·split
     ·unfold jx;refine Mv.J a λ_ _=>Mv.J a λ_ _=>Mv.iS a ?_;intro c f b
      grind [ko,Ma]
     grind [Mv.none]
    grind [Mv.none]
   case clear=>
    split
    ·split
     ·unfold GM;refine Mv.J a λw _=>?_;split
      ·rename_i j _ _;cases j
       ·exact Mv.some a
       grind [Mv.none]
      ·exact Mv.some a
      ·rename_i g _ _;cases g with
       |zero=>exact Mv.some a
       |succ g=>
        refine Mv.J a λi p=>?_;refine Mv.iS a (Mv.iS a (Mv.bool a ?_ ?_))
        ·refine Mv.J a λj _=>?_;simp only[jt,fw];refine Mv.J a λk o=>?_;intro c f b;simp only[aw,nh.val.injEq]at b;obtain⟨_,rfl⟩:=b
         grind [mR.put]
        grind [Mv.none]
      grind [Mv.none]
     grind [Mv.none]
    grind [Mv.none]
   all_goals (split<;>first|exact Mv.val a|exact Mv.none a)
  ·refine Mv.J a λc _=>?_;split
   ·refine Mv.J a λg _=>?_;intro c f b
    grind
   grind [Mv.none]
  grind [Mv.none]
 cases e<;>simp only[ke]<;>first
  |exact Mv.none a
  |exact(l ⟨_,rfl⟩).elim
  |skip
 case binOp e r i y x=>
  cases e<;>first
   |(simp only[];unfold hEq;exact Mv.J a λ_ _=>Mv.J a λ_ _=>Mv.J a λ_ _=>Mv.iS a (Mv.J a λ_ _=>Mv.val a))
   |(simp only[];unfold Rq;exact Mv.J a λ_ _=>Mv.J a λ_ _=>Mv.val a)
 case store r s i=>
  unfold F5;refine Mv.J a λ_ _=>Mv.J a λ_ _=>Mv.J a λ_ _=>Mv.iS a (Mv.J a λk u=>?_);intro c f b;simp only[aw,nh.val.injEq]at b;obtain⟨_,rfl⟩:=b
  grind [MC]
 case next it v=>
  unfold Lv;refine Mv.bool a ?_ ?_
  ·exact Mv.none a
  ·unfold C2;refine Mv.J a λc _=>?_;cases c<;>simp only<;>first|exact Mv.none a|skip
   refine Mv.J a λi p=>Mv.iS a ?_;split
   ·refine Mv.bool a (Mv.some a) (Mv.J a λd _=>?_);obtain⟨d,wd⟩:=d;simp only[mv,jt,fw];refine Mv.J a λk o=>?_;intro c f b;simp only[aw,nh.val.injEq]at b;obtain⟨_,rfl⟩:=b
    grind [mR.put]
   grind [Mv.none]
 all_goals
  first
   |unfold F8|unfold Im|unfold Gd|unfold Rp|unfold Da|unfold qx|unfold Lx|unfold uw|unfold hUn|unfold Ph|unfold C6|unfold F9
   |unfold rU|unfold F6|unfold rY|unfold C9|unfold rV|unfold C5|unfold wU|unfold B3|skip
 all_goals
  repeat first
   |exact Mv.none a
   |exact Mv.val a
   |exact Mv.some a
   |exact Mv.new a
   |refine Mv.J a λ_ _=>?_
   |refine Mv.iS a ?_
   |refine Mv.bool a ?_ ?_
   |split
   |unfold mo
   |unfold qR
   |unfold F7
   |(refine Mv.opt a ?_ λ_=>?_)
   |(unfold two)
end
end
section
inductive sa (n:Nat):T->Prop where
 |undef:sa n .undef
 |ez (b:Bool):sa n (.ez b)
 |int (k:ao) (m:Int):sa n (.int k m)
 |str (s:List Nat):sa n (.str s)
 |lU:sa n .lU
 |fc (b ep i j:Nat) (h:b<n):sa n (.fc b ep i j)
 |ks (cs:List T) (h:∀v∈cs,sa n v):sa n (.ks cs)
 |V (es:List T) (full:Bool) (h:∀v∈iq es,sa n v):sa n (.V es full)
 |iX:sa n .iX
 |arr (b ep o l:Nat) (full:Bool) (h:b<n):sa n (.arr b ep o l full)
 |func (f:ak) (cs:List T) (h:∀v∈cs,sa n v):sa n (.func f cs)
 |my:sa n .my
 |mB:sa n .mB
 |iface (t:af) (v:T) (h:sa n v):sa n (.iface t v)
 |iter (b:Nat) (h:b<n):sa n (.iter b)
 |map (b:Nat) (h:b<n):sa n (.map b)
 |pS:sa n .pS
 |eZ (cs:List T) (h:∀v∈cs,sa n v):sa n (.eZ cs)
 |tuple (vs:List T) (h:∀v∈vs,sa n v):sa n (.tuple vs)
theorem sa.cells{n:Nat}{b:T}(h:sa n b):∀c∈b.cells,sa n c:=by
 cases h with
 |eZ d h=>exact h
 |_=>intro c a;simp[T.cells]at a;subst a;constructor<;>assumption
def lP.low{a:T}(h:lP a)(n:Nat):sa n a:=by
 induction h with
 |V c d _ i=>
  refine .V c d λa f=>?_;have⟨b,e,g⟩:=List.mem_flatMap.1 f;exact(i b e).cells a g
 |_=>constructor<;>assumption
def iu.low{hp:ah Obj}{μ:Mu}{a:T}{k:aq}(h:iu hp μ a k){n:Nat}(g:∀c e,μ c=some e->c<n):sa n a:=by
 induction h with
 |fc c s w K e j b t F=>exact .fc _ _ _ _ (g _ _ b)
 |arr c s M L m e j z b t hl h=>exact .arr _ _ _ _ _ (g _ _ b)
 |iter c e j b h=>exact .iter _ (g _ _ b)
 |map c e w b h=>exact .map _ (g _ _ b)
 |ks r q off arr p fz v u i o hr d=>exact .ks _ λa f=>by grind [dE]
 |pP m j=>exact .V _ _ λa f=>by grind [iq]
 |V A D m q off x N arr p fz v u hl I J i o hr d=>exact .V _ _ λa f=>by grind [dE]
 |func E y l i hr d=>exact .func _ _ λa f=>by grind [dE]
 |eZ r l i o hr d=>exact .eZ _ λa f=>by grind [dE]
 |tuple O l i hr d=>exact .tuple _ λa f=>by grind [dE]
 |iface p a k h d=>exact .iface _ _ d
 |_=>constructor
def ox(n:Nat)(μ:Mu):Mu:=⟨λa=>if a<n then μ a else none,μ.rf⟩
def wX{n a:Nat}{μ:Mu}(h:a<n):ox n μ a=μ a:=by simp[ox,h]
def ls{n a:Nat}{μ:Mu}{b:Loc}(h:ox n μ a=some b):a<n/\μ a=some b:=by
 have h:(if a<n then μ a else none)=some b:=h
 grind
theorem zv{n a:Nat}{μ:Mu}(h:¬pG μ a):¬pG (ox n μ) a:=by
 rintro(⟨c,b,d,rfl⟩|hr)
 ·exact h (.inl ⟨c,b,(ls d).2,rfl⟩)
 ·exact h (.inr hr)
def iu.cut{hp:ah Obj}{μ:Mu}{a:T}{q:aq}(h:iu hp μ a q){n:Nat}(hl:sa n a):iu hp (ox n μ) a q:=by
 induction h with
 |undef=>exact .undef
 |ez f=>exact .ez f
 |int d O=>exact .int d O
 |str Q h=>exact .str Q h
 |lU=>exact .lU
 |fc f u z M i e j v J=>cases hl with|fc _ _ _ _ h=>exact .fc f u z M i e (by rw[wX h];exact j) v J
 |ks t r off arr p fz y w g o hr c=>
  cases hl with|ks _ h=>exact .ks t r off arr p fz (zv y) w g o λd a b=>c d a b (h a (aC b))
 |pP l e=>exact .pP l e
 |V E F l r off s R arr p fz y w x K L g o hr c=>
  cases hl with|V _ _ h=>exact .V E F l r off s R arr p fz (zv y) w x K L g o λd a b=>c d a b (h a (aC b))
 |iX e s=>exact .iX e s
 |arr f u P N l i e D j v x m=>cases hl with|arr _ _ _ _ _ h=>exact .arr f u P N l i e D (by rw[wX h];exact j) v x m
 |func I A k g hr c=>cases hl with|func _ _ h=>exact .func I A k g λd a b=>c d a b (h a (aC b))
 |my=>exact .my
 |mB=>exact .mB
 |iface p a q h c=>cases hl with|iface _ _ h=>exact .iface p a q (c h)
 |iter f i e j m=>cases hl with|iter _ h=>exact .iter f i e (by rw[wX h];exact j) m
 |map f i z j m=>cases hl with|map _ h=>exact .map f i z (by rw[wX h];exact j) m
 |pS=>exact .pS
 |eZ t k g o hr c=>cases hl with|eZ _ h=>exact .eZ t k g o λd a b=>c d a b (h a (aC b))
 |tuple S k g hr c=>cases hl with|tuple _ h=>exact .tuple S k g λd a b=>c d a b (h a (aC b))
def iW.cut{hp:ah Obj}{μ:Mu}{b:List T}{c:List aq}(h:iW hp μ b c){n:Nat}(hl:∀a∈b,sa n a):iW hp (ox n μ) b c:=
 ⟨h.1,λe a d=>(h.2 e a d).cut (hl a (aC d))⟩
def ud.cut{hp:ah Obj}{μ:Mu}{l:Loc}{j:jK}(h:ud hp μ l j){n:Nat}(hl:∀g∈iq j.gW,sa n g):ud hp (ox n μ) l j:=by
 refine⟨h.ep,h.sz,λb=>?_,λb=>?_⟩
 ·have f:=h.plain b;have⟨p,F,a,c,d⟩:=f.row;exact⟨⟨p,F,a,c,d.cut hl⟩,f.room,f.wq,f.size,f.scalar⟩
 ·obtain⟨m,a|⟨r,a,c,d⟩|⟨z,y,D,E,q,a,c,d,w⟩⟩:=h.iter b
  ·grind
  rotate_left
  ·exact⟨m,.inr (.inr ⟨z,y,D,E,q,a,c.cut (hl _ (by rw[a];simp[iq,T.cells])),d,w⟩)⟩
  ·refine⟨m,.inr (.inl ⟨r,a,c,λx k o=>?_⟩)⟩;have⟨b,g,A,i,s,t,u,v⟩:=d x k o;have e:=hl k (List.mem_flatMap.2 ⟨k,aC o,by rw[i];simp[T.cells]⟩);rw[i]at e;cases e with|tuple _ e=>exact⟨b,g,A,i,s,t,u.cut (e b G),v.cut (e g G)⟩
def ud.low{hp:ah Obj}{μ:Mu}{e:Loc}{k:jK}(h:ud hp μ e k){n:Nat}(c:∀l e,μ l=some e->l<n):∀j∈iq k.gW,sa n j:=by
 intro j a;cases d:k.it with
 |false=>
  have⟨y,N,f,g,b⟩:=(h.plain d).row;have⟨o,t⟩:=List.mem_iff_getElem?.1 a;exact(b.2 o j t).low c
 |true=>
  obtain⟨_,⟨L,w,s,_⟩|⟨A,f,g,b⟩|⟨J,I,w,M,z,f,g,b,F⟩⟩:=h.iter d
  ·rw[s]at a;simp[iq,T.cells]at a;rcases a with rfl|rfl<;>constructor
  rotate_left
  ·rw[f]at a;simp[iq,T.cells]at a;rcases a with rfl|rfl|rfl|rfl
   ·exact g.low c
   all_goals constructor
  ·have⟨x,u,i⟩:=List.mem_flatMap.1 a;have⟨v,d⟩:=List.mem_iff_getElem?.1 u;have⟨o,O,K,p,D,E,q,r⟩:=b v x d;rw[p]at i;simp[T.cells]at i;subst i;refine .tuple _ λP m=>?_;simp at m;rcases m with rfl|rfl
   ·exact q.low c
   ·exact r.low c
inductive jw {α β:Type} (R:α->β->Prop):List α->List β->Prop where
 |nil:jw R [] []
 |cons {a:α} {b:β} {l:List α} {m:List β} (h:R a b) (t:jw R l m):jw R (a::l) (b::m)
def jw.imp{g i:Type}{b c:g->i->Prop}{e:List g}{f:List i}(h:jw b e f)(j:∀a d,b a d->c a d):jw c e f:=by
 induction h with
 |nil=>exact .nil
 |cons a _ k=>exact .cons (j _ _ a) k
def jw.length{c d:Type}{e:c->d->Prop}{a:List c}{b:List d}(h:jw e a b):a.length=b.length:=by
 induction h with
 |nil=>rfl
 |cons _ _ f=>grind
theorem jw.append{f g:Type}{a:f->g->Prop}{b c:List f}{d e:List g}(h:jw a b d)(j:jw a c e):jw a (b++c) (d++e):=by
 induction h with
 |nil=>exact j
 |cons i _ k=>exact .cons i k
def jw.get{g a:Type}{b:g->a->Prop}{c:List g}{d:List a}(h:jw b c d){k:Nat}{f:a}(j:d[k]? =some f):∃e,c[k]? =some e/\b e f:=by
 induction h generalizing k with
 |nil=>grind
 |cons i _ l=>grind
def jw.mem{g a:Type}{b:g->a->Prop}{c:List g}{d:List a}(h:jw b c d){f:a}(j:f∈d):∃e∈c,b e f:=by
 have⟨l,i⟩:=List.mem_iff_getElem?.1 j;have⟨e,k,m⟩:=h.get i
 grind
def jw.map{b:Type}{g:b->aa b}{f:b->b->Prop}{a e:List b}(i:∀c∈a,∀d,g c=some d->f c d)(h:iH g a=some e):jw f a e:=by
 induction a generalizing e with
 |nil=>simp at h;subst h;exact .nil
 |cons c a k=>
  rw[kx]at h;replace h:=eg.1 h;obtain⟨d,j,h⟩:=h;replace h:=eg.1 h;obtain⟨o,ht,h⟩:=h;simp at h;subst h;exact .cons (i c G d j) (k (λl m=>i l (by grind)) ht)
structure Fz(hp:ah Obj)(μ:Mu)(n:Nat)(v v':T):Prop where
 rel:∀c,iu hp μ v c->iu hp (ox n μ) v' c
 scalar:v'.scalar=v.scalar
 cells:jw (λx x'=>(∀c,iu hp μ x c->iu hp (ox n μ) x' c)/\x'.scalar=x.scalar/\lP x') v.cells v'.cells
 closed:lP v'
theorem jw.iq{a:T->T->Prop}{b c:List T}(h:jw (λf g=>jw a f.cells g.cells) b c):jw a (TI.iq b) (TI.iq c):=by
 induction h with
 |nil=>exact .nil
 |cons d _ e=>simpa[TI.iq]using jw.append d e
section
variable {cx:Ctx}{base:Nat}{hp:ah Obj}{μ:Mu}{h:H}{n:Nat}
def Fz.same{b:T}(hl:lP b)(a:b.cells=[b]):Fz hp μ n b b:=
 ⟨λc a=>a.cut (hl.low n),rfl,by rw[a];exact .cons ⟨λc a=>a.cut (hl.low n),rfl,hl⟩ .nil,hl⟩
def Ee{a:T}(b:∀d∈a.cells,lP d):lP a:=by
 cases a with
 |eZ c=>exact .eZ c b
 |_=>exact b _ (by simp[T.cells])
def Kx{a:List T}(e:∀d∈a,∃b,iu hp μ d b):∃c,iW hp μ a c:=by
 induction a with
 |nil=>exact⟨[],iW.nil⟩
 |cons j a i=>
  have⟨b,f⟩:=e j G;have⟨c,g⟩:=i λd k=>e d (by grind);exact⟨b::c,iW.cons f g⟩
def IL{a:T}(d:∀c∈a.cells,∃b,iu hp μ c b)(g:∀c∈a.cells,c.scalar=true):∃b,iu hp μ a b:=by
 cases a with
 |eZ f=>
  have⟨e,hl⟩:=Kx d;exact⟨.agg e.toArray,iu.AB (by have hl:iW hp μ f e:=hl;omega) g⟩
 |_=>exact d _ (by simp[T.cells])
def iW.mem{b:List T}{d:List aq}(h:iW hp μ b d){a:T}(f:a∈b):∃c,iu hp μ a c:=by
 have⟨g,e⟩:=List.mem_iff_getElem?.1 f;exact⟨_,h.2 g a e⟩
def Jo(s:St cx base hp μ h):∀(F:Nat) (d c:T),(∃o,iu hp μ d o)->freeze h n F d=some c->Fz hp μ n d c:=by
 intro F;induction F with
 |zero=>intro d c _ b;simp[freeze]at b
 |succ F bC=>
  intro d c al b;cases d with
  |undef=>exact absurd b (by show¬(none=some c);simp)
  |fc=>exact absurd b (by show¬(none=some c);simp)
  |ks=>exact absurd b (by show¬(none=some c);simp)
  |func=>exact absurd b (by show¬(none=some c);simp)
  |iface=>exact absurd b (by show¬(none=some c);simp)
  |iter=>exact absurd b (by show¬(none=some c);simp)
  |map=>exact absurd b (by show¬(none=some c);simp)
  |pS=>exact absurd b (by show¬(none=some c);simp)
  |tuple=>exact absurd b (by show¬(none=some c);simp)
  |ez l=>have b:some (T.ez l)=some c:=b;simp only[aw]at b;subst b;exact Fz.same (.ez l) rfl
  |int x m=>have b:some (T.int x m)=some c:=b;simp only[aw]at b;subst b;exact Fz.same (.int x m) rfl
  |str l=>have b:some (T.str l)=some c:=b;simp only[aw]at b;subst b;exact Fz.same (.str l) rfl
  |lU=>have b:some (T.lU)=some c:=b;simp only[aw]at b;subst b;exact Fz.same .lU rfl
  |iX=>have b:some (T.iX)=some c:=b;simp only[aw]at b;subst b;exact Fz.same .iX rfl
  |my=>have b:some (T.my)=some c:=b;simp only[aw]at b;subst b;exact Fz.same .my rfl
  |mB=>have b:some (T.mB)=some c:=b;simp only[aw]at b;subst b;exact Fz.same .mB rfl
  |V r A=>
   have b:some (T.V r A)=some c:=b;simp only[aw]at b;subst b;obtain⟨o,q⟩:=al;refine Fz.same ?_ rfl;cases q with
   |pP=>exact .V _ _ λd g=>by simp at g
   |V e r A ec off ed ea arr t fz er b hl bn eu et q hr=>
    exact .V _ _ λd g=>Ee λi f=>(q i (List.mem_flatMap.2 ⟨d,g,f⟩)).2
  |eZ S=>
   have b:(J (iH (freeze h n F) S) λz=>some (T.eZ z))=some c:=b;replace b:=eg.1 b;obtain⟨z,hr,b⟩:=b;simp only[aw]at b;subst b;obtain⟨o,q⟩:=al;obtain⟨b6,rfl,N,di⟩:=q.sH;have p:jw (Fz hp μ n) S z:=jw.map (λi f D av=>bC i D (N.mem f) av) hr;have ae:∀d∈z,lP d:=λd g=>by obtain⟨i,_,f⟩:=p.mem g;exact f.closed
   have dk:∀d∈z,d.scalar=true:=λd g=>by obtain⟨i,c7,f⟩:=p.mem g;rw[f.scalar];exact di i c7
   refine⟨λo q=>?_,rfl,?_,.eZ z ae⟩
   ·obtain⟨b6,rfl,N,_⟩:=q.sH;refine iu.AB ⟨by rw[<-p.length];exact N.1,λx d bu=>?_⟩ dk;obtain⟨i,f,bn⟩:=p.get bu;exact bn.rel _ (N.2 x i f)
   ·show jw _ S z;exact p.imp λa l L=>⟨L.rel,L.scalar,L.closed⟩
  |arr l U v u A=>
   have b:iS (Nat.ble n l) (J (h.get l) λi=> @jK.rec (λ_=>aa T) (λ_ W _ exact aE k=>
    iS (Nat.beq W U) (@Bool.rec (λ_=>aa T) (J (J (kZ v k) λz=>takeN u z) λr=>J (iH (freeze h n F) r) λI=>
     @List.rec T (λ_=>aa T) (@List.rec T (λ_=>aa T) (@Bool.rec (λ_=>aa T) (some .iX) (some (.V [] false)) exact) (λ_ _ _=>some .iX) k) (λ_ _ _=>some (.V I A)) I) none aE)) i)=some c:=b
   obtain⟨bB,b⟩:=fj.1 b;have bB:n<=l:=bh bB;replace b:=eg.1 b;obtain⟨bW,cb,b⟩:=b;obtain⟨ea,W,eA,Z,aE,k⟩:=bW;simp only at b;obtain⟨bg,b⟩:=fj.1 b;have bg:W=U:=aH bg;cases aE with
   |true=>simp at b
   |false=>
    replace b:=eg.1 b;obtain⟨r,w,b⟩:=b;replace b:=eg.1 b;obtain⟨I,cp,O⟩:=b;obtain⟨c4,w⟩:v+u<=k.length/\r=(k.drop v).take u:=by
     replace w:=eg.1 w;obtain⟨r0,E,p⟩:=w;rw[nO]at E;split at E
     ·simp only[aw]at E;subst E;rw[pR]at p;split at p
      ·simp only[aw]at p;rename_i c6 c1;simp only[List.length_drop]at c1;exact⟨B,p.symm⟩
      ·simp at p
     ·simp at E
    have aN:∀o,iu hp μ (.arr l U v u A) o->iu hp (ox n μ) c o/\lP c/\c.cells=[c]/\c.scalar=true:=by
     intro o q;obtain⟨j,eb,aX,rfl,ab,a8,hl,de⟩:=q.vP;obtain⟨eB,K,P⟩:=s.box l j ab;rw[cb]at K;simp only[aw]at K;subst K;have b7:=P.ep;simp only at b7;obtain⟨bs,c9,b8⟩:=de B;have y:=P.plain rfl;simp only at y;obtain⟨arr,t,E,p,a6⟩:=y.row;have bi:∀d∈r,d.cells.length=j.sz:=λd g=>y.size d (bP (bO (w▸g)));have dd:∀d∈iq k,∃o,iu hp μ d o:=λd g=>a6.mem g;have bA:∀d∈r,d∈k:=λd g=>bP (bO (w▸g));have M:jw (Fz hp μ n) r I:=jw.map (λi f D av=>bC i D (IL (λR aA=>dd R (List.mem_flatMap.2 ⟨i,bA i f,aA⟩)) λR aA=>y.scalar R (List.mem_flatMap.2 ⟨i,bA i f,aA⟩)) av) cp;have ap:I.length=u:=by rw[<-M.length,w];simp;omega
     have cd:Z=true->j.cap=k.length:=y.wq;cases I with
     |nil=>
      have cX:u=0:=by simpa using ap.symm
      subst cX;have a8:c= .iX\/(k=[]/\Z=true/\c= .V [] false):=by
       cases k with
       |cons R eC=>have b:some T.iX=some c:=O;simp only[aw]at b;exact .inl b.symm
       |nil=>
        cases Z with
        |false=>have b:some T.iX=some c:=O;simp only[aw]at b;exact .inl b.symm
        |true=>have b:some (T.V [] false)=some c:=O;simp only[aw]at b;exact .inr ⟨rfl,rfl,b.symm⟩
      rcases a8 with rfl|⟨rfl,rfl,rfl⟩
      ·exact⟨.iX _ _,.iX,rfl,rfl⟩
      ·have a7:j.cap=0:=by simpa using cd rfl
       have:aX=0:=by
        cases A with
        |false=>have:=c9 rfl;omega
        |true=>exact bs rfl
       subst this;exact⟨.pP _ _,.V _ _ λd g=>by simp at g,rfl,rfl⟩
     |cons D Q=>
      have b:some (T.V (D::Q) A)=some c:=O;simp only[aw]at b;subst b;simp only[aQ]at ap;have ae:∀d∈D::Q,lP d:=λd g=>by obtain⟨i,_,f⟩:=M.mem g;exact f.closed
      refine⟨?_,.V _ _ ae,rfl,rfl⟩;rw[b8 B,<-ap];have an:=jw.iq (M.imp λa l L=>L.cells);have cL:(iq (D::Q)).length=u*j.sz:=by rw[<-an.length,jh bi,w];congr 1;simp;omega
      have bp:iq r=((iq k).drop (v*j.sz)).take (u*j.sz):=by rw[w];exact Gj y.size v u
      have cF:(iq k).length=k.length*j.sz:=jh y.size;have ef:v*j.sz+u*j.sz<=k.length*j.sz:=by rw[<-cy];exact aY _ c4
      have eh:k.length*j.sz<=j.cap*j.sz:=aY _ y.room;refine .V D Q A j.jO (v*j.sz) aX j.sz arr t (0,0) ?_ E B (λx=>by rw[bs x];omega) ?_ ?_ ?_ ?_
      ·rintro(⟨bT,bS,b9,ca⟩|hr)
       ·obtain⟨ey,dv⟩:=ls b9;have:=s.inj bT l bS j dv ab ca;omega
       ·exact s.apart l j ab hr
      ·intro d g;obtain⟨i,f,dn⟩:=M.mem g;rw[<-dn.cells.length];exact bi i f
      ·rw[cL,p];omega
      ·intro d g;obtain⟨i,f,K,P,dm⟩:=an.mem g;refine⟨?_,dm⟩;rw[P];rw[bp]at f;exact y.scalar i (bP (bO f))
      ·intro x d g;obtain⟨i,f,K,_⟩:=an.get g;refine K _ ?_;rw[bp,cD]at f;split at f
       ·rename_i bu;rw[bU]at f;have:=a6.2 _ i f;have c6:v*j.sz+x<(iq k).length:=by rw[cF];omega
        have eo:v*j.sz+x<arr.size:=by rw[p];omega
        simp_all
       grind
    obtain⟨bX,a7⟩:=al;obtain⟨_,bH,ds,bN⟩:=aN bX a7;exact⟨λo q=>(aN o q).1,by rw[bN];rfl,by rw[ds];exact .cons ⟨λo q=>(aN o q).1,by rw[bN];rfl,bH⟩ .nil,bH⟩
end
end
section
section
variable {cx:Ctx}{base:Nat}{hp:ah Obj}{μ:Mu}{h:H}{n:Nat}
def wW(t:St cx base hp μ h){e c:T}(q:∃d,iu hp μ e d)(a:jA h n e=some c):
 (∀d,iu hp μ e d->iu hp (ox n μ) c d)/\c.scalar=e.scalar:=by
 have s:freeze h n 12 e=some c->(∀d,iu hp μ e d->iu hp (ox n μ) c d)/\c.scalar=e.scalar:=λr=>
  let m:=Jo t 12 e c q r
  ⟨m.rel,m.scalar⟩
 cases e with
 |undef=>
  have a:some T.undef=some c:=a;simp only[aw]at a;subst a;exact⟨λd g=>g.cut .undef,rfl⟩
 |fc b i o p=>
  have a: @Bool.rec (λ_=>aa T) (some (.fc b i o p)) none (Nat.ble n b)=some c:=a;cases f:Nat.ble n b with
  |true=>rw[f]at a;grind
  |false=>
   rw[f]at a;have a:some (T.fc b i o p)=some c:=a;simp only[aw]at a;subst a;have:b<n:=by
    grind [aT,cr]
   exact⟨λd g=>g.cut (.fc _ _ _ _ this),rfl⟩
 |map b=>
  have a: @Bool.rec (λ_=>aa T) (some (.map b)) none (Nat.ble n b)=some c:=a;cases f:Nat.ble n b with
  |true=>rw[f]at a;grind
  |false=>
   rw[f]at a;have a:some (T.map b)=some c:=a;simp only[aw]at a;subst a;have:b<n:=by
    grind [aT,cr]
   exact⟨λd g=>g.cut (.map _ this),rfl⟩
 |arr b i l k j=>
  have a: @Bool.rec (λ_=>aa T) (some (.arr b i l k j)) (freeze h n 12 (.arr b i l k j)) (Nat.ble n b)=some c:=a;cases f:Nat.ble n b with
  |true=>rw[f]at a;grind
  |false=>
   rw[f]at a;have a:some (T.arr b i l k j)=some c:=a;simp only[aw]at a;subst a;have:b<n:=by
    grind [aT,cr]
   exact⟨λd g=>g.cut (.arr _ _ _ _ _ this),rfl⟩
 |_=>exact s a
theorem Hl(s:St cx base hp μ h){d c:List T}{k:List aq}(f:iW hp μ d k)(p:iH (jA h n) d=some c):
 iW hp (ox n μ) c k/\∀b∈c,∃i∈d,b.scalar=i.scalar:=by
 have e:jw (λg o=>(∀j,iu hp μ g j->iu hp (ox n μ) o j)/\o.scalar=g.scalar) d c:=jw.map (λb a i m=>wW s (f.mem a) m) p;refine⟨⟨by rw[<-e.length];exact f.1,λr g q=>?_⟩,λb a=>?_⟩
 ·have⟨b,a,l⟩:=e.get q;exact l.1 _ (f.2 r b a)
 ·have⟨i,m,l⟩:=e.mem a
  grind
def tO(i:St cx base hp μ h){d e:T}{b:aq}(c:iu hp μ d b)(a:lM h n d=some e):iu hp (ox n μ) e b:=by
 cases d with
 |eZ g=>
  have a:(J (iH (jA h n) g) λf=>some (T.eZ f))=some e:=a;replace a:=eg.1 a;obtain⟨f,hr,a⟩:=a;simp only[aw]at a;subst a;obtain⟨j,rfl,k,l⟩:=c.sH
  grind [Hl,iu.AB]
 |_=>exact(wW i ⟨b,c⟩ a).1 b c
def xX(k:St cx base hp μ h){c d:T}{b:aq}(e:iu hp μ c b)(a:jX h n c=some d):iu hp (ox n μ) d b:=by
 cases c with
 |tuple l=>
  have a:(J (iH (lM h n) l) λf=>some (T.tuple f))=some d:=a;replace a:=eg.1 a;obtain⟨f,hr,a⟩:=a;simp only[aw]at a;subst a;obtain⟨o,rfl,i⟩:=e.CZ;have g:jw (λc d=>∀b,iu hp μ c b->iu hp (ox n μ) d b) l f:=jw.map (λm j t r b e=>tO k e r) hr;refine .tuple f o (by rw[<-g.length];simpa using i.1.symm) λs c q=>?_;have⟨m,j,p⟩:=g.get q;have:=p _ (i.2 s m j);simp_all
 |_=>exact tO k e a
theorem m8{b:T}{i:aq}(g:iu hp μ b i)(a:lN n b=true):sa n b:=by
 cases b with
 |fc c j m o=>exact .fc _ _ _ _ (by have a:Nat.blt c n=true:=a;rwa[aK]at a)
 |arr c j q p k=>exact .arr _ _ _ _ _ (by have a:Nat.blt c n=true:=a;rwa[aK]at a)
 |map c=>exact .map _ (by have a:Nat.blt c n=true:=a;rwa[aK]at a)
 |ks l=>
  have⟨_,_,_,_,_,_,_,_,_,d,_⟩:=g.nM;exact .ks _ λb e=>(d b e).2.low n
 |V f k=>
  refine .V _ _ λb e=>?_;cases f with
  |nil=>grind [iq]
  |cons r f=>have⟨_,_,_,_,_,_,_,_,_,_,_,_,_,_,d,_⟩:=g.wP;exact(d b e).2.low n
 |undef=>grind [lN]
 |func=>grind [lN]
 |iface=>grind [lN]
 |iter=>grind [lN]
 |eZ=>grind [lN]
 |tuple=>grind [lN]
 |_=>constructor
def RG{i:T}(g:below n i=true)(b:∀c∈i.cells,∃d,iu hp μ c d):∀c∈i.cells,sa n c:=by
 cases i with
 |eZ e=>
  intro c a;have⟨d,b⟩:=b c a;exact m8 b (tF (show Af (lN n) e=true from g) c a)
 |func p e=>
  intro c a;have⟨d,b⟩:=b c a;simp[T.cells]at a;subst a;obtain⟨m,rfl,j⟩:=b.uQ;exact .func _ _ λl f=>by have⟨o,k⟩:=j.mem f;exact m8 k (tF (show Af (lN n) e=true from g) l f)
 |tuple e=>
  intro c a;have⟨d,b⟩:=b c a;simp[T.cells]at a;subst a;obtain⟨m,rfl,j⟩:=b.CZ;exact .tuple _ λl f=>by have⟨o,k⟩:=j.mem f;exact m8 k (tF (show Af (lN n) e=true from g) l f)
 |_=>
  intro c a;have⟨d,b⟩:=b c a;simp[T.cells]at a;subst a;exact m8 b g
def GL{a:Nat}{c:List jK}(b:uX n a c=true):∀d e,d<a->c[d]? =some e->∀j∈e.gW,below n j=true:=by
 induction a generalizing c with
 |zero=>omega
 |succ a m=>
  intro d e k l;cases c with
  |nil=>grind
  |cons g i=>
   have b: @Bool.rec (λ_=>Bool) false (uX n a i) (Af (below n) g.gW)=true:=b;cases f:Af (below n) g.gW with
   |false=>rw[f]at b;grind
   |true=>
    rw[f]at b
    grind [tF]
def St.cut(c:St cx base hp μ h)(y:n<=h.size){low:Nat}(hl:∀a b e,a<n->μ a=some b->h.get a=some e->∀f∈iq e.gW,sa n f):
 St cx base hp (ox n μ) ⟨n,low,h.ir.drop (h.size-n)⟩:=by
 have t:∀a,a<n->(⟨n,low,h.ir.drop (h.size-n)⟩:H).get a=h.get a:=by
  intro a d;rw[H.get_eq,H.get_eq];have g:a<h.size:=B
  grind
 refine⟨?_,c.fit,?_,?_,?_,λa b d=>c.apart a b (ls d).2,c.tV,?_⟩
 ·simp only[List.length_drop,c.wf];omega
 ·intro a b d;have⟨j,k⟩:=ls d;have⟨e,i,u⟩:=c.box a b k;exact⟨e,by rw[t a j];exact i,u.cut (hl a b e j k i)⟩
 ·intro a m b l g q r;exact c.inj a m b l (ls g).2 (ls q).2 r
 ·intro a b d;exact c.low a b (ls d).2
 ·intro p o s;have:=c.B7 p o s;refine this.cut ?_;have⟨_,_,_,_,_,_,_,_,_,v,_⟩:=this.nM;exact .ks _ λf x=>(v f x).2.low n
def St.OJ(a:St cx base hp μ h)(e:Nat):St cx base hp μ ⟨h.size,e,h.ir⟩:=by
 refine⟨a.wf,a.fit,λc b d=>?_,a.inj,a.low,a.apart,a.tV,a.B7⟩;have⟨i,g,f⟩:=a.box c b d
 grind [H.get_eq]
def Left(cx:Ctx)(base:Nat)(w w':World)(μ:Mu)(d:H)(e:T)(b:H)(c:aq):Prop:=
 ∃a,iu w'.heap a e c/\St cx base w'.heap a b/\sd w μ w' a/\Bb μ a d.size b.size
theorem H.ux(h:H)(b a:Nat):(⟨h.size,b,h.ir⟩:H).get a=h.get a:=by rw[H.get_eq,H.get_eq]
def Gf{n low0 low:Nat}{b:List jK}(c:mR ⟨n,n,b⟩ h)(hl:low<=low0)(g:∀a,a<n->a<low->a<h.low):mR ⟨n,low0,b⟩ ⟨h.size,low,h.ir⟩:=by
 have d:∀a,(⟨n,low0,b⟩:H).get a=(⟨n,n,b⟩:H).get a:=λa=>by rw[H.get_eq,H.get_eq]
 refine⟨c.wf,c.size,hl,λa e i=>?_,λa j f=>?_⟩
 ·rw[H.ux,d];exact c.mE a e (g a e i)
 ·rw[d]at f;have⟨m,k,l⟩:=c.ver a j f
  grind [H.ux]
def I7{low0:Nat}{d f:T}{e:H}(a:py low0 d h=some (f,e)):f=d/\e=⟨h.size,if h.low<low0 then h.low else low0,h.ir⟩:=by
 obtain⟨i,b,g⟩:=h;have a: @Bool.rec (λ_=>aa (T×H)) (some (d,⟨i,low0,g⟩)) (some (d,⟨i,b,g⟩)) (Nat.blt b low0)=some (f,e):=a;cases c:Nat.blt b low0 with
 |true=>
  rw[c]at a;simp only[aw,aF]at a;have:b<low0:=by rwa[aK]at c
  grind
 |false=>
  rw[c]at a;simp only[aw,aF]at a;have:¬b<low0:=λj=>by rw[<-aK,c]at j;grind
  grind
variable {w w':World}{μ0:Mu}{low0:Nat}{uY:List jK}
def AS{c d:T}{b:aq}{a:H}(k:St cx base w'.heap μ h)(f:mR ⟨n,n,uY⟩ h)(l:sd w μ0 w' μ)(e:Bb μ0 μ n h.size)(i:iu w'.heap μ c b)
 (j:py low0 c h=some (d,a)):Left cx base w w' μ0 ⟨n,low0,uY⟩ d a b/\mR ⟨n,low0,uY⟩ a:=by
 obtain⟨rfl,rfl⟩:=I7 j;exact⟨⟨μ,i,k.OJ _,l,e⟩,Gf f (by split<;>omega) (λm _ g=>by split at g<;>omega)⟩
def Lg{bg:Bool}{x y:T}{U:aq}{D:H}(bi:St cx base w.heap μ0 ⟨n,low0,uY⟩)(F:St cx base w'.heap μ h)(A:mR ⟨n,n,uY⟩ h)(g:sd w μ0 w' μ)(K:Bb μ0 μ n h.size)
 (P:iu w'.heap μ x U) (b:FV bg n low0 x h=some (y,D)):Left cx base w w' μ0 ⟨n,low0,uY⟩ y D U/\mR ⟨n,low0,uY⟩ D:=by
 cases bg with
 |true=>exact AS F A g K P b
 |false=>
  have b: @Option.rec T (λ_=>aa (T×H)) (py low0 x h) (λy=>wM n low0 x y h) (jX h n x)=some (y,D):=b;cases ae:jX h n x with
  |none=>rw[ae]at b;exact AS F A g K P b
  |some M=>
   rw[ae]at b;have cb:=xX F P ae;have an:n<=h.size:=A.size;have aX:∀a c,μ0 a=some c->a<n:=λa c d=>bi.gh d;have bs:∀s,s<=low0->(∀a,a<n->a<s->a<h.low)->(∀a c e,a<n->μ a=some c->h.get a=some e->∀z∈iq e.gW,sa n z)->
    Left cx base w w' μ0 ⟨n,low0,uY⟩ M ⟨n,s,h.ir.drop (h.size-n)⟩ U/\mR ⟨n,low0,uY⟩ ⟨n,s,h.ir.drop (h.size-n)⟩:=by
    intro s al b8 hl;have aN:=St.cut (low:=s) F an hl;refine⟨⟨ox n μ,cb,aN,⟨⟨g.ext.size,λi Q b9=>?_,λa c d=>?_,g.ext.rf,g.ext.kept⟩,g.os,g.tape,g.output⟩,ax _,λa d=>?_,λa cp a8=>absurd cp (by show¬n<=a;have a8:a<n:=a8;omega)⟩,?_⟩
    ·have⟨bA,bB⟩:=g.ext.pN i Q b9;exact⟨bA,zv bB⟩
    ·rw[wX (aX a c d)];exact g.ext.mu a c d
    ·left;have⟨c,E⟩:=Option.ne_none_iff_exists'.1 d;have⟨ea,cX⟩:=ls E;rcases K.2.1 a (by rw[cX];simp)with k|k
     ·exact k
     ·omega
    ·have W:=Gf (low:=s) A al b8;have a6:∀a,a<n->(⟨n,s,h.ir.drop (h.size-n)⟩:H).get a=h.get a:=by
      intro a d;rw[H.get_eq,H.get_eq];have O:a<h.size:=B;simp only[d,O,bw,bU];congr 1;omega
     refine⟨aN.wf,ax _,W.low,λa d b7=>?_,λa S r=>?_⟩
     ·rw[a6 a d];have:=W.mE a d b7;rwa[H.ux]at this
     ·rw[a6 a (H.gh r)];have:=W.ver a S r;simpa only[H.ux]using this
   have bn:∀a c e,a<n->a<h.low->μ a=some c->h.get a=some e->∀z∈iq e.gW,sa n z:=by
    intro a c e d al E v;have a7:=A.mE a d al;rw[v]at a7;rcases K.2.1 a (by rw[E];simp)with k|k
    ·have⟨bp,bH⟩:=Option.ne_none_iff_exists'.1 k;have⟨ef,av,R⟩:=bi.box a bp bH;have bu:(⟨n,low0,uY⟩:H).get a=(⟨n,n,uY⟩:H).get a:=by rw[H.get_eq,H.get_eq]
     rw[bu,<-a7]at av;simp only[aw]at av;subst av;exact R.low aX
    ·omega
   obtain⟨I,low,N⟩:=h;have b:(J (kZ (Nat.sub I n) N) λq=>
    @Bool.rec (λ_=>aa (T×H))
     (@Bool.rec (λ_=>aa (T×H)) (py low0 x ⟨I,low,N⟩)
       (@Bool.rec (λ_=>aa (T×H)) (some (M,⟨n,low0,q⟩)) (some (M,⟨n,low,q⟩)) (Nat.blt low low0)) (uX n (Nat.sub n low) q))
     (some (M,⟨n,low0,q⟩)) (Nat.ble n low))=some (y,D):=b
   replace b:=eg.1 b;obtain⟨q,o,b⟩:=b;rw[nO]at o;have o:q=N.drop (I-n):=by
    split at o
    ·simp only[aw]at o;exact o.symm
    ·simp at o
   have dk:low0<=n\/n<low0:=B;cases L:Nat.ble n low with
   |true=>
    rw[L]at b;simp only[aw,aF]at b;obtain⟨rfl,rfl⟩:=b;have ca:n<=low:=bh L;rw[o];exact bs _ (ax _) (λa d _=>by show a<low;omega) λa c e d=>bn a c e d (by show a<low;omega)
   |false=>
    rw[L]at b;have ca:low<n:=by
     rcases aT low n with k|k
     ·exact k
     ·rw[cr k]at L;simp at L
    cases Z:uX n (Nat.sub n low) q with
    |false=>rw[Z]at b;exact AS F A g K P b
    |true=>
     rw[Z]at b;have c1:∀a c e,a<n->μ a=some c->(⟨I,low,N⟩:H).get a=some e->∀z∈iq e.gW,sa n z:=by
      intro a c e d E v;by_cases bN:a<low
      ·exact bn a c e d bN E v
      ·have⟨ed,ap,R⟩:=F.box a c E;rw[v]at ap;simp only[aw]at ap;subst ap;have bX:q[n-1-a]? =some e:=by
        rw[H.get_eq]at v;have an:n<=I:=an;have bS:a<I:=B;simp only[bS,bw]at v;rw[o,bU,<-v];congr 1;omega
       have ab:=GL Z (n-1-a) e (by show _<n-low;omega) bX;intro z cd;have⟨V,f,p⟩:=List.mem_flatMap.1 cd;cases Q:e.it with
       |true=>
        obtain⟨_,⟨ec,cL,bW,_⟩|⟨c7,dm,dn,cF⟩|⟨ds,m,cL,eb,c6,O,aA,aE,di⟩⟩:=R.iter Q
        ·rw[bW]at f;simp at f;rcases f with rfl|rfl<;>(simp[T.cells]at p;subst p;constructor)
        rotate_left
        ·have l:=ab _ f;rw[O]at f;simp at f;rcases f with rfl|rfl|rfl|rfl
         ·simp[T.cells]at p;subst p;exact m8 aA l
         all_goals (simp[T.cells]at p;subst p;constructor)
        ·have⟨j,b6⟩:=List.mem_iff_getElem?.1 f;obtain⟨k,u,dv,rfl,c9,dd,bC,de⟩:=cF j V b6;have l:=ab _ f;have l:Af (lN n) [k,u]=true:=l;simp[T.cells]at p;subst p;refine .tuple _ λS r=>?_;have bT:=tF l S r;simp at r;rcases r with rfl|rfl
         ·exact m8 bC bT
         grind [m8]
       |false=>
        have⟨c4,t,O,aA,aE⟩:=(R.plain Q).row;exact RG (ab V f) (λS r=>aE.mem (List.mem_flatMap.2 ⟨V,f,r⟩)) z p
     have:y=M/\D=⟨n,if low<low0 then low else low0,q⟩:=by
      cases l:Nat.blt low low0 with
      |true=>
       rw[l]at b;simp only[aw,aF]at b;have:low<low0:=by rwa[aK]at l
       grind
      |false=>
       rw[l]at b;simp only[aw,aF]at b;have:¬low<low0:=λk=>by rw[<-aK,l]at k;grind
       grind
     obtain⟨rfl,rfl⟩:=this;rw[o]
     grind
