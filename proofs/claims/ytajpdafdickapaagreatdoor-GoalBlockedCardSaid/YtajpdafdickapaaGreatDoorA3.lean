/- TiMap -/
import Derived.Test.YtajpdafdickapaaGreatDoorA2
import Derived.MapKept
import Derived.Laws.IdiomStrings
import Derived.WideKeyRuns
import Derived.Maps.RangeRun
set_option linter.all false
namespace Go.TI
noncomputable section
open Go.MapKept
section
section
variable {P:ai}{cx:Ctx}{base:Nat}{w:World}{μ:Mu}{h h':H}{mask:Nat}{e:Env}{a:Act}{o:Oper}{hp hp':af Obj}{p:T}
theorem qK{j:Type}{c:j->Bool}{d:List j}(b:xG c d=true):∀f∈d,c f=true:=by
 induction d with
 |nil=>intro f hx;simp at hx
 |cons i d k=>
  have b: @Bool.rec (λ_=>Bool) false (xG c d) (c i)=true:=b;cases g:c i with
  |false=>rw[g]at b;simp at b
  |true=>
   rw[g]at b;intro f hx;rcases List.mem_cons.1 hx with rfl|hx
   ·exact g
   ·exact k b f hx
def F5{g:T}{b:Nat}(c:byteOf g=some b):g= .int .u8 (.ofNat b)/\b<256:=by
 cases g with
 |int m l=>
  have c:gJ (EK m .u8) (@Int.rec (λ_=>aa Nat) (λb=>gJ (Nat.blt b 256) (some b)) (λ_=>none) l)=some b:=c;have⟨i,d⟩:=dQ.1 c;rw[yu]at i;subst i;cases l with
  |ofNat f=>
   have d:gJ (Nat.blt f 256) (some f)=some b:=d;have⟨j,k⟩:=dQ.1 d;rw[aJ]at j;simp only[au]at k;subst k;exact⟨rfl,j⟩
  |negSucc f=>simp at d
 |_=>simp[byteOf]at c
theorem JG(jq:jg P cx){n j:ab}{A:ah}(x:St cx base w.heap μ h)(r:kA w.heap μ mask e a.tmps)(ap:o.op= .convert n j A)(K:P.underlying j=some .string){v:T}
 (hp:fO cx mask e A=some p) (b:HL cx h n p=some v) (ae:h'=h):jp cx base w μ h.size ((execOp a.eval o).run P w) v h':=by
 subst ae;replace b:=dI.1 b;obtain⟨bs,aE,b⟩:=b;obtain⟨d,G,N⟩:=kM (jq.ty _ _ aE);cases a6:bs.u<;>rw[a6]at b N<;>simp only[reduceCtorEq]at b;rename_i C;have:=lV N;subst this;replace b:=dI.1 b;obtain⟨bn,aA,b⟩:=b;obtain⟨bC,I,O⟩:=kM (jq.ty _ _ aA);cases a7:bn.u<;>rw[a7]at b O<;>simp only[reduceCtorEq]at b;rename_i k;replace b:=dQ.1 b;obtain⟨L,b⟩:=b;rw[yu]at L;subst L;have:=wY O;subst this;replace b:=dI.1 b;obtain⟨l,Y,b⟩:=b;replace b:=dI.1 b;obtain⟨f,U,b⟩:=b;replace b:=dQ.1 b;obtain⟨_,b⟩:=b;simp only[au]at b;subst b;obtain⟨bS,a8⟩:=oM (P:=P) x (gY x r hp) Y;obtain⟨bu,B,bi,Q,bH,D,bN,V⟩:=a8.form;obtain⟨t,F⟩:=sk.1 U;have X:l=f.map λi=>T.int .u8 (.ofNat i):=by
  apply cB;intro c;rw[aS];cases g:l[c]? with
  |none=>
   have:f[c]? =none:=by
    rw[List.getElem?_eq_none_iff]at g|-;omega
   rw[this];rfl
  |some z=>
   obtain⟨i,m,s⟩:=F c z g;rw[m,(F5 s).1];rfl
 have E:∀i∈f,i<256:=by
  intro i m;obtain⟨c,g⟩:=List.mem_iff_getElem?.1 m;have al:c<l.length:=by
   rw[t];rcases aR c f.length with y|y
   ·exact y
   ·rw[bK y]at g;simp at g
  obtain⟨bB,q,s⟩:=F c l[c] (by simp[al]);rw[g]at q;simp only[au]at q;subst q;exact(F5 s).2
 have av:fI w.heap μ (.str f) (.string (bytesOf f)):= .str f E;rw[X,rV]at D;have an:∀(c:Nat) i,f[c]? =some i->bi[c]? =some (.int .u8 (i:Int)):=by
  intro c i g;obtain⟨u,aN,aX⟩:=D.get (k:=c) (v:= .int .u8 (.ofNat i)) (by simp[g]);rw[aN,aX.jX];rfl
 have W:(convert n j (a.eval A)).run P w= .ok (.string (bytesOf f)) w:=by
  rw[Q];rcases V with⟨rfl,M⟩|⟨y,rfl,m⟩
  ·have R:f=[]:=by
    have:=t;rw[M]at this;simp at this;exact bg this.symm
   subst R;rw[M];rw[run_convert_bytes_string w n j C none _ B G I K];simp[Conv.bytesToString];rfl
  ·have hl:l.length=(f.map UInt8.ofNat).length:=by simp[t]
   rw[hl];have:=run_convert_bytes_back (P:=P) w n j C y B (f.map UInt8.ofNat) G I K (by
    intro c g;simp only[aH]at g;have S:f[c]? =some f[c]:=by simp[g]
    rw[m c _ (an c _ S)];simp only[List.getElem_map];rw[jJ (E _ (aF g))])
   rw[this];rfl
 exact jp.pure x (by simp only[execOp,ap,Sem.run_bind,W,Result.andThen_ok,Sem.run_pure]) av
end
end
section
section
variable {P:ai}{cx:Ctx}{base:Nat}{w:World}{μ:Mu}{h h':H}{mask:Nat}{e:Env}{a:Act}{o:Oper}{hp hp':af Obj}{p:T}
theorem IL{x:ah}{b:Bool}(j:St cx base w.heap μ h)(i:kA w.heap μ mask e a.tmps)(g:o.op= .next x b){d:T}
 (f:IM x b cx mask e h=some (.val d h')):jp cx base w μ h.size ((execOp a.eval o).run P w) d h':=by
 cases b with
 |true=>exact GN j i g f
 |false=>exact absurd f (by intro c;have c:(none:aa lP)=some (.val d h'):=c;simp at c)
end
end
end
noncomputable section
section
def Aj(P:ai)(c:ao->World->Prop):Result Next->Prop
 | .ok (.value d) b=>c d b
 | .ok .skip b=>c Go.undef b
 | .ok (.enter g f) b=>Calls P g f b λ
  | .returned d,i=>c d i
  |_,_=>False
 |_=>False
def Aj.mono{P:ai}{c d:ao->World->Prop}{b:Result Next}(h:Aj P c b)(g:∀i w,c i w->d i w):Aj P d b:=by
 cases b with
 |halt l w=>exact h
 |ok j w=>
  cases j<;>simp only[Aj]at h|- <;>first|exact h|exact g _ _ h|skip
  exact Calls.mono h λe k f=>by cases e<;>first|exact g _ _ f|exact f
def Aj.wp{P:ai}{o:Oper}{a:Act}{w:World}{c:ao->World->Prop}{next:Act->World->Prop}{Q:Exit->Act->World->Prop}
 (h:Aj P c ((execOp a.eval o).run P w)) (f:∀g b,c g b->next (a.put o.dst g) b):o.wp P a w next Q:=by
 unfold Oper.wp;generalize(execOp a.eval o).run P w=j at h;cases j with
 |halt k w=>exact h.elim
 |ok i w=>
  cases i<;>simp only[Aj]at h<;>simp only[Oper.upon]<;>first|exact h.elim|exact f _ _ h|skip
  exact Calls.mono h λe b d=>by cases e<;>first|exact f _ _ d|exact d.elim
def Aj.some{P:ai}{b:ao->World->Prop}{d:Result Next}(h:Aj P b d):∃g w,b g w:=by
 cases d with
 |halt k w=>exact h.elim
 |ok f w=>
  cases f<;>simp only[Aj]at h<;>first|exact h.elim|exact⟨_,_,h⟩|skip
  have⟨e,j,i,c,_⟩:=h [];cases e<;>first|exact⟨_,_,c⟩|exact c.elim
section
variable {P:ai}{cx:Ctx}{base:Nat}{w:World}{μ:Mu}{h h':H}{mask:Nat}{e:Env}{a:Act}{o:Oper}
def VX(cx:Ctx)(base:Nat)(w:World)(μ:Mu)(f:Nat)(g:T)(h':H)(d:ao)(c:World):Prop:=
 ∃b,fI c.heap b g d/\St cx base c.heap b h'/\p7 w μ c b/\yJ μ b f h'.size
def jp.ran{i:Result Next}{g:Nat}{j:T}(h:jp cx base w μ g i j h'):Aj P (VX cx base w μ g j h') i:=by
 obtain⟨m,n,k,l,b,c,d,f⟩:=h;rcases l with rfl|⟨rfl,rfl⟩
 ·exact⟨k,b,c,d,f⟩
 ·exact⟨k,b,c,d,f⟩
theorem NP(jq:jg P cx)(i:St cx base w.heap μ h)(g:kA w.heap μ mask e a.tmps){b:Call}(f:o.op= .call b){d:T}
 (c:DV b cx mask e h=some (.val d h')):jp cx base w μ h.size ((execOp a.eval o).run P w) d h':=by
 replace c:=dI.1 c;grind [dI,reduceCtorEq,E8]
theorem vD{i:Builtin}{r:List ab}{k:List T}{d:aj}{g:List T}(b:lA i cx h r k=some (.call d g)):False:=by
 have n:∀{c:aa T},val h c=some (.call d g)->False:=λf=>A7 f;have v:∀{c:aa (T×H)},jI c=some (.call d g)->False:=by
  intro c f;unfold jI at f;cases c<;>simp[two]at f
 cases i<;>simp only[lA,reduceCtorEq]at b
 case len=>
  split at b
  ·replace b:=dI.1 b;obtain⟨q,_,b⟩:=b;replace b:=dI.1 b;grind
  grind
 case append=>
  split at b
  ·split at b
   ·replace b:=dI.1 b;obtain⟨q,_,b⟩:=b;replace b:=dI.1 b;grind [dQ]
   grind
  grind
 case clear=>
  split at b
  ·split at b
   ·replace b:=dI.1 b;obtain⟨y,_,b⟩:=b;split at b
    ·rename_i m _;cases m<;>simp at b
    ·grind
    ·rename_i j _;cases j with
     |zero=>
      have b:some (lP.val .undef h)=some (.call d g):=b
      grind
     |succ j=>
      replace b:=dI.1 b;obtain⟨l,_,b⟩:=b;obtain⟨x,t,z,u,p,s⟩:=l;obtain⟨_,b⟩:=dQ.1 b;obtain⟨_,b⟩:=dQ.1 b;cases p with
      |true=>grind
      |false=>
       replace b:=dI.1 b;obtain⟨_,_,b⟩:=b;replace b:=dI.1 b;obtain⟨_,_,b⟩:=b;replace b:=dI.1 b;grind
    grind
   grind
  grind
 case min=>split at b<;>first|exact n b|grind
 grind
def KB(k:St cx base w.heap μ h)(j:kA w.heap μ mask e a.tmps){c:Call}(r:o.op= .call c){g:aj}{i:List T}
 (b:DV c cx mask e h=some (.call g i)):∃f:af ao,gU w.heap μ i f.toList/\(execOp a.eval o).run P w=(callFunc g f).run P w:=by
 replace b:=dI.1 b;obtain⟨v,q,b⟩:=b;have n:=wz k j q;cases d:c.callee with
 |builtin x=>rw[d]at b;grind [vD]
 |invoke D C=>rw[d]at b;grind
 |value A=>
  rw[d]at b;simp only at b;replace b:=dI.1 b;obtain⟨u,s,b⟩:=b;have t:=gY k j s;cases u<;>simp only[reduceCtorEq]at b;rename_i z y;replace b:=dI.1 b;obtain⟨B,hl,b⟩:=b;simp only[au,lP.call.injEq]at b;obtain⟨rfl,rfl⟩:=b;obtain⟨l,m,p⟩:=t.sw;rw[rL]at hl;simp only[au]at hl;refine⟨c.args.map a.eval++l,?_,?_⟩
  ·rw[<-hl];simpa using n.append p
  ·simp[execOp,r,resolve,d,m,Deferred.ofValue,invoke]
def zi(jq:jg P cx)(f:St cx base w.heap μ h)(d:kA w.heap μ mask e a.tmps){k:T}
 (b:jr o.op cx mask e h=some (.val k h')):jp cx base w μ h.size ((execOp a.eval o).run P w) k h':=by
 cases c:o.op<;>rw[c]at b<;>simp only[jr,reduceCtorEq]at b
 case move g=>grind [Br]
 case assign g=>exact Br f d (.inr c) b
 case pick=>grind [IK]
 case alloc=>grind [GU]
 case box=>grind [KC]
 case build=>grind [GT]
 case buildSlice=>grind [zx]
 case load=>grind [IN]
 case store=>grind [GJ]
 case nilCheck=>grind [BJ]
 case binOp q j g M L=>
  cases q<;>first
   |exact FW jq (neg:=false) rfl f d c b
   |exact FW jq (neg:=true) rfl f d c b
   |exact KD dy dy f d c b
 case unOp=>grind [NO]
 case convert I t g=>
  replace b:=dI.1 b;obtain⟨K,D,b⟩:=b;replace b:=dI.1 b;obtain⟨G,B,b⟩:=b;replace b:=dI.1 b;obtain⟨l,m,b⟩:=b;split at b
  ·grind [fT,Hm]
  ·rename_i p;split at b
   ·grind [fT,Bt]
   ·obtain⟨E,C⟩:=fT.1 b;obtain⟨s,A,i⟩:=kM (jq.ty _ _ m);rw[p]at i;have:=sW i;grind [JG]
  grind [Bt,fT]
 case makeInterface=>grind [GR]
 case makeFunc=>grind [IQ]
 case makeSlice=>grind [AM]
 case slice=>grind [GL]
 case fieldAddr=>grind [AQ]
 case field=>grind [GS]
 case indexAddr=>grind [AN]
 case index=>grind [GQ]
 case extract=>grind [DU]
 case range j g=>
  replace b:=dI.1 b;obtain⟨r,n,b⟩:=b;obtain⟨F,l,N,u,v,x,y,z,_⟩:=(jq.ty j r n).unfold
  grind [GM,sW]
 case next=>grind [IL]
 grind [NP]
def NC(d:aa lP):Prop:=∀b c,d≠some (.call b c)
theorem NC.none:NC none:=λ_ _=>by simp
theorem NC.val{b:aa T}:NC (val h b):=λ_ _=>A7
def NC.some{b:T}:NC (some (.val b h)):=λ_ _=>by simp
theorem NC.dV{f:Type}{d:aa f}{c:f->aa lP}(h:∀b,NC (c b)):NC (dV d c):=by
 cases d with
 |none=>exact NC.none
 |some b=>exact h b
theorem NC.gJ{b:Bool}{c:aa lP}(h:NC c):NC (gJ b c):=by
 cases b with
 |false=>exact NC.none
 |true=>exact h
def NC.bool{b:Bool}{c d:aa lP}(f:NC c)(g:NC d):NC (Bool.casesOn b c d):=by
 cases b<;>assumption
def Dz{b:Op}(d:∀c,b≠ .call c):NC (jr b cx mask e h):=by
 cases b<;>simp only[jr]<;>first
  |exact absurd rfl (d _)
  |exact NC.none
  |skip
 all_goals
  first
   |unfold DS|unfold FV|unfold DW|unfold NQ|unfold AS|unfold oN|unfold IP|unfold DP|unfold rQ|unfold hUn|unfold LQ|unfold AP|unfold DT
   |unfold pR|unfold DQ|unfold pT|unfold AR|unfold pS|unfold AO|unfold uE|unfold zw|unfold IM|skip
 case binOp b f i j g=>
  cases b<;>first
   |(simp only[];unfold Xp;exact NC.dV λ_=>NC.dV λ_=>NC.dV λ_=>NC.gJ (NC.dV λ_=>NC.val))
   |(simp only[];unfold NR;exact NC.dV λ_=>NC.dV λ_=>NC.val)
 all_goals
  repeat first
   |exact NC.none
   |exact NC.val
   |exact NC.some
   |exact NC.new
   |refine NC.dV λ_=>?_
   |refine NC.gJ ?_
   |refine NC.bool ?_ ?_
   |split
   |unfold kK
   |unfold pf
   |unfold DR
   |unfold AL
   |(refine NC.nat ?_ λ_=>?_)
   |(refine NC.opt ?_ λ_=>?_)
   |(unfold two)
def Ib(m:St cx base w.heap μ h)(l:kA w.heap μ mask e a.tmps){c:aj}{g:List T}
 (d:jr o.op cx mask e h=some (.call c g)):(∃b,o.op= .call b)/\∃i:af ao,gU w.heap μ g i.toList/\(execOp a.eval o).run P w=(callFunc c i).run P w:=by
 by_cases j:∃b,o.op= .call b
 ·obtain⟨b,f⟩:=j;rw[f]at d;exact⟨⟨b,f⟩,KB m l f d⟩
 ·exact absurd d (Dz (λb k=>j ⟨b,k⟩) c g)
end
end
section
structure lr(h h':H):Prop where
 wf:h'.fH.length=h'.size
 size:h.size<=h'.size
 low:h'.low<=h.low
 kT:∀b,b<h.size->b<h'.low->h'.get b=h.get b
 ver:∀b x,h.get b=some x->∃x',h'.get b=some x'/\(x'=x\/x.ver<x'.ver)
def lr.refl{h:H}(a:h.fH.length=h.size):lr h h:=⟨a,aw _,aw _,λ_ _ _=>rfl,λ_ c b=>⟨c,b,.inl rfl⟩⟩
def lr.trans{h d e:H}(b:lr h d)(a:lr d e):lr h e:=by
 refine⟨a.wf,aT b.size a.size,aT a.low b.low,λc f hl=>?_,λc i g=>?_⟩
 ·rw[a.kT c (bD f b.size) hl,b.kT c f (bD hl a.low)]
 ·have⟨j,d,r1⟩:=b.ver c i g;have⟨k,e,r2⟩:=a.ver c j d;refine⟨k,e,?_⟩;rcases r1 with rfl|r1<;>rcases r2 with rfl|r2
  ·simp
  ·omega
  ·omega
  omega
def H.fh{h:H}{a:Nat}{c:iY}(b:h.get a=some c):a<h.size:=by
 rw[H.get_eq]at b
 grind
theorem lr.cons{h:H}(e:h.fH.length=h.size)(a:iY):lr h (h.cons a):=by
 refine⟨by simp[H.cons,e],by simp[H.cons],by simp[H.cons],λc d _=>H.nj d a,λc f b=>⟨f,?_,.inl rfl⟩⟩;rw[H.nj (H.fh b) a];exact b
theorem lr.put{h b:H}(f:h.fH.length=h.size){a:Nat}{x e:iY}(i:h.get a=some x)(d:h.put a e=some b)(j:x.ver<e.ver):lr h b:=by
 have⟨p1,p2,p3,p4⟩:=Cm d f;obtain⟨l,m,rfl⟩:=H.wx.1 d;refine⟨p2,dy,?_,λc g hl=>p4 c ?_,λc o k=>?_⟩
 ·simp only;split<;>omega
 ·rintro rfl;simp only at hl;split at hl<;>omega
 grind
def Mv(h:H)(c:aa lP):Prop:=∀b a,c=some (.val b a)->lr h a
section
variable {h:H}
theorem Mv.none(b:h.fH.length=h.size):Mv h none:=λ_ _ a=>by grind
theorem Mv.val(b:h.fH.length=h.size){c:aa T}:Mv h (val h c):=λe d a=>by obtain⟨_,rfl⟩:=fT.1 a;exact lr.refl b
def Mv.some(c:h.fH.length=h.size){b:T}:Mv h (some (.val b h)):=λb d a=>by simp at a;obtain⟨_,rfl⟩:=a;exact lr.refl c
def Mv.new(c:h.fH.length=h.size){f:Nat->T}{b:iY}:Mv h (jI (h.new f b)):=λe d a=>by
 rw[ju,H.ly]at a;simp only[au,aD]at a;obtain⟨_,rfl⟩:=a;exact lr.cons c b
theorem Mv.dV(e:h.fH.length=h.size){d:Type}{a:aa d}{c:d->aa lP}(f:∀b,a=Option.some b->Mv h (c b)):Mv h (dV a c):=by
 cases a with
 |none=>exact Mv.none e
 |some b=>simp_all
theorem Mv.gJ(c:h.fH.length=h.size){a:Bool}{b:aa lP}(d:Mv h b):Mv h (gJ a b):=by
 cases a with
 |false=>exact Mv.none c
 |true=>exact d
def Mv.bool(d:h.fH.length=h.size){a:Bool}{b c:aa lP}(e:Mv h b)(f:Mv h c):Mv h (Bool.casesOn a b c):=by
 cases a<;>assumption
theorem po(c:h.fH.length=h.size){e bytes:Nat}{d g:List T}{f:T}{b:H}(a:h.jo e bytes d g=Option.some (f,b)):lr h b:=by
 replace a:=dI.1 a;obtain⟨i,_,a⟩:=a;replace a:=dI.1 a;obtain⟨j,_,a⟩:=a;have⟨_,a⟩:=dQ.1 a;have⟨_,a⟩:=dQ.1 a;have⟨_,a⟩:=dQ.1 a;have⟨_,a⟩:=dQ.1 a;rw[H.ly]at a;simp only[au,aD]at a;obtain⟨_,rfl⟩:=a;exact lr.cons c _
def Fa(s:h.fH.length=h.size){g bytes c d f:Nat}{k:List T}{i:T}{b:H}(a:h.mN g bytes c d f k=Option.some (i,b)):lr h b:=by
 replace a:=dI.1 a;obtain⟨j,t,a⟩:=a;obtain⟨v,m,w,p,e,l⟩:=j;simp only at a;replace a:=dI.1 a;obtain⟨o,_,a⟩:=a;replace a:=dI.1 a;obtain⟨n,_,a⟩:=a;replace a:=dI.1 a;obtain⟨u,_,a⟩:=a;have⟨_,a⟩:=dQ.1 a;have⟨_,a⟩:=dQ.1 a;have⟨_,a⟩:=dQ.1 a;have⟨_,a⟩:=dQ.1 a;have⟨_,a⟩:=dQ.1 a;cases e with
 |true=>grind
 |false=>
  simp only[iO,ed]at a;replace a:=dI.1 a;obtain⟨q,r,a⟩:=a;simp only[au,aD]at a;obtain⟨_,rfl⟩:=a
  grind [lr.put]
theorem Jj(e:h.fH.length=h.size){k bytes:Nat}{b:T}{i:List T}{g:T}{c:H}(a:h.append k bytes b i=Option.some (g,c)):lr h c:=by
 unfold H.append at a;cases i with
 |nil=>
  have a:Go.TI.gJ (o9 b) (Option.some (b,h))=Option.some (g,c):=a;obtain⟨_,a⟩:=dQ.1 a;simp only[au,aD]at a;obtain⟨_,rfl⟩:=a;exact lr.refl e
 |cons o p=>
  simp only at a;cases b<;>simp only[reduceCtorEq]at a
  case dK j d=>
   cases j with
   |nil=>grind [po]
   |cons q r=>grind [dQ,po]
  case arr l m f n d=>
   cases d with
   |false=>
    cases f with
    |zero=>exact Fa e a
    |succ f=>grind
   |true=>replace a:=dI.1 a;grind [po]
theorem JH(l:h.fH.length=h.size){e:Ty}{b f:T}{c:H}(a:h.store e b f=Option.some c):lr h c:=by
 unfold H.store at a;cases b<;>simp only[reduceCtorEq]at a;have⟨_,a⟩:=dQ.1 a;replace a:=dI.1 a;obtain⟨g,m,a⟩:=a;obtain⟨n,j,o,k,d,i⟩:=g;simp only at a;have⟨_,a⟩:=dQ.1 a;cases d with
 |true=>grind
 |false=>
  simp only at a;replace a:=dI.1 a;obtain⟨_,_,a⟩:=a;replace a:=dI.1 a;obtain⟨_,_,a⟩:=a;replace a:=dI.1 a;grind [ed,iO,lr.put]
def QL(a:h.fH.length=h.size){e:Op}{cx:Ctx}{q:Nat}{n:Env}:Mv h (jr e cx q n h):=by
 by_cases l:∃d,e= .call d
 ·obtain⟨d,rfl⟩:=l;simp only[jr];unfold DV;refine Mv.dV a λt _=>?_;split
  ·rename_i m _;cases m<;>simp only[lA]<;>first|exact Mv.none a|skip
   case len=>
    split
    ·unfold N8
     grind [Mv.dV,Mv.val,Mv.none]
    grind [Mv.none]
   case append=>
    split
    ·split
     ·unfold iU;refine Mv.dV a λ_ _=>Mv.dV a λ_ _=>Mv.gJ a ?_;intro c f b
      grind [ju,Jj]
     grind [Mv.none]
    grind [Mv.none]
   case clear=>
    split
    ·split
     ·unfold Ey;refine Mv.dV a λw _=>?_;split
      ·rename_i j _ _;cases j
       ·exact Mv.some a
       grind [Mv.none]
      ·exact Mv.some a
      ·rename_i g _ _;cases g with
       |zero=>exact Mv.some a
       |succ g=>
        refine Mv.dV a λi p=>?_;refine Mv.gJ a (Mv.gJ a (Mv.bool a ?_ ?_))
        ·refine Mv.dV a λj _=>?_;simp only[iO,ed];refine Mv.dV a λk o=>?_;intro c f b;simp only[au,lP.val.injEq]at b;obtain⟨_,rfl⟩:=b
         grind [lr.put]
        grind [Mv.none]
      grind [Mv.none]
     grind [Mv.none]
    grind [Mv.none]
   all_goals (split<;>first|exact Mv.val a|exact Mv.none a)
  ·refine Mv.dV a λc _=>?_;split
   ·refine Mv.dV a λg _=>?_;intro c f b
    grind
   grind [Mv.none]
  grind [Mv.none]
 cases e<;>simp only[jr]<;>first
  |exact Mv.none a
  |exact(l ⟨_,rfl⟩).elim
  |skip
 case binOp e r i y x=>
  cases e<;>first
   |(simp only[];unfold Xp;exact Mv.dV a λ_ _=>Mv.dV a λ_ _=>Mv.dV a λ_ _=>Mv.gJ a (Mv.dV a λ_ _=>Mv.val a))
   |(simp only[];unfold NR;exact Mv.dV a λ_ _=>Mv.dV a λ_ _=>Mv.val a)
 case store r s i=>
  unfold DP;refine Mv.dV a λ_ _=>Mv.dV a λ_ _=>Mv.dV a λ_ _=>Mv.gJ a (Mv.dV a λk u=>?_);intro c f b;simp only[au,lP.val.injEq]at b;obtain⟨_,rfl⟩:=b
  grind [JH]
 case next it v=>
  unfold IM;refine Mv.bool a ?_ ?_
  ·exact Mv.none a
  ·unfold AL;refine Mv.dV a λc _=>?_;cases c<;>simp only<;>first|exact Mv.none a|skip
   refine Mv.dV a λi p=>Mv.gJ a ?_;split
   ·refine Mv.bool a (Mv.some a) (Mv.dV a λd _=>?_);obtain⟨d,wd⟩:=d;simp only[kN,iO,ed];refine Mv.dV a λk o=>?_;intro c f b;simp only[au,lP.val.injEq]at b;obtain⟨_,rfl⟩:=b
    grind [lr.put]
   grind [Mv.none]
 all_goals
  first
   |unfold DS|unfold FV|unfold DW|unfold NQ|unfold AS|unfold oN|unfold IP|unfold rQ|unfold hUn|unfold LQ|unfold AP|unfold DT
   |unfold pR|unfold DQ|unfold pT|unfold AR|unfold pS|unfold AO|unfold uE|unfold zw|skip
 all_goals
  repeat first
   |exact Mv.none a
   |exact Mv.val a
   |exact Mv.some a
   |exact Mv.new a
   |refine Mv.dV a λ_ _=>?_
   |refine Mv.gJ a ?_
   |refine Mv.bool a ?_ ?_
   |split
   |unfold kK
   |unfold pf
   |unfold DR
   |(refine Mv.opt a ?_ λ_=>?_)
   |(unfold two)
end
end
section
inductive pZ (n:Nat):T->Prop where
 |undef:pZ n .undef
 |bool (b:Bool):pZ n (.bool b)
 |int (k:ak) (m:Int):pZ n (.int k m)
 |str (s:List Nat):pZ n (.str s)
 |kH:pZ n .kH
 |ptr (b ep i j:Nat) (h:b<n):pZ n (.ptr b ep i j)
 |jD (cs:List T) (h:∀v∈cs,pZ n v):pZ n (.jD cs)
 |dK (es:List T) (full:Bool) (h:∀v∈fF es,pZ n v):pZ n (.dK es full)
 |gX:pZ n .gX
 |arr (b ep o l:Nat) (full:Bool) (h:b<n):pZ n (.arr b ep o l full)
 |func (f:aj) (cs:List T) (h:∀v∈cs,pZ n v):pZ n (.func f cs)
 |kS:pZ n .kS
 |kR:pZ n .kR
 |iface (t:ab) (v:T) (h:pZ n v):pZ n (.iface t v)
 |iter (b:Nat) (h:b<n):pZ n (.iter b)
 |map (b:Nat) (h:b<n):pZ n (.map b)
 |nZ:pZ n .nZ
 |agg (cs:List T) (h:∀v∈cs,pZ n v):pZ n (.agg cs)
 |tuple (vs:List T) (h:∀v∈vs,pZ n v):pZ n (.tuple vs)
theorem pZ.cells{n:Nat}{b:T}(h:pZ n b):∀c∈b.cells,pZ n c:=by
 cases h with
 |agg d h=>exact h
 |_=>intro c a;simp[T.cells]at a;subst a;constructor<;>assumption
def kC.low{a:T}(h:kC a)(n:Nat):pZ n a:=by
 induction h with
 |dK c d _ i=>
  refine .dK c d λa f=>?_;have⟨b,e,g⟩:=List.mem_flatMap.1 f;exact(i b e).cells a g
 |_=>constructor<;>assumption
def fI.low{hp:af Obj}{μ:Mu}{a:T}{k:ao}(h:fI hp μ a k){n:Nat}(g:∀c e,μ c=some e->c<n):pZ n a:=by
 induction h with
 |ptr c s w G e j b t D=>exact .ptr _ _ _ _ (g _ _ b)
 |arr c s K I m e j z b t hl h=>exact .arr _ _ _ _ _ (g _ _ b)
 |iter c e j b h=>exact .iter _ (g _ _ b)
 |map c e w b h=>exact .map _ (g _ _ b)
 |jD r q off arr p fz v u i o hr d=>exact .jD _ λa f=>by grind [dc]
 |nV m j=>exact .dK _ _ λa f=>by grind [fF]
 |dK A B m q off x L arr p fz v u hl E F i o hr d=>exact .dK _ _ λa f=>by grind [dc]
 |func C y l i hr d=>exact .func _ _ λa f=>by grind [dc]
 |agg r l i o hr d=>exact .agg _ λa f=>by grind [dc]
 |tuple M l i hr d=>exact .tuple _ λa f=>by grind [dc]
 |iface p a k h d=>exact .iface _ _ d
 |_=>constructor
def mM(n:Nat)(μ:Mu):Mu:=⟨λa=>if a<n then μ a else none,μ.py⟩
def uH{n a:Nat}{μ:Mu}(h:a<n):mM n μ a=μ a:=by simp[mM,h]
def kl{n a:Nat}{μ:Mu}{b:Loc}(h:mM n μ a=some b):a<n/\μ a=some b:=by
 have h:(if a<n then μ a else none)=some b:=h
 grind
theorem xn{n a:Nat}{μ:Mu}(h:¬nN μ a):¬nN (mM n μ) a:=by
 rintro(⟨c,b,d,rfl⟩|hr)
 ·exact h (.inl ⟨c,b,(kl d).2,rfl⟩)
 ·exact h (.inr hr)
def fI.cut{hp:af Obj}{μ:Mu}{a:T}{q:ao}(h:fI hp μ a q){n:Nat}(hl:pZ n a):fI hp (mM n μ) a q:=by
 induction h with
 |undef=>exact .undef
 |bool f=>exact .bool f
 |int d M=>exact .int d M
 |str O h=>exact .str O h
 |kH=>exact .kH
 |ptr f u z K i e j v F=>cases hl with|ptr _ _ _ _ h=>exact .ptr f u z K i e (by rw[uH h];exact j) v F
 |jD t r off arr p fz y w g o hr c=>
  cases hl with|jD _ h=>exact .jD t r off arr p fz (xn y) w g o λd a b=>c d a b (h a (ay b))
 |nV l e=>exact .nV l e
 |dK C D l r off s P arr p fz y w x G I g o hr c=>
  cases hl with|dK _ _ h=>exact .dK C D l r off s P arr p fz (xn y) w x G I g o λd a b=>c d a b (h a (ay b))
 |gX e s=>exact .gX e s
 |arr f u N L l i e B j v x m=>cases hl with|arr _ _ _ _ _ h=>exact .arr f u N L l i e B (by rw[uH h];exact j) v x m
 |func E A k g hr c=>cases hl with|func _ _ h=>exact .func E A k g λd a b=>c d a b (h a (ay b))
 |kS=>exact .kS
 |kR=>exact .kR
 |iface p a q h c=>cases hl with|iface _ _ h=>exact .iface p a q (c h)
 |iter f i e j m=>cases hl with|iter _ h=>exact .iter f i e (by rw[uH h];exact j) m
 |map f i z j m=>cases hl with|map _ h=>exact .map f i z (by rw[uH h];exact j) m
 |nZ=>exact .nZ
 |agg t k g o hr c=>cases hl with|agg _ h=>exact .agg t k g o λd a b=>c d a b (h a (ay b))
 |tuple Q k g hr c=>cases hl with|tuple _ h=>exact .tuple Q k g λd a b=>c d a b (h a (ay b))
def gU.cut{hp:af Obj}{μ:Mu}{b:List T}{c:List ao}(h:gU hp μ b c){n:Nat}(hl:∀a∈b,pZ n a):gU hp (mM n μ) b c:=
 ⟨h.1,λe a d=>(h.2 e a d).cut (hl a (ay d))⟩
def ry.cut{hp:af Obj}{μ:Mu}{l:Loc}{j:iY}(h:ry hp μ l j){n:Nat}(hl:∀g∈fF j.fg,pZ n g):ry hp (mM n μ) l j:=by
 refine⟨h.ep,h.sz,λb=>?_,λb=>?_⟩
 ·have f:=h.plain b;have⟨p,D,a,c,d⟩:=f.row;exact⟨⟨p,D,a,c,d.cut hl⟩,f.room,f.tZ,f.size,f.scalar⟩
 ·obtain⟨m,a|⟨r,a,c,d⟩|⟨z,y,B,C,q,a,c,d,w⟩⟩:=h.iter b
  ·grind
  rotate_left
  ·exact⟨m,.inr (.inr ⟨z,y,B,C,q,a,c.cut (hl _ (by rw[a];simp[fF,T.cells])),d,w⟩)⟩
  ·refine⟨m,.inr (.inl ⟨r,a,c,λx k o=>?_⟩)⟩;have⟨b,g,A,i,s,t,u,v⟩:=d x k o;have e:=hl k (List.mem_flatMap.2 ⟨k,ay o,by rw[i];simp[T.cells]⟩);rw[i]at e;cases e with|tuple _ e=>exact⟨b,g,A,i,s,t,u.cut (e b dy),v.cut (e g dy)⟩
def ry.low{hp:af Obj}{μ:Mu}{e:Loc}{k:iY}(h:ry hp μ e k){n:Nat}(c:∀l e,μ l=some e->l<n):∀j∈fF k.fg,pZ n j:=by
 intro j a;cases d:k.it with
 |false=>
  have⟨y,L,f,g,b⟩:=(h.plain d).row;have⟨o,t⟩:=List.mem_iff_getElem?.1 a;exact(b.2 o j t).low c
 |true=>
  obtain⟨_,⟨I,w,s,_⟩|⟨A,f,g,b⟩|⟨F,E,w,K,z,f,g,b,D⟩⟩:=h.iter d
  ·rw[s]at a;simp[fF,T.cells]at a;rcases a with rfl|rfl<;>constructor
  rotate_left
  ·rw[f]at a;simp[fF,T.cells]at a;rcases a with rfl|rfl|rfl|rfl
   ·exact g.low c
   all_goals constructor
  ·have⟨x,u,i⟩:=List.mem_flatMap.1 a;have⟨v,d⟩:=List.mem_iff_getElem?.1 u;have⟨o,M,G,p,B,C,q,r⟩:=b v x d;rw[p]at i;simp[T.cells]at i;subst i;refine .tuple _ λN m=>?_;simp at m;rcases m with rfl|rfl
   ·exact q.low c
   ·exact r.low c
inductive iM {α β:Type} (R:α->β->Prop):List α->List β->Prop where
 |nil:iM R [] []
 |cons {a:α} {b:β} {l:List α} {m:List β} (h:R a b) (t:iM R l m):iM R (a::l) (b::m)
def iM.imp{g i:Type}{b c:g->i->Prop}{e:List g}{f:List i}(h:iM b e f)(j:∀a d,b a d->c a d):iM c e f:=by
 induction h with
 |nil=>exact .nil
 |cons a _ k=>exact .cons (j _ _ a) k
def iM.length{c d:Type}{e:c->d->Prop}{a:List c}{b:List d}(h:iM e a b):a.length=b.length:=by
 induction h with
 |nil=>rfl
 |cons _ _ f=>grind
theorem iM.append{f g:Type}{a:f->g->Prop}{b c:List f}{d e:List g}(h:iM a b d)(j:iM a c e):iM a (b++c) (d++e):=by
 induction h with
 |nil=>exact j
 |cons i _ k=>exact .cons i k
def iM.get{g a:Type}{b:g->a->Prop}{c:List g}{d:List a}(h:iM b c d){k:Nat}{f:a}(j:d[k]? =some f):∃e,c[k]? =some e/\b e f:=by
 induction h generalizing k with
 |nil=>grind
 |cons i _ l=>grind
def iM.mem{g a:Type}{b:g->a->Prop}{c:List g}{d:List a}(h:iM b c d){f:a}(j:f∈d):∃e∈c,b e f:=by
 have⟨l,i⟩:=List.mem_iff_getElem?.1 j;have⟨e,k,m⟩:=h.get i
 grind
def iM.map{b:Type}{g:b->aa b}{f:b->b->Prop}{a e:List b}(i:∀c∈a,∀d,g c=some d->f c d)(h:fQ g a=some e):iM f a e:=by
 induction a generalizing e with
 |nil=>simp at h;subst h;exact .nil
 |cons c a k=>
  rw[jK]at h;replace h:=dI.1 h;obtain⟨d,j,h⟩:=h;replace h:=dI.1 h;obtain⟨o,ht,h⟩:=h;simp at h;subst h;exact .cons (i c dy d j) (k (λl m=>i l (by grind)) ht)
structure Fz(hp:af Obj)(μ:Mu)(n:Nat)(v v':T):Prop where
 rel:∀c,fI hp μ v c->fI hp (mM n μ) v' c
 scalar:v'.scalar=v.scalar
 cells:iM (λx x'=>(∀c,fI hp μ x c->fI hp (mM n μ) x' c)/\x'.scalar=x.scalar/\kC x') v.cells v'.cells
 closed:kC v'
theorem iM.fF{a:T->T->Prop}{b c:List T}(h:iM (λf g=>iM a f.cells g.cells) b c):iM a (TI.fF b) (TI.fF c):=by
 induction h with
 |nil=>exact .nil
 |cons d _ e=>simpa[TI.fF]using iM.append d e
section
variable {cx:Ctx}{base:Nat}{hp:af Obj}{μ:Mu}{h:H}{n:Nat}
def Fz.same{b:T}(hl:kC b)(a:b.cells=[b]):Fz hp μ n b b:=
 ⟨λc a=>a.cut (hl.low n),rfl,by rw[a];exact .cons ⟨λc a=>a.cut (hl.low n),rfl,hl⟩ .nil,hl⟩
def B9{a:T}(b:∀d∈a.cells,kC d):kC a:=by
 cases a with
 |agg c=>exact .agg c b
 |_=>exact b _ (by simp[T.cells])
def HU{a:List T}(e:∀d∈a,∃b,fI hp μ d b):∃c,gU hp μ a c:=by
 induction a with
 |nil=>exact⟨[],gU.nil⟩
 |cons j a i=>
  have⟨b,f⟩:=e j dy;have⟨c,g⟩:=i λd k=>e d (by grind);exact⟨b::c,gU.cons f g⟩
def Gg{a:T}(d:∀c∈a.cells,∃b,fI hp μ c b)(g:∀c∈a.cells,c.scalar=true):∃b,fI hp μ a b:=by
 cases a with
 |agg f=>
  have⟨e,hl⟩:=HU d;exact⟨.agg e.toArray,fI.x7 (by have hl:gU hp μ f e:=hl;omega) g⟩
 |_=>exact d _ (by simp[T.cells])
def gU.mem{b:List T}{d:List ao}(h:gU hp μ b d){a:T}(f:a∈b):∃c,fI hp μ a c:=by
 have⟨g,e⟩:=List.mem_iff_getElem?.1 f;exact⟨_,h.2 g a e⟩
def GW(s:St cx base hp μ h):∀(D:Nat) (d c:T),(∃o,fI hp μ d o)->freeze h n D d=some c->Fz hp μ n d c:=by
 intro D;induction D with
 |zero=>intro d c _ b;simp[freeze]at b
 |succ D bB=>
  intro d c W b;cases d with
  |undef=>exact absurd b (by show¬(none=some c);simp)
  |ptr=>exact absurd b (by show¬(none=some c);simp)
  |jD=>exact absurd b (by show¬(none=some c);simp)
  |func=>exact absurd b (by show¬(none=some c);simp)
  |iface=>exact absurd b (by show¬(none=some c);simp)
  |iter=>exact absurd b (by show¬(none=some c);simp)
  |map=>exact absurd b (by show¬(none=some c);simp)
  |nZ=>exact absurd b (by show¬(none=some c);simp)
  |tuple=>exact absurd b (by show¬(none=some c);simp)
  |bool l=>have b:some (T.bool l)=some c:=b;simp only[au]at b;subst b;exact Fz.same (.bool l) rfl
  |int x m=>have b:some (T.int x m)=some c:=b;simp only[au]at b;subst b;exact Fz.same (.int x m) rfl
  |str l=>have b:some (T.str l)=some c:=b;simp only[au]at b;subst b;exact Fz.same (.str l) rfl
  |kH=>have b:some (T.kH)=some c:=b;simp only[au]at b;subst b;exact Fz.same .kH rfl
  |gX=>have b:some (T.gX)=some c:=b;simp only[au]at b;subst b;exact Fz.same .gX rfl
  |kS=>have b:some (T.kS)=some c:=b;simp only[au]at b;subst b;exact Fz.same .kS rfl
  |kR=>have b:some (T.kR)=some c:=b;simp only[au]at b;subst b;exact Fz.same .kR rfl
  |dK r A=>
   have b:some (T.dK r A)=some c:=b;simp only[au]at b;subst b;obtain⟨o,q⟩:=W;refine Fz.same ?_ rfl;cases q with
   |nV=>exact .dK _ _ λd g=>by simp at g
   |dK e r A er off et eh arr t fz eB b hl a7 eD eC q hr=>
    exact .dK _ _ λd g=>B9 λi f=>(q i (List.mem_flatMap.2 ⟨d,g,f⟩)).2
  |agg P=>
   have b:(dV (fQ (freeze h n D) P) λz=>some (T.agg z))=some c:=b;replace b:=dI.1 b;obtain⟨z,hr,b⟩:=b;simp only[au]at b;subst b;obtain⟨o,q⟩:=W;obtain⟨b7,rfl,K,ds⟩:=q.qg;have p:iM (Fz hp μ n) P z:=iM.map (λi f B ae=>bB i B (K.mem f) ae) hr;have V:∀d∈z,kC d:=λd g=>by obtain⟨i,_,f⟩:=p.mem g;exact f.closed
   have dv:∀d∈z,d.scalar=true:=λd g=>by obtain⟨i,di,f⟩:=p.mem g;rw[f.scalar];exact ds i di
   refine⟨λo q=>?_,rfl,?_,.agg z V⟩
   ·obtain⟨b7,rfl,K,_⟩:=q.qg;refine fI.x7 ⟨by rw[<-p.length];exact K.1,λx d bn=>?_⟩ dv;obtain⟨i,f,a7⟩:=p.get bn;exact a7.rel _ (K.2 x i f)
   ·show iM _ P z;exact p.imp λa l G=>⟨G.rel,G.scalar,G.closed⟩
  |arr l Q v u A=>
   have b:gJ (Nat.ble n l) (dV (h.get l) λi=> @iY.rec (λ_=>aa T) (λ_ R _ exact an k=>
    gJ (Nat.beq R Q) (@Bool.rec (λ_=>aa T) (dV (dV (j4 v k) λz=>takeN u z) λr=>dV (fQ (freeze h n D) r) λE=>
     @List.rec T (λ_=>aa T) (@List.rec T (λ_=>aa T) (@Bool.rec (λ_=>aa T) (some .gX) (some (.dK [] false)) exact) (λ_ _ _=>some .gX) k) (λ_ _ _=>some (.dK E A)) E) none an)) i)=some c:=b
   obtain⟨bu,b⟩:=dQ.1 b;have bu:n<=l:=bh bu;replace b:=dI.1 b;obtain⟨bT,cp,b⟩:=b;obtain⟨eh,R,eF,S,an,k⟩:=bT;simp only at b;obtain⟨aX,b⟩:=dQ.1 b;have aX:R=Q:=aG aX;cases an with
   |true=>simp at b
   |false=>
    replace b:=dI.1 b;obtain⟨r,w,b⟩:=b;replace b:=dI.1 b;obtain⟨E,c1,L⟩:=b;obtain⟨dd,w⟩:v+u<=k.length/\r=(k.drop v).take u:=by
     replace w:=dI.1 w;obtain⟨r0,C,p⟩:=w;rw[mh]at C;split at C
     ·simp only[au]at C;subst C;rw[nY]at p;split at p
      ·simp only[au]at p;rename_i de c9;simp only[List.length_drop]at c9;exact⟨J,p.symm⟩
      ·simp at p
     ·simp at C
    have ap:∀o,fI hp μ (.arr l Q v u A) o->fI hp (mM n μ) c o/\kC c/\c.cells=[c]/\c.scalar=true:=by
     intro o q;obtain⟨j,eo,av,rfl,U,aN,hl,dn⟩:=q.tH;obtain⟨eH,F,M⟩:=s.box l j U;rw[cp]at F;simp only[au]at F;subst F;have b8:=M.ep;simp only at b8;obtain⟨bi,dk,b9⟩:=dn J;have y:=M.plain rfl;simp only at y;obtain⟨arr,t,C,p,aA⟩:=y.row;have a6:∀d∈r,d.cells.length=j.sz:=λd g=>y.size d (bG (bF (w▸g)));have dm:∀d∈fF k,∃o,fI hp μ d o:=λd g=>aA.mem g;have bs:∀d∈r,d∈k:=λd g=>bG (bF (w▸g));have I:iM (Fz hp μ n) r E:=iM.map (λi f B ae=>bB i B (Gg (λO al=>dm O (List.mem_flatMap.2 ⟨i,bs i f,al⟩)) λO al=>y.scalar O (List.mem_flatMap.2 ⟨i,bs i f,al⟩)) ae) c1;have Y:E.length=u:=by rw[<-I.length,w];simp;omega
     have cL:S=true->j.cap=k.length:=y.tZ;cases E with
     |nil=>
      have c7:u=0:=by simpa using Y.symm
      subst c7;have aN:c= .gX\/(k=[]/\S=true/\c= .dK [] false):=by
       cases k with
       |cons O eI=>have b:some T.gX=some c:=L;simp only[au]at b;exact .inl b.symm
       |nil=>
        cases S with
        |false=>have b:some T.gX=some c:=L;simp only[au]at b;exact .inl b.symm
        |true=>have b:some (T.dK [] false)=some c:=L;simp only[au]at b;exact .inr ⟨rfl,rfl,b.symm⟩
      rcases aN with rfl|⟨rfl,rfl,rfl⟩
      ·exact⟨.gX _ _,.gX,rfl,rfl⟩
      ·have aE:j.cap=0:=by simpa using cL rfl
       have:av=0:=by
        cases A with
        |false=>have:=dk rfl;omega
        |true=>exact bi rfl
       subst this;exact⟨.nV _ _,.dK _ _ λd g=>by simp at g,rfl,rfl⟩
     |cons B N=>
      have b:some (T.dK (B::N) A)=some c:=L;simp only[au]at b;subst b;simp only[aU]at Y;have V:∀d∈B::N,kC d:=λd g=>by obtain⟨i,_,f⟩:=I.mem g;exact f.closed
      refine⟨?_,.dK _ _ V,rfl,rfl⟩;rw[b9 J,<-Y];have X:=iM.fF (I.imp λa l G=>G.cells);have c6:(fF (B::N)).length=u*j.sz:=by rw[<-X.length,iu a6,w];congr 1;simp;omega
      have a8:fF r=((fF k).drop (v*j.sz)).take (u*j.sz):=by rw[w];exact Eb y.size v u
      have c4:(fF k).length=k.length*j.sz:=iu y.size;have eu:v*j.sz+u*j.sz<=k.length*j.sz:=by rw[<-bX];exact aW _ dd
      have ey:k.length*j.sz<=j.cap*j.sz:=aW _ y.room;refine .dK B N A j.jc (v*j.sz) av j.sz arr t (0,0) ?_ C J (λx=>by rw[bi x];omega) ?_ ?_ ?_ ?_
      ·rintro(⟨bS,bN,ca,cb⟩|hr)
       ·obtain⟨eE,ef⟩:=kl ca;have:=s.inj bS l bN j ef U cb;omega
       ·exact s.apart l j U hr
      ·intro d g;obtain⟨i,f,eb⟩:=I.mem g;rw[<-eb.cells.length];exact a6 i f
      ·rw[c6,p];omega
      ·intro d g;obtain⟨i,f,F,M,ea⟩:=X.mem g;refine⟨?_,ea⟩;rw[M];rw[a8]at f;exact y.scalar i (bG (bF f))
      ·intro x d g;obtain⟨i,f,F,_⟩:=X.get g;refine F _ ?_;rw[a8,cu]at f;split at f
       ·rename_i bn;rw[bL]at f;have:=aA.2 _ i f;have de:v*j.sz+x<(fF k).length:=by rw[c4];omega
        have eA:v*j.sz+x<arr.size:=by rw[p];omega
        simp_all
       grind
    obtain⟨b6,aE⟩:=W;obtain⟨_,bC,ec,bH⟩:=ap b6 aE;exact⟨λo q=>(ap o q).1,by rw[bH];rfl,by rw[ec];exact .cons ⟨λo q=>(ap o q).1,by rw[bH];rfl,bC⟩ .nil,bC⟩
end
end
section
section
variable {cx:Ctx}{base:Nat}{hp:af Obj}{μ:Mu}{h:H}{n:Nat}
def uG(t:St cx base hp μ h){e c:T}(q:∃d,fI hp μ e d)(a:iP h n e=some c):
 (∀d,fI hp μ e d->fI hp (mM n μ) c d)/\c.scalar=e.scalar:=by
 have s:freeze h n 12 e=some c->(∀d,fI hp μ e d->fI hp (mM n μ) c d)/\c.scalar=e.scalar:=λr=>
  let m:=GW t 12 e c q r
  ⟨m.rel,m.scalar⟩
 cases e with
 |undef=>
  have a:some T.undef=some c:=a;simp only[au]at a;subst a;exact⟨λd g=>g.cut .undef,rfl⟩
 |ptr b i o p=>
  have a: @Bool.rec (λ_=>aa T) (some (.ptr b i o p)) none (Nat.ble n b)=some c:=a;cases f:Nat.ble n b with
  |true=>rw[f]at a;grind
  |false=>
   rw[f]at a;have a:some (T.ptr b i o p)=some c:=a;simp only[au]at a;subst a;have:b<n:=by
    grind [aR,bR]
   exact⟨λd g=>g.cut (.ptr _ _ _ _ this),rfl⟩
 |map b=>
  have a: @Bool.rec (λ_=>aa T) (some (.map b)) none (Nat.ble n b)=some c:=a;cases f:Nat.ble n b with
  |true=>rw[f]at a;grind
  |false=>
   rw[f]at a;have a:some (T.map b)=some c:=a;simp only[au]at a;subst a;have:b<n:=by
    grind [aR,bR]
   exact⟨λd g=>g.cut (.map _ this),rfl⟩
 |arr b i l k j=>
  have a: @Bool.rec (λ_=>aa T) (some (.arr b i l k j)) (freeze h n 12 (.arr b i l k j)) (Nat.ble n b)=some c:=a;cases f:Nat.ble n b with
  |true=>rw[f]at a;grind
  |false=>
   rw[f]at a;have a:some (T.arr b i l k j)=some c:=a;simp only[au]at a;subst a;have:b<n:=by
    grind [aR,bR]
   exact⟨λd g=>g.cut (.arr _ _ _ _ _ this),rfl⟩
 |_=>exact s a
theorem EX(s:St cx base hp μ h){d c:List T}{k:List ao}(f:gU hp μ d k)(p:fQ (iP h n) d=some c):
 gU hp (mM n μ) c k/\∀b∈c,∃i∈d,b.scalar=i.scalar:=by
 have e:iM (λg o=>(∀j,fI hp μ g j->fI hp (mM n μ) o j)/\o.scalar=g.scalar) d c:=iM.map (λb a i m=>uG s (f.mem a) m) p;refine⟨⟨by rw[<-e.length];exact f.1,λr g q=>?_⟩,λb a=>?_⟩
 ·have⟨b,a,l⟩:=e.get q;exact l.1 _ (f.2 r b a)
 ·have⟨i,m,l⟩:=e.mem a
  grind
def qW(i:St cx base hp μ h){d e:T}{b:ao}(c:fI hp μ d b)(a:ky h n d=some e):fI hp (mM n μ) e b:=by
 cases d with
 |agg g=>
  have a:(dV (fQ (iP h n) g) λf=>some (T.agg f))=some e:=a;replace a:=dI.1 a;obtain⟨f,hr,a⟩:=a;simp only[au]at a;subst a;obtain⟨j,rfl,k,l⟩:=c.qg
  grind [EX,fI.x7]
 |_=>exact(uG i ⟨b,c⟩ a).1 b c
def vw(k:St cx base hp μ h){c d:T}{b:ao}(e:fI hp μ c b)(a:jn h n c=some d):fI hp (mM n μ) d b:=by
 cases c with
 |tuple l=>
  have a:(dV (fQ (ky h n) l) λf=>some (T.tuple f))=some d:=a;replace a:=dI.1 a;obtain⟨f,hr,a⟩:=a;simp only[au]at a;subst a;obtain⟨o,rfl,i⟩:=e.AI;have g:iM (λc d=>∀b,fI hp μ c b->fI hp (mM n μ) d b) l f:=iM.map (λm j t r b e=>qW k e r) hr;refine .tuple f o (by rw[<-g.length];simpa using i.1.symm) λs c q=>?_;have⟨m,j,p⟩:=g.get q;have:=p _ (i.2 s m j);simp_all
 |_=>exact qW k e a
theorem lM{b:T}{i:ao}(g:fI hp μ b i)(a:kz n b=true):pZ n b:=by
 cases b with
 |ptr c j m o=>exact .ptr _ _ _ _ (by have a:Nat.blt c n=true:=a;rwa[aJ]at a)
 |arr c j q p k=>exact .arr _ _ _ _ _ (by have a:Nat.blt c n=true:=a;rwa[aJ]at a)
 |map c=>exact .map _ (by have a:Nat.blt c n=true:=a;rwa[aJ]at a)
 |jD l=>
  have⟨_,_,_,_,_,_,_,_,_,d,_⟩:=g.mf;exact .jD _ λb e=>(d b e).2.low n
 |dK f k=>
  refine .dK _ _ λb e=>?_;cases f with
  |nil=>grind [fF]
  |cons r f=>have⟨_,_,_,_,_,_,_,_,_,_,_,_,_,_,d,_⟩:=g.uB;exact(d b e).2.low n
 |undef=>grind [kz]
 |func=>grind [kz]
 |iface=>grind [kz]
 |iter=>grind [kz]
 |agg=>grind [kz]
 |tuple=>grind [kz]
 |_=>constructor
def N7{i:T}(g:below n i=true)(b:∀c∈i.cells,∃d,fI hp μ c d):∀c∈i.cells,pZ n c:=by
 cases i with
 |agg e=>
  intro c a;have⟨d,b⟩:=b c a;exact lM b (qK (show xG (kz n) e=true from g) c a)
 |func p e=>
  intro c a;have⟨d,b⟩:=b c a;simp[T.cells]at a;subst a;obtain⟨m,rfl,j⟩:=b.sw;exact .func _ _ λl f=>by have⟨o,k⟩:=j.mem f;exact lM k (qK (show xG (kz n) e=true from g) l f)
 |tuple e=>
  intro c a;have⟨d,b⟩:=b c a;simp[T.cells]at a;subst a;obtain⟨m,rfl,j⟩:=b.AI;exact .tuple _ λl f=>by have⟨o,k⟩:=j.mem f;exact lM k (qK (show xG (kz n) e=true from g) l f)
 |_=>
  intro c a;have⟨d,b⟩:=b c a;simp[T.cells]at a;subst a;exact lM b g
def Ev{a:Nat}{c:List iY}(b:sL n a c=true):∀d e,d<a->c[d]? =some e->∀j∈e.fg,below n j=true:=by
 induction a generalizing c with
 |zero=>omega
 |succ a m=>
  intro d e k l;cases c with
  |nil=>grind
  |cons g i=>
   have b: @Bool.rec (λ_=>Bool) false (sL n a i) (xG (below n) g.fg)=true:=b;cases f:xG (below n) g.fg with
   |false=>rw[f]at b;grind
   |true=>
    rw[f]at b
    grind [qK]
def St.cut(c:St cx base hp μ h)(y:n<=h.size){low:Nat}(hl:∀a b e,a<n->μ a=some b->h.get a=some e->∀f∈fF e.fg,pZ n f):
 St cx base hp (mM n μ) ⟨n,low,h.fH.drop (h.size-n)⟩:=by
 have t:∀a,a<n->(⟨n,low,h.fH.drop (h.size-n)⟩:H).get a=h.get a:=by
  intro a d;rw[H.get_eq,H.get_eq];have g:a<h.size:=J
  grind
 refine⟨?_,c.fit,?_,?_,?_,λa b d=>c.apart a b (kl d).2,c.rm,?_⟩
 ·simp only[List.length_drop,c.wf];omega
 ·intro a b d;have⟨j,k⟩:=kl d;have⟨e,i,u⟩:=c.box a b k;exact⟨e,by rw[t a j];exact i,u.cut (hl a b e j k i)⟩
 ·intro a m b l g q r;exact c.inj a m b l (kl g).2 (kl q).2 r
 ·intro a b d;exact c.low a b (kl d).2
 ·intro p o s;have:=c.zI p o s;refine this.cut ?_;have⟨_,_,_,_,_,_,_,_,_,v,_⟩:=this.mf;exact .jD _ λf x=>(v f x).2.low n
def St.Ls(a:St cx base hp μ h)(e:Nat):St cx base hp μ ⟨h.size,e,h.fH⟩:=by
 refine⟨a.wf,a.fit,λc b d=>?_,a.inj,a.low,a.apart,a.rm,a.zI⟩;have⟨i,g,f⟩:=a.box c b d
 grind [H.get_eq]
def Left(cx:Ctx)(base:Nat)(w w':World)(μ:Mu)(d:H)(e:T)(b:H)(c:ao):Prop:=
 ∃a,fI w'.heap a e c/\St cx base w'.heap a b/\p7 w μ w' a/\yJ μ a d.size b.size
theorem H.rR(h:H)(b a:Nat):(⟨h.size,b,h.fH⟩:H).get a=h.get a:=by rw[H.get_eq,H.get_eq]
def DY{n low0 low:Nat}{b:List iY}(c:lr ⟨n,n,b⟩ h)(hl:low<=low0)(g:∀a,a<n->a<low->a<h.low):lr ⟨n,low0,b⟩ ⟨h.size,low,h.fH⟩:=by
 have d:∀a,(⟨n,low0,b⟩:H).get a=(⟨n,n,b⟩:H).get a:=λa=>by rw[H.get_eq,H.get_eq]
 refine⟨c.wf,c.size,hl,λa e i=>?_,λa j f=>?_⟩
 ·rw[H.rR,d];exact c.kT a e (g a e i)
 ·rw[d]at f;have⟨m,k,l⟩:=c.ver a j f
  grind [H.rR]
def GA{low0:Nat}{d f:T}{e:H}(a:nJ low0 d h=some (f,e)):f=d/\e=⟨h.size,if h.low<low0 then h.low else low0,h.fH⟩:=by
 obtain⟨i,b,g⟩:=h;have a: @Bool.rec (λ_=>aa (T×H)) (some (d,⟨i,low0,g⟩)) (some (d,⟨i,b,g⟩)) (Nat.blt b low0)=some (f,e):=a;cases c:Nat.blt b low0 with
 |true=>
  rw[c]at a;simp only[au,aD]at a;have:b<low0:=by rwa[aJ]at c
  grind
 |false=>
  rw[c]at a;simp only[au,aD]at a;have:¬b<low0:=λj=>by rw[<-aJ,c]at j;grind
  grind
variable {w w':World}{μ0:Mu}{low0:Nat}{sM:List iY}
def yt{c d:T}{b:ao}{a:H}(k:St cx base w'.heap μ h)(f:lr ⟨n,n,sM⟩ h)(l:p7 w μ0 w' μ)(e:yJ μ0 μ n h.size)(i:fI w'.heap μ c b)
 (j:nJ low0 c h=some (d,a)):Left cx base w w' μ0 ⟨n,low0,sM⟩ d a b/\lr ⟨n,low0,sM⟩ a:=by
 obtain⟨rfl,rfl⟩:=GA j;exact⟨⟨μ,i,k.Ls _,l,e⟩,DY f (by split<;>omega) (λm _ g=>by split at g<;>omega)⟩
def IA{a6:Bool}{x y:T}{Q:ao}{B:H}(a7:St cx base w.heap μ0 ⟨n,low0,sM⟩)(D:St cx base w'.heap μ h)(A:lr ⟨n,n,sM⟩ h)(g:p7 w μ0 w' μ)(F:yJ μ0 μ n h.size)
 (M:fI w'.heap μ x Q) (b:DF a6 n low0 x h=some (y,B)):Left cx base w w' μ0 ⟨n,low0,sM⟩ y B Q/\lr ⟨n,low0,sM⟩ B:=by
 cases a6 with
 |true=>exact yt D A g F M b
 |false=>
  have b: @Option.rec T (λ_=>aa (T×H)) (nJ low0 x h) (λy=>uy n low0 x y h) (jn h n x)=some (y,B):=b;cases W:jn h n x with
  |none=>rw[W]at b;exact yt D A g F M b
  |some I=>
   rw[W]at b;have cL:=vw D M W;have Y:n<=h.size:=A.size;have aA:∀a c,μ0 a=some c->a<n:=λa c d=>a7.fh d;have bn:∀s,s<=low0->(∀a,a<n->a<s->a<h.low)->(∀a c e,a<n->μ a=some c->h.get a=some e->∀z∈fF e.fg,pZ n z)->
    Left cx base w w' μ0 ⟨n,low0,sM⟩ I ⟨n,s,h.fH.drop (h.size-n)⟩ Q/\lr ⟨n,low0,sM⟩ ⟨n,s,h.fH.drop (h.size-n)⟩:=by
    intro s X ca hl;have av:=St.cut (low:=s) D Y hl;refine⟨⟨mM n μ,cL,av,⟨⟨g.ext.size,λi N cb=>?_,λa c d=>?_,g.ext.py,g.ext.kept⟩,g.os,g.tape,g.output⟩,aw _,λa d=>?_,λa c4 aX=>absurd c4 (by show¬n<=a;have aX:a<n:=aX;omega)⟩,?_⟩
    ·have⟨bu,bB⟩:=g.ext.nU i N cb;exact⟨bu,xn bB⟩
    ·rw[uH (aA a c d)];exact g.ext.mu a c d
    ·left;have⟨c,C⟩:=Option.ne_none_iff_exists'.1 d;have⟨eo,c9⟩:=kl C;rcases F.2.1 a (by rw[c9];simp)with k|k
     ·exact k
     ·omega
    ·have S:=DY (low:=s) A X ca;have aE:∀a,a<n->(⟨n,s,h.fH.drop (h.size-n)⟩:H).get a=h.get a:=by
      intro a d;rw[H.get_eq,H.get_eq];have L:a<h.size:=J;simp only[d,L,bA,bL];congr 1;omega
     refine⟨av.wf,aw _,S.low,λa d b9=>?_,λa P r=>?_⟩
     ·rw[aE a d];have:=S.kT a d b9;rwa[H.rR]at this
     ·rw[aE a (H.fh r)];have:=S.ver a P r;simpa only[H.rR]using this
   have a8:∀a c e,a<n->a<h.low->μ a=some c->h.get a=some e->∀z∈fF e.fg,pZ n z:=by
    intro a c e d X C v;have aN:=A.kT a d X;rw[v]at aN;rcases F.2.1 a (by rw[C];simp)with k|k
    ·have⟨bi,bH⟩:=Option.ne_none_iff_exists'.1 k;have⟨ey,al,O⟩:=a7.box a bi bH;have bs:(⟨n,low0,sM⟩:H).get a=(⟨n,n,sM⟩:H).get a:=by rw[H.get_eq,H.get_eq]
     rw[bs,<-aN]at al;simp only[au]at al;subst al;exact O.low aA
    ·omega
   obtain⟨E,low,K⟩:=h;have b:(dV (j4 (Nat.sub E n) K) λq=>
    @Bool.rec (λ_=>aa (T×H))
     (@Bool.rec (λ_=>aa (T×H)) (nJ low0 x ⟨E,low,K⟩)
       (@Bool.rec (λ_=>aa (T×H)) (some (I,⟨n,low0,q⟩)) (some (I,⟨n,low,q⟩)) (Nat.blt low low0)) (sL n (Nat.sub n low) q))
     (some (I,⟨n,low0,q⟩)) (Nat.ble n low))=some (y,B):=b
   replace b:=dI.1 b;obtain⟨q,o,b⟩:=b;rw[mh]at o;have o:q=K.drop (E-n):=by
    split at o
    ·simp only[au]at o;exact o.symm
    ·simp at o
   have ea:low0<=n\/n<low0:=J;cases G:Nat.ble n low with
   |true=>
    rw[G]at b;simp only[au,aD]at b;obtain⟨rfl,rfl⟩:=b;have cp:n<=low:=bh G;rw[o];exact bn _ (aw _) (λa d _=>by show a<low;omega) λa c e d=>a8 a c e d (by show a<low;omega)
   |false=>
    rw[G]at b;have cp:low<n:=by
     rcases aR low n with k|k
     ·exact k
     ·rw[bR k]at G;simp at G
    cases U:sL n (Nat.sub n low) q with
    |false=>rw[U]at b;exact yt D A g F M b
    |true=>
     rw[U]at b;have dd:∀a c e,a<n->μ a=some c->(⟨E,low,K⟩:H).get a=some e->∀z∈fF e.fg,pZ n z:=by
      intro a c e d C v;by_cases bN:a<low
      ·exact a8 a c e d bN C v
      ·have⟨eu,ae,O⟩:=D.box a c C;rw[v]at ae;simp only[au]at ae;subst ae;have b7:q[n-1-a]? =some e:=by
        rw[H.get_eq]at v;have Y:n<=E:=Y;have bS:a<E:=J;simp only[bS,bA]at v;rw[o,bL,<-v];congr 1;omega
       have V:=Ev U (n-1-a) e (by show _<n-low;omega) b7;intro z c1;have⟨R,f,p⟩:=List.mem_flatMap.1 c1;cases N:e.it with
       |true=>
        obtain⟨_,⟨et,c7,b6,_⟩|⟨dk,eb,ec,c6⟩|⟨ef,m,c7,er,di,L,an,ap,dv⟩⟩:=O.iter N
        ·rw[b6]at f;simp at f;rcases f with rfl|rfl<;>(simp[T.cells]at p;subst p;constructor)
        rotate_left
        ·have l:=V _ f;rw[L]at f;simp at f;rcases f with rfl|rfl|rfl|rfl
         ·simp[T.cells]at p;subst p;exact lM an l
         all_goals (simp[T.cells]at p;subst p;constructor)
        ·have⟨j,b8⟩:=List.mem_iff_getElem?.1 f;obtain⟨k,u,eh,rfl,dm,dn,bC,ds⟩:=c6 j R b8;have l:=V _ f;have l:xG (kz n) [k,u]=true:=l;simp[T.cells]at p;subst p;refine .tuple _ λP r=>?_;have bT:=qK l P r;simp at r;rcases r with rfl|rfl
         ·exact lM bC bT
         grind [lM]
       |false=>
        have⟨de,t,L,an,ap⟩:=(O.plain N).row;exact N7 (V R f) (λP r=>ap.mem (List.mem_flatMap.2 ⟨R,f,r⟩)) z p
     have:y=I/\B=⟨n,if low<low0 then low else low0,q⟩:=by
      cases l:Nat.blt low low0 with
      |true=>
       rw[l]at b;simp only[au,aD]at b;have:low<low0:=by rwa[aJ]at l
       grind
      |false=>
       rw[l]at b;simp only[au,aD]at b;have:¬low<low0:=λk=>by rw[<-aJ,l]at k;grind
       grind
     obtain⟨rfl,rfl⟩:=this;rw[o]
     grind
