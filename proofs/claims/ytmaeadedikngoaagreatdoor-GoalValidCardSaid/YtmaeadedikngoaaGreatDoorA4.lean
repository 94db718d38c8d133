/- Texts TiMap to TiLeave. -/
import Derived.Test.YtmaeadedikngoaaGreatDoorA3
import Derived.MapKept
import Derived.Laws.IdiomStrings
import Derived.WideKeyRuns
import Derived.Maps.RangeRun
set_option linter.unusedVariables false
set_option linter.unusedSimpArgs false
set_option linter.defProp false
namespace Go.TI
noncomputable section
open Go.MapKept
section
variable {P:ai}{cx:Ctx}{base:Nat}{w:World}{μ:Mu}{h h':H}{mask:Nat}{e:Env}{a:Act}{o:Oper}{hp hp':af Obj}{p:T}
def pB{j:Type}{c:j->Bool}{d:List j}(b:we c d=true):∀f∈d,c f=true:=by
 induction d with
 |nil=>intro f hx;simp at hx
 |cons i d k=>
  have b: @Bool.rec (λ_=>Bool) false (we c d) (c i)=true:=b;cases g:c i with
  |false=>rw[g]at b;simp at b
  |true=>
   rw[g]at b;intro f hx;rcases List.mem_cons.1 hx with rfl|hx
   ·exact g
   ·exact k b f hx
def Ed{g:T}{b:Nat}(c:byteOf g=some b):g= .int .u8 (.ofNat b)/\b<256:=by
 cases g with
 |int m l=>
  have c:fP (CD m .u8) (@Int.rec (λ_=>aa Nat) (λb=>fP (Nat.blt b 256) (some b)) (λ_=>none) l)=some b:=c;obtain⟨i,d⟩:=dI.1 c;rw[xc]at i;subst i;cases l with
  |ofNat f=>
   have d:fP (Nat.blt f 256) (some f)=some b:=d;obtain⟨j,k⟩:=dI.1 d;rw[aG]at j;simp only[ar]at k;subst k;exact⟨rfl,j⟩
  |negSucc f=>simp at d
 |_=>simp[byteOf]at c
def HS(iH:iM P cx){n j:ab}{A:ah}(x:St cx base w.heap μ h)(r:j1 w.heap μ mask e a.tmps)(al:o.op= .convert n j A)(J:P.underlying j=some .string){v:T}
 (hp:fy cx mask e A=some p) (b:FP cx h n p=some v) (Y:h'=h):iV cx base w μ h.size ((execOp a.eval o).run P w) v h':=by
 subst Y;replace b:=dA.1 b;obtain⟨bi,av,b⟩:=b;obtain⟨d,G,M⟩:=kr (iH.ty _ _ av);cases aN:bi.u<;>rw[aN]at b M<;>simp only[reduceCtorEq]at b;rename_i C;have:=lP M;subst this;replace b:=dA.1 b;obtain⟨a8,ap,b⟩:=b;obtain⟨bn,I,N⟩:=kr (iH.ty _ _ ap);cases aX:a8.u<;>rw[aX]at b N<;>simp only[reduceCtorEq]at b;rename_i k;replace b:=dI.1 b;obtain⟨K,b⟩:=b;rw[xc]at K;subst K;have:=xy N;subst this;replace b:=dA.1 b;obtain⟨l,X,b⟩:=b;replace b:=dA.1 b;obtain⟨f,S,b⟩:=b;replace b:=dI.1 b;obtain⟨_,b⟩:=b;simp only[ar]at b;subst b;obtain⟨bz,a6⟩:=nI (P:=P) x (fT x r hp) X;obtain⟨bk,B,a7,O,bs,D,bu,U⟩:=a6.form;obtain⟨t,F⟩:=qP.1 S;have W:l=f.map λi=>T.int .u8 (.ofNat i):=by
  apply cS;intro c;rw[aQ];cases g:l[c]? with
  |none=>
   have:f[c]? =none:=by
    rw[List.getElem?_eq_none_iff]at g|-;omega
   rw[this];rfl
  |some z=>
   obtain⟨i,m,s⟩:=F c z g;rw[m,(Ed s).1];rfl
 have E:∀i∈f,i<256:=by
  intro i m;obtain⟨c,g⟩:=List.mem_iff_getElem?.1 m;have Z:c<l.length:=by
   rw[t];rcases aD c f.length with y|y
   ·exact y
   ·rw[aK y]at g;simp at g
  obtain⟨bl,q,s⟩:=F c l[c] (by simp[Z]);rw[g]at q;simp only[ar]at q;subst q;exact(Ed s).2
 have an:fa w.heap μ (.str f) (.string (bytesOf f)):= .str f E;rw[W,qz]at D;have ae:∀(c:Nat) i,f[c]? =some i->a7[c]? =some (.int .u8 (i:Int)):=by
  intro c i g;obtain⟨u,aA,aE⟩:=D.get (k:=c) (v:= .int .u8 (.ofNat i)) (by simp[g]);rw[aA,aE.jD];rfl
 have V:(convert n j (a.eval A)).run P w= .ok (.string (bytesOf f)) w:=by
  rw[O];rcases U with⟨rfl,L⟩|⟨y,rfl,m⟩
  ·have Q:f=[]:=by
    have:=t;rw[L]at this;simp at this;exact aY this.symm
   subst Q;rw[L];rw[run_convert_bytes_string w n j C none _ B G I J];simp[Conv.bytesToString];rfl
  ·have hl:l.length=(f.map UInt8.ofNat).length:=by simp[t]
   rw[hl];have:=run_convert_bytes_back (P:=P) w n j C y B (f.map UInt8.ofNat) G I J (by
    intro c g;simp only[aH]at g;have R:f[c]? =some f[c]:=by simp[g]
    rw[m c _ (ae c _ R)];simp only[List.getElem_map];rw[jm (E _ (aF g))])
   rw[this];rfl
 exact iV.pure x (by simp only[execOp,al,Sem.run_bind,V,Result.andThen_ok,Sem.run_pure]) an
end
end
noncomputable section
open Go.MapKept
section
variable {P:ai}{cx:Ctx}{base:Nat}{w:World}{μ:Mu}{h h':H}{mask:Nat}{e:Env}{a:Act}{o:Oper}{hp hp':af Obj}{p:T}
def GV{x:ah}{b:Bool}(j:St cx base w.heap μ h)(i:j1 w.heap μ mask e a.tmps)(g:o.op= .next x b){d:T}
 (f:GW x b cx mask e h=some (.val d h')):iV cx base w μ h.size ((execOp a.eval o).run P w) d h':=by
 cases b with
 |true=>exact EQ j i g f
 |false=>exact absurd f (by intro c;have c:(none:aa kW)=some (.val d h'):=c;simp at c)
end
end
noncomputable section
def yv(P:ai)(c:am->World->Prop):Result Next->Prop
 | .ok (.value d) b=>c d b
 | .ok .skip b=>c Go.undef b
 | .ok (.enter g f) b=>Calls P g f b λ
  | .returned d,i=>c d i
  |_,_=>False
 |_=>False
def yv.mono{P:ai}{c d:am->World->Prop}{b:Result Next}(h:yv P c b)(g:∀i w,c i w->d i w):yv P d b:=by
 cases b with
 |halt l w=>exact h
 |ok j w=>
  cases j<;>simp only[yv]at h|- <;>first|exact h|exact g _ _ h|skip
  exact Calls.mono h λe k f=>by cases e<;>first|exact g _ _ f|exact f
def yv.wp{P:ai}{o:Oper}{a:Act}{w:World}{c:am->World->Prop}{next:Act->World->Prop}{Q:Exit->Act->World->Prop}
 (h:yv P c ((execOp a.eval o).run P w)) (f:∀g b,c g b->next (a.put o.dst g) b):o.wp P a w next Q:=by
 unfold Oper.wp;generalize(execOp a.eval o).run P w=j at h;cases j with
 |halt k w=>exact h.elim
 |ok i w=>
  cases i<;>simp only[yv]at h<;>simp only[Oper.upon]<;>first|exact h.elim|exact f _ _ h|skip
  exact Calls.mono h λe b d=>by cases e<;>first|exact f _ _ d|exact d.elim
def yv.some{P:ai}{b:am->World->Prop}{d:Result Next}(h:yv P b d):∃g w,b g w:=by
 cases d with
 |halt k w=>exact h.elim
 |ok f w=>
  cases f<;>simp only[yv]at h<;>first|exact h.elim|exact⟨_,_,h⟩|skip
  obtain⟨e,j,i,c,_⟩:=h [];cases e<;>first|exact⟨_,_,c⟩|exact c.elim
section
variable {P:ai}{cx:Ctx}{base:Nat}{w:World}{μ:Mu}{h h':H}{mask:Nat}{e:Env}{a:Act}{o:Oper}
def TD(cx:Ctx)(base:Nat)(w:World)(μ:Mu)(f:Nat)(g:T)(h':H)(d:am)(c:World):Prop:=
 ∃b,fa c.heap b g d/\St cx base c.heap b h'/\oP w μ c b/\xu μ b f h'.size
def iV.Yl{i:Result Next}{g:Nat}{j:T}(h:iV cx base w μ g i j h'):yv P (TD cx base w μ g j h') i:=by
 obtain⟨m,n,k,l,b,c,d,f⟩:=h;rcases l with rfl|⟨rfl,rfl⟩
 ·exact⟨k,b,c,d,f⟩
 ·exact⟨k,b,c,d,f⟩
def LC(iH:iM P cx)(l:St cx base w.heap μ h)(k:j1 w.heap μ mask e a.tmps){d:Call}(i:o.op= .call d){f:T}
 (b:BW d cx mask e h=some (.val f h')):iV cx base w μ h.size ((execOp a.eval o).run P w) f h':=by
 replace b:=dA.1 b;obtain⟨m,g,b⟩:=b;cases c:d.callee with
 |builtin n=>rw[c]at b;exact Dm iH l k i c g b
 |invoke t s=>rw[c]at b;simp at b
 |value p=>
  rw[c]at b;simp only at b;replace b:=dA.1 b;obtain⟨j,q,b⟩:=b;cases j<;>simp only[reduceCtorEq]at b;replace b:=dA.1 b;obtain⟨r,hl,b⟩:=b;simp at b
def ux{j:Builtin}{s:List ab}{l:List T}{f:aj}{i:List T}(b:kN j cx h s l=some (.call f i)):False:=by
 have c:∀{d:aa T},val h d=some (.call f i)->False:=λg=>zw g;have p:∀{d:aa (T×H)},jl d=some (.call f i)->False:=by
  intro d g;unfold jl at g;cases d<;>simp[two]at g
 cases j<;>simp only[kN,reduceCtorEq]at b
 case len=>
  split at b
  ·replace b:=dA.1 b;obtain⟨r,_,b⟩:=b;replace b:=dA.1 b;obtain⟨t,_,b⟩:=b;split at b
   ·split at b
    ·exact c b
    ·simp at b
   ·split at b<;>first|exact c b|(simp at b)
   ·exact c b
   ·simp at b
  ·simp at b
 case append=>
  split at b
  ·split at b
   ·replace b:=dA.1 b;obtain⟨r,_,b⟩:=b;replace b:=dA.1 b;obtain⟨t,_,b⟩:=b;obtain⟨_,b⟩:=dI.1 b;exact p b
   ·simp at b
  ·simp at b
 case clear=>
  split at b
  ·split at b
   ·replace b:=dA.1 b;obtain⟨z,_,b⟩:=b;split at b
    ·rename_i n _;cases n<;>simp at b
    ·simp at b
    ·rename_i k _;cases k with
     |zero=>
      have b:some (kW.val .undef h)=some (.call f i):=b;simp at b
     |succ k=>
      replace b:=dA.1 b;obtain⟨m,_,b⟩:=b;obtain⟨y,v,A,x,q,u⟩:=m;obtain⟨_,b⟩:=dI.1 b;obtain⟨_,b⟩:=dI.1 b;cases q with
      |true=>simp at b
      |false=>
       replace b:=dA.1 b;obtain⟨_,_,b⟩:=b;replace b:=dA.1 b;obtain⟨_,_,b⟩:=b;replace b:=dA.1 b;obtain⟨_,_,b⟩:=b;simp at b
    ·simp at b
   ·simp at b
  ·simp at b
 case min=>split at b<;>first|exact c b|(simp at b)
 case max=>split at b<;>first|exact c b|(simp at b)
def IK(k:St cx base w.heap μ h)(j:j1 w.heap μ mask e a.tmps){c:Call}(r:o.op= .call c){g:aj}{i:List T}
 (b:BW c cx mask e h=some (.call g i)):∃f:af am,fQ w.heap μ i f.toList/\(execOp a.eval o).run P w=(callFunc g f).run P w:=by
 replace b:=dA.1 b;obtain⟨v,q,b⟩:=b;have n:=uQ k j q;cases d:c.callee with
 |builtin x=>rw[d]at b;exact(ux b).elim
 |invoke D C=>rw[d]at b;simp at b
 |value A=>
  rw[d]at b;simp only at b;replace b:=dA.1 b;obtain⟨u,s,b⟩:=b;have t:=fT k j s;cases u<;>simp only[reduceCtorEq]at b;rename_i z y;replace b:=dA.1 b;obtain⟨B,hl,b⟩:=b;simp only[ar,kW.call.injEq]at b;obtain⟨rfl,rfl⟩:=b;obtain⟨l,m,p⟩:=t.qT;rw[qm]at hl;simp only[ar]at hl;refine⟨c.args.map a.eval++l,?_,?_⟩
  ·rw[<-hl];simpa using n.append p
  ·simp[execOp,r,resolve,d,m,Deferred.ofValue,invoke]
def xN(iH:iM P cx)(d:St cx base w.heap μ h)(f:j1 w.heap μ mask e a.tmps){s:T}
 (b:iW o.op cx mask e h=some (.val s h')):iV cx base w μ h.size ((execOp a.eval o).run P w) s h':=by
 cases c:o.op<;>rw[c]at b<;>simp only[iW,reduceCtorEq]at b
 case move k=>exact Af d f (.inl c) b
 case assign k=>exact Af d f (.inr c) b
 case pick=>exact GU d f c b
 case alloc=>exact EV iH d c b
 case box=>exact IL d f c b
 case build=>exact EU iH d f c b
 case buildSlice=>exact xZ iH d f c b
 case load=>exact GY iH d f c b
 case store=>exact EN iH d f c b
 case nilCheck=>exact As d f c b
 case binOp z r k L K=>
  cases z<;>first
   |exact D5 iH (neg:=false) rfl d f c b
   |exact D5 iH (neg:=true) rfl d f c b
   |exact IM dp dp d f c b
 case unOp=>exact LB d f c b
 case convert J C k=>
  replace b:=dA.1 b;obtain⟨n,l,b⟩:=b;replace b:=dA.1 b;obtain⟨I,j,b⟩:=b;replace b:=dA.1 b;obtain⟨t,v,b⟩:=b;split at b
  ·obtain⟨i,g⟩:=fH.1 b;exact Fs iH d f c ⟨n,l⟩ j i g
  ·rename_i m;split at b
   ·obtain⟨i,g⟩:=fH.1 b;exact Ag iH d f c ⟨n,l⟩ j i g
   ·obtain⟨i,g⟩:=fH.1 b;obtain⟨B,x,q⟩:=kr (iH.ty _ _ v);rw[m]at q;have:=rE q;subst this;exact HS iH d f c x j i g
  ·obtain⟨i,g⟩:=fH.1 b;exact Ag iH d f c ⟨n,l⟩ j i g
 case makeInterface=>exact ES iH d f c b
 case makeFunc=>exact G4 d f c b
 case makeSlice=>exact zd iH d f c b
 case slice=>exact EO iH d f c b
 case fieldAddr=>exact zh iH d f c b
 case field=>exact ET iH d f c b
 case indexAddr=>exact ze iH d f c b
 case index=>exact ER iH d f c b
 case extract=>exact BV d f c b
 case range r k=>
  replace b:=dA.1 b;obtain⟨A,y,b⟩:=b;obtain⟨G,t,M,D,u,E,F,p,_⟩:=(iH.ty r A y).unfold;split at b
  ·rename_i m;rw[m]at p;have:=rE p;subst this;exact EP d f c u b
  ·simp at b
 case next=>exact GV d f c b
 exact LC iH d f c b
def NC(d:aa kW):Prop:=∀b c,d≠some (.call b c)
def NC.none:NC none:=λ_ _=>by simp
def NC.val{b:aa T}:NC (val h b):=λ_ _=>zw
def NC.some{b:T}:NC (some (.val b h)):=λ_ _=>by simp
def NC.dJ{f:Type}{d:aa f}{c:f->aa kW}(h:∀b,NC (c b)):NC (dJ d c):=by
 cases d with
 |none=>exact NC.none
 |some b=>exact h b
def NC.fP{b:Bool}{c:aa kW}(h:NC c):NC (fP b c):=by
 cases b with
 |false=>exact NC.none
 |true=>exact h
def NC.bool{b:Bool}{c d:aa kW}(f:NC c)(g:NC d):NC (Bool.casesOn b c d):=by
 cases b<;>assumption
def BC{b:Op}(d:∀c,b≠ .call c):NC (iW b cx mask e h):=by
 cases b<;>simp only[iW]<;>first
  |exact absurd rfl (d _)
  |exact NC.none
  |skip
 all_goals
  first
   |unfold BT|unfold D4|unfold BX|unfold LD|unfold zj|unfold nJ|unfold GZ|unfold BQ|unfold qv|unfold Zu|unfold JY|unfold zg|unfold BU
   |unfold oJ|unfold BR|unfold oL|unfold zi|unfold oK|unfold zf|unfold tH|unfold xY|unfold GW|skip
 case binOp b f i j g=>
  cases b<;>first
   |(simp only[];unfold UJ;exact NC.dJ λ_=>NC.dJ λ_=>NC.dJ λ_=>NC.fP (NC.dJ λ_=>NC.val))
   |(simp only[];unfold LE;exact NC.dJ λ_=>NC.dJ λ_=>NC.val)
 all_goals
  repeat first
   |exact NC.none
   |exact NC.val
   |exact NC.some
   |exact NC.new
   |refine NC.dJ λ_=> ?_
   |refine NC.fP ?_
   |refine NC.bool ?_ ?_
   |split
   |unfold kf
   |unfold oc
   |unfold BS
   |unfold za
   |(refine NC.nat ?_ λ_=> ?_)
   |(refine NC.opt ?_ λ_=> ?_)
   |(unfold two)
def Gd(m:St cx base w.heap μ h)(l:j1 w.heap μ mask e a.tmps){c:aj}{g:List T}
 (d:iW o.op cx mask e h=some (.call c g)):(∃b,o.op= .call b)/\∃i:af am,fQ w.heap μ g i.toList/\(execOp a.eval o).run P w=(callFunc c i).run P w:=by
 by_cases j:∃b,o.op= .call b
 ·obtain⟨b,f⟩:=j;rw[f]at d;exact⟨⟨b,f⟩,IK m l f d⟩
 ·exact absurd d (BC (λb k=>j ⟨b,k⟩) c g)
end
end
noncomputable section
structure kE(h h':H):Prop where
 wf:h'.eY.length=h'.size
 size:h.size<=h'.size
 low:h'.low<=h.low
 ky:∀b,b<h.size->b<h'.low->h'.get b=h.get b
 ver:∀b x,h.get b=some x->∃x',h'.get b=some x'/\(x'=x\/x.ver<x'.ver)
def kE.refl{h:H}(a:h.eY.length=h.size):kE h h:=⟨a,au _,au _,λ_ _ _=>rfl,λ_ c b=>⟨c,b,.inl rfl⟩⟩
def kE.trans{h d e:H}(b:kE h d)(a:kE d e):kE h e:=by
 refine⟨a.wf,aS b.size a.size,aS a.low b.low,λc f hl=> ?_,λc i g=> ?_⟩
 ·rw[a.ky c (bE f b.size) hl,b.ky c f (bE hl a.low)]
 ·obtain⟨j,d,r1⟩:=b.ver c i g;obtain⟨k,e,r2⟩:=a.ver c j d;refine⟨k,e,?_⟩;rcases r1 with rfl|r1<;>rcases r2 with rfl|r2
  ·exact .inl rfl
  ·exact .inr r2
  ·exact .inr r1
  ·exact .inr (Nat.lt_trans r1 r2)
def H.ej{h:H}{a:Nat}{d:iJ}(c:h.get a=some d):a<h.size:=by
 rw[H.get_eq]at c;by_cases b:a<h.size
 ·exact b
 ·simp[b]at c
def kE.cons{h:H}(e:h.eY.length=h.size)(a:iJ):kE h (h.cons a):=by
 refine⟨by simp[H.cons,e],by simp[H.cons],by simp[H.cons],λc d _=>H.mD d a,λc f b=>⟨f,?_,.inl rfl⟩⟩;rw[H.mD (H.ej b) a];exact b
def kE.put{h e:H}(k:h.eY.length=h.size){b:Nat}{x d:iJ}(i:h.get b=some x)(g:h.put b d=some e)(j:x.ver<d.ver):kE h e:=by
 obtain⟨p1,p2,p3,p4⟩:=AH g k;obtain⟨o,p,rfl⟩:=H.uO.1 g;refine⟨p2,dp,?_,λc m hl=>p4 c ?_,λc l a=> ?_⟩
 ·simp only;split<;>omega
 ·rintro rfl;simp only at hl;split at hl<;>omega
 ·by_cases f:c=b
  ·subst f;rw[i]at a;simp only[ar]at a;subst a;exact⟨d,p3,.inr j⟩
  ·exact⟨l,by rw[p4 c f];exact a,.inl rfl⟩
def Mv(h:H)(c:aa kW):Prop:=∀b a,c=some (.val b a)->kE h a
section
variable {h:H}
def Mv.none(b:h.eY.length=h.size):Mv h none:=λ_ _ a=>by simp at a
def Mv.val(b:h.eY.length=h.size){c:aa T}:Mv h (val h c):=λe d a=>by obtain⟨_,rfl⟩:=fH.1 a;exact kE.refl b
def Mv.some(c:h.eY.length=h.size){b:T}:Mv h (some (.val b h)):=λb d a=>by simp at a;obtain⟨_,rfl⟩:=a;exact kE.refl c
def Mv.new(c:h.eY.length=h.size){f:Nat->T}{b:iJ}:Mv h (jl (h.new f b)):=λe d a=>by
 rw[ja,H.kv]at a;simp only[ar,ay]at a;obtain⟨_,rfl⟩:=a;exact kE.cons c b
def Mv.dJ(f:h.eY.length=h.size){d:Type}{b:aa d}{c:d->aa kW}(e:∀a,b=Option.some a->Mv h (c a)):Mv h (dJ b c):=by
 cases b with
 |none=>exact Mv.none f
 |some a=>exact e a rfl
def Mv.fP(c:h.eY.length=h.size){a:Bool}{b:aa kW}(d:Mv h b):Mv h (fP a b):=by
 cases a with
 |false=>exact Mv.none c
 |true=>exact d
def Mv.bool(d:h.eY.length=h.size){a:Bool}{b c:aa kW}(e:Mv h b)(f:Mv h c):Mv h (Bool.casesOn a b c):=by
 cases a<;>assumption
def oh(c:h.eY.length=h.size){e bytes:Nat}{d g:List T}{f:T}{b:H}(a:h.iU e bytes d g=Option.some (f,b)):kE h b:=by
 replace a:=dA.1 a;obtain⟨i,_,a⟩:=a;replace a:=dA.1 a;obtain⟨j,_,a⟩:=a;obtain⟨_,a⟩:=dI.1 a;obtain⟨_,a⟩:=dI.1 a;obtain⟨_,a⟩:=dI.1 a;obtain⟨_,a⟩:=dI.1 a;rw[H.kv]at a;simp only[ar,ay]at a;obtain⟨_,rfl⟩:=a;exact kE.cons c _
def Do(g:h.eY.length=h.size){l bytes d e k:Nat}{o:List T}{m:T}{b:H}(a:h.lO l bytes d e k o=Option.some (m,b)):kE h b:=by
 replace a:=dA.1 a;obtain⟨n,i,a⟩:=a;obtain⟨w,q,c,t,j,p⟩:=n;simp only at a;replace a:=dA.1 a;obtain⟨s,_,a⟩:=a;replace a:=dA.1 a;obtain⟨r,_,a⟩:=a;replace a:=dA.1 a;obtain⟨v,_,a⟩:=a;obtain⟨_,a⟩:=dI.1 a;obtain⟨_,a⟩:=dI.1 a;obtain⟨_,a⟩:=dI.1 a;obtain⟨_,a⟩:=dI.1 a;obtain⟨_,a⟩:=dI.1 a;cases j with
 |true=>simp at a
 |false=>
  simp only[iq,dO]at a;replace a:=dA.1 a;obtain⟨u,f,a⟩:=a;simp only[ar,ay]at a;obtain⟨_,rfl⟩:=a;exact kE.put g i f (by show c<c.succ;omega)
def Hw(b:h.eY.length=h.size){k bytes:Nat}{c:T}{j:List T}{i:T}{d:H}(a:h.append k bytes c j=Option.some (i,d)):kE h d:=by
 unfold H.append at a;cases j with
 |nil=>
  have a:Go.TI.fP (oa c) (Option.some (c,h))=Option.some (i,d):=a;obtain⟨_,a⟩:=dI.1 a;simp only[ar,ay]at a;obtain⟨_,rfl⟩:=a;exact kE.refl b
 |cons o p=>
  simp only at a;cases c<;>simp only[reduceCtorEq]at a
  case dC e f=>
   cases e with
   |nil=>exact oh b a
   |cons q r=>obtain⟨_,a⟩:=dI.1 a;exact oh b a
  case arr l m g n f=>
   cases f with
   |false=>
    cases g with
    |zero=>exact Do b a
    |succ g=>simp at a
   |true=>replace a:=dA.1 a;obtain⟨e,_,a⟩:=a;exact oh b a
def HT(e:h.eY.length=h.size){i:Ty}{b j:T}{c:H}(a:h.store i b j=Option.some c):kE h c:=by
 unfold H.store at a;cases b<;>simp only[reduceCtorEq]at a;obtain⟨_,a⟩:=dI.1 a;replace a:=dA.1 a;obtain⟨k,f,a⟩:=a;obtain⟨o,m,d,n,g,l⟩:=k;simp only at a;obtain⟨_,a⟩:=dI.1 a;cases g with
 |true=>simp at a
 |false=>
  simp only at a;replace a:=dA.1 a;obtain⟨_,_,a⟩:=a;replace a:=dA.1 a;obtain⟨_,_,a⟩:=a;replace a:=dA.1 a;obtain⟨_,_,a⟩:=a;simp only[iq,dO]at a;exact kE.put e f a (by show d<d.succ;omega)
def Oc(a:h.eY.length=h.size){f:Op}{cx:Ctx}{r:Nat}{p:Env}:Mv h (iW f cx r p h):=by
 by_cases n:∃e,f= .call e
 ·obtain⟨e,rfl⟩:=n;simp only[iW];unfold BW;refine Mv.dJ a λu _=> ?_;split
  ·rename_i o _;cases o<;>simp only[kN]<;>first|exact Mv.none a|skip
   case len=>
    split
    ·unfold LV;refine Mv.dJ a λ_ _=>Mv.dJ a λ_ _=> ?_
     repeat first|exact Mv.none a|exact Mv.val a|split
    ·exact Mv.none a
   case append=>
    split
    ·split
     ·unfold iK;refine Mv.dJ a λ_ _=>Mv.dJ a λ_ _=>Mv.fP a ?_;intro c g b;exact Hw a (ja.1 b)
     ·exact Mv.none a
    ·exact Mv.none a
   case clear=>
    split
    ·split
     ·unfold Cs;refine Mv.dJ a λw _=> ?_;split
      ·rename_i l _ _;cases l
       ·exact Mv.some a
       ·exact Mv.none a
      ·exact Mv.some a
      ·rename_i k _ _;cases k with
       |zero=>exact Mv.some a
       |succ k=>
        refine Mv.dJ a λd j=> ?_;refine Mv.fP a (Mv.fP a (Mv.bool a ?_ ?_))
        ·refine Mv.dJ a λl _=> ?_;simp only[iq,dO];refine Mv.dJ a λm i=> ?_;intro c g b;simp only[ar,kW.val.injEq]at b;obtain⟨_,rfl⟩:=b;exact kE.put a j i (by show d.ver<d.ver.succ;omega)
        ·exact Mv.none a
      ·exact Mv.none a
     ·exact Mv.none a
    ·exact Mv.none a
   all_goals (split<;>first|exact Mv.val a|exact Mv.none a)
  ·refine Mv.dJ a λc _=> ?_;split
   ·refine Mv.dJ a λk _=> ?_;intro c g b;simp at b
   ·exact Mv.none a
  ·exact Mv.none a
 cases f<;>simp only[iW]<;>first
  |exact Mv.none a
  |exact(n ⟨_,rfl⟩).elim
  |skip
 case binOp f s d y x=>
  cases f<;>first
   |(simp only[];unfold UJ;exact Mv.dJ a λ_ _=>Mv.dJ a λ_ _=>Mv.dJ a λ_ _=>Mv.fP a (Mv.dJ a λ_ _=>Mv.val a))
   |(simp only[];unfold LE;exact Mv.dJ a λ_ _=>Mv.dJ a λ_ _=>Mv.val a)
 case store s t d=>
  unfold BQ;refine Mv.dJ a λ_ _=>Mv.dJ a λ_ _=>Mv.dJ a λ_ _=>Mv.fP a (Mv.dJ a λm q=> ?_);intro c g b;simp only[ar,kW.val.injEq]at b;obtain⟨_,rfl⟩:=b;exact HT a q
 case next it v=>
  unfold GW;refine Mv.bool a ?_ ?_
  ·exact Mv.none a
  ·unfold za;refine Mv.dJ a λc _=> ?_;cases c<;>simp only<;>first|exact Mv.none a|skip
   refine Mv.dJ a λd j=>Mv.fP a ?_;split
   ·refine Mv.bool a (Mv.some a) (Mv.dJ a λe _=> ?_);obtain⟨e,wd⟩:=e;simp only[j9,iq,dO];refine Mv.dJ a λm i=> ?_;intro c g b;simp only[ar,kW.val.injEq]at b;obtain⟨_,rfl⟩:=b;exact kE.put a j i (by show d.ver<d.ver.succ;omega)
   ·exact Mv.none a
 all_goals
  first
   |unfold BT|unfold D4|unfold BX|unfold LD|unfold zj|unfold nJ|unfold GZ|unfold qv|unfold Zu|unfold JY|unfold zg|unfold BU
   |unfold oJ|unfold BR|unfold oL|unfold zi|unfold oK|unfold zf|unfold tH|unfold xY|skip
 all_goals
  repeat first
   |exact Mv.none a
   |exact Mv.val a
   |exact Mv.some a
   |exact Mv.new a
   |refine Mv.dJ a λ_ _=> ?_
   |refine Mv.fP a ?_
   |refine Mv.bool a ?_ ?_
   |split
   |unfold kf
   |unfold oc
   |unfold BS
   |(refine Mv.opt a ?_ λ_=> ?_)
   |(unfold two)
end
end
noncomputable section
inductive oY (n:Nat):T->Prop where
 |undef:oY n .undef
 |bool (b:Bool):oY n (.bool b)
 |int (k:ak) (m:Int):oY n (.int k m)
 |str (s:List Nat):oY n (.str s)
 |j4:oY n .j4
 |ptr (b ep i j:Nat) (h:b<n):oY n (.ptr b ep i j)
 |je (cs:List T) (h:∀v∈cs,oY n v):oY n (.je cs)
 |dC (es:List T) (full:Bool) (h:∀v∈eQ es,oY n v):oY n (.dC es full)
 |fO:oY n .fO
 |arr (b ep o l:Nat) (full:Bool) (h:b<n):oY n (.arr b ep o l full)
 |func (f:aj) (cs:List T) (h:∀v∈cs,oY n v):oY n (.func f cs)
 |kq:oY n .kq
 |ko:oY n .ko
 |iface (t:ab) (v:T) (h:oY n v):oY n (.iface t v)
 |iter (b:Nat) (h:b<n):oY n (.iter b)
 |map (b:Nat) (h:b<n):oY n (.map b)
 |m7:oY n .m7
 |agg (cs:List T) (h:∀v∈cs,oY n v):oY n (.agg cs)
 |tuple (vs:List T) (h:∀v∈vs,oY n v):oY n (.tuple vs)
def oY.cells{n:Nat}{b:T}(h:oY n b):∀c∈b.cells,oY n c:=by
 cases h with
 |agg d h=>exact h
 |_=>intro c a;simp[T.cells]at a;subst a;constructor<;>assumption
def j2.low{a:T}(h:j2 a)(n:Nat):oY n a:=by
 induction h with
 |dC c d _ i=>
  refine .dC c d λa f=> ?_;obtain⟨b,e,g⟩:=List.mem_flatMap.1 f;exact(i b e).cells a g
 |_=>constructor<;>assumption
def fa.low{hp:af Obj}{μ:Mu}{a:T}{m:am}(h:fa hp μ a m){n:Nat}(j:∀g i,μ g=some i->g<n):oY n a:=by
 induction h with
 |ptr g u y J i l f v F=>exact .ptr _ _ _ _ (j _ _ f)
 |arr g u L K p i l B f v hl h=>exact .arr _ _ _ _ _ (j _ _ f)
 |iter g i l f h=>exact .iter _ (j _ _ f)
 |map g i y f h=>exact .map _ (j _ _ f)
 |je t s off arr r fz x w k q hr c=>exact .je _ λa b=>by obtain⟨e,d⟩:=List.mem_iff_getElem?.1 b;exact c e a d
 |mV p l=>exact .dC _ _ λa b=>by simp[eQ]at b
 |dC C D p s off z M arr r fz x w hl G I k q hr c=>exact .dC _ _ λa b=>by obtain⟨e,d⟩:=List.mem_iff_getElem?.1 b;exact c e a d
 |func E A o k hr c=>exact .func _ _ λa b=>by obtain⟨e,d⟩:=List.mem_iff_getElem?.1 b;exact c e a d
 |agg t o k q hr c=>exact .agg _ λa b=>by obtain⟨e,d⟩:=List.mem_iff_getElem?.1 b;exact c e a d
 |tuple N o k hr c=>exact .tuple _ λa b=>by obtain⟨e,d⟩:=List.mem_iff_getElem?.1 b;exact c e a d
 |iface r a m h c=>exact .iface _ _ c
 |_=>constructor
def lN(n:Nat)(μ:Mu):Mu:=⟨λa=>if a<n then μ a else none,μ.oD⟩
def tJ{n a:Nat}{μ:Mu}(h:a<n):lN n μ a=μ a:=by simp[lN,h]
def jP{n a:Nat}{μ:Mu}{b:Loc}(h:lN n μ a=some b):a<n/\μ a=some b:=by
 have h:(if a<n then μ a else none)=some b:=h;split at h
 ·exact⟨by assumption,h⟩
 ·simp at h
def vN{n a:Nat}{μ:Mu}(h:¬mN μ a):¬mN (lN n μ) a:=by
 rintro(⟨c,b,d,rfl⟩|hr)
 ·exact h (.inl ⟨c,b,(jP d).2,rfl⟩)
 ·exact h (.inr hr)
def fa.cut{hp:af Obj}{μ:Mu}{a:T}{q:am}(h:fa hp μ a q){n:Nat}(hl:oY n a):fa hp (lN n μ) a q:=by
 induction h with
 |undef=>exact .undef
 |bool f=>exact .bool f
 |int d L=>exact .int d L
 |str N h=>exact .str N h
 |j4=>exact .j4
 |ptr f u z J i e j v F=>cases hl with|ptr _ _ _ _ h=>exact .ptr f u z J i e (by rw[tJ h];exact j) v F
 |je t r off arr p fz y w g o hr c=>
  cases hl with|je _ h=>exact .je t r off arr p fz (vN y) w g o λd a b=>c d a b (h a (ax b))
 |mV l e=>exact .mV l e
 |dC C D l r off s O arr p fz y w x G I g o hr c=>
  cases hl with|dC _ _ h=>exact .dC C D l r off s O arr p fz (vN y) w x G I g o λd a b=>c d a b (h a (ax b))
 |fO e s=>exact .fO e s
 |arr f u M K l i e B j v x m=>cases hl with|arr _ _ _ _ _ h=>exact .arr f u M K l i e B (by rw[tJ h];exact j) v x m
 |func E A k g hr c=>cases hl with|func _ _ h=>exact .func E A k g λd a b=>c d a b (h a (ax b))
 |kq=>exact .kq
 |ko=>exact .ko
 |iface p a q h c=>cases hl with|iface _ _ h=>exact .iface p a q (c h)
 |iter f i e j m=>cases hl with|iter _ h=>exact .iter f i e (by rw[tJ h];exact j) m
 |map f i z j m=>cases hl with|map _ h=>exact .map f i z (by rw[tJ h];exact j) m
 |m7=>exact .m7
 |agg t k g o hr c=>cases hl with|agg _ h=>exact .agg t k g o λd a b=>c d a b (h a (ax b))
 |tuple P k g hr c=>cases hl with|tuple _ h=>exact .tuple P k g λd a b=>c d a b (h a (ax b))
def fQ.cut{hp:af Obj}{μ:Mu}{b:List T}{c:List am}(h:fQ hp μ b c){n:Nat}(hl:∀a∈b,oY n a):fQ hp (lN n μ) b c:=
 ⟨h.1,λe a d=>(h.2 e a d).cut (hl a (ax d))⟩
def pV.cut{hp:af Obj}{μ:Mu}{m:Loc}{k:iJ}(h:pV hp μ m k){n:Nat}(hl:∀g∈eQ k.ee,oY n g):pV hp (lN n μ) m k:=by
 refine⟨h.ep,h.sz,λb=> ?_,λb=> ?_⟩
 ·have f:=h.plain b;obtain⟨p,D,a,c,d⟩:=f.row;exact⟨⟨p,D,a,c,d.cut hl⟩,f.room,f.sh,f.size,f.scalar⟩
 ·obtain⟨j,a|⟨r,a,c,d⟩|⟨z,y,B,C,q,a,c,d,w⟩⟩:=h.iter b
  ·exact⟨j,.inl a⟩
  rotate_left
  ·exact⟨j,.inr (.inr ⟨z,y,B,C,q,a,c.cut (hl _ (by rw[a];simp[eQ,T.cells])),d,w⟩)⟩
  ·refine⟨j,.inr (.inl ⟨r,a,c,λx l o=> ?_⟩)⟩;obtain⟨b,g,A,i,s,t,u,v⟩:=d x l o;have e:=hl l (List.mem_flatMap.2 ⟨l,ax o,by rw[i];simp[T.cells]⟩);rw[i]at e;cases e with|tuple _ e=>exact⟨b,g,A,i,s,t,u.cut (e b dp),v.cut (e g dp)⟩
def pV.low{hp:af Obj}{μ:Mu}{e:Loc}{k:iJ}(h:pV hp μ e k){n:Nat}(c:∀l e,μ l=some e->l<n):∀j∈eQ k.ee,oY n j:=by
 intro j a;cases d:k.it with
 |false=>
  obtain⟨y,K,f,g,b⟩:=(h.plain d).row;obtain⟨o,t⟩:=List.mem_iff_getElem?.1 a;exact(b.2 o j t).low c
 |true=>
  obtain⟨_,⟨I,w,s,_⟩|⟨A,f,g,b⟩|⟨F,E,w,J,z,f,g,b,D⟩⟩:=h.iter d
  ·rw[s]at a;simp[eQ,T.cells]at a;rcases a with rfl|rfl<;>constructor
  rotate_left
  ·rw[f]at a;simp[eQ,T.cells]at a;rcases a with rfl|rfl|rfl|rfl
   ·exact g.low c
   all_goals constructor
  ·obtain⟨x,u,i⟩:=List.mem_flatMap.1 a;obtain⟨v,d⟩:=List.mem_iff_getElem?.1 u;obtain⟨o,L,G,p,B,C,q,r⟩:=b v x d;rw[p]at i;simp[T.cells]at i;subst i;refine .tuple _ λM m=> ?_;simp at m;rcases m with rfl|rfl
   ·exact q.low c
   ·exact r.low c
inductive io {α β:Type} (R:α->β->Prop):List α->List β->Prop where
 |nil:io R [] []
 |cons {a:α} {b:β} {l:List α} {m:List β} (h:R a b) (t:io R l m):io R (a::l) (b::m)
def io.imp{g i:Type}{b c:g->i->Prop}{e:List g}{f:List i}(h:io b e f)(j:∀a d,b a d->c a d):io c e f:=by
 induction h with
 |nil=>exact .nil
 |cons a _ k=>exact .cons (j _ _ a) k
def io.length{c d:Type}{e:c->d->Prop}{a:List c}{b:List d}(h:io e a b):a.length=b.length:=by
 induction h with
 |nil=>rfl
 |cons _ _ f=>simp[f]
def io.append{f g:Type}{a:f->g->Prop}{b c:List f}{d e:List g}(h:io a b d)(j:io a c e):io a (b++c) (d++e):=by
 induction h with
 |nil=>exact j
 |cons i _ k=>exact .cons i k
def io.get{i b:Type}{c:i->b->Prop}{d:List i}{e:List b}(h:io c d e){k:Nat}{g:b}(a:e[k]? =some g):∃f,d[k]? =some f/\c f g:=by
 induction h generalizing k with
 |nil=>simp at a
 |cons j _ l=>cases k with
  |zero=>simp at a;subst a;exact⟨_,dp,j⟩
  |succ k=>simp at a;simpa using l a
def io.mem{g b:Type}{c:g->b->Prop}{d:List g}{e:List b}(h:io c d e){f:b}(k:f∈e):∃a∈d,c a f:=by
 obtain⟨m,i⟩:=List.mem_iff_getElem?.1 k;obtain⟨a,j,l⟩:=h.get i;exact⟨a,ax j,l⟩
def io.map{b:Type}{g:b->aa b}{f:b->b->Prop}{a e:List b}(i:∀c∈a,∀d,g c=some d->f c d)(h:fw g a=some e):io f a e:=by
 induction a generalizing e with
 |nil=>simp at h;subst h;exact .nil
 |cons c a l=>
  rw[jn]at h;replace h:=dA.1 h;obtain⟨d,j,h⟩:=h;replace h:=dA.1 h;obtain⟨o,ht,h⟩:=h;simp at h;subst h;exact .cons (i c dp d j) (l (λm k=>i m (by simp[k])) ht)
structure Fz(hp:af Obj)(μ:Mu)(n:Nat)(v v':T):Prop where
 rel:∀c,fa hp μ v c->fa hp (lN n μ) v' c
 scalar:v'.scalar=v.scalar
 cells:io (λx x'=>(∀c,fa hp μ x c->fa hp (lN n μ) x' c)/\x'.scalar=x.scalar/\j2 x') v.cells v'.cells
 closed:j2 v'
def io.eQ{a:T->T->Prop}{b c:List T}(h:io (λf g=>io a f.cells g.cells) b c):io a (TI.eQ b) (TI.eQ c):=by
 induction h with
 |nil=>exact .nil
 |cons d _ e=>simpa[TI.eQ]using io.append d e
section
variable {cx:Ctx}{base:Nat}{hp:af Obj}{μ:Mu}{h:H}{n:Nat}
def Fz.same{b:T}(hl:j2 b)(a:b.cells=[b]):Fz hp μ n b b:=
 ⟨λc a=>a.cut (hl.low n),rfl,by rw[a];exact .cons ⟨λc a=>a.cut (hl.low n),rfl,hl⟩ .nil,hl⟩
def Ay{a:T}(b:∀d∈a.cells,j2 d):j2 a:=by
 cases a with
 |agg c=>exact .agg c b
 |_=>exact b _ (by simp[T.cells])
def FZ{a:List T}(e:∀d∈a,∃b,fa hp μ d b):∃c,fQ hp μ a c:=by
 induction a with
 |nil=>exact⟨[],fQ.nil⟩
 |cons k a j=>
  obtain⟨b,f⟩:=e k dp;obtain⟨c,g⟩:=j λd i=>e d (by simp[i]);exact⟨b::c,fQ.cons f g⟩
def Eq{a:T}(d:∀c∈a.cells,∃b,fa hp μ c b)(g:∀c∈a.cells,c.scalar=true):∃b,fa hp μ a b:=by
 cases a with
 |agg f=>
  obtain⟨e,hl⟩:=FZ d;exact⟨.agg e.toArray,fa.wH (by have hl:fQ hp μ f e:=hl;simpa using hl) g⟩
 |_=>exact d _ (by simp[T.cells])
def fQ.mem{b:List T}{d:List am}(h:fQ hp μ b d){a:T}(f:a∈b):∃c,fa hp μ a c:=by
 obtain⟨g,e⟩:=List.mem_iff_getElem?.1 f;exact⟨_,h.2 g a e⟩
def E8(s:St cx base hp μ h):∀(D:Nat) (d c:T),(∃o,fa hp μ d o)->freeze h n D d=some c->Fz hp μ n d c:=by
 intro D;induction D with
 |zero=>intro d c _ b;simp[freeze]at b
 |succ D bn=>
  intro d c V b;cases d with
  |undef=>exact absurd b (by show¬(none=some c);simp)
  |ptr=>exact absurd b (by show¬(none=some c);simp)
  |je=>exact absurd b (by show¬(none=some c);simp)
  |func=>exact absurd b (by show¬(none=some c);simp)
  |iface=>exact absurd b (by show¬(none=some c);simp)
  |iter=>exact absurd b (by show¬(none=some c);simp)
  |map=>exact absurd b (by show¬(none=some c);simp)
  |m7=>exact absurd b (by show¬(none=some c);simp)
  |tuple=>exact absurd b (by show¬(none=some c);simp)
  |bool l=>have b:some (T.bool l)=some c:=b;simp only[ar]at b;subst b;exact Fz.same (.bool l) rfl
  |int x m=>have b:some (T.int x m)=some c:=b;simp only[ar]at b;subst b;exact Fz.same (.int x m) rfl
  |str l=>have b:some (T.str l)=some c:=b;simp only[ar]at b;subst b;exact Fz.same (.str l) rfl
  |j4=>have b:some (T.j4)=some c:=b;simp only[ar]at b;subst b;exact Fz.same .j4 rfl
  |fO=>have b:some (T.fO)=some c:=b;simp only[ar]at b;subst b;exact Fz.same .fO rfl
  |kq=>have b:some (T.kq)=some c:=b;simp only[ar]at b;subst b;exact Fz.same .kq rfl
  |ko=>have b:some (T.ko)=some c:=b;simp only[ar]at b;subst b;exact Fz.same .ko rfl
  |dC r A=>
   have b:some (T.dC r A)=some c:=b;simp only[ar]at b;subst b;obtain⟨o,q⟩:=V;refine Fz.same ?_ rfl;cases q with
   |mV=>exact .dC _ _ λd g=>by simp at g
   |dC e r A eb off ec dv arr t fz eo b hl aX et er q hr=>
    exact .dC _ _ λd g=>Ay λi f=>(q i (List.mem_flatMap.2 ⟨d,g,f⟩)).2
  |agg O=>
   have b:(dJ (fw (freeze h n D) O) λz=>some (T.agg z))=some c:=b;replace b:=dA.1 b;obtain⟨z,hr,b⟩:=b;simp only[ar]at b;subst b;obtain⟨o,q⟩:=V;obtain⟨bN,rfl,J,de⟩:=q.oR;have p:io (Fz hp μ n) O z:=io.map (λi f B Y=>bn i B (J.mem f) Y) hr;have U:∀d∈z,j2 d:=λd g=>by obtain⟨i,_,f⟩:=p.mem g;exact f.closed
   have di:∀d∈z,d.scalar=true:=λd g=>by obtain⟨i,c6,f⟩:=p.mem g;rw[f.scalar];exact de i c6
   refine⟨λo q=> ?_,rfl,?_,.agg z U⟩
   ·obtain⟨bN,rfl,J,_⟩:=q.oR;refine fa.wH ⟨by rw[<-p.length];exact J.1,λx d a8=> ?_⟩ di;obtain⟨i,f,aX⟩:=p.get a8;exact aX.rel _ (J.2 x i f)
   ·show io _ O z;exact p.imp λa l G=>⟨G.rel,G.scalar,G.closed⟩
  |arr l P v u A=>
   have b:fP (Nat.ble n l) (dJ (h.get l) λi=> @iJ.rec (λ_=>aa T) (λ_ Q _ exact ae k=>
    fP (Nat.beq Q P) (@Bool.rec (λ_=>aa T) (dJ (dJ (jF v k) λz=>takeN u z) λr=>dJ (fw (freeze h n D) r) λE=>
     @List.rec T (λ_=>aa T) (@List.rec T (λ_=>aa T) (@Bool.rec (λ_=>aa T) (some .fO) (some (.dC [] false)) exact) (λ_ _ _=>some .fO) k) (λ_ _ _=>some (.dC E A)) E) none ae)) i)=some c:=b
   obtain⟨bl,b⟩:=dI.1 b;have bl:n<=l:=bm bl;replace b:=dA.1 b;obtain⟨bC,b8,b⟩:=b;obtain⟨dv,Q,ey,R,ae,k⟩:=bC;simp only at b;obtain⟨aE,b⟩:=dI.1 b;have aE:Q=P:=aC aE;cases ae with
   |true=>simp at b
   |false=>
    replace b:=dA.1 b;obtain⟨r,w,b⟩:=b;replace b:=dA.1 b;obtain⟨E,ca,K⟩:=b;obtain⟨c1,w⟩:v+u<=k.length/\r=(k.drop v).take u:=by
     replace w:=dA.1 w;obtain⟨r0,C,p⟩:=w;rw[ls]at C;split at C
     ·simp only[ar]at C;subst C;rw[mX]at p;split at p
      ·simp only[ar]at p;rename_i bi cL;simp only[List.length_drop]at cL;exact⟨dj,p.symm⟩
      ·simp at p
     ·simp at C
    have al:∀o,fa hp μ (.arr l P v u A) o->fa hp (lN n μ) c o/\j2 c/\c.cells=[c]/\c.scalar=true:=by
     intro o q;obtain⟨j,ea,an,rfl,S,aA,hl,dd⟩:=q.rQ;obtain⟨eA,F,L⟩:=s.box l j S;rw[b8]at F;simp only[ar]at F;subst F;have bS:=L.ep;simp only at bS;obtain⟨a7,c7,bT⟩:=dd dj;have y:=L.plain rfl;simp only at y;obtain⟨arr,t,C,p,ap⟩:=y.row;have aN:∀d∈r,d.cells.length=j.sz:=λd g=>y.size d (bA (bw (w▸g)));have c9:∀d∈eQ k,∃o,fa hp μ d o:=λd g=>ap.mem g;have bk:∀d∈r,d∈k:=λd g=>bA (bw (w▸g));have I:io (Fz hp μ n) r E:=io.map (λi f B Y=>bn i B (Eq (λN Z=>c9 N (List.mem_flatMap.2 ⟨i,bk i f,Z⟩)) λN Z=>y.scalar N (List.mem_flatMap.2 ⟨i,bk i f,Z⟩)) Y) ca;have X:E.length=u:=by rw[<-I.length,w];simp;omega
     have b9:R=true->j.cap=k.length:=y.sh;cases E with
     |nil=>
      have cp:u=0:=by simpa using X.symm
      subst cp;have aA:c= .fO\/(k=[]/\R=true/\c= .dC [] false):=by
       cases k with
       |cons N eB=>have b:some T.fO=some c:=K;simp only[ar]at b;exact .inl b.symm
       |nil=>
        cases R with
        |false=>have b:some T.fO=some c:=K;simp only[ar]at b;exact .inl b.symm
        |true=>have b:some (T.dC [] false)=some c:=K;simp only[ar]at b;exact .inr ⟨rfl,rfl,b.symm⟩
      rcases aA with rfl|⟨rfl,rfl,rfl⟩
      ·exact⟨.fO _ _,.fO,rfl,rfl⟩
      ·have av:j.cap=0:=by simpa using b9 rfl
       have:an=0:=by
        cases A with
        |false=>have:=c7 rfl;omega
        |true=>exact a7 rfl
       subst this;exact⟨.mV _ _,.dC _ _ λd g=>by simp at g,rfl,rfl⟩
     |cons B M=>
      have b:some (T.dC (B::M) A)=some c:=K;simp only[ar]at b;subst b;simp only[aZ]at X;have U:∀d∈B::M,j2 d:=λd g=>by obtain⟨i,_,f⟩:=I.mem g;exact f.closed
      refine⟨?_,.dC _ _ U,rfl,rfl⟩;rw[bT dj,<-X];have W:=io.eQ (I.imp λa l G=>G.cells);have ce:(eQ (B::M)).length=u*j.sz:=by rw[<-W.length,f9 aN,w];congr 1;simp;omega
      have a6:eQ r=((eQ k).drop (v*j.sz)).take (u*j.sz):=by rw[w];exact B3 y.size v u
      have cb:(eQ k).length=k.length*j.sz:=f9 y.size;have ef:v*j.sz+u*j.sz<=k.length*j.sz:=by rw[<-bY];exact aW _ c1
      have eh:k.length*j.sz<=j.cap*j.sz:=aW _ y.room;refine .dC B M A j.iD (v*j.sz) an j.sz arr t (0,0) ?_ C dj (λx=>by rw[a7 x];omega) ?_ ?_ ?_ ?_
      ·rintro(⟨bB,bz,b6,b7⟩|hr)
       ·obtain⟨eu,ds⟩:=jP b6;have:=s.inj bB l bz j ds S b7;omega
       ·exact s.apart l j S hr
      ·intro d g;obtain⟨i,f,dm⟩:=I.mem g;rw[<-dm.cells.length];exact aN i f
      ·rw[ce,p];omega
      ·intro d g;obtain⟨i,f,F,L,dk⟩:=W.mem g;refine⟨?_,dk⟩;rw[L];rw[a6]at f;exact y.scalar i (bA (bw f))
      ·intro x d g;obtain⟨i,f,F,_⟩:=W.get g;refine F _ ?_;rw[a6,bJ]at f;split at f
       ·rename_i a8;rw[bG]at f;have:=ap.2 _ i f;have bi:v*j.sz+x<(eQ k).length:=by rw[cb];omega
        have c4:v*j.sz+x<arr.size:=by rw[p];omega
        simpa[List.getD,bJ,bi,aV,c4]using this
       ·simp at f
    obtain⟨bH,av⟩:=V;obtain⟨_,bs,dn,bu⟩:=al bH av;exact⟨λo q=>(al o q).1,by rw[bu];rfl,by rw[dn];exact .cons ⟨λo q=>(al o q).1,by rw[bu];rfl,bs⟩ .nil,bs⟩
end
end
noncomputable section
section
variable {cx:Ctx}{base:Nat}{hp:af Obj}{μ:Mu}{h:H}{n:Nat}
def tI(t:St cx base hp μ h){f d:T}(r:∃e,fa hp μ f e)(a:ir h n f=some d):
 (∀e,fa hp μ f e->fa hp (lN n μ) d e)/\d.scalar=f.scalar:=by
 have q:freeze h n 12 f=some d->(∀e,fa hp μ f e->fa hp (lN n μ) d e)/\d.scalar=f.scalar:=λs=>
  let m:=E8 t 12 f d r s
  ⟨m.rel,m.scalar⟩
 cases f with
 |undef=>
  have a:some T.undef=some d:=a;simp only[ar]at a;subst a;exact⟨λe g=>g.cut .undef,rfl⟩
 |ptr b i o p=>
  have a: @Bool.rec (λ_=>aa T) (some (.ptr b i o p)) none (Nat.ble n b)=some d:=a;cases c:Nat.ble n b with
  |true=>rw[c]at a;simp at a
  |false=>
   rw[c]at a;have a:some (T.ptr b i o p)=some d:=a;simp only[ar]at a;subst a;have:b<n:=by
    rcases aD b n with x|x
    ·exact x
    ·rw[bW x]at c;simp at c
   exact⟨λe g=>g.cut (.ptr _ _ _ _ this),rfl⟩
 |map b=>
  have a: @Bool.rec (λ_=>aa T) (some (.map b)) none (Nat.ble n b)=some d:=a;cases c:Nat.ble n b with
  |true=>rw[c]at a;simp at a
  |false=>
   rw[c]at a;have a:some (T.map b)=some d:=a;simp only[ar]at a;subst a;have:b<n:=by
    rcases aD b n with x|x
    ·exact x
    ·rw[bW x]at c;simp at c
   exact⟨λe g=>g.cut (.map _ this),rfl⟩
 |arr b i l k j=>
  have a: @Bool.rec (λ_=>aa T) (some (.arr b i l k j)) (freeze h n 12 (.arr b i l k j)) (Nat.ble n b)=some d:=a;cases c:Nat.ble n b with
  |true=>rw[c]at a;exact q a
  |false=>
   rw[c]at a;have a:some (T.arr b i l k j)=some d:=a;simp only[ar]at a;subst a;have:b<n:=by
    rcases aD b n with x|x
    ·exact x
    ·rw[bW x]at c;simp at c
   exact⟨λe g=>g.cut (.arr _ _ _ _ _ this),rfl⟩
 |_=>exact q a
def CP(s:St cx base hp μ h){d c:List T}{m:List am}(g:fQ hp μ d m)(p:fw (ir h n) d=some c):
 fQ hp (lN n μ) c m/\∀b∈c,∃e∈d,b.scalar=e.scalar:=by
 have f:io (λk o=>(∀l,fa hp μ k l->fa hp (lN n μ) o l)/\o.scalar=k.scalar) d c:=io.map (λb a e j=>tI s (g.mem a) j) p;refine⟨⟨by rw[<-f.length];exact g.1,λr k q=> ?_⟩,λb a=> ?_⟩
 ·obtain⟨b,a,i⟩:=f.get q;exact i.1 _ (g.2 r b a)
 ·obtain⟨e,j,i⟩:=f.mem a;exact⟨e,j,i.2⟩
def pL(g:St cx base hp μ h){d e:T}{b:am}(c:fa hp μ d b)(a:jX h n d=some e):fa hp (lN n μ) e b:=by
 cases d with
 |agg i=>
  have a:(dJ (fw (ir h n) i) λf=>some (T.agg f))=some e:=a;replace a:=dA.1 a;obtain⟨f,hr,a⟩:=a;simp only[ar]at a;subst a;obtain⟨t,rfl,l,o⟩:=c.oR;obtain⟨j,k⟩:=CP g l hr;exact fa.wH j λr p=>by obtain⟨s,q,m⟩:=k r p;rw[m];exact o s q
 |_=>exact(tI g ⟨b,c⟩ a).1 b c
def ut(k:St cx base hp μ h){c d:T}{b:am}(e:fa hp μ c b)(a:iT h n c=some d):fa hp (lN n μ) d b:=by
 cases c with
 |tuple l=>
  have a:(dJ (fw (jX h n) l) λf=>some (T.tuple f))=some d:=a;replace a:=dA.1 a;obtain⟨f,hr,a⟩:=a;simp only[ar]at a;subst a;obtain⟨o,rfl,i⟩:=e.yZ;have g:io (λc d=>∀b,fa hp μ c b->fa hp (lN n μ) d b) l f:=io.map (λm j t r b e=>pL k e r) hr;refine .tuple f o (by rw[<-g.length];simpa using i.1.symm) λs c q=> ?_;obtain⟨m,j,p⟩:=g.get q;have:=p _ (i.2 s m j);simpa[aV,List.getD]using this
 |_=>exact pL k e a
def kV{b:T}{i:am}(g:fa hp μ b i)(a:jY n b=true):oY n b:=by
 cases b with
 |ptr c j m o=>exact .ptr _ _ _ _ (by have a:Nat.blt c n=true:=a;rwa[aG]at a)
 |arr c j q p k=>exact .arr _ _ _ _ _ (by have a:Nat.blt c n=true:=a;rwa[aG]at a)
 |map c=>exact .map _ (by have a:Nat.blt c n=true:=a;rwa[aG]at a)
 |je l=>
  obtain⟨_,_,_,_,_,_,_,_,_,e,_⟩:=g.lm;exact .je _ λb d=>(e b d).2.low n
 |dC f k=>
  refine .dC _ _ λb d=> ?_;cases f with
  |nil=>simp[eQ]at d
  |cons r f=>obtain⟨_,_,_,_,_,_,_,_,_,_,_,_,_,_,e,_⟩:=g.tv;exact(e b d).2.low n
 |undef=>simp[jY]at a
 |func=>simp[jY]at a
 |iface=>simp[jY]at a
 |iter=>simp[jY]at a
 |agg=>simp[jY]at a
 |tuple=>simp[jY]at a
 |_=>constructor
def LU{i:T}(g:below n i=true)(b:∀c∈i.cells,∃d,fa hp μ c d):∀c∈i.cells,oY n c:=by
 cases i with
 |agg e=>
  intro c a;obtain⟨d,b⟩:=b c a;exact kV b (pB (show we (jY n) e=true from g) c a)
 |func p e=>
  intro c a;obtain⟨d,b⟩:=b c a;simp[T.cells]at a;subst a;obtain⟨m,rfl,j⟩:=b.qT;exact .func _ _ λl f=>by obtain⟨o,k⟩:=j.mem f;exact kV k (pB (show we (jY n) e=true from g) l f)
 |tuple e=>
  intro c a;obtain⟨d,b⟩:=b c a;simp[T.cells]at a;subst a;obtain⟨m,rfl,j⟩:=b.yZ;exact .tuple _ λl f=>by obtain⟨o,k⟩:=j.mem f;exact kV k (pB (show we (jY n) e=true from g) l f)
 |_=>
  intro c a;obtain⟨d,b⟩:=b c a;simp[T.cells]at a;subst a;exact kV b g
def Cr{c:Nat}{f:List iJ}(b:rg n c f=true):∀a d,a<c->f[a]? =some d->∀m∈d.ee,below n m=true:=by
 induction c generalizing f with
 |zero=>intro a d j;omega
 |succ c k=>
  intro a d j e;cases f with
  |nil=>simp at e
  |cons i l=>
   have b: @Bool.rec (λ_=>Bool) false (rg n c l) (we (below n) i.ee)=true:=b;cases g:we (below n) i.ee with
   |false=>rw[g]at b;simp at b
   |true=>
    rw[g]at b;cases a with
    |zero=>simp at e;subst e;exact pB g
    |succ a=>exact k b a d dj (by simpa using e)
def St.cut(c:St cx base hp μ h)(y:n<=h.size){low:Nat}(hl:∀a b e,a<n->μ a=some b->h.get a=some e->∀g∈eQ e.ee,oY n g):
 St cx base hp (lN n μ) ⟨n,low,h.eY.drop (h.size-n)⟩:=by
 have t:∀a,a<n->(⟨n,low,h.eY.drop (h.size-n)⟩:H).get a=h.get a:=by
  intro a d;rw[H.get_eq,H.get_eq];have f:a<h.size:=dj;simp only[d,f,bo,bG];congr 1;omega
 refine⟨?_,c.fit,?_,?_,?_,λa b d=>c.apart a b (jP d).2,c.pS,?_⟩
 ·simp only[List.length_drop,c.wf];omega
 ·intro a b d;obtain⟨j,k⟩:=jP d;obtain⟨e,i,u⟩:=c.box a b k;exact⟨e,by rw[t a j];exact i,u.cut (hl a b e j k i)⟩
 ·intro a m b l f q r;exact c.inj a m b l (jP f).2 (jP q).2 r
 ·intro a b d;exact c.low a b (jP d).2
 ·intro p o s;have:=c.x6 p o s;refine this.cut ?_;obtain⟨_,_,_,_,_,_,_,_,_,v,_⟩:=this.lm;exact .je _ λg x=>(v g x).2.low n
def St.JB(a:St cx base hp μ h)(g:Nat):St cx base hp μ ⟨h.size,g,h.eY⟩:=by
 refine⟨a.wf,a.fit,λd c e=> ?_,a.inj,a.low,a.apart,a.pS,a.x6⟩;obtain⟨i,b,f⟩:=a.box d c e;exact⟨i,by rw[H.get_eq]at b|-;exact b,f⟩
def Left(cx:Ctx)(base:Nat)(w w':World)(μ:Mu)(d:H)(e:T)(b:H)(c:am):Prop:=
 ∃a,fa w'.heap a e c/\St cx base w'.heap a b/\oP w μ w' a/\xu μ a d.size b.size
def H.qx(h:H)(b a:Nat):(⟨h.size,b,h.eY⟩:H).get a=h.get a:=by rw[H.get_eq,H.get_eq]
def BZ{n low0 low:Nat}{b:List iJ}(c:kE ⟨n,n,b⟩ h)(hl:low<=low0)(j:∀a,a<n->a<low->a<h.low):kE ⟨n,low0,b⟩ ⟨h.size,low,h.eY⟩:=by
 have d:∀a,(⟨n,low0,b⟩:H).get a=(⟨n,n,b⟩:H).get a:=λa=>by rw[H.get_eq,H.get_eq]
 refine⟨c.wf,c.size,hl,λa e k=> ?_,λa l f=> ?_⟩
 ·rw[H.qx,d];exact c.ky a e (j a e k)
 ·rw[d]at f;obtain⟨m,g,i⟩:=c.ver a l f;exact⟨m,by rw[H.qx];exact g,i⟩
def EH{low0:Nat}{d f:T}{e:H}(a:mJ low0 d h=some (f,e)):f=d/\e=⟨h.size,if h.low<low0 then h.low else low0,h.eY⟩:=by
 obtain⟨j,b,g⟩:=h;have a: @Bool.rec (λ_=>aa (T×H)) (some (d,⟨j,low0,g⟩)) (some (d,⟨j,b,g⟩)) (Nat.blt b low0)=some (f,e):=a;cases c:Nat.blt b low0 with
 |true=>
  rw[c]at a;simp only[ar,ay]at a;have:b<low0:=by rwa[aG]at c
  exact⟨a.1.symm,by rw[<-a.2];simp[this]⟩
 |false=>
  rw[c]at a;simp only[ar,ay]at a;have:¬b<low0:=λi=>by rw[<-aG,c]at i;simp at i
  exact⟨a.1.symm,by rw[<-a.2];simp[this]⟩
variable {w w':World}{μ0:Mu}{low0:Nat}{rh:List iJ}
def xa{c d:T}{b:am}{a:H}(k:St cx base w'.heap μ h)(f:kE ⟨n,n,rh⟩ h)(l:oP w μ0 w' μ)(e:xu μ0 μ n h.size)(i:fa w'.heap μ c b)
 (j:mJ low0 c h=some (d,a)):Left cx base w w' μ0 ⟨n,low0,rh⟩ d a b/\kE ⟨n,low0,rh⟩ a:=by
 obtain⟨rfl,rfl⟩:=EH j;exact⟨⟨μ,i,k.JB _,l,e⟩,BZ f (by split<;>omega) (λm _ g=>by split at g<;>omega)⟩
def GG{a6:Bool}{x y:T}{P:am}{B:H}(a7:St cx base w.heap μ0 ⟨n,low0,rh⟩)(D:St cx base w'.heap μ h)(A:kE ⟨n,n,rh⟩ h)(g:oP w μ0 w' μ)(F:xu μ0 μ n h.size)
 (L:fa w'.heap μ x P) (b:BJ a6 n low0 x h=some (y,B)):Left cx base w w' μ0 ⟨n,low0,rh⟩ y B P/\kE ⟨n,low0,rh⟩ B:=by
 cases a6 with
 |true=>exact xa D A g F L b
 |false=>
  have b: @Option.rec T (λ_=>aa (T×H)) (mJ low0 x h) (λy=>tk n low0 x y h) (iT h n x)=some (y,B):=b;cases V:iT h n x with
  |none=>rw[V]at b;exact xa D A g F L b
  |some I=>
   rw[V]at b;have ca:=ut D L V;have X:n<=h.size:=A.size;have aA:∀a d,μ0 a=some d->a<n:=λa d c=>a7.ej c;have ae:∀s,s<=low0->(∀a,a<n->a<s->a<h.low)->(∀a d e,a<n->μ a=some d->h.get a=some e->∀z∈eQ e.ee,oY n z)->
    Left cx base w w' μ0 ⟨n,low0,rh⟩ I ⟨n,s,h.eY.drop (h.size-n)⟩ P/\kE ⟨n,low0,rh⟩ ⟨n,s,h.eY.drop (h.size-n)⟩:=by
    intro s W b7 hl;have av:=St.cut (low:=s) D X hl;refine⟨⟨lN n μ,ca,av,⟨⟨g.ext.size,λi M b8=> ?_,λa d c=> ?_,g.ext.oD,g.ext.kept⟩,g.os,g.tape,g.output⟩,au _,λa c=> ?_,λa ce aX=>absurd ce (by show¬n<=a;have aX:a<n:=aX;omega)⟩,?_⟩
    ·obtain⟨bn,bs⟩:=g.ext.mT i M b8;exact⟨bn,vN bs⟩
    ·rw[tJ (aA a d c)];exact g.ext.mu a d c
    ·left;obtain⟨d,C⟩:=Option.ne_none_iff_exists'.1 c;obtain⟨dv,c1⟩:=jP C;rcases F.2.1 a (by rw[c1];simp)with k|k
     ·exact k
     ·omega
    ·have R:=BZ (low:=s) A W b7;have aE:∀a,a<n->(⟨n,s,h.eY.drop (h.size-n)⟩:H).get a=h.get a:=by
      intro a c;rw[H.get_eq,H.get_eq];have K:a<h.size:=dj;simp only[c,K,bo,bG];congr 1;omega
     refine⟨av.wf,au _,R.low,λa c b6=> ?_,λa O r=> ?_⟩
     ·rw[aE a c];have:=R.ky a c b6;rwa[H.qx]at this
     ·rw[aE a (H.ej r)];have:=R.ver a O r;simpa only[H.qx]using this
   have a8:∀a d e,a<n->a<h.low->μ a=some d->h.get a=some e->∀z∈eQ e.ee,oY n z:=by
    intro a d e c W C v;have aN:=A.ky a c W;rw[v]at aN;rcases F.2.1 a (by rw[C];simp)with k|k
    ·obtain⟨bi,bB⟩:=Option.ne_none_iff_exists'.1 k;obtain⟨ef,Z,N⟩:=a7.box a bi bB;have bl:(⟨n,low0,rh⟩:H).get a=(⟨n,n,rh⟩:H).get a:=by rw[H.get_eq,H.get_eq]
     rw[bl,<-aN]at Z;simp only[ar]at Z;subst Z;exact N.low aA
    ·omega
   obtain⟨E,low,J⟩:=h;have b:(dJ (jF (Nat.sub E n) J) λq=>
    @Bool.rec (λ_=>aa (T×H))
     (@Bool.rec (λ_=>aa (T×H)) (mJ low0 x ⟨E,low,J⟩)
       (@Bool.rec (λ_=>aa (T×H)) (some (I,⟨n,low0,q⟩)) (some (I,⟨n,low,q⟩)) (Nat.blt low low0)) (rg n (Nat.sub n low) q))
     (some (I,⟨n,low0,q⟩)) (Nat.ble n low))=some (y,B):=b
   replace b:=dA.1 b;obtain⟨q,o,b⟩:=b;rw[ls]at o;have o:q=J.drop (E-n):=by
    split at o
    ·simp only[ar]at o;exact o.symm
    ·simp at o
   have di:low0<=n\/n<low0:=dj;cases G:Nat.ble n low with
   |true=>
    rw[G]at b;simp only[ar,ay]at b;obtain⟨rfl,rfl⟩:=b;have b9:n<=low:=bm G;rw[o];exact ae _ (au _) (λa c _=>by show a<low;omega) λa d e c=>a8 a d e c (by show a<low;omega)
   |false=>
    rw[G]at b;have b9:low<n:=by
     rcases aD low n with k|k
     ·exact k
     ·rw[bW k]at G;simp at G
    cases S:rg n (Nat.sub n low) q with
    |false=>rw[S]at b;exact xa D A g F L b
    |true=>
     rw[S]at b;have bk:∀a d e,a<n->μ a=some d->(⟨E,low,J⟩:H).get a=some e->∀z∈eQ e.ee,oY n z:=by
      intro a d e c C v;by_cases bC:a<low
      ·exact a8 a d e c bC C v
      ·obtain⟨ec,Y,N⟩:=D.box a d C;rw[v]at Y;simp only[ar]at Y;subst Y;have bS:q[n-1-a]? =some e:=by
        rw[H.get_eq]at v;have X:n<=E:=X;have bH:a<E:=dj;simp only[bH,bo]at v;rw[o,bG,<-v];congr 1;omega
       have U:=Cr S (n-1-a) e (by show _<n-low;omega) bS;intro z cb;obtain⟨Q,f,p⟩:=List.mem_flatMap.1 cb;cases M:e.it with
       |true=>
        obtain⟨_,⟨eb,cL,bN,_⟩|⟨c7,dk,dm,cp⟩|⟨dn,m,cL,ea,c6,K,al,an,de⟩⟩:=N.iter M
        ·rw[bN]at f;simp at f;rcases f with rfl|rfl<;>(simp[T.cells]at p;subst p;constructor)
        rotate_left
        ·have l:=U _ f;rw[K]at f;simp at f;rcases f with rfl|rfl|rfl|rfl
         ·simp[T.cells]at p;subst p;exact kV al l
         all_goals (simp[T.cells]at p;subst p;constructor)
        ·obtain⟨j,bT⟩:=List.mem_iff_getElem?.1 f;obtain⟨k,u,ds,rfl,c9,dd,bu,bz⟩:=cp j Q bT;have l:=U _ f;have l:we (jY n) [k,u]=true:=l;simp[T.cells]at p;subst p;refine .tuple _ λO r=> ?_;have ap:=pB l O r;simp at r;rcases r with rfl|rfl
         ·exact kV bu ap
         ·exact kV bz ap
       |false=>
        obtain⟨c4,t,K,al,an⟩:=(N.plain M).row;exact LU (U Q f) (λO r=>an.mem (List.mem_flatMap.2 ⟨Q,f,r⟩)) z p
     have:y=I/\B=⟨n,if low<low0 then low else low0,q⟩:=by
      cases l:Nat.blt low low0 with
      |true=>
       rw[l]at b;simp only[ar,ay]at b;have:low<low0:=by rwa[aG]at l
       exact⟨b.1.symm,by rw[<-b.2];simp[this]⟩
      |false=>
       rw[l]at b;simp only[ar,ay]at b;have:¬low<low0:=λk=>by rw[<-aG,l]at k;simp at k
       exact⟨b.1.symm,by rw[<-b.2];simp[this]⟩
     obtain⟨rfl,rfl⟩:=this;rw[o];exact ae _ (by split<;>omega) (λa _ c=>by show a<low;split at c<;>omega) bk
end
end
end Go.TI
