/- Texts TiMap to TiLeave. -/
import Derived.Test.YtmaeadedikngoaaGreatDoorA3
import Derived.MapKept
import Derived.Laws.IdiomStrings
import Derived.WideKeyRuns
import Derived.Maps.RangeRun
set_option linter.unusedVariables false
set_option linter.unusedSimpArgs false
namespace Go.TI
noncomputable section
open Go.MapKept
section
variable {P:ai}{cx:Ctx}{base:Nat}{w:World}{μ:Mu}{h h':H}{mask:Nat}{e:Env}{a:Act}{o:Oper}{hp hp':af Obj}{p:T}
theorem pj{j:Type}{c:j->Bool}{d:List j}(b:vH c d=true):∀f∈d,c f=true:=by
 induction d with
 |nil=>intro f hx;simp at hx
 |cons i d k=>
  have b: @Bool.rec (λ_=>Bool) false (vH c d) (c i)=true:=b
  cases g:c i with
  |false=>rw[g]at b;simp at b
  |true=>
   rw[g]at b
   intro f hx
   rcases List.mem_cons.1 hx with rfl|hx
   ·exact g
   ·exact k b f hx
theorem Db{g:T}{b:Nat}(c:byteOf g=some b):g= .int .u8 (.ofNat b)/\b<256:=by
 cases g with
 |int m l=>
  have c:fy (B5 m .u8) (@Int.rec (λ_=>aa Nat) (λb=>fy (Nat.blt b 256) (some b)) (λ_=>none) l)=some b:=c
  obtain⟨i,d⟩:=dz.1 c
  rw[wM]at i;subst i
  cases l with
  |ofNat f=>
   have d:fy (Nat.blt f 256) (some f)=some b:=d
   obtain⟨j,k⟩:=dz.1 d
   rw[aG]at j
   simp only[ar]at k;subst k
   exact⟨rfl,j⟩
  |negSucc f=>simp at d
 |_=>simp[byteOf]at c
theorem Hn(iB:iG P cx){n j:ab}{A:ah}(x:St cx base w.heap μ h)(r:jS w.heap μ mask e a.tmps)(al:o.op= .convert n j A)(J:P.underlying j=some .string){v:T}
 (hp:eJ cx mask e A=some p) (b:EY cx h n p=some v) (Y:h'=h):iM cx base w μ h.size ((execOp a.eval o).run P w) v h':=by
 subst Y
 replace b:=dj.1 b;obtain⟨bi,av,b⟩:=b
 obtain⟨d,G,M⟩:=ky (iB.ty _ _ av)
 cases aN:bi.u<;>rw[aN]at b M<;>simp only[reduceCtorEq]at b
 rename_i C
 have:=kS M;subst this
 replace b:=dj.1 b;obtain⟨a8,ap,b⟩:=b
 obtain⟨bp,I,N⟩:=ky (iB.ty _ _ ap)
 cases aX:a8.u<;>rw[aX]at b N<;>simp only[reduceCtorEq]at b
 rename_i k
 replace b:=dz.1 b;obtain⟨K,b⟩:=b
 rw[wM]at K;subst K
 have:=uQ N;subst this
 replace b:=dj.1 b;obtain⟨l,X,b⟩:=b
 replace b:=dj.1 b;obtain⟨f,S,b⟩:=b
 replace b:=dz.1 b;obtain⟨_,b⟩:=b
 simp only[ar]at b;subst b
 obtain⟨bv,a6⟩:=nj (P:=P) x (fG x r hp) X
 obtain⟨bk,B,a7,O,bs,D,bu,U⟩:=a6.form
 obtain⟨t,F⟩:=qF.1 S
 have W:l=f.map λi=>T.int .u8 (.ofNat i):=by
  apply cV
  intro c
  rw[aT]
  cases g:l[c]? with
  |none=>
   have:f[c]? =none:=by
    rw[List.getElem?_eq_none_iff]at g|-;omega
   rw[this];rfl
  |some z=>
   obtain⟨i,m,s⟩:=F c z g
   rw[m,(Db s).1];rfl
 have E:∀i∈f,i<256:=by
  intro i m
  obtain⟨c,g⟩:=List.mem_iff_getElem?.1 m
  have Z:c<l.length:=by
   rw[t]
   rcases aD c f.length with y|y
   ·exact y
   ·rw[aM y]at g;simp at g
  obtain⟨bn,q,s⟩:=F c l[c] (by simp[Z])
  rw[g]at q;simp only[ar]at q;subst q
  exact(Db s).2
 have an:eg w.heap μ (.str f) (.string (bytesOf f)):= .str f E
 rw[W,qm]at D
 have ae:∀(c:Nat) i,f[c]? =some i->a7[c]? =some (.int .u8 (i:Int)):=by
  intro c i g
  obtain⟨u,aA,aE⟩:=D.get (k:=c) (v:= .int .u8 (.ofNat i)) (by simp[g])
  rw[aA,aE.jr];rfl
 have V:(convert n j (a.eval A)).run P w= .ok (.string (bytesOf f)) w:=by
  rw[O]
  rcases U with⟨rfl,L⟩|⟨y,rfl,m⟩
  ·have Q:f=[]:=by
    have:=t;rw[L]at this;simp at this;exact bh this.symm
   subst Q
   rw[L]
   rw[run_convert_bytes_string w n j C none _ B G I J]
   simp[Conv.bytesToString]
   rfl
  ·have hl:l.length=(f.map UInt8.ofNat).length:=by simp[t]
   rw[hl]
   have:=run_convert_bytes_back (P:=P) w n j C y B (f.map UInt8.ofNat) G I J (by
    intro c g
    simp only[aH]at g
    have R:f[c]? =some f[c]:=by simp[g]
    rw[m c _ (ae c _ R)]
    simp only[List.getElem_map]
    rw[jb (E _ (aF g))])
   rw[this]
   rfl
 exact iM.pure x (by simp only[execOp,al,Sem.run_bind,V,Result.andThen_ok,Sem.run_pure]) an
end
end
noncomputable section
open Go.MapKept
section
variable {P:ai}{cx:Ctx}{base:Nat}{w:World}{μ:Mu}{h h':H}{mask:Nat}{e:Env}{a:Act}{o:Oper}{hp hp':af Obj}{p:T}
theorem F1{x:ah}{b:Bool}(j:St cx base w.heap μ h)(i:jS w.heap μ mask e a.tmps)(g:o.op= .next x b){d:T}
 (f:F2 x b cx mask e h=some (.val d h')):iM cx base w μ h.size ((execOp a.eval o).run P w) d h':=by
 cases b with
 |true=>exact DS j i g f
 |false=>exact absurd f (by intro c;have c:(none:aa kx)=some (.val d h'):=c;simp at c)
end
end
noncomputable section
def xV(P:ai)(c:am->World->Prop):Result Next->Prop
 | .ok (.value d) b=>c d b
 | .ok .skip b=>c Go.undef b
 | .ok (.enter g f) b=>Calls P g f b λ
  | .returned d,i=>c d i
  |_,_=>False
 |_=>False
theorem xV.mono{P:ai}{c d:am->World->Prop}{b:Result Next}(h:xV P c b)(g:∀i w,c i w->d i w):xV P d b:=by
 cases b with
 |halt l w=>exact h
 |ok j w=>
  cases j<;>simp only[xV]at h|- <;>first|exact h|exact g _ _ h|skip
  exact Calls.mono h λe k f=>by cases e<;>first|exact g _ _ f|exact f
theorem xV.wp{P:ai}{o:Oper}{a:Act}{w:World}{c:am->World->Prop}{next:Act->World->Prop}{Q:Exit->Act->World->Prop}
 (h:xV P c ((execOp a.eval o).run P w)) (f:∀g b,c g b->next (a.put o.dst g) b):o.wp P a w next Q:=by
 unfold Oper.wp
 generalize(execOp a.eval o).run P w=j at h
 cases j with
 |halt k w=>exact h.elim
 |ok i w=>
  cases i<;>simp only[xV]at h<;>simp only[Oper.upon]<;>first|exact h.elim|exact f _ _ h|skip
  exact Calls.mono h λe b d=>by cases e<;>first|exact f _ _ d|exact d.elim
theorem xV.some{P:ai}{b:am->World->Prop}{d:Result Next}(h:xV P b d):∃g w,b g w:=by
 cases d with
 |halt k w=>exact h.elim
 |ok f w=>
  cases f<;>simp only[xV]at h<;>first|exact h.elim|exact⟨_,_,h⟩|skip
  obtain⟨e,j,i,c,_⟩:=h []
  cases e<;>first|exact⟨_,_,c⟩|exact c.elim
section
variable {P:ai}{cx:Ctx}{base:Nat}{w:World}{μ:Mu}{h h':H}{mask:Nat}{e:Env}{a:Act}{o:Oper}
def Tf(cx:Ctx)(base:Nat)(w:World)(μ:Mu)(f:Nat)(g:T)(h':H)(d:am)(c:World):Prop:=
 ∃b,eg c.heap b g d/\St cx base c.heap b h'/\oI w μ c b/\wZ μ b f h'.size
theorem iM.X9{i:Result Next}{g:Nat}{j:T}(h:iM cx base w μ g i j h'):xV P (Tf cx base w μ g j h') i:=by
 obtain⟨m,n,k,l,b,c,d,f⟩:=h
 rcases l with rfl|⟨rfl,rfl⟩
 ·exact⟨k,b,c,d,f⟩
 ·exact⟨k,b,c,d,f⟩
theorem K2(iB:iG P cx)(l:St cx base w.heap μ h)(k:jS w.heap μ mask e a.tmps){d:Call}(i:o.op= .call d){f:T}
 (b:Bn d cx mask e h=some (.val f h')):iM cx base w μ h.size ((execOp a.eval o).run P w) f h':=by
 replace b:=dj.1 b;obtain⟨m,g,b⟩:=b
 cases c:d.callee with
 |builtin n=>rw[c]at b;exact Ct iB l k i c g b
 |invoke t s=>rw[c]at b;simp at b
 |value p=>
  rw[c]at b;simp only at b
  replace b:=dj.1 b;obtain⟨j,q,b⟩:=b
  cases j<;>simp only[reduceCtorEq]at b
  replace b:=dj.1 b;obtain⟨r,hl,b⟩:=b
  simp at b
theorem ud{j:Builtin}{s:List ab}{l:List T}{f:aj}{i:List T}(b:kH j cx h s l=some (.call f i)):False:=by
 have c:∀{d:aa T},val h d=some (.call f i)->False:=λg=>yR g
 have p:∀{d:aa (T×H)},iV d=some (.call f i)->False:=by
  intro d g
  unfold iV at g
  cases d<;>simp[two]at g
 cases j<;>simp only[kH,reduceCtorEq]at b
 case len=>
  split at b
  ·replace b:=dj.1 b;obtain⟨r,_,b⟩:=b
   replace b:=dj.1 b;obtain⟨t,_,b⟩:=b
   split at b
   ·split at b
    ·exact c b
    ·simp at b
   ·split at b<;>first|exact c b|(simp at b)
   ·exact c b
   ·simp at b
  ·simp at b
 case append=>
  split at b
  ·split at b
   ·replace b:=dj.1 b;obtain⟨r,_,b⟩:=b
    replace b:=dj.1 b;obtain⟨t,_,b⟩:=b
    obtain⟨_,b⟩:=dz.1 b
    exact p b
   ·simp at b
  ·simp at b
 case clear=>
  split at b
  ·split at b
   ·replace b:=dj.1 b;obtain⟨z,_,b⟩:=b
    split at b
    ·rename_i n _;cases n<;>simp at b
    ·simp at b
    ·rename_i k _
     cases k with
     |zero=>
      have b:some (kx.val .undef h)=some (.call f i):=b
      simp at b
     |succ k=>
      replace b:=dj.1 b;obtain⟨m,_,b⟩:=b
      obtain⟨y,v,A,x,q,u⟩:=m
      obtain⟨_,b⟩:=dz.1 b
      obtain⟨_,b⟩:=dz.1 b
      cases q with
      |true=>simp at b
      |false=>
       replace b:=dj.1 b;obtain⟨_,_,b⟩:=b
       replace b:=dj.1 b;obtain⟨_,_,b⟩:=b
       replace b:=dj.1 b;obtain⟨_,_,b⟩:=b
       simp at b
    ·simp at b
   ·simp at b
  ·simp at b
 case min=>split at b<;>first|exact c b|(simp at b)
 case max=>split at b<;>first|exact c b|(simp at b)
theorem Ie(k:St cx base w.heap μ h)(j:jS w.heap μ mask e a.tmps){c:Call}(r:o.op= .call c){g:aj}{i:List T}
 (b:Bn c cx mask e h=some (.call g i)):∃f:af am,fI w.heap μ i f.toList/\(execOp a.eval o).run P w=(callFunc g f).run P w:=by
 replace b:=dj.1 b;obtain⟨v,q,b⟩:=b
 have n:=uw k j q
 cases d:c.callee with
 |builtin x=>rw[d]at b;exact(ud b).elim
 |invoke D C=>rw[d]at b;simp at b
 |value A=>
  rw[d]at b;simp only at b
  replace b:=dj.1 b;obtain⟨u,s,b⟩:=b
  have t:=fG k j s
  cases u<;>simp only[reduceCtorEq]at b
  rename_i z y
  replace b:=dj.1 b;obtain⟨B,hl,b⟩:=b
  simp only[ar,kx.call.injEq]at b
  obtain⟨rfl,rfl⟩:=b
  obtain⟨l,m,p⟩:=t.qK
  rw[oO]at hl
  simp only[ar]at hl
  refine⟨c.args.map a.eval++l,?_,?_⟩
  ·rw[<-hl];simpa using n.append p
  ·simp[execOp,r,resolve,d,m,Deferred.ofValue,invoke]
theorem xm(iB:iG P cx)(d:St cx base w.heap μ h)(f:jS w.heap μ mask e a.tmps){s:T}
 (b:iO o.op cx mask e h=some (.val s h')):iM cx base w μ h.size ((execOp a.eval o).run P w) s h':=by
 cases c:o.op<;>rw[c]at b<;>simp only[iO,reduceCtorEq]at b
 case move k=>exact zh d f (.inl c) b
 case assign k=>exact zh d f (.inr c) b
 case pick=>exact F0 d f c b
 case alloc=>exact DX iB d c b
 case box=>exact If d f c b
 case build=>exact DW iB d f c b
 case buildSlice=>exact xy iB d f c b
 case load=>exact F3 iB d f c b
 case store=>exact DP iB d f c b
 case nilCheck=>exact zw d f c b
 case binOp z r k L K=>
  cases z<;>first
   |exact C2 iB (neg:=false) rfl d f c b
   |exact C2 iB (neg:=true) rfl d f c b
   |exact Ig (by simp) (by simp) d f c b
 case unOp=>exact K1 d f c b
 case convert J C k=>
  replace b:=dj.1 b;obtain⟨n,l,b⟩:=b
  replace b:=dj.1 b;obtain⟨I,j,b⟩:=b
  replace b:=dj.1 b;obtain⟨t,v,b⟩:=b
  split at b
  ·obtain⟨i,g⟩:=ff.1 b
   exact EJ iB d f c ⟨n,l⟩ j i g
  ·rename_i m
   split at b
   ·obtain⟨i,g⟩:=ff.1 b
    exact zi iB d f c ⟨n,l⟩ j i g
   ·obtain⟨i,g⟩:=ff.1 b
    obtain⟨B,x,q⟩:=ky (iB.ty _ _ v)
    rw[m]at q
    have:=rh q;subst this
    exact Hn iB d f c x j i g
  ·obtain⟨i,g⟩:=ff.1 b
   exact zi iB d f c ⟨n,l⟩ j i g
 case makeInterface=>exact DU iB d f c b
 case makeFunc=>exact F5 d f c b
 case makeSlice=>exact yA iB d f c b
 case slice=>exact DQ iB d f c b
 case fieldAddr=>exact yE iB d f c b
 case field=>exact DV iB d f c b
 case indexAddr=>exact yB iB d f c b
 case index=>exact DT iB d f c b
 case extract=>exact Bm d f c b
 case range r k=>
  replace b:=dj.1 b;obtain⟨A,y,b⟩:=b
  obtain⟨G,t,M,D,u,E,F,p,_⟩:=(iB.ty r A y).unfold
  split at b
  ·rename_i m
   rw[m]at p
   have:=rh p;subst this
   exact DR d f c u b
  ·simp at b
 case next=>exact F1 d f c b
 case «call»=>exact K2 iB d f c b
def NC(d:aa kx):Prop:=∀b c,d≠some (.call b c)
theorem NC.none:NC none:=λ_ _=>by simp
theorem NC.val{b:aa T}:NC (val h b):=λ_ _=>yR
theorem NC.some{b:T}:NC (some (.val b h)):=λ_ _=>by simp
theorem NC.dB{f:Type}{d:aa f}{c:f->aa kx}(h:∀b,NC (c b)):NC (dB d c):=by
 cases d with
 |none=>exact NC.none
 |some b=>exact h b
theorem NC.fy{b:Bool}{c:aa kx}(h:NC c):NC (fy b c):=by
 cases b with
 |false=>exact NC.none
 |true=>exact h
theorem NC.bool{b:Bool}{c d:aa kx}(f:NC c)(g:NC d):NC (Bool.casesOn b c d):=by
 cases b<;>assumption
theorem A4{b:Op}(d:∀c,b≠ .call c):NC (iO b cx mask e h):=by
 cases b<;>simp only[iO]<;>first
  |exact absurd rfl (d _)
  |exact NC.none
  |skip
 all_goals
  first
   |unfold Bk|unfold C1|unfold Bo|unfold K3|unfold yG|unfold nl|unfold F4|unfold Bh|unfold qj|unfold Zs|unfold Ju|unfold yD|unfold Bl
   |unfold ox|unfold Bi|unfold oz|unfold yF|unfold oy|unfold yC|unfold sS|unfold xw|unfold F2|skip
 case binOp b f i j g=>
  cases b<;>first
   |(simp only[];unfold UD;exact NC.dB λ_=>NC.dB λ_=>NC.dB λ_=>NC.fy (NC.dB λ_=>NC.val))
   |(simp only[];unfold K4;exact NC.dB λ_=>NC.dB λ_=>NC.val)
 all_goals
  repeat first
   |exact NC.none
   |exact NC.val
   |exact NC.some
   |exact NC.new
   |refine NC.dB λ_=> ?_
   |refine NC.fy ?_
   |refine NC.bool ?_ ?_
   |split
   |unfold kG
   |unfold nT
   |unfold Bj
   |unfold uF
   |(refine NC.nat ?_ λ_=> ?_)
   |(refine NC.opt ?_ λ_=> ?_)
   |(unfold two)
theorem Fi(m:St cx base w.heap μ h)(l:jS w.heap μ mask e a.tmps){c:aj}{g:List T}
 (d:iO o.op cx mask e h=some (.call c g)):(∃b,o.op= .call b)/\∃i:af am,fI w.heap μ g i.toList/\(execOp a.eval o).run P w=(callFunc c i).run P w:=by
 by_cases j:∃b,o.op= .call b
 ·obtain⟨b,f⟩:=j
  rw[f]at d
  exact⟨⟨b,f⟩,Ie m l f d⟩
 ·exact absurd d (A4 (λb k=>j ⟨b,k⟩) c g)
end
end
noncomputable section
structure kv(h h':H):Prop where
 wf:h'.ec.length=h'.size
 size:h.size<=h'.size
 low:h'.low<=h.low
 j8:∀b,b<h.size->b<h'.low->h'.get b=h.get b
 ver:∀b x,h.get b=some x->∃x',h'.get b=some x'/\(x'=x\/x.ver<x'.ver)
theorem kv.refl{h:H}(a:h.ec.length=h.size):kv h h:=⟨a,au _,au _,λ_ _ _=>rfl,λ_ c b=>⟨c,b,.inl rfl⟩⟩
theorem kv.trans{h d e:H}(b:kv h d)(a:kv d e):kv h e:=by
 refine⟨a.wf,aS b.size a.size,aS a.low b.low,λc f hl=> ?_,λc i g=> ?_⟩
 ·rw[a.j8 c (bD f b.size) hl,b.j8 c f (bD hl a.low)]
 ·obtain⟨j,d,r1⟩:=b.ver c i g
  obtain⟨k,e,r2⟩:=a.ver c j d
  refine⟨k,e,?_⟩
  rcases r1 with rfl|r1<;>rcases r2 with rfl|r2
  ·exact .inl rfl
  ·exact .inr r2
  ·exact .inr r1
  ·exact .inr (Nat.lt_trans r1 r2)
theorem H.dL{h:H}{a:Nat}{d:iE}(c:h.get a=some d):a<h.size:=by
 rw[H.get_eq]at c
 by_cases b:a<h.size
 ·exact b
 ·simp[b]at c
theorem kv.cons{h:H}(e:h.ec.length=h.size)(a:iE):kv h (h.cons a):=by
 refine⟨by simp[H.cons,e],by simp[H.cons],by simp[H.cons],λc d _=>H.mo d a,λc f b=>⟨f,?_,.inl rfl⟩⟩
 rw[H.mo (H.dL b) a];exact b
theorem kv.put{h e:H}(k:h.ec.length=h.size){c:Nat}{x d:iE}(i:h.get c=some x)(g:h.put c d=some e)(j:x.ver<d.ver):kv h e:=by
 obtain⟨p1,p2,p3,p4⟩:=z8 g k
 obtain⟨o,p,rfl⟩:=H.uv.1 g
 refine⟨p2,by simp,?_,λa m hl=>p4 a ?_,λa l b=> ?_⟩
 ·simp only;split<;>omega
 ·rintro rfl
  simp only at hl
  split at hl<;>omega
 ·by_cases f:a=c
  ·subst f
   rw[i]at b;simp only[ar]at b;subst b
   exact⟨d,p3,.inr j⟩
  ·exact⟨l,by rw[p4 a f];exact b,.inl rfl⟩
def Mv(h:H)(c:aa kx):Prop:=∀b a,c=some (.val b a)->kv h a
section
variable {h:H}
theorem Mv.none(b:h.ec.length=h.size):Mv h none:=λ_ _ a=>by simp at a
theorem Mv.val(b:h.ec.length=h.size){c:aa T}:Mv h (val h c):=λe d a=>by obtain⟨_,rfl⟩:=ff.1 a;exact kv.refl b
theorem Mv.some(c:h.ec.length=h.size){b:T}:Mv h (some (.val b h)):=λb d a=>by simp at a;obtain⟨_,rfl⟩:=a;exact kv.refl c
theorem Mv.new(d:h.ec.length=h.size){f:Nat->T}{c:iE}:Mv h (iV (h.new f c)):=λg e a=>by
 rw[iS,H.j4]at a
 simp only[ar,ax]at a
 obtain⟨_,rfl⟩:=a
 exact kv.cons d c
theorem Mv.dB(f:h.ec.length=h.size){d:Type}{b:aa d}{c:d->aa kx}(e:∀a,b=Option.some a->Mv h (c a)):Mv h (dB b c):=by
 cases b with
 |none=>exact Mv.none f
 |some a=>exact e a rfl
theorem Mv.fy(c:h.ec.length=h.size){a:Bool}{b:aa kx}(d:Mv h b):Mv h (fy a b):=by
 cases a with
 |false=>exact Mv.none c
 |true=>exact d
theorem Mv.bool(d:h.ec.length=h.size){a:Bool}{b c:aa kx}(e:Mv h b)(f:Mv h c):Mv h (Bool.casesOn a b c):=by
 cases a<;>assumption
theorem nV(c:h.ec.length=h.size){e bytes:Nat}{d g:List T}{f:T}{b:H}(a:h.iA e bytes d g=Option.some (f,b)):kv h b:=by
 replace a:=dj.1 a;obtain⟨i,_,a⟩:=a
 replace a:=dj.1 a;obtain⟨j,_,a⟩:=a
 obtain⟨_,a⟩:=dz.1 a
 obtain⟨_,a⟩:=dz.1 a
 obtain⟨_,a⟩:=dz.1 a
 obtain⟨_,a⟩:=dz.1 a
 rw[H.j4]at a
 simp only[ar,ax]at a
 obtain⟨_,rfl⟩:=a
 exact kv.cons c _
theorem Cu(g:h.ec.length=h.size){l bytes d e k:Nat}{o:List T}{m:T}{b:H}(a:h.lH l bytes d e k o=Option.some (m,b)):kv h b:=by
 replace a:=dj.1 a;obtain⟨n,i,a⟩:=a
 obtain⟨w,q,c,t,j,p⟩:=n
 simp only at a
 replace a:=dj.1 a;obtain⟨s,_,a⟩:=a
 replace a:=dj.1 a;obtain⟨r,_,a⟩:=a
 replace a:=dj.1 a;obtain⟨v,_,a⟩:=a
 obtain⟨_,a⟩:=dz.1 a
 obtain⟨_,a⟩:=dz.1 a
 obtain⟨_,a⟩:=dz.1 a
 obtain⟨_,a⟩:=dz.1 a
 obtain⟨_,a⟩:=dz.1 a
 cases j with
 |true=>simp at a
 |false=>
  simp only[gD,dD]at a
  replace a:=dj.1 a;obtain⟨u,f,a⟩:=a
  simp only[ar,ax]at a
  obtain⟨_,rfl⟩:=a
  exact kv.put g i f (by show c<c.succ;omega)
theorem GY(b:h.ec.length=h.size){k bytes:Nat}{c:T}{j:List T}{i:T}{d:H}(a:h.append k bytes c j=Option.some (i,d)):kv h d:=by
 unfold H.append at a
 cases j with
 |nil=>
  have a:Go.TI.fy (nS c) (Option.some (c,h))=Option.some (i,d):=a
  obtain⟨_,a⟩:=dz.1 a
  simp only[ar,ax]at a
  obtain⟨_,rfl⟩:=a
  exact kv.refl b
 |cons o p=>
  simp only at a
  cases c<;>simp only[reduceCtorEq]at a
  case dq e f=>
   cases e with
   |nil=>exact nV b a
   |cons q r=>obtain⟨_,a⟩:=dz.1 a;exact nV b a
  case arr l m g n f=>
   cases f with
   |false=>
    cases g with
    |zero=>exact Cu b a
    |succ g=>simp at a
   |true=>replace a:=dj.1 a;obtain⟨e,_,a⟩:=a;exact nV b a
theorem Ho(e:h.ec.length=h.size){i:Ty}{b j:T}{c:H}(a:h.store i b j=Option.some c):kv h c:=by
 unfold H.store at a
 cases b<;>simp only[reduceCtorEq]at a
 obtain⟨_,a⟩:=dz.1 a
 replace a:=dj.1 a;obtain⟨k,f,a⟩:=a
 obtain⟨o,m,d,n,g,l⟩:=k
 simp only at a
 obtain⟨_,a⟩:=dz.1 a
 cases g with
 |true=>simp at a
 |false=>
  simp only at a
  replace a:=dj.1 a;obtain⟨_,_,a⟩:=a
  replace a:=dj.1 a;obtain⟨_,_,a⟩:=a
  replace a:=dj.1 a;obtain⟨_,_,a⟩:=a
  simp only[gD,dD]at a
  exact kv.put e f a (by show d<d.succ;omega)
theorem Np(a:h.ec.length=h.size){f:Op}{cx:Ctx}{q:Nat}{o:Env}:Mv h (iO f cx q o h):=by
 cases f<;>simp only[iO]<;>first
  |exact Mv.none a
  |skip
 case binOp f r d x w=>
  cases f<;>first
   |(simp only[];unfold UD;exact Mv.dB a λ_ _=>Mv.dB a λ_ _=>Mv.dB a λ_ _=>Mv.fy a (Mv.dB a λ_ _=>Mv.val a))
   |(simp only[];unfold K4;exact Mv.dB a λ_ _=>Mv.dB a λ_ _=>Mv.val a)
 case store r s d=>
  unfold Bh
  refine Mv.dB a λ_ _=>Mv.dB a λ_ _=>Mv.dB a λ_ _=>Mv.fy a (Mv.dB a λm p=> ?_)
  intro c e b
  simp only[ar,kx.val.injEq]at b
  obtain⟨_,rfl⟩:=b
  exact Ho a p
 case next it u=>
  unfold F2
  refine Mv.bool a ?_ ?_
  ·exact Mv.none a
  ·unfold uF
   refine Mv.dB a λc _=> ?_
   cases c<;>simp only<;>first|exact Mv.none a|skip
   refine Mv.dB a λd j=>Mv.fy a ?_
   split
   ·refine Mv.bool a (Mv.some a) (Mv.dB a λg _=> ?_)
    obtain⟨g,wd⟩:=g
    simp only[jX,gD,dD]
    refine Mv.dB a λm i=> ?_
    intro c e b
    simp only[ar,kx.val.injEq]at b
    obtain⟨_,rfl⟩:=b
    exact kv.put a j i (by show d.ver<d.ver.succ;omega)
   ·exact Mv.none a
 case «call» g=>
  unfold Bn
  refine Mv.dB a λt _=> ?_
  split
  ·rename_i n _
   cases n<;>simp only[kH]<;>first|exact Mv.none a|skip
   case len=>
    split
    ·unfold Lm
     refine Mv.dB a λ_ _=>Mv.dB a λ_ _=> ?_
     repeat first|exact Mv.none a|exact Mv.val a|split
    ·exact Mv.none a
   case append=>
    split
    ·split
     ·unfold iu
      refine Mv.dB a λ_ _=>Mv.dB a λ_ _=>Mv.fy a ?_
      intro c e b
      exact GY a (iS.1 b)
     ·exact Mv.none a
    ·exact Mv.none a
   case clear=>
    split
    ·split
     ·unfold BS
      refine Mv.dB a λv _=> ?_
      split
      ·rename_i l _ _;cases l
       ·exact Mv.some a
       ·exact Mv.none a
      ·exact Mv.some a
      ·rename_i k _ _
       cases k with
       |zero=>exact Mv.some a
       |succ k=>
        refine Mv.dB a λd j=> ?_
        refine Mv.fy a (Mv.fy a (Mv.bool a ?_ ?_))
        ·refine Mv.dB a λl _=> ?_
         simp only[gD,dD]
         refine Mv.dB a λm i=> ?_
         intro c e b
         simp only[ar,kx.val.injEq]at b
         obtain⟨_,rfl⟩:=b
         exact kv.put a j i (by show d.ver<d.ver.succ;omega)
        ·exact Mv.none a
      ·exact Mv.none a
     ·exact Mv.none a
    ·exact Mv.none a
   all_goals (split<;>first|exact Mv.val a|exact Mv.none a)
  ·refine Mv.dB a λc _=> ?_
   split
   ·refine Mv.dB a λk _=> ?_
    intro c e b
    simp at b
   ·exact Mv.none a
  ·exact Mv.none a
 all_goals
  first
   |unfold Bk|unfold C1|unfold Bo|unfold K3|unfold yG|unfold nl|unfold F4|unfold qj|unfold Zs|unfold Ju|unfold yD|unfold Bl
   |unfold ox|unfold Bi|unfold oz|unfold yF|unfold oy|unfold yC|unfold sS|unfold xw|skip
 all_goals
  repeat first
   |exact Mv.none a
   |exact Mv.val a
   |exact Mv.some a
   |exact Mv.new a
   |refine Mv.dB a λ_ _=> ?_
   |refine Mv.fy a ?_
   |refine Mv.bool a ?_ ?_
   |split
   |unfold kG
   |unfold nT
   |unfold Bj
   |(refine Mv.opt a ?_ λ_=> ?_)
   |(unfold two)
end
end
noncomputable section
inductive oP (n:Nat):T->Prop where
 |undef:oP n .undef
 |bool (b:Bool):oP n (.bool b)
 |int (k:ak) (m:Int):oP n (.int k m)
 |str (s:List Nat):oP n (.str s)
 |jz:oP n .jz
 |ptr (b ep i j:Nat) (h:b<n):oP n (.ptr b ep i j)
 |iT (cs:List T) (h:∀v∈cs,oP n v):oP n (.iT cs)
 |dq (es:List T) (full:Bool) (h:∀v∈d6 es,oP n v):oP n (.dq es full)
 |fg:oP n .fg
 |arr (b ep o l:Nat) (full:Bool) (h:b<n):oP n (.arr b ep o l full)
 |func (f:aj) (cs:List T) (h:∀v∈cs,oP n v):oP n (.func f cs)
 |j3:oP n .j3
 |ka:oP n .ka
 |iface (t:ab) (v:T) (h:oP n v):oP n (.iface t v)
 |iter (b:Nat) (h:b<n):oP n (.iter b)
 |map (b:Nat) (h:b<n):oP n (.map b)
 |mL:oP n .mL
 |agg (cs:List T) (h:∀v∈cs,oP n v):oP n (.agg cs)
 |tuple (vs:List T) (h:∀v∈vs,oP n v):oP n (.tuple vs)
theorem oP.cells{n:Nat}{b:T}(h:oP n b):∀c∈b.cells,oP n c:=by
 cases h with
 |agg d h=>exact h
 |_=>intro c a;simp[T.cells]at a;subst a;constructor<;>assumption
theorem jT.low{a:T}(h:jT a)(n:Nat):oP n a:=by
 induction h with
 |dq c d _ i=>
  refine .dq c d λa f=> ?_
  obtain⟨b,e,g⟩:=List.mem_flatMap.1 f
  exact(i b e).cells a g
 |_=>constructor<;>assumption
theorem eg.low{hp:af Obj}{μ:Mu}{a:T}{m:am}(h:eg hp μ a m){n:Nat}(j:∀g i,μ g=some i->g<n):oP n a:=by
 induction h with
 |ptr g u y J i l f v F=>exact .ptr _ _ _ _ (j _ _ f)
 |arr g u L K p i l B f v hl h=>exact .arr _ _ _ _ _ (j _ _ f)
 |iter g i l f h=>exact .iter _ (j _ _ f)
 |map g i y f h=>exact .map _ (j _ _ f)
 |iT t s off arr r fz x w k q hr c=>exact .iT _ λa b=>by obtain⟨e,d⟩:=List.mem_iff_getElem?.1 b;exact c e a d
 |mP p l=>exact .dq _ _ λa b=>by simp[d6]at b
 |dq C D p s off z M arr r fz x w hl G I k q hr c=>exact .dq _ _ λa b=>by obtain⟨e,d⟩:=List.mem_iff_getElem?.1 b;exact c e a d
 |func E A o k hr c=>exact .func _ _ λa b=>by obtain⟨e,d⟩:=List.mem_iff_getElem?.1 b;exact c e a d
 |agg t o k q hr c=>exact .agg _ λa b=>by obtain⟨e,d⟩:=List.mem_iff_getElem?.1 b;exact c e a d
 |tuple N o k hr c=>exact .tuple _ λa b=>by obtain⟨e,d⟩:=List.mem_iff_getElem?.1 b;exact c e a d
 |iface r a m h c=>exact .iface _ _ c
 |_=>constructor
def lF(n:Nat)(μ:Mu):Mu:=⟨λa=>if a<n then μ a else none,μ.mH⟩
theorem sW{n a:Nat}{μ:Mu}(h:a<n):lF n μ a=μ a:=by simp[lF,h]
theorem jF{n a:Nat}{μ:Mu}{b:Loc}(h:lF n μ a=some b):a<n/\μ a=some b:=by
 have h:(if a<n then μ a else none)=some b:=h
 split at h
 ·exact⟨by assumption,h⟩
 ·simp at h
theorem vf{n a:Nat}{μ:Mu}(h:¬mG μ a):¬mG (lF n μ) a:=by
 rintro(⟨c,b,d,rfl⟩|hr)
 ·exact h (.inl ⟨c,b,(jF d).2,rfl⟩)
 ·exact h (.inr hr)
theorem eg.cut{hp:af Obj}{μ:Mu}{a:T}{q:am}(h:eg hp μ a q){n:Nat}(hl:oP n a):eg hp (lF n μ) a q:=by
 induction h with
 |undef=>exact .undef
 |bool f=>exact .bool f
 |int d L=>exact .int d L
 |str N h=>exact .str N h
 |jz=>exact .jz
 |ptr f u z J i e j v F=>cases hl with|ptr _ _ _ _ h=>exact .ptr f u z J i e (by rw[sW h];exact j) v F
 |iT t r off arr p fz y w g o hr c=>
  cases hl with|iT _ h=>exact .iT t r off arr p fz (vf y) w g o λd a b=>c d a b (h a (az b))
 |mP l e=>exact .mP l e
 |dq C D l r off s O arr p fz y w x G I g o hr c=>
  cases hl with|dq _ _ h=>exact .dq C D l r off s O arr p fz (vf y) w x G I g o λd a b=>c d a b (h a (az b))
 |fg e s=>exact .fg e s
 |arr f u M K l i e B j v x m=>cases hl with|arr _ _ _ _ _ h=>exact .arr f u M K l i e B (by rw[sW h];exact j) v x m
 |func E A k g hr c=>cases hl with|func _ _ h=>exact .func E A k g λd a b=>c d a b (h a (az b))
 |j3=>exact .j3
 |ka=>exact .ka
 |iface p a q h c=>cases hl with|iface _ _ h=>exact .iface p a q (c h)
 |iter f i e j m=>cases hl with|iter _ h=>exact .iter f i e (by rw[sW h];exact j) m
 |map f i z j m=>cases hl with|map _ h=>exact .map f i z (by rw[sW h];exact j) m
 |mL=>exact .mL
 |agg t k g o hr c=>cases hl with|agg _ h=>exact .agg t k g o λd a b=>c d a b (h a (az b))
 |tuple P k g hr c=>cases hl with|tuple _ h=>exact .tuple P k g λd a b=>c d a b (h a (az b))
theorem fI.cut{hp:af Obj}{μ:Mu}{b:List T}{c:List am}(h:fI hp μ b c){n:Nat}(hl:∀a∈b,oP n a):fI hp (lF n μ) b c:=
 ⟨h.1,λe a d=>(h.2 e a d).cut (hl a (az d))⟩
theorem pQ.cut{hp:af Obj}{μ:Mu}{m:Loc}{k:iE}(h:pQ hp μ m k){n:Nat}(hl:∀g∈d6 k.dO,oP n g):pQ hp (lF n μ) m k:=by
 refine⟨h.ep,h.sz,λb=> ?_,λb=> ?_⟩
 ·have f:=h.plain b
  obtain⟨p,D,a,c,d⟩:=f.row
  exact⟨⟨p,D,a,c,d.cut hl⟩,f.room,f.rQ,f.size,f.scalar⟩
 ·obtain⟨j,a|⟨r,a,c,d⟩|⟨z,y,B,C,q,a,c,d,w⟩⟩:=h.iter b
  ·exact⟨j,.inl a⟩
  rotate_left
  ·exact⟨j,.inr (.inr ⟨z,y,B,C,q,a,c.cut (hl _ (by rw[a];simp[d6,T.cells])),d,w⟩)⟩
  ·refine⟨j,.inr (.inl ⟨r,a,c,λx l o=> ?_⟩)⟩
   obtain⟨b,g,A,i,s,t,u,v⟩:=d x l o
   have e:=hl l (List.mem_flatMap.2 ⟨l,az o,by rw[i];simp[T.cells]⟩)
   rw[i]at e
   cases e with|tuple _ e=>exact⟨b,g,A,i,s,t,u.cut (e b (by simp)),v.cut (e g (by simp))⟩
theorem pQ.low{hp:af Obj}{μ:Mu}{e:Loc}{k:iE}(h:pQ hp μ e k){n:Nat}(c:∀l e,μ l=some e->l<n):∀j∈d6 k.dO,oP n j:=by
 intro j a
 cases d:k.it with
 |false=>
  obtain⟨y,K,f,g,b⟩:=(h.plain d).row
  obtain⟨o,t⟩:=List.mem_iff_getElem?.1 a
  exact(b.2 o j t).low c
 |true=>
  obtain⟨_,⟨I,w,s,_⟩|⟨A,f,g,b⟩|⟨F,E,w,J,z,f,g,b,D⟩⟩:=h.iter d
  ·rw[s]at a
   simp[d6,T.cells]at a
   rcases a with rfl|rfl<;>constructor
  rotate_left
  ·rw[f]at a
   simp[d6,T.cells]at a
   rcases a with rfl|rfl|rfl|rfl
   ·exact g.low c
   all_goals constructor
  ·obtain⟨x,u,i⟩:=List.mem_flatMap.1 a
   obtain⟨v,d⟩:=List.mem_iff_getElem?.1 u
   obtain⟨o,L,G,p,B,C,q,r⟩:=b v x d
   rw[p]at i
   simp[T.cells]at i
   subst i
   refine .tuple _ λM m=> ?_
   simp at m
   rcases m with rfl|rfl
   ·exact q.low c
   ·exact r.low c
inductive gG {α β:Type} (R:α->β->Prop):List α->List β->Prop where
 |nil:gG R [] []
 |cons {a:α} {b:β} {l:List α} {m:List β} (h:R a b) (t:gG R l m):gG R (a::l) (b::m)
theorem gG.imp{g i:Type}{b c:g->i->Prop}{e:List g}{f:List i}(h:gG b e f)(j:∀a d,b a d->c a d):gG c e f:=by
 induction h with
 |nil=>exact .nil
 |cons a _ k=>exact .cons (j _ _ a) k
theorem gG.length{c d:Type}{e:c->d->Prop}{a:List c}{b:List d}(h:gG e a b):a.length=b.length:=by
 induction h with
 |nil=>rfl
 |cons _ _ f=>simp[f]
theorem gG.append{f g:Type}{a:f->g->Prop}{b c:List f}{d e:List g}(h:gG a b d)(j:gG a c e):gG a (b++c) (d++e):=by
 induction h with
 |nil=>exact j
 |cons i _ k=>exact .cons i k
theorem gG.get{g b:Type}{c:g->b->Prop}{d:List g}{e:List b}(h:gG c d e){k:Nat}{y:b}(a:e[k]? =some y):∃f,d[k]? =some f/\c f y:=by
 induction h generalizing k with
 |nil=>simp at a
 |cons i _ j=>cases k with
  |zero=>simp at a;subst a;exact⟨_,by simp,i⟩
  |succ k=>simp at a;simpa using j a
theorem gG.mem{g b:Type}{c:g->b->Prop}{d:List g}{e:List b}(h:gG c d e){f:b}(k:f∈e):∃a∈d,c a f:=by
 obtain⟨m,i⟩:=List.mem_iff_getElem?.1 k
 obtain⟨a,j,l⟩:=h.get i
 exact⟨a,az j,l⟩
theorem gG.map{b:Type}{g:b->aa b}{f:b->b->Prop}{a e:List b}(i:∀c∈a,∀d,g c=some d->f c d)(h:eK g a=some e):gG f a e:=by
 induction a generalizing e with
 |nil=>simp at h;subst h;exact .nil
 |cons c a l=>
  rw[jc]at h
  replace h:=dj.1 h;obtain⟨d,j,h⟩:=h
  replace h:=dj.1 h;obtain⟨o,ht,h⟩:=h
  simp at h;subst h
  exact .cons (i c (by simp) d j) (l (λm k=>i m (by simp[k])) ht)
structure Fz(hp:af Obj)(μ:Mu)(n:Nat)(v v':T):Prop where
 rel:∀c,eg hp μ v c->eg hp (lF n μ) v' c
 scalar:v'.scalar=v.scalar
 cells:gG (λx x'=>(∀c,eg hp μ x c->eg hp (lF n μ) x' c)/\x'.scalar=x.scalar/\jT x') v.cells v'.cells
 closed:jT v'
theorem gG.d6{a:T->T->Prop}{b c:List T}(h:gG (λf g=>gG a f.cells g.cells) b c):gG a (TI.d6 b) (TI.d6 c):=by
 induction h with
 |nil=>exact .nil
 |cons d _ e=>simpa[TI.d6]using gG.append d e
section
variable {cx:Ctx}{base:Nat}{hp:af Obj}{μ:Mu}{h:H}{n:Nat}
theorem Fz.same{b:T}(hl:jT b)(a:b.cells=[b]):Fz hp μ n b b:=
 ⟨λc a=>a.cut (hl.low n),rfl,by rw[a];exact .cons ⟨λc a=>a.cut (hl.low n),rfl,hl⟩ .nil,hl⟩
theorem zJ{a:T}(b:∀d∈a.cells,jT d):jT a:=by
 cases a with
 |agg c=>exact .agg c b
 |_=>exact b _ (by simp[T.cells])
theorem E8{a:List T}(e:∀d∈a,∃b,eg hp μ d b):∃c,fI hp μ a c:=by
 induction a with
 |nil=>exact⟨[],fI.nil⟩
 |cons k a j=>
  obtain⟨b,f⟩:=e k (by simp)
  obtain⟨c,g⟩:=j λd i=>e d (by simp[i])
  exact⟨b::c,fI.cons f g⟩
theorem Dq{a:T}(d:∀c∈a.cells,∃b,eg hp μ c b)(g:∀c∈a.cells,c.scalar=true):∃b,eg hp μ a b:=by
 cases a with
 |agg f=>
  obtain⟨e,hl⟩:=E8 d
  exact⟨.agg e.toArray,eg.xS (by have hl:fI hp μ f e:=hl;simpa using hl) g⟩
 |_=>exact d _ (by simp[T.cells])
theorem fI.mem{b:List T}{d:List am}(h:fI hp μ b d){a:T}(f:a∈b):∃c,eg hp μ a c:=by
 obtain⟨g,e⟩:=List.mem_iff_getElem?.1 f
 exact⟨_,h.2 g a e⟩
theorem En(s:St cx base hp μ h):∀(D:Nat) (d c:T),(∃o,eg hp μ d o)->freeze h n D d=some c->Fz hp μ n d c:=by
 intro D
 induction D with
 |zero=>intro d c _ b;simp[freeze]at b
 |succ D bp=>
  intro d c V b
  cases d with
  |undef=>exact absurd b (by show¬(none=some c);simp)
  |ptr=>exact absurd b (by show¬(none=some c);simp)
  |iT=>exact absurd b (by show¬(none=some c);simp)
  |func=>exact absurd b (by show¬(none=some c);simp)
  |iface=>exact absurd b (by show¬(none=some c);simp)
  |iter=>exact absurd b (by show¬(none=some c);simp)
  |map=>exact absurd b (by show¬(none=some c);simp)
  |mL=>exact absurd b (by show¬(none=some c);simp)
  |tuple=>exact absurd b (by show¬(none=some c);simp)
  |bool l=>have b:some (T.bool l)=some c:=b;simp only[ar]at b;subst b;exact Fz.same (.bool l) rfl
  |int x m=>have b:some (T.int x m)=some c:=b;simp only[ar]at b;subst b;exact Fz.same (.int x m) rfl
  |str l=>have b:some (T.str l)=some c:=b;simp only[ar]at b;subst b;exact Fz.same (.str l) rfl
  |jz=>have b:some (T.jz)=some c:=b;simp only[ar]at b;subst b;exact Fz.same .jz rfl
  |fg=>have b:some (T.fg)=some c:=b;simp only[ar]at b;subst b;exact Fz.same .fg rfl
  |j3=>have b:some (T.j3)=some c:=b;simp only[ar]at b;subst b;exact Fz.same .j3 rfl
  |ka=>have b:some (T.ka)=some c:=b;simp only[ar]at b;subst b;exact Fz.same .ka rfl
  |dq r A=>
   have b:some (T.dq r A)=some c:=b
   simp only[ar]at b;subst b
   obtain⟨o,q⟩:=V
   refine Fz.same ?_ rfl
   cases q with
   |mP=>exact .dq _ _ λd g=>by simp at g
   |dq e r A eb off ef dv arr t fz er b hl aX eu et q hr=>
    exact .dq _ _ λd g=>zJ λi f=>(q i (List.mem_flatMap.2 ⟨d,g,f⟩)).2
  |agg O=>
   have b:(dB (eK (freeze h n D) O) λz=>some (T.agg z))=some c:=b
   replace b:=dj.1 b;obtain⟨z,hr,b⟩:=b
   simp only[ar]at b;subst b
   obtain⟨o,q⟩:=V
   obtain⟨bT,rfl,J,de⟩:=q.oK
   have p:gG (Fz hp μ n) O z:=gG.map (λi f B Y=>bp i B (J.mem f) Y) hr
   have U:∀d∈z,jT d:=λd g=>by obtain⟨i,_,f⟩:=p.mem g;exact f.closed
   have di:∀d∈z,d.scalar=true:=λd g=>by obtain⟨i,c6,f⟩:=p.mem g;rw[f.scalar];exact de i c6
   refine⟨λo q=> ?_,rfl,?_,.agg z U⟩
   ·obtain⟨bT,rfl,J,_⟩:=q.oK
    refine eg.xS ⟨by rw[<-p.length];exact J.1,λx d a8=> ?_⟩ di
    obtain⟨i,f,aX⟩:=p.get a8
    exact aX.rel _ (J.2 x i f)
   ·show gG _ O z
    exact p.imp λa l G=>⟨G.rel,G.scalar,G.closed⟩
  |arr l P v u A=>
   have b:fy (Nat.ble n l) (dB (h.get l) λi=> @iE.rec (λ_=>aa T) (λ_ Q _ exact ae k=>
    fy (Nat.beq Q P) (@Bool.rec (λ_=>aa T) (dB (dB (je v k) λz=>takeN u z) λr=>dB (eK (freeze h n D) r) λE=>
     @List.rec T (λ_=>aa T) (@List.rec T (λ_=>aa T) (@Bool.rec (λ_=>aa T) (some .fg) (some (.dq [] false)) exact) (λ_ _ _=>some .fg) k) (λ_ _ _=>some (.dq E A)) E) none ae)) i)=some c:=b
   obtain⟨bn,b⟩:=dz.1 b
   have bn:n<=l:=bA bn
   replace b:=dj.1 b;obtain⟨bB,b9,b⟩:=b
   obtain⟨dv,Q,eA,R,ae,k⟩:=bB
   simp only at b
   obtain⟨aE,b⟩:=dz.1 b
   have aE:Q=P:=aC aE
   cases ae with
   |true=>simp at b
   |false=>
    replace b:=dj.1 b;obtain⟨r,w,b⟩:=b
    replace b:=dj.1 b;obtain⟨E,cb,K⟩:=b
    obtain⟨c1,w⟩:v+u<=k.length/\r=(k.drop v).take u:=by
     replace w:=dj.1 w;obtain⟨r0,C,p⟩:=w
     rw[kZ]at C
     split at C
     ·simp only[ar]at C;subst C
      rw[mS]at p
      split at p
      ·simp only[ar]at p
       rename_i bi cX
       simp only[List.length_drop]at cX
       exact⟨by omega,p.symm⟩
      ·simp at p
     ·simp at C
    have al:∀o,eg hp μ (.arr l P v u A) o->eg hp (lF n μ) c o/\jT c/\c.cells=[c]/\c.scalar=true:=by
     intro o q
     obtain⟨j,ea,an,rfl,S,aA,hl,dd⟩:=q.rD
     obtain⟨eB,F,L⟩:=s.box l j S
     rw[b9]at F
     simp only[ar]at F;subst F
     have bX:=L.ep
     simp only at bX
     obtain⟨a7,c7,b6⟩:=dd (by omega)
     have y:=L.plain rfl
     simp only at y
     obtain⟨arr,t,C,p,ap⟩:=y.row
     have aN:∀d∈r,d.cells.length=j.sz:=λd g=>y.size d (bE (bG (w▸g)))
     have c9:∀d∈d6 k,∃o,eg hp μ d o:=λd g=>ap.mem g
     have bk:∀d∈r,d∈k:=λd g=>bE (bG (w▸g))
     have I:gG (Fz hp μ n) r E:=gG.map (λi f B Y=>bp i B (Dq (λN Z=>c9 N (List.mem_flatMap.2 ⟨i,bk i f,Z⟩)) λN Z=>y.scalar N (List.mem_flatMap.2 ⟨i,bk i f,Z⟩)) Y) cb
     have X:E.length=u:=by rw[<-I.length,w];simp;omega
     have ca:R=true->j.cap=k.length:=y.rQ
     cases E with
     |nil=>
      have cL:u=0:=by simpa using X.symm
      subst cL
      have aA:c= .fg\/(k=[]/\R=true/\c= .dq [] false):=by
       cases k with
       |cons N eC=>have b:some T.fg=some c:=K;simp only[ar]at b;exact .inl b.symm
       |nil=>
        cases R with
        |false=>have b:some T.fg=some c:=K;simp only[ar]at b;exact .inl b.symm
        |true=>have b:some (T.dq [] false)=some c:=K;simp only[ar]at b;exact .inr ⟨rfl,rfl,b.symm⟩
      rcases aA with rfl|⟨rfl,rfl,rfl⟩
      ·exact⟨.fg _ _,.fg,rfl,rfl⟩
      ·have av:j.cap=0:=by simpa using ca rfl
       have:an=0:=by
        cases A with
        |false=>have:=c7 rfl;omega
        |true=>exact a7 rfl
       subst this
       exact⟨.mP _ _,.dq _ _ λd g=>by simp at g,rfl,rfl⟩
     |cons B M=>
      have b:some (T.dq (B::M) A)=some c:=K
      simp only[ar]at b;subst b
      simp only[aZ]at X
      have U:∀d∈B::M,jT d:=λd g=>by obtain⟨i,_,f⟩:=I.mem g;exact f.closed
      refine⟨?_,.dq _ _ U,rfl,rfl⟩
      rw[b6 (by omega),<-X]
      have W:=gG.d6 (I.imp λa l G=>G.cells)
      have cp:(d6 (B::M)).length=u*j.sz:=by rw[<-W.length,fM aN,w];congr 1;simp;omega
      have a6:d6 r=((d6 k).drop (v*j.sz)).take (u*j.sz):=by rw[w];exact Bv y.size v u
      have ce:(d6 k).length=k.length*j.sz:=fM y.size
      have eh:v*j.sz+u*j.sz<=k.length*j.sz:=by rw[<-bY];exact aV _ c1
      have eo:k.length*j.sz<=j.cap*j.sz:=aV _ y.room
      refine .dq B M A j.io (v*j.sz) an j.sz arr t (0,0) ?_ C (by omega) (λx=>by rw[a7 x];omega) ?_ ?_ ?_ ?_
      ·rintro(⟨bz,bv,b7,b8⟩|hr)
       ·obtain⟨ey,ds⟩:=jF b7
        have:=s.inj bz l bv j ds S b8
        omega
       ·exact s.apart l j S hr
      ·intro d g
       obtain⟨i,f,dm⟩:=I.mem g
       rw[<-dm.cells.length]
       exact aN i f
      ·rw[cp,p];omega
      ·intro d g
       obtain⟨i,f,F,L,dk⟩:=W.mem g
       refine⟨?_,dk⟩
       rw[L]
       rw[a6]at f
       exact y.scalar i (bE (bG f))
      ·intro x d g
       obtain⟨i,f,F,_⟩:=W.get g
       refine F _ ?_
       rw[a6,bK]at f
       split at f
       ·rename_i a8
        rw[bH]at f
        have:=ap.2 _ i f
        have bi:v*j.sz+x<(d6 k).length:=by rw[ce];omega
        have c4:v*j.sz+x<arr.size:=by rw[p];omega
        simpa[List.getD,bK,bi,aW,c4]using this
       ·simp at f
    obtain⟨bN,av⟩:=V
    obtain⟨_,bs,dn,bu⟩:=al bN av
    exact⟨λo q=>(al o q).1,by rw[bu];rfl,by rw[dn];exact .cons ⟨λo q=>(al o q).1,by rw[bu];rfl,bs⟩ .nil,bs⟩
end
end
noncomputable section
section
variable {cx:Ctx}{base:Nat}{hp:af Obj}{μ:Mu}{h:H}{n:Nat}
theorem sU(t:St cx base hp μ h){f d:T}(r:∃e,eg hp μ f e)(a:iK h n f=some d):
 (∀e,eg hp μ f e->eg hp (lF n μ) d e)/\d.scalar=f.scalar:=by
 have q:freeze h n 12 f=some d->(∀e,eg hp μ f e->eg hp (lF n μ) d e)/\d.scalar=f.scalar:=λs=>
  let m:=En t 12 f d r s
  ⟨m.rel,m.scalar⟩
 cases f with
 |undef=>
  have a:some T.undef=some d:=a
  simp only[ar]at a;subst a
  exact⟨λe g=>g.cut .undef,rfl⟩
 |ptr b i o p=>
  have a: @Bool.rec (λ_=>aa T) (some (.ptr b i o p)) none (Nat.ble n b)=some d:=a
  cases c:Nat.ble n b with
  |true=>rw[c]at a;simp at a
  |false=>
   rw[c]at a
   have a:some (T.ptr b i o p)=some d:=a
   simp only[ar]at a;subst a
   have:b<n:=by
    rcases aD b n with x|x
    ·exact x
    ·rw[cj x]at c;simp at c
   exact⟨λe g=>g.cut (.ptr _ _ _ _ this),rfl⟩
 |map b=>
  have a: @Bool.rec (λ_=>aa T) (some (.map b)) none (Nat.ble n b)=some d:=a
  cases c:Nat.ble n b with
  |true=>rw[c]at a;simp at a
  |false=>
   rw[c]at a
   have a:some (T.map b)=some d:=a
   simp only[ar]at a;subst a
   have:b<n:=by
    rcases aD b n with x|x
    ·exact x
    ·rw[cj x]at c;simp at c
   exact⟨λe g=>g.cut (.map _ this),rfl⟩
 |arr b i l k j=>
  have a: @Bool.rec (λ_=>aa T) (some (.arr b i l k j)) (freeze h n 12 (.arr b i l k j)) (Nat.ble n b)=some d:=a
  cases c:Nat.ble n b with
  |true=>rw[c]at a;exact q a
  |false=>
   rw[c]at a
   have a:some (T.arr b i l k j)=some d:=a
   simp only[ar]at a;subst a
   have:b<n:=by
    rcases aD b n with x|x
    ·exact x
    ·rw[cj x]at c;simp at c
   exact⟨λe g=>g.cut (.arr _ _ _ _ _ this),rfl⟩
 |_=>exact q a
theorem Cf(s:St cx base hp μ h){d c:List T}{m:List am}(g:fI hp μ d m)(p:eK (iK h n) d=some c):
 fI hp (lF n μ) c m/\∀b∈c,∃e∈d,b.scalar=e.scalar:=by
 have f:gG (λk o=>(∀l,eg hp μ k l->eg hp (lF n μ) o l)/\o.scalar=k.scalar) d c:=gG.map (λb a e j=>sU s (g.mem a) j) p
 refine⟨⟨by rw[<-f.length];exact g.1,λr k q=> ?_⟩,λb a=> ?_⟩
 ·obtain⟨b,a,i⟩:=f.get q
  exact i.1 _ (g.2 r b a)
 ·obtain⟨e,j,i⟩:=f.mem a
  exact⟨e,j,i.2⟩
theorem pB(g:St cx base hp μ h){d e:T}{b:am}(c:eg hp μ d b)(a:jP h n d=some e):eg hp (lF n μ) e b:=by
 cases d with
 |agg i=>
  have a:(dB (eK (iK h n) i) λf=>some (T.agg f))=some e:=a
  replace a:=dj.1 a;obtain⟨f,hr,a⟩:=a
  simp only[ar]at a;subst a
  obtain⟨t,rfl,l,o⟩:=c.oK
  obtain⟨j,k⟩:=Cf g l hr
  exact eg.xS j λr p=>by obtain⟨s,q,m⟩:=k r p;rw[m];exact o s q
 |_=>exact(sU g ⟨b,c⟩ a).1 b c
theorem t7(k:St cx base hp μ h){c d:T}{b:am}(e:eg hp μ c b)(a:jd h n c=some d):eg hp (lF n μ) d b:=by
 cases c with
 |tuple l=>
  have a:(dB (eK (jP h n) l) λf=>some (T.tuple f))=some d:=a
  replace a:=dj.1 a;obtain⟨f,hr,a⟩:=a
  simp only[ar]at a;subst a
  obtain⟨o,rfl,i⟩:=e.yw
  have g:gG (λc d=>∀b,eg hp μ c b->eg hp (lF n μ) d b) l f:=gG.map (λm j t r b e=>pB k e r) hr
  refine .tuple f o (by rw[<-g.length];simpa using i.1.symm) λs c q=> ?_
  obtain⟨m,j,p⟩:=g.get q
  have:=p _ (i.2 s m j)
  simpa[aW,List.getD]using this
 |_=>exact pB k e a
theorem kN{b:T}{i:am}(g:eg hp μ b i)(a:jR n b=true):oP n b:=by
 cases b with
 |ptr c j m o=>exact .ptr _ _ _ _ (by have a:Nat.blt c n=true:=a;rwa[aG]at a)
 |arr c j q p k=>exact .arr _ _ _ _ _ (by have a:Nat.blt c n=true:=a;rwa[aG]at a)
 |map c=>exact .map _ (by have a:Nat.blt c n=true:=a;rwa[aG]at a)
 |iT l=>
  obtain⟨_,_,_,_,_,_,_,_,_,e,_⟩:=g.kX
  exact .iT _ λb d=>(e b d).2.low n
 |dq f k=>
  refine .dq _ _ λb d=> ?_
  cases f with
  |nil=>simp[d6]at d
  |cons r f=>obtain⟨_,_,_,_,_,_,_,_,_,_,_,_,_,_,e,_⟩:=g.sO;exact(e b d).2.low n
 |undef=>simp[jR]at a
 |func=>simp[jR]at a
 |iface=>simp[jR]at a
 |iter=>simp[jR]at a
 |agg=>simp[jR]at a
 |tuple=>simp[jR]at a
 |_=>constructor
theorem Ll{i:T}(g:below n i=true)(b:∀c∈i.cells,∃d,eg hp μ c d):∀c∈i.cells,oP n c:=by
 cases i with
 |agg e=>
  intro c a
  obtain⟨d,b⟩:=b c a
  exact kN b (pj (show vH (jR n) e=true from g) c a)
 |func p e=>
  intro c a
  obtain⟨d,b⟩:=b c a
  simp[T.cells]at a;subst a
  obtain⟨m,rfl,j⟩:=b.qK
  exact .func _ _ λl f=>by obtain⟨o,k⟩:=j.mem f;exact kN k (pj (show vH (jR n) e=true from g) l f)
 |tuple e=>
  intro c a
  obtain⟨d,b⟩:=b c a
  simp[T.cells]at a;subst a
  obtain⟨m,rfl,j⟩:=b.yw
  exact .tuple _ λl f=>by obtain⟨o,k⟩:=j.mem f;exact kN k (pj (show vH (jR n) e=true from g) l f)
 |_=>
  intro c a
  obtain⟨d,b⟩:=b c a
  simp[T.cells]at a;subst a
  exact kN b g
theorem BR{c:Nat}{f:List iE}(b:qT n c f=true):∀a d,a<c->f[a]? =some d->∀m∈d.dO,below n m=true:=by
 induction c generalizing f with
 |zero=>intro a d j;omega
 |succ c k=>
  intro a d j e
  cases f with
  |nil=>simp at e
  |cons i l=>
   have b: @Bool.rec (λ_=>Bool) false (qT n c l) (vH (below n) i.dO)=true:=b
   cases g:vH (below n) i.dO with
   |false=>rw[g]at b;simp at b
   |true=>
    rw[g]at b
    cases a with
    |zero=>simp at e;subst e;exact pj g
    |succ a=>exact k b a d (by omega) (by simpa using e)
theorem St.cut(c:St cx base hp μ h)(y:n<=h.size){low:Nat}(hl:∀a b e,a<n->μ a=some b->h.get a=some e->∀g∈d6 e.dO,oP n g):
 St cx base hp (lF n μ) ⟨n,low,h.ec.drop (h.size-n)⟩:=by
 have t:∀a,a<n->(⟨n,low,h.ec.drop (h.size-n)⟩:H).get a=h.get a:=by
  intro a d
  rw[H.get_eq,H.get_eq]
  have f:a<h.size:=by omega
  simp only[d,f,aY,bH]
  congr 1;omega
 refine⟨?_,c.fit,?_,?_,?_,λa b d=>c.apart a b (jF d).2,c.pM,?_⟩
 ·simp only[List.length_drop,c.wf];omega
 ·intro a b d
  obtain⟨j,k⟩:=jF d
  obtain⟨e,i,u⟩:=c.box a b k
  exact⟨e,by rw[t a j];exact i,u.cut (hl a b e j k i)⟩
 ·intro a m b l f q r
  exact c.inj a m b l (jF f).2 (jF q).2 r
 ·intro a b d;exact c.low a b (jF d).2
 ·intro p o s
  have:=c.xz p o s
  refine this.cut ?_
  obtain⟨_,_,_,_,_,_,_,_,_,v,_⟩:=this.kX
  exact .iT _ λg x=>(v g x).2.low n
theorem St.I9(a:St cx base hp μ h)(g:Nat):St cx base hp μ ⟨h.size,g,h.ec⟩:=by
 refine⟨a.wf,a.fit,λd c e=> ?_,a.inj,a.low,a.apart,a.pM,a.xz⟩
 obtain⟨i,b,f⟩:=a.box d c e
 exact⟨i,by rw[H.get_eq]at b|-;exact b,f⟩
def Left(cx:Ctx)(base:Nat)(w w':World)(μ:Mu)(d:H)(e:T)(b:H)(c:am):Prop:=
 ∃a,eg w'.heap a e c/\St cx base w'.heap a b/\oI w μ w' a/\wZ μ a d.size b.size
theorem H.qk(h:H)(b a:Nat):(⟨h.size,b,h.ec⟩:H).get a=h.get a:=by rw[H.get_eq,H.get_eq]
theorem Bq{n low0 low:Nat}{b:List iE}(c:kv ⟨n,n,b⟩ h)(hl:low<=low0)(j:∀a,a<n->a<low->a<h.low):kv ⟨n,low0,b⟩ ⟨h.size,low,h.ec⟩:=by
 have d:∀a,(⟨n,low0,b⟩:H).get a=(⟨n,n,b⟩:H).get a:=λa=>by rw[H.get_eq,H.get_eq]
 refine⟨c.wf,c.size,hl,λa e k=> ?_,λa l f=> ?_⟩
 ·rw[H.qk,d]
  exact c.j8 a e (j a e k)
 ·rw[d]at f
  obtain⟨m,g,i⟩:=c.ver a l f
  exact⟨m,by rw[H.qk];exact g,i⟩
theorem DH{low0:Nat}{d f:T}{e:H}(a:mB low0 d h=some (f,e)):f=d/\e=⟨h.size,if h.low<low0 then h.low else low0,h.ec⟩:=by
 obtain⟨j,b,g⟩:=h
 have a: @Bool.rec (λ_=>aa (T×H)) (some (d,⟨j,low0,g⟩)) (some (d,⟨j,b,g⟩)) (Nat.blt b low0)=some (f,e):=a
 cases c:Nat.blt b low0 with
 |true=>
  rw[c]at a
  simp only[ar,ax]at a
  have:b<low0:=by rwa[aG]at c
  exact⟨a.1.symm,by rw[<-a.2];simp[this]⟩
 |false=>
  rw[c]at a
  simp only[ar,ax]at a
  have:¬b<low0:=λi=>by rw[<-aG,c]at i;simp at i
  exact⟨a.1.symm,by rw[<-a.2];simp[this]⟩
variable {w w':World}{μ0:Mu}{low0:Nat}{qU:List iE}
theorem wL{c d:T}{b:am}{a:H}(k:St cx base w'.heap μ h)(f:kv ⟨n,n,qU⟩ h)(l:oI w μ0 w' μ)(e:wZ μ0 μ n h.size)(i:eg w'.heap μ c b)
 (j:mB low0 c h=some (d,a)):Left cx base w w' μ0 ⟨n,low0,qU⟩ d a b/\kv ⟨n,low0,qU⟩ a:=by
 obtain⟨rfl,rfl⟩:=DH j
 exact⟨⟨μ,i,k.I9 _,l,e⟩,Bq f (by split<;>omega) (λm _ g=>by split at g<;>omega)⟩
theorem FO{a6:Bool}{x y:T}{P:am}{B:H}(a7:St cx base w.heap μ0 ⟨n,low0,qU⟩)(D:St cx base w'.heap μ h)(A:kv ⟨n,n,qU⟩ h)(g:oI w μ0 w' μ)(F:wZ μ0 μ n h.size)
 (L:eg w'.heap μ x P) (b:qH a6 n low0 x h=some (y,B)):Left cx base w w' μ0 ⟨n,low0,qU⟩ y B P/\kv ⟨n,low0,qU⟩ B:=by
 cases a6 with
 |true=>exact wL D A g F L b
 |false=>
  have b: @Option.rec T (λ_=>aa (T×H)) (mB low0 x h) (λy=>sL n low0 x y h) (jd h n x)=some (y,B):=b
  cases V:jd h n x with
  |none=>rw[V]at b;exact wL D A g F L b
  |some I=>
   rw[V]at b
   have cb:=t7 D L V
   have X:n<=h.size:=A.size
   have aA:∀a d,μ0 a=some d->a<n:=λa d c=>a7.dL c
   have ae:∀s,s<=low0->(∀a,a<n->a<s->a<h.low)->(∀a d e,a<n->μ a=some d->h.get a=some e->∀z∈d6 e.dO,oP n z)->
    Left cx base w w' μ0 ⟨n,low0,qU⟩ I ⟨n,s,h.ec.drop (h.size-n)⟩ P/\kv ⟨n,low0,qU⟩ ⟨n,s,h.ec.drop (h.size-n)⟩:=by
    intro s W b8 hl
    have av:=St.cut (low:=s) D X hl
    refine⟨⟨lF n μ,cb,av,⟨⟨g.ext.size,λi M b9=> ?_,λa d c=> ?_,g.ext.mH,g.ext.kept⟩,g.os,g.tape,g.output⟩,au _,λa c=> ?_,λa cp aX=>absurd cp (by show¬n<=a;have aX:a<n:=aX;omega)⟩,?_⟩
    ·obtain⟨bp,bs⟩:=g.ext.wF i M b9
     exact⟨bp,vf bs⟩
    ·rw[sW (aA a d c)];exact g.ext.mu a d c
    ·left
     obtain⟨d,C⟩:=Option.ne_none_iff_exists'.1 c
     obtain⟨dv,c1⟩:=jF C
     rcases F.2.1 a (by rw[c1];simp)with k|k
     ·exact k
     ·omega
    ·have R:=Bq (low:=s) A W b8
     have aE:∀a,a<n->(⟨n,s,h.ec.drop (h.size-n)⟩:H).get a=h.get a:=by
      intro a c
      rw[H.get_eq,H.get_eq]
      have K:a<h.size:=by omega
      simp only[c,K,aY,bH]
      congr 1;omega
     refine⟨av.wf,au _,R.low,λa c b7=> ?_,λa O r=> ?_⟩
     ·rw[aE a c]
      have:=R.j8 a c b7
      rwa[H.qk]at this
     ·rw[aE a (H.dL r)]
      have:=R.ver a O r
      simpa only[H.qk]using this
   have a8:∀a d e,a<n->a<h.low->μ a=some d->h.get a=some e->∀z∈d6 e.dO,oP n z:=by
    intro a d e c W C v
    have aN:=A.j8 a c W
    rw[v]at aN
    rcases F.2.1 a (by rw[C];simp)with k|k
    ·obtain⟨bi,bz⟩:=Option.ne_none_iff_exists'.1 k
     obtain⟨eh,Z,N⟩:=a7.box a bi bz
     have bn:(⟨n,low0,qU⟩:H).get a=(⟨n,n,qU⟩:H).get a:=by rw[H.get_eq,H.get_eq]
     rw[bn,<-aN]at Z
     simp only[ar]at Z;subst Z
     exact N.low aA
    ·omega
   obtain⟨E,low,J⟩:=h
   have b:(dB (je (Nat.sub E n) J) λq=>
    @Bool.rec (λ_=>aa (T×H))
     (@Bool.rec (λ_=>aa (T×H)) (mB low0 x ⟨E,low,J⟩)
       (@Bool.rec (λ_=>aa (T×H)) (some (I,⟨n,low0,q⟩)) (some (I,⟨n,low,q⟩)) (Nat.blt low low0)) (qT n (Nat.sub n low) q))
     (some (I,⟨n,low0,q⟩)) (Nat.ble n low))=some (y,B):=b
   replace b:=dj.1 b;obtain⟨q,o,b⟩:=b
   rw[kZ]at o
   have o:q=J.drop (E-n):=by
    split at o
    ·simp only[ar]at o;exact o.symm
    ·simp at o
   have di:low0<=n\/n<low0:=by omega
   cases G:Nat.ble n low with
   |true=>
    rw[G]at b
    simp only[ar,ax]at b
    obtain⟨rfl,rfl⟩:=b
    have ca:n<=low:=bA G
    rw[o]
    exact ae _ (au _) (λa c _=>by show a<low;omega) λa d e c=>a8 a d e c (by show a<low;omega)
   |false=>
    rw[G]at b
    have ca:low<n:=by
     rcases aD low n with k|k
     ·exact k
     ·rw[cj k]at G;simp at G
    cases S:qT n (Nat.sub n low) q with
    |false=>rw[S]at b;exact wL D A g F L b
    |true=>
     rw[S]at b
     have bk:∀a d e,a<n->μ a=some d->(⟨E,low,J⟩:H).get a=some e->∀z∈d6 e.dO,oP n z:=by
      intro a d e c C v
      by_cases bB:a<low
      ·exact a8 a d e c bB C v
      ·obtain⟨ef,Y,N⟩:=D.box a d C
       rw[v]at Y
       simp only[ar]at Y;subst Y
       have bX:q[n-1-a]? =some e:=by
        rw[H.get_eq]at v
        have X:n<=E:=X
        have bN:a<E:=by omega
        simp only[bN,aY]at v
        rw[o,bH,<-v]
        congr 1;omega
       have U:=BR S (n-1-a) e (by show _<n-low;omega) bX
       intro z ce
       obtain⟨Q,f,p⟩:=List.mem_flatMap.1 ce
       cases M:e.it with
       |true=>
        obtain⟨_,⟨eb,cX,bT,_⟩|⟨c7,dk,dm,cL⟩|⟨dn,m,cX,ea,c6,K,al,an,de⟩⟩:=N.iter M
        ·rw[bT]at f
         simp at f
         rcases f with rfl|rfl<;>(simp[T.cells]at p;subst p;constructor)
        rotate_left
        ·have l:=U _ f
         rw[K]at f
         simp at f
         rcases f with rfl|rfl|rfl|rfl
         ·simp[T.cells]at p;subst p
          exact kN al l
         all_goals (simp[T.cells]at p;subst p;constructor)
        ·obtain⟨j,b6⟩:=List.mem_iff_getElem?.1 f
         obtain⟨k,u,ds,rfl,c9,dd,bu,bv⟩:=cL j Q b6
         have l:=U _ f
         have l:vH (jR n) [k,u]=true:=l
         simp[T.cells]at p
         subst p
         refine .tuple _ λO r=> ?_
         have ap:=pj l O r
         simp at r
         rcases r with rfl|rfl
         ·exact kN bu ap
         ·exact kN bv ap
       |false=>
        obtain⟨c4,t,K,al,an⟩:=(N.plain M).row
        exact Ll (U Q f) (λO r=>an.mem (List.mem_flatMap.2 ⟨Q,f,r⟩)) z p
     have:y=I/\B=⟨n,if low<low0 then low else low0,q⟩:=by
      cases l:Nat.blt low low0 with
      |true=>
       rw[l]at b
       simp only[ar,ax]at b
       have:low<low0:=by rwa[aG]at l
       exact⟨b.1.symm,by rw[<-b.2];simp[this]⟩
      |false=>
       rw[l]at b
       simp only[ar,ax]at b
       have:¬low<low0:=λk=>by rw[<-aG,l]at k;simp at k
       exact⟨b.1.symm,by rw[<-b.2];simp[this]⟩
     obtain⟨rfl,rfl⟩:=this
     rw[o]
     exact ae _ (by split<;>omega) (λa _ c=>by show a<low;split at c<;>omega) bk
end
end
end Go.TI
