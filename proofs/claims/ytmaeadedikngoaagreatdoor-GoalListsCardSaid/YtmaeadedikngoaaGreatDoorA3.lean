/- Texts TiMap to TiLeave. -/
import Derived.Test.YtmaeadedikngoaaGreatDoorA2
import Derived.MapKept
import Derived.Laws.IdiomStrings
import Derived.WideKeyRuns
import Derived.Maps.RangeRun
set_option linter.all false
namespace Go.TI
noncomputable section
open Go.MapKept
section
variable {P:ai}{cx:Ctx}{base:Nat}{w:World}{μ:Mu}{h h':H}{mask:Nat}{e:Env}{a:Act}{o:Oper}{hp hp':af Obj}{p:T}
def ql{j:Type}{c:j->Bool}{d:List j}(b:wW c d=true):∀f∈d,c f=true:=by
 induction d with
 |nil=>intro f hx;simp at hx
 |cons i d k=>
  have b: @Bool.rec (λ_=>Bool) false (wW c d) (c i)=true:=b;cases g:c i with
  |false=>rw[g]at b;simp at b
  |true=>
   rw[g]at b;intro f hx;rcases List.mem_cons.1 hx with rfl|hx
   ·exact g
   ·exact k b f hx
def EX{g:T}{b:Nat}(c:byteOf g=some b):g= .int .u8 (.ofNat b)/\b<256:=by
 cases g with
 |int m l=>
  have c:gh (Dk m .u8) (@Int.rec (λ_=>aa Nat) (λb=>gh (Nat.blt b 256) (some b)) (λ_=>none) l)=some b:=c;obtain⟨i,d⟩:=dT.1 c;rw[xQ]at i;subst i;cases l with
  |ofNat f=>
   have d:gh (Nat.blt f 256) (some f)=some b:=d;obtain⟨j,k⟩:=dT.1 d;rw[aH]at j;simp only[ar]at k;subst k;exact⟨rfl,j⟩
  |negSucc f=>simp at d
 |_=>simp[byteOf]at c
def IS(iZ:jd P cx){n j:ab}{A:ah}(x:St cx base w.heap μ h)(r:kt w.heap μ mask e a.tmps)(al:o.op= .convert n j A)(J:P.underlying j=some .string){v:T}
 (hp:fR cx mask e A=some p) (b:GM cx h n p=some v) (Y:h'=h):jm cx base w μ h.size ((execOp a.eval o).run P w) v h':=by
 subst Y;replace b:=dL.1 b;obtain⟨bi,av,b⟩:=b;obtain⟨d,G,M⟩:=kO (iZ.ty _ _ av);cases aN:bi.u<;>rw[aN]at b M<;>simp only[reduceCtorEq]at b;rename_i C;have:=mv M;subst this;replace b:=dL.1 b;obtain⟨a8,ap,b⟩:=b;obtain⟨bp,I,N⟩:=kO (iZ.ty _ _ ap);cases aX:a8.u<;>rw[aX]at b N<;>simp only[reduceCtorEq]at b;rename_i k;replace b:=dT.1 b;obtain⟨K,b⟩:=b;rw[xQ]at K;subst K;have:=yi N;subst this;replace b:=dL.1 b;obtain⟨l,X,b⟩:=b;replace b:=dL.1 b;obtain⟨f,S,b⟩:=b;replace b:=dT.1 b;obtain⟨_,b⟩:=b;simp only[ar]at b;subst b;obtain⟨bz,a6⟩:=oq (P:=P) x (gU x r hp) X;obtain⟨bk,B,a7,O,bs,D,bu,U⟩:=a6.form;obtain⟨t,F⟩:=rO.1 S;have W:l=f.map λi=>T.int .u8 (.ofNat i):=by
  apply c8;intro c;rw[aQ];cases g:l[c]? with
  |none=>
   have:f[c]? =none:=by
    rw[List.getElem?_eq_none_iff]at g|-;omega
   rw[this];rfl
  |some z=>
   obtain⟨i,m,s⟩:=F c z g;rw[m,(EX s).1];rfl
 have E:∀i∈f,i<256:=by
  intro i m;obtain⟨c,g⟩:=List.mem_iff_getElem?.1 m;have Z:c<l.length:=by
   rw[t];rcases aF c f.length with y|y
   ·exact y
   ·rw[aM y]at g;simp at g
  obtain⟨bn,q,s⟩:=F c l[c] (by simp[Z]);rw[g]at q;simp only[ar]at q;subst q;exact(EX s).2
 have an:fD w.heap μ (.str f) (.string (bytesOf f)):= .str f E;rw[W,ry]at D;have ae:∀(c:Nat) i,f[c]? =some i->a7[c]? =some (.int .u8 (i:Int)):=by
  intro c i g;obtain⟨u,aA,aE⟩:=D.get (k:=c) (v:= .int .u8 (.ofNat i)) (by simp[g]);rw[aA,aE.jV];rfl
 have V:(convert n j (a.eval A)).run P w= .ok (.string (bytesOf f)) w:=by
  rw[O];rcases U with⟨rfl,L⟩|⟨y,rfl,m⟩
  ·have Q:f=[]:=by
    have:=t;rw[L]at this;simp at this;exact bj this.symm
   subst Q;rw[L];rw[run_convert_bytes_string w n j C none _ B G I J];simp[Conv.bytesToString];rfl
  ·have hl:l.length=(f.map UInt8.ofNat).length:=by simp[t]
   rw[hl];have:=run_convert_bytes_back (P:=P) w n j C y B (f.map UInt8.ofNat) G I J (by
    intro c g;simp only[aG]at g;have R:f[c]? =some f[c]:=by simp[g]
    rw[m c _ (ae c _ R)];simp only[List.getElem_map];rw[jJ (E _ (aC g))])
   rw[this];rfl
 exact jm.pure x (by simp only[execOp,al,Sem.run_bind,V,Result.andThen_ok,Sem.run_pure]) an
end
end
noncomputable section
open Go.MapKept
section
variable {P:ai}{cx:Ctx}{base:Nat}{w:World}{μ:Mu}{h h':H}{mask:Nat}{e:Env}{a:Act}{o:Oper}{hp hp':af Obj}{p:T}
def HV{x:ah}{b:Bool}(j:St cx base w.heap μ h)(i:kt w.heap μ mask e a.tmps)(g:o.op= .next x b){d:T}
 (f:HW x b cx mask e h=some (.val d h')):jm cx base w μ h.size ((execOp a.eval o).run P w) d h':=by
 cases b with
 |true=>exact FG j i g f
 |false=>exact absurd f (by intro c;have c:(none:aa lH)=some (.val d h'):=c;simp at c)
end
end
noncomputable section
def ze(P:ai)(c:am->World->Prop):Result Next->Prop
 | .ok (.value d) b=>c d b
 | .ok .skip b=>c Go.undef b
 | .ok (.enter g f) b=>Calls P g f b λ
  | .returned d,i=>c d i
  |_,_=>False
 |_=>False
def ze.mono{P:ai}{c d:am->World->Prop}{b:Result Next}(h:ze P c b)(g:∀i w,c i w->d i w):ze P d b:=by
 cases b with
 |halt l w=>exact h
 |ok j w=>
  cases j<;>simp only[ze]at h|- <;>first|exact h|exact g _ _ h|skip
  exact Calls.mono h λe k f=>by cases e<;>first|exact g _ _ f|exact f
def ze.wp{P:ai}{o:Oper}{a:Act}{w:World}{c:am->World->Prop}{next:Act->World->Prop}{Q:Exit->Act->World->Prop}
 (h:ze P c ((execOp a.eval o).run P w)) (f:∀g b,c g b->next (a.put o.dst g) b):o.wp P a w next Q:=by
 unfold Oper.wp;generalize(execOp a.eval o).run P w=j at h;cases j with
 |halt k w=>exact h.elim
 |ok i w=>
  cases i<;>simp only[ze]at h<;>simp only[Oper.upon]<;>first|exact h.elim|exact f _ _ h|skip
  exact Calls.mono h λe b d=>by cases e<;>first|exact f _ _ d|exact d.elim
def ze.some{P:ai}{b:am->World->Prop}{d:Result Next}(h:ze P b d):∃g w,b g w:=by
 cases d with
 |halt k w=>exact h.elim
 |ok f w=>
  cases f<;>simp only[ze]at h<;>first|exact h.elim|exact⟨_,_,h⟩|skip
  obtain⟨e,j,i,c,_⟩:=h [];cases e<;>first|exact⟨_,_,c⟩|exact c.elim
section
variable {P:ai}{cx:Ctx}{base:Nat}{w:World}{μ:Mu}{h h':H}{mask:Nat}{e:Env}{a:Act}{o:Oper}
def UY(cx:Ctx)(base:Nat)(w:World)(μ:Mu)(f:Nat)(g:T)(h':H)(d:am)(c:World):Prop:=
 ∃b,fD c.heap b g d/\St cx base c.heap b h'/\pI w μ c b/\ye μ b f h'.size
def jm.ZT{i:Result Next}{g:Nat}{j:T}(h:jm cx base w μ g i j h'):ze P (UY cx base w μ g j h') i:=by
 obtain⟨m,n,k,l,b,c,d,f⟩:=h;rcases l with rfl|⟨rfl,rfl⟩
 ·exact⟨k,b,c,d,f⟩
 ·exact⟨k,b,c,d,f⟩
def MO(iZ:jd P cx)(l:St cx base w.heap μ h)(k:kt w.heap μ mask e a.tmps){d:Call}(i:o.op= .call d){f:T}
 (b:CD d cx mask e h=some (.val f h')):jm cx base w μ h.size ((execOp a.eval o).run P w) f h':=by
 replace b:=dL.1 b;obtain⟨m,g,b⟩:=b;cases c:d.callee with
 |builtin n=>rw[c]at b;exact D9 iZ l k i c g b
 |invoke t s=>rw[c]at b;simp at b
 |value p=>
  rw[c]at b;simp only at b;replace b:=dL.1 b;obtain⟨j,q,b⟩:=b;cases j<;>simp only[reduceCtorEq]at b;replace b:=dL.1 b;obtain⟨r,hl,b⟩:=b;simp at b
def u9{j:Builtin}{s:List ab}{l:List T}{f:aj}{i:List T}(b:lm j cx h s l=some (.call f i)):False:=by
 have c:∀{d:aa T},val h d=some (.call f i)->False:=λg=>At g;have p:∀{d:aa (T×H)},jz d=some (.call f i)->False:=by
  intro d g;unfold jz at g;cases d<;>simp[two]at g
 cases j<;>simp only[lm,reduceCtorEq]at b
 case len=>
  split at b
  ·replace b:=dL.1 b;obtain⟨r,_,b⟩:=b;replace b:=dL.1 b;obtain⟨t,_,b⟩:=b;split at b
   ·split at b
    ·exact c b
    ·simp at b
   ·split at b<;>first|exact c b|(simp at b)
   ·exact c b
   ·simp at b
  ·simp at b
 case append=>
  split at b
  ·split at b
   ·replace b:=dL.1 b;obtain⟨r,_,b⟩:=b;replace b:=dL.1 b;obtain⟨t,_,b⟩:=b;obtain⟨_,b⟩:=dT.1 b;exact p b
   ·simp at b
  ·simp at b
 case clear=>
  split at b
  ·split at b
   ·replace b:=dL.1 b;obtain⟨z,_,b⟩:=b;split at b
    ·rename_i n _;cases n<;>simp at b
    ·simp at b
    ·rename_i k _;cases k with
     |zero=>
      have b:some (lH.val .undef h)=some (.call f i):=b;simp at b
     |succ k=>
      replace b:=dL.1 b;obtain⟨m,_,b⟩:=b;obtain⟨y,v,A,x,q,u⟩:=m;obtain⟨_,b⟩:=dT.1 b;obtain⟨_,b⟩:=dT.1 b;cases q with
      |true=>simp at b
      |false=>
       replace b:=dL.1 b;obtain⟨_,_,b⟩:=b;replace b:=dL.1 b;obtain⟨_,_,b⟩:=b;replace b:=dL.1 b;obtain⟨_,_,b⟩:=b;simp at b
    ·simp at b
   ·simp at b
  ·simp at b
 case min=>split at b<;>first|exact c b|(simp at b)
 case max=>split at b<;>first|exact c b|(simp at b)
def JM(k:St cx base w.heap μ h)(j:kt w.heap μ mask e a.tmps){c:Call}(r:o.op= .call c){g:aj}{i:List T}
 (b:CD c cx mask e h=some (.call g i)):∃f:af am,gJ w.heap μ i f.toList/\(execOp a.eval o).run P w=(callFunc g f).run P w:=by
 replace b:=dL.1 b;obtain⟨v,q,b⟩:=b;have n:=vM k j q;cases d:c.callee with
 |builtin x=>rw[d]at b;exact(u9 b).elim
 |invoke D C=>rw[d]at b;simp at b
 |value A=>
  rw[d]at b;simp only at b;replace b:=dL.1 b;obtain⟨u,s,b⟩:=b;have t:=gU k j s;cases u<;>simp only[reduceCtorEq]at b;rename_i z y;replace b:=dL.1 b;obtain⟨B,hl,b⟩:=b;simp only[ar,lH.call.injEq]at b;obtain⟨rfl,rfl⟩:=b;obtain⟨l,m,p⟩:=t.rU;rw[pO]at hl;simp only[ar]at hl;refine⟨c.args.map a.eval++l,?_,?_⟩
  ·rw[<-hl];simpa using n.append p
  ·simp[execOp,r,resolve,d,m,Deferred.ofValue,invoke]
def yx(iZ:jd P cx)(d:St cx base w.heap μ h)(f:kt w.heap μ mask e a.tmps){s:T}
 (b:jn o.op cx mask e h=some (.val s h')):jm cx base w μ h.size ((execOp a.eval o).run P w) s h':=by
 cases c:o.op<;>rw[c]at b<;>simp only[jn,reduceCtorEq]at b
 case move k=>exact AM d f (.inl c) b
 case assign k=>exact AM d f (.inr c) b
 case pick=>exact HU d f c b
 case alloc=>exact FM iZ d c b
 case box=>exact JN d f c b
 case build=>exact FL iZ d f c b
 case buildSlice=>exact yL iZ d f c b
 case load=>exact HX iZ d f c b
 case store=>exact FD iZ d f c b
 case nilCheck=>exact AZ d f c b
 case binOp z r k L K=>
  cases z<;>first
   |exact EQ iZ (neg:=false) rfl d f c b
   |exact EQ iZ (neg:=true) rfl d f c b
   |exact JO dC dC d f c b
 case unOp=>exact MN d f c b
 case convert J C k=>
  replace b:=dL.1 b;obtain⟨n,l,b⟩:=b;replace b:=dL.1 b;obtain⟨I,j,b⟩:=b;replace b:=dL.1 b;obtain⟨t,v,b⟩:=b;split at b
  ·obtain⟨i,g⟩:=fW.1 b;exact Gs iZ d f c ⟨n,l⟩ j i g
  ·rename_i m;split at b
   ·obtain⟨i,g⟩:=fW.1 b;exact AN iZ d f c ⟨n,l⟩ j i g
   ·obtain⟨i,g⟩:=fW.1 b;obtain⟨B,x,q⟩:=kO (iZ.ty _ _ v);rw[m]at q;have:=sw q;subst this;exact IS iZ d f c x j i g
  ·obtain⟨i,g⟩:=fW.1 b;exact AN iZ d f c ⟨n,l⟩ j i g
 case makeInterface=>exact FJ iZ d f c b
 case makeFunc=>exact HZ d f c b
 case makeSlice=>exact Ad iZ d f c b
 case slice=>exact FE iZ d f c b
 case fieldAddr=>exact Ah iZ d f c b
 case field=>exact FK iZ d f c b
 case indexAddr=>exact Ae iZ d f c b
 case index=>exact FI iZ d f c b
 case extract=>exact CC d f c b
 case range r k=>
  replace b:=dL.1 b;obtain⟨A,y,b⟩:=b;obtain⟨G,t,M,D,u,E,F,p,_⟩:=(iZ.ty r A y).unfold;split at b
  ·rename_i m;rw[m]at p;have:=sw p;subst this;exact FF d f c u b
  ·simp at b
 case next=>exact HV d f c b
 exact MO iZ d f c b
def NC(d:aa lH):Prop:=∀b c,d≠some (.call b c)
def NC.none:NC none:=λ_ _=>by simp
def NC.val{b:aa T}:NC (val h b):=λ_ _=>At
def NC.some{b:T}:NC (some (.val b h)):=λ_ _=>by simp
def NC.dV{f:Type}{d:aa f}{c:f->aa lH}(h:∀b,NC (c b)):NC (dV d c):=by
 cases d with
 |none=>exact NC.none
 |some b=>exact h b
def NC.gh{b:Bool}{c:aa lH}(h:NC c):NC (gh b c):=by
 cases b with
 |false=>exact NC.none
 |true=>exact h
def NC.bool{b:Bool}{c d:aa lH}(f:NC c)(g:NC d):NC (Bool.casesOn b c d):=by
 cases b<;>assumption
def Ch{b:Op}(d:∀c,b≠ .call c):NC (jn b cx mask e h):=by
 cases b<;>simp only[jn]<;>first
  |exact absurd rfl (d _)
  |exact NC.none
  |skip
 all_goals
  first
   |unfold CA|unfold EP|unfold CE|unfold MP|unfold Aj|unfold ot|unfold HY|unfold Cx|unfold rk|unfold hUn|unfold K5|unfold Ag|unfold CB
   |unfold pA|unfold Cy|unfold pF|unfold Ai|unfold pB|unfold Af|unfold un|unfold yK|unfold HW|skip
 case binOp b f i j g=>
  cases b<;>first
   |(simp only[];unfold V7;exact NC.dV λ_=>NC.dV λ_=>NC.dV λ_=>NC.gh (NC.dV λ_=>NC.val))
   |(simp only[];unfold MQ;exact NC.dV λ_=>NC.dV λ_=>NC.val)
 all_goals
  repeat first
   |exact NC.none
   |exact NC.val
   |exact NC.some
   |exact NC.new
   |refine NC.dV λ_=> ?_
   |refine NC.gh ?_
   |refine NC.bool ?_ ?_
   |split
   |unfold kH
   |unfold oO
   |unfold Cz
   |unfold Ab
   |(refine NC.nat ?_ λ_=> ?_)
   |(refine NC.opt ?_ λ_=> ?_)
   |(unfold two)
def Hf(m:St cx base w.heap μ h)(l:kt w.heap μ mask e a.tmps){c:aj}{g:List T}
 (d:jn o.op cx mask e h=some (.call c g)):(∃b,o.op= .call b)/\∃i:af am,gJ w.heap μ g i.toList/\(execOp a.eval o).run P w=(callFunc c i).run P w:=by
 by_cases j:∃b,o.op= .call b
 ·obtain⟨b,f⟩:=j;rw[f]at d;exact⟨⟨b,f⟩,JM m l f d⟩
 ·exact absurd d (Ch (λb k=>j ⟨b,k⟩) c g)
end
end
noncomputable section
structure kW(h h':H):Prop where
 wf:h'.fy.length=h'.size
 size:h.size<=h'.size
 low:h'.low<=h.low
 kS:∀b,b<h.size->b<h'.low->h'.get b=h.get b
 ver:∀b x,h.get b=some x->∃x',h'.get b=some x'/\(x'=x\/x.ver<x'.ver)
def kW.refl{h:H}(a:h.fy.length=h.size):kW h h:=⟨a,au _,au _,λ_ _ _=>rfl,λ_ c b=>⟨c,b,.inl rfl⟩⟩
def kW.trans{h d e:H}(b:kW h d)(a:kW d e):kW h e:=by
 refine⟨a.wf,aS b.size a.size,aS a.low b.low,λc f hl=> ?_,λc i g=> ?_⟩
 ·rw[a.kS c (bG f b.size) hl,b.kS c f (bG hl a.low)]
 ·obtain⟨j,d,r1⟩:=b.ver c i g;obtain⟨k,e,r2⟩:=a.ver c j d;refine⟨k,e,?_⟩;rcases r1 with rfl|r1<;>rcases r2 with rfl|r2
  ·exact .inl rfl
  ·exact .inr r2
  ·exact .inr r1
  ·exact .inr (Nat.lt_trans r1 r2)
def H.eJ{h:H}{a:Nat}{d:iY}(c:h.get a=some d):a<h.size:=by
 rw[H.get_eq]at c;by_cases b:a<h.size
 ·exact b
 ·simp[b]at c
def kW.cons{h:H}(e:h.fy.length=h.size)(a:iY):kW h (h.cons a):=by
 refine⟨by simp[H.cons,e],by simp[H.cons],by simp[H.cons],λc d _=>H.mZ d a,λc f b=>⟨f,?_,.inl rfl⟩⟩;rw[H.mZ (H.eJ b) a];exact b
def kW.put{h e:H}(k:h.fy.length=h.size){b:Nat}{x d:iY}(i:h.get b=some x)(g:h.put b d=some e)(j:x.ver<d.ver):kW h e:=by
 obtain⟨p1,p2,p3,p4⟩:=Bg g k;obtain⟨o,p,rfl⟩:=H.vK.1 g;refine⟨p2,dC,?_,λc m hl=>p4 c ?_,λc l a=> ?_⟩
 ·simp only;split<;>omega
 ·rintro rfl;simp only at hl;split at hl<;>omega
 ·by_cases f:c=b
  ·subst f;rw[i]at a;simp only[ar]at a;subst a;exact⟨d,p3,.inr j⟩
  ·exact⟨l,by rw[p4 c f];exact a,.inl rfl⟩
def Mv(h:H)(c:aa lH):Prop:=∀b a,c=some (.val b a)->kW h a
section
variable {h:H}
def Mv.none(b:h.fy.length=h.size):Mv h none:=λ_ _ a=>by simp at a
def Mv.val(b:h.fy.length=h.size){c:aa T}:Mv h (val h c):=λe d a=>by obtain⟨_,rfl⟩:=fW.1 a;exact kW.refl b
def Mv.some(c:h.fy.length=h.size){b:T}:Mv h (some (.val b h)):=λb d a=>by simp at a;obtain⟨_,rfl⟩:=a;exact kW.refl c
def Mv.new(d:h.fy.length=h.size){f:Nat->T}{c:iY}:Mv h (jz (h.new f c)):=λg e a=>by
 rw[jw,H.kF]at a;simp only[ar,az]at a;obtain⟨_,rfl⟩:=a;exact kW.cons d c
def Mv.dV(f:h.fy.length=h.size){d:Type}{b:aa d}{c:d->aa lH}(e:∀a,b=Option.some a->Mv h (c a)):Mv h (dV b c):=by
 cases b with
 |none=>exact Mv.none f
 |some a=>exact e a rfl
def Mv.gh(c:h.fy.length=h.size){a:Bool}{b:aa lH}(d:Mv h b):Mv h (gh a b):=by
 cases a with
 |false=>exact Mv.none c
 |true=>exact d
def Mv.bool(d:h.fy.length=h.size){a:Bool}{b c:aa lH}(e:Mv h b)(f:Mv h c):Mv h (Bool.casesOn a b c):=by
 cases a<;>assumption
def oS(c:h.fy.length=h.size){e bytes:Nat}{d g:List T}{f:T}{b:H}(a:h.jb e bytes d g=Option.some (f,b)):kW h b:=by
 replace a:=dL.1 a;obtain⟨i,_,a⟩:=a;replace a:=dL.1 a;obtain⟨j,_,a⟩:=a;obtain⟨_,a⟩:=dT.1 a;obtain⟨_,a⟩:=dT.1 a;obtain⟨_,a⟩:=dT.1 a;obtain⟨_,a⟩:=dT.1 a;rw[H.kF]at a;simp only[ar,az]at a;obtain⟨_,rfl⟩:=a;exact kW.cons c _
def Ea(g:h.fy.length=h.size){l bytes d e k:Nat}{o:List T}{m:T}{b:H}(a:h.mt l bytes d e k o=Option.some (m,b)):kW h b:=by
 replace a:=dL.1 a;obtain⟨n,i,a⟩:=a;obtain⟨w,q,c,t,j,p⟩:=n;simp only at a;replace a:=dL.1 a;obtain⟨s,_,a⟩:=a;replace a:=dL.1 a;obtain⟨r,_,a⟩:=a;replace a:=dL.1 a;obtain⟨v,_,a⟩:=a;obtain⟨_,a⟩:=dT.1 a;obtain⟨_,a⟩:=dT.1 a;obtain⟨_,a⟩:=dT.1 a;obtain⟨_,a⟩:=dT.1 a;obtain⟨_,a⟩:=dT.1 a;cases j with
 |true=>simp at a
 |false=>
  simp only[iE,dY]at a;replace a:=dL.1 a;obtain⟨u,f,a⟩:=a;simp only[ar,az]at a;obtain⟨_,rfl⟩:=a;exact kW.put g i f (by show c<c.succ;omega)
def Iv(b:h.fy.length=h.size){k bytes:Nat}{c:T}{j:List T}{i:T}{d:H}(a:h.append k bytes c j=Option.some (i,d)):kW h d:=by
 unfold H.append at a;cases j with
 |nil=>
  have a:Go.TI.gh (oN c) (Option.some (c,h))=Option.some (i,d):=a;obtain⟨_,a⟩:=dT.1 a;simp only[ar,az]at a;obtain⟨_,rfl⟩:=a;exact kW.refl b
 |cons o p=>
  simp only at a;cases c<;>simp only[reduceCtorEq]at a
  case dN e f=>
   cases e with
   |nil=>exact oS b a
   |cons q r=>obtain⟨_,a⟩:=dT.1 a;exact oS b a
  case arr l m g n f=>
   cases f with
   |false=>
    cases g with
    |zero=>exact Ea b a
    |succ g=>simp at a
   |true=>replace a:=dL.1 a;obtain⟨e,_,a⟩:=a;exact oS b a
def IT(e:h.fy.length=h.size){i:Ty}{b j:T}{c:H}(a:h.store i b j=Option.some c):kW h c:=by
 unfold H.store at a;cases b<;>simp only[reduceCtorEq]at a;obtain⟨_,a⟩:=dT.1 a;replace a:=dL.1 a;obtain⟨k,f,a⟩:=a;obtain⟨o,m,d,n,g,l⟩:=k;simp only at a;obtain⟨_,a⟩:=dT.1 a;cases g with
 |true=>simp at a
 |false=>
  simp only at a;replace a:=dL.1 a;obtain⟨_,_,a⟩:=a;replace a:=dL.1 a;obtain⟨_,_,a⟩:=a;replace a:=dL.1 a;obtain⟨_,_,a⟩:=a;simp only[iE,dY]at a;exact kW.put e f a (by show d<d.succ;omega)
def Pt(a:h.fy.length=h.size){f:Op}{cx:Ctx}{r:Nat}{p:Env}:Mv h (jn f cx r p h):=by
 by_cases n:∃e,f= .call e
 ·obtain⟨e,rfl⟩:=n;simp only[jn];unfold CD;refine Mv.dV a λu _=> ?_;split
  ·rename_i o _;cases o<;>simp only[lm]<;>first|exact Mv.none a|skip
   case len=>
    split
    ·unfold M7;refine Mv.dV a λ_ _=>Mv.dV a λ_ _=> ?_
     repeat first|exact Mv.none a|exact Mv.val a|split
    ·exact Mv.none a
   case append=>
    split
    ·split
     ·unfold iM;refine Mv.dV a λ_ _=>Mv.dV a λ_ _=>Mv.gh a ?_;intro c g b;exact Iv a (jw.1 b)
     ·exact Mv.none a
    ·exact Mv.none a
   case clear=>
    split
    ·split
     ·unfold C7;refine Mv.dV a λw _=> ?_;split
      ·rename_i l _ _;cases l
       ·exact Mv.some a
       ·exact Mv.none a
      ·exact Mv.some a
      ·rename_i k _ _;cases k with
       |zero=>exact Mv.some a
       |succ k=>
        refine Mv.dV a λd j=> ?_;refine Mv.gh a (Mv.gh a (Mv.bool a ?_ ?_))
        ·refine Mv.dV a λl _=> ?_;simp only[iE,dY];refine Mv.dV a λm i=> ?_;intro c g b;simp only[ar,lH.val.injEq]at b;obtain⟨_,rfl⟩:=b;exact kW.put a j i (by show d.ver<d.ver.succ;omega)
        ·exact Mv.none a
      ·exact Mv.none a
     ·exact Mv.none a
    ·exact Mv.none a
   all_goals (split<;>first|exact Mv.val a|exact Mv.none a)
  ·refine Mv.dV a λc _=> ?_;split
   ·refine Mv.dV a λk _=> ?_;intro c g b;simp at b
   ·exact Mv.none a
  ·exact Mv.none a
 cases f<;>simp only[jn]<;>first
  |exact Mv.none a
  |exact(n ⟨_,rfl⟩).elim
  |skip
 case binOp f s d y x=>
  cases f<;>first
   |(simp only[];unfold V7;exact Mv.dV a λ_ _=>Mv.dV a λ_ _=>Mv.dV a λ_ _=>Mv.gh a (Mv.dV a λ_ _=>Mv.val a))
   |(simp only[];unfold MQ;exact Mv.dV a λ_ _=>Mv.dV a λ_ _=>Mv.val a)
 case store s t d=>
  unfold Cx;refine Mv.dV a λ_ _=>Mv.dV a λ_ _=>Mv.dV a λ_ _=>Mv.gh a (Mv.dV a λm q=> ?_);intro c g b;simp only[ar,lH.val.injEq]at b;obtain⟨_,rfl⟩:=b;exact IT a q
 case next it v=>
  unfold HW;refine Mv.bool a ?_ ?_
  ·exact Mv.none a
  ·unfold Ab;refine Mv.dV a λc _=> ?_;cases c<;>simp only<;>first|exact Mv.none a|skip
   refine Mv.dV a λd j=>Mv.gh a ?_;split
   ·refine Mv.bool a (Mv.some a) (Mv.dV a λe _=> ?_);obtain⟨e,wd⟩:=e;simp only[kC,iE,dY];refine Mv.dV a λm i=> ?_;intro c g b;simp only[ar,lH.val.injEq]at b;obtain⟨_,rfl⟩:=b;exact kW.put a j i (by show d.ver<d.ver.succ;omega)
   ·exact Mv.none a
 all_goals
  first
   |unfold CA|unfold EP|unfold CE|unfold MP|unfold Aj|unfold ot|unfold HY|unfold rk|unfold hUn|unfold K5|unfold Ag|unfold CB
   |unfold pA|unfold Cy|unfold pF|unfold Ai|unfold pB|unfold Af|unfold un|unfold yK|skip
 all_goals
  repeat first
   |exact Mv.none a
   |exact Mv.val a
   |exact Mv.some a
   |exact Mv.new a
   |refine Mv.dV a λ_ _=> ?_
   |refine Mv.gh a ?_
   |refine Mv.bool a ?_ ?_
   |split
   |unfold kH
   |unfold oO
   |unfold Cz
   |(refine Mv.opt a ?_ λ_=> ?_)
   |(unfold two)
end
end
noncomputable section
inductive pP (n:Nat):T->Prop where
 |undef:pP n .undef
 |bool (b:Bool):pP n (.bool b)
 |int (k:ak) (m:Int):pP n (.int k m)
 |str (s:List Nat):pP n (.str s)
 |kw:pP n .kw
 |ptr (b ep i j:Nat) (h:b<n):pP n (.ptr b ep i j)
 |jB (cs:List T) (h:∀v∈cs,pP n v):pP n (.jB cs)
 |dN (es:List T) (full:Bool) (h:∀v∈fx es,pP n v):pP n (.dN es full)
 |gu:pP n .gu
 |arr (b ep o l:Nat) (full:Bool) (h:b<n):pP n (.arr b ep o l full)
 |func (f:aj) (cs:List T) (h:∀v∈cs,pP n v):pP n (.func f cs)
 |kK:pP n .kK
 |kM:pP n .kM
 |iface (t:ab) (v:T) (h:pP n v):pP n (.iface t v)
 |iter (b:Nat) (h:b<n):pP n (.iter b)
 |map (b:Nat) (h:b<n):pP n (.map b)
 |nR:pP n .nR
 |agg (cs:List T) (h:∀v∈cs,pP n v):pP n (.agg cs)
 |tuple (vs:List T) (h:∀v∈vs,pP n v):pP n (.tuple vs)
def pP.cells{n:Nat}{b:T}(h:pP n b):∀c∈b.cells,pP n c:=by
 cases h with
 |agg d h=>exact h
 |_=>intro c a;simp[T.cells]at a;subst a;constructor<;>assumption
def ku.low{a:T}(h:ku a)(n:Nat):pP n a:=by
 induction h with
 |dN c d _ i=>
  refine .dN c d λa f=> ?_;obtain⟨b,e,g⟩:=List.mem_flatMap.1 f;exact(i b e).cells a g
 |_=>constructor<;>assumption
def fD.low{hp:af Obj}{μ:Mu}{a:T}{m:am}(h:fD hp μ a m){n:Nat}(j:∀g i,μ g=some i->g<n):pP n a:=by
 induction h with
 |ptr g u y J i l f v F=>exact .ptr _ _ _ _ (j _ _ f)
 |arr g u L K p i l B f v hl h=>exact .arr _ _ _ _ _ (j _ _ f)
 |iter g i l f h=>exact .iter _ (j _ _ f)
 |map g i y f h=>exact .map _ (j _ _ f)
 |jB t s off arr r fz x w k q hr c=>exact .jB _ λa b=>by obtain⟨e,d⟩:=List.mem_iff_getElem?.1 b;exact c e a d
 |nM p l=>exact .dN _ _ λa b=>by simp[fx]at b
 |dN C D p s off z M arr r fz x w hl G I k q hr c=>exact .dN _ _ λa b=>by obtain⟨e,d⟩:=List.mem_iff_getElem?.1 b;exact c e a d
 |func E A o k hr c=>exact .func _ _ λa b=>by obtain⟨e,d⟩:=List.mem_iff_getElem?.1 b;exact c e a d
 |agg t o k q hr c=>exact .agg _ λa b=>by obtain⟨e,d⟩:=List.mem_iff_getElem?.1 b;exact c e a d
 |tuple N o k hr c=>exact .tuple _ λa b=>by obtain⟨e,d⟩:=List.mem_iff_getElem?.1 b;exact c e a d
 |iface r a m h c=>exact .iface _ _ c
 |_=>constructor
def mr(n:Nat)(μ:Mu):Mu:=⟨λa=>if a<n then μ a else none,μ.pi⟩
def uq{n a:Nat}{μ:Mu}(h:a<n):mr n μ a=μ a:=by simp[mr,h]
def kf{n a:Nat}{μ:Mu}{b:Loc}(h:mr n μ a=some b):a<n/\μ a=some b:=by
 have h:(if a<n then μ a else none)=some b:=h;split at h
 ·exact⟨by assumption,h⟩
 ·simp at h
def wC{n a:Nat}{μ:Mu}(h:¬nz μ a):¬nz (mr n μ) a:=by
 rintro(⟨c,b,d,rfl⟩|hr)
 ·exact h (.inl ⟨c,b,(kf d).2,rfl⟩)
 ·exact h (.inr hr)
def fD.cut{hp:af Obj}{μ:Mu}{a:T}{q:am}(h:fD hp μ a q){n:Nat}(hl:pP n a):fD hp (mr n μ) a q:=by
 induction h with
 |undef=>exact .undef
 |bool f=>exact .bool f
 |int d L=>exact .int d L
 |str N h=>exact .str N h
 |kw=>exact .kw
 |ptr f u z J i e j v F=>cases hl with|ptr _ _ _ _ h=>exact .ptr f u z J i e (by rw[uq h];exact j) v F
 |jB t r off arr p fz y w g o hr c=>
  cases hl with|jB _ h=>exact .jB t r off arr p fz (wC y) w g o λd a b=>c d a b (h a (ax b))
 |nM l e=>exact .nM l e
 |dN C D l r off s O arr p fz y w x G I g o hr c=>
  cases hl with|dN _ _ h=>exact .dN C D l r off s O arr p fz (wC y) w x G I g o λd a b=>c d a b (h a (ax b))
 |gu e s=>exact .gu e s
 |arr f u M K l i e B j v x m=>cases hl with|arr _ _ _ _ _ h=>exact .arr f u M K l i e B (by rw[uq h];exact j) v x m
 |func E A k g hr c=>cases hl with|func _ _ h=>exact .func E A k g λd a b=>c d a b (h a (ax b))
 |kK=>exact .kK
 |kM=>exact .kM
 |iface p a q h c=>cases hl with|iface _ _ h=>exact .iface p a q (c h)
 |iter f i e j m=>cases hl with|iter _ h=>exact .iter f i e (by rw[uq h];exact j) m
 |map f i z j m=>cases hl with|map _ h=>exact .map f i z (by rw[uq h];exact j) m
 |nR=>exact .nR
 |agg t k g o hr c=>cases hl with|agg _ h=>exact .agg t k g o λd a b=>c d a b (h a (ax b))
 |tuple P k g hr c=>cases hl with|tuple _ h=>exact .tuple P k g λd a b=>c d a b (h a (ax b))
def gJ.cut{hp:af Obj}{μ:Mu}{b:List T}{c:List am}(h:gJ hp μ b c){n:Nat}(hl:∀a∈b,pP n a):gJ hp (mr n μ) b c:=
 ⟨h.1,λe a d=>(h.2 e a d).cut (hl a (ax d))⟩
def qI.cut{hp:af Obj}{μ:Mu}{m:Loc}{k:iY}(h:qI hp μ m k){n:Nat}(hl:∀g∈fx k.eZ,pP n g):qI hp (mr n μ) m k:=by
 refine⟨h.ep,h.sz,λb=> ?_,λb=> ?_⟩
 ·have f:=h.plain b;obtain⟨p,D,a,c,d⟩:=f.row;exact⟨⟨p,D,a,c,d.cut hl⟩,f.room,f.tz,f.size,f.scalar⟩
 ·obtain⟨j,a|⟨r,a,c,d⟩|⟨z,y,B,C,q,a,c,d,w⟩⟩:=h.iter b
  ·exact⟨j,.inl a⟩
  rotate_left
  ·exact⟨j,.inr (.inr ⟨z,y,B,C,q,a,c.cut (hl _ (by rw[a];simp[fx,T.cells])),d,w⟩)⟩
  ·refine⟨j,.inr (.inl ⟨r,a,c,λx l o=> ?_⟩)⟩;obtain⟨b,g,A,i,s,t,u,v⟩:=d x l o;have e:=hl l (List.mem_flatMap.2 ⟨l,ax o,by rw[i];simp[T.cells]⟩);rw[i]at e;cases e with|tuple _ e=>exact⟨b,g,A,i,s,t,u.cut (e b dC),v.cut (e g dC)⟩
def qI.low{hp:af Obj}{μ:Mu}{e:Loc}{k:iY}(h:qI hp μ e k){n:Nat}(c:∀l e,μ l=some e->l<n):∀j∈fx k.eZ,pP n j:=by
 intro j a;cases d:k.it with
 |false=>
  obtain⟨y,K,f,g,b⟩:=(h.plain d).row;obtain⟨o,t⟩:=List.mem_iff_getElem?.1 a;exact(b.2 o j t).low c
 |true=>
  obtain⟨_,⟨I,w,s,_⟩|⟨A,f,g,b⟩|⟨F,E,w,J,z,f,g,b,D⟩⟩:=h.iter d
  ·rw[s]at a;simp[fx,T.cells]at a;rcases a with rfl|rfl<;>constructor
  rotate_left
  ·rw[f]at a;simp[fx,T.cells]at a;rcases a with rfl|rfl|rfl|rfl
   ·exact g.low c
   all_goals constructor
  ·obtain⟨x,u,i⟩:=List.mem_flatMap.1 a;obtain⟨v,d⟩:=List.mem_iff_getElem?.1 u;obtain⟨o,L,G,p,B,C,q,r⟩:=b v x d;rw[p]at i;simp[T.cells]at i;subst i;refine .tuple _ λM m=> ?_;simp at m;rcases m with rfl|rfl
   ·exact q.low c
   ·exact r.low c
inductive iG {α β:Type} (R:α->β->Prop):List α->List β->Prop where
 |nil:iG R [] []
 |cons {a:α} {b:β} {l:List α} {m:List β} (h:R a b) (t:iG R l m):iG R (a::l) (b::m)
def iG.imp{g i:Type}{b c:g->i->Prop}{e:List g}{f:List i}(h:iG b e f)(j:∀a d,b a d->c a d):iG c e f:=by
 induction h with
 |nil=>exact .nil
 |cons a _ k=>exact .cons (j _ _ a) k
def iG.length{c d:Type}{e:c->d->Prop}{a:List c}{b:List d}(h:iG e a b):a.length=b.length:=by
 induction h with
 |nil=>rfl
 |cons _ _ f=>simp[f]
def iG.append{f g:Type}{a:f->g->Prop}{b c:List f}{d e:List g}(h:iG a b d)(j:iG a c e):iG a (b++c) (d++e):=by
 induction h with
 |nil=>exact j
 |cons i _ k=>exact .cons i k
def iG.get{i b:Type}{c:i->b->Prop}{d:List i}{e:List b}(h:iG c d e){k:Nat}{g:b}(a:e[k]? =some g):∃f,d[k]? =some f/\c f g:=by
 induction h generalizing k with
 |nil=>simp at a
 |cons j _ l=>cases k with
  |zero=>simp at a;subst a;exact⟨_,dC,j⟩
  |succ k=>simp at a;simpa using l a
def iG.mem{g b:Type}{c:g->b->Prop}{d:List g}{e:List b}(h:iG c d e){f:b}(k:f∈e):∃a∈d,c a f:=by
 obtain⟨m,i⟩:=List.mem_iff_getElem?.1 k;obtain⟨a,j,l⟩:=h.get i;exact⟨a,ax j,l⟩
def iG.map{b:Type}{g:b->aa b}{f:b->b->Prop}{a e:List b}(i:∀c∈a,∀d,g c=some d->f c d)(h:fP g a=some e):iG f a e:=by
 induction a generalizing e with
 |nil=>simp at h;subst h;exact .nil
 |cons c a l=>
  rw[jK]at h;replace h:=dL.1 h;obtain⟨d,j,h⟩:=h;replace h:=dL.1 h;obtain⟨o,ht,h⟩:=h;simp at h;subst h;exact .cons (i c dC d j) (l (λm k=>i m (by simp[k])) ht)
structure Fz(hp:af Obj)(μ:Mu)(n:Nat)(v v':T):Prop where
 rel:∀c,fD hp μ v c->fD hp (mr n μ) v' c
 scalar:v'.scalar=v.scalar
 cells:iG (λx x'=>(∀c,fD hp μ x c->fD hp (mr n μ) x' c)/\x'.scalar=x.scalar/\ku x') v.cells v'.cells
 closed:ku v'
def iG.fx{a:T->T->Prop}{b c:List T}(h:iG (λf g=>iG a f.cells g.cells) b c):iG a (TI.fx b) (TI.fx c):=by
 induction h with
 |nil=>exact .nil
 |cons d _ e=>simpa[TI.fx]using iG.append d e
section
variable {cx:Ctx}{base:Nat}{hp:af Obj}{μ:Mu}{h:H}{n:Nat}
def Fz.same{b:T}(hl:ku b)(a:b.cells=[b]):Fz hp μ n b b:=
 ⟨λc a=>a.cut (hl.low n),rfl,by rw[a];exact .cons ⟨λc a=>a.cut (hl.low n),rfl,hl⟩ .nil,hl⟩
def A7{a:T}(b:∀d∈a.cells,ku d):ku a:=by
 cases a with
 |agg c=>exact .agg c b
 |_=>exact b _ (by simp[T.cells])
def GY{a:List T}(e:∀d∈a,∃b,fD hp μ d b):∃c,gJ hp μ a c:=by
 induction a with
 |nil=>exact⟨[],gJ.nil⟩
 |cons k a j=>
  obtain⟨b,f⟩:=e k dC;obtain⟨c,g⟩:=j λd i=>e d (by simp[i]);exact⟨b::c,gJ.cons f g⟩
def E9{a:T}(d:∀c∈a.cells,∃b,fD hp μ c b)(g:∀c∈a.cells,c.scalar=true):∃b,fD hp μ a b:=by
 cases a with
 |agg f=>
  obtain⟨e,hl⟩:=GY d;exact⟨.agg e.toArray,fD.xu (by have hl:gJ hp μ f e:=hl;simpa using hl) g⟩
 |_=>exact d _ (by simp[T.cells])
def gJ.mem{b:List T}{d:List am}(h:gJ hp μ b d){a:T}(f:a∈b):∃c,fD hp μ a c:=by
 obtain⟨g,e⟩:=List.mem_iff_getElem?.1 f;exact⟨_,h.2 g a e⟩
def F3(s:St cx base hp μ h):∀(D:Nat) (d c:T),(∃o,fD hp μ d o)->freeze h n D d=some c->Fz hp μ n d c:=by
 intro D;induction D with
 |zero=>intro d c _ b;simp[freeze]at b
 |succ D bp=>
  intro d c V b;cases d with
  |undef=>exact absurd b (by show¬(none=some c);simp)
  |ptr=>exact absurd b (by show¬(none=some c);simp)
  |jB=>exact absurd b (by show¬(none=some c);simp)
  |func=>exact absurd b (by show¬(none=some c);simp)
  |iface=>exact absurd b (by show¬(none=some c);simp)
  |iter=>exact absurd b (by show¬(none=some c);simp)
  |map=>exact absurd b (by show¬(none=some c);simp)
  |nR=>exact absurd b (by show¬(none=some c);simp)
  |tuple=>exact absurd b (by show¬(none=some c);simp)
  |bool l=>have b:some (T.bool l)=some c:=b;simp only[ar]at b;subst b;exact Fz.same (.bool l) rfl
  |int x m=>have b:some (T.int x m)=some c:=b;simp only[ar]at b;subst b;exact Fz.same (.int x m) rfl
  |str l=>have b:some (T.str l)=some c:=b;simp only[ar]at b;subst b;exact Fz.same (.str l) rfl
  |kw=>have b:some (T.kw)=some c:=b;simp only[ar]at b;subst b;exact Fz.same .kw rfl
  |gu=>have b:some (T.gu)=some c:=b;simp only[ar]at b;subst b;exact Fz.same .gu rfl
  |kK=>have b:some (T.kK)=some c:=b;simp only[ar]at b;subst b;exact Fz.same .kK rfl
  |kM=>have b:some (T.kM)=some c:=b;simp only[ar]at b;subst b;exact Fz.same .kM rfl
  |dN r A=>
   have b:some (T.dN r A)=some c:=b;simp only[ar]at b;subst b;obtain⟨o,q⟩:=V;refine Fz.same ?_ rfl;cases q with
   |nM=>exact .dN _ _ λd g=>by simp at g
   |dN e r A dv off ea dn arr t fz ef b hl aX eo eh q hr=>
    exact .dN _ _ λd g=>A7 λi f=>(q i (List.mem_flatMap.2 ⟨d,g,f⟩)).2
  |agg O=>
   have b:(dV (fP (freeze h n D) O) λz=>some (T.agg z))=some c:=b;replace b:=dL.1 b;obtain⟨z,hr,b⟩:=b;simp only[ar]at b;subst b;obtain⟨o,q⟩:=V;obtain⟨bN,rfl,J,c9⟩:=q.pK;have p:iG (Fz hp μ n) O z:=iG.map (λi f B Y=>bp i B (J.mem f) Y) hr;have U:∀d∈z,ku d:=λd g=>by obtain⟨i,_,f⟩:=p.mem g;exact f.closed
   have dd:∀d∈z,d.scalar=true:=λd g=>by obtain⟨i,c1,f⟩:=p.mem g;rw[f.scalar];exact c9 i c1
   refine⟨λo q=> ?_,rfl,?_,.agg z U⟩
   ·obtain⟨bN,rfl,J,_⟩:=q.pK;refine fD.xu ⟨by rw[<-p.length];exact J.1,λx d a8=> ?_⟩ dd;obtain⟨i,f,aX⟩:=p.get a8;exact aX.rel _ (J.2 x i f)
   ·show iG _ O z;exact p.imp λa l G=>⟨G.rel,G.scalar,G.closed⟩
  |arr l P v u A=>
   have b:gh (Nat.ble n l) (dV (h.get l) λi=> @iY.rec (λ_=>aa T) (λ_ Q _ exact ae k=>
    gh (Nat.beq Q P) (@Bool.rec (λ_=>aa T) (dV (dV (jX v k) λz=>takeN u z) λr=>dV (fP (freeze h n D) r) λE=>
     @List.rec T (λ_=>aa T) (@List.rec T (λ_=>aa T) (@Bool.rec (λ_=>aa T) (some .gu) (some (.dN [] false)) exact) (λ_ _ _=>some .gu) k) (λ_ _ _=>some (.dN E A)) E) none ae)) i)=some c:=b
   obtain⟨bn,b⟩:=dT.1 b;have bn:n<=l:=bw bn;replace b:=dL.1 b;obtain⟨bC,b8,b⟩:=b;obtain⟨dn,Q,et,R,ae,k⟩:=bC;simp only at b;obtain⟨aE,b⟩:=dT.1 b;have aE:Q=P:=aD aE;cases ae with
   |true=>simp at b
   |false=>
    replace b:=dL.1 b;obtain⟨r,w,b⟩:=b;replace b:=dL.1 b;obtain⟨E,ca,K⟩:=b;obtain⟨cL,w⟩:v+u<=k.length/\r=(k.drop v).take u:=by
     replace w:=dL.1 w;obtain⟨r0,C,p⟩:=w;rw[lU]at C;split at C
     ·simp only[ar]at C;subst C;rw[nO]at p;split at p
      ·simp only[ar]at p;rename_i bi cy;simp only[List.length_drop]at cy;exact⟨dB,p.symm⟩
      ·simp at p
     ·simp at C
    have al:∀o,fD hp μ (.arr l P v u A) o->fD hp (mr n μ) c o/\ku c/\c.cells=[c]/\c.scalar=true:=by
     intro o q;obtain⟨j,ds,an,rfl,S,aA,hl,c7⟩:=q.sS;obtain⟨eu,F,L⟩:=s.box l j S;rw[b8]at F;simp only[ar]at F;subst F;have bS:=L.ep;simp only at bS;obtain⟨a7,c4,bT⟩:=c7 dB;have y:=L.plain rfl;simp only at y;obtain⟨arr,t,C,p,ap⟩:=y.row;have aN:∀d∈r,d.cells.length=j.sz:=λd g=>y.size d (bF (bE (w▸g)));have c6:∀d∈fx k,∃o,fD hp μ d o:=λd g=>ap.mem g;have bk:∀d∈r,d∈k:=λd g=>bF (bE (w▸g));have I:iG (Fz hp μ n) r E:=iG.map (λi f B Y=>bp i B (E9 (λN Z=>c6 N (List.mem_flatMap.2 ⟨i,bk i f,Z⟩)) λN Z=>y.scalar N (List.mem_flatMap.2 ⟨i,bk i f,Z⟩)) Y) ca;have X:E.length=u:=by rw[<-I.length,w];simp;omega
     have b9:R=true->j.cap=k.length:=y.tz;cases E with
     |nil=>
      have cp:u=0:=by simpa using X.symm
      subst cp;have aA:c= .gu\/(k=[]/\R=true/\c= .dN [] false):=by
       cases k with
       |cons N ey=>have b:some T.gu=some c:=K;simp only[ar]at b;exact .inl b.symm
       |nil=>
        cases R with
        |false=>have b:some T.gu=some c:=K;simp only[ar]at b;exact .inl b.symm
        |true=>have b:some (T.dN [] false)=some c:=K;simp only[ar]at b;exact .inr ⟨rfl,rfl,b.symm⟩
      rcases aA with rfl|⟨rfl,rfl,rfl⟩
      ·exact⟨.gu _ _,.gu,rfl,rfl⟩
      ·have av:j.cap=0:=by simpa using b9 rfl
       have:an=0:=by
        cases A with
        |false=>have:=c4 rfl;omega
        |true=>exact a7 rfl
       subst this;exact⟨.nM _ _,.dN _ _ λd g=>by simp at g,rfl,rfl⟩
     |cons B M=>
      have b:some (T.dN (B::M) A)=some c:=K;simp only[ar]at b;subst b;simp only[bh]at X;have U:∀d∈B::M,ku d:=λd g=>by obtain⟨i,_,f⟩:=I.mem g;exact f.closed
      refine⟨?_,.dN _ _ U,rfl,rfl⟩;rw[bT dB,<-X];have W:=iG.fx (I.imp λa l G=>G.cells);have ce:(fx (B::M)).length=u*j.sz:=by rw[<-W.length,il aN,w];congr 1;simp;omega
      have a6:fx r=((fx k).drop (v*j.sz)).take (u*j.sz):=by rw[w];exact CL y.size v u
      have cb:(fx k).length=k.length*j.sz:=il y.size;have eb:v*j.sz+u*j.sz<=k.length*j.sz:=by rw[<-cg];exact aY _ cL
      have ec:k.length*j.sz<=j.cap*j.sz:=aY _ y.room;refine .dN B M A j.iR (v*j.sz) an j.sz arr t (0,0) ?_ C dB (λx=>by rw[a7 x];omega) ?_ ?_ ?_ ?_
      ·rintro(⟨bB,bz,b6,b7⟩|hr)
       ·obtain⟨er,dm⟩:=kf b6;have:=s.inj bB l bz j dm S b7;omega
       ·exact s.apart l j S hr
      ·intro d g;obtain⟨i,f,di⟩:=I.mem g;rw[<-di.cells.length];exact aN i f
      ·rw[ce,p];omega
      ·intro d g;obtain⟨i,f,F,L,de⟩:=W.mem g;refine⟨?_,de⟩;rw[L];rw[a6]at f;exact y.scalar i (bF (bE f))
      ·intro x d g;obtain⟨i,f,F,_⟩:=W.get g;refine F _ ?_;rw[a6,bM]at f;split at f
       ·rename_i a8;rw[bK]at f;have:=ap.2 _ i f;have bi:v*j.sz+x<(fx k).length:=by rw[cb];omega
        have cX:v*j.sz+x<arr.size:=by rw[p];omega
        simpa[List.getD,bM,bi,aZ,cX]using this
       ·simp at f
    obtain⟨bH,av⟩:=V;obtain⟨_,bs,dk,bu⟩:=al bH av;exact⟨λo q=>(al o q).1,by rw[bu];rfl,by rw[dk];exact .cons ⟨λo q=>(al o q).1,by rw[bu];rfl,bs⟩ .nil,bs⟩
end
end
noncomputable section
section
variable {cx:Ctx}{base:Nat}{hp:af Obj}{μ:Mu}{h:H}{n:Nat}
def uo(t:St cx base hp μ h){f d:T}(r:∃e,fD hp μ f e)(a:iJ h n f=some d):
 (∀e,fD hp μ f e->fD hp (mr n μ) d e)/\d.scalar=f.scalar:=by
 have q:freeze h n 12 f=some d->(∀e,fD hp μ f e->fD hp (mr n μ) d e)/\d.scalar=f.scalar:=λs=>
  let m:=F3 t 12 f d r s
  ⟨m.rel,m.scalar⟩
 cases f with
 |undef=>
  have a:some T.undef=some d:=a;simp only[ar]at a;subst a;exact⟨λe g=>g.cut .undef,rfl⟩
 |ptr b i o p=>
  have a: @Bool.rec (λ_=>aa T) (some (.ptr b i o p)) none (Nat.ble n b)=some d:=a;cases c:Nat.ble n b with
  |true=>rw[c]at a;simp at a
  |false=>
   rw[c]at a;have a:some (T.ptr b i o p)=some d:=a;simp only[ar]at a;subst a;have:b<n:=by
    rcases aF b n with x|x
    ·exact x
    ·rw[cd x]at c;simp at c
   exact⟨λe g=>g.cut (.ptr _ _ _ _ this),rfl⟩
 |map b=>
  have a: @Bool.rec (λ_=>aa T) (some (.map b)) none (Nat.ble n b)=some d:=a;cases c:Nat.ble n b with
  |true=>rw[c]at a;simp at a
  |false=>
   rw[c]at a;have a:some (T.map b)=some d:=a;simp only[ar]at a;subst a;have:b<n:=by
    rcases aF b n with x|x
    ·exact x
    ·rw[cd x]at c;simp at c
   exact⟨λe g=>g.cut (.map _ this),rfl⟩
 |arr b i l k j=>
  have a: @Bool.rec (λ_=>aa T) (some (.arr b i l k j)) (freeze h n 12 (.arr b i l k j)) (Nat.ble n b)=some d:=a;cases c:Nat.ble n b with
  |true=>rw[c]at a;exact q a
  |false=>
   rw[c]at a;have a:some (T.arr b i l k j)=some d:=a;simp only[ar]at a;subst a;have:b<n:=by
    rcases aF b n with x|x
    ·exact x
    ·rw[cd x]at c;simp at c
   exact⟨λe g=>g.cut (.arr _ _ _ _ _ this),rfl⟩
 |_=>exact q a
def Dz(s:St cx base hp μ h){d c:List T}{m:List am}(g:gJ hp μ d m)(p:fP (iJ h n) d=some c):
 gJ hp (mr n μ) c m/\∀b∈c,∃e∈d,b.scalar=e.scalar:=by
 have f:iG (λk o=>(∀l,fD hp μ k l->fD hp (mr n μ) o l)/\o.scalar=k.scalar) d c:=iG.map (λb a e j=>uo s (g.mem a) j) p;refine⟨⟨by rw[<-f.length];exact g.1,λr k q=> ?_⟩,λb a=> ?_⟩
 ·obtain⟨b,a,i⟩:=f.get q;exact i.1 _ (g.2 r b a)
 ·obtain⟨e,j,i⟩:=f.mem a;exact⟨e,j,i.2⟩
def qu(g:St cx base hp μ h){d e:T}{b:am}(c:fD hp μ d b)(a:kr h n d=some e):fD hp (mr n μ) e b:=by
 cases d with
 |agg i=>
  have a:(dV (fP (iJ h n) i) λf=>some (T.agg f))=some e:=a;replace a:=dL.1 a;obtain⟨f,hr,a⟩:=a;simp only[ar]at a;subst a;obtain⟨t,rfl,l,o⟩:=c.pK;obtain⟨j,k⟩:=Dz g l hr;exact fD.xu j λr p=>by obtain⟨s,q,m⟩:=k r p;rw[m];exact o s q
 |_=>exact(uo g ⟨b,c⟩ a).1 b c
def u4(k:St cx base hp μ h){c d:T}{b:am}(e:fD hp μ c b)(a:jl h n c=some d):fD hp (mr n μ) d b:=by
 cases c with
 |tuple l=>
  have a:(dV (fP (kr h n) l) λf=>some (T.tuple f))=some d:=a;replace a:=dL.1 a;obtain⟨f,hr,a⟩:=a;simp only[ar]at a;subst a;obtain⟨o,rfl,i⟩:=e.z7;have g:iG (λc d=>∀b,fD hp μ c b->fD hp (mr n μ) d b) l f:=iG.map (λm j t r b e=>qu k e r) hr;refine .tuple f o (by rw[<-g.length];simpa using i.1.symm) λs c q=> ?_;obtain⟨m,j,p⟩:=g.get q;have:=p _ (i.2 s m j);simpa[aZ,List.getD]using this
 |_=>exact qu k e a
def lF{b:T}{i:am}(g:fD hp μ b i)(a:ks n b=true):pP n b:=by
 cases b with
 |ptr c j m o=>exact .ptr _ _ _ _ (by have a:Nat.blt c n=true:=a;rwa[aH]at a)
 |arr c j q p k=>exact .arr _ _ _ _ _ (by have a:Nat.blt c n=true:=a;rwa[aH]at a)
 |map c=>exact .map _ (by have a:Nat.blt c n=true:=a;rwa[aH]at a)
 |jB l=>
  obtain⟨_,_,_,_,_,_,_,_,_,e,_⟩:=g.lO;exact .jB _ λb d=>(e b d).2.low n
 |dN f k=>
  refine .dN _ _ λb d=> ?_;cases f with
  |nil=>simp[fx]at d
  |cons r f=>obtain⟨_,_,_,_,_,_,_,_,_,_,_,_,_,_,e,_⟩:=g.uk;exact(e b d).2.low n
 |undef=>simp[ks]at a
 |func=>simp[ks]at a
 |iface=>simp[ks]at a
 |iter=>simp[ks]at a
 |agg=>simp[ks]at a
 |tuple=>simp[ks]at a
 |_=>constructor
def M6{i:T}(g:below n i=true)(b:∀c∈i.cells,∃d,fD hp μ c d):∀c∈i.cells,pP n c:=by
 cases i with
 |agg e=>
  intro c a;obtain⟨d,b⟩:=b c a;exact lF b (ql (show wW (ks n) e=true from g) c a)
 |func p e=>
  intro c a;obtain⟨d,b⟩:=b c a;simp[T.cells]at a;subst a;obtain⟨m,rfl,j⟩:=b.rU;exact .func _ _ λl f=>by obtain⟨o,k⟩:=j.mem f;exact lF k (ql (show wW (ks n) e=true from g) l f)
 |tuple e=>
  intro c a;obtain⟨d,b⟩:=b c a;simp[T.cells]at a;subst a;obtain⟨m,rfl,j⟩:=b.z7;exact .tuple _ λl f=>by obtain⟨o,k⟩:=j.mem f;exact lF k (ql (show wW (ks n) e=true from g) l f)
 |_=>
  intro c a;obtain⟨d,b⟩:=b c a;simp[T.cells]at a;subst a;exact lF b g
def C6{c:Nat}{f:List iY}(b:r9 n c f=true):∀a d,a<c->f[a]? =some d->∀m∈d.eZ,below n m=true:=by
 induction c generalizing f with
 |zero=>intro a d j;omega
 |succ c k=>
  intro a d j e;cases f with
  |nil=>simp at e
  |cons i l=>
   have b: @Bool.rec (λ_=>Bool) false (r9 n c l) (wW (below n) i.eZ)=true:=b;cases g:wW (below n) i.eZ with
   |false=>rw[g]at b;simp at b
   |true=>
    rw[g]at b;cases a with
    |zero=>simp at e;subst e;exact ql g
    |succ a=>exact k b a d dB (by simpa using e)
def St.cut(c:St cx base hp μ h)(y:n<=h.size){low:Nat}(hl:∀a b e,a<n->μ a=some b->h.get a=some e->∀g∈fx e.eZ,pP n g):
 St cx base hp (mr n μ) ⟨n,low,h.fy.drop (h.size-n)⟩:=by
 have t:∀a,a<n->(⟨n,low,h.fy.drop (h.size-n)⟩:H).get a=h.get a:=by
  intro a d;rw[H.get_eq,H.get_eq];have f:a<h.size:=dB;simp only[d,f,bg,bK];congr 1;omega
 refine⟨?_,c.fit,?_,?_,?_,λa b d=>c.apart a b (kf d).2,c.qF,?_⟩
 ·simp only[List.length_drop,c.wf];omega
 ·intro a b d;obtain⟨j,k⟩:=kf d;obtain⟨e,i,u⟩:=c.box a b k;exact⟨e,by rw[t a j];exact i,u.cut (hl a b e j k i)⟩
 ·intro a m b l f q r;exact c.inj a m b l (kf f).2 (kf q).2 r
 ·intro a b d;exact c.low a b (kf d).2
 ·intro p o s;have:=c.yM p o s;refine this.cut ?_;obtain⟨_,_,_,_,_,_,_,_,_,v,_⟩:=this.lO;exact .jB _ λg x=>(v g x).2.low n
def St.KI(a:St cx base hp μ h)(g:Nat):St cx base hp μ ⟨h.size,g,h.fy⟩:=by
 refine⟨a.wf,a.fit,λd c e=> ?_,a.inj,a.low,a.apart,a.qF,a.yM⟩;obtain⟨i,b,f⟩:=a.box d c e;exact⟨i,by rw[H.get_eq]at b|-;exact b,f⟩
def Left(cx:Ctx)(base:Nat)(w w':World)(μ:Mu)(d:H)(e:T)(b:H)(c:am):Prop:=
 ∃a,fD w'.heap a e c/\St cx base w'.heap a b/\pI w μ w' a/\ye μ a d.size b.size
def H.rm(h:H)(b a:Nat):(⟨h.size,b,h.fy⟩:H).get a=h.get a:=by rw[H.get_eq,H.get_eq]
def CG{n low0 low:Nat}{b:List iY}(c:kW ⟨n,n,b⟩ h)(hl:low<=low0)(j:∀a,a<n->a<low->a<h.low):kW ⟨n,low0,b⟩ ⟨h.size,low,h.fy⟩:=by
 have d:∀a,(⟨n,low0,b⟩:H).get a=(⟨n,n,b⟩:H).get a:=λa=>by rw[H.get_eq,H.get_eq]
 refine⟨c.wf,c.size,hl,λa e k=> ?_,λa l f=> ?_⟩
 ·rw[H.rm,d];exact c.kS a e (j a e k)
 ·rw[d]at f;obtain⟨m,g,i⟩:=c.ver a l f;exact⟨m,by rw[H.rm];exact g,i⟩
def Fv{low0:Nat}{d f:T}{e:H}(a:ni low0 d h=some (f,e)):f=d/\e=⟨h.size,if h.low<low0 then h.low else low0,h.fy⟩:=by
 obtain⟨j,b,g⟩:=h;have a: @Bool.rec (λ_=>aa (T×H)) (some (d,⟨j,low0,g⟩)) (some (d,⟨j,b,g⟩)) (Nat.blt b low0)=some (f,e):=a;cases c:Nat.blt b low0 with
 |true=>
  rw[c]at a;simp only[ar,az]at a;have:b<low0:=by rwa[aH]at c
  exact⟨a.1.symm,by rw[<-a.2];simp[this]⟩
 |false=>
  rw[c]at a;simp only[ar,az]at a;have:¬b<low0:=λi=>by rw[<-aH,c]at i;simp at i
  exact⟨a.1.symm,by rw[<-a.2];simp[this]⟩
variable {w w':World}{μ0:Mu}{low0:Nat}{sa:List iY}
def xP{c d:T}{b:am}{a:H}(k:St cx base w'.heap μ h)(f:kW ⟨n,n,sa⟩ h)(l:pI w μ0 w' μ)(e:ye μ0 μ n h.size)(i:fD w'.heap μ c b)
 (j:ni low0 c h=some (d,a)):Left cx base w w' μ0 ⟨n,low0,sa⟩ d a b/\kW ⟨n,low0,sa⟩ a:=by
 obtain⟨rfl,rfl⟩:=Fv j;exact⟨⟨μ,i,k.KI _,l,e⟩,CG f (by split<;>omega) (λm _ g=>by split at g<;>omega)⟩
def HJ{a6:Bool}{x y:T}{P:am}{B:H}(a7:St cx base w.heap μ0 ⟨n,low0,sa⟩)(D:St cx base w'.heap μ h)(A:kW ⟨n,n,sa⟩ h)(g:pI w μ0 w' μ)(F:ye μ0 μ n h.size)
 (L:fD w'.heap μ x P) (b:Co a6 n low0 x h=some (y,B)):Left cx base w w' μ0 ⟨n,low0,sa⟩ y B P/\kW ⟨n,low0,sa⟩ B:=by
 cases a6 with
 |true=>exact xP D A g F L b
 |false=>
  have b: @Option.rec T (λ_=>aa (T×H)) (ni low0 x h) (λy=>uh n low0 x y h) (jl h n x)=some (y,B):=b;cases V:jl h n x with
  |none=>rw[V]at b;exact xP D A g F L b
  |some I=>
   rw[V]at b;have ca:=u4 D L V;have X:n<=h.size:=A.size;have aA:∀a d,μ0 a=some d->a<n:=λa d c=>a7.eJ c;have ae:∀s,s<=low0->(∀a,a<n->a<s->a<h.low)->(∀a d e,a<n->μ a=some d->h.get a=some e->∀z∈fx e.eZ,pP n z)->
    Left cx base w w' μ0 ⟨n,low0,sa⟩ I ⟨n,s,h.fy.drop (h.size-n)⟩ P/\kW ⟨n,low0,sa⟩ ⟨n,s,h.fy.drop (h.size-n)⟩:=by
    intro s W b7 hl;have av:=St.cut (low:=s) D X hl;refine⟨⟨mr n μ,ca,av,⟨⟨g.ext.size,λi M b8=> ?_,λa d c=> ?_,g.ext.pi,g.ext.kept⟩,g.os,g.tape,g.output⟩,au _,λa c=> ?_,λa ce aX=>absurd ce (by show¬n<=a;have aX:a<n:=aX;omega)⟩,?_⟩
    ·obtain⟨bp,bs⟩:=g.ext.nJ i M b8;exact⟨bp,wC bs⟩
    ·rw[uq (aA a d c)];exact g.ext.mu a d c
    ·left;obtain⟨d,C⟩:=Option.ne_none_iff_exists'.1 c;obtain⟨dn,cL⟩:=kf C;rcases F.2.1 a (by rw[cL];simp)with k|k
     ·exact k
     ·omega
    ·have R:=CG (low:=s) A W b7;have aE:∀a,a<n->(⟨n,s,h.fy.drop (h.size-n)⟩:H).get a=h.get a:=by
      intro a c;rw[H.get_eq,H.get_eq];have K:a<h.size:=dB;simp only[c,K,bg,bK];congr 1;omega
     refine⟨av.wf,au _,R.low,λa c b6=> ?_,λa O r=> ?_⟩
     ·rw[aE a c];have:=R.kS a c b6;rwa[H.rm]at this
     ·rw[aE a (H.eJ r)];have:=R.ver a O r;simpa only[H.rm]using this
   have a8:∀a d e,a<n->a<h.low->μ a=some d->h.get a=some e->∀z∈fx e.eZ,pP n z:=by
    intro a d e c W C v;have aN:=A.kS a c W;rw[v]at aN;rcases F.2.1 a (by rw[C];simp)with k|k
    ·obtain⟨bi,bB⟩:=Option.ne_none_iff_exists'.1 k;obtain⟨eb,Z,N⟩:=a7.box a bi bB;have bn:(⟨n,low0,sa⟩:H).get a=(⟨n,n,sa⟩:H).get a:=by rw[H.get_eq,H.get_eq]
     rw[bn,<-aN]at Z;simp only[ar]at Z;subst Z;exact N.low aA
    ·omega
   obtain⟨E,low,J⟩:=h;have b:(dV (jX (Nat.sub E n) J) λq=>
    @Bool.rec (λ_=>aa (T×H))
     (@Bool.rec (λ_=>aa (T×H)) (ni low0 x ⟨E,low,J⟩)
       (@Bool.rec (λ_=>aa (T×H)) (some (I,⟨n,low0,q⟩)) (some (I,⟨n,low,q⟩)) (Nat.blt low low0)) (r9 n (Nat.sub n low) q))
     (some (I,⟨n,low0,q⟩)) (Nat.ble n low))=some (y,B):=b
   replace b:=dL.1 b;obtain⟨q,o,b⟩:=b;rw[lU]at o;have o:q=J.drop (E-n):=by
    split at o
    ·simp only[ar]at o;exact o.symm
    ·simp at o
   have dd:low0<=n\/n<low0:=dB;cases G:Nat.ble n low with
   |true=>
    rw[G]at b;simp only[ar,az]at b;obtain⟨rfl,rfl⟩:=b;have b9:n<=low:=bw G;rw[o];exact ae _ (au _) (λa c _=>by show a<low;omega) λa d e c=>a8 a d e c (by show a<low;omega)
   |false=>
    rw[G]at b;have b9:low<n:=by
     rcases aF low n with k|k
     ·exact k
     ·rw[cd k]at G;simp at G
    cases S:r9 n (Nat.sub n low) q with
    |false=>rw[S]at b;exact xP D A g F L b
    |true=>
     rw[S]at b;have bk:∀a d e,a<n->μ a=some d->(⟨E,low,J⟩:H).get a=some e->∀z∈fx e.eZ,pP n z:=by
      intro a d e c C v;by_cases bC:a<low
      ·exact a8 a d e c bC C v
      ·obtain⟨ea,Y,N⟩:=D.box a d C;rw[v]at Y;simp only[ar]at Y;subst Y;have bS:q[n-1-a]? =some e:=by
        rw[H.get_eq]at v;have X:n<=E:=X;have bH:a<E:=dB;simp only[bH,bg]at v;rw[o,bK,<-v];congr 1;omega
       have U:=C6 S (n-1-a) e (by show _<n-low;omega) bS;intro z cb;obtain⟨Q,f,p⟩:=List.mem_flatMap.1 cb;cases M:e.it with
       |true=>
        obtain⟨_,⟨dv,cy,bN,_⟩|⟨c4,de,di,cp⟩|⟨dk,m,cy,ds,c1,K,al,an,c9⟩⟩:=N.iter M
        ·rw[bN]at f;simp at f;rcases f with rfl|rfl<;>(simp[T.cells]at p;subst p;constructor)
        rotate_left
        ·have l:=U _ f;rw[K]at f;simp at f;rcases f with rfl|rfl|rfl|rfl
         ·simp[T.cells]at p;subst p;exact lF al l
         all_goals (simp[T.cells]at p;subst p;constructor)
        ·obtain⟨j,bT⟩:=List.mem_iff_getElem?.1 f;obtain⟨k,u,dm,rfl,c6,c7,bu,bz⟩:=cp j Q bT;have l:=U _ f;have l:wW (ks n) [k,u]=true:=l;simp[T.cells]at p;subst p;refine .tuple _ λO r=> ?_;have ap:=ql l O r;simp at r;rcases r with rfl|rfl
         ·exact lF bu ap
         ·exact lF bz ap
       |false=>
        obtain⟨cX,t,K,al,an⟩:=(N.plain M).row;exact M6 (U Q f) (λO r=>an.mem (List.mem_flatMap.2 ⟨Q,f,r⟩)) z p
     have:y=I/\B=⟨n,if low<low0 then low else low0,q⟩:=by
      cases l:Nat.blt low low0 with
      |true=>
       rw[l]at b;simp only[ar,az]at b;have:low<low0:=by rwa[aH]at l
       exact⟨b.1.symm,by rw[<-b.2];simp[this]⟩
      |false=>
       rw[l]at b;simp only[ar,az]at b;have:¬low<low0:=λk=>by rw[<-aH,l]at k;simp at k
       exact⟨b.1.symm,by rw[<-b.2];simp[this]⟩
     obtain⟨rfl,rfl⟩:=this;rw[o];exact ae _ (by split<;>omega) (λa _ c=>by show a<low;split at c<;>omega) bk
end
end
end Go.TI
