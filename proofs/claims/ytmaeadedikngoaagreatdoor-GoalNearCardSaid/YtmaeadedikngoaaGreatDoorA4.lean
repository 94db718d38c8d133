/- Texts TiMap to TiLeave. -/
import Derived.Test.YtmaeadedikngoaaGreatDoorA3
import Derived.MapKept
import Derived.Laws.IdiomStrings
import Derived.WideKeyRuns
import Derived.Maps.RangeRun
set_option linter.all false
namespace Go.TI
noncomputable section
open Go.MapKept
section
variable {P:ai}{cx:Ctx}{base:Nat}{w:World}{μ:Mu}{h h':H}{mask:Nat}{e:Env}{a:Act}{o:Oper}{hp hp':af Obj}{p:T}
def pI{j:Type}{c:j->Bool}{d:List j}(b:wt c d=true):∀f∈d,c f=true:=by
 induction d with
 |nil=>intro f hx;simp at hx
 |cons i d k=>
  have b: @Bool.rec (λ_=>Bool) false (wt c d) (c i)=true:=b;cases g:c i with
  |false=>rw[g]at b;simp at b
  |true=>
   rw[g]at b;intro f hx;rcases List.mem_cons.1 hx with rfl|hx
   ·exact g
   ·exact k b f hx
def DZ{g:T}{b:Nat}(c:byteOf g=some b):g= .int .u8 (.ofNat b)/\b<256:=by
 cases g with
 |int m l=>
  have c:fT (CM m .u8) (@Int.rec (λ_=>aa Nat) (λb=>fT (Nat.blt b 256) (some b)) (λ_=>none) l)=some b:=c;obtain⟨i,d⟩:=dL.1 c;rw[xl]at i;subst i;cases l with
  |ofNat f=>
   have d:fT (Nat.blt f 256) (some f)=some b:=d;obtain⟨j,k⟩:=dL.1 d;rw[aG]at j;simp only[ar]at k;subst k;exact⟨rfl,j⟩
  |negSucc f=>simp at d
 |_=>simp[byteOf]at c
def HZ(iG:iP P cx){n j:ab}{A:ah}(x:St cx base w.heap μ h)(r:j7 w.heap μ mask e a.tmps)(al:o.op= .convert n j A)(J:P.underlying j=some .string){v:T}
 (hp:fG cx mask e A=some p) (b:FN cx h n p=some v) (Y:h'=h):iZ cx base w μ h.size ((execOp a.eval o).run P w) v h':=by
 subst Y;replace b:=dD.1 b;obtain⟨bi,av,b⟩:=b;obtain⟨d,G,M⟩:=kq (iG.ty _ _ av);cases aN:bi.u<;>rw[aN]at b M<;>simp only[reduceCtorEq]at b;rename_i C;have:=lq M;subst this;replace b:=dD.1 b;obtain⟨a8,ap,b⟩:=b;obtain⟨bn,I,N⟩:=kq (iG.ty _ _ ap);cases aX:a8.u<;>rw[aX]at b N<;>simp only[reduceCtorEq]at b;rename_i k;replace b:=dL.1 b;obtain⟨K,b⟩:=b;rw[xl]at K;subst K;have:=vy N;subst this;replace b:=dD.1 b;obtain⟨l,X,b⟩:=b;replace b:=dD.1 b;obtain⟨f,S,b⟩:=b;replace b:=dL.1 b;obtain⟨_,b⟩:=b;simp only[ar]at b;subst b;obtain⟨bz,a6⟩:=nM (P:=P) x (fX x r hp) X;obtain⟨bk,B,a7,O,bs,D,bu,U⟩:=a6.form;obtain⟨t,F⟩:=qT.1 S;have W:l=f.map λi=>T.int .u8 (.ofNat i):=by
  apply cU;intro c;rw[aQ];cases g:l[c]? with
  |none=>
   have:f[c]? =none:=by
    rw[List.getElem?_eq_none_iff]at g|-;omega
   rw[this];rfl
  |some z=>
   obtain⟨i,m,s⟩:=F c z g;rw[m,(DZ s).1];rfl
 have E:∀i∈f,i<256:=by
  intro i m;obtain⟨c,g⟩:=List.mem_iff_getElem?.1 m;have Z:c<l.length:=by
   rw[t];rcases aD c f.length with y|y
   ·exact y
   ·rw[aK y]at g;simp at g
  obtain⟨bl,q,s⟩:=F c l[c] (by simp[Z]);rw[g]at q;simp only[ar]at q;subst q;exact(DZ s).2
 have an:fg w.heap μ (.str f) (.string (bytesOf f)):= .str f E;rw[W,qD]at D;have ae:∀(c:Nat) i,f[c]? =some i->a7[c]? =some (.int .u8 (i:Int)):=by
  intro c i g;obtain⟨u,aA,aE⟩:=D.get (k:=c) (v:= .int .u8 (.ofNat i)) (by simp[g]);rw[aA,aE.jH];rfl
 have V:(convert n j (a.eval A)).run P w= .ok (.string (bytesOf f)) w:=by
  rw[O];rcases U with⟨rfl,L⟩|⟨y,rfl,m⟩
  ·have Q:f=[]:=by
    have:=t;rw[L]at this;simp at this;exact aY this.symm
   subst Q;rw[L];rw[run_convert_bytes_string w n j C none _ B G I J];simp[Conv.bytesToString];rfl
  ·have hl:l.length=(f.map UInt8.ofNat).length:=by simp[t]
   rw[hl];have:=run_convert_bytes_back (P:=P) w n j C y B (f.map UInt8.ofNat) G I J (by
    intro c g;simp only[aH]at g;have R:f[c]? =some f[c]:=by simp[g]
    rw[m c _ (ae c _ R)];simp only[List.getElem_map];rw[jq (E _ (aF g))])
   rw[this];rfl
 exact iZ.pure x (by simp only[execOp,al,Sem.run_bind,V,Result.andThen_ok,Sem.run_pure]) an
end
end
noncomputable section
open Go.MapKept
section
variable {P:ai}{cx:Ctx}{base:Nat}{w:World}{μ:Mu}{h h':H}{mask:Nat}{e:Env}{a:Act}{o:Oper}{hp hp':af Obj}{p:T}
def GS{x:ah}{b:Bool}(j:St cx base w.heap μ h)(i:j7 w.heap μ mask e a.tmps)(g:o.op= .next x b){d:T}
 (f:GT x b cx mask e h=some (.val d h')):iZ cx base w μ h.size ((execOp a.eval o).run P w) d h':=by
 cases b with
 |true=>exact ED j i g f
 |false=>exact absurd f (by intro c;have c:(none:aa lh)=some (.val d h'):=c;simp at c)
end
end
noncomputable section
def yE(P:ai)(c:am->World->Prop):Result Next->Prop
 | .ok (.value d) b=>c d b
 | .ok .skip b=>c Go.undef b
 | .ok (.enter g f) b=>Calls P g f b λ
  | .returned d,i=>c d i
  |_,_=>False
 |_=>False
def yE.mono{P:ai}{c d:am->World->Prop}{b:Result Next}(h:yE P c b)(g:∀i w,c i w->d i w):yE P d b:=by
 cases b with
 |halt l w=>exact h
 |ok j w=>
  cases j<;>simp only[yE]at h|- <;>first|exact h|exact g _ _ h|skip
  exact Calls.mono h λe k f=>by cases e<;>first|exact g _ _ f|exact f
def yE.wp{P:ai}{o:Oper}{a:Act}{w:World}{c:am->World->Prop}{next:Act->World->Prop}{Q:Exit->Act->World->Prop}
 (h:yE P c ((execOp a.eval o).run P w)) (f:∀g b,c g b->next (a.put o.dst g) b):o.wp P a w next Q:=by
 unfold Oper.wp;generalize(execOp a.eval o).run P w=j at h;cases j with
 |halt k w=>exact h.elim
 |ok i w=>
  cases i<;>simp only[yE]at h<;>simp only[Oper.upon]<;>first|exact h.elim|exact f _ _ h|skip
  exact Calls.mono h λe b d=>by cases e<;>first|exact f _ _ d|exact d.elim
def yE.some{P:ai}{b:am->World->Prop}{d:Result Next}(h:yE P b d):∃g w,b g w:=by
 cases d with
 |halt k w=>exact h.elim
 |ok f w=>
  cases f<;>simp only[yE]at h<;>first|exact h.elim|exact⟨_,_,h⟩|skip
  obtain⟨e,j,i,c,_⟩:=h [];cases e<;>first|exact⟨_,_,c⟩|exact c.elim
section
variable {P:ai}{cx:Ctx}{base:Nat}{w:World}{μ:Mu}{h h':H}{mask:Nat}{e:Env}{a:Act}{o:Oper}
def TQ(cx:Ctx)(base:Nat)(w:World)(μ:Mu)(f:Nat)(g:T)(h':H)(d:am)(c:World):Prop:=
 ∃b,fg c.heap b g d/\St cx base c.heap b h'/\oU w μ c b/\xE μ b f h'.size
def iZ.Yv{i:Result Next}{g:Nat}{j:T}(h:iZ cx base w μ g i j h'):yE P (TQ cx base w μ g j h') i:=by
 obtain⟨m,n,k,l,b,c,d,f⟩:=h;rcases l with rfl|⟨rfl,rfl⟩
 ·exact⟨k,b,c,d,f⟩
 ·exact⟨k,b,c,d,f⟩
def LO(iG:iP P cx)(l:St cx base w.heap μ h)(k:j7 w.heap μ mask e a.tmps){d:Call}(i:o.op= .call d){f:T}
 (b:B4 d cx mask e h=some (.val f h')):iZ cx base w μ h.size ((execOp a.eval o).run P w) f h':=by
 replace b:=dD.1 b;obtain⟨m,g,b⟩:=b;cases c:d.callee with
 |builtin n=>rw[c]at b;exact C9 iG l k i c g b
 |invoke t s=>rw[c]at b;simp at b
 |value p=>
  rw[c]at b;simp only at b;replace b:=dD.1 b;obtain⟨j,q,b⟩:=b;cases j<;>simp only[reduceCtorEq]at b;replace b:=dD.1 b;obtain⟨r,hl,b⟩:=b;simp at b
def uD{j:Builtin}{s:List ab}{l:List T}{f:aj}{i:List T}(b:kR j cx h s l=some (.call f i)):False:=by
 have c:∀{d:aa T},val h d=some (.call f i)->False:=λg=>zL g;have p:∀{d:aa (T×H)},jp d=some (.call f i)->False:=by
  intro d g;unfold jp at g;cases d<;>simp[two]at g
 cases j<;>simp only[kR,reduceCtorEq]at b
 case len=>
  split at b
  ·replace b:=dD.1 b;obtain⟨r,_,b⟩:=b;replace b:=dD.1 b;obtain⟨t,_,b⟩:=b;split at b
   ·split at b
    ·exact c b
    ·simp at b
   ·split at b<;>first|exact c b|(simp at b)
   ·exact c b
   ·simp at b
  ·simp at b
 case append=>
  split at b
  ·split at b
   ·replace b:=dD.1 b;obtain⟨r,_,b⟩:=b;replace b:=dD.1 b;obtain⟨t,_,b⟩:=b;obtain⟨_,b⟩:=dL.1 b;exact p b
   ·simp at b
  ·simp at b
 case clear=>
  split at b
  ·split at b
   ·replace b:=dD.1 b;obtain⟨z,_,b⟩:=b;split at b
    ·rename_i n _;cases n<;>simp at b
    ·simp at b
    ·rename_i k _;cases k with
     |zero=>
      have b:some (lh.val .undef h)=some (.call f i):=b;simp at b
     |succ k=>
      replace b:=dD.1 b;obtain⟨m,_,b⟩:=b;obtain⟨y,v,A,x,q,u⟩:=m;obtain⟨_,b⟩:=dL.1 b;obtain⟨_,b⟩:=dL.1 b;cases q with
      |true=>simp at b
      |false=>
       replace b:=dD.1 b;obtain⟨_,_,b⟩:=b;replace b:=dD.1 b;obtain⟨_,_,b⟩:=b;replace b:=dD.1 b;obtain⟨_,_,b⟩:=b;simp at b
    ·simp at b
   ·simp at b
  ·simp at b
 case min=>split at b<;>first|exact c b|(simp at b)
 case max=>split at b<;>first|exact c b|(simp at b)
def IS(k:St cx base w.heap μ h)(j:j7 w.heap μ mask e a.tmps){c:Call}(r:o.op= .call c){g:aj}{i:List T}
 (b:B4 c cx mask e h=some (.call g i)):∃f:af am,fV w.heap μ i f.toList/\(execOp a.eval o).run P w=(callFunc g f).run P w:=by
 replace b:=dD.1 b;obtain⟨v,q,b⟩:=b;have n:=uW k j q;cases d:c.callee with
 |builtin x=>rw[d]at b;exact(uD b).elim
 |invoke D C=>rw[d]at b;simp at b
 |value A=>
  rw[d]at b;simp only at b;replace b:=dD.1 b;obtain⟨u,s,b⟩:=b;have t:=fX k j s;cases u<;>simp only[reduceCtorEq]at b;rename_i z y;replace b:=dD.1 b;obtain⟨B,hl,b⟩:=b;simp only[ar,lh.call.injEq]at b;obtain⟨rfl,rfl⟩:=b;obtain⟨l,m,p⟩:=t.qX;rw[qr]at hl;simp only[ar]at hl;refine⟨c.args.map a.eval++l,?_,?_⟩
  ·rw[<-hl];simpa using n.append p
  ·simp[execOp,r,resolve,d,m,Deferred.ofValue,invoke]
def xV(iG:iP P cx)(d:St cx base w.heap μ h)(f:j7 w.heap μ mask e a.tmps){s:T}
 (b:ja o.op cx mask e h=some (.val s h')):iZ cx base w μ h.size ((execOp a.eval o).run P w) s h':=by
 cases c:o.op<;>rw[c]at b<;>simp only[ja,reduceCtorEq]at b
 case move k=>exact Am d f (.inl c) b
 case assign k=>exact Am d f (.inr c) b
 case pick=>exact GR d f c b
 case alloc=>exact EI iG d c b
 case box=>exact IT d f c b
 case build=>exact EH iG d f c b
 case buildSlice=>exact yg iG d f c b
 case load=>exact GU iG d f c b
 case store=>exact EA iG d f c b
 case nilCheck=>exact AA d f c b
 case binOp z r k L K=>
  cases z<;>first
   |exact DR iG (neg:=false) rfl d f c b
   |exact DR iG (neg:=true) rfl d f c b
   |exact IU dt dt d f c b
 case unOp=>exact LM d f c b
 case convert J C k=>
  replace b:=dD.1 b;obtain⟨n,l,b⟩:=b;replace b:=dD.1 b;obtain⟨I,j,b⟩:=b;replace b:=dD.1 b;obtain⟨t,v,b⟩:=b;split at b
  ·obtain⟨i,g⟩:=fK.1 b;exact Fo iG d f c ⟨n,l⟩ j i g
  ·rename_i m;split at b
   ·obtain⟨i,g⟩:=fK.1 b;exact An iG d f c ⟨n,l⟩ j i g
   ·obtain⟨i,g⟩:=fK.1 b;obtain⟨B,x,q⟩:=kq (iG.ty _ _ v);rw[m]at q;have:=rI q;subst this;exact HZ iG d f c x j i g
  ·obtain⟨i,g⟩:=fK.1 b;exact An iG d f c ⟨n,l⟩ j i g
 case makeInterface=>exact EF iG d f c b
 case makeFunc=>exact GW d f c b
 case makeSlice=>exact zm iG d f c b
 case slice=>exact EB iG d f c b
 case fieldAddr=>exact zr iG d f c b
 case field=>exact EG iG d f c b
 case indexAddr=>exact zo iG d f c b
 case index=>exact EE iG d f c b
 case extract=>exact B3 d f c b
 case range r k=>
  replace b:=dD.1 b;obtain⟨A,y,b⟩:=b;obtain⟨G,t,M,D,u,E,F,p,_⟩:=(iG.ty r A y).unfold;split at b
  ·rename_i m;rw[m]at p;have:=rI p;subst this;exact EC d f c u b
  ·simp at b
 case next=>exact GS d f c b
 exact LO iG d f c b
def NC(d:aa lh):Prop:=∀b c,d≠some (.call b c)
def NC.none:NC none:=λ_ _=>by simp
def NC.val{b:aa T}:NC (val h b):=λ_ _=>zL
def NC.some{b:T}:NC (some (.val b h)):=λ_ _=>by simp
def NC.dM{f:Type}{d:aa f}{c:f->aa lh}(h:∀b,NC (c b)):NC (dM d c):=by
 cases d with
 |none=>exact NC.none
 |some b=>exact h b
def NC.fT{b:Bool}{c:aa lh}(h:NC c):NC (fT b c):=by
 cases b with
 |false=>exact NC.none
 |true=>exact h
def NC.bool{b:Bool}{c d:aa lh}(f:NC c)(g:NC d):NC (Bool.casesOn b c d):=by
 cases b<;>assumption
def BL{b:Op}(d:∀c,b≠ .call c):NC (ja b cx mask e h):=by
 cases b<;>simp only[ja]<;>first
  |exact absurd rfl (d _)
  |exact NC.none
  |skip
 all_goals
  first
   |unfold B1|unfold DQ|unfold B5|unfold LP|unfold zu|unfold nN|unfold GV|unfold BY|unfold qA|unfold ZE|unfold Ka|unfold zq|unfold B2
   |unfold oN|unfold BZ|unfold oP|unfold zt|unfold oO|unfold zp|unfold tO|unfold yf|unfold GT|skip
 case binOp b f i j g=>
  cases b<;>first
   |(simp only[];unfold UV;exact NC.dM λ_=>NC.dM λ_=>NC.dM λ_=>NC.fT (NC.dM λ_=>NC.val))
   |(simp only[];unfold LQ;exact NC.dM λ_=>NC.dM λ_=>NC.val)
 all_goals
  repeat first
   |exact NC.none
   |exact NC.val
   |exact NC.some
   |exact NC.new
   |refine NC.dM λ_=> ?_
   |refine NC.fT ?_
   |refine NC.bool ?_ ?_
   |split
   |unfold km
   |unfold oh
   |unfold B0
   |unfold zl
   |(refine NC.nat ?_ λ_=> ?_)
   |(refine NC.opt ?_ λ_=> ?_)
   |(unfold two)
def F9(m:St cx base w.heap μ h)(l:j7 w.heap μ mask e a.tmps){c:aj}{g:List T}
 (d:ja o.op cx mask e h=some (.call c g)):(∃b,o.op= .call b)/\∃i:af am,fV w.heap μ g i.toList/\(execOp a.eval o).run P w=(callFunc c i).run P w:=by
 by_cases j:∃b,o.op= .call b
 ·obtain⟨b,f⟩:=j;rw[f]at d;exact⟨⟨b,f⟩,IS m l f d⟩
 ·exact absurd d (BL (λb k=>j ⟨b,k⟩) c g)
end
end
noncomputable section
structure kJ(h h':H):Prop where
 wf:h'.fc.length=h'.size
 size:h.size<=h'.size
 low:h'.low<=h.low
 kE:∀b,b<h.size->b<h'.low->h'.get b=h.get b
 ver:∀b x,h.get b=some x->∃x',h'.get b=some x'/\(x'=x\/x.ver<x'.ver)
def kJ.refl{h:H}(a:h.fc.length=h.size):kJ h h:=⟨a,au _,au _,λ_ _ _=>rfl,λ_ c b=>⟨c,b,.inl rfl⟩⟩
def kJ.trans{h d e:H}(b:kJ h d)(a:kJ d e):kJ h e:=by
 refine⟨a.wf,aS b.size a.size,aS a.low b.low,λc f hl=> ?_,λc i g=> ?_⟩
 ·rw[a.kE c (bE f b.size) hl,b.kE c f (bE hl a.low)]
 ·obtain⟨j,d,r1⟩:=b.ver c i g;obtain⟨k,e,r2⟩:=a.ver c j d;refine⟨k,e,?_⟩;rcases r1 with rfl|r1<;>rcases r2 with rfl|r2
  ·exact .inl rfl
  ·exact .inr r2
  ·exact .inr r1
  ·exact .inr (Nat.lt_trans r1 r2)
def H.ez{h:H}{a:Nat}{d:iN}(c:h.get a=some d):a<h.size:=by
 rw[H.get_eq]at c;by_cases b:a<h.size
 ·exact b
 ·simp[b]at c
def kJ.cons{h:H}(e:h.fc.length=h.size)(a:iN):kJ h (h.cons a):=by
 refine⟨by simp[H.cons,e],by simp[H.cons],by simp[H.cons],λc d _=>H.mH d a,λc f b=>⟨f,?_,.inl rfl⟩⟩;rw[H.mH (H.ez b) a];exact b
def kJ.put{h e:H}(k:h.fc.length=h.size){b:Nat}{x d:iN}(i:h.get b=some x)(g:h.put b d=some e)(j:x.ver<d.ver):kJ h e:=by
 obtain⟨p1,p2,p3,p4⟩:=AP g k;obtain⟨o,p,rfl⟩:=H.uU.1 g;refine⟨p2,dt,?_,λc m hl=>p4 c ?_,λc l a=> ?_⟩
 ·simp only;split<;>omega
 ·rintro rfl;simp only at hl;split at hl<;>omega
 ·by_cases f:c=b
  ·subst f;rw[i]at a;simp only[ar]at a;subst a;exact⟨d,p3,.inr j⟩
  ·exact⟨l,by rw[p4 c f];exact a,.inl rfl⟩
def Mv(h:H)(c:aa lh):Prop:=∀b a,c=some (.val b a)->kJ h a
section
variable {h:H}
def Mv.none(b:h.fc.length=h.size):Mv h none:=λ_ _ a=>by simp at a
def Mv.val(b:h.fc.length=h.size){c:aa T}:Mv h (val h c):=λe d a=>by obtain⟨_,rfl⟩:=fK.1 a;exact kJ.refl b
def Mv.some(c:h.fc.length=h.size){b:T}:Mv h (some (.val b h)):=λb d a=>by simp at a;obtain⟨_,rfl⟩:=a;exact kJ.refl c
def Mv.new(c:h.fc.length=h.size){f:Nat->T}{b:iN}:Mv h (jp (h.new f b)):=λe d a=>by
 rw[je,H.kz]at a;simp only[ar,ay]at a;obtain⟨_,rfl⟩:=a;exact kJ.cons c b
def Mv.dM(f:h.fc.length=h.size){d:Type}{b:aa d}{c:d->aa lh}(e:∀a,b=Option.some a->Mv h (c a)):Mv h (dM b c):=by
 cases b with
 |none=>exact Mv.none f
 |some a=>exact e a rfl
def Mv.fT(c:h.fc.length=h.size){a:Bool}{b:aa lh}(d:Mv h b):Mv h (fT a b):=by
 cases a with
 |false=>exact Mv.none c
 |true=>exact d
def Mv.bool(d:h.fc.length=h.size){a:Bool}{b c:aa lh}(e:Mv h b)(f:Mv h c):Mv h (Bool.casesOn a b c):=by
 cases a<;>assumption
def ot(c:h.fc.length=h.size){e bytes:Nat}{d g:List T}{f:T}{b:H}(a:h.iY e bytes d g=Option.some (f,b)):kJ h b:=by
 replace a:=dD.1 a;obtain⟨i,_,a⟩:=a;replace a:=dD.1 a;obtain⟨j,_,a⟩:=a;obtain⟨_,a⟩:=dL.1 a;obtain⟨_,a⟩:=dL.1 a;obtain⟨_,a⟩:=dL.1 a;obtain⟨_,a⟩:=dL.1 a;rw[H.kz]at a;simp only[ar,ay]at a;obtain⟨_,rfl⟩:=a;exact kJ.cons c _
def Da(g:h.fc.length=h.size){l bytes d e k:Nat}{o:List T}{m:T}{b:H}(a:h.ma l bytes d e k o=Option.some (m,b)):kJ h b:=by
 replace a:=dD.1 a;obtain⟨n,i,a⟩:=a;obtain⟨w,q,c,t,j,p⟩:=n;simp only at a;replace a:=dD.1 a;obtain⟨s,_,a⟩:=a;replace a:=dD.1 a;obtain⟨r,_,a⟩:=a;replace a:=dD.1 a;obtain⟨v,_,a⟩:=a;obtain⟨_,a⟩:=dL.1 a;obtain⟨_,a⟩:=dL.1 a;obtain⟨_,a⟩:=dL.1 a;obtain⟨_,a⟩:=dL.1 a;obtain⟨_,a⟩:=dL.1 a;cases j with
 |true=>simp at a
 |false=>
  simp only[iw,dR]at a;replace a:=dD.1 a;obtain⟨u,f,a⟩:=a;simp only[ar,ay]at a;obtain⟨_,rfl⟩:=a;exact kJ.put g i f (by show c<c.succ;omega)
def HE(b:h.fc.length=h.size){k bytes:Nat}{c:T}{j:List T}{i:T}{d:H}(a:h.append k bytes c j=Option.some (i,d)):kJ h d:=by
 unfold H.append at a;cases j with
 |nil=>
  have a:Go.TI.fT (og c) (Option.some (c,h))=Option.some (i,d):=a;obtain⟨_,a⟩:=dL.1 a;simp only[ar,ay]at a;obtain⟨_,rfl⟩:=a;exact kJ.refl b
 |cons o p=>
  simp only at a;cases c<;>simp only[reduceCtorEq]at a
  case dF e f=>
   cases e with
   |nil=>exact ot b a
   |cons q r=>obtain⟨_,a⟩:=dL.1 a;exact ot b a
  case arr l m g n f=>
   cases f with
   |false=>
    cases g with
    |zero=>exact Da b a
    |succ g=>simp at a
   |true=>replace a:=dD.1 a;obtain⟨e,_,a⟩:=a;exact ot b a
def H3(e:h.fc.length=h.size){i:Ty}{b j:T}{c:H}(a:h.store i b j=Option.some c):kJ h c:=by
 unfold H.store at a;cases b<;>simp only[reduceCtorEq]at a;obtain⟨_,a⟩:=dL.1 a;replace a:=dD.1 a;obtain⟨k,f,a⟩:=a;obtain⟨o,m,d,n,g,l⟩:=k;simp only at a;obtain⟨_,a⟩:=dL.1 a;cases g with
 |true=>simp at a
 |false=>
  simp only at a;replace a:=dD.1 a;obtain⟨_,_,a⟩:=a;replace a:=dD.1 a;obtain⟨_,_,a⟩:=a;replace a:=dD.1 a;obtain⟨_,_,a⟩:=a;simp only[iw,dR]at a;exact kJ.put e f a (by show d<d.succ;omega)
def Oo(a:h.fc.length=h.size){f:Op}{cx:Ctx}{r:Nat}{p:Env}:Mv h (ja f cx r p h):=by
 by_cases n:∃e,f= .call e
 ·obtain⟨e,rfl⟩:=n;simp only[ja];unfold B4;refine Mv.dM a λu _=> ?_;split
  ·rename_i o _;cases o<;>simp only[kR]<;>first|exact Mv.none a|skip
   case len=>
    split
    ·unfold L8;refine Mv.dM a λ_ _=>Mv.dM a λ_ _=> ?_
     repeat first|exact Mv.none a|exact Mv.val a|split
    ·exact Mv.none a
   case append=>
    split
    ·split
     ·unfold iO;refine Mv.dM a λ_ _=>Mv.dM a λ_ _=>Mv.fT a ?_;intro c g b;exact HE a (je.1 b)
     ·exact Mv.none a
    ·exact Mv.none a
   case clear=>
    split
    ·split
     ·unfold CA;refine Mv.dM a λw _=> ?_;split
      ·rename_i l _ _;cases l
       ·exact Mv.some a
       ·exact Mv.none a
      ·exact Mv.some a
      ·rename_i k _ _;cases k with
       |zero=>exact Mv.some a
       |succ k=>
        refine Mv.dM a λd j=> ?_;refine Mv.fT a (Mv.fT a (Mv.bool a ?_ ?_))
        ·refine Mv.dM a λl _=> ?_;simp only[iw,dR];refine Mv.dM a λm i=> ?_;intro c g b;simp only[ar,lh.val.injEq]at b;obtain⟨_,rfl⟩:=b;exact kJ.put a j i (by show d.ver<d.ver.succ;omega)
        ·exact Mv.none a
      ·exact Mv.none a
     ·exact Mv.none a
    ·exact Mv.none a
   all_goals (split<;>first|exact Mv.val a|exact Mv.none a)
  ·refine Mv.dM a λc _=> ?_;split
   ·refine Mv.dM a λk _=> ?_;intro c g b;simp at b
   ·exact Mv.none a
  ·exact Mv.none a
 cases f<;>simp only[ja]<;>first
  |exact Mv.none a
  |exact(n ⟨_,rfl⟩).elim
  |skip
 case binOp f s d y x=>
  cases f<;>first
   |(simp only[];unfold UV;exact Mv.dM a λ_ _=>Mv.dM a λ_ _=>Mv.dM a λ_ _=>Mv.fT a (Mv.dM a λ_ _=>Mv.val a))
   |(simp only[];unfold LQ;exact Mv.dM a λ_ _=>Mv.dM a λ_ _=>Mv.val a)
 case store s t d=>
  unfold BY;refine Mv.dM a λ_ _=>Mv.dM a λ_ _=>Mv.dM a λ_ _=>Mv.fT a (Mv.dM a λm q=> ?_);intro c g b;simp only[ar,lh.val.injEq]at b;obtain⟨_,rfl⟩:=b;exact H3 a q
 case next it v=>
  unfold GT;refine Mv.bool a ?_ ?_
  ·exact Mv.none a
  ·unfold zl;refine Mv.dM a λc _=> ?_;cases c<;>simp only<;>first|exact Mv.none a|skip
   refine Mv.dM a λd j=>Mv.fT a ?_;split
   ·refine Mv.bool a (Mv.some a) (Mv.dM a λe _=> ?_);obtain⟨e,wd⟩:=e;simp only[kf,iw,dR];refine Mv.dM a λm i=> ?_;intro c g b;simp only[ar,lh.val.injEq]at b;obtain⟨_,rfl⟩:=b;exact kJ.put a j i (by show d.ver<d.ver.succ;omega)
   ·exact Mv.none a
 all_goals
  first
   |unfold B1|unfold DQ|unfold B5|unfold LP|unfold zu|unfold nN|unfold GV|unfold qA|unfold ZE|unfold Ka|unfold zq|unfold B2
   |unfold oN|unfold BZ|unfold oP|unfold zt|unfold oO|unfold zp|unfold tO|unfold yf|skip
 all_goals
  repeat first
   |exact Mv.none a
   |exact Mv.val a
   |exact Mv.some a
   |exact Mv.new a
   |refine Mv.dM a λ_ _=> ?_
   |refine Mv.fT a ?_
   |refine Mv.bool a ?_ ?_
   |split
   |unfold km
   |unfold oh
   |unfold B0
   |(refine Mv.opt a ?_ λ_=> ?_)
   |(unfold two)
end
end
noncomputable section
inductive o8 (n:Nat):T->Prop where
 |undef:o8 n .undef
 |bool (b:Bool):o8 n (.bool b)
 |int (k:ak) (m:Int):o8 n (.int k m)
 |str (s:List Nat):o8 n (.str s)
 |ka:o8 n .ka
 |ptr (b ep i j:Nat) (h:b<n):o8 n (.ptr b ep i j)
 |ji (cs:List T) (h:∀v∈cs,o8 n v):o8 n (.ji cs)
 |dF (es:List T) (full:Bool) (h:∀v∈fa es,o8 n v):o8 n (.dF es full)
 |fR:o8 n .fR
 |arr (b ep o l:Nat) (full:Bool) (h:b<n):o8 n (.arr b ep o l full)
 |func (f:aj) (cs:List T) (h:∀v∈cs,o8 n v):o8 n (.func f cs)
 |kv:o8 n .kv
 |ku:o8 n .ku
 |iface (t:ab) (v:T) (h:o8 n v):o8 n (.iface t v)
 |iter (b:Nat) (h:b<n):o8 n (.iter b)
 |map (b:Nat) (h:b<n):o8 n (.map b)
 |nh:o8 n .nh
 |agg (cs:List T) (h:∀v∈cs,o8 n v):o8 n (.agg cs)
 |tuple (vs:List T) (h:∀v∈vs,o8 n v):o8 n (.tuple vs)
def o8.cells{n:Nat}{b:T}(h:o8 n b):∀c∈b.cells,o8 n c:=by
 cases h with
 |agg d h=>exact h
 |_=>intro c a;simp[T.cells]at a;subst a;constructor<;>assumption
def j8.low{a:T}(h:j8 a)(n:Nat):o8 n a:=by
 induction h with
 |dF c d _ i=>
  refine .dF c d λa f=> ?_;obtain⟨b,e,g⟩:=List.mem_flatMap.1 f;exact(i b e).cells a g
 |_=>constructor<;>assumption
def fg.low{hp:af Obj}{μ:Mu}{a:T}{m:am}(h:fg hp μ a m){n:Nat}(j:∀g i,μ g=some i->g<n):o8 n a:=by
 induction h with
 |ptr g u y J i l f v F=>exact .ptr _ _ _ _ (j _ _ f)
 |arr g u L K p i l B f v hl h=>exact .arr _ _ _ _ _ (j _ _ f)
 |iter g i l f h=>exact .iter _ (j _ _ f)
 |map g i y f h=>exact .map _ (j _ _ f)
 |ji t s off arr r fz x w k q hr c=>exact .ji _ λa b=>by obtain⟨e,d⟩:=List.mem_iff_getElem?.1 b;exact c e a d
 |m7 p l=>exact .dF _ _ λa b=>by simp[fa]at b
 |dF C D p s off z M arr r fz x w hl G I k q hr c=>exact .dF _ _ λa b=>by obtain⟨e,d⟩:=List.mem_iff_getElem?.1 b;exact c e a d
 |func E A o k hr c=>exact .func _ _ λa b=>by obtain⟨e,d⟩:=List.mem_iff_getElem?.1 b;exact c e a d
 |agg t o k q hr c=>exact .agg _ λa b=>by obtain⟨e,d⟩:=List.mem_iff_getElem?.1 b;exact c e a d
 |tuple N o k hr c=>exact .tuple _ λa b=>by obtain⟨e,d⟩:=List.mem_iff_getElem?.1 b;exact c e a d
 |iface r a m h c=>exact .iface _ _ c
 |_=>constructor
def lZ(n:Nat)(μ:Mu):Mu:=⟨λa=>if a<n then μ a else none,μ.oH⟩
def tQ{n a:Nat}{μ:Mu}(h:a<n):lZ n μ a=μ a:=by simp[lZ,h]
def jT{n a:Nat}{μ:Mu}{b:Loc}(h:lZ n μ a=some b):a<n/\μ a=some b:=by
 have h:(if a<n then μ a else none)=some b:=h;split at h
 ·exact⟨by assumption,h⟩
 ·simp at h
def vY{n a:Nat}{μ:Mu}(h:¬mR μ a):¬mR (lZ n μ) a:=by
 rintro(⟨c,b,d,rfl⟩|hr)
 ·exact h (.inl ⟨c,b,(jT d).2,rfl⟩)
 ·exact h (.inr hr)
def fg.cut{hp:af Obj}{μ:Mu}{a:T}{q:am}(h:fg hp μ a q){n:Nat}(hl:o8 n a):fg hp (lZ n μ) a q:=by
 induction h with
 |undef=>exact .undef
 |bool f=>exact .bool f
 |int d L=>exact .int d L
 |str N h=>exact .str N h
 |ka=>exact .ka
 |ptr f u z J i e j v F=>cases hl with|ptr _ _ _ _ h=>exact .ptr f u z J i e (by rw[tQ h];exact j) v F
 |ji t r off arr p fz y w g o hr c=>
  cases hl with|ji _ h=>exact .ji t r off arr p fz (vY y) w g o λd a b=>c d a b (h a (ax b))
 |m7 l e=>exact .m7 l e
 |dF C D l r off s O arr p fz y w x G I g o hr c=>
  cases hl with|dF _ _ h=>exact .dF C D l r off s O arr p fz (vY y) w x G I g o λd a b=>c d a b (h a (ax b))
 |fR e s=>exact .fR e s
 |arr f u M K l i e B j v x m=>cases hl with|arr _ _ _ _ _ h=>exact .arr f u M K l i e B (by rw[tQ h];exact j) v x m
 |func E A k g hr c=>cases hl with|func _ _ h=>exact .func E A k g λd a b=>c d a b (h a (ax b))
 |kv=>exact .kv
 |ku=>exact .ku
 |iface p a q h c=>cases hl with|iface _ _ h=>exact .iface p a q (c h)
 |iter f i e j m=>cases hl with|iter _ h=>exact .iter f i e (by rw[tQ h];exact j) m
 |map f i z j m=>cases hl with|map _ h=>exact .map f i z (by rw[tQ h];exact j) m
 |nh=>exact .nh
 |agg t k g o hr c=>cases hl with|agg _ h=>exact .agg t k g o λd a b=>c d a b (h a (ax b))
 |tuple P k g hr c=>cases hl with|tuple _ h=>exact .tuple P k g λd a b=>c d a b (h a (ax b))
def fV.cut{hp:af Obj}{μ:Mu}{b:List T}{c:List am}(h:fV hp μ b c){n:Nat}(hl:∀a∈b,o8 n a):fV hp (lZ n μ) b c:=
 ⟨h.1,λe a d=>(h.2 e a d).cut (hl a (ax d))⟩
def pZ.cut{hp:af Obj}{μ:Mu}{m:Loc}{k:iN}(h:pZ hp μ m k){n:Nat}(hl:∀g∈fa k.em,o8 n g):pZ hp (lZ n μ) m k:=by
 refine⟨h.ep,h.sz,λb=> ?_,λb=> ?_⟩
 ·have f:=h.plain b;obtain⟨p,D,a,c,d⟩:=f.row;exact⟨⟨p,D,a,c,d.cut hl⟩,f.room,f.sx,f.size,f.scalar⟩
 ·obtain⟨j,a|⟨r,a,c,d⟩|⟨z,y,B,C,q,a,c,d,w⟩⟩:=h.iter b
  ·exact⟨j,.inl a⟩
  rotate_left
  ·exact⟨j,.inr (.inr ⟨z,y,B,C,q,a,c.cut (hl _ (by rw[a];simp[fa,T.cells])),d,w⟩)⟩
  ·refine⟨j,.inr (.inl ⟨r,a,c,λx l o=> ?_⟩)⟩;obtain⟨b,g,A,i,s,t,u,v⟩:=d x l o;have e:=hl l (List.mem_flatMap.2 ⟨l,ax o,by rw[i];simp[T.cells]⟩);rw[i]at e;cases e with|tuple _ e=>exact⟨b,g,A,i,s,t,u.cut (e b dt),v.cut (e g dt)⟩
def pZ.low{hp:af Obj}{μ:Mu}{e:Loc}{k:iN}(h:pZ hp μ e k){n:Nat}(c:∀l e,μ l=some e->l<n):∀j∈fa k.em,o8 n j:=by
 intro j a;cases d:k.it with
 |false=>
  obtain⟨y,K,f,g,b⟩:=(h.plain d).row;obtain⟨o,t⟩:=List.mem_iff_getElem?.1 a;exact(b.2 o j t).low c
 |true=>
  obtain⟨_,⟨I,w,s,_⟩|⟨A,f,g,b⟩|⟨F,E,w,J,z,f,g,b,D⟩⟩:=h.iter d
  ·rw[s]at a;simp[fa,T.cells]at a;rcases a with rfl|rfl<;>constructor
  rotate_left
  ·rw[f]at a;simp[fa,T.cells]at a;rcases a with rfl|rfl|rfl|rfl
   ·exact g.low c
   all_goals constructor
  ·obtain⟨x,u,i⟩:=List.mem_flatMap.1 a;obtain⟨v,d⟩:=List.mem_iff_getElem?.1 u;obtain⟨o,L,G,p,B,C,q,r⟩:=b v x d;rw[p]at i;simp[T.cells]at i;subst i;refine .tuple _ λM m=> ?_;simp at m;rcases m with rfl|rfl
   ·exact q.low c
   ·exact r.low c
inductive iv {α β:Type} (R:α->β->Prop):List α->List β->Prop where
 |nil:iv R [] []
 |cons {a:α} {b:β} {l:List α} {m:List β} (h:R a b) (t:iv R l m):iv R (a::l) (b::m)
def iv.imp{g i:Type}{b c:g->i->Prop}{e:List g}{f:List i}(h:iv b e f)(j:∀a d,b a d->c a d):iv c e f:=by
 induction h with
 |nil=>exact .nil
 |cons a _ k=>exact .cons (j _ _ a) k
def iv.length{c d:Type}{e:c->d->Prop}{a:List c}{b:List d}(h:iv e a b):a.length=b.length:=by
 induction h with
 |nil=>rfl
 |cons _ _ f=>simp[f]
def iv.append{f g:Type}{a:f->g->Prop}{b c:List f}{d e:List g}(h:iv a b d)(j:iv a c e):iv a (b++c) (d++e):=by
 induction h with
 |nil=>exact j
 |cons i _ k=>exact .cons i k
def iv.get{i b:Type}{c:i->b->Prop}{d:List i}{e:List b}(h:iv c d e){k:Nat}{g:b}(a:e[k]? =some g):∃f,d[k]? =some f/\c f g:=by
 induction h generalizing k with
 |nil=>simp at a
 |cons j _ l=>cases k with
  |zero=>simp at a;subst a;exact⟨_,dt,j⟩
  |succ k=>simp at a;simpa using l a
def iv.mem{g b:Type}{c:g->b->Prop}{d:List g}{e:List b}(h:iv c d e){f:b}(k:f∈e):∃a∈d,c a f:=by
 obtain⟨m,i⟩:=List.mem_iff_getElem?.1 k;obtain⟨a,j,l⟩:=h.get i;exact⟨a,ax j,l⟩
def iv.map{b:Type}{g:b->aa b}{f:b->b->Prop}{a e:List b}(i:∀c∈a,∀d,g c=some d->f c d)(h:fD g a=some e):iv f a e:=by
 induction a generalizing e with
 |nil=>simp at h;subst h;exact .nil
 |cons c a l=>
  rw[jr]at h;replace h:=dD.1 h;obtain⟨d,j,h⟩:=h;replace h:=dD.1 h;obtain⟨o,ht,h⟩:=h;simp at h;subst h;exact .cons (i c dt d j) (l (λm k=>i m (by simp[k])) ht)
structure Fz(hp:af Obj)(μ:Mu)(n:Nat)(v v':T):Prop where
 rel:∀c,fg hp μ v c->fg hp (lZ n μ) v' c
 scalar:v'.scalar=v.scalar
 cells:iv (λx x'=>(∀c,fg hp μ x c->fg hp (lZ n μ) x' c)/\x'.scalar=x.scalar/\j8 x') v.cells v'.cells
 closed:j8 v'
def iv.fa{a:T->T->Prop}{b c:List T}(h:iv (λf g=>iv a f.cells g.cells) b c):iv a (TI.fa b) (TI.fa c):=by
 induction h with
 |nil=>exact .nil
 |cons d _ e=>simpa[TI.fa]using iv.append d e
section
variable {cx:Ctx}{base:Nat}{hp:af Obj}{μ:Mu}{h:H}{n:Nat}
def Fz.same{b:T}(hl:j8 b)(a:b.cells=[b]):Fz hp μ n b b:=
 ⟨λc a=>a.cut (hl.low n),rfl,by rw[a];exact .cons ⟨λc a=>a.cut (hl.low n),rfl,hl⟩ .nil,hl⟩
def AG{a:T}(b:∀d∈a.cells,j8 d):j8 a:=by
 cases a with
 |agg c=>exact .agg c b
 |_=>exact b _ (by simp[T.cells])
def FX{a:List T}(e:∀d∈a,∃b,fg hp μ d b):∃c,fV hp μ a c:=by
 induction a with
 |nil=>exact⟨[],fV.nil⟩
 |cons k a j=>
  obtain⟨b,f⟩:=e k dt;obtain⟨c,g⟩:=j λd i=>e d (by simp[i]);exact⟨b::c,fV.cons f g⟩
def Ec{a:T}(d:∀c∈a.cells,∃b,fg hp μ c b)(g:∀c∈a.cells,c.scalar=true):∃b,fg hp μ a b:=by
 cases a with
 |agg f=>
  obtain⟨e,hl⟩:=FX d;exact⟨.agg e.toArray,fg.wP (by have hl:fV hp μ f e:=hl;simpa using hl) g⟩
 |_=>exact d _ (by simp[T.cells])
def fV.mem{b:List T}{d:List am}(h:fV hp μ b d){a:T}(f:a∈b):∃c,fg hp μ a c:=by
 obtain⟨g,e⟩:=List.mem_iff_getElem?.1 f;exact⟨_,h.2 g a e⟩
def E6(s:St cx base hp μ h):∀(D:Nat) (d c:T),(∃o,fg hp μ d o)->freeze h n D d=some c->Fz hp μ n d c:=by
 intro D;induction D with
 |zero=>intro d c _ b;simp[freeze]at b
 |succ D bn=>
  intro d c V b;cases d with
  |undef=>exact absurd b (by show¬(none=some c);simp)
  |ptr=>exact absurd b (by show¬(none=some c);simp)
  |ji=>exact absurd b (by show¬(none=some c);simp)
  |func=>exact absurd b (by show¬(none=some c);simp)
  |iface=>exact absurd b (by show¬(none=some c);simp)
  |iter=>exact absurd b (by show¬(none=some c);simp)
  |map=>exact absurd b (by show¬(none=some c);simp)
  |nh=>exact absurd b (by show¬(none=some c);simp)
  |tuple=>exact absurd b (by show¬(none=some c);simp)
  |bool l=>have b:some (T.bool l)=some c:=b;simp only[ar]at b;subst b;exact Fz.same (.bool l) rfl
  |int x m=>have b:some (T.int x m)=some c:=b;simp only[ar]at b;subst b;exact Fz.same (.int x m) rfl
  |str l=>have b:some (T.str l)=some c:=b;simp only[ar]at b;subst b;exact Fz.same (.str l) rfl
  |ka=>have b:some (T.ka)=some c:=b;simp only[ar]at b;subst b;exact Fz.same .ka rfl
  |fR=>have b:some (T.fR)=some c:=b;simp only[ar]at b;subst b;exact Fz.same .fR rfl
  |kv=>have b:some (T.kv)=some c:=b;simp only[ar]at b;subst b;exact Fz.same .kv rfl
  |ku=>have b:some (T.ku)=some c:=b;simp only[ar]at b;subst b;exact Fz.same .ku rfl
  |dF r A=>
   have b:some (T.dF r A)=some c:=b;simp only[ar]at b;subst b;obtain⟨o,q⟩:=V;refine Fz.same ?_ rfl;cases q with
   |m7=>exact .dF _ _ λd g=>by simp at g
   |dF e r A dv off ea dn arr t fz ef b hl aX eo eh q hr=>
    exact .dF _ _ λd g=>AG λi f=>(q i (List.mem_flatMap.2 ⟨d,g,f⟩)).2
  |agg O=>
   have b:(dM (fD (freeze h n D) O) λz=>some (T.agg z))=some c:=b;replace b:=dD.1 b;obtain⟨z,hr,b⟩:=b;simp only[ar]at b;subst b;obtain⟨o,q⟩:=V;obtain⟨bN,rfl,J,c9⟩:=q.oY;have p:iv (Fz hp μ n) O z:=iv.map (λi f B Y=>bn i B (J.mem f) Y) hr;have U:∀d∈z,j8 d:=λd g=>by obtain⟨i,_,f⟩:=p.mem g;exact f.closed
   have dd:∀d∈z,d.scalar=true:=λd g=>by obtain⟨i,c1,f⟩:=p.mem g;rw[f.scalar];exact c9 i c1
   refine⟨λo q=> ?_,rfl,?_,.agg z U⟩
   ·obtain⟨bN,rfl,J,_⟩:=q.oY;refine fg.wP ⟨by rw[<-p.length];exact J.1,λx d a8=> ?_⟩ dd;obtain⟨i,f,aX⟩:=p.get a8;exact aX.rel _ (J.2 x i f)
   ·show iv _ O z;exact p.imp λa l G=>⟨G.rel,G.scalar,G.closed⟩
  |arr l P v u A=>
   have b:fT (Nat.ble n l) (dM (h.get l) λi=> @iN.rec (λ_=>aa T) (λ_ Q _ exact ae k=>
    fT (Nat.beq Q P) (@Bool.rec (λ_=>aa T) (dM (dM (jJ v k) λz=>takeN u z) λr=>dM (fD (freeze h n D) r) λE=>
     @List.rec T (λ_=>aa T) (@List.rec T (λ_=>aa T) (@Bool.rec (λ_=>aa T) (some .fR) (some (.dF [] false)) exact) (λ_ _ _=>some .fR) k) (λ_ _ _=>some (.dF E A)) E) none ae)) i)=some c:=b
   obtain⟨bl,b⟩:=dL.1 b;have bl:n<=l:=bm bl;replace b:=dD.1 b;obtain⟨bC,b8,b⟩:=b;obtain⟨dn,Q,et,R,ae,k⟩:=bC;simp only at b;obtain⟨aE,b⟩:=dL.1 b;have aE:Q=P:=aC aE;cases ae with
   |true=>simp at b
   |false=>
    replace b:=dD.1 b;obtain⟨r,w,b⟩:=b;replace b:=dD.1 b;obtain⟨E,ca,K⟩:=b;obtain⟨cy,w⟩:v+u<=k.length/\r=(k.drop v).take u:=by
     replace w:=dD.1 w;obtain⟨r0,C,p⟩:=w;rw[lF]at C;split at C
     ·simp only[ar]at C;subst C;rw[m9]at p;split at p
      ·simp only[ar]at p;rename_i bi cv;simp only[List.length_drop]at cv;exact⟨dq,p.symm⟩
      ·simp at p
     ·simp at C
    have al:∀o,fg hp μ (.arr l P v u A) o->fg hp (lZ n μ) c o/\j8 c/\c.cells=[c]/\c.scalar=true:=by
     intro o q;obtain⟨j,ds,an,rfl,S,aA,hl,c7⟩:=q.rV;obtain⟨eu,F,L⟩:=s.box l j S;rw[b8]at F;simp only[ar]at F;subst F;have bS:=L.ep;simp only at bS;obtain⟨a7,c4,bT⟩:=c7 dq;have y:=L.plain rfl;simp only at y;obtain⟨arr,t,C,p,ap⟩:=y.row;have aN:∀d∈r,d.cells.length=j.sz:=λd g=>y.size d (bA (bw (w▸g)));have c6:∀d∈fa k,∃o,fg hp μ d o:=λd g=>ap.mem g;have bk:∀d∈r,d∈k:=λd g=>bA (bw (w▸g));have I:iv (Fz hp μ n) r E:=iv.map (λi f B Y=>bn i B (Ec (λN Z=>c6 N (List.mem_flatMap.2 ⟨i,bk i f,Z⟩)) λN Z=>y.scalar N (List.mem_flatMap.2 ⟨i,bk i f,Z⟩)) Y) ca;have X:E.length=u:=by rw[<-I.length,w];simp;omega
     have b9:R=true->j.cap=k.length:=y.sx;cases E with
     |nil=>
      have cp:u=0:=by simpa using X.symm
      subst cp;have aA:c= .fR\/(k=[]/\R=true/\c= .dF [] false):=by
       cases k with
       |cons N ey=>have b:some T.fR=some c:=K;simp only[ar]at b;exact .inl b.symm
       |nil=>
        cases R with
        |false=>have b:some T.fR=some c:=K;simp only[ar]at b;exact .inl b.symm
        |true=>have b:some (T.dF [] false)=some c:=K;simp only[ar]at b;exact .inr ⟨rfl,rfl,b.symm⟩
      rcases aA with rfl|⟨rfl,rfl,rfl⟩
      ·exact⟨.fR _ _,.fR,rfl,rfl⟩
      ·have av:j.cap=0:=by simpa using b9 rfl
       have:an=0:=by
        cases A with
        |false=>have:=c4 rfl;omega
        |true=>exact a7 rfl
       subst this;exact⟨.m7 _ _,.dF _ _ λd g=>by simp at g,rfl,rfl⟩
     |cons B M=>
      have b:some (T.dF (B::M) A)=some c:=K;simp only[ar]at b;subst b;simp only[aZ]at X;have U:∀d∈B::M,j8 d:=λd g=>by obtain⟨i,_,f⟩:=I.mem g;exact f.closed
      refine⟨?_,.dF _ _ U,rfl,rfl⟩;rw[bT dq,<-X];have W:=iv.fa (I.imp λa l G=>G.cells);have ce:(fa (B::M)).length=u*j.sz:=by rw[<-W.length,gD aN,w];congr 1;simp;omega
      have a6:fa r=((fa k).drop (v*j.sz)).take (u*j.sz):=by rw[w];exact Cb y.size v u
      have cb:(fa k).length=k.length*j.sz:=gD y.size;have eb:v*j.sz+u*j.sz<=k.length*j.sz:=by rw[<-bY];exact aW _ cy
      have ec:k.length*j.sz<=j.cap*j.sz:=aW _ y.room;refine .dF B M A j.iI (v*j.sz) an j.sz arr t (0,0) ?_ C dq (λx=>by rw[a7 x];omega) ?_ ?_ ?_ ?_
      ·rintro(⟨bB,bz,b6,b7⟩|hr)
       ·obtain⟨er,dm⟩:=jT b6;have:=s.inj bB l bz j dm S b7;omega
       ·exact s.apart l j S hr
      ·intro d g;obtain⟨i,f,di⟩:=I.mem g;rw[<-di.cells.length];exact aN i f
      ·rw[ce,p];omega
      ·intro d g;obtain⟨i,f,F,L,de⟩:=W.mem g;refine⟨?_,de⟩;rw[L];rw[a6]at f;exact y.scalar i (bA (bw f))
      ·intro x d g;obtain⟨i,f,F,_⟩:=W.get g;refine F _ ?_;rw[a6,bJ]at f;split at f
       ·rename_i a8;rw[bG]at f;have:=ap.2 _ i f;have bi:v*j.sz+x<(fa k).length:=by rw[cb];omega
        have cL:v*j.sz+x<arr.size:=by rw[p];omega
        simpa[List.getD,bJ,bi,aV,cL]using this
       ·simp at f
    obtain⟨bH,av⟩:=V;obtain⟨_,bs,dk,bu⟩:=al bH av;exact⟨λo q=>(al o q).1,by rw[bu];rfl,by rw[dk];exact .cons ⟨λo q=>(al o q).1,by rw[bu];rfl,bs⟩ .nil,bs⟩
end
end
noncomputable section
section
variable {cx:Ctx}{base:Nat}{hp:af Obj}{μ:Mu}{h:H}{n:Nat}
def tP(t:St cx base hp μ h){f d:T}(r:∃e,fg hp μ f e)(a:iy h n f=some d):
 (∀e,fg hp μ f e->fg hp (lZ n μ) d e)/\d.scalar=f.scalar:=by
 have q:freeze h n 12 f=some d->(∀e,fg hp μ f e->fg hp (lZ n μ) d e)/\d.scalar=f.scalar:=λs=>
  let m:=E6 t 12 f d r s
  ⟨m.rel,m.scalar⟩
 cases f with
 |undef=>
  have a:some T.undef=some d:=a;simp only[ar]at a;subst a;exact⟨λe g=>g.cut .undef,rfl⟩
 |ptr b i o p=>
  have a: @Bool.rec (λ_=>aa T) (some (.ptr b i o p)) none (Nat.ble n b)=some d:=a;cases c:Nat.ble n b with
  |true=>rw[c]at a;simp at a
  |false=>
   rw[c]at a;have a:some (T.ptr b i o p)=some d:=a;simp only[ar]at a;subst a;have:b<n:=by
    rcases aD b n with x|x
    ·exact x
    ·rw[bW x]at c;simp at c
   exact⟨λe g=>g.cut (.ptr _ _ _ _ this),rfl⟩
 |map b=>
  have a: @Bool.rec (λ_=>aa T) (some (.map b)) none (Nat.ble n b)=some d:=a;cases c:Nat.ble n b with
  |true=>rw[c]at a;simp at a
  |false=>
   rw[c]at a;have a:some (T.map b)=some d:=a;simp only[ar]at a;subst a;have:b<n:=by
    rcases aD b n with x|x
    ·exact x
    ·rw[bW x]at c;simp at c
   exact⟨λe g=>g.cut (.map _ this),rfl⟩
 |arr b i l k j=>
  have a: @Bool.rec (λ_=>aa T) (some (.arr b i l k j)) (freeze h n 12 (.arr b i l k j)) (Nat.ble n b)=some d:=a;cases c:Nat.ble n b with
  |true=>rw[c]at a;exact q a
  |false=>
   rw[c]at a;have a:some (T.arr b i l k j)=some d:=a;simp only[ar]at a;subst a;have:b<n:=by
    rcases aD b n with x|x
    ·exact x
    ·rw[bW x]at c;simp at c
   exact⟨λe g=>g.cut (.arr _ _ _ _ _ this),rfl⟩
 |_=>exact q a
def CW(s:St cx base hp μ h){d c:List T}{m:List am}(g:fV hp μ d m)(p:fD (iy h n) d=some c):
 fV hp (lZ n μ) c m/\∀b∈c,∃e∈d,b.scalar=e.scalar:=by
 have f:iv (λk o=>(∀l,fg hp μ k l->fg hp (lZ n μ) o l)/\o.scalar=k.scalar) d c:=iv.map (λb a e j=>tP s (g.mem a) j) p;refine⟨⟨by rw[<-f.length];exact g.1,λr k q=> ?_⟩,λb a=> ?_⟩
 ·obtain⟨b,a,i⟩:=f.get q;exact i.1 _ (g.2 r b a)
 ·obtain⟨e,j,i⟩:=f.mem a;exact⟨e,j,i.2⟩
def pP(g:St cx base hp μ h){d e:T}{b:am}(c:fg hp μ d b)(a:j3 h n d=some e):fg hp (lZ n μ) e b:=by
 cases d with
 |agg i=>
  have a:(dM (fD (iy h n) i) λf=>some (T.agg f))=some e:=a;replace a:=dD.1 a;obtain⟨f,hr,a⟩:=a;simp only[ar]at a;subst a;obtain⟨t,rfl,l,o⟩:=c.oY;obtain⟨j,k⟩:=CW g l hr;exact fg.wP j λr p=>by obtain⟨s,q,m⟩:=k r p;rw[m];exact o s q
 |_=>exact(tP g ⟨b,c⟩ a).1 b c
def uz(k:St cx base hp μ h){c d:T}{b:am}(e:fg hp μ c b)(a:iX h n c=some d):fg hp (lZ n μ) d b:=by
 cases c with
 |tuple l=>
  have a:(dM (fD (j3 h n) l) λf=>some (T.tuple f))=some d:=a;replace a:=dD.1 a;obtain⟨f,hr,a⟩:=a;simp only[ar]at a;subst a;obtain⟨o,rfl,i⟩:=e.zi;have g:iv (λc d=>∀b,fg hp μ c b->fg hp (lZ n μ) d b) l f:=iv.map (λm j t r b e=>pP k e r) hr;refine .tuple f o (by rw[<-g.length];simpa using i.1.symm) λs c q=> ?_;obtain⟨m,j,p⟩:=g.get q;have:=p _ (i.2 s m j);simpa[aV,List.getD]using this
 |_=>exact pP k e a
def lf{b:T}{i:am}(g:fg hp μ b i)(a:j4 n b=true):o8 n b:=by
 cases b with
 |ptr c j m o=>exact .ptr _ _ _ _ (by have a:Nat.blt c n=true:=a;rwa[aG]at a)
 |arr c j q p k=>exact .arr _ _ _ _ _ (by have a:Nat.blt c n=true:=a;rwa[aG]at a)
 |map c=>exact .map _ (by have a:Nat.blt c n=true:=a;rwa[aG]at a)
 |ji l=>
  obtain⟨_,_,_,_,_,_,_,_,_,e,_⟩:=g.ly;exact .ji _ λb d=>(e b d).2.low n
 |dF f k=>
  refine .dF _ _ λb d=> ?_;cases f with
  |nil=>simp[fa]at d
  |cons r f=>obtain⟨_,_,_,_,_,_,_,_,_,_,_,_,_,_,e,_⟩:=g.tL;exact(e b d).2.low n
 |undef=>simp[j4]at a
 |func=>simp[j4]at a
 |iface=>simp[j4]at a
 |iter=>simp[j4]at a
 |agg=>simp[j4]at a
 |tuple=>simp[j4]at a
 |_=>constructor
def L7{i:T}(g:below n i=true)(b:∀c∈i.cells,∃d,fg hp μ c d):∀c∈i.cells,o8 n c:=by
 cases i with
 |agg e=>
  intro c a;obtain⟨d,b⟩:=b c a;exact lf b (pI (show wt (j4 n) e=true from g) c a)
 |func p e=>
  intro c a;obtain⟨d,b⟩:=b c a;simp[T.cells]at a;subst a;obtain⟨m,rfl,j⟩:=b.qX;exact .func _ _ λl f=>by obtain⟨o,k⟩:=j.mem f;exact lf k (pI (show wt (j4 n) e=true from g) l f)
 |tuple e=>
  intro c a;obtain⟨d,b⟩:=b c a;simp[T.cells]at a;subst a;obtain⟨m,rfl,j⟩:=b.zi;exact .tuple _ λl f=>by obtain⟨o,k⟩:=j.mem f;exact lf k (pI (show wt (j4 n) e=true from g) l f)
 |_=>
  intro c a;obtain⟨d,b⟩:=b c a;simp[T.cells]at a;subst a;exact lf b g
def Cz{c:Nat}{f:List iN}(b:rm n c f=true):∀a d,a<c->f[a]? =some d->∀m∈d.em,below n m=true:=by
 induction c generalizing f with
 |zero=>intro a d j;omega
 |succ c k=>
  intro a d j e;cases f with
  |nil=>simp at e
  |cons i l=>
   have b: @Bool.rec (λ_=>Bool) false (rm n c l) (wt (below n) i.em)=true:=b;cases g:wt (below n) i.em with
   |false=>rw[g]at b;simp at b
   |true=>
    rw[g]at b;cases a with
    |zero=>simp at e;subst e;exact pI g
    |succ a=>exact k b a d dq (by simpa using e)
def St.cut(c:St cx base hp μ h)(y:n<=h.size){low:Nat}(hl:∀a b e,a<n->μ a=some b->h.get a=some e->∀g∈fa e.em,o8 n g):
 St cx base hp (lZ n μ) ⟨n,low,h.fc.drop (h.size-n)⟩:=by
 have t:∀a,a<n->(⟨n,low,h.fc.drop (h.size-n)⟩:H).get a=h.get a:=by
  intro a d;rw[H.get_eq,H.get_eq];have f:a<h.size:=dq;simp only[d,f,bo,bG];congr 1;omega
 refine⟨?_,c.fit,?_,?_,?_,λa b d=>c.apart a b (jT d).2,c.pW,?_⟩
 ·simp only[List.length_drop,c.wf];omega
 ·intro a b d;obtain⟨j,k⟩:=jT d;obtain⟨e,i,u⟩:=c.box a b k;exact⟨e,by rw[t a j];exact i,u.cut (hl a b e j k i)⟩
 ·intro a m b l f q r;exact c.inj a m b l (jT f).2 (jT q).2 r
 ·intro a b d;exact c.low a b (jT d).2
 ·intro p o s;have:=c.yh p o s;refine this.cut ?_;obtain⟨_,_,_,_,_,_,_,_,_,v,_⟩:=this.ly;exact .ji _ λg x=>(v g x).2.low n
def St.JL(a:St cx base hp μ h)(g:Nat):St cx base hp μ ⟨h.size,g,h.fc⟩:=by
 refine⟨a.wf,a.fit,λd c e=> ?_,a.inj,a.low,a.apart,a.pW,a.yh⟩;obtain⟨i,b,f⟩:=a.box d c e;exact⟨i,by rw[H.get_eq]at b|-;exact b,f⟩
def Left(cx:Ctx)(base:Nat)(w w':World)(μ:Mu)(d:H)(e:T)(b:H)(c:am):Prop:=
 ∃a,fg w'.heap a e c/\St cx base w'.heap a b/\oU w μ w' a/\xE μ a d.size b.size
def H.qB(h:H)(b a:Nat):(⟨h.size,b,h.fc⟩:H).get a=h.get a:=by rw[H.get_eq,H.get_eq]
def B7{n low0 low:Nat}{b:List iN}(c:kJ ⟨n,n,b⟩ h)(hl:low<=low0)(j:∀a,a<n->a<low->a<h.low):kJ ⟨n,low0,b⟩ ⟨h.size,low,h.fc⟩:=by
 have d:∀a,(⟨n,low0,b⟩:H).get a=(⟨n,n,b⟩:H).get a:=λa=>by rw[H.get_eq,H.get_eq]
 refine⟨c.wf,c.size,hl,λa e k=> ?_,λa l f=> ?_⟩
 ·rw[H.qB,d];exact c.kE a e (j a e k)
 ·rw[d]at f;obtain⟨m,g,i⟩:=c.ver a l f;exact⟨m,by rw[H.qB];exact g,i⟩
def Et{low0:Nat}{d f:T}{e:H}(a:mO low0 d h=some (f,e)):f=d/\e=⟨h.size,if h.low<low0 then h.low else low0,h.fc⟩:=by
 obtain⟨j,b,g⟩:=h;have a: @Bool.rec (λ_=>aa (T×H)) (some (d,⟨j,low0,g⟩)) (some (d,⟨j,b,g⟩)) (Nat.blt b low0)=some (f,e):=a;cases c:Nat.blt b low0 with
 |true=>
  rw[c]at a;simp only[ar,ay]at a;have:b<low0:=by rwa[aG]at c
  exact⟨a.1.symm,by rw[<-a.2];simp[this]⟩
 |false=>
  rw[c]at a;simp only[ar,ay]at a;have:¬b<low0:=λi=>by rw[<-aG,c]at i;simp at i
  exact⟨a.1.symm,by rw[<-a.2];simp[this]⟩
variable {w w':World}{μ0:Mu}{low0:Nat}{rn:List iN}
def xj{c d:T}{b:am}{a:H}(k:St cx base w'.heap μ h)(f:kJ ⟨n,n,rn⟩ h)(l:oU w μ0 w' μ)(e:xE μ0 μ n h.size)(i:fg w'.heap μ c b)
 (j:mO low0 c h=some (d,a)):Left cx base w w' μ0 ⟨n,low0,rn⟩ d a b/\kJ ⟨n,low0,rn⟩ a:=by
 obtain⟨rfl,rfl⟩:=Et j;exact⟨⟨μ,i,k.JL _,l,e⟩,B7 f (by split<;>omega) (λm _ g=>by split at g<;>omega)⟩
def GC{a6:Bool}{x y:T}{P:am}{B:H}(a7:St cx base w.heap μ0 ⟨n,low0,rn⟩)(D:St cx base w'.heap μ h)(A:kJ ⟨n,n,rn⟩ h)(g:oU w μ0 w' μ)(F:xE μ0 μ n h.size)
 (L:fg w'.heap μ x P) (b:BR a6 n low0 x h=some (y,B)):Left cx base w w' μ0 ⟨n,low0,rn⟩ y B P/\kJ ⟨n,low0,rn⟩ B:=by
 cases a6 with
 |true=>exact xj D A g F L b
 |false=>
  have b: @Option.rec T (λ_=>aa (T×H)) (mO low0 x h) (λy=>tI n low0 x y h) (iX h n x)=some (y,B):=b;cases V:iX h n x with
  |none=>rw[V]at b;exact xj D A g F L b
  |some I=>
   rw[V]at b;have ca:=uz D L V;have X:n<=h.size:=A.size;have aA:∀a d,μ0 a=some d->a<n:=λa d c=>a7.ez c;have ae:∀s,s<=low0->(∀a,a<n->a<s->a<h.low)->(∀a d e,a<n->μ a=some d->h.get a=some e->∀z∈fa e.em,o8 n z)->
    Left cx base w w' μ0 ⟨n,low0,rn⟩ I ⟨n,s,h.fc.drop (h.size-n)⟩ P/\kJ ⟨n,low0,rn⟩ ⟨n,s,h.fc.drop (h.size-n)⟩:=by
    intro s W b7 hl;have av:=St.cut (low:=s) D X hl;refine⟨⟨lZ n μ,ca,av,⟨⟨g.ext.size,λi M b8=> ?_,λa d c=> ?_,g.ext.oH,g.ext.kept⟩,g.os,g.tape,g.output⟩,au _,λa c=> ?_,λa ce aX=>absurd ce (by show¬n<=a;have aX:a<n:=aX;omega)⟩,?_⟩
    ·obtain⟨bn,bs⟩:=g.ext.mZ i M b8;exact⟨bn,vY bs⟩
    ·rw[tQ (aA a d c)];exact g.ext.mu a d c
    ·left;obtain⟨d,C⟩:=Option.ne_none_iff_exists'.1 c;obtain⟨dn,cy⟩:=jT C;rcases F.2.1 a (by rw[cy];simp)with k|k
     ·exact k
     ·omega
    ·have R:=B7 (low:=s) A W b7;have aE:∀a,a<n->(⟨n,s,h.fc.drop (h.size-n)⟩:H).get a=h.get a:=by
      intro a c;rw[H.get_eq,H.get_eq];have K:a<h.size:=dq;simp only[c,K,bo,bG];congr 1;omega
     refine⟨av.wf,au _,R.low,λa c b6=> ?_,λa O r=> ?_⟩
     ·rw[aE a c];have:=R.kE a c b6;rwa[H.qB]at this
     ·rw[aE a (H.ez r)];have:=R.ver a O r;simpa only[H.qB]using this
   have a8:∀a d e,a<n->a<h.low->μ a=some d->h.get a=some e->∀z∈fa e.em,o8 n z:=by
    intro a d e c W C v;have aN:=A.kE a c W;rw[v]at aN;rcases F.2.1 a (by rw[C];simp)with k|k
    ·obtain⟨bi,bB⟩:=Option.ne_none_iff_exists'.1 k;obtain⟨eb,Z,N⟩:=a7.box a bi bB;have bl:(⟨n,low0,rn⟩:H).get a=(⟨n,n,rn⟩:H).get a:=by rw[H.get_eq,H.get_eq]
     rw[bl,<-aN]at Z;simp only[ar]at Z;subst Z;exact N.low aA
    ·omega
   obtain⟨E,low,J⟩:=h;have b:(dM (jJ (Nat.sub E n) J) λq=>
    @Bool.rec (λ_=>aa (T×H))
     (@Bool.rec (λ_=>aa (T×H)) (mO low0 x ⟨E,low,J⟩)
       (@Bool.rec (λ_=>aa (T×H)) (some (I,⟨n,low0,q⟩)) (some (I,⟨n,low,q⟩)) (Nat.blt low low0)) (rm n (Nat.sub n low) q))
     (some (I,⟨n,low0,q⟩)) (Nat.ble n low))=some (y,B):=b
   replace b:=dD.1 b;obtain⟨q,o,b⟩:=b;rw[lF]at o;have o:q=J.drop (E-n):=by
    split at o
    ·simp only[ar]at o;exact o.symm
    ·simp at o
   have dd:low0<=n\/n<low0:=dq;cases G:Nat.ble n low with
   |true=>
    rw[G]at b;simp only[ar,ay]at b;obtain⟨rfl,rfl⟩:=b;have b9:n<=low:=bm G;rw[o];exact ae _ (au _) (λa c _=>by show a<low;omega) λa d e c=>a8 a d e c (by show a<low;omega)
   |false=>
    rw[G]at b;have b9:low<n:=by
     rcases aD low n with k|k
     ·exact k
     ·rw[bW k]at G;simp at G
    cases S:rm n (Nat.sub n low) q with
    |false=>rw[S]at b;exact xj D A g F L b
    |true=>
     rw[S]at b;have bk:∀a d e,a<n->μ a=some d->(⟨E,low,J⟩:H).get a=some e->∀z∈fa e.em,o8 n z:=by
      intro a d e c C v;by_cases bC:a<low
      ·exact a8 a d e c bC C v
      ·obtain⟨ea,Y,N⟩:=D.box a d C;rw[v]at Y;simp only[ar]at Y;subst Y;have bS:q[n-1-a]? =some e:=by
        rw[H.get_eq]at v;have X:n<=E:=X;have bH:a<E:=dq;simp only[bH,bo]at v;rw[o,bG,<-v];congr 1;omega
       have U:=Cz S (n-1-a) e (by show _<n-low;omega) bS;intro z cb;obtain⟨Q,f,p⟩:=List.mem_flatMap.1 cb;cases M:e.it with
       |true=>
        obtain⟨_,⟨dv,cv,bN,_⟩|⟨c4,de,di,cp⟩|⟨dk,m,cv,ds,c1,K,al,an,c9⟩⟩:=N.iter M
        ·rw[bN]at f;simp at f;rcases f with rfl|rfl<;>(simp[T.cells]at p;subst p;constructor)
        rotate_left
        ·have l:=U _ f;rw[K]at f;simp at f;rcases f with rfl|rfl|rfl|rfl
         ·simp[T.cells]at p;subst p;exact lf al l
         all_goals (simp[T.cells]at p;subst p;constructor)
        ·obtain⟨j,bT⟩:=List.mem_iff_getElem?.1 f;obtain⟨k,u,dm,rfl,c6,c7,bu,bz⟩:=cp j Q bT;have l:=U _ f;have l:wt (j4 n) [k,u]=true:=l;simp[T.cells]at p;subst p;refine .tuple _ λO r=> ?_;have ap:=pI l O r;simp at r;rcases r with rfl|rfl
         ·exact lf bu ap
         ·exact lf bz ap
       |false=>
        obtain⟨cL,t,K,al,an⟩:=(N.plain M).row;exact L7 (U Q f) (λO r=>an.mem (List.mem_flatMap.2 ⟨Q,f,r⟩)) z p
     have:y=I/\B=⟨n,if low<low0 then low else low0,q⟩:=by
      cases l:Nat.blt low low0 with
      |true=>
       rw[l]at b;simp only[ar,ay]at b;have:low<low0:=by rwa[aG]at l
       exact⟨b.1.symm,by rw[<-b.2];simp[this]⟩
      |false=>
       rw[l]at b;simp only[ar,ay]at b;have:¬low<low0:=λk=>by rw[<-aG,l]at k;simp at k
       exact⟨b.1.symm,by rw[<-b.2];simp[this]⟩
     obtain⟨rfl,rfl⟩:=this;rw[o];exact ae _ (by split<;>omega) (λa _ c=>by show a<low;split at c<;>omega) bk
end
end
end Go.TI
