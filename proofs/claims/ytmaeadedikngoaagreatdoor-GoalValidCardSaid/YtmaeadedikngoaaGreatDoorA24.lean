/- Texts X10 to X10. -/
import Derived.Test.YtmaeadedikngoaaGreatDoorA23
set_option linter.unusedVariables false
set_option linter.unusedSimpArgs false
set_option linter.defProp false
set_option maxRecDepth 100000
set_option maxHeartbeats 8000000
namespace Go.Proofs.YtmaeadedikngoaaGreatDoor
noncomputable section
open Go Go.TI
attribute [-simp] List.map_take List.map_drop List.map_append fj eG dY Bool.not_or Bool.not_and
attribute [simp] fh eJ
def _root_.Go.TI.m9.copy{h a:H}{i w0 g q k:Nat}{c:List (T×aa (Nat×List T))}(f:m9 h i g q c)(p:gu 0 a)(n:a.get w0=some (dy g k [.agg (c.map (·.1))]))(o:∀e,Fp h i e->a.get e=h.get e):m9 a w0 g k c:=by
 refine⟨p,n,λl j=> ?_,f.Tf⟩;have:=f.Q4 l j;unfold VK at this|-;split at this
 ·exact this
 ·exact⟨this.1.mono λb m=>o b (f.AO j m),this.2⟩
structure Ao where
 (ver:Nat) (tx:Int) (c:Nat->T) (E:Nat->List T)
def Ao.F(d:Ao):List (T×aa (Nat×List T)):=[(d.c 0,some (2,d.E 0)),(dw d.tx,none),(d.c 2,some (1,d.E 2)),(d.c 3,some (3,d.E 3)),(d.c 4,some (1,d.E 4)),(d.c 5,some (1,d.E 5)),(d.c 6,some (1,d.E 6))]
def Ao.MC(d:Ao)(f:Nat)(e:List T):Ao:=⟨d.ver,d.tx,d.c,λa=>if a=f then e else d.E a⟩
def WK(a:Nat):Nat:=if a=0 then 3 else if a=3\/a=6 then 4 else if a=4 then 5 else 1
def Vz(a:Nat):Nat:=if a=0 then 2 else if a=3 then 3 else 1
def RvP(h:H)(w0:Nat)(y:H)(e:T):Prop:=e= dx\/∃(a:Nat) (c:Int),e= .arr a 0 0 1 false/\y.get a=some (dy 1 0 [dw c])/\0<=c/\c<4/\¬Fp y w0 a/\h.size<=a
def RE(h:H)(w0:Nat)(y:H)(c:Nat)(a:T):Prop:=
 if c=0 then∃(g:Int) (f:T),a= .agg [dw g,f]/\RvP h w0 y f
 else if c=2 then∃b,a= .bool b
 else if c=3 then∃i:dD,a=i.t
 else∃e:Int,a= dw e/\(c=6->0<=e/\e<=4)
structure yz(L:List Int)(b:Nat)(h:H)(w0:Nat)(d:Ao)(y:H):Prop where
 s:m9 y w0 7 d.ver d.F
 tw:rV 0 L b (TI.hr h) y
 fp:∀c,Fp y w0 c->h.size+2<=c
 rb:y.get (h.size+1)=some mO
 ln:∀k,(d.E k).length=WK k
 pr:∀k,∀e∈d.E k,RE h w0 y k e
variable {L:List Int}{b:Nat}{h y y2:H}{w0:Nat}{d:Ao}
def yz.Mb(a:yz L b h w0 d y):h.size+2<=y.size:=by have:=a.fp w0 (.inl rfl);have:=a.s.lt;omega
def yz.nfr(a:yz L b h w0 d y):¬Fp y w0 (h.size+1):=λc=>by have:=a.fp _ c;omega
def RvP.step{f:T}(p:RvP h w0 y f)(l:∀a,h.size<=a->a<y.size->¬Fp y w0 a->y2.get a=y.get a/\¬Fp y2 w0 a):RvP h w0 y2 f:=by
 rcases p with o|⟨g,q,rfl,c,i,j,k,e⟩
 ·exact .inl o
 ·obtain⟨m,n⟩:=l g e (H.ej c) k;exact .inr ⟨g,q,rfl,m.trans c,i,j,n,e⟩
def RE.step{g:Nat}{f:T}(c:RE h w0 y g f)(i:∀a,h.size<=a->a<y.size->¬Fp y w0 a->y2.get a=y.get a/\¬Fp y2 w0 a):RE h w0 y2 g f:=by
 unfold RE at c|-;split
 ·rename_i e;rw[aq e]at c;obtain⟨j,m,k,l⟩:=c;exact⟨j,m,k,l.step i⟩
 ·rename_i e;rw[ao e]at c;exact c
def EE(e:Step w0 y y2):∀a,h.size<=a->a<y.size->¬Fp y w0 a->y2.get a=y.get a/\¬Fp y2 w0 a:=λa _ f c=>⟨e.get a f c,λg=>(e.fp a g).elim c λi=>by omega⟩
def yz.tape(c:yz L b h w0 d y)(e:Sm b y y2)(n:uD 0 L b y2)(q:b<h.size):yz L b h w0 d y2:=by
 have i:∀a,Fp y w0 a->a≠b:=λa f j=>by have:=c.fp a f;omega
 have g:=λa=>iE (e.get w0 (i w0 (.inl rfl))) a;exact⟨e.ig c.s λj=>i b j rfl,c.tw.call e n,λa f=>c.fp a (by rw[g]at f;exact f),(e.get _ dj).trans c.rb,c.ln,λm o l=>(c.pr m o l).step λa p _ k=>⟨e.get a dj,by rw[g];exact k⟩⟩
def yz.cons(a:yz L b h w0 d y)(c:iJ):yz L b h w0 d (y.cons c):=by
 have e:=Step.cons a.s.ok a.s.lt c;exact⟨a.s.cons c,a.tw.cons c,λf i=>(e.fp f i).elim (a.fp f) λl=>by have:=a.Mb;omega,(e.get _ (by have:=a.Mb;omega) a.nfr).trans a.rb,a.ln,λk g j=>(a.pr k g j).step (EE e)⟩
def yz.st(e:yz L b h w0 d y)(z:b<h.size)(a:Nat)(u:d.F[a]? =some (d.c a,some (Vz a,d.E a))){k p v:Nat}{q:Bool}{w:List T}(r:dL (d.c a)=some k)(t:y.get k=some ⟨Vz a,p,v,q,false,w⟩)(i:Nat)(g:T)
 (x:(d.MC a ((d.E a).set i g)).F=d.F.set a (d.c a,some (Vz a,(d.E a).set i g))) (C:RE h w0 y a g):yz L b h w0 (d.MC a ((d.E a).set i g)) (dQ y k ⟨Vz a,p,v+1,q,false,w.set i g⟩):=by
 obtain⟨n,sl⟩:=e.s.elem a u r t i g;have B:=e.s.AO (ax u) r;refine⟨by rw[x];exact sl,e.tw.put t (by have:=e.fp k B;simp;omega) (by simpa using z) _,λo A=>(n.fp o A).elim (e.fp o) λl=>by have:=e.Mb;omega,(n.get _ (by have:=e.Mb;omega) e.nfr).trans e.rb,λf=> ?_,λf m j=> ?_⟩
 ·show(if f=a then _ else _:List T).length=_;split
  ·rename_i l;subst l;rw[cM];exact e.ln f
  ·exact e.ln f
 ·have j:m∈(if f=a then(d.E a).set i g else d.E f):=j;refine RE.step ?_ (EE n);split at j
  ·rename_i l;subst l;rcases bV j with D|rfl
   ·exact e.pr _ m D
   ·exact C
  ·exact e.pr f m j
def yz.tx(a:yz L b h w0 d y)(j:b<h.size)(e:Int):yz L b h w0 ⟨d.ver+1,e,d.c,d.E⟩ (dQ y w0 ⟨7,0,d.ver+1,true,false,[.agg [d.c 0,dw e,d.c 2,d.c 3,d.c 4,d.c 5,d.c 6]]⟩):=by
 obtain⟨f,sl⟩:=a.s.abP 1 (v':= dw e) dp ⟨_,rfl⟩ _ rfl;exact⟨sl,a.tw.put a.s.get (by have:=a.fp w0 (.inl rfl);simp;omega) (by simpa using j) _,λg k=>(f.fp g k).elim (a.fp g) λn=>by have:=a.Mb;omega,(f.get _ (by have:=a.Mb;omega) a.nfr).trans a.rb,a.ln,λm i l=>(a.pr m i l).step (EE f)⟩
def t9{i:Type}{f:i->T}{P:i->Prop}:∀{e:List T},(∀c∈e,∃a,c=f a/\P a)->∃g:List i,e=g.map f/\∀a∈g,P a:=by
 intro e;induction e with
 |nil=>intro _;exact⟨[],rfl,dp⟩
 |cons c e m=>
  intro h;obtain⟨a,rfl,l⟩:=h c dp;obtain⟨g,rfl,j⟩:=m λc k=>h c (by simp[k]);exact⟨a::g,rfl,by simpa[l]using j⟩
def yz.ld(i:yz L b h w0 d y)(a:Nat)(r:d.F[a]? =some (d.c a,some (Vz a,d.E a))){te:Ty}(u:te.size=Vz a){j:Nat}(t:j<WK a):∃e f l k g m,dL (d.c a)=some e/\kf y te (d.c a) j=some (.val (.ptr e f j 0) y)/\y.get e=some ⟨Vz a,f,l,k,false,g⟩/\g[j]? =some m/\RE h w0 y a m:=by
 have hE:j<(d.E a).length:=by rw[i.ln];exact t
 obtain⟨e,f,l,k,g,q,n,p,o⟩:=(i.s.gr a r).ID (te:=te) u (i:=j) hE;exact⟨e,f,l,k,g,_,q,n,p,o,i.pr a _ (aF hE)⟩
end
end Go.Proofs.YtmaeadedikngoaaGreatDoor
