/- Texts X10 to X10. -/
import Derived.Test.YtmaeadedikngoaaGreatDoorA23
set_option linter.all false
set_option maxRecDepth 100000
set_option maxHeartbeats 8000000
namespace Go.Proofs.YtmaeadedikngoaaGreatDoor
noncomputable section
open Go Go.TI
attribute [-simp] List.map_take List.map_drop List.map_append fw eQ dZ Bool.not_or Bool.not_and
attribute [simp] fq eY
def _root_.Go.TI.mW.copy{h a:H}{i w0 g q k:Nat}{c:List (T×aa (Nat×List T))}(f:mW h i g q c)(p:gF 0 a)(n:a.get w0=some (dA g k [.agg (c.map (·.1))]))(o:∀e,Fp h i e->a.get e=h.get e):mW a w0 g k c:=by
 refine⟨p,n,λl j=> ?_,f.Tu⟩;have:=f.Rg l j;unfold VV at this|-;split at this
 ·exact this
 ·exact⟨this.1.mono λb m=>o b (f.AW j m),this.2⟩
structure Aw where
 (ver:Nat) (tx:Int) (c:Nat->T) (E:Nat->List T)
def Aw.F(d:Aw):List (T×aa (Nat×List T)):=[(d.c 0,some (2,d.E 0)),(dy d.tx,none),(d.c 2,some (1,d.E 2)),(d.c 3,some (3,d.E 3)),(d.c 4,some (1,d.E 4)),(d.c 5,some (1,d.E 5)),(d.c 6,some (1,d.E 6))]
def Aw.MN(d:Aw)(f:Nat)(e:List T):Aw:=⟨d.ver,d.tx,d.c,λa=>if a=f then e else d.E a⟩
def WW(a:Nat):Nat:=if a=0 then 3 else if a=3\/a=6 then 4 else if a=4 then 5 else 1
def VK(a:Nat):Nat:=if a=0 then 2 else if a=3 then 3 else 1
def RvP(h:H)(w0:Nat)(y:H)(e:T):Prop:=e= dz\/∃(a:Nat) (c:Int),e= .arr a 0 0 1 false/\y.get a=some (dA 1 0 [dy c])/\0<=c/\c<4/\¬Fp y w0 a/\h.size<=a
def RQ(h:H)(w0:Nat)(y:H)(c:Nat)(a:T):Prop:=
 if c=0 then∃(g:Int) (f:T),a= .agg [dy g,f]/\RvP h w0 y f
 else if c=2 then∃b,a= .bool b
 else if c=3 then∃i:dG,a=i.t
 else∃e:Int,a= dy e/\(c=6->0<=e/\e<=4)
structure yI(L:List Int)(b:Nat)(h:H)(w0:Nat)(d:Aw)(y:H):Prop where
 s:mW y w0 7 d.ver d.F
 tw:r9 0 L b (TI.hr h) y
 fp:∀c,Fp y w0 c->h.size+2<=c
 rb:y.get (h.size+1)=some mS
 ln:∀k,(d.E k).length=WW k
 pr:∀k,∀e∈d.E k,RQ h w0 y k e
variable {L:List Int}{b:Nat}{h y y2:H}{w0:Nat}{d:Aw}
def yI.Mm(a:yI L b h w0 d y):h.size+2<=y.size:=by have:=a.fp w0 (.inl rfl);have:=a.s.lt;omega
def yI.nfr(a:yI L b h w0 d y):¬Fp y w0 (h.size+1):=λc=>by have:=a.fp _ c;omega
def RvP.step{f:T}(p:RvP h w0 y f)(l:∀a,h.size<=a->a<y.size->¬Fp y w0 a->y2.get a=y.get a/\¬Fp y2 w0 a):RvP h w0 y2 f:=by
 rcases p with o|⟨g,q,rfl,c,i,j,k,e⟩
 ·exact .inl o
 ·obtain⟨m,n⟩:=l g e (H.ez c) k;exact .inr ⟨g,q,rfl,m.trans c,i,j,n,e⟩
def RQ.step{g:Nat}{f:T}(c:RQ h w0 y g f)(i:∀a,h.size<=a->a<y.size->¬Fp y w0 a->y2.get a=y.get a/\¬Fp y2 w0 a):RQ h w0 y2 g f:=by
 unfold RQ at c|-;split
 ·rename_i e;rw[aq e]at c;obtain⟨j,m,k,l⟩:=c;exact⟨j,m,k,l.step i⟩
 ·rename_i e;rw[ao e]at c;exact c
def Ep(e:Step w0 y y2):∀a,h.size<=a->a<y.size->¬Fp y w0 a->y2.get a=y.get a/\¬Fp y2 w0 a:=λa _ f c=>⟨e.get a f c,λg=>(e.fp a g).elim c λi=>by omega⟩
def yI.tape(c:yI L b h w0 d y)(e:Sm b y y2)(n:uJ 0 L b y2)(q:b<h.size):yI L b h w0 d y2:=by
 have i:∀a,Fp y w0 a->a≠b:=λa f j=>by have:=c.fp a f;omega
 have g:=λa=>iJ (e.get w0 (i w0 (.inl rfl))) a;exact⟨e.im c.s λj=>i b j rfl,c.tw.call e n,λa f=>c.fp a (by rw[g]at f;exact f),(e.get _ dq).trans c.rb,c.ln,λm o l=>(c.pr m o l).step λa p _ k=>⟨e.get a dq,by rw[g];exact k⟩⟩
def yI.cons(a:yI L b h w0 d y)(c:iN):yI L b h w0 d (y.cons c):=by
 have e:=Step.cons a.s.ok a.s.lt c;exact⟨a.s.cons c,a.tw.cons c,λf i=>(e.fp f i).elim (a.fp f) λl=>by have:=a.Mm;omega,(e.get _ (by have:=a.Mm;omega) a.nfr).trans a.rb,a.ln,λk g j=>(a.pr k g j).step (Ep e)⟩
def yI.st(e:yI L b h w0 d y)(z:b<h.size)(a:Nat)(u:d.F[a]? =some (d.c a,some (VK a,d.E a))){k p v:Nat}{q:Bool}{w:List T}(r:dO (d.c a)=some k)(t:y.get k=some ⟨VK a,p,v,q,false,w⟩)(i:Nat)(g:T)
 (x:(d.MN a ((d.E a).set i g)).F=d.F.set a (d.c a,some (VK a,(d.E a).set i g))) (C:RQ h w0 y a g):yI L b h w0 (d.MN a ((d.E a).set i g)) (dT y k ⟨VK a,p,v+1,q,false,w.set i g⟩):=by
 obtain⟨n,sl⟩:=e.s.elem a u r t i g;have B:=e.s.AW (ax u) r;refine⟨by rw[x];exact sl,e.tw.put t (by have:=e.fp k B;simp;omega) (by simpa using z) _,λo A=>(n.fp o A).elim (e.fp o) λl=>by have:=e.Mm;omega,(n.get _ (by have:=e.Mm;omega) e.nfr).trans e.rb,λf=> ?_,λf m j=> ?_⟩
 ·show(if f=a then _ else _:List T).length=_;split
  ·rename_i l;subst l;rw[cO];exact e.ln f
  ·exact e.ln f
 ·have j:m∈(if f=a then(d.E a).set i g else d.E f):=j;refine RQ.step ?_ (Ep n);split at j
  ·rename_i l;subst l;rcases bV j with D|rfl
   ·exact e.pr _ m D
   ·exact C
  ·exact e.pr f m j
def yI.tx(a:yI L b h w0 d y)(j:b<h.size)(e:Int):yI L b h w0 ⟨d.ver+1,e,d.c,d.E⟩ (dT y w0 ⟨7,0,d.ver+1,true,false,[.agg [d.c 0,dy e,d.c 2,d.c 3,d.c 4,d.c 5,d.c 6]]⟩):=by
 obtain⟨f,sl⟩:=a.s.abZ 1 (v':= dy e) dt ⟨_,rfl⟩ _ rfl;exact⟨sl,a.tw.put a.s.get (by have:=a.fp w0 (.inl rfl);simp;omega) (by simpa using j) _,λg k=>(f.fp g k).elim (a.fp g) λn=>by have:=a.Mm;omega,(f.get _ (by have:=a.Mm;omega) a.nfr).trans a.rb,a.ln,λm i l=>(a.pr m i l).step (Ep f)⟩
def ui{i:Type}{f:i->T}{P:i->Prop}:∀{e:List T},(∀c∈e,∃a,c=f a/\P a)->∃g:List i,e=g.map f/\∀a∈g,P a:=by
 intro e;induction e with
 |nil=>intro _;exact⟨[],rfl,dt⟩
 |cons c e m=>
  intro h;obtain⟨a,rfl,l⟩:=h c dt;obtain⟨g,rfl,j⟩:=m λc k=>h c (by simp[k]);exact⟨a::g,rfl,by simpa[l]using j⟩
def yI.ld(i:yI L b h w0 d y)(a:Nat)(r:d.F[a]? =some (d.c a,some (VK a,d.E a))){te:Ty}(u:te.size=VK a){j:Nat}(t:j<WW a):∃e f l k g m,dO (d.c a)=some e/\km y te (d.c a) j=some (.val (.ptr e f j 0) y)/\y.get e=some ⟨VK a,f,l,k,false,g⟩/\g[j]? =some m/\RQ h w0 y a m:=by
 have hE:j<(d.E a).length:=by rw[i.ln];exact t
 obtain⟨e,f,l,k,g,q,n,p,o⟩:=(i.s.gr a r).IK (te:=te) u (i:=j) hE;exact⟨e,f,l,k,g,_,q,n,p,o,i.pr a _ (aF hE)⟩
end
end Go.Proofs.YtmaeadedikngoaaGreatDoor
