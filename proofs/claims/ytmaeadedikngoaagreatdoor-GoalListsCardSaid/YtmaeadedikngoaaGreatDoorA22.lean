/- Texts X10 to X10. -/
import Derived.Test.YtmaeadedikngoaaGreatDoorA21
set_option linter.all false
set_option maxRecDepth 100000
set_option maxHeartbeats 8000000
namespace Go.Proofs.YtmaeadedikngoaaGreatDoor
noncomputable section
open Go Go.TI
attribute [-simp] List.map_take List.map_drop List.map_append fH fh ej Bool.not_or Bool.not_and
attribute [simp] fG fj
def _root_.Go.TI.nS.copy{h a:H}{i w0 g q k:Nat}{c:List (T×aa (Nat×List T))}(f:nS h i g q c)(p:ij 0 a)(n:a.get w0=some (dI g k [.agg (c.map (·.1))]))(o:∀e,Fp h i e->a.get e=h.get e):nS a w0 g k c:=by
 refine⟨p,n,λl j=> ?_,f.UH⟩;have:=f.Su l j;unfold Xs at this|-;split at this
 ·exact this
 ·exact⟨this.1.mono λb m=>o b (f.Bo j m),this.2⟩
structure AV where
 (ver:Nat) (tx:Int) (c:Nat->T) (E:Nat->List T)
def AV.F(d:AV):List (T×aa (Nat×List T)):=[(d.c 0,some (2,d.E 0)),(dG d.tx,none),(d.c 2,some (1,d.E 2)),(d.c 3,some (3,d.E 3)),(d.c 4,some (1,d.E 4)),(d.c 5,some (1,d.E 5)),(d.c 6,some (1,d.E 6))]
def AV.NP(d:AV)(f:Nat)(e:List T):AV:=⟨d.ver,d.tx,d.c,λa=>if a=f then e else d.E a⟩
def Yr(a:Nat):Nat:=if a=0 then 3 else if a=3\/a=6 then 4 else if a=4 then 5 else 1
def Xg(a:Nat):Nat:=if a=0 then 2 else if a=3 then 3 else 1
def RvP(h:H)(w0:Nat)(y:H)(e:T):Prop:=e= dH\/∃(a:Nat) (c:Int),e= .arr a 0 0 1 false/\y.get a=some (dI 1 0 [dG c])/\0<=c/\c<4/\¬Fp y w0 a/\h.size<=a
def Te(h:H)(w0:Nat)(y:H)(c:Nat)(a:T):Prop:=
 if c=0 then∃(g:Int) (f:T),a= .agg [dG g,f]/\RvP h w0 y f
 else if c=2 then∃b,a= .bool b
 else if c=3 then∃i:dP,a=i.t
 else∃e:Int,a= dG e/\(c=6->0<=e/\e<=4)
structure zh(L:List Int)(b:Nat)(h:H)(w0:Nat)(d:AV)(y:H):Prop where
 s:nS y w0 7 d.ver d.F
 tw:sY 0 L b (TI.hr h) y
 fp:∀c,Fp y w0 c->h.size+2<=c
 rb:y.get (h.size+1)=some nC
 ln:∀k,(d.E k).length=Yr k
 pr:∀k,∀e∈d.E k,Te h w0 y k e
variable {L:List Int}{b:Nat}{h y y2:H}{w0:Nat}{d:AV}
def zh.Nm(a:zh L b h w0 d y):h.size+2<=y.size:=by have:=a.fp w0 (.inl rfl);have:=a.s.lt;omega
def zh.nfr(a:zh L b h w0 d y):¬Fp y w0 (h.size+1):=λc=>by have:=a.fp _ c;omega
def RvP.step{f:T}(p:RvP h w0 y f)(l:∀a,h.size<=a->a<y.size->¬Fp y w0 a->y2.get a=y.get a/\¬Fp y2 w0 a):RvP h w0 y2 f:=by
 rcases p with o|⟨g,q,rfl,c,i,j,k,e⟩
 ·exact .inl o
 ·obtain⟨m,n⟩:=l g e (H.eJ c) k;exact .inr ⟨g,q,rfl,m.trans c,i,j,n,e⟩
def Te.step{g:Nat}{f:T}(c:Te h w0 y g f)(i:∀a,h.size<=a->a<y.size->¬Fp y w0 a->y2.get a=y.get a/\¬Fp y2 w0 a):Te h w0 y2 g f:=by
 unfold Te at c|-;split
 ·rename_i e;rw[aq e]at c;obtain⟨j,m,k,l⟩:=c;exact⟨j,m,k,l.step i⟩
 ·rename_i e;rw[ao e]at c;exact c
def Fq(e:Step w0 y y2):∀a,h.size<=a->a<y.size->¬Fp y w0 a->y2.get a=y.get a/\¬Fp y2 w0 a:=λa _ f c=>⟨e.get a f c,λg=>(e.fp a g).elim c λi=>by omega⟩
def zh.tape(c:zh L b h w0 d y)(e:Sm b y y2)(n:vm 0 L b y2)(q:b<h.size):zh L b h w0 d y2:=by
 have i:∀a,Fp y w0 a->a≠b:=λa f j=>by have:=c.fp a f;omega
 have g:=λa=>iV (e.get w0 (i w0 (.inl rfl))) a;exact⟨e.iD c.s λj=>i b j rfl,c.tw.call e n,λa f=>c.fp a (by rw[g]at f;exact f),(e.get _ dB).trans c.rb,c.ln,λm o l=>(c.pr m o l).step λa p _ k=>⟨e.get a dB,by rw[g];exact k⟩⟩
def zh.cons(a:zh L b h w0 d y)(c:iY):zh L b h w0 d (y.cons c):=by
 have e:=Step.cons a.s.ok a.s.lt c;exact⟨a.s.cons c,a.tw.cons c,λf i=>(e.fp f i).elim (a.fp f) λl=>by have:=a.Nm;omega,(e.get _ (by have:=a.Nm;omega) a.nfr).trans a.rb,a.ln,λk g j=>(a.pr k g j).step (Fq e)⟩
def zh.st(e:zh L b h w0 d y)(z:b<h.size)(a:Nat)(u:d.F[a]? =some (d.c a,some (Xg a,d.E a))){k p v:Nat}{q:Bool}{w:List T}(r:dU (d.c a)=some k)(t:y.get k=some ⟨Xg a,p,v,q,false,w⟩)(i:Nat)(g:T)
 (x:(d.NP a ((d.E a).set i g)).F=d.F.set a (d.c a,some (Xg a,(d.E a).set i g))) (C:Te h w0 y a g):zh L b h w0 (d.NP a ((d.E a).set i g)) (d8 y k ⟨Xg a,p,v+1,q,false,w.set i g⟩):=by
 obtain⟨n,sl⟩:=e.s.elem a u r t i g;have B:=e.s.Bo (ax u) r;refine⟨by rw[x];exact sl,e.tw.put t (by have:=e.fp k B;simp;omega) (by simpa using z) _,λo A=>(n.fp o A).elim (e.fp o) λl=>by have:=e.Nm;omega,(n.get _ (by have:=e.Nm;omega) e.nfr).trans e.rb,λf=> ?_,λf m j=> ?_⟩
 ·show(if f=a then _ else _:List T).length=_;split
  ·rename_i l;subst l;rw[cS];exact e.ln f
  ·exact e.ln f
 ·have j:m∈(if f=a then(d.E a).set i g else d.E f):=j;refine Te.step ?_ (Fq n);split at j
  ·rename_i l;subst l;rcases bZ j with D|rfl
   ·exact e.pr _ m D
   ·exact C
  ·exact e.pr f m j
def zh.tx(a:zh L b h w0 d y)(j:b<h.size)(e:Int):zh L b h w0 ⟨d.ver+1,e,d.c,d.E⟩ (d8 y w0 ⟨7,0,d.ver+1,true,false,[.agg [d.c 0,dG e,d.c 2,d.c 3,d.c 4,d.c 5,d.c 6]]⟩):=by
 obtain⟨f,sl⟩:=a.s.adv 1 (v':= dG e) dC ⟨_,rfl⟩ _ rfl;exact⟨sl,a.tw.put a.s.get (by have:=a.fp w0 (.inl rfl);simp;omega) (by simpa using j) _,λg k=>(f.fp g k).elim (a.fp g) λn=>by have:=a.Nm;omega,(f.get _ (by have:=a.Nm;omega) a.nfr).trans a.rb,a.ln,λm i l=>(a.pr m i l).step (Fq f)⟩
def uK{i:Type}{f:i->T}{P:i->Prop}:∀{e:List T},(∀c∈e,∃a,c=f a/\P a)->∃g:List i,e=g.map f/\∀a∈g,P a:=by
 intro e;induction e with
 |nil=>intro _;exact⟨[],rfl,dC⟩
 |cons c e m=>
  intro h;obtain⟨a,rfl,l⟩:=h c dC;obtain⟨g,rfl,j⟩:=m λc k=>h c (by simp[k]);exact⟨a::g,rfl,by simpa[l]using j⟩
def zh.ld(i:zh L b h w0 d y)(a:Nat)(r:d.F[a]? =some (d.c a,some (Xg a,d.E a))){te:Ty}(u:te.size=Xg a){j:Nat}(t:j<Yr a):∃e f l k g m,dU (d.c a)=some e/\kH y te (d.c a) j=some (.val (.ptr e f j 0) y)/\y.get e=some ⟨Xg a,f,l,k,false,g⟩/\g[j]? =some m/\Te h w0 y a m:=by
 have hE:j<(d.E a).length:=by rw[i.ln];exact t
 obtain⟨e,f,l,k,g,q,n,p,o⟩:=(i.s.gr a r).JG (te:=te) u (i:=j) hE;exact⟨e,f,l,k,g,_,q,n,p,o,i.pr a _ (aC hE)⟩
end
end Go.Proofs.YtmaeadedikngoaaGreatDoor
