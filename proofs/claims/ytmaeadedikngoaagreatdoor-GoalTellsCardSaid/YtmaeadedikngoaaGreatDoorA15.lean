/- Texts W08d to W01d. -/
import Derived.Test.YtmaeadedikngoaaGreatDoorA14
set_option linter.all false
set_option maxRecDepth 100000
set_option maxHeartbeats 8000000
namespace Go.Proofs.YtmaeadedikngoaaGreatDoor
noncomputable section
open Go Go.TI
attribute [-simp] List.map_take List.map_drop List.map_append fG fg ei Bool.not_or Bool.not_and
attribute [simp] fF fh
def rK:hU:=⟨d8,λa=>[a.t],λa=>a.em.length<=1000000/\a.eg.length<=1000000/\a.dK.length<=1000000,λa=>(ly a).t,λc d b=>by simp at b;rw[d8.inj b]⟩
def yq(_:Unit):T:= .agg [dE (-1),dF]
def RR{b:H}{V:Nat->Prop}(a:Nat):iB (FT b V 2) ((List.replicate a ()).map yq) ((List.replicate a (⟨-1,[]⟩:ed)).map ed.t):=by
 induction a with
 |zero=>exact .nil
 |succ a c=>
  rw[dh,dh];exact .cons (.inr (.inr ⟨_,_,rfl,.cons (fQ ..) (.cons (jh ..) .nil),rfl⟩)) c
def Sy8(e:H)(Lk:List Unit)(a:List Bool)(Th:List dN):Prop:=∃f b c d,nW e 2 4 f [(b,some (2,Lk.map yq)),(dE (-1),none),(c,some (1,a.map T.bool)),(d,some (3,Th.map dN.t))]
def vq:iZ:=(dG 4 0 [.agg [dF,dE 0,dF,dF]])
def MA:rK.Ok Tryz.prog cx 73:=by
 refine iv (tb:=⟨pt [],ht []⟩) fa eQ (iR 9071038046463 [] Tryz.func73) (λ_=>1000005) (by simp[rK]) (by simp[rK,Tryz.f73]) ?_;rintro(w:d8) ⟨hl,U,ht⟩ b N;simp[rK]at N|-;simp[Tryz.f73,N];refine fy w.em.length dz (λc b h=>Sy8 h (List.replicate c ()) [] []/\Lb 2 h 0 (dG 6 0 [w.t])/\Lb 2 h 1 vq/\dH b 1 (.ptr 0 0 0 0)/\dH b 2 (.ptr 1 0 0 0)/\dH b 3 (.ptr 2 0 0 0)/\dH b 4 (dE c)) ?_ ?_ dz ?_
 ·rintro c b h A z ⟨⟨ver,s,u,v,a⟩,e,k,j,n,o,p⟩;have m:=a.get;simp at m;obtain⟨L,C,r,i⟩:=(a.gr 0 rfl).nd (cx:=cx) (f:=yq) a.ok Kk rfl Gm rfl dA (λ_=>rfl) () dB;obtain⟨q,J,x⟩:=a.app 0 rfl i;obtain⟨g,l⟩:=x _ rfl;simp only[<-List.replicate_succ']at l;simp[-List.map_replicate]at q g l;simp only[yq]at r;simp[j,n,o,p,A,e.get,m,r,q,dZ,i.1.il,i.1.cells,z];exact⟨⟨_,_,_,_,l⟩,e.step g,k.step g⟩
 ·rintro b h ⟨⟨ver,s,u,v,a⟩,e,k,j,n,o,p⟩;simp[j,p,e.get];refine fy w.eg.length dz (λc b h=>Sy8 h (List.replicate w.em.length ()) (List.replicate c false) []/\Lb 2 h 0 (dG 6 0 [w.t])/\Lb 2 h 1 vq/\dH b 1 (.ptr 0 0 0 0)/\dH b 2 (.ptr 1 0 0 0)/\dH b 3 (.ptr 2 0 0 0)/\dH b 5 (dE c)) ?_ ?_ dz ⟨⟨_,_,_,_,a⟩,e,k,by simp[j,n,o]⟩
  ·rintro c b h A z ⟨⟨ver,s,u,v,a⟩,e,k,j,n,o,p⟩;have m:=a.get;simp at m;obtain⟨L,C,r,i⟩:=(a.gr 2 rfl).nd (cx:=cx) (f:=T.bool) a.ok Gl rfl Qn rfl dA dA false dB;obtain⟨q,J,x⟩:=a.app 2 rfl i;obtain⟨g,l⟩:=x _ rfl;simp only[<-List.replicate_succ']at l;simp[-List.map_replicate]at q g l;simp[j,n,o,p,A,e.get,m,r,q,dZ,i.1.il,i.1.cells,z];exact⟨⟨_,_,_,_,l⟩,e.step g,k.step g⟩
  ·rintro b h ⟨⟨ver,s,u,v,a⟩,e,k,j,n,o,p⟩;simp[j,p,e.get];refine fy w.dK.length dz (λc b h=>Sy8 h (List.replicate w.em.length ()) (List.replicate w.eg.length false) ((List.range c).map λc=>(⟨if c=0 then 1 else 0,0,false⟩:dN))/\Lb 2 h 0 (dG 6 0 [w.t])/\Lb 2 h 1 vq/\dH b 1 (.ptr 0 0 0 0)/\dH b 2 (.ptr 1 0 0 0)/\dH b 3 (.ptr 2 0 0 0)/\dH b 6 (dE c)) ?_ ?_ dz ⟨⟨_,_,_,_,a⟩,e,k,by simp[j,n,o]⟩
   ·rintro c b h A z ⟨⟨ver,s,u,v,a⟩,e,k,j,n,o,p⟩;have m:=a.get;simp at m;have W:(0=h.size)=False:=by have:=a.lt;simp;omega
    have O:(2=h.size)=False:=by have:=a.lt;simp;omega
    by_cases D:c=0
    ·subst D;have Q:binop .add (dE 0) (dE 1)=some (dE 1):=by simpa using z
     have y:=a.cons (dG 3 2 [dN.t ⟨1,0,false⟩]);have B:=Step.cons a.ok a.lt (dG 3 2 [dN.t ⟨1,0,false⟩]);have E:=e.step B;have H:=k.step B;obtain⟨L,C,r,i⟩:=(y.gr 3 rfl).nd (cx:=cx) (f:=dN.t) y.ok C6 rfl BB rfl dA (λ_=>rfl) (⟨1,0,false⟩:dN) dA;obtain⟨q,J,x⟩:=y.app 3 rfl i;obtain⟨g,l⟩:=x _ rfl;simp only[aV,cw,db,cP]at q g l;rw[size_cons]at r;simp[j,n,o,p,A,e.get,m,O,a.ok.low,r,q,dZ,i.1.il,i.1.cells,Q];exact⟨⟨_,_,_,_,l⟩,E.step g,H.step g⟩
    ·skip
     have y:=a.cons (dG 3 1 [dN.t ⟨0,0,false⟩]);have B:=Step.cons a.ok a.lt (dG 3 1 [dN.t ⟨0,0,false⟩]);have E:=e.step B;have H:=k.step B;obtain⟨L,C,r,i⟩:=(y.gr 3 rfl).nd (cx:=cx) (f:=dN.t) y.ok C6 rfl BB rfl dA (λ_=>rfl) (⟨0,0,false⟩:dN) dB;obtain⟨q,J,x⟩:=y.app 3 rfl i;obtain⟨g,l⟩:=x _ rfl;simp only[aV,cw,db,cP]at q g l;rw[size_cons]at r;simp[j,n,o,p,D,A,e.get,m,O,a.ok.low,r,q,dZ,i.1.il,i.1.cells,z];have hr:(List.range (c+1)).map (λc=>(⟨if c=0 then 1 else 0,0,false⟩:dN))=(List.range c).map (λc=>(⟨if c=0 then 1 else 0,0,false⟩:dN))++[⟨0,0,false⟩]:=by
      rw[List.range_succ,List.map_append];simp[D]
     rw[hr];exact⟨⟨_,_,_,_,l⟩,E.step g,H.step g⟩
   ·rintro b h ⟨⟨ver,s,u,v,a⟩,e,k,j,n,o,p⟩;have m:=a.get;simp at m;have G:=k.get;unfold vq at G;have K:=a.sq k (dG 4 1 [.agg [s,dE (-1),u,v]]);have R:(dY h 1 (dG 4 1 [.agg [s,dE (-1),u,v]])).get 1=_:=(dP G _ 1).trans (aq rfl);have P:=(K.gr 0 rfl).Ic (d:=2) dz (RR (V:=λ_=>True) w.em.length);simp[j,n,o,p,e.get,m,G,dZ,R,P,(K.gr 2 rfl).fz dA,(K.gr 3 rfl).fz dA,-List.map_replicate];exact⟨a.ok.hp,by unfold ly fH.t fH.cs;simp[List.map_const',-List.map_replicate]⟩
 ·obtain⟨S,M⟩:=nW.start (h:=((hE.cons (dG 6 0 [w.t])).cons vq).cons (dG 4 1 [.agg [dF,dE (-1),dF,dF]])) (w:=2) (szw:=4) (ver:=1) (F:=[(dF,some (2,[])),(dE (-1),none),(dF,some (1,[])),(dF,some (3,[]))]) ⟨dA,dA,dA⟩ (by simp[vq]) dA;exact⟨⟨_,_,_,_,S⟩,⟨dA,λI=>absurd (M 0 I) dD⟩,⟨by simp[vq],λI=>absurd (M 1 I) dD⟩,dA⟩
def Iw{b:fJ}(ht:b.p 73=some rK)(a:d8)(c:a.em.length<=1000000)(d:a.eg.length<=1000000)(e:a.dK.length<=1000000):rl Tryz.prog cx b 73 [a.t]=some (ly a).t:=im ht MA a ⟨c,d,e⟩
def aeV(f:H)(a:fH)(b c:Nat)(d:List Int):Prop:=∃g e,nW f 4 7 g [(sl (a.em.map ed.t),none),(dE a.tx,none),(sl (a.done.map T.bool),none),(sl (a.dK.map dN.t),none),(e,some (1,d.map (T.int .i64))),(.arr 2 0 0 b false,some (1,(List.replicate b 0).map (T.int .i64))),(.arr 3 0 0 c false,some (1,(List.replicate c 0).map (T.int .i64)))]
def nD:iZ:=(dG 7 0 [.agg [dF,dE 0,dF,dF,dF,dF,dF]])
def oN:hU:=⟨d8,λa=>[a.t],λa=>a.em.length<=1000000/\a.eg.length<=1000000/\a.dK.length<=1000000/\a.cells.length<=1000000,λa=>(jT a).t,λc d b=>by simp at b;rw[d8.inj b]⟩
def Mz:oN.Ok Tryz.prog cx 41:=by
 refine iv (tb:=⟨pt [(73,rK)],ht []⟩) fa eQ (iR 1048607 [(1,[(1,3),(1,5),(1,7),(1,9),(1,11)])] Tryz.func41) (λ_=>1000005) (by simp[oN]) (by simp[oN,Tryz.f41]) ?_;rintro(a:d8) ⟨hl,q,ht,F⟩ h e;simp[oN]at e|-;have M:a.eg.length*8<=70368744177664:=dz;have N:a.dK.length*8<=70368744177664:=dz;simp[Tryz.f41,e,Iw,hl,q,ht,M,N];have R:(jT a).t=ej.t ⟨ly a,a.cells.map ij.jY,List.replicate a.eg.length 0,List.replicate a.dK.length 0⟩:=by
  unfold jT;simp only[List.map_const']
 rw[R];generalize ly a=b at*
 refine fy a.cells.length dz (λm h i=>∃j,aeV i b a.eg.length a.dK.length j/\j.length=m/\j=(a.cells.take m).map ij.jY/\Lb 4 i 0 (dG 6 0 [a.t])/\Lb 4 i 1 nD/\dH h 1 (.ptr 0 0 0 0)/\dH h 2 (.ptr 1 0 0 0)/\dH h 3 (.ptr 4 0 0 0)/\dH h 4 (dE m)) ?_ ?_ dz ?_
 ·rintro m h i G S ⟨j,⟨X,c,d⟩,Q,p,r,s,n,o,w,y⟩;have l:=d.get;simp at l;obtain⟨ap,al,O,E⟩:=(d.gr 4 rfl).nd (cx:=cx) (f:=T.int .i64) d.ok o6 rfl yV rfl dA (λ_=>rfl) a.cells[m].jY dB;obtain⟨u,an,B⟩:=d.app 4 rfl E;obtain⟨D,K⟩:=B _ rfl;simp only[aV,cw,db,cP]at u D K;simp[n,o,w,y,G,r.get,l,O,u,dZ,E.1.il,E.1.cells,S];exact⟨_,⟨_,_,K⟩,dB,by rw[p,aZ G,List.map_append];rfl,r.step D,s.step D⟩
 ·rintro h i ⟨j,⟨X,c,d⟩,Q,p,r,s,n,o,w,y⟩;rw[aO]at p;subst p;have l:=d.get;simp at l;have z:=s.get;unfold nD at z;have C:=d.sq s (dG 7 1 [.agg [sl (b.em.map ed.t),dE b.tx,sl (b.done.map T.bool),sl (b.dK.map dN.t),c,.arr 2 0 0 a.eg.length false,.arr 3 0 0 a.dK.length false]]);have P:(dY i 1 (dG 7 1 [.agg [sl (b.em.map ed.t),dE b.tx,sl (b.done.map T.bool),sl (b.dK.map dN.t),c,.arr 2 0 0 a.eg.length false,.arr 3 0 0 a.dK.length false]])).get 1=_:=(dP z _ 1).trans (aq rfl);have Y:=(C.gr 4 rfl).fz dA;have Z:=(C.gr 5 rfl).fz dA;have ae:=(C.gr 6 rfl).fz dA;simp[n,o,w,y,r.get,l,z,dZ,P,Y,Z,ae,-List.map_replicate,-vX];exact⟨d.ok.hp,by unfold ej.t ej.cs;simp[-List.map_replicate]⟩
 ·have J:∀(g:Nat) (k:T×aa (Nat×List T)),([(sl (b.em.map ed.t),none),(dE b.tx,none),(sl (b.done.map T.bool),none),(sl (b.dK.map dN.t),none),(dF,some (1,[])),(.arr 2 0 0 a.eg.length false,some (1,(List.replicate a.eg.length 0).map (T.int .i64))),(.arr 3 0 0 a.dK.length false,some (1,(List.replicate a.dK.length 0).map (T.int .i64)))]:List (T×aa (Nat×List T)))[g]? =some k->∀c,dS k.1=some c->c+3=g:=by
   intro g k e c F;rcases g with _|_|_|_|_|_|_|g<;>simp at e<;>subst e<;>simp at F<;>omega
  refine⟨[],⟨1,dF,⟨dA,dA,dA⟩,dA,λf q=> ?_,λg W V k L e U c u B=>V ?_⟩,rfl,dA,⟨dA,?_⟩,⟨by simp[nD],?_⟩,dA⟩
  ·simp only[cu,dg,or_false,cw]at q;rcases q with rfl|rfl|rfl|rfl|rfl|rfl|rfl
   iterate 4 (show dS _=none;simp)
   ·exact⟨Gr.nil _ _,dD⟩
   ·exact⟨.inr ⟨2,0,0,true,_,dA,by simp;rfl,dA⟩,show(1:Nat)≠7 by decide⟩
   ·exact⟨.inr ⟨3,0,0,true,_,dA,by simp;rfl,dA⟩,show(1:Nat)≠7 by decide⟩
  ·have n:=J g k e c u;have o:=J W L U c B;omega
  all_goals
   rintro(A|⟨x,I,v,H,A⟩)
   ·simp at A
   ·simp at I;subst I;simp[fw,T.cells]at H;rcases H with rfl|rfl|rfl|rfl|rfl|rfl|rfl<;>simp at A
def Dc{b:fJ}(ht:b.p 41=some oN)(a:d8)(c:a.em.length<=1000000)(d:a.eg.length<=1000000)(e:a.dK.length<=1000000)(f:a.cells.length<=1000000):rl Tryz.prog cx b 41 [a.t]=some (jT a).t:=im ht Mz a ⟨c,d,e,f⟩
end
noncomputable section
open Go Go.TI
inductive dW where
 |mk (op n:Int) (name:List Nat) (l:List dW)
instance :Inhabited dW:=⟨⟨0,0,[],[]⟩⟩
def dW.op:dW->Int|⟨a,_,_,_⟩=>a
def dW.n:dW->Int|⟨_,a,_,_⟩=>a
def dW.name:dW->List Nat|⟨_,_,a,_⟩=>a
def dW.l:dW->List dW|⟨_,_,_,a⟩=>a
@[simp] theorem dW.vM (a b:Int) (c:List Nat) (d:List dW):(dW.mk a b c d).op=a:=id rfl
@[simp] theorem dW.FE (a b:Int) (c:List Nat) (d:List dW):(dW.mk a b c d).n=b:=id rfl
@[simp] theorem dW.oS (a b:Int) (c:List Nat) (d:List dW):(dW.mk a b c d).name=c:=id rfl
@[simp] theorem dW.FJ (a b:Int) (c:List Nat) (d:List dW):(dW.mk a b c d).l=d:=id rfl
def dW.lt{e c:dW}(h:c∈e.l):SizeOf.sizeOf c<SizeOf.sizeOf e:=by
 cases e with
 |mk n k m j=>have:=List.sizeOf_lt_of_mem (show c∈j from h);simp;omega
mutual
def dW.t:dW->T
 |⟨a,b,c,j⟩=> .agg [dE a,dE b,.str c,sl (dW.ts j)]
def dW.ts:List dW->List T
 | []=>[]
 |x::j=>x.t::dW.ts j
end
def dW.El:∀j:List dW,dW.ts j=j.map dW.t
 | []=>by rw[dW.ts];rfl
 |x::k=>by rw[dW.ts,dW.El k];rfl
def dW.nI(x:dW):x.t= .agg [dE x.op,dE x.n,.str x.name,sl (x.l.map dW.t)]:=by
 cases x;rw[dW.t,dW.El];rfl
def vO{l k:Type}{f:l->k}{g:k->k}{j:List l}(h:∀x∈j,g (f x)=f x):(j.map f).map g=j.map f:=by
 rw[cK];exact List.map_congr_left h
def qf{m r:Type}{f:m->r}:∀{k j:List m},(∀a∈k,∀b,f a=f b->a=b)->k.map f=j.map f->k=j:=by
 intro k;induction k with
 |nil=>intro j _ h;cases j<;>simp at h;rfl
 |cons x k p=>
  intro j l h;cases j with
  |nil=>simp at h
  |cons q j=>
   simp only[aV,aL]at h;rw[l x dA q h.1,p (λa n b o=>l a (by simp[n]) b o) h.2]
def ue{k:Type}{f:k->T}{j:List k}(h:∀x∈j,m6 (f x)=true):mP (j.map f)=true:=by
 induction j with
 |nil=>simp
 |cons x j m=>simp[h x dA,m λn l=>h n (by simp[l])]
section
variable (x:dW)(h:H)(d:Nat)
@[simp] theorem dW.Tk:x.t.cells=[dE x.op,dE x.n,.str x.name,sl (x.l.map dW.t)]:=by rw[dW.nI];rfl
@[simp] theorem dW.abB:Lw x.t=4:=by rw[dW.nI];rfl
@[simp] theorem dW.Wr:x.t.il=true:=by rw[dW.nI];rfl
def dW.Qw:∀(j:Nat) (x:dW),SizeOf.sizeOf x<=j->cn x.t=x.t:=by
 intro j;induction j with
 |zero=>intro x k;cases x;simp at k
 |succ j m=>
  intro x k;rw[dW.nI];simp only[jS,aV,cw,Gt,Gs,Ly];rw[vO λc l=>m c (by have:=dW.lt l;omega)]
@[simp] theorem dW.WY:cn x.t=x.t:=dW.Qw _ x (au _)
@[simp] theorem dW.abo:qJ h x.t=some x.t:=by rw[dW.nI];simp
@[simp] theorem dW.abr:xi h (d+2) x.t=some x.t:=by rw[dW.nI];simp
@[simp] theorem dW.Vw:jW x.t=true:=by rw[dW.nI];simp
def dW.JN:∀(j:Nat) (x:dW),SizeOf.sizeOf x<=j->m6 x.t=true:=by
 intro j;induction j with
 |zero=>intro x k;cases x;simp at k
 |succ j m=>
  intro x k;rw[dW.nI];simp only[HM,Cw,HL,HK,Lh,EL];rw[ue λc l=>m c (by have:=dW.lt l;omega)];rfl
@[simp] theorem dW.PP:m6 x.t=true:=dW.JN _ x (au _)
end
def dW.Wp:∀(l:Nat) (x j:dW),SizeOf.sizeOf x<=l->x.t=j.t->x=j:=by
 intro l;induction l with
 |zero=>intro x j p;cases x;simp at p
 |succ l s=>
  intro x j p h;rw[x.nI,j.nI]at h;simp only[T.agg.injEq,aL,T.int.injEq,T.str.injEq,true_and,and_true]at h;obtain⟨m,n,o,k⟩:=h;have k:=qf (λa q b r=>s a b (by have:=dW.lt q;omega) r) (zq k);obtain⟨a,b,c,d⟩:=x;obtain⟨u,v,w,y⟩:=j;simp only[dW.vM,dW.FE,dW.oS,dW.FJ]at m n o k;rw[m,n,o,k]
def dW.inj{x j:dW}(h:x.t=j.t):x=j:=dW.Wp _ x j (au _) h
@[simp] theorem dW.fold (a b:Int) (c:List Nat) (j:List dW):T.agg [dE a,dE b,.str c,sl (j.map dW.t)]=(dW.mk a b c j).t:=by rw[dW.nI];rfl
@[simp] theorem dW.eta (x:dW):dW.mk x.op x.n x.name x.l=x:=by cases x;rfl
inductive dQ where
 |mk (op uL:Int) (name arg:List Nat) (index:List dW) (e:dW) (body Nc:List dQ)
instance :Inhabited dQ:=⟨⟨0,0,[],[],[],default,[],[]⟩⟩
def dQ.op:dQ->Int|⟨a,_,_,_,_,_,_,_⟩=>a
def dQ.uL:dQ->Int|⟨_,a,_,_,_,_,_,_⟩=>a
def dQ.name:dQ->List Nat|⟨_,_,a,_,_,_,_,_⟩=>a
def dQ.arg:dQ->List Nat|⟨_,_,_,a,_,_,_,_⟩=>a
def dQ.index:dQ->List dW|⟨_,_,_,_,a,_,_,_⟩=>a
def dQ.e:dQ->dW|⟨_,_,_,_,_,a,_,_⟩=>a
def dQ.body:dQ->List dQ|⟨_,_,_,_,_,_,a,_⟩=>a
def dQ.Nc:dQ->List dQ|⟨_,_,_,_,_,_,_,a⟩=>a
section
variable (a b:Int)(c d:List Nat)(i:List dW)(e:dW)(f g:List dQ)
@[simp] theorem dQ.vM:(dQ.mk a b c d i e f g).op=a:=id rfl
@[simp] theorem dQ.Sz:(dQ.mk a b c d i e f g).uL=b:=id rfl
@[simp] theorem dQ.oS:(dQ.mk a b c d i e f g).name=c:=id rfl
@[simp] theorem dQ.Xv:(dQ.mk a b c d i e f g).arg=d:=id rfl
@[simp] theorem dQ.rZ:(dQ.mk a b c d i e f g).index=i:=id rfl
@[simp] theorem dQ.Ke:(dQ.mk a b c d i e f g).e=e:=id rfl
@[simp] theorem dQ.uU:(dQ.mk a b c d i e f g).body=f:=id rfl
@[simp] theorem dQ.xX:(dQ.mk a b c d i e f g).Nc=g:=id rfl
end
def dQ.ltB{j c:dQ}(h:c∈j.body):SizeOf.sizeOf c<SizeOf.sizeOf j:=by
 cases j with
 |mk a b k d i e f g=>have:=List.sizeOf_lt_of_mem (show c∈f from h);simp;omega
def dQ.ltE{j c:dQ}(h:c∈j.Nc):SizeOf.sizeOf c<SizeOf.sizeOf j:=by
 cases j with
 |mk a b k d i e f g=>have:=List.sizeOf_lt_of_mem (show c∈g from h);simp;omega
mutual
def dQ.t:dQ->T
 |⟨a,b,c,d,i,e,f,g⟩=> .agg [dE a,dE b,.str c,.str d,sl (i.map dW.t),dE e.op,dE e.n,.str e.name,sl (e.l.map dW.t),sl (dQ.ts f),sl (dQ.ts g)]
def dQ.ts:List dQ->List T
 | []=>[]
 |x::j=>x.t::dQ.ts j
end
def dQ.El:∀j:List dQ,dQ.ts j=j.map dQ.t
 | []=>by rw[dQ.ts];rfl
 |x::k=>by rw[dQ.ts,dQ.El k];rfl
def dQ.cs(x:dQ):List T:=[dE x.op,dE x.uL,.str x.name,.str x.arg,sl (x.index.map dW.t),dE x.e.op,dE x.e.n,.str x.e.name,sl (x.e.l.map dW.t),sl (x.body.map dQ.t),sl (x.Nc.map dQ.t)]
def dQ.nI(x:dQ):x.t= .agg x.cs:=by
 cases x;rw[dQ.t,dQ.El,dQ.El];rfl
section
variable (x:dQ)(h:H)(d:Nat)
@[simp] theorem dQ.Tk:x.t.cells=[dE x.op,dE x.uL,.str x.name,.str x.arg,sl (x.index.map dW.t),dE x.e.op,dE x.e.n,.str x.e.name,sl (x.e.l.map dW.t),sl (x.body.map dQ.t),sl (x.Nc.map dQ.t)]:=by rw[dQ.nI];rfl
@[simp] theorem dQ.abB:Lw x.t=11:=by rw[dQ.nI];rfl
@[simp] theorem dQ.Wr:x.t.il=true:=by rw[dQ.nI];rfl
def dQ.Qw:∀(j:Nat) (x:dQ),SizeOf.sizeOf x<=j->cn x.t=x.t:=by
 intro j;induction j with
 |zero=>intro x l;cases x;simp at l
 |succ j m=>
  intro x l;rw[dQ.nI];unfold dQ.cs;simp only[jS,aV,cw,Gt,Gs,Ly];rw[vO λc k=>m c (by have:=dQ.ltB k;omega),vO λc k=>m c (by have:=dQ.ltE k;omega),vO λc _=>dW.WY c,vO λc _=>dW.WY c]
@[simp] theorem dQ.WY:cn x.t=x.t:=dQ.Qw _ x (au _)
@[simp] theorem dQ.abo:qJ h x.t=some x.t:=by rw[dQ.nI];unfold dQ.cs;simp
@[simp] theorem dQ.abr:xi h (d+2) x.t=some x.t:=by rw[dQ.nI];unfold dQ.cs;simp
@[simp] theorem dQ.Vw:jW x.t=true:=by rw[dQ.nI];unfold dQ.cs;simp
def dQ.JN:∀(j:Nat) (x:dQ),SizeOf.sizeOf x<=j->m6 x.t=true:=by
 intro j;induction j with
 |zero=>intro x l;cases x;simp at l
 |succ j m=>
  intro x l;rw[dQ.nI];unfold dQ.cs;simp only[HM,Cw,HL,HK,Lh,EL];rw[ue λc k=>m c (by have:=dQ.ltB k;omega),ue λc k=>m c (by have:=dQ.ltE k;omega),ue λc _=>dW.PP c,ue λc _=>dW.PP c];rfl
@[simp] theorem dQ.PP:m6 x.t=true:=dQ.JN _ x (au _)
end
def dQ.Wp:∀(p:Nat) (x k:dQ),SizeOf.sizeOf x<=p->x.t=k.t->x=k:=by
 intro p;induction p with
 |zero=>intro x k B;cases x;simp at B
 |succ p C=>
  intro x k B h;rw[x.nI,k.nI]at h;unfold dQ.cs at h;simp only[T.agg.injEq,aL,T.int.injEq,T.str.injEq,true_and,and_true]at h;obtain⟨w,y,z,A,n,q,r,s,l,o,m⟩:=h;have n:=qf (λa _ b j=>dW.inj j) (zq n);have l:=qf (λa _ b j=>dW.inj j) (zq l);have o:=qf (λa u b j=>C a b (by have:=dQ.ltB u;omega) j) (zq o);have m:=qf (λa u b j=>C a b (by have:=dQ.ltE u;omega) j) (zq m);obtain⟨a,b,c,d,i,e,f,g⟩:=x;obtain⟨E,F,G,I,L,v,J,K⟩:=k;simp only[dQ.vM,dQ.Sz,dQ.oS,dQ.Xv,dQ.rZ,dQ.Ke,dQ.uU,dQ.xX]at w y z A n q r s l o m;have D:e=v:=by
   obtain⟨M,O,Q,S⟩:=e;obtain⟨N,P,R,U⟩:=v;simp only[dW.vM,dW.FE,dW.oS,dW.FJ]at q r s l;rw[q,r,s,l]
  rw[w,y,z,A,n,D,o,m]
def dQ.inj{x j:dQ}(h:x.t=j.t):x=j:=dQ.Wp _ x j (au _) h
@[simp] theorem dQ.fold (a b:Int) (c e:List Nat) (i:List dW) (m l:Int) (k:List Nat) (j:List dW) (f g:List dQ):T.agg [dE a,dE b,.str c,.str e,sl (i.map dW.t),dE m,dE l,.str k,sl (j.map dW.t),sl (f.map dQ.t),sl (g.map dQ.t)]=(dQ.mk a b c e i ⟨m,l,k,j⟩ f g).t:=by rw[dQ.nI];rfl
@[simp] theorem dQ.eta (x:dQ):dQ.mk x.op x.uL x.name x.arg x.index x.e x.body x.Nc=x:=by cases x;rfl
end
noncomputable section
open Go Go.TI
structure fR where
 name:List Nat
 uL:Int
 locals:List (List Nat)
 body:List dQ
 deriving Inhabited
def fR.cs(a:fR):List T:=[.str a.name,dE a.uL,sl (a.locals.map T.str),sl (a.body.map dQ.t)]
def fR.t(a:fR):T:= .agg a.cs
@[simp] theorem fR.ag (a:fR):rh a.t [.str a.name,dE a.uL,sl (a.locals.map T.str),sl (a.body.map dQ.t)] 4:=by
 unfold fR.t fR.cs;exact⟨rfl,rfl,λ_ _=>rfl,rfl,by simp[jS],λ_=>by simp,λ_ _=>by simp,dA,dA⟩
@[simp] theorem fR.fold (a0:List Nat) (a1:Int) (a2:List (List Nat)) (a3:List dQ):T.agg [.str a0,dE a1,sl (a2.map T.str),sl (a3.map dQ.t)]=fR.t ⟨a0,a1,a2,a3⟩:=rfl
@[simp] theorem fR.eta (a:fR):fR.mk a.name a.uL a.locals a.body=a:=rfl
def fR.inj{a b:fR}(c:a.t=b.t):a=b:=by
 rcases a with⟨_,_,_,_⟩;rcases b with⟨_,_,_,_⟩;simp only[fR.t,fR.cs,T.agg.injEq,aL]at c;obtain⟨d,e,f,g,_⟩:=c;obtain rfl:=mT d;obtain rfl:=ir e;obtain rfl:=iA (λ_ _=>mT) _ _ f;obtain rfl:=iA (λ_ _=>dQ.inj) _ _ g;rfl
structure fK where
 jq:List iy
 dK:List fR
 deriving Inhabited
def fK.cs(a:fK):List T:=[sl (a.jq.map iy.t),sl (a.dK.map fR.t)]
def fK.t(a:fK):T:= .agg a.cs
@[simp] theorem fK.ag (a:fK):rh a.t [sl (a.jq.map iy.t),sl (a.dK.map fR.t)] 2:=by
 unfold fK.t fK.cs;exact⟨rfl,rfl,λ_ _=>rfl,rfl,by simp[jS],λ_=>by simp,λ_ _=>by simp,dA,dA⟩
@[simp] theorem fK.fold (a0:List iy) (a1:List fR):T.agg [sl (a0.map iy.t),sl (a1.map fR.t)]=fK.t ⟨a0,a1⟩:=rfl
@[simp] theorem fK.eta (a:fK):fK.mk a.jq a.dK=a:=rfl
def fK.inj{a b:fK}(c:a.t=b.t):a=b:=by
 rcases a with⟨_,_⟩;rcases b with⟨_,_⟩;simp only[fK.t,fK.cs,T.agg.injEq,aL]at c;obtain⟨d,e,_⟩:=c;obtain rfl:=iA (λ_ _=>iy.inj) _ _ d;obtain rfl:=iA (λ_ _=>fR.inj) _ _ e;rfl
mutual
def dW.w:dW->Nat
 |⟨_,_,_,a⟩=>1+dW.ws a
def dW.ws:List dW->Nat
 | []=>0
 |x::a=>x.w+dW.ws a
end
def dW.lF(a:dW):a.w=1+dW.ws a.l:=by cases a;rw[dW.w];rfl
def dW.iQ:dW.ws []=0:=by rw[dW.ws]
def dW.j7(b:dW)(a:List dW):dW.ws (b::a)=b.w+dW.ws a:=by rw[dW.ws]
def dW.vn{b:dW}{a:List dW}(h:b∈a):b.w<=dW.ws a:=by
 induction a with
 |nil=>simp at h
 |cons d a c=>
  rw[dW.j7];rcases List.mem_cons.1 h with rfl|h
  ·omega
  ·have:=c h;omega
def dW.uN{l:List dW}:l.length<=dW.ws l:=by
 induction l with
 |nil=>simp
 |cons a l b=>rw[dW.j7,bj,a.lF];omega
mutual
def dQ.w:dQ->Nat
 |⟨_,_,_,_,c,b,a,d⟩=>4+dW.ws c+b.w+dQ.ws a+dQ.ws d
def dQ.ws:List dQ->Nat
 | []=>0
 |x::a=>x.w+dQ.ws a
end
def dQ.lF(a:dQ):a.w=4+dW.ws a.index+a.e.w+dQ.ws a.body+dQ.ws a.Nc:=by cases a;rw[dQ.w];rfl
def dQ.iQ:dQ.ws []=0:=by rw[dQ.ws]
def dQ.j7(b:dQ)(a:List dQ):dQ.ws (b::a)=b.w+dQ.ws a:=by rw[dQ.ws]
def dQ.IS(a b:List dQ):dQ.ws (a++b)=dQ.ws a+dQ.ws b:=by
 induction a with
 |nil=>rw[cD,dQ.iQ];omega
 |cons d a c=>rw[cG,dQ.j7,dQ.j7,c];omega
def dQ.vn{b:dQ}{a:List dQ}(h:b∈a):b.w<=dQ.ws a:=by
 induction a with
 |nil=>simp at h
 |cons d a c=>
  rw[dQ.j7];rcases List.mem_cons.1 h with rfl|h
  ·omega
  ·have:=c h;omega
def dQ.uN{l:List dQ}:l.length<=dQ.ws l:=by
 induction l with
 |nil=>simp
 |cons a l b=>rw[dQ.j7,bj,a.lF];omega
inductive ME:dW->Prop
 |num (n:Int):ME ⟨1,n,[],[]⟩
 |nm (s:List Nat):ME ⟨2,0,s,[]⟩
 |ix {a:dW} (h:ME a):ME ⟨3,0,[113],[a]⟩
 |bin {k:Int} {a b:dW} (hk:6<=k) (ha:ME a) (hb:ME b):ME ⟨k,0,[],[a,b]⟩
inductive MS:dQ->Prop
 |mk {s:dQ} (c:9<=s.op/\s.op<=11->s.name=[99]) (q:s.op=1->s.index≠ []->s.name=[113]) (i:∀x∈s.index,ME x) (e:s.op=1\/s.op=2\/s.op=3\/s.op=14->ME s.e) (b:∀c∈s.body,MS c) (l:∀c∈s.Nc,MS c):MS s
def MS.cond{a:dQ}(b:MS a):9<=a.op/\a.op<=11->a.name=[99]:=by cases b;assumption
def MS.arr{a:dQ}(b:MS a):a.op=1->a.index≠ []->a.name=[113]:=by cases b;assumption
def MS.ind{a:dQ}(b:MS a):∀c∈a.index,ME c:=by cases b;assumption
def MS.ex{a:dQ}(b:MS a):a.op=1\/a.op=2\/a.op=3\/a.op=14->ME a.e:=by cases b;assumption
def MS.bd{a:dQ}(c:MS a):∀b∈a.body,MS b:=by cases c;assumption
def MS.el{a:dQ}(c:MS a):∀b∈a.Nc,MS b:=by cases c;assumption
def dQ.Fa(b:List dQ){a:Nat}(c:a<b.length):dQ.ws (b.take (a+1))=dQ.ws (b.take a)+b[a].w:=by
 rw[aZ c,dQ.IS,dQ.j7,dQ.iQ];rfl
def dQ.xw(a:List dQ)(b:Nat):dQ.ws (a.take b)<=dQ.ws a:=by
 conv=>rhs;rw[<-cR b a]
 rw[dQ.IS];omega
def allI{b:Type}(a:Nat->b->Bool):Nat->List b->Bool
 |_,[]=>true
 |k,d::c=>a k d&&allI a (k+1) c
def uM(a:Nat):Bool:=decide (97<=a/\a<=122)||decide (65<=a/\a<=90)
def C5(a:Nat):Bool:=decide (48<=a/\a<=57)
def vV(a:Nat):Bool:=uM a||C5 a||decide (a=95)
def nq:List (List Nat):=[[118,97,114],[118,111,108,97,116,105,108,101],[109,117,116,101,120],[114,119,108,111,99,107],[99,111,110,100],[102,117,116,117,114,101],[116,104,114,101,97,100],[105,102],[101,108,115,101],[119,104,105,108,101],[108,111,99,107],[114,101,97,100],[119,114,105,116,101],[116,114,97,110,115,97,99,116,105,111,110],[97,116,111,109,105,99],[119,97,105,116],[110,111,116,105,102,121],[110,111,116,105,102,121,97,108,108],[115,112,97,119,110],[106,111,105,110],[115,101,116],[103,101,116]]
def uh(a:List Nat):Bool:=decide (a∈nq)
def Li(a:List Nat):Bool:=match a with|c::_=>uM c| []=>false
def ud(a:List Nat):Bool:=decide (1<=a.length)&&decide (a.length<=12)&& !uh a&&Li a&&a.all vV
def vN(a:List (List Nat)):Bool:=a.all ud&&decide a.Nodup
def KS(a:ij)(c:List ij):Bool:=allI (λb d=>decide (d={a with index:=b,tJ:=false})) 0 (c.take a.size.toNat)
def jb:List ij->aa (List (List Nat))
 | []=>some []
 |c::a=>if c.size=0 then(if c.index=0 then(jb a).map (c.name:: ·)else none)
  else if d:c.size<1\/4<c.size\/(a.length+1:Int)<c.size then none
  else if KS c (c::a)=true then(jb ((c::a).drop c.size.toNat)).map (c.name:: ·)else none
 termination_by b=>b.length
 decreasing_by
  ·simp
  ·simp;omega
def lP(b:Nat):Int->Int->List iH->Bool
 |_,_,[]=>true
 |t,d,a::c=>if a.dT<t\/(b:Int)<=a.dT then false else
  if t<a.dT then(if a.stmt=0 then lP b a.dT 1 c else false)else(if a.stmt=d then lP b t (d+1) c else false)
def uf(c:d8)(a:Int)(rw:Bool):Bool:=match wV c.em a with|some b=>b.rW==rw|none=>false
def sI(a:d8):Bool:=decide (a.cells.length<=12)&&decide (a.em.length<=4)&&decide (a.gW.length<=2)&&decide (a.eg.length<=2)&&decide (a.iG.length<=60)&&decide (1<=a.dK.length)&&decide (a.dK.length<=4)
def qX(a:d8)(b:List (List Nat)):List (List Nat):=b++a.em.map (·.name)++a.gW.map (·.name)++a.eg++a.dK
def BK(a:d8):Bool:=match jb a.cells with|none=>false|some b=>vN (qX a b)
def j3(a:d8):Bool:=sI a&&BK a&&(a.gW.all λb=>uf a b.kJ false)&&lP a.dK.length 0 0 a.iG
def wm(c:d8)(b:Int):Bool:=match wV c.cells b with|some a=>decide (a.size=0)|none=>false
def AA(d:d8)(b c:Int):Bool:=match wV d.cells b with|some a=>decide (a.index=0)&& !decide (a.size=0)&&decide (a.size=c)|none=>false
def iV(d:fT):List Int:=
 if d.op=1\/d.op=6\/d.op=10\/d.op=27 then [d.a]else if d.op=2\/d.op=3 then [d.a,d.b]else if d.op=4 then [d.a,d.b,d.c]
 else if d.op=7 then [d.a,d.c]else if d.op=8\/d.op=26 then [d.b]else if d.op=9 then [d.b,d.c]else []
def mt(d:d8)(c:fT):Bool:=
 if c.op=6 then wm d c.b else if c.op=8 then wm d c.a else if c.op=7 then AA d c.b c.n else if c.op=9 then AA d c.a c.n
 else if c.op=11\/c.op=12 then uf d c.a false else if c.op=13\/c.op=14\/c.op=15\/c.op=16 then uf d c.a true
 else if c.op=21\/c.op=22\/c.op=23 then je c.a d.gW.length else if c.op=24\/c.op=25 then je c.a d.dK.length
 else if c.op=26 then je c.a d.eg.length else if c.op=27 then je c.b d.eg.length
 else if c.op=3 then decide (c.n=4\/c.n=5)else if c.op=4 then decide (6<=c.n/\c.n<=18)else true
def wj(a:Int):Bool:=decide (1<=a/\a<=5)
def J5(b:fT)(c:Int):Int:=if b.op=5 then b.a else c+1
def CB(c:List fT):Nat->Int->Bool
 |0,_=>false
 |m+1,b=>match wV c b with
  |none=>false
  |some a=>if wj a.op=true then CB c m (J5 a b)else true
end
noncomputable section
open Go Go.TI
attribute [-simp] List.map_take List.map_drop List.map_append
def JX(a b:Int):Bool:=decide (0<=a/\a<b)
@[simp] theorem aa8 (a:Int) (b:Nat):JX a (b:Int)=je a b:=id rfl
def PY{a b:Int}:JX a b=true↔0<=a/\a<b:=by unfold JX;simp
def Un(d:Unit):hU:=⟨Int×Int,λa=>[dE a.1,dE a.2],λa=>True,λa=> .bool (JX a.1 a.2),λa c b=>by simp at b;rw[b.1,b.2]⟩
def V1:(Un ()).Ok Tryz.prog cx 162:=by
 refine iv (tb:=⟨pt [],ht []⟩) fa eQ (iR 19 [] Tryz.func162) (λf=>1) (by simp[Un]) (by simp[Un,Tryz.f162]) ?_;rintro⟨e,g⟩ _ h a;simp[Un]at a|-;obtain⟨b,c⟩:=a;by_cases d:0<=e<;>simp[Tryz.f162,b,c,d,JX]
def u7{c:fJ}(ht:c.p 162=some (Un ()))(a b:Int):rl Tryz.prog cx c 162 [dE a,dE b]=some (.bool (JX a b)):=im ht V1 (a,b) trivial
def uA:hU:=⟨Int,λa=>[dE a],λa=>True,λa=> .bool (wj a),λa c b=>by simp at b;rw[b]⟩
def Jx:uA.Ok Tryz.prog cx 206:=by
 refine iv (tb:=⟨pt [],ht []⟩) fa eQ (iR 5 [] Tryz.func206) (λd=>1) (by simp[uA]) (by simp[uA,Tryz.f206]) ?_;rintro(c:Int) _ e a;simp[uA]at a|-;by_cases b:1<=c<;>simp[Tryz.f206,a,b,wj]
def wN{b:fJ}(ht:b.p 206=some uA)(a:Int):rl Tryz.prog cx b 206 [dE a]=some (.bool (wj a)):=im ht Jx a trivial
def uB:hU:=⟨Nat,λa=>[.int .u8 a],λa=>True,λa=> .bool (uM a),λa b c=>by simp at c;rw[show a=b by omega]⟩
def zK:hU:=⟨Nat,λa=>[.int .u8 a],λa=>True,λa=> .bool (C5 a),λa b c=>by simp at c;rw[show a=b by omega]⟩
def zI:hU:=⟨Nat,λa=>[.int .u8 a],λa=>True,λa=> .bool (vV a),λa b c=>by simp at c;rw[show a=b by omega]⟩
def Pe:uB.Ok Tryz.prog cx 157:=by
 refine iv (tb:=⟨pt [],ht []⟩) fa eQ (iR 5 [] Tryz.func157) (λg=>1) (by simp[uB]) (by simp[uB,Tryz.f157]) ?_;rintro(a:Nat) _ h b;simp[uB]at b|-;by_cases c:97<=a<;>by_cases d:a<=122<;>by_cases e:65<=a<;>by_cases f:a<=90<;>simp[Tryz.f157,b,uM,c,d,e,f,show(97:Int)<=(a:Int)↔97<=a by omega,show(a:Int)<=122↔a<=122 by omega,show(65:Int)<=(a:Int)↔65<=a by omega,show(a:Int)<=90↔a<=90 by omega]
def BD{b:fJ}(ht:b.p 157=some uB)(a:Nat):rl Tryz.prog cx b 157 [.int .u8 a]=some (.bool (uM a)):=im ht Pe a trivial
def Sk:zK.Ok Tryz.prog cx 204:=by
 refine iv (tb:=⟨pt [],ht []⟩) fa eQ (iR 5 [] Tryz.func204) (λe=>1) (by simp[zK]) (by simp[zK,Tryz.f204]) ?_;rintro(a:Nat) _ f b;simp[zK]at b|-;by_cases c:48<=a<;>by_cases d:a<=57<;>simp[Tryz.f204,b,C5,c,d,show(48:Int)<=(a:Int)↔48<=a by omega,show(a:Int)<=57↔a<=57 by omega]
def Xi{b:fJ}(ht:b.p 204=some zK)(a:Nat):rl Tryz.prog cx b 204 [.int .u8 a]=some (.bool (C5 a)):=im ht Sk a trivial
def Sg:zI.Ok Tryz.prog cx 159:=by
 refine iv (tb:=⟨pt [(157,uB),(204,zK)],ht []⟩) fa eQ (iR 5 [] Tryz.func159) (λe=>1) (by simp[zI]) (by simp[zI,Tryz.f159]) ?_;rintro(a:Nat) _ f b;simp[zI]at b|-;cases c:uM a<;>cases d:C5 a<;>simp[Tryz.f159,b,vV,BD,Xi,c,d,show(a:Int)=95↔a=95 by omega]
def QL{b:fJ}(ht:b.p 159=some zI)(a:Nat):rl Tryz.prog cx b 159 [.int .u8 a]=some (.bool (vV a)):=im ht Sg a trivial
def tU:hU:=⟨d8×Int×Int,λa=>[a.1.t,dE a.2.1,dE a.2.2],λa=>True,λa=> .bool (AA a.1 a.2.1 a.2.2),λa c b=>by simp at b;rw[d8.inj b.1,b.2.1,b.2.2]⟩
def MN:tU.Ok Tryz.prog cx 205:=by
 refine iv (tb:=⟨pt [(162,Un ())],ht []⟩) fa eQ (iR 79 [] Tryz.func205) (λl=>1) (by simp[tU]) (by simp[tU,Tryz.f205]) ?_;rintro⟨k,h,m⟩ _ n c;simp[tU]at c|-;obtain⟨a,b,e⟩:=c;cases hl:je h k.cells.length with
 |true=>
  obtain⟨d,f,g⟩:=iI hl;by_cases i:d.index=0<;>by_cases j:d.size=0<;>simp[Tryz.f205,a,b,e,u7,hl,f,g,AA,eK (fq.1 hl).1,i,j]
 |false=>simp[Tryz.f205,a,b,u7,hl,rf hl,AA]
def QP{d:fJ}(ht:d.p 205=some tU)(c:d8)(a b:Int):rl Tryz.prog cx d 205 [c.t,dE a,dE b]=some (.bool (AA c a b)):=im ht MN (c,a,b) trivial
def mY:hU:=⟨fT,λa=>[a.t],λa=>True,λa=>sl ((iV a).map (T.int .i64)),λa c b=>by simp at b;rw[fT.inj b]⟩
def DF:mY.Ok Tryz.prog cx 97:=by
 refine iv (tb:=⟨pt [],ht []⟩) fa eQ (iR 8934607822903 [] Tryz.func97) (λc=>1) (by simp[mY]) (by simp[mY,Tryz.f97]) ?_;rintro⟨a,c,o,p,q,r⟩ _ s b;simp[mY]at b|-;rcases(by omega:a=1\/a=6\/a=10\/a=27\/a=2\/a=3\/a=4\/a=7\/a=8\/a=26\/a=9\/(¬a=1/\¬a=6/\¬a=10/\¬a=27/\¬a=2/\¬a=3/\¬a=4/\¬a=7/\¬a=8/\¬a=26/\¬a=9))with rfl|rfl|rfl|rfl|rfl|rfl|rfl|rfl|rfl|rfl|rfl|⟨d,g,h,i,j,k,l,m,n,e,f⟩
 rotate_right
 ·simp[Tryz.f97,b,iV,d,g,h,i,j,k,l,m,n,e,f]
 all_goals simp [Tryz.f97,b,iV,gH,sl]
def uS{b:fJ}(ht:b.p 97=some mY)(a:fT):rl Tryz.prog cx b 97 [a.t]=some (sl ((iV a).map (T.int .i64))):=im ht DF a trivial
def tR:hU:=⟨d8×fT,λa=>[a.1.t,a.2.t],λa=>True,λa=> .bool (mt a.1 a.2),λa c b=>by simp at b;rw[d8.inj b.1,fT.inj b.2]⟩
def MD:tR.Ok Tryz.prog cx 160:=by
 refine iv (tb:=⟨pt [(162,Un ()),(205,tU)],ht []⟩) fa eQ (iR 11161304336780981658631819976322344575566047 [] Tryz.func160) (λf=>1) (by simp[tR]) (by simp[tR,Tryz.f160]) ?_;rintro⟨h,⟨a,f,l,F,j,G⟩⟩ _ H i;simp[tR]at i|-;obtain⟨b,c⟩:=i;rcases(by omega:a=3\/a=4\/a=7\/a=9\/a=21\/a=22\/a=23\/a=24\/a=25\/a=26\/a=27\/a=6\/a=8\/a=11\/a=12\/a=13\/a=14\/a=15\/a=16\/(¬a=3/\¬a=4/\¬a=6/\¬a=8/\¬a=7/\¬a=9/\¬a=11/\¬a=12/\¬a=13/\¬a=14/\¬a=15/\¬a=16/\¬a=21/\¬a=22/\¬a=23/\¬a=24/\¬a=25/\¬a=26/\¬a=27))with rfl|rfl|rfl|rfl|rfl|rfl|rfl|rfl|rfl|rfl|rfl|rfl|rfl|rfl|rfl|rfl|rfl|rfl|rfl|⟨m,x,A,B,C,D,E,n,o,p,q,r,s,t,u,v,w,y,z⟩
 rotate_right
 ·simp[Tryz.f160,b,c,mt,m,x,A,B,C,D,E,n,o,p,q,r,s,t,u,v,w,y,z]
 ·by_cases g:j=4<;>simp[Tryz.f160,b,c,mt,g]
 ·by_cases g:6<=j<;>simp[Tryz.f160,b,c,mt,g]
 iterate 9 ·simp[Tryz.f160,b,c,mt,u7,QP]
 ·cases hl:je l h.cells.length with
  |true=>
   obtain⟨k,d,e⟩:=iI hl;simp[Tryz.f160,b,c,mt,u7,hl,d,e,wm,eK (fq.1 hl).1]
  |false=>simp[Tryz.f160,b,c,mt,u7,hl,rf hl,wm]
 ·cases hl:je f h.cells.length with
  |true=>
   obtain⟨k,d,e⟩:=iI hl;simp[Tryz.f160,b,c,mt,u7,hl,d,e,wm,eK (fq.1 hl).1]
  |false=>simp[Tryz.f160,b,c,mt,u7,hl,rf hl,wm]
 all_goals
  cases hl:je f h.em.length with
  |true=>
   obtain⟨k,d,e⟩:=iI hl;simp[Tryz.f160,b,c,mt,u7,hl,d,e,uf,eK (fq.1 hl).1]
  |false=>simp[Tryz.f160,b,c,mt,u7,hl,rf hl,uf]
def QF{c:fJ}(ht:c.p 160=some tR)(b:d8)(a:fT):rl Tryz.prog cx c 160 [b.t,a.t]=some (.bool (mt b a)):=im ht MD (b,a) trivial
def sj:List (List Nat)->List Nat->Nat->Int
 | [],_,_=>-1
 |x::c,b,a=>if x=b then(a:Int)else sj c b (a+1)
def GH:∀(a:List (List Nat)) (b:List Nat) (d:Nat),(0<=sj a b d)=(b∈a):=by
 intro a;induction a with
 |nil=>intro b d;simp[sj]
 |cons g a f=>
  intro b d;rw[sj];by_cases c:g=b
  ·subst c;simp
  ·rw[ao c,f];simp;intro e;exact absurd e.symm c
def Bp:hU:=⟨List (List Nat)×List Nat,λa=>[sl (a.1.map T.str),.str a.2],λa=>a.1.length<=1099511627776,λa=> dE (sj a.1 a.2 0),λa c b=>by
 simp at b;rw[jD dA b.1,b.2]⟩
def ad0:Bp.Ok Tryz.prog cx 110:=by
 refine iv (tb:=⟨pt [],ht []⟩) fa eQ (iR 131635 [] Tryz.func110) (λm=>m.1.length+1) (by simp[Bp]) (by simp[Bp,Tryz.f110]) ?_;rintro⟨f,i⟩ hl c l;simp[Bp]at hl l|-;obtain⟨b,d⟩:=l;simp[Tryz.f110];refine fy f.length dz (λe c j=>j=hE/\dH c 0 (sl (f.map T.str))/\dH c 1 (.str i)/\dH c 5 (dE e)/\sj (f.drop e) i e=sj f i 0) ?_ ?_ dz (by simp[b,d])
 ·rintro e c j k n ⟨rfl,b,d,g,a⟩;rw[aJ k,sj]at a;by_cases h:f[e]=i
  ·rw[aq h]at a;simp[b,d,g,k,h,<-a]
  ·rw[ao h]at a;simp[b,d,g,k,h,n,a]
 ·rintro c j ⟨rfl,b,d,g,a⟩;simp[sj]at a;simp[b,g,<-a]
def NI{c:fJ}(ht:c.p 110=some Bp)(a:List (List Nat))(b:List Nat)(hl:a.length<=1099511627776):rl Tryz.prog cx c 110 [sl (a.map T.str),.str b]=some (dE (sj a b 0)):=im ht ad0 (a,b) hl
def rk:hU:=⟨Unit,λa=>[],λa=>True,λa=>sl (nq.map T.str),λa b c=>rfl⟩
def JA:rk.Ok Tryz.prog cx 203:=by
 refine iv (tb:=⟨pt [],ht []⟩) fa eQ (iR 1 [] Tryz.func203) (λb=>1) (by simp[rk]) (by simp[rk,Tryz.f203]) ?_;rintro _ _ c a;simp[rk]at a|-;simp[Tryz.f203,gH];rfl
def Ni{a:fJ}(ht:a.p 203=some rk):rl Tryz.prog cx a 203 []=some (sl (nq.map T.str)):=im ht JA () trivial
def PV:nq.length=22:=rfl
def tT:hU:=⟨List Nat,λa=>[.str a],λa=>True,λa=> .bool (uh a),λa c b=>by simp at b;rw[b]⟩
def Hw:tT.Ok Tryz.prog cx 158:=by
 refine iv (tb:=⟨pt [(203,rk)],ht []⟩) fa eQ (iR 131613 [] Tryz.func158) (λn=>23) (by simp[tT]) (by simp[tT,Tryz.f158]) ?_;rintro(g:List Nat) _ b k;simp[tT]at k|-;simp[Tryz.f158,Ni];refine fy nq.length (by rw[PV];omega) (λf b h=>h=hE/\dH b 0 (.str g)/\dH b 3 (sl (nq.map T.str))/\dH b 4 (dE f)/\(g∈nq.drop f↔g∈nq)) ?_ ?_ (by rw[PV];omega) (by simp[k])
 ·rintro f b h j l ⟨rfl,i,c,d,a⟩;have m:=aJ j;rw[m]at a;by_cases e:nq[f]=g
  ·simp[i,c,d,j,e,uh];rw[<-a,e];simp
  ·simp[i,c,d,j,e,l];refine⟨λh=>a.1 (cC _ h),λh=> ?_⟩;rcases List.mem_cons.1 (a.2 h)with h|h
   ·exact absurd h.symm e
   ·exact h
 ·rintro b h ⟨rfl,i,c,d,a⟩;simp[c,d,uh];simpa using a
def Dd{b:fJ}(ht:b.p 158=some tT)(a:List Nat):rl Tryz.prog cx b 158 [.str a]=some (.bool (uh a)):=im ht Hw a trivial
def w9:hU:=⟨List Nat,λa=>[.str a],λa=>True,λa=> .bool (ud a),λa c b=>by simp at b;rw[b]⟩
def O8:w9.Ok Tryz.prog cx 109:=by
 refine iv (tb:=⟨pt [(158,tT),(157,uB),(159,zI)],ht []⟩) fa eQ (iR 4330618893 [] Tryz.func109) (λv=>13) (by simp[w9]) (by simp[w9,Tryz.f109]) ?_;rintro(a:List Nat) _ f d;simp[w9]at d|-;cases a with
 |nil=>simp[Tryz.f109,d,ud]
 |cons b a=>
  have h:¬(a.length:Int)+1<1:=dz;by_cases w:a.length+1<=12
  ·have e:¬(12:Int)<(a.length:Int)+1:=dz;cases j:uM b with
   |false=>simp[Tryz.f109,d,h,e,j,BD,ud,Li]
   |true=>
    cases o:uh (b::a)with
    |true=>simp[Tryz.f109,d,h,e,j,o,BD,Dd,ud,Li]
    |false=>
     have q:ud (b::a)=(b::a).all vV:=by simp[ud,o,Li,j];intro _ _;omega
     obtain⟨m,s⟩:∃m,m=(b::a).all vV:=⟨_,rfl⟩;rw[q,<-s];simp[Tryz.f109,d,h,e,j,o,BD,Dd];refine fy (b::a).length dB (λl f n=>n=hE/\dH f 0 (.str (b::a))/\dH f 3 (dE l)/\((b::a).drop l).all vV=m) ?_ ?_ dB (by rw[s];simp[d])
     ·rintro l f n p u ⟨rfl,g,i,c⟩;rw[aJ p,cE]at c;generalize t:(b::a)=r at*
      cases k:vV r[l]with
      |true=>rw[k,bP]at c;simp[g,i,p,u,QL,k,c]
      |false=>rw[k,Bool.false_and]at c;simp[g,i,p,QL,k,<-c]
     ·rintro f n ⟨rfl,g,i,c⟩;generalize t:(b::a)=r at*
      rw[du]at c;simp[g,i,<-c]
  ·have e:(12:Int)<(a.length:Int)+1:=dz;have q:ud (b::a)=false:=by simp[ud];omega
   simp[Tryz.f109,d,h,e,q]
def pR{b:fJ}(ht:b.p 109=some w9)(a:List Nat):rl Tryz.prog cx b 109 [.str a]=some (.bool (ud a)):=im ht O8 a trivial
end
noncomputable section
open Go Go.TI
attribute [-simp] List.map_take List.map_drop List.map_append fG fg ei Bool.not_or Bool.not_and
attribute [simp] fF fh
def okB(a:List Int):Prop:=a.length<=140737488351232/\∀x∈a,0<=x/\x<256
def Tp(b:List Int)(c:Nat)(d:H):Prop:=∃e a,d.get c=some (dG 2 e [.agg [sl (b.map (T.int .u8)),dE a]])/\0<=a
structure zi where
 (L:List Int) (b:Nat) (n:Int)
def uF(a:zi)(d:List T)(c:H):Prop:=d=[.ptr a.b 0 0 0,dE a.n]/\Tp a.L a.b c/\ig 0 c/\1<=a.n/\a.n<=100/\okB a.L
def rQ(a:zi)(g:List T)(e:H)(f:T)(d:H):Prop:=∃c,f= dE c/\0<=c/\c<a.n/\Tp a.L a.b d/\Sm a.b e d
def _root_.Go.TI.Sm.out{b:Nat}{h c:H}(a:Sm b (TI.hr h) c):Sm b h (lO h c):=⟨a.ok.out h,a.size,λd e=>by rw[fO,a.get d e,gh]⟩
def DD{k:ak}{a b:Int}(d:¬b=0):binop .rem (.int k a) (.int k b)=some (.int k (a.tmod b)):=by
 have c:Rz b 0=false:=by rw[xW];simp[d]
 unfold binop;simp[wS,c]
def O7:(jw zi uF rQ).Ok Tryz.prog cx 63:=by
 refine jo (tb:=⟨pt [],ht []⟩) fa eQ (iR 262163 [] Tryz.func63) (λ_ _=>5) (λE a h z=>by obtain⟨rfl,_⟩:=z;simp[Tryz.f63]) ?_;rintro⟨c,f,k⟩ _ h ⟨rfl,⟨g,b,e,q⟩,r,w,y,s,n⟩ F o;simp only at e q w y s n;simp at o;obtain⟨i,m⟩:=o;simp[Tryz.f63,i,m,e];refine ee (λj=> ?_) (λj=> ?_)
 ·simp[j];exact⟨0,rfl,Int.le_refl _,dC,⟨g,b,by rw[fO,gh];exact e,q⟩,Sm.out (Sm.refl r.hr)⟩
 ·simp at j;have B:IntKind.i64.wrap (b+1)=b+1:=by rw[<-jF];exact jI dz dz
  have C:IntKind.i64.wrap b=b:=by rw[<-jF];exact jI dz dz
  have A:Sm f (hr h) _:=(Sm.refl r.hr).put (x:=(dG 2 g [.agg [sl (c.map (T.int .u8)),dE b]])) (by rw[gh];exact e) (dG 2 (g+1) [.agg [sl (c.map (T.int .u8)),dE (b+1)]]);have l:(dY (hr h) f (dG 2 (g+1) [.agg [sl (c.map (T.int .u8)),dE (b+1)]])).get f=_:=(dP (h:=hr h) (by rw[gh];exact e) _ f).trans (aq rfl);simp[i,e,ou,dZ,B];generalize dY (hr h) f _=D at*
  obtain⟨d,rfl⟩:∃d:Nat,b=d:=⟨b.toNat,dz⟩;have p:d<c.length:=dz;have t:=n c[d] (aC p);have u: -9223372036854775808<=c[d]:=dz;have v:c[d]<9223372036854775808:=dz;have t0:=Int.tmod_nonneg k t.1;have t1:=Int.tmod_lt_of_pos c[d] (show 0<k by omega);simp[i,m,l,uu,C,p,u,v,DD (a:=c[d]) (show¬k=0 by omega)];exact⟨_,rfl,t0,t1,⟨_,_,by rw[fO];exact l,dz⟩,Sm.out A⟩
def Hf:hU:=⟨Int,λa=>[dE a],λ_=>True,λa=>(dW.mk 1 a [] []).t,λa c b=>by simp at b;rw[b]⟩
def aas:Hf.Ok Tryz.prog cx 120:=by
 refine iv (tb:=⟨pt [],ht []⟩) fa eQ (iR 5 [] Tryz.func120) (λ_=>5) (by simp[Hf]) (by simp[Hf,Tryz.f120]) ?_;rintro a _ c b;simp[Hf]at a b|-;simp[Tryz.f120,b];simpa using dW.fold 1 a [] []
def Tq{b:fJ}(ht:b.p 120=some Hf)(a:Int):rl Tryz.prog cx b 120 [dE a]=some (dW.mk 1 a [] []).t:=im ht aas a trivial
def Je:hU:=⟨List Nat,λa=>[.str a],λ_=>True,λa=>(dW.mk 2 0 a []).t,λa c b=>by simp at b;rw[b]⟩
def aat:Je.Ok Tryz.prog cx 211:=by
 refine iv (tb:=⟨pt [],ht []⟩) fa eQ (iR 5 [] Tryz.func211) (λ_=>5) (by simp[Je]) (by simp[Je,Tryz.f211]) ?_;rintro a _ c b;simp[Je]at a b|-;simp[Tryz.f211,b];simpa using dW.fold 2 0 a []
def Tr{b:fJ}(ht:b.p 211=some Je)(a:List Nat):rl Tryz.prog cx b 211 [.str a]=some (dW.mk 2 0 a []).t:=im ht aat a trivial
def Jf:hU:=⟨Int×dW×dW,λa=>[dE a.1,a.2.1.t,a.2.2.t],λ_=>True,λa=>(dW.mk a.1 0 [] [a.2.1,a.2.2]).t,λa c b=>by
 simp at b;rw[b.1,dW.inj b.2.1,dW.inj b.2.2]⟩
def aaw:Jf.Ok Tryz.prog cx 210:=by
 refine iv (tb:=⟨pt [],ht []⟩) fa eQ (iR 119 [] Tryz.func210) (λ_=>5) (by simp[Jf]) (by simp[Jf,Tryz.f210]) ?_;rintro⟨d,b,c⟩ _ e a;simp[Jf]at a|-;simp[Tryz.f210,a,gH];simpa using dW.fold d 0 [] [b,c]
def Xj{d:fJ}(ht:d.p 210=some Jf)(c:Int)(a b:dW):rl Tryz.prog cx d 210 [dE c,a.t,b.t]=some (dW.mk c 0 [] [a,b]).t:=im ht aaw (c,a,b) trivial
def Jh:hU:=⟨List Nat×dW,λa=>[.str a.1,a.2.t],λ_=>True,λa=>(dQ.mk 1 0 a.1 [] [] a.2 [] []).t,λa c b=>by
 simp at b;rw[b.1,dW.inj b.2]⟩
def aax:Jh.Ok Tryz.prog cx 119:=by
 refine iv (tb:=⟨pt [],ht []⟩) fa eQ (iR 27 [] Tryz.func119) (λ_=>5) (by simp[Jh]) (by simp[Jh,Tryz.f119]) ?_;rintro⟨b,c⟩ _ d a;simp[Jh]at a|-;simp[Tryz.f119,a];rw[dQ.nI];rfl
def vi:List iy:=[⟨1,0,[120],0,0,[]⟩,⟨1,0,[121],0,1,[]⟩,⟨2,0,[118],0,0,[]⟩,⟨1,0,[113],2,0,[]⟩,⟨3,0,[109],0,0,[]⟩,⟨3,0,[110],0,0,[]⟩,⟨4,0,[114],0,0,[]⟩,⟨5,0,[99],0,0,[109]⟩,⟨6,0,[102],0,0,[]⟩]
def zL:hU:=⟨Unit,λ_=>[],λ_=>True,λ_=>sl (vi.map iy.t),λ_ _ _=>rfl⟩
def Sl:zL.Ok Tryz.prog cx 117:=by
 refine iv (tb:=⟨pt [],ht []⟩) fa eQ (iR 1 [] Tryz.func117) (λ_=>5) (by simp[zL]) (by simp[zL,Tryz.f117]) ?_;rintro _ _ b a;simp[zL]at a|-;simp[Tryz.f117,gH,vi]
def QO{a:fJ}(ht:a.p 117=some zL):rl Tryz.prog cx a 117 []=some (sl (vi.map iy.t)):=im ht Sl () trivial
def sw{c:fJ}(ht:c.p 119=some Jh)(a:List Nat)(b:dW):rl Tryz.prog cx c 119 [.str a,b.t]=some (dQ.mk 1 0 a [] [] b [] []).t:=im ht aax (a,b) trivial
def sr(b:Nat)(e left:Int)(set f a d:Bool)(c:T):List T:=[.ptr b 0 0 0,dE e,dE left,.bool set,.bool f,.bool a,.bool d,c]
structure Mk(L:List Int)(n:Nat)(h:H)(m b:Nat):Prop where
 ok:ig 0 h
 fp:∀c,Fp h m c->c<h.size
 tp:Tp L b h
 ex:∃ver th left set tx at' lp hv,∃hs:List (List Nat),h.get m=some (dG 8 ver [.agg (sr b th left set tx at' lp hv)])/\Gr h hv 1 (hs.map T.str)/\hs.length=n
def Mk.ne{e:List Int}{h:Nat}{g:H}{d b:Nat}(c:Mk e h g d b):d≠b:=λi=>by
 obtain⟨k,j,f,_⟩:=c.tp;obtain⟨_,_,_,_,_,_,_,_,_,a,_⟩:=c.ex;rw[i,f]at a;simp at a
def Mk.lt{c:List Int}{f:Nat}{b:H}{a d:Nat}(e:Mk c f b a d):a<b.size:=e.fp a (.inl rfl)
def Mk.fpb{d:List Int}{g:Nat}{b:H}{c a:Nat}(f:Mk d g b c a):Fp b c a:=by
 obtain⟨_,_,_,_,_,_,_,_,_,e,_⟩:=f.ex;exact .inr ⟨_,e,_,by simp[fw,T.cells,sr];exact .inl rfl,rfl⟩
def Mk.tape{i:List Int}{m:Nat}{h e:H}{d g:Nat}(f:Mk i m h d g)(a:Sm g h e)(v:Tp i g e):Mk i m e d g/\Step d h e:=by
 have j:e.get d=h.get d:=a.get d f.ne;obtain⟨z,C,p,_⟩:=f.tp;obtain⟨y,w,left,set,x,o,u,t,s,q,l,hl⟩:=f.ex;refine⟨⟨a.ok,λc b=>by rw[iW j]at b;rw[a.size];exact f.fp c b,v,y,w,left,set,x,o,u,t,s,by rw[j];exact q,l.mono λc b=>a.get c λk=> ?_,hl⟩,⟨a.ok.hp,a.ok.low,by rw[a.size];exact au _⟩,λc _ r=>a.get c λk=>r (by rw[k];exact f.fpb),λc b=>by rw[iW j]at b;exact .inl b⟩;obtain⟨A,z,B,D,n,_⟩:=l.box b;rw[k,p]at n;simp at n
structure Tw(L:List Int)(b:Nat)(h h':H):Prop where
 ok:ig 0 h'
 size:h.size<=h'.size
 get:∀c,c<h.size->c≠b->h'.get c=h.get c
 tp:Tp L b h'
def Tw.refl{b:List Int}{c:Nat}{a:H}(d:ig 0 a)(e:Tp b c a):Tw b c a a:=⟨d,au _,λ_ _ _=>rfl,e⟩
def Tp.lt{c:List Int}{a:Nat}{b:H}(e:Tp c a b):a<b.size:=by
 obtain⟨_,_,d,_⟩:=e;exact H.ew d
def Tp.eq{b:List Int}{a:Nat}{c d:H}(i:Tp b a c)(f:d.get a=c.get a):Tp b a d:=by
 obtain⟨j,g,e,h⟩:=i;exact⟨j,g,by rw[f];exact e,h⟩
def Tw.cons{a:List Int}{b:Nat}{c d:H}(w:Tw a b c d)(e:iZ):Tw a b c (d.cons e):=
 ⟨w.ok.cons e,by have:=w.size;simp;omega,λf g h=>by rw[dV,ao (by have:=w.size;omega)];exact w.get f g h,w.tp.eq (by rw[dV,ao (by have:=w.tp.lt;omega)])⟩
def Tw.put{f:List Int}{d:Nat}{a e:H}(b:Tw f d a e){c:Nat}{x:iZ}(g:e.get c=some x)(m:a.size<=c)(l:d<a.size)(h:iZ):Tw f d a (dY e c h):=
 ⟨b.ok.put c h,by rw[fU];exact b.size,λi j k=>by rw[dP g,ao dz];exact b.get i j k,b.tp.eq (by rw[dP g,ao dz])⟩
def Tw.call{b:List Int}{a:Nat}{f g c:H}(i:Tw b a f g)(d:Sm a g c)(k:Tp b a c):Tw b a f c:=
 ⟨d.ok,by rw[d.size];exact i.size,λe j h=>(d.get e h).trans (i.get e j h),k⟩
def Tw.cut{j:List Int}{e:Nat}{a d:H}(b:Tw j e (TI.hr a) d)(A:ig 0 a)(v:e<a.size){p q:T}{o:T->H->Prop}(x:∃i,jm d a.size p=some i/\cn i=q)
 (z:Sm e a (uR a d)->Tp j e (uR a d)->o q (uR a d)):yh a p d o:=by
 obtain⟨i,u,rfl⟩:=x;have h:a.size<=d.size:=b.size;refine⟨b.ok.hp,h,λc B w l=> ?_,i,u,z ⟨A.cut b.ok.hp h,rfl,λc y=> ?_⟩ (b.tp.eq (yY b.ok.hp h v))⟩
 ·by_cases f:c=e
  ·obtain⟨r,D,t,_⟩:=b.tp;rw[f,t]at l;cases l;refine .inr λr k=>(Cx r ?_).mono (aw _);simp[fw,T.cells]at k;rcases k with rfl|rfl<;>simp
  ·exact .inl ((b.get c w f).trans (gh a c))
 ·by_cases f:c<a.size
  ·rw[yY b.ok.hp h f,b.get c f y,gh]
  ·have m:∀g:H,g.size=a.size->g.get c=none:=λg C=>by
    cases s:g.get c with
    |none=>rfl
    |some B=>have:=H.ew s;omega
   rw[m (uR a d) rfl,m a rfl]
def Mk.tw{h:List Int}{m:Nat}{a f:H}{b i:Nat}(c:Mk h m a b i)(d:Tw h i (TI.hr a) f):Mk h m f b i:=by
 have l:f.get b=a.get b:=(d.get b c.lt c.ne).trans (gh a b);obtain⟨x,B,o,_⟩:=c.tp;obtain⟨w,u,left,set,v,n,s,r,q,p,k,hl⟩:=c.ex;have A:a.size<=f.size:=d.size;refine⟨d.ok,λe g=>by rw[iW l]at g;have:=c.fp e g;omega,d.tp,w,u,left,set,v,n,s,r,q,by rw[l];exact p,k.mono λe g=> ?_,hl⟩;obtain⟨y,x,z,C,j,_⟩:=k.box g;exact(d.get e (H.ew j) λt=>by rw[t,o]at j;simp at j).trans (gh a e)
def sd{g:fJ}{l:Nat}{e:List Int}{b:Nat}{d:Int}{f:H}{m:af Oper}{j:aa Tmp}{k:List Oper}{o n:fW}{i:iM}(ht:g.h 63=some (jw zi uF rQ))(y:Tp e b f)(u:ig 0 f)(q:1<=d)(r:d<=100)(s:okB e)
 (p:∀(a:Nat) c,(a:Int)<d->Tp e b c->Sm b f c->XK (some (dE a,c)) cx (qZ Tryz.prog cx g) l m j k o n i):XK (hl Tryz.prog cx g 63 [.ptr b 0 0 0,dE d] f) cx (qZ Tryz.prog cx g) l m j k o n i:=
 iq O7 ht ⟨e,b,d⟩ ⟨rfl,y,u,q,r,s⟩ (by
  rintro _ c ⟨a,rfl,z,v,w,x⟩;obtain⟨a,rfl⟩:∃t:Nat,a=t:=⟨a.toNat,dz⟩;exact p a c v w x)
def Kq{i:fJ}{p:Nat}{f:List Int}{c:Nat}{e:Int}{b:H}{r:af Oper}{k:List (Nat×Nat)}{l:aa Tmp}{q:Op}{n:List Oper}{g:Nat}{o:List (Nat×Nat)}{m:List (Nat×H×H)}{t s:fW}{j:iM}(ht:i.h 63=some (jw zi uF rQ))(C:Tp f c b)(y:ig 0 b)(v:1<=e)(w:e<=100)(x:okB f)
 (u:∀(a:Nat) d,(a:Int)<e->Tp f c d->Sm c b d->Rq (some (dE a,d)) cx (qZ Tryz.prog cx i) p r k l q n g o m t s b j):Rq (hl Tryz.prog cx i 63 [.ptr c 0 0 0,dE e] b) cx (qZ Tryz.prog cx i) p r k l q n g o m t s b j:=
 li O7 ht ⟨f,c,e⟩ ⟨rfl,C,y,v,w,x⟩ (by
  rintro _ d ⟨a,rfl,D,z,A,B⟩;obtain⟨a,rfl⟩:∃g:Nat,a=g:=⟨a.toNat,dz⟩;exact u a d z A B)
def dW.ft{b:H}{V:Nat->Prop}(a:dW)(d:Nat):FT b V (d+2) a.t a.t:= .inr (.inr ⟨_,_,a.nI,.cons (fQ ..) (.cons (fQ ..) (.cons (ke ..) (.cons (pj _ _ _ λe c=>by obtain⟨f,_,rfl⟩:=List.mem_map.1 c;simp) .nil))),a.nI⟩)
structure TP where
 (L:List Int) (m b n d:Nat)
def VK(a:TP)(c:List T)(e:H):Prop:=c=[.ptr a.m 0 0 0,dE a.d]/\Mk a.L a.n e a.m a.b/\okB a.L/\a.d<=10
def K0(a:TP)(h:List T)(f:H)(g:T)(e:H):Prop:=∃c:dW,g=c.t/\ME c/\c.w<=3^a.d/\Tp a.L a.b e/\Sm a.b f e
def Gg{f:List Int}{m e n d:Nat}{b c:H}{z:iZ}{a k:Int}{s:List Nat}{v:T}{l:List dW}{args:List T}(q:ig 0 b)(h:e<b.size)(y:Tw f e (TI.hr b) c)(g:c.get b.size=some z)
 (o:FT (dY c b.size (dG 4 1 [.agg [dE a,dE k,.str s,v]])) (λi=>b.size<=i) 11 v (sl (l.map dW.t))) (j:ME ⟨a,k,s,l⟩) (p:(dW.mk a k s l).w<=3^d):
 (dY c b.size (dG 4 1 [.agg [dE a,dE k,.str s,v]])).get b.size=some (dG 4 1 [.agg [dE a,dE k,.str s,v]])/\
 yh b (.agg [dE a,dE k,.str s,v]) (dY c b.size (dG 4 1 [.agg [dE a,dE k,.str s,v]])) (K0 ⟨f,m,e,n,d⟩ args b):=
 ⟨(dP g _ _).trans (aq rfl),(y.put g (au _) h _).cut q h (FT.top (au 11) (λ_ r=>r) (.cons (fQ ..) (.cons (fQ ..) (.cons (ke ..) (.cons o .nil))))) λu x=>⟨⟨a,k,s,l⟩,(dW.nI ⟨a,k,s,l⟩).symm,j,p,x,u⟩⟩
abbrev Of(e:Nat):lf:=jw TP (λa b c=>VK a b c/\a.d<e) K0
def Qb(k:Nat)(P:(Of k).Ok Tryz.prog cx 209):(Of (k+1)).Ok Tryz.prog cx 209:=by
 refine qN (tb:=⟨pt [(120,Hf),(211,Je),(210,Jf)],ht [(63,jw zi uF rQ),(209,Of k)]⟩) fa eQ (iR 35186519589107 [(10,[(8,13),(9,13),(8,17),(9,17)])] Tryz.func209) (λ_ _=>5) (λi a e a8=>by obtain⟨⟨rfl,_⟩,_⟩:=a8;simp[Tryz.f209]) ?_;rintro⟨G,m,A,n,d⟩ _ e ⟨⟨rfl,b,r,aE⟩,aN⟩ cp V;simp only at b r aE aN;simp at V;obtain⟨w,K⟩:=V;obtain⟨ce,b9,left,set,ca,bB,b8,bX,bT,I,bC,hl⟩:=b.ex;simp only[sr]at I;have a7:=b.lt;have aX:(m=e.size)=False:=dB;have a6:(m=e.size+1)=False:=dB;simp[Tryz.f209,w,I,aX,a6];have F:=((Tw.refl b.ok.hr (b.tp.eq (gh e A))).cons (dG 4 0 [.agg [dE 0,dE 0,.str [],dF]])).cons (dG 1 0 [.str [97],.str [98],.str [120],.str [121],.str [118],.str [120],.str [121]]);refine sd dA F.tp F.ok dz dz r λb7 p bN t2 D=> ?_;have C:=b.tp.lt;have f:=F.call D t2;have gR:p.get e.size=some (dG 4 0 [.agg [dE 0,dE 0,.str [],dF]]):=(D.get _ dz).trans dA;have gN:p.get (e.size+1)=some (dG 1 0 [.str [97],.str [98],.str [120],.str [121],.str [118],.str [120],.str [121]]):=(D.get _ dz).trans dA;have J:=((f.get m a7 b.ne).trans (gh e m)).trans I;clear D F;simp[K];refine ee (λN=> ?_) (λN=> ?_)
 ·simp[w,J];refine sd dA f.tp f.ok dz dz r λg q _ t3 h=> ?_;have j:=f.call h t3;have gR:=(h.get _ dz).trans gR;have fin:=Gg (m:=m) (n:=n) (d:=d) (v:=sl []) (l:=[]) (args:=[.ptr m 0 0 0,dE d]) b.ok C j gR (pj _ _ _ dA) (.num g) (by rw[dW.lF];simp only[dW.FJ,dW.iQ];exact Nat.pow_pos dz);simp[Tq,gR,fin.1];exact fin.2
 simp;refine ee (λL=> ?_) (λL=> ?_)
 ·simp[w,J];refine sd dA f.tp f.ok dz dz r λg q W t3 h=> ?_;have j:=f.call h t3;have gR:=(h.get _ dz).trans gR;have gN:=(h.get _ dz).trans gN;have o:∃s:List Nat,([.str [97],.str [98],.str [120],.str [121],.str [118],.str [120],.str [121]]:List T)[g]? =some (.str s):=by
   rcases(by omega:g=0\/g=1\/g=2\/g=3\/g=4\/g=5\/g=6)with rfl|rfl|rfl|rfl|rfl|rfl|rfl<;>exact⟨_,rfl⟩
  obtain⟨s,o⟩:=o;generalize([.str [97],.str [98],.str [120],.str [121],.str [118],.str [120],.str [121]]:List T)=al at gN o;have fin:=Gg (m:=m) (n:=n) (d:=d) (v:=sl []) (l:=[]) (args:=[.ptr m 0 0 0,dE d]) b.ok C j gR (pj _ _ _ dA) (.nm s) (by rw[dW.lF];simp only[dW.FJ,dW.iQ];exact Nat.pow_pos dz);have W:g<7:=dz;simp[gN,W,o,Tr,gR,fin.1];exact fin.2
 ·simp;refine ee (λM=> ?_) (λM=> ?_)
  ·simp[w];simp at L N M;refine iq P dA ⟨G,m,A,n,0⟩ ⟨⟨rfl,b.tw f,r,dA⟩,dC⟩ ?_;rintro _ q ⟨c,rfl,ap,bk,t3,h⟩;simp only at bk t3 h;have j:=f.call h t3;have gR:=(h.get _ dz).trans gR;have bS:=H.ew gR;have O:(e.size=q.size)=False:=dB;have B:(q.cons (dG 4 0 [c.t])).get e.size=_:=(by rw[dV,ao dz]:(q.cons (dG 4 0 [c.t])).get e.size=q.get e.size).trans gR;have fin:=Gg (m:=m) (n:=n) (d:=d) (a:=3) (k:=0) (s:=[113]) (v:= .arr q.size 0 0 1 false) (l:=[c]) (args:=[.ptr m 0 0 0,dE d]) b.ok C (j.cons (dG 4 0 [c.t])) B
    (.inr (.inl ⟨q.size,0,0,1,false,[c.t],[c.t],rfl,dz,by rw[gH,dP B,ao dz,dV,aq rfl];simp,.cons (c.ft 8) .nil,rfl⟩)) (.ix ap) (by
      have:3^1<=3^d:=Nat.pow_le_pow_right dz dz;rw[dW.lF];simp only[dW.FJ,dW.j7,dW.iQ];omega)
   simp[gR,O,fin.1];exact fin.2
  simp at L N M;obtain⟨d,rfl⟩:∃c,d=c+1:=⟨d-1,dz⟩;have O:(m=p.size)=False:=by have:=f.size;simp at this;simp;omega
  have ae:IntKind.i64.wrap d=(d:Int):=by rw[<-jF];exact jI dz dz
  simp[w,O,J];have j:=f.cons (dG 1 0 [dE 6,dE 7,dE 8,dE 11,dE 13,dE 17]);refine Kq dA j.tp j.ok dz dz r λu x X t4 E=> ?_;have Y:=j.call E t4;have b6:p.size+1=x.size:=by rw[E.size];simp
  have bH:=f.tp.lt;have gO:x.get p.size=some (dG 1 0 [dE 6,dE 7,dE 8,dE 11,dE 13,dE 17]):=(E.get _ dz).trans dA;have B:x.get e.size=_:=((E.get _ dz).trans (by rw[dV,ao (by have:=H.ew gR;omega)])).trans gR;have o:∃s:Int,([dE 6,dE 7,dE 8,dE 11,dE 13,dE 17]:List T)[u]? =some (dE s)/\6<=s:=by
   rcases(by omega:u=0\/u=1\/u=2\/u=3\/u=4\/u=5)with rfl|rfl|rfl|rfl|rfl|rfl<;>exact⟨_,rfl,dz⟩
  obtain⟨s,o,bi⟩:=o;generalize([dE 6,dE 7,dE 8,dE 11,dE 13,dE 17]:List T)=al at*
  have X:u<6:=dz;simp[w,K,gO,o,X,uu,ae];refine li P dA ⟨G,m,A,n,d⟩ ⟨⟨rfl,b.tw Y,r,dC⟩,dC⟩ ?_;rintro _ S ⟨c,rfl,av,bn,t5,y⟩;simp only at bn t5 y;have Z:=Y.call y t5;have an:=(y.get _ dz).trans B;have bs:fc x S p.size=true:=fk (y.get _ dz);simp[w,K,uu,ae,bs];refine li P dA ⟨G,m,A,n,d⟩ ⟨⟨rfl,b.tw Z,r,dC⟩,dC⟩ ?_;rintro _ U ⟨Q,rfl,aA,bp,t6,z⟩;simp only at bp t6 z;have bz:=Z.call z t6;have R:=(z.get _ dz).trans an;have bu:fc S U p.size=true:=fk (z.get _ dz);have cb:fc x U p.size=true:=fk ((z.get _ dz).trans (y.get _ dz));have fin:=Gg (m:=m) (n:=n) (d:=d+1) (a:=s) (k:=0) (s:=[]) (v:=sl [c.t,Q.t]) (l:=[c,Q]) (args:=[.ptr m 0 0 0,dE (d+1:Nat)]) b.ok C bz R (pj _ _ _ dA) (.bin bi av aA) (by
   have:=Nat.pow_pos (n:=d) (show 0<3 by omega);rw[dW.lF,Nat.pow_succ];simp only[dW.FJ,dW.j7,dW.iQ];omega)
  simp[Xj,bu,R,fin.1];exact fin.2
def Pm(a:Nat):(Of a).Ok Tryz.prog cx 209:=uY (λb:TP=>b.d) Qb a
def Nw(d c:Nat)(b:H)(e:Nat)(f:T)(a:Nat):Prop:=d<=a/\a<c/\¬Fp b e a/\dS f≠some a
def Ld(a:Nat):dS .kx≠some a:=by show(none:aa Nat)≠some a;simp
def SV(f e:Nat)(b:H)(g h:Nat)(c:T)(i:List dQ):Prop:=∃d,Gr b c 11 d/\iB (FT b (Nw f e b g c) (h+2)) d (i.map dQ.t)/\∀a,dS c=some a->f<=a/\a<e/\¬Fp b g a
def SV.nil(d c:Nat)(b:H)(e a:Nat):SV d c b e a dF []:=⟨[],Gr.nil _ _,.nil,λg f=>by simp at f⟩
def SV.same{i h m k:Nat}{f g:H}{d j:Nat}{n:T}{l:List dQ}(r:SV i h f d j n l)(v:m<=i)(w:h<=k)(c:∀a,i<=a->a<h->¬Fp f d a->g.get a=f.get a/\¬Fp g d a):SV m k g d j n l:=by
 obtain⟨p,q,o,e⟩:=r;refine⟨p,q.mono λa b=>(c a (e a b).1 (e a b).2.1 (e a b).2.2).1,o.ft λa b=>⟨⟨by have:=b.1;omega,by have:=b.2.1;omega,(c a b.1 b.2.1 b.2.2.1).2,b.2.2.2⟩,(c a b.1 b.2.1 b.2.2.1).1⟩,λa b=> ?_⟩;obtain⟨s,t,u⟩:=e a b;exact⟨dz,dz,(c a s t u).2⟩
def SV.step{i b:Nat}{a f:H}{c e:Nat}{l:T}{h:List dQ}(m:SV i b a c e l h)(k:Step c a f)(o:b<=a.size):SV i b f c e l h:=
 m.same (au _) (au _) λd _ n g=>⟨k.get d dz g,λj=>(k.fp d j).elim g λj=>by omega⟩
def SV.wide{f c g d:Nat}{b:H}{h a:Nat}{i:T}{e:List dQ}(l:SV f c b h a i e)(j:g<=f)(k:c<=d):SV g d b h a i e:=l.same j k λ_ _ _ m=>⟨rfl,m⟩
def SV.box{e d:Nat}{i:H}{l h:Nat}{g:T}{k:List dQ}(c:SV e d i l h g k){a:Nat}(j:e<=a/\a<d->False):dS g≠some a:=λf=>by
 obtain⟨_,_,_,c⟩:=c;exact j ⟨(c a f).1,(c a f).2.1⟩
def SV.sq{f e:Nat}{b:H}{c g:Nat}{i:T}{h:List dQ}(l:SV f e b c g i h){a:Nat}{m:iZ}(d:Lb c b a m)(q:a<f\/e<=a)(j:iZ):SV f e (dY b a j) c g i h:=
 l.same (au _) (au _) λn o p k=>⟨by rw[dP d.get,ao dz],by rw[iW (show(dY b a j).get c=b.get c by rw[dP d.get,ao (bo d.ne)])];exact k⟩
def SV.ft{i h:Nat}{e:H}{j d:Nat}{k:T}{a:List dQ}(p:SV i h e j d k a):FT e (Nw i h e j .kx) (d+3) k (sl (a.map dQ.t)):=by
 obtain⟨n,g,b,q⟩:=p;have o:=g.jf;rcases g with⟨rfl,rfl⟩|⟨c,m,y,v,A,rfl,w,x⟩
 ·cases hl:a.map dQ.t with
  |nil=>exact jh _ _ _ _
  |cons z a=>rw[hl]at b;cases b
 ·obtain⟨r,s,u⟩:=q c rfl;exact .inr (.inl ⟨c,m,0,_,false,n,_,rfl,⟨r,s,u,Ld c⟩,o,b.ft λl f=>⟨⟨f.1,f.2.1,f.2.2.1,Ld l⟩,rfl⟩,rfl⟩)
def dQ.ft{c:H}{V:Nat->Prop}(b:dQ)(d:Nat):FT c V (d+2) b.t b.t:=by
 have f:∀a:List dW,FT c V (d+1) (sl (a.map dW.t)) (sl (a.map dW.t)):=λa=>pj _ _ _ λh e=>by obtain⟨i,_,rfl⟩:=List.mem_map.1 e;simp
 have g:∀a:List dQ,FT c V (d+1) (sl (a.map dQ.t)) (sl (a.map dQ.t)):=λa=>pj _ _ _ λh e=>by obtain⟨i,_,rfl⟩:=List.mem_map.1 e;simp
 exact .inr (.inr ⟨_,_,b.nI,.cons (fQ ..) (.cons (fQ ..) (.cons (ke ..) (.cons (ke ..) (.cons (f _) (.cons (fQ ..) (.cons (fQ ..) (.cons (ke ..) (.cons (f _) (.cons (g _) (.cons (g _) .nil)))))))))),b.nI⟩)
def Mk.same{i:List Int}{m:Nat}{b c:H}{f g:Nat}(e:Mk i m b f g)(r:ig 0 c)(v:b.size<=c.size)(h:∀a,Fp b f a->c.get a=b.get a):Mk i m c f g:=by
 have k:=h f (.inl rfl);obtain⟨u,s,left,set,t,n,q,l,p,j,o,hl⟩:=e.ex;refine⟨r,λa d=>by rw[iW k]at d;have:=e.fp a d;omega,e.tp.eq (h g e.fpb),u,s,left,set,t,n,q,l,p,by rw[k];exact j,o.mono λa d=>h a (.inr ⟨_,j,l,by simp[fw,T.cells,sr],d⟩),hl⟩
def Mk.cons{b:List Int}{f:Nat}{d:H}{e c:Nat}(a:Mk b f d e c)(g:iZ):Mk b f (d.cons g) e c:=a.same (a.ok.cons g) dA λh i=>by rw[dV,ao (by have:=a.fp h i;omega)]
def Mk.sq{d:List Int}{h:Nat}{b:H}{c e:Nat}(f:Mk d h b c e){a:Nat}{l:iZ}(g:Lb c b a l)(i:iZ):Mk d h (dY b a i) c e:=f.same (f.ok.put a i) (by rw[fU];exact au _) λm j=>by rw[dP g.get,ao (λk=>g.nf (by rw[<-k];exact j))]
def Mk.hr{b:List Int}{f:Nat}{a:H}{e c:Nat}(d:Mk b f a e c):Mk b f (TI.hr a) e c:=d.same d.ok.hr (au _) λg _=>gh a g
def Mk.out{b:List Int}{e:Nat}{h a:H}{m c:Nat}(d:Mk b e a m c):Mk b e (lO h a) m c:=d.same (d.ok.out h) (au _) λf _=>fO h a f
def SV.out{e c:Nat}{h a:H}{m b:Nat}{f:T}{d:List dQ}(j:SV e c a m b f d):SV e c (lO h a) m b f d:=
 j.same (au _) (au _) λg _ _ i=>⟨fO h a g,by rw[iW (fO h a m)];exact i⟩
def Mk.set{j:List Int}{h:Nat}{c:H}{d b f:Nat}{s left th' left':Int}{r t l n se' tx' at2 lp':Bool}{a:T}{g:List (List Nat)}(e:Mk j h c d b)(k:c.get d=some (dG 8 f [.agg (sr b s left r t l n a)]))(m:Gr c a 1 (g.map T.str))(hl:g.length=h):
 Step d c (dY c d (dG 8 (f+1) [.agg (sr b th' left' se' tx' at2 lp' a)]))/\Mk j h (dY c d (dG 8 (f+1) [.agg (sr b th' left' se' tx' at2 lp' a)])) d b:=by
 obtain⟨i,o,p,q⟩:=Bt e.ok e.fp k (cells':=sr b th' left' se' tx' at2 lp' a) (λu a=>by
  simp only[sr,cu,dg,or_false]at a;rcases a with rfl|rfl|rfl|rfl|rfl|rfl|rfl|rfl<;>first|exact .inr (.inl rfl)|exact .inl (by simp[sr])) _ rfl
 exact⟨i,⟨i.ok.hp,i.ok.low,aw _⟩,o,e.tp.eq (by rw[dP k,ao (bo e.ne)]),f+1,th',left',se',tx',at2,lp',a,g,p,q _ _ _ m dD,hl⟩
def SV.app{A:List Int}{n h p:Nat}{b:H}{d C v:Nat}{u x:T}{xs:List T}{q l2:List dQ}(W:SV h p b d v u q)(k:Mk A n b d C)(Z:h<=b.size)(Y:p<=b.size)(V:b.jf x=some xs)(G:iB (FT b (Nw h p b d u) (v+2)) xs (l2.map dQ.t))(P:∀i∈xs,i.cells.length=11)(S:xs≠ [])(ae:q.length+l2.length<=1000000):
 ∃z f,iO cx b 172 172 u x=some (.val z f)/\SV h f.size f d v z (q++l2)/\Mk A n f d C/\(∀o,Step d o b->o.size<=h->Step d o f)/\∀e,e<h->f.get e=b.get e:=by
 obtain⟨m,M,B,r⟩:=W;have l1:m.length=q.length:=by simpa using B.length
 have l3:xs.length=l2.length:=by simpa using G.length
 obtain⟨z,f,i,e,E,X,L,rfl,I,g,j,l⟩:=M.app (cx:=cx) k.ok yW rfl yU yW rfl rfl dA V P S dB;have w:¬Fp b d e:=λF=>g.elim (λg=>(r e g).2.2 F) λg=>by have:=k.fp e F;omega
 have U:=l.sz;have R:h<=e:=g.elim (λg=>(r e g).1) λg=>by omega
 have Q:=H.ew I;have y:f.get d=b.get d:=j d (λr=>w (by rw[<-r];exact .inl rfl)) k.lt;have K:∀a,Nw h p b d u a->Nw h f.size f d (.arr e E 0 (m++xs).length false) a/\f.get a=b.get a:=λa c=>by
  have J:a≠e:=λi=>g.elim (λg=>c.2.2.2 (by rw[i];exact g)) λg=>by have:=c.2.1;omega
  exact⟨⟨c.1,by have:=c.2.1;omega,by rw[iW y];exact c.2.2.1,by simp;exact bo J⟩,j a J (by have:=c.2.1;omega)⟩
 refine⟨_,f,i,⟨m++xs,.inr ⟨e,E,X,L,m++xs,rfl,I,aO⟩,?_,λa D=> ?_⟩,k.same ⟨l.hp,l.low,aw _⟩ U λa c=>j a (λi=>w (by rw[<-i];exact c)) (k.fp a c),λo s hl=>⟨⟨l.hp,l.low,by have:=s.ok.sz;omega⟩,λa N O=> ?_,λa c=>by rw[iW y]at c;exact s.fp a c⟩,λa c=>j a dz dz⟩
 ·rw[List.map_append];exact(B.ft K).append (G.ft K)
 ·simp at D;subst D;exact⟨R,Q,by rw[iW y];exact w⟩
 ·exact(j a dz (by have:=s.ok.sz;omega)).trans (s.get a N O)
def wd(a:Nat):Nat:=100*10^a
def KH(a:Nat):wd (a+1)=10*wd a:=by unfold wd;rw[Nat.pow_succ];omega
def BL(a:Nat):100<=wd a:=by
 induction a with
 |zero=>decide
 |succ a b=>rw[KH];omega
structure Va where
 (L:List Int) (m b n d cnt:Nat)
def X1(a:Va)(c:H):Prop:=Mk a.L a.n c a.m a.b/\okB a.L/\a.d<=2/\a.n+a.d<=10/\a.cnt<=3
def OD(a:Va)(i:List T)(f:H)(h:T)(c:H):Prop:=∃e,SV f.size c.size c a.m (2*a.d+2) h e/\(∀g∈e,MS g/\g.w<=wd a.d)/\e.length<=a.cnt/\Mk a.L a.n c a.m a.b/\Step a.m f c
def Fq(a:Va)(i:List T)(g:H)(h:T)(c:H):Prop:=∃f e,h= .agg f/\f.length=11/\FT c (Nw g.size c.size c a.m .kx) (2*a.d+4) h e.t/\MS e/\e.w<=wd a.d/\Mk a.L a.n c a.m a.b/\Step a.m g c
abbrev VG(e:Nat):lf:=jw Va (λa b c=>(b=[.ptr a.m 0 0 0,dE a.d,dE a.cnt]/\X1 a c)/\a.d<e) OD
abbrev rMt(e:Nat):lf:=jw Va (λa b c=>(b=[.ptr a.m 0 0 0,dE a.d]/\X1 a c)/\a.d<e) Fq
def aaL(k:Nat)(Z:(rMt k).Ok Tryz.prog cx 165):(VG k).Ok Tryz.prog cx 118:=by
 refine jo (tb:=⟨pt [],ht [(165,rMt k)]⟩) fa eQ (iR 4194759 [] Tryz.func118) (λ_ _=>10) (λe a p W=>by obtain⟨⟨rfl,_⟩,_⟩:=W;simp[Tryz.f118]) ?_;rintro⟨A,f,B,Q,m,C⟩ _ p ⟨⟨rfl,v,G,K,N,b⟩,M⟩ h I;simp only at v G K N b M;simp at I;obtain⟨o,q,r⟩:=I;simp[Tryz.f118];refine nz C (λe h n=>∃u j,SV p.size n.size n f (2*m+2) u j/\(∀l∈j,MS l/\l.w<=wd m)/\j.length=e/\Mk A Q n f B/\Step f (hr p) n/\dH h 0 (.ptr f 0 0 0)/\dH h 1 (dE m)/\dH h 2 (dE C)/\dH h 7 u/\dH h 8 (dE e)) ?_ dz (k:=0) dz ⟨dF,[],SV.nil _ _ _ _ _,dA,rfl,v.hr,Step.refl v.ok.hr,by simp[o,q,r]⟩;rintro e h n a6 ⟨u,j,sv,hl,a7,y,z,o,q,r,E,F⟩;obtain⟨bs,bn,left,set,bp,aA,bk,bi,a8,D,aE,aX⟩:=y.ex;simp only[sr]at D;simp[o,r,F,D];refine ee (λL=> ?_) (λL=> ?_)
 ·simp at L;simp[o,q,E];refine iq Z dA ⟨A,f,B,Q,m,0⟩ ⟨⟨rfl,y,G,K,N,dA⟩,M⟩ ?_;rintro _ d ⟨c,l,rfl,J,ft,V,O,g,s⟩;simp only at ft O g s;have Y:=z.ok.sz;have P:=s.ok.sz;simp at Y;have an:=((sv.step s (au _)).step (Step.cons g.ok g.lt (dG 11 0 [.agg c])) P).wide (au _) P;have H:∀i,i<d.size->(d.cons (dG 11 0 [.agg c])).get i=d.get i:=λi b=>by rw[dV,ao dz]
  have U:FT (d.cons (dG 11 0 [.agg c])) (Nw p.size d.size (d.cons (dG 11 0 [.agg c])) f u) (2*m+4) (.agg c) l.t:=ft.mono λi b=>⟨⟨by have:=b.1;omega,b.2.1,by rw[iW (H f g.lt)];exact b.2.2.1,sv.box λR=>by have:=b.1;omega⟩,H i b.2.1⟩;obtain⟨av,aN,S,ap,ae,al,_⟩:=an.app (g.cons (dG 11 0 [.agg c])) (x:= .arr d.size 0 0 1 false) (xs:=[.agg c]) (l2:=[l]) dB dA (by rw[gH];simp) (.cons U .nil) (by simp[T.cells,J]) dA dB;simp[o,q,r,F,S,J,ik (show-9223372036854775808<=(e:Int)+1 by omega) (show(e:Int)+1<9223372036854775808 by omega)];exact⟨e+1,dz,dz,av,j++[l],ap,λx X=>(List.mem_append.1 X).elim (hl x) λR=>by rw[List.mem_singleton.1 R];exact⟨V,O⟩,dB,ae,al _ ((z.trans s).trans (Step.cons g.ok g.lt _)) dA,dA⟩
 ·simp[E];exact⟨j,sv.out,hl,dC,y.out,z.out⟩
def Mk.held{s:List Int}{q:Nat}{c h:H}{a b f:Nat}{m left:Int}{l n g k:Bool}{p o:T}{j:List (List Nat)}{w:List Nat}(d:Mk s q c a b)(t:c.get a=some (dG 8 f [.agg (sr b m left l n g k p)]))(v:Gr c p 1 (j.map T.str))(hl:j.length=q)(x:Xt c p 1 ((j++[w]).map T.str) o h):
 h.get a=c.get a/\Step a c (dY h a (dG 8 (f+1) [.agg (sr b m left l n g k o)]))/\Mk s (q+1) (dY h a (dG 8 (f+1) [.agg (sr b m left l n g k o)])) a b:=by
 obtain⟨e,C⟩:=wD (i:=7) d.ok d.fp t (by simp[sr]) dD v x;obtain⟨r,y,A,_⟩:=C _ rfl;have u:=e.trans t;obtain⟨G,F,z,_⟩:=d.tp;refine⟨e,r,⟨r.ok.hp,r.ok.low,aw _⟩,y,d.tp.eq ?_,f+1,m,left,l,n,g,k,o,j++[w],(dP u _ a).trans (aq rfl),A,dB⟩;rw[dP u,ao (bo d.ne)];refine x.2.1 b d.tp.lt λB=> ?_;obtain⟨D,f,E,I,e,_⟩:=v.box B;rw[z]at e;simp at e
def Mk.drop{p:List Int}{g:Nat}{b:H}{c a l:Nat}{i left:Int}{h j e f:Bool}{n d:T}{m:List (List Nat)}(k:Mk p (g+1) b c a)(q:b.get c=some (dG 8 l [.agg (sr a i left h j e f n)]))(hl:m.length=g+1)(r:Gr b d 1 ((m.map T.str).take g))(s:dS d=dS n):
 Step c b (dY b c (dG 8 (l+1) [.agg (sr a i left h j e f d)]))/\Mk p g (dY b c (dG 8 (l+1) [.agg (sr a i left h j e f d)])) c a:=by
 obtain⟨o,t,u,v⟩:=Bt k.ok k.fp q (cells':=sr a i left h j e f d) (λw hm=>by
  simp only[sr,cu,dg,or_false]at hm;rcases hm with rfl|rfl|rfl|rfl|rfl|rfl|rfl|hm
  ·exact .inl (by simp[sr])
  iterate 6 exact .inr (.inl rfl)
  exact .inr (.inr ⟨n,by simp[sr],by rw[hm];exact s⟩)) _ rfl
 exact⟨o,⟨o.ok.hp,o.ok.low,aw _⟩,t,k.tp.eq (by rw[dP q,ao (bo k.ne)]),l+1,i,left,h,j,e,f,d,m.take g,u,by rw[List.map_take];exact v _ _ _ r dD,by rw[List.length_take];omega⟩
structure IBk where
 (L:List Int) (m b n d:Nat) (s:List Nat)
def aah(a:IBk)(c:List T)(e:H):Prop:=c=[.ptr a.m 0 0 0,.str a.s,dE a.d]/\Mk a.L a.n e a.m a.b/\okB a.L/\a.d<=2/\a.n+a.d<=9
abbrev rBk(g:Nat):lf:=jw IBk (λa c e=>aah a c e/\a.d<g) (λa c e h f=>OD ⟨a.L,a.m,a.b,a.n,a.d,2⟩ c e h f)
def abK(q:Nat)(aA:(VG q).Ok Tryz.prog cx 118):(rBk q).Ok Tryz.prog cx 213:=by
 refine jo (tb:=⟨pt [],ht [(63,jw zi uF rQ),(118,VG q)]⟩) fa eQ (iR 199 [] Tryz.func213) (λ_ _=>10) (λi a f av=>by obtain⟨⟨rfl,_⟩,_⟩:=av;simp[Tryz.f213]) ?_;rintro⟨P,d,Q,n,R,s⟩ _ f ⟨⟨rfl,t,p,B,an⟩,C⟩ bn A;simp only at t p B an C;simp at A;obtain⟨z,W,X⟩:=A;have g:=t.hr;obtain⟨N,L,left,set,M,x,G,F,E,b,c,hl⟩:=g.ex;obtain⟨a6,Y,k,j⟩:=c.nd (cx:=cx) g.ok qA rfl v7 rfl dA dA s dB;obtain⟨I,w,e⟩:=g.held b c hl j;have m:=I.trans b;simp only[sr]at b m w e;have y:f.get d=_:=(gh f d).symm.trans b;have bk:(d=f.size)=False:=by have:=t.lt;simp;omega
 rw[oa]at k;simp[Tryz.f213,z,W,X,y,k,m,dZ,j.1.il,j.1.cells];generalize dY Y d _=a7 at*
 clear b y m I j k c g;obtain⟨N,L,left,set,M,x,G,F,E,b,c,hl⟩:=e.ex;simp only[sr]at b;simp[b];refine sd dA e.tp e.ok dz dz p λr a8 bi t2 aN=> ?_;obtain⟨aE,J⟩:=e.tape aN t2;have S:binop .add (dE 1) (dE r)=some (dE ((1+r:Nat):Int)):=by rw[ik dz dz];simp
 simp[S];refine iq aA dA ⟨P,d,Q,n+1,R,1+r⟩ ⟨⟨dA,aE,p,B,dC,dC⟩,C⟩ ?_;rintro v Z ⟨l,sv,D,ap,u,K⟩;simp only at sv D ap u K;obtain⟨N,L,left,set,M,x,G,F,E,b,c,hl⟩:=u.ex;have V:=b;simp only[sr]at b;have al:=c.len (cx:=cx) Z RJ _ rfl;obtain⟨a6,U,o,ae⟩:=c.cut (cx:=cx) (ty:=RJ) rfl v7 rfl (n:=n) dB dB;obtain⟨h,H⟩:=u.drop V hl o ae;have T:binop .sub (dE ((n:Int)+1)) (dE 1)=some (dE n):=by
  rw[uu,<-jF,jI dz dz];simp
 simp only[sr]at h H;simp[z,b,al,hl,T,U,dZ,o.il,o.cells];have aX:=((w.trans J).trans K).trans h;have O:=(w.trans J).ok.sz;simp at O;exact⟨l,((sv.step h (au _)).wide O (by have:=h.ok.sz;simp)).out,D,dC,H.out,aX.out⟩
end
end Go.Proofs.YtmaeadedikngoaaGreatDoor
