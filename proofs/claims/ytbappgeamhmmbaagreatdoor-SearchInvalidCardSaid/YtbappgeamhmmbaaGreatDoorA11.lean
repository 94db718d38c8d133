/- W08d -/
import Derived.Test.YtbappgeamhmmbaaGreatDoorA9
import Derived.Test.YtbappgeamhmmbaaGreatDoorA10
set_option linter.all false
set_option maxRecDepth 100000
set_option maxHeartbeats 0
namespace Go.Proofs.YtbappgeamhmmbaaGreatDoor
noncomputable section
open Go Go.TI Tryz
attribute [-simp] List.map_take List.map_drop List.map_append fj ez TI.d8 Bool.not_or Bool.not_and
attribute [simp] fh eG
def sR:ge:=⟨dR,λa=>[a.t],λa=>a.dW.length<=1000000/\a.dU.length<=1000000/\a.dC.length<=1000000,λa=>(kK a).t,λc d b=>by simp at b;rw[dR.inj b]⟩
def xW(_:Unit):T:= .agg [D (-1),dw]
def QB{b:H}{V:Nat->Prop}(a:Nat):ir (FT b V 2) ((List.replicate a ()).map xW) ((List.replicate a (⟨-1,[]⟩:dP)).map dP.t):=by
 induction a with
 |zero=>exact .nil
 |succ a c=>
  rw[cY,cY];exact .cons (.inr (.inr ⟨_,_,rfl,.cons (fZ ..) (.cons (jb ..) .nil),rfl⟩)) c
def Sy8(e:H)(Lk:List Unit)(a:List Bool)(Th:List dE):Prop:=∃f b c d,m9 e 2 4 f [(b,some (2,Lk.map xW)),(D (-1),none),(c,some (1,a.map T.bool)),(d,some (3,Th.map dE.t))]
def uF:iI:=(Z 4 0 [.agg [dw,D 0,dw,dw]])
def Ln:sR.Ok prog cx 74:=by
 refine fR [] (iP 9071038046463 [] func74) (λ_=>1000005) (by simp[sR]) ?_;rintro(w:dR) ⟨hl,al,ht⟩ b Q;simp[sR]at Q|-;simp[f74,Q];refine fc w.dW.length B (λc b h=>Sy8 h (List.replicate c ()) [] []/\Lb 2 h 0 (Z 6 0 [w.t])/\Lb 2 h 1 uF/\dy b 1 (.ptr 0 0 0 0)/\dy b 2 (.ptr 1 0 0 0)/\dy b 3 (.ptr 2 0 0 0)/\dy b 4 (D c)) ?_ ?_ B ?_
 ·rintro c b h C A ⟨⟨ver,s,u,v,a⟩,e,m,j,k,l,p⟩;have o:=a.get;simp at o;have⟨O,G,r,i⟩:=(a.gr 0 rfl).mQ (cx:=cx) (f:=xW) a.ok I7 rfl Fb rfl J (λ_=>rfl) () dp;have⟨q,x,y⟩:=a.app 0 rfl i;have⟨g,n⟩:=y _ rfl;simp only[<-List.replicate_succ']at n;simp[-List.map_replicate]at q g n;simp only[xW]at r;simp[j,k,l,p,C,e.get,o,r,q,x,dN,i.1.fg,i.1.cells,A];exact⟨⟨_,_,_,_,n⟩,e.step g,m.step g⟩
 ·rintro b h ⟨⟨ver,s,u,v,a⟩,e,m,j,k,l,p⟩;simp[j,k,l,p,e.get];refine fc w.dU.length B (λc b h=>Sy8 h (List.replicate w.dW.length ()) (List.replicate c false) []/\Lb 2 h 0 (Z 6 0 [w.t])/\Lb 2 h 1 uF/\dy b 1 (.ptr 0 0 0 0)/\dy b 2 (.ptr 1 0 0 0)/\dy b 3 (.ptr 2 0 0 0)/\dy b 5 (D c)) ?_ ?_ B ⟨⟨_,_,_,_,a⟩,e,m,by simp[j,k,l]⟩
  ·rintro c b h C A ⟨⟨ver,s,u,v,a⟩,e,m,j,k,l,p⟩;have o:=a.get;simp at o;have⟨O,G,r,i⟩:=(a.gr 2 rfl).mQ (cx:=cx) (f:=T.bool) a.ok Fa rfl OV rfl J J false dp;have⟨q,x,y⟩:=a.app 2 rfl i;have⟨g,n⟩:=y _ rfl;simp only[<-List.replicate_succ']at n;simp[-List.map_replicate]at q g n;simp[j,k,l,p,C,e.get,o,r,q,x,dN,i.1.fg,i.1.cells,A];exact⟨⟨_,_,_,_,n⟩,e.step g,m.step g⟩
  ·rintro b h ⟨⟨ver,s,u,v,a⟩,e,m,j,k,l,p⟩;simp[j,k,l,p,e.get];refine fc w.dC.length B (λc b h=>Sy8 h (List.replicate w.dW.length ()) (List.replicate w.dU.length false) ((List.range c).map λc=>(⟨if c=0 then 1 else 0,0,false⟩:dE))/\Lb 2 h 0 (Z 6 0 [w.t])/\Lb 2 h 1 uF/\dy b 1 (.ptr 0 0 0 0)/\dy b 2 (.ptr 1 0 0 0)/\dy b 3 (.ptr 2 0 0 0)/\dy b 6 (D c)) ?_ ?_ B ⟨⟨_,_,_,_,a⟩,e,m,by simp[j,k,l]⟩
   ·rintro c b h C A ⟨⟨ver,s,u,v,a⟩,e,m,j,k,l,p⟩;have o:=a.get;simp at o;have R:(0=h.size)=False:=by have:=a.lt;simp;omega
    have S:(2=h.size)=False:=by have:=a.lt;simp;omega
    by_cases H:c=0
    ·subst H;have W:binop .add (D 0) (D 1)=some (D 1):=by simpa using A
     have z:=a.cons (Z 3 2 [dE.t ⟨1,0,false⟩]);have E:=Step.cons a.ok a.lt (Z 3 2 [dE.t ⟨1,0,false⟩]);have I:=e.step E;have L:=m.step E;have⟨O,G,r,i⟩:=(z.gr 3 rfl).mQ (cx:=cx) (f:=dE.t) z.ok CJ rfl Bb rfl J (λ_=>rfl) (⟨1,0,false⟩:dE) J;have⟨q,x,y⟩:=z.app 3 rfl i;have⟨g,n⟩:=y _ rfl;simp only[aP,bY,cT,cE]at q g n;rw[size_cons]at r;simp[j,k,l,p,C,e.get,o,R,S,a.ok.low,r,q,x,dN,i.1.fg,i.1.cells,W];exact⟨⟨_,_,_,_,n⟩,I.step g,L.step g⟩
    ·skip
     have z:=a.cons (Z 3 1 [dE.t ⟨0,0,false⟩]);have E:=Step.cons a.ok a.lt (Z 3 1 [dE.t ⟨0,0,false⟩]);have I:=e.step E;have L:=m.step E;have⟨O,G,r,i⟩:=(z.gr 3 rfl).mQ (cx:=cx) (f:=dE.t) z.ok CJ rfl Bb rfl J (λ_=>rfl) (⟨0,0,false⟩:dE) dp;have⟨q,x,y⟩:=z.app 3 rfl i;have⟨g,n⟩:=y _ rfl;simp only[aP,bY,cT,cE]at q g n;rw[size_cons]at r;simp[j,k,l,p,H,C,e.get,o,R,S,a.ok.low,r,q,x,dN,i.1.fg,i.1.cells,A];have hr:(List.range (c+1)).map (λc=>(⟨if c=0 then 1 else 0,0,false⟩:dE))=(List.range c).map (λc=>(⟨if c=0 then 1 else 0,0,false⟩:dE))++[⟨0,0,false⟩]:=by
      rw[List.range_succ,List.map_append];simp[H]
     rw[hr];exact⟨⟨_,_,_,_,n⟩,I.step g,L.step g⟩
   ·rintro b h ⟨⟨ver,s,u,v,a⟩,e,m,j,k,l,p⟩;have o:=a.get;simp at o;have K:=m.get;unfold uF at K;have N:=a.ry m (Z 4 1 [.agg [s,D (-1),u,v]]);have X:(dT h 1 (Z 4 1 [.agg [s,D (-1),u,v]])).get 1=_:=(dF K _ 1).trans (aq rfl);have U:=(N.gr 0 rfl).IS (d:=2) B (QB (V:=λ_=>True) w.dW.length);simp[j,k,l,p,e.get,o,K,dN,X,U,(N.gr 2 rfl).fz J,(N.gr 3 rfl).fz J,-List.map_replicate];exact⟨a.ok.hp,by unfold kK fa.t fa.cs;simp[List.map_const',-List.map_replicate]⟩
 ·have⟨ae,P⟩:=m9.start (h:=((hE.cons (Z 6 0 [w.t])).cons uF).cons (Z 4 1 [.agg [dw,D (-1),dw,dw]])) (w:=2) (szw:=4) (ver:=1) (F:=[(dw,some (2,[])),(D (-1),none),(dw,some (1,[])),(dw,some (3,[]))]) ⟨J,J,J⟩ (by simp[uF]) J;exact⟨⟨_,_,_,_,ae⟩,⟨J,λM=>absurd (P 0 M) dt⟩,⟨by simp[uF],λM=>absurd (P 1 M) dt⟩,J⟩
def Ht{b:fw}(ht:b.p 74=some sR)(a:dR)(c:a.dW.length<=1000000)(d:a.dU.length<=1000000)(e:a.dC.length<=1000000):rl prog cx b 74 [a.t]=some (kK a).t:=gG ht Ln a ⟨c,d,e⟩
def agd(f:H)(a:fa)(b c:Nat)(d:List Int):Prop:=∃g e,m9 f 4 7 g [(sl (a.dW.map dP.t),none),(D a.tx,none),(sl (a.done.map T.bool),none),(sl (a.dC.map dE.t),none),(e,some (1,d.map (T.int .i64))),(.arr 2 0 0 b false,some (1,(List.replicate b 0).map (T.int .i64))),(.arr 3 0 0 c false,some (1,(List.replicate c 0).map (T.int .i64)))]
def mD:iI:=(Z 7 0 [.agg [dw,D 0,dw,dw,dw,dw,dw]])
def pk:ge:=⟨dR,λa=>[a.t],λa=>a.dW.length<=1000000/\a.dU.length<=1000000/\a.dC.length<=1000000/\a.cells.length<=1000000,λa=>(js a).t,λc d b=>by simp at b;rw[dR.inj b]⟩
def Lm:pk.Ok prog cx 31:=by
 refine fR [(74,sR)] (iP 1048607 [(1,[(1,3),(1,5),(1,7),(1,9),(1,11)])] func31) (λ_=>1000005) (by simp[pk]) ?_;rintro(a:dR) ⟨hl,r,ht,I⟩ h e;simp[pk]at e|-;have Q:a.dU.length*8<=70368744177664:=B;have R:a.dC.length*8<=70368744177664:=B;simp[f31,e,Ht,hl,r,ht,Q,R];have W:(js a).t=dZ.t ⟨kK a,a.cells.map fW.jA,List.replicate a.dU.length 0,List.replicate a.dC.length 0⟩:=by
  unfold js;simp only[List.map_const']
 rw[W];generalize kK a=b at*
 refine fc a.cells.length B (λn h i=>∃j,agd i b a.dU.length a.dC.length j/\j.length=n/\j=(a.cells.take n).map fW.jA/\Lb 4 i 0 (Z 6 0 [a.t])/\Lb 4 i 1 mD/\dy h 1 (.ptr 0 0 0 0)/\dy h 2 (.ptr 1 0 0 0)/\dy h 3 (.ptr 4 0 0 0)/\dy h 4 (D n)) ?_ ?_ B ?_
 ·rintro n h i K X ⟨j,⟨ap,c,d⟩,V,q,s,u,o,p,y,z⟩;have m:=d.get;simp at m;have⟨aX,aN,S,H⟩:=(d.gr 4 rfl).mQ (cx:=cx) (f:=T.int .i64) d.ok oh rfl yJ rfl J (λ_=>rfl) a.cells[n].jA dp;have⟨w,an,E⟩:=d.app 4 rfl H;have⟨G,O⟩:=E _ rfl;simp only[aP,bY,cT,cE]at w G O;simp[o,p,y,z,K,s.get,m,S,w,an,dN,H.1.fg,H.1.cells,X];exact⟨_,⟨_,_,O⟩,dp,by rw[q,aT K,List.map_append];rfl,s.step G,u.step G⟩
 ·rintro h i ⟨j,⟨ap,c,d⟩,V,q,s,u,o,p,y,z⟩;rw[aJ]at q;subst q;have m:=d.get;simp at m;have A:=u.get;unfold mD at A;have F:=d.ry u (Z 7 1 [.agg [sl (b.dW.map dP.t),D b.tx,sl (b.done.map T.bool),sl (b.dC.map dE.t),c,.arr 2 0 0 a.dU.length false,.arr 3 0 0 a.dC.length false]]);have U:(dT i 1 (Z 7 1 [.agg [sl (b.dW.map dP.t),D b.tx,sl (b.done.map T.bool),sl (b.dC.map dE.t),c,.arr 2 0 0 a.dU.length false,.arr 3 0 0 a.dC.length false]])).get 1=_:=(dF A _ 1).trans (aq rfl);have av:=(F.gr 4 rfl).fz J;have aA:=(F.gr 5 rfl).fz J;have aE:=(F.gr 6 rfl).fz J;simp[o,p,y,z,s.get,m,A,dN,U,av,aA,aE,-List.map_replicate,-xr];exact⟨d.ok.hp,by unfold dZ.t dZ.cs;simp[-List.map_replicate]⟩
 ·have N:∀(g:Nat) (l:T×aa (Nat×List T)),([(sl (b.dW.map dP.t),none),(D b.tx,none),(sl (b.done.map T.bool),none),(sl (b.dC.map dE.t),none),(dw,some (1,[])),(.arr 2 0 0 a.dU.length false,some (1,(List.replicate a.dU.length 0).map (T.int .i64))),(.arr 3 0 0 a.dC.length false,some (1,(List.replicate a.dC.length 0).map (T.int .i64)))]:List (T×aa (Nat×List T)))[g]? =some l->∀c,dM l.1=some c->c+3=g:=by
   intro g l e c I;rcases g with _|_|_|_|_|_|_|g<;>simp at e<;>subst e<;>simp at I<;>omega
  refine⟨[],⟨1,dw,⟨J,J,J⟩,J,λf r=>?_,λg k al l P e ae c w E=>al ?_⟩,rfl,J,⟨J,?_⟩,⟨by simp[mD],?_⟩,J⟩
  ·simp only[co,cV,or_false,bY]at r;rcases r with rfl|rfl|rfl|rfl|rfl|rfl|rfl
   iterate 4 (show dM _=none;simp)
   ·exact⟨Gr.nil _ _,dt⟩
   ·exact⟨.inr ⟨2,0,0,true,_,J,by simp;rfl,J⟩,show(1:Nat)≠7 by decide⟩
   ·exact⟨.inr ⟨3,0,0,true,_,J,by simp;rfl,J⟩,show(1:Nat)≠7 by decide⟩
  ·have o:=N g l e c w;have p:=N k P ae c E;omega
  all_goals
   rintro(C|⟨x,M,v,L,C⟩)
   ·simp at C
   ·simp at M;subst M;simp[eY,T.cells]at L;rcases L with rfl|rfl|rfl|rfl|rfl|rfl|rfl<;>simp at C
def CP{b:fw}(ht:b.p 31=some pk)(a:dR)(c:a.dW.length<=1000000)(d:a.dU.length<=1000000)(e:a.dC.length<=1000000)(f:a.cells.length<=1000000):rl prog cx b 31 [a.t]=some (js a).t:=gG ht Lm a ⟨c,d,e,f⟩
