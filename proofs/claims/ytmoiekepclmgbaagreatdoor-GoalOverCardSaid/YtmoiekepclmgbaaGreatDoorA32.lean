/- W19h -/
import Derived.Test.YtmoiekepclmgbaaGreatDoorA31
set_option linter.all false
set_option maxRecDepth 100000
set_option maxHeartbeats 0
namespace Go.Proofs.YtmoiekepclmgbaaGreatDoor
noncomputable section
open Go Go.TI Tryz
attribute [-simp] List.map_take List.map_drop List.map_append fU fK fh Bool.not_or Bool.not_and
attribute [simp] fT fM
section
attribute [-simp] size_cons
def F3.mf{b:ej}{c:fD}{d:gJ}(e:F3 4 c.fN)(g:kZ b)(a:iP b c d.eg=true):F3 4 (mf b c d).1.fN:=by
 have f:ju d.eg b.fq.dW.length=true:=by
  unfold iP je at a;split at a
  ·simp at a
  ·simp only[ax]at a;exact a.1.1.1.2
 unfold Go.Proofs.YtmoiekepclmgbaaGreatDoor.mf;rw[aq a];have:=fI.1 f;have:=kW g.wb;exact Av e _ D _ _ _
def AN:iy:=⟨ej×List gJ,λa=>[a.1.t,sl (a.2.map gJ.t)],λa=>kZ a.1/\a.2.length<=100000/\∃d,uN a.1 a.2 (ka a.1)=some d,λa=> .tuple [((uN a.1 a.2 (ka a.1)).getD default).t,.bool true],λa c b=>by simp at b;rw[show a=c from aD (ej.inj b.1) (jH (λ_ _=>gJ.inj) b.2)]⟩
def ZK:AN.Ok prog cx 8:=by
 refine iq [(22,AM),(23,zQ)] (jr 134342519 [] func8) (λX=>100005) (by simp[AN]) ?_;rintro⟨j,g⟩ ⟨h,hl,C,u⟩ e I;simp only at h hl u;simp[AN]at I|-;obtain⟨N,O⟩:=I;rw[u,cU];simp[f8,N,O,Xa,h];refine gu g.length D (λf e a=>∃d z,uN j (g.drop f) d=some C/\uI (1000+f) j d/\F3 4 d.fN/\iE 3 a/\a.get 0=some (dS 15 0 [j.t])/\a.get 1=some nO/\a.get 2=some (dS 9 z [d.t])/\dT e 2 (.ptr 0 0 0 0)/\dT e 4 (.ptr 1 0 0 0)/\dT e 6 (.ptr 2 0 0 0)/\dT e 13 (sl (g.map gJ.t))/\dT e 14 (G g.length)/\dT e 15 (G f)) ?_ ?_ D ⟨_,1,u,uI.start h,h.rdt,⟨Y,by simp[size_cons],Y⟩,by simp[size_cons],by simp[size_cons,nO],by simp[size_cons],Y⟩
 ·rintro f e a J P ⟨d,z,hr,v,x,c,n,i,l,H,r,s,F,o,q⟩;have Z:=c.ne (b:=0) D;have al:=c.ne (b:=2) D;rw[aH J]at hr;unfold uN at hr;split at hr;rotate_left
  ·simp at hr
  rename_i w;have R:vH j d:=⟨h,v.up D⟩;have K:=λ{W:gG} (ht:W.p 23=some zQ)=>aaT ht j d g[f] R w x;have Q:=(v.step g[f] w).up (M:=1000+(f+1)) D;have ae:=c.ne (b:=1) D;have U:∀b,b<3->(a.size=b)=False:=λb m=>by have:=c.sz;simp;omega
  have V:∀b,b<3->(b=a.size)=False:=λb m=>by have:=c.sz;simp;omega
  have S:=c.low;have T:a.low<=a.size+1:=D;simp[H,r,s,F,o,q,J,n,l,U,V,S,T,K,P];have y:∀A k B b,b<3->(fg ((a.cons A).cons k) 2 B).get b=if b=2 then some B else a.get b:=λA k B b m=>by
   have E:∀b,b<3->((a.cons A).cons k).get b=a.get b:=λb m=>by have:=c.sz;rw[ez,ao (by rw[size_cons];omega),ez,ao D]
   rw[ee ((E 2 D).trans l),E b m]
  exact⟨_,hr,Q,x.mf h w,((c.cons _).cons _).put _ _,(y _ _ _ 0 D).trans n,(y _ _ _ 1 D).trans i,_,y _ _ _ 2 D⟩
 ·rintro e a ⟨d,z,hr,v,x,c,n,i,l,H,r,s,F,o,q⟩;rw[bU]at hr;have hr:d=C:=by simpa[uN]using hr
  subst hr;unfold nO at i;have L:=λk=>(ee i k 1).trans (aq rfl);simp[r,s,o,q,i,l,L,c.hp]
def YL{e:gG}(ht:e.p 8=some AN)(a:ej)(b:List gJ)(c:fD)(f:kZ a)(hl:b.length<=100000)(d:uN a b (ka a)=some c):rl prog cx e 8 [a.t,sl (b.map gJ.t)]=some (.tuple [c.t,.bool true]):=by
 have:=iA ht ZK (a,b) ⟨f,hl,c,d⟩;simp only[AN,d,cU]at this;exact this
