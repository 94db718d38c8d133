/- W20m -/
import Derived.Test.YtmoiekepclmgbaaGreatDoorA30
set_option linter.all false
set_option maxRecDepth 100000
set_option maxHeartbeats 0
namespace Go.Proofs.YtmoiekepclmgbaaGreatDoor
noncomputable section
open Go Go.TI Tryz
attribute [-simp] List.map_take List.map_drop List.map_append fU fK fh Bool.not_or Bool.not_and
attribute [simp] fT fM
def HV:iy:=⟨Unit,λ_=>[],λ_=>True,λ_=> .bool true,λ_ _ _=>rfl⟩
def V4:HV.Ok prog cx 14:=λ_ _=>RF
def M3{a:gG}(ht:a.p 14=some HV):rl prog cx a 14 []=some (.bool true):=iA ht V4 () trivial
def AL:iy:=⟨ej×iX,λa=>[a.1.t,a.2.t],λa=>kZ a.1/\a.2.kc.length<=1000000,λa=> .bool (a.1.gx.vR a.2),λa c b=>by simp at b;rw[ej.inj b.1,iX.inj b.2]⟩
def QB{b:gG}(ht:b.p 24=some ug)(a:ej)(c:kZ a):rl prog cx b 24 [a.t]=some (.tuple [gY.t ⟨a,a.gx.st⟩,.bool true]):=iA ht Hf a c
def Sf:AL.Ok prog cx 30:=by
 refine iq [(24,ug),(26,wG)] (jr 127 [] func30) (λ_=>100) (by simp[AL]) ?_;rintro⟨c,d⟩ ⟨a,hl⟩ g b;simp only at a hl;simp[AL]at b|-;obtain⟨e,f⟩:=b;simp[f30,e,f,QB,a,Oz,(⟨a,rfl⟩:yw ⟨c,c.gx.st⟩),hl];exact GX.Vc _ d
def wK:iy:=⟨gh,λa=>[a.t],λa=>a.fj.length<=1000000/\a.done.length<=1000000/\a.dW.length<=1000000/\∀c∈a.fj,c.fF.length<=1000000,λa=>a.t,λd e b=>by simp at b;rw[gh.inj b]⟩
def V2:wK.Ok prog cx 47:=by
 rintro(a:gh) d;have⟨q,h,l,k⟩:=EM [a.t] ⟨0,0,[]⟩ ⟨a,rfl,⟨rfl,au _,au _⟩,d⟩;obtain⟨e,f,g,p,rfl,b,n⟩:=l a ⟨rfl,⟨rfl,au _,au _⟩,d⟩;have m:TI.qC h (Pb a e f g)=some a.t:=by
  unfold Pb;rw[N6];simp[b.fz.1,b.fz.2.1,b.fz.2.2]
 have⟨r,i,c⟩:=dX.1 m;simp only[ar]at c;have:=FO k n.ok.hp (aw _) (λo s j=>by simp at j) i;rw[c]at this;exact Ey (mc _ (by simp[wK])) Y this
def Uo{b:gG}(ht:b.p 47=some wK)(a:gh)(c:a.fj.length<=1000000/\a.done.length<=1000000/\a.dW.length<=1000000/\∀d∈a.fj,d.fF.length<=1000000):rl prog cx b 47 [a.t]=some a.t:=iA ht V2 a c
section
attribute [-simp] size_cons
def uz{d:gG}(ht:d.p 13=some pJ)(b:ej)(a:fD)(c:Int)(e:vH b a):rl prog cx d 13 [b.t,a.t,G c]=some (.bool (iP b a c)):=iA ht JR (b,a,c) e
def Ej:iy:=⟨ej×fD×Int,λa=>[a.1.t,a.2.1.t,G a.2.2],λa=>vH a.1 a.2.1,λa=>sl ((py a.1 a.2.1 a.2.2).map (T.int .i64)),λa c b=>by simp at b;rw[show a=c from aD (ej.inj b.1) (aD (fD.inj b.2.1) b.2.2)]⟩
def VI:Ej.Ok prog cx 20:=by
 refine iq [(33,rD),(48,ud)] (jr 34368127455 [] func20) (λy=>5) (by simp[Ej]) ?_;rintro⟨b,a,d⟩ (k:vH b a) C s;simp[Ej]at s|-;obtain⟨g,h,i⟩:=s;have hE:=py.eq_1 b a d;generalize py b a d=x at*
 have j:=λ{r:gG} (ht:r.p 33=some rD)=>IS ht b a d k.ev k.od;by_cases v:iV b a d<0
 ·rw[ao D]at hE;simp[f20,g,h,i,j,show¬0<=iV b a d by omega,hE]
  try rfl
 ·have q:=qV v;have⟨e,f,o,z,A,B⟩:=k.hw.at q;rw[oQ (fI.1 q).1 f]at hE;have u:a.fN.dW.length<=1099511627776:=by have:=k.l (qq q);omega
  have t:=λ{r:gG} (ht:r.p 48=some ud)=>BA ht a.fN e.obj u;have m:0<=iV b a d:=D;cases c:decide (e.kind=18)
  ·rw[ao (by simp at c;simp[c])]at hE;simp[f20,g,h,i,j,m,f,o,c,hE]
   try rfl
  ·by_cases n:iW e.obj a.fN.dW 0=[]
   ·rw[ao (by simp[n])]at hE;simp[f20,g,h,i,j,m,f,o,c,t,n,hE]
    try rfl
   ·rw[aq ⟨m,by simpa using c,n⟩]at hE;have w:0<(iW e.obj a.fN.dW 0).length:=List.length_pos_iff.2 n;simp[f20,g,h,i,j,m,f,o,c,t,w,hE]
def aaR{d:gG}(ht:d.p 20=some Ej)(b:ej)(a:fD)(c:Int)(e:vH b a):rl prog cx d 20 [b.t,a.t,G c]=some (sl ((py b a c).map (T.int .i64))):=iA ht VI (b,a,c) e
def afg(g:H)(a:gh)(b:Nat)(c d:List fV):Prop:=∃h e f,nS g 4 9 h [(sl (a.fj.map em.t),none),(G a.tx,none),(sl (a.done.map T.bool),none),(sl (a.dW.map dZ.t),none),(e,some (2,c.map fV.t)),(f,some (2,d.map fV.t)),(dR,none),(.arr 2 0 0 b false,some (1,(List.replicate b false).map T.bool)),(.arr 3 0 0 b false,some (1,(List.replicate b (0:Int)).map (T.int .i64)))]
def nO:jv:=(dS 9 0 [.agg [dR,G 0,dR,dR,dR,dR,dR,dR,dR]])
def xS:iy:=⟨ej,λa=>[a.t],λa=>kZ a,λa=>(ka a).t,λc d b=>by simp at b;rw[ej.inj b]⟩
def PM:xS.Ok prog cx 19:=by
 refine iq [(47,wK)] (jr 17592202821695 [(1,[(3,5),(3,7),(3,9),(3,11),(3,13)])] func19) (λ_=>1000005) (by simp[xS]) ?_;rintro(a:ej) L d v;simp[xS]at v|-;have⟨l1,l2,l3,l4,l5,l6⟩:=L.sm.l;have bi:=L.ok.len;have U:a.dY.length<=70368744177664:=D;have V:a.dY.length*8<=70368744177664:=D;have an:=λ{aE:gG} (ht:aE.p 47=some wK)=>Uo ht a.jG.fN ⟨D,D,D,λav E=>by have:=L.sm.r av E;omega⟩;have Z:ka a=⟨a.jG.fN,a.jG.cells.map λi=>⟨i,true⟩,a.jG.fa.map λi=>⟨i,true⟩,[],List.replicate a.dY.length false,List.replicate a.dY.length 0⟩:=rfl;rw[Z];simp[f19,v,an,U,V];generalize a.jG.fN=c at*
 refine gu a.jG.cells.length D (λm d g=>afg g c a.dY.length ((a.jG.cells.take m).map λi=>⟨i,true⟩) []/\Lb 4 g 0 (dS 15 0 [a.t])/\Lb 4 g 1 nO/\dT d 1 (.ptr 0 0 0 0)/\dT d 2 (.ptr 1 0 0 0)/\dT d 3 (.ptr 4 0 0 0)/\dT d 4 (G m)) ?_ ?_ D ?_
 ·rintro m d g C K ⟨⟨N,e,f,b⟩,h,q,j,o,s,u⟩;have n:=b.get;simp at n;have⟨aN,X,J,A⟩:=(b.gr 4 rfl).my (cx:=cx) (f:=fV.t) b.ok Aq rfl Bu rfl Y (λ_=>rfl) ⟨a.jG.cells[m],true⟩ dN;have⟨y,aA,F⟩:=b.app 4 rfl A;have⟨z,H⟩:=F _ rfl;simp only[aL,bw,cK,cA]at y z H;simp[j,o,s,u,C,h.get,n,J,y,eZ,A.1.iN,A.1.cells,K];exact⟨⟨_,_,_,by rw[aM C,List.map_append];exact H⟩,h.step z,q.step z⟩
 ·rintro d g ⟨⟨N,e,f,b⟩,h,q,j,o,s,u⟩;rw[aI]at b;simp[j,u,h.get];refine gu a.jG.fa.length D (λm d g=>afg g c a.dY.length (a.jG.cells.map λi=>⟨i,true⟩) ((a.jG.fa.take m).map λi=>⟨i,true⟩)/\Lb 4 g 0 (dS 15 0 [a.t])/\Lb 4 g 1 nO/\dT d 1 (.ptr 0 0 0 0)/\dT d 2 (.ptr 1 0 0 0)/\dT d 3 (.ptr 4 0 0 0)/\dT d 5 (G m)) ?_ ?_ D ⟨⟨_,_,_,b⟩,h,q,by simp[j,o,s]⟩
  ·rintro m d g C K ⟨⟨N,e,f,b⟩,h,q,j,o,s,u⟩;have n:=b.get;simp at n;have⟨aN,X,J,A⟩:=(b.gr 5 rfl).my (cx:=cx) (f:=fV.t) b.ok Aq rfl Bu rfl Y (λ_=>rfl) ⟨a.jG.fa[m],true⟩ dN;have⟨y,aA,F⟩:=b.app 5 rfl A;have⟨z,H⟩:=F _ rfl;simp only[aL,bw,cK,cA]at y z H;simp[j,o,s,u,C,h.get,n,J,y,eZ,A.1.iN,A.1.cells,K];exact⟨⟨_,_,_,by rw[aM C,List.map_append];exact H⟩,h.step z,q.step z⟩
  ·rintro d g ⟨⟨N,e,f,b⟩,h,q,j,o,s,u⟩;rw[aI]at b;have n:=b.get;simp at n;have M:=q.get;unfold nO at M;have I:=b.qh q (dS 9 1 [.agg [sl (c.fj.map em.t),G c.tx,sl (c.done.map T.bool),sl (c.dW.map dZ.t),e,f,dR,.arr 2 0 0 a.dY.length false,.arr 3 0 0 a.dY.length false]]);have W:(fg g 1 (dS 9 1 [.agg [sl (c.fj.map em.t),G c.tx,sl (c.done.map T.bool),sl (c.dW.map dZ.t),e,f,dR,.arr 2 0 0 a.dY.length false,.arr 3 0 0 a.dY.length false]])).get 1=_:=(ee M _ 1).trans (aq rfl);have aX:=(I.gr 4 rfl).fz Y;have a6:=(I.gr 5 rfl).fz Y;have a7:=(I.gr 7 rfl).fz Y;have a8:=(I.gr 8 rfl).fz Y;simp[j,o,s,u,h.get,n,M,eZ,W,aX,a6,a7,a8,-List.map_replicate,-wY];exact⟨b.ok.hp,by unfold fD.t fD.cs;simp[-List.map_replicate]⟩
 ·have R:∀(w:Nat) (B:T×aa (Nat×List T)),([(sl (c.fj.map em.t),none),(G c.tx,none),(sl (c.done.map T.bool),none),(sl (c.dW.map dZ.t),none),(dR,some (2,[])),(dR,some (2,[])),(dR,none),(.arr 2 0 0 a.dY.length false,some (1,(List.replicate a.dY.length false).map T.bool)),(.arr 3 0 0 a.dY.length false,some (1,(List.replicate a.dY.length (0:Int)).map (T.int .i64)))]:List (T×aa (Nat×List T)))[w]? =some B->∀e,eG B.1=some e->e+5=w:=by
   intro w B v e al;rcases w with _|_|_|_|_|_|_|_|_|w<;>simp at v<;>subst v<;>simp at al<;>omega
  refine⟨⟨1,dR,dR,⟨Y,Y,Y⟩,Y,λf O=>?_,λw k ap B S v ae e y F=>ap ?_⟩,⟨Y,?_⟩,⟨by simp[nO],?_⟩,Y⟩
  ·simp only[cu,cO,or_false,bw,List.take_zero]at O;rcases O with rfl|rfl|rfl|rfl|rfl|rfl|rfl|rfl|rfl
   iterate 4 (show eG _=none;simp)
   ·exact⟨Gr.nil _ _,dP⟩
   ·exact⟨Gr.nil _ _,dP⟩
   ·show eG _=none;simp
   ·exact⟨.inr ⟨2,0,0,true,_,Y,by simp;rfl,Y⟩,show(1:Nat)≠9 by decide⟩
   ·exact⟨.inr ⟨3,0,0,true,_,Y,by simp;rfl,Y⟩,show(1:Nat)≠9 by decide⟩
  ·have j:=R w B (by simpa using v) e y;have o:=R k S (by simpa using ae) e F;omega
  all_goals
   rintro(E|⟨x,Q,i,P,E⟩)
   ·simp at E
   ·simp at Q;subst Q;simp[gH,T.cells]at P;rcases P with rfl|rfl|rfl|rfl|rfl|rfl|rfl|rfl|rfl<;>simp at E
def Ua{b:gG}(ht:b.p 19=some xS)(a:ej)(c:kZ a):rl prog cx b 19 [a.t]=some (ka a).t:=iA ht PM a c
def ID(b:ej)(c:fD)(a:Int):Bool:=decide (iV b c (lL b.dY a).eg=a)&&(!decide ((lL b.dY a).kind=17)||decide ((pQ c.fN (lL b.dY a).eg).jf=4))
def Wh{a:List Int}{c:Int}(b:a.getLast?=some c):0<a.length/\a[a.length-1]? =some c:=by
 rw[List.getLast?_eq_getElem?]at b;refine⟨?_,b⟩;cases a with
 |nil=>simp at b
 |cons=>simp
def W8{c:gG}(ht:c.p 30=some AL)(b:ej)(a:iX)(d:kZ b)(hl:a.kc.length<=1000000):rl prog cx c 30 [b.t,a.t]=some (.bool (b.gx.vR a)):=iA ht Sf (b,a) ⟨d,hl⟩
def r8(b:ej)(c:fD)(a:Int):Bool:=ju a b.dY.length&&decide (iV b c (lL b.dY a).eg=a)
def uc(b:ej)(c:fD)(a:Int):Bool:=ju a b.dY.length&&Dy b c a
def yF:iy:=⟨ej×fD×Int,λa=>[a.1.t,a.2.1.t,G a.2.2],λa=>vH a.1 a.2.1,λa=> .bool (r8 a.1 a.2.1 a.2.2),λa c b=>by simp at b;rw[show a=c from aD (ej.inj b.1) (aD (fD.inj b.2.1) b.2.2)]⟩
def Sv:yF.Ok prog cx 69:=by
 refine iq [(55,vn)] (jr 95 [] func69) (λr=>5) (by simp[yF]) ?_;rintro⟨c,g,a⟩ (j:vH c g) x i;simp[yF]at i|-;obtain⟨d,e,f⟩:=i;cases b:ju a c.dY.length with
 |false=>
  have v:=qW b;by_cases k:0<=a
  ·simp[f69,d,e,f,r8,b,show decide (0<=a)=true by simpa using k,show decide (a<(c.dY.length:Int))=false by simp;omega]
  ·simp[f69,d,e,f,r8,b,show decide (0<=a)=false by simpa using k]
 |true=>
  have⟨m,h,n,s,t,u⟩:=j.hw.at b;have⟨l,w⟩:=fI.1 b;have o:=λ{q:gG} (ht:q.p 55=some vn)=>M0 ht c g m.eg j;simp[f69,d,e,f,r8,b,show decide (0<=a)=true by simpa using l,show decide (a<(c.dY.length:Int))=true by simp;omega,h,n,o,oQ l h]
def DO{d:gG}(ht:d.p 69=some yF)(b:ej)(a:fD)(c:Int)(e:vH b a):rl prog cx d 69 [b.t,a.t,G c]=some (.bool (r8 b a c)):=iA ht Sv (b,a,c) e
def AP:iy:=⟨ej×fD×Int,λa=>[a.1.t,a.2.1.t,G a.2.2],λa=>vH a.1 a.2.1,λa=> .bool (uc a.1 a.2.1 a.2.2),λa c b=>by simp at b;rw[show a=c from aD (ej.inj b.1) (aD (fD.inj b.2.1) b.2.2)]⟩
def Sr:AP.Ok prog cx 68:=by
 refine iq [(69,yF),(54,qT)] (jr 95 [] func68) (λo=>5) (by simp[AP]) ?_;rintro⟨a,b,c⟩ (e:vH a b) s k;simp[AP]at k|-;obtain⟨g,h,i⟩:=k;have j:uc a b c=(r8 a b c&&iP a b (lL a.dY c).eg):=by unfold uc r8 Dy;rw[Bool.and_assoc]
 cases d:r8 a b c
 ·simp[f68,g,h,i,DO,e,j,d]
 ·have l:ju c a.dY.length=true:=by unfold r8 at d;simp only[ax]at d;exact d.1
  have⟨p,f,m,q,n,r⟩:=e.hw.at l;simp[f68,g,h,i,DO,e,j,d,f,m,HA,n,oQ (fI.1 l).1 f]
def OG{d:gG}(ht:d.p 68=some AP)(b:ej)(a:fD)(c:Int)(e:vH b a):rl prog cx d 68 [b.t,a.t,G c]=some (.bool (uc b a c)):=iA ht Sr (b,a,c) e
def Og(c:ej)(a:fD)(b:Int):Bool:=r8 c a b&&ID c a b
def ot(g:ej)(f:fD)(e:iX):Bool:=
 if e.kind=1 then uc g f e.a&&uc g f e.b
 else if e.kind=2 then e.kc.all (Og g f)
 else if e.kind=3 then decide (f.order.getLast?=some e.b)&&decide (e.a∈f.order)&&I7 f e.a
 else if e.kind=4 then decide (0<=place f e.a)&&decide (place f e.a<place f e.c)&&decide (e.d∈f.order)&&uc g f e.b
 else false
def xU:iy:=⟨ej×fD×iX,λa=>[a.1.t,a.2.1.t,a.2.2.t],λa=>vH a.1 a.2.1/\a.2.2.kc.length<=1000000,λa=> .bool (ot a.1 a.2.1 a.2.2),λa c b=>by simp at b;rw[show a=c from aD (ej.inj b.1) (aD (fD.inj b.2.1) (iX.inj b.2.2))]⟩
def PR:xU.Ok prog cx 29:=by
 refine iq [(68,AP),(69,yF),(70,oK),(71,wJ)] (jr 332306998946231919705005790102318975 [] func29) (λa6=>1000005) (by simp[xU]) ?_;rintro⟨h,d,c⟩ ⟨k,hl⟩ q O;simp only at k hl;simp[xU]at O|-;obtain⟨m,n,o⟩:=O;have hE:=ot.eq_1 h d c;generalize ot h d c=U at*
 have H:=k.od;by_cases e:c.kind=1
 ·rw[aq e]at hE;simp[f29,m,n,o,show decide (c.kind=1)=true by simpa using e,OG,k,hE]
 rw[ao e]at hE;have r:decide (c.kind=1)=false:=by simpa using e
 by_cases e:c.kind=2
 ·rw[aq e]at hE;have l:decide (c.kind=2)=true:=by simpa using e
  simp[f29,m,n,o,r,l];refine gu c.kc.length D (λi q w=>iE 3 w/\w.get 0=some (dS 15 0 [h.t])/\w.get 1=some (dS 9 0 [d.t])/\dT q 3 (.ptr 0 0 0 0)/\dT q 4 (.ptr 1 0 0 0)/\dT q 31 (sl (c.kc.map (T.int .i64)))/\dT q 32 (G c.kc.length)/\dT q 33 (G i)/\(c.kc.drop i).all (Og h d)=U) ?_ ?_ D ⟨⟨Y,Y,Y⟩,Y,Y,by simp[hE]⟩
  ·rintro i q w J an ⟨p,z,A,B,E,C,x,y,f⟩;rw[aH J,cB]at f;have ae:Og h d c.kc[i]=(r8 h d c.kc[i]&&ID h d c.kc[i]):=rfl;rw[ae]at f;have aN:=p.ne (b:=0) D;have v:=p.ne (b:=1) D;cases g:r8 h d c.kc[i]with
   |false=>
    rw[g]at f;simp at f;simp[z,A,B,E,C,x,y,J,DO,k,g,p.hp,f]
   |true=>
   rw[g,bg]at f;have j:ju c.kc[i] h.dY.length=true:=by unfold r8 at g;simp only[ax]at g;exact g.1
   have⟨u,I,W,a7,N,a8⟩:=k.hw.at j;have al:ID h d c.kc[i]=(decide (iV h d u.eg=c.kc[i])&&(!decide (u.kind=17)||decide ((pQ d.fN u.eg).jf=4))):=by
    unfold ID;rw[oQ (fI.1 j).1 I]
   have aE:decide (iV h d u.eg=c.kc[i])=true:=by unfold r8 at g;simp only[ax]at g;rw[oQ (fI.1 j).1 I]at g;exact g.2
   rw[al,aE,bg]at f;have P:=k.hc.ft (qq j);have⟨Q,t1,t2,t3⟩:=BQ P N;have ap:decide ((d.fN.dW.length:Int)<=u.eg)=false:=by rw[(mF P).2.2];have:=fI.1 N;simp;omega
   rw[t3]at f;simp[z,A,B,E,C,x,y,J,DO,k,g,I,W,v,p.low,t1,t2,ap];refine fw (λav=>?_) (λav=>?_)
   ·rw[show(!decide (u.kind=17)||decide (Q.jf=4))=false by grind]at f;simp at f;simp[p.hp,f]
   ·rw[show(!decide (u.kind=17)||decide (Q.jf=4))=true by grind]at f;simp at f;simp[z,A,B,E,C,x,y,aN,v,an,p.cons,f]
  ·rintro q w ⟨p,z,A,B,E,C,x,y,f⟩;rw[bU]at f;simp at f;simp[x,y,p.hp,f]
 rw[ao e]at hE;have l:decide (c.kind=2)=false:=by simpa using e
 by_cases e:c.kind=3
 ·rw[aq e]at hE;have s:decide (c.kind=3)=true:=by simpa using e
  have bn:d.pZ.length=h.dY.length:=k.hc.wk;cases F:d.order.getLast? with
  |none=>
   have aA:d.order=[]:=by simpa using F
   rw[F]at hE;simp at hE;simp[f29,m,n,o,r,l,s,aA,hE]
  |some R=>
   have⟨v,K⟩:=Wh F;rw[F]at hE;have aX:decide (some R=some c.b)=decide (R=c.b):=Y;rw[aX]at hE;have L:binop .sub (G (d.order.length:Int)) (G 1)=some (G ((d.order.length-1:Nat):Int)):=by rw[lJ D D,show(d.order.length:Int)-1=((d.order.length-1:Nat):Int)by omega]
   cases j:ju c.a d.pZ.length with
   |false=>
    have bi:=qW j;have M:I7 d c.a=false:=by unfold I7;rw[oS j];rfl
    rw[M,Bool.and_false]at hE;by_cases g:0<=c.a
    ·simp[f29,m,n,o,r,l,s,v,K,L,pY,H,show decide (0<=c.a)=true by simpa using g,show decide (c.a<(d.pZ.length:Int))=false by simp;omega,hE]
    ·simp[f29,m,n,o,r,l,s,v,K,L,pY,H,show decide (0<=c.a)=false by simpa using g,hE]
   |true=>
    have⟨S,X,Z⟩:=iU j;have⟨p1,p2⟩:=fI.1 j;have M:I7 d c.a=decide (S=0):=by unfold I7;rw[Z];simp
    rw[M]at hE;simp[f29,m,n,o,r,l,s,v,K,L,pY,H,show decide (0<=c.a)=true by simpa using p1,show decide (c.a<(d.pZ.length:Int))=true by simp;omega,fy p1,X,hE]
 rw[ao e]at hE;have s:decide (c.kind=3)=false:=by simpa using e
 by_cases e:c.kind=4
 ·rw[aq e]at hE;have V:decide (c.kind=4)=true:=by simpa using e
  simp[f29,m,n,o,r,l,s,V,OI,pY,OG,k,H,hE];rfl
 ·rw[ao e]at hE;simp[f29,m,n,o,r,l,s,show decide (c.kind=4)=false by simpa using e,hE]
def Uc{d:gG}(ht:d.p 29=some xU)(c:ej)(a:fD)(b:iX)(e:vH c a)(hl:b.kc.length<=1000000):rl prog cx d 29 [c.t,a.t,b.t]=some (.bool (ot c a b)):=iA ht PR (c,a,b) ⟨e,hl⟩
def uQ:iy:=⟨ej×fD×iX,λa=>[a.1.t,a.2.1.t,a.2.2.t],λa=>vH a.1 a.2.1/\a.2.2.kc.length<=1000000,λa=> .bool (ot a.1 a.2.1 a.2.2&&a.1.gx.vR a.2.2),λa c b=>by simp at b;rw[show a=c from aD (ej.inj b.1) (aD (fD.inj b.2.1) (iX.inj b.2.2))]⟩
def SH:uQ.Ok prog cx 10:=by
 refine iq [(29,xU),(30,AL)] (jr 127 [] func10) (λf=>5) (by simp[uQ]) ?_;rintro⟨j,g,h⟩ ⟨a,hl⟩ i b;simp only at a hl;simp[uQ]at b|-;obtain⟨c,d,e⟩:=b;simp[f10,c,d,e,Uc,W8,a,a.hw,hl]
def OJ{d:gG}(ht:d.p 10=some uQ)(b:ej)(c:fD)(a:iX)(e:vH b c)(hl:a.kc.length<=1000000):rl prog cx d 10 [b.t,c.t,a.t]=some (.bool (ot b c a&&b.gx.vR a)):=iA ht SH (b,c,a) ⟨e,hl⟩
@[simp]def ai9 (a:Nat):(a+1+1=a)=False:=dN 
@[simp]def ai8 (a:Nat):(a+1+1+1=a)=False:=dN 
@[simp]def ai7 (a:Nat):(a+1+1+1+1=a)=False:=dN 
@[simp]def ai6 (a:Nat):(a+1+1+1+1+1=a)=False:=dN 
@[simp]def ai5 (a:Nat):(a+1+1+1+1+1+1=a)=False:=dN 
@[simp]def aiZ (a:Nat):(a=a+1+1+1+1+1+1)=False:=dN 
@[simp]def aiY (a:Nat):(a=a+1+1+1+1+1+1+1)=False:=dN 
def Bx(e:H)(a b f:Nat)(c:List T):Prop:=∃g d,e.get a=some ⟨f,b,g,d,false,c⟩
def Bx.mono{d h':H}{a b e:Nat}{c:List T}(j:Bx d a b e c)(g:h'.get a=d.get a):Bx h' a b e c:=by obtain⟨i,f,h⟩:=j;exact⟨i,f,g.trans h⟩
def Bx.gr{d:H}{b c e:Nat}{a:List T}(g:Bx d b c e a):Gr d (.arr b c 0 a.length false) e a:=by obtain⟨i,h,f⟩:=g;exact Gr.new f
def RO(a:fD)(b:List T)(c:H):Prop:=b=[a.t]/\iE 0 c/\(a.fN.fj.length<=1000000/\a.fN.done.length<=1000000/\a.fN.dW.length<=1000000/\∀d∈a.fN.fj,d.fF.length<=1000000)/\a.cells.length<=1000000/\a.fa.length<=1000000/\a.order.length<=1000000/\a.fixed.length<=1000000/\a.pZ.length<=1000000
def YK(a:fD)(b c d e f g:Nat):T:= .agg [sl (a.fN.fj.map em.t),G a.fN.tx,sl (a.fN.done.map T.bool),sl (a.fN.dW.map dZ.t),.arr b c 0 a.cells.length false,.arr (b+1) d 0 a.fa.length false,.arr (b+1+1) e 0 a.order.length false,.arr (b+1+1+1) f 0 a.fixed.length false,.arr (b+1+1+1+1) g 0 a.pZ.length false]
structure U1(c:fD)(n e1 e2 e3 e4 e5:Nat)(h':H):Prop where
 bc:Bx h' n e1 2 (c.cells.map fV.t)
 bf:Bx h' (n+1) e2 2 (c.fa.map fV.t)
 bo:Bx h' (n+1+1) e3 1 (ij c.order)
 bx:Bx h' (n+1+1+1) e4 1 (c.fixed.map T.bool)
 bk:Bx h' (n+1+1+1+1) e5 1 (ij c.pZ)
 bz:n+5<=h'.size
def NI(b:fD)(k:List T)(h:H)(j:T)(i:H):Prop:=∃a c d e f g,h.size<=a/\Nb h i/\j=YK b a c d e f g/\U1 b a c d e f g i
def xK{b c:H}{x:jv}(e:∀a,a<b.size->c.get a=b.get a)(f:c.size=b.size+1)(a:Nat)(d:(a=b.size)=False):fQ (b.cons x) c a=true:=by
 rcases Nat.lt_trichotomy a b.size with q|q|q
 ·exact fZ ((e a q).trans (by rw[ez,ao D]))
 ·exact(d▸q:False).elim
 ·exact jw (mv _ dN)
def ST:(jY fD RO NI).Ok prog cx 49:=by
 refine jV (tb:=⟨pt [(47,wK)],ht []⟩) jg iT (jr 7 [(1,[(2,3),(2,5),(2,7),(6,7),(2,9),(6,9),(2,11),(6,11),(10,11),(2,13),(6,13),(10,13),(2,15),(6,15),(10,15),(14,15),(2,17),(6,17),(10,17),(14,17),(2,19),(6,19),(10,19),(14,19),(18,19),(2,21),(6,21),(10,21),(14,21),(18,21)])] func49) (λ_ _=>20) (λi a b a8=>by obtain⟨rfl,_⟩:=a8;simp[f49]) ?_;rintro c _ b ⟨rfl,bC,bi,l1,l2,l3,l4,l5⟩ cX M;simp at M;have A:=bC.hr;have a6:=λ{tb:gG} (ht:tb.p 47=some wK)=>Uo ht c.fN bi;have⟨f,g⟩:∃f:H,f=((TI.hr b).cons (dS 9 0 [c.t])).cons nO:=⟨_,rfl⟩;have bT:iE 0 f:=by subst g;exact(A.cons _).cons _
 have Z:f.size=b.size+1+1:=by subst g;rfl
 have bB:Nb b f:=by subst g;exact⟨(((Nb.refl A).cons _).cons _).ok,λc aX=>((((Nb.refl A).cons _).cons _).get c aX).trans (iI b c)⟩
 have aA:f.get b.size=some (dS 9 0 [c.t]):=by subst g;simp
 have aE:f.get (b.size+1)=some nO:=by subst g;simp
 have⟨ae,c1,B,⟨bX,ca,gA⟩,n,u,bH⟩:=kQ (cx:=cx) (sz:=2) bT (x:=sl (c.cells.map fV.t)) (xs:=c.cells.map fV.t) Aq rfl Bu Aq rfl rfl Y Y Y dN;have⟨al,c4,C,⟨b6,cb,J⟩,o,m,okB⟩:=kQ (cx:=cx) (sz:=2) bH (x:=sl (c.fa.map fV.t)) (xs:=c.fa.map fV.t) Aq rfl Bu Aq rfl rfl Y Y Y dN;have⟨an,c6,E,⟨b7,cp,gC⟩,q,k,bN⟩:=kQ (cx:=cx) (sz:=1) okB (x:=sl (ij c.order)) (xs:=ij c.order) kx rfl mP kx rfl rfl Y Y (by simp[T.cells]) dN;have⟨ap,c7,F,⟨b8,cF,K⟩,r,h,PW⟩:=kQ (cx:=cx) (sz:=1) bN (x:=sl (c.fixed.map T.bool)) (xs:=c.fixed.map T.bool) Cu rfl KS Cu rfl rfl Y Y (λe a7=>by obtain⟨d,_,rfl⟩:=List.mem_map.1 a7;rfl) dN;have⟨av,W,I,⟨b9,cL,L⟩,X,j,bS⟩:=kQ (cx:=cx) (sz:=1) PW (x:=sl (ij c.pZ)) (xs:=ij c.pZ) kx rfl mP kx rfl rfl Y Y (by simp[T.cells]) dN;have R:=xK (x:=(dS 2 0 [])) u n;have S:=xK (x:=(dS 2 0 [])) m o;have U:=xK (x:=(dS 1 0 [])) k q;have V:=xK (x:=(dS 1 0 [])) h r;have bW:=xK (x:=(dS 1 0 [])) j X;rw[Z]at n;rw[n]at o;rw[o]at q;rw[q]at r;rw[r]at X;have N:=(u b.size D).trans aA;have O:=(m b.size D).trans N;have P:=(k b.size D).trans O;have bn:=(h b.size D).trans P;have bp:=(u (b.size+1) D).trans aE;have bs:=(m (b.size+1) D).trans bp;have bu:=(k (b.size+1) D).trans bs;have bA:=(h (b.size+1) D).trans bu;have s:=(j (b.size+1) D).trans bA;simp only[Z,aG]at B gA R;simp only[n,aG]at C J S;simp only[o,aG]at E gC U;simp only[q,aG]at F K V;simp only[r,aG]at I L bW;unfold nO at g s;simp[f49,M,a6];rw[<-g];have aN:=λy=>(ee s y (b.size+1)).trans (aq rfl);simp[N,O,P,bn,B,C,E,F,I,R,S,U,V,n,o,q,r,s,aN];generalize w:fg W (b.size+1) _=v;have l:∀d,d≠b.size+1->(mK b v).get d=W.get d:=λd z=>by rw[il,<-w,ee s,ao z]
 have Q:iE 0 v:=by rw[<-w];exact bS.put _ _
 have c9:(mK b v).size=b.size+7:=by rw[wa,<-w,ig];omega
 exact⟨b.size+1+1,ae,al,an,ap,av,D,⟨⟨(Q.out b).hp,(Q.out b).low,D⟩,λd z=>(l d D).trans ((j d D).trans ((h d D).trans ((k d D).trans ((m d D).trans ((u d D).trans (bB.get d z))))))⟩,rfl,
  ⟨bX,ca,(l _ D).trans ((j _ D).trans ((h _ D).trans ((k _ D).trans ((m _ D).trans gA))))⟩,
  ⟨b6,cb,(l _ D).trans ((j _ D).trans ((h _ D).trans ((k _ D).trans J)))⟩,
  ⟨b7,cp,(l _ D).trans ((j _ D).trans ((h _ D).trans gC))⟩,⟨b8,cF,(l _ D).trans ((j _ D).trans K)⟩,⟨b9,cL,(l _ D).trans L⟩,D⟩
def pO(a:fD)(b c d e f:T):List (T×aa (Nat×List T)):=[(sl (a.fN.fj.map em.t),none),(G a.fN.tx,none),(sl (a.fN.done.map T.bool),none),(sl (a.fN.dW.map dZ.t),none),(b,some (2,a.cells.map fV.t)),(c,some (2,a.fa.map fV.t)),(d,some (1,ij a.order)),(e,some (1,a.fixed.map T.bool)),(f,some (1,ij a.pZ))]
def U1.iD{c:fD}{S:gh}{a i j k l m ver:Nat}{h:H}(g:U1 c a i j k l m h)(C:iE 0 h)(K:1<a)(z:h.get 1=some (dS 9 ver [.agg [sl (S.fj.map em.t),G S.tx,sl (S.done.map T.bool),sl (S.dW.map dZ.t),.arr a i 0 c.cells.length false,.arr (a+1) j 0 c.fa.length false,.arr (a+1+1) k 0 c.order.length false,.arr (a+1+1+1) l 0 c.fixed.length false,.arr (a+1+1+1+1) m 0 c.pZ.length false]])):
 nS h 1 9 ver (pO {c with fN:=S} (.arr a i 0 c.cells.length false) (.arr (a+1) j 0 c.fa.length false) (.arr (a+1+1) k 0 c.order.length false) (.arr (a+1+1+1) l 0 c.fixed.length false) (.arr (a+1+1+1+1) m 0 c.pZ.length false))/\∀d,Fp h 1 d->d=1\/(a<=d/\d<a+5):=by
 have s:∀(b:Nat) (f:T×aa (Nat×List T)),(pO {c with fN:=S} (.arr a i 0 c.cells.length false) (.arr (a+1) j 0 c.fa.length false) (.arr (a+1+1) k 0 c.order.length false) (.arr (a+1+1+1) l 0 c.fixed.length false) (.arr (a+1+1+1+1) m 0 c.pZ.length false))[b]? =some f->∀d,eG f.1=some d->d+4=a+b/\b<9:=by
  intro b f n d q;unfold pO at n;rcases b with _|_|_|_|_|_|_|_|_|b<;>simp at n<;>subst n<;>simp at q<;>omega
 have w:nS h 1 9 ver (pO {c with fN:=S} (.arr a i 0 c.cells.length false) (.arr (a+1) j 0 c.fa.length false) (.arr (a+1+1) k 0 c.order.length false) (.arr (a+1+1+1) l 0 c.fixed.length false) (.arr (a+1+1+1+1) m 0 c.pZ.length false)):=by
  refine⟨C,z,λu o=>?_,λb B A f x n y d e E=>A ?_⟩
  ·simp only[pO,cu,cO,or_false]at o;rcases o with rfl|rfl|rfl|rfl|rfl|rfl|rfl|rfl|rfl
   iterate 4 (show eG _=none;simp)
   ·exact⟨by simpa using g.bc.gr,show(2:Nat)≠9 by decide⟩
   ·exact⟨by simpa using g.bf.gr,show(2:Nat)≠9 by decide⟩
   ·exact⟨by simpa using g.bo.gr,show(1:Nat)≠9 by decide⟩
   ·exact⟨by simpa using g.bx.gr,show(1:Nat)≠9 by decide⟩
   ·exact⟨by simpa using g.bk.gr,show(1:Nat)≠9 by decide⟩
  ·have F:=s b f n d e;have I:=s B x y d E;omega
 refine⟨w,λd q=>?_⟩;rcases q with e|⟨M,r,L,v,e⟩
 ·exact .inl e
 ·rw[w.get]at r;simp only[ar]at r;subst r;simp only[gH,bm,cC,bG,T.cells]at v;obtain⟨u,o,rfl⟩:=List.mem_map.1 v;have⟨b,p⟩:=cN o;have:=s b u p d e;have J:4<=b:=by
   rcases b with _|_|_|_|b
   iterate 4 (simp[pO]at p;subst p;simp at e)
   omega
  omega
def aeg{b a:Nat}{c:H}{f:jv}(d:Lb b c a f):b≠a:=λe=>d.nf (.inl e.symm)
def yj{e d a:Nat}{b:H}{i y f:jv}(h:Lb e b a f)(c:Lb e b d i)(g:a≠d):Lb e (fg b d y) a f:=
 h.md (by rw[ee c.get,ao (aeg c)]) (by rw[ee c.get,ao g])
def Ts{d c:Nat}{a:H}{g:jv}(b:Lb d a c g)(e:jv):Lb d (fg a c e) c e:=
 ⟨by rw[ee b.get,aq rfl],by
   have f:(fg a c e).get d=a.get d:=by rw[ee b.get,ao (aeg b)]
   rw[jt f];exact b.nf⟩
def Tt{b h i:Nat}{f:List (T×aa (Nat×List T))}{a:H}(e:nS a b h i f)(c:jv):Lb b (a.cons c) a.size c:=
 ⟨Y,λd=>by
   have g:(a.cons c).get b=a.get b:=by rw[ez,ao (by have:=e.lt;omega)]
   rw[jt g]at d;have:=e.fp _ d;omega⟩
def N8{b:List fV}{c d:Int}{a:fV}(f:qJ b c=some a):fixC b c d=(a.known&&decide (a.value=d)):=by
 unfold fixC;rw[f];obtain⟨g,e⟩:=a;cases e<;>simp
def yD:iy:=⟨ej×fD×gJ,λa=>[a.1.t,a.2.1.t,a.2.2.t],λa=>vH a.1 a.2.1,λa=> .tuple [(mf a.1 a.2.1 a.2.2).1.t,.bool (mf a.1 a.2.1 a.2.2).2],λa c b=>by simp at b;rw[show a=c from aD (ej.inj b.1) (aD (fD.inj b.2.1) (gJ.inj b.2.2))]⟩
def J19(b:fD)(a:H):Prop:=∃h c d e f g,nS a 1 9 h (pO b c d e f g)/\Lb 1 a 3 nO
def Sj:yD.Ok prog cx 21:=by
 refine y9 (tb:=⟨pt [(13,pJ),(33,rD),(35,pR),(50,sK)],ht [(49,jY fD RO NI)]⟩) jg iT (jr 184680779068091373590541728903436752898777087 [] func21) (λ_=>100) (by simp[yD]) nl9 ?_;rintro⟨j,c,e⟩ (b:vH j c) A eF;simp[yD]at eF|-;obtain⟨eC,F,Q⟩:=eF;have bB:=mf.eq_1 j c e;cases ap:iP j c e.eg with
 |false=>
  rw[ap,ao Y]at bB;simp[f21,eC,F,Q,uz,b,ap,bB];rfl
 |true=>
 rw[aq ap]at bB;have hE:=iP.eq_1 j c e.eg;have eH:¬iV j c e.eg<0:=λq=>by rw[aq q,ap]at hE;simp at hE
 rw[ao eH,ap]at hE;have N:=qV eH;have⟨a,c4,bp,gz,gB,bW⟩:=b.hw.at N;rw[oQ (fI.1 N).1 c4]at bB hE;have e9:je j.fq c.fN e.eg a.kind a.obj=true:=by
  cases q:je j.fq c.fN e.eg a.kind a.obj
  ·rw[q]at hE;simp at hE
  ·rfl
 have fb:=b.hw.ev a (ay c4);have fo:=λ{tb:gG} (ht:tb.p 33=some rD)=>IS ht j c e.eg b.ev b.od;have ff:=λ{tb:gG} (ht:tb.p 35=some pR)=>Hz ht j c e.eg a.tQ b.ev fb.2;have gI:=b.l (qq N);have e8:j.fq.iB.length<=1099511627776:=by have:=kW b.hw.wb;omega
 have e6:=λ{tb:gG} (ht:tb.p 50=some sK)=>K5 ht j.fq c.fN e.eg a.kind a.obj e.rL e8 ⟨D,D,D,b.hc.rd,b.hc.BL⟩ e9;rw[bB];generalize gF:iV j c e.eg=u at*
 generalize fe:mN j c e.eg a.tQ=c9 at*
 simp[f21,eC,F,Q,uz,b,ap,fo,c4,bp,ff];generalize R:H.cons _ _=X;have fS:iE 0 X:=by rw[<-R];exact⟨Y,Y,Y⟩
 have gy:X.size=5:=by rw[<-R];rfl
 have fX:X.get 0=some (dS 15 0 [j.t]):=by rw[<-R];simp
 have fY:X.get 1=some (dS 9 0 [c.t]):=by rw[<-R];simp
 have gd:X.get 2=some (dS 2 0 [e.t]):=by rw[<-R];simp
 have gg:X.get 3=some nO:=by rw[<-R];simp[nO]
 have gi:X.get 4=some (dS 7 1 [a.t]):=by rw[<-R];simp
 clear R;refine jm ST Y c ⟨rfl,fS,⟨D,D,D,b.hc.rd⟩,by have:=b.hc.ce (qq N);have:=kW b.hw.wb;omega,by have:=b.hc.fu (qq N);have:=kW b.hw.wb;omega,b.od,by have:=b.hc.fx;have:=b.ev;omega,by have:=b.hc.wk;have:=b.ev;omega⟩ ?_;rintro _ W ⟨n,p1,p2,p3,p4,p5,fs,ae,rfl,U⟩;rw[gy]at fs;have a0:=(ae.get 0 D).trans fX;have a1:=(ae.get 1 D).trans fY;have a2:=(ae.get 2 D).trans gd;have a3:=(ae.get 3 D).trans gg;have a4:=(ae.get 4 D).trans gi;have x:=λy=>(ee a1 y 1).trans (aq rfl);have go:=λy g (e7:(g=1)=False)=>(ee a1 y g).trans (ao (by simp[e7]));simp[YK,a0,a1,a2,a4,x,go,eZ,e6];generalize an:fg (H.cons _ _) W.size _=M;have b6:iE 0 W:=⟨ae.ok.hp,ae.ok.low,aw _⟩;have gP:=U.bz;have okB:iE 0 M:=by rw[<-an];exact((b6.put _ _).cons _).put _ _
 have e0:M.size=W.size+1:=by rw[<-an,ig];simp[size_cons]
 have er:M.get W.size=some (dS 4 1 [(fO j.fq c.fN e.eg a.kind a.obj e.rL).1.t]):=by rw[<-an,nM ((b6.put _ _).cons _).hp (by simp[size_cons]),aq rfl]
 have E:∀g,g<W.size->g≠1->M.get g=W.get g:=λg F Q=>by
  rw[<-an,nM ((b6.put _ _).cons _).hp (by simp[size_cons]),ao D,ez,ao dN,ee a1,ao Q]
 have bT:M.get 1=some (dS 9 1 [.agg [sl (c.fN.fj.map em.t),G c.fN.tx,sl (c.fN.done.map T.bool),sl (c.fN.dW.map dZ.t),.arr n p1 0 c.cells.length false,.arr (n+1) p2 0 c.fa.length false,.arr (n+1+1) p3 0 c.order.length false,.arr (n+1+1+1) p4 0 c.fixed.length false,.arr (n+1+1+1+1) p5 0 c.pZ.length false]]):=by
  rw[<-an,nM ((b6.put _ _).cons _).hp (by simp[size_cons]),ao D,ez,ao dN];exact x _
 have ec:=(E 0 D D).trans a0;have ef:=(E 2 D D).trans a2;have eh:=(E 3 D D).trans a3;have eo:=(E 4 D D).trans a4;have al:U1 c n p1 p2 p3 p4 p5 M:=⟨U.bc.mono (E _ D D),U.bf.mono (E _ D D),U.bo.mono (E _ D D),U.bx.mono (E _ D D),U.bk.mono (E _ D D),D⟩;clear an x go E;have gE:wu j c u a e.eg e.rL=wu j c u a e.eg e.rL:=rfl;generalize hr:fO j.fq c.fN e.eg a.kind a.obj e.rL=r at*
 obtain⟨S,b7⟩:=r;simp[er,bT,eZ];generalize bA:fg M 1 _=bu;have gw:bu.size=W.size+1:=by rw[<-bA,ig,e0]
 have eM:iE 0 bu:=by rw[<-bA];exact okB.put _ _
 have V:∀g,g≠1->bu.get g=M.get g:=λg Q=>by rw[<-bA,ee bT,ao Q]
 have⟨d,eA⟩:=U1.iD (S:=S) (c:=c) (ver:=2) (h:=bu) ⟨al.bc.mono (V _ D),al.bf.mono (V _ D),al.bo.mono (V _ D),al.bx.mono (V _ D),al.bk.mono (V _ D),D⟩ eM D (by rw[<-bA,ee bT,aq rfl]);have bC:∀g w,g<5->g≠1->M.get g=some w->Lb 1 bu g w:=λg w F Q e5=>⟨(V g Q).trans e5,λq=>by have:=eA g q;omega⟩;have l0:=bC 0 _ D D ec;have l2:=bC 2 _ D D ef;have l3:=bC 3 _ D D eh;have l4:=bC 4 _ D D eo;clear bC bA V eA al er ec bT ef eh eo okB e0 U a0 a1 a2 a3 a4;have⟨gM,eB,et,b8⟩:=(d.gr 6 rfl).my (cx:=cx) (f:=T.int .i64) d.ok kx rfl mP rfl Y (λ_=>rfl) u (by have:=b.hc.od;simp;omega);have⟨dm,fW,eO⟩:=d.app 6 rfl b8;have⟨aE,aA⟩:=eO _ rfl;have dd:=d.get;simp only[pO,aL,bw,cK,cA]at dm aE aA dd;simp[dd,et,dm,eZ,b8.1.iN,b8.1.cells];have eS:=aA.cons (dS 2 0 [fV.t ⟨0,false⟩]);have dn:=Step.cons aA.ok aA.lt (dS 2 0 [fV.t ⟨0,false⟩]);have av:=Tt aA (dS 2 0 [fV.t ⟨0,false⟩]);rw[ig]at av;have z:=yj (y:=(dS 2 1 [fV.t ⟨0,false⟩])) ((l3.step aE).step dn) av (by have:=(l3.step aE).lt;rw[ig]at this;omega);have s:=yj (y:=(dS 2 1 [fV.t ⟨0,false⟩])) ((l4.step aE).step dn) av (by have:=(l4.step aE).lt;rw[ig]at this;omega);have O:=Ts av (dS 2 1 [fV.t ⟨0,false⟩]);have eU:=eS.qh av (dS 2 1 [fV.t ⟨0,false⟩]);generalize fg (H.cons _ _) eB.size _=gD at*
 generalize eB.size=m at*
 clear eS dn av aA aE dm fW eO b8 et dd l0 l2 l3 l4 d eM gw;refine kP (λA h=>∃a6 a7 a8 bi bn eW,nS h 1 9 3 (pO {c with fN:=S,order:=c.order++[u]} a6 a7 a8 bi bn)/\Lb 1 h 3 nO/\Lb 1 h 4 (dS 7 1 [a.t])/\Lb 1 h m (dS 2 eW [(cont c9 a.value).t])/\dT A 4 (.ptr 1 0 0 0)/\dT A 6 (.ptr 3 0 0 0)/\dT A 8 (G u)/\dT A 9 (.ptr 4 0 0 0)/\dT A 12 (G b7)/\dT A 14 (.ptr m 0 0 0)) (λdk=>?_) (λdk=>?_) ?_
 ·subst dk;have fv:(4=m)=False:=by have:=O.nf;have:=s;simp;intro q;subst q;have F:=O.get;rw[s.get]at F;simp at F
  simp[s.get,O.get];exact⟨⟨_,_,_,_,_,eU.qh O _⟩,yj z O (by intro q;subst q;have F:=O.get;rw[z.get]at F;simp[nO]at F),yj s O (by simpa using fv),_,Ts O _⟩
 ·subst dk;simp;exact⟨⟨_,_,_,_,_,eU⟩,z,s,_,O⟩
 rintro A h ⟨a6,a7,a8,bi,bn,eW,d,l3,l4,eL,I,J,bX,bs,eD,eE⟩;simp[bs,l4.get];have de:a.kind=3\/a.kind=4->ju a.obj c.cells.length=true:=λq=>by
  rw[b.hc.ce (qq N)];unfold jN at bW;rcases q with q|q<;>simpa[q]using bW
 have di:a.kind=22\/a.kind=23->ju a.obj c.fa.length=true:=λq=>by
  rw[b.hc.fu (qq N)];unfold jN at bW;rcases q with q|q<;>simpa[q]using bW
 have eI:u.toNat<c.fixed.length:=by rw[b.hc.fx];exact(fI.1 N).2
 have fi:u.toNat<c.pZ.length:=by rw[b.hc.wk];exact(fI.1 N).2
 have x:=d.get;simp only[pO,aL,bw]at x;have eP:∀w y:Bool,mG (.bool w) 0 [.bool y]=some (.bool y):=λ_ _=>rfl;have eR:∀w y:Int,mG (G w) 0 [G y]=some (G y):=λ_ _=>rfl;have k:=wu.eq_1 j c u a e.eg e.rL;rw[hr,fe]at k;generalize wu j c u a e.eg e.rL=L at*
 refine kP (λA h=>J19 L h/\dT A 4 (.ptr 1 0 0 0)/\dT A 6 (.ptr 3 0 0 0)) (λcF=>?_) (λcF=>?_) ?_
 ·have o:a.kind=3:=by simpa using cF
  have⟨w,bS,dv⟩:=iU (de (.inl o));have v:=fI.1 (de (.inl o));have⟨q,c6,ds,c7,eb,bH,Z,z,s⟩:=(d.gr 4 rfl).Bf (te:=xJ) rfl (i:=a.obj.toNat) (by simpa using v.2);have⟨eN,eu,eV,ey,eX,aN,aX,K,P⟩:=(d.gr 7 rfl).Bf (te:=Vg) rfl (i:=u.toNat) (by simpa using eI);have ea:c.cells[a.obj.toNat]'v.2=w:=by rw[az v.2]at bS;simpa using bS
  simp[ea]at s P;simp[o,N8 dv]at k;have⟨C,B⟩:=d.elem 7 rfl aN K u.toNat (.bool (w.known&&decide (w.value=a.value)));simp[I,J,bX,bs,x,l4.get,fy v.1,Z,z,s,bp,aX,K,P,eP];exact⟨_,_,_,_,_,_,by rw[k];simpa[pO,aU]using B,l3.step C⟩
 have fL:¬a.kind=3:=by simpa using cF
 simp;refine fw (λcp=>?_) (λcp=>?_)
 ·have o:a.kind=23:=by simpa using cp
  have⟨w,bS,dv⟩:=iU (di (.inr o));have v:=fI.1 (di (.inr o));have⟨q,c6,ds,c7,eb,bH,Z,z,s⟩:=(d.gr 5 rfl).Bf (te:=xJ) rfl (i:=a.obj.toNat) (by simpa using v.2);have⟨eN,eu,eV,ey,eX,aN,aX,K,P⟩:=(d.gr 7 rfl).Bf (te:=Vg) rfl (i:=u.toNat) (by simpa using eI);have ea:c.fa[a.obj.toNat]'v.2=w:=by rw[az v.2]at bS;simpa using bS
  simp[ea]at s P;simp[o,N8 dv]at k;have⟨C,B⟩:=d.elem 7 rfl aN K u.toNat (.bool (w.known&&decide (w.value=a.value)));simp[I,J,bX,bs,x,l4.get,fy v.1,Z,z,s,bp,aX,K,P,eP];exact⟨_,_,_,_,_,_,by rw[k];simpa[pO,aU]using B,l3.step C⟩
 have fE:¬a.kind=23:=by simpa using cp
 simp;refine fw (λcL=>?_) (λcL=>?_)
 ·have o:a.kind=4:=by simpa using cL
  have v:=fI.1 (de (.inr o));have⟨q,c6,ds,c7,eb,bH,Z,z,s⟩:=(d.gr 4 rfl).Bf (te:=xJ) rfl (i:=a.obj.toNat) (by simpa using v.2);simp at s;simp[o]at k;have⟨C,B⟩:=d.elem 4 rfl bH z a.obj.toNat (cont c9 a.value).t;simp[I,J,bs,eE,x,l4.get,eL.get,fy v.1,Z,z,s];exact⟨_,_,_,_,_,_,by rw[k];simpa[pO,aU]using B,l3.step C⟩
 have fP:¬a.kind=4:=by simpa using cL
 simp;refine fw (λcb=>?_) (λcb=>?_)
 ·have o:a.kind=22:=by simpa using cb
  have v:=fI.1 (di (.inl o));have⟨q,c6,ds,c7,eb,bH,Z,z,s⟩:=(d.gr 5 rfl).Bf (te:=xJ) rfl (i:=a.obj.toNat) (by simpa using v.2);simp at s;simp[o]at k;have⟨C,B⟩:=d.elem 5 rfl bH z a.obj.toNat (cont c9 a.value).t;simp[I,J,bs,eE,x,l4.get,eL.get,fy v.1,Z,z,s];exact⟨_,_,_,_,_,_,by rw[k];simpa[pO,aU]using B,l3.step C⟩
 have fC:¬a.kind=22:=by simpa using cb
 have⟨eN,eu,eV,ey,eX,aN,aX,K,P⟩:=(d.gr 8 rfl).Bf (te:=D3) rfl (i:=u.toNat) (by simpa using fi);simp at P;simp;refine fw (λb9=>?_) (λb9=>?_)
 ·have o:a.kind=18:=by simpa using b9
  simp[o]at k;simp[eD];refine fw (λcX=>?_) (λcX=>?_)
  ·have c1:0<=b7:=by simpa using cX
   rw[aq c1]at k;have⟨C,B⟩:=d.elem 8 rfl aN K u.toNat (G 1);simp[I,J,bX,x,bp,aX,K,P,eR];exact⟨_,_,_,_,_,_,by rw[k];simpa[pO,aU]using B,l3.step C⟩
  ·have c1:¬0<=b7:=by simpa using cX
   rw[ao c1]at k;simp[I,J];exact⟨_,_,_,_,_,_,by rw[k];exact d,l3⟩
 have fA:¬a.kind=18:=by simpa using b9
 simp;refine fw (λca=>?_) (λca=>?_)
 ·have o:a.kind=19:=by simpa using ca
  simp[o]at k;have⟨C,B⟩:=d.elem 8 rfl aN K u.toNat (G b7);simp[I,J,bX,eD,x,bp,aX,K,P,eR];exact⟨_,_,_,_,_,_,by rw[k];simpa[pO,aU]using B,l3.step C⟩
 ·have fB:¬a.kind=19:=by simpa using ca
  simp[fL,fE,fP,fC,fA,fB]at k;simp[I,J];exact⟨_,_,_,_,_,_,by rw[k];exact d,l3⟩
 rintro A h ⟨⟨ver,a6,a7,a8,bi,bn,d,l3⟩,I,J⟩;have x:=d.get;simp only[pO,aL,bw]at x;have eK:=l3.get;unfold nO at eK;have bN:=d.qh l3 (dS 9 1 [.agg [sl (L.fN.fj.map em.t),G L.fN.tx,sl (L.fN.done.map T.bool),sl (L.fN.dW.map dZ.t),a6,a7,a8,bi,bn]]);have e4:=(ee l3.get (dS 9 1 [.agg [sl (L.fN.fj.map em.t),G L.fN.tx,sl (L.fN.done.map T.bool),sl (L.fN.dW.map dZ.t),a6,a7,a8,bi,bn]]) 3).trans (aq rfl);have gj:=(bN.gr 4 rfl).fz Y;have gk:=(bN.gr 5 rfl).fz Y;have gm:=(bN.gr 6 rfl).fz Y;have gn:=(bN.gr 7 rfl).fz Y;have gv:=(bN.gr 8 rfl).fz Y;simp[I,J,x,eK,eZ,e4,gj,gk,gm,gn,gv,d.ok.hp]
def W9{d:gG}(ht:d.p 21=some yD)(b:ej)(a:fD)(c:gJ)(e:vH b a):rl prog cx d 21 [b.t,a.t,c.t]=some (.tuple [(mf b a c).1.t,.bool (mf b a c).2]):=iA ht Sj (b,a,c) e
def IB{b:ej}{c:fD}{d:Int}(a:iP b c d=true):ju (iV b c d) b.dY.length=true:=by
 refine qV λe=>?_;unfold iP at a;rw[aq e]at a;simp at a
def GE{b:ej}{a:fD}{c:Int}(d:vH b a)(e:iP b a c=true):(py b a c).length<=5:=by
 have:=(d.l (qq (IB e))).2.2;unfold py;split
 ·have:=GG (lL b.dY (iV b a c)).obj a.fN.dW 0;omega
 ·simp
def FJ(c:ej)(b:fD)(a:Nat):mQ c b (a+1)=mQ c b a++(if iP c b a=true then(py c b a).map λd=>(⟨a,d⟩:gJ)else []):=by
 unfold mQ;rw[List.range_succ,dF];simp
def Hy{c:ej}{b:fD}(d:vH c b):∀a,(mQ c b a).length<=5*a:=by
 intro a;induction a with
 |zero=>simp[mQ]
 |succ a f=>
  rw[FJ,aT];split
  ·rename_i e;have:=GE d e;rw[aG];omega
  ·simp;omega
def Hx{d:ej}{b:fD}{n:Nat}{c:gJ}(a:c∈mQ d b n):iP d b c.eg=true:=by
 unfold mQ at a;rw[cH]at a;obtain⟨g,_,a⟩:=a;split at a
 ·rename_i e;obtain⟨f,_,rfl⟩:=List.mem_map.1 a;exact e
 ·simp at a
def FI{a:ej}{b:fD}(n:Int)(c:¬mQ a b a.fq.dW.length=[]):iP a b ((mQ a b a.fq.dW.length).getD (n% ((mQ a b a.fq.dW.length).length:Int)).toNat default).eg=true:=by
 have f:0<(mQ a b a.fq.dW.length).length:=List.length_pos_iff.2 c;have d:=Int.emod_nonneg n (show((mQ a b a.fq.dW.length).length:Int)≠0 by omega);have e:=Int.emod_lt_of_pos n (show(0:Int)<(mQ a b a.fq.dW.length).length by omega);exact Hx (n:=a.fq.dW.length) (by
  rw[bQ,az (show(n% ((mQ a b a.fq.dW.length).length:Int)).toNat<_ by omega)];exact aC _)
def Q1{e:ej}{I:fD->Prop}(h:∀a f,I a->iP e a f.eg=true->I (mf e a f).1):∀(c:List Int) (d:List gJ) (a:fD),I a->I (mB e c d a).2:=by
 intro c;induction c with
 |nil=>intro d a b;exact b
 |cons j c i=>
  intro d a b;simp only[mB];split
  ·exact b
  ·rename_i g;exact i _ _ (h _ _ b (FI j g))
structure OQ(w:ej)(c:fD)(P L:List gJ)(pv lv:T)(h:H):Prop where
 ok:iE 3 h
 b0:h.get 0=some (dS 15 0 [w.t])
 b1:h.get 1=some nO
 b2:∃ver,h.get 2=some (dS 9 ver [c.t])
 gp:Gr h pv 2 (P.map gJ.t)
 gl:Gr h lv 2 (L.map gJ.t)
 dp:∀b,eG pv=some b->3<=b/\eG lv≠some b
 dl:∀b,eG lv=some b->3<=b
def OQ.aie{n:ej}{j:fD}{i d:List gJ}{m k l:T}{g h:H}{o:gJ}(b:OQ n j i d m k g)(p:Xt g k 2 ((d++[o]).map gJ.t) l h):OQ n j i (d++[o]) m l h:=by
 obtain⟨a1,a2,a3,a4⟩:=p;have u:=b.ok.sz;have e:∀a,a<3->h.get a=g.get a:=λa c=>a2 a D λq=>by have:=b.dl a q;omega
 have⟨s,r⟩:=b.b2;refine⟨⟨a4.hp,a4.low,by have:=a4.sz;omega⟩,(e 0 D).trans b.b0,(e 1 D).trans b.b1,⟨s,(e 2 D).trans r⟩,b.gp.mono λa c=>?_,a1,λa c=>⟨(b.dp a c).1,λq=>?_⟩,λa c=>?_⟩
 ·have⟨_,_,_,_,f,_⟩:=b.gp.box c;exact a2 a (H.fG f) (b.dp a c).2
 ·have⟨_,_,_,_,f,_⟩:=b.gp.box c;rcases a3 a q with q|q
  ·exact(b.dp a c).2 q
  ·have:=H.fG f;omega
 ·rcases a3 a c with q|q
  ·exact b.dl a q
  ·omega
def OQ.aid{k:ej}{h:fD}{d m:List gJ}{i p j:T}{f g:H}{l:gJ}(b:OQ k h d m i p f)(n:Xt f i 2 ((d++[l]).map gJ.t) j g):OQ k h (d++[l]) [] j dR g:=by
 obtain⟨a1,a2,a3,a4⟩:=n;have s:=b.ok.sz;have e:∀a,a<3->g.get a=f.get a:=λa c=>a2 a D λq=>by have:=(b.dp a q).1;omega
 have⟨r,o⟩:=b.b2;refine⟨⟨a4.hp,a4.low,by have:=a4.sz;omega⟩,(e 0 D).trans b.b0,(e 1 D).trans b.b1,⟨r,(e 2 D).trans o⟩,a1,Gr.nil _ _,λa c=>⟨?_,Y⟩,λa c=>by simp at c⟩;rcases a3 a c with q|q
 ·exact(b.dp a q).1
 ·omega
def OQ.ahd{l:ej}{m c':fD}{h g:List gJ}{k j:T}{d:H}(b:OQ l m h g k j d)(f:Nat):OQ l c' h g k j (fg d 2 (dS 9 f [c'.t])):=by
 have⟨n,i⟩:=b.b2;have e:∀a,a≠2->(fg d 2 (dS 9 f [c'.t])).get a=d.get a:=λa c=>by rw[ee i,ao c]
 exact⟨b.ok.put _ _,(e 0 D).trans b.b0,(e 1 D).trans b.b1,⟨f,by rw[ee i,aq rfl]⟩,b.gp.mono λa c=>e a (by have:=(b.dp a c).1;omega),b.gl.mono λa c=>e a (by have:=b.dl a c;omega),b.dp,b.dl⟩
def OQ.fin{k:ej}{h:fD}{d f:List gJ}{e j:T}{b:H}(a:OQ k h d f e j b)(c:jv):(fg b 1 c).get 1=some c/\TI.qC (fg b 1 c) e=some (sl (d.map gJ.t)):=
 ⟨by rw[ee a.b1,aq rfl],(a.gp.mono λg i=>by rw[ee a.b1,ao (by have:=(a.dp g i).1;omega)]).qC Y⟩
def GN:iy:=⟨ej×List Int,λa=>[a.1.t,sl (ij a.2)],λa=>kZ a.1/\a.2.length<=40/\∀c∈a.2,0<=c/\c<=255,λa=> .tuple [sl ((mB a.1 a.2 [] (ka a.1)).1.map gJ.t),(mB a.1 a.2 [] (ka a.1)).2.t],λa d b=>by simp at b;rw[show a=d from aD (ej.inj b.1) (jH Y b.2)]⟩
def ZH:GN.Ok prog cx 6:=by
 refine iq [(19,xS),(13,pJ),(20,Ej),(21,yD)] (jr 36965550156818169847 [] func6) (λ_=>1000) (by simp[GN]) ?_;rintro⟨c,s⟩ ⟨H,hl,X⟩ a T;simp only at H hl X;simp[GN]at T|-;obtain⟨av,e⟩:=T;have bT:=(kW H.wb).2.2.2.2.2;simp[f6,av,Ua,H];refine gu s.length D (λi a u=>∃d z B,uI (1000+i) c d/\z.length<=i/\OQ c d z [] B dR u/\mB c (s.drop i) z d=mB c s [] (ka c)/\dT a 1 (sl (ij s))/\dT a 2 (.ptr 0 0 0 0)/\dT a 5 (.ptr 1 0 0 0)/\dT a 6 (.ptr 2 0 0 0)/\dT a 7 B/\dT a 8 (G i)) ?_ ?_ D ?_
 ·rintro i a u K aN ⟨d,z,B,N,aE,b,v,e,j,o,h,p,r⟩;simp[e,r,K];have E:vH c d:=⟨H,N.up D⟩;have a8:=X s[i] (aC K);refine gu c.fq.dW.length D (λm a u=>∃y,OQ c d z (mQ c d m) B y u/\dT a 1 (sl (ij s))/\dT a 2 (.ptr 0 0 0 0)/\dT a 5 (.ptr 1 0 0 0)/\dT a 6 (.ptr 2 0 0 0)/\dT a 7 B/\dT a 8 (G i)/\dT a 9 y/\dT a 10 (G m)) ?_ ?_ D ⟨_,b,by simp[e,j,o,h,p,r]⟩
  ·rintro m a u bn Z ⟨y,b,e,j,o,h,p,r,x,w⟩;have⟨R,C⟩:=b.b2;have J:=FJ c d m;have aX:=Hy E m;simp[j,h,w,bn,b.b0,C,uz,E];refine fw (λA=>?_) (λA=>?_)
   ·rw[ao (by simpa using A),bG]at J;simp[e,j,o,h,p,r,x,w,Z,J,b]
   have U:iP c d m=true:=by simpa using A
   rw[aq U]at J;have bW:=GE E U;simp[j,h,w,b.b0,C,aaR,E];refine gu (py c d m).length D (λM a u=>∃y,OQ c d z (mQ c d m++((py c d m).take M).map λk=>(⟨m,k⟩:gJ)) B y u/\dT a 1 (sl (ij s))/\dT a 2 (.ptr 0 0 0 0)/\dT a 5 (.ptr 1 0 0 0)/\dT a 6 (.ptr 2 0 0 0)/\dT a 7 B/\dT a 8 (G i)/\dT a 9 y/\dT a 10 (G m)/\dT a 11 (sl (ij (py c d m)))/\dT a 12 (G M)) ?_ ?_ D ⟨_,by simpa using b,by simp[e,j,o,h,p,r,x,w]⟩
   ·rintro M a u V a6 ⟨y,b,e,j,o,h,p,r,x,w,O,P⟩;have⟨b8,ap,I,S⟩:=b.gl.my (cx:=cx) (f:=gJ.t) (b.ok.QZ (aw _)) IH rfl IG rfl Y (λ_=>rfl) (⟨m,(py c d m)[M]⟩:gJ) dN;simp[e,j,o,h,p,r,x,w,O,P,V,I,a6];have:=b.aie S;rw[aZ]at this;rw[aM V,List.map_append];exact this
   ·rintro a u ⟨y,b,e,j,o,h,p,r,x,w,O,P⟩;rw[aI,<-J]at b;simp[e,j,o,h,p,r,x,w,O,P,Z,b]
  ·rintro a u ⟨y,b,e,j,o,h,p,r,x,w⟩;have aX:=Hy E c.fq.dW.length;rw[aH K]at v;simp only[mB]at v;generalize aA:mQ c d c.fq.dW.length=g at*
   have Q:=λe=>b.gl.len (cx:=cx) e Y7 _ rfl;simp at Q;have⟨R,C⟩:=b.b2;have F:=b.b1;unfold nO at F;simp[j,x,w,Q,b.b0];refine fw (λA=>?_) (λA=>?_)
   ·rw[aq (by simpa using A)]at v;simp[o,h,p,C,F,(b.fin _).1,(b.fin _).2,b.ok.hp];rw[<-v];exact⟨rfl,rfl⟩
   rw[ao (by simpa using A)]at v;have bS:0<g.length:=List.length_pos_iff.2 (by simpa using A);have⟨l,W,L⟩:∃l:Nat,(s[i]% (g.length:Int))=l/\l<g.length:=⟨(s[i]% (g.length:Int)).toNat,by have:=Int.emod_nonneg s[i] (show(g.length:Int)≠0 by omega);omega,by have:=Int.emod_nonneg s[i] (show(g.length:Int)≠0 by omega);have:=Int.emod_lt_of_pos s[i] (show(0:Int)<g.length by omega);omega⟩;have bi:binop .rem (G s[i]) (G (g.length:Int))=some (G (l:Int)):=by
    rw[Da D,Int.tmod_eq_emod_of_nonneg a8.1,W]
   rw[W,cm,show g.getD l default=g[l]by simp[List.getD,L]]at v;have a7:iP c d g[l].eg=true:=Hx (n:=c.fq.dW.length) (by rw[aA];exact aC L);have an:=N.step g[l] a7;have⟨q,bB,ca,bH,cp,b7,bp,bs,ae⟩:=b.gl.Bf (te:=Vf) rfl (i:=l) (by simpa using L);have r2:=b.ahd (c':=(mf c d g[l]).1) (R+1);have⟨b6,bC,cb,bN,cF,b9,bu,bA,al⟩:=r2.gl.Bf (te:=Vf) rfl (i:=l) (by simpa using L);have⟨bX,ap,I,S⟩:=r2.gp.my (cx:=cx) (f:=gJ.t) (r2.ok.QZ (aw _)) IH rfl IG rfl Y (λ_=>rfl) g[l] dN;simp at ae al I;simp[e,j,o,h,p,r,x,Q,K,bi,show decide ((l:Int)<0)=false by simp,b.b0,C,bp,bs,ae,W9,E,bu,bA,al,I,aN];exact⟨_,an,z++[g[l]],dN,r2.aid S,v⟩
 ·rintro a u ⟨d,z,B,N,aE,b,v,e,j,o,h,p,r⟩;rw[bU]at v;simp only[mB]at v;have⟨R,C⟩:=b.b2;have F:=b.b1;unfold nO at F;simp[e,o,h,p,r,C,F,(b.fin _).1,(b.fin _).2,b.ok.hp];rw[<-v];exact⟨rfl,rfl⟩
 ·exact⟨_,_,_,uI.start H,au _,⟨⟨Y,Y,Y⟩,Y,by simp[nO],⟨1,Y⟩,Gr.nil _ _,Gr.nil _ _,Y,Y⟩,rfl,by simp[e]⟩
def aeW{d:gG}(ht:d.p 6=some GN)(a:ej)(b:List Int)(f:kZ a)(hl:b.length<=40)(e:∀c∈b,0<=c/\c<=255):rl prog cx d 6 [a.t,sl (ij b)]=some (.tuple [sl ((mB a b [] (ka a)).1.map gJ.t),(mB a b [] (ka a)).2.t]):=iA ht ZH (a,b) ⟨f,hl,e⟩
def rM{a b:Nat}(c:a<b)(d:b<=16):binop .add (G (a:Int)) (G 1)=some (G ((a:Int)+1)):=iZ D D 
def Gr.ah0{a:H}{h:Nat->Prop}{g:T}{j c:Nat}{d e:List T}(f:Gr a g j d)(i:c<=11)(b:jh (FT a h c) d e):TI.qC a g=some (sl e):=by
 have:=f.KH i b;rcases f with⟨rfl,rfl⟩|⟨k,l,p,m,q,rfl,n,o⟩
 ·cases b;rfl
 ·rwa[Wn]
structure Fm(h h':H)(bl:Nat)(v v':T):Prop where
 ok:iE h.size h'
 fr:∀c,c<h.size->c≠bl->eG v≠some c->h'.get c=h.get c
 bx:∀c,eG v'=some c->eG v=some c\/h.size<=c
def Fm.nb{a b:H}{e:Nat}{d:T}(c:Nb a b):Fm a b e d d:=⟨c.ok,λf g _ _=>c.get f g,λ_ h=> .inl h⟩
def Fm.trans{g c d:H}{f:Nat}{h i j:T}(e:Fm g c f h i)(b:Fm c d f i j):Fm g d f h j:=by
 have l:=e.ok.sz;have m:=b.ok.sz;refine⟨⟨b.ok.hp,b.ok.low,D⟩,λa k c d=>(b.fr a D c λq=>(e.bx a q).elim d D).trans (e.fr a k c d),λa q=>?_⟩;rcases b.bx a q with q|q
 ·exact e.bx a q
 ·right;omega
structure DT(h:H)(bl:Nat)(v:T)(es:List T)(gs:List iX):Prop where
 gl:∃ver,h.get bl=some (dS 1 ver [v])
 g:Gr h v 6 es
 a:jh (FT h (λc=>c<h.size/\c≠bl/\eG v≠some c) 4) es (gs.map iX.t)
def DT.step{l b:H}{c:Nat}{m e:T}{g i:List T}{k gs2:List iX}(q:DT l c m g k)(h:Fm l b c m e)(p:∃u,b.get c=some (dS 1 u [e]))(o:Gr b e 6 (g++i))(n:jh (FT b (λf=>f<b.size/\f≠c/\eG e≠some f) 4) i (gs2.map iX.t)):DT b c e (g++i) (k++gs2):=by
 have v:=h.ok.sz;refine⟨p,o,?_⟩;rw[List.map_append];exact(q.a.imp λ_ _ r=>r.mono λj d=>⟨⟨D,d.2.1,λs=>(h.bx j s).elim d.2.2 D⟩,h.fr j d.1 d.2.1 d.2.2⟩).append n
def DT.nb{j k:H}{f:Nat}{m:T}{h:List T}{i:List iX}(c:DT j f m h i)(d:Nb j k):DT k f m h i:=by
 have⟨p,l⟩:=c.gl;have q:=d.ok.sz;exact⟨⟨p,(d.get f (H.fG l)).trans l⟩,c.g.mono λe b=>by have⟨_,_,_,_,n,_⟩:=c.g.box b;exact d.get e (H.fG n),c.a.imp λ_ _ o=>o.mono λe b=>⟨⟨D,b.2⟩,d.get e b.1⟩⟩
def DT.out{b:H}{d:Nat}{j:T}{f:List T}{i:List iX}(e:DT b d j f i)(c:H):DT (mK c b) d j f i:=by
 have⟨p,n⟩:=e.gl;exact⟨⟨p,(il c b d).trans n⟩,e.g.out c,e.a.imp λ_ _ o=>o.mono λk l=>⟨by simpa using l,il c b k⟩⟩
def It(e:iX)(f:T):T:= .agg [G e.kind,G e.a,G e.b,G e.c,G e.d,f]
structure IAd where
 (z:gY) (g:iX) (e:T) (bx bl:Nat) (v:T) (es:List T) (gs:List iX)
def NE(a:IAd)(d:List T)(b:H):Prop:=d=[It a.g a.e,.ptr a.bx 0 0 0,.ptr a.bl 0 0 0]/\(∃f,b.get a.bx=some (dS 16 f [a.z.t]))/\DT b a.bl a.v a.es a.gs/\iE 0 b/\yw a.z/\a.es.length<=1000000/\a.g.kc.length<=1000000/\Gr b a.e 1 (ij a.g.kc)/\(∀c,eG a.e=some c->c≠a.bl)
def LZ(a:IAd)(f:List T)(e:H)(h:T)(b:H):Prop:=∃c d,DT b a.bl c d (a.gs++ks a.z.w.gx.vG a.g)/\Fm e b a.bl a.v c
def NR:(jY IAd NE LZ).Ok prog cx 25:=by
 refine jV (tb:=⟨pt [(26,wG)],ht []⟩) jg iT (jr 79 [] func25) (λ_ _=>10) (λi bH h bB=>by obtain⟨rfl,_⟩:=bB;simp[f25]) ?_;rintro⟨U,j,l,a6,r,A,W,bN⟩ _ h ⟨rfl,⟨bW,Q⟩,K,aE,aA,bA,av,C,R⟩ bT an;simp only at Q K aA bA av C R;simp[It]at an;obtain⟨bs,E,F⟩:=an;have⟨T,ap⟩:=K.gl;generalize y:(TI.hr h).cons (dS 6 0 [It j l])=m;have I:iE h.size m:=by rw[<-y];exact(⟨aE.hr.hp,aE.hr.low,au _⟩:iE h.size (TI.hr h)).cons _
 have b6:m.size=h.size+1:=by rw[<-y];rfl
 have z:Nb h m:=⟨I,λe f=>by rw[<-y,ez,ao dN];exact iI h e⟩;have a7:=(z.get a6 (H.fG Q)).trans Q;have L:=(z.get r (H.fG ap)).trans ap;have ae:m.get h.size=some (dS 6 0 [.agg [G j.kind,G j.a,G j.b,G j.c,G j.d,l]]):=by rw[<-y];simp[It]
 have al:Gr m l 1 (ij j.kc):=C.mono λe f=>by have⟨_,_,_,_,o,_⟩:=C.box f;exact z.get e (H.fG o)
 have bi:TI.fz m l=some (sl (ij j.kc)):=al.fz Y;have a8:∀{tb:gG},tb.p 26=some wG->rl prog cx tb 26 [U.t,j.t]=some (.bool (U.w.gx.vG j)):=λht=>Oz ht U j aA av;have v:=K.nb z;unfold It at y;simp[f25,bs,E,y,a7,ae,bi,a8];refine fw (λS=>?_) (λS=>?_)
 ·have aN:iE 0 m:=⟨I.hp,I.low,aw _⟩;have⟨u,N,V,q⟩:=v.g.FZ (cx:=cx) aN aaE rfl aaD rfl Y (x:=It j l) rfl (by simp only[show Y6.bytes=64 from rfl];omega);have bu:=H.fG L;have O:=(q.2.1 r bu (λs=>by have⟨_,_,_,_,o,_⟩:=v.g.box s;rw[L]at o;simp at o)).trans L;have bS:=aN.low;have bX:=q.2.2.2.sz;unfold It at V;have sv:mG A 0 [u]=some u:=Ec (qA.na (h:=m) (sz:=6) (.inr v.g));simp[F,L,ae,V,O,sv,q.1.iN,q.1.cells,v.g.cells];have M:∀J e,(fg N r J).get e=if e=r then some J else N.get e:=λJ e=>ee O J e;have bC:eG u≠some r:=λs=>by have⟨_,_,_,_,o,_⟩:=q.1.box s;rw[O]at o;simp at o
  have Z:Fm m (fg N r (dS 1 (T+1) [u])) r A u:=⟨q.2.2.2.put _ _,λe f E F=>by rw[M,ao E];exact q.2.1 e f F,q.2.2.1⟩;have aX:=v.step (gs2:=[j]) Z ⟨T+1,by rw[M,aq rfl]⟩ (q.1.mono λe s=>by rw[M,ao (λk=>bC (by rw[<-k];exact s))]) (.cons (.inr (.inr ⟨_,_,rfl,.cons (iC ..) (.cons (iC ..) (.cons (iC ..) (.cons (iC ..) (.cons (iC ..) (.cons (?_:FT _ _ 3 l (sl (ij j.kc))) .nil))))),rfl⟩)) .nil);rotate_left
  ·have P:∀e,eG l=some e->e<h.size:=λe f=>by have⟨_,_,_,_,o,_⟩:=C.box f;exact H.fG o
   have X:∀e,eG l=some e->eG A≠some e:=λe f=>C.ne K.g dP e f;have bp:Gr (fg N r (dS 1 (T+1) [u])) l 1 (ij j.kc):=al.mono λe f=>by
    rw[M,ao (R e f)];exact q.2.1 e (by have:=P e f;omega) (X e f)
   exact(show qA _ 1 l (ij j.kc)from .inr bp).ft (d:=1) (λJ o=>by obtain⟨n,_,rfl⟩:=List.mem_map.1 o;simp) λe f=>⟨by have:=P e f;simp;omega,R e f,λs=>(q.2.2.1 e s).elim (X e f) (by have:=P e f;omega)⟩
  have bn:Fm h m r A A:=Fm.nb z;have B:=bn.trans Z;refine⟨u,W++[It j l],?_,⟨⟨(B.ok.out h).hp,(B.ok.out h).low,by simpa using B.ok.sz⟩,λe f E F=>(il h _ e).trans (B.fr e f E F),B.bx⟩⟩;unfold ks;rw[S];exact aX.out h
 ·simp;exact⟨A,W,by
   unfold ks;rw[S];simpa using v.out h,Fm.nb ⟨⟨(I.out h).hp,(I.out h).low,dN⟩,λe f=>(il h m e).trans (z.get e f)⟩⟩
@[simp]def aeV (b:aj) (a:List T):(T.func b a).cells=[.func b a]:=id rfl
@[simp]def afZ (b:aj) (a:List T):(T.func b a).iN=true:=id rfl
def Zg{h:H}(b c a:Nat)(d:jv)(f:h.get b=some d)(g:d.sz=1):Ji cx h pf (.arr b c 0 a false) none (some a) (some a)=some (.val (.arr b c 0 a true) h):=by
 unfold Ji;have e:jI cx h pf.u (.arr b c 0 a false)=true:=by
  unfold jI;simp only[show pf.u= .slice 3 from rfl,mP,f,g];rfl
 rw[e,iR,show A9 (some a) (some a)=true from rfl,iR,show asSlice pf.u (.arr b c 0 a false)= .arr b c 0 a false by rw[show pf.u= .slice 3 from rfl];rfl];show val h (iG (Nat.ble 0 a) (iG (Nat.ble a a) (Z (iQ (Nat.add 0 0)) λj=>Z (iQ (Nat.sub a 0)) λi=>iG (Nat.beq a a) (some (T.arr b c j i true)))))=_;simp
def Uz{h:H}{b ep n:Nat}{c:List T}(g:h.jM (.arr b ep 0 n true)=some c)(f:∀d∈c,d.cells.length=1)(hl:c.length<=1000)(a:Int):
 jn cx (h.cons (dS 1 0 [G a])) 38 38 (.arr b ep 0 n true) (.arr h.size 0 0 1 false)=some (.val (.arr (h.size+1) 0 0 (c.length+1) false) ((h.cons (dS 1 0 [G a])).cons ⟨1,0,0,false,false,c++[G a]⟩)):=by
 unfold jn qt nH;simp only[kx,eJ,show pf.u= .slice 3 from rfl,mP];have i:(h.cons (dS 1 0 [G a])).jM (.arr h.size 0 0 1 false)=some [G a]:=by rw[iF];simp
 rw[i,eJ];show iG true (j7 (Z ((h.cons (dS 1 0 [G a])).jM (.arr b ep 0 n true)) λc=>(h.cons (dS 1 0 [G a])).js 1 8 c [G a]))=_;rw[iR,E4 g,eJ];unfold H.js;rw[qz,eJ,kq,jd,eJ,lN f,lN (by simp[T.cells])];have e:Nat.ble (Nat.mul (c++[T.int .i64 a]).length 8) 70368744177664=true:=by
  rw[Nat.ble_eq];show(c++[T.int .i64 a]).length*8<=_;simp;omega
 rw[e];simp only[show Nat.ble 1 8=true from rfl,iR,H.mh,aT,List.length_singleton];rfl
def Fm.ZF{a c:H}{d:Nat}{f g:T}(b:Fm a c d f g):Fm a (mK a c) d f g:=⟨⟨(b.ok.out a).hp,(b.ok.out a).low,by simpa using b.ok.sz⟩,λe j h i=>(il a c e).trans (b.fr e j h i),b.bx⟩
def UI(b a:Nat):T:= .func 25 [.ptr b 0 0 0,.ptr a 0 0 0]
def Wr(a b c:Nat):T:= .func 66 [.ptr a 0 0 0,.ptr b 0 0 0,.ptr c 0 0 0]
structure EnD(h:H)(z:gY)(b1 b2 b3 bx bl:Nat):Prop where
 e1:∃ver,h.get b1=some (dS 1 ver [UI bx bl])
 e2:∃ver,h.get b2=some (dS 16 ver [z.t])
 e3:∃ver,h.get b3=some (dS 1 ver [Wr b1 b2 b3])
 ex:∃ver,h.get bx=some (dS 16 ver [z.t])
def DT.ne{i:H}{h:Nat}{f:T}{m:List T}{n:List iX}(l:DT i h f m n){c:Nat}{a:jv}(j:i.get c=some a)(k:a.sz=16\/(a.sz=1/\a.fR≠ [f])):c≠h/\eG f≠some c:=by
 have⟨o,d⟩:=l.gl;refine⟨?_,λq=>?_⟩
 ·rintro rfl;rw[j]at d;simp only[ar]at d;subst d;rcases k with q|q
  ·simp at q
  ·exact q.2 rfl
 ·have⟨_,_,_,_,e,_⟩:=l.g.box q;rw[j]at e;simp only[ar]at e;subst e;rcases k with q|q
  ·simp at q
  ·have:=q.1;simp at this
def Gr.nf{f:H}{a:T}{g:Nat}{c:List T}(e:Gr f a g c){d:aj}{b:List T}: [T.func d b]≠ [a]:=by
 rcases e with⟨rfl,_⟩|⟨_,_,_,_,_,rfl,_⟩<;>simp
def EnD.fm{j o:H}{u:gY}{k l m n b:Nat}{t x:T}{v:List T}{w:List iX}(c:EnD j u k l m n b)(a:DT j b t v w)(d:Fm j o b t x):EnD o u k l m n b:=by
 have⟨y,e⟩:=c.e1;have⟨z,f⟩:=c.e2;have⟨A,h⟩:=c.e3;have⟨B,i⟩:=c.ex;have p:=a.ne e (.inr ⟨rfl,Gr.nf a.g⟩);have q:=a.ne f (.inl rfl);have r:=a.ne h (.inr ⟨rfl,Gr.nf a.g⟩);have s:=a.ne i (.inl rfl);exact⟨⟨y,(d.fr _ (H.fG e) p.1 p.2).trans e⟩,⟨z,(d.fr _ (H.fG f) q.1 q.2).trans f⟩,⟨A,(d.fr _ (H.fG h) r.1 r.2).trans h⟩,⟨B,(d.fr _ (H.fG i) s.1 s.2).trans i⟩⟩
structure IDd where
 (z:gY) (p:List Int) (pv:T) (b1 b2 b3 bx bl:Nat) (v:T) (es:List T) (gs:List iX)
def cyG(b:gY)(a:List Int):List (List Int):=DI b.w.gx.ev.length (λa=>decide (2<=a.length)&&b.w.gx.vG (gC a)) (λa c=>b.w.gx.sP c (pU a)) (4-a.length) a
def RL(a:IDd)(d:List T)(b:H):Prop:=d=[a.pv,.ptr a.b1 0 0 0,.ptr a.b2 0 0 0,.ptr a.b3 0 0 0]/\EnD b a.z a.b1 a.b2 a.b3 a.bx a.bl/\DT b a.bl a.v a.es a.gs/\iE 0 b/\yw a.z/\Gr b a.pv 1 (ij a.p)/\(∀c,eG a.pv=some c->c≠a.bl)/\1<=a.p.length/\a.p.length<=4/\(∀e∈a.p,ju e a.z.w.dY.length=true)/\a.gs.length+(cyG a.z a.p).length<=1000000
def LU(a:IDd)(f:List T)(e:H)(g:T)(b:H):Prop:=∃c d,DT b a.bl c d (a.gs++(cyG a.z a.p).map gC)/\Fm e b a.bl a.v c
def ZV(k:Nat):(jY IDd (λi ap h=>RL i ap h/\5-i.p.length<k) LU).Ok prog cx 66:=by
 refine yW (λi:IDd=>5-i.p.length) (λm eR=>?_) k;refine jV (tb:=⟨pt [(67,rV)],ht [(25,jY IAd NE LZ),(59,jY Lo (uh 1) (qj 1)),(66,jY IDd (λi ap h=>RL i ap h/\5-i.p.length<m) LU)]⟩) jg iT (jr 137506128175 [(1,[(0,2)]),(7,[(0,9)])] func66) (λ_ _=>100) (λi ap h eL=>by obtain⟨⟨rfl,_⟩,_⟩:=eL;simp[f66]) ?_;rintro⟨d,c,z,U,bp,C,cb,o,N,es,X⟩ _ h ⟨⟨rfl,bu,A,b7,al,P,bX,eM,eN,aX,bN⟩,eI⟩ l cX;simp only at bu A al P bX eM eN aX bN eI;simp at cX;obtain⟨f,v,t,I⟩:=cX;have dk:Nb h (TI.hr h):=⟨⟨b7.hr.hp,b7.hr.low,au _⟩,λe _=>iI h e⟩;have bC:Fm h (TI.hr h) o N N:=Fm.nb dk;have a7:=A.nb dk;have cL:=bu.fm A bC;have eS:∀b,eG z=some b->b<h.size:=λb eD=>by have⟨_,_,_,_,V,_⟩:=P.box eD;exact H.fG V
 have dm:∀e,eG z=some e->eG N≠some e:=λe u=>P.ne A.g dP e u;have an:=λv:H=>P.len (cx:=cx) v pf _ rfl;rw[aG]at an;have e9:es.length=X.length:=by have:=A.a.length;simpa using this
 have⟨fE,F⟩:=cL.e1;simp[f66,f,an];refine kP (λl h'=>∃j q,DT h' o j q (X++(if(decide (2<=c.length)&&d.w.gx.vG (gC c))=true then [c]else []).map gC)/\Fm h h' o N j/\dT l 0 z/\dT l 1 (.ptr U 0 0 0)/\dT l 2 (.ptr bp 0 0 0)/\dT l 3 (.ptr C 0 0 0)) (λR=>?_) (λR=>?_) ?_
 ·have eA:2<=c.length:=by have:=of_decide_eq_true R;omega
  have eu:Gr (TI.hr h) z 1 (ij c):=P.mono λe _=>iI h e;simp[f,v,F,UI];refine lH A4 Y ⟨z,ij c⟩ ⟨rfl,eu.jM,by simp[T.cells],dN,b7.hr⟩ ?_;rintro r e6 ⟨aN,L,eU⟩;simp only at aN;have a8:=a7.nb L;have eh:=cL.fm a7 (Fm.nb L);have dv:o<h.size:=by have⟨ver,bT⟩:=A.gl;exact H.fG bT
  have eV:=fZ (L.get U (H.fG F));simp[aN.iN,aN.cells,eV];refine lH NR Y ⟨d,gC c,r,cb,o,N,es,X⟩ ⟨rfl,eh.ex,a8,⟨L.ok.hp,L.ok.low,aw _⟩,al,dO,by simp[gC];omega,aN,λe u=>by have:=eU e u;simp at this;show e≠o;omega⟩ ?_;rintro _ e7 ⟨j,q,ds,aA⟩;have er:=(bC.trans (Fm.nb L)).trans aA;have de:=a8.ne ((L.get U (H.fG F)).trans F) (.inr ⟨rfl,Gr.nf a8.g⟩);have eW:=fZ (aA.fr U (bF (H.fG F) L.ok.sz) de.1 de.2);have fi:=aA.ok.low;have fW:=aA.ok.sz;simp[f,v,t,I,eW];refine⟨j,⟨q,?_⟩,er⟩;have:ks d.w.gx.vG (gC c)=List.map gC (if 2<=c.length/\d.w.gx.vG (gC c)=true then [c]else []):=by
   unfold ks;by_cases M:d.w.gx.vG (gC c)=true
   ·rw[aq M,aq ⟨eA,M⟩];rfl
   ·rw[ao M,ao (λk=>M k.2)];rfl
  rw[<-this];exact ds
 ·have:¬2<=c.length:=by simp at R;omega
  simp[f,v,t,I,this];exact⟨N,⟨es,a7⟩,bC⟩
 rintro l h' ⟨j,q,B,s,f,v,t,I⟩;have b8:∀{t:H} {dn:T},Fm h t o N dn->Gr t z 1 (ij c):=λO=>P.mono λe u=>O.fr e (eS e u) (bX e u) (dm e u);have Q:cyG d c=DI d.w.dY.length (λc=>decide (2<=c.length)&&d.w.gx.vG (gC c)) (λc K=>d.w.gx.sP K (pU c)) (4-c.length) c:=rfl;simp[f,an];refine fw (λR=>?_) (λR=>?_)
 ·simp at R;rw[show 4-c.length=0 by omega,DI]at Q;simp;refine⟨j,q,?_,s.ZF⟩;simp only;rw[Q];exact B.out h
 simp at R;have⟨W,eB⟩:∃W,4-c.length=W+1:=⟨3-c.length,D⟩;rw[eB,DI]at Q;have⟨p0,bW⟩:∃p0:Nat,c[0]? =some (p0:Int)/\p0<d.w.dY.length:=by
  have:=fI.1 (aX c[0] (aC D));exact⟨c[0].toNat,by rw[az D];congr 1;omega,D⟩
 have ff:=al.w.ok.len;have eE:(c.getD 0 0).toNat=p0:=by simp[List.getD,bW.1]
 rw[eE]at Q;have b6:c.length-1<c.length:=D;have c9:pU c=c[c.length-1]:=by simp[pU,List.getD,b6]
 have eK:ju (pU c) d.w.dY.length=true:=by rw[c9];exact aX _ (aC b6)
 have⟨E,bB,fP,e5,fS,J,c7,_,_⟩:=P.at (x:= G p0) (i:=0) (by rw[aR,bW.1];rfl);rw[aG]at J;have⟨fB,F,cp⟩:=(show qA h' 1 z _ from .inr (b8 s)).idx (te:=D3) rfl rfl (i:=0) (x:= G p0) (by simp[bW.1]) rfl;have eC:binop .add (G (p0:Int)) (G 1)=some (G ((p0:Int)+1)):=iZ D D;have eO:binop .sub (G (c.length:Int)) (G 1)=some (G ((c.length-1:Nat):Int)):=by rw[lJ D D];congr 2;omega
 generalize c6:(λ(K:Nat)=>if d.w.gx.sP K (pU c)=true then DI d.w.dY.length (λc=>decide (2<=c.length)&&d.w.gx.vG (gC c)) (λc K=>d.w.gx.sP K (pU c)) W (c++[(K:Int)])else [])=O at Q;generalize(if(decide (2<=c.length)&&d.w.gx.vG (gC c))=true then [c]else [])=b9 at*
 simp[f,F,cp,eC];clear F cp;refine uH d.w.dY.length (λk l h'=>p0+1<=k/\∃j q,DT h' o j q (X++(b9++(List.range' (p0+1) (k-(p0+1))).flatMap O).map gC)/\Fm h h' o N j/\dT l 0 z/\dT l 1 (.ptr U 0 0 0)/\dT l 2 (.ptr bp 0 0 0)/\dT l 3 (.ptr C 0 0 0)/\dT l 5 (G k)) ?_ D (k:=p0+1) D ?_
 ·rintro k l h' fe ⟨fb,j,q,B,s,f,v,t,I,Z⟩;have bA:=bu.fm A s;have⟨dn,cF⟩:=bA.e2;have⟨fL,av⟩:=bA.e3;by_cases dd:k<d.w.dY.length
  ·have c1:binop .add (G (k:Int)) (G 1)=some (G ((k:Int)+1)):=iZ D D;have⟨fC,ea,eb⟩:=(show qA h' 1 z _ from .inr (b8 s)).idx (te:=D3) rfl rfl (i:=c.length-1) (x:= G (pU c)) (by rw[c9];simp[b6]) rfl;have ec:=λ{tb:gG} (ht:tb.p 67=some rV)=>K4 ht d k (pU c) al (fI.2 ⟨D,D⟩) eK;simp[f,t,Z,dd,cF,an,eO,ea,eb,ec];refine fw (λM=>?_) (λM=>?_)
   ·have ey:=b8 s;have eH:h'.jM (.arr E bB 0 c.length true)=some (ij c):=by
     have:=ey.jM;rw[J]at this;rw[iF]at this|-;exact this
    have fA:∀e,eG z=some e->e=E:=λe u=>by rw[J]at u;simpa using u.symm
    have eF:h'.get E=_:=(s.fr E (H.fG c7) (bX E (by rw[J];rfl)) (dm E (by rw[J];rfl))).trans c7;have ef:=Zg (h:=h') E bB c.length _ eF rfl;have bs:=Uz (h:=h') (b:=E) (ep:=bB) (n:=c.length) eH (by simp[T.cells]) dN (k:Int);rw[aG]at bs;have a6:iE h.size h':=s.ok;generalize bH:(h'.cons (dS 1 0 [G k])).cons ⟨1,0,0,false,false,ij c++[G k]⟩=ae at bs;have fX:ae.size=h'.size+1+1:=by rw[<-bH];rfl
    have S:Nb h' ae:=by rw[<-bH];exact((Nb.refl ⟨a6.hp,a6.low,aw _⟩).cons _).cons _
    have et:Gr ae (.arr (h'.size+1) 0 0 (c.length+1) false) 1 (ij (c++[(k:Int)])):=by
     have:=Gr.new (h:=ae) (b:=h'.size+1) (sz:=1) (ep:=0) (ver:=0) (ex:=false) (es:=ij (c++[(k:Int)])) (by rw[<-bH,show ij (c++[(k:Int)])=ij c++[G k]from List.map_append ..];simp);simpa using this
    have bi:=B.nb S;have eo:=bA.fm B (Fm.nb S);have fs:=a6.low;have ca:=H.fG av;have gd:=a6.sz;have fv:(C=h'.size)=False:=dN;have eX:=fZ (h:=h'.cons (dS 1 0 [G k])) (h':=ae) (b:=C) (by rw[S.get C ca,ez,ao D]);have dv:o<h.size:=by have⟨ver,bT⟩:=A.gl;exact H.fG bT
    simp only[Wr]at av;rw[J]at f;simp[f,I,Z,av,J▸an,ef,bs,eX];have bS:O k=DI d.w.dY.length (λc=>decide (2<=c.length)&&d.w.gx.vG (gC c)) (λc K=>d.w.gx.sP K (pU c)) W (c++[(k:Int)]):=by rw[<-c6];simp only;rw[aq M]
    have c4:cyG d (c++[(k:Int)])=O k:=by rw[bS];unfold cyG;simp only[aT,List.length_singleton];rw[show 4-(c.length+1)=W by omega];rfl
    have eP:kf (p0+1) d.w.dY.length=List.range' (p0+1) (k-(p0+1))++k::List.range' (k+1) (d.w.dY.length-(k+1)):=by
     unfold kf;rw[show d.w.dY.length-(p0+1)=(k-(p0+1))+(d.w.dY.length-k)by omega,<-List.range'_append_1,show p0+1+(k-(p0+1))=k by omega,show d.w.dY.length-k=(d.w.dY.length-(k+1))+1 by omega,List.range'_succ]
    refine lH eR Y ⟨d,c++[(k:Int)],.arr (h'.size+1) 0 0 (c.length+1) false,U,bp,C,cb,o,j,q,X++(b9++(List.range' (p0+1) (k-(p0+1))).flatMap O).map gC⟩ ⟨⟨rfl,eo,bi,⟨S.ok.hp,S.ok.low,aw _⟩,al,et,λe u=>?_,Y,dN,λy V=>?_,?_⟩,dN⟩ ?_
    ·simp at u;show e≠o;omega
    ·simp at V;rcases V with V|rfl
     ·exact aX y V
     ·show ju (k:Int) d.w.dY.length=true;exact fI.2 ⟨D,D⟩
    ·simp only[c4];rw[Q,eP]at bN;simp only[aT,dF,bm,aG]at bN|-;omega
    rintro _ e8 ⟨e4,es3,bn,aE⟩;simp only[c4]at bn;have di:=bi.ne ((S.get C ca).trans av) (.inr ⟨rfl,Gr.nf bi.g⟩);have e0:=fZ (aE.fr C D di.1 di.2);have fo:=aE.ok.low;have fY:=aE.ok.sz;simp[f,v,t,I,Z,c1,e0];refine⟨k+1,D,D,D,e4,⟨es3,?_⟩,(s.trans (Fm.nb S)).trans aE,by rw[J],Y⟩;rw[show k+1-(p0+1)=(k-(p0+1))+1 by omega,List.range'_concat,show p0+1+1*(k-(p0+1))=k by omega,dF];simp only[bm,cC,bG,List.map_append,<-aZ]at bn|-;exact bn
   ·simp[f,v,t,I,Z,c1];have bS:O k=[]:=by rw[<-c6];simp only;rw[ao (by rw[M];simp)]
    refine⟨k+1,D,D,D,j,⟨q,?_⟩,s,Y⟩;rw[show k+1-(p0+1)=(k-(p0+1))+1 by omega,List.range'_concat,show p0+1+1*(k-(p0+1))=k by omega,dF];simpa[bS]using B
  ·simp[t,Z,dd,cF];refine⟨j,q,?_,s.ZF⟩;simp only;rw[Q];unfold kf;rw[show k=d.w.dY.length by omega]at B;exact B.out h
 ·exact⟨D,j,q,by simpa using B,s,by simp[f,v,t,I]⟩
def LI(a:T):mG .lV 0 [a]=some a:=Ec Y 
structure IDl where
 (z:gY) (bx bl:Nat) (v:T) (es:List T) (gs:List iX)
def Ct(a:gY)(c:Nat):List iX:=(kf c a.w.dY.length).flatMap λ(b:Nat)=>(a.w.gx.MU b).map gC
def Yl(a:IDl)(c:List T)(b:H):Prop:=c=[a.z.t,UI a.bx a.bl]/\(∃d,b.get a.bx=some (dS 16 d [a.z.t]))/\DT b a.bl a.v a.es a.gs/\iE 0 b/\yw a.z/\a.gs.length+(Ct a.z 0).length<=1000000
def RY(a:IDl)(f:List T)(e:H)(g:T)(b:H):Prop:=∃c d,DT b a.bl c d (a.gs++Ct a.z 0)/\Fm e b a.bl a.v c
def H7:(jY IDl Yl RY).Ok prog cx 27:=by
 refine jV (tb:=⟨pt [],ht [(66,jY IDd (λK h a=>RL K h a/\5-K.p.length<6) LU)]⟩) jg iT (jr 7231 [] func27) (λ_ _=>100) (λK h a aE=>by obtain⟨rfl,_⟩:=aE;simp[f27]) ?_;rintro⟨b,s,d,V,ae,Q⟩ _ a ⟨rfl,⟨a7,I⟩,v,o,J,T⟩ r S;simp only at I v J T;simp at S;obtain⟨al,an⟩:=S;have bn:=J.w.ok.len;have aX:(TI.hr a).low<=a.size:=by have:=o.hr.low;simp
 have a6:∀h y e u,fg ((((TI.hr a).cons h).cons y).cons e) (a.size+1+1) u=(((TI.hr a).cons h).cons y).cons u:=λh y e u=>Eu _ _ _ _ rfl dN;simp[f27,al,an,a6,UI,LI];generalize f:H.cons _ _=m;have U:iE a.size m:=by rw[<-f];exact(((⟨o.hr.hp,o.hr.low,au _⟩:iE a.size (TI.hr a)).cons _).cons _).cons _
 have bA:m.size=a.size+1+1+1:=by rw[<-f];rfl
 have L:Nb a m:=by rw[<-f];exact⟨((((Nb.refl o.hr).cons _).cons _).cons _).ok,λe C=>(((((Nb.refl o.hr).cons _).cons _).cons _).get e C).trans (iI a e)⟩
 have X:EnD m b (a.size+1) a.size (a.size+1+1) s d:=⟨⟨0,by rw[<-f];simp[UI]⟩,⟨0,by rw[<-f];simp⟩,⟨1,by rw[<-f];simp[Wr]⟩,⟨a7,(L.get s (H.fG I)).trans I⟩⟩;clear f;refine uH b.w.dY.length (λk r c=>∃q t i,DT c d q t i/\i++Ct b k=Q++Ct b 0/\EnD c b (a.size+1) a.size (a.size+1+1) s d/\Fm m c d V q/\dT r 4 (.ptr (a.size+1+1) 0 0 0)/\dT r 10 (G b.w.dY.length)/\dT r 11 (G k)) ?_ D (k:=0) D ⟨V,ae,Q,v.nb L,rfl,X,Fm.nb ⟨⟨U.hp,U.low,au _⟩,λ_ _=>rfl⟩,Y⟩;rintro k r c bi ⟨q,t,i,j,g,z,l,R,A,B⟩;have M:iE 0 c:=⟨l.ok.hp,l.ok.low,aw _⟩;have⟨bs,N⟩:=z.e3;by_cases E:k<b.w.dY.length
 ·have av:binop .add (G (k:Int)) (G 1)=some (G ((k:Int)+1)):=iZ D D;have F:Ct b k=(b.w.gx.MU k).map gC++Ct b (k+1):=by unfold Ct;rw[oz E];rfl
  rw[F]at g;have aA:i.length+(b.w.gx.MU k).length<=1000000:=by
   have:=bO List.length g;simp at this T;omega
  have bB:=l.ok.sz;have O:=N;simp only[Wr]at O;have bp:(a.size+1+1=c.size)=False:=by have:=H.fG N;simp;omega
  have aX:=M.low;simp[R,A,B,E,O];have n:Nb c (c.cons (dS 1 0 [G k])):=(Nb.refl M).cons _;have a8:d<a.size:=by have⟨bu,g⟩:=v.gl;exact H.fG g
  refine jm (ZV 6) Y ⟨b,[(k:Int)],.arr c.size 0 0 1 false,a.size+1,a.size,a.size+1+1,s,d,q,t,i⟩ ⟨⟨rfl,z.fm j (Fm.nb n),j.nb n,M.cons _,J,.inr ⟨c.size,0,0,true,[G k],rfl,Y,rfl⟩,λe C=>?_,Y,Y,λu aN=>?_,aA⟩,Y⟩ ?_
  ·simp at C;show e≠d;omega
  ·rw[List.mem_singleton.1 aN];exact fI.2 ⟨D,dO⟩
  rintro _ ap ⟨W,Di,x,P⟩;have Z:=(z.fm j (Fm.nb n)).fm (j.nb n) P;have x:DT ap d W Di (i++(b.w.gx.MU k).map gC):=x;simp[R,A,B,av];exact⟨k+1,D,D,W,Di,_,x,by rw[aZ];exact g,Z,(l.trans (Fm.nb n)).trans P,Y⟩
 ·have F:Ct b k=[]:=by unfold Ct;rw[p7 D];rfl
  rw[F,bG]at g;subst g;simp[A,B,E];exact⟨q,t,j.out a,((Fm.nb L).trans l).ZF⟩
def wH:iy:=⟨ej,λa=>[a.t],λa=>kZ a,λa=>sl (a.gx.pq.map iX.t),λc d b=>by simp at b;rw[ej.inj b]⟩
def Uq{b:gG}(ht:b.p 24=some ug)(a:ej)(c:kZ a):rl prog cx b 24 [a.t]=some (.tuple [gY.t ⟨a,a.gx.st⟩,.bool true]):=iA ht Hf a c
structure Nh(w:ej)(h:H)(v:T)(es:List T)(gs:List iX):Prop where
 ac:DT h 2 v es gs
 ok:iE 3 h
 b0:h.get 0=some (dS 15 0 [w.t])
 b1:h.get 1=some (dS 16 1 [gY.t ⟨w,w.gx.st⟩])
def Nh.fm{k:ej}{i c:H}{d e:T}{m f:List T}{n h:List iX}(a:Nh k i d m n)(b:Fm i c 2 d e)(l:DT c 2 e f h):Nh k c e f h:=by
 have r:=a.ok.sz;have p:=a.ac.ne a.b1 (.inl rfl);have o:eG d≠some 0:=λq=>by
  have⟨_,_,_,_,j,_⟩:=a.ac.g.box q;rw[a.b0]at j;simp at j
 exact⟨l,⟨b.ok.hp,b.ok.low,by have:=b.ok.sz;omega⟩,(b.fr 0 D D o).trans a.b0,(b.fr 1 D D p.2).trans a.b1⟩
def Nh.len{b:ej}{g:H}{l:T}{e:List T}{c d:List iX}(k:Nh b g l e c)(j:kZ b)(i:c++d=b.gx.pq):e.length<=1000000/\c.length+d.length<=1000000:=by
 have h:=k.ac.a.length;have f:=B9 b.gx j.ok.len;rw[<-GX.Be,<-i]at f;simp at h f;omega
def kZ.ana{a:ej}(b:kZ a):yw ⟨a,a.gx.st⟩:=⟨b,rfl⟩
def Nh.pre{b:ej}{e:H}{i:T}{d:List T}{c j:List iX}(a:Nh b e i d c)(h:kZ b)(k:c++j=b.gx.pq){g:iX}(f:g.kc=[]):NE ⟨⟨b,b.gx.st⟩,g,dR,1,2,i,d,c⟩ [It g dR,.ptr 1 0 0 0,.ptr 2 0 0 0] e:=
 ⟨rfl,⟨1,a.b1⟩,a.ac,⟨a.ok.hp,a.ok.low,aw _⟩,h.ana,(a.len h k).1,by simp[f],by simp[f];exact Gr.nil _ _,λm l=>by simp at l⟩
def VR:wH.Ok prog cx 9:=by
 refine y9 (tb:=⟨pt [(24,ug),(28,wL)],ht [(25,jY IAd NE LZ),(27,jY IDl Yl RY)]⟩) jg iT (jr 40953575029616206113996799 [] func9) (λ_=>100) (by simp[wH]) nl9 ?_;rintro(d:ej) I b bn;replace I:kZ d:=I;simp[wH]at bn|-;have cX:=I.ok.len;have⟨c,bA⟩:∃c,c=d.dY.length:=⟨_,rfl⟩;have V:d.gx.pq=((kf 0 c).flatMap λ(j:Nat)=>(kf (j+1) c).flatMap λ(r:Nat)=>ks d.gx.vG (gR j r))++(Ct ⟨d,d.gx.st⟩ 0++(((kf 0 c).flatMap λ(j:Nat)=>(kf 0 j).flatMap λ(r:Nat)=>ks d.gx.vG (gL j r))++
  ((kf 0 c).flatMap λ(j:Nat)=>(kf (j+1) c).flatMap λ(r:Nat)=>if d.gx.K6 j r=true then(kf 0 c).flatMap λ(l:Nat)=>(kf l c).flatMap λ(v:Nat)=>ks d.gx.vG (gA j r l v)else []))):=by
  unfold GX.pq Ct;rw[show d.gx.n=c from bA.symm];simp only[Lu,aZ,<-bA]
 generalize bW:((kf 0 c).flatMap λ(j:Nat)=>(kf (j+1) c).flatMap λ(r:Nat)=>if d.gx.K6 j r=true then(kf 0 c).flatMap λ(l:Nat)=>(kf l c).flatMap λ(v:Nat)=>ks d.gx.vG (gA j r l v)else [])=Z at V;generalize bT:((kf 0 c).flatMap λ(j:Nat)=>(kf 0 j).flatMap λ(r:Nat)=>ks d.gx.vG (gL j r))++Z=bB at V;generalize bS:Ct ⟨d,d.gx.st⟩ 0++bB=aA at V;have b9:(d.dY.length:Int)=c:=D;simp[f9,bn,b9,Uq,I];refine uH c (λk b y=>∃o m f,Nh d y o m f/\f++(((kf k c).flatMap λ(j:Nat)=>(kf (j+1) c).flatMap λ(r:Nat)=>ks d.gx.vG (gR j r))++aA)=d.gx.pq/\dT b 1 (.ptr 0 0 0 0)/\dT b 3 (.ptr 1 0 0 0)/\dT b 5 (.ptr 2 0 0 0)/\dT b 6 (.func 25 [.ptr 1 0 0 0,.ptr 2 0 0 0])/\dT b 7 (G c)/\dT b 27 (G c)/\dT b 28 (G k)) ?_ D (k:=0) D ?_
 ·rintro k b y bu ⟨o,m,f,h,e,z,w,x,u,s,L,M⟩;by_cases A:k<c
  ·have P:=rM A D;rw[oz A,bm,aZ]at e;simp[L,M,A,P];refine uH c (λi b y=>∃o m f,Nh d y o m f/\f++(((kf i c).flatMap λ(r:Nat)=>ks d.gx.vG (gR k r))++(((kf (k+1) c).flatMap λ(j:Nat)=>(kf (j+1) c).flatMap λ(r:Nat)=>ks d.gx.vG (gR j r))++aA))=d.gx.pq/\dT b 1 (.ptr 0 0 0 0)/\dT b 3 (.ptr 1 0 0 0)/\dT b 5 (.ptr 2 0 0 0)/\dT b 6 (.func 25 [.ptr 1 0 0 0,.ptr 2 0 0 0])/\dT b 7 (G c)/\dT b 8 (G k)/\dT b 27 (G c)/\dT b 28 (G k)/\dT b 9 (G i)) ?_ D (k:=k+1) D ⟨o,m,f,h,e,by simp[z,w,x,u,s,L,M]⟩;rintro i b y bs ⟨o,m,f,h,e,z,w,x,u,s,a8,L,M,ap⟩;by_cases E:i<c
   ·have T:=rM E D;rw[oz E,bm]at e;have U:=h.pre I e (g:=gR k i) rfl;rw[aZ,<-aZ]at e;simp[u,s,a8,ap,E];refine jm NR Y _ U ?_;rintro _ a7 ⟨Q,Di,J,K⟩;simp[z,w,x,u,s,a8,ap,L,M,T];exact⟨i+1,D,D,Q,Di,_,h.fm K J,e,Y⟩
   ·rw[p7 (show c<=i by omega)]at e;simp[z,w,x,u,s,ap,L,M,E,P];exact⟨k+1,D,D,o,m,f,h,e,Y⟩
  ·rw[p7 (show c<=k by omega)]at e;simp[w,u,L,M,A,h.b1];clear A L M;rw[<-bS,cC,cG]at e;have bp:=h.len I e;refine jm H7 Y ⟨⟨d,d.gx.st⟩,1,2,o,m,f⟩ ⟨rfl,⟨1,h.b1⟩,h.ac,⟨h.ok.hp,h.ok.low,aw _⟩,I.ana,by have:=bp.2;simp at this|-;omega⟩ ?_;rintro _ cb ⟨Q,Di,J,K⟩;have av:=h.fm K J;rw[<-aZ]at e;simp only at av;clear h J K bp;simp[s];rw[<-bT]at e;generalize f++Ct ⟨d,d.gx.st⟩ 0=bN at*
   refine uH c (λk b y=>∃o m f,Nh d y o m f/\f++(((kf k c).flatMap λ(j:Nat)=>(kf 0 j).flatMap λ(r:Nat)=>ks d.gx.vG (gL j r))++Z)=d.gx.pq/\dT b 1 (.ptr 0 0 0 0)/\dT b 3 (.ptr 1 0 0 0)/\dT b 5 (.ptr 2 0 0 0)/\dT b 6 (.func 25 [.ptr 1 0 0 0,.ptr 2 0 0 0])/\dT b 7 (G c)/\dT b 47 (G c)/\dT b 48 (G k)) ?_ D (k:=0) D ⟨Q,Di,bN,av,e,by simp[z,w,x,u,s]⟩;rintro k b y bu ⟨o,m,f,h,e,z,w,x,u,s,N,O⟩;by_cases A:k<c
   ·have P:=rM A D;rw[oz A,bm,aZ]at e;simp[N,O,A];refine uH k (λi b y=>∃o m f,Nh d y o m f/\f++(((kf i k).flatMap λ(r:Nat)=>ks d.gx.vG (gL k r))++(((kf (k+1) c).flatMap λ(j:Nat)=>(kf 0 j).flatMap λ(r:Nat)=>ks d.gx.vG (gL j r))++Z))=d.gx.pq/\dT b 1 (.ptr 0 0 0 0)/\dT b 3 (.ptr 1 0 0 0)/\dT b 5 (.ptr 2 0 0 0)/\dT b 6 (.func 25 [.ptr 1 0 0 0,.ptr 2 0 0 0])/\dT b 7 (G c)/\dT b 10 (G k)/\dT b 47 (G c)/\dT b 48 (G k)/\dT b 51 (G k)/\dT b 52 (G i)) ?_ D (k:=0) D ⟨o,m,f,h,e,by simp[z,w,x,u,s,N,O]⟩;rintro i b y bs ⟨o,m,f,h,e,z,w,x,u,s,aX,N,O,al,an⟩;by_cases E:i<k
    ·have T:=rM (show i<c by omega) D;rw[oz E,bm]at e;have U:=h.pre I e (g:=gL k i) rfl;rw[aZ,<-aZ]at e;simp[u,aX,al,an,E];refine jm NR Y _ U ?_;rintro _ a7 ⟨Q,Di,J,K⟩;simp[z,w,x,u,s,aX,N,O,al,an,T];exact⟨i+1,D,D,Q,Di,_,h.fm K J,e,Y⟩
    ·rw[p7 (show k<=i by omega)]at e;simp[z,w,x,u,s,N,O,al,an,E,P];exact⟨k+1,D,D,o,m,f,h,e,Y⟩
   ·rw[p7 (show c<=k by omega)]at e;simp[s,N,O,A];clear A N O;rw[<-bW,cC,cG]at e;refine uH c (λk b y=>∃o m f,Nh d y o m f/\f++((kf k c).flatMap λ(j:Nat)=>(kf (j+1) c).flatMap λ(r:Nat)=>if d.gx.K6 j r=true then(kf 0 c).flatMap λ(l:Nat)=>(kf l c).flatMap λ(v:Nat)=>ks d.gx.vG (gA j r l v)else [])=d.gx.pq/\dT b 1 (.ptr 0 0 0 0)/\dT b 3 (.ptr 1 0 0 0)/\dT b 5 (.ptr 2 0 0 0)/\dT b 6 (.func 25 [.ptr 1 0 0 0,.ptr 2 0 0 0])/\dT b 7 (G c)/\dT b 62 (G c)/\dT b 63 (G k)) ?_ D (k:=0) D ⟨o,m,f,h,e,by simp[z,w,x,u,s]⟩;rintro k b y bu ⟨o,m,f,h,e,z,w,x,u,s,B,C⟩;by_cases A:k<c
    ·have P:=rM A D;rw[oz A,bm]at e;simp[B,C,A,P];generalize b6:((kf (k+1) c).flatMap λ(j:Nat)=>(kf (j+1) c).flatMap λ(r:Nat)=>if d.gx.K6 j r=true then(kf 0 c).flatMap λ(l:Nat)=>(kf l c).flatMap λ(v:Nat)=>ks d.gx.vG (gA j r l v)else [])=aN at e;refine uH c (λi b y=>k<i/\∃o m f,Nh d y o m f/\f++(((kf i c).flatMap λ(r:Nat)=>if d.gx.K6 k r=true then(kf 0 c).flatMap λ(l:Nat)=>(kf l c).flatMap λ(v:Nat)=>ks d.gx.vG (gA k r l v)else [])++aN)=d.gx.pq/\dT b 1 (.ptr 0 0 0 0)/\dT b 3 (.ptr 1 0 0 0)/\dT b 5 (.ptr 2 0 0 0)/\dT b 6 (.func 25 [.ptr 1 0 0 0,.ptr 2 0 0 0])/\dT b 7 (G c)/\dT b 12 (G k)/\dT b 13 (G i)/\dT b 62 (G c)/\dT b 63 (G k)) ?_ D (k:=k+1) D ⟨D,o,m,f,h,e,by simp[z,w,x,u,s,B,C]⟩;rintro i b y bs ⟨cL,o,m,f,h,e,z,w,x,u,s,H,F,B,C⟩;by_cases E:i<c
     ·have T:=rM E D;rw[oz E,bm,aZ]at e;generalize bi:((kf (i+1) c).flatMap λ(r:Nat)=>if d.gx.K6 k r=true then(kf 0 c).flatMap λ(l:Nat)=>(kf l c).flatMap λ(v:Nat)=>ks d.gx.vG (gA k r l v)else [])++aN=aE at e;have bH:∀{tb:gG},tb.p 28=some wL->rl prog cx tb 28 [gY.t ⟨d,d.gx.st⟩,G k,G i]=some (.bool (d.gx.K6 k i)):=λht=>iA ht JY (⟨d,d.gx.st⟩,(k:Int),(i:Int)) ⟨I.ana,(fI.2 ⟨D,D⟩:ju (k:Int) d.dY.length=true),(fI.2 ⟨D,D⟩:ju (i:Int) d.dY.length=true)⟩;simp[w,s,H,F,E,h.b1,bH];refine fw (λq=>?_) (λq=>?_)
      ·rw[ao (by rw[show d.gx.K6 k i=false by simpa using q];simp),cG,<-bi]at e;simp[z,w,x,u,s,H,F,B,C,T];exact⟨i+1,D,D,D,o,m,f,h,e,Y⟩
      ·rw[aq (by simpa using q)]at e;simp[s];refine uH c (λl b y=>∃o m f,Nh d y o m f/\f++(((kf l c).flatMap λ(l:Nat)=>(kf l c).flatMap λ(v:Nat)=>ks d.gx.vG (gA k i l v))++aE)=d.gx.pq/\dT b 1 (.ptr 0 0 0 0)/\dT b 3 (.ptr 1 0 0 0)/\dT b 5 (.ptr 2 0 0 0)/\dT b 6 (.func 25 [.ptr 1 0 0 0,.ptr 2 0 0 0])/\dT b 7 (G c)/\dT b 12 (G k)/\dT b 13 (G i)/\dT b 62 (G c)/\dT b 63 (G k)/\dT b 78 (G c)/\dT b 79 (G l)) ?_ D (k:=0) D ⟨o,m,f,h,e,by simp[z,w,x,u,s,H,F,B,C]⟩;rintro l b y cp ⟨o,m,f,h,e,z,w,x,u,s,H,F,B,C,R,S⟩;by_cases W:l<c
       ·have b7:=rM W D;rw[oz W,bm,aZ]at e;simp[R,S,W];generalize bX:((kf (l+1) c).flatMap λ(l:Nat)=>(kf l c).flatMap λ(v:Nat)=>ks d.gx.vG (gA k i l v))++aE=bC at e;refine uH c (λv b y=>∃o m f,Nh d y o m f/\f++(((kf v c).flatMap λ(v:Nat)=>ks d.gx.vG (gA k i l v))++bC)=d.gx.pq/\dT b 1 (.ptr 0 0 0 0)/\dT b 3 (.ptr 1 0 0 0)/\dT b 5 (.ptr 2 0 0 0)/\dT b 6 (.func 25 [.ptr 1 0 0 0,.ptr 2 0 0 0])/\dT b 7 (G c)/\dT b 12 (G k)/\dT b 13 (G i)/\dT b 14 (G l)/\dT b 15 (G v)/\dT b 62 (G c)/\dT b 63 (G k)/\dT b 78 (G c)/\dT b 79 (G l)) ?_ D (k:=l) D ⟨o,m,f,h,e,by simp[z,w,x,u,s,H,F,B,C,R,S]⟩;rintro v b y cF ⟨o,m,f,h,e,z,w,x,u,s,H,F,a6,ae,B,C,R,S⟩;by_cases X:v<c
        ·have b8:=rM X D;rw[oz X,bm]at e;have U:=h.pre I e (g:=gA k i l v) rfl;rw[aZ,<-aZ]at e;simp[u,s,H,F,a6,ae,X];refine jm NR Y _ U ?_;rintro _ a7 ⟨Q,Di,J,K⟩;simp[z,w,x,u,s,H,F,a6,ae,B,C,R,S,b8];exact⟨v+1,D,D,Q,Di,_,h.fm K J,e,Y⟩
        ·rw[p7 (show c<=v by omega)]at e;simp[z,w,x,u,s,H,F,ae,B,C,R,S,X,b7];exact⟨l+1,D,D,o,m,f,h,by rw[bX];exact e,Y⟩
       ·rw[p7 (show c<=l by omega)]at e;simp[z,w,x,u,s,H,F,B,C,R,S,W,T];exact⟨i+1,D,D,D,o,m,f,h,by rw[bi];exact e,Y⟩
     ·rw[p7 (show c<=i by omega)]at e;simp[z,w,x,u,s,F,B,C,E,P];exact⟨k+1,D,D,o,m,f,h,by rw[b6];exact e,Y⟩
    ·rw[p7 (show c<=k by omega)]at e;rw[cC,bG]at e;have⟨c1,ca⟩:=h.ac.gl;simp[x,B,C,A,ca,h.ac.g.cells,h.ac.g.iN];exact⟨h.ok.hp,by rw[Gr.ah0 h.ac.g D h.ac.a,e]⟩
 ·refine⟨dR,[],[],⟨⟨⟨0,Y⟩,Gr.nil _ _,.nil⟩,by exact⟨Y,Y,Y⟩,Y,Y⟩,V.symm,Y⟩
end
def Q3{f:GX}{b:iX}(a:f.vR b=true):b.kc.length<=4:=by
 unfold GX.vR at a;split at a
 ·unfold GX.dead GX.KR at a;simp only[ax,aK]at a;exact a.2.1.1.2
 split at a;rotate_left
 ·simp at a
 have e:∀{d:Bool},(decide (b.kc=[])&&d)=true->b.kc.length<=4:=λc=>by
  simp only[ax,aK]at c;rw[c.1];simp
 split at a
 ·simp only[ax,aK]at a;rw[a.1.2];simp
 split at a
 ·simp only[ax,aK]at a;rw[a.1.2];simp
 split at a
 ·exact e a
 ·simp at a
def Uh{b:gG}(ht:b.p 9=some wH)(a:ej)(c:kZ a):rl prog cx b 9 [a.t]=some (sl (a.gx.pq.map iX.t)):=iA ht VR a c
section
attribute [-simp] size_cons
def GR:iy:=⟨List Int,λa=>[sl (a.map (T.int .u8))],λa=>a.length<=1000000/\∀c∈a,QV c,λa=>sl (ij a),λd e b=>by simp at b;rw[jH (λ_ _ b=>by simpa using b) b]⟩
def ZN:GR.Ok prog cx 7:=by
 refine iq [] (jr 285 [] func7) (λ_=>1000005) (by simp[GR]) ?_;rintro(a:List Int) ⟨hl,p⟩ c n;simp[GR]at n|-;simp[f7];refine gu a.length D (λb c g=>∃e,Gr g e 1 (ij (a.take b))/\iE 0 g/\dT c 0 (sl (a.map (T.int .u8)))/\dT c 3 e/\dT c 4 (G b)) ?_ ?_ D ⟨dR,Gr.nil _ _,by exact⟨Y,Y,Y⟩,by simp[n]⟩
 ·rintro b c g k q ⟨e,d,l,h,i,j⟩;have r:=p a[b] (aC k);unfold QV at r;have⟨t,s,o,m⟩:=d.my (cx:=cx) (f:=T.int .i64) l kx rfl mP rfl Y (λ_=>rfl) a[b] dN;simp[h,i,j,k,o,q,show-9223372036854775808<=a[b]by omega,show a[b]<9223372036854775808 by omega];exact⟨by rw[aM k];exact m.1,⟨m.2.2.2.hp,m.2.2.2.low,aw _⟩⟩
 ·rintro c g ⟨e,d,l,h,i,j⟩;rw[aI]at d;simp[h,i,j,l.hp];rw[Iw e d.iN,d.qC Y]
def ae0{b:gG}(ht:b.p 7=some GR)(a:List Int)(hl:a.length<=1000000)(c:∀d∈a,QV d):rl prog cx b 7 [sl (a.map (T.int .u8))]=some (sl (ij a)):=iA ht ZN a ⟨hl,c⟩
def O0{a:ej}:∀(c:List Int) (e:List gJ) (b:fD) (d:Nat),uI d a b->uI (d+c.length) a (mB a c e b).2:=by
 intro c;induction c with
 |nil=>intro e b d f;exact f
 |cons g c j=>
  intro e b d f;simp only[mB];split
  ·exact f.up D
  ·rename_i h;have i:=FI g h;have:=j (e++[(mQ a b a.fq.dW.length).getD (g% ((mQ a b a.fq.dW.length).length:Int)).toNat default]) _ _ (f.step _ i);exact this.up dN 
end
end
noncomputable section
open Go Go.TI
def Ag(g:Int)(f:List Int):∀(e:List fk) (b:Nat),
 (qI g f e b=-1/\∀a c,e[a]? =some c->c.eg=g->((b+a:Nat):Int)∈f)\/
 ∃a c,qI g f e b=(b+a:Nat)/\e[a]? =some c/\c.eg=g/\((b+a:Nat):Int)∉f/\∀d h,d<a->e[d]? =some h->h.eg=g->((b+d:Nat):Int)∈f:=by
 intro e;induction e with
 |nil=>intro b;exact .inl ⟨rfl,λa c i=>by simp at i⟩
 |cons q e u=>
  intro b;simp only[qI];split
  ·rename_i j;exact .inr ⟨0,q,Y,Y,j.1,by simpa using j.2,λd h i=>by omega⟩
  ·rename_i j;have p:q.eg=g->(b:Int)∈f:=λi=>by
    by_cases o:(b:Int)∈f
    ·exact o
    ·exact absurd ⟨i,o⟩ j
   rcases u (b+1)with⟨k,l⟩|⟨a,c,k,l,r,s,t⟩
   ·refine .inl ⟨k,λa c n ht=>?_⟩;cases a with
    |zero=>simp at n;subst n;simpa using p ht
    |succ a=>have:=l a c (by simpa using n) ht;rwa[show b+1+a=b+(a+1)by omega]at this
   ·refine .inr ⟨a+1,c,by rw[k];congr 1;omega,by simpa using l,r,by rwa[show b+1+a=b+(a+1)by omega]at s,λd h v m ht=>?_⟩;cases d with
    |zero=>simp at m;subst m;simpa using p ht
    |succ d=>have:=t d h D (by simpa using m) ht;rwa[show b+1+d=b+(d+1)by omega]at this
def zg(a:ej)(b:fD)(c:Int):Nat:=if iV a b c<0 then a.dY.length else(iV a b c).toNat
def Pp(a:ej)(b:Nat):gh:=(o8 a.fq a.jG (a.dY.take b)).fN
def L3(a:ej)(b:fD)(c:Int):zg a b c<=a.dY.length/\(∀(e:Nat) d,e<zg a b c->a.dY[e]? =some d->d.eg=c->(e:Int)∈b.order)/\
 (0<=iV a b c->iV a b c=zg a b c/\∃d,a.dY[zg a b c]? =some d/\d.eg=c/\((zg a b c:Nat):Int)∉b.order)/\(iV a b c<0->zg a b c=a.dY.length):=by
 have j:=Ag c b.order a.dY 0;simp only[cJ]at j;unfold zg;rcases j with⟨g,f⟩|⟨e,d,g,f,l,m,n⟩
 ·have h:iV a b c=-1:=g;rw[h];exact⟨Y,λe d _ i ht=>f e d i ht,D,Y⟩
 ·have h:iV a b c=(e:Int):=g;have i:=(List.getElem?_eq_some_iff.1 f).1;rw[h,ao D];simp only[cm];exact⟨D,λq k p o ht=>n q k p o ht,λ_=>⟨trivial,d,f,l,m⟩,D⟩
def Po{a:ej}(f:kZ a){c:Nat}{b:fk}(d:a.dY[c]? =some b):je a.fq (Pp a c) b.eg b.kind b.obj=true/\Pp a (c+1)=(fO a.fq (Pp a c) b.eg b.kind b.obj (ls b)).1:=by
 have e:=f.ok.ok d;have h:=(List.getElem?_eq_some_iff.1 d).1;refine⟨(m6 e).2.2,?_⟩;unfold Pp;rw[dx,d];show(wC (λg b=>(ke a.fq g b).1) a.jG (a.dY.take c++[b])).fN=_;rw[BE];show((ke a.fq (o8 a.fq a.jG (a.dY.take c)) b).1).fN=_;rw[oF _ _ e];rfl
def Wd{a:ej}{c:fD}(k:kZ a){b:Int}(j:0<=iV a c b):∃d,a.dY[(iV a c b).toNat]? =some d/\d.eg=b/\lL a.dY (iV a c b)=d/\a.gx.e (iV a c b)=d/\iV a c b=zg a c b/\a.gx.s (iV a c b)=Pp a (zg a c b)/\ju (iV a c b) a.dY.length=true/\jN a.fq d.kind d.obj=true:=by
 have⟨_,_,n,_⟩:=L3 a c b;have⟨o,d,i,p,_⟩:=n j;have h:ju (iV a c b) a.dY.length=true:=qV D;have⟨q,g,_,l,_,m⟩:=k.at h;have f:(iV a c b).toNat=zg a c b:=D;rw[f,i]at g;simp only[ar]at g;subst g;refine⟨d,by rw[f];exact i,p,oQ j (by rw[f];exact i),l,o,?_,h,m⟩;rw[(k.ok.s h).1,f];rfl
def Vl{b:ej}{c:fD}{a:gJ}(i:kZ b)(e:iP b c a.eg=true):∃d,lL b.dY (iV b c a.eg)=d/\d.eg=a.eg/\je b.fq c.fN a.eg d.kind d.obj=true/\(mf b c a).1=wu b c (iV b c a.eg) d a.eg a.rL:=by
 unfold mf;rw[aq e];have h:0<=iV b c a.eg:=by
  unfold iP at e;split at e
  ·simp at e
  ·omega
 have⟨d,j,g,f,_⟩:=Wd i h;unfold iP at e;rw[ao D,f,ax]at e;exact⟨d,f,g,e.1,by rw[f]⟩
def Q0{w:ej}:∀(c:List Int) (b:List gJ) (a:fD),∃d,(mB w c b a).1=b++d/\d.length<=c.length/\uN w d a=some (mB w c b a).2:=by
 intro c;induction c with
 |nil=>intro b a;exact⟨[],by simp[mB],Y,rfl⟩
 |cons e c h=>
  intro b a;simp only[mB];split
  ·exact⟨[],Y,Y,rfl⟩
  ·rename_i f;have g:=FI e f;obtain⟨d,i,k,j⟩:=h (b++[(mQ w a w.fq.dW.length).getD (e% ((mQ w a w.fq.dW.length).length:Int)).toNat default]) (mf w a ((mQ w a w.fq.dW.length).getD (e% ((mQ w a w.fq.dW.length).length:Int)).toNat default)).1;refine⟨_::d,by rw[i,aZ];rfl,by simp only[aP];omega,?_⟩;unfold uN;rw[aq g];exact j
end
noncomputable section
open Go Go.TI Tryz
attribute [-simp] List.map_take List.map_drop List.map_append fU fK fh Bool.not_or Bool.not_and
attribute [simp] fT fM
section
attribute [-simp] size_cons List.map_map
abbrev Er{f:Type}(b:f->T)(g:∀d e,b d=b e->d=e):iy:=⟨List f,λa=>[sl (a.map b)],λa=>a.length<=1000000,λa=>sl (a.map b),λh i c=>by simp at c;rw[jH g c]⟩
def SZ{e:Type}{a:e->T}{v:∀c m,a c=a m->c=m}{d:Nat}{h:aj}(x:(jY Lo (uh d) (qj d)).Ok prog cx h)(o:∀c,(a c).cells.length=d)(p:∀b:List e,m7 [sl (b.map a)]=true)(q:∀j l (b:List e),Gr j l d (b.map a)->TI.qC j l=some (sl (b.map a))):(Er a v).Ok prog cx h:=by
 rintro(b:List e) hl;have k:uh d ⟨sl (b.map a),b.map a⟩ [sl (b.map a)] ⟨0,0,[]⟩:=⟨rfl,Y,λB t=>by obtain⟨c,_,rfl⟩:=List.mem_map.1 t;exact o c,by simpa using hl,⟨rfl,au _,au _⟩⟩;have⟨y,n,u,s⟩:=x [sl (b.map a)] ⟨0,0,[]⟩ ⟨_,k⟩;have⟨i,w,_⟩:=u _ k;have⟨z,f,g⟩:=dX.1 (q _ _ _ i);simp only[ar]at g;have f:jJ n 0 y=some z:=by rcases i with⟨rfl,_⟩|⟨_,_,_,_,_,rfl,_⟩<;>exact f
 have:=FO s w.ok.hp (aw _) (λA c r=>by simp at r) f;rw[g]at this;exact Ey (mc _ (p b)) Y this
def zR:iy:=⟨List Int,λa=>[sl (ij a)],λa=>a.length<=1000000,λa=>sl ((a.map λc=>(⟨c,true⟩:fV)).map fV.t),λd e b=>by simp at b;rw[jH (λ_ _ b=>by simpa using b) b]⟩
def VU:zR.Ok prog cx 52:=by
 refine iq [] (jr 7725 [] func52) (λ_=>1000005) (by simp[zR]) ?_;rintro(a:List Int) hl c n;simp[zR]at hl n|-;simp[f52,n,show a.length*16<=70368744177664 by omega];refine gu a.length D (λg c e=>∃b,Gr e b 2 (((a.take g).map λb=>(⟨b,true⟩:fV)).map fV.t)/\iE 0 e/\dT c 3 b/\dT c 9 (sl (ij a))/\dT c 10 (G a.length)/\dT c 11 (G g)) ?_ ?_ D ?_
 ·rintro g c e o q ⟨b,d,k,j,m,h,i⟩;have⟨s,r,p,l⟩:=d.my (cx:=cx) (f:=fV.t) k Aq rfl Bu rfl Y (λ_=>rfl) ⟨a[g],true⟩ dN;simp[j,m,h,i,o,p,q];exact⟨by rw[aM o,List.map_append];exact l.1,⟨l.2.2.2.hp,l.2.2.2.low,aw _⟩⟩
 ·rintro c e ⟨b,d,k,j,m,h,i⟩;rw[aI]at d;simp[j,h,i,k.hp];rw[Iw b d.iN,d.qC Y]
 ·exact⟨.arr 0 0 0 0 false,.inr ⟨0,0,0,decide (0=a.length),[],Y,Y,Y⟩,⟨Y,Y,Y⟩,Y⟩
def Uj{b:gG}(ht:b.p 52=some zR)(a:List Int)(hl:a.length<=1000000):rl prog cx b 52 [sl (ij a)]=some (sl ((a.map λc=>(⟨c,true⟩:fV)).map fV.t)):=iA ht VU a hl
def BY:iy:=⟨ej×fD,λa=>[a.1.t,a.2.t],λa=>True,λa=> .bool (decide (a.2.cells.length=a.1.fq.cells.length)&&decide (a.2.fa.length=a.1.fq.fa.length)&&decide (a.2.fixed.length=a.1.dY.length)&&decide (a.2.pZ.length=a.1.dY.length)),λa c b=>by simp at b;rw[show a=c from aD (ej.inj b.1) (fD.inj b.2)]⟩
def VZ:BY.Ok prog cx 53:=by
 refine iq [] (jr 31 [] func53) (λ_=>5) (by simp[BY]) ?_;rintro⟨f,d⟩ _ e a;simp[BY]at a|-;obtain⟨b,c⟩:=a;simp[f53,b,c,Int.natCast_inj]
def aaX{c:gG}(ht:c.p 53=some BY)(b:ej)(a:fD):rl prog cx c 53 [b.t,a.t]=some (.bool (decide (a.cells.length=b.fq.cells.length)&&decide (a.fa.length=b.fq.fa.length)&&decide (a.fixed.length=b.dY.length)&&decide (a.pZ.length=b.dY.length))):=iA ht VZ (b,a) trivial
def BZ:iy:=⟨gh,λa=>[a.t],λa=>a.fj.length<=1000000/\a.done.length<=1000000/\a.dW.length<=1000000/\∀c∈a.fj,c.fF.length<=1000000,λa=>a.t,λd e b=>by simp at b;rw[gh.inj b]⟩
def V3:BZ.Ok prog cx 51:=by
 have S:(Er (T.int .i64) (λ_ _ h=>by simpa using h)).Ok prog cx 59:=SZ A4 (λ_=>rfl) (λ_=>by simp) (λ_ _ _ d=>d.qC Y);have R:(Er T.bool (λ_ _ h=>by simpa using h)).Ok prog cx 58:=SZ EN (λ_=>rfl) (λ_=>by simp) (λ_ _ _ d=>d.qC Y);have U:(Er dZ.t (λ_ _ h=>dZ.inj h)).Ok prog cx 95:=SZ JW (λ_=>rfl) (λ_=>by simp) (λ_ _ _ d=>d.qC Y);refine iq [(59,Er (T.int .i64) (λ_ _ h=>by simpa using h)),(58,Er T.bool (λ_ _ h=>by simpa using h)),(95,Er dZ.t (λ_ _ h=>dZ.inj h))] (jr 983087 [(1,[(1,4),(4,6),(1,7),(4,9),(7,9)]),(5,[(1,6),(3,6)])] func51) (λ_=>1000005) (by simp[BZ]) ?_;rintro(a:gh) ⟨hl,N,P,hr⟩ g A;simp[BZ]at A|-;have K:=λ{i:gG} (ht:i.p 59=some (Er (T.int .i64) (λ_ _ h=>by simpa using h))) (e:List Int) (h:e.length<=1000000)=>iA ht S e h;have J:=λ{i:gG} (ht:i.p 58=some (Er T.bool (λ_ _ h=>by simpa using h)))=>iA ht R a.done N;have eT:=λ{i:gG} (ht:i.p 95=some (Er dZ.t (λ_ _ h=>dZ.inj h)))=>iA ht U a.dW P;simp[f51,A,J,eT];refine gu a.fj.length D (λc g h=>∃j ver,nS h 2 4 ver [(j,some (2,(a.fj.take c).map em.t)),(G a.tx,none),(sl (a.done.map T.bool),none),(sl (a.dW.map dZ.t),none)]/\Lb 2 h 1 tV/\dT g 2 (.ptr 1 0 0 0)/\dT g 3 (.ptr 2 0 0 0)/\dT g 16 (sl (a.fj.map em.t))/\dT g 17 (G a.fj.length)/\dT g 18 (G c)) ?_ ?_ D ?_
 ·rintro c g h o M ⟨j,ver,b,l1,m,n,y,k,l⟩;have O:=hr a.fj[c] (aC o);have I:a.fj.take (c+1)=a.fj.take c++[a.fj[c]]:=aM o;have v:=λ{i:gG} (ht:i.p 59=some (Er (T.int .i64) (λ_ _ h=>by simpa using h)))=>K ht a.fj[c].fF O;have⟨e,B⟩:∃e,e=a.fj[c]:=⟨_,rfl⟩;rw[<-B]at I v;have Q:(2=h.size)=False:=by have:=b.lt;simp;omega
  have q:=b.cons (dS 2 1 [e.t]);have al:=Step.cons b.ok b.lt (dS 2 1 [e.t]);have⟨av,an,u,r⟩:=(q.gr 0 rfl).my (cx:=cx) (f:=em.t) q.ok II rfl IF rfl Y (λ_=>rfl) e dN;rw[size_cons]at u;have⟨C,ap,W⟩:=q.app 0 rfl r;have⟨H,E⟩:=W _ rfl;have x:=b.get;simp only[aL,bw,cA]at C H E x;simp[m,n,y,k,l,o,b.ok.low,<-B,Q,v,x,u,C,eZ,r.1.iN,r.1.cells,M];exact⟨⟨_,_,by rw[I];exact E⟩,(l1.step al).step H⟩
 ·rintro g h ⟨j,ver,b,l1,m,n,y,k,l⟩;rw[aI]at b;have d:=b.get;simp only[aL,bw]at d;have s:=l1.get;unfold tV at s;have ae:=b.qh l1 (dS 4 1 [.agg [j,G a.tx,sl (a.done.map T.bool),sl (a.dW.map dZ.t)]]);have L:=(ee l1.get (dS 4 1 [.agg [j,G a.tx,sl (a.done.map T.bool),sl (a.dW.map dZ.t)]]) 1).trans (aq rfl);have z:=(ae.gr 0 rfl).fz Y;simp[m,n,k,l,d,s,eZ,L,z,b.ok.hp]
 ·have⟨X,Z⟩:=nS.start (h:=(((hE.cons (dS 4 0 [a.t])).cons tV).cons (dS 4 1 [.agg [dR,G a.tx,sl (a.done.map T.bool),sl (a.dW.map dZ.t)]]))) (w:=2) (szw:=4) (ver:=1) (F:=[(dR,some (2,[])),(G a.tx,none),(sl (a.done.map T.bool),none),(sl (a.dW.map dZ.t),none)]) (by exact⟨rfl,Y,Y⟩) Y Y;exact⟨_,1,X,⟨by simp[tV],λV=>by have:=Z _ V;omega⟩,Y⟩
def aaZ{b:gG}(ht:b.p 51=some BZ)(a:gh)(c:a.fj.length<=1000000/\a.done.length<=1000000/\a.dW.length<=1000000/\∀d∈a.fj,d.fF.length<=1000000):rl prog cx b 51 [a.t]=some a.t:=iA ht V3 a c
def AM:iy:=⟨ej,λa=>[a.t],λa=>kZ a,λa=>(ka a).t,λc d b=>by simp at b;rw[ej.inj b]⟩
def So:AM.Ok prog cx 22:=by
 refine iq [(51,BZ),(52,zR)] (jr 7 [(1,[(3,6),(3,10),(7,10),(3,13),(7,13),(11,13),(3,15),(7,15),(11,15),(3,17),(7,17),(11,17),(3,19),(7,19),(11,19)])] func22) (λ_=>20) (by simp[AM]) ?_;rintro(a:ej) e w g;simp[AM]at g|-;have⟨l1,l2,l3,l4,l5,l6⟩:=e.sm.l;have v:=e.ok.len;have i:a.dY.length<=70368744177664:=D;have j:a.dY.length*8<=70368744177664:=D;have m:=λ{d:gG} (ht:d.p 51=some BZ)=>aaZ ht a.jG.fN ⟨D,D,D,λq c=>by have:=e.sm.r q c;omega⟩;have n:=λ{d:gG} (ht:d.p 52=some zR)=>Uj ht a.jG.cells D;have o:=λ{d:gG} (ht:d.p 52=some zR)=>Uj ht a.jG.fa D;have k:ka a=⟨a.jG.fN,a.jG.cells.map λf=>⟨f,true⟩,a.jG.fa.map λf=>⟨f,true⟩,[],List.replicate a.dY.length false,List.replicate a.dY.length 0⟩:=rfl;rw[k];have s:∀h:H,h.get 2=some ⟨1,0,0,true,false,List.replicate a.dY.length (T.bool false)⟩->TI.fz h (.arr 2 0 0 a.dY.length false)=some (sl ((List.replicate a.dY.length false).map T.bool)):=λh c=>by
  have:=(Gr.new (h:=h) (b:=2) (sz:=1) (ep:=0) (es:=(List.replicate a.dY.length false).map T.bool) (by simpa using c)).fz Y;simpa using this
 have u:∀h:H,h.get 3=some ⟨1,0,0,true,false,List.replicate a.dY.length (T.int .i64 0)⟩->TI.fz h (.arr 3 0 0 a.dY.length false)=some (sl ((List.replicate a.dY.length (0:Int)).map (T.int .i64))):=λh c=>by
  have:=(Gr.new (h:=h) (b:=3) (sz:=1) (ep:=0) (es:=(List.replicate a.dY.length (0:Int)).map (T.int .i64)) (by simpa using c)).fz Y;simpa using this
 simp[f22,g,m,n,o,i,j,s,u,-wY];unfold fD.t fD.cs;simp
def Xa{b:gG}(ht:b.p 22=some AM)(a:ej)(c:kZ a):rl prog cx b 22 [a.t]=some (ka a).t:=iA ht So a c
end
section
attribute [-simp] size_cons
def JX:(jY Lo (uh 2) (qj 2)).Ok prog cx 57:=xc (wz (fn:=f57) (t:=46) (tb:=4) (te:=xJ) iT func57 dU dU dU dU dU dU dU) dP (bytes:=16) dP 
def WN{cx:Ctx}{sz:Nat}{j o:ab}{n c:Ty}(r:cx.ty j=some n)(k:n.u= .slice o)(l:cx.ty o=some c)(i:c.size=sz)(t:1<=c.bytes)(es:List T)(p:∀b∈es,b.cells.length=sz)(v:(es.length+1)*c.bytes<=70368744177664):
 ∃h:T,(∀a,Ji cx a n (sl es) none (some es.length) (some es.length)=some (.val h a))/\∀(a:H) (b:T),b.cells.length=sz->jn cx (a.cons (dS sz 0 [b])) j j h (.arr a.size 0 0 1 false)=some (.val (.arr (a.size+1) 0 0 (es.length+1) false) ((a.cons (dS sz 0 [b])).cons ⟨sz,0,0,false,false,es++[b]⟩)):=by
 have q:∀(a:H) (h:T) (b:T),b.cells.length=sz->(∀a:H,∀f,f≠ []->a.append c.size c.bytes h f=a.js c.size c.bytes es f)->jn cx (a.cons (dS sz 0 [b])) j j h (.arr a.size 0 0 1 false)=some (.val (.arr (a.size+1) 0 0 (es.length+1) false) ((a.cons (dS sz 0 [b])).cons ⟨sz,0,0,false,false,es++[b]⟩)):=λa h b g s=>by
  unfold jn qt nH;rw[r,eJ,eJ];simp only[k,l,eJ];rw[iF];simp only[ez,aq,eJ,List.drop_zero,List.take_succ_cons,List.take_zero,aP,cQ];simp only[decide_true,iR,cD,bh,au,bj,eJ,lN (sz:=c.size) (es:=[b]) (by rw[i];simpa using g),s _ [b] Y];unfold H.js;rw[qz,eJ,kq,jd,eJ,lN (sz:=c.size) (by rw[i];exact p),lN (sz:=c.size) (es:=[b]) (by rw[i];simpa using g)];simp[t,v,i,j7]
 cases es with
 |nil=>exact⟨dR,λa=>by unfold Ji jI;simp only[k,l];rfl,λa b g=>q a _ b g λa f m=>by cases f with|nil=>exact absurd rfl m|cons=>rfl⟩
 |cons e d=>
  refine⟨.ed (e::d) true,λa=>?_,λa b g=>q a _ b g λa f m=>by cases f with|nil=>exact absurd rfl m|cons=>rfl⟩;unfold Ji jI;simp only[k,l];show iG (fits c.size (e::d)) (iG true (val a (qO (e::d) false 0 (e::d).length (some (e::d).length))))=_;rw[i,lN p,iR,iR];unfold qO;rw[Om _ _ _ (aw _) (au _),eJ,show Nat.ble 0 (e::d).length=true by simp,iR,List.drop_zero,Nat.sub_zero,aI];show val a (iG (Nat.beq (e::d).length (e::d).length) (some (.ed (e::d) true)))=_;simp
def JM(b:Nat)(c:fD)(a:H):Prop:=∃i d e f g h,nS a b 9 i (pO c d e f g h)/\Lb b a 3 nO
def TL(a b:fV):Lm cx xJ a.t b.t=some (decide (a=b)):=by
 obtain⟨c,e⟩:=a;obtain⟨d,f⟩:=b;show Lm cx xJ (.agg [G c,.bool e]) (.agg [G d,.bool f])=_;rw[MN rfl rfl];simp only[zt,KS,zv,eJ,show Vg.u= .bool from rfl,show HN.u= .int .i64 from rfl,PC,L4,iR,MO,KN];simp only[BC,decide_true,iR,fV.mk.injEq];by_cases g:c=d<;>cases e<;>cases f<;>simp[g]
def Tc(c d:ah)(b:fV)(a:T):A7 c d b.t a=true:=id rfl
def KJ{a:List fV}{b c:Int}{d:fV}(e:qJ a b=some d):fixC a b c=decide (d=⟨c,true⟩):=by
 unfold fixC;rw[e];simp
def NU{b c:H}(d:Nb b c):b.size<=c.size/\iE 0 c/\(∀a,a<b.size->c.get a=b.get a)/\∀a,a<b.size->fQ b c a=true:=⟨d.ok.sz,⟨d.ok.hp,d.ok.low,aw _⟩,d.get,λa e=>fZ (d.get a e)⟩
def zQ:iy:=⟨ej×fD×gJ,λa=>[a.1.t,a.2.1.t,a.2.2.t],λa=>vH a.1 a.2.1/\iP a.1 a.2.1 a.2.2.eg=true/\F3 4 a.2.1.fN,λa=> .tuple [(mf a.1 a.2.1 a.2.2).1.t,.bool true],λa c b=>by simp at b;rw[show a=c from aD (ej.inj b.1) (aD (fD.inj b.2.1) (gJ.inj b.2.2))]⟩
def VL:zQ.Ok prog cx 23:=by
 refine y9 (tb:=⟨pt [(53,BY),(54,qT),(55,vn),(60,uR),(56,uU)],ht [(57,jY Lo (uh 2) (qj 2)),(58,jY Lo (uh 1) (qj 1)),(59,jY Lo (uh 1) (qj 1))]⟩) jg iT (jr 2954892465099842490915138798468358981925535743 [(8,[(0,3),(3,5),(0,6),(3,8),(6,8),(3,10),(6,10),(3,13),(6,13),(3,15),(6,15),(3,17),(6,17),(0,18),(3,20),(6,20),(18,20),(0,21),(3,23),(6,23),(18,23),(21,23),(0,24),(3,26),(6,26),(18,26),(21,26),(24,26)])] func23) (λ_=>100) (by simp[zQ]) nl9 ?_;rintro⟨u,d,e⟩ ⟨j,bB,fb⟩ B ae;simp only at j bB fb;simp[zQ]at ae|-;obtain⟨gE,cF,e0⟩:=ae;have eh:=mf.eq_1 u d e;rw[aq bB]at eh;have hE:=iP.eq_1 u d e.eg;have e8:¬iV u d e.eg<0:=λq=>by rw[aq q,bB]at hE;simp at hE
 rw[ao e8,bB]at hE;have bC:=qV e8;have⟨c,eb,bn,h7,h8,cp⟩:=j.hw.at bC;rw[oQ (fI.1 bC).1 eb]at eh hE;have e6:je u.fq d.fN e.eg c.kind c.obj=true:=by
  cases q:je u.fq d.fN e.eg c.kind c.obj
  ·rw[q]at hE;simp at hE
  ·rfl
 have hd:ju e.eg u.fq.dW.length=true:=by have:=e6;unfold je at this;simp only[ax]at this;exact this.1.1.2
 have gM:=j.hw.ev c (ay eb);have al:=qq bC;have ha:=λ{tb:gG} (ht:tb.p 55=some vn)=>M0 ht u d e.eg j;have e5:=λ{tb:gG} (ht:tb.p 54=some qT)=>HA ht u d e.eg j hd;have gQ:=λ{tb:gG} (ht:tb.p 60=some uR)=>OK ht u d e.eg c.tQ j al gM.2;have e7:=λ{tb:gG} (ht:tb.p 53=some BY)=>aaX ht u d;rw[j.hc.ce al,j.hc.fu al,j.hc.fx,j.hc.wk]at e7;have e9:=fb.len j.hc.BL;have hb:Pj d.fN:=⟨by have:=j.l al;omega,by have:=j.l al;omega,by have:=j.l al;omega,λeB q=>by have:=e9 eB q;omega,j.hc.BL⟩;have gI:∀{tb:gG},tb.p 56=some uU->rl prog cx tb 56 [u.fq.t,d.fN.t,G e.eg,G c.kind,G c.obj,G e.rL]=some (.tuple [(fO u.fq d.fN e.eg c.kind c.obj e.rL).1.t,G (fO u.fq d.fN e.eg c.kind c.obj e.rL).2,.bool true]):=λht=>iA ht JZ (u.fq,d.fN,e.eg,c.kind,c.obj,e.rL) ⟨e6,by have:=kW j.hw.wb;simp only;omega,hb,λeB q=>by have:=e9 eB q;omega⟩;rw[bB]at e5;rw[eh];generalize ih:iV u d e.eg=o at*
 generalize gP:mN u d e.eg c.tQ=ef at*
 simp[f23,gE,cF,e0,e7,e5,ha,eb,bn,gI];generalize R:H.cons _ _=F;have hN:iE 0 F:=by rw[<-R];exact⟨Y,Y,Y⟩
 have h6:F.size=6:=by rw[<-R];rfl
 have gg:F.get 0=some (dS 15 0 [u.t]):=by rw[<-R];simp
 have eO:F.get 1=some (dS 9 0 [d.t]):=by rw[<-R];simp
 have gi:F.get 2=some (dS 2 0 [e.t]):=by rw[<-R];simp
 have gj:F.get 3=some nO:=by rw[<-R];simp[nO]
 have gk:F.get 4=some (dS 7 1 [c.t]):=by rw[<-R];simp
 have hS:F.get 5=some (dS 4 1 [(fO u.fq d.fN e.eg c.kind c.obj e.rL).1.t]):=by rw[<-R];simp
 clear R;have hf:=j.hc.ce al;have hg:=j.hc.fu al;have j2:=kW j.hw.wb;refine lH JX Y ⟨sl (d.cells.map fV.t),d.cells.map fV.t⟩ ⟨rfl,Y,λA U=>by obtain⟨z,_,rfl⟩:=List.mem_map.1 U;rfl,dN,hN⟩ ?_;rintro bT J ⟨gC,hG,gm⟩;simp only at gC;have⟨hZ,hL,ec,b7⟩:=NU hG;rw[h6]at hZ ec b7;have a1:=(ec 1 D).trans eO;simp[a1,b7];refine lH JX Y ⟨sl (d.fa.map fV.t),d.fa.map fV.t⟩ ⟨rfl,Y,λA U=>by obtain⟨z,_,rfl⟩:=List.mem_map.1 U;rfl,dN,hL⟩ ?_;rintro bW k ⟨bp,fo,gn⟩;simp only at bp;have⟨h3,okB,gB,fB⟩:=NU fo;have eF:∀b,b<6->fQ J k b=true:=λb m=>fB b D;have de:=(gB 1 D).trans a1;have⟨jC,fs,c4⟩:=WN (cx:=cx) (sz:=1) kx rfl mP rfl Y (ij d.order) (by simp[T.cells]) (by have:=j.hc.od;simp;omega);rw[aG]at fs c4;have c4:=c4 k (G o) rfl;have an:∀{h h':H} {b:Nat},h.size<=b->fQ h h' b=true:=λq=>jw (mv _ q);have hD:fQ F J k.size=true:=an D;have hF:fQ J k k.size=true:=an h3;have hn:(k.size=0)=False:=dN;have bH:(1=k.size)=False:=dN;simp[de,b7,eF,hD,hF,hn,bH,fs,c4];have⟨C,aA⟩:∃C,C=(k.cons (dS 1 0 [G o])).cons ⟨1,0,0,false,false,ij d.order++[G o]⟩:=⟨_,rfl⟩;rw[<-aA];have JI:iE 0 C:=by rw[aA];exact(okB.cons _).cons _
 have kb:C.size=k.size+2:=by rw[aA];rfl
 have eP:∀b,b<k.size->C.get b=k.get b:=λb m=>by rw[aA,ez,ao (by simp[size_cons];omega),ez,ao D]
 have gO:C.get (k.size+1)=some ⟨1,0,0,false,false,ij d.order++[G o]⟩:=by rw[aA];simp[size_cons]
 have p1:=(eP 1 D).trans de;refine lH EN Y ⟨sl (d.fixed.map T.bool),d.fixed.map T.bool⟩ ⟨rfl,Y,λA U=>by obtain⟨z,_,rfl⟩:=List.mem_map.1 U;rfl,by have:=j.hc.fx;have:=j.ev;simp;omega,JI⟩ ?_;rintro b6 Z ⟨bs,hI,gw⟩;simp only at bs;have⟨kd,hM,eS,eH⟩:=NU hI;have av:=(eS 1 D).trans p1;have fC:fQ (k.cons (dS 1 0 [G o])) C 1=true:=fZ (by rw[aA,ez,ao (by simp[size_cons];omega)]);simp[av,eH 5 D,eH 1 D,fC,b7,eF];refine lH A4 Y ⟨sl (ij d.pZ),ij d.pZ⟩ ⟨rfl,Y,by simp[T.cells],by have:=j.hc.wk;have:=j.ev;simp;omega,hM⟩ ?_;rintro bX x ⟨gK,hH,gv⟩;simp only at gK;have⟨h5,okW,eR,fE⟩:=NU hH;have hQ:=(eR 1 D).trans av;simp[gC.iN,gC.cells,bp.iN,bp.cells,bs.iN,bs.cells,gK.iN,gK.cells,fE 5 D,an (h:=Z) (h':=x) (b:=x.size) h5,an (h:=C) (h':=Z) (b:=x.size) D,an (h:=k.cons (dS 1 0 [G o])) (h':=C) (b:=x.size) (by rw[size_cons];omega),an (h:=J) (h':=k) (b:=x.size) D,an (h:=F) (h':=J) (b:=x.size) D,okW.low];have w:=wu.eq_1 u d o c e.eg e.rL;rw[gP]at w;generalize wu u d o c e.eg e.rL=Q at*
 generalize hr:fO u.fq d.fN e.eg c.kind c.obj e.rL=r at*
 obtain⟨I,c7⟩:=r;have⟨s,bA⟩:∃s,s=x.cons (dS 9 1 [.agg [sl (I.fj.map em.t),G I.tx,sl (I.done.map T.bool),sl (I.dW.map dZ.t),bT,bW,.arr (k.size+1) 0 0 (d.order.length+1) false,b6,bX]]):=⟨_,rfl⟩;simp only[<-bA];have eD:iE 0 s:=by rw[bA];exact okW.cons _
 have h4:s.size=x.size+1:=by rw[bA];rfl
 have fX:s.get x.size=some (dS 9 1 [.agg [sl (I.fj.map em.t),G I.tx,sl (I.done.map T.bool),sl (I.dW.map dZ.t),bT,bW,.arr (k.size+1) 0 0 (d.order.length+1) false,b6,bX]]):=by rw[bA];simp
 have dd:∀b,b<x.size->s.get b=x.get b:=λb m=>by rw[bA,ez,ao D]
 have eM:∀b,b<Z.size->s.get b=Z.get b:=λb m=>(dd b D).trans (eR b m);have eL:∀b,b<C.size->s.get b=C.get b:=λb m=>(eM b D).trans (eS b m);have eK:∀b,b<k.size->s.get b=k.get b:=λb m=>(eL b D).trans (eP b m);have eI:∀b,b<J.size->s.get b=J.get b:=λb m=>(eK b D).trans (fo.get b m);have fW:∀b,b<6->s.get b=F.get b:=λb m=>(eI b D).trans (ec b m);have et:∀q,eG bT=some q->6<=q/\q<J.size:=λq n=>⟨by have:=gm q n;omega,by have⟨_,_,_,_,z,_⟩:=gC.box n;exact H.fG z⟩;have eu:∀q,eG bW=some q->J.size<=q/\q<k.size:=λq n=>⟨gn q n,by have⟨_,_,_,_,z,_⟩:=bp.box n;exact H.fG z⟩;have eA:∀q,eG b6=some q->C.size<=q/\q<Z.size:=λq n=>⟨gw q n,by have⟨_,_,_,_,z,_⟩:=bs.box n;exact H.fG z⟩;have ey:∀q,eG bX=some q->Z.size<=q/\q<x.size:=λq n=>⟨gv q n,by have⟨_,_,_,_,z,_⟩:=gK.box n;exact H.fG z⟩;have c1:∀(E:Nat) (a:T×aa (Nat×List T)),(pO {d with fN:=I,order:=d.order++[o]} bT bW (.arr (k.size+1) 0 0 (d.order.length+1) false) b6 bX)[E]? =some a->∀q,eG a.1=some q->6<=q/\q<x.size/\(E=4/\q<J.size\/E=5/\J.size<=q/\q<k.size\/E=6/\q=k.size+1\/E=7/\C.size<=q/\q<Z.size\/E=8/\Z.size<=q):=by
  intro E a ae q n;unfold pO at ae;rcases E with _|_|_|_|_|_|_|_|_|E<;>simp at ae<;>subst ae<;>simp at n
  ·have:=et q n;omega
  ·have:=eu q n;omega
  ·omega
  ·have:=eA q n;omega
  ·have:=ey q n;omega
 have g:nS s x.size 9 1 (pO {d with fN:=I,order:=d.order++[o]} bT bW (.arr (k.size+1) 0 0 (d.order.length+1) false) b6 bX):=by
  refine⟨eD,fX,λf cX=>?_,λE o gV a b ae m q aE hO=>gV ?_⟩
  ·simp only[pO,cu,cO,or_false]at cX;rcases cX with rfl|rfl|rfl|rfl|rfl|rfl|rfl|rfl|rfl
   iterate 4 (show eG _=none;simp)
   ·exact⟨gC.mono λb m=>eI b (et b m).2,show(2:Nat)≠9 by decide⟩
   ·exact⟨bp.mono λb m=>eK b (eu b m).2,show(2:Nat)≠9 by decide⟩
   ·exact⟨.inr ⟨k.size+1,0,0,false,ij d.order++[G o],Y,(eL _ D).trans gO,by simp[bL,List.map_append]⟩,show(1:Nat)≠9 by decide⟩
   ·exact⟨bs.mono λb m=>eM b (eA b m).2,show(1:Nat)≠9 by decide⟩
   ·exact⟨gK.mono λb m=>dd b (ey b m).2,show(1:Nat)≠9 by decide⟩
  ·have cF:=c1 E a ae q aE;have e0:=c1 o b m q hO;omega
 have eU:∀q,Fp s x.size q->6<=q:=λq n=>by
  rcases n with rfl|⟨A,U,v,fe,aE⟩
  ·omega
  ·rw[g.get]at U;simp only[ar]at U;subst U;simp only[gH,bm,cC,bG,T.cells]at fe;obtain⟨f,cX,rfl⟩:=List.mem_map.1 fe;have⟨E,gS⟩:=cN cX;have:=c1 E f gS q aE;omega
 have V:∀b A,b<6->F.get b=some A->Lb x.size s b A:=λb A cF gF=>⟨(fW b cF).trans gF,λq=>by have:=eU b q;omega⟩;have l0:=V 0 _ D gg;have l1:=V 1 _ D eO;have l2:=V 2 _ D gi;have l3:=V 3 _ D gj;have l4:=V 4 _ D gk;have kg:6<=x.size:=D;have gd:=(dd 4 D).symm.trans l4.get;clear V eU c1 fW eI eK eL eM dd et eu eA ey fX hQ av p1 de a1 gg eO gi gj gk hS fE eH fC an b7 eF fB;generalize x.size=P at*
 have bi:(4=P)=False:=dN;have hh:=eD.low;have hj:s.low<=s.size+1:=D;have hJ:∀b,b<7->(s.size=b)=False:=λb m=>by simp;omega
 have hK:∀b,b<7->(b=s.size)=False:=λb m=>by simp;omega
 simp[bi,gd,l0.get,l1.get,l2.get,l4.get,hh,hj,hJ,hK,gQ];have fS:=(g.cons (dS 2 1 [fV.t ⟨c.value,true⟩])).cons (dS 2 1 [fV.t ⟨0,false⟩]);have c9:=Step.cons g.ok g.lt (dS 2 1 [fV.t ⟨c.value,true⟩]);have b9:=Step.cons (g.cons (dS 2 1 [fV.t ⟨c.value,true⟩])).ok (g.cons (dS 2 1 [fV.t ⟨c.value,true⟩])).lt (dS 2 1 [fV.t ⟨0,false⟩]);have aE:=(l1.step c9).step b9;have fv:=(l3.step c9).step b9;have fA:=(l4.step c9).step b9;have eE:=(Tt g (dS 2 1 [fV.t ⟨c.value,true⟩])).step b9;have W:=Tt (g.cons (dS 2 1 [fV.t ⟨c.value,true⟩])) (dS 2 1 [fV.t ⟨0,false⟩]);rw[size_cons]at W;have kk:6<=s.size:=D;generalize(s.cons _).cons _=ie at*
 generalize s.size=c6 at*
 clear c9 b9 l0 l1 l2 l3 l4 gd g eD h4;refine kP (λB h=>∃aN aX a6 a7 a8 fY,nS h P 9 1 (pO {d with fN:=I,order:=d.order++[o]} aN aX a6 a7 a8)/\Lb P h 1 (dS 9 0 [d.t])/\Lb P h 3 nO/\Lb P h 4 (dS 7 1 [c.t])/\Lb P h c6 (dS 2 1 [fV.t ⟨c.value,true⟩])/\Lb P h (c6+1) (dS 2 fY [(cont ef c.value).t])/\dT B 4 (.ptr 1 0 0 0)/\dT B 6 (.ptr 3 0 0 0)/\dT B 8 (G o)/\dT B 9 (.ptr 4 0 0 0)/\dT B 11 (G c7)/\dT B 13 (.ptr P 0 0 0)/\dT B 14 (.ptr c6 0 0 0)/\dT B 15 (.ptr (c6+1) 0 0 0)) (λn=>?_) (λn=>?_) ?_
 ·subst n;simp[eE.get,W.get];exact⟨⟨_,_,_,_,_,fS.qh W _⟩,yj aE W D,yj fv W D,yj fA W D,yj eE W D,_,Ts W _⟩
 ·subst n;simp;exact⟨⟨_,_,_,_,_,fS⟩,aE,fv,fA,eE,_,W⟩
 rintro B h ⟨aN,aX,a6,a7,a8,fY,g,l1,l3,l4,fi,V,e4,O,cL,bu,eV,N,eW,eX⟩;simp[bu,l4.get];have eo:c.kind=3\/c.kind=4->ju c.obj d.cells.length=true:=λq=>by
  rw[hf];unfold jN at cp;rcases q with q|q<;>simpa[q]using cp
 have er:c.kind=22\/c.kind=23->ju c.obj d.fa.length=true:=λq=>by
  rw[hg];unfold jN at cp;rcases q with q|q<;>simpa[q]using cp
 have gX:o.toNat<d.fixed.length:=by rw[j.hc.fx];exact(fI.1 bC).2
 have gZ:o.toNat<d.pZ.length:=by rw[j.hc.wk];exact(fI.1 bC).2
 have M:=g.get;simp only[pO,aL,bw]at M;have fL:∀A z:Bool,mG (.bool A) 0 [.bool z]=some (.bool z):=λ_ _=>rfl;have fP:∀A z:Int,mG (G A) 0 [G z]=some (G z):=λ_ _=>rfl;simp only at w;have⟨jj,ia,j1,ic,j6,ca,cb,X,ap⟩:=(g.gr 7 rfl).Bf (te:=Vg) rfl (i:=o.toNat) (by simpa using gX);simp at ap;refine kP (λB h=>JM P Q h/\dT B 6 (.ptr 3 0 0 0)/\dT B 13 (.ptr P 0 0 0)) (λds=>?_) (λds=>?_) ?_
 ·have y:c.kind=3:=by simpa using ds
  have⟨A,av,eN⟩:=iU (eo (.inl y));have S:=fI.1 (eo (.inl y));simp[y,KJ eN]at w;have⟨L,K⟩:=g.elem 7 rfl ca X o.toNat (.bool (decide (A=⟨c.value,true⟩)));simp[e4,O,cL,bu,N,eW,M,l1.get,l4.get,fi.get,fy S.1,av,bn,cb,X,ap,fL,TL,Tc];exact⟨_,_,_,_,_,_,by rw[w];simpa[pO,aU]using K,l3.step L⟩
 have hy:¬c.kind=3:=by simpa using ds
 simp;refine fw (λdn=>?_) (λdn=>?_)
 ·have y:c.kind=23:=by simpa using dn
  have⟨A,av,eN⟩:=iU (er (.inr y));have S:=fI.1 (er (.inr y));simp[y,KJ eN]at w;have⟨L,K⟩:=g.elem 7 rfl ca X o.toNat (.bool (decide (A=⟨c.value,true⟩)));simp[e4,O,cL,bu,N,eW,M,l1.get,l4.get,fi.get,fy S.1,av,bn,cb,X,ap,fL,TL,Tc];exact⟨_,_,_,_,_,_,by rw[w];simpa[pO,aU]using K,l3.step L⟩
 have hv:¬c.kind=23:=by simpa using dn
 simp;refine fw (λbi=>?_) (λbi=>?_)
 ·have y:c.kind=4:=by simpa using bi
  have S:=fI.1 (eo (.inr y));have⟨q,gy,hP,gz,hR,bH,eC,bN,bS⟩:=(g.gr 4 rfl).Bf (te:=xJ) rfl (i:=c.obj.toNat) (by simpa using S.2);simp at bS;simp[y]at w;have⟨L,K⟩:=g.elem 4 rfl bH bN c.obj.toNat (cont ef c.value).t;simp[O,bu,N,eX,M,l4.get,V.get,fy S.1,eC,bN,bS];exact⟨_,_,_,_,_,_,by rw[w];simpa[pO,aU]using K,l3.step L⟩
 have hC:¬c.kind=4:=by simpa using bi
 simp;refine fw (λdm=>?_) (λdm=>?_)
 ·have y:c.kind=22:=by simpa using dm
  have S:=fI.1 (er (.inl y));have⟨q,gy,hP,gz,hR,bH,eC,bN,bS⟩:=(g.gr 5 rfl).Bf (te:=xJ) rfl (i:=c.obj.toNat) (by simpa using S.2);simp at bS;simp[y]at w;have⟨L,K⟩:=g.elem 5 rfl bH bN c.obj.toNat (cont ef c.value).t;simp[O,bu,N,eX,M,l4.get,V.get,fy S.1,eC,bN,bS];exact⟨_,_,_,_,_,_,by rw[w];simpa[pO,aU]using K,l3.step L⟩
 have hs:¬c.kind=22:=by simpa using dm
 have⟨ii,h9,j0,ib,j5,ca,cb,X,ap⟩:=(g.gr 8 rfl).Bf (te:=D3) rfl (i:=o.toNat) (by simpa using gZ);simp at ap;simp;refine fw (λdi=>?_) (λdi=>?_)
 ·have y:c.kind=18:=by simpa using di
  simp[y]at w;simp[eV];refine fw (λdv=>?_) (λdv=>?_)
  ·have ea:0<=c7:=by simpa using dv
   rw[aq ea]at w;have⟨L,K⟩:=g.elem 8 rfl ca X o.toNat (G 1);simp[O,cL,N,M,bn,cb,X,ap,fP];exact⟨_,_,_,_,_,_,by rw[w];simpa[pO,aU]using K,l3.step L⟩
  ·have ea:¬0<=c7:=by simpa using dv
   rw[ao ea]at w;simp[O,N];exact⟨_,_,_,_,_,_,by rw[w];exact g,l3⟩
 have ho:¬c.kind=18:=by simpa using di
 simp;refine fw (λdk=>?_) (λdk=>?_)
 ·have y:c.kind=19:=by simpa using dk
  simp[y]at w;have⟨L,K⟩:=g.elem 8 rfl ca X o.toNat (G c7);simp[O,cL,eV,N,M,bn,cb,X,ap,fP];exact⟨_,_,_,_,_,_,by rw[w];simpa[pO,aU]using K,l3.step L⟩
 ·have hq:¬c.kind=19:=by simpa using dk
  simp[hy,hv,hC,hs,ho,hq]at w;simp[O,N];exact⟨_,_,_,_,_,_,by rw[w];exact g,l3⟩
 rintro B h ⟨⟨jZ,aN,aX,a6,a7,a8,g,l3⟩,O,N⟩;have M:=g.get;simp only[pO,aL,bw]at M;have ff:=l3.get;unfold nO at ff;have b8:=g.qh l3 (dS 9 1 [.agg [sl (Q.fN.fj.map em.t),G Q.fN.tx,sl (Q.fN.done.map T.bool),sl (Q.fN.dW.map dZ.t),aN,aX,a6,a7,a8]]);have gD:=(ee l3.get (dS 9 1 [.agg [sl (Q.fN.fj.map em.t),G Q.fN.tx,sl (Q.fN.done.map T.bool),sl (Q.fN.dW.map dZ.t),aN,aX,a6,a7,a8]]) 3).trans (aq rfl);have hU:=(b8.gr 4 rfl).fz Y;have hV:=(b8.gr 5 rfl).fz Y;have hW:=(b8.gr 6 rfl).fz Y;have hX:=(b8.gr 7 rfl).fz Y;have hY:=(b8.gr 8 rfl).fz Y;simp[N,O,M,ff,eZ,gD,hU,hV,hW,hX,hY,g.ok.hp]
def aaT{d:gG}(ht:d.p 23=some zQ)(b:ej)(a:fD)(c:gJ)(e:vH b a)(f:iP b a c.eg=true)(hr:F3 4 a.fN):rl prog cx d 23 [b.t,a.t,c.t]=some (.tuple [(mf b a c).1.t,.bool true]):=iA ht VL (b,a,c) ⟨e,f,hr⟩
