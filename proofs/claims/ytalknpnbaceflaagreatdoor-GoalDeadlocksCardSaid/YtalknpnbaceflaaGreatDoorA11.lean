/- W08d -/
import Derived.Test.YtalknpnbaceflaaGreatDoorA9
import Derived.Test.YtalknpnbaceflaaGreatDoorA10
set_option linter.all false
set_option maxRecDepth 100000
set_option maxHeartbeats 0
namespace Go.Proofs.YtalknpnbaceflaaGreatDoor
noncomputable section
open Go Go.TI Tryz
attribute [-simp] List.map_take List.map_drop List.map_append ij gG fK Bool.not_or Bool.not_and
attribute [simp] ig gJ
def wC:iK:=⟨fy,λa=>[a.t],λa=>a.fI.length<=1000000/\a.fH.length<=1000000/\a.ee.length<=1000000,λa=>(mO a).t,λc d b=>by simp at b;rw[fy.inj b]⟩
def Bo(_:Unit):T:= .eZ [C (-1),dV]
def Wj{b:H}{Vq:Nat->Prop}(a:Nat):jw (FT b Vq 2) ((List.replicate a ()).map Bo) ((List.replicate a (⟨-1,[]⟩:fa)).map fa.t):=by
 induction a with
 |zero=>exact .nil
 |succ a c=>
  rw[dC,dC];exact .cons (.inr (.inr ⟨_,_,rfl,.cons (iO ..) (.cons (j9 ..) .nil),rfl⟩)) c
def Sy8(e:H)(Lk:List Unit)(a:List Bool)(Th:List ei):Prop:=∃f b c d,oJ e 2 4 f [(b,some (2,Lk.map Bo)),(C (-1),none),(c,some (1,a.map T.ez)),(d,some (3,Th.map ei.t))]
def uC:jK:=(X 4 0 [.eZ [dV,C 0,dV,dV]])
def QW:wC.Ok prog cx 89:=by
 refine iF [] (jF 9071038046463 [] func89) (λ_=>1000005) (by simp[wC]) ?_;rintro(w:fy) ⟨hl,ae,ht⟩ b R;simp[wC]at R|-;simp[f89,R];refine ik w.fI.length B (λc b h=>Sy8 h (List.replicate c ()) [] []/\Lb 2 h 0 (X 6 0 [w.t])/\Lb 2 h 1 uC/\Y b 1 (.fc 0 0 0 0)/\Y b 2 (.fc 1 0 0 0)/\Y b 3 (.fc 2 0 0 0)/\Y b 4 (C c)) ?_ ?_ B ?_
 ·rintro c b h A z ⟨⟨ver,s,u,v,a⟩,e,k,j,n,o,p⟩;have m:=a.get;simp at m;have⟨P,E,r,i⟩:=(a.gr 0 rfl).m9 (cx:=cx) (f:=Bo) a.ok JA rfl Jy rfl G (λ_=>rfl) () dR;have⟨q,N,x⟩:=a.app 0 rfl i;have⟨g,l⟩:=x _ rfl;simp only[<-List.replicate_succ']at l;simp[-List.map_replicate]at q g l;simp only[Bo]at r;simp[j,n,o,p,A,e.get,m,r,q,fG,i.1.jc,i.1.cells,z];exact⟨⟨_,_,_,_,l⟩,e.step g,k.step g⟩
 ·rintro b h ⟨⟨ver,s,u,v,a⟩,e,k,j,n,o,p⟩;simp[j,p,e.get];refine ik w.fH.length B (λc b h=>Sy8 h (List.replicate w.fI.length ()) (List.replicate c false) []/\Lb 2 h 0 (X 6 0 [w.t])/\Lb 2 h 1 uC/\Y b 1 (.fc 0 0 0 0)/\Y b 2 (.fc 1 0 0 0)/\Y b 3 (.fc 2 0 0 0)/\Y b 5 (C c)) ?_ ?_ B ⟨⟨_,_,_,_,a⟩,e,k,by simp[j,n,o]⟩
  ·rintro c b h A z ⟨⟨ver,s,u,v,a⟩,e,k,j,n,o,p⟩;have m:=a.get;simp at m;have⟨P,E,r,i⟩:=(a.gr 2 rfl).m9 (cx:=cx) (f:=T.ez) a.ok Dg rfl LP rfl G G false dR;have⟨q,N,x⟩:=a.app 2 rfl i;have⟨g,l⟩:=x _ rfl;simp only[<-List.replicate_succ']at l;simp[-List.map_replicate]at q g l;simp[j,n,o,p,A,e.get,m,r,q,fG,i.1.jc,i.1.cells,z];exact⟨⟨_,_,_,_,l⟩,e.step g,k.step g⟩
  ·rintro b h ⟨⟨ver,s,u,v,a⟩,e,k,j,n,o,p⟩;simp[j,p,e.get];refine ik w.ee.length B (λc b h=>Sy8 h (List.replicate w.fI.length ()) (List.replicate w.fH.length false) ((List.range c).map λc=>(⟨if c=0 then 1 else 0,0,false⟩:ei))/\Lb 2 h 0 (X 6 0 [w.t])/\Lb 2 h 1 uC/\Y b 1 (.fc 0 0 0 0)/\Y b 2 (.fc 1 0 0 0)/\Y b 3 (.fc 2 0 0 0)/\Y b 6 (C c)) ?_ ?_ B ⟨⟨_,_,_,_,a⟩,e,k,by simp[j,n,o]⟩
   ·rintro c b h A z ⟨⟨ver,s,u,v,a⟩,e,k,j,n,o,p⟩;have m:=a.get;simp at m;have al:(0=h.size)=False:=by have:=a.lt;simp;omega
    have S:(2=h.size)=False:=by have:=a.lt;simp;omega
    by_cases H:c=0
    ·subst H;have W:binop .add (C 0) (C 1)=some (C 1):=by simpa using z
     have y:=a.cons (X 3 2 [ei.t ⟨1,0,false⟩]);have D:=Step.cons a.ok a.lt (X 3 2 [ei.t ⟨1,0,false⟩]);have I:=e.step D;have K:=k.step D;have⟨P,E,r,i⟩:=(y.gr 3 rfl).m9 (cx:=cx) (f:=ei.t) y.ok Gx rfl Jz rfl G (λ_=>rfl) (⟨1,0,false⟩:ei) G;have⟨q,N,x⟩:=y.app 3 rfl i;have⟨g,l⟩:=x _ rfl;simp only[aO,bF,cP,cz]at q g l;rw[size_cons]at r;simp[j,n,o,p,A,e.get,m,S,a.ok.low,r,q,fG,i.1.jc,i.1.cells,W];exact⟨⟨_,_,_,_,l⟩,I.step g,K.step g⟩
    ·skip
     have y:=a.cons (X 3 1 [ei.t ⟨0,0,false⟩]);have D:=Step.cons a.ok a.lt (X 3 1 [ei.t ⟨0,0,false⟩]);have I:=e.step D;have K:=k.step D;have⟨P,E,r,i⟩:=(y.gr 3 rfl).m9 (cx:=cx) (f:=ei.t) y.ok Gx rfl Jz rfl G (λ_=>rfl) (⟨0,0,false⟩:ei) dR;have⟨q,N,x⟩:=y.app 3 rfl i;have⟨g,l⟩:=x _ rfl;simp only[aO,bF,cP,cz]at q g l;rw[size_cons]at r;simp[j,n,o,p,H,A,e.get,m,S,a.ok.low,r,q,fG,i.1.jc,i.1.cells,z];have hr:(List.range (c+1)).map (λc=>(⟨if c=0 then 1 else 0,0,false⟩:ei))=(List.range c).map (λc=>(⟨if c=0 then 1 else 0,0,false⟩:ei))++[⟨0,0,false⟩]:=by
      rw[List.range_succ,List.map_append];simp[H]
     rw[hr];exact⟨⟨_,_,_,_,l⟩,I.step g,K.step g⟩
   ·rintro b h ⟨⟨ver,s,u,v,a⟩,e,k,j,n,o,p⟩;have m:=a.get;simp at m;have J:=k.get;unfold uC at J;have O:=a.qJ k (X 4 1 [.eZ [s,C (-1),u,v]]);have Z:(fJ h 1 (X 4 1 [.eZ [s,C (-1),u,v]])).get 1=_:=(eG J _ 1).trans (au rfl);have U:=(O.gr 0 rfl).LD (d:=2) B (Wj (Vq:=λ_=>True) w.fI.length);simp[j,n,o,p,e.get,m,J,fG,Z,U,(O.gr 2 rfl).fz G,(O.gr 3 rfl).fz G,-List.map_replicate];exact⟨a.ok.hp,by unfold mO gY.t gY.cs;simp[List.map_const',-List.map_replicate]⟩
 ·have⟨ab,Q⟩:=oJ.start (h:=((hE.cons (X 6 0 [w.t])).cons uC).cons (X 4 1 [.eZ [dV,C (-1),dV,dV]])) (w:=2) (szw:=4) (ver:=1) (F:=[(dV,some (2,[])),(C (-1),none),(dV,some (1,[])),(dV,some (3,[]))]) ⟨G,G,G⟩ (by simp[uC]) G;exact⟨⟨_,_,_,_,ab⟩,⟨G,λL=>absurd (Q 0 L) dT⟩,⟨by simp[uC],λL=>absurd (Q 1 L) dT⟩,G⟩
def L3{b:io}(ht:b.p 89=some wC)(a:fy)(c:a.fI.length<=1000000)(d:a.fH.length<=1000000)(e:a.ee.length<=1000000):rl prog cx b 89 [a.t]=some (mO a).t:=iN ht QW a ⟨c,d,e⟩
def ai0(f:H)(a:gY)(b c:Nat)(d:List Int):Prop:=∃g e,oJ f 4 7 g [(sl (a.fI.map fa.t),none),(C a.tx,none),(sl (a.done.map T.ez),none),(sl (a.ee.map ei.t),none),(e,some (1,d.map (T.int .i64))),(.arr 2 0 0 b false,some (1,(List.replicate b 0).map (T.int .i64))),(.arr 3 0 0 c false,some (1,(List.replicate c 0).map (T.int .i64)))]
def pH:jK:=(X 7 0 [.eZ [dV,C 0,dV,dV,dV,dV,dV]])
def sR:iK:=⟨fy,λa=>[a.t],λa=>a.fI.length<=1000000/\a.fH.length<=1000000/\a.ee.length<=1000000/\a.cells.length<=1000000,λa=>(kA a).t,λc d b=>by simp at b;rw[fy.inj b]⟩
def QV:sR.Ok prog cx 44:=by
 refine iF [(89,wC)] (jF 1048607 [(1,[(1,3),(1,5),(1,7),(1,9),(1,11)])] func44) (λ_=>1000005) (by simp[sR]) ?_;rintro(a:fy) ⟨hl,r,ht,J⟩ h e;simp[sR]at e|-;have R:a.fH.length*8<=70368744177664:=B;have S:a.ee.length*8<=70368744177664:=B;simp[f44,e,L3,hl,r,ht,R,S];have ab:(kA a).t=gH.t ⟨mO a,a.cells.map iY.ka,List.replicate a.fH.length 0,List.replicate a.ee.length 0⟩:=by
  unfold kA;simp only[List.map_const']
 rw[ab];generalize mO a=b at*
 refine ik a.cells.length B (λn h i=>∃j,ai0 i b a.fH.length a.ee.length j/\j.length=n/\j=(a.cells.take n).map iY.ka/\Lb 4 i 0 (X 6 0 [a.t])/\Lb 4 i 1 pH/\Y h 1 (.fc 0 0 0 0)/\Y h 2 (.fc 1 0 0 0)/\Y h 3 (.fc 4 0 0 0)/\Y h 4 (C n)) ?_ ?_ B ?_
 ·rintro n h i K ae ⟨j,⟨ap,c,d⟩,Z,q,s,u,o,p,y,z⟩;have m:=d.get;simp at m;have⟨a6,aN,U,I⟩:=(d.gr 4 rfl).m9 (cx:=cx) (f:=T.int .i64) d.ok qT rfl Av rfl G (λ_=>rfl) a.cells[n].ka dR;have⟨w,aX,E⟩:=d.app 4 rfl I;have⟨H,P⟩:=E _ rfl;simp only[aO,bF,cP,cz]at w H P;simp[o,p,y,z,K,s.get,m,U,w,fG,I.1.jc,I.1.cells,ae];exact⟨_,⟨_,_,P⟩,dR,by rw[q,aP K,List.map_append];rfl,s.step H,u.step H⟩
 ·rintro h i ⟨j,⟨ap,c,d⟩,Z,q,s,u,o,p,y,z⟩;rw[aL]at q;subst q;have m:=d.get;simp at m;have A:=u.get;unfold pH at A;have F:=d.qJ u (X 7 1 [.eZ [sl (b.fI.map fa.t),C b.tx,sl (b.done.map T.ez),sl (b.ee.map ei.t),c,.arr 2 0 0 a.fH.length false,.arr 3 0 0 a.ee.length false]]);have W:(fJ i 1 (X 7 1 [.eZ [sl (b.fI.map fa.t),C b.tx,sl (b.done.map T.ez),sl (b.ee.map ei.t),c,.arr 2 0 0 a.fH.length false,.arr 3 0 0 a.ee.length false]])).get 1=_:=(eG A _ 1).trans (au rfl);have av:=(F.gr 4 rfl).fz G;have aA:=(F.gr 5 rfl).fz G;have aE:=(F.gr 6 rfl).fz G;simp[o,p,y,z,s.get,m,A,fG,W,av,aA,aE,-List.map_replicate,-xE];exact⟨d.ok.hp,by unfold gH.t gH.cs;simp[-List.map_replicate]⟩
 ·have O:∀(g:Nat) (l:T×aa (Nat×List T)),([(sl (b.fI.map fa.t),none),(C b.tx,none),(sl (b.done.map T.ez),none),(sl (b.ee.map ei.t),none),(dV,some (1,[])),(.arr 2 0 0 a.fH.length false,some (1,(List.replicate a.fH.length 0).map (T.int .i64))),(.arr 3 0 0 a.ee.length false,some (1,(List.replicate a.ee.length 0).map (T.int .i64)))]:List (T×aa (Nat×List T)))[g]? =some l->∀c,fq l.1=some c->c+3=g:=by
   intro g l e c J;rcases g with _|_|_|_|_|_|_|g<;>simp at e<;>subst e<;>simp at J<;>omega
  refine⟨[],⟨1,dV,⟨G,G,G⟩,G,λf r=>?_,λg k an l Q e al c w E=>an ?_⟩,rfl,G,⟨G,?_⟩,⟨by simp[pH],?_⟩,G⟩
  ·simp only[ci,cS,or_false,bF]at r;rcases r with rfl|rfl|rfl|rfl|rfl|rfl|rfl
   iterate 4 (show fq _=none;simp)
   ·exact⟨Gr.nil _ _,dT⟩
   ·exact⟨.inr ⟨2,0,0,true,_,G,by simp;rfl,G⟩,show(1:Nat)≠7 by decide⟩
   ·exact⟨.inr ⟨3,0,0,true,_,G,by simp;rfl,G⟩,show(1:Nat)≠7 by decide⟩
  ·have o:=O g l e c w;have p:=O k Q al c E;omega
  all_goals
   rintro(D|⟨x,N,v,L,D⟩)
   ·simp at D
   ·simp at N;subst N;simp[iq,T.cells]at L;rcases L with rfl|rfl|rfl|rfl|rfl|rfl|rfl<;>simp at D
def GG{b:io}(ht:b.p 44=some sR)(a:fy)(c:a.fI.length<=1000000)(d:a.fH.length<=1000000)(e:a.ee.length<=1000000)(f:a.cells.length<=1000000):rl prog cx b 44 [a.t]=some (kA a).t:=iN ht QV a ⟨c,d,e,f⟩
def wD:iK:=⟨List fR×Nat×Int×List Int,λa=>[sl (a.1.map fR.t),C a.2.1,C a.2.2.1,sl (a.2.2.2.map (T.int .i64))],λa=>a.2.1<=a.1.length/\a.1.length<=1000000/\a.2.2.2.length<=1000000,λa=> .ez (yv (a.1.take a.2.1) a.2.2.1 a.2.2.2),λa c b=>by
 obtain⟨a1,a2,a3,a4⟩:=a;obtain⟨h,i,j,k⟩:=c;simp at b;obtain⟨d,e,f,g⟩:=b;rw[jV (λ_ _=>fR.inj) d,Int.ofNat.inj e,f,jV (λ_ _ b=>by simpa using b) g]⟩
def ScR(d e:Int)(b:List fR)(c f g:Nat)(h:T):Prop:=∃a:Bool,h= .ez a/\Du d e ((b.take c).drop f) g a=Du d e (b.take c) 0 false
def QY:wD.Ok prog cx 94:=by
 refine iF [] (jF 576460753379335951 [] func94) (λ_=>1000005) (by simp[wD]) ?_;rintro⟨b,l,v,m⟩ ⟨O,hl,Q⟩ a A;simp at O hl Q;simp[wD]at A|-;obtain⟨f,c,g,d⟩:=A;simp[f94];refine ik m.length B (λj a n=>n=hE/\Y a 0 (sl (b.map fR.t))/\Y a 1 (C l)/\Y a 2 (C v)/\Y a 3 (sl (m.map (T.int .i64)))/\Y a 9 (C j)/\(m.take j).all (λH=>Du v H (b.take l) 0 false)=true) ?_ ?_ B (by simp[f,c,g,d])
 ·rintro j a n u J ⟨rfl,f,c,g,d,h,s⟩;simp[d,h,u];refine ik l B (λe a n=>n=hE/\Y a 0 (sl (b.map fR.t))/\Y a 1 (C l)/\Y a 2 (C v)/\Y a 3 (sl (m.map (T.int .i64)))/\Y a 9 (C j)/\∃(k:Nat) (w:T),Y a 10 (C k)/\Y a 11 w/\Y a 12 (C e)/\k<=e/\ScR v m[j] b l e k w) ?_ ?_ B ⟨rfl,by simp[f],by simp[c],by simp[g],by simp[d],by simp[h],0,.ez false,G,G,G,ax _,false,rfl,rfl⟩
  ·rintro e a n K D ⟨rfl,f,c,g,d,h,k,w,y,r,o,L,x,rfl,i⟩;have E:e<b.length:=B;have z:(b.take l).drop e=b[e]::(b.take l).drop (e+1):=by
    rw[aJ dR];simp
   rw[z,Du]at i;simp[f,c,g,o,K,E];have N:b[e]? =some b[e]:=aB E;have P:m[j]? =some m[j]:=aB u;generalize b[e]=S at*
   generalize m[j]=H at*
   have I:binop .add (C (k:Int)) (C 1)=some (C ((k+1:Nat):Int)):=by rw[jp B B];simp
   refine fN (λp=>?_) (λp=>?_)
   ·simp at p;rw[Z p]at i;simp[f,c,g,d,h,y,r,o,D];exact⟨k,rfl,B,x,rfl,i⟩
   ·simp at p;rw[au p]at i;simp[f,c,g,d,h,y,r,o,N,P,I,D];exact⟨k+1,G,B,_,rfl,i⟩
  ·rintro a n ⟨rfl,f,c,g,d,h,k,w,y,r,o,L,x,rfl,i⟩;have z:(b.take l).drop l=[]:=G;rw[z,Du]at i;simp[c,r,o];cases x with
   |false=>
    simp;unfold yv;rw[List.all_eq_false];exact⟨m[j],aG u,by rw[<-i];simp⟩
   |true=>
    simp[f,c,g,d,h,J];intro R F;rw[aP u]at F;rcases List.mem_append.1 F with q|q
    ·exact List.all_eq_true.1 s R q
    ·rw[List.mem_singleton.1 q];exact i.symm
 ·rintro a n ⟨rfl,f,c,g,d,h,s⟩;rw[aL]at s;simp[d,h];unfold yv;rw[s]
def U2{e:io}(ht:e.p 94=some wD)(a:List fR)(b:Nat)(d:Int)(c:List Int)(f:b<=a.length)(g:a.length<=1000000)(h:c.length<=1000000):rl prog cx e 94 [sl (a.map fR.t),C b,C d,sl (c.map (T.int .i64))]=some (.ez (yv (a.take b) d c)):=iN ht QY (a,b,d,c) ⟨f,g,h⟩
end
noncomputable section
open Go Go.TI Tryz
section
attribute [-simp] List.map_take List.map_drop List.map_append
def KA:iK:=⟨Int×Nat,λa=>[C a.1,C a.2],λa=>True,λa=> .ez (ju a.1 a.2),λa c b=>by simp at b;rw[b.1,show a.2=c.2 by omega]⟩
def aaA:KA.Ok prog cx 121:=by
 refine iF [] (jF 19 [] func121) (λf=>1) (by simp[KA]) ?_;rintro⟨e,g⟩ _ h a;simp[KA]at a|-;obtain⟨b,c⟩:=a;by_cases d:0<=e<;>simp[f121,b,c,d,ju]
def Vb{c:io}(ht:c.p 121=some KA)(a:Int)(b:Nat):rl prog cx c 121 [C a,C b]=some (.ez (ju a b)):=iN ht aaA (a,b) trivial
def zr:iK:=⟨fy×gH,λa=>[a.1.t,a.2.t],λa=>a.1.iL.length<=1099511627776,λa=> .ez (oc a.1 a.2),λa c b=>by simp at b;rw[fy.inj b.1,gH.inj b.2]⟩
def TX:zr.Ok prog cx 84:=by
 refine iF [(36,uj)] (jF 31 [] func84) (λi=>1) (by simp[zr]) ?_;rintro⟨b,a⟩ hl j e;simp[zr]at hl e|-;obtain⟨c,d⟩:=e;cases f:mK b a.gu with
 |false=>simp[f84,c,d,vS,hl,f,oc]
 |true=>by_cases g:a.cells.length=b.cells.length<;>by_cases h:a.fH.length=b.fH.length<;>simp[f84,c,d,vS,hl,f,g,h,oc,Int.natCast_inj]
def JQ{c:io}(ht:c.p 84=some zr)(a:fy)(b:gH)(hl:a.iL.length<=1099511627776):rl prog cx c 84 [a.t,b.t]=some (.ez (oc a b)):=iN ht TX (a,b) hl
def yz:iK:=⟨List Int×Int,λa=>[sl (a.1.map (T.int .i64)),C a.2],λa=>a.1.length<=1099511627776,λa=> .ez (AP a.2 none a.1),λa c b=>by simp at b;rw[jV G b.1,b.2]⟩
def Q1:yz.Ok prog cx 122:=by
 refine iF [] (jF 1099511628339 [] func122) (λt=>t.1.length+1) (by simp[yz]) ?_;rintro⟨c,k⟩ hl j p;simp[yz]at hl p|-;obtain⟨d,g⟩:=p;simp[f122];refine ik c.length B (λb j n=>n=hE/\Y j 0 (sl (c.map (T.int .i64)))/\Y j 1 (C k)/\Y j 5 (C b)/\AP k (if b=0 then none else c[b-1]?) (c.drop b)=AP k none c) ?_ ?_ B (by simp[d,g])
 ·rintro b j n i q ⟨rfl,d,g,h,a⟩;rw[aJ i]at a;simp only[AP]at a;by_cases e:c[b]<1
  ·simp[e]at a;simp[d,h,i,e,a]
  ·by_cases f:k<=c[b]
   ·simp[f]at a;simp[d,g,h,i,e,f,a]
   ·by_cases r:b=0
    ·have l:¬0<b:=B;rw[au r]at a;simp[e,f]at a;simp[d,g,h,i,q,e,f,l];exact a
    ·have l:0<b:=B;have o:b-1<c.length:=B;have s:binop .sub (C (b:Int)) (C 1)=some (C ((b-1:Nat):Int)):=by rw[mh B B,show(b:Int)-1=((b-1:Nat):Int)by omega]
     rw[Z r,aB o]at a;by_cases m:c[b]<=c[b-1]
     ·simp[e,f,m]at a;simp[d,g,h,i,o,e,f,m,s,a,l]
     ·simp[e,f,m]at a;simp[d,g,h,i,o,q,e,f,m,s,l];exact a
 ·rintro j n ⟨rfl,d,g,h,a⟩;simp[AP]at a;simp[d,h,a]
def U5{c:io}(ht:c.p 122=some yz)(a:List Int)(b:Int)(hl:a.length<=1099511627776):rl prog cx c 122 [sl (a.map (T.int .i64)),C b]=some (.ez (AP b none a)):=iN ht Q1 (a,b) hl
def wB:iK:=⟨gH×fR,λa=>[a.1.t,a.2.t],λa=>a.1.gu.ee.length<=1099511627776/\(a.2.fh=3->ju a.2.obj a.1.cells.length=true)/\(a.2.fh=23->ju a.2.obj a.1.fH.length=true),λa=> .ez (p7 a.1 a.2),λa c b=>by simp at b;rw[gH.inj b.1,fR.inj b.2]⟩
def QS:wB.Ok prog cx 123:=by
 refine iF [(51,uE),(12,D2)] (jF 18889470444974887141823 [(17,[(1,6)])] func123) (λv=>1) (by simp[wB]) ?_;rintro⟨i,a⟩ hl w j;simp[wB]at hl j|-;obtain⟨b,c⟩:=j;obtain⟨hl,k,l⟩:=hl;by_cases f:a.fh=3
 ·have⟨u,d,g⟩:=jn (k f);simp[f123,b,c,f,p7,fU (fQ.1 (k f)).1,d,g]
 ·by_cases e:a.fh=23
  ·have⟨u,d,g⟩:=jn (l e);simp[f123,b,c,e,p7,fU (fQ.1 (l e)).1,d,g]
  ·by_cases q:a.fh=5
   ·by_cases d:a.value=0<;>simp[f123,b,c,q,p7,d]
   ·by_cases p:a.fh=4
    ·simp[f123,b,c,p,p7]
    ·by_cases o:a.fh=22
     ·simp[f123,b,c,o,p7]
     ·by_cases h:a.fh=18
      ·have r:=HG a.obj i.gu.ee 0;by_cases m:ji a.obj i.gu.ee 0=[]
       ·simp[f123,b,c,h,p7,Cn,hl,m]
       ·by_cases s:0<=a.value<;>by_cases t:a.value<i.gu.ee.length<;>
         simp[f123,b,c,h,p7,Cn,hl,m,s,t,RB,aU r hl]
      ·by_cases n:a.fh=19
       ·simp[f123,b,c,n,p7,Cn,hl]
       ·simp[f123,b,c,f,e,q,p,o,h,n,p7]
def U0{c:io}(ht:c.p 123=some wB)(b:gH)(a:fR)(hl:b.gu.ee.length<=1099511627776)(d:a.fh=3->ju a.obj b.cells.length=true)(e:a.fh=23->ju a.obj b.fH.length=true):rl prog cx c 123 [b.t,a.t]=some (.ez (p7 b a)):=iN ht QS (b,a) ⟨hl,d,e⟩
end
def BF(a:List Int)(b:Int):uk a b=m6 a b:=by
 induction a with
 |nil=>rfl
 |cons d a c=>rw[uk,m6,c]
def Fj:∀(b a:List Int),Mi a->Mi (nI a b):=by
 intro b;induction b with
 |nil=>intro a c;exact c
 |cons e b d=>intro a c;exact d _ (by rw[BF];exact F3 c e)
def Fi:∀(c b:List Int) (a:Int),a∈nI b c->a∈b\/a∈c:=by
 intro c;induction c with
 |nil=>intro b a h;exact .inl h
 |cons e c d=>
  intro b a h;rcases d (uk b e) a h with h|h
  ·rw[BF]at h;rcases F1 h with h|h
   ·exact .inl h
   ·exact .inr (by simp[h])
  ·exact .inr (by simp[h])
def PV:∀(a:List Int) (e b:Int),Mi a->(∀c∈a,e<=c/\c<b)->a.length<=(b-e).toNat:=by
 intro a;induction a with
 |nil=>intro e b _ _;simp
 |cons c a i=>
  intro e b d f;unfold Mi at d;rw[dI]at d;have j:=i (c+1) b d.2 λh g=>⟨by have:=d.1 h g;omega,(f h (by simp[g])).2⟩;have k:=f c G;simp;omega
def Tn(a:Nat)(b:List Int):Prop:=b.length<=a/\∀c∈b,0<=c/\c<a
theorem Tn.nil(a:Nat):Tn a []:=⟨ay _,λc b=>by simp at b⟩
def Tn.union{a:Nat}{c d:List Int}(f:Tn a c)(g:Tn a d):Tn a (CC c d):=by
 have e:∀b∈CC c d,0<=b/\b<a:=λb i=>by
  rcases Fi _ _ _ i with h|h
  ·rcases Fi _ _ _ h with h|h
   ·simp at h
   ·exact f.2 b h
  ·exact g.2 b h
 refine⟨?_,e⟩;have:=PV (CC c d) 0 a (Fj _ _ (Fj _ _ List.Pairwise.nil)) e;omega
end
end Go.Proofs.YtalknpnbaceflaaGreatDoor
namespace Go.TI
noncomputable section
section
@[simp]def ad6 (a:H) (b:jK):(a.cons b).size=a.size+1:=id rfl
def jw.Lf{b h:Type}{c:b->h->Prop}{e:List b}{f:List h}(j:jw c e f){g:b}(d:g∈e):∃a∈f,c g a:=by
 induction j with
 |nil=>simp at d
 |cons i _ l=>
  rcases List.mem_cons.1 d with rfl|q
  ·exact⟨_,G,i⟩
  ·have⟨a,k,m⟩:=l q;exact⟨a,by simp[k],m⟩
section
variable {cx:Ctx}{cf:jQ}{D n:Nat}{dl:DL}
def afV{f:Out}{e:Env->H->Prop}{c:jE}(i:W f (AR e c))(j:∀a b,e a b->c.n a b):W f c:=by
 obtain⟨g,a,b,h,d⟩:=i;refine⟨g,a,b,h,?_⟩;cases g with
 |normal=>exact j a b d
 |exit k=>exact d
 |ret=>exact d
def VC{g:Out}{d:jE}(e:iM->H->Prop)(i:W g (AR (λb a=>b.tmps= .nil/\e b.vars a) d))(j:∀c a,e c a->d.n ⟨c,.nil⟩ a):W g d:=
 afV i λb a ⟨h,f⟩=>by obtain⟨c,k⟩:=b;simp only at h f;subst h;exact j c a f
def lV{f:Bool}{g h:Code}{b:Env}{a:H}{d:jE}(c:iM->H->Prop)(k:f=true->W (kq cx cf n D dl g b a) (AR (λb a=>b.tmps= .nil/\c b.vars a) d))(l:f=false->W (kq cx cf n D dl h b a) (AR (λb a=>b.tmps= .nil/\c b.vars a) d))
 (i:∀j a,c j a->d.n ⟨j,.nil⟩ a):CK (some (.ez f)) cx cf n D dl g h b a d:=by
 refine fN (λe=>?_) (λe=>?_)
 ·exact VC c (k e) i
 ·exact VC c (l e) i
end
end
section
@[simp]def ajK (a:Nat):(a=a+1)=False:=G 
@[simp]def ajJ (a:Nat):(a=a+1+1)=False:=dR 
@[simp]def ajI (a:Nat):(a=a+1+1+1)=False:=dR 
@[simp]def ajH (a:Nat):(a=a+1+1+1+1)=False:=dR 
@[simp]def ajG (a:Nat):(a=a+1+1+1+1+1)=False:=dR 
def FZ{c:H}{b:T}{d:List T}(a:c.j1 b=some d)(f:jK):(c.cons f).j1 b=some d:=by
 cases b<;>first|exact a|(simp[H.j1]at a;done)|skip
 rename_i g h k j i;rw[iR]at a|-;obtain⟨l,e,_⟩:=eg.1 a;rw[fk,Z (by have:=H.gh e;omega)];exact a
def lA{cx:Ctx}{a:H}{sz:Nat}(F:iQ 0 a){g h f:af}{m n b:Ty}(s:cx.ty g=some m)(t:m.u= .slice f)(v:cx.ty f=some b)(w:cx.ty h=some n)(y:n.u= .slice f)(j:b.size=sz)(A:1<=b.bytes)
 {x:T} {xs:List T} (E:a.j1 x=some xs) (k:∀q∈xs,q.cells.length=sz) (J:xs.length*b.bytes<=70368744177664):
 ∃i d,jx cx (a.cons ⟨sz,0,0,true,false,[]⟩) g h (.arr a.size 0 0 0 false) x=some (.val (.arr a.size i 0 xs.length false) d)/\(∃I r,d.get a.size=some ⟨sz,i,I,r,false,xs⟩)/\d.size=a.size+1/\(∀c,c<a.size->d.get c=a.get c)/\iQ 0 d:=by
 have z:jx cx (a.cons ⟨sz,0,0,true,false,[]⟩) g h (.arr a.size 0 0 0 false) x=kr ((a.cons ⟨sz,0,0,true,false,[]⟩).append b.size b.bytes (.arr a.size 0 0 0 false) xs):=by
  unfold jx ql nD;rw[s,fw,w,fw];simp only[t,v,y,FZ E,fw];rw[j,mc k,jf]
 rw[z,j];have l:=F.cons ⟨sz,0,0,true,false,[]⟩;have e:(a.cons ⟨sz,0,0,true,false,[]⟩).get a.size=some ⟨sz,0,0,true,false,[]⟩:=G;cases xs with
 |nil=>exact⟨0,a.cons ⟨sz,0,0,true,false,[]⟩,rfl,⟨0,true,e⟩,rfl,λc D=>by rw[fk,Z B],l⟩
 |cons o p=>
  refine⟨1,fJ (a.cons ⟨sz,0,0,true,false,[]⟩) a.size ⟨sz,1,1,false,false,o::p⟩,?_,⟨1,false,by rw[eG e,au rfl]⟩,by rw[iy];rfl,λc D=>by rw[eG e,Z B,fk,Z B],l.put _ _⟩;show kr ((a.cons ⟨sz,0,0,true,false,[]⟩).oz sz b.bytes a.size 0 ([]:List T).length (o::p))=_;rw[yZ e k A (by grind)];rfl
def qZ(c:H)(d:Nat)(b:T)(a:List T):Prop:=b=sl a\/Gr c b d a
def qZ.j1{b:H}{e:Nat}{c:T}{a:List T}(d:qZ b e c a):b.j1 c=some a:=by
 rcases d with rfl|g
 ·simp
 ·exact g.j1
def qZ.mono{d h':H}{e:Nat}{b:T}{c:List T}(h:qZ d e b c)(g:∀a,fq b=some a->h'.get a=d.get a):qZ h' e b c:=h.imp id λf=>f.mono g
def qZ.len{cx:Ctx}{f:H}{j:Nat}{e:T}{c:List T}(i:qZ f j e c)(a:H)(b:Ty)(d:af)(h:b.u= .slice d):Hm cx a b e=some (.val (.int .i64 c.length) a):=by
 rcases i with rfl|g
 ·simp_all
 ·exact g.len a b d h
theorem qZ.jc{c:H}{e:Nat}{a:T}{b:List T}(d:qZ c e a b):a.jc=true/\a.cells=[a]:=by
 rcases d with rfl|g
 ·cases b<;>exact⟨rfl,rfl⟩
 ·exact⟨g.jc,g.cells⟩
def qZ.idx{b:H}{e:T}{a:List T}(m:qZ b 1 e a){te:Ty}(l:te.size=1)(j:te.isAgg=false){i:Nat}{x:T}(k:a[i]? =some x)(r:x.cells=[x]):∃d,mo b te e i=some (.val d b)/\b.load te d=some x:=by
 have hr:lK te [x]=some x:=by unfold lK;rw[j];rfl
 have c:i<a.length:=by
  grind
 rcases m with rfl|g
 ·simp_all
 ·have⟨n,p,s,q,t,_,f,h,o⟩:=g.Bd l c;refine⟨_,f,?_⟩;have:a[i]=x:=by rw[aB c]at k;grind
  rw[aaQ,h];simp_all
def qZ.ft{h:H}{Vq:Nat->Prop}{q d:Nat}{f:T}{b:List T}(p:qZ h q f b)(e:∀a∈b,cn a=a/\kT a=true/\∀k,a≠ .eZ k)(i:∀c,fq f=some c->Vq c):FT h Vq (d+2) f (sl b):=by
 rcases p with rfl|g
 ·grind [rn]
 ·have j:=g.j1;rcases g with⟨rfl,rfl⟩|⟨c,l,v,s,w,rfl,m,n⟩
  ·simp[j9]
  ·refine .inr (.inl ⟨c,l,0,_,false,b,b,rfl,i c rfl,j,?_,rfl⟩);clear j i n m;induction b with
   |nil=>exact .nil
   |cons a u o=>exact .cons (.inl ⟨(e a G).2.1,(e a G).2.2,(e a G).1.symm⟩) (o λr t=>e r (by grind))
structure Nb(h h':H):Prop where
 ok:iQ h.size h'
 get:∀c,c<h.size->h'.get c=h.get c
def Nb.refl{a:H}(b:iQ 0 a):Nb a a:=⟨⟨b.hp,b.low,ax _⟩,λ_ _=>rfl⟩
def Nb.trans{d e f:H}(b:Nb d e)(a:Nb e f):Nb d f:=⟨⟨a.ok.hp,a.ok.low,aU b.ok.sz a.ok.sz⟩,λc g=>(a.get c (bK g b.ok.sz)).trans (b.get c g)⟩
theorem Nb.cons{b c:H}(a:Nb b c)(d:jK):Nb b (c.cons d):=⟨a.ok.cons d,λe f=>by rw[fk,Z (by have:=a.ok.sz;omega)];exact a.get e f⟩
theorem Nb.put{b d:H}(e:Nb b d){a:Nat}{x:jK}(h:d.get a=some x)(i:b.size<=a)(f:jK):Nb b (fJ d a f):=⟨e.ok.put a f,λc g=>by rw[eG h,Z B];exact e.get c g⟩
def Nb.step{b f:H}(a:Nb b f){d:Nat}(g:d<b.size):Step d b f:=⟨a.ok,λe c _=>a.get e c,λe c=>by rw[jJ (a.get d g)]at c;grind⟩
def Nb.hr{a d:H}(b:Nb (TI.hr a) d):Nb a d:=⟨b.ok,λc e=>(b.get c e).trans (iU a c)⟩
def Nb.out{h b:H}(c:Nb (TI.hr h) b):Nb h (mX h b):=⟨c.ok.out h,λa d=>(iB h b a).trans ((c.get a d).trans (iU h a))⟩
def Gr.new{h:H}{b sz ep ver:Nat}{ex:Bool}{es:List T}(a:h.get b=some ⟨sz,ep,ver,ex,false,es⟩):Gr h (.arr b ep 0 es.length false) sz es:= .inr ⟨b,ep,ver,ex,es,rfl,a,aL⟩
def oJ.one{h:H}{w szw ver i0:Nat}{F:List (T×aa (Nat×List T))}(s:iQ 0 h)(i:h.get w=some ⟨szw,0,ver,true,false,[.eZ (F.map (·.1))]⟩)(n:∀a∈F,Fld h szw a)(f:∀(b:Nat) d,F[b]? =some d->fq d.1≠none->b=i0):
 oJ h w szw ver F/\∀c,Fp h w c->c=w\/∃a,F[i0]? =some a/\fq a.1=some c:=by
 refine⟨⟨s,i,n,λb r q d k l m c t u=>q ((f b d l (by rw[t];simp)).trans (f r k m (by rw[u];simp)).symm)⟩,λc e=>?_⟩;rcases e with e|⟨x,g,v,j,e⟩
 ·omega
 ·rw[i]at g;simp only[aw]at g;subst g;simp only[iq,bD,cB,bG,T.cells]at j;obtain⟨a,o,rfl⟩:=List.mem_map.1 j;have⟨b,p⟩:=cR o;have:=f b a p (by rw[e];simp)
  grind
section
variable {cx:Ctx}{cf:jQ}{D:Nat}
@[simp low] theorem agh (n:aa Nat) (l:T) (j:ah Oper) (a:List (Nat×Nat)) (f:aa Tmp) (h:List Oper) (b:Nat) (i:List (Nat×Nat)) (c:List (Nat×H×H)) (m k:iM) (g:H) (e:jE) (q:m7 a b=false) (p:(c.all λd=> !C1 a d.1 b)=true):DLK n l cx cf D j a f h b i c m k g e=VZ l cx cf D j a f h (b+1) i c m k g e:=by
 cases n with
 |none=>rfl
 |some o=>
  have hl:oL a b o c=True:=by
   simp only[eq_iff_iff,iff_true];intro d s r;have:=List.all_eq_true.1 p d s;rw[r]at this;grind
  rw[VO,hl,q,true_and];rfl
end
def E0{a x:T}(c:∀b,a≠ .eZ b):mS a 0 [x]=some x:=by
 cases a<;>first|rfl|grind
def qZ.na{h:H}{sz:Nat}{b:T}{a:List T}(d:qZ h sz b a):∀c,b≠ .eZ c:=by
 rcases d with rfl|g
 ·cases a<;>simp[sl]
 ·rcases g with⟨rfl,_⟩|⟨e,f,j,i,k,rfl,_⟩<;>simp
def Gr.setAt{j h':H}{f:T}{k a l b s ver2:Nat}{n ex2:Bool}{i h:List T}(o:Gr j f k i)(d:fq f=some a)(q:j.get a=some ⟨l,b,s,n,false,h⟩)(e:Nat)(g:T)(r:h'.get a=some ⟨l,b,ver2,ex2,false,h.set e g⟩):Gr h' f k (i.set e g):=by
 rcases o with⟨rfl,_⟩|⟨m,t,v,u,w,rfl,c,p⟩
 ·simp at d
 ·simp only[Di,aw]at d;subst d;rw[q]at c;simp only[aw,jK.mk.injEq]at c;obtain⟨rfl,rfl,rfl,rfl,_,rfl⟩:=c;exact .inr ⟨m,b,ver2,ex2,h.set e g,by rw[dg],r,by rw[dg,List.take_set,p]⟩
def jw.set{d e:Type}{f c:d->e->Prop}{i:List d}{j:List e}(b:jw f i j)(a:Nat){k:d}{l:e}(m:c k l)(h:∀b g,f b g->c b g):jw c (i.set a k) (j.set a l):=by
 induction b generalizing a with
 |nil=>exact .nil
 |cons o p n=>
  cases a with
  |zero=>exact .cons m (p.imp h)
  |succ a=>exact .cons (h _ _ o) (n a)
def jw.em{b c j:Type}{d:b->c->Prop}{e:b->j->Prop}{f:c->j}{h:List b}{i:List c}(a:jw d h i)(k:∀a g,d a g->e a (f g)):jw e h (i.map f):=by
 induction a with
 |nil=>exact .nil
 |cons m n l=>exact .cons (k _ _ m) l
def FT.tup{c:H}{f:Nat->Prop}{d h:Nat}(k:h<=11)(j:∀a,f a->d<=a){b g:List T}(l:jw (FT c f h) b g)(a:Bool):∃i,jX c d (.tuple [.eZ b,.ez a])=some i/\cn i= .tuple [.eZ g,.ez a]:=by
 have⟨r0,e,n⟩:=FT.top k j l;refine⟨.tuple [r0,.ez a],?_,?_⟩
 ·have e:lM c d (.eZ b)=some r0:=e;show(J (iH (lM c d) [.eZ b,.ez a]) λm=>some (T.tuple m))=_;rw[kx,e];rfl
 simp_all[wY]
def Gr.ft{c:H}{Vq:Nat->Prop}{e:T}{m d:Nat}{a b:List T}(i:Gr c e m a)(k:∀h,fq e=some h->Vq h)(f:jw (FT c Vq d) a b):FT c Vq (d+1) e (sl b):=by
 have l:=i.j1;rcases i with⟨rfl,rfl⟩|⟨g,j,q,n,r,rfl,o,p⟩
 ·cases f;simp[j9]
 ·exact .inr (.inl ⟨g,j,0,_,false,a,b,rfl,k g rfl,l,f,rfl⟩)
def Gr.at{f:H}{h x:T}{g i:Nat}{a:List T}(k:Gr f h g a)(o:a[i]? =some x):∃b c j e d,h= .arr b c 0 a.length false/\f.get b=some ⟨g,c,j,e,false,d⟩/\d[i]? =some x/\i<a.length:=by
 have n:i<a.length:=by
  grind
 rcases k with⟨rfl,rfl⟩|⟨b,c,j,e,d,rfl,l,m⟩
 ·grind
 grind
def qZ.rZ{b:H}{j:Nat}{e:Type}{f:e->T}{d:T}{c:List e}(i:qZ b j d (c.map f))(k:∀a,cn (f a)=f a)(h:∀a,Ae b 11 (f a)=some (f a)):TI.rZ b d=some (sl (c.map f)):=by
 rcases i with rfl|g
 ·simp_all
 ·exact g.rZ h
def oU{b:H}{a c:Nat}{f:jK}(e:b.get a=some f)(d:c≠a)(g:jK):gU b (fJ b a g) c=true:=il (by rw[eG e,Z d])
def ou{c:H}{b:Nat}(f:Hp c)(e:b<c.size)(d:jK)(a:Nat):(fJ c b d).get a=if a=b then some d else c.get a:=get_put f e d a
@[simp]def ajS (a:Nat):(a<a+1+1)=True:=dR 
@[simp]def ajR (a:Nat):(a<a+1+1+1)=True:=dR 
@[simp]def ajQ (a:Nat):(a<a+1+1+1+1)=True:=dR 
@[simp high] theorem aiU {e:aj} {cx:Ctx} (d:io) (b:ak) (a:List T) (c:H) (g:d.p b=none):tz e cx d b a c=hl e cx d b a c:=by
 unfold tz;cases Vn c a with
 |none=>rfl
 |some f=>grind [En]
def jL{b c:H}{a:Nat}(d:b.get a=none):gU b c a=true:=by unfold gU;rw[d]
def mP(b:H){a:Nat}(d:b.size<=a):b.get a=none:=by
 cases c:b.get a with
 |none=>rfl
 |some e=>have:=H.gh c;omega
def Gr.GR{cx:Ctx}{a:H}{h:T}{b:Nat}{f:List T}(q:Gr a h b f)(l:iQ 0 a){g i:af}{m d:Ty}(j:cx.ty g=some m)(k:m.u= .slice i)(r:cx.ty i=some d)(t:d.size=b)(s:1<=d.bytes){x:T}(w:x.cells.length=b)(v:(f.length+1)*d.bytes<=70368744177664):
 ∃e c,jx cx (a.cons ⟨b,0,0,true,false,[x]⟩) g g h (.arr a.size 0 0 1 false)=some (.val e c)/\Xt a h b (f++[x]) e c:=by
 have n:=(Xt.refl q l).cons ⟨b,0,0,true,false,[x]⟩;have⟨e,c,p,o⟩:=Gr.app (cx:=cx) n.1 (l.cons _) (x:= .arr a.size 0 0 1 false) (xs:=[x]) j k r j k t s (by rw[iR];simp) (by grind) G B;exact⟨e,c,p,n.trans o.xt⟩
end
end
end Go.TI
namespace Go.Proofs.YtalknpnbaceflaaGreatDoor
noncomputable section
open Go Go.TI Tryz
attribute [-simp] List.map_take List.map_drop List.map_append ij gG fK Bool.not_or Bool.not_and
attribute [simp] ig gJ
section
attribute [-simp] size_cons
abbrev iz(a:List Int):List T:=a.map (T.int .i64)
def tn1(a:List Int):T:=sl (a.map (T.int .i64))
def Tv(e d:Nat)(b c:T)(a:Nat):Prop:=e<=a/\a<d/\fq b≠some a/\fq c≠some a
structure DV(lo hi:Nat)(h:H)(a b:T)(es:List T)(s:fV):Prop where
 ga:Gr h a 1 (iz s.jN)
 gb:Gr h b 1 es
 el:jw (λe l=>qZ h 1 e (iz l)/\∀c,fq e=some c->Tv lo hi a b c) es s.lr
 ba:∀c,fq a=some c->lo<=c/\c<hi/\fq b≠some c
 bb:∀c,fq b=some c->lo<=c/\c<hi
def El(a:fV)(b c:T):T:= .eZ [C a.pC,b,c,C a.ej]
structure TSr(h:H)(a b:T)(es:List T)(s:fV):Prop where
 ra:qZ h 1 a (iz s.jN)
 rb:qZ h 1 b es
 el:jw (λe l=>qZ h 1 e (iz l)) es s.lr
 lt:∀e c,(e=a\/e=b\/e∈es)->fq e=some c->c<h.size
structure ICp where
 (s:fV) (a b:T) (es:List T)
def SU(c:ICp)(e:List T)(d:H):Prop:=e=[El c.s c.a c.b]/\TSr d c.a c.b c.es c.s/\iQ 0 d/\c.s.jN.length<=1000000/\c.s.lr.length<=1000000/\∀f∈c.s.lr,f.length<=1000000
def MV(e:ICp)(h:List T)(d:H)(g:T)(a:H):Prop:=∃b c f,g=El e.s b c/\DV d.size a.size a b c f e.s/\Nb d a
structure CpS(s:fV)(a b aN:T)(h h':H)(i:Nat):Prop where
 ex:∃ver c es',oJ h' (h.size+1+1+1) 4 ver [(C s.pC,none),(aN,some (1,iz s.jN)),(c,some (1,es')),(C s.ej,none)]/\es'.length=i/\
  jw (λe l=>qZ h' 1 e (iz l)/\∀k,fq e=some k->h.size+1<k/\k<h'.size/\¬Fp h' (h.size+1+1+1) k) es' (s.lr.take i)
 nb:Nb h h'
 l1:Lb (h.size+1+1+1) h' h.size (X 4 0 [.eZ [C s.pC,a,b,C s.ej]])
 l2:Lb (h.size+1+1+1) h' (h.size+1) (X 4 0 [.eZ [C 0,dV,dV,C 0]])
 lo:∀c,Fp h' (h.size+1+1+1) c->h.size+1<c
def KX:(km ICp SU MV).Ok prog cx 211:=by
 refine kh (tb:=⟨pt [],ht []⟩) jv jl (jF 262175 [(1,[(1,7),(3,7),(7,9)]),(5,[(1,8)])] func211) (λ_ _=>1000005) (λI A h de=>by obtain⟨rfl,_⟩:=de;simp[f211]) ?_;rintro⟨b,A,l,ae⟩ _ h ⟨rfl,v,bT,hr,dk,bN⟩ J Q;simp only at v hr dk bN;simp[El]at Q;have bW:=bT.hr;have S:∀t a,(t=A\/t=l\/t∈ae)->fq t=some a->a<h.size:=v.lt;have⟨o,D⟩:∃o:H,o=((TI.hr h).cons (X 4 0 [.eZ [C b.pC,A,l,C b.ej]])).cons (X 4 0 [.eZ [C 0,dV,dV,C 0]]):=⟨_,rfl⟩;have dv:iQ 0 o:=by subst D;exact(bW.cons _).cons _
 have cb:o.size=h.size+1+1:=by subst D;rfl
 have bS:Nb (TI.hr h) o:=by subst D;exact((Nb.refl bW).cons _).cons _
 have cX:o.get h.size=some (X 4 0 [.eZ [C b.pC,A,l,C b.ej]]):=by subst D;simp
 have c1:o.get (h.size+1)=some (X 4 0 [.eZ [C 0,dV,dV,C 0]]):=by subst D;simp
 have ec:qZ o 1 A (iz b.jN):=v.ra.mono λa c=>(bS.get a (S A a (.inl rfl) c)).trans (iU h a);have⟨cF,m,O,⟨eM,ey,gA⟩,ap,r,s⟩:=lA (cx:=cx) dv qT rfl Av qT rfl rfl G ec.j1 (by simp[T.cells]) dR;simp[D]at O;have eH:h.low<=h.size:=bT.low;have W:∀l,l<o.size->gU (o.cons (X 1 0 [])) m l=true:=λl c7=>il ((r l c7).trans (by rw[fk,Z B]));have ca:gU (o.cons (X 1 0 [])) m m.size=true:=jL (mP _ dR);rw[cb]at W;replace W:=W h.size B;rw[D]at W ca;simp[f211,Q,O,W,ca];have bn:m.size=h.size+1+1+1:=B;simp only[bn];generalize bA:T.arr (h.size+1+1) cF 0 b.jN.length false=n;have gN:Gr m n 1 (iz b.jN):=by rw[<-bA];have:=Gr.new gA;rw[cb]at this;simpa using this
 have bp:∀a,fq n=some a->a=h.size+1+1:=λa c=>by rw[<-bA]at c;simp at c;exact c.symm
 have eK:iQ 0 m:=s;refine ik b.lr.length B (λI J g=>CpS b A l n h g I/\Y J 1 (.fc h.size 0 0 0)/\Y J 2 (.fc (h.size+1) 0 0 0)/\Y J 3 (.fc (h.size+1+1+1) 0 0 0)/\Y J 4 (C I)) ?_ ?_ B ?_
 ·rintro I J g bH c6 ⟨⟨⟨ver,a,K,e,bC,ab⟩,q,l1,l2,R⟩,m,aA,aE,aN⟩;have L:=e.get;simp at L;have ed:∀x,qZ (g.cons x) 1 l ae:=λx=>v.rb.mono λa c=>by have:=S l a (.inr (.inl rfl)) c;rw[fk,Z (by have:=q.ok.sz;omega)];exact q.get a this
  have aX:=v.el.length;have a6:=(show qZ g 1 l ae from v.rb.mono λa c=>q.get a (S l a (.inr (.inl rfl)) c)).len (cx:=cx) g Ki _ rfl;have⟨u,hl⟩:∃u,b.lr[I]? =some u:=⟨_,aB bH⟩;have c9:=aC hl;have⟨t,bB,b6⟩:=v.el.get hl;have ef:qZ g 1 t (iz u):=b6.mono λa c=>q.get a (S t a (.inr (.inr (aC bB))) c);have⟨p,cd,cp⟩:=(ed (X 1 0 [])).idx (te:=pI) rfl rfl bB b6.jc.2;have ea:iQ 0 g:=e.ok;have⟨bu,P,O,⟨eN,eA,gA⟩,ap,r,s⟩:=lA (cx:=cx) ea kO rfl nP kO rfl rfl G ef.j1 (by simp[T.cells]) (by have:=bN u c9;simp;omega);have et:Step (h.size+1+1+1) g P:=(Nb.mk ⟨s.hp,s.low,B⟩ r:Nb g P).step e.lt;have b7:=e.step s λa c=>r a (e.fp a c);have⟨eu,eE,bs,bi⟩:=(b7.gr 2 rfl).GR (cx:=cx) s XE rfl kO rfl G (x:= .arr g.size bu 0 (iz u).length false) rfl dR;have⟨bX,eL,eb⟩:=b7.app 2 rfl bi;have⟨U,b8⟩:=eb _ rfl;simp at bX U b8;simp[ap]at O bs;have er:∀a,a<g.size->gU (g.cons (X 1 0 [])) P a=true:=λa c=>il ((r a c).trans (by rw[fk,Z B]));have dn:(h.size=g.size)=False:=by have:=l1.lt;simp;omega
  have eI:(h.size+1+1+1=g.size)=False:=by have:=e.lt;simp;omega
  have eo:=er _ e.lt;have eB:=(r _ e.lt).trans L;simp[m,aA,aE,aN,l1.get,L,a6,aX,bH,cd,cp,O,ap,bs,bX,dn,eo,fG,bi.1.jc,bi.1.cells,c6];have z:=et.trans U;have eF:=z.ok.sz;have eD:P.size=g.size+1:=ap;refine⟨⟨_,eu,K++[.arr g.size bu 0 u.length false],b8,by simp[bC],?_⟩,?_,l1.step z,l2.step z,λa c=>?_⟩
  ·have di:b.lr.take (I+1)=b.lr.take I++[u]:=by
    rw[dK,hl];rfl
   rw[di];refine jw.append (ab.imp λt u k=>⟨k.1.mono λd i=>?_,λd i=>?_⟩) (.cons ⟨.inr ?_,λd i=>?_⟩ .nil)
   ·have⟨a7,al,N⟩:=k.2 d i;exact z.get d al N
   ·have⟨a7,al,N⟩:=k.2 d i;exact⟨a7,B,λf=>(z.fp d f).elim N λf=>by omega⟩
   ·have E:¬Fp P (h.size+1+1+1) g.size:=λf=>by
     rw[jJ (r _ e.lt)]at f;have:=e.fp _ f;omega
    have:=Gr.new ((U.get g.size B E).trans gA);simpa using this
   ·simp at i;subst i;refine⟨by have:=l2.lt;omega,by have:=U.ok.sz;omega,λf=>?_⟩;rcases U.fp _ f with f|f
    ·rw[jJ (r _ e.lt)]at f;have:=e.fp _ f;omega
    ·omega
  ·refine⟨⟨z.ok.hp,z.ok.low,by have:=q.ok.sz;omega⟩,λa c=>?_⟩;exact(z.get a (by have:=q.ok.sz;omega) λf=>by have:=R a f;omega).trans (q.get a c)
  ·rcases z.fp a c with f|f
   ·exact R a f
   ·have:=l2.lt;omega
 ·rintro J g ⟨⟨⟨ver,a,K,e,bC,ab⟩,q,l1,l2,R⟩,m,aA,aE,aN⟩;have L:=e.get;simp at L;have aX:=v.el.length;have a6:=(show qZ g 1 l ae from v.rb.mono λa c=>q.get a (S l a (.inr (.inl rfl)) c)).len (cx:=cx) g Ki _ rfl;rw[aL]at ab;have c4:∀y,(fJ g (h.size+1) y).get (h.size+1)=some y:=λy=>(eG l2.get y _).trans (au rfl);have an:=e.qJ l2 (X 4 1 [.eZ [C b.pC,n,a,C b.ej]]);simp[m,aA,aE,aN,l1.get,l2.get,L,a6,aX,fG,c4];have b9:=an.step (an.ok.out h) λa _=>iB h _ a;have dd:∀d,h.size+1<d->(fJ g (h.size+1) (X 4 1 [.eZ [C b.pC,n,a,C b.ej]])).get d=g.get d:=λd i=>by rw[eG l2.get,Z B]
  have eC:=e.gr 2 rfl;have a8:(n,some (1,iz b.jN))∈ [((C b.pC:T),(none:aa (Nat×List T))),(n,some (1,iz b.jN)),(a,some (1,K)),(C b.ej,none)]:=G;have bg:(a,some (1,K))∈ [((C b.pC:T),(none:aa (Nat×List T))),(n,some (1,iz b.jN)),(a,some (1,K)),(C b.ej,none)]:=G;refine⟨n,a,K,rfl,⟨b9.gr 1 rfl,b9.gr 2 rfl,ab.imp λt u k=>⟨k.1.mono λd i=>?_,λd i=>?_⟩,λd i=>?_,λd i=>?_⟩,⟨⟨(an.ok.out h).hp,(an.ok.out h).low,by simp;exact q.ok.sz⟩,λd i=>?_⟩⟩
  ·rw[iB];exact dd d (k.2 d i).1
  ·have⟨a7,al,N⟩:=k.2 d i;exact⟨B,by simpa using al,λk=>N (e.Ew a8 k),λk=>N (e.Ew bg k)⟩
  ·have:=e.fp d (e.Ew a8 i);have:=R d (e.Ew a8 i);exact⟨B,by simpa,e.Zw 1 2 dT _ _ rfl rfl d i⟩
  ·have:=e.fp d (e.Ew bg i);have:=R d (e.Ew bg i);exact⟨B,by simpa⟩
  ·rw[iB,eG l2.get,Z B];exact q.get d i
 ·have dm:m.low<=h.size+1+1+1:=by have:=s.low;omega
  have ds:Nb h m:=⟨⟨s.hp,s.low,B⟩,λa c=>(r a B).trans ((bS.get a c).trans (iU h a))⟩;obtain⟨eh,cL⟩:=oJ.one (i0:=1) (h:=m.cons (X 4 1 [.eZ [C b.pC,n,dV,C b.ej]])) (w:=h.size+1+1+1) (szw:=4) (ver:=1) (F:=[(C b.pC,none),(n,some (1,iz b.jN)),(dV,some (1,[])),(C b.ej,none)]) (s.cons _) (by simp[bn]) (λf E=>by
   simp only[ci,cS,or_false]at E;rcases E with rfl|rfl|rfl|rfl
   ·show fq _=none;simp
   ·exact⟨gN.mono λa c=>by rw[bp a c,fk,Z B],show(1:Nat)≠4 by decide⟩
   ·exact⟨Gr.nil _ _,dT⟩
   ·show fq _=none;simp) (λj A Q k=>by
   rcases j with _|_|_|_|j<;>simp at Q<;>subst Q<;>simp at k|-)
  have av:∀a,Fp (m.cons (X 4 1 [.eZ [C b.pC,n,dV,C b.ej]])) (h.size+1+1+1) a->h.size+1<a:=λa c=>by
   rcases cL a c with k|⟨f,E,k⟩
   ·omega
   ·simp at E;subst E;have:=bp a k;omega
  simp[bn,dm];refine⟨⟨_,_,[],eh,rfl,.nil⟩,ds.cons _,⟨?_,λk=>?_⟩,⟨?_,λk=>?_⟩,av⟩
  ·rw[fk,Z B];exact(r h.size B).trans cX
  ·have:=av _ k;omega
  ·rw[fk,Z B];exact(r (h.size+1) B).trans c1
  ·have:=av _ k;omega
def Yi(b c:H)(d:T)(e:List Int):Prop:=qZ c 1 d (iz e)/\Nb b c/\∀a,fq d=some a->b.size<=a
structure IUn where
 (x y:List Int) (u v:T)
def SO(a:IUn)(c:List T)(b:H):Prop:=c=[a.u,a.v]/\qZ b 1 a.u (iz a.x)/\qZ b 1 a.v (iz a.y)/\a.x.length+a.y.length<=10000000/\iQ 0 b
def MR(a:IUn)(e:List T)(b:H)(d:T)(c:H):Prop:=Yi b c d (CC a.x a.y)
def Pl(b:T)(a:List Int):Prop:=(b= dV/\a=[])\/b=sl (iz a)
def Pl.rZ{a:T}{b:List Int}(d:Pl a b)(c:H):rZ c a=some (sl (iz b))/\kT a=true/\a.jc=true:=by
 rcases d with⟨rfl,rfl⟩|rfl<;>simp
def Pl.rd{a:T}{b:List Int}(d:Pl a b)(c:H):qZ c 1 a (iz b)/\fq a=none:=by
 rcases d with⟨rfl,rfl⟩|rfl
 ·exact⟨.inr (Gr.nil _ _),rfl⟩
 ·exact⟨.inl rfl,G⟩
def KJ:(km IUn SO MR).Ok prog cx 95:=by
 refine kh (tb:=⟨pt [(39,Hh)],ht []⟩) jv jl (jF 8390899 [] func95) (λ_ _=>10000005) (λi R b O=>by obtain⟨rfl,_⟩:=O;simp[f95]) ?_;rintro⟨x,g,K,A⟩ _ b ⟨rfl,F,I,hl,P⟩ c D;simp only at F I hl;simp at D;obtain⟨k,d⟩:=D;have H:qZ (hr b) 1 K (iz x):=F.mono λl _=>iU b l;have J:qZ (hr b) 1 A (iz g):=I.mono λl _=>iU b l;have y:=H.len (cx:=cx) (hr b) pI _ rfl;have z:=J.len (cx:=cx) (hr b) pI _ rfl;rw[aI]at y z;simp[f95];refine ik x.length B (λa c s=>s=hr b/\Y c 0 K/\Y c 1 A/\Y c 6 (C a)/\∃f,Y c 5 f/\Pl f (nI [] (x.take a))) ?_ ?_ B (by simp[k,d];exact .inl ⟨rfl,rfl⟩)
 ·rintro a c _ j v ⟨rfl,k,d,t,f,h,e⟩;have⟨Q,m,n⟩:=H.idx (te:=Ek) rfl rfl (i:=a) (x:= C x[a]) (by simp[j]) rfl;have w:=AK [] (x.take a);simp at w;have⟨q,r,L⟩:=e.rZ (hr b);have o:=λ{tb:io} (ht:tb.p 39=some Hh)=>abC ht (nI [] (x.take a)) x[a] B;simp[k,d,h,t,y,j,v,m,n,q,r,o,DC [] x j];exact .inr rfl
 ·rintro c _ ⟨rfl,k,d,t,f,h,e⟩;rw[aL]at e;simp[k,t,y];refine ik g.length B (λa c s=>s=hr b/\Y c 1 A/\Y c 7 (C a)/\∃f,Y c 5 f/\Pl f (nI (nI [] x) (g.take a))) ?_ ?_ B (by simp[d,h];exact e)
  ·rintro a c _ j v ⟨rfl,d,u,f,h,e⟩;have⟨Q,m,n⟩:=J.idx (te:=Ek) rfl rfl (i:=a) (x:= C g[a]) (by simp[j]) rfl;have w:=AK (nI [] x) (g.take a);have N:=AK [] x;simp at w N;have⟨q,r,L⟩:=e.rZ (hr b);have o:=λ{tb:io} (ht:tb.p 39=some Hh)=>abC ht (nI (nI [] x) (g.take a)) g[a] B;simp[d,h,u,z,j,v,m,n,q,r,o,DC (nI [] x) g j];exact .inr rfl
  ·rintro c _ ⟨rfl,d,u,f,h,e⟩;rw[aL]at e;simp[d,h,u,z];have⟨r1,r2⟩:=e.rd (mX b (hr b));exact⟨r1,(Nb.refl P.hr).out,λl E=>by rw[r2]at E;simp at E⟩
def Lk(f:H)(d:Nat->Prop)(e:T)(c:fa):Prop:=∃a,e= .eZ [C c.jg,a]/\qZ f 1 a (iz c.fO)/\∀b,fq a=some b->d b
structure Eh(lo hi:Nat)(h:H)(c0 c2 c3:T)(es:List T)(S:gY):Prop where
 g0:Gr h c0 2 es
 g2:Gr h c2 1 (S.done.map T.ez)
 g3:Gr h c3 3 (S.ee.map ei.t)
 el:jw (Lk h λc=>lo<=c/\c<hi/\fq c0≠some c/\fq c2≠some c/\fq c3≠some c) es S.fI
 b:∀c,(fq c0=some c\/fq c2=some c\/fq c3=some c)->lo<=c/\c<hi
def Ql(a:gY)(b c d:T):T:= .eZ [b,C a.tx,c,d]
def HP(a:gY)(b:List T)(c:H):Prop:=b=[a.t]/\iQ 0 c/\a.fI.length<=1000000/\a.done.length<=1000000/\a.ee.length<=1000000/\∀d∈a.fI,d.fO.length<=1000000
def MW(b:gY)(i:List T)(f:H)(h:T)(a:H):Prop:=∃c d e g,h=Ql b c d e/\Eh f.size a.size a c d e g b/\Nb f a
structure C8(S:gY)(c2 c3:T)(h h':H)(i:Nat):Prop where
 ex:∃ver c0 es,oJ h' (h.size+1+1+1+1) 4 ver [(c0,some (2,es)),(C S.tx,none),(c2,some (1,S.done.map T.ez)),(c3,some (3,S.ee.map ei.t))]/\es.length=i/\
  jw (Lk h' λk=>h.size+1<k/\k<h'.size/\¬Fp h' (h.size+1+1+1+1) k) es (S.fI.take i)
 nb:Nb h h'
 l1:Lb (h.size+1+1+1+1) h' h.size (X 4 0 [S.t])
 l2:Lb (h.size+1+1+1+1) h' (h.size+1) (X 4 0 [.eZ [dV,C 0,dV,dV]])
 lo:∀c,Fp h' (h.size+1+1+1+1) c->h.size+1<c
def FG:(km gY HP MW).Ok prog cx 50:=by
 refine kh (tb:=⟨pt [],ht []⟩) jv jl (jF 1048607 [(1,[(1,5),(5,6),(5,8),(1,9),(5,11),(9,11)]),(5,[(1,15),(3,15),(5,15),(7,15)])] func50) (λ_ _=>1000005) (λz L b eo=>by obtain⟨rfl,_⟩:=eo;simp[f50]) ?_;rintro c _ b ⟨rfl,eB,hl,eV,ht,hr⟩ K F;simp at F;have bS:=eB.hr;have⟨p,E⟩:∃p:H,p=((TI.hr b).cons (X 4 0 [c.t])).cons (X 4 0 [.eZ [dV,C 0,dV,dV]]):=⟨_,rfl⟩;have eC:iQ 0 p:=by subst E;exact(bS.cons _).cons _
 have eN:p.size=b.size+1+1:=by subst E;rfl
 have eA:Nb b p:=by subst E;exact⟨(((Nb.refl bS).cons _).cons _).ok,λa h=>((((Nb.refl bS).cons _).cons _).get a h).trans (iU b a)⟩
 have cp:p.get b.size=some (X 4 0 [c.t]):=by subst E;simp
 have dv:p.get (b.size+1)=some (X 4 0 [.eZ [dV,C 0,dV,dV]]):=by subst E;simp
 have⟨bu,o,N,⟨e6,eO,gA⟩,bn,m,U⟩:=lA (cx:=cx) eC (x:=sl (c.done.map T.ez)) (xs:=c.done.map T.ez) Dg rfl LP Dg rfl rfl G G (λe ed=>by obtain⟨n,_,rfl⟩:=List.mem_map.1 ed;rfl) dR;have⟨P,k,O,⟨eK,ds,cF⟩,e7,S,okB⟩:=lA (cx:=cx) U (x:=sl (c.ee.map ei.t)) (xs:=c.ee.map ei.t) Gx rfl Jz Gx rfl rfl G G G dR;have ca:o.size=b.size+1+1+1:=B;have av:k.size=b.size+1+1+1+1:=B;have an:∀n,n<p.size->gU (p.cons (X 1 0 [])) o n=true:=λn ae=>il ((m n ae).trans (by rw[fk,Z B]));have c9:∀n,n<o.size->gU (o.cons (X 3 0 [])) k n=true:=λn ae=>il ((S n ae).trans (by rw[fk,Z B]));have bX:=an b.size B;have dd:=c9 b.size B;have b7:gU (p.cons (X 1 0 [])) o (b.size+1+1+1+1)=true:=jL (mP _ dR);have de:gU (o.cons (X 3 0 [])) k (b.size+1+1+1+1)=true:=jL (mP _ dR);have b6:gU (p.cons (X 1 0 [])) o (b.size+1+1+1)=true:=jL (mP _ dR);have bB:=(m b.size B).trans cp;have eb:=(S b.size B).trans bB;simp[E]at N;simp[ca]at O;rw[E]at bX b6 b7;simp[f50,F,N,O,bX,b6,dd,b7,de,bB,ca,av];have dm:=(show Gr k (.arr (b.size+1+1) bu 0 c.done.length false) 1 (c.done.map T.ez)by
  have:=Gr.new ((S p.size B).trans gA);rw[eN]at this;simpa using this)
 have dn:=(show Gr k (.arr (b.size+1+1+1) P 0 c.ee.length false) 3 (c.ee.map ei.t)by
  have:=Gr.new cF;rw[ca]at this;simpa using this)
 have ey:Nb b k:=⟨⟨okB.hp,okB.low,B⟩,λa h=>(S a B).trans ((m a B).trans (eA.get a h))⟩;have eL:=(S b.size B).trans ((m b.size B).trans cp);have eM:=(S (b.size+1) B).trans ((m (b.size+1) B).trans dv);have et:k.low<=b.size+1+1+1+1:=by have:=okB.low;omega
 have cb:∀a,fq (.arr (b.size+1+1) bu 0 c.done.length false)=some a->a=b.size+1+1:=λa q=>by simpa using q.symm
 have cd:∀a,fq (.arr (b.size+1+1+1) P 0 c.ee.length false)=some a->a=b.size+1+1+1:=λa q=>by simpa using q.symm
 clear N O an c9 bX b6 b7 dd de bB eb gA cF;generalize T.arr (b.size+1+1) bu 0 c.done.length false=r at*
 generalize T.arr (b.size+1+1+1) P 0 c.ee.length false=s at*
 refine ik c.fI.length B (λz K i=>C8 c r s b i z/\Y K 1 (.fc b.size 0 0 0)/\Y K 2 (.fc (b.size+1) 0 0 0)/\Y K 3 (.fc (b.size+1+1+1+1) 0 0 0)/\Y K 4 (C z)) ?_ ?_ B ?_
 ·rintro z K i a6 ec ⟨⟨⟨eI,A,D,d,cL,aA⟩,R,l1,l2,a8⟩,o,k,aE,aN⟩;have Q:=d.get;simp at Q;have⟨l,aX⟩:∃l,c.fI[z]? =some l:=⟨_,aB a6⟩;have eX:=hr l (aC aX);have⟨P,ab,N,⟨eK,ds,gA⟩,bn,m,U⟩:=lA (cx:=cx) d.ok (x:=sl (iz l.fO)) (xs:=iz l.fO) kO rfl nP kO rfl rfl G G (by simp[T.cells]) dR;have eF:Step (b.size+1+1+1+1) i ab:=(Nb.mk ⟨U.hp,U.low,B⟩ m:Nb i ab).step d.lt;have di:=d.step U λa h=>m a (d.fp a h);have⟨eH,eU,O,b9⟩:=(di.gr 0 rfl).GR (cx:=cx) U JA rfl Jy rfl G (x:= .eZ [C l.jg,.arr i.size P 0 (iz l.fO).length false]) rfl dR;have⟨bg,e5,bT⟩:=di.app 0 rfl b9;have⟨ap,dk⟩:=bT _ rfl;simp at bg ap dk;simp[bn]at N O;have an:∀a,a<i.size->gU (i.cons (X 1 0 [])) ab a=true:=λa h=>il ((m a h).trans (by rw[fk,Z B]));have eu:(b.size=i.size)=False:=by have:=l1.lt;simp;omega
  have e4:(b.size+1+1+1+1=i.size)=False:=by have:=d.lt;simp;omega
  have eD:=an _ d.lt;have eE:=an _ l1.lt;have eR:=(m _ d.lt).trans Q;have eP:=(m _ l1.lt).trans l1.get;simp[o,aE,aN,l1.get,Q,a6];have eh:c.fI[z]=l:=by rw[aB a6]at aX;simpa using aX
  simp[o,k,aE,aN,a6,eh,N,bn,O,bg,eu,eD,eE,fG,b9.1.jc,b9.1.cells,ec];have w:=eF.trans ap;have e0:=w.ok.sz;have eS:ab.size=i.size+1:=bn;refine⟨⟨_,eH,D++[.eZ [C l.jg,.arr i.size P 0 l.fO.length false]],dk,by simp[cL],?_⟩,?_,l1.step w,l2.step w,λa h=>?_⟩
  ·have er:c.fI.take (z+1)=c.fI.take z++[l]:=by
    rw[dK,aX];rfl
   rw[er];refine jw.append (aA.imp λe l ⟨bW,bp,bs,W⟩=>⟨bW,bp,bs.mono λg j=>?_,λg j=>?_⟩) (.cons ⟨_,rfl,.inr ?_,λg j=>?_⟩ .nil)
   ·have⟨bH,a7,J⟩:=W g j;exact w.get g a7 J
   ·have⟨bH,a7,J⟩:=W g j;exact⟨bH,B,λf=>(w.fp g f).elim J λf=>by omega⟩
   ·have I:¬Fp ab (b.size+1+1+1+1) i.size:=λf=>by
     rw[jJ (m _ d.lt)]at f;have:=d.fp _ f;omega
    have:=Gr.new ((ap.get i.size B I).trans gA);simpa using this
   ·simp at j;subst j;refine⟨by have:=l2.lt;omega,by have:=ap.ok.sz;omega,λf=>?_⟩;rcases ap.fp _ f with f|f
    ·rw[jJ (m _ d.lt)]at f;have:=d.fp _ f;omega
    ·omega
  ·refine⟨⟨w.ok.hp,w.ok.low,by have:=R.ok.sz;omega⟩,λa h=>?_⟩;exact(w.get a (by have:=R.ok.sz;omega) λf=>by have:=a8 a f;omega).trans (R.get a h)
  ·rcases w.fp a h with f|f
   ·exact a8 a f
   ·have:=l2.lt;omega
 ·rintro K i ⟨⟨⟨eI,A,D,d,cL,aA⟩,R,l1,l2,a8⟩,o,k,aE,aN⟩;have Q:=d.get;simp at Q;rw[aL]at aA;have ea:∀y,(fJ i (b.size+1) y).get (b.size+1)=some y:=λy=>(eG l2.get y _).trans (au rfl);have bi:=d.qJ l2 (X 4 1 [.eZ [A,C c.tx,r,s]]);simp[o,k,aE,aN,l1.get,l2.get,Q,fG,ea];have b8:=bi.step (bi.ok.out b) λa _=>iB b _ a;have c1:(A,some (2,D))∈ [(A,some (2,D)),((C c.tx:T),(none:aa (Nat×List T))),(r,some (1,c.done.map T.ez)),(s,some (3,c.ee.map ei.t))]:=G;have c4:(r,some (1,c.done.map T.ez))∈ [(A,some (2,D)),((C c.tx:T),(none:aa (Nat×List T))),(r,some (1,c.done.map T.ez)),(s,some (3,c.ee.map ei.t))]:=G;have c6:(s,some (3,c.ee.map ei.t))∈ [(A,some (2,D)),((C c.tx:T),(none:aa (Nat×List T))),(r,some (1,c.done.map T.ez)),(s,some (3,c.ee.map ei.t))]:=G;refine⟨A,r,s,D,rfl,⟨b8.gr 0 rfl,b8.gr 2 rfl,b8.gr 3 rfl,aA.imp λe l ⟨bW,bp,bs,W⟩=>⟨bW,bp,bs.mono λg j=>?_,λg j=>?_⟩,λg j=>?_⟩,⟨⟨(bi.ok.out b).hp,(bi.ok.out b).low,by simp;exact R.ok.sz⟩,λg j=>?_⟩⟩
  ·rw[iB,eG l2.get,Z (by have:=(W g j).1;omega)]
  ·have⟨bH,a7,J⟩:=W g j;exact⟨B,by simpa using a7,λq=>J (d.Ew c1 q),λq=>J (d.Ew c4 q),λq=>J (d.Ew c6 q)⟩
  ·have I:Fp i (b.size+1+1+1+1) g:=by
    rcases j with q|q|q
    ·exact d.Ew c1 q
    ·exact d.Ew c4 q
    ·exact d.Ew c6 q
   have:=d.fp g I;have:=a8 g I;exact⟨B,by simpa⟩
  ·rw[iB,eG l2.get,Z B];exact R.get g j
 ·have bN:∀(u:Nat) (L:T×aa (Nat×List T)) a,[(T.V [] false,some (2,[])),((C c.tx:T),(none:aa (Nat×List T))),(r,some (1,c.done.map T.ez)),(s,some (3,c.ee.map ei.t))][u]? =some L->fq L.1=some a->a=b.size+u:=λu L a F q=>by
   rcases u with _|_|_|_|u<;>simp at F<;>subst F
   ·simp at q
   ·simp at q
   ·have:=cb a q;omega
   ·have:=cd a q;omega
  have c7:oJ (k.cons (X 4 1 [.eZ [dV,C c.tx,r,s]])) (b.size+1+1+1+1) 4 1 [(T.V [] false,some (2,[])),(C c.tx,none),(r,some (1,c.done.map T.ez)),(s,some (3,c.ee.map ei.t))]:=by
   refine⟨okB.cons _,by simp[av],λf I=>?_,λu g eW L n F ae a bg bT=>?_⟩
   ·simp only[ci,cS,or_false]at I;rcases I with rfl|rfl|rfl|rfl
    ·exact⟨Gr.nil _ _,show(2:Nat)≠4 by decide⟩
    ·show fq _=none;simp
    ·exact⟨dm.mono λa h=>by have:=cb a h;rw[fk,Z (by rw[av];omega)],show(1:Nat)≠4 by decide⟩
    ·exact⟨dn.mono λa h=>by have:=cd a h;rw[fk,Z (by rw[av];omega)],show(3:Nat)≠4 by decide⟩
   ·have:=bN u L a F bg;have:=bN g n a ae bT;omega
  have bA:∀a,Fp (k.cons (X 4 1 [.eZ [dV,C c.tx,r,s]])) (b.size+1+1+1+1) a->b.size+1<a:=λa h=>by
   rcases h with q|⟨x,bC,v,cX,q⟩
   ·omega
   ·rw[c7.get]at bC;simp only[aw]at bC;subst bC;simp only[iq,bD,cB,bG,T.cells]at cX;obtain⟨f,ef,rfl⟩:=List.mem_map.1 cX;have⟨u,al⟩:=cR ef;have j:=bN u f a al q;rcases u with _|_|u
    ·simp at al;subst al;simp at q
    ·simp at al;subst al;simp at q
    ·omega
  simp[av,et];refine⟨⟨_,_,[],c7,rfl,.nil⟩,ey.cons _,⟨?_,λq=>?_⟩,⟨?_,λq=>?_⟩,bA⟩
  ·rw[fk,Z B];exact eL
  ·have:=bA _ q;omega
  ·rw[fk,Z B];exact eM
  ·have:=bA _ q;omega
structure Ac(h0 h':H)(v:T)(l:List Int):Prop where
 nb:Nb h0 h'
 g:Gr h' v 1 (iz l)
 lo:∀c,fq v=some c->h0.size<=c
def Ac.start{a:H}(b:iQ 0 a):Ac a a dV []:=⟨Nb.refl b,Gr.nil _ _,λd c=>by simp at c⟩
def Ac.m9{m h:H}{n:T}{j:List Int}(a:Ac m h n j)(l:Int)(s:j.length<=10000000):∃d c,jx cx (h.cons (X 1 0 [C l])) 38 38 n (.arr h.size 0 0 1 false)=some (.val d c)/\Ac m c d (j++[l]):=by
 have⟨d,c,e,o,p,r,k⟩:=a.g.m9 (cx:=cx) (f:=T.int .i64) ⟨a.nb.ok.hp,a.nb.ok.low,ay _⟩ kO rfl nP rfl G (λ_=>rfl) l dR;have:=a.nb.ok.sz;refine⟨d,c,e,⟨⟨k.hp,k.low,aU a.nb.ok.sz k.sz⟩,λb i=>(p b B λq=>by have:=a.lo b q;omega).trans (a.nb.get b i)⟩,o,λb i=>?_⟩;rcases r b i with q|q
 ·exact a.lo b q
 ·omega
def Ac.K4{a c:H}{l:T}{i:List Int}{h:H}(e:Ac h c l i)(j:Nb a h):Yi a (mX a c) l i:=by
 have d:=j.trans e.nb;have k:iQ 0 c:=⟨d.ok.hp,d.ok.low,ay _⟩;have:=j.ok.sz;exact⟨.inr (e.g.out a),⟨⟨(k.out a).hp,(k.out a).low,d.ok.sz⟩,λb f=>(iB a c b).trans (d.get b f)⟩,λb f=>by have:=e.lo b f;omega⟩
structure IWt where
 (S:gY) (c0 c2 c3:T) (c:Int)
def Y0(a:IWt)(d:List T)(b:H):Prop:=d=[Ql a.S a.c0 a.c2 a.c3,C a.c]/\Gr b a.c3 3 (a.S.ee.map ei.t)/\a.S.ee.length<=1000000/\iQ 0 b
def SX(a:IWt)(f:List T)(b:H)(e:T)(d:H):Prop:=Yi b d e (ji a.c a.S.ee 0)
def Mw(c:Int)(b:List ei)(a:Nat)(d:a<b.length):ji c (b.drop a) a=if b[a].je=3/\b[a].cond=c then(a:Int)::ji c (b.drop (a+1)) (a+1)else ji c (b.drop (a+1)) (a+1):=by
 rw[aJ d,ji]
def FA:(km IWt Y0 SX).Ok prog cx 51:=by
 refine kh (tb:=⟨pt [],ht []⟩) jv jl (jF 1073743991 [] func51) (λ_ _=>1000005) (λi d a T=>by obtain⟨rfl,_⟩:=T;simp[f51]) ?_;rintro⟨b,k,l,c,j⟩ _ a ⟨rfl,o,hl,z⟩ m F;simp only at o hl;simp[Ql]at F;obtain⟨P,f⟩:=F;have V:=z.hr.cons (X 4 0 [.eZ [k,C b.tx,l,c]]);have O:Gr ((hr a).cons (X 4 0 [.eZ [k,C b.tx,l,c]])) c 3 (b.ee.map ei.t):=o.mono λe r=>by
  have⟨_,_,_,_,A,_⟩:=o.box r;rw[fk,Z (by have:=H.gh A;simp;omega),iU]
 have l3:∀e,fq c=some e->e<a.size:=λe r=>by have⟨_,_,_,_,A,_⟩:=o.box r;exact H.gh A
 have w:=λf:H=>o.len (cx:=cx) f Sb _ rfl;rw[aI]at w;simp[f51,P];have D:((hr a).cons (X 4 0 [.eZ [k,C b.tx,l,c]])).get a.size=some (X 4 0 [.eZ [k,C b.tx,l,c]]):=G;have U:Nb a ((hr a).cons (X 4 0 [.eZ [k,C b.tx,l,c]])):=⟨((Nb.refl z.hr).cons _).ok,λj S=>(((Nb.refl z.hr).cons _).get j S).trans (iU a j)⟩;have aN:((hr a).cons (X 4 0 [.eZ [k,C b.tx,l,c]])).size=a.size+1:=rfl;generalize ap:(hr a).cons (X 4 0 [.eZ [k,C b.tx,l,c]])=Q at*
 refine ik b.ee.length B (λh m h'=>∃s n,Ac Q h' s n/\n.length<=h/\n++ji j (b.ee.drop h) h=ji j b.ee 0/\Y m 1 (C j)/\Y m 2 (.fc a.size 0 0 0)/\Y m 5 s/\Y m 6 (C h)) ?_ ?_ B ⟨_,_,Ac.start V,ay _,rfl,by simp[f]⟩
 ·rintro h m h' x I ⟨s,n,d,R,g,f,p,u,q⟩;have v:=(d.nb.get a.size B).trans D;have⟨e,ae,aA,al,aE,ab,K,L,E⟩:=(O.mono (h':=h') λe r=>d.nb.get e (by have:=l3 e r;omega)).Bd (te:=Kf) rfl (i:=h) (by simpa using x);simp at E;rw[Mw j _ _ x]at g;simp[f,p,q,w,x,v,K,L,E];generalize b.ee[h]=av at*
  refine fN (λy=>?_) (λy=>?_)
  ·rw[au (by simpa using y)]at g;have⟨W,an,N,J⟩:=d.m9 (h:Int) B;simp[f,p,u,q,N,I];exact⟨W,_,J,dR,by simpa using g,rfl⟩
  ·rw[Z (by simpa using y)]at g;simp[f,p,u,q,I];exact⟨s,n,d,B,g,rfl⟩
 ·rintro m h' ⟨s,n,d,R,g,f,p,u,q⟩;have v:=(d.nb.get a.size B).trans D;simp[ji]at g;subst g;simp[p,u,q,w,v];exact d.K4 U
structure IWo where
 (l:List Int) (v:T) (n:Int)
def Y1(a:IWo)(d:List T)(b:H):Prop:=d=[a.v,C a.n]/\qZ b 1 a.v (iz a.l)/\(∀c,fq a.v=some c->c<b.size)/\a.l.length<=1000000/\iQ 0 b
def SY(a:IWo)(f:List T)(b:H)(d:T)(c:H):Prop:=Yi b c d (a.l.filter λe=> !decide (e=a.n))
def M2:(km IWo Y1 SY).Ok prog cx 96:=by
 refine kh (tb:=⟨pt [],ht []⟩) jv jl (jF 263283 [] func96) (λ_ _=>1000005) (λi f h I=>by obtain⟨rfl,_⟩:=I;simp[f96]) ?_;rintro⟨l,L,r⟩ _ h ⟨rfl,t,z,hl,s⟩ e w;simp only at t z hl;simp at w;obtain⟨c,a⟩:=w;have J:Nb h (hr h):=⟨⟨s.hr.hp,s.hr.low,ax _⟩,λj _=>iU h j⟩;have o:=λa:H=>t.len (cx:=cx) a pI _ rfl;rw[aI]at o;simp[f96];refine ik l.length B (λd e h'=>∃m g,Ac (hr h) h' m g/\g.length<=d/\g++(l.drop d).filter (λx=> !decide (x=r))=l.filter (λx=> !decide (x=r))/\Y e 0 L/\Y e 1 (C r)/\Y e 5 m/\Y e 6 (C d)) ?_ ?_ B ⟨_,_,Ac.start s.hr,ay _,rfl,by simp[c,a]⟩
 ·rintro d e h' p y ⟨m,g,f,E,b,c,a,n,k⟩;have⟨O,u,v⟩:=(t.mono (h':=h') λj F=>(f.nb.get j (by simpa using z j F)).trans (iU h j)).idx (te:=Ek) rfl rfl (i:=d) (x:= C l[d]) (by simp[p]) rfl;rw[aJ p,List.filter_cons]at b;simp[c,a,k,o,p,u,v];generalize l[d]=x at*
  refine fN (λq=>?_) (λq=>?_)
  ·rw[au (by simpa using q)]at b;have⟨K,N,D,A⟩:=f.m9 x B;simp[c,a,n,k,u,v,D,y];exact⟨K,_,A,dR,by simpa using b,rfl⟩
  ·rw[Z (by simpa using q)]at b;simp[c,a,n,k,y];exact⟨m,g,f,B,b,rfl⟩
 ·rintro e h' ⟨m,g,f,E,b,c,a,n,k⟩;simp at b;subst b;simp[c,n,k,o];exact f.K4 J
end
section
def qh{d:Type}{c:List d}{b:Nat}{a:d}(h:c[b]? =some a)(f:d->d):c.modify b f=c.set b (f a):=by
 apply cW;intro g;rw[cZ,cw];by_cases e:b=g
 ·subst e;have hi:b<c.length:=by
   rcases aT b c.length with k|k
   ·exact k
   ·rw[bV k]at h;simp at h
  rw[h];simp[hi]
 ·rw[Z e];simp[e]
section
variable {lo hi hi':Nat}{h h':H}{c0 c2 c3:T}{es:List T}{S:gY}
def Eh.mono(d:Eh lo hi h c0 c2 c3 es S)(l:hi<=hi')(f:∀a,lo<=a->a<hi->h'.get a=h.get a):Eh lo hi' h' c0 c2 c3 es S:=
 ⟨d.g0.mono λa c=>f a (d.b a (.inl c)).1 (d.b a (.inl c)).2,d.g2.mono λa c=>f a (d.b a (.inr (.inl c))).1 (d.b a (.inr (.inl c))).2,d.g3.mono λa c=>f a (d.b a (.inr (.inr c))).1 (d.b a (.inr (.inr c))).2,
   d.el.imp λk m ⟨j,g,i,e⟩=>⟨j,g,i.mono λa c=>f a (e a c).1 (e a c).2.1,λa c=>⟨(e a c).1,by have:=(e a c).2.1;omega,(e a c).2.2⟩⟩,λa c=>⟨(d.b a c).1,by have:=(d.b a c).2;omega⟩⟩
def Eh.tx(a:Eh lo hi h c0 c2 c3 es S)(c:Int):Eh lo hi h c0 c2 c3 es {S with tx:=c}:=⟨a.g0,a.g2,a.g3,a.el,a.b⟩
def Eh.pf(d:Eh lo hi h c0 c2 c3 es S){e l n:Nat}{m:Bool}{o:List T}(r:fq c3=some e)(g:h.get e=some ⟨3,l,n,m,false,o⟩)(i:Nat)(k:ei):
 Eh lo hi (fJ h e ⟨3,l,n+1,m,false,o.set i k.t⟩) c0 c2 c3 es {S with ee:=S.ee.set i k}:=by
 have p:∀a,a≠e->(fJ h e ⟨3,l,n+1,m,false,o.set i k.t⟩).get a=h.get a:=λa c=>by rw[eG g,Z c]
 refine⟨d.g0.mono λa c=>p a λf=>?_,d.g2.mono λa c=>p a λf=>?_,?_,d.el.imp λf w ⟨v,s,u,q⟩=>⟨v,s,u.mono λa c=>p a λf=>(q a c).2.2.2.2 (by rw[f];exact r),q⟩,d.b⟩
 ·subst f;have⟨_,_,_,_,j,_⟩:=d.g0.box c;rw[g]at j;simp at j
 ·subst f;have⟨_,_,_,_,j,_⟩:=d.g2.box c;rw[g]at j;simp at j
 ·have:=d.g3.setAt r g i k.t (h':=fJ h e ⟨3,l,n+1,m,false,o.set i k.t⟩) (by rw[eG g,au rfl]);simpa[aW]using this
def Eh.don(d:Eh lo hi h c0 c2 c3 es S){e l n:Nat}{m:Bool}{o:List T}(r:fq c2=some e)(g:h.get e=some ⟨1,l,n,m,false,o⟩)(i:Nat)(k:Bool):
 Eh lo hi (fJ h e ⟨1,l,n+1,m,false,o.set i (.ez k)⟩) c0 c2 c3 es {S with done:=S.done.set i k}:=by
 have p:∀a,a≠e->(fJ h e ⟨1,l,n+1,m,false,o.set i (.ez k)⟩).get a=h.get a:=λa c=>by rw[eG g,Z c]
 refine⟨d.g0.mono λa c=>p a λf=>?_,?_,d.g3.mono λa c=>p a λf=>?_,d.el.imp λf v ⟨u,s,t,q⟩=>⟨u,s,t.mono λa c=>p a λf=>(q a c).2.2.2.1 (by rw[f];exact r),q⟩,d.b⟩
 ·subst f;have⟨_,_,_,_,j,_⟩:=d.g0.box c;rw[g]at j;simp at j
 ·have:=d.g2.setAt r g i (.ez k) (h':=fJ h e ⟨1,l,n+1,m,false,o.set i (.ez k)⟩) (by rw[eG g,au rfl]);simpa[aW]using this
 ·subst f;have⟨_,_,_,_,j,_⟩:=d.g3.box c;rw[g]at j;simp at j
def Eh.pO(e:Eh lo hi h c0 c2 c3 es S){g m p:Nat}{n:Bool}{q:List T}(o:fq c0=some g)(i:h.get g=some ⟨2,m,p,n,false,q⟩)(f:Nat){rv:T}{k:fa}(hr:qZ h 1 rv (iz k.fO))(s:∀a,fq rv=some a->lo<=a/\a<hi/\fq c0≠some a/\fq c2≠some a/\fq c3≠some a):
 Eh lo hi (fJ h g ⟨2,m,p+1,n,false,q.set f (.eZ [C k.jg,rv])⟩) c0 c2 c3 (es.set f (.eZ [C k.jg,rv])) {S with fI:=S.fI.set f k}:=by
 have l:∀a,a≠g->(fJ h g ⟨2,m,p+1,n,false,q.set f (.eZ [C k.jg,rv])⟩).get a=h.get a:=λa c=>by rw[eG i,Z c]
 refine⟨e.g0.setAt o i f _ (by rw[eG i,au rfl]),e.g2.mono λa c=>l a λd=>?_,e.g3.mono λa c=>l a λd=>?_,e.el.set f ⟨rv,rfl,hr.mono λa c=>l a λd=>(s a c).2.2.1 (by rw[d];exact o),s⟩ λd v ⟨rv,t,u,r⟩=>⟨rv,t,u.mono λa c=>l a λd=>(r a c).2.2.1 (by rw[d];exact o),r⟩,e.b⟩
 ·subst d;have⟨_,_,_,_,j,_⟩:=e.g2.box c;rw[i]at j;simp at j
 ·subst d;have⟨_,_,_,_,j,_⟩:=e.g3.box c;rw[i]at j;simp at j
end
def Eh.fz{lo hi:Nat}{h:H}{c0 c2 c3:T}{es:List T}{S:gY}(a:Eh lo hi h c0 c2 c3 es S):TI.fz h c0=some (sl (S.fI.map fa.t))/\TI.fz h c2=some (sl (S.done.map T.ez))/\TI.fz h c3=some (sl (S.ee.map ei.t)):=by
 refine⟨?_,a.g2.fz G,a.g3.fz G⟩;exact a.g0.LD (d:=4) B (a.el.em (f:=fa.t) λg j ⟨l,b,c,i⟩=>by
  subst b;exact .inr (.inr ⟨_,_,rfl,.cons (iO ..) (.cons (c.ft (d:=1) (Vq:=λ_=>True) (λm e=>by obtain⟨k,_,rfl⟩:=List.mem_map.1 e;simp) λ_ _=>trivial) .nil),rfl⟩))
def My{c:List Int}(h:Mi c)(d:Int):CC c [d]=m6 c d:=by
 have e:∀(a b:List Int),nI b a=a.foldl m6 b:=by
  intro a;induction a with
  |nil=>intro b;rfl
  |cons g a f=>intro b;show nI (uk b g) a=_;rw[f,BF];rfl
 unfold CC;rw[e,e];exact Qh h d
end
section
attribute [-simp] size_cons
section
def ww{e d:Int}:∀{b:List ei} {c:Nat},d∈ji e b c->∃a:Nat,d=((c+a:Nat):Int)/\a<b.length:=by
 intro b;induction b with
 |nil=>intro c h;simp[ji]at h
 |cons k b j=>
  intro c h;rw[ji]at h;have f:d∈ji e b (c+1)->∃a:Nat,d=((c+a:Nat):Int)/\a<(k::b).length:=λh=>by
   have⟨a,g,i⟩:=j h;exact⟨a+1,by rw[g];simp;omega,by simpa using i⟩
  split at h
  ·rcases List.mem_cons.1 h with rfl|h
   ·exact⟨0,G,G⟩
   ·exact f h
  ·exact f h
def EO(c:Int):∀(a:List ei) (b:Nat),(ji c a b).length<=a.length:=by
 intro a;induction a with
 |nil=>intro b;simp[ji]
 |cons e a d=>intro b;rw[ji];have:=d (b+1);split<;>simp<;>omega
def Rc(T:List ei)(b:List Int):List ei:=b.foldl (λT (a:Int)=>T.modify a.toNat (kV 4)) T
def Xc(g:Int):∀(c b:List ei),Rc (b++c) (ji g c b.length)=b++c.map λe=>if e.je=3/\e.cond=g then kV 4 e else e:=by
 intro c;induction c with
 |nil=>intro b;simp[ji,Rc]
 |cons d c i=>
  intro b;rw[ji];split
  ·rename_i f;unfold Rc;rw[List.foldl_cons];have j:(b++d::c).modify ((b.length:Int).toNat) (kV 4)=(b++[kV 4 d])++c:=by
    rw[qh (a:=d) G];simp
   rw[j];have:=i (b++[kV 4 d]);simp only[aV,aQ,cV]at this;unfold Rc at this;rw[this];simp[f]
  ·rename_i f;have:=i (b++[d]);simp only[aV,aQ,cV]at this;simp only[bj,List.singleton_append]at this;rw[this];simp[f]
def Xb(a:List Int):∀T,(Rc T a).length=T.length:=by
 induction a with
 |nil=>intro T;rfl
 |cons c a b=>intro T;show(Rc (T.modify c.toNat (kV 4)) a).length=_;rw[b];simp
def Ud(T:List ei)(b:List Int){a:Nat}(c:a<b.length):Rc T (b.take (a+1))=(Rc T (b.take a)).modify b[a].toNat (kV 4):=by
 rw[aP c];unfold Rc;rw[List.foldl_append];rfl
def Es{c:Type}(b:List c)(a:Nat)(d e:c->c):(b.modify a d).modify a e=b.modify a λi=>e (d i):=by
 apply cW;intro f;simp only[cZ];by_cases g:a=f
 ·simp[g];cases b[f]? <;>rfl
 ·simp[g]
structure Bs(c0 c2 c3:T)(h:H)(es:List T)(S:gY)(ver:Nat):Prop where
 sy:Eh 3 h.size h c0 c2 c3 es S
 ok:iQ 0 h
 g1:h.get 1=some (X 4 ver [.eZ [c0,C S.tx,c2,c3]])
 g2:h.get 2=some (X 4 0 [.eZ [dV,C 0,dV,dV]])
section
variable {c0 c2 c3:T}{h h':H}{es:List T}{S:gY}{ver:Nat}
def Bs.nb(b:Bs c0 c2 c3 h es S ver)(a:Nb h h'):Bs c0 c2 c3 h' es S ver:=
 ⟨b.sy.mono a.ok.sz λc _ d=>a.get c d,⟨a.ok.hp,a.ok.low,ay _⟩,(a.get _ (H.gh b.g1)).trans b.g1,(a.get _ (H.gh b.g2)).trans b.g2⟩
theorem Bs.put(d:Bs c0 c2 c3 h es S ver){a:Nat}{x:jK}(f:h.get a=some x)(j:3<=a){g:jK}{e:List T}{b:gY}(i:Eh 3 h.size (fJ h a g) c0 c2 c3 e b)(ht:b.tx=S.tx):Bs c0 c2 c3 (fJ h a g) e b ver:=
 ⟨by rw[iy];exact i,d.ok.put _ _,by rw[eG f,Z B,ht];exact d.g1,by rw[eG f,Z B];exact d.g2⟩
def Bs.pf(c:Bs c0 c2 c3 h es S ver){a e k:Nat}{f:Bool}{l:List T}(g:fq c3=some a)(j:h.get a=some ⟨3,e,k,f,false,l⟩){i:Nat}{me:ei}(m:S.ee[i]? =some me)(d:ei->ei):
 Bs c0 c2 c3 (fJ h a ⟨3,e,k+1,f,false,l.set i (d me).t⟩) es {S with ee:=S.ee.modify i d} ver:=by
 have:=c.put j (c.sy.b a (.inr (.inr g))).1 (c.sy.pf g j i (d me)) rfl;rw[qh m];exact this
def Bs.pO(g:Bs c0 c2 c3 h es S ver){d i m:Nat}{j:Bool}{n:List T}(k:fq c0=some d)(l:h.get d=some ⟨2,i,m,j,false,n⟩){c:Nat}{f:fa}(hl:S.fI[c]? =some f)(e:fa->fa){rv:T}(hr:qZ h 1 rv (iz (e f).fO))(o:∀a,fq rv=some a->3<=a/\a<h.size/\fq c0≠some a/\fq c2≠some a/\fq c3≠some a):
 Bs c0 c2 c3 (fJ h d ⟨2,i,m+1,j,false,n.set c (.eZ [C (e f).jg,rv])⟩) (es.set c (.eZ [C (e f).jg,rv])) {S with fI:=S.fI.modify c e} ver:=by
 have:=g.put l (g.sy.b d (.inl k)).1 (g.sy.pO k l c hr o) rfl;rw[qh hl];exact this
def Bs.don(c:Bs c0 c2 c3 h es S ver){a f k:Nat}{g:Bool}{l:List T}(i:fq c2=some a)(j:h.get a=some ⟨1,f,k,g,false,l⟩)(d:Nat)(e:Bool):Bs c0 c2 c3 (fJ h a ⟨1,f,k+1,g,false,l.set d (.ez e)⟩) es {S with done:=S.done.set d e} ver:=
 c.put j (c.sy.b a (.inr (.inl i))).1 (c.sy.don i j d e) rfl
def Bs.tx(a:Bs c0 c2 c3 h es S ver)(b:Int):Bs c0 c2 c3 (fJ h 1 (X 4 (ver+1) [.eZ [c0,C b,c2,c3]])) es {S with tx:=b} (ver+1):=
 ⟨by rw[iy];exact(a.sy.tx b).mono (ax _) λc d _=>by rw[eG a.g1,Z B],a.ok.put _ _,by rw[eG a.g1,au rfl],by rw[eG a.g1,Z B];exact a.g2⟩
end
structure ApJ(w:fy)(s:gY)(t k o wk:Int)(c0 c2 c3:T)(h:H)(n:Int):Prop where
 ex:∃S es ver,fZ w s t k o wk=(S,n)/\Bs c0 c2 c3 h es S ver
def ZM:gY:=⟨[],0,[],[]⟩
def A8(a:fy×gY×Int×Int×Int×Int):T:=if iV a.1 a.2.1 a.2.2.1 a.2.2.2.1 a.2.2.2.2.1=true then .tuple [(fZ a.1 a.2.1 a.2.2.1 a.2.2.2.1 a.2.2.2.2.1 a.2.2.2.2.2).1.t,C (fZ a.1 a.2.1 a.2.2.1 a.2.2.2.1 a.2.2.2.2.1 a.2.2.2.2.2).2,.ez true]else .tuple [ZM.t,C 0,.ez false]
def Qt(a:gY):Prop:=a.fI.length<=1000000/\a.done.length<=1000000/\a.ee.length<=1000000/\(∀b∈a.fI,b.fO.length<=1000000)/\a.Cx
def tM:iK:=⟨fy×gY×Int×Int×Int×Int,λa=>[a.1.t,a.2.1.t,C a.2.2.1,C a.2.2.2.1,C a.2.2.2.2.1,C a.2.2.2.2.2],λa=>a.1.iL.length<=1099511627776/\Qt a.2.1,A8,λa b h=>by
 obtain⟨a1,a2,a3,a4,a5,c⟩:=a;obtain⟨d,e,f,g,i,j⟩:=b;simp at h;rw[fy.inj h.1,gY.inj h.2.1,h.2.2.1,h.2.2.2.1,h.2.2.2.2.1,h.2.2.2.2.2]⟩
def H6:tM.Ok prog cx 53:=by
 refine Ah (tb:=⟨pt [(34,nV),(12,D2)],ht [(50,km gY HP MW),(95,km IUn SO MR),(96,km IWo Y1 SY),(51,km IWt Y0 SX)]⟩) jv jl (jF 829180818552508142370930303613581122868418894632663968482586879 [(17,[(1,11)]),(19,[(1,10)]),(30,[(4,9)]),(33,[(4,8)])] func53) (λ_=>1000005) (by simp[tM]) nl9 ?_;rintro⟨q,a,d,k,e,r⟩ ⟨de,hl,eI,ht,hr,eE⟩ E eD;simp at de hl eI ht hr eE;simp[tM,A8]at eD|-;obtain⟨eB,bp,N,c9,J,eC⟩:=eD;have eR:a.sm:=⟨B,B,B,λj u=>by have:=hr j u;omega⟩;cases dm:iV q a d k e with
 |false=>
  simp[f53,eB,bp,N,c9,J,xN,de,eR,dm];rfl
 |true=>
  have dn:=dm;unfold iV at dn;simp only[az]at dn;obtain⟨⟨⟨eK,eM⟩,b9⟩,_⟩:=dn;have⟨eX,gy,e0⟩:=kY eK;simp[f53,eB,bp,N,c9,J,xN,de,eR,dm];generalize bu:((hE.cons _).cons _).cons _=bT;have gv:iQ 0 bT:=by rw[<-bu];exact⟨G,G,G⟩
  have gF:bT.size=3:=by rw[<-bu];rfl
  have e7:bT.get 0=some (X 6 0 [q.t]):=by rw[<-bu];simp
  have e8:bT.get 1=some (X 4 0 [a.t]):=by rw[<-bu];simp
  have e9:bT.get 2=some (X 4 0 [.eZ [dV,C 0,dV,dV]]):=by rw[<-bu];simp
  clear bu;refine jB FG G a ⟨rfl,gv,hl,eI,ht,hr⟩ ?_;rintro _ cp ⟨c0,c2,c3,es,rfl,e5,bC⟩;rw[gF]at e5;have gX:=bC.ok.sz;have gn:iQ 0 cp:=⟨bC.ok.hp,bC.ok.low,ay _⟩;have bS:=(bC.get 1 B).trans e8;have ff:=(bC.get 0 B).trans e7;have fi:=(bC.get 2 B).trans e9;have c:Bs c0 c2 c3 (fJ cp 1 (X 4 1 [.eZ [c0,C a.tx,c2,c3]])) es a 1:=⟨by rw[iy];exact e5.mono (ax _) λo u _=>by rw[eG bS,Z B],gn.put _ _,by rw[eG bS,au rfl],by rw[eG bS,Z B];exact fi⟩;have eA:(fJ cp 1 (X 4 1 [.eZ [c0,C a.tx,c2,c3]])).get 0=some (X 6 0 [q.t]):=by rw[eG bS,Z B];exact ff
  simp[Ql,bS,c9];generalize fJ cp 1 _=bs at*
  have eN:=eM;rw[<-e0]at eN;have⟨me,O,gM⟩:=jn eN;have bH:=fU (fQ.1 eM).1;refine lV (λE aN=>∃n,ApJ q a d k e r c0 c2 c3 aN n/\Y E 7 (.fc 1 0 0 0)/\Y E 12 (.fc 2 0 0 0)/\Y E 15 (C n)) (λaX=>?_) (λaX=>?_) ?_
  ·have aX:k=1:=by simpa using aX
   subst aX
   ·have⟨F,ep,a8,ex,bg,w,l,s,m⟩:=c.sy.g3.at (x:=me.t) (i:=d.toNat) (by simp[O]);rw[aI]at w m;subst w;simp[N,c.g1,bH,l,s,m];exact⟨_,_,_,show fZ q a d 1 e r=(a.pf d (kV 2),0)by simp[fZ],c.pf rfl l O (kV 2)⟩
  ·have aX:¬k=1:=by simpa using aX
   rcases qr b9 with g|rfl|rfl|rfl|rfl|rfl|rfl|rfl|rfl|g|g|g|g
   ·exact absurd g aX
   ·have⟨F,ep,a8,ex,bg,w,l,s,m⟩:=c.sy.g3.at (x:=me.t) (i:=d.toNat) (by simp[O]);rw[aI]at w m;subst w;simp[N,c.g1,bH,l,s,m];exact⟨_,_,_,show fZ q a d 2 e r=(a.pf d (kV 5),0)by simp[fZ],c.pf rfl l O (kV 5)⟩
   ·simp;exact⟨_,_,_,show fZ q a d 3 e r=(a,0)by simp[fZ],c⟩
   ·simp;exact⟨_,_,_,show fZ q a d 4 e r=(a,0)by simp[fZ],c⟩
   ·simp;exact⟨_,_,_,show fZ q a d 5 e r=(a,0)by simp[fZ],c⟩
   ·simp[N,c.g1,fG];exact⟨_,_,_,show fZ q a d 12 e r=({a with tx:=d},0)by simp[fZ],c.tx d⟩
   ·simp[c.g1,fG];exact⟨_,_,_,show fZ q a d 13 e r=({a with tx:=-1},0)by simp[fZ],c.tx (-1)⟩
   ·have⟨F,ep,a8,ex,bg,w,l,s,m⟩:=c.sy.g3.at (x:=me.t) (i:=d.toNat) (by simp[O]);rw[aI]at w m;subst w;simp[N,c.g1,bH,l,s,m];exact⟨_,_,_,show fZ q a d 14 e r=(a.pf d (λx=>{x with atomic:=true}),0)by simp[fZ],c.pf rfl l O (λx=>{x with atomic:=true})⟩
   ·have⟨F,ep,a8,ex,bg,w,l,s,m⟩:=c.sy.g3.at (x:=me.t) (i:=d.toNat) (by simp[O]);rw[aI]at w m;subst w;simp[N,c.g1,bH,l,s,m];exact⟨_,_,_,show fZ q a d 15 e r=(a.pf d (λx=>{x with atomic:=false}),0)by simp[fZ],c.pf rfl l O (λx=>{x with atomic:=false})⟩
   ·have K:=kJ b9 g;rw[<-eX]at K;have⟨L,P,fX⟩:=jn K;have I:=fU (fQ.1 K).1;obtain⟨D,dk,rv,rfl,an,a7⟩:=c.sy.el.get P;obtain⟨F,ep,a8,ex,bg,rfl,l,s,m⟩:=c.sy.g0.at dk;have bW:=H.gh l;have gI:=(c.sy.b F (.inl rfl)).1;have ed:(1=bs.size)=False:=by have:=H.gh c.g1;simp;omega
    have gP:(F=bs.size)=False:=dR;have gi:=hr L (aC P);have eV:∀o,fq rv=some o->o<bs.size:=λo u=>(a7 o u).2.1;rcases g with rfl|rfl|rfl|rfl|rfl|rfl
    ·simp[N,J,c.g1,I,l,s,m];exact⟨_,_,_,show fZ q a d 6 e r=(a.pO e (λj=>{j with jg:=d}),0)by simp[fZ],c.pO rfl l P (λj=>{j with jg:=d}) an a7⟩
    ·simp[J,c.g1,I,l,s,m];exact⟨_,_,_,show fZ q a d 7 e r=(a.pO e (λj=>{j with jg:=-1}),0)by simp[fZ],c.pO rfl l P (λj=>{j with jg:=-1}) an a7⟩
    ·simp[N,J,c.g1,I,l,s,m];refine mf KJ G ⟨L.fO,[d],rv,.arr bs.size 0 0 1 false⟩ ⟨rfl,an.mono λo u=>by rw[fk,Z (by have:=eV o u;omega)],.inr (Gr.new (ep:=0) (ver:=0) (ex:=true) (es:=[C d]) G),dR,c.ok.cons _⟩ ?_;rintro R aE ⟨v,ab,eo⟩;have eW:Nb bs aE:=((Nb.refl c.ok).cons (X 1 0 [C d])).trans ab;have W:=c.nb eW;have b6:=(eW.get F bW).trans l;have et:=il (ab.get 1 (by have:=H.gh c.g1;simp;omega));simp only at v;rw[My (eE L (aC P))]at v;have er:∀o,fq R=some o->o<aE.size:=λo u=>by
      rcases v with rfl|g
      ·simp at u
      ·have⟨_,_,_,_,k,_⟩:=g.box u;exact H.gh k
     simp[I,b6,s,m,et,fG,v.jc.1,v.jc.2];exact⟨_,_,_,show fZ q a d 8 e r=(a.pO e (λj=>{j with fO:=m6 j.fO d}),0)by simp[fZ],W.pO rfl b6 P (λj=>{j with fO:=m6 j.fO d}) v λo u=>by
      have eU:=eo o u;simp at eU;have ec:=er o u;exact⟨B,ec,λD=>by simp at D;omega,λD=>by have:=(c.sy.b o (.inr (.inl D))).2;omega,λD=>by have:=(c.sy.b o (.inr (.inr D))).2;omega⟩⟩
    ·simp[N,J,c.g1,I,l,s,m];refine mf M2 G ⟨L.fO,rv,d⟩ ⟨rfl,an,eV,gi,c.ok⟩ ?_;rintro R aE ⟨v,ab,eo⟩;have W:=c.nb ab;have b6:=(ab.get F bW).trans l;have et:=il (ab.get 1 (H.gh c.g1));simp only at v;have er:∀o,fq R=some o->o<aE.size:=λo u=>by
      rcases v with rfl|g
      ·simp at u
      ·have⟨_,_,_,_,k,_⟩:=g.box u;exact H.gh k
     simp[I,b6,s,m,et,fG,v.jc.1,v.jc.2];exact⟨_,_,_,show fZ q a d 9 e r=(a.pO e (λj=>{j with fO:=j.fO.filter λR=> !decide (R=d)}),0)by simp[fZ],W.pO rfl b6 P (λj=>{j with fO:=j.fO.filter λR=> !decide (R=d)}) v λo u=>by
      have eU:=eo o u;have ec:=er o u;exact⟨B,ec,λD=>by simp at D;omega,λD=>by have:=(c.sy.b o (.inr (.inl D))).2;omega,λD=>by have:=(c.sy.b o (.inr (.inr D))).2;omega⟩⟩
    ·simp[N,J,c.g1,I,l,s,m];exact⟨_,_,_,show fZ q a d 10 e r=(a.pO e (λj=>{j with jg:=d}),0)by simp[fZ],c.pO rfl l P (λj=>{j with jg:=d}) an a7⟩
    ·simp[J,c.g1,I,l,s,m];exact⟨_,_,_,show fZ q a d 11 e r=(a.pO e (λj=>{j with jg:=-1}),0)by simp[fZ],c.pO rfl l P (λj=>{j with jg:=-1}) an a7⟩
   ·have K:=mZ b9 g;have⟨o,di,eH⟩:=jn K;have b8:=r7 eK di;rw[<-eX]at b8;have⟨L,P,fX⟩:=jn b8;have I:=fU (fQ.1 K).1;have e6:=fU (fQ.1 b8).1;obtain⟨D,dk,rv,rfl,an,a7⟩:=c.sy.el.get P;obtain⟨F,ep,a8,ex,bg,rfl,l,s,m⟩:=c.sy.g0.at dk;have⟨bi,ey,gB,fv,cX,w,bA,cL,ds⟩:=c.sy.g3.at (x:=me.t) (i:=d.toNat) (by simp[O]);rw[aI]at w ds;subst w;have bW:=H.gh l;have eF:=H.gh bA;have ed:(1=F)=False:=by have:=(c.sy.b F (.inl rfl)).1;simp;omega
    have gm:(1=bi)=False:=by have:=(c.sy.b bi (.inr (.inr rfl))).1;simp;omega
    have ef:(bi=F)=False:=by simp;rintro rfl;rw[l]at bA;simp at bA
    have eS:∀x,(cX.set d.toNat x)[d.toNat]? =some x:=λx=>by
     have:d.toNat<cX.length:=by
      rcases aT d.toNat cX.length with k|k
      ·exact k
      ·rw[bV k]at cL;simp at cL
     rw[cw];simp[this]
    have b7:∀A,(fJ bs F A).get bi=some ⟨3,ey,gB,fv,false,cX⟩:=λA=>by rw[eG l,Z (by simpa using ef)];exact bA
    have e4:=λA z=>oU (b7 A) (show 1≠bi by simpa using gm) z;have eu:=λ(f:fa->fa) (u:(f L).fO=L.fO)=>c.pO rfl l P f (rv:=rv) (by rw[u];exact an) a7;rcases g with rfl|rfl|rfl|rfl
    ·have c4:=(eu (λj=>{j with jg:=-1}) rfl).pf rfl (b7 _) O (λx=>{x with je:=3});have bN:=c4.pf (me:=(λx=>{x with je:=3}) me) rfl ((eG (b7 _) _ _).trans (au rfl)) (i:=d.toNat) (by simp[O]) (λx=>{x with cond:=e});simp only[Es,List.set_set]at bN;simp[N,J,eA,c.g1,I,e6,bH,di,l,bA,s,cL,m,ds,ou,c.ok.hp,bW,eF,ed,ef,eS,e4];exact⟨_,_,_,show fZ q a d 16 e r=((a.pO o.kU λj=>{j with jg:=-1}).pf d (λx=>{x with je:=3,cond:=e}),0)by simp[fZ,eH],bN⟩
    ·have c4:=(eu (λj=>{j with jg:=d}) rfl).pf rfl (b7 _) O (λx=>{x with je:=2});have bN:=c4.pf (me:=(λx=>{x with je:=2}) me) rfl ((eG (b7 _) _ _).trans (au rfl)) (i:=d.toNat) (by simp[O]) (λx=>{x with cond:=0});simp only[Es,List.set_set]at bN;simp[N,J,eA,c.g1,I,e6,bH,di,l,bA,s,cL,m,ds,ou,c.ok.hp,bW,eF,ed,ef,eS,e4];exact⟨_,_,_,show fZ q a d 17 e r=((a.pO o.kU λj=>{j with jg:=d}).pf d (λx=>{x with je:=2,cond:=0}),0)by simp[fZ,eH],bN⟩
    ·simp[J,c.g1];refine jB FA G ⟨a,_,_,_,e⟩ ⟨rfl,c.sy.g3,ht,c.ok⟩ ?_;rintro R aE ⟨v,ab,_⟩;simp only at v;have W:=c.nb ab;have ea:=EO e a.ee 0;have al:=λbp:H=>v.len (cx:=cx) bp pI _ rfl;rw[aI]at al;simp[al];refine fN (λa6=>?_) (λa6=>?_)
     ·have ca:0<(ji e a.ee 0).length:=by simpa using a6
      have⟨gw,cb,cd⟩:=v.idx (te:=Ek) rfl rfl (i:=0) (x:= C (ji e a.ee 0)[0]) (by simp[ca]) rfl;have fL:=v.rZ (f:=T.int .i64) (λ_=>by simp) (λ_=>rfl);have fl:=λ{tb:io} (ht:tb.p 12=some D2)=>RB ht (ji e a.ee 0) r B;have eL:(ji e a.ee 0).headD (-1)=(ji e a.ee 0)[0]:=by
       clear cb cd v al ea;generalize ji e a.ee 0=j at*
       cases j with
       |nil=>simp at ca
       |cons x j=>simp
      simp[eC,cb,cd,fL,fl];have Q:∃y:Nat,xW e r a.ee=y/\y<a.ee.length:=by
       have b8:xW e r a.ee∈ji e a.ee 0:=by
        unfold xW;split
        ·assumption
        ·rw[eL];exact aG ca
       have⟨y,D,ae⟩:=ww b8;exact⟨y,by simpa using D,ae⟩
      obtain⟨y,dv,ae⟩:=Q;refine lV (λE aN=>aN=aE/\Y E 17 (C y)/\Y E 7 (.fc 1 0 0 0)/\Y E 12 (.fc 2 0 0 0)) (λa6=>?_) (λa6=>?_) ?_
      ·simp[eC];rw[<-dv];unfold xW;rw[au (by simpa using a6)]
      ·simp;rw[<-dv,<-eL];unfold xW;rw[Z (by simpa using a6)]
      ·rintro E _ ⟨rfl,fW,aA,av⟩;have⟨U,Q⟩:∃U,a.ee[y]? =some U:=⟨_,aB ae⟩;have⟨fe,fo,gD,fA,gE,bX,bB,eb,gg⟩:=W.sy.g3.at (x:=U.t) (i:=y) (by simp[Q]);simp at bX;obtain⟨rfl,rfl⟩:=bX;simp[aA,av,fW,W.g1,bB,eb,ae];exact⟨_,_,_,show fZ q a d 18 e r=(a.pf y (kV 4),(y:Int))by
        rw[<-dv];unfold fZ;simp;intro u;rw[u]at ca;simp at ca,W.pf rfl bB Q (kV 4)⟩
     ·have gk:ji e a.ee 0=[]:=by
       have:¬0<(ji e a.ee 0).length:=by simpa using a6
       exact aZ B
      simp;exact⟨_,_,_,show fZ q a d 18 e r=(a,-1)by simp[fZ,gk],W⟩
    ·simp[J,c.g1];refine jB FA G ⟨a,_,_,_,e⟩ ⟨rfl,c.sy.g3,ht,c.ok⟩ ?_;rintro R aE ⟨v,ab,gz⟩;simp only at v;have W:=c.nb ab;have ea:=EO e a.ee 0;have al:=λbp:H=>v.len (cx:=cx) bp pI _ rfl;rw[aI]at al;have eP:∀x∈ji e a.ee 0,∃y:Nat,x=y/\y<a.ee.length:=λx s=>by
      have⟨y,D,ae⟩:=ww s;exact⟨y,by simpa using D,ae⟩
     have dd:=Xc e a.ee [];simp only[cQ,cV]at dd;have cF:∃j,j=ji e a.ee 0:=⟨_,rfl⟩;obtain⟨j,cF⟩:=cF;rw[<-cF]at v ea eP dd al;simp;refine ik j.length B (λi E h'=>Bs (.arr F ep 0 es.length false) c2 (.arr bi ey 0 a.ee.length false) h' es {a with ee:=Rc a.ee (j.take i)} 1/\qZ h' 1 R (iz j)/\Y E 7 (.fc 1 0 0 0)/\Y E 12 (.fc 2 0 0 0)/\Y E 18 R/\Y E 19 (C i)) ?_ ?_ B ⟨by simpa[Rc]using W,v,G⟩
     ·rintro i E h' m fY ⟨bn,eh,aA,av,c6,c7⟩;have⟨y,ae,eO⟩:=eP j[i] (aG m);have⟨U,Q⟩:∃U,(Rc a.ee (j.take i))[y]? =some U:=⟨_,aB (by rw[Xb];exact eO)⟩;have⟨fe,fo,gD,fA,gE,bX,bB,eb,gg⟩:=bn.sy.g3.at (x:=U.t) (i:=y) (by simp[Q]);simp at bX;obtain⟨rfl,rfl,_⟩:=bX;have⟨gw,cb,cd⟩:=eh.idx (te:=Ek) rfl rfl (i:=i) (x:= C y) (by simp[m,ae]) rfl;have fb:=bn.pf rfl bB Q (kV 4);simp[aA,av,c6,c7,al,m,cb,cd,bn.g1,bB,eb,eO,fY];refine⟨?_,eh.mono λo u=>by rw[eG bB,Z (by have:=gz o u;omega)]⟩;rw[Ud a.ee j m,ae];exact fb
     ·rintro E h' ⟨bn,eh,aA,av,c6,c7⟩;rw[aL]at bn;simp[aA,av,c6,c7,al];exact⟨_,_,_,show fZ q a d 19 e r=({a with ee:=Rc a.ee j},(j.length:Int))by rw[dd];simp[fZ,<-cF],bn⟩
   ·have K:=rR b9 g;rw[<-e0]at K;have⟨U,Q,gj⟩:=jn K;have I:=fU (fQ.1 K).1;rcases g with rfl|rfl
    ·have⟨F,ep,a8,ex,bg,w,l,s,m⟩:=c.sy.g3.at (x:=U.t) (i:=e.toNat) (by simp[Q]);rw[aI]at w m;subst w;simp[J,c.g1,I,l,s,m];exact⟨_,_,_,show fZ q a d 20 e r=(a.pf e (kV 1),0)by simp[fZ],c.pf rfl l Q (kV 1)⟩
    ·simp;exact⟨_,_,_,show fZ q a d 21 e r=(a,0)by simp[fZ],c⟩
   ·have K:=uv b9 g;rw[<-gy]at K;have⟨U,Q,gj⟩:=jn K;have I:=fU (fQ.1 K).1;rcases g with rfl|rfl
    ·have⟨F,ep,a8,ex,bg,w,l,s,m⟩:=c.sy.g2.at (x:= .ez U) (i:=e.toNat) (by simp[Q]);rw[aI]at w m;subst w;simp[J,c.g1,I,l,s,m];exact⟨_,_,_,show fZ q a d 22 e r=({a with done:=a.done.set e.toNat true},0)by simp[fZ],c.don rfl l e.toNat true⟩
    ·simp;exact⟨_,_,_,show fZ q a d 23 e r=(a,0)by simp[fZ],c⟩
  ·rintro E aN ⟨n,⟨S,fs,ver,gd,ap⟩,aA,av,fS⟩;have⟨gQ,gS,gV⟩:=ap.sy.fz;have fP:∀A,(fJ aN 2 A).get 2=some A:=λA=>(eG ap.g2 A _).trans (au rfl);have c1:∀A,Eh 3 aN.size (fJ aN 2 A) c0 c2 c3 fs S:=λA=>ap.sy.mono (ax _) λo u _=>by rw[eG ap.g2,Z B]
   have fB:=λA=>(c1 A).fz.1;have fC:=λA=>(c1 A).fz.2.1;have fE:=λA=>(c1 A).fz.2.2;simp[aA,av,fS,ap.g1,ap.g2,fP,fG,fB,fC,fE,gd,ap.ok.hp]
end
def pj:iK:=⟨fy×gH×fR,λa=>[a.1.t,a.2.1.t,a.2.2.t],λa=>a.1.iL.length<=1000000/\u5 100000 a.2.1/\a.2.2.nQ.length<=1000000/\a.2.2.wm.length<=1000000,λa=> .tuple [(kz a.1 a.2.1 a.2.2).1.t,.ez (kz a.1 a.2.1 a.2.2).2],λa c b=>by
 simp at b;rw[fy.inj b.1,gH.inj b.2.1,fR.inj b.2.2]⟩
def mW{c:fy}{b:gH}{a:fR}(d:rO c b a=false):kz c b a=(v8,false):=by unfold kz;rw[d];rfl
def L5{g:io}(ht:g.p 53=some tM)(b:fy)(a:gY)(e c d f:Int)(i:b.iL.length<=1099511627776)(k:Qt a)(j:iV b a e c d=true):rl prog cx g 53 [b.t,a.t,C e,C c,C d,C f]=some (.tuple [(fZ b a e c d f).1.t,C (fZ b a e c d f).2,.ez true]):=by
 have:=iN ht H6 (b,a,e,c,d,f) ⟨i,k⟩;have h:tM.R (b,a,e,c,d,f)= .tuple [(fZ b a e c d f).1.t,C (fZ b a e c d f).2,.ez true]:=by show A8 _=_;unfold A8;rw[au j]
 rw[h]at this;exact this
def Tz:pj.Ok prog cx 82:=by
 refine iF [(84,zr),(121,KA),(34,nV),(122,yz),(123,wB),(53,tM)] (jF 6434029281764525972148499167221040878727244754944919609542655 [(15,[(3,4),(3,6),(3,8),(7,8),(3,10),(7,10),(3,13),(7,13),(11,13)])] func82) (λ_=>100) (by simp[pj]) ?_;rintro⟨e,d,b⟩ ⟨fB,av,fL,fP⟩ j eE;simp at fB av fL fP;simp[pj]at eE|-;obtain⟨fs,fv,fA⟩:=eE;have⟨l1,l2,l3,l4,l5,l6⟩:=av.l;have fY:d.gu.sm:=⟨B,B,B,λf q=>by have:=av.r f q;omega⟩;have eH:e.iL.length<=1099511627776:=B;have gd:Qt d.gu:=⟨B,B,B,λf q=>by have:=av.r f q;omega,av.a⟩;have h:rO e d b=(oc e d&&ju b.eJ e.ee.length&&(decide (1<=b.fh)&&decide (b.fh<=23))&&iV e d.gu b.eJ b.fh b.obj&&vn e b&&Ps e b&&Pj b&&AP (d.count.getD b.eJ.toNat 0) none b.nQ&&AP (d.count.getD b.eJ.toNat 0) none b.wm&&p7 d b):=rfl;simp[f82,fs,fv,fA,JQ,Vb,xN,eH,fY];have ae:T.eZ [sl [],C 0,sl [],sl [],sl [],sl [],sl []]=v8.t:=rfl;refine fN (λg=>?_) (λg=>?_)
 ·have:rO e d b=false:=by
   rw[h];simp only[cu,cq,aM]at g;rcases g with(((q|q)|q)|q)|q
   ·rw[q];simp
   ·rw[q];simp
   ·rw[aS (show¬1<=b.fh by omega)];simp
   ·rw[aS (show¬b.fh<=23 by omega)];simp
   ·rw[q];simp
  simp[mW this];exact ae
 simp only[cT,c8,cv]at g;obtain⟨⟨⟨⟨ey,eA⟩,gF⟩,gI⟩,bT⟩:=g;rw[ey,eA,bT,bM (show 1<=b.fh by omega),bM (show b.fh<=23 by omega)]at h;simp only[bm]at h;have bW:=bT;unfold iV at bW;simp only[az]at bW;obtain⟨⟨⟨gP,_⟩,o⟩,_⟩:=bW;have b6:=ey;unfold oc at b6;simp only[az,aM]at b6;obtain⟨⟨⟨_,eC⟩,eD⟩,fo⟩:=b6;have a8:=eA;rw[<-fo]at a8;have⟨z,an,gM⟩:=jn a8;have gD:=fU (fQ.1 a8).1;have fS:d.count.getD b.eJ.toNat 0=z:=by simp[List.getD,an]
 rw[fS]at h;simp;generalize P:(((hE.cons _).cons _).cons _).cons _=w;have S:iQ 0 w:=by rw[<-P];exact⟨G,G,G⟩
 have e4:w.size=4:=by rw[<-P];rfl
 have bp:w.get 0=some (X 6 0 [e.t]):=by rw[<-P];simp
 have bC:w.get 1=some (X 7 0 [d.t]):=by rw[<-P];simp
 have L:w.get 2=some (X 7 0 [b.t]):=by rw[<-P];simp
 have E:w.get 3=some (X 7 0 [.eZ [dV,C 0,dV,dV,dV,dV,dV]]):=by rw[<-P];simp
 clear P;have al:∀y,(fJ w 3 y).get 3=some y:=λy=>(eG E y _).trans (au rfl);refine lV (λj u=>w=u/\vn e b=true/\Y j 3 (.fc 0 0 0 0)/\Y j 4 (.fc 1 0 0 0)/\Y j 5 (.fc 2 0 0 0)/\Y j 6 (.fc 3 0 0 0)) (λg=>?_) (λg=>?_) ?_
 ·have ap:b.fh=1\/b.fh=2:=by simpa using g
  simp[L];refine fN (λi=>?_) (λi=>?_)
  ·have:rO e d b=false:=by
    rw[h];unfold vn;rw[au ap,aS (by simpa using i)];simp
   simp[E,al,fG,mW this,S.hp];exact ae
  ·simp;unfold vn;rw[au ap,bM (by simpa using i)]
 ·have ap:¬(b.fh=1\/b.fh=2):=by simpa using g
  cases D:ju b.jY e.jy.length with
  |false=>
   have:rO e d b=false:=by
    rw[h];unfold vn;rw[Z ap,pF D];simp
   simp[bp,L,Vb,D,E,al,fG,mW this,S.hp];exact ae
  |true=>
   have⟨x,gi,eM⟩:=jn D;simp[bp,L,Vb,D,gi,fU (fQ.1 D).1];refine fN (λi=>?_) (λi=>?_)
   ·have:rO e d b=false:=by
     rw[h];unfold vn;rw[Z ap,eM];simp only;rw[aS (by simpa using i)];simp
    simp[E,al,fG,mW this,S.hp];exact ae
   ·simp;unfold vn;rw[Z ap,eM];simp only;rw[bM (by simpa using i)]
 ·rintro j _ ⟨rfl,fX,O,I,v,A⟩;rw[fX,bm]at h;have gm:((decide (b.fh=3)||decide (b.fh=4))=false/\True/\True/\(b.fh=3\/b.fh=4->∃n,e.cells[b.obj.toNat]? =some n)/\∃x:iY,x=x/\True)\/((decide (b.fh=3)||decide (b.fh=4))=true/\lJ b.obj=some b.obj.toNat/\ju b.obj e.cells.length=true/\True/\∃n,e.cells[b.obj.toNat]? =some n/\sizeOf e b.obj=n.size):=by
   cases q:(decide (b.fh=3)||decide (b.fh=4))
   ·simp at q;exact .inl ⟨rfl,trivial,trivial,λk=>(k.elim q.1 q.2).elim,default,rfl,trivial⟩
   ·simp at q;have D:ju b.obj e.cells.length=true:=by
     unfold j8 at o;rw[Z B,au q]at o;exact o
    have⟨n,fC,fE⟩:=jn D;exact .inr ⟨rfl,fU (fQ.1 D).1,D,trivial,n,fC,by simp[sizeOf,fE]⟩
  have bu:Ps e b=(decide (b.nQ=[])||decide (b.fh=5)||((decide (b.fh=3)||decide (b.fh=4))&& !decide (sizeOf e b.obj=0))):=rfl;have cb:decide (0<b.nQ.length)= !decide (b.nQ=[]):=by cases b.nQ<;>simp
  have cd:decide (0<b.wm.length)= !decide (b.wm=[]):=by cases b.wm<;>simp
  have cp:Pj b=(decide (b.wm=[])||decide (b.fh=4)||decide (b.fh=22)):=rfl;have e6:b.fh=3->ju b.obj d.cells.length=true:=λk=>by
   rw[eC];unfold j8 at o;rw[Z B,au B]at o;exact o
  have e5:b.fh=23->ju b.obj d.fH.length=true:=λk=>by
   rw[eD];exact uv o (.inr k)
  rcases gm with⟨c1,eN,gj,gk,e7,eO,dd⟩|⟨c1,eN,gj,gk,e7,eO,dd⟩
  all_goals
   simp[O,v,bp,L,c1,eN,eO];rw[c1]at bu;refine fN (λg=>?_) (λg=>?_)
   ·have:rO e d b=false:=by
     rw[h,bu];simp[cb]at g;simp[g,dd]
    simp[A,E,al,fG,mW this,S.hp];exact ae
   have eI:Ps e b=true:=by
    rw[bu];cases U:decide (b.nQ=[])<;>cases s:decide (b.fh=5)<;>simp[cb,U,s,dd]at g|-
    all_goals exact g
   rw[eI,bm]at h;simp[v,L];refine fN (λi=>?_) (λi=>?_)
   ·have:rO e d b=false:=by
     rw[h,cp];simp[cd]at i;simp[i]
    simp[A,E,al,fG,mW this,S.hp];exact ae
   have eK:Pj b=true:=by
    rw[cp];cases U:decide (b.wm=[])<;>cases s:decide (b.fh=4)<;>simp[cd,U,s]at i|-
    all_goals exact i
   rw[eK,bm]at h;have fl:=λ{dn:io} (ht:dn.p 123=some wB)=>U0 ht d b B e6 e5;simp[I,v,bC,L,gD,an,U5,fl,show b.nQ.length<=1099511627776 by omega,show b.wm.length<=1099511627776 by omega];refine fN (λbA=>?_) (λbA=>?_)
   ·have:rO e d b=false:=by
     rw[h];cases U:AP z none b.nQ<;>cases s:AP z none b.wm<;>cases dm:p7 d b<;>simp[U,s,dm]at bA|-
    simp[A,E,al,fG,mW this,S.hp];exact ae
   have fW:rO e d b=true:=by
    rw[h];cases U:AP z none b.nQ<;>cases s:AP z none b.wm<;>cases dm:p7 d b<;>simp[U,s,dm]at bA|-
   clear g i bA h bu cp cb cd eI eK;have gg:kz e d b=(li e d b,true):=by unfold kz;rw[au fW]
   rw[gg];have⟨fe,bi,bH,⟨gQ,gX,gA⟩,ec,aA,eU⟩:=lA (cx:=cx) (sz:=1) S (x:=sl (d.cells.map (T.int .i64))) (xs:=d.cells.map (T.int .i64)) qT rfl Av qT rfl rfl G G (by simp[T.cells]) dR;have⟨ff,bn,bN,⟨gS,gZ,eB⟩,ed,R,okB⟩:=lA (cx:=cx) (sz:=1) eU (x:=sl (d.fH.map (T.int .i64))) (xs:=d.fH.map (T.int .i64)) qT rfl Av qT rfl rfl G G (by simp[T.cells]) dR;have⟨fi,ab,bS,⟨gV,ha,gC⟩,ef,J,eV⟩:=lA (cx:=cx) (sz:=1) okB (x:=sl (d.count.map (T.int .i64))) (xs:=d.count.map (T.int .i64)) kO rfl nP kO rfl rfl G G (by simp[T.cells]) dR;replace ec:bi.size=5:=B;replace ed:bn.size=6:=B;replace ef:ab.size=7:=B;simp only[e4,ec,ed,aI]at bH bN bS gA eB gC;have eX:gU (w.cons (X 1 0 [])) bi 1=true:=il ((aA 1 B).trans (by rw[fk,Z B]));have e0:gU (bi.cons (X 1 0 [])) bn 1=true:=il ((R 1 B).trans (by rw[fk,Z B]));have gB:gU (bn.cons (X 1 0 [])) ab 1=true:=il ((J 1 B).trans (by rw[fk,Z B]));have er:=(aA 1 B).trans bC;have et:=(R 1 B).trans er;have e8:=(J 1 B).trans et;have eS:∀m,5<=m->gU (w.cons (X 1 0 [])) bi m=true:=λm eF=>jL (mP _ dR);have eP:∀m,6<=m->gU (bi.cons (X 1 0 [])) bn m=true:=λm eF=>jL (mP _ dR);have eR:∀m,7<=m->gU (bn.cons (X 1 0 [])) ab m=true:=λm eF=>jL (mP _ dR);have gv:ab.low<=7:=by have:=eV.low;omega
   simp[I,v,e4,ec,ed,ef,bC,bH,bN,bS,er,et,eX,e0,eS,eP,eR,gv];have gw:=(J 4 B).trans ((R 4 B).trans gA);have gy:=(J 5 B).trans eB;have e9:=(J 0 B).trans ((R 0 B).trans ((aA 0 B).trans bp));have eu:=(J 2 B).trans ((R 2 B).trans ((aA 2 B).trans L));have fb:=(J 3 B).trans ((R 3 B).trans ((aA 3 B).trans E));have b9:=λ{dn:io} (ht:dn.p 53=some tM)=>L5 ht e d.gu b.eJ b.fh b.obj (mr b) eH gd bT;have gE:=av.c z (aC an);clear bH bN bS aA R J eX e0 gB eS eP eR eU okB;generalize a6:ab.cons _=aX;have gz:iQ 0 aX:=by rw[<-a6];exact eV.cons _
   have eh:aX.size=8:=by rw[<-a6];show ab.size+1=8;omega
   have N:∀n,n<7->aX.get n=ab.get n:=λn q=>by rw[<-a6,fk,Z B]
   have cX:=(N 0 B).trans e9;have c4:=(N 1 B).trans e8;have bB:=(N 2 B).trans eu;have c6:=(N 3 B).trans fb;have c7:=(N 4 B).trans gw;have c9:=(N 5 B).trans gy;have de:=(N 6 B).trans gC;have di:aX.get 7=some (X 7 1 [.eZ [dV,C 0,dV,dV,.arr 4 fe 0 d.cells.length false,.arr 5 ff 0 d.fH.length false,.arr 6 fi 0 d.count.length false]]):=by rw[<-a6,fk,au ef.symm]
   clear a6;simp[eu];refine lV (λj u=>aX=u/\Y j 3 (.fc 0 0 0 0)/\Y j 4 (.fc 1 0 0 0)/\Y j 5 (.fc 2 0 0 0)/\Y j 6 (.fc 3 0 0 0)/\Y j 9 (.fc 7 0 0 0)/\Y j 10 (C (mr b))) (λg=>?_) (λg=>?_) ?_
   ·simp[O,I,v,A,bB];unfold mr;rw[au (by simpa using g)]
   ·simp[O,I,v,A];unfold mr;rw[Z (by simpa using g)]
   rintro j _ ⟨rfl,O,I,v,A,b8,b7⟩;have dk:binop .add (C z) (C 1)=some (C (z+1)):=jp B B;have ea:=fU (fQ.1 a8).1;have a7:=(fQ.1 a8).2;have eL:li e d b=⟨(fZ e d.gu b.eJ b.fh b.obj (mr b)).1,if b.fh=4 then d.cells.set b.obj.toNat b.value else d.cells,if b.fh=22 then d.fH.set b.obj.toNat b.value else d.fH,d.count.modify b.eJ.toNat (· +1)⟩:=rfl;rw[qh an]at eL;have gn:(b.fh=4/\ju b.obj d.cells.length=true)\/(b.fh=22/\ju b.obj d.fH.length=true)\/(¬b.fh=4/\¬b.fh=22):=by
    by_cases q:b.fh=4
    ·refine .inl ⟨q,?_⟩;rw[eC];unfold j8 at o;rw[Z B,au B]at o;exact o
    ·by_cases s:b.fh=22
     ·refine .inr (.inl ⟨s,?_⟩);rw[eD];exact uv o (.inl s)
     ·exact .inr (.inr ⟨q,s⟩)
   have cL:=gz.hp;have bs:∀(f:List Int) (u:H),iH (Ae u 11) (f.map (T.int .i64))=some (f.map (T.int .i64)):=λf u=>K8 _ _ _ λ_=>rfl;have bX:∀(f:List Int) (u:H) (Q:Nat) (W:Int),iH (Ae u 11) ((f.map (T.int .i64)).set Q (C W))=some ((f.map (T.int .i64)).set Q (C W)):=λf u Q W=>by rw[<-aW];exact bs _ u
   have ds:∀(f:List Int),(f.map (T.int .i64)).take f.length=f.map (T.int .i64):=λf=>by rw[bQ G]
   have dv:∀(f:List Int) (Q:Nat) (W:T),((f.map (T.int .i64)).set Q W).take f.length=(f.map (T.int .i64)).set Q W:=λf Q W=>by rw[bQ G]
   have ca:d.count[b.eJ.toNat]'a7=z:=by rw[aB a7]at an;simpa using an
   have fin:∀(eo F K:List Int),T.eZ [sl ((fZ e d.gu b.eJ b.fh b.obj (mr b)).1.fI.map fa.t),C (fZ e d.gu b.eJ b.fh b.obj (mr b)).1.tx,sl ((fZ e d.gu b.eJ b.fh b.obj (mr b)).1.done.map T.ez),sl ((fZ e d.gu b.eJ b.fh b.obj (mr b)).1.ee.map ei.t),sl (eo.map (T.int .i64)),sl (F.map (T.int .i64)),sl (K.map (T.int .i64))]=gH.t ⟨(fZ e d.gu b.eJ b.fh b.obj (mr b)).1,eo,F,K⟩:=λ_ _ _=>rfl;rw[eL];rcases gn with⟨q,bg⟩|⟨q,bg⟩|⟨q,eW⟩
   ·have eb:=fU (fQ.1 bg).1;have cF:=(fQ.1 bg).2;have aE:decide (b.fh=22)=false:=aS B;have aN:decide (b.fh=4)=true:=bM q;rw[au q,Z B,<-fin];simp[O,I,v,A,b8,b7,cX,c4,bB,c6,c7,c9,de,di,b9,fG,ou,cL,eh,ea,a7,ca,dk,xE,iR,bs,aN,aE,eb,cF,bX,ds,dv]
   ·have eb:=fU (fQ.1 bg).1;have cF:=(fQ.1 bg).2;have aE:decide (b.fh=22)=true:=bM q;have aN:decide (b.fh=4)=false:=aS B;rw[Z B,au q,<-fin];simp[O,I,v,A,b8,b7,cX,c4,bB,c6,c7,c9,de,di,b9,fG,ou,cL,eh,ea,a7,ca,dk,xE,iR,bs,aN,aE,eb,cF,bX,ds,dv]
   ·have aE:decide (b.fh=22)=false:=aS eW;have aN:decide (b.fh=4)=false:=aS q;rw[Z q,Z eW,<-fin];simp[O,I,v,A,b8,b7,cX,c4,bB,c6,c7,c9,de,di,b9,fG,ou,cL,eh,ea,a7,ca,dk,xE,iR,bs,aN,aE,bX,ds,dv]
def EB{d:io}(ht:d.p 82=some pj)(c:fy)(b:gH)(a:fR)(e:c.iL.length<=1000000)(f:u5 100000 b)(g:a.nQ.length<=1000000)(h:a.wm.length<=1000000):rl prog cx d 82 [c.t,b.t,a.t]=some (.tuple [(kz c b a).1.t,.ez (kz c b a).2]):=iN ht Tz (c,b,a) ⟨e,f,g,h⟩
end
end
noncomputable section
open Go Go.TI Tryz
section
attribute [-simp] List.map_take List.map_drop List.map_append
def Ny(a b:Int):Bool:=decide (0<=a/\a<b)
@[simp]def afb (a:Int) (b:Nat):Ny a (b:Int)=ju a b:=id rfl
def Uw{a b:Int}:Ny a b=true↔0<=a/\a<b:=by unfold Ny;simp
def rIn(d:Unit):iK:=⟨Int×Int,λa=>[C a.1,C a.2],λa=>True,λa=> .ez (Ny a.1 a.2),λa c b=>by simp at b;rw[b.1,b.2]⟩
def aaC:(rIn ()).Ok prog cx 167:=by
 refine iF [] (jF 19 [] func167) (λf=>1) (by simp[rIn]) ?_;rintro⟨e,g⟩ _ h a;simp[rIn]at a|-;obtain⟨b,c⟩:=a;by_cases d:0<=e<;>simp[f167,b,c,d,Ny]
def x7{c:io}(ht:c.p 167=some (rIn ()))(a b:Int):rl prog cx c 167 [C a,C b]=some (.ez (Ny a b)):=iN ht aaC (a,b) trivial
def zl:iK:=⟨Int,λa=>[C a],λa=>True,λa=> .ez (zd a),λa c b=>by simp at b;rw[b]⟩
def M4:zl.Ok prog cx 210:=by
 refine iF [] (jF 5 [] func210) (λd=>1) (by simp[zl]) ?_;rintro(c:Int) _ e a;simp[zl]at a|-;by_cases b:1<=c<;>simp[f210,a,b,zd]
def zO{b:io}(ht:b.p 210=some zl)(a:Int):rl prog cx b 210 [C a]=some (.ez (zd a)):=iN ht M4 a trivial
def zq:iK:=⟨Nat,λa=>[.int .u8 a],λa=>True,λa=> .ez (xy a),λa b c=>by simp at c;rw[show a=b by omega]⟩
def Fc:iK:=⟨Nat,λa=>[.int .u8 a],λa=>True,λa=> .ez (Gw a),λa b c=>by simp at c;rw[show a=b by omega]⟩
def E9:iK:=⟨Nat,λa=>[.int .u8 a],λa=>True,λa=> .ez (yP a),λa b c=>by simp at c;rw[show a=b by omega]⟩
def TQ:zq.Ok prog cx 162:=by
 refine iF [] (jF 5 [] func162) (λg=>1) (by simp[zq]) ?_;rintro(a:Nat) _ h b;simp[zq]at b|-;by_cases c:97<=a<;>by_cases d:a<=122<;>by_cases e:65<=a<;>by_cases f:a<=90<;>simp[f162,b,xy,c,d,e,f,show(97:Int)<=(a:Int)↔97<=a by omega,show(a:Int)<=122↔a<=122 by omega,show(65:Int)<=(a:Int)↔65<=a by omega,show(a:Int)<=90↔a<=90 by omega]
def ED{b:io}(ht:b.p 162=some zq)(a:Nat):rl prog cx b 162 [.int .u8 a]=some (.ez (xy a)):=iN ht TQ a trivial
def WS:Fc.Ok prog cx 208:=by
 refine iF [] (jF 5 [] func208) (λe=>1) (by simp[Fc]) ?_;rintro(a:Nat) _ f b;simp[Fc]at b|-;by_cases c:48<=a<;>by_cases d:a<=57<;>simp[f208,b,Gw,c,d,show(48:Int)<=(a:Int)↔48<=a by omega,show(a:Int)<=57↔a<=57 by omega]
def abI{b:io}(ht:b.p 208=some Fc)(a:Nat):rl prog cx b 208 [.int .u8 a]=some (.ez (Gw a)):=iN ht WS a trivial
def WN:E9.Ok prog cx 164:=by
 refine iF [(162,zq),(208,Fc)] (jF 5 [] func164) (λe=>1) (by simp[E9]) ?_;rintro(a:Nat) _ f b;simp[E9]at b|-;cases c:xy a<;>cases d:Gw a<;>simp[f164,b,yP,ED,abI,c,d,show(a:Int)=95↔a=95 by omega]
def U9{b:io}(ht:b.p 164=some E9)(a:Nat):rl prog cx b 164 [.int .u8 a]=some (.ez (yP a)):=iN ht WN a trivial
def yB:iK:=⟨fy×Int×Int,λa=>[a.1.t,C a.2.1,C a.2.2],λa=>True,λa=> .ez (Dj a.1 a.2.1 a.2.2),λa c b=>by simp at b;rw[fy.inj b.1,b.2.1,b.2.2]⟩
def Q9:yB.Ok prog cx 209:=by
 refine iF [(167,rIn ())] (jF 79 [] func209) (λl=>1) (by simp[yB]) ?_;rintro⟨k,h,m⟩ _ n c;simp[yB]at c|-;obtain⟨a,b,e⟩:=c;cases hl:ju h k.cells.length with
 |true=>
  have⟨d,f,g⟩:=jn hl;by_cases i:d.index=0<;>by_cases j:d.size=0<;>simp[f209,a,b,e,x7,hl,f,g,Dj,fU (fQ.1 hl).1,i,j]
 |false=>simp[f209,a,b,x7,hl,pF hl,Dj]
def Ve{d:io}(ht:d.p 209=some yB)(c:fy)(a b:Int):rl prog cx d 209 [c.t,C a,C b]=some (.ez (Dj c a b)):=iN ht Q9 (c,a,b) trivial
def qd:iK:=⟨iE,λa=>[a.t],λa=>True,λa=>sl ((jP a).map (T.int .i64)),λa c b=>by simp at b;rw[iE.inj b]⟩
def Hi:qd.Ok prog cx 115:=by
 refine iF [] (jF 8934607822903 [] func115) (λc=>1) (by simp[qd]) ?_;rintro⟨a,c,o,p,q,r⟩ _ s b;simp[qd]at b|-;rcases(by omega:a=1\/a=6\/a=10\/a=27\/a=2\/a=3\/a=4\/a=7\/a=8\/a=26\/a=9\/(¬a=1/\¬a=6/\¬a=10/\¬a=27/\¬a=2/\¬a=3/\¬a=4/\¬a=7/\¬a=8/\¬a=26/\¬a=9))with rfl|rfl|rfl|rfl|rfl|rfl|rfl|rfl|rfl|rfl|rfl|⟨d,g,h,i,j,k,l,m,n,e,f⟩
 rotate_right
 ·simp[f115,b,jP,d,g,h,i,j,k,l,m,n,e,f]
 all_goals simp [f115,b,jP,iR,sl]
def xL{b:io}(ht:b.p 115=some qd)(a:iE):rl prog cx b 115 [a.t]=some (sl ((jP a).map (T.int .i64))):=iN ht Hi a trivial
def yy:iK:=⟨fy×iE,λa=>[a.1.t,a.2.t],λa=>True,λa=> .ez (om a.1 a.2),λa c b=>by simp at b;rw[fy.inj b.1,iE.inj b.2]⟩
def Q0:yy.Ok prog cx 165:=by
 refine iF [(167,rIn ()),(209,yB)] (jF 11161304336780981658631819976322344575566047 [] func165) (λf=>1) (by simp[yy]) ?_;rintro⟨h,⟨a,f,l,I,j,J⟩⟩ _ K i;simp[yy]at i|-;obtain⟨b,c⟩:=i;rcases(by omega:a=3\/a=4\/a=7\/a=9\/a=21\/a=22\/a=23\/a=24\/a=25\/a=26\/a=27\/a=6\/a=8\/a=11\/a=12\/a=13\/a=14\/a=15\/a=16\/(¬a=3/\¬a=4/\¬a=6/\¬a=8/\¬a=7/\¬a=9/\¬a=11/\¬a=12/\¬a=13/\¬a=14/\¬a=15/\¬a=16/\¬a=21/\¬a=22/\¬a=23/\¬a=24/\¬a=25/\¬a=26/\¬a=27))with rfl|rfl|rfl|rfl|rfl|rfl|rfl|rfl|rfl|rfl|rfl|rfl|rfl|rfl|rfl|rfl|rfl|rfl|rfl|⟨m,x,A,D,E,F,H,n,o,p,q,r,s,t,u,v,w,y,z⟩
 rotate_right
 ·simp[f165,b,c,om,m,x,A,D,E,F,H,n,o,p,q,r,s,t,u,v,w,y,z]
 ·by_cases g:j=4<;>simp[f165,b,c,om,g]
 ·by_cases g:6<=j<;>simp[f165,b,c,om,g]
 iterate 9 ·simp[f165,b,c,om,x7,Ve]
 ·cases hl:ju l h.cells.length with
  |true=>
   have⟨k,d,e⟩:=jn hl;simp[f165,b,c,om,x7,hl,d,e,ze,fU (fQ.1 hl).1]
  |false=>simp[f165,b,c,om,x7,hl,pF hl,ze]
 ·cases hl:ju f h.cells.length with
  |true=>
   have⟨k,d,e⟩:=jn hl;simp[f165,b,c,om,x7,hl,d,e,ze,fU (fQ.1 hl).1]
  |false=>simp[f165,b,c,om,x7,hl,pF hl,ze]
 all_goals
  cases hl:ju f h.fI.length with
  |true=>
   have⟨k,d,e⟩:=jn hl;simp[f165,b,c,om,x7,hl,d,e,tg,fU (fQ.1 hl).1]
  |false=>simp[f165,b,c,om,x7,hl,pF hl,tg]
def U4{c:io}(ht:c.p 165=some yy)(b:fy)(a:iE):rl prog cx c 165 [b.t,a.t]=some (.ez (om b a)):=iN ht Q0 (b,a) trivial
def uZ:List (List Nat)->List Nat->Nat->Int
 | [],_,_=>-1
 |x::c,b,a=>if x=b then(a:Int)else uZ c b (a+1)
def JW:∀(a:List (List Nat)) (b:List Nat) (d:Nat),(0<=uZ a b d)=(b∈a):=by
 intro a;induction a with
 |nil=>intro b d;simp[uZ]
 |cons g a f=>
  intro b d;rw[uZ];by_cases c:g=b
  ·subst c;simp
  ·rw[Z c,f];simp;intro e;exact absurd e.symm c
def Fg:iK:=⟨List (List Nat)×List Nat,λa=>[sl (a.1.map T.str),.str a.2],λa=>a.1.length<=1099511627776,λa=> C (uZ a.1 a.2 0),λa c b=>by
 simp at b;rw[jV G b.1,b.2]⟩
def ah4:Fg.Ok prog cx 126:=by
 refine iF [] (jF 131635 [] func126) (λm=>m.1.length+1) (by simp[Fg]) ?_;rintro⟨f,i⟩ hl c l;simp[Fg]at hl l|-;obtain⟨b,d⟩:=l;simp[f126];refine ik f.length B (λe c j=>j=hE/\Y c 0 (sl (f.map T.str))/\Y c 1 (.str i)/\Y c 5 (C e)/\uZ (f.drop e) i e=uZ f i 0) ?_ ?_ B (by simp[b,d])
 ·rintro e c j k n ⟨rfl,b,d,g,a⟩;rw[aJ k,uZ]at a;by_cases h:f[e]=i
  ·rw[au h]at a;simp[b,d,g,k,h,<-a]
  ·rw[Z h]at a;simp[b,d,g,k,h,n,a]
 ·rintro c j ⟨rfl,b,d,g,a⟩;simp[uZ]at a;simp[b,g,<-a]
def RW{c:io}(ht:c.p 126=some Fg)(a:List (List Nat))(b:List Nat)(hl:a.length<=1099511627776):rl prog cx c 126 [sl (a.map T.str),.str b]=some (C (uZ a b 0)):=iN ht ah4 (a,b) hl
def wF:iK:=⟨Unit,λa=>[],λa=>True,λa=>sl (pz.map T.str),λa b c=>rfl⟩
def M5:wF.Ok prog cx 207:=by
 refine iF [] (jF 1 [] func207) (λb=>1) (by simp[wF]) ?_;rintro _ _ c a;simp[wF]at a|-;simp[f207,iR];rfl
def RA{a:io}(ht:a.p 207=some wF):rl prog cx a 207 []=some (sl (pz.map T.str)):=iN ht M5 () trivial
def Ut:pz.length=22:=rfl
def yA:iK:=⟨List Nat,λa=>[.str a],λa=>True,λa=> .ez (wN a),λa c b=>by simp at b;rw[b]⟩
def KQ:yA.Ok prog cx 163:=by
 refine iF [(207,wF)] (jF 131613 [] func163) (λn=>23) (by simp[yA]) ?_;rintro(g:List Nat) _ b k;simp[yA]at k|-;simp[f163,RA];refine ik pz.length (by rw[Ut];omega) (λf b h=>h=hE/\Y b 0 (.str g)/\Y b 3 (sl (pz.map T.str))/\Y b 4 (C f)/\(g∈pz.drop f↔g∈pz)) ?_ ?_ (by rw[Ut];omega) (by simp[k])
 ·rintro f b h j l ⟨rfl,i,c,d,a⟩;have m:=aJ j;rw[m]at a;by_cases e:pz[f]=g
  ·simp[i,c,d,j,e,wN];rw[<-a,e];simp
  ·simp[i,c,d,j,e,l];refine⟨λh=>a.1 (List.mem_cons_of_mem _ h),λh=>?_⟩;rcases List.mem_cons.1 (a.2 h)with h|h
   ·exact absurd h.symm e
   ·exact h
 ·rintro b h ⟨rfl,i,c,d,a⟩;simp[c,d,wN];simpa using a
def GH{b:io}(ht:b.p 163=some yA)(a:List Nat):rl prog cx b 163 [.str a]=some (.ez (wN a)):=iN ht KQ a trivial
def Bz:iK:=⟨List Nat,λa=>[.str a],λa=>True,λa=> .ez (wK a),λa c b=>by simp at b;rw[b]⟩
def TM:Bz.Ok prog cx 125:=by
 refine iF [(163,yA),(162,zq),(164,E9)] (jF 4330618893 [] func125) (λv=>13) (by simp[Bz]) ?_;rintro(a:List Nat) _ f d;simp[Bz]at d|-;cases a with
 |nil=>simp[f125,d,wK]
 |cons b a=>
  have h:¬(a.length:Int)+1<1:=B;by_cases w:a.length+1<=12
  ·have e:¬(12:Int)<(a.length:Int)+1:=B;cases j:xy b with
   |false=>simp[f125,d,h,e,j,ED,wK,Pf]
   |true=>
    cases o:wN (b::a)with
    |true=>simp[f125,d,h,e,j,o,ED,GH,wK,Pf]
    |false=>
     have q:wK (b::a)=(b::a).all yP:=by simp[wK,o,Pf,j];intro _ _;omega
     have⟨m,s⟩:∃m,m=(b::a).all yP:=⟨_,rfl⟩;rw[q,<-s];simp[f125,d,h,e,j,o,ED,GH];refine ik (b::a).length dR (λl f n=>n=hE/\Y f 0 (.str (b::a))/\Y f 3 (C l)/\((b::a).drop l).all yP=m) ?_ ?_ dR (by rw[s];simp[d])
     ·rintro l f n p u ⟨rfl,g,i,c⟩;rw[aJ p,cA]at c;generalize t:(b::a)=r at*
      cases k:yP r[l]with
      |true=>rw[k,bm]at c;simp[g,i,p,u,U9,k,c]
      |false=>rw[k,dz]at c;simp[g,i,p,U9,k,<-c]
     ·rintro f n ⟨rfl,g,i,c⟩;generalize t:(b::a)=r at*
      rw[bR]at c;simp[g,i,<-c]
  ·have e:(12:Int)<(a.length:Int)+1:=B;have q:wK (b::a)=false:=by simp[wK];omega
   simp[f125,d,h,e,q]
def sJ{b:io}(ht:b.p 125=some Bz)(a:List Nat):rl prog cx b 125 [.str a]=some (.ez (wK a)):=iN ht TM a trivial
