/- W08d -/
import Derived.Test.YtajpdafdickapaaGreatDoorA9
import Derived.Test.YtajpdafdickapaaGreatDoorA10
set_option linter.all false
set_option maxRecDepth 100000
set_option maxHeartbeats 8000000
namespace Go.Proofs.YtajpdafdickapaaGreatDoor
noncomputable section
open Go Go.TI Tryz
attribute [-simp] List.map_take List.map_drop List.map_append fw eY eg Bool.not_or Bool.not_and
attribute [simp] fq eZ
def uk:fP:=⟨dZ,λa=>[a.t],λa=>a.ei.length<=1000000/\a.d8.length<=1000000/\a.dH.length<=1000000,λa=>(ly a).t,λc d b=>by simp at b;rw[dZ.inj b]⟩
def zd(_:Unit):T:= .agg [Z (-1),dD]
def TW{b:H}{V:Nat->Prop}(a:Nat):iF (FT b V 2) ((List.replicate a ()).map zd) ((List.replicate a (⟨-1,[]⟩:dU)).map dU.t):=by
 induction a with
 |zero=>exact .nil
 |succ a c=>
  rw[dc,dc];exact .cons (.inr (.inr ⟨_,_,rfl,.cons (fV ..) (.cons (jh ..) .nil),rfl⟩)) c
def Sy8(e:H)(Lk:List Unit)(a:List Bool)(Th:List dM):Prop:=∃f b c d,nG e 2 4 f [(b,some (2,Lk.map zd)),(Z (-1),none),(c,some (1,a.map T.bool)),(d,some (3,Th.map dM.t))]
def we:iX:=(dE 4 0 [.agg [dD,Z 0,dD,dD]])
def NW:uk.Ok prog cx 87:=by
 refine fM [] (iQ 9071038046463 [] func87) (λ_=>1000005) (by simp[uk]) ?_;rintro(w:dZ) ⟨hl,W,ht⟩ b O;simp[uk]at O|-;simp[f87,O];refine fk w.ei.length J (λc b h=>Sy8 h (List.replicate c ()) [] []/\Lb 2 h 0 (dE 6 0 [w.t])/\Lb 2 h 1 we/\dF b 1 (.ptr 0 0 0 0)/\dF b 2 (.ptr 1 0 0 0)/\dF b 3 (.ptr 2 0 0 0)/\dF b 4 (Z c)) ?_ ?_ J ?_
 ·rintro c b h A z ⟨⟨ver,s,u,v,a⟩,e,k,j,n,o,p⟩;have m:=a.get;simp at m;have⟨M,C,r,i⟩:=(a.gr 0 rfl).lP (cx:=cx) (f:=zd) a.ok Lr rfl HF rfl dy (λ_=>rfl) () dz;have⟨q,K,x⟩:=a.app 0 rfl i;have⟨g,l⟩:=x _ rfl;simp only[<-List.replicate_succ']at l;simp[-List.map_replicate]at q g l;simp only[zd]at r;simp[j,n,o,p,A,e.get,m,r,q,dX,i.1.ir,i.1.cells,z];exact⟨⟨_,_,_,_,l⟩,e.step g,k.step g⟩
 ·rintro b h ⟨⟨ver,s,u,v,a⟩,e,k,j,n,o,p⟩;simp[j,p,e.get];refine fk w.d8.length J (λc b h=>Sy8 h (List.replicate w.ei.length ()) (List.replicate c false) []/\Lb 2 h 0 (dE 6 0 [w.t])/\Lb 2 h 1 we/\dF b 1 (.ptr 0 0 0 0)/\dF b 2 (.ptr 1 0 0 0)/\dF b 3 (.ptr 2 0 0 0)/\dF b 5 (Z c)) ?_ ?_ J ⟨⟨_,_,_,_,a⟩,e,k,by simp[j,n,o]⟩
  ·rintro c b h A z ⟨⟨ver,s,u,v,a⟩,e,k,j,n,o,p⟩;have m:=a.get;simp at m;have⟨M,C,r,i⟩:=(a.gr 2 rfl).lP (cx:=cx) (f:=T.bool) a.ok Bh rfl MF rfl dy dy false dz;have⟨q,K,x⟩:=a.app 2 rfl i;have⟨g,l⟩:=x _ rfl;simp only[<-List.replicate_succ']at l;simp[-List.map_replicate]at q g l;simp[j,n,o,p,A,e.get,m,r,q,dX,i.1.ir,i.1.cells,z];exact⟨⟨_,_,_,_,l⟩,e.step g,k.step g⟩
  ·rintro b h ⟨⟨ver,s,u,v,a⟩,e,k,j,n,o,p⟩;simp[j,p,e.get];refine fk w.dH.length J (λc b h=>Sy8 h (List.replicate w.ei.length ()) (List.replicate w.d8.length false) ((List.range c).map λc=>(⟨if c=0 then 1 else 0,0,false⟩:dM))/\Lb 2 h 0 (dE 6 0 [w.t])/\Lb 2 h 1 we/\dF b 1 (.ptr 0 0 0 0)/\dF b 2 (.ptr 1 0 0 0)/\dF b 3 (.ptr 2 0 0 0)/\dF b 6 (Z c)) ?_ ?_ J ⟨⟨_,_,_,_,a⟩,e,k,by simp[j,n,o]⟩
   ·rintro c b h A z ⟨⟨ver,s,u,v,a⟩,e,k,j,n,o,p⟩;have m:=a.get;simp at m;have X:(0=h.size)=False:=by have:=a.lt;simp;omega
    have P:(2=h.size)=False:=by have:=a.lt;simp;omega
    by_cases D:c=0
    ·subst D;have R:binop .add (Z 0) (Z 1)=some (Z 1):=by simpa using z
     have y:=a.cons (dE 3 2 [dM.t ⟨1,0,false⟩]);have B:=Step.cons a.ok a.lt (dE 3 2 [dM.t ⟨1,0,false⟩]);have E:=e.step B;have H:=k.step B;have⟨M,C,r,i⟩:=(y.gr 3 rfl).lP (cx:=cx) (f:=dM.t) y.ok D8 rfl HE rfl dy (λ_=>rfl) (⟨1,0,false⟩:dM) dy;have⟨q,K,x⟩:=y.app 3 rfl i;have⟨g,l⟩:=x _ rfl;simp only[aP,bJ,cI,cB]at q g l;rw[size_cons]at r;simp[j,n,o,p,A,e.get,m,P,a.ok.low,r,q,dX,i.1.ir,i.1.cells,R];exact⟨⟨_,_,_,_,l⟩,E.step g,H.step g⟩
    ·skip
     have y:=a.cons (dE 3 1 [dM.t ⟨0,0,false⟩]);have B:=Step.cons a.ok a.lt (dE 3 1 [dM.t ⟨0,0,false⟩]);have E:=e.step B;have H:=k.step B;have⟨M,C,r,i⟩:=(y.gr 3 rfl).lP (cx:=cx) (f:=dM.t) y.ok D8 rfl HE rfl dy (λ_=>rfl) (⟨0,0,false⟩:dM) dz;have⟨q,K,x⟩:=y.app 3 rfl i;have⟨g,l⟩:=x _ rfl;simp only[aP,bJ,cI,cB]at q g l;rw[size_cons]at r;simp[j,n,o,p,D,A,e.get,m,P,a.ok.low,r,q,dX,i.1.ir,i.1.cells,z];have hr:(List.range (c+1)).map (λc=>(⟨if c=0 then 1 else 0,0,false⟩:dM))=(List.range c).map (λc=>(⟨if c=0 then 1 else 0,0,false⟩:dM))++[⟨0,0,false⟩]:=by
      rw[List.range_succ,List.map_append];simp[D]
     rw[hr];exact⟨⟨_,_,_,_,l⟩,E.step g,H.step g⟩
   ·rintro b h ⟨⟨ver,s,u,v,a⟩,e,k,j,n,o,p⟩;have m:=a.get;simp at m;have G:=k.get;unfold we at G;have L:=a.qD k (dE 4 1 [.agg [s,Z (-1),u,v]]);have S:(dY h 1 (dE 4 1 [.agg [s,Z (-1),u,v]])).get 1=_:=(dN G _ 1).trans (aq rfl);have Q:=(L.gr 0 rfl).Jl (d:=2) J (TW (V:=λ_=>True) w.ei.length);simp[j,n,o,p,e.get,m,G,dX,S,Q,(L.gr 2 rfl).fz dy,(L.gr 3 rfl).fz dy,-List.map_replicate];exact⟨a.ok.hp,by unfold ly fH.t fH.cs;simp[List.map_const',-List.map_replicate]⟩
 ·have⟨U,N⟩:=nG.start (h:=((hE.cons (dE 6 0 [w.t])).cons we).cons (dE 4 1 [.agg [dD,Z (-1),dD,dD]])) (w:=2) (szw:=4) (ver:=1) (F:=[(dD,some (2,[])),(Z (-1),none),(dD,some (1,[])),(dD,some (3,[]))]) ⟨dy,dy,dy⟩ (by simp[we]) dy;exact⟨⟨_,_,_,_,U⟩,⟨dy,λI=>absurd (N 0 I) dB⟩,⟨by simp[we],λI=>absurd (N 1 I) dB⟩,dy⟩
def JG{b:fy}(ht:b.p 87=some uk)(a:dZ)(c:a.ei.length<=1000000)(d:a.d8.length<=1000000)(e:a.dH.length<=1000000):rl prog cx b 87 [a.t]=some (ly a).t:=gu ht NW a ⟨c,d,e⟩
def agy(f:H)(a:fH)(b c:Nat)(d:List Int):Prop:=∃g e,nG f 4 7 g [(sl (a.ei.map dU.t),none),(Z a.tx,none),(sl (a.done.map T.bool),none),(sl (a.dH.map dM.t),none),(e,some (1,d.map (T.int .i64))),(.arr 2 0 0 b false,some (1,(List.replicate b 0).map (T.int .i64))),(.arr 3 0 0 c false,some (1,(List.replicate c 0).map (T.int .i64)))]
def nT:iX:=(dE 7 0 [.agg [dD,Z 0,dD,dD,dD,dD,dD]])
def qA:fP:=⟨dZ,λa=>[a.t],λa=>a.ei.length<=1000000/\a.d8.length<=1000000/\a.dH.length<=1000000/\a.cells.length<=1000000,λa=>(jY a).t,λc d b=>by simp at b;rw[dZ.inj b]⟩
def NV:qA.Ok prog cx 39:=by
 refine fM [(87,uk)] (iQ 1048607 [(1,[(1,3),(1,5),(1,7),(1,9),(1,11)])] func39) (λ_=>1000005) (by simp[qA]) ?_;rintro(a:dZ) ⟨hl,q,ht,F⟩ h e;simp[qA]at e|-;have N:a.d8.length*8<=70368744177664:=J;have O:a.dH.length*8<=70368744177664:=J;simp[f39,e,JG,hl,q,ht,N,O];have S:(jY a).t=ew.t ⟨ly a,a.cells.map io.jG,List.replicate a.d8.length 0,List.replicate a.dH.length 0⟩:=by
  unfold jY;simp only[List.map_const']
 rw[S];generalize ly a=b at*
 refine fk a.cells.length J (λm h i=>∃j,agy i b a.d8.length a.dH.length j/\j.length=m/\j=(a.cells.take m).map io.jG/\Lb 4 i 0 (dE 6 0 [a.t])/\Lb 4 i 1 nT/\dF h 1 (.ptr 0 0 0 0)/\dF h 2 (.ptr 1 0 0 0)/\dF h 3 (.ptr 4 0 0 0)/\dF h 4 (Z m)) ?_ ?_ J ?_
 ·rintro m h i G U ⟨j,⟨Y,c,d⟩,R,p,r,s,n,o,w,y⟩;have l:=d.get;simp at l;have⟨aA,ap,P,E⟩:=(d.gr 4 rfl).lP (cx:=cx) (f:=T.int .i64) d.ok pF rfl Ak rfl dy (λ_=>rfl) a.cells[m].jG dz;have⟨u,av,B⟩:=d.app 4 rfl E;have⟨D,L⟩:=B _ rfl;simp only[aP,bJ,cI,cB]at u D L;simp[n,o,w,y,G,r.get,l,P,u,dX,E.1.ir,E.1.cells,U];exact⟨_,⟨_,_,L⟩,dz,by rw[p,aR G,List.map_append];rfl,r.step D,s.step D⟩
 ·rintro h i ⟨j,⟨Y,c,d⟩,R,p,r,s,n,o,w,y⟩;rw[aK]at p;subst p;have l:=d.get;simp at l;have z:=s.get;unfold nT at z;have C:=d.qD s (dE 7 1 [.agg [sl (b.ei.map dU.t),Z b.tx,sl (b.done.map T.bool),sl (b.dH.map dM.t),c,.arr 2 0 0 a.d8.length false,.arr 3 0 0 a.dH.length false]]);have Q:(dY i 1 (dE 7 1 [.agg [sl (b.ei.map dU.t),Z b.tx,sl (b.done.map T.bool),sl (b.dH.map dM.t),c,.arr 2 0 0 a.d8.length false,.arr 3 0 0 a.dH.length false]])).get 1=_:=(dN z _ 1).trans (aq rfl);have ae:=(C.gr 4 rfl).fz dy;have al:=(C.gr 5 rfl).fz dy;have an:=(C.gr 6 rfl).fz dy;simp[n,o,w,y,r.get,l,z,dX,Q,ae,al,an,-List.map_replicate,-wQ];exact⟨d.ok.hp,by unfold ew.t ew.cs;simp[-List.map_replicate]⟩
 ·have K:∀(g:Nat) (k:T×aa (Nat×List T)),([(sl (b.ei.map dU.t),none),(Z b.tx,none),(sl (b.done.map T.bool),none),(sl (b.dH.map dM.t),none),(dD,some (1,[])),(.arr 2 0 0 a.d8.length false,some (1,(List.replicate a.d8.length 0).map (T.int .i64))),(.arr 3 0 0 a.dH.length false,some (1,(List.replicate a.dH.length 0).map (T.int .i64)))]:List (T×aa (Nat×List T)))[g]? =some k->∀c,dS k.1=some c->c+3=g:=by
   intro g k e c F;rcases g with _|_|_|_|_|_|_|g<;>simp at e<;>subst e<;>simp at F<;>omega
  refine⟨[],⟨1,dD,⟨dy,dy,dy⟩,dy,λf q=>?_,λg X W k M e V c u B=>W ?_⟩,rfl,dy,⟨dy,?_⟩,⟨by simp[nT],?_⟩,dy⟩
  ·simp only[cr,cN,or_false,bJ]at q;rcases q with rfl|rfl|rfl|rfl|rfl|rfl|rfl
   iterate 4 (show dS _=none;simp)
   ·exact⟨Gr.nil _ _,dB⟩
   ·exact⟨.inr ⟨2,0,0,true,_,dy,by simp;rfl,dy⟩,show(1:Nat)≠7 by decide⟩
   ·exact⟨.inr ⟨3,0,0,true,_,dy,by simp;rfl,dy⟩,show(1:Nat)≠7 by decide⟩
  ·have n:=K g k e c u;have o:=K X M V c B;omega
  all_goals
   rintro(A|⟨x,I,v,H,A⟩)
   ·simp at A
   ·simp at I;subst I;simp[fF,T.cells]at H;rcases H with rfl|rfl|rfl|rfl|rfl|rfl|rfl<;>simp at A
def Ee{b:fy}(ht:b.p 39=some qA)(a:dZ)(c:a.ei.length<=1000000)(d:a.d8.length<=1000000)(e:a.dH.length<=1000000)(f:a.cells.length<=1000000):rl prog cx b 39 [a.t]=some (jY a).t:=gu ht NV a ⟨c,d,e,f⟩
def um:fP:=⟨List ej×Nat×Int×List Int,λa=>[sl (a.1.map ej.t),Z a.2.1,Z a.2.2.1,sl (a.2.2.2.map (T.int .i64))],λa=>a.2.1<=a.1.length/\a.1.length<=1000000/\a.2.2.2.length<=1000000,λa=> .bool (wt (a.1.take a.2.1) a.2.2.1 a.2.2.2),λa c b=>by
 obtain⟨a1,a2,a3,a4⟩:=a;obtain⟨h,i,j,k⟩:=c;simp at b;obtain⟨d,e,f,g⟩:=b;rw[jz (λ_ _=>ej.inj) d,Int.ofNat.inj e,f,jz (λ_ _ b=>by simpa using b) g]⟩
def ScR(d e:Int)(b:List ej)(c f g:Nat)(h:T):Prop:=∃a:Bool,h= .bool a/\Bu d e ((b.take c).drop f) g a=Bu d e (b.take c) 0 false
def N0:um.Ok prog cx 92:=by
 refine fM [] (iQ 576460753379335951 [] func92) (λ_=>1000005) (by simp[um]) ?_;rintro⟨b,l,v,m⟩ ⟨L,hl,N⟩ a A;simp at L hl N;simp[um]at A|-;obtain⟨f,c,g,d⟩:=A;simp[f92];refine fk m.length J (λj a n=>n=hE/\dF a 0 (sl (b.map ej.t))/\dF a 1 (Z l)/\dF a 2 (Z v)/\dF a 3 (sl (m.map (T.int .i64)))/\dF a 9 (Z j)/\(m.take j).all (λE=>Bu v E (b.take l) 0 false)=true) ?_ ?_ J (by simp[f,c,g,d])
 ·rintro j a n u G ⟨rfl,f,c,g,d,h,s⟩;simp[d,h,u];refine fk l J (λe a n=>n=hE/\dF a 0 (sl (b.map ej.t))/\dF a 1 (Z l)/\dF a 2 (Z v)/\dF a 3 (sl (m.map (T.int .i64)))/\dF a 9 (Z j)/\∃(k:Nat) (w:T),dF a 10 (Z k)/\dF a 11 w/\dF a 12 (Z e)/\k<=e/\ScR v m[j] b l e k w) ?_ ?_ J ⟨rfl,by simp[f],by simp[c],by simp[g],by simp[d],by simp[h],0,.bool false,dy,dy,dy,au _,false,rfl,rfl⟩
  ·rintro e a n H B ⟨rfl,f,c,g,d,h,k,w,y,r,o,I,x,rfl,i⟩;have C:e<b.length:=J;have z:(b.take l).drop e=b[e]::(b.take l).drop (e+1):=by
    rw[aH dz];simp
   rw[z,Bu]at i;simp[f,c,g,o,H,C];have K:b[e]? =some b[e]:=az C;have M:m[j]? =some m[j]:=az u;generalize b[e]=P at*
   generalize m[j]=E at*
   have F:binop .add (Z (k:Int)) (Z 1)=some (Z ((k+1:Nat):Int)):=by rw[iz J J];simp
   refine ee (λp=>?_) (λp=>?_)
   ·simp at p;rw[ao p]at i;simp[f,c,g,d,h,y,r,o,B];exact⟨k,rfl,J,x,rfl,i⟩
   ·simp at p;rw[aq p]at i;simp[f,c,g,d,h,y,r,o,K,M,F,B];exact⟨k+1,dy,J,_,rfl,i⟩
  ·rintro a n ⟨rfl,f,c,g,d,h,k,w,y,r,o,I,x,rfl,i⟩;have z:(b.take l).drop l=[]:=dy;rw[z,Bu]at i;simp[c,r,o];cases x with
   |false=>
    simp;unfold wt;rw[List.all_eq_false];exact⟨m[j],aD u,by rw[<-i];simp⟩
   |true=>
    simp[f,c,g,d,h,G];intro O D;rw[aR u]at D;rcases List.mem_append.1 D with q|q
    ·exact List.all_eq_true.1 s O q
    ·rw[List.mem_singleton.1 q];exact i.symm
 ·rintro a n ⟨rfl,f,c,g,d,h,s⟩;rw[aK]at s;simp[d,h];unfold wt;rw[s]
def Sl{e:fy}(ht:e.p 92=some um)(a:List ej)(b:Nat)(d:Int)(c:List Int)(f:b<=a.length)(g:a.length<=1000000)(h:c.length<=1000000):rl prog cx e 92 [sl (a.map ej.t),Z b,Z d,sl (c.map (T.int .i64))]=some (.bool (wt (a.take b) d c)):=gu ht N0 (a,b,d,c) ⟨f,g,h⟩
end
noncomputable section
open Go Go.TI Tryz
section
attribute [-simp] List.map_take List.map_drop List.map_append
def Ip:fP:=⟨Int×Nat,λa=>[Z a.1,Z a.2],λa=>True,λa=> .bool (iP a.1 a.2),λa c b=>by simp at b;rw[b.1,show a.2=c.2 by omega]⟩
def XV:Ip.Ok prog cx 125:=by
 refine fM [] (iQ 19 [] func125) (λf=>1) (by simp[Ip]) ?_;rintro⟨e,g⟩ _ h a;simp[Ip]at a|-;obtain⟨b,c⟩:=a;by_cases d:0<=e<;>simp[f125,b,c,d,iP]
def Sy{c:fy}(ht:c.p 125=some Ip)(a:Int)(b:Nat):rl prog cx c 125 [Z a,Z b]=some (.bool (iP a b)):=gu ht XV (a,b) trivial
def xr:fP:=⟨dZ×ew,λa=>[a.1.t,a.2.t],λa=>a.1.gJ.length<=1099511627776,λa=> .bool (mH a.1 a.2),λa c b=>by simp at b;rw[dZ.inj b.1,ew.inj b.2]⟩
def QW:xr.Ok prog cx 82:=by
 refine fM [(67,tc)] (iQ 31 [] func82) (λi=>1) (by simp[xr]) ?_;rintro⟨b,a⟩ hl j e;simp[xr]at hl e|-;obtain⟨c,d⟩:=e;cases f:lA b a.fj with
 |false=>simp[f82,c,d,vy,hl,f,mH]
 |true=>by_cases g:a.cells.length=b.cells.length<;>by_cases h:a.d8.length=b.d8.length<;>simp[f82,c,d,vy,hl,f,g,h,mH,Int.natCast_inj]
def HO{c:fy}(ht:c.p 82=some xr)(a:dZ)(b:ew)(hl:a.gJ.length<=1099511627776):rl prog cx c 82 [a.t,b.t]=some (.bool (mH a b)):=gu ht QW (a,b) hl
def wx:fP:=⟨List Int×Int,λa=>[sl (a.1.map (T.int .i64)),Z a.2],λa=>a.1.length<=1099511627776,λa=> .bool (yB a.2 none a.1),λa c b=>by simp at b;rw[jz dy b.1,b.2]⟩
def N3:wx.Ok prog cx 126:=by
 refine fM [] (iQ 1099511628339 [] func126) (λt=>t.1.length+1) (by simp[wx]) ?_;rintro⟨c,k⟩ hl j p;simp[wx]at hl p|-;obtain⟨d,g⟩:=p;simp[f126];refine fk c.length J (λb j n=>n=hE/\dF j 0 (sl (c.map (T.int .i64)))/\dF j 1 (Z k)/\dF j 5 (Z b)/\yB k (if b=0 then none else c[b-1]?) (c.drop b)=yB k none c) ?_ ?_ J (by simp[d,g])
 ·rintro b j n i q ⟨rfl,d,g,h,a⟩;rw[aH i]at a;simp only[yB]at a;by_cases e:c[b]<1
  ·simp[e]at a;simp[d,h,i,e,a]
  ·by_cases f:k<=c[b]
   ·simp[f]at a;simp[d,g,h,i,e,f,a]
   ·by_cases r:b=0
    ·have l:¬0<b:=J;rw[aq r]at a;simp[e,f]at a;simp[d,g,h,i,q,e,f,l];exact a
    ·have l:0<b:=J;have o:b-1<c.length:=J;have s:binop .sub (Z (b:Int)) (Z 1)=some (Z ((b-1:Nat):Int)):=by rw[kx J J,show(b:Int)-1=((b-1:Nat):Int)by omega]
     rw[ao r,az o]at a;by_cases m:c[b]<=c[b-1]
     ·simp[e,f,m]at a;simp[d,g,h,i,o,e,f,m,s,a,l]
     ·simp[e,f,m]at a;simp[d,g,h,i,o,q,e,f,m,s,l];exact a
 ·rintro j n ⟨rfl,d,g,h,a⟩;simp[yB]at a;simp[d,h,a]
def Sq{c:fy}(ht:c.p 126=some wx)(a:List Int)(b:Int)(hl:a.length<=1099511627776):rl prog cx c 126 [sl (a.map (T.int .i64)),Z b]=some (.bool (yB b none a)):=gu ht N3 (a,b) hl
def uj:fP:=⟨ew×ej,λa=>[a.1.t,a.2.t],λa=>a.1.fj.dH.length<=1099511627776/\(a.2.kind=3->iP a.2.obj a.1.cells.length=true)/\(a.2.kind=23->iP a.2.obj a.1.d8.length=true),λa=> .bool (oF a.1 a.2),λa c b=>by simp at b;rw[ew.inj b.1,ej.inj b.2]⟩
def NR:uj.Ok prog cx 127:=by
 refine fM [(49,r8),(31,BZ)] (iQ 18889470444974887141823 [(17,[(1,6)])] func127) (λv=>1) (by simp[uj]) ?_;rintro⟨i,a⟩ hl w j;simp[uj]at hl j|-;obtain⟨b,c⟩:=j;obtain⟨hl,k,l⟩:=hl;by_cases f:a.kind=3
 ·have⟨u,d,g⟩:=iD (k f);simp[f127,b,c,f,oF,em (eQ.1 (k f)).1,d,g]
 ·by_cases e:a.kind=23
  ·have⟨u,d,g⟩:=iD (l e);simp[f127,b,c,e,oF,em (eQ.1 (l e)).1,d,g]
  ·by_cases q:a.kind=5
   ·by_cases d:a.value=0<;>simp[f127,b,c,q,oF,d]
   ·by_cases p:a.kind=4
    ·simp[f127,b,c,p,oF]
    ·by_cases o:a.kind=22
     ·simp[f127,b,c,o,oF]
     ·by_cases h:a.kind=18
      ·have r:=Fj a.obj i.fj.dH 0;by_cases m:iA a.obj i.fj.dH 0=[]
       ·simp[f127,b,c,h,oF,Ar,hl,m]
       ·by_cases s:0<=a.value<;>by_cases t:a.value<i.fj.dH.length<;>
         simp[f127,b,c,h,oF,Ar,hl,m,s,t,Lx,aO r hl]
      ·by_cases n:a.kind=19
       ·simp[f127,b,c,n,oF,Ar,hl]
       ·simp[f127,b,c,f,e,q,p,o,h,n,oF]
def Sh{c:fy}(ht:c.p 127=some uj)(b:ew)(a:ej)(hl:b.fj.dH.length<=1099511627776)(d:a.kind=3->iP a.obj b.cells.length=true)(e:a.kind=23->iP a.obj b.d8.length=true):rl prog cx c 127 [b.t,a.t]=some (.bool (oF b a)):=gu ht NR (b,a) ⟨hl,d,e⟩
end
def C6(a:List Int)(b:Int):uw a b=mp a b:=by
 induction a with
 |nil=>rfl
 |cons d a c=>rw[uw,mp,c]
def C9:∀(b a:List Int),JX a->JX (mg a b):=by
 intro b;induction b with
 |nil=>intro a c;exact c
 |cons e b d=>intro a c;exact d _ (by rw[C6];exact DE c e)
def C7:∀(c b:List Int) (a:Int),a∈mg b c->a∈b\/a∈c:=by
 intro c;induction c with
 |nil=>intro b a h;exact .inl h
 |cons e c d=>
  intro b a h;rcases d (uw b e) a h with h|h
  ·rw[C6]at h;rcases DD h with h|h
   ·exact .inl h
   ·exact .inr (by simp[h])
  ·exact .inr (by simp[h])
def M4:∀(a:List Int) (e b:Int),JX a->(∀c∈a,e<=c/\c<b)->a.length<=(b-e).toNat:=by
 intro a;induction a with
 |nil=>intro e b _ _;simp
 |cons c a i=>
  intro e b d f;unfold JX at d;rw[dj]at d;have j:=i (c+1) b d.2 λh g=>⟨by have:=d.1 h g;omega,(f h (by simp[g])).2⟩;have k:=f c dy;simp;omega
def Tn(a:Nat)(b:List Int):Prop:=b.length<=a/\∀c∈b,0<=c/\c<a
theorem Tn.nil(a:Nat):Tn a []:=⟨aw _,λc b=>by simp at b⟩
def Tn.union{a:Nat}{c d:List Int}(f:Tn a c)(g:Tn a d):Tn a (AE c d):=by
 have e:∀b∈AE c d,0<=b/\b<a:=λb i=>by
  rcases C7 _ _ _ i with h|h
  ·rcases C7 _ _ _ h with h|h
   ·simp at h
   ·exact f.2 b h
  ·exact g.2 b h
 refine⟨?_,e⟩;have:=M4 (AE c d) 0 a (C9 _ _ (C9 _ _ List.Pairwise.nil)) e;omega
end
end Go.Proofs.YtajpdafdickapaaGreatDoor
namespace Go.TI
noncomputable section
section
@[simp]def aby (a:H) (b:iX):(a.cons b).size=a.size+1:=id rfl
def iF.IY{b h:Type}{c:b->h->Prop}{e:List b}{f:List h}(j:iF c e f){g:b}(d:g∈e):∃a∈f,c g a:=by
 induction j with
 |nil=>simp at d
 |cons i _ l=>
  rcases List.mem_cons.1 d with rfl|q
  ·exact⟨_,dy,i⟩
  ·have⟨a,k,m⟩:=l q;exact⟨a,by simp[k],m⟩
section
variable {cx:Ctx}{cf:je}{mask n:Nat}{dl:DL}
def adv{f:Out}{e:Env->H->Prop}{c:iR}(i:W f (yD e c))(j:∀a b,e a b->c.n a b):W f c:=by
 obtain⟨g,a,b,h,d⟩:=i;refine⟨g,a,b,h,?_⟩;cases g with
 |normal=>exact j a b d
 |exit k=>exact d
 |ret=>exact d
def SZ{g:Out}{d:iR}(e:fZ->H->Prop)(i:W g (yD (λb a=>b.tmps= .nil/\e b.vars a) d))(j:∀c a,e c a->d.n ⟨c,.nil⟩ a):W g d:=
 adv i λb a ⟨h,f⟩=>by obtain⟨c,k⟩:=b;simp only at h f;subst h;exact j c a f
def kQ{f:Bool}{g h:Code}{b:Env}{a:H}{d:iR}(c:fZ->H->Prop)(k:f=true->W (jB cx cf n mask dl g b a) (yD (λb a=>b.tmps= .nil/\c b.vars a) d))(l:f=false->W (jB cx cf n mask dl h b a) (yD (λb a=>b.tmps= .nil/\c b.vars a) d))
 (i:∀j a,c j a->d.n ⟨j,.nil⟩ a):CK (some (.bool f)) cx cf n mask dl g h b a d:=by
 refine ee (λe=>?_) (λe=>?_)
 ·exact SZ c (k e) i
 ·exact SZ c (l e) i
end
end
section
@[simp]def ahh (a:Nat):(a=a+1)=False:=dy 
@[simp]def ahg (a:Nat):(a=a+1+1)=False:=dz 
@[simp]def ahf (a:Nat):(a=a+1+1+1)=False:=dz 
@[simp]def ahe (a:Nat):(a=a+1+1+1+1)=False:=dz 
@[simp]def ahd (a:Nat):(a=a+1+1+1+1+1)=False:=dz 
def K2{c:H}{b:T}{d:List T}(a:c.jw b=some d)(f:iX):(c.cons f).jw b=some d:=by
 cases b<;>first|exact a|(simp[H.jw]at a;done)|skip
 rename_i g h k j i;rw[ik]at a|-;obtain⟨l,e,_⟩:=dI.1 a;rw[dT,ao (by have:=H.fa e;omega)];exact a
def jV{cx:Ctx}{a:H}{sz:Nat}(D:hU 0 a){g h f:ab}{m n b:Ty}(s:cx.ty g=some m)(t:m.u= .slice f)(v:cx.ty f=some b)(w:cx.ty h=some n)(y:n.u= .slice f)(j:b.size=sz)(A:1<=b.bytes)
 {x:T} {xs:List T} (C:a.jw x=some xs) (k:∀q∈xs,q.cells.length=sz) (F:xs.length*b.bytes<=70368744177664):
 ∃i d,jc cx (a.cons ⟨sz,0,0,true,false,[]⟩) g h (.arr a.size 0 0 0 false) x=some (.val (.arr a.size i 0 xs.length false) d)/\(∃E r,d.get a.size=some ⟨sz,i,E,r,false,xs⟩)/\d.size=a.size+1/\(∀c,c<a.size->d.get c=a.get c)/\hU 0 d:=by
 have z:jc cx (a.cons ⟨sz,0,0,true,false,[]⟩) g h (.arr a.size 0 0 0 false) x=jL ((a.cons ⟨sz,0,0,true,false,[]⟩).append b.size b.bytes (.arr a.size 0 0 0 false) xs):=by
  unfold jc rm om;rw[s,ed,w,ed];simp only[t,v,y,K2 C,ed];rw[j,ot k,iH]
 rw[z,j];have l:=D.cons ⟨sz,0,0,true,false,[]⟩;have e:(a.cons ⟨sz,0,0,true,false,[]⟩).get a.size=some ⟨sz,0,0,true,false,[]⟩:=dy;cases xs with
 |nil=>exact⟨0,a.cons ⟨sz,0,0,true,false,[]⟩,rfl,⟨0,true,e⟩,rfl,λc B=>by rw[dT,ao J],l⟩
 |cons o p=>
  refine⟨1,dY (a.cons ⟨sz,0,0,true,false,[]⟩) a.size ⟨sz,1,1,false,false,o::p⟩,?_,⟨1,false,by rw[dN e,aq rfl]⟩,by rw[fJ];rfl,λc B=>by rw[dN e,ao J,dT,ao J],l.put _ _⟩;show jL ((a.cons ⟨sz,0,0,true,false,[]⟩).mR sz b.bytes a.size 0 ([]:List T).length (o::p))=_;rw[w9 e k A (by grind)];rfl
def pK(c:H)(d:Nat)(b:T)(a:List T):Prop:=b=sl a\/Gr c b d a
def pK.jw{b:H}{e:Nat}{c:T}{a:List T}(d:pK b e c a):b.jw c=some a:=by
 rcases d with rfl|g
 ·simp
 ·exact g.jw
def pK.mono{d h':H}{e:Nat}{b:T}{c:List T}(h:pK d e b c)(g:∀a,dS b=some a->h'.get a=d.get a):pK h' e b c:=h.imp id λf=>f.mono g
def pK.len{cx:Ctx}{f:H}{j:Nat}{e:T}{c:List T}(i:pK f j e c)(a:H)(b:Ty)(d:ab)(h:b.u= .slice d):EJ cx a b e=some (.val (.int .i64 c.length) a):=by
 rcases i with rfl|g
 ·simp_all
 ·exact g.len a b d h
theorem pK.ir{c:H}{e:Nat}{a:T}{b:List T}(d:pK c e a b):a.ir=true/\a.cells=[a]:=by
 rcases d with rfl|g
 ·cases b<;>exact⟨rfl,rfl⟩
 ·exact⟨g.ir,g.cells⟩
def pK.idx{b:H}{e:T}{a:List T}(m:pK b 1 e a){te:Ty}(l:te.size=1)(j:te.isAgg=false){i:Nat}{x:T}(k:a[i]? =some x)(r:x.cells=[x]):∃d,kK b te e i=some (.val d b)/\b.load te d=some x:=by
 have hr:ku te [x]=some x:=by unfold ku;rw[j];rfl
 have c:i<a.length:=by
  grind
 rcases m with rfl|g
 ·simp_all
 ·have⟨n,p,s,q,t,_,f,h,o⟩:=g.B0 l c;refine⟨_,f,?_⟩;have:a[i]=x:=by rw[az c]at k;grind
  rw[Yd,h];simp_all
def pK.ft{h:H}{V:Nat->Prop}{q d:Nat}{f:T}{b:List T}(p:pK h q f b)(e:∀a∈b,cn a=a/\j4 a=true/\∀k,a≠ .agg k)(i:∀c,dS f=some c->V c):FT h V (d+2) f (sl b):=by
 rcases p with rfl|g
 ·grind [pQ]
 ·have j:=g.jw;rcases g with⟨rfl,rfl⟩|⟨c,l,v,s,w,rfl,m,n⟩
  ·simp[jh]
  ·refine .inr (.inl ⟨c,l,0,_,false,b,b,rfl,i c rfl,j,?_,rfl⟩);clear j i n m;induction b with
   |nil=>exact .nil
   |cons a u o=>exact .cons (.inl ⟨(e a dy).2.1,(e a dy).2.2,(e a dy).1.symm⟩) (o λr t=>e r (by grind))
structure Nb(h h':H):Prop where
 ok:hU h.size h'
 get:∀c,c<h.size->h'.get c=h.get c
def Nb.refl{a:H}(b:hU 0 a):Nb a a:=⟨⟨b.hp,b.low,au _⟩,λ_ _=>rfl⟩
def Nb.trans{d e f:H}(b:Nb d e)(a:Nb e f):Nb d f:=⟨⟨a.ok.hp,a.ok.low,aO b.ok.sz a.ok.sz⟩,λc g=>(a.get c (bD g b.ok.sz)).trans (b.get c g)⟩
theorem Nb.cons{b c:H}(a:Nb b c)(d:iX):Nb b (c.cons d):=⟨a.ok.cons d,λe f=>by rw[dT,ao (by have:=a.ok.sz;omega)];exact a.get e f⟩
theorem Nb.put{b d:H}(e:Nb b d){a:Nat}{x:iX}(h:d.get a=some x)(i:b.size<=a)(f:iX):Nb b (dY d a f):=⟨e.ok.put a f,λc g=>by rw[dN h,ao J];exact e.get c g⟩
def Nb.step{b f:H}(a:Nb b f){d:Nat}(g:d<b.size):Step d b f:=⟨a.ok,λe c _=>a.get e c,λe c=>by rw[iT (a.get d g)]at c;grind⟩
def Nb.hr{a d:H}(b:Nb (TI.hr a) d):Nb a d:=⟨b.ok,λc e=>(b.get c e).trans (gU a c)⟩
def Nb.out{h b:H}(c:Nb (TI.hr h) b):Nb h (lO h b):=⟨c.ok.out h,λa d=>(fW h b a).trans ((c.get a d).trans (gU h a))⟩
def Gr.new{h:H}{b a ep ver:Nat}{ex:Bool}{es:List T}(c:h.get b=some ⟨a,ep,ver,ex,false,es⟩):Gr h (.arr b ep 0 es.length false) a es:= .inr ⟨b,ep,ver,ex,es,rfl,c,aK⟩
def nG.one{h:H}{w szw ver i0:Nat}{F:List (T×aa (Nat×List T))}(s:hU 0 h)(i:h.get w=some ⟨szw,0,ver,true,false,[.agg (F.map (·.1))]⟩)(n:∀a∈F,Zn h szw a)(f:∀(b:Nat) d,F[b]? =some d->dS d.1≠none->b=i0):
 nG h w szw ver F/\∀c,Fp h w c->c=w\/∃a,F[i0]? =some a/\dS a.1=some c:=by
 refine⟨⟨s,i,n,λb r q d k l m c t u=>q ((f b d l (by rw[t];simp)).trans (f r k m (by rw[u];simp)).symm)⟩,λc e=>?_⟩;rcases e with e|⟨x,g,v,j,e⟩
 ·omega
 ·rw[i]at g;simp only[ar]at g;subst g;simp only[fF,br,cK,bP,T.cells]at j;obtain⟨a,o,rfl⟩:=List.mem_map.1 j;have⟨b,p⟩:=cM o;have:=f b a p (by rw[e];simp)
  grind
section
variable {cx:Ctx}{cf:je}{mask:Nat}
@[simp low] theorem adO (n:aa Nat) (l:T) (j:af Oper) (a:List (Nat×Nat)) (f:aa Tmp) (h:List Oper) (b:Nat) (i:List (Nat×Nat)) (c:List (Nat×H×H)) (m k:fZ) (g:H) (e:iR) (q:lM a b=false) (p:(c.all λd=> !A2 a d.1 b)=true):DLK n l cx cf mask j a f h b i c m k g e=TC l cx cf mask j a f h (b+1) i c m k g e:=by
 cases n with
 |none=>rfl
 |some o=>
  have hl:mW a b o c=True:=by
   simp only[eq_iff_iff,iff_true];intro d s r;have:=List.all_eq_true.1 p d s;rw[r]at this;grind
  rw[Tl,hl,q,true_and];rfl
end
def Km{a x:T}(c:∀b,a≠ .agg b):mK a 0 [x]=some x:=by
 cases a<;>first|rfl|grind
def pK.na{d:H}{f:Nat}{b:T}{a:List T}(e:pK d f b a):∀c,b≠ .agg c:=by
 rcases e with rfl|g
 ·cases a<;>simp[sl]
 ·rcases g with⟨rfl,_⟩|⟨h,i,k,j,l,rfl,_⟩<;>simp
def Gr.setAt{j h':H}{f:T}{k a l b s ver2:Nat}{n ex2:Bool}{i h:List T}(o:Gr j f k i)(d:dS f=some a)(q:j.get a=some ⟨l,b,s,n,false,h⟩)(e:Nat)(g:T)(r:h'.get a=some ⟨l,b,ver2,ex2,false,h.set e g⟩):Gr h' f k (i.set e g):=by
 rcases o with⟨rfl,_⟩|⟨m,t,v,u,w,rfl,c,p⟩
 ·simp at d
 ·simp only[Bk,ar]at d;subst d;rw[q]at c;simp only[ar,iX.mk.injEq]at c;obtain⟨rfl,rfl,rfl,rfl,_,rfl⟩:=c;exact .inr ⟨m,b,ver2,ex2,h.set e g,by rw[cU],r,by rw[cU,List.take_set,p]⟩
def iF.set{d e:Type}{f c:d->e->Prop}{i:List d}{j:List e}(b:iF f i j)(a:Nat){k:d}{l:e}(m:c k l)(h:∀b g,f b g->c b g):iF c (i.set a k) (j.set a l):=by
 induction b generalizing a with
 |nil=>exact .nil
 |cons o p n=>
  cases a with
  |zero=>exact .cons m (p.imp h)
  |succ a=>exact .cons (h _ _ o) (n a)
def iF.X9{b c j:Type}{d:b->c->Prop}{e:b->j->Prop}{f:c->j}{h:List b}{i:List c}(a:iF d h i)(k:∀a g,d a g->e a (f g)):iF e h (i.map f):=by
 induction a with
 |nil=>exact .nil
 |cons m n l=>exact .cons (k _ _ m) l
def FT.tup{c:H}{f:Nat->Prop}{d h:Nat}(k:h<=11)(j:∀a,f a->d<=a){b g:List T}(l:iF (FT c f h) b g)(a:Bool):∃i,jn c d (.tuple [.agg b,.bool a])=some i/\cn i= .tuple [.agg g,.bool a]:=by
 have⟨r0,e,n⟩:=FT.top k j l;refine⟨.tuple [r0,.bool a],?_,?_⟩
 ·have e:kw c d (.agg b)=some r0:=e;show(dW (fQ (kw c d) [.agg b,.bool a]) λm=>some (T.tuple m))=_;rw[jO,e];rfl
 simp_all[uQ]
def Gr.ft{c:H}{V:Nat->Prop}{e:T}{m d:Nat}{a b:List T}(i:Gr c e m a)(k:∀h,dS e=some h->V h)(f:iF (FT c V d) a b):FT c V (d+1) e (sl b):=by
 have l:=i.jw;rcases i with⟨rfl,rfl⟩|⟨g,j,q,n,r,rfl,o,p⟩
 ·cases f;simp[jh]
 ·exact .inr (.inl ⟨g,j,0,_,false,a,b,rfl,k g rfl,l,f,rfl⟩)
def Gr.at{f:H}{h x:T}{g i:Nat}{a:List T}(k:Gr f h g a)(o:a[i]? =some x):∃b c j e d,h= .arr b c 0 a.length false/\f.get b=some ⟨g,c,j,e,false,d⟩/\d[i]? =some x/\i<a.length:=by
 have n:i<a.length:=by
  grind
 rcases k with⟨rfl,rfl⟩|⟨b,c,j,e,d,rfl,l,m⟩
 ·grind
 grind
def pK.qP{b:H}{j:Nat}{e:Type}{f:e->T}{d:T}{c:List e}(i:pK b j d (c.map f))(k:∀a,cn (f a)=f a)(h:∀a,ye b 11 (f a)=some (f a)):TI.qP b d=some (sl (c.map f)):=by
 rcases i with rfl|g
 ·simp_all
 ·exact g.qP h
def nl{b:H}{a c:Nat}{f:iX}(e:b.get a=some f)(d:c≠a)(g:iX):fh b (dY b a g) c=true:=fD (by rw[dN e,ao d])
def mr{c:H}{b:Nat}(f:Hp c)(e:b<c.size)(d:iX)(a:Nat):(dY c b d).get a=if a=b then some d else c.get a:=get_put f e d a
@[simp]def ahp (a:Nat):(a<a+1+1)=True:=dz 
@[simp]def aho (a:Nat):(a<a+1+1+1)=True:=dz 
@[simp]def ahn (a:Nat):(a<a+1+1+1+1)=True:=dz 
@[simp high] theorem ags {e:ai} {cx:Ctx} (d:fy) (b:aj) (a:List T) (c:H) (g:d.p b=none):rx e cx d b a c=hl e cx d b a c:=by
 unfold rx;cases SO c a with
 |none=>rfl
 |some f=>grind [Cf]
def iU{b c:H}{a:Nat}(d:b.get a=none):fh b c a=true:=by unfold fh;rw[d]
def lj(b:H){a:Nat}(d:b.size<=a):b.get a=none:=by
 cases c:b.get a with
 |none=>rfl
 |some e=>have:=H.fa c;omega
def Gr.yQ{cx:Ctx}{a:H}{h:T}{b:Nat}{f:List T}(q:Gr a h b f)(l:hU 0 a){g i:ab}{m d:Ty}(j:cx.ty g=some m)(k:m.u= .slice i)(r:cx.ty i=some d)(t:d.size=b)(s:1<=d.bytes){x:T}(w:x.cells.length=b)(v:(f.length+1)*d.bytes<=70368744177664):
 ∃e c,jc cx (a.cons ⟨b,0,0,true,false,[x]⟩) g g h (.arr a.size 0 0 1 false)=some (.val e c)/\Xt a h b (f++[x]) e c:=by
 have n:=(Xt.refl q l).cons ⟨b,0,0,true,false,[x]⟩;have⟨e,c,p,o⟩:=Gr.app (cx:=cx) n.1 (l.cons _) (x:= .arr a.size 0 0 1 false) (xs:=[x]) j k r j k t s (by rw[ik];simp) (by grind) dy J;exact⟨e,c,p,n.trans o.xt⟩
end
end
end Go.TI
namespace Go.Proofs.YtajpdafdickapaaGreatDoor
noncomputable section
open Go Go.TI Tryz
attribute [-simp] List.map_take List.map_drop List.map_append fw eY eg Bool.not_or Bool.not_and
attribute [simp] fq eZ
section
attribute [-simp] size_cons
abbrev gG(a:List Int):List T:=a.map (T.int .i64)
def tn1(a:List Int):T:=sl (a.map (T.int .i64))
def Tv(e d:Nat)(b c:T)(a:Nat):Prop:=e<=a/\a<d/\dS b≠some a/\dS c≠some a
structure BT(lo hi:Nat)(h:H)(a b:T)(es:List T)(s:eG):Prop where
 ga:Gr h a 1 (gG s.iY)
 gb:Gr h b 1 es
 el:iF (λe l=>pK h 1 e (gG l)/\∀c,dS e=some c->Tv lo hi a b c) es s.kf
 ba:∀c,dS a=some c->lo<=c/\c<hi/\dS b≠some c
 bb:∀c,dS b=some c->lo<=c/\c<hi
def Ce(a:eG)(b c:T):T:= .agg [Z a.pC,b,c,Z a.dJ]
structure TSr(h:H)(a b:T)(es:List T)(s:eG):Prop where
 ra:pK h 1 a (gG s.iY)
 rb:pK h 1 b es
 el:iF (λe l=>pK h 1 e (gG l)) es s.kf
 lt:∀e c,(e=a\/e=b\/e∈es)->dS e=some c->c<h.size
structure ICp where
 (s:eG) (a b:T) (es:List T)
def PZ(c:ICp)(e:List T)(d:H):Prop:=e=[Ce c.s c.a c.b]/\TSr d c.a c.b c.es c.s/\hU 0 d/\c.s.iY.length<=1000000/\c.s.kf.length<=1000000/\∀f∈c.s.kf,f.length<=1000000
def Kz(e:ICp)(h:List T)(d:H)(g:T)(a:H):Prop:=∃b c f,g=Ce e.s b c/\BT d.size a.size a b c f e.s/\Nb d a
structure CpS(s:eG)(a b aN:T)(h h':H)(i:Nat):Prop where
 ex:∃ver c es',nG h' (h.size+1+1+1) 4 ver [(Z s.pC,none),(aN,some (1,gG s.iY)),(c,some (1,es')),(Z s.dJ,none)]/\es'.length=i/\
  iF (λe l=>pK h' 1 e (gG l)/\∀k,dS e=some k->h.size+1<k/\k<h'.size/\¬Fp h' (h.size+1+1+1) k) es' (s.kf.take i)
 nb:Nb h h'
 l1:Lb (h.size+1+1+1) h' h.size (dE 4 0 [.agg [Z s.pC,a,b,Z s.dJ]])
 l2:Lb (h.size+1+1+1) h' (h.size+1) (dE 4 0 [.agg [Z 0,dD,dD,Z 0]])
 lo:∀c,Fp h' (h.size+1+1+1) c->h.size+1<c
def IM:(jI ICp PZ Kz).Ok prog cx 219:=by
 refine jx (tb:=⟨pt [],ht []⟩) iL iB (iQ 262175 [(1,[(1,7),(3,7),(7,9)]),(5,[(1,8)])] func219) (λ_ _=>1000005) (λC z h di=>by obtain⟨rfl,_⟩:=di;simp[f219]) ?_;rintro⟨b,z,l,S⟩ _ h ⟨rfl,v,bN,hr,dm,bC⟩ D M;simp only at v hr dm bC;simp[Ce]at M;have bS:=bN.hr;have O:∀t a,(t=z\/t=l\/t∈S)->dS t=some a->a<h.size:=v.lt;have⟨o,A⟩:∃o:H,o=((TI.hr h).cons (dE 4 0 [.agg [Z b.pC,z,l,Z b.dJ]])).cons (dE 4 0 [.agg [Z 0,dD,dD,Z 0]]):=⟨_,rfl⟩;have ea:hU 0 o:=by subst A;exact(bS.cons _).cons _
 have ca:o.size=h.size+1+1:=by subst A;rfl
 have bH:Nb (TI.hr h) o:=by subst A;exact((Nb.refl bS).cons _).cons _
 have c1:o.get h.size=some (dE 4 0 [.agg [Z b.pC,z,l,Z b.dJ]]):=by subst A;simp
 have c4:o.get (h.size+1)=some (dE 4 0 [.agg [Z 0,dD,dD,Z 0]]):=by subst A;simp
 have ef:pK o 1 z (gG b.iY):=v.ra.mono λa c=>(bH.get a (O z a (.inl rfl) c)).trans (gU h a);have⟨cy,m,K,⟨eP,eB,gA⟩,X,r,s⟩:=jV (cx:=cx) ea pF rfl Ak pF rfl rfl dy ef.jw (by simp[T.cells]) dz;simp[A]at K;have eL:h.low<=h.size:=bN.low;have Q:∀l,l<o.size->fh (o.cons (dE 1 0 [])) m l=true:=λl c9=>fD ((r l c9).trans (by rw[dT,ao J]));have b9:fh (o.cons (dE 1 0 [])) m m.size=true:=iU (lj _ dz);rw[ca]at Q;replace Q:=Q h.size J;rw[A]at Q b9;simp[f219,M,K,Q,b9];have a6:m.size=h.size+1+1+1:=J;simp only[a6];generalize bn:T.arr (h.size+1+1) cy 0 b.iY.length false=n;have gN:Gr m n 1 (gG b.iY):=by rw[<-bn];have:=Gr.new gA;rw[ca]at this;simpa using this
 have a7:∀a,dS n=some a->a=h.size+1+1:=λa c=>by rw[<-bn]at c;simp at c;exact c.symm
 have eN:hU 0 m:=s;refine fk b.kf.length J (λC D g=>CpS b z l n h g C/\dF D 1 (.ptr h.size 0 0 0)/\dF D 2 (.ptr (h.size+1) 0 0 0)/\dF D 3 (.ptr (h.size+1+1+1) 0 0 0)/\dF D 4 (Z C)) ?_ ?_ J ?_
 ·rintro C D g bB c7 ⟨⟨⟨ver,a,E,e,bu,R⟩,q,l1,l2,N⟩,m,ae,al,an⟩;have G:=e.get;simp at G;have eh:∀x,pK (g.cons x) 1 l S:=λx=>v.rb.mono λa c=>by have:=O l a (.inr (.inl rfl)) c;rw[dT,ao (by have:=q.ok.sz;omega)];exact q.get a this
  have ap:=v.el.length;have av:=(show pK g 1 l S from v.rb.mono λa c=>q.get a (O l a (.inr (.inl rfl)) c)).len (cx:=cx) g Kc _ rfl;have⟨u,hl⟩:∃u,b.kf[C]? =some u:=⟨_,az bB⟩;have dd:=ay hl;have⟨t,bs,bX⟩:=v.el.get hl;have eo:pK g 1 t (gG u):=bX.mono λa c=>q.get a (O t a (.inr (.inr (ay bs))) c);have⟨p,cb,cp⟩:=(eh (dE 1 0 [])).idx (te:=pS) rfl rfl bs bX.ir.2;have eb:hU 0 g:=e.ok;have⟨bi,L,K,⟨eR,eC,gA⟩,X,r,s⟩:=jV (cx:=cx) eb jQ rfl mz jQ rfl rfl dy eo.jw (by simp[T.cells]) (by have:=bC u dd;simp;omega);have ey:Step (h.size+1+1+1) g L:=(Nb.mk ⟨s.hp,s.low,J⟩ r:Nb g L).step e.lt;have b6:=e.step s λa c=>r a (e.fp a c);have⟨eA,eH,a8,aX⟩:=(b6.gr 2 rfl).yQ (cx:=cx) s RR rfl jQ rfl dy (x:= .arr g.size bi 0 (gG u).length false) rfl dz;have⟨bT,eO,ec⟩:=b6.app 2 rfl aX;have⟨P,b7⟩:=ec _ rfl;simp at bT P b7;simp[X]at K a8;have eu:∀a,a<g.size->fh (g.cons (dE 1 0 [])) L a=true:=λa c=>fD ((r a c).trans (by rw[dT,ao J]));have ds:(h.size=g.size)=False:=by have:=l1.lt;simp;omega
  have eM:(h.size+1+1+1=g.size)=False:=by have:=e.lt;simp;omega
  have et:=eu _ e.lt;have eD:=(r _ e.lt).trans G;simp[m,ae,al,an,l1.get,G,av,ap,bB,cb,cp,K,X,a8,bT,ds,et,dX,aX.1.ir,aX.1.cells,c7];have y:=ey.trans P;have eI:=y.ok.sz;have eF:L.size=g.size+1:=X;refine⟨⟨_,eA,E++[.arr g.size bi 0 u.length false],b7,by simp[bu],?_⟩,?_,l1.step y,l2.step y,λa c=>?_⟩
  ·have dk:b.kf.take (C+1)=b.kf.take C++[u]:=by
    rw[List.take_add_one,hl];rfl
   rw[dk];refine iF.append (R.imp λt u k=>⟨k.1.mono λd i=>?_,λd i=>?_⟩) (.cons ⟨.inr ?_,λd i=>?_⟩ .nil)
   ·have⟨aA,U,I⟩:=k.2 d i;exact y.get d U I
   ·have⟨aA,U,I⟩:=k.2 d i;exact⟨aA,J,λf=>(y.fp d f).elim I λf=>by omega⟩
   ·have B:¬Fp L (h.size+1+1+1) g.size:=λf=>by
     rw[iT (r _ e.lt)]at f;have:=e.fp _ f;omega
    have:=Gr.new ((P.get g.size J B).trans gA);simpa using this
   ·simp at i;subst i;refine⟨by have:=l2.lt;omega,by have:=P.ok.sz;omega,λf=>?_⟩;rcases P.fp _ f with f|f
    ·rw[iT (r _ e.lt)]at f;have:=e.fp _ f;omega
    ·omega
  ·refine⟨⟨y.ok.hp,y.ok.low,by have:=q.ok.sz;omega⟩,λa c=>?_⟩;exact(y.get a (by have:=q.ok.sz;omega) λf=>by have:=N a f;omega).trans (q.get a c)
  ·rcases y.fp a c with f|f
   ·exact N a f
   ·have:=l2.lt;omega
 ·rintro D g ⟨⟨⟨ver,a,E,e,bu,R⟩,q,l1,l2,N⟩,m,ae,al,an⟩;have G:=e.get;simp at G;have ap:=v.el.length;have av:=(show pK g 1 l S from v.rb.mono λa c=>q.get a (O l a (.inr (.inl rfl)) c)).len (cx:=cx) g Kc _ rfl;rw[aK]at R;have c6:∀W,(dY g (h.size+1) W).get (h.size+1)=some W:=λW=>(dN l2.get W _).trans (aq rfl);have V:=e.qD l2 (dE 4 1 [.agg [Z b.pC,n,a,Z b.dJ]]);simp[m,ae,al,an,l1.get,l2.get,G,av,ap,dX,c6];have b8:=V.step (V.ok.out h) λa _=>fW h _ a;have de:∀d,h.size+1<d->(dY g (h.size+1) (dE 4 1 [.agg [Z b.pC,n,a,Z b.dJ]])).get d=g.get d:=λd i=>by rw[dN l2.get,ao J]
  have eE:=e.gr 2 rfl;have aE:(n,some (1,gG b.iY))∈ [((Z b.pC:T),(none:aa (Nat×List T))),(n,some (1,gG b.iY)),(a,some (1,E)),(Z b.dJ,none)]:=dy;have aN:(a,some (1,E))∈ [((Z b.pC:T),(none:aa (Nat×List T))),(n,some (1,gG b.iY)),(a,some (1,E)),(Z b.dJ,none)]:=dy;refine⟨n,a,E,rfl,⟨b8.gr 1 rfl,b8.gr 2 rfl,R.imp λt u k=>⟨k.1.mono λd i=>?_,λd i=>?_⟩,λd i=>?_,λd i=>?_⟩,⟨⟨(V.ok.out h).hp,(V.ok.out h).low,by simp;exact q.ok.sz⟩,λd i=>?_⟩⟩
  ·rw[fW];exact de d (k.2 d i).1
  ·have⟨aA,U,I⟩:=k.2 d i;exact⟨J,by simpa using U,λk=>I (e.Cp aE k),λk=>I (e.Cp aN k)⟩
  ·have:=e.fp d (e.Cp aE i);have:=N d (e.Cp aE i);exact⟨J,by simpa,e.WF 1 2 dB _ _ rfl rfl d i⟩
  ·have:=e.fp d (e.Cp aN i);have:=N d (e.Cp aN i);exact⟨J,by simpa⟩
  ·rw[fW,dN l2.get,ao J];exact q.get d i
 ·have dn:m.low<=h.size+1+1+1:=by have:=s.low;omega
  have dv:Nb h m:=⟨⟨s.hp,s.low,J⟩,λa c=>(r a J).trans ((bH.get a c).trans (gU h a))⟩;have⟨er,cL⟩:=nG.one (i0:=1) (h:=m.cons (dE 4 1 [.agg [Z b.pC,n,dD,Z b.dJ]])) (w:=h.size+1+1+1) (szw:=4) (ver:=1) (F:=[(Z b.pC,none),(n,some (1,gG b.iY)),(dD,some (1,[])),(Z b.dJ,none)]) (s.cons _) (by simp[a6]) (λf B=>by
   simp only[cr,cN,or_false]at B;rcases B with rfl|rfl|rfl|rfl
   ·show dS _=none;simp
   ·exact⟨gN.mono λa c=>by rw[a7 a c,dT,ao J],show(1:Nat)≠4 by decide⟩
   ·exact⟨Gr.nil _ _,dB⟩
   ·show dS _=none;simp) (λj z M k=>by
   rcases j with _|_|_|_|j<;>simp at M<;>subst M<;>simp at k|-)
  have Y:∀a,Fp (m.cons (dE 4 1 [.agg [Z b.pC,n,dD,Z b.dJ]])) (h.size+1+1+1) a->h.size+1<a:=λa c=>by
   rcases cL a c with k|⟨f,B,k⟩
   ·omega
   ·simp at B;subst B;have:=a7 a k;omega
  simp[a6,dn];refine⟨⟨_,_,[],er,rfl,.nil⟩,dv.cons _,⟨?_,λk=>?_⟩,⟨?_,λk=>?_⟩,Y⟩
  ·rw[dT,ao J];exact(r h.size J).trans c1
  ·have:=Y _ k;omega
  ·rw[dT,ao J];exact(r (h.size+1) J).trans c4
  ·have:=Y _ k;omega
def Vq(b c:H)(d:T)(e:List Int):Prop:=pK c 1 d (gG e)/\Nb b c/\∀a,dS d=some a->b.size<=a
structure IUn where
 (x y:List Int) (u v:T)
def PT(a:IUn)(c:List T)(b:H):Prop:=c=[a.u,a.v]/\pK b 1 a.u (gG a.x)/\pK b 1 a.v (gG a.y)/\a.x.length+a.y.length<=10000000/\hU 0 b
def Kw(a:IUn)(e:List T)(b:H)(d:T)(c:H):Prop:=Vq b c d (AE a.x a.y)
def Pl(b:T)(a:List Int):Prop:=(b= dD/\a=[])\/b=sl (gG a)
def Pl.qP{a:T}{b:List Int}(d:Pl a b)(c:H):qP c a=some (sl (gG b))/\j4 a=true/\a.ir=true:=by
 rcases d with⟨rfl,rfl⟩|rfl<;>simp
def Pl.rd{a:T}{b:List Int}(d:Pl a b)(c:H):pK c 1 a (gG b)/\dS a=none:=by
 rcases d with⟨rfl,rfl⟩|rfl
 ·exact⟨.inr (Gr.nil _ _),rfl⟩
 ·exact⟨.inl rfl,dy⟩
def IA:(jI IUn PT Kw).Ok prog cx 95:=by
 refine jx (tb:=⟨pt [(70,Kq)],ht []⟩) iL iB (iQ 8390899 [] func95) (λ_ _=>10000005) (λi O b L=>by obtain⟨rfl,_⟩:=L;simp[f95]) ?_;rintro⟨x,g,H,A⟩ _ b ⟨rfl,D,F,hl,M⟩ c B;simp only at D F hl;simp at B;obtain⟨k,d⟩:=B;have E:pK (hr b) 1 H (gG x):=D.mono λl _=>gU b l;have G:pK (hr b) 1 A (gG g):=F.mono λl _=>gU b l;have y:=E.len (cx:=cx) (hr b) pS _ rfl;have z:=G.len (cx:=cx) (hr b) pS _ rfl;rw[aG]at y z;simp[f95];refine fk x.length J (λa c s=>s=hr b/\dF c 0 H/\dF c 1 A/\dF c 6 (Z a)/\∃f,dF c 5 f/\Pl f (mg [] (x.take a))) ?_ ?_ J (by simp[k,d];exact .inl ⟨rfl,rfl⟩)
 ·rintro a c _ j v ⟨rfl,k,d,t,f,h,e⟩;have⟨N,m,n⟩:=E.idx (te:=Ev) rfl rfl (i:=a) (x:= Z x[a]) (by simp[j]) rfl;have w:=yw [] (x.take a);simp at w;have⟨q,r,I⟩:=e.qP (hr b);have o:=λ{tb:fy} (ht:tb.p 70=some Kq)=>adj ht (mg [] (x.take a)) x[a] J;simp[k,d,h,t,y,j,v,m,n,q,r,o,BA [] x j];exact .inr rfl
 ·rintro c _ ⟨rfl,k,d,t,f,h,e⟩;rw[aK]at e;simp[k,t,y];refine fk g.length J (λa c s=>s=hr b/\dF c 1 A/\dF c 7 (Z a)/\∃f,dF c 5 f/\Pl f (mg (mg [] x) (g.take a))) ?_ ?_ J (by simp[d,h];exact e)
  ·rintro a c _ j v ⟨rfl,d,u,f,h,e⟩;have⟨N,m,n⟩:=G.idx (te:=Ev) rfl rfl (i:=a) (x:= Z g[a]) (by simp[j]) rfl;have w:=yw (mg [] x) (g.take a);have K:=yw [] x;simp at w K;have⟨q,r,I⟩:=e.qP (hr b);have o:=λ{tb:fy} (ht:tb.p 70=some Kq)=>adj ht (mg (mg [] x) (g.take a)) g[a] J;simp[d,h,u,z,j,v,m,n,q,r,o,BA (mg [] x) g j];exact .inr rfl
  ·rintro c _ ⟨rfl,d,u,f,h,e⟩;rw[aK]at e;simp[d,h,u,z];have⟨r1,r2⟩:=e.rd (lO b (hr b));exact⟨r1,(Nb.refl M.hr).out,λl C=>by rw[r2]at C;simp at C⟩
def Lk(f:H)(d:Nat->Prop)(e:T)(c:dU):Prop:=∃a,e= .agg [Z c.iZ,a]/\pK f 1 a (gG c.eJ)/\∀b,dS a=some b->d b
structure Ca(lo hi:Nat)(h:H)(c0 c2 c3:T)(es:List T)(S:fH):Prop where
 g0:Gr h c0 2 es
 g2:Gr h c2 1 (S.done.map T.bool)
 g3:Gr h c3 3 (S.dH.map dM.t)
 el:iF (Lk h λc=>lo<=c/\c<hi/\dS c0≠some c/\dS c2≠some c/\dS c3≠some c) es S.ei
 b:∀c,(dS c0=some c\/dS c2=some c\/dS c3=some c)->lo<=c/\c<hi
def Nr(a:fH)(b c d:T):T:= .agg [b,Z a.tx,c,d]
def FC(a:fH)(b:List T)(c:H):Prop:=b=[a.t]/\hU 0 c/\a.ei.length<=1000000/\a.done.length<=1000000/\a.dH.length<=1000000/\∀d∈a.ei,d.eJ.length<=1000000
def KA(b:fH)(i:List T)(f:H)(h:T)(a:H):Prop:=∃c d e g,h=Nr b c d e/\Ca f.size a.size a c d e g b/\Nb f a
structure C8(S:fH)(c2 c3:T)(h h':H)(i:Nat):Prop where
 ex:∃ver c0 es,nG h' (h.size+1+1+1+1) 4 ver [(c0,some (2,es)),(Z S.tx,none),(c2,some (1,S.done.map T.bool)),(c3,some (3,S.dH.map dM.t))]/\es.length=i/\
  iF (Lk h' λk=>h.size+1<k/\k<h'.size/\¬Fp h' (h.size+1+1+1+1) k) es (S.ei.take i)
 nb:Nb h h'
 l1:Lb (h.size+1+1+1+1) h' h.size (dE 4 0 [S.t])
 l2:Lb (h.size+1+1+1+1) h' (h.size+1) (dE 4 0 [.agg [dD,Z 0,dD,dD]])
 lo:∀c,Fp h' (h.size+1+1+1+1) c->h.size+1<c
def Do:(jI fH FC KA).Ok prog cx 46:=by
 refine jx (tb:=⟨pt [],ht []⟩) iL iB (iQ 1048607 [(1,[(1,5),(5,6),(5,8),(1,9),(5,11),(9,11)]),(5,[(1,15),(3,15),(5,15),(7,15)])] func46) (λ_ _=>1000005) (λz I b et=>by obtain⟨rfl,_⟩:=et;simp[f46]) ?_;rintro c _ b ⟨rfl,eD,hl,e0,ht,hr⟩ G D;simp at D;have bH:=eD.hr;have⟨p,C⟩:∃p:H,p=((TI.hr b).cons (dE 4 0 [c.t])).cons (dE 4 0 [.agg [dD,Z 0,dD,dD]]):=⟨_,rfl⟩;have eE:hU 0 p:=by subst C;exact(bH.cons _).cons _
 have eR:p.size=b.size+1+1:=by subst C;rfl
 have eC:Nb b p:=by subst C;exact⟨(((Nb.refl bH).cons _).cons _).ok,λa h=>((((Nb.refl bH).cons _).cons _).get a h).trans (gU b a)⟩
 have cp:p.get b.size=some (dE 4 0 [c.t]):=by subst C;simp
 have ea:p.get (b.size+1)=some (dE 4 0 [.agg [dD,Z 0,dD,dD]]):=by subst C;simp
 have⟨bi,o,K,⟨e9,eS,gA⟩,a6,m,Q⟩:=jV (cx:=cx) eE (x:=sl (c.done.map T.bool)) (xs:=c.done.map T.bool) Bh rfl MF Bh rfl rfl dy dy (λe eh=>by obtain⟨n,_,rfl⟩:=List.mem_map.1 eh;rfl) dz;have⟨M,k,L,⟨eN,dv,cy⟩,fb,P,okB⟩:=jV (cx:=cx) Q (x:=sl (c.dH.map dM.t)) (xs:=c.dH.map dM.t) D8 rfl HE D8 rfl rfl dy dy dy dz;have b9:o.size=b.size+1+1+1:=J;have Y:k.size=b.size+1+1+1+1:=J;have W:∀n,n<p.size->fh (p.cons (dE 1 0 [])) o n=true:=λn U=>fD ((m n U).trans (by rw[dT,ao J]));have dd:∀n,n<o.size->fh (o.cons (dE 3 0 [])) k n=true:=λn U=>fD ((P n U).trans (by rw[dT,ao J]));have bT:=W b.size J;have de:=dd b.size J;have b6:fh (p.cons (dE 1 0 [])) o (b.size+1+1+1+1)=true:=iU (lj _ dz);have di:fh (o.cons (dE 3 0 [])) k (b.size+1+1+1+1)=true:=iU (lj _ dz);have bX:fh (p.cons (dE 1 0 [])) o (b.size+1+1+1)=true:=iU (lj _ dz);have bs:=(m b.size J).trans cp;have ec:=(P b.size J).trans bs;simp[C]at K;simp[b9]at L;rw[C]at bT bX b6;simp[f46,D,K,L,bT,bX,de,b6,di,bs,b9,Y];have dn:=(show Gr k (.arr (b.size+1+1) bi 0 c.done.length false) 1 (c.done.map T.bool)by
  have:=Gr.new ((P p.size J).trans gA);rw[eR]at this;simpa using this)
 have ds:=(show Gr k (.arr (b.size+1+1+1) M 0 c.dH.length false) 3 (c.dH.map dM.t)by
  have:=Gr.new cy;rw[b9]at this;simpa using this)
 have eB:Nb b k:=⟨⟨okB.hp,okB.low,J⟩,λa h=>(P a J).trans ((m a J).trans (eC.get a h))⟩;have eO:=(P b.size J).trans ((m b.size J).trans cp);have eP:=(P (b.size+1) J).trans ((m (b.size+1) J).trans ea);have ey:k.low<=b.size+1+1+1+1:=by have:=okB.low;omega
 have ca:∀a,dS (.arr (b.size+1+1) bi 0 c.done.length false)=some a->a=b.size+1+1:=λa q=>by simpa using q.symm
 have cb:∀a,dS (.arr (b.size+1+1+1) M 0 c.dH.length false)=some a->a=b.size+1+1+1:=λa q=>by simpa using q.symm
 clear K L W dd bT bX b6 de di bs ec gA cy;generalize T.arr (b.size+1+1) bi 0 c.done.length false=r at*
 generalize T.arr (b.size+1+1+1) M 0 c.dH.length false=s at*
 refine fk c.ei.length J (λz G i=>C8 c r s b i z/\dF G 1 (.ptr b.size 0 0 0)/\dF G 2 (.ptr (b.size+1) 0 0 0)/\dF G 3 (.ptr (b.size+1+1+1+1) 0 0 0)/\dF G 4 (Z z)) ?_ ?_ J ?_
 ·rintro z G i av ef ⟨⟨⟨eM,A,B,d,cL,ae⟩,O,l1,l2,aE⟩,o,k,al,an⟩;have N:=d.get;simp at N;have⟨l,ap⟩:∃l,c.ei[z]? =some l:=⟨_,az av⟩;have e5:=hr l (ay ap);have⟨M,S,K,⟨eN,dv,gA⟩,a6,m,Q⟩:=jV (cx:=cx) d.ok (x:=sl (gG l.eJ)) (xs:=gG l.eJ) jQ rfl mz jQ rfl rfl dy dy (by simp[T.cells]) dz;have eI:Step (b.size+1+1+1+1) i S:=(Nb.mk ⟨Q.hp,Q.low,J⟩ m:Nb i S).step d.lt;have dk:=d.step Q λa h=>m a (d.fp a h);have⟨eL,eX,L,b8⟩:=(dk.gr 0 rfl).yQ (cx:=cx) Q Lr rfl HF rfl dy (x:= .agg [Z l.iZ,.arr i.size M 0 (gG l.eJ).length false]) rfl dz;have⟨aN,e8,bN⟩:=dk.app 0 rfl b8;have⟨X,dm⟩:=bN _ rfl;simp at aN X dm;simp[a6]at K L;have W:∀a,a<i.size->fh (i.cons (dE 1 0 [])) S a=true:=λa h=>fD ((m a h).trans (by rw[dT,ao J]));have eA:(b.size=i.size)=False:=by have:=l1.lt;simp;omega
  have e7:(b.size+1+1+1+1=i.size)=False:=by have:=d.lt;simp;omega
  have eF:=W _ d.lt;have eH:=W _ l1.lt;have eV:=(m _ d.lt).trans N;have eU:=(m _ l1.lt).trans l1.get;simp[o,al,an,l1.get,N,av];have er:c.ei[z]=l:=by rw[az av]at ap;simpa using ap
  simp[o,k,al,an,av,er,K,a6,L,aN,eA,eF,eH,dX,b8.1.ir,b8.1.cells,ef];have w:=eI.trans X;have e6:=w.ok.sz;have eW:S.size=i.size+1:=a6;refine⟨⟨_,eL,B++[.agg [Z l.iZ,.arr i.size M 0 l.eJ.length false]],dm,by simp[cL],?_⟩,?_,l1.step w,l2.step w,λa h=>?_⟩
  ·have eu:c.ei.take (z+1)=c.ei.take z++[l]:=by
    rw[List.take_add_one,ap];rfl
   rw[eu];refine iF.append (ae.imp λe l ⟨bS,a7,a8,R⟩=>⟨bS,a7,a8.mono λg j=>?_,λg j=>?_⟩) (.cons ⟨_,rfl,.inr ?_,λg j=>?_⟩ .nil)
   ·have⟨bB,aA,F⟩:=R g j;exact w.get g aA F
   ·have⟨bB,aA,F⟩:=R g j;exact⟨bB,J,λf=>(w.fp g f).elim F λf=>by omega⟩
   ·have E:¬Fp S (b.size+1+1+1+1) i.size:=λf=>by
     rw[iT (m _ d.lt)]at f;have:=d.fp _ f;omega
    have:=Gr.new ((X.get i.size J E).trans gA);simpa using this
   ·simp at j;subst j;refine⟨by have:=l2.lt;omega,by have:=X.ok.sz;omega,λf=>?_⟩;rcases X.fp _ f with f|f
    ·rw[iT (m _ d.lt)]at f;have:=d.fp _ f;omega
    ·omega
  ·refine⟨⟨w.ok.hp,w.ok.low,by have:=O.ok.sz;omega⟩,λa h=>?_⟩;exact(w.get a (by have:=O.ok.sz;omega) λf=>by have:=aE a f;omega).trans (O.get a h)
  ·rcases w.fp a h with f|f
   ·exact aE a f
   ·have:=l2.lt;omega
 ·rintro G i ⟨⟨⟨eM,A,B,d,cL,ae⟩,O,l1,l2,aE⟩,o,k,al,an⟩;have N:=d.get;simp at N;rw[aK]at ae;have eb:∀y,(dY i (b.size+1) y).get (b.size+1)=some y:=λy=>(dN l2.get y _).trans (aq rfl);have aX:=d.qD l2 (dE 4 1 [.agg [A,Z c.tx,r,s]]);simp[o,k,al,an,l1.get,l2.get,N,dX,eb];have b7:=aX.step (aX.ok.out b) λa _=>fW b _ a;have c4:(A,some (2,B))∈ [(A,some (2,B)),((Z c.tx:T),(none:aa (Nat×List T))),(r,some (1,c.done.map T.bool)),(s,some (3,c.dH.map dM.t))]:=dy;have c6:(r,some (1,c.done.map T.bool))∈ [(A,some (2,B)),((Z c.tx:T),(none:aa (Nat×List T))),(r,some (1,c.done.map T.bool)),(s,some (3,c.dH.map dM.t))]:=dy;have c7:(s,some (3,c.dH.map dM.t))∈ [(A,some (2,B)),((Z c.tx:T),(none:aa (Nat×List T))),(r,some (1,c.done.map T.bool)),(s,some (3,c.dH.map dM.t))]:=dy;refine⟨A,r,s,B,rfl,⟨b7.gr 0 rfl,b7.gr 2 rfl,b7.gr 3 rfl,ae.imp λe l ⟨bS,a7,a8,R⟩=>⟨bS,a7,a8.mono λg j=>?_,λg j=>?_⟩,λg j=>?_⟩,⟨⟨(aX.ok.out b).hp,(aX.ok.out b).low,by simp;exact O.ok.sz⟩,λg j=>?_⟩⟩
  ·rw[fW,dN l2.get,ao (by have:=(R g j).1;omega)]
  ·have⟨bB,aA,F⟩:=R g j;exact⟨J,by simpa using aA,λq=>F (d.Cp c4 q),λq=>F (d.Cp c6 q),λq=>F (d.Cp c7 q)⟩
  ·have E:Fp i (b.size+1+1+1+1) g:=by
    rcases j with q|q|q
    ·exact d.Cp c4 q
    ·exact d.Cp c6 q
    ·exact d.Cp c7 q
   have:=d.fp g E;have:=aE g E;exact⟨J,by simpa⟩
  ·rw[fW,dN l2.get,ao J];exact O.get g j
 ·have bC:∀(u:Nat) (I:T×aa (Nat×List T)) a,[(T.dK [] false,some (2,[])),((Z c.tx:T),(none:aa (Nat×List T))),(r,some (1,c.done.map T.bool)),(s,some (3,c.dH.map dM.t))][u]? =some I->dS I.1=some a->a=b.size+u:=λu I a D q=>by
   rcases u with _|_|_|_|u<;>simp at D<;>subst D
   ·simp at q
   ·simp at q
   ·have:=ca a q;omega
   ·have:=cb a q;omega
  have c9:nG (k.cons (dE 4 1 [.agg [dD,Z c.tx,r,s]])) (b.size+1+1+1+1) 4 1 [(T.dK [] false,some (2,[])),(Z c.tx,none),(r,some (1,c.done.map T.bool)),(s,some (3,c.dH.map dM.t))]:=by
   refine⟨okB.cons _,by simp[Y],λf E=>?_,λu g e4 I n D U a aN bN=>?_⟩
   ·simp only[cr,cN,or_false]at E;rcases E with rfl|rfl|rfl|rfl
    ·exact⟨Gr.nil _ _,show(2:Nat)≠4 by decide⟩
    ·show dS _=none;simp
    ·exact⟨dn.mono λa h=>by have:=ca a h;rw[dT,ao (by rw[Y];omega)],show(1:Nat)≠4 by decide⟩
    ·exact⟨ds.mono λa h=>by have:=cb a h;rw[dT,ao (by rw[Y];omega)],show(3:Nat)≠4 by decide⟩
   ·have:=bC u I a D aN;have:=bC g n a U bN;omega
  have bn:∀a,Fp (k.cons (dE 4 1 [.agg [dD,Z c.tx,r,s]])) (b.size+1+1+1+1) a->b.size+1<a:=λa h=>by
   rcases h with q|⟨x,bu,v,c1,q⟩
   ·omega
   ·rw[c9.get]at bu;simp only[ar]at bu;subst bu;simp only[fF,br,cK,bP,T.cells]at c1;obtain⟨f,eo,rfl⟩:=List.mem_map.1 c1;have⟨u,V⟩:=cM eo;have j:=bC u f a V q;rcases u with _|_|u
    ·simp at V;subst V;simp at q
    ·simp at V;subst V;simp at q
    ·omega
  simp[Y,ey];refine⟨⟨_,_,[],c9,rfl,.nil⟩,eB.cons _,⟨?_,λq=>?_⟩,⟨?_,λq=>?_⟩,bn⟩
  ·rw[dT,ao J];exact eO
  ·have:=bn _ q;omega
  ·rw[dT,ao J];exact eP
  ·have:=bn _ q;omega
structure Ac(h0 h':H)(v:T)(l:List Int):Prop where
 nb:Nb h0 h'
 g:Gr h' v 1 (gG l)
 lo:∀c,dS v=some c->h0.size<=c
def Ac.start{a:H}(b:hU 0 a):Ac a a dD []:=⟨Nb.refl b,Gr.nil _ _,λd c=>by simp at c⟩
def Ac.lP{m h:H}{n:T}{j:List Int}(a:Ac m h n j)(l:Int)(s:j.length<=10000000):∃d c,jc cx (h.cons (dE 1 0 [Z l])) 39 39 n (.arr h.size 0 0 1 false)=some (.val d c)/\Ac m c d (j++[l]):=by
 have⟨d,c,e,o,p,r,k⟩:=a.g.lP (cx:=cx) (f:=T.int .i64) ⟨a.nb.ok.hp,a.nb.ok.low,aw _⟩ jQ rfl mz rfl dy (λ_=>rfl) l dz;have:=a.nb.ok.sz;refine⟨d,c,e,⟨⟨k.hp,k.low,aO a.nb.ok.sz k.sz⟩,λb i=>(p b J λq=>by have:=a.lo b q;omega).trans (a.nb.get b i)⟩,o,λb i=>?_⟩;rcases r b i with q|q
 ·exact a.lo b q
 ·omega
def Ac.IQ{a c:H}{l:T}{i:List Int}{h:H}(e:Ac h c l i)(j:Nb a h):Vq a (lO a c) l i:=by
 have d:=j.trans e.nb;have k:hU 0 c:=⟨d.ok.hp,d.ok.low,aw _⟩;have:=j.ok.sz;exact⟨.inr (e.g.out a),⟨⟨(k.out a).hp,(k.out a).low,d.ok.sz⟩,λb f=>(fW a c b).trans (d.get b f)⟩,λb f=>by have:=e.lo b f;omega⟩
structure IWt where
 (S:fH) (c0 c2 c3:T) (c:Int)
def V5(a:IWt)(d:List T)(b:H):Prop:=d=[Nr a.S a.c0 a.c2 a.c3,Z a.c]/\Gr b a.c3 3 (a.S.dH.map dM.t)/\a.S.dH.length<=1000000/\hU 0 b
def P7(a:IWt)(f:List T)(b:H)(e:T)(d:H):Prop:=Vq b d e (iA a.c a.S.dH 0)
def J8(c:Int)(b:List dM)(a:Nat)(d:a<b.length):iA c (b.drop a) a=if b[a].iE=3/\b[a].cond=c then(a:Int)::iA c (b.drop (a+1)) (a+1)else iA c (b.drop (a+1)) (a+1):=by
 rw[aH d,iA]
def Di:(jI IWt V5 P7).Ok prog cx 49:=by
 refine jx (tb:=⟨pt [],ht []⟩) iL iB (iQ 1073743991 [] func49) (λ_ _=>1000005) (λi d a Q=>by obtain⟨rfl,_⟩:=Q;simp[f49]) ?_;rintro⟨b,k,l,c,j⟩ _ a ⟨rfl,o,hl,z⟩ m D;simp only at o hl;simp[Nr]at D;obtain⟨M,f⟩:=D;have S:=z.hr.cons (dE 4 0 [.agg [k,Z b.tx,l,c]]);have L:Gr ((hr a).cons (dE 4 0 [.agg [k,Z b.tx,l,c]])) c 3 (b.dH.map dM.t):=o.mono λe r=>by
  have⟨_,_,_,_,A,_⟩:=o.box r;rw[dT,ao (by have:=H.fa A;simp;omega),gU]
 have l3:∀e,dS c=some e->e<a.size:=λe r=>by have⟨_,_,_,_,A,_⟩:=o.box r;exact H.fa A
 have w:=λf:H=>o.len (cx:=cx) f No _ rfl;rw[aG]at w;simp[f49,M];have B:((hr a).cons (dE 4 0 [.agg [k,Z b.tx,l,c]])).get a.size=some (dE 4 0 [.agg [k,Z b.tx,l,c]]):=dy;have R:Nb a ((hr a).cons (dE 4 0 [.agg [k,Z b.tx,l,c]])):=⟨((Nb.refl z.hr).cons _).ok,λj P=>(((Nb.refl z.hr).cons _).get j P).trans (gU a j)⟩;have an:((hr a).cons (dE 4 0 [.agg [k,Z b.tx,l,c]])).size=a.size+1:=rfl;generalize Y:(hr a).cons (dE 4 0 [.agg [k,Z b.tx,l,c]])=N at*
 refine fk b.dH.length J (λh m h'=>∃s n,Ac N h' s n/\n.length<=h/\n++iA j (b.dH.drop h) h=iA j b.dH 0/\dF m 1 (Z j)/\dF m 2 (.ptr a.size 0 0 0)/\dF m 5 s/\dF m 6 (Z h)) ?_ ?_ J ⟨_,_,Ac.start S,aw _,rfl,by simp[f]⟩
 ·rintro h m h' x E ⟨s,n,d,O,g,f,p,u,q⟩;have v:=(d.nb.get a.size J).trans B;have⟨e,V,ae,W,al,U,G,I,C⟩:=(L.mono (h':=h') λe r=>d.nb.get e (by have:=l3 e r;omega)).B0 (te:=H8) rfl (i:=h) (by simpa using x);simp at C;rw[J8 j _ _ x]at g;simp[f,p,q,w,x,v,G,I,C];generalize b.dH[h]=t at*
  refine ee (λy=>?_) (λy=>?_)
  ·rw[aq (by simpa using y)]at g;have⟨T,X,K,F⟩:=d.lP (h:Int) J;simp[f,p,u,q,K,E];exact⟨T,_,F,dz,by simpa using g,rfl⟩
  ·rw[ao (by simpa using y)]at g;simp[f,p,u,q,E];exact⟨s,n,d,J,g,rfl⟩
 ·rintro m h' ⟨s,n,d,O,g,f,p,u,q⟩;have v:=(d.nb.get a.size J).trans B;simp[iA]at g;subst g;simp[p,u,q,w,v];exact d.IQ R
structure IWo where
 (l:List Int) (v:T) (n:Int)
def V6(a:IWo)(d:List T)(b:H):Prop:=d=[a.v,Z a.n]/\pK b 1 a.v (gG a.l)/\(∀c,dS a.v=some c->c<b.size)/\a.l.length<=1000000/\hU 0 b
def P8(a:IWo)(f:List T)(b:H)(d:T)(c:H):Prop:=Vq b c d (a.l.filter λe=> !decide (e=a.n))
def KE:(jI IWo V6 P8).Ok prog cx 96:=by
 refine jx (tb:=⟨pt [],ht []⟩) iL iB (iQ 263283 [] func96) (λ_ _=>1000005) (λi f h E=>by obtain⟨rfl,_⟩:=E;simp[f96]) ?_;rintro⟨l,I,r⟩ _ h ⟨rfl,t,z,hl,s⟩ e w;simp only at t z hl;simp at w;obtain⟨c,a⟩:=w;have F:Nb h (hr h):=⟨⟨s.hr.hp,s.hr.low,au _⟩,λj _=>gU h j⟩;have o:=λa:H=>t.len (cx:=cx) a pS _ rfl;rw[aG]at o;simp[f96];refine fk l.length J (λd e h'=>∃m g,Ac (hr h) h' m g/\g.length<=d/\g++(l.drop d).filter (λx=> !decide (x=r))=l.filter (λx=> !decide (x=r))/\dF e 0 I/\dF e 1 (Z r)/\dF e 5 m/\dF e 6 (Z d)) ?_ ?_ J ⟨_,_,Ac.start s.hr,aw _,rfl,by simp[c,a]⟩
 ·rintro d e h' p y ⟨m,g,f,C,b,c,a,n,k⟩;have⟨L,u,v⟩:=(t.mono (h':=h') λj D=>(f.nb.get j (by simpa using z j D)).trans (gU h j)).idx (te:=Ev) rfl rfl (i:=d) (x:= Z l[d]) (by simp[p]) rfl;rw[aH p,List.filter_cons]at b;simp[c,a,k,o,p,u,v];generalize l[d]=x at*
  refine ee (λq=>?_) (λq=>?_)
  ·rw[aq (by simpa using q)]at b;have⟨G,K,B,A⟩:=f.lP x J;simp[c,a,n,k,u,v,B,y];exact⟨G,_,A,dz,by simpa using b,rfl⟩
  ·rw[ao (by simpa using q)]at b;simp[c,a,n,k,y];exact⟨m,g,f,J,b,rfl⟩
 ·rintro e h' ⟨m,g,f,C,b,c,a,n,k⟩;simp at b;subst b;simp[c,n,k,o];exact f.IQ F
end
section
def oL{d:Type}{c:List d}{b:Nat}{a:d}(h:c[b]? =some a)(f:d->d):c.modify b f=c.set b (f a):=by
 apply cW;intro g;rw[List.getElem?_modify,cm];by_cases e:b=g
 ·subst e;have hi:b<c.length:=by
   rcases aQ b c.length with k|k
   ·exact k
   ·rw[bQ k]at h;simp at h
  rw[h];simp[hi]
 ·rw[ao e];simp[e]
section
variable {lo hi hi':Nat}{h h':H}{c0 c2 c3:T}{es:List T}{S:fH}
def Ca.mono(d:Ca lo hi h c0 c2 c3 es S)(l:hi<=hi')(f:∀a,lo<=a->a<hi->h'.get a=h.get a):Ca lo hi' h' c0 c2 c3 es S:=
 ⟨d.g0.mono λa c=>f a (d.b a (.inl c)).1 (d.b a (.inl c)).2,d.g2.mono λa c=>f a (d.b a (.inr (.inl c))).1 (d.b a (.inr (.inl c))).2,d.g3.mono λa c=>f a (d.b a (.inr (.inr c))).1 (d.b a (.inr (.inr c))).2,
   d.el.imp λk m ⟨j,g,i,e⟩=>⟨j,g,i.mono λa c=>f a (e a c).1 (e a c).2.1,λa c=>⟨(e a c).1,by have:=(e a c).2.1;omega,(e a c).2.2⟩⟩,λa c=>⟨(d.b a c).1,by have:=(d.b a c).2;omega⟩⟩
def Ca.tx(a:Ca lo hi h c0 c2 c3 es S)(c:Int):Ca lo hi h c0 c2 c3 es {S with tx:=c}:=⟨a.g0,a.g2,a.g3,a.el,a.b⟩
def Ca.pL(d:Ca lo hi h c0 c2 c3 es S){e l n:Nat}{m:Bool}{o:List T}(r:dS c3=some e)(g:h.get e=some ⟨3,l,n,m,false,o⟩)(i:Nat)(k:dM):
 Ca lo hi (dY h e ⟨3,l,n+1,m,false,o.set i k.t⟩) c0 c2 c3 es {S with dH:=S.dH.set i k}:=by
 have p:∀a,a≠e->(dY h e ⟨3,l,n+1,m,false,o.set i k.t⟩).get a=h.get a:=λa c=>by rw[dN g,ao c]
 refine⟨d.g0.mono λa c=>p a λf=>?_,d.g2.mono λa c=>p a λf=>?_,?_,d.el.imp λf w ⟨v,s,u,q⟩=>⟨v,s,u.mono λa c=>p a λf=>(q a c).2.2.2.2 (by rw[f];exact r),q⟩,d.b⟩
 ·subst f;have⟨_,_,_,_,j,_⟩:=d.g0.box c;rw[g]at j;simp at j
 ·subst f;have⟨_,_,_,_,j,_⟩:=d.g2.box c;rw[g]at j;simp at j
 ·have:=d.g3.setAt r g i k.t (h':=dY h e ⟨3,l,n+1,m,false,o.set i k.t⟩) (by rw[dN g,aq rfl]);simpa[bA]using this
def Ca.Z6(d:Ca lo hi h c0 c2 c3 es S){e l n:Nat}{m:Bool}{o:List T}(r:dS c2=some e)(g:h.get e=some ⟨1,l,n,m,false,o⟩)(i:Nat)(k:Bool):
 Ca lo hi (dY h e ⟨1,l,n+1,m,false,o.set i (.bool k)⟩) c0 c2 c3 es {S with done:=S.done.set i k}:=by
 have p:∀a,a≠e->(dY h e ⟨1,l,n+1,m,false,o.set i (.bool k)⟩).get a=h.get a:=λa c=>by rw[dN g,ao c]
 refine⟨d.g0.mono λa c=>p a λf=>?_,?_,d.g3.mono λa c=>p a λf=>?_,d.el.imp λf v ⟨u,s,t,q⟩=>⟨u,s,t.mono λa c=>p a λf=>(q a c).2.2.2.1 (by rw[f];exact r),q⟩,d.b⟩
 ·subst f;have⟨_,_,_,_,j,_⟩:=d.g0.box c;rw[g]at j;simp at j
 ·have:=d.g2.setAt r g i (.bool k) (h':=dY h e ⟨1,l,n+1,m,false,o.set i (.bool k)⟩) (by rw[dN g,aq rfl]);simpa[bA]using this
 ·subst f;have⟨_,_,_,_,j,_⟩:=d.g3.box c;rw[g]at j;simp at j
def Ca.rg(e:Ca lo hi h c0 c2 c3 es S){g m p:Nat}{n:Bool}{q:List T}(o:dS c0=some g)(i:h.get g=some ⟨2,m,p,n,false,q⟩)(f:Nat){rv:T}{k:dU}(hr:pK h 1 rv (gG k.eJ))(s:∀a,dS rv=some a->lo<=a/\a<hi/\dS c0≠some a/\dS c2≠some a/\dS c3≠some a):
 Ca lo hi (dY h g ⟨2,m,p+1,n,false,q.set f (.agg [Z k.iZ,rv])⟩) c0 c2 c3 (es.set f (.agg [Z k.iZ,rv])) {S with ei:=S.ei.set f k}:=by
 have l:∀a,a≠g->(dY h g ⟨2,m,p+1,n,false,q.set f (.agg [Z k.iZ,rv])⟩).get a=h.get a:=λa c=>by rw[dN i,ao c]
 refine⟨e.g0.setAt o i f _ (by rw[dN i,aq rfl]),e.g2.mono λa c=>l a λd=>?_,e.g3.mono λa c=>l a λd=>?_,e.el.set f ⟨rv,rfl,hr.mono λa c=>l a λd=>(s a c).2.2.1 (by rw[d];exact o),s⟩ λd v ⟨rv,t,u,r⟩=>⟨rv,t,u.mono λa c=>l a λd=>(r a c).2.2.1 (by rw[d];exact o),r⟩,e.b⟩
 ·subst d;have⟨_,_,_,_,j,_⟩:=e.g2.box c;rw[i]at j;simp at j
 ·subst d;have⟨_,_,_,_,j,_⟩:=e.g3.box c;rw[i]at j;simp at j
end
def Ca.fz{lo hi:Nat}{h:H}{c0 c2 c3:T}{es:List T}{S:fH}(a:Ca lo hi h c0 c2 c3 es S):TI.fz h c0=some (sl (S.ei.map dU.t))/\TI.fz h c2=some (sl (S.done.map T.bool))/\TI.fz h c3=some (sl (S.dH.map dM.t)):=by
 refine⟨?_,a.g2.fz dy,a.g3.fz dy⟩;exact a.g0.Jl (d:=4) J (a.el.X9 (f:=dU.t) λg j ⟨l,b,c,i⟩=>by
  subst b;exact .inr (.inr ⟨_,_,rfl,.cons (fV ..) (.cons (c.ft (d:=1) (V:=λ_=>True) (λm e=>by obtain⟨k,_,rfl⟩:=List.mem_map.1 e;simp) λ_ _=>trivial) .nil),rfl⟩))
def Ka{c:List Int}(h:JX c)(d:Int):AE c [d]=mp c d:=by
 have e:∀(a b:List Int),mg b a=a.foldl mp b:=by
  intro a;induction a with
  |nil=>intro b;rfl
  |cons g a f=>intro b;show mg (uw b g) a=_;rw[f,C6];rfl
 unfold AE;rw[e,e];exact Nl h d
end
section
attribute [-simp] size_cons
section
def uc{e d:Int}:∀{b:List dM} {c:Nat},d∈iA e b c->∃a:Nat,d=((c+a:Nat):Int)/\a<b.length:=by
 intro b;induction b with
 |nil=>intro c h;simp[iA]at h
 |cons k b j=>
  intro c h;rw[iA]at h;have f:d∈iA e b (c+1)->∃a:Nat,d=((c+a:Nat):Int)/\a<(k::b).length:=λh=>by
   have⟨a,g,i⟩:=j h;exact⟨a+1,by rw[g];simp;omega,by simpa using i⟩
  split at h
  ·rcases List.mem_cons.1 h with rfl|h
   ·exact⟨0,dy,dy⟩
   ·exact f h
  ·exact f h
def CH(c:Int):∀(a:List dM) (b:Nat),(iA c a b).length<=a.length:=by
 intro a;induction a with
 |nil=>intro b;simp[iA]
 |cons e a d=>intro b;rw[iA];have:=d (b+1);split<;>simp<;>omega
def Oh(T:List dM)(b:List Int):List dM:=b.foldl (λT (a:Int)=>T.modify a.toNat (kF 4)) T
def Us(g:Int):∀(c b:List dM),Oh (b++c) (iA g c b.length)=b++c.map λe=>if e.iE=3/\e.cond=g then kF 4 e else e:=by
 intro c;induction c with
 |nil=>intro b;simp[iA,Oh]
 |cons d c i=>
  intro b;rw[iA];split
  ·rename_i f;unfold Oh;rw[List.foldl_cons];have j:(b++d::c).modify ((b.length:Int).toNat) (kF 4)=(b++[kF 4 d])++c:=by
    rw[oL (a:=d) dy];simp
   rw[j];have:=i (b++[kF 4 d]);simp only[aS,aT,cQ]at this;unfold Oh at this;rw[this];simp[f]
  ·rename_i f;have:=i (b++[d]);simp only[aS,aT,cQ]at this;simp only[aZ,List.singleton_append]at this;rw[this];simp[f]
def Ur(a:List Int):∀T,(Oh T a).length=T.length:=by
 induction a with
 |nil=>intro T;rfl
 |cons c a b=>intro T;show(Oh (T.modify c.toNat (kF 4)) a).length=_;rw[b];simp
def Rl(T:List dM)(b:List Int){a:Nat}(c:a<b.length):Oh T (b.take (a+1))=(Oh T (b.take a)).modify b[a].toNat (kF 4):=by
 rw[aR c];unfold Oh;rw[List.foldl_append];rfl
def Cj{c:Type}(b:List c)(a:Nat)(d e:c->c):(b.modify a d).modify a e=b.modify a λi=>e (d i):=by
 apply cW;intro f;simp only[List.getElem?_modify];by_cases g:a=f
 ·simp[g];cases b[f]? <;>rfl
 ·simp[g]
structure Bs(c0 c2 c3:T)(h:H)(es:List T)(S:fH)(ver:Nat):Prop where
 sy:Ca 3 h.size h c0 c2 c3 es S
 ok:hU 0 h
 g1:h.get 1=some (dE 4 ver [.agg [c0,Z S.tx,c2,c3]])
 g2:h.get 2=some (dE 4 0 [.agg [dD,Z 0,dD,dD]])
section
variable {c0 c2 c3:T}{h h':H}{es:List T}{S:fH}{ver:Nat}
def Bs.nb(b:Bs c0 c2 c3 h es S ver)(a:Nb h h'):Bs c0 c2 c3 h' es S ver:=
 ⟨b.sy.mono a.ok.sz λc _ d=>a.get c d,⟨a.ok.hp,a.ok.low,aw _⟩,(a.get _ (H.fa b.g1)).trans b.g1,(a.get _ (H.fa b.g2)).trans b.g2⟩
theorem Bs.put(d:Bs c0 c2 c3 h es S ver){a:Nat}{x:iX}(f:h.get a=some x)(j:3<=a){g:iX}{e:List T}{b:fH}(i:Ca 3 h.size (dY h a g) c0 c2 c3 e b)(ht:b.tx=S.tx):Bs c0 c2 c3 (dY h a g) e b ver:=
 ⟨by rw[fJ];exact i,d.ok.put _ _,by rw[dN f,ao J,ht];exact d.g1,by rw[dN f,ao J];exact d.g2⟩
def Bs.pL(c:Bs c0 c2 c3 h es S ver){a e k:Nat}{f:Bool}{l:List T}(g:dS c3=some a)(j:h.get a=some ⟨3,e,k,f,false,l⟩){i:Nat}{me:dM}(m:S.dH[i]? =some me)(d:dM->dM):
 Bs c0 c2 c3 (dY h a ⟨3,e,k+1,f,false,l.set i (d me).t⟩) es {S with dH:=S.dH.modify i d} ver:=by
 have:=c.put j (c.sy.b a (.inr (.inr g))).1 (c.sy.pL g j i (d me)) rfl;rw[oL m];exact this
def Bs.rg(g:Bs c0 c2 c3 h es S ver){d i m:Nat}{j:Bool}{n:List T}(k:dS c0=some d)(l:h.get d=some ⟨2,i,m,j,false,n⟩){c:Nat}{f:dU}(hl:S.ei[c]? =some f)(e:dU->dU){rv:T}(hr:pK h 1 rv (gG (e f).eJ))(o:∀a,dS rv=some a->3<=a/\a<h.size/\dS c0≠some a/\dS c2≠some a/\dS c3≠some a):
 Bs c0 c2 c3 (dY h d ⟨2,i,m+1,j,false,n.set c (.agg [Z (e f).iZ,rv])⟩) (es.set c (.agg [Z (e f).iZ,rv])) {S with ei:=S.ei.modify c e} ver:=by
 have:=g.put l (g.sy.b d (.inl k)).1 (g.sy.rg k l c hr o) rfl;rw[oL hl];exact this
def Bs.Z6(c:Bs c0 c2 c3 h es S ver){a f k:Nat}{g:Bool}{l:List T}(i:dS c2=some a)(j:h.get a=some ⟨1,f,k,g,false,l⟩)(d:Nat)(e:Bool):Bs c0 c2 c3 (dY h a ⟨1,f,k+1,g,false,l.set d (.bool e)⟩) es {S with done:=S.done.set d e} ver:=
 c.put j (c.sy.b a (.inr (.inl i))).1 (c.sy.Z6 i j d e) rfl
def Bs.tx(a:Bs c0 c2 c3 h es S ver)(b:Int):Bs c0 c2 c3 (dY h 1 (dE 4 (ver+1) [.agg [c0,Z b,c2,c3]])) es {S with tx:=b} (ver+1):=
 ⟨by rw[fJ];exact(a.sy.tx b).mono (au _) λc d _=>by rw[dN a.g1,ao J],a.ok.put _ _,by rw[dN a.g1,aq rfl],by rw[dN a.g1,ao J];exact a.g2⟩
end
structure ApJ(w:dZ)(s:fH)(t k o wk:Int)(c0 c2 c3:T)(h:H)(n:Int):Prop where
 ex:∃S es ver,fg w s t k o wk=(S,n)/\Bs c0 c2 c3 h es S ver
def W8:fH:=⟨[],0,[],[]⟩
def yP(a:dZ×fH×Int×Int×Int×Int):T:=if js a.1 a.2.1 a.2.2.1 a.2.2.2.1 a.2.2.2.2.1=true then .tuple [(fg a.1 a.2.1 a.2.2.1 a.2.2.2.1 a.2.2.2.2.1 a.2.2.2.2.2).1.t,Z (fg a.1 a.2.1 a.2.2.1 a.2.2.2.1 a.2.2.2.2.1 a.2.2.2.2.2).2,.bool true]else .tuple [W8.t,Z 0,.bool false]
def Pt(a:fH):Prop:=a.ei.length<=1000000/\a.done.length<=1000000/\a.dH.length<=1000000/\(∀b∈a.ei,b.eJ.length<=1000000)/\a.BS
def rf:fP:=⟨dZ×fH×Int×Int×Int×Int,λa=>[a.1.t,a.2.1.t,Z a.2.2.1,Z a.2.2.2.1,Z a.2.2.2.2.1,Z a.2.2.2.2.2],λa=>a.1.gJ.length<=1099511627776/\Pt a.2.1,yP,λa b h=>by
 obtain⟨a1,a2,a3,a4,a5,c⟩:=a;obtain⟨d,e,f,g,i,j⟩:=b;simp at h;rw[dZ.inj h.1,fH.inj h.2.1,h.2.2.1,h.2.2.2.1,h.2.2.2.2.1,h.2.2.2.2.2]⟩
def FR:rf.Ok prog cx 51:=by
 refine yW (tb:=⟨pt [(47,mE),(31,BZ)],ht [(46,jI fH FC KA),(95,jI IUn PT Kw),(96,jI IWo V6 P8),(49,jI IWt V5 P7)]⟩) iL iB (iQ 829180818552508142370930303613581122868418894632663968482586879 [(17,[(1,11)]),(19,[(1,10)]),(30,[(4,9)]),(33,[(4,8)])] func51) (λ_=>1000005) (by simp[rf]) nl9 ?_;rintro⟨q,a,d,k,e,r⟩ ⟨di,hl,eM,ht,hr,eH⟩ C eF;simp at di hl eM ht hr eH;simp[rf,yP]at eF|-;obtain⟨eD,a7,I,dd,F,eE⟩:=eF;have eV:a.sm:=⟨J,J,J,λj u=>by have:=hr j u;omega⟩;cases dn:js q a d k e with
 |false=>
  simp[f51,eD,a7,I,dd,F,vC,di,eV,dn];rfl
 |true=>
  have ds:=dn;unfold js at ds;simp only[ax]at ds;obtain⟨⟨⟨eN,eP⟩,b8⟩,_⟩:=ds;have⟨e5,gE,e6⟩:=mT eN;simp[f51,eD,a7,I,dd,F,vC,di,eV,dn];generalize bi:((hE.cons _).cons _).cons _=bN;have gD:hU 0 bN:=by rw[<-bi];exact⟨dy,dy,dy⟩
  have gS:bN.size=3:=by rw[<-bi];rfl
  have fb:bN.get 0=some (dE 6 0 [q.t]):=by rw[<-bi];simp
  have fe:bN.get 1=some (dE 4 0 [a.t]):=by rw[<-bi];simp
  have ff:bN.get 2=some (dE 4 0 [.agg [dD,Z 0,dD,dD]]):=by rw[<-bi];simp
  clear bi;refine iy Do dy a ⟨rfl,gD,hl,eM,ht,hr⟩ ?_;rintro _ cp ⟨c0,c2,c3,es,rfl,e8,bu⟩;rw[gS]at e8;have hg:=bu.ok.sz;have gB:hU 0 cp:=⟨bu.ok.hp,bu.ok.low,aw _⟩;have bH:=(bu.get 1 J).trans fe;have fo:=(bu.get 0 J).trans fb;have fs:=(bu.get 2 J).trans ff;have c:Bs c0 c2 c3 (dY cp 1 (dE 4 1 [.agg [c0,Z a.tx,c2,c3]])) es a 1:=⟨by rw[fJ];exact e8.mono (au _) λo u _=>by rw[dN bH,ao J],gB.put _ _,by rw[dN bH,aq rfl],by rw[dN bH,ao J];exact fs⟩;have eC:(dY cp 1 (dE 4 1 [.agg [c0,Z a.tx,c2,c3]])).get 0=some (dE 6 0 [q.t]):=by rw[dN bH,ao J];exact fo
  simp[Nr,bH,dd];generalize dY cp 1 _=a8 at*
  have eR:=eP;rw[<-e6]at eR;have⟨me,K,gZ⟩:=iD eR;have bB:=em (eQ.1 eP).1;refine kQ (λC an=>∃n,ApJ q a d k e r c0 c2 c3 an n/\dF C 7 (.ptr 1 0 0 0)/\dF C 12 (.ptr 2 0 0 0)/\dF C 15 (Z n)) (λap=>?_) (λap=>?_) ?_
  ·have ap:k=1:=by simpa using ap
   subst ap
   ·have⟨D,ep,aE,ex,aN,w,l,s,m⟩:=c.sy.g3.at (x:=me.t) (i:=d.toNat) (by simp[K]);rw[aG]at w m;subst w;simp[I,c.g1,bB,l,s,m];exact⟨_,_,_,show fg q a d 1 e r=(a.pL d (kF 2),0)by simp[fg],c.pL rfl l K (kF 2)⟩
  ·have ap:¬k=1:=by simpa using ap
   rcases uC b8 with g|rfl|rfl|rfl|rfl|rfl|rfl|rfl|rfl|g|g|g|g
   ·exact absurd g ap
   ·have⟨D,ep,aE,ex,aN,w,l,s,m⟩:=c.sy.g3.at (x:=me.t) (i:=d.toNat) (by simp[K]);rw[aG]at w m;subst w;simp[I,c.g1,bB,l,s,m];exact⟨_,_,_,show fg q a d 2 e r=(a.pL d (kF 5),0)by simp[fg],c.pL rfl l K (kF 5)⟩
   ·simp;exact⟨_,_,_,show fg q a d 3 e r=(a,0)by simp[fg],c⟩
   ·simp;exact⟨_,_,_,show fg q a d 4 e r=(a,0)by simp[fg],c⟩
   ·simp;exact⟨_,_,_,show fg q a d 5 e r=(a,0)by simp[fg],c⟩
   ·simp[I,c.g1,dX];exact⟨_,_,_,show fg q a d 12 e r=({a with tx:=d},0)by simp[fg],c.tx d⟩
   ·simp[c.g1,dX];exact⟨_,_,_,show fg q a d 13 e r=({a with tx:=-1},0)by simp[fg],c.tx (-1)⟩
   ·have⟨D,ep,aE,ex,aN,w,l,s,m⟩:=c.sy.g3.at (x:=me.t) (i:=d.toNat) (by simp[K]);rw[aG]at w m;subst w;simp[I,c.g1,bB,l,s,m];exact⟨_,_,_,show fg q a d 14 e r=(a.pL d (λx=>{x with atomic:=true}),0)by simp[fg],c.pL rfl l K (λx=>{x with atomic:=true})⟩
   ·have⟨D,ep,aE,ex,aN,w,l,s,m⟩:=c.sy.g3.at (x:=me.t) (i:=d.toNat) (by simp[K]);rw[aG]at w m;subst w;simp[I,c.g1,bB,l,s,m];exact⟨_,_,_,show fg q a d 15 e r=(a.pL d (λx=>{x with atomic:=false}),0)by simp[fg],c.pL rfl l K (λx=>{x with atomic:=false})⟩
   ·have G:=kX b8 g;rw[<-e5]at G;have⟨W,L,gj⟩:=iD G;have E:=em (eQ.1 G).1;obtain⟨B,dm,rv,rfl,V,aA⟩:=c.sy.el.get L;obtain⟨D,ep,aE,ex,aN,rfl,l,s,m⟩:=c.sy.g0.at dm;have bS:=H.fa l;have gV:=(c.sy.b D (.inl rfl)).1;have eh:(1=a8.size)=False:=by have:=H.fa c.g1;simp;omega
    have ha:(D=a8.size)=False:=dz;have gv:=hr W (ay L);have e0:∀o,dS rv=some o->o<a8.size:=λo u=>(aA o u).2.1;rcases g with rfl|rfl|rfl|rfl|rfl|rfl
    ·simp[I,F,c.g1,E,l,s,m];exact⟨_,_,_,show fg q a d 6 e r=(a.rg e (λj=>{j with iZ:=d}),0)by simp[fg],c.rg rfl l L (λj=>{j with iZ:=d}) V aA⟩
    ·simp[F,c.g1,E,l,s,m];exact⟨_,_,_,show fg q a d 7 e r=(a.rg e (λj=>{j with iZ:=-1}),0)by simp[fg],c.rg rfl l L (λj=>{j with iZ:=-1}) V aA⟩
    ·simp[I,F,c.g1,E,l,s,m];refine mo IA dy ⟨W.eJ,[d],rv,.arr a8.size 0 0 1 false⟩ ⟨rfl,V.mono λo u=>by rw[dT,ao (by have:=e0 o u;omega)],.inr (Gr.new (ep:=0) (ver:=0) (ex:=true) (es:=[Z d]) dy),dz,c.ok.cons _⟩ ?_;rintro N al ⟨v,Q,et⟩;have e4:Nb a8 al:=((Nb.refl c.ok).cons (dE 1 0 [Z d])).trans Q;have P:=c.nb e4;have bX:=(e4.get D bS).trans l;have ey:=fD (Q.get 1 (by have:=H.fa c.g1;simp;omega));simp only at v;rw[Ka (eH W (ay L))]at v;have eu:∀o,dS N=some o->o<al.size:=λo u=>by
      rcases v with rfl|g
      ·simp at u
      ·have⟨_,_,_,_,k,_⟩:=g.box u;exact H.fa k
     simp[E,bX,s,m,ey,dX,v.ir.1,v.ir.2];exact⟨_,_,_,show fg q a d 8 e r=(a.rg e (λj=>{j with eJ:=mp j.eJ d}),0)by simp[fg],P.rg rfl bX L (λj=>{j with eJ:=mp j.eJ d}) v λo u=>by
      have eX:=et o u;simp at eX;have ef:=eu o u;exact⟨J,ef,λB=>by simp at B;omega,λB=>by have:=(c.sy.b o (.inr (.inl B))).2;omega,λB=>by have:=(c.sy.b o (.inr (.inr B))).2;omega⟩⟩
    ·simp[I,F,c.g1,E,l,s,m];refine mo KE dy ⟨W.eJ,rv,d⟩ ⟨rfl,V,e0,gv,c.ok⟩ ?_;rintro N al ⟨v,Q,et⟩;have P:=c.nb Q;have bX:=(Q.get D bS).trans l;have ey:=fD (Q.get 1 (H.fa c.g1));simp only at v;have eu:∀o,dS N=some o->o<al.size:=λo u=>by
      rcases v with rfl|g
      ·simp at u
      ·have⟨_,_,_,_,k,_⟩:=g.box u;exact H.fa k
     simp[E,bX,s,m,ey,dX,v.ir.1,v.ir.2];exact⟨_,_,_,show fg q a d 9 e r=(a.rg e (λj=>{j with eJ:=j.eJ.filter λN=> !decide (N=d)}),0)by simp[fg],P.rg rfl bX L (λj=>{j with eJ:=j.eJ.filter λN=> !decide (N=d)}) v λo u=>by
      have eX:=et o u;have ef:=eu o u;exact⟨J,ef,λB=>by simp at B;omega,λB=>by have:=(c.sy.b o (.inr (.inl B))).2;omega,λB=>by have:=(c.sy.b o (.inr (.inr B))).2;omega⟩⟩
    ·simp[I,F,c.g1,E,l,s,m];exact⟨_,_,_,show fg q a d 10 e r=(a.rg e (λj=>{j with iZ:=d}),0)by simp[fg],c.rg rfl l L (λj=>{j with iZ:=d}) V aA⟩
    ·simp[F,c.g1,E,l,s,m];exact⟨_,_,_,show fg q a d 11 e r=(a.rg e (λj=>{j with iZ:=-1}),0)by simp[fg],c.rg rfl l L (λj=>{j with iZ:=-1}) V aA⟩
   ·have G:=oK b8 g;have⟨o,dk,eL⟩:=iD G;have b7:=sx eN dk;rw[<-e5]at b7;have⟨W,L,gj⟩:=iD b7;have E:=em (eQ.1 G).1;have e9:=em (eQ.1 b7).1;obtain⟨B,dm,rv,rfl,V,aA⟩:=c.sy.el.get L;obtain⟨D,ep,aE,ex,aN,rfl,l,s,m⟩:=c.sy.g0.at dm;have⟨aX,eB,gM,fC,c1,w,bn,cL,dv⟩:=c.sy.g3.at (x:=me.t) (i:=d.toNat) (by simp[K]);rw[aG]at w dv;subst w;have bS:=H.fa l;have eI:=H.fa bn;have eh:(1=D)=False:=by have:=(c.sy.b D (.inl rfl)).1;simp;omega
    have gz:(1=aX)=False:=by have:=(c.sy.b aX (.inr (.inr rfl))).1;simp;omega
    have eo:(aX=D)=False:=by simp;rintro rfl;rw[l]at bn;simp at bn
    have eW:∀x,(c1.set d.toNat x)[d.toNat]? =some x:=λx=>by
     have:d.toNat<c1.length:=by
      rcases aQ d.toNat c1.length with k|k
      ·exact k
      ·rw[bQ k]at cL;simp at cL
     rw[cm];simp[this]
    have b6:∀A,(dY a8 D A).get aX=some ⟨3,eB,gM,fC,false,c1⟩:=λA=>by rw[dN l,ao (by simpa using eo)];exact bn
    have e7:=λA z=>nl (b6 A) (show 1≠aX by simpa using gz) z;have eA:=λ(f:dU->dU) (u:(f W).eJ=W.eJ)=>c.rg rfl l L f (rv:=rv) (by rw[u];exact V) aA;rcases g with rfl|rfl|rfl|rfl
    ·have c6:=(eA (λj=>{j with iZ:=-1}) rfl).pL rfl (b6 _) K (λx=>{x with iE:=3});have bC:=c6.pL (me:=(λx=>{x with iE:=3}) me) rfl ((dN (b6 _) _ _).trans (aq rfl)) (i:=d.toNat) (by simp[K]) (λx=>{x with cond:=e});simp only[Cj,List.set_set]at bC;simp[I,F,eC,c.g1,E,e9,bB,dk,l,bn,s,cL,m,dv,mr,c.ok.hp,bS,eI,eh,eo,eW,e7];exact⟨_,_,_,show fg q a d 16 e r=((a.rg o.kJ λj=>{j with iZ:=-1}).pL d (λx=>{x with iE:=3,cond:=e}),0)by simp[fg,eL],bC⟩
    ·have c6:=(eA (λj=>{j with iZ:=d}) rfl).pL rfl (b6 _) K (λx=>{x with iE:=2});have bC:=c6.pL (me:=(λx=>{x with iE:=2}) me) rfl ((dN (b6 _) _ _).trans (aq rfl)) (i:=d.toNat) (by simp[K]) (λx=>{x with cond:=0});simp only[Cj,List.set_set]at bC;simp[I,F,eC,c.g1,E,e9,bB,dk,l,bn,s,cL,m,dv,mr,c.ok.hp,bS,eI,eh,eo,eW,e7];exact⟨_,_,_,show fg q a d 17 e r=((a.rg o.kJ λj=>{j with iZ:=d}).pL d (λx=>{x with iE:=2,cond:=0}),0)by simp[fg,eL],bC⟩
    ·simp[F,c.g1];refine iy Di dy ⟨a,_,_,_,e⟩ ⟨rfl,c.sy.g3,ht,c.ok⟩ ?_;rintro N al ⟨v,Q,_⟩;simp only at v;have P:=c.nb Q;have eb:=CH e a.dH 0;have U:=λa7:H=>v.len (cx:=cx) a7 pS _ rfl;rw[aG]at U;simp[U];refine ee (λav=>?_) (λav=>?_)
     ·have b9:0<(iA e a.dH 0).length:=by simpa using av
      have⟨p,ca,cb⟩:=v.idx (te:=Ev) rfl rfl (i:=0) (x:= Z (iA e a.dH 0)[0]) (by simp[b9]) rfl;have fY:=v.qP (f:=T.int .i64) (λ_=>by simp) (λ_=>rfl);have fv:=λ{tb:fy} (ht:tb.p 31=some BZ)=>Lx ht (iA e a.dH 0) r J;have eO:(iA e a.dH 0).headD (-1)=(iA e a.dH 0)[0]:=by
       clear ca cb v U eb;generalize iA e a.dH 0=j at*
       cases j with
       |nil=>simp at b9
       |cons x j=>simp
      simp[eE,ca,cb,fY,fv];have M:∃y:Nat,yX e r a.dH=y/\y<a.dH.length:=by
       have b7:yX e r a.dH∈iA e a.dH 0:=by
        unfold yX;split
        ·assumption
        ·rw[eO];exact aD b9
       have⟨y,B,R⟩:=uc b7;exact⟨y,by simpa using B,R⟩
      obtain⟨y,ea,R⟩:=M;refine kQ (λC an=>an=al/\dF C 17 (Z y)/\dF C 7 (.ptr 1 0 0 0)/\dF C 12 (.ptr 2 0 0 0)) (λav=>?_) (λav=>?_) ?_
      ·simp[eE];rw[<-ea];unfold yX;rw[aq (by simpa using av)]
      ·simp;rw[<-ea,<-eO];unfold yX;rw[ao (by simpa using av)]
      ·rintro C _ ⟨rfl,gi,ae,Y⟩;have⟨O,M⟩:∃O,a.dH[y]? =some O:=⟨_,az R⟩;have⟨fl,fA,gP,fE,gQ,bT,bs,ec,gn⟩:=P.sy.g3.at (x:=O.t) (i:=y) (by simp[M]);simp at bT;obtain⟨rfl,rfl⟩:=bT;simp[ae,Y,gi,P.g1,bs,ec,R];exact⟨_,_,_,show fg q a d 18 e r=(a.pL y (kF 4),(y:Int))by
        rw[<-ea];unfold fg;simp;intro u;rw[u]at b9;simp at b9,P.pL rfl bs M (kF 4)⟩
     ·have gy:iA e a.dH 0=[]:=by
       have:¬0<(iA e a.dH 0).length:=by simpa using av
       exact bg J
      simp;exact⟨_,_,_,show fg q a d 18 e r=(a,-1)by simp[fg,gy],P⟩
    ·simp[F,c.g1];refine iy Di dy ⟨a,_,_,_,e⟩ ⟨rfl,c.sy.g3,ht,c.ok⟩ ?_;rintro N al ⟨v,Q,gI⟩;simp only at v;have P:=c.nb Q;have eb:=CH e a.dH 0;have U:=λa7:H=>v.len (cx:=cx) a7 pS _ rfl;rw[aG]at U;have eU:∀x∈iA e a.dH 0,∃y:Nat,x=y/\y<a.dH.length:=λx s=>by
      have⟨y,B,R⟩:=uc s;exact⟨y,by simpa using B,R⟩
     have de:=Us e a.dH [];simp only[List.nil_append,cQ]at de;have cy:∃j,j=iA e a.dH 0:=⟨_,rfl⟩;obtain⟨j,cy⟩:=cy;rw[<-cy]at v eb eU de U;simp;refine fk j.length J (λi C h'=>Bs (.arr D ep 0 es.length false) c2 (.arr aX eB 0 a.dH.length false) h' es {a with dH:=Oh a.dH (j.take i)} 1/\pK h' 1 N (gG j)/\dF C 7 (.ptr 1 0 0 0)/\dF C 12 (.ptr 2 0 0 0)/\dF C 18 N/\dF C 19 (Z i)) ?_ ?_ J ⟨by simpa[Oh]using P,v,dy⟩
     ·rintro i C h' m gk ⟨a6,er,ae,Y,c7,c9⟩;have⟨y,R,eS⟩:=eU j[i] (aD m);have⟨O,M⟩:∃O,(Oh a.dH (j.take i))[y]? =some O:=⟨_,az (by rw[Ur];exact eS)⟩;have⟨fl,fA,gP,fE,gQ,bT,bs,ec,gn⟩:=a6.sy.g3.at (x:=O.t) (i:=y) (by simp[M]);simp at bT;obtain⟨rfl,rfl,_⟩:=bT;have⟨p,ca,cb⟩:=er.idx (te:=Ev) rfl rfl (i:=i) (x:= Z y) (by simp[m,R]) rfl;have fi:=a6.pL rfl bs M (kF 4);simp[ae,Y,c7,c9,U,m,ca,cb,a6.g1,bs,ec,eS,gk];refine⟨?_,er.mono λo u=>by rw[dN bs,ao (by have:=gI o u;omega)]⟩;rw[Rl a.dH j m,R];exact fi
     ·rintro C h' ⟨a6,er,ae,Y,c7,c9⟩;rw[aK]at a6;simp[ae,Y,c7,c9,U];exact⟨_,_,_,show fg q a d 19 e r=({a with dH:=Oh a.dH j},(j.length:Int))by rw[de];simp[fg,<-cy],a6⟩
   ·have G:=xE b8 g;rw[<-e6]at G;have⟨O,M,gw⟩:=iD G;have E:=em (eQ.1 G).1;rcases g with rfl|rfl
    ·have⟨D,ep,aE,ex,aN,w,l,s,m⟩:=c.sy.g3.at (x:=O.t) (i:=e.toNat) (by simp[M]);rw[aG]at w m;subst w;simp[F,c.g1,E,l,s,m];exact⟨_,_,_,show fg q a d 20 e r=(a.pL e (kF 1),0)by simp[fg],c.pL rfl l M (kF 1)⟩
    ·simp;exact⟨_,_,_,show fg q a d 21 e r=(a,0)by simp[fg],c⟩
   ·have G:=rS b8 g;rw[<-gE]at G;have⟨O,M,gw⟩:=iD G;have E:=em (eQ.1 G).1;rcases g with rfl|rfl
    ·have⟨D,ep,aE,ex,aN,w,l,s,m⟩:=c.sy.g2.at (x:= .bool O) (i:=e.toNat) (by simp[M]);rw[aG]at w m;subst w;simp[F,c.g1,E,l,s,m];exact⟨_,_,_,show fg q a d 22 e r=({a with done:=a.done.set e.toNat true},0)by simp[fg],c.Z6 rfl l e.toNat true⟩
    ·simp;exact⟨_,_,_,show fg q a d 23 e r=(a,0)by simp[fg],c⟩
  ·rintro C an ⟨n,⟨S,fB,ver,gm,X⟩,ae,Y,gg⟩;have⟨hb,hd,hf⟩:=X.sy.fz;have gd:∀A,(dY an 2 A).get 2=some A:=λA=>(dN X.g2 A _).trans (aq rfl);have c4:∀A,Ca 3 an.size (dY an 2 A) c0 c2 c3 fB S:=λA=>X.sy.mono (au _) λo u _=>by rw[dN X.g2,ao J]
   have fL:=λA=>(c4 A).fz.1;have fS:=λA=>(c4 A).fz.2.1;have fX:=λA=>(c4 A).fz.2.2;simp[ae,Y,gg,X.g1,X.g2,gd,dX,fL,fS,fX,gm,X.ok.hp]
end
def mD:fP:=⟨dZ×ew×ej,λa=>[a.1.t,a.2.1.t,a.2.2.t],λa=>a.1.gJ.length<=1000000/\rQ 100000 a.2.1/\a.2.2.mt.length<=1000000/\a.2.2.uN.length<=1000000,λa=> .tuple [(jW a.1 a.2.1 a.2.2).1.t,.bool (jW a.1 a.2.1 a.2.2).2],λa c b=>by
 simp at b;rw[dZ.inj b.1,ew.inj b.2.1,ej.inj b.2.2]⟩
def lK{c:dZ}{b:ew}{a:ej}(d:qH c b a=false):jW c b a=(tP,false):=by unfold jW;rw[d];rfl
def JH{g:fy}(ht:g.p 51=some rf)(b:dZ)(a:fH)(e c d f:Int)(i:b.gJ.length<=1099511627776)(k:Pt a)(j:js b a e c d=true):rl prog cx g 51 [b.t,a.t,Z e,Z c,Z d,Z f]=some (.tuple [(fg b a e c d f).1.t,Z (fg b a e c d f).2,.bool true]):=by
 have:=gu ht FR (b,a,e,c,d,f) ⟨i,k⟩;have h:rf.R (b,a,e,c,d,f)= .tuple [(fg b a e c d f).1.t,Z (fg b a e c d f).2,.bool true]:=by show yP _=_;unfold yP;rw[aq j]
 rw[h]at this;exact this
def Qx:mD.Ok prog cx 80:=by
 refine fM [(82,xr),(125,Ip),(47,mE),(126,wx),(127,uj),(51,rf)] (iQ 6434029281764525972148499167221040878727244754944919609542655 [(15,[(3,4),(3,6),(3,8),(7,8),(3,10),(7,10),(3,13),(7,13),(11,13)])] func80) (λ_=>100) (by simp[mD]) ?_;rintro⟨e,d,b⟩ ⟨fL,ae,fY,gd⟩ j eH;simp at fL ae fY gd;simp[mD]at eH|-;obtain⟨fB,fC,fE⟩:=eH;have⟨l1,l2,l3,l4,l5,l6⟩:=ae.l;have gk:d.fj.sm:=⟨J,J,J,λf q=>by have:=ae.r f q;omega⟩;have eL:e.gJ.length<=1099511627776:=J;have gm:Pt d.fj:=⟨J,J,J,λf q=>by have:=ae.r f q;omega,ae.a⟩;have h:qH e d b=(mH e d&&iP b.dP e.dH.length&&(decide (1<=b.kind)&&decide (b.kind<=23))&&js e d.fj b.dP b.kind b.obj&&sY e b&&MD e b&&Mw b&&yB (d.count.getD b.dP.toNat 0) none b.mt&&yB (d.count.getD b.dP.toNat 0) none b.uN&&oF d b):=rfl;simp[f80,fB,fC,fE,HO,Sy,vC,eL,gk];have V:T.agg [sl [],Z 0,sl [],sl [],sl [],sl [],sl []]=tP.t:=rfl;refine ee (λg=>?_) (λg=>?_)
 ·have:qH e d b=false:=by
   rw[h];simp only[bY,bK,aI]at g;rcases g with(((q|q)|q)|q)|q
   ·rw[q];simp
   ·rw[q];simp
   ·rw[aM (show¬1<=b.kind by omega)];simp
   ·rw[aM (show¬b.kind<=23 by omega)];simp
   ·rw[q];simp
  simp[lK this];exact V
 simp only[bM,cd,bj]at g;obtain⟨⟨⟨⟨eB,eC⟩,gV⟩,gZ⟩,bS⟩:=g;rw[eB,eC,bS,aY (show 1<=b.kind by omega),aY (show b.kind<=23 by omega)]at h;simp only[aU]at h;have bT:=bS;unfold js at bT;simp only[ax]at bT;obtain⟨⟨⟨hb,_⟩,o⟩,_⟩:=bT;have b6:=eB;unfold mH at b6;simp only[ax,aI]at b6;obtain⟨⟨⟨_,eE⟩,eF⟩,fA⟩:=b6;have aN:=eC;rw[<-fA]at aN;have⟨z,X,ha⟩:=iD aN;have gQ:=em (eQ.1 aN).1;have gg:d.count.getD b.dP.toNat 0=z:=by simp[List.getD,X]
 rw[gg]at h;simp;generalize N:(((hE.cons _).cons _).cons _).cons _=w;have Q:hU 0 w:=by rw[<-N];exact⟨dy,dy,dy⟩
 have e7:w.size=4:=by rw[<-N];rfl
 have a8:w.get 0=some (dE 6 0 [e.t]):=by rw[<-N];simp
 have bB:w.get 1=some (dE 7 0 [d.t]):=by rw[<-N];simp
 have I:w.get 2=some (dE 7 0 [b.t]):=by rw[<-N];simp
 have D:w.get 3=some (dE 7 0 [.agg [dD,Z 0,dD,dD,dD,dD,dD]]):=by rw[<-N];simp
 clear N;have W:∀y,(dY w 3 y).get 3=some y:=λy=>(dN D y _).trans (aq rfl);refine kQ (λj u=>w=u/\sY e b=true/\dF j 3 (.ptr 0 0 0 0)/\dF j 4 (.ptr 1 0 0 0)/\dF j 5 (.ptr 2 0 0 0)/\dF j 6 (.ptr 3 0 0 0)) (λg=>?_) (λg=>?_) ?_
 ·have Y:b.kind=1\/b.kind=2:=by simpa using g
  simp[I];refine ee (λi=>?_) (λi=>?_)
  ·have:qH e d b=false:=by
    rw[h];unfold sY;rw[aq Y,aM (by simpa using i)];simp
   simp[D,W,dX,lK this,Q.hp];exact V
  ·simp;unfold sY;rw[aq Y,aY (by simpa using i)]
 ·have Y:¬(b.kind=1\/b.kind=2):=by simpa using g
  cases B:iP b.ji e.iJ.length with
  |false=>
   have:qH e d b=false:=by
    rw[h];unfold sY;rw[ao Y,nQ B];simp
   simp[a8,I,Sy,B,D,W,dX,lK this,Q.hp];exact V
  |true=>
   have⟨x,gv,eP⟩:=iD B;simp[a8,I,Sy,B,gv,em (eQ.1 B).1];refine ee (λi=>?_) (λi=>?_)
   ·have:qH e d b=false:=by
     rw[h];unfold sY;rw[ao Y,eP];simp only;rw[aM (by simpa using i)];simp
    simp[D,W,dX,lK this,Q.hp];exact V
   ·simp;unfold sY;rw[ao Y,eP];simp only;rw[aY (by simpa using i)]
 ·rintro j _ ⟨rfl,gj,M,E,v,A⟩;rw[gj,aU]at h;have gz:((decide (b.kind=3)||decide (b.kind=4))=false/\True/\True/\(b.kind=3\/b.kind=4->∃n,e.cells[b.obj.toNat]? =some n)/\∃x:io,x=x/\True)\/((decide (b.kind=3)||decide (b.kind=4))=true/\ks b.obj=some b.obj.toNat/\iP b.obj e.cells.length=true/\True/\∃n,e.cells[b.obj.toNat]? =some n/\sizeOf e b.obj=n.size):=by
   cases q:(decide (b.kind=3)||decide (b.kind=4))
   ·simp at q;exact .inl ⟨rfl,trivial,trivial,λk=>(k.elim q.1 q.2).elim,default,rfl,trivial⟩
   ·simp at q;have B:iP b.obj e.cells.length=true:=by
     unfold jN at o;rw[ao J,aq q]at o;exact o
    have⟨n,fS,fX⟩:=iD B;exact .inr ⟨rfl,em (eQ.1 B).1,B,trivial,n,fS,by simp[sizeOf,fX]⟩
  have bn:MD e b=(decide (b.mt=[])||decide (b.kind=5)||((decide (b.kind=3)||decide (b.kind=4))&& !decide (sizeOf e b.obj=0))):=rfl;have cb:decide (0<b.mt.length)= !decide (b.mt=[]):=by cases b.mt<;>simp
  have cp:decide (0<b.uN.length)= !decide (b.uN=[]):=by cases b.uN<;>simp
  have cy:Mw b=(decide (b.uN=[])||decide (b.kind=4)||decide (b.kind=22)):=rfl;have e9:b.kind=3->iP b.obj d.cells.length=true:=λk=>by
   rw[eE];unfold jN at o;rw[ao J,aq J]at o;exact o
  have e8:b.kind=23->iP b.obj d.d8.length=true:=λk=>by
   rw[eF];exact rS o (.inr k)
  rcases gz with⟨c6,eR,gw,gy,fb,eS,di⟩|⟨c6,eR,gw,gy,fb,eS,di⟩
  all_goals
   simp[M,v,a8,I,c6,eR,eS];rw[c6]at bn;refine ee (λg=>?_) (λg=>?_)
   ·have:qH e d b=false:=by
     rw[h,bn];simp[cb]at g;simp[g,di]
    simp[A,D,W,dX,lK this,Q.hp];exact V
   have eM:MD e b=true:=by
    rw[bn];cases R:decide (b.mt=[])<;>cases s:decide (b.kind=5)<;>simp[cb,R,s,di]at g|-
    all_goals exact g
   rw[eM,aU]at h;simp[v,I];refine ee (λi=>?_) (λi=>?_)
   ·have:qH e d b=false:=by
     rw[h,cy];simp[cp]at i;simp[i]
    simp[A,D,W,dX,lK this,Q.hp];exact V
   have eN:Mw b=true:=by
    rw[cy];cases R:decide (b.uN=[])<;>cases s:decide (b.kind=4)<;>simp[cp,R,s]at i|-
    all_goals exact i
   rw[eN,aU]at h;have fv:=λ{dv:fy} (ht:dv.p 127=some uj)=>Sh ht d b J e9 e8;simp[E,v,bB,I,gQ,X,Sq,fv,show b.mt.length<=1099511627776 by omega,show b.uN.length<=1099511627776 by omega];refine ee (λbs=>?_) (λbs=>?_)
   ·have:qH e d b=false:=by
     rw[h];cases R:yB z none b.mt<;>cases s:yB z none b.uN<;>cases ds:oF d b<;>simp[R,s,ds]at bs|-
    simp[A,D,W,dX,lK this,Q.hp];exact V
   have gi:qH e d b=true:=by
    rw[h];cases R:yB z none b.mt<;>cases s:yB z none b.uN<;>cases ds:oF d b<;>simp[R,s,ds]at bs|-
   clear g i bs h bn cy cb cp eM eN;have gn:jW e d b=(kh e d b,true):=by unfold jW;rw[aq gi]
   rw[gn];have⟨fl,a6,bC,⟨hd,hh,gA⟩,eh,al,eX⟩:=jV (cx:=cx) (sz:=1) Q (x:=sl (d.cells.map (T.int .i64))) (xs:=d.cells.map (T.int .i64)) pF rfl Ak pF rfl rfl dy dy (by simp[T.cells]) dz;have⟨fo,a7,bH,⟨hf,hj,eD⟩,eo,P,okB⟩:=jV (cx:=cx) (sz:=1) eX (x:=sl (d.d8.map (T.int .i64))) (xs:=d.d8.map (T.int .i64)) pF rfl Ak pF rfl rfl dy dy (by simp[T.cells]) dz;have⟨fs,U,bN,⟨hg,hn,gC⟩,er,G,e0⟩:=jV (cx:=cx) (sz:=1) okB (x:=sl (d.count.map (T.int .i64))) (xs:=d.count.map (T.int .i64)) jQ rfl mz jQ rfl rfl dy dy (by simp[T.cells]) dz;replace eh:a6.size=5:=J;replace eo:a7.size=6:=J;replace er:U.size=7:=J;simp only[e7,eh,eo,aG]at bC bH bN gA eD gC;have e5:fh (w.cons (dE 1 0 [])) a6 1=true:=fD ((al 1 J).trans (by rw[dT,ao J]));have e6:fh (a6.cons (dE 1 0 [])) a7 1=true:=fD ((P 1 J).trans (by rw[dT,ao J]));have gP:fh (a7.cons (dE 1 0 [])) U 1=true:=fD ((G 1 J).trans (by rw[dT,ao J]));have eu:=(al 1 J).trans bB;have ey:=(P 1 J).trans eu;have fe:=(G 1 J).trans ey;have eW:∀m,5<=m->fh (w.cons (dE 1 0 [])) a6 m=true:=λm eI=>iU (lj _ dz);have eU:∀m,6<=m->fh (a6.cons (dE 1 0 [])) a7 m=true:=λm eI=>iU (lj _ dz);have eV:∀m,7<=m->fh (a7.cons (dE 1 0 [])) U m=true:=λm eI=>iU (lj _ dz);have gD:U.low<=7:=by have:=e0.low;omega
   simp[E,v,e7,eh,eo,er,bB,bC,bH,bN,eu,ey,e5,e6,eW,eU,eV,gD];have gE:=(G 4 J).trans ((P 4 J).trans gA);have gI:=(G 5 J).trans eD;have ff:=(G 0 J).trans ((P 0 J).trans ((al 0 J).trans a8));have eA:=(G 2 J).trans ((P 2 J).trans ((al 2 J).trans I));have fi:=(G 3 J).trans ((P 3 J).trans ((al 3 J).trans D));have b9:=λ{dv:fy} (ht:dv.p 51=some rf)=>JH ht e d.fj b.dP b.kind b.obj (lH b) eL gm bS;have gS:=ae.c z (ay X);clear bC bH bN al P G e5 e6 gP eW eU eV eX okB;generalize aA:U.cons _=av;have gM:hU 0 av:=by rw[<-aA];exact e0.cons _
   have et:av.size=8:=by rw[<-aA];show U.size+1=8;omega
   have L:∀n,n<7->av.get n=U.get n:=λn q=>by rw[<-aA,dT,ao J]
   have c4:=(L 0 J).trans ff;have c7:=(L 1 J).trans fe;have bu:=(L 2 J).trans eA;have c9:=(L 3 J).trans fi;have dd:=(L 4 J).trans gE;have de:=(L 5 J).trans gI;have dk:=(L 6 J).trans gC;have dm:av.get 7=some (dE 7 1 [.agg [dD,Z 0,dD,dD,.arr 4 fl 0 d.cells.length false,.arr 5 fo 0 d.d8.length false,.arr 6 fs 0 d.count.length false]]):=by rw[<-aA,dT,aq er.symm]
   clear aA;simp[eA];refine kQ (λj u=>av=u/\dF j 3 (.ptr 0 0 0 0)/\dF j 4 (.ptr 1 0 0 0)/\dF j 5 (.ptr 2 0 0 0)/\dF j 6 (.ptr 3 0 0 0)/\dF j 9 (.ptr 7 0 0 0)/\dF j 10 (Z (lH b))) (λg=>?_) (λg=>?_) ?_
   ·simp[M,E,v,A,bu];unfold lH;rw[aq (by simpa using g)]
   ·simp[M,E,v,A];unfold lH;rw[ao (by simpa using g)]
   rintro j _ ⟨rfl,M,E,v,A,b8,b7⟩;have dn:binop .add (Z z) (Z 1)=some (Z (z+1)):=iz J J;have ec:=em (eQ.1 aN).1;have aE:=(eQ.1 aN).2;have eO:kh e d b=⟨(fg e d.fj b.dP b.kind b.obj (lH b)).1,if b.kind=4 then d.cells.set b.obj.toNat b.value else d.cells,if b.kind=22 then d.d8.set b.obj.toNat b.value else d.d8,d.count.modify b.dP.toNat (· +1)⟩:=rfl;rw[oL X]at eO;have gB:(b.kind=4/\iP b.obj d.cells.length=true)\/(b.kind=22/\iP b.obj d.d8.length=true)\/(¬b.kind=4/\¬b.kind=22):=by
    by_cases q:b.kind=4
    ·refine .inl ⟨q,?_⟩;rw[eE];unfold jN at o;rw[ao J,aq J]at o;exact o
    ·by_cases s:b.kind=22
     ·refine .inr (.inl ⟨s,?_⟩);rw[eF];exact rS o (.inl s)
     ·exact .inr (.inr ⟨q,s⟩)
   have c1:=gM.hp;have bi:∀(f:List Int) (u:H),fQ (ye u 11) (f.map (T.int .i64))=some (f.map (T.int .i64)):=λf u=>IT _ _ _ λ_=>rfl;have bX:∀(f:List Int) (u:H) (O:Nat) (S:Int),fQ (ye u 11) ((f.map (T.int .i64)).set O (Z S))=some ((f.map (T.int .i64)).set O (Z S)):=λf u O S=>by rw[<-bA];exact bi _ u
   have ea:∀(f:List Int),(f.map (T.int .i64)).take f.length=f.map (T.int .i64):=λf=>by rw[bL dy]
   have eb:∀(f:List Int) (O:Nat) (S:T),((f.map (T.int .i64)).set O S).take f.length=(f.map (T.int .i64)).set O S:=λf O S=>by rw[bL dy]
   have ca:d.count[b.dP.toNat]'aE=z:=by rw[az aE]at X;simpa using X
   have fin:∀(C F K:List Int),T.agg [sl ((fg e d.fj b.dP b.kind b.obj (lH b)).1.ei.map dU.t),Z (fg e d.fj b.dP b.kind b.obj (lH b)).1.tx,sl ((fg e d.fj b.dP b.kind b.obj (lH b)).1.done.map T.bool),sl ((fg e d.fj b.dP b.kind b.obj (lH b)).1.dH.map dM.t),sl (C.map (T.int .i64)),sl (F.map (T.int .i64)),sl (K.map (T.int .i64))]=ew.t ⟨(fg e d.fj b.dP b.kind b.obj (lH b)).1,C,F,K⟩:=λ_ _ _=>rfl;rw[eO];rcases gB with⟨q,aX⟩|⟨q,aX⟩|⟨q,e4⟩
   ·have ef:=em (eQ.1 aX).1;have cL:=(eQ.1 aX).2;have an:decide (b.kind=22)=false:=aM J;have ap:decide (b.kind=4)=true:=aY q;rw[aq q,ao J,<-fin];simp[M,E,v,A,b8,b7,c4,c7,bu,c9,dd,de,dk,dm,b9,dX,mr,c1,et,ec,aE,ca,dn,wQ,ik,bi,ap,an,ef,cL,bX,ea,eb]
   ·have ef:=em (eQ.1 aX).1;have cL:=(eQ.1 aX).2;have an:decide (b.kind=22)=true:=aY q;have ap:decide (b.kind=4)=false:=aM J;rw[ao J,aq q,<-fin];simp[M,E,v,A,b8,b7,c4,c7,bu,c9,dd,de,dk,dm,b9,dX,mr,c1,et,ec,aE,ca,dn,wQ,ik,bi,ap,an,ef,cL,bX,ea,eb]
   ·have an:decide (b.kind=22)=false:=aM e4;have ap:decide (b.kind=4)=false:=aM q;rw[ao q,ao e4,<-fin];simp[M,E,v,A,b8,b7,c4,c7,bu,c9,dd,de,dk,dm,b9,dX,mr,c1,et,ec,aE,ca,dn,wQ,ik,bi,ap,an,bX,ea,eb]
def As{d:fy}(ht:d.p 80=some mD)(c:dZ)(b:ew)(a:ej)(e:c.gJ.length<=1000000)(f:rQ 100000 b)(g:a.mt.length<=1000000)(h:a.uN.length<=1000000):rl prog cx d 80 [c.t,b.t,a.t]=some (.tuple [(jW c b a).1.t,.bool (jW c b a).2]):=gu ht Qx (c,b,a) ⟨e,f,g,h⟩
end
end
noncomputable section
open Go Go.TI Tryz
section
attribute [-simp] List.map_take List.map_drop List.map_append
def K6(a b:Int):Bool:=decide (0<=a/\a<b)
@[simp]def acJ (a:Int) (b:Nat):K6 a (b:Int)=iP a b:=id rfl
def RC{a b:Int}:K6 a b=true↔0<=a/\a<b:=by unfold K6;simp
def Xz(d:Unit):fP:=⟨Int×Int,λa=>[Z a.1,Z a.2],λa=>True,λa=> .bool (K6 a.1 a.2),λa c b=>by simp at b;rw[b.1,b.2]⟩
def XX:(Xz ()).Ok prog cx 175:=by
 refine fM [] (iQ 19 [] func175) (λf=>1) (by simp[Xz]) ?_;rintro⟨e,g⟩ _ h a;simp[Xz]at a|-;obtain⟨b,c⟩:=a;by_cases d:0<=e<;>simp[f175,b,c,d,K6]
def vS{c:fy}(ht:c.p 175=some (Xz ()))(a b:Int):rl prog cx c 175 [Z a,Z b]=some (.bool (K6 a b)):=gu ht XX (a,b) trivial
def xl:fP:=⟨Int,λa=>[Z a],λa=>True,λa=> .bool (xe a),λa c b=>by simp at b;rw[b]⟩
def KG:xl.Ok prog cx 218:=by
 refine fM [] (iQ 5 [] func218) (λd=>1) (by simp[xl]) ?_;rintro(c:Int) _ e a;simp[xl]at a|-;by_cases b:1<=c<;>simp[f218,a,b,xe]
def xL{b:fy}(ht:b.p 218=some xl)(a:Int):rl prog cx b 218 [Z a]=some (.bool (xe a)):=gu ht KG a trivial
def xp:fP:=⟨Nat,λa=>[.int .u8 a],λa=>True,λa=> .bool (vj a),λa b c=>by simp at c;rw[show a=b by omega]⟩
def C2:fP:=⟨Nat,λa=>[.int .u8 a],λa=>True,λa=> .bool (D7 a),λa b c=>by simp at c;rw[show a=b by omega]⟩
def CZ:fP:=⟨Nat,λa=>[.int .u8 a],λa=>True,λa=> .bool (wP a),λa b c=>by simp at c;rw[show a=b by omega]⟩
def QP:xp.Ok prog cx 170:=by
 refine fM [] (iQ 5 [] func170) (λg=>1) (by simp[xp]) ?_;rintro(a:Nat) _ h b;simp[xp]at b|-;by_cases c:97<=a<;>by_cases d:a<=122<;>by_cases e:65<=a<;>by_cases f:a<=90<;>simp[f170,b,vj,c,d,e,f,show(97:Int)<=(a:Int)↔97<=a by omega,show(a:Int)<=122↔a<=122 by omega,show(65:Int)<=(a:Int)↔65<=a by omega,show(a:Int)<=90↔a<=90 by omega]
def Cv{b:fy}(ht:b.p 170=some xp)(a:Nat):rl prog cx b 170 [.int .u8 a]=some (.bool (vj a)):=gu ht QP a trivial
def Ui:C2.Ok prog cx 216:=by
 refine fM [] (iQ 5 [] func216) (λe=>1) (by simp[C2]) ?_;rintro(a:Nat) _ f b;simp[C2]at b|-;by_cases c:48<=a<;>by_cases d:a<=57<;>simp[f216,b,D7,c,d,show(48:Int)<=(a:Int)↔48<=a by omega,show(a:Int)<=57↔a<=57 by omega]
def Y0{b:fy}(ht:b.p 216=some C2)(a:Nat):rl prog cx b 216 [.int .u8 a]=some (.bool (D7 a)):=gu ht Ui a trivial
def Uf:CZ.Ok prog cx 172:=by
 refine fM [(170,xp),(216,C2)] (iQ 5 [] func172) (λe=>1) (by simp[CZ]) ?_;rintro(a:Nat) _ f b;simp[CZ]at b|-;cases c:vj a<;>cases d:D7 a<;>simp[f172,b,wP,Cv,Y0,c,d,show(a:Int)=95↔a=95 by omega]
def Sw{b:fy}(ht:b.p 172=some CZ)(a:Nat):rl prog cx b 172 [.int .u8 a]=some (.bool (wP a)):=gu ht Uf a trivial
def wA:fP:=⟨dZ×Int×Int,λa=>[a.1.t,Z a.2.1,Z a.2.2],λa=>True,λa=> .bool (Bl a.1 a.2.1 a.2.2),λa c b=>by simp at b;rw[dZ.inj b.1,b.2.1,b.2.2]⟩
def Od:wA.Ok prog cx 217:=by
 refine fM [(175,Xz ())] (iQ 79 [] func217) (λl=>1) (by simp[wA]) ?_;rintro⟨k,h,m⟩ _ n c;simp[wA]at c|-;obtain⟨a,b,e⟩:=c;cases hl:iP h k.cells.length with
 |true=>
  have⟨d,f,g⟩:=iD hl;by_cases i:d.index=0<;>by_cases j:d.size=0<;>simp[f217,a,b,e,vS,hl,f,g,Bl,em (eQ.1 hl).1,i,j]
 |false=>simp[f217,a,b,vS,hl,nQ hl,Bl]
def SE{d:fy}(ht:d.p 217=some wA)(c:dZ)(a b:Int):rl prog cx d 217 [c.t,Z a,Z b]=some (.bool (Bl c a b)):=gu ht Od (c,a,b) trivial
def oH:fP:=⟨fR,λa=>[a.t],λa=>True,λa=>sl ((jd a).map (T.int .i64)),λa c b=>by simp at b;rw[fR.inj b]⟩
def EF:oH.Ok prog cx 106:=by
 refine fM [] (iQ 8934607822903 [] func106) (λc=>1) (by simp[oH]) ?_;rintro⟨a,c,o,p,q,r⟩ _ s b;simp[oH]at b|-;rcases(by omega:a=1\/a=6\/a=10\/a=27\/a=2\/a=3\/a=4\/a=7\/a=8\/a=26\/a=9\/(¬a=1/\¬a=6/\¬a=10/\¬a=27/\¬a=2/\¬a=3/\¬a=4/\¬a=7/\¬a=8/\¬a=26/\¬a=9))with rfl|rfl|rfl|rfl|rfl|rfl|rfl|rfl|rfl|rfl|rfl|⟨d,g,h,i,j,k,l,m,n,e,f⟩
 rotate_right
 ·simp[f106,b,jd,d,g,h,i,j,k,l,m,n,e,f]
 all_goals simp [f106,b,jd,ik,sl]
def vx{b:fy}(ht:b.p 106=some oH)(a:fR):rl prog cx b 106 [a.t]=some (sl ((jd a).map (T.int .i64))):=gu ht EF a trivial
def ww:fP:=⟨dZ×fR,λa=>[a.1.t,a.2.t],λa=>True,λa=> .bool (mL a.1 a.2),λa c b=>by simp at b;rw[dZ.inj b.1,fR.inj b.2]⟩
def N2:ww.Ok prog cx 173:=by
 refine fM [(175,Xz ()),(217,wA)] (iQ 11161304336780981658631819976322344575566047 [] func173) (λf=>1) (by simp[ww]) ?_;rintro⟨h,⟨a,f,l,F,j,G⟩⟩ _ H i;simp[ww]at i|-;obtain⟨b,c⟩:=i;rcases(by omega:a=3\/a=4\/a=7\/a=9\/a=21\/a=22\/a=23\/a=24\/a=25\/a=26\/a=27\/a=6\/a=8\/a=11\/a=12\/a=13\/a=14\/a=15\/a=16\/(¬a=3/\¬a=4/\¬a=6/\¬a=8/\¬a=7/\¬a=9/\¬a=11/\¬a=12/\¬a=13/\¬a=14/\¬a=15/\¬a=16/\¬a=21/\¬a=22/\¬a=23/\¬a=24/\¬a=25/\¬a=26/\¬a=27))with rfl|rfl|rfl|rfl|rfl|rfl|rfl|rfl|rfl|rfl|rfl|rfl|rfl|rfl|rfl|rfl|rfl|rfl|rfl|⟨m,x,A,B,C,D,E,n,o,p,q,r,s,t,u,v,w,y,z⟩
 rotate_right
 ·simp[f173,b,c,mL,m,x,A,B,C,D,E,n,o,p,q,r,s,t,u,v,w,y,z]
 ·by_cases g:j=4<;>simp[f173,b,c,mL,g]
 ·by_cases g:6<=j<;>simp[f173,b,c,mL,g]
 iterate 9 ·simp[f173,b,c,mL,vS,SE]
 ·cases hl:iP l h.cells.length with
  |true=>
   have⟨k,d,e⟩:=iD hl;simp[f173,b,c,mL,vS,hl,d,e,xf,em (eQ.1 hl).1]
  |false=>simp[f173,b,c,mL,vS,hl,nQ hl,xf]
 ·cases hl:iP f h.cells.length with
  |true=>
   have⟨k,d,e⟩:=iD hl;simp[f173,b,c,mL,vS,hl,d,e,xf,em (eQ.1 hl).1]
  |false=>simp[f173,b,c,mL,vS,hl,nQ hl,xf]
 all_goals
  cases hl:iP f h.ei.length with
  |true=>
   have⟨k,d,e⟩:=iD hl;simp[f173,b,c,mL,vS,hl,d,e,uF,em (eQ.1 hl).1]
  |false=>simp[f173,b,c,mL,vS,hl,nQ hl,uF]
def Sp{c:fy}(ht:c.p 173=some ww)(b:dZ)(a:fR):rl prog cx c 173 [b.t,a.t]=some (.bool (mL b a)):=gu ht N2 (b,a) trivial
def sN:List (List Nat)->List Nat->Nat->Int
 | [],_,_=>-1
 |x::c,b,a=>if x=b then(a:Int)else sN c b (a+1)
def HV:∀(a:List (List Nat)) (b:List Nat) (d:Nat),(0<=sN a b d)=(b∈a):=by
 intro a;induction a with
 |nil=>intro b d;simp[sN]
 |cons g a f=>
  intro b d;rw[sN];by_cases c:g=b
  ·subst c;simp
  ·rw[ao c,f];simp;intro e;exact absurd e.symm c
def C4:fP:=⟨List (List Nat)×List Nat,λa=>[sl (a.1.map T.str),.str a.2],λa=>a.1.length<=1099511627776,λa=> Z (sN a.1 a.2 0),λa c b=>by
 simp at b;rw[jz dy b.1,b.2]⟩
def afA:C4.Ok prog cx 130:=by
 refine fM [] (iQ 131635 [] func130) (λm=>m.1.length+1) (by simp[C4]) ?_;rintro⟨f,i⟩ hl c l;simp[C4]at hl l|-;obtain⟨b,d⟩:=l;simp[f130];refine fk f.length J (λe c j=>j=hE/\dF c 0 (sl (f.map T.str))/\dF c 1 (.str i)/\dF c 5 (Z e)/\sN (f.drop e) i e=sN f i 0) ?_ ?_ J (by simp[b,d])
 ·rintro e c j k n ⟨rfl,b,d,g,a⟩;rw[aH k,sN]at a;by_cases h:f[e]=i
  ·rw[aq h]at a;simp[b,d,g,k,h,<-a]
  ·rw[ao h]at a;simp[b,d,g,k,h,n,a]
 ·rintro c j ⟨rfl,b,d,g,a⟩;simp[sN]at a;simp[b,g,<-a]
def Pe{c:fy}(ht:c.p 130=some C4)(a:List (List Nat))(b:List Nat)(hl:a.length<=1099511627776):rl prog cx c 130 [sl (a.map T.str),.str b]=some (Z (sN a b 0)):=gu ht afA (a,b) hl
def uo:fP:=⟨Unit,λa=>[],λa=>True,λa=>sl (nO.map T.str),λa b c=>rfl⟩
def KI:uo.Ok prog cx 215:=by
 refine fM [] (iQ 1 [] func215) (λb=>1) (by simp[uo]) ?_;rintro _ _ c a;simp[uo]at a|-;simp[f215,ik];rfl
def OL{a:fy}(ht:a.p 215=some uo):rl prog cx a 215 []=some (sl (nO.map T.str)):=gu ht KI () trivial
def Rz:nO.length=22:=rfl
def wz:fP:=⟨List Nat,λa=>[.str a],λa=>True,λa=> .bool (uH a),λa c b=>by simp at b;rw[b]⟩
def IG:wz.Ok prog cx 171:=by
 refine fM [(215,uo)] (iQ 131613 [] func171) (λn=>23) (by simp[wz]) ?_;rintro(g:List Nat) _ b k;simp[wz]at k|-;simp[f171,OL];refine fk nO.length (by rw[Rz];omega) (λf b h=>h=hE/\dF b 0 (.str g)/\dF b 3 (sl (nO.map T.str))/\dF b 4 (Z f)/\(g∈nO.drop f↔g∈nO)) ?_ ?_ (by rw[Rz];omega) (by simp[k])
 ·rintro f b h j l ⟨rfl,i,c,d,a⟩;have m:=aH j;rw[m]at a;by_cases e:nO[f]=g
  ·simp[i,c,d,j,e,uH];rw[<-a,e];simp
  ·simp[i,c,d,j,e,l];refine⟨λh=>a.1 (List.mem_cons_of_mem _ h),λh=>?_⟩;rcases List.mem_cons.1 (a.2 h)with h|h
   ·exact absurd h.symm e
   ·exact h
 ·rintro b h ⟨rfl,i,c,d,a⟩;simp[c,d,uH];simpa using a
def Ef{b:fy}(ht:b.p 171=some wz)(a:List Nat):rl prog cx b 171 [.str a]=some (.bool (uH a)):=gu ht IG a trivial
def zl:fP:=⟨List Nat,λa=>[.str a],λa=>True,λa=> .bool (uD a),λa c b=>by simp at b;rw[b]⟩
def QI:zl.Ok prog cx 129:=by
 refine fM [(171,wz),(170,xp),(172,CZ)] (iQ 4330618893 [] func129) (λv=>13) (by simp[zl]) ?_;rintro(a:List Nat) _ f d;simp[zl]at d|-;cases a with
 |nil=>simp[f129,d,uD]
 |cons b a=>
  have h:¬(a.length:Int)+1<1:=J;by_cases w:a.length+1<=12
  ·have e:¬(12:Int)<(a.length:Int)+1:=J;cases j:vj b with
   |false=>simp[f129,d,h,e,j,Cv,uD,Mr]
   |true=>
    cases o:uH (b::a)with
    |true=>simp[f129,d,h,e,j,o,Cv,Ef,uD,Mr]
    |false=>
     have q:uD (b::a)=(b::a).all wP:=by simp[uD,o,Mr,j];intro _ _;omega
     have⟨m,s⟩:∃m,m=(b::a).all wP:=⟨_,rfl⟩;rw[q,<-s];simp[f129,d,h,e,j,o,Cv,Ef];refine fk (b::a).length dz (λl f n=>n=hE/\dF f 0 (.str (b::a))/\dF f 3 (Z l)/\((b::a).drop l).all wP=m) ?_ ?_ dz (by rw[s];simp[d])
     ·rintro l f n p u ⟨rfl,g,i,c⟩;rw[aH p,bZ]at c;generalize t:(b::a)=r at*
      cases k:wP r[l]with
      |true=>rw[k,aU]at c;simp[g,i,p,u,Sw,k,c]
      |false=>rw[k,da]at c;simp[g,i,p,Sw,k,<-c]
     ·rintro f n ⟨rfl,g,i,c⟩;generalize t:(b::a)=r at*
      rw[bO]at c;simp[g,i,<-c]
  ·have e:(12:Int)<(a.length:Int)+1:=J;have q:uD (b::a)=false:=by simp[uD];omega
   simp[f129,d,h,e,q]
def qq{b:fy}(ht:b.p 129=some zl)(a:List Nat):rl prog cx b 129 [.str a]=some (.bool (uD a)):=gu ht QI a trivial
