/- W08d -/
import Derived.Test.YtnfojkibhgjfmaaGreatDoorA6
set_option linter.all false
set_option maxRecDepth 100000
set_option maxHeartbeats 0
namespace Go.Proofs.YtnfojkibhgjfmaaGreatDoor
noncomputable section
open Go Go.TI Tryz
attribute [-simp] List.map_take List.map_drop List.map_append ij fU fH Bool.not_or Bool.not_and
attribute [simp] ig fV ao
def xa:iE:=⟨fJ,λa=>[a.t],λa=>a.fQ.length<=1000000/\a.fI.length<=1000000/\a.d8.length<=1000000,λa=>(m8 a).t,λc d b=>by simp at b;rw[fJ.inj b]⟩
def Ce(_:Unit):T:= .eQ [J (-1),dT]
def XW{b:H}{Vq:Nat->Prop}(a:Nat):jr (FT b Vq 2) ((List.replicate a ()).map Ce) ((List.replicate a (⟨-1,[]⟩:fk)).map fk.t):=by
 induction a with
 |zero=>exact .nil
 |succ a c=>
  rw[dF,dF];exact .cons (.inr (.inr ⟨_,_,rfl,.cons (iL ..) (.cons (kc ..) .nil),rfl⟩)) c
def Sy8(e:H)(Lk:List Unit)(a:List Bool)(Th:List ew):Prop:=∃f b c d,oQ e 2 4 f [(b,some (2,Lk.map Ce)),(J (-1),none),(c,some (1,a.map T.ej)),(d,some (3,Th.map ew.t))]
def uY:jI:=(dU 4 0 [.eQ [dT,J 0,dT,dT]])
def R1:xa.Ok prog cx 101:=by
 refine iz [] (js 9071038046463 [] func101) (λ_=>1000005) (by simp[xa]) ?_;rintro(w:fJ) ⟨hl,S,ht⟩ b K;simp[xa]at K|-;simp[f101,K];refine gW w.fQ.length G (λc b h=>Sy8 h (ao c ()) [] []/\Lb 2 h 0 (dU 6 0 [w.t])/\Lb 2 h 1 uY/\TI.Y b 1=D (dY 0)/\TI.Y b 2=D (dY 1)/\TI.Y b 3=D (dY 2)/\TI.Y b 4=D (J c)) ?_ ?_ G ?_;rintro c b h M y ⟨⟨ver,m,n,o,a⟩,e,j,l⟩;have p:=a.get;simp at p;have⟨H,x,u,i⟩:=(a.gr 0 rfl).mR (cx:=cx) (f:=Ce) a.ok KC rfl FC rfl V (λ_=>rfl) () dP;have⟨q,C,r⟩:=a.app 0 rfl i;have⟨g,k⟩:=r _ rfl;simp only[<-List.replicate_succ']at k;simp[-List.map_replicate]at q g k;simp only[Ce]at u;simp[*,e.get,fD,i.1.iW,i.1.cells];exact⟨⟨_,_,_,_,k⟩,e.step g,j.step g⟩
 .rintro b h ⟨⟨ver,m,n,o,a⟩,e,j,l⟩;simp[l,e.get];refine gW w.fI.length G (λc b h=>Sy8 h (ao w.fQ.length ()) (ao c false) []/\Lb 2 h 0 (dU 6 0 [w.t])/\Lb 2 h 1 uY/\TI.Y b 1=D (dY 0)/\TI.Y b 2=D (dY 1)/\TI.Y b 3=D (dY 2)/\TI.Y b 5=D (J c)) ?_ ?_ G ⟨⟨_,_,_,_,a⟩,e,j,by simp[l]⟩;rintro c b h M y ⟨⟨ver,m,n,o,a⟩,e,j,l⟩;have p:=a.get;simp at p;have⟨H,x,u,i⟩:=(a.gr 2 rfl).mR (cx:=cx) (f:=T.ej) a.ok Eh rfl Jj rfl V V false dP;have⟨q,C,r⟩:=a.app 2 rfl i;have⟨g,k⟩:=r _ rfl;simp only[<-List.replicate_succ']at k;simp[-List.map_replicate]at q g k;simp[*,e.get,fD,i.1.iW,i.1.cells];exact⟨⟨_,_,_,_,k⟩,e.step g,j.step g⟩
  .rintro b h ⟨⟨ver,m,n,o,a⟩,e,j,l⟩;simp[l,e.get];refine gW w.d8.length G (λc b h=>Sy8 h (ao w.fQ.length ()) (ao w.fI.length false) ((List.range c).map λc=>(⟨if c=0 then 1 else 0,0,false⟩:ew))/\Lb 2 h 0 (dU 6 0 [w.t])/\Lb 2 h 1 uY/\TI.Y b 1=D (dY 0)/\TI.Y b 2=D (dY 1)/\TI.Y b 3=D (dY 2)/\TI.Y b 6=D (J c)) ?_ ?_ G ⟨⟨_,_,_,_,a⟩,e,j,by simp[l]⟩
   .rintro c b h M y ⟨⟨ver,m,n,o,a⟩,e,j,l⟩;have p:=a.get;simp at p;have U:(0=h.size)=False:=qN a.lt;have W:(2=h.size)=False:=qN a.lt;by_cases L:c=0;subst L;have Q:binop .add (J 0) (J 1)=D (J 1):=iD y;have s:=a.cons (dU 3 2 [ew.t ⟨1,0,false⟩]);have v:=Step.cons a.ok a.lt (dU 3 2 [ew.t ⟨1,0,false⟩]);have z:=e.step v;have A:=j.step v;have⟨H,x,u,i⟩:=(s.gr 3 rfl).mR (cx:=cx) (f:=ew.t) s.ok HG rfl FD rfl V (λ_=>rfl) (⟨1,0,false⟩:ew) V;have⟨q,C,r⟩:=s.app 3 rfl i;have⟨g,k⟩:=r _ rfl;simp only[aR,bL,cS,cJ]at q g k;rw[size_cons]at u;simp[*,e.get,a.ok.low,fD,i.1.iW,i.1.cells];exact⟨⟨_,_,_,_,k⟩,z.step g,A.step g⟩
    .skip
     have s:=a.cons (dU 3 1 [ew.t ⟨0,0,false⟩]);have v:=Step.cons a.ok a.lt (dU 3 1 [ew.t ⟨0,0,false⟩]);have z:=e.step v;have A:=j.step v;have⟨H,x,u,i⟩:=(s.gr 3 rfl).mR (cx:=cx) (f:=ew.t) s.ok HG rfl FD rfl V (λ_=>rfl) (⟨0,0,false⟩:ew) dP;have⟨q,C,r⟩:=s.app 3 rfl i;have⟨g,k⟩:=r _ rfl;simp only[aR,bL,cS,cJ]at q g k;rw[size_cons]at u;simp[*,e.get,a.ok.low,fD,i.1.iW,i.1.cells];have hr:(List.range (c+1)).map (λc=>(⟨if c=0 then 1 else 0,0,false⟩:ew))=(List.range c).map (λc=>(⟨if c=0 then 1 else 0,0,false⟩:ew))++[⟨0,0,false⟩]:=by
      rw[List.range_succ,List.map_append];simp[L]
     rw[hr];exact⟨⟨_,_,_,_,k⟩,z.step g,A.step g⟩
   rintro b h ⟨⟨ver,m,n,o,a⟩,e,j,l⟩;have p:=a.get;simp at p;have N:=j.get;unfold uY at N;have E:=a.rx j (dU 4 1 [.eQ [m,J (-1),n,o]]);have R:(fF h 1 (dU 4 1 [.eQ [m,J (-1),n,o]])).get 1=_:=(ez N _ 1).trans (ax rfl);have P:=(E.gr 0 rfl).MD (d:=2) G (XW (Vq:=λ_=>True) w.fQ.length);simp[-List.map_replicate, *,e.get,fD,(E.gr 2 rfl).fz V,(E.gr 3 rfl).fz V];exact⟨a.ok.hp,by unfold m8 iq.t iq.cs;simp[List.map_const',-List.map_replicate]⟩
 have⟨O,I⟩:=oQ.start (h:=((hE.cons (dU 6 0 [w.t])).cons uY).cons (dU 4 1 [.eQ [dT,J (-1),dT,dT]])) (w:=2) (szw:=4) (ver:=1) (F:=[(dT,some (2,[])),(J (-1),none),(dT,some (1,[])),(dT,some (3,[]))]) ⟨V,V,V⟩ (by simp[uY]) V;exact⟨⟨_,_,_,_,O⟩,⟨V,λB=>absurd (I 0 B) dR⟩,⟨by simp[uY],λB=>absurd (I 1 B) dR⟩,V⟩
def M0{b:ik}(ht:b.p 101=D xa)(a:fJ)(c:a.fQ.length<=1000000)(d:a.fI.length<=1000000)(e:a.d8.length<=1000000):rl prog cx b 101 [a.t]=D (m8 a).t:=iF ht R1 a ⟨c,d,e⟩
def akK(f:H)(a:iq)(b c:Nat)(d:List Int):Prop:=∃g e,oQ f 4 7 g [(sl (a.fQ.map fk.t),none),(J a.tx,none),(sl (a.done.map T.ej),none),(sl (a.d8.map ew.t),none),(e,some (1,d.map (T.int .i64))),(.arr 2 0 0 b false,some (1,(ao b 0).map (T.int .i64))),(.arr 3 0 0 c false,some (1,(ao c 0).map (T.int .i64)))]
def pX:jI:=(dU 7 0 [.eQ [dT,J 0,dT,dT,dT,dT,dT]])
def tH:iE:=⟨fJ,λa=>[a.t],λa=>a.fQ.length<=1000000/\a.fI.length<=1000000/\a.d8.length<=1000000/\a.cells.length<=1000000,λa=>(kR a).t,λc d b=>by simp at b;rw[fJ.inj b]⟩
def R0:tH.Ok prog cx 48:=by
 refine iz [(101,xa)] (js 1048607 [(1,[(1,3),(1,5),(1,7),(1,9),(1,11)])] func48) (λ_=>1000005) (by simp[tH]) ?_;rintro(a:fJ) ⟨hl,q,ht,B⟩ g i;simp[tH]at i|-;have S:a.fI.length*8<=70368744177664:=G;have U:a.d8.length*8<=70368744177664:=G;simp[*,f48,M0];have M:(kR a).t=gh.t ⟨m8 a,a.cells.map ji.kH,ao a.fI.length 0,ao a.d8.length 0⟩:=by
  unfold kR;simp only[List.map_const']
 rw[M];generalize m8 a=b at*
 refine gW a.cells.length G (λl g h=>∃j,akK h b a.fI.length a.d8.length j/\j.length=l/\j=(a.cells.take l).map ji.kH/\Lb 4 h 0 (dU 6 0 [a.t])/\Lb 4 h 1 pX/\TI.Y g 1=D (dY 0)/\TI.Y g 2=D (dY 1)/\TI.Y g 3=D (dY 4)/\TI.Y g 4=D (J l)) ?_ ?_ G ?_;rintro l g h P al ⟨j,⟨R,c,d⟩,L,m,n,o,A⟩;have p:=d.get;simp at p;have⟨ap,Z,W,z⟩:=(d.gr 4 rfl).mR (cx:=cx) (f:=T.int .i64) d.ok rO rfl Bb rfl V (λ_=>rfl) a.cells[l].kH dP;have⟨s,an,u⟩:=d.app 4 rfl z;have⟨y,I⟩:=u _ rfl;simp only[aR,bL,cS,cJ]at s y I;simp[*,n.get,fD,z.1.iW,z.1.cells];exact⟨_,⟨_,_,I⟩,dP,by rw[m,aT P,List.map_append];rfl,n.step y,o.step y⟩;rintro g h ⟨j,⟨R,c,d⟩,L,m,n,o,A⟩;rw[aM]at m;subst m;have p:=d.get;simp at p;have H:=o.get;unfold pX at H;have w:=d.rx o (dU 7 1 [.eQ [sl (b.fQ.map fk.t),J b.tx,sl (b.done.map T.ej),sl (b.d8.map ew.t),c,.arr 2 0 0 a.fI.length false,.arr 3 0 0 a.d8.length false]]);have X:(fF h 1 (dU 7 1 [.eQ [sl (b.fQ.map fk.t),J b.tx,sl (b.done.map T.ej),sl (b.d8.map ew.t),c,.arr 2 0 0 a.fI.length false,.arr 3 0 0 a.d8.length false]])).get 1=_:=(ez H _ 1).trans (ax rfl);have av:=(w.gr 4 rfl).fz V;have aA:=(w.gr 5 rfl).fz V;have aE:=(w.gr 6 rfl).fz V;simp[-List.map_replicate,-yk, *,n.get,fD];exact⟨d.ok.hp,by unfold gh.t gh.cs;simp[-List.map_replicate]⟩
 .have F:∀(e:Nat) (k:T×aa (Nat×List T)),([(sl (b.fQ.map fk.t),none),(J b.tx,none),(sl (b.done.map T.ej),none),(sl (b.d8.map ew.t),none),(dT,some (1,[])),(.arr 2 0 0 a.fI.length false,some (1,(ao a.fI.length 0).map (T.int .i64))),(.arr 3 0 0 a.d8.length false,some (1,(ao a.d8.length 0).map (T.int .i64)))]:List (T×aa (Nat×List T)))[e]? =D k->∀c,fa k.1=D c->c+3=e:=by
   intro e k i c B;rcases e with _|_|_|_|_|_|_|e<;>simp at i<;>subst i<;>simp at B<;>omega
  refine⟨[],⟨1,dT,⟨V,V,V⟩,V,λf q=>?_,λe Q O k K i N c s u=>O ?_⟩,rfl,V,⟨V,?_⟩,⟨by simp[pX],?_⟩,V⟩
  .simp only[cz,cV,or_false,bL]at q;rcases q with rfl|rfl|rfl|rfl|rfl|rfl|rfl
   iterate 4 (show fa _=none;simp)
   exact⟨Gr.nil _ _,dR⟩;exact⟨.inr ⟨2,0,0,true,_,V,by simp;rfl,V⟩,show(1:Nat)≠7 by decide⟩;exact⟨.inr ⟨3,0,0,true,_,V,by simp;rfl,V⟩,show(1:Nat)≠7 by decide⟩
  have A:=F e k i c s;have ae:=F Q K N c u;omega
  all_goals
   rintro(r|⟨x,E,v,C,r⟩);simp at r;simp at E;subst E;simp[ir,T.cells]at C;rcases C with rfl|rfl|rfl|rfl|rfl|rfl|rfl<;>simp at r
def HO{b:ik}(ht:b.p 48=D tH)(a:fJ)(c:a.fQ.length<=1000000)(d:a.fI.length<=1000000)(e:a.d8.length<=1000000)(f:a.cells.length<=1000000):rl prog cx b 48 [a.t]=D (kR a).t:=iF ht R0 a ⟨c,d,e,f⟩
def xe:iE:=⟨List fR×Nat×Int×List Int,λa=>[sl (a.1.map fR.t),J a.2.1,J a.2.2.1,sl (a.2.2.2.map (T.int .i64))],λa=>a.2.1<=a.1.length/\a.1.length<=1000000/\a.2.2.2.length<=1000000,λa=> .ej (zj (a.1.take a.2.1) a.2.2.1 a.2.2.2),λa c b=>by
 obtain⟨a1,a2,a3,a4⟩:=a;obtain⟨h,i,j,k⟩:=c;simp at b;obtain⟨d,e,f,g⟩:=b;rw[j3 (λ_ _=>fR.inj) d,Int.ofNat.inj e,f,j3 (λ_ _ b=>iD b) g]⟩
def ScR(d e:Int)(b:List fR)(c f g:Nat)(h:T):Prop:=∃a:Bool,h= .ej a/\EA d e ((b.take c).drop f) g a=EA d e (b.take c) 0 false
def R9:xe.Ok prog cx 106:=by
 refine iz [] (js 576460753379335951 [] func106) (λ_=>1000005) (by simp[xe]) ?_;rintro⟨b,j,v,k⟩ ⟨N,hl,P⟩ a A;simp at N hl P;simp[xe]at A|-;simp[f106];refine gW k.length G (λh a n=>n=hE/\TI.Y a 0=D (sl (b.map fR.t))/\TI.Y a 1=D (J j)/\TI.Y a 2=D (J v)/\TI.Y a 3=D (sl (k.map (T.int .i64)))/\TI.Y a 9=D (J h)/\(k.take h).all (λF=>EA v F (b.take j) 0 false)=true) ?_ ?_ G (by simp[A]);rintro h a n u I ⟨rfl,l,d,m,e,f,s⟩;simp[e,f,u];refine gW j G (λc a n=>n=hE/\TI.Y a 0=D (sl (b.map fR.t))/\TI.Y a 1=D (J j)/\TI.Y a 2=D (J v)/\TI.Y a 3=D (sl (k.map (T.int .i64)))/\TI.Y a 9=D (J h)/\∃(i:Nat) (w:T),TI.Y a 10=D (J i)/\TI.Y a 11=D w/\TI.Y a 12=D (J c)/\i<=c/\ScR v k[h] b j c i w) ?_ ?_ G ⟨rfl,by simp[l],by simp[d],by simp[m],by simp[e],by simp[f],0,.ej false,V,V,V,az _,false,rfl,rfl⟩;rintro c a n K B ⟨rfl,l,d,m,e,f,i,w,y,r,o,L,x,rfl,g⟩;have C:c<b.length:=G;have z:(b.take j).drop c=b[c]::(b.take j).drop (c+1):=by
  rw[aL dP];simp
 rw[z,EA]at g;simp[l,d,m,o,K,C];have M:b[c]? =D b[c]:=aF C;have O:k[h]? =D k[h]:=aF u;generalize b[c]=R at*
 generalize k[h]=F at*
 have H:binop .add (J (i:Int)) (J 1)=D (J ((i+1:Nat):Int)):=by rw[jf G G];simp
 refine fG (λp=>?_) (λp=>?_);simp at p;rw[aw p]at g;simp[l,d,m,e,f,y,r,o,B];exact⟨i,rfl,G,x,rfl,g⟩;simp at p;rw[ax p]at g;simp[l,d,m,e,f,y,r,o,M,O,H,B];exact⟨i+1,V,G,_,rfl,g⟩;rintro a n ⟨rfl,l,d,m,e,f,i,w,y,r,o,L,x,rfl,g⟩;have z:(b.take j).drop j=[]:=V;rw[z,EA]at g;simp[d,r,o];cases x;simp;unfold zj;rw[List.all_eq_false];exact⟨k[h],aH u,by rw[<-g];simp⟩;simp[l,d,m,e,f,I];intro Q E;rw[aT u]at E;rcases List.mem_append.1 E with q|q
 exact List.all_eq_true.1 s Q q;rw[List.mem_singleton.1 q];exact g.symm;rintro a n ⟨rfl,l,d,m,e,f,s⟩;rw[aM]at s;simp[e,f];unfold zj;rw[s]
def Wn{e:ik}(ht:e.p 106=D xe)(a:List fR)(b:Nat)(d:Int)(c:List Int)(f:b<=a.length)(g:a.length<=1000000)(h:c.length<=1000000):rl prog cx e 106 [sl (a.map fR.t),J b,J d,sl (c.map (T.int .i64))]=D (.ej (zj (a.take b) d c)):=iF ht R9 (a,b,d,c) ⟨f,g,h⟩
end
noncomputable section
open Go Go.TI Tryz
section
attribute [-simp] List.map_take List.map_drop List.map_append
def Lr:iE:=⟨Int×Nat,λa=>[J a.1,J a.2],λa=>True,λa=> .ej (jx a.1 a.2),λa c b=>by simp at b;rw[b.1,show a.2=c.2 by omega]⟩
def ab3:Lr.Ok prog cx 146:=by refine iz [] (js 19 [] func146) (λc=>1) (by simp[Lr]) ?_;rintro⟨b,e⟩ _ f a;simp[Lr]at a|-;by_cases d:0<=b<;>simp[*,f146,jx]
def Wx{c:ik}(ht:c.p 146=D Lr)(a:Int)(b:Nat):rl prog cx c 146 [J a,J b]=D (.ej (jx a b)):=iF ht ab3 (a,b) trivial
def AB:iE:=⟨fJ×gh,λa=>[a.1.t,a.2.t],λa=>a.1.je.length<=1099511627776,λa=> .ej (ox a.1 a.2),λa c b=>by simp at b;rw[fJ.inj b.1,gh.inj b.2]⟩
def Va:AB.Ok prog cx 96:=by refine iz [(134,wi)] (js 31 [] func96) (λd=>1) (by simp[AB]) ?_;rintro⟨b,a⟩ hl h c;simp[AB]at hl c|-;cases g:m9 b a.gH;simp[*,f96,yu,ox];by_cases e:a.cells.length=b.cells.length<;>by_cases f:a.fI.length=b.fI.length<;>simp[*,f96,yu,ox,Int.natCast_inj]
def KM{c:ik}(ht:c.p 96=D AB)(a:fJ)(b:gh)(hl:a.je.length<=1099511627776):rl prog cx c 96 [a.t,b.t]=D (.ej (ox a b)):=iF ht Va (a,b) hl
def zq:iE:=⟨List Int×Int,λa=>[sl (a.1.map (T.int .i64)),J a.2],λa=>a.1.length<=1099511627776,λa=> .ej (BC a.2 none a.1),λa c b=>by simp at b;rw[j3 V b.1,b.2]⟩
def Sd:zq.Ok prog cx 147:=by
 refine iz [] (js 1099511628339 [] func147) (λt=>t.1.length+1) (by simp[zq]) ?_;rintro⟨c,k⟩ hl i p;simp[zq]at hl p|-;simp[f147];refine gW c.length G (λb i n=>n=hE/\TI.Y i 0=D (sl (c.map (T.int .i64)))/\TI.Y i 1=D (J k)/\TI.Y i 5=D (J b)/\BC k (if b=0 then none else c[b-1]?) (c.drop b)=BC k none c) ?_ ?_ G (by simp[p]);rintro b i n h q ⟨rfl,f,j,g,a⟩;rw[aL h]at a;simp[BC]at a;by_cases d:c[b]<1;simp[d]at a;simp[f,g,h,d,a];by_cases e:k<=c[b];simp[e]at a;simp[f,j,g,h,d,e,a];by_cases r:b=0;have l:¬0<b:=G;rw[ax r]at a;simp[d,e]at a;simp[f,j,g,h,q,d,e,l];exact a;have l:0<b:=G;have o:b-1<c.length:=G;have s:binop .sub (J (b:Int)) (J 1)=D (J ((b-1:Nat):Int)):=by rw[lK G G,show(b:Int)-1=((b-1:Nat):Int)by omega]
 rw[aw r,aF o]at a;by_cases m:c[b]<=c[b-1];simp[d,e,m]at a;simp[f,j,g,h,o,d,e,m,s,a,l];simp[d,e,m]at a;simp[f,j,g,h,o,q,d,e,m,s,l];exact a;rintro i n ⟨rfl,f,j,g,a⟩;simp[BC]at a;simp[f,g,a]
def Wq{c:ik}(ht:c.p 147=D zq)(a:List Int)(b:Int)(hl:a.length<=1099511627776):rl prog cx c 147 [sl (a.map (T.int .i64)),J b]=D (.ej (BC b none a)):=iF ht Sd (a,b) hl
def w9:iE:=⟨gh×fR,λa=>[a.1.t,a.2.t],λa=>a.1.gH.d8.length<=1099511627776/\(a.2.fc=3->jx a.2.obj a.1.cells.length=true)/\(a.2.fc=23->jx a.2.obj a.1.fI.length=true),λa=> .ej (qu a.1 a.2),λa c b=>by simp at b;rw[gh.inj b.1,fR.inj b.2]⟩
def RW:w9.Ok prog cx 148:=by
 refine iz [(31,u5),(77,E7)] (js 18889470444974887141823 [(17,[(1,6)])] func148) (λl=>1) (by simp[w9]) ?_;rintro⟨b,a⟩ hl u h;simp[w9]at hl h|-;obtain⟨hl,c,d⟩:=hl;by_cases g:a.fc=3;have⟨k,e,i⟩:=jm (c g);simp[*,f148,qu,fO (fT.1 (c g)).1];by_cases f:a.fc=23;have⟨k,e,i⟩:=jm (d f);simp[*,f148,qu,fO (fT.1 (d f)).1];by_cases r:a.fc=5;by_cases e:a.value=0<;>simp[*,f148,qu];by_cases q:a.fc=4;simp[*,f148,qu];by_cases p:a.fc=22;simp[*,f148,qu];by_cases n:a.fc=18;have j:=Ao a.obj b.gH.d8 0;by_cases m:jh a.obj b.gH.d8 0=[];simp[*,f148,qu,C3];by_cases s:0<=a.value<;>by_cases t:a.value<b.gH.d8.length<;>
  simp[*,f148,qu,C3,Ph,aU j hl]
 by_cases o:a.fc=19;simp[*,f148,qu,C3];simp[*,f148,qu]
def Wj{c:ik}(ht:c.p 148=D w9)(b:gh)(a:fR)(hl:b.gH.d8.length<=1099511627776)(d:a.fc=3->jx a.obj b.cells.length)(e:a.fc=23->jx a.obj b.fI.length):rl prog cx c 148 [b.t,a.t]=D (.ej (qu b a)):=iF ht RW (b,a) ⟨hl,d,e⟩
end
def Gv(a:List Int)(b:Int):xl a b=nW a b:=by
 induction a with
 |nil=>rfl
 |cons d a c=>rw[xl,nW,c]
def Gx:∀(b a:List Int),No a->No (nQ a b):=by
 intro b;induction b with
 |nil=>intro a c;exact c
 |cons e b d=>intro a c;exact d _ (by rw[Gv];exact Hf c e)
def Gw:∀(c b:List Int) (a:Int),a∈nQ b c->a∈b\/a∈c:=by
 intro c;induction c with
 |nil=>intro b a h;exact .inl h
 |cons e c d=>
  intro b a h;rcases d (xl b e) a h with h|h
  rw[Gv]at h;rcases He h with h|h
  exact .inl h;exact .inr (by simp[h]);exact .inr (by simp[h])
def Q7:∀(a:List Int) (e b:Int),No a->(∀c∈a,e<=c/\c<b)->a.length<=(b-e).toNat:=by
 intro a;induction a with
 |nil=>intro e b _ _;simp
 |cons c a i=>
  intro e b d f;unfold No at d;rw[dJ]at d;have j:=i (c+1) b d.2 λh g=>⟨iH (d.1 h g),(f h (by simp[g])).2⟩;have k:=f c V;simp;omega
def Tn(a:Nat)(b:List Int):Prop:=b.length<=a/\∀c∈b,0<=c/\c<a
theorem Tn.nil(a:Nat):Tn a []:=⟨aB _,V⟩
def Tn.union{a:Nat}{c d:List Int}(f:Tn a c)(g:Tn a d):Tn a (Dk c d):=by
 have e:∀b∈Dk c d,0<=b/\b<a:=λb i=>by
  rcases Gw _ _ _ i with h|h;rcases Gw _ _ _ h with h|h;simp at h;exact f.2 b h;exact g.2 b h
 refine⟨?_,e⟩;have:=Q7 (Dk c d) 0 a (Gx _ _ (Gx _ _ List.Pairwise.nil)) e;omega
end
end Go.Proofs.YtnfojkibhgjfmaaGreatDoor
namespace Go.TI
noncomputable section
section
@[simp]def afz (a:H) (b:jI):(a.cons b).size=a.size+1:=a9
def jr.Md{b h:Type}{c:b->h->Prop}{e:List b}{f:List h}(j:jr c e f){g:b}(d:g∈e):∃a∈f,c g a:=by
 induction j with
 |nil=>simp at d
 |cons i _ l=>
  rcases List.mem_cons.1 d with rfl|q;exact⟨_,V,i⟩;have⟨a,k,m⟩:=l q;exact⟨a,by simp[k],m⟩
section
variable {cx:Ctx}{cf:jU}{M n:Nat}{dl:DL}
def ahE{f:Out}{e:Env->H->Prop}{c:jD}(i:W f (BE e c))(j:∀a b,e a b->c.n a b):W f c:=by
 obtain⟨g,a,b,h,d⟩:=i;refine⟨g,a,b,h,?_⟩;cases g with
 |normal=>exact j a b d
 |exit k=>exact d
 |ret=>exact d
def W9{g:Out}{d:jD}(e:iP->H->Prop)(i:W g (BE (λb a=>b.tmps= .nil/\e b.vars a) d))(j:∀c a,e c a->d.n ⟨c,.nil⟩ a):W g d:=
 ahE i λb a ⟨h,f⟩=>by obtain⟨c,k⟩:=b;dsimp at h f;subst h;exact j c a f
def lJ{f:Bool}{g h:Code}{b:Env}{a:H}{d:jD}(c:iP->H->Prop)(k:f->W (kw cx cf n M dl g b a) (BE (λb a=>b.tmps= .nil/\c b.vars a) d))(l:f=false->W (kw cx cf n M dl h b a) (BE (λb a=>b.tmps= .nil/\c b.vars a) d))
 (i:∀j a,c j a->d.n ⟨j,.nil⟩ a):CK (some (.ej f)) cx cf n M dl g h b a d:=by
 refine fG (λe=>?_) (λe=>?_);exact W9 c (k e) i;exact W9 c (l e) i
end
end
section
@[simp]def alw (a:Nat):(a=a+1)=False:=V 
@[simp]def alv (a:Nat):(a=a+1+1)=False:=dP 
@[simp]def alu (a:Nat):(a=a+1+1+1)=False:=dP 
@[simp]def alt (a:Nat):(a=a+1+1+1+1)=False:=dP 
@[simp]def als (a:Nat):(a=a+1+1+1+1+1)=False:=dP 
def Hb{c:H}{b:T}{d:List T}(a:c.jQ b=D d)(f:jI):(c.cons f).jQ b=D d:=by
 cases b<;>first|exact a|(simp[H.jQ]at a;done)|skip
 rename_i g h k j i;rw[iU]at a|-;obtain⟨l,e,_⟩:=ed.1 a;rw[fg,aw (iH (H.fN e))];exact a
def kN{cx:Ctx}{a:H}{sz:Nat}(E:iS 0 a){g h f:ab}{m n b:Ty}(s:cx.ty g=D m)(t:m.u= .slice f)(v:cx.ty f=D b)(w:cx.ty h=D n)(y:n.u= .slice f)(j:b.size=sz)(A:1<=b.bytes)
 {x:T} {xs:List T} (C:a.jQ x=D xs) (k:∀q∈xs,q.cells.length=sz) (I:xs.length*b.bytes<=70368744177664):
 ∃i d,ju cx (a.cons ⟨sz,0,0,true,false,[]⟩) g h (.arr a.size 0 0 0 false) x=be (.arr a.size i 0 xs.length false) d/\(∃F r,d.get a.size=D ⟨sz,i,F,r,false,xs⟩)/\d.size=a.size+1/\(∀c,c<a.size->d.get c=a.get c)/\iS 0 d:=by
 have z:ju cx (a.cons ⟨sz,0,0,true,false,[]⟩) g h (.arr a.size 0 0 0 false) x=km ((a.cons ⟨sz,0,0,true,false,[]⟩).append b.size b.bytes (.arr a.size 0 0 0 false) xs):=by
  unfold ju rM oz;rw[s,fj,w,fj];simp[t,v,y,Hb C,fj];rw[j,mB k,iO]
 rw[z,j];have l:=E.cons ⟨sz,0,0,true,false,[]⟩;have e:(a.cons ⟨sz,0,0,true,false,[]⟩).get a.size=D ⟨sz,0,0,true,false,[]⟩:=V;rcases xs with _|⟨o,p⟩
 exact⟨0,a.cons ⟨sz,0,0,true,false,[]⟩,rfl,⟨0,true,e⟩,rfl,λc B=>by rw[fg,aw G],l⟩;refine⟨1,fF (a.cons ⟨sz,0,0,true,false,[]⟩) a.size ⟨sz,1,1,false,false,o::p⟩,?_,⟨1,false,by rw[ez e,ax rfl]⟩,by rw[iB];rfl,λc B=>by rw[ez e,aw G,fg,aw G],l.put _ _⟩;show km ((a.cons ⟨sz,0,0,true,false,[]⟩).oL sz b.bytes a.size 0 ([]:List T).length (o::p))=_;rw[Al e k A c5];rfl
def qk(c:H)(d:Nat)(b:T)(a:List T):Prop:=b=sl a\/Gr c b d a
def qk.jQ{b:H}{e:Nat}{c:T}{a:List T}(d:qk b e c a):b.jQ c=D a:=by rcases d with rfl|g;simp;exact g.jQ
def qk.mono{d h':H}{e:Nat}{b:T}{c:List T}(h:qk d e b c)(g:∀a,fa b=D a->h'.get a=d.get a):qk h' e b c:=h.imp id λf=>f.mono g
def qk.len{cx:Ctx}{f:H}{j:Nat}{e:T}{c:List T}(i:qk f j e c)(a:H)(b:Ty)(d:ab)(h:b.u= .slice d):Io cx a b e=be (.int .i64 c.length) a:=by rcases i with rfl|g;simp_all;exact g.len a b d h
theorem qk.iW{c:H}{e:Nat}{a:T}{b:List T}(d:qk c e a b):a.iW/\a.cells=[a]:=by rcases d with rfl|g;cases b<;>exact⟨rfl,rfl⟩;exact⟨g.iW,g.cells⟩
def qk.idx{b:H}{e:T}{a:List T}(m:qk b 1 e a){te:Ty}(l:te.size=1)(j:te.isAgg=false){i:Nat}{x:T}(k:a[i]? =D x)(r:x.cells=[x]):∃d,my b te e i=be d b/\b.load te d=D x:=by
 have hr:lj te [x]=D x:=by unfold lj;rw[j];rfl
 have c:i<a.length:=by
  grind
 rcases m with rfl|g;simp_all;have⟨n,p,s,q,t,_,f,h,o⟩:=g.CI l c;refine⟨_,f,?_⟩;have:a[i]=x:=by rw[aF c]at k;grind
 rw[acr,h];simp_all
def qk.ft{h:H}{Vq:Nat->Prop}{q d:Nat}{f:T}{b:List T}(p:qk h q f b)(e:∀a∈b,cn a=a/\kT a/\∀k,a≠ .eQ k)(i:∀c,fa f=D c->Vq c):FT h Vq (d+2) f (sl b):=by
 rcases p with rfl|g
 grind [sa]
 have j:=g.jQ;rcases g with⟨rfl,rfl⟩|⟨c,l,v,s,w,rfl,m,n⟩
 simp[kc];refine .inr (.inl ⟨c,l,0,_,false,b,b,rfl,i c rfl,j,?_,rfl⟩);clear j i n m;induction b with
 |nil=>exact .nil
 |cons a u o=>exact .cons (.inl ⟨(e a V).2.1,(e a V).2.2,(e a V).1.symm⟩) (o λr t=>e r c5)
structure Nb(h h':H):Prop where
 ok:iS h.size h'
 get:∀c,c<h.size->h'.get c=h.get c
def Nb.refl{a:H}(b:iS 0 a):Nb a a:=⟨⟨b.hp,b.low,az _⟩,λ_ _=>rfl⟩
def Nb.trans{d e f:H}(b:Nb d e)(a:Nb e f):Nb d f:=⟨⟨a.ok.hp,a.ok.low,aU b.ok.sz a.ok.sz⟩,λc g=>(a.get c (bO g b.ok.sz)).trans (b.get c g)⟩
theorem Nb.cons{b c:H}(a:Nb b c)(d:jI):Nb b (c.cons d):=⟨a.ok.cons d,λe f=>by rw[fg,aw (iH a.ok.sz)];exact a.get e f⟩
theorem Nb.put{b d:H}(e:Nb b d){a:Nat}{x:jI}(h:d.get a=D x)(i:b.size<=a)(f:jI):Nb b (fF d a f):=⟨e.ok.put a f,λc g=>by rw[ez h,aw G];exact e.get c g⟩
def Nb.step{b f:H}(a:Nb b f){d:Nat}(g:d<b.size):Step d b f:=⟨a.ok,λe c _=>a.get e c,λe c=>by rw[jN (a.get d g)]at c;grind⟩
def Nb.hr{a d:H}(b:Nb (TI.hr a) d):Nb a d:=⟨b.ok,λc e=>(b.get c e).trans (iI a c)⟩
def Nb.out{h b:H}(c:Nb (TI.hr h) b):Nb h (mF h b):=⟨c.ok.out h,λa d=>(iA h b a).trans ((c.get a d).trans (iI h a))⟩
def Gr.new{h:H}{b sz ep ver:Nat}{ex:Bool}{es:List T}(a:h.get b=D ⟨sz,ep,ver,ex,false,es⟩):Gr h (.arr b ep 0 es.length false) sz es:= .inr ⟨b,ep,ver,ex,es,rfl,a,aM⟩
def oQ.one{h:H}{w szw ver i0:Nat}{F:List (T×aa (Nat×List T))}(s:iS 0 h)(i:h.get w=D ⟨szw,0,ver,true,false,[.eQ (F.map (·.1))]⟩)(n:∀a∈F,Fld h szw a)(f:∀(b:Nat) d,F[b]? =D d->fa d.1≠none->b=i0):
 oQ h w szw ver F/\∀c,Fp h w c->c=w\/∃a,F[i0]? =D a/\fa a.1=D c:=by
 refine⟨⟨s,i,n,λb r q d k l m c t u=>q ((f b d l (by rw[t];simp)).trans (f r k m (by rw[u];simp)).symm)⟩,λc e=>?_⟩;rcases e with e|⟨x,g,v,j,e⟩
 omega;rw[i]at g;cases g;simp only[ir,aV,cB,bJ,T.cells]at j;obtain⟨a,o,rfl⟩:=List.mem_map.1 j;have⟨b,p⟩:=cU o;have:=f b a p (by rw[e];simp)
 grind
section
variable {cx:Ctx}{cf:jU}{M:Nat}
@[simp low] theorem ahX (n:aa Nat) (l:T) (j:af Oper) (a:List (Nat×Nat)) (f:aa Tmp) (h:List Oper) (b:Nat) (i:List (Nat×Nat)) (c:List (Nat×H×H)) (m k:iP) (g:H) (e:jD) (q:nC a b=false) (p:(c.all λd=> !D4 a d.1 b)):DLK n l cx cf M j a f h b i c m k g e=XF l cx cf M j a f h (b+1) i c m k g e:=by
 rcases n with _|o;rfl;have hl:oU a b o c=True:=by
  simp[eq_iff_iff,iff_true];intro d s r;have:=List.all_eq_true.1 p d s;rw[r]at this;grind
 rw[Xo,hl,q,true_and];rfl
end
def wI{a x:T}(c:∀b,a≠ .eQ b):ly a 0 [x]=D x:=by cases a<;>first|rfl|grind
def qk.na{h:H}{sz:Nat}{b:T}{a:List T}(d:qk h sz b a):∀c,b≠ .eQ c:=by rcases d with rfl|g;cases a<;>simp[sl];rcases g with⟨rfl,_⟩|⟨e,f,j,i,k,rfl,_⟩<;>simp
def Gr.setAt{j h':H}{f:T}{k a l b s ver2:Nat}{n ex2:Bool}{i h:List T}(o:Gr j f k i)(d:fa f=D a)(q:j.get a=D ⟨l,b,s,n,false,h⟩)(e:Nat)(g:T)(r:h'.get a=D ⟨l,b,ver2,ex2,false,h.set e g⟩):Gr h' f k (i.set e g):=by rcases o with⟨rfl,_⟩|⟨m,t,v,u,w,rfl,c,p⟩;simp at d;simp[En,ay]at d;subst d;rw[q]at c;simp[ay,jI.mk.injEq]at c;obtain⟨rfl,rfl,rfl,rfl,_,rfl⟩:=c;exact .inr ⟨m,b,ver2,ex2,h.set e g,by rw[dq],r,by rw[dq,List.take_set,p]⟩
def jr.set{d e:Type}{f c:d->e->Prop}{i:List d}{j:List e}(b:jr f i j)(a:Nat){k:d}{l:e}(m:c k l)(h:∀b g,f b g->c b g):jr c (i.set a k) (j.set a l):=by
 induction b generalizing a with
 |nil=>exact .nil
 |cons o p n=>
  rcases a with _|a;exact .cons m (p.imp h);exact .cons (h _ _ o) (n a)
def jr.acn{b c j:Type}{d:b->c->Prop}{e:b->j->Prop}{f:c->j}{h:List b}{i:List c}(a:jr d h i)(k:∀a g,d a g->e a (f g)):jr e h (i.map f):=by
 induction a with
 |nil=>exact .nil
 |cons m n l=>exact .cons (k _ _ m) l
def FT.tup{c:H}{f:Nat->Prop}{d h:Nat}(k:h<=11)(j:∀a,f a->d<=a){b g:List T}(l:jr (FT c f h) b g)(a:Bool):∃i,j4 c d (.tuple [.eQ b,.ej a])=D i/\cn i= .tuple [.eQ g,.ej a]:=by have⟨r0,e,n⟩:=FT.top k j l;refine⟨.tuple [r0,.ej a],?_,?_⟩;have e:lV c d (.eQ b)=D r0:=e;show(Z (iK (lV c d) [.eQ b,.ej a]) λm=>some (T.tuple m))=_;rw[kv,e];rfl;simp_all[xO]
def Gr.ft{c:H}{Vq:Nat->Prop}{e:T}{m d:Nat}{a b:List T}(i:Gr c e m a)(k:∀h,fa e=D h->Vq h)(f:jr (FT c Vq d) a b):FT c Vq (d+1) e (sl b):=by
 have l:=i.jQ;rcases i with⟨rfl,rfl⟩|⟨g,j,q,n,r,rfl,o,p⟩
 cases f;simp[kc];exact .inr (.inl ⟨g,j,0,_,false,a,b,rfl,k g rfl,l,f,rfl⟩)
def Gr.at{f:H}{h x:T}{g i:Nat}{a:List T}(k:Gr f h g a)(o:a[i]? =D x):∃b c j e d,h= .arr b c 0 a.length false/\f.get b=D ⟨g,c,j,e,false,d⟩/\d[i]? =D x/\i<a.length:=by
 have n:i<a.length:=by
  grind
 rcases k with⟨rfl,rfl⟩|⟨b,c,j,e,d,rfl,l,m⟩
 grind
 grind
def qk.qY{b:H}{j:Nat}{e:Type}{f:e->T}{d:T}{c:List e}(i:qk b j d (c.map f))(k:∀a,cn (f a)=f a)(h:∀a,AT b 11 (f a)=D (f a)):TI.qY b d=D (sl (c.map f)):=by rcases i with rfl|g;simp_all;exact g.qY h
def pj{b:H}{a c:Nat}{f:jI}(e:b.get a=D f)(d:c≠a)(g:jI):gJ b (fF b a g) c=true:=il (by rw[ez e,aw d])
def nT{h:H}{b:Nat}(e:Hp h)(d:b<h.size)(c:jI)(a:Nat):(fF h b c).get a=if a=b then some c else h.get a:=get_put e d c a
@[simp]def alF (a:Nat):(a<a+1+1)=True:=dP 
@[simp]def alE (a:Nat):(a<a+1+1+1)=True:=dP 
@[simp]def alD (a:Nat):(a<a+1+1+1+1)=True:=dP 
@[simp high] theorem akF {e:ai} {cx:Ctx} (d:ik) (b:aj) (a:List T) (c:H) (g:d.p b=none):rY e cx d b a c=hl e cx d b a c:=by
 unfold rY;rcases WN c a with _|f
 rfl
 grind [Fk]
def jF{b c:H}{a:Nat}(d:b.get a=none):gJ b c a=true:=by unfold gJ;rw[d]
def mG(b:H){a:Nat}(d:b.size<=a):b.get a=none:=by rcases c:b.get a with _|e;rfl;have:=H.fN c;omega
def Gr.yA{cx:Ctx}{a:H}{h:T}{b:Nat}{f:List T}(q:Gr a h b f)(l:iS 0 a){g i:ab}{m d:Ty}(j:cx.ty g=D m)(k:m.u= .slice i)(r:cx.ty i=D d)(t:d.size=b)(s:1<=d.bytes){x:T}(w:x.cells.length=b)(v:(f.length+1)*d.bytes<=70368744177664):
 ∃e c,ju cx (a.cons ⟨b,0,0,true,false,[x]⟩) g g h (.arr a.size 0 0 1 false)=be e c/\Xt a h b (f++[x]) e c:=by
 have n:=(Xt.refl q l).cons ⟨b,0,0,true,false,[x]⟩;have⟨e,c,p,o⟩:=Gr.app (cx:=cx) n.1 (l.cons _) (x:= .arr a.size 0 0 1 false) (xs:=[x]) j k r j k t s d4 c5 V G;exact⟨e,c,p,n.trans o.xt⟩
end
end
end Go.TI
namespace Go.Proofs.YtnfojkibhgjfmaaGreatDoor
noncomputable section
open Go Go.TI Tryz
attribute [-simp] List.map_take List.map_drop List.map_append ij fU fH Bool.not_or Bool.not_and
section
attribute [-simp] size_cons
abbrev iy(a:List Int):List T:=a.map (T.int .i64)
def tn1(a:List Int):T:=sl (a.map (T.int .i64))
def Tv(e d:Nat)(b c:T)(a:Nat):Prop:=e<=a/\a<d/\fa b≠some a/\fa c≠some a
structure E0(lo hi:Nat)(h:H)(a b:T)(es:List T)(s:gu):Prop where
 ga:Gr h a 1 (iy s.j1)
 gb:Gr h b 1 es
 el:jr (λe l=>qk h 1 e (iy l)/\∀c,fa e=D c->Tv lo hi a b c) es s.lP
 ba:∀c,fa a=D c->lo<=c/\c<hi/\fa b≠some c
 bb:∀c,fa b=D c->lo<=c/\c<hi
def Fj(a:gu)(b c:T):T:= .eQ [J a.pC,b,c,J a.ei]
structure TSr(h:H)(a b:T)(es:List T)(s:gu):Prop where
 ra:qk h 1 a (iy s.j1)
 rb:qk h 1 b es
 el:jr (λe l=>qk h 1 e (iy l)) es s.lP
 lt:∀e c,(e=a\/e=b\/e∈es)->fa e=D c->c<h.size
structure ICp where
 (s:gu) (a b:T) (es:List T)
def Uk(c:ICp)(e:List T)(d:H):Prop:=e=[Fj c.s c.a c.b]/\TSr d c.a c.b c.es c.s/\iS 0 d/\c.s.j1.length<=1000000/\c.s.lP.length<=1000000/\∀f∈c.s.lP,f.length<=1000000
def N1(e:ICp)(h:List T)(d:H)(g:T)(a:H):Prop:=∃b c f,g=Fj e.s b c/\E0 d.size a.size a b c f e.s/\Nb d a
structure CpS(s:gu)(a b aN:T)(h h':H)(i:Nat):Prop where
 ex:∃ver c es',oQ h' (h.size+1+1+1) 4 ver [(J s.pC,none),(aN,some (1,iy s.j1)),(c,some (1,es')),(J s.ei,none)]/\es'.length=i/\
  jr (λe l=>qk h' 1 e (iy l)/\∀k,fa e=D k->h.size+1<k/\k<h'.size/\¬Fp h' (h.size+1+1+1) k) es' (s.lP.take i)
 nb:Nb h h'
 l1:Lb (h.size+1+1+1) h' h.size (dU 4 0 [.eQ [J s.pC,a,b,J s.ei]])
 l2:Lb (h.size+1+1+1) h' (h.size+1) (dU 4 0 [.eQ [J 0,dT,dT,J 0]])
 lo:∀c,Fp h' (h.size+1+1+1) c->h.size+1<c
theorem d2{p:Prop}(h:p:=by rw[fg,aw G]):p:=h
def LU:(jS ICp Uk N1).Ok prog cx 242:=by
 refine jz (tb:=⟨pt [],ht []⟩) jk iX (js 262175 [(1,[(1,7),(3,7),(7,9)]),(5,[(1,8)])] func242) (λ_ _=>1000005) (λE A h c9=>by obtain⟨rfl,_⟩:=c9;simp[f242]) ?_;rintro⟨b,A,l,X⟩ _ h ⟨rfl,v,bN,hr,de,bC⟩ I P
 dsimp at v hr de bC
 simp[Fj]at P;have bS:=bN.hr;have R:∀t a,(t=A\/t=l\/t∈X)->fa t=D a->a<h.size:=v.lt;have⟨o,B⟩:∃o:H,o=((TI.hr h).cons (dU 4 0 [.eQ [J b.pC,A,l,J b.ei]])).cons (dU 4 0 [.eQ [J 0,dT,dT,J 0]]):=⟨_,rfl⟩;have dn:iS 0 o:=by subst B;exact(bS.cons _).cons _
 have b8:o.size=h.size+1+1:=by subst B;rfl
 have bH:Nb (TI.hr h) o:=by subst B;exact((Nb.refl bS).cons _).cons _
 have cv:o.get h.size=D (dU 4 0 [.eQ [J b.pC,A,l,J b.ei]]):=by subst B;simp
 have cL:o.get (h.size+1)=D (dU 4 0 [.eQ [J 0,dT,dT,J 0]]):=by subst B;simp
 have eb:qk o 1 A (iy b.j1):=v.ra.mono λa c=>(bH.get a (R A a (.inl rfl) c)).trans (iI h a);have⟨cb,m,N,⟨eL,eu,gA⟩,al,r,s⟩:=kN (cx:=cx) dn rO rfl Bb rO rfl rfl V eb.jQ d1 dP;simp[B]at N;have eF:h.low<=h.size:=bN.low;have U:∀l,l<o.size->gJ (o.cons (dU 1 0 [])) m l=true:=λl c4=>il ((r l c4).trans d2);have b7:gJ (o.cons (dU 1 0 [])) m m.size:=jF (mG _ dP);rw[b8]at U;replace U:=U h.size G;rw[B]at U b7;simp[f242,P,N,U,b7];have a7:m.size=h.size+1+1+1:=G;simp[a7];generalize bp:T.arr (h.size+1+1) cb 0 b.j1.length false=n;have gN:Gr m n 1 (iy b.j1):=by rw[<-bp];have:=Gr.new gA;rw[b8]at this;simpa using this
 have a8:∀a,fa n=D a->a=h.size+1+1:=λa c=>by rw[<-bp]at c;simp at c;exact c.symm
 have eI:iS 0 m:=s;refine gW b.lP.length G (λE I g=>CpS b A l n h g E/\TI.Y I 1=D (dY h.size)/\TI.Y I 2=D (dY (h.size+1))/\TI.Y I 3=D (dY (h.size+1+1+1))/\TI.Y I 4=D (J E)) ?_ ?_ G ?_;rintro E I g bA c1 ⟨⟨⟨ver,a,K,e,bu,W⟩,q,l1,l2,Q⟩,m⟩;have L:=e.get;simp at L;have ec:∀x,qk (g.cons x) 1 l X:=λx=>v.rb.mono λa c=>by have:=R l a (.inr (.inl rfl)) c;rw[fg,aw (iH q.ok.sz)];exact q.get a this
 have ap:=v.el.length;have av:=(show qk g 1 l X from v.rb.mono λa c=>q.get a (R l a (.inr (.inl rfl)) c)).len (cx:=cx) g FZ _ rfl;have⟨u,hl⟩:∃u,b.lP[E]? =D u:=⟨_,aF bA⟩;have c6:=aD hl;have⟨t,bs,bW⟩:=v.el.get hl;have ee:qk g 1 t (iy u):=bW.mono λa c=>q.get a (R t a (.inr (.inr (aD bs))) c);have⟨p,b9,ca⟩:=(ec (dU 1 0 [])).idx (te:=pJ) rfl rfl bs bW.iW.2;have ds:iS 0 g:=e.ok;have⟨bn,O,N,⟨eM,ey,gA⟩,al,r,s⟩:=kN (cx:=cx) ds kE rfl nc kE rfl rfl V ee.jQ d1 (qN (bC u c6));have er:Step (h.size+1+1+1) g O:=(Nb.mk ⟨s.hp,s.low,G⟩ r:Nb g O).step e.lt;have bX:=e.step s λa c=>r a (e.fp a c);have⟨et,eD,bi,aX⟩:=(bX.gr 2 rfl).yA (cx:=cx) s QL rfl kE rfl V (x:= .arr g.size bn 0 (iy u).length false) rfl dP;have⟨bT,eK,ea⟩:=bX.app 2 rfl aX;have⟨S,bZ⟩:=ea _ rfl;simp at bT S bZ;simp[al]at N bi;have eo:∀a,a<g.size->gJ (g.cons (dU 1 0 [])) O a=true:=λa c=>il ((r a c).trans d2);have dk:(h.size=g.size)=False:=qN l1.lt;have eH:(h.size+1+1+1=g.size)=False:=qN e.lt;have eh:=eo _ e.lt;have eA:=(r _ e.lt).trans L;simp[m,l1.get,L,av,ap,bA,b9,ca,N,al,bi,bT,dk,eh,fD,aX.1.iW,aX.1.cells,c1];have z:=er.trans S;have eE:=z.ok.sz;have eC:O.size=g.size+1:=al;refine⟨⟨_,et,K++[.arr g.size bn 0 u.length false],bZ,by simp[bu],?_⟩,?_,l1.step z,l2.step z,λa c=>?_⟩;have dd:b.lP.take (E+1)=b.lP.take E++[u]:=by
  rw[List.take_add_one,hl];rfl
 rw[dd];refine jr.append (W.imp λt u k=>⟨k.1.mono λd i=>?_,λd i=>?_⟩) (.cons ⟨.inr ?_,λd i=>?_⟩ .nil);have⟨aA,Z,M⟩:=k.2 d i;exact z.get d Z M;have⟨aA,Z,M⟩:=k.2 d i;exact⟨aA,G,λf=>(z.fp d f).elim M λf=>by omega⟩;have C:¬Fp O (h.size+1+1+1) g.size:=λf=>by
  rw[jN (r _ e.lt)]at f;have:=e.fp _ f;omega
 have:=Gr.new ((S.get g.size G C).trans gA);simpa using this;simp at i;subst i;refine⟨iH l2.lt,iH S.ok.sz,λf=>?_⟩;rcases S.fp _ f with f|f
 rw[jN (r _ e.lt)]at f;have:=e.fp _ f;omega;omega;refine⟨⟨z.ok.hp,z.ok.low,iH q.ok.sz⟩,λa c=>?_⟩;exact(z.get a (iH q.ok.sz) λf=>iH (Q a f)).trans (q.get a c);rcases z.fp a c with f|f;exact Q a f;have:=l2.lt;omega;rintro I g ⟨⟨⟨ver,a,K,e,bu,W⟩,q,l1,l2,Q⟩,m⟩;have L:=e.get;simp at L;have ap:=v.el.length;have av:=(show qk g 1 l X from v.rb.mono λa c=>q.get a (R l a (.inr (.inl rfl)) c)).len (cx:=cx) g FZ _ rfl;rw[aM]at W;have cX:∀y,(fF g (h.size+1) y).get (h.size+1)=D y:=λy=>(ez l2.get y _).trans (ax rfl);have ae:=e.rx l2 (dU 4 1 [.eQ [J b.pC,n,a,J b.ei]]);simp[m,l1.get,l2.get,L,av,ap,fD,cX];have b6:=ae.step (ae.ok.out h) λa _=>iA h _ a;have c7:∀d,h.size+1<d->(fF g (h.size+1) (dU 4 1 [.eQ [J b.pC,n,a,J b.ei]])).get d=g.get d:=λd i=>by rw[ez l2.get,aw G]
 have eB:=e.gr 2 rfl;have aE:(n,some (1,iy b.j1))∈ [((J b.pC:T),(none:aa (Nat×List T))),(n,some (1,iy b.j1)),(a,some (1,K)),(J b.ei,none)]:=V;have aN:(a,some (1,K))∈ [((J b.pC:T),(none:aa (Nat×List T))),(n,some (1,iy b.j1)),(a,some (1,K)),(J b.ei,none)]:=V;refine⟨n,a,K,rfl,⟨b6.gr 1 rfl,b6.gr 2 rfl,W.imp λt u k=>⟨k.1.mono λd i=>?_,λd i=>?_⟩,λd i=>?_,λd i=>?_⟩,⟨⟨(ae.ok.out h).hp,(ae.ok.out h).low,by simp;exact q.ok.sz⟩,λd i=>?_⟩⟩;rw[iA];exact c7 d (k.2 d i).1;have⟨aA,Z,M⟩:=k.2 d i;exact⟨G,iD Z,λk=>M (e.FA aE k),λk=>M (e.FA aN k)⟩;have:=e.fp d (e.FA aE i);have:=Q d (e.FA aE i);exact⟨G,by simpa,e.dis 1 2 dR _ _ rfl rfl d i⟩;have:=e.fp d (e.FA aN i);have:=Q d (e.FA aN i);exact⟨G,by simpa⟩;rw[iA,ez l2.get,aw G];exact q.get d i;have di:m.low<=h.size+1+1+1:=iH s.low;have dm:Nb h m:=⟨⟨s.hp,s.low,G⟩,λa c=>(r a G).trans ((bH.get a c).trans (iI h a))⟩;obtain⟨ef,cp⟩:=oQ.one (i0:=1) (h:=m.cons (dU 4 1 [.eQ [J b.pC,n,dT,J b.ei]])) (w:=h.size+1+1+1) (szw:=4) (ver:=1) (F:=[(J b.pC,none),(n,some (1,iy b.j1)),(dT,some (1,[])),(J b.ei,none)]) (s.cons _) (by simp[a7]) (λf C=>by
  simp[cz,cV,or_false]at C;rcases C with rfl|rfl|rfl|rfl
  show fa _=none;simp;exact⟨gN.mono λa c=>by rw[a8 a c,fg,aw G],show(1:Nat)≠4 by decide⟩;exact⟨Gr.nil _ _,dR⟩;show fa _=none;simp) (λj A P k=>by
  rcases j with _|_|_|_|j<;>simp at P<;>subst P<;>simp at k|-)
 have an:∀a,Fp (m.cons (dU 4 1 [.eQ [J b.pC,n,dT,J b.ei]])) (h.size+1+1+1) a->h.size+1<a:=λa c=>by
  rcases cp a c with k|⟨f,C,k⟩;omega;simp at C;subst C;have:=a8 a k;omega
 simp[a7,di];refine⟨⟨_,_,[],ef,rfl,.nil⟩,dm.cons _,⟨?_,λk=>?_⟩,⟨?_,λk=>?_⟩,an⟩;rw[fg,aw G];exact(r h.size G).trans cv;have:=an _ k;omega;rw[fg,aw G];exact(r (h.size+1) G).trans cL;have:=an _ k;omega
def ZF(b c:H)(d:T)(e:List Int):Prop:=qk c 1 d (iy e)/\Nb b c/\∀a,fa d=D a->b.size<=a
structure IUn where
 (x y:List Int) (u v:T)
def Ud(a:IUn)(c:List T)(b:H):Prop:=c=[a.u,a.v]/\qk b 1 a.u (iy a.x)/\qk b 1 a.v (iy a.y)/\a.x.length+a.y.length<=10000000/\iS 0 b
def NW(a:IUn)(e:List T)(b:H)(d:T)(c:H):Prop:=ZF b c d (Dk a.x a.y)
def Pl(b:T)(a:List Int):Prop:=(b= dT/\a=[])\/b=sl (iy a)
def Pl.qY{a:T}{b:List Int}(d:Pl a b)(c:H):qY c a=D (sl (iy b))/\kT a/\a.iW=true:=by rcases d with⟨rfl,rfl⟩|rfl<;>simp
def Pl.rd{a:T}{b:List Int}(d:Pl a b)(c:H):qk c 1 a (iy b)/\fa a=none:=by rcases d with⟨rfl,rfl⟩|rfl;exact⟨.inr (Gr.nil _ _),rfl⟩;exact⟨.inl rfl,V⟩
def LC:(jS IUn Ud NW).Ok prog cx 80:=by
 refine jz (tb:=⟨pt [(137,NS)],ht []⟩) jk iX (js 8390899 [] func80) (λ_ _=>10000005) (λi Q b L=>by obtain⟨rfl,_⟩:=L;simp[f80]) ?_;rintro⟨x,f,v,n⟩ _ b ⟨rfl,r,t,hl,O⟩ c o
 dsimp at r t hl
 simp at o;have s:qk (hr b) 1 v (iy x):=r.mono λh _=>iI b h;have u:qk (hr b) 1 n (iy f):=t.mono λh _=>iI b h;have M:=s.len (cx:=cx) (hr b) pJ _ rfl;have N:=u.len (cx:=cx) (hr b) pJ _ rfl;rw[aK]at M N;simp[f80];refine gW x.length G (λa c j=>j=hr b/\TI.Y c 0=D v/\TI.Y c 1=D n/\TI.Y c 6=D (J a)/\∃e,TI.Y c 5=D e/\Pl e (nQ [] (x.take a))) ?_ ?_ G (by simp[o];exact .inl ⟨rfl,rfl⟩);rintro a c _ g I ⟨rfl,E,k,F,e,l,d⟩;have⟨P,w,y⟩:=s.idx (te:=Dp) rfl rfl (i:=a) (x:= J x[a]) (by simp[g]) rfl;have m:=Bt [] (x.take a);simp at m;have⟨A,B,C⟩:=d.qY (hr b);have z:=λ{tb:ik} (ht:tb.p 137=D NS)=>ahr ht (nQ [] (x.take a)) x[a] G;simp[*,EG [] x g];exact .inr rfl;rintro c _ ⟨rfl,E,k,F,e,l,d⟩;rw[aM]at d;simp[*];refine gW f.length G (λa c j=>j=hr b/\TI.Y c 1=D n/\TI.Y c 7=D (J a)/\∃e,TI.Y c 5=D e/\Pl e (nQ (nQ [] x) (f.take a))) ?_ ?_ G (by simp[*];exact d);rintro a c _ g I ⟨rfl,k,H,e,l,d⟩;have⟨P,w,y⟩:=u.idx (te:=Dp) rfl rfl (i:=a) (x:= J f[a]) (by simp[g]) rfl;have m:=Bt (nQ [] x) (f.take a);have K:=Bt [] x;simp at m K;have⟨A,B,C⟩:=d.qY (hr b);have z:=λ{tb:ik} (ht:tb.p 137=D NS)=>ahr ht (nQ (nQ [] x) (f.take a)) f[a] G;simp[*,EG (nQ [] x) f g];exact .inr rfl;rintro c _ ⟨rfl,k,H,e,l,d⟩;rw[aM]at d;simp[*];have⟨r1,r2⟩:=d.rd (mF b (hr b));exact⟨r1,(Nb.refl O.hr).out,λh q=>by rw[r2]at q;simp at q⟩
def Lk(f:H)(d:Nat->Prop)(e:T)(c:fk):Prop:=∃a,e= .eQ [J c.jY,a]/\qk f 1 a (iy c.fZ)/\∀b,fa a=D b->d b
structure Fg(lo hi:Nat)(h:H)(c0 c2 c3:T)(es:List T)(S:iq):Prop where
 g0:Gr h c0 2 es
 g2:Gr h c2 1 (S.done.map T.ej)
 g3:Gr h c3 3 (S.d8.map ew.t)
 el:jr (Lk h λc=>lo<=c/\c<hi/\fa c0≠some c/\fa c2≠some c/\fa c3≠some c) es S.fQ
 b:∀c,(fa c0=D c\/fa c2=D c\/fa c3=D c)->lo<=c/\c<hi
def Rt(a:iq)(b c d:T):T:= .eQ [b,J a.tx,c,d]
def IK(a:iq)(b:List T)(c:H):Prop:=b=[a.t]/\iS 0 c/\a.fQ.length<=1000000/\a.done.length<=1000000/\a.d8.length<=1000000/\∀d∈a.fQ,d.fZ.length<=1000000
def N2(b:iq)(i:List T)(f:H)(h:T)(a:H):Prop:=∃c d e g,h=Rt b c d e/\Fg f.size a.size a c d e g b/\Nb f a
structure C8(S:iq)(c2 c3:T)(h h':H)(i:Nat):Prop where
 ex:∃ver c0 es,oQ h' (h.size+1+1+1+1) 4 ver [(c0,some (2,es)),(J S.tx,none),(c2,some (1,S.done.map T.ej)),(c3,some (3,S.d8.map ew.t))]/\es.length=i/\
  jr (Lk h' λk=>h.size+1<k/\k<h'.size/\¬Fp h' (h.size+1+1+1+1) k) es (S.fQ.take i)
 nb:Nb h h'
 l1:Lb (h.size+1+1+1+1) h' h.size (dU 4 0 [S.t])
 l2:Lb (h.size+1+1+1+1) h' (h.size+1) (dU 4 0 [.eQ [dT,J 0,dT,dT]])
 lo:∀c,Fp h' (h.size+1+1+1+1) c->h.size+1<c
def GQ:(jS iq IK N2).Ok prog cx 29:=by
 refine jz (tb:=⟨pt [],ht []⟩) jk iX (js 1048607 [(1,[(1,5),(5,6),(5,8),(1,9),(5,11),(9,11)]),(5,[(1,15),(3,15),(5,15),(7,15)])] func29) (λ_ _=>1000005) (λz K b eb=>by obtain⟨rfl,_⟩:=eb;simp[f29]) ?_;rintro c _ b ⟨rfl,eh,hl,eO,ht,hr⟩ I M;simp at M;have bs:=eh.hr;have⟨n,C⟩:∃n:H,n=((TI.hr b).cons (dU 4 0 [c.t])).cons (dU 4 0 [.eQ [dT,J 0,dT,dT]]):=⟨_,rfl⟩;have eo:iS 0 n:=by subst C;exact(bs.cons _).cons _
 have eE:n.size=b.size+1+1:=by subst C;rfl
 have ef:Nb b n:=by subst C;exact⟨(((Nb.refl bs).cons _).cons _).ok,λa h=>((((Nb.refl bs).cons _).cons _).get a h).trans (iI b a)⟩
 have bZ:n.get b.size=D (dU 4 0 [c.t]):=by subst C;simp
 have dm:n.get (b.size+1)=D (dU 4 0 [.eQ [dT,J 0,dT,dT]]):=by subst C;simp
 have⟨a7,s,ae,⟨e6,eF,gA⟩,bT,l,P⟩:=kN (cx:=cx) eo (x:=sl (c.done.map T.ej)) (xs:=c.done.map T.ej) Eh rfl Jj Eh rfl rfl V V (λe ds=>by obtain⟨m,_,rfl⟩:=List.mem_map.1 ds;rfl) dP;have⟨L,u,al,⟨eB,dk,b6⟩,e7,O,okB⟩:=kN (cx:=cx) P (x:=sl (c.d8.map ew.t)) (xs:=c.d8.map ew.t) HG rfl FD HG rfl rfl V V V dP;have dd:s.size=b.size+1+1+1:=G;have bS:u.size=b.size+1+1+1+1:=G;have W:∀m,m<n.size->gJ (n.cons (dU 1 0 [])) s m=true:=λm S=>il ((l m S).trans d2);have c6:∀m,m<s.size->gJ (s.cons (dU 3 0 [])) u m=true:=λm S=>il ((O m S).trans d2);have cX:=W b.size G;have er:=c6 b.size G;have c4:gJ (n.cons (dU 1 0 [])) s (b.size+1+1+1+1):=jF (mG _ dP);have et:gJ (s.cons (dU 3 0 [])) u (b.size+1+1+1+1):=jF (mG _ dP);have c1:gJ (n.cons (dU 1 0 [])) s (b.size+1+1+1):=jF (mG _ dP);have b7:=(l b.size G).trans bZ;have dn:=(O b.size G).trans b7;simp[C]at ae;simp[dd]at al;rw[C]at cX c1 c4;simp[*,f29];have de:=(show Gr u (.arr (b.size+1+1) a7 0 c.done.length false) 1 (c.done.map T.ej)by
  have:=Gr.new ((O n.size G).trans gA);rw[eE]at this;simpa using this)
 have di:=(show Gr u (.arr (b.size+1+1+1) L 0 c.d8.length false) 3 (c.d8.map ew.t)by
  have:=Gr.new b6;rw[dd]at this;simpa using this)
 have ee:Nb b u:=⟨⟨okB.hp,okB.low,G⟩,λa h=>(O a G).trans ((l a G).trans (ef.get a h))⟩;have eC:=(O b.size G).trans ((l b.size G).trans bZ);have eD:=(O (b.size+1) G).trans ((l (b.size+1) G).trans dm);have eV:u.low<=b.size+1+1+1+1:=iH okB.low;have bW:∀a,fa (.arr (b.size+1+1) a7 0 c.done.length false)=D a->a=b.size+1+1:=λa q=>iD q.symm;have bX:∀a,fa (.arr (b.size+1+1+1) L 0 c.d8.length false)=D a->a=b.size+1+1+1:=λa q=>iD q.symm;clear ae al W c6 cX c1 c4 er et b7 dn gA b6;generalize T.arr (b.size+1+1) a7 0 c.done.length false=o at*
 generalize T.arr (b.size+1+1+1) L 0 c.d8.length false=p at*
 refine gW c.fQ.length G (λz I i=>C8 c o p b i z/\TI.Y I 1=D (dY b.size)/\TI.Y I 2=D (dY (b.size+1))/\TI.Y I 3=D (dY (b.size+1+1+1+1))/\TI.Y I 4=D (J z)) ?_ ?_ G ?_;rintro z I i b9 eN ⟨⟨⟨eA,A,B,d,b8,Z⟩,N,l1,l2,aA⟩,s⟩;have an:=d.get;simp at an;have⟨k,ap⟩:∃k,c.fQ[z]? =D k:=⟨_,aF b9⟩;have eS:=hr k (aD ap);have⟨L,R,ae,⟨eB,dk,gA⟩,bT,l,P⟩:=kN (cx:=cx) d.ok (x:=sl (iy k.fZ)) (xs:=iy k.fZ) kE rfl nc kE rfl rfl V V d1 dP;have eu:Step (b.size+1+1+1+1) i R:=(Nb.mk ⟨P.hp,P.low,G⟩ l:Nb i R).step d.lt;have c7:=d.step P λa h=>l a (d.fp a h);have⟨ey,eM,al,bN⟩:=(c7.gr 0 rfl).yA (cx:=cx) P KC rfl FC rfl V (x:= .eQ [J k.jY,.arr i.size L 0 (iy k.fZ).length false]) rfl dP;have⟨bu,e0,bA⟩:=c7.app 0 rfl bN;have⟨X,c9⟩:=bA _ rfl;simp at bu X c9;simp[bT]at ae al;have W:∀a,a<i.size->gJ (i.cons (dU 1 0 [])) R a=true:=λa h=>il ((l a h).trans d2);have eW:(b.size=i.size)=False:=qN l1.lt;have eX:(b.size+1+1+1+1=i.size)=False:=qN d.lt;have e4:=W _ d.lt;have e5:=W _ l1.lt;have eK:=(l _ d.lt).trans an;have eH:=(l _ l1.lt).trans l1.get;simp[*,l1.get];have eR:c.fQ[z]=k:=by rw[aF b9]at ap;simpa using ap
 simp[*,fD,bN.1.iW,bN.1.cells];have w:=eu.trans X;have eU:=w.ok.sz;have eL:R.size=i.size+1:=bT;refine⟨⟨_,ey,B++[.eQ [J k.jY,.arr i.size L 0 k.fZ.length false]],c9,by simp[b8],?_⟩,?_,l1.step w,l2.step w,λa h=>?_⟩;have ec:c.fQ.take (z+1)=c.fQ.take z++[k]:=by
  rw[List.take_add_one,ap];rfl
 rw[ec];refine jr.append (Z.imp λe k ⟨bC,aN,aX,Q⟩=>⟨bC,aN,aX.mono λg j=>?_,λg j=>?_⟩) (.cons ⟨_,rfl,.inr ?_,λg j=>?_⟩ .nil);have⟨bn,av,F⟩:=Q g j;exact w.get g av F;have⟨bn,av,F⟩:=Q g j;exact⟨bn,G,λf=>(w.fp g f).elim F λf=>by omega⟩;have E:¬Fp R (b.size+1+1+1+1) i.size:=λf=>by
  rw[jN (l _ d.lt)]at f;have:=d.fp _ f;omega
 have:=Gr.new ((X.get i.size G E).trans gA);simpa using this;simp at j;subst j;refine⟨iH l2.lt,iH X.ok.sz,λf=>?_⟩;rcases X.fp _ f with f|f
 rw[jN (l _ d.lt)]at f;have:=d.fp _ f;omega;omega;refine⟨⟨w.ok.hp,w.ok.low,iH N.ok.sz⟩,λa h=>?_⟩;exact(w.get a (iH N.ok.sz) λf=>iH (aA a f)).trans (N.get a h);rcases w.fp a h with f|f;exact aA a f;have:=l2.lt;omega;rintro I i ⟨⟨⟨eA,A,B,d,b8,Z⟩,N,l1,l2,aA⟩,s⟩;have an:=d.get;simp at an;rw[aM]at Z;have eI:∀y,(fF i (b.size+1) y).get (b.size+1)=D y:=λy=>(ez l2.get y _).trans (ax rfl);have aE:=d.rx l2 (dU 4 1 [.eQ [A,J c.tx,o,p]]);simp[*,l1.get,l2.get,fD];have bH:=aE.step (aE.ok.out b) λa _=>iA b _ a;have cb:(A,some (2,B))∈ [(A,some (2,B)),((J c.tx:T),(none:aa (Nat×List T))),(o,some (1,c.done.map T.ej)),(p,some (3,c.d8.map ew.t))]:=V;have cp:(o,some (1,c.done.map T.ej))∈ [(A,some (2,B)),((J c.tx:T),(none:aa (Nat×List T))),(o,some (1,c.done.map T.ej)),(p,some (3,c.d8.map ew.t))]:=V;have cv:(p,some (3,c.d8.map ew.t))∈ [(A,some (2,B)),((J c.tx:T),(none:aa (Nat×List T))),(o,some (1,c.done.map T.ej)),(p,some (3,c.d8.map ew.t))]:=V;refine⟨A,o,p,B,rfl,⟨bH.gr 0 rfl,bH.gr 2 rfl,bH.gr 3 rfl,Z.imp λe k ⟨bC,aN,aX,Q⟩=>⟨bC,aN,aX.mono λg j=>?_,λg j=>?_⟩,λg j=>?_⟩,⟨⟨(aE.ok.out b).hp,(aE.ok.out b).low,by simp;exact N.ok.sz⟩,λg j=>?_⟩⟩;rw[iA,ez l2.get,aw (iH (Q g j).1)];have⟨bn,av,F⟩:=Q g j;exact⟨G,iD av,λq=>F (d.FA cb q),λq=>F (d.FA cp q),λq=>F (d.FA cv q)⟩;have E:Fp i (b.size+1+1+1+1) g:=by
  rcases j with q|q|q;exact d.FA cb q;exact d.FA cp q;exact d.FA cv q
 have:=d.fp g E;have:=aA g E;exact⟨G,by simpa⟩;rw[iA,ez l2.get,aw G];exact N.get g j;have bp:∀(r:Nat) (K:T×aa (Nat×List T)) a,[(T.em [] false,some (2,[])),((J c.tx:T),(none:aa (Nat×List T))),(o,some (1,c.done.map T.ej)),(p,some (3,c.d8.map ew.t))][r]? =D K->fa K.1=D a->a=b.size+r:=λr K a M q=>by
  rcases r with _|_|_|_|r<;>simp at M<;>subst M;simp at q;simp at q;have:=bW a q;omega;have:=bX a q;omega
 have cL:oQ (u.cons (dU 4 1 [.eQ [dT,J c.tx,o,p]])) (b.size+1+1+1+1) 4 1 [(T.em [] false,some (2,[])),(J c.tx,none),(o,some (1,c.done.map T.ej)),(p,some (3,c.d8.map ew.t))]:=by
  refine⟨okB.cons _,by simp[bS],λf E=>?_,λr g eP K m M S a bu bA=>?_⟩;simp only[cz,cV,or_false]at E;rcases E with rfl|rfl|rfl|rfl
  exact⟨Gr.nil _ _,show(2:Nat)≠4 by decide⟩;show fa _=none;simp;exact⟨de.mono λa h=>by have:=bW a h;rw[fg,aw (by rw[bS];omega)],show(1:Nat)≠4 by decide⟩;exact⟨di.mono λa h=>by have:=bX a h;rw[fg,aw (by rw[bS];omega)],show(3:Nat)≠4 by decide⟩;have:=bp r K a M bu;have:=bp g m a S bA;omega
 have a8:∀a,Fp (u.cons (dU 4 1 [.eQ [dT,J c.tx,o,p]])) (b.size+1+1+1+1) a->b.size+1<a:=λa h=>by
  rcases h with q|⟨x,bi,v,ca,q⟩;omega;rw[cL.get]at bi;cases bi;simp only[ir,aV,cB,bJ,T.cells]at ca;obtain⟨f,ea,rfl⟩:=List.mem_map.1 ca;have⟨r,U⟩:=cU ea;have j:=bp r f a U q;rcases r with _|_|r
  simp at U;subst U;simp at q;simp at U;subst U;simp at q;omega
 simp[*];refine⟨⟨_,_,[],cL,rfl,.nil⟩,ee.cons _,⟨?_,λq=>?_⟩,⟨?_,λq=>?_⟩,a8⟩;rw[fg,aw G];exact eC;have:=a8 _ q;omega;rw[fg,aw G];exact eD;have:=a8 _ q;omega
structure Ac(h0 h':H)(v:T)(l:List Int):Prop where
 nb:Nb h0 h'
 g:Gr h' v 1 (iy l)
 lo:∀c,fa v=D c->h0.size<=c
def Ac.start{a:H}(b:iS 0 a):Ac a a dT []:=⟨Nb.refl b,Gr.nil _ _,V⟩
def Ac.mR{m h:H}{n:T}{j:List Int}(a:Ac m h n j)(l:Int)(s:j.length<=10000000):∃d c,ju cx (h.cons (dU 1 0 [J l])) 39 39 n (.arr h.size 0 0 1 false)=be d c/\Ac m c d (j++[l]):=by have⟨d,c,e,o,p,r,k⟩:=a.g.mR (cx:=cx) (f:=T.int .i64) ⟨a.nb.ok.hp,a.nb.ok.low,aB _⟩ kE rfl nc rfl V (λ_=>rfl) l dP;have:=a.nb.ok.sz;refine⟨d,c,e,⟨⟨k.hp,k.low,aU a.nb.ok.sz k.sz⟩,λb i=>(p b G λq=>iH (a.lo b q)).trans (a.nb.get b i)⟩,o,λb i=>?_⟩;rcases r b i with q|q;exact a.lo b q;omega
def Ac.L4{a c:H}{l:T}{i:List Int}{h:H}(e:Ac h c l i)(j:Nb a h):ZF a (mF a c) l i:=by have d:=j.trans e.nb;have k:iS 0 c:=⟨d.ok.hp,d.ok.low,aB _⟩;have:=j.ok.sz;exact⟨.inr (e.g.out a),⟨⟨(k.out a).hp,(k.out a).low,d.ok.sz⟩,λb f=>(iA a c b).trans (d.get b f)⟩,λb f=>iH (e.lo b f)⟩
structure IWt where
 (S:iq) (c0 c2 c3:T) (c:Int)
def aaq(a:IWt)(d:List T)(b:H):Prop:=d=[Rt a.S a.c0 a.c2 a.c3,J a.c]/\Gr b a.c3 3 (a.S.d8.map ew.t)/\a.S.d8.length<=1000000/\iS 0 b
def Um(a:IWt)(f:List T)(b:H)(e:T)(d:H):Prop:=ZF b d e (jh a.c a.S.d8 0)
def Ny(c:Int)(b:List ew)(a:Nat)(d:a<b.length):jh c (b.drop a) a=if b[a].jq=3/\b[a].cond=c then(a:Int)::jh c (b.drop (a+1)) (a+1)else jh c (b.drop (a+1)) (a+1):=by rw[aL d,jh]
def GI:(jS IWt aaq Um).Ok prog cx 31:=by
 refine jz (tb:=⟨pt [],ht []⟩) jk iX (js 1073743991 [] func31) (λ_ _=>1000005) (λi d a K=>by obtain⟨rfl,_⟩:=K;simp[f31]) ?_;rintro⟨b,j,k,c,h⟩ _ a ⟨rfl,n,hl,s⟩ l w
 dsimp at n hl
 simp[Rt]at w;obtain⟨W,o⟩:=w;have M:=s.hr.cons (dU 4 0 [.eQ [j,J b.tx,k,c]]);have A:Gr ((hr a).cons (dU 4 0 [.eQ [j,J b.tx,k,c]])) c 3 (b.d8.map ew.t):=n.mono λe p=>by
  have⟨_,_,_,_,u,_⟩:=n.box p;rw[fg,aw (qN (H.fN u)),iI]
 have l3:∀e,fa c=D e->e<a.size:=λe p=>by have⟨_,_,_,_,u,_⟩:=n.box p;exact H.fN u
 have I:=λo:H=>n.len (cx:=cx) o Rq _ rfl;rw[aK]at I;simp[*,f31];have v:((hr a).cons (dU 4 0 [.eQ [j,J b.tx,k,c]])).get a.size=D (dU 4 0 [.eQ [j,J b.tx,k,c]]):=V;have L:Nb a ((hr a).cons (dU 4 0 [.eQ [j,J b.tx,k,c]])):=⟨((Nb.refl s.hr).cons _).ok,λh F=>(((Nb.refl s.hr).cons _).get h F).trans (iI a h)⟩;have ap:((hr a).cons (dU 4 0 [.eQ [j,J b.tx,k,c]])).size=a.size+1:=rfl;generalize Z:(hr a).cons (dU 4 0 [.eQ [j,J b.tx,k,c]])=C at*
 refine gW b.d8.length G (λg l h'=>∃q m,Ac C h' q m/\m.length<=g/\m++jh h (b.d8.drop g) g=jh h b.d8 0/\TI.Y l 1=D (J h)/\TI.Y l 2=D (dY a.size)/\TI.Y l 5=D q/\TI.Y l 6=D (J g)) ?_ ?_ G ⟨_,_,Ac.start M,aB _,rfl,by simp[o]⟩;rintro g l h' x X ⟨q,m,d,E,f,o⟩;have B:=(d.nb.get a.size G).trans v;have⟨e,S,al,T,an,O,P,Q,z⟩:=(A.mono (h':=h') λe p=>d.nb.get e (iH (l3 e p))).CI (te:=Ev) rfl (i:=g) (iD x);simp at z;rw[Ny h _ _ x]at f;simp[*];generalize b.d8[g]=ae at*
 refine fG (λr=>?_) (λr=>?_);rw[ax (iD r)]at f;have⟨N,U,R,y⟩:=d.mR (g:Int) G;simp[*];exact⟨N,_,y,dP,iD f,rfl⟩;rw[aw (iD r)]at f;simp[*];exact⟨q,m,d,G,f,rfl⟩;rintro l h' ⟨q,m,d,E,f,o⟩;have B:=(d.nb.get a.size G).trans v;simp[jh]at f;subst f;simp[*];exact d.L4 L
structure IWo where
 (l:List Int) (v:T) (n:Int)
def aar(a:IWo)(d:List T)(b:H):Prop:=d=[a.v,J a.n]/\qk b 1 a.v (iy a.l)/\(∀c,fa a.v=D c->c<b.size)/\a.l.length<=1000000/\iS 0 b
def Un(a:IWo)(f:List T)(b:H)(d:T)(c:H):Prop:=ZF b c d (a.l.filter λe=> !decide (e=a.n))
def N9:(jS IWo aar Un).Ok prog cx 81:=by
 refine jz (tb:=⟨pt [],ht []⟩) jk iX (js 263283 [] func81) (λ_ _=>1000005) (λi d f y=>by obtain⟨rfl,_⟩:=y;simp[f81]) ?_;rintro⟨h,B,l⟩ _ f ⟨rfl,n,s,hl,m⟩ c q
 dsimp at n s hl
 simp at q;obtain⟨o,p⟩:=q;have z:Nb f (hr f):=⟨⟨m.hr.hp,m.hr.low,az _⟩,λg _=>iI f g⟩;have w:=λp:H=>n.len (cx:=cx) p pJ _ rfl;rw[aK]at w;simp[*,f81];refine gW h.length G (λb c h'=>∃j e,Ac (hr f) h' j e/\e.length<=b/\e++(h.drop b).filter (λx=> !decide (x=l))=h.filter (λx=> !decide (x=l))/\TI.Y c 0=D B/\TI.Y c 1=D (J l)/\TI.Y c 5=D j/\TI.Y c 6=D (J b)) ?_ ?_ G ⟨_,_,Ac.start m.hr,aB _,rfl,by simp[*]⟩;rintro b c h' r K ⟨j,e,d,u,a,o⟩;have⟨L,C,E⟩:=(n.mono (h':=h') λg v=>(d.nb.get g (iD (s g v))).trans (iI f g)).idx (te:=Dp) rfl rfl (i:=b) (x:= J h[b]) (by simp[r]) rfl;rw[aL r,List.filter_cons]at a;simp[*];generalize h[b]=x at*
 refine fG (λk=>?_) (λk=>?_);rw[ax (iD k)]at a;have⟨A,I,F,t⟩:=d.mR x G;simp[*];exact⟨A,_,t,dP,iD a,rfl⟩;rw[aw (iD k)]at a;simp[*];exact⟨j,e,d,G,a,rfl⟩;rintro c h' ⟨j,e,d,u,a,o⟩;simp at a;subst a;simp[*];exact d.L4 z
end
section
def qD{d:Type}{c:List d}{b:Nat}{a:d}(h:c[b]? =D a)(f:d->d):c.modify b f=c.set b (f a):=by
 apply dx;intro g;rw[List.getElem?_modify,cG];by_cases e:b=g;subst e;have hi:b<c.length:=by
  rcases aW b c.length with k|k;exact k;rw[bY k]at h;simp at h
 rw[h];simp[hi];rw[aw e];simp[e]
section
variable {lo hi hi':Nat}{h h':H}{c0 c2 c3:T}{es:List T}{S:iq}
def Fg.mono(d:Fg lo hi h c0 c2 c3 es S)(l:hi<=hi')(f:∀a,lo<=a->a<hi->h'.get a=h.get a):Fg lo hi' h' c0 c2 c3 es S:=
 ⟨d.g0.mono λa c=>f a (d.b a (.inl c)).1 (d.b a (.inl c)).2,d.g2.mono λa c=>f a (d.b a (.inr (.inl c))).1 (d.b a (.inr (.inl c))).2,d.g3.mono λa c=>f a (d.b a (.inr (.inr c))).1 (d.b a (.inr (.inr c))).2,
   d.el.imp λk m ⟨j,g,i,e⟩=>⟨j,g,i.mono λa c=>f a (e a c).1 (e a c).2.1,λa c=>⟨(e a c).1,iH (e a c).2.1,(e a c).2.2⟩⟩,λa c=>⟨(d.b a c).1,iH (d.b a c).2⟩⟩
def Fg.tx(a:Fg lo hi h c0 c2 c3 es S)(c:Int):Fg lo hi h c0 c2 c3 es {S with tx:=c}:=⟨a.g0,a.g2,a.g3,a.el,a.b⟩
def Fg.rU(d:Fg lo hi h c0 c2 c3 es S){e l n:Nat}{m:Bool}{o:List T}(r:fa c3=D e)(g:h.get e=D ⟨3,l,n,m,false,o⟩)(i:Nat)(k:ew):
 Fg lo hi (fF h e ⟨3,l,n+1,m,false,o.set i k.t⟩) c0 c2 c3 es {S with d8:=S.d8.set i k}:=by
 have p:∀a,a≠e->(fF h e ⟨3,l,n+1,m,false,o.set i k.t⟩).get a=h.get a:=λa c=>by rw[ez g,aw c]
 refine⟨d.g0.mono λa c=>p a λf=>?_,d.g2.mono λa c=>p a λf=>?_,?_,d.el.imp λf w ⟨v,s,u,q⟩=>⟨v,s,u.mono λa c=>p a λf=>(q a c).2.2.2.2 (f▸r),q⟩,d.b⟩;subst f;have⟨_,_,_,_,j,_⟩:=d.g0.box c;rw[g]at j;simp at j;subst f;have⟨_,_,_,_,j,_⟩:=d.g2.box c;rw[g]at j;simp at j;have:=d.g3.setAt r g i k.t (h':=fF h e ⟨3,l,n+1,m,false,o.set i k.t⟩) (by rw[ez g,ax rfl]);simpa[bg]using this
def Fg.don(d:Fg lo hi h c0 c2 c3 es S){e l n:Nat}{m:Bool}{o:List T}(r:fa c2=D e)(g:h.get e=D ⟨1,l,n,m,false,o⟩)(i:Nat)(k:Bool):
 Fg lo hi (fF h e ⟨1,l,n+1,m,false,o.set i (.ej k)⟩) c0 c2 c3 es {S with done:=S.done.set i k}:=by
 have p:∀a,a≠e->(fF h e ⟨1,l,n+1,m,false,o.set i (.ej k)⟩).get a=h.get a:=λa c=>by rw[ez g,aw c]
 refine⟨d.g0.mono λa c=>p a λf=>?_,?_,d.g3.mono λa c=>p a λf=>?_,d.el.imp λf v ⟨u,s,t,q⟩=>⟨u,s,t.mono λa c=>p a λf=>(q a c).2.2.2.1 (f▸r),q⟩,d.b⟩;subst f;have⟨_,_,_,_,j,_⟩:=d.g0.box c;rw[g]at j;simp at j;have:=d.g2.setAt r g i (.ej k) (h':=fF h e ⟨1,l,n+1,m,false,o.set i (.ej k)⟩) (by rw[ez g,ax rfl]);simpa[bg]using this;subst f;have⟨_,_,_,_,j,_⟩:=d.g3.box c;rw[g]at j;simp at j
def Fg.uj(e:Fg lo hi h c0 c2 c3 es S){g m p:Nat}{n:Bool}{q:List T}(o:fa c0=D g)(i:h.get g=D ⟨2,m,p,n,false,q⟩)(f:Nat){rv:T}{k:fk}(hr:qk h 1 rv (iy k.fZ))(s:∀a,fa rv=D a->lo<=a/\a<hi/\fa c0≠some a/\fa c2≠some a/\fa c3≠some a):
 Fg lo hi (fF h g ⟨2,m,p+1,n,false,q.set f (.eQ [J k.jY,rv])⟩) c0 c2 c3 (es.set f (.eQ [J k.jY,rv])) {S with fQ:=S.fQ.set f k}:=by
 have l:∀a,a≠g->(fF h g ⟨2,m,p+1,n,false,q.set f (.eQ [J k.jY,rv])⟩).get a=h.get a:=λa c=>by rw[ez i,aw c]
 refine⟨e.g0.setAt o i f _ (by rw[ez i,ax rfl]),e.g2.mono λa c=>l a λd=>?_,e.g3.mono λa c=>l a λd=>?_,e.el.set f ⟨rv,rfl,hr.mono λa c=>l a λd=>(s a c).2.2.1 (d▸o),s⟩ λd v ⟨rv,t,u,r⟩=>⟨rv,t,u.mono λa c=>l a λd=>(r a c).2.2.1 (d▸o),r⟩,e.b⟩;subst d;have⟨_,_,_,_,j,_⟩:=e.g2.box c;rw[i]at j;simp at j;subst d;have⟨_,_,_,_,j,_⟩:=e.g3.box c;rw[i]at j;simp at j
end
def Fg.fz{lo hi:Nat}{h:H}{c0 c2 c3:T}{es:List T}{S:iq}(a:Fg lo hi h c0 c2 c3 es S):TI.fz h c0=D (sl (S.fQ.map fk.t))/\TI.fz h c2=D (sl (S.done.map T.ej))/\TI.fz h c3=D (sl (S.d8.map ew.t)):=by
 refine⟨?_,a.g2.fz V,a.g3.fz V⟩;exact a.g0.MD (d:=4) G (a.el.acn (f:=fk.t) λg j ⟨l,b,c,i⟩=>by
  subst b;exact .inr (.inr ⟨_,_,rfl,.cons (iL ..) (.cons (c.ft (d:=1) (Vq:=λ_=>True) (λm e=>by obtain⟨k,_,rfl⟩:=List.mem_map.1 e;simp) λ_ _=>trivial) .nil),rfl⟩))
def Nz{c:List Int}(h:No c)(d:Int):Dk c [d]=nW c d:=by
 have e:∀(a b:List Int),nQ b a=a.foldl nW b:=by
  intro a;induction a with
  |nil=>intro b;rfl
  |cons g a f=>intro b;show nQ (xl b g) a=_;rw[f,Gv];rfl
 unfold Dk;rw[e,e];exact Rn h d
end
section
attribute [-simp] size_cons
section
def wW{e d:Int}:∀{b:List ew} {c:Nat},d∈jh e b c->∃a:Nat,d=((c+a:Nat):Int)/\a<b.length:=by
 intro b;induction b with
 |nil=>intro c h;simp[jh]at h
 |cons k b j=>
  intro c h;rw[jh]at h;have f:d∈jh e b (c+1)->∃a:Nat,d=((c+a:Nat):Int)/\a<(k::b).length:=λh=>by
   have⟨a,g,i⟩:=j h;exact⟨a+1,by rw[g];simp;omega,iD i⟩
  split at h;rcases List.mem_cons.1 h with rfl|h;exact⟨0,V,V⟩;exact f h;exact f h
def B4(c:Int):∀(a:List ew) (b:Nat),(jh c a b).length<=a.length:=by
 intro a;induction a with
 |nil=>intro b;simp[jh]
 |cons e a d=>intro b;rw[jh];have:=d (b+1);split<;>simp<;>omega
def Sv(T:List ew)(b:List Int):List ew:=b.foldl (λT (a:Int)=>T.modify a.toNat (mn 4)) T
def YD(g:Int):∀(c b:List ew),Sv (b++c) (jh g c b.length)=b++c.map λe=>if e.jq=3/\e.cond=g then mn 4 e else e:=by
 intro c;induction c with
 |nil=>intro b;simp[jh,Sv]
 |cons d c i=>
  intro b;rw[jh];split;rename_i f;unfold Sv;rw[List.foldl_cons];have j:(b++d::c).modify ((b.length:Int).toNat) (mn 4)=(b++[mn 4 d])++c:=by
   rw[qD (a:=d) V];simp
  rw[j];have:=i (b++[mn 4 d]);simp only[aY,aZ,cW]at this;unfold Sv at this;rw[this];simp[f];rename_i f;have:=i (b++[d]);simp only[aY,aZ,cW]at this;simp only[aQ,List.singleton_append]at this;rw[this];simp[f]
def YC(a:List Int):∀T,(Sv T a).length=T.length:=by
 induction a with
 |nil=>intro T;rfl
 |cons c a b=>intro T;show(Sv (T.modify c.toNat (mn 4)) a).length=_;rw[b];simp
def Vt(T:List ew)(b:List Int){a:Nat}(c:a<b.length):Sv T (b.take (a+1))=(Sv T (b.take a)).modify b[a].toNat (mn 4):=by rw[aT c];unfold Sv;rw[List.foldl_append];rfl
def Fs{c:Type}(b:List c)(a:Nat)(d e:c->c):(b.modify a d).modify a e=b.modify a λi=>e (d i):=by apply dx;intro f;simp only[List.getElem?_modify];by_cases g:a=f;simp[g];cases b[f]? <;>rfl;simp[g]
structure Bs(c0 c2 c3:T)(h:H)(es:List T)(S:iq)(ver:Nat):Prop where
 sy:Fg 3 h.size h c0 c2 c3 es S
 ok:iS 0 h
 g1:h.get 1=D (dU 4 ver [.eQ [c0,J S.tx,c2,c3]])
 g2:h.get 2=D (dU 4 0 [.eQ [dT,J 0,dT,dT]])
section
variable {c0 c2 c3:T}{h h':H}{es:List T}{S:iq}{ver:Nat}
def Bs.nb(b:Bs c0 c2 c3 h es S ver)(a:Nb h h'):Bs c0 c2 c3 h' es S ver:=
 ⟨b.sy.mono a.ok.sz λc _ d=>a.get c d,⟨a.ok.hp,a.ok.low,aB _⟩,(a.get _ (H.fN b.g1)).trans b.g1,(a.get _ (H.fN b.g2)).trans b.g2⟩
theorem Bs.put(d:Bs c0 c2 c3 h es S ver){a:Nat}{x:jI}(f:h.get a=D x)(j:3<=a){g:jI}{e:List T}{b:iq}(i:Fg 3 h.size (fF h a g) c0 c2 c3 e b)(ht:b.tx=S.tx):Bs c0 c2 c3 (fF h a g) e b ver:=
 ⟨by rw[iB];exact i,d.ok.put _ _,by rw[ez f,aw G,ht];exact d.g1,by rw[ez f,aw G];exact d.g2⟩
def Bs.rU(c:Bs c0 c2 c3 h es S ver){a e k:Nat}{f:Bool}{l:List T}(g:fa c3=D a)(j:h.get a=D ⟨3,e,k,f,false,l⟩){i:Nat}{me:ew}(m:S.d8[i]? =D me)(d:ew->ew):
 Bs c0 c2 c3 (fF h a ⟨3,e,k+1,f,false,l.set i (d me).t⟩) es {S with d8:=S.d8.modify i d} ver:=by
 have:=c.put j (c.sy.b a (.inr (.inr g))).1 (c.sy.rU g j i (d me)) rfl;rw[qD m];exact this
def Bs.uj(g:Bs c0 c2 c3 h es S ver){d i m:Nat}{j:Bool}{n:List T}(k:fa c0=D d)(l:h.get d=D ⟨2,i,m,j,false,n⟩){c:Nat}{f:fk}(hl:S.fQ[c]? =D f)(e:fk->fk){rv:T}(hr:qk h 1 rv (iy (e f).fZ))(o:∀a,fa rv=D a->3<=a/\a<h.size/\fa c0≠some a/\fa c2≠some a/\fa c3≠some a):
 Bs c0 c2 c3 (fF h d ⟨2,i,m+1,j,false,n.set c (.eQ [J (e f).jY,rv])⟩) (es.set c (.eQ [J (e f).jY,rv])) {S with fQ:=S.fQ.modify c e} ver:=by
 have:=g.put l (g.sy.b d (.inl k)).1 (g.sy.uj k l c hr o) rfl;rw[qD hl];exact this
def Bs.don(c:Bs c0 c2 c3 h es S ver){a f k:Nat}{g:Bool}{l:List T}(i:fa c2=D a)(j:h.get a=D ⟨1,f,k,g,false,l⟩)(d:Nat)(e:Bool):Bs c0 c2 c3 (fF h a ⟨1,f,k+1,g,false,l.set d (.ej e)⟩) es {S with done:=S.done.set d e} ver:=
 c.put j (c.sy.b a (.inr (.inl i))).1 (c.sy.don i j d e) rfl
def Bs.tx(a:Bs c0 c2 c3 h es S ver)(b:Int):Bs c0 c2 c3 (fF h 1 (dU 4 (ver+1) [.eQ [c0,J b,c2,c3]])) es {S with tx:=b} (ver+1):=
 ⟨by rw[iB];exact(a.sy.tx b).mono (az _) λc d _=>by rw[ez a.g1,aw G],a.ok.put _ _,by rw[ez a.g1,ax rfl],by rw[ez a.g1,aw G];exact a.g2⟩
end
structure ApJ(w:fJ)(s:iq)(t k o wk:Int)(c0 c2 c3:T)(h:H)(n:Int):Prop where
 ex:∃S es ver,gY w s t k o wk=(S,n)/\Bs c0 c2 c3 h es S ver
def aa9:iq:=⟨[],0,[],[]⟩
def BV(a:fJ×iq×Int×Int×Int×Int):T:=if jM a.1 a.2.1 a.2.2.1 a.2.2.2.1 a.2.2.2.2.1=true then .tuple [(gY a.1 a.2.1 a.2.2.1 a.2.2.2.1 a.2.2.2.2.1 a.2.2.2.2.2).1.t,J (gY a.1 a.2.1 a.2.2.1 a.2.2.2.1 a.2.2.2.2.1 a.2.2.2.2.2).2,.ej true]else .tuple [aa9.t,J 0,.ej false]
def RA(a:iq):Prop:=a.fQ.length<=1000000/\a.done.length<=1000000/\a.d8.length<=1000000/\(∀b∈a.fQ,b.fZ.length<=1000000)/\a.C9
def uh:iE:=⟨fJ×iq×Int×Int×Int×Int,λa=>[a.1.t,a.2.1.t,J a.2.2.1,J a.2.2.2.1,J a.2.2.2.2.1,J a.2.2.2.2.2],λa=>a.1.je.length<=1099511627776/\RA a.2.1,BV,λa b h=>by
 obtain⟨a1,a2,a3,a4,a5,a6⟩:=a;obtain⟨c,d,e,f,g,i⟩:=b;simp at h;rw[fJ.inj h.1,iq.inj h.2.1,h.2.2.1,h.2.2.2.1,h.2.2.2.2.1,h.2.2.2.2.2]⟩
def IZ:uh.Ok prog cx 35:=by
 refine yW (tb:=⟨pt [(78,oq),(77,E7)],ht [(29,jS iq IK N2),(80,jS IUn Ud NW),(81,jS IWo aar Un),(31,jS IWt aaq Um)]⟩) jk iX (js 829180818552508142370930303613581122868418894632663968482586879 [(17,[(1,11)]),(19,[(1,10)]),(30,[(4,9)]),(33,[(4,8)])] func35) (λ_=>1000005) (by simp[uh]) nl9 ?_;rintro⟨q,a,d,k,e,r⟩ ⟨c6,hl,eD,ht,hr,eA⟩ E ey;simp at c6 hl eD ht hr eA;simp[uh,BV]at ey|-;obtain⟨eu,a8,w⟩:=ey;have eM:a.sm:=⟨G,G,G,λj u=>iH (hr j u)⟩;cases dd:jM q a d k e with
 |false=>
  simp[f35,eu,a8,w,yv,c6,eM,dd];rfl
 |true=>
  have de:=dd;unfold jM at de;simp[aC]at de;obtain⟨⟨⟨eE,eH⟩,b7⟩,_⟩:=de;have⟨eS,gj,eU⟩:=oN eE;simp[f35,eu,a8,w,yv,c6,eM,dd];generalize bn:((hE.cons _).cons _).cons _=bS;have gg:iS 0 bS:=bn▸⟨V,V,V⟩;have gw:bS.size=3:=by rw[<-bn];rfl
  have e0:bS.get 0=D (dU 6 0 [q.t]):=by rw[<-bn];simp
  have e4:bS.get 1=D (dU 4 0 [a.t]):=by rw[<-bn];simp
  have e5:bS.get 2=D (dU 4 0 [.eQ [dT,J 0,dT,dT]]):=by rw[<-bn];simp
  clear bn;refine jl GQ V a ⟨rfl,gg,hl,eD,ht,hr⟩ ?_;rintro _ cb ⟨c0,c2,c3,es,rfl,eW,bu⟩;rw[gw]at eW;have gI:=bu.ok.sz;have gd:iS 0 cb:=⟨bu.ok.hp,bu.ok.low,aB _⟩;have bH:=(bu.get 1 G).trans e4;have e8:=(bu.get 0 G).trans e0;have e9:=(bu.get 2 G).trans e5;have c:Bs c0 c2 c3 (fF cb 1 (dU 4 1 [.eQ [c0,J a.tx,c2,c3]])) es a 1:=⟨by rw[iB];exact eW.mono (az _) λo u _=>by rw[ez bH,aw G],gd.put _ _,by rw[ez bH,ax rfl],by rw[ez bH,aw G];exact e9⟩;have et:(fF cb 1 (dU 4 1 [.eQ [c0,J a.tx,c2,c3]])).get 0=D (dU 6 0 [q.t]):=by rw[ez bH,aw G];exact e8
  simp[Rt,bH,w];generalize fF cb 1 _=bi at*
  have eI:=eH;rw[<-eU]at eI;have⟨me,L,gz⟩:=jm eI;have bA:=fO (fT.1 eH).1;refine lJ (λE an=>∃n,ApJ q a d k e r c0 c2 c3 an n/\TI.Y E 7=D (dY 1)/\TI.Y E 12=D (dY 2)/\TI.Y E 15=D (J n)) (λap=>?_) (λap=>?_) ?_;have ap:k=1:=iD ap;subst ap;have⟨F,ep,aE,ex,aN,y,l,s,m⟩:=c.sy.g3.at (x:=me.t) (i:=d.toNat) (by simp[L]);rw[aK]at y m;subst y;simp[w,c.g1,bA,l,s,m];exact⟨_,_,_,show gY q a d 1 e r=(a.rU d (mn 2),0)by simp[gY],c.rU rfl l L (mn 2)⟩
  .have ap:¬k=1:=iD ap;rcases xu b7 with g|rfl|rfl|rfl|rfl|rfl|rfl|rfl|rfl|g|g|g|g
   exact absurd g ap;have⟨F,ep,aE,ex,aN,y,l,s,m⟩:=c.sy.g3.at (x:=me.t) (i:=d.toNat) (by simp[L]);rw[aK]at y m;subst y;simp[w,c.g1,bA,l,s,m];exact⟨_,_,_,show gY q a d 2 e r=(a.rU d (mn 5),0)by simp[gY],c.rU rfl l L (mn 5)⟩;simp;exact⟨_,_,_,show gY q a d 3 e r=(a,0)by simp[gY],c⟩;simp;exact⟨_,_,_,show gY q a d 4 e r=(a,0)by simp[gY],c⟩;simp;exact⟨_,_,_,show gY q a d 5 e r=(a,0)by simp[gY],c⟩;simp[w,c.g1,fD];exact⟨_,_,_,show gY q a d 12 e r=({a with tx:=d},0)by simp[gY],c.tx d⟩;simp[c.g1,fD];exact⟨_,_,_,show gY q a d 13 e r=({a with tx:=-1},0)by simp[gY],c.tx (-1)⟩;have⟨F,ep,aE,ex,aN,y,l,s,m⟩:=c.sy.g3.at (x:=me.t) (i:=d.toNat) (by simp[L]);rw[aK]at y m;subst y;simp[w,c.g1,bA,l,s,m];exact⟨_,_,_,show gY q a d 14 e r=(a.rU d (λx=>{x with atomic:=true}),0)by simp[gY],c.rU rfl l L (λx=>{x with atomic:=true})⟩;have⟨F,ep,aE,ex,aN,y,l,s,m⟩:=c.sy.g3.at (x:=me.t) (i:=d.toNat) (by simp[L]);rw[aK]at y m;subst y;simp[w,c.g1,bA,l,s,m];exact⟨_,_,_,show gY q a d 15 e r=(a.rU d (λx=>{x with atomic:=false}),0)by simp[gY],c.rU rfl l L (λx=>{x with atomic:=false})⟩;have K:=mM b7 g;rw[<-eS]at K;have⟨Z,M,fE⟩:=jm K;have I:=fO (fT.1 K).1;obtain⟨C,c9,rv,rfl,X,aA⟩:=c.sy.el.get M;obtain⟨F,ep,aE,ex,aN,rfl,l,s,m⟩:=c.sy.g0.at c9;have bT:=H.fN l;have gy:=(c.sy.b F (.inl rfl)).1;have ea:(1=bi.size)=False:=qN (H.fN c.g1);have gB:(F=bi.size)=False:=dP;have fS:=hr Z (aD M);have eP:∀o,fa rv=D o->o<bi.size:=λo u=>(aA o u).2.1;rcases g with rfl|rfl|rfl|rfl|rfl|rfl
   simp[w,c.g1,I,l,s,m];exact⟨_,_,_,show gY q a d 6 e r=(a.uj e (λj=>{j with jY:=d}),0)by simp[gY],c.uj rfl l M (λj=>{j with jY:=d}) X aA⟩;simp[w,c.g1,I,l,s,m];exact⟨_,_,_,show gY q a d 7 e r=(a.uj e (λj=>{j with jY:=-1}),0)by simp[gY],c.uj rfl l M (λj=>{j with jY:=-1}) X aA⟩;simp[w,c.g1,I,l,s,m];refine ma LC V ⟨Z.fZ,[d],rv,.arr bi.size 0 0 1 false⟩ ⟨rfl,X.mono λo u=>by rw[fg,aw (iH (eP o u))],.inr (Gr.new (ep:=0) (ver:=0) (ex:=true) (es:=[J d]) V),dP,c.ok.cons _⟩ ?_;rintro O al ⟨v,R,ee⟩;have eR:Nb bi al:=((Nb.refl c.ok).cons (dU 1 0 [J d])).trans R;have Q:=c.nb eR;have bX:=(eR.get F bT).trans l;have eh:=il (R.get 1 (qN (H.fN c.g1)))
   dsimp at v
   rw[Nz (eA Z (aD M))]at v;have ef:∀o,fa O=D o->o<al.size:=λo u=>by
    rcases v with rfl|g;simp at u;have⟨_,_,_,_,k,_⟩:=g.box u;exact H.fN k
   simp[I,bX,s,m,eh,fD,v.iW.1,v.iW.2];exact⟨_,_,_,show gY q a d 8 e r=(a.uj e (λj=>{j with fZ:=nW j.fZ d}),0)by simp[gY],Q.uj rfl bX M (λj=>{j with fZ:=nW j.fZ d}) v λo u=>by
    have eO:=ee o u;simp at eO;have ds:=ef o u;exact⟨G,ds,λC=>by simp at C;omega,λC=>iH (c.sy.b o (.inr (.inl C))).2,λC=>iH (c.sy.b o (.inr (.inr C))).2⟩⟩
   simp[w,c.g1,I,l,s,m];refine ma N9 V ⟨Z.fZ,rv,d⟩ ⟨rfl,X,eP,fS,c.ok⟩ ?_;rintro O al ⟨v,R,ee⟩;have Q:=c.nb R;have bX:=(R.get F bT).trans l;have eh:=il (R.get 1 (H.fN c.g1))
   dsimp at v
   have ef:∀o,fa O=D o->o<al.size:=λo u=>by
    rcases v with rfl|g;simp at u;have⟨_,_,_,_,k,_⟩:=g.box u;exact H.fN k
   simp[I,bX,s,m,eh,fD,v.iW.1,v.iW.2];exact⟨_,_,_,show gY q a d 9 e r=(a.uj e (λj=>{j with fZ:=j.fZ.filter λO=> !decide (O=d)}),0)by simp[gY],Q.uj rfl bX M (λj=>{j with fZ:=j.fZ.filter λO=> !decide (O=d)}) v λo u=>by
    have eO:=ee o u;have ds:=ef o u;exact⟨G,ds,λC=>by simp at C;omega,λC=>iH (c.sy.b o (.inr (.inl C))).2,λC=>iH (c.sy.b o (.inr (.inr C))).2⟩⟩
   simp[w,c.g1,I,l,s,m];exact⟨_,_,_,show gY q a d 10 e r=(a.uj e (λj=>{j with jY:=d}),0)by simp[gY],c.uj rfl l M (λj=>{j with jY:=d}) X aA⟩;simp[w,c.g1,I,l,s,m];exact⟨_,_,_,show gY q a d 11 e r=(a.uj e (λj=>{j with jY:=-1}),0)by simp[gY],c.uj rfl l M (λj=>{j with jY:=-1}) X aA⟩;have K:=qC b7 g;have⟨o,c7,eC⟩:=jm K;have b6:=vH eE c7;rw[<-eS]at b6;have⟨Z,M,fE⟩:=jm b6;have I:=fO (fT.1 K).1;have eX:=fO (fT.1 b6).1;obtain⟨C,c9,rv,rfl,X,aA⟩:=c.sy.el.get M;obtain⟨F,ep,aE,ex,aN,rfl,l,s,m⟩:=c.sy.g0.at c9;have⟨aX,er,gm,fi,cL,y,bp,cv,di⟩:=c.sy.g3.at (x:=me.t) (i:=d.toNat) (by simp[L]);rw[aK]at y di;subst y;have bT:=H.fN l;have eB:=H.fN bp;have ea:(1=F)=False:=qN (c.sy.b F (.inl rfl)).1;have fY:(1=aX)=False:=qN (c.sy.b aX (.inr (.inr rfl))).1;have eb:(aX=F)=False:=by simp;rintro rfl;rw[l]at bp;simp at bp
   have eN:∀x,(cL.set d.toNat x)[d.toNat]? =D x:=λx=>by
    have:d.toNat<cL.length:=by
     rcases aW d.toNat cL.length with k|k;exact k;rw[bY k]at cv;simp at cv
    rw[cG];simp[this]
   have bZ:∀B,(fF bi F B).get aX=D ⟨3,er,gm,fi,false,cL⟩:=λB=>by rw[ez l,aw (iD eb)];exact bp
   have eV:=λB z=>pj (bZ B) (show 1≠aX from iD fY) z;have eo:=λ(f:fk->fk) (u:(f Z).fZ=Z.fZ)=>c.uj rfl l M f (rv:=rv) (u▸X) aA;rcases g with rfl|rfl|rfl|rfl
   have c1:=(eo (λj=>{j with jY:=-1}) rfl).rU rfl (bZ _) L (λx=>{x with jq:=3});have bC:=c1.rU (me:=(λx=>{x with jq:=3}) me) rfl ((ez (bZ _) _ _).trans (ax rfl)) (i:=d.toNat) (by simp[L]) (λx=>{x with cond:=e});simp[Fs,List.set_set]at bC;simp[w,et,c.g1,I,eX,bA,c7,l,bp,s,cv,m,di,nT,c.ok.hp,bT,eB,ea,eb,eN,eV];exact⟨_,_,_,show gY q a d 16 e r=((a.uj o.mN λj=>{j with jY:=-1}).rU d (λx=>{x with jq:=3,cond:=e}),0)by simp[gY,eC],bC⟩;have c1:=(eo (λj=>{j with jY:=d}) rfl).rU rfl (bZ _) L (λx=>{x with jq:=2});have bC:=c1.rU (me:=(λx=>{x with jq:=2}) me) rfl ((ez (bZ _) _ _).trans (ax rfl)) (i:=d.toNat) (by simp[L]) (λx=>{x with cond:=0});simp[Fs,List.set_set]at bC;simp[w,et,c.g1,I,eX,bA,c7,l,bp,s,cv,m,di,nT,c.ok.hp,bT,eB,ea,eb,eN,eV];exact⟨_,_,_,show gY q a d 17 e r=((a.uj o.mN λj=>{j with jY:=d}).rU d (λx=>{x with jq:=2,cond:=0}),0)by simp[gY,eC],bC⟩;simp[w,c.g1];refine jl GI V ⟨a,_,_,_,e⟩ ⟨rfl,c.sy.g3,ht,c.ok⟩ ?_;rintro O al ⟨v,R,_⟩
   dsimp at v
   have Q:=c.nb R;have dm:=B4 e a.d8 0;have W:=λa8:H=>v.len (cx:=cx) a8 pJ _ rfl;rw[aK]at W;simp[W];refine fG (λav=>?_) (λav=>?_);have b8:0<(jh e a.d8 0).length:=iD av;have⟨gi,b9,ca⟩:=v.idx (te:=Dp) rfl rfl (i:=0) (x:= J (jh e a.d8 0)[0]) (by simp[b8]) rfl;have fA:=v.qY (f:=T.int .i64) (λ_=>by simp) (λ_=>rfl);have fb:=λ{tb:ik} (ht:tb.p 77=D E7)=>Ph ht (jh e a.d8 0) r G;have eF:(jh e a.d8 0).headD (-1)=(jh e a.d8 0)[0]:=by
    clear b9 ca v W dm;generalize jh e a.d8 0=j at*
    rcases j with _|⟨x,j⟩;simp at b8;simp
   simp[w,b9,ca,fA,fb];have N:∃A:Nat,B3 e r a.d8=A/\A<a.d8.length:=by
    have b6:B3 e r a.d8∈jh e a.d8 0:=by
     unfold B3;split
     assumption
     rw[eF];exact aH b8
    have⟨A,C,U⟩:=wW b6;exact⟨A,iD C,U⟩
   obtain⟨A,dk,U⟩:=N;refine lJ (λE an=>an=al/\TI.Y E 17=D (J A)/\TI.Y E 7=D (dY 1)/\TI.Y E 12=D (dY 2)) (λav=>?_) (λav=>?_) ?_;simp[w];rw[<-dk];unfold B3;rw[ax (iD av)];simp;rw[<-dk,<-eF];unfold B3;rw[aw (iD av)];rintro E _ ⟨rfl,fC⟩;have⟨P,N⟩:∃P,a.d8[A]? =D P:=⟨_,aF U⟩;have⟨e7,fe,gn,fl,gv,bW,bs,dn,fP⟩:=Q.sy.g3.at (x:=P.t) (i:=A) (by simp[N]);simp at bW;obtain⟨rfl,rfl⟩:=bW;simp[fC,Q.g1,bs,dn,U];exact⟨_,_,_,show gY q a d 18 e r=(a.rU A (mn 4),(A:Int))by
    rw[<-dk];unfold gY;simp;intro u;rw[u]at b8;simp at b8,Q.rU rfl bs N (mn 4)⟩
   have fX:jh e a.d8 0=[]:=by
    have:¬0<(jh e a.d8 0).length:=iD av;exact bw G
   simp;exact⟨_,_,_,show gY q a d 18 e r=(a,-1)by simp[gY,fX],Q⟩;simp[w,c.g1];refine jl GI V ⟨a,_,_,_,e⟩ ⟨rfl,c.sy.g3,ht,c.ok⟩ ?_;rintro O al ⟨v,R,gk⟩
   dsimp at v
   have Q:=c.nb R;have dm:=B4 e a.d8 0;have W:=λa8:H=>v.len (cx:=cx) a8 pJ _ rfl;rw[aK]at W;have eL:∀x∈jh e a.d8 0,∃A:Nat,x=A/\A<a.d8.length:=λx s=>by
    have⟨A,C,U⟩:=wW s;exact⟨A,iD C,U⟩
   have c4:=YD e a.d8 [];simp[cm,cW]at c4;have cp:∃j,j=jh e a.d8 0:=⟨_,rfl⟩;obtain⟨j,cp⟩:=cp;rw[<-cp]at v dm eL c4 W;simp;refine gW j.length G (λi E h'=>Bs (.arr F ep 0 es.length false) c2 (.arr aX er 0 a.d8.length false) h' es {a with d8:=Sv a.d8 (j.take i)} 1/\qk h' 1 O (iy j)/\TI.Y E 7=D (dY 1)/\TI.Y E 12=D (dY 2)/\TI.Y E 18=D O/\TI.Y E 19=D (J i)) ?_ ?_ G ⟨by simpa[Sv]using Q,v,V⟩;rintro i E h' m fL ⟨a7,ec,bN⟩;have⟨A,U,eK⟩:=eL j[i] (aH m);have⟨P,N⟩:∃P,(Sv a.d8 (j.take i))[A]? =D P:=⟨_,aF (by rw[YC];exact eK)⟩;have⟨e7,fe,gn,fl,gv,bW,bs,dn,fP⟩:=a7.sy.g3.at (x:=P.t) (i:=A) (by simp[N]);simp at bW;obtain⟨rfl,rfl,_⟩:=bW;have⟨gi,b9,ca⟩:=ec.idx (te:=Dp) rfl rfl (i:=i) (x:= J A) (by simp[m,U]) rfl;have e6:=a7.rU rfl bs N (mn 4);simp[bN,W,m,b9,ca,a7.g1,bs,dn,eK,fL];refine⟨?_,ec.mono λo u=>by rw[ez bs,aw (iH (gk o u))]⟩;rw[Vt a.d8 j m,U];exact e6;rintro E h' ⟨a7,ec,bN⟩;rw[aM]at a7;simp[bN,W];exact⟨_,_,_,show gY q a d 19 e r=({a with d8:=Sv a.d8 j},(j.length:Int))by rw[c4];simp[gY,<-cp],a7⟩;have K:=AG b7 g;rw[<-eU]at K;have⟨P,N,fW⟩:=jm K;have I:=fO (fT.1 K).1;rcases g with rfl|rfl
   have⟨F,ep,aE,ex,aN,y,l,s,m⟩:=c.sy.g3.at (x:=P.t) (i:=e.toNat) (by simp[N]);rw[aK]at y m;subst y;simp[w,c.g1,I,l,s,m];exact⟨_,_,_,show gY q a d 20 e r=(a.rU e (mn 1),0)by simp[gY],c.rU rfl l N (mn 1)⟩;simp;exact⟨_,_,_,show gY q a d 21 e r=(a,0)by simp[gY],c⟩
   .have K:=uQ b7 g;rw[<-gj]at K;have⟨P,N,fW⟩:=jm K;have I:=fO (fT.1 K).1;rcases g with rfl|rfl
    .have⟨F,ep,aE,ex,aN,y,l,s,m⟩:=c.sy.g2.at (x:= .ej P) (i:=e.toNat) (by simp[N]);rw[aK]at y m;subst y;simp[w,c.g1,I,l,s,m];exact⟨_,_,_,show gY q a d 22 e r=({a with done:=a.done.set e.toNat true},0)by simp[gY],c.don rfl l e.toNat true⟩
    simp;exact⟨_,_,_,show gY q a d 23 e r=(a,0)by simp[gY],c⟩
  rintro E an ⟨n,⟨S,ff,ver,fM,ae⟩,bN⟩;have⟨gD,gE,gF⟩:=ae.sy.fz;have fB:∀B,(fF an 2 B).get 2=D B:=λB=>(ez ae.g2 B _).trans (ax rfl);have cX:∀B,Fg 3 an.size (fF an 2 B) c0 c2 c3 ff S:=λB=>ae.sy.mono (az _) λo u _=>by rw[ez ae.g2,aw G]
  have fo:=λB=>(cX B).fz.1;have fs:=λB=>(cX B).fz.2.1;have fv:=λB=>(cX B).fz.2.2;simp[bN,ae.g1,ae.g2,fB,fD,fo,fs,fv,fM,ae.ok.hp]
end
def oo:iE:=⟨fJ×gh×fR,λa=>[a.1.t,a.2.1.t,a.2.2.t],λa=>a.1.je.length<=1000000/\uM 100000 a.2.1/\a.2.2.nH.length<=1000000/\a.2.2.vU.length<=1000000,λa=> .tuple [(kP a.1 a.2.1 a.2.2).1.t,.ej (kP a.1 a.2.1 a.2.2).2],λa c b=>by
 simp at b;rw[fJ.inj b.1,gh.inj b.2.1,fR.inj b.2.2]⟩
def nl{c:fJ}{b:gh}{a:fR}(d:tN c b a=false):kP c b a=(wH,false):=by unfold kP;rw[d];rfl
def M2{g:ik}(ht:g.p 35=D uh)(b:fJ)(a:iq)(e c d f:Int)(i:b.je.length<=1099511627776)(k:RA a)(j:jM b a e c d):rl prog cx g 35 [b.t,a.t,J e,J c,J d,J f]=D (.tuple [(gY b a e c d f).1.t,J (gY b a e c d f).2,.ej true]):=by
 have:=iF ht IZ (b,a,e,c,d,f) ⟨i,k⟩;have h:uh.R (b,a,e,c,d,f)= .tuple [(gY b a e c d f).1.t,J (gY b a e c d f).2,.ej true]:=by show BV _=_;unfold BV;rw[ax j]
 rw[h]at this;exact this
def UM:oo.Ok prog cx 94:=by
 refine iz [(96,AB),(146,Lr),(78,oq),(147,zq),(148,w9),(35,uh)] (js 6434029281764525972148499167221040878727244754944919609542655 [(15,[(3,4),(3,6),(3,8),(7,8),(3,10),(7,10),(3,13),(7,13),(11,13)])] func94) (λ_=>100) (by simp[oo]) ?_;rintro⟨e,d,b⟩ ⟨fi,ae,fs,fv⟩ j eB;simp at fi ae fs fv;simp[oo]at eB|-;have⟨l1,l2,l3,l4,l5,l6⟩:=ae.l;have fE:d.gH.sm:=⟨G,G,G,λf q=>iH (ae.r f q)⟩;have eD:e.je.length<=1099511627776:=G;have fL:RA d.gH:=⟨G,G,G,λf q=>iH (ae.r f q),ae.a⟩;have h:tN e d b=(ox e d&&jx b.eG e.d8.length&&(decide (1<=b.fc)&&decide (b.fc<=23))&&jM e d.gH b.eG b.fc b.obj&&vZ e b&&QE e b&&Qv b&&BC (d.count.getD b.eG.toNat 0) none b.nH&&BC (d.count.getD b.eG.toNat 0) none b.vU&&qu d b):=rfl;simp[f94,eB,KM,Wx,yv,eD,fE];have U:T.eQ [sl [],J 0,sl [],sl [],sl [],sl [],sl []]=wH.t:=rfl;refine fG (λg=>?_) (λg=>?_);have:tN e d b=false:=by
  rw[h];simp only[cj,cK,aO]at g;rcases g with(((q|q)|q)|q)|q
  rw[q];simp;rw[q];simp;rw[aS (show¬1<=b.fc by omega)];simp;rw[aS (show¬b.fc<=23 by omega)];simp;rw[q];simp
 simp[nl this];exact U;simp only[ci,dt,bK]at g;obtain⟨⟨⟨⟨er,et⟩,gv⟩,gw⟩,bS⟩:=g;rw[er,et,bS,bh (show 1<=b.fc by omega),bh (show b.fc<=23 by omega)]at h;simp only[bj]at h;have bT:=bS;unfold jM at bT;simp only[aC]at bT;obtain⟨⟨⟨gz,_⟩,s⟩,_⟩:=bT;have bX:=er;unfold ox at bX;simp only[aC,aO]at bX;obtain⟨⟨⟨_,ey⟩,eA⟩,ff⟩:=bX;have aN:=et;rw[<-ff]at aN;have⟨z,X,gy⟩:=jm aN;have gm:=fO (fT.1 aN).1;have fA:d.count.getD b.eG.toNat 0=z:=by simp[List.getD,X]
 rw[fA]at h;simp;generalize M:(((hE.cons _).cons _).cons _).cons _=w;have P:iS 0 w:=M▸⟨V,V,V⟩;have eW:w.size=4:=by rw[<-M];rfl
 have bi:w.get 0=D (dU 6 0 [e.t]):=by rw[<-M];simp
 have bA:w.get 1=D (dU 7 0 [d.t]):=by rw[<-M];simp
 have I:w.get 2=D (dU 7 0 [b.t]):=by rw[<-M];simp
 have B:w.get 3=D (dU 7 0 [.eQ [dT,J 0,dT,dT,dT,dT,dT]]):=by rw[<-M];simp
 clear M;have W:∀y,(fF w 3 y).get 3=D y:=λy=>(ez B y _).trans (ax rfl);refine lJ (λj v=>w=v/\vZ e b/\TI.Y j 3=D (dY 0)/\TI.Y j 4=D (dY 1)/\TI.Y j 5=D (dY 2)/\TI.Y j 6=D (dY 3)) (λg=>?_) (λg=>?_) ?_;have Z:b.fc=1\/b.fc=2:=iD g;simp[I];refine fG (λi=>?_) (λi=>?_);have:tN e d b=false:=by
  rw[h];unfold vZ;rw[ax Z,aS (iD i)];simp
 simp[B,W,fD,nl this,P.hp];exact U;simp;unfold vZ;rw[ax Z,bh (iD i)];have Z:¬(b.fc=1\/b.fc=2):=iD g;cases A:jx b.ke e.jL.length;have:tN e d b=false:=by
  rw[h];unfold vZ;rw[aw Z,pT A];simp
 simp[bi,I,Wx,A,B,W,fD,nl this,P.hp];exact U;have⟨x,fP,eI⟩:=jm A;simp[bi,I,Wx,A,fP,fO (fT.1 A).1];refine fG (λi=>?_) (λi=>?_);have:tN e d b=false:=by
  rw[h];unfold vZ;rw[aw Z,eI];simp only;rw[aS (iD i)];simp
 simp[B,W,fD,nl this,P.hp];exact U;simp;unfold vZ;rw[aw Z,eI];simp only;rw[bh (iD i)]
 .rintro j _ ⟨rfl,fC,m⟩;rw[fC,bj]at h;have fX:((decide (b.fc=3)||decide (b.fc=4))=false/\True/\True/\(b.fc=3\/b.fc=4->∃o,e.cells[b.obj.toNat]? =D o)/\∃x:ji,x=x/\True)\/((decide (b.fc=3)||decide (b.fc=4))/\lr b.obj=D b.obj.toNat/\jx b.obj e.cells.length/\True/\∃o,e.cells[b.obj.toNat]? =D o/\sizeOf e b.obj=o.size):=by
   cases q:(decide (b.fc=3)||decide (b.fc=4));simp at q;exact .inl ⟨rfl,trivial,trivial,λk=>(k.elim q.1 q.2).elim,default,rfl,trivial⟩;simp at q;have A:jx b.obj e.cells.length:=by
    unfold ky at s;rw[aw G,ax q]at s;exact s
   have⟨o,fl,fo⟩:=jm A;exact .inr ⟨rfl,fO (fT.1 A).1,A,trivial,o,fl,by simp[sizeOf,fo]⟩
  have bp:QE e b=(decide (b.nH=[])||decide (b.fc=5)||((decide (b.fc=3)||decide (b.fc=4))&& !decide (sizeOf e b.obj=0))):=rfl;have b7:decide (0<b.nH.length)= !decide (b.nH=[]):=by cases b.nH<;>simp
  have b8:decide (0<b.vU.length)= !decide (b.vU=[]):=by cases b.vU<;>simp
  have b9:Qv b=(decide (b.vU=[])||decide (b.fc=4)||decide (b.fc=22)):=rfl;have e0:b.fc=3->jx b.obj d.cells.length=true:=λk=>by
   rw[ey];unfold ky at s;rw[aw G,ax G]at s;exact s
  have eX:b.fc=23->jx b.obj d.fI.length=true:=λk=>by
   rw[eA];exact uQ s (.inr k)
  rcases fX with⟨cv,eK,fS,fW,e4,eL,c6⟩|⟨cv,eK,fS,fW,e4,eL,c6⟩
  all_goals
   simp[m,bi,I,cv,eK,eL];rw[cv]at bp;refine fG (λg=>?_) (λg=>?_);have:tN e d b=false:=by
    rw[h,bp];simp[b7]at g;simp[g,c6]
   simp[m,B,W,fD,nl this,P.hp];exact U;have eE:QE e b:=by
    rw[bp];cases Q:decide (b.nH=[])<;>cases u:decide (b.fc=5)<;>simp[b7,Q,u,c6]at g|-
    all_goals exact g
   rw[eE,bj]at h;simp[m,I];refine fG (λi=>?_) (λi=>?_);have:tN e d b=false:=by
    rw[h,b9];simp[b8]at i;simp[i]
   simp[m,B,W,fD,nl this,P.hp];exact U;have eF:Qv b:=by
    rw[b9];cases Q:decide (b.vU=[])<;>cases u:decide (b.fc=4)<;>simp[b8,Q,u]at i|-
    all_goals exact i
   rw[eF,bj]at h;have fe:=λ{di:ik} (ht:di.p 148=D w9)=>Wj ht d b G e0 eX;simp[m,bA,I,gm,X,Wq,fe,show b.nH.length<=1099511627776 by omega,show b.vU.length<=1099511627776 by omega];refine fG (λbs=>?_) (λbs=>?_);have:tN e d b=false:=by
    rw[h];cases Q:BC z none b.nH<;>cases u:BC z none b.vU<;>cases de:qu d b<;>simp[Q,u,de]at bs|-
   simp[m,B,W,fD,nl this,P.hp];exact U;have fB:tN e d b:=by
    rw[h];cases Q:BC z none b.nH<;>cases u:BC z none b.vU<;>cases de:qu d b<;>simp[Q,u,de]at bs|-
   clear g i bs h bp b9 b7 b8 eE eF;have fM:kP e d b=(lA e d b,true):=by unfold kP;rw[ax fB]
   rw[fM];have⟨e8,a7,bC,⟨gB,gF,gA⟩,ea,al,eP⟩:=kN (cx:=cx) (sz:=1) P (x:=sl (d.cells.map (T.int .i64))) (xs:=d.cells.map (T.int .i64)) rO rfl Bb rO rfl rfl V V d1 dP;have⟨e9,a8,bH,⟨gD,gI,eu⟩,eb,O,okB⟩:=kN (cx:=cx) (sz:=1) eP (x:=sl (d.fI.map (T.int .i64))) (xs:=d.fI.map (T.int .i64)) rO rfl Bb rO rfl rfl V V d1 dP;have⟨fb,S,bN,⟨gE,gM,gC⟩,ec,E,eR⟩:=kN (cx:=cx) (sz:=1) okB (x:=sl (d.count.map (T.int .i64))) (xs:=d.count.map (T.int .i64)) kE rfl nc kE rfl rfl V V d1 dP;replace ea:a7.size=5:=G;replace eb:a8.size=6:=G;replace ec:S.size=7:=G;simp only[eW,ea,eb,aK]at bC bH bN gA eu gC;have eU:gJ (w.cons (dU 1 0 [])) a7 1:=il ((al 1 G).trans d2);have eV:gJ (a7.cons (dU 1 0 [])) a8 1:=il ((O 1 G).trans d2);have gk:gJ (a8.cons (dU 1 0 [])) S 1:=il ((E 1 G).trans d2);have ef:=(al 1 G).trans bA;have eh:=(O 1 G).trans ef;have e5:=(E 1 G).trans eh;have eO:∀n,5<=n->gJ (w.cons (dU 1 0 [])) a7 n=true:=λn eC=>jF (mG _ dP);have eM:∀n,6<=n->gJ (a7.cons (dU 1 0 [])) a8 n=true:=λn eC=>jF (mG _ dP);have eN:∀n,7<=n->gJ (a8.cons (dU 1 0 [])) S n=true:=λn eC=>jF (mG _ dP);have gd:S.low<=7:=iH eR.low;simp[m,eW,ea,eb,ec,bA,bC,bH,bN,ef,eh,eU,eV,eO,eM,eN,gd];have gg:=(E 4 G).trans ((O 4 G).trans gA);have gi:=(E 5 G).trans eu;have e6:=(E 0 G).trans ((O 0 G).trans ((al 0 G).trans bi));have eo:=(E 2 G).trans ((O 2 G).trans ((al 2 G).trans I));have e7:=(E 3 G).trans ((O 3 G).trans ((al 3 G).trans B));have bZ:=λ{di:ik} (ht:di.p 35=D uh)=>M2 ht e d.gH b.eG b.fc b.obj (mZ b) eD fL bS;have gn:=ae.c z (aD X);clear bC bH bN al O E eU eV gk eO eM eN eP okB;generalize aA:S.cons _=av;have gj:iS 0 av:=aA▸eR.cons _;have ee:av.size=8:=by rw[<-aA];show S.size+1=8;omega
   have L:∀o,o<7->av.get o=S.get o:=λo q=>by rw[<-aA,fg,aw G]
   have cp:=(L 0 G).trans e6;have cL:=(L 1 G).trans e5;have bu:=(L 2 G).trans eo;have cX:=(L 3 G).trans e7;have c1:=(L 4 G).trans gg;have c4:=(L 5 G).trans gi;have c7:=(L 6 G).trans gC;have c9:av.get 7=D (dU 7 1 [.eQ [dT,J 0,dT,dT,.arr 4 e8 0 d.cells.length false,.arr 5 e9 0 d.fI.length false,.arr 6 fb 0 d.count.length false]]):=by rw[<-aA,fg,ax ec.symm]
   clear aA;simp[eo];refine lJ (λj v=>av=v/\TI.Y j 3=D (dY 0)/\TI.Y j 4=D (dY 1)/\TI.Y j 5=D (dY 2)/\TI.Y j 6=D (dY 3)/\TI.Y j 9=D (dY 7)/\TI.Y j 10=D (J (mZ b))) (λg=>?_) (λg=>?_) ?_;simp[m,bu];unfold mZ;rw[ax (iD g)];simp[m];unfold mZ;rw[aw (iD g)];rintro j _ ⟨rfl,m⟩;have dd:binop .add (J z) (J 1)=D (J (z+1)):=jf G G;have dn:=fO (fT.1 aN).1;have aE:=(fT.1 aN).2;have eH:lA e d b=⟨(gY e d.gH b.eG b.fc b.obj (mZ b)).1,if b.fc=4 then d.cells.set b.obj.toNat b.value else d.cells,if b.fc=22 then d.fI.set b.obj.toNat b.value else d.fI,d.count.modify b.eG.toNat (· +1)⟩:=rfl;rw[qD X]at eH;have fY:(b.fc=4/\jx b.obj d.cells.length=true)\/(b.fc=22/\jx b.obj d.fI.length=true)\/(¬b.fc=4/\¬b.fc=22):=by
    by_cases q:b.fc=4;refine .inl ⟨q,?_⟩;rw[ey];unfold ky at s;rw[aw G,ax G]at s;exact s;by_cases u:b.fc=22;refine .inr (.inl ⟨u,?_⟩);rw[eA];exact uQ s (.inl u);exact .inr (.inr ⟨q,u⟩)
   have cb:=gj.hp;have bn:∀(f:List Int) (v:H),iK (AT v 11) (f.map (T.int .i64))=D (f.map (T.int .i64)):=λf v=>L8 _ _ _ λ_=>rfl;have bW:∀(f:List Int) (v:H) (N:Nat) (R:Int),iK (AT v 11) ((f.map (T.int .i64)).set N (J R))=D ((f.map (T.int .i64)).set N (J R)):=λf v N R=>bg▸bn _ v;have dk:∀(f:List Int),(f.map (T.int .i64)).take f.length=f.map (T.int .i64):=λf=>by rw[bR V]
   have dm:∀(f:List Int) (N:Nat) (R:T),((f.map (T.int .i64)).set N R).take f.length=(f.map (T.int .i64)).set N R:=λf N R=>by rw[bR V]
   have b6:d.count[b.eG.toNat]'aE=z:=by rw[aF aE]at X;simpa using X
   have fin:∀(C F K:List Int),T.eQ [sl ((gY e d.gH b.eG b.fc b.obj (mZ b)).1.fQ.map fk.t),J (gY e d.gH b.eG b.fc b.obj (mZ b)).1.tx,sl ((gY e d.gH b.eG b.fc b.obj (mZ b)).1.done.map T.ej),sl ((gY e d.gH b.eG b.fc b.obj (mZ b)).1.d8.map ew.t),sl (C.map (T.int .i64)),sl (F.map (T.int .i64)),sl (K.map (T.int .i64))]=gh.t ⟨(gY e d.gH b.eG b.fc b.obj (mZ b)).1,C,F,K⟩:=λ_ _ _=>rfl;rw[eH];rcases fY with⟨q,aX⟩|⟨q,aX⟩|⟨q,eS⟩
   have ds:=fO (fT.1 aX).1;have ca:=(fT.1 aX).2;have an:decide (b.fc=22)=false:=aS G;have ap:decide (b.fc=4):=bh q;rw[ax q,aw G,<-fin];simp[m,cp,cL,bu,cX,c1,c4,c7,c9,bZ,fD,nT,cb,ee,dn,aE,b6,dd,yk,iU,bn,ap,an,ds,ca,bW,dk,dm];have ds:=fO (fT.1 aX).1;have ca:=(fT.1 aX).2;have an:decide (b.fc=22):=bh q;have ap:decide (b.fc=4)=false:=aS G;rw[aw G,ax q,<-fin];simp[m,cp,cL,bu,cX,c1,c4,c7,c9,bZ,fD,nT,cb,ee,dn,aE,b6,dd,yk,iU,bn,ap,an,ds,ca,bW,dk,dm];have an:decide (b.fc=22)=false:=aS eS;have ap:decide (b.fc=4)=false:=aS q;rw[aw q,aw eS,<-fin];simp[m,cp,cL,bu,cX,c1,c4,c7,c9,bZ,fD,nT,cb,ee,dn,aE,b6,dd,yk,iU,bn,ap,an,bW,dk,dm]
def C4{d:ik}(ht:d.p 94=D oo)(c:fJ)(b:gh)(a:fR)(e:c.je.length<=1000000)(f:uM 100000 b)(g:a.nH.length<=1000000)(h:a.vU.length<=1000000):rl prog cx d 94 [c.t,b.t,a.t]=D (.tuple [(kP c b a).1.t,.ej (kP c b a).2]):=iF ht UM (c,b,a) ⟨e,f,g,h⟩
end
end
noncomputable section
open Go Go.TI Tryz
section
attribute [-simp] List.map_take List.map_drop List.map_append
def OJ(a b:Int):Bool:=decide (0<=a/\a<b)
@[simp]def agQ (a:Int) (b:Nat):OJ a (b:Int)=jx a b:=a9
def VN{a b:Int}:OJ a b↔0<=a/\a<b:=by unfold OJ;simp
def rIn(d:Unit):iE:=⟨Int×Int,λa=>[J a.1,J a.2],λa=>True,λa=> .ej (OJ a.1 a.2),λa c b=>by simp at b;rw[b.1,b.2]⟩
def ab5:(rIn ()).Ok prog cx 193:=by refine iz [] (js 19 [] func193) (λc=>1) (by simp[rIn]) ?_;rintro⟨b,e⟩ _ f a;simp[rIn]at a|-;by_cases d:0<=b<;>simp[*,f193,OJ]
def yL{c:ik}(ht:c.p 193=D (rIn ()))(a b:Int):rl prog cx c 193 [J a,J b]=D (.ej (OJ a b)):=iF ht ab5 (a,b) trivial
def Ay:iE:=⟨Int,λa=>[J a],λa=>True,λa=> .ej (Ar a),λa c b=>by simp at b;rw[b]⟩
def Ob:Ay.Ok prog cx 241:=by refine iz [] (js 5 [] func241) (λc=>1) (by simp[Ay]) ?_;rintro(b:Int) _ e a;simp[Ay]at a|-;by_cases d:1<=b<;>simp[*,f241,Ar]
def AO{b:ik}(ht:b.p 241=D Ay)(a:Int):rl prog cx b 241 [J a]=D (.ej (Ar a)):=iF ht Ob a trivial
def AA:iE:=⟨Nat,λa=>[.int .u8 a],λa=>True,λa=> .ej (yh a),λa b c=>by simp at c;rw[show a=b by omega]⟩
def Gp:iE:=⟨Nat,λa=>[.int .u8 a],λa=>True,λa=> .ej (HE a),λa b c=>by simp at c;rw[show a=b by omega]⟩
def Gk:iE:=⟨Nat,λa=>[.int .u8 a],λa=>True,λa=> .ej (Ad a),λa b c=>by simp at c;rw[show a=b by omega]⟩
def U3:AA.Ok prog cx 188:=by refine iz [] (js 5 [] func188) (λc=>1) (by simp[AA]) ?_;rintro(a:Nat) _ h b;simp[AA]at b|-;by_cases d:97<=a<;>by_cases e:a<=122<;>by_cases f:65<=a<;>by_cases g:a<=90<;>simp[*,f188,yh,show(97:Int)<=(a:Int)↔97<=a by omega,show(a:Int)<=122↔a<=122 by omega,show(65:Int)<=(a:Int)↔65<=a by omega,show(a:Int)<=90↔a<=90 by omega]
def FI{b:ik}(ht:b.p 188=D AA)(a:Nat):rl prog cx b 188 [.int .u8 a]=D (.ej (yh a)):=iF ht U3 a trivial
def Ys:Gp.Ok prog cx 239:=by refine iz [] (js 5 [] func239) (λc=>1) (by simp[Gp]) ?_;rintro(a:Nat) _ f b;simp[Gp]at b|-;by_cases d:48<=a<;>by_cases e:a<=57<;>simp[*,f239,HE,show(48:Int)<=(a:Int)↔48<=a by omega,show(a:Int)<=57↔a<=57 by omega]
def ado{b:ik}(ht:b.p 239=D Gp)(a:Nat):rl prog cx b 239 [.int .u8 a]=D (.ej (HE a)):=iF ht Ys a trivial
def Yo:Gk.Ok prog cx 190:=by refine iz [(188,AA),(239,Gp)] (js 5 [] func190) (λc=>1) (by simp[Gk]) ?_;rintro(a:Nat) _ f b;simp[Gk]at b|-;cases d:yh a<;>cases e:HE a<;>simp[*,f190,Ad,FI,ado,show(a:Int)=95↔a=95 by omega]
def Wv{b:ik}(ht:b.p 190=D Gk)(a:Nat):rl prog cx b 190 [.int .u8 a]=D (.ej (Ad a)):=iF ht Yo a trivial
def zt:iE:=⟨fJ×Int×Int,λa=>[a.1.t,J a.2.1,J a.2.2],λa=>True,λa=> .ej (Eo a.1 a.2.1 a.2.2),λa c b=>by simp at b;rw[fJ.inj b.1,b.2.1,b.2.2]⟩
def Sq:zt.Ok prog cx 240:=by refine iz [(193,rIn ())] (js 79 [] func240) (λe=>1) (by simp[zt]) ?_;rintro⟨d,c,h⟩ _ k a;simp[zt]at a|-;cases hl:jx c d.cells.length;simp[f240,a,yL,hl,pT hl,Eo];have⟨b,f,g⟩:=jm hl;by_cases i:b.index=0<;>by_cases j:b.size=0<;>simp[*,f240,yL,Eo,fO (fT.1 hl).1]
def WC{d:ik}(ht:d.p 240=D zt)(c:fJ)(a b:Int):rl prog cx d 240 [c.t,J a,J b]=D (.ej (Eo c a b)):=iF ht Sq (c,a,b) trivial
def qz:iE:=⟨iN,λa=>[a.t],λa=>True,λa=>sl ((jT a).map (T.int .i64)),λa c b=>by simp at b;rw[iN.inj b]⟩
def Ij:qz.Ok prog cx 114:=by
 refine iz [] (js 8934607822903 [] func114) (λc=>1) (by simp[qz]) ?_;rintro⟨a,c,d,e,f,r⟩ _ s b;simp[qz]at b|-;rcases(by omega:a=1\/a=6\/a=10\/a=27\/a=2\/a=3\/a=4\/a=7\/a=8\/a=26\/a=9\/(¬a=1/\¬a=6/\¬a=10/\¬a=27/\¬a=2/\¬a=3/\¬a=4/\¬a=7/\¬a=8/\¬a=26/\¬a=9))with rfl|rfl|rfl|rfl|rfl|rfl|rfl|rfl|rfl|rfl|rfl|⟨g,j,k,l,m,n,o,p,q,h,i⟩
 rotate_right
 simp[*,f114,jT]
 all_goals simp [f114,b,jT,iU,sl]
def yt{b:ik}(ht:b.p 114=D qz)(a:iN):rl prog cx b 114 [a.t]=D (sl ((jT a).map (T.int .i64))):=iF ht Ij a trivial
def zo:iE:=⟨fJ×iN,λa=>[a.1.t,a.2.t],λa=>True,λa=> .ej (oF a.1 a.2),λa c b=>by simp at b;rw[fJ.inj b.1,iN.inj b.2]⟩
def Sb:zo.Ok prog cx 191:=by
 refine iz [(193,rIn ()),(240,zt)] (js 11161304336780981658631819976322344575566047 [] func191) (λc=>1) (by simp[zo]) ?_;rintro⟨e,⟨a,c,j,k,h,F⟩⟩ _ H b;simp[zo]at b|-;rcases(by omega:a=3\/a=4\/a=7\/a=9\/a=21\/a=22\/a=23\/a=24\/a=25\/a=26\/a=27\/a=6\/a=8\/a=11\/a=12\/a=13\/a=14\/a=15\/a=16\/(¬a=3/\¬a=4/\¬a=6/\¬a=8/\¬a=7/\¬a=9/\¬a=11/\¬a=12/\¬a=13/\¬a=14/\¬a=15/\¬a=16/\¬a=21/\¬a=22/\¬a=23/\¬a=24/\¬a=25/\¬a=26/\¬a=27))with rfl|rfl|rfl|rfl|rfl|rfl|rfl|rfl|rfl|rfl|rfl|rfl|rfl|rfl|rfl|rfl|rfl|rfl|rfl|⟨l,w,z,A,B,C,E,m,n,o,p,q,r,s,t,u,v,x,y⟩
 rotate_right
 simp[*,f191,oF];by_cases d:h=4<;>simp[f191,b,oF,d];by_cases d:6<=h<;>simp[f191,b,oF,d]
 iterate 9 ·simp[f191,b,oF,yL,WC]
 cases hl:jx j e.cells.length;simp[f191,b,oF,yL,hl,pT hl,As];have⟨i,f,g⟩:=jm hl;simp[*,f191,oF,yL,As,fO (fT.1 hl).1];cases hl:jx c e.cells.length;simp[f191,b,oF,yL,hl,pT hl,As];have⟨i,f,g⟩:=jm hl;simp[*,f191,oF,yL,As,fO (fT.1 hl).1]
 all_goals
  cases hl:jx c e.fQ.length;simp[f191,b,oF,yL,hl,pT hl,xy];have⟨i,f,g⟩:=jm hl;simp[*,f191,oF,yL,xy,fO (fT.1 hl).1]
def Wp{c:ik}(ht:c.p 191=D zo)(b:fJ)(a:iN):rl prog cx c 191 [b.t,a.t]=D (.ej (oF b a)):=iF ht Sb (b,a) trivial
def vN:List (List Nat)->List Nat->Nat->Int
 | [],_,_=>-1
 |x::c,b,a=>if x=b then(a:Int)else vN c b (a+1)
def KU:∀(a:List (List Nat)) (b:List Nat) (d:Nat),(0<=vN a b d)=(b∈a):=by
 intro a;induction a with
 |nil=>intro b d;simp[vN]
 |cons g a f=>
  intro b d;rw[vN];by_cases c:g=b;subst c;simp;rw[aw c,f];simp;intro e;exact absurd e.symm c
def Gt:iE:=⟨List (List Nat)×List Nat,λa=>[sl (a.1.map T.str),.str a.2],λa=>a.1.length<=1099511627776,λa=> J (vN a.1 a.2 0),λa c b=>by
 simp at b;rw[j3 V b.1,b.2]⟩
def ajP:Gt.Ok prog cx 151:=by refine iz [] (js 131635 [] func151) (λm=>m.1.length+1) (by simp[Gt]) ?_;rintro⟨d,e⟩ hl b k;simp[Gt]at hl k|-;simp[f151];refine gW d.length G (λc b f=>f=hE/\TI.Y b 0=D (sl (d.map T.str))/\TI.Y b 1=D (.str e)/\TI.Y b 5=D (J c)/\vN (d.drop c) e c=vN d e 0) ?_ ?_ G (by simp[k]);rintro c b f l n ⟨rfl,g,j,h,a⟩;rw[aL l,vN]at a;by_cases i:d[c]=e;rw[ax i]at a;simp[g,j,h,l,i,<-a];rw[aw i]at a;simp[*];rintro b f ⟨rfl,g,j,h,a⟩;simp[vN]at a;simp[g,h,<-a]
def Tu{c:ik}(ht:c.p 151=D Gt)(a:List (List Nat))(b:List Nat)(hl:a.length<=1099511627776):rl prog cx c 151 [sl (a.map T.str),.str b]=D (J (vN a b 0)):=iF ht ajP (a,b) hl
def xg:iE:=⟨Unit,λa=>[],λa=>True,λa=>sl (pQ.map T.str),λa b c=>rfl⟩
def Od:xg.Ok prog cx 238:=by refine iz [] (js 1 [] func238) (λb=>1) (by simp[xg]) ?_;rintro _ _ c a;simp[xg]at a|-;simp[f238,iU];rfl
def S7{a:ik}(ht:a.p 238=D xg):rl prog cx a 238 []=D (sl (pQ.map T.str)):=iF ht Od () trivial
def VK:pQ.length=22:=rfl
def zr:iE:=⟨List Nat,λa=>[.str a],λa=>True,λa=> .ej (xD a),λa c b=>by simp at b;rw[b]⟩
def LM:zr.Ok prog cx 189:=by
 refine iz [(238,xg)] (js 131613 [] func189) (λm=>23) (by simp[zr]) ?_;rintro(d:List Nat) _ b e;simp[zr]at e|-;simp[f189,S7];refine gW pQ.length (by rw[VK];omega) (λc b h=>h=hE/\TI.Y b 0=D (.str d)/\TI.Y b 3=D (sl (pQ.map T.str))/\TI.Y b 4=D (J c)/\(d∈pQ.drop c↔d∈pQ)) ?_ ?_ (by rw[VK];omega) (by simp[e]);rintro c b h l n ⟨rfl,g,i,j,a⟩;have k:=aL l;rw[k]at a;by_cases f:pQ[c]=d;simp[*,xD];rw[<-a,f];simp;simp[*];refine⟨λh=>a.1 (List.mem_cons_of_mem _ h),λh=>?_⟩;rcases List.mem_cons.1 (a.2 h)with h|h
 exact absurd h.symm f;exact h;rintro b h ⟨rfl,g,i,j,a⟩;simp[*,xD];simpa using a
def HP{b:ik}(ht:b.p 189=D zr)(a:List Nat):rl prog cx b 189 [.str a]=D (.ej (xD a)):=iF ht LM a trivial
def Cm:iE:=⟨List Nat,λa=>[.str a],λa=>True,λa=> .ej (xv a),λa c b=>by simp at b;rw[b]⟩
def UY:Cm.Ok prog cx 150:=by
 refine iz [(189,zr),(188,AA),(190,Gk)] (js 4330618893 [] func150) (λv=>13) (by simp[Cm]) ?_;rintro(a:List Nat) _ f d;simp[Cm]at d|-;rcases a with _|⟨b,a⟩
 simp[f150,d,xv];have h:¬(a.length:Int)+1<1:=G;by_cases w:a.length+1<=12;have e:¬(12:Int)<(a.length:Int)+1:=G;cases j:yh b;simp[f150,d,h,e,j,FI,xv,Qr];cases o:xD (b::a)with
 |true=>simp[f150,d,h,e,j,o,FI,HP,xv,Qr]
 |false=>
  have q:xv (b::a)=(b::a).all Ad:=by simp[xv,o,Qr,j];intro _ _;omega
  have⟨m,s⟩:∃m,m=(b::a).all Ad:=⟨_,rfl⟩;rw[q,<-s];simp[f150,d,h,e,j,o,FI,HP];refine gW (b::a).length dP (λl f n=>n=hE/\TI.Y f 0=D (.str (b::a))/\TI.Y f 3=D (J l)/\((b::a).drop l).all Ad=m) ?_ ?_ dP (by rw[s];simp[d]);rintro l f n p u ⟨rfl,g,i,c⟩;rw[aL p,cA]at c;generalize t:(b::a)=r at*
  cases k:Ad r[l]with
  |true=>rw[k,bj]at c;simp[g,i,p,u,Wv,k,c]
  |false=>rw[k,dC]at c;simp[g,i,p,Wv,k,<-c]
  rintro f n ⟨rfl,g,i,c⟩;generalize t:(b::a)=r at*
  rw[cq]at c;simp[g,i,<-c]
 have e:(12:Int)<(a.length:Int)+1:=G;have q:xv (b::a)=false:=by simp[xv];omega
 simp[f150,d,h,e,q]
def tg{b:ik}(ht:b.p 150=D Cm)(a:List Nat):rl prog cx b 150 [.str a]=D (.ej (xv a)):=iF ht UY a trivial
