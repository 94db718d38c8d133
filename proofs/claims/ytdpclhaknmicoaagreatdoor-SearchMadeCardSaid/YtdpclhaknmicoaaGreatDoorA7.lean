/- W08d -/
import Derived.Test.YtdpclhaknmicoaaGreatDoorA6
set_option linter.all false
set_option maxRecDepth 100000
set_option maxHeartbeats 0
namespace Go.Proofs.YtdpclhaknmicoaaGreatDoor
noncomputable section
open Go Go.TI Tryz
attribute [-simp] List.map_take List.map_drop List.map_append ik gu fI Bool.not_or Bool.not_and
attribute [simp] ij gH
def xe:iF:=⟨fU,λa=>[a.t],λa=>a.fT.length<=1000000/\a.fR.length<=1000000/\a.eY.length<=1000000,λa=>(mI a).t,λc d b=>by simp at b;rw[fU.inj b]⟩
def WM(_:Unit):T:= .agg [M (-1),ed]
def WL{b:H}{Vq:Nat->Prop}(a:Nat):jw (FT b Vq 2) ((List.replicate a ()).map WM) ((List.replicate a (⟨-1,[]⟩:fF)).map fF.t):=by
 induction a with
 |zero=>exact .nil
 |succ a c=>
  rw[dJ,dJ];exact .cons (.inr (.inr ⟨_,_,rfl,.cons (jh ..) (.cons (kj ..) .nil),rfl⟩)) c
def Sy8(e:H)(Lk:List Unit)(a:List Bool)(Th:List fc):Prop:=∃f b c d,rD e 2 4 f [(b,some (2,Lk.map WM)),(M (-1),none),(c,some (1,a.map T.bool)),(d,some (3,Th.map fc.t))]
def yS:jO:=(eg 4 0 [.agg [ed,M 0,ed,ed]])
def Rc:xe.Ok prog cx 131:=by
 refine iD [] (jz 9071038046463 [] func131) (λ_=>1000005) (by simp[xe]) ?_;rintro(w:fU) ⟨hl,S,ht⟩ b I;simp[xe]at I|-;simp[f131,I];refine io w.fT.length J (λc b h=>Sy8 h (List.replicate c ()) [] []/\Lb 2 h 0 (eg 6 0 [w.t])/\Lb 2 h 1 yS/\jg b 1 0/\jg b 2 1/\jg b 3 2/\iS b 4 c) ?_ ?_ J ?_;rintro c b h L y ⟨⟨ver,m,n,o,a⟩,e,j,l⟩;have p:=a.get;simp at p;have⟨E,x,u,i⟩:=(a.gr 0 rfl).oy (cx:=cx) (f:=WM) a.ok On rfl J9 rfl Y (λ_=>rfl) () dY;have⟨q,C,r⟩:=a.app 0 rfl i;have⟨g,k⟩:=r _ rfl;simp only[<-List.replicate_succ']at k;simp[-List.map_replicate]at q g k;simp only[WM]at u;simp[*,e.get,fN,i.1.je,i.1.cells];exact⟨⟨_,_,_,_,k⟩,e.step g,j.step g⟩
 .rintro b h ⟨⟨ver,m,n,o,a⟩,e,j,l⟩;simp[l,e.get];refine io w.fR.length J (λc b h=>Sy8 h (List.replicate w.fT.length ()) (List.replicate c false) []/\Lb 2 h 0 (eg 6 0 [w.t])/\Lb 2 h 1 yS/\jg b 1 0/\jg b 2 1/\jg b 3 2/\iS b 5 c) ?_ ?_ J ⟨⟨_,_,_,_,a⟩,e,j,by simp[l]⟩;rintro c b h L y ⟨⟨ver,m,n,o,a⟩,e,j,l⟩;have p:=a.get;simp at p;have⟨E,x,u,i⟩:=(a.gr 2 rfl).oy (cx:=cx) (f:=T.bool) a.ok Hg rfl I3 rfl Y Y false dY;have⟨q,C,r⟩:=a.app 2 rfl i;have⟨g,k⟩:=r _ rfl;simp only[<-List.replicate_succ']at k;simp[-List.map_replicate]at q g k;simp[*,e.get,fN,i.1.je,i.1.cells];exact⟨⟨_,_,_,_,k⟩,e.step g,j.step g⟩
  .rintro b h ⟨⟨ver,m,n,o,a⟩,e,j,l⟩;simp[l,e.get];refine io w.eY.length J (λc b h=>Sy8 h (List.replicate w.fT.length ()) (List.replicate w.fR.length false) ((List.range c).map λc=>(⟨if c=0 then 1 else 0,0,false⟩:fc))/\Lb 2 h 0 (eg 6 0 [w.t])/\Lb 2 h 1 yS/\jg b 1 0/\jg b 2 1/\jg b 3 2/\iS b 6 c) ?_ ?_ J ⟨⟨_,_,_,_,a⟩,e,j,by simp[l]⟩
   .rintro c b h L y ⟨⟨ver,m,n,o,a⟩,e,j,l⟩;have p:=a.get;simp at p;have U:(0=h.size)=False:=uC a.lt;have V:(2=h.size)=False:=uC a.lt;by_cases K:c=0;subst K;have Q:binop .add (M 0) (M 1)=G (M 1):=iC y;have s:=a.cons (eg 3 2 [fc.t ⟨1,0,false⟩]);have v:=Step.cons a.ok a.lt (eg 3 2 [fc.t ⟨1,0,false⟩]);have z:=e.step v;have A:=j.step v;have⟨E,x,u,i⟩:=(s.gr 3 rfl).oy (cx:=cx) (f:=fc.t) s.ok J7 rfl J8 rfl Y (λ_=>rfl) (⟨1,0,false⟩:fc) Y;have⟨q,C,r⟩:=s.app 3 rfl i;have⟨g,k⟩:=r _ rfl;simp only[aS,bR,dc,cS]at q g k;rw[size_cons]at u;simp[*,e.get,a.ok.low,fN,i.1.je,i.1.cells];exact⟨⟨_,_,_,_,k⟩,z.step g,A.step g⟩
    .skip
     have s:=a.cons (eg 3 1 [fc.t ⟨0,0,false⟩]);have v:=Step.cons a.ok a.lt (eg 3 1 [fc.t ⟨0,0,false⟩]);have z:=e.step v;have A:=j.step v;have⟨E,x,u,i⟩:=(s.gr 3 rfl).oy (cx:=cx) (f:=fc.t) s.ok J7 rfl J8 rfl Y (λ_=>rfl) (⟨0,0,false⟩:fc) dY;have⟨q,C,r⟩:=s.app 3 rfl i;have⟨g,k⟩:=r _ rfl;simp only[aS,bR,dc,cS]at q g k;rw[size_cons]at u;simp[*,e.get,a.ok.low,fN,i.1.je,i.1.cells];have hr:(List.range (c+1)).map (λc=>(⟨if c=0 then 1 else 0,0,false⟩:fc))=(List.range c).map (λc=>(⟨if c=0 then 1 else 0,0,false⟩:fc))++[⟨0,0,false⟩]:=by
      rw[List.range_succ,List.map_append];simp[K]
     rw[hr];exact⟨⟨_,_,_,_,k⟩,z.step g,A.step g⟩
   rintro b h ⟨⟨ver,m,n,o,a⟩,e,j,l⟩;have p:=a.get;simp at p;have N:=j.get;unfold yS at N;have D:=a.uB j (eg 4 1 [.agg [m,M (-1),n,o]]);have R:(fQ h 1 (eg 4 1 [.agg [m,M (-1),n,o]])).get 1=_:=(fj N _ 1).trans (au rfl);have P:=(D.gr 0 rfl).JT (d:=2) J (WL (Vq:=λ_=>True) w.fT.length);simp[-List.map_replicate, *,e.get,fN,(D.gr 2 rfl).fz Y,(D.gr 3 rfl).fz Y];exact⟨a.ok.hp,by unfold mI iu.t iu.cs;simp[List.map_const',-List.map_replicate]⟩
 have⟨O,H⟩:=rD.start (h:=((hE.cons (eg 6 0 [w.t])).cons yS).cons (eg 4 1 [.agg [ed,M (-1),ed,ed]])) (w:=2) (szw:=4) (ver:=1) (F:=[(ed,some (2,[])),(M (-1),none),(ed,some (1,[])),(ed,some (3,[]))]) ⟨Y,Y,Y⟩ (by simp[yS]) Y;exact⟨⟨_,_,_,_,O⟩,⟨Y,λB=>absurd (H 0 B) d6⟩,⟨by simp[yS],λB=>absurd (H 1 B) d6⟩,Y⟩
def My{b:iq}(ht:b.p 131=G xe)(a:fU)(c:a.fT.length<=1000000)(d:a.fR.length<=1000000)(e:a.eY.length<=1000000):rl prog cx b 131 [a.t]=G (mI a).t:=iL ht Rc a ⟨c,d,e⟩
def ajF(f:H)(a:iu)(b c:Nat)(d:List Int):Prop:=∃g e,rD f 4 7 g [(sl (a.fT.map fF.t),none),(M a.tx,none),(sl (a.done.map T.bool),none),(sl (a.eY.map fc.t),none),(e,some (1,d.map (T.int .i64))),(.arr 2 0 0 b false,some (1,(List.replicate b 0).map (T.int .i64))),(.arr 3 0 0 c false,some (1,(List.replicate c 0).map (T.int .i64)))]
def yB:jO:=(eg 7 0 [.agg [ed,M 0,ed,ed,ed,ed,ed]])
def xd:iF:=⟨fU,λa=>[a.t],λa=>a.fT.length<=1000000/\a.fR.length<=1000000/\a.eY.length<=1000000/\a.cells.length<=1000000,λa=>(kP a).t,λc d b=>by simp at b;rw[fU.inj b]⟩
def Rb:xd.Ok prog cx 78:=by
 refine iD [(131,xe)] (jz 1048607 [(1,[(1,3),(1,5),(1,7),(1,9),(1,11)])] func78) (λ_=>1000005) (by simp[xd]) ?_;rintro(a:fU) ⟨hl,q,ht,B⟩ e h;simp[xd]at h|-;have S:a.fR.length*8<=70368744177664:=J;have U:a.eY.length*8<=70368744177664:=J;simp[*,f78,My];have L:(kP a).t=ir.t ⟨mI a,a.cells.map jm.mP,List.replicate a.fR.length 0,List.replicate a.eY.length 0⟩:=by
  unfold kP;simp only[List.map_const']
 rw[L];generalize mI a=b at*
 refine io a.cells.length J (λl e g=>∃i,ajF g b a.fR.length a.eY.length i/\i.length=l/\i=(a.cells.take l).map jm.mP/\Lb 4 g 0 (eg 6 0 [a.t])/\Lb 4 g 1 yB/\jg e 1 0/\jg e 2 1/\jg e 3 4/\iS e 4 l) ?_ ?_ J ?_;rintro l e g P ae ⟨i,⟨R,c,d⟩,K,m,n,o,A⟩;have p:=d.get;simp at p;have⟨an,X,V,z⟩:=(d.gr 4 rfl).oy (cx:=cx) (f:=T.int .i64) d.ok tv rfl CS rfl Y (λ_=>rfl) a.cells[l].mP dY;have⟨s,al,u⟩:=d.app 4 rfl z;have⟨y,H⟩:=u _ rfl;simp only[aS,bR,dc,cS]at s y H;simp[*,n.get,fN,z.1.je,z.1.cells];exact⟨_,⟨_,_,H⟩,dY,by rw[m,aM P,List.map_append];rfl,n.step y,o.step y⟩;rintro e g ⟨i,⟨R,c,d⟩,K,m,n,o,A⟩;rw[aI]at m;subst m;have p:=d.get;simp at p;have F:=o.get;unfold yB at F;have w:=d.uB o (eg 7 1 [.agg [sl (b.fT.map fF.t),M b.tx,sl (b.done.map T.bool),sl (b.eY.map fc.t),c,.arr 2 0 0 a.fR.length false,.arr 3 0 0 a.eY.length false]]);have W:(fQ g 1 (eg 7 1 [.agg [sl (b.fT.map fF.t),M b.tx,sl (b.done.map T.bool),sl (b.eY.map fc.t),c,.arr 2 0 0 a.fR.length false,.arr 3 0 0 a.eY.length false]])).get 1=_:=(fj F _ 1).trans (au rfl);have ao:=(w.gr 4 rfl).fz Y;have ap:=(w.gr 5 rfl).fz Y;have ar:=(w.gr 6 rfl).fz Y;simp[-List.map_replicate,-yh, *,n.get,fN];exact⟨d.ok.hp,by unfold ir.t ir.cs;simp[-List.map_replicate]⟩
 .have E:∀(j:Nat) (k:T×aa (Nat×List T)),([(sl (b.fT.map fF.t),none),(M b.tx,none),(sl (b.done.map T.bool),none),(sl (b.eY.map fc.t),none),(ed,some (1,[])),(.arr 2 0 0 a.fR.length false,some (1,(List.replicate a.fR.length 0).map (T.int .i64))),(.arr 3 0 0 a.eY.length false,some (1,(List.replicate a.eY.length 0).map (T.int .i64)))]:List (T×aa (Nat×List T)))[j]? =G k->∀c,fD k.1=G c->c+3=j:=by
   intro j k h c B;rcases j with _|_|_|_|_|_|_|j<;>simp at h<;>subst h<;>simp at B<;>omega
  refine⟨[],⟨1,ed,⟨Y,Y,Y⟩,Y,λf q=>?_,λj Q O k I h N c s u=>O ?_⟩,rfl,Y,⟨Y,?_⟩,⟨by simp[yB],?_⟩,Y⟩
  .simp only[cg,cF,cG,bR]at q;rcases q with rfl|rfl|rfl|rfl|rfl|rfl|rfl
   iterate 4 (show fD _=none;simp)
   exact⟨Gr.nil _ _,d6⟩;exact⟨.inr ⟨2,0,0,true,_,Y,by simp;rfl,Y⟩,show(1:Nat)≠7 by decide⟩;exact⟨.inr ⟨3,0,0,true,_,Y,by simp;rfl,Y⟩,show(1:Nat)≠7 by decide⟩
  have A:=E j k h c s;have Z:=E Q I N c u;omega
  all_goals
   rintro(r|⟨x,D,v,C,r⟩);simp at r;simp at D;subst D;simp[iy,T.cells]at C;rcases C with rfl|rfl|rfl|rfl|rfl|rfl|rfl<;>simp at r
def Mx{b:iq}(ht:b.p 78=G xd)(a:fU)(c:a.fT.length<=1000000)(d:a.fR.length<=1000000)(e:a.eY.length<=1000000)(f:a.cells.length<=1000000):rl prog cx b 78 [a.t]=G (kP a).t:=iL ht Rb a ⟨c,d,e,f⟩
def xg:iF:=⟨List gd×Nat×Int×List Int,λa=>[sl (a.1.map gd.t),M a.2.1,M a.2.2.1,sl (a.2.2.2.map (T.int .i64))],λa=>a.2.1<=a.1.length/\a.1.length<=1000000/\a.2.2.2.length<=1000000,λa=> .bool (y7 (a.1.take a.2.1) a.2.2.1 a.2.2.2),λa c b=>by
 obtain⟨a1,a2,a3,a4⟩:=a;obtain⟨h,i,j,k⟩:=c;simp at b;obtain⟨d,e,f,g⟩:=b;rw[jD (λ_ _=>gd.inj) d,Int.ofNat.inj e,f,jD (λ_ _ b=>iC b) g]⟩
def ScR(d e:Int)(b:List gd)(c f g:Nat)(h:T):Prop:=∃a:Bool,h= .bool a/\Eh d e ((b.take c).drop f) g a=Eh d e (b.take c) 0 false
def Rg:xg.Ok prog cx 80:=by
 refine iD [] (jz 576460753379335951 [] func80) (λ_=>1000005) (by simp[xg]) ?_;rintro⟨b,j,v,k⟩ ⟨N,hl,P⟩ a A;simp at N hl P;simp[xg]at A|-;simp[f80];refine io k.length J (λh a n=>n=hE/\ka a 0 (sl (b.map gd.t))/\iS a 1 j/\iS a 2 v/\ka a 3 (sl (k.map (T.int .i64)))/\iS a 9 h/\(k.take h).all (λE=>Eh v E (b.take j) 0 false)=true) ?_ ?_ J (by simp[A]);rintro h a n u H ⟨rfl,l,d,m,e,f,s⟩;simp[e,f,u];refine io j J (λc a n=>n=hE/\ka a 0 (sl (b.map gd.t))/\iS a 1 j/\iS a 2 v/\ka a 3 (sl (k.map (T.int .i64)))/\iS a 9 h/\∃(i:Nat) (w:T),iS a 10 i/\ka a 11 w/\iS a 12 c/\i<=c/\ScR v k[h] b j c i w) ?_ ?_ J ⟨rfl,by simp[l],by simp[d],by simp[m],by simp[e],by simp[f],0,.bool false,Y,Y,Y,ay _,false,rfl,rfl⟩;rintro c a n I B ⟨rfl,l,d,m,e,f,i,w,y,r,o,K,x,rfl,g⟩;have C:c<b.length:=J;have z:(b.take j).drop c=b[c]::(b.take j).drop (c+1):=by
  rw[aJ dY];simp
 rw[z,Eh]at g;simp[l,d,m,o,I,C];have L:b[c]? =G b[c]:=aF C;have O:k[h]? =G k[h]:=aF u;generalize b[c]=R at*
 generalize k[h]=E at*
 have F:binop .add (M (i:Int)) (M 1)=G (M ((i+1:Nat):Int)):=by rw[jr J J];simp
 refine fO (λp=>?_) (λp=>?_);simp at p;rw[aq p]at g;simp[l,d,m,e,f,y,r,o,B];exact⟨i,rfl,J,x,rfl,g⟩;simp at p;rw[au p]at g;simp[l,d,m,e,f,y,r,o,L,O,F,B];exact⟨i+1,Y,J,_,rfl,g⟩;rintro a n ⟨rfl,l,d,m,e,f,i,w,y,r,o,K,x,rfl,g⟩;have z:(b.take j).drop j=[]:=Y;rw[z,Eh]at g;simp[d,r,o];cases x;simp;unfold y7;rw[List.all_eq_false];exact⟨k[h],aG u,by rw[<-g];simp⟩;simp[l,d,m,e,f,H];intro Q D;rw[aM u]at D;rcases List.mem_append.1 D with q|q
 exact List.all_eq_true.1 s Q q;rw[List.mem_singleton.1 q];exact g.symm;rintro a n ⟨rfl,l,d,m,e,f,s⟩;rw[aI]at s;simp[e,f];unfold y7;rw[s]
def Vo{e:iq}(ht:e.p 80=G xg)(a:List gd)(b:Nat)(d:Int)(c:List Int)(f:b<=a.length)(g:a.length<=1000000)(h:c.length<=1000000):rl prog cx e 80 [sl (a.map gd.t),M b,M d,sl (c.map (T.int .i64))]=G (.bool (y7 (a.take b) d c)):=iL ht Rg (a,b,d,c) ⟨f,g,h⟩
end
noncomputable section
open Go Go.TI Tryz
section
attribute [-simp] List.map_take List.map_drop List.map_append
def KY:iF:=⟨Int×Nat,λa=>[M a.1,M a.2],λa=>True,λa=> .bool (jB a.1 a.2),λa c b=>by simp at b;rw[b.1,show a.2=c.2 by omega]⟩
def aa0:KY.Ok prog cx 133:=by refine iD [] (jz 19 [] func133) (λc=>1) (by simp[KY]) ?_;rintro⟨b,e⟩ _ f a;simp[KY]at a|-;by_cases d:0<=b<;>simp[*,f133,jB]
def Vy{c:iq}(ht:c.p 133=G KY)(a:Int)(b:Nat):rl prog cx c 133 [M a,M b]=G (.bool (jB a b)):=iL ht aa0 (a,b) trivial
def Cj:iF:=⟨fU×ir,λa=>[a.1.t,a.2.t],λa=>a.1.jl.length<=1099511627776,λa=> .bool (uG a.1 a.2),λa c b=>by simp at b;rw[fU.inj b.1,ir.inj b.2]⟩
def T7:Cj.Ok prog cx 132:=by refine iD [(171,wz)] (jz 31 [] func132) (λd=>1) (by simp[Cj]) ?_;rintro⟨b,a⟩ hl h c;simp[Cj]at hl c|-;cases g:ou b a.ig;simp[*,f132,yp,uG];by_cases e:a.cells.length=b.cells.length<;>by_cases f:a.fR.length=b.fR.length<;>simp[*,f132,yp,uG,Int.natCast_inj]
def Yr{c:iq}(ht:c.p 132=G Cj)(a:fU)(b:ir)(hl:a.jl.length<=1099511627776):rl prog cx c 132 [a.t,b.t]=G (.bool (uG a b)):=iL ht T7 (a,b) hl
def zb:iF:=⟨List Int×Int,λa=>[sl (a.1.map (T.int .i64)),M a.2],λa=>a.1.length<=1099511627776,λa=> .bool (Bt a.2 none a.1),λa c b=>by simp at b;rw[jD Y b.1,b.2]⟩
def Rj:zb.Ok prog cx 134:=by
 refine iD [] (jz 1099511628339 [] func134) (λt=>t.1.length+1) (by simp[zb]) ?_;rintro⟨c,k⟩ hl i p;simp[zb]at hl p|-;simp[f134];refine io c.length J (λb i n=>n=hE/\ka i 0 (sl (c.map (T.int .i64)))/\iS i 1 k/\iS i 5 b/\Bt k (if b=0 then none else c[b-1]?) (c.drop b)=Bt k none c) ?_ ?_ J (by simp[p]);rintro b i n h q ⟨rfl,f,j,g,a⟩;rw[aJ h]at a;simp[Bt]at a;by_cases d:c[b]<1;simp[d]at a;simp[f,g,h,d,a];by_cases e:k<=c[b];simp[e]at a;simp[f,j,g,h,d,e,a];by_cases r:b=0;have l:¬0<b:=J;rw[au r]at a;simp[d,e]at a;simp[f,j,g,h,q,d,e,l];exact a;have l:0<b:=J;have o:b-1<c.length:=J;have s:binop .sub (M (b:Int)) (M 1)=G (M ((b-1:Nat):Int)):=by rw[my J J,show(b:Int)-1=((b-1:Nat):Int)by omega]
 rw[aq r,aF o]at a;by_cases m:c[b]<=c[b-1];simp[d,e,m]at a;simp[f,j,g,h,o,d,e,m,s,a,l];simp[d,e,m]at a;simp[f,j,g,h,o,q,d,e,m,s,l];exact a;rintro i n ⟨rfl,f,j,g,a⟩;simp[Bt]at a;simp[f,g,a]
def Vs{c:iq}(ht:c.p 134=G zb)(a:List Int)(b:Int)(hl:a.length<=1099511627776):rl prog cx c 134 [sl (a.map (T.int .i64)),M b]=G (.bool (Bt b none a)):=iL ht Rj (a,b) hl
def xa:iF:=⟨ir×gd,λa=>[a.1.t,a.2.t],λa=>a.1.ig.eY.length<=1099511627776/\(a.2.kind=3->jB a.2.obj a.1.cells.length=true)/\(a.2.kind=23->jB a.2.obj a.1.fR.length=true),λa=> .bool (qG a.1 a.2),λa c b=>by simp at b;rw[ir.inj b.1,gd.inj b.2]⟩
def Q7:xa.Ok prog cx 135:=by
 refine iD [(71,vw),(97,Ci)] (jz 18889470444974887141823 [(17,[(1,6)])] func135) (λl=>1) (by simp[xa]) ?_;rintro⟨b,a⟩ hl u h;simp[xa]at hl h|-;obtain⟨hl,c,d⟩:=hl;by_cases g:a.kind=3;have⟨k,e,i⟩:=jt (c g);simp[*,f135,qG,fZ (gG.1 (c g)).1];by_cases f:a.kind=23;have⟨k,e,i⟩:=jt (d f);simp[*,f135,qG,fZ (gG.1 (d f)).1];by_cases r:a.kind=5;by_cases e:a.value=0<;>simp[*,f135,qG];by_cases q:a.kind=4;simp[*,f135,qG];by_cases p:a.kind=22;simp[*,f135,qG];by_cases n:a.kind=18;have j:=Aa a.obj b.ig.eY 0;by_cases m:jb a.obj b.ig.eY 0=[];simp[*,f135,qG,CY];by_cases s:0<=a.value<;>by_cases t:a.value<b.ig.eY.length<;>
  simp[*,f135,qG,CY,Mz,aV j hl]
 by_cases o:a.kind=19;simp[*,f135,qG,CY];simp[*,f135,qG]
def Vl{c:iq}(ht:c.p 135=G xa)(b:ir)(a:gd)(hl:b.ig.eY.length<=1099511627776)(d:a.kind=3->jB a.obj b.cells.length)(e:a.kind=23->jB a.obj b.fR.length):rl prog cx c 135 [b.t,a.t]=G (.bool (qG b a)):=iL ht Q7 (b,a) ⟨hl,d,e⟩
end
def jP(e:List (aj×iF))(l:List (aj×mM)){i:Type}{h:i->List T->H->Prop}{n:i->List T->H->T->H->Prop}{k:aj}{d:Func}{g:Nat}{j:DL}(s:Ea prog cx k d g j)(m:Nat)
 (r:∀b f a,h b f a->∀o,oz o 0 f->W (kN cx (r7 prog cx ⟨pt e,ht l⟩) m g j (d.body.getD .skip) ⟨o,.nil⟩ (hr a)) (AJ cx g d.results.toList λe p=>n b f a (ky e) (mV a p)))
 (q:∀b c a,h b c a->Nat.ble c.length d.ntmps=true:=by first|(rintro _ _ _ ⟨rfl,_⟩;rfl)|(rintro _ _ _ ⟨⟨rfl,_⟩,_⟩;rfl)|(rintro _ _ _ ⟨⟨⟨rfl,_⟩,_⟩,_⟩;rfl)):(kW i h n).Ok prog cx k:=
 wP (tb:=⟨pt e,ht l⟩) ml kl s (λ_ _=>m) (λb c a t=>bp (q b c a t)) r
def FW(a:List Int)(b:Int):xo a b=oF a b:=by
 induction a with
 |nil=>rfl
 |cons d a c=>rw[xo,oF,c]
def FY:∀(b a:List Int),MP a->MP (oh a b):=by
 intro b;induction b with
 |nil=>intro a c;exact c
 |cons e b d=>intro a c;exact d _ (by rw[FW];exact GL c e)
def FX:∀(c b:List Int) (a:Int),a∈oh b c->a∈b\/a∈c:=by
 intro c;induction c with
 |nil=>intro b a h;exact .inl h
 |cons e c d=>
  intro b a h;rcases d (xo b e) a h with h|h
  rw[FW]at h;rcases CF h with h|h
  exact .inl h;exact .inr (by simp[h]);exact .inr (by simp[h])
def Qo:∀(a:List Int) (e b:Int),MP a->(∀c∈a,e<=c/\c<b)->a.length<=(b-e).toNat:=by
 intro a;induction a with
 |nil=>intro e b _ _;simp
 |cons c a i=>
  intro e b d f;unfold MP at d;rw[dP]at d;have j:=i (c+1) b d.2 λh g=>⟨iV (d.1 h g),(f h (by simp[g])).2⟩;have k:=f c Y;simp;omega
def Tn(a:Nat)(b:List Int):Prop:=b.length<=a/\∀c∈b,0<=c/\c<a
theorem Tn.nil(a:Nat):Tn a []:=⟨az _,Y⟩
def Tn.union{a:Nat}{c d:List Int}(f:Tn a c)(g:Tn a d):Tn a (Dd c d):=by
 have e:∀b∈Dd c d,0<=b/\b<a:=λb i=>by
  rcases FX _ _ _ i with h|h;rcases FX _ _ _ h with h|h;simp at h;exact f.2 b h;exact g.2 b h
 refine⟨?_,e⟩;have:=Qo (Dd c d) 0 a (FY _ _ (FY _ _ List.Pairwise.nil)) e;omega
end
end Go.Proofs.YtdpclhaknmicoaaGreatDoor
namespace Go.TI
noncomputable section
section
@[simp]def aex (a:H) (b:jO):(a.cons b).size=a.size+1:=a9
def jw.UF{b h:Type}{c:b->h->Prop}{e:List b}{f:List h}(j:jw c e f){g:b}(d:g∈e):∃a∈f,c g a:=by
 induction j with
 |nil=>simp at d
 |cons i _ l=>
  rcases List.mem_cons.1 d with rfl|q;exact⟨_,Y,i⟩;have⟨a,k,m⟩:=l q;exact⟨a,by simp[k],m⟩
section
variable {cx:Ctx}{cf:jS}{V n:Nat}{dl:DL}
def agA{f:Out}{e:Env->H->Prop}{c:jH}(i:W f (By e c))(j:∀a b,e a b->c.n a b):W f c:=by
 obtain⟨g,a,b,h,d⟩:=i;refine⟨g,a,b,h,?_⟩;cases g with
 |normal=>exact j a b d
 |exit k=>exact d
 |ret=>exact d
def VV{g:Out}{d:jH}(e:iM->H->Prop)(i:W g (By (λb a=>b.tmps= .nil/\e b.vars a) d))(j:∀c a,e c a->d.n ⟨c,.nil⟩ a):W g d:=
 agA i λb a ⟨h,f⟩=>by obtain⟨c,k⟩:=b;dsimp at h f;subst h;exact j c a f
def nS{f:Bool}{g h:Code}{b:Env}{a:H}{d:jH}(c:iM->H->Prop)(k:f->W (kN cx cf n V dl g b a) (By (λb a=>b.tmps= .nil/\c b.vars a) d))(l:f=false->W (kN cx cf n V dl h b a) (By (λb a=>b.tmps= .nil/\c b.vars a) d))
 (i:∀j a,c j a->d.n ⟨j,.nil⟩ a):CK (some (.bool f)) cx cf n V dl g h b a d:=by
 refine fO (λe=>?_) (λe=>?_);exact VV c (k e) i;exact VV c (l e) i
end
end
section
@[simp]def akp (a:Nat):(a=a+1)=False:=Y 
@[simp]def ako (a:Nat):(a=a+1+1)=False:=dY 
@[simp]def akn (a:Nat):(a=a+1+1+1)=False:=dY 
@[simp]def akm (a:Nat):(a=a+1+1+1+1)=False:=dY 
@[simp]def akl (a:Nat):(a=a+1+1+1+1+1)=False:=dY 
def NZ{c:H}{b:T}{d:List T}(a:c.kd b=G d)(f:jO):(c.cons f).kd b=G d:=by
 cases b<;>first|exact a|(simp[H.kd]at a;done)|skip
 rename_i g h k j i;rw[iW]at a|-;obtain⟨l,e,_⟩:=eQ.1 a;rw[fH,aq (iV (H.fV e))];exact a
def kR{cx:Ctx}{a:H}{sz:Nat}(D:jk 0 a){g h f:ab}{m n b:Ty}(s:cx.ty g=G m)(t:m.u= .slice f)(v:cx.ty f=G b)(w:cx.ty h=G n)(y:n.u= .slice f)(j:b.size=sz)(A:1<=b.bytes)
 {x:T} {xs:List T} (C:a.kd x=G xs) (k:∀q∈xs,q.cells.length=sz) (F:xs.length*b.bytes<=70368744177664):
 ∃i d,jE cx (a.cons ⟨sz,0,0,true,false,[]⟩) g h (.arr a.size 0 0 0 false) x=be (.arr a.size i 0 xs.length false) d/\(∃E r,d.get a.size=G ⟨sz,i,E,r,false,xs⟩)/\d.size=a.size+1/\(∀c,c<a.size->d.get c=a.get c)/\jk 0 d:=by
 have z:jE cx (a.cons ⟨sz,0,0,true,false,[]⟩) g h (.arr a.size 0 0 0 false) x=kJ ((a.cons ⟨sz,0,0,true,false,[]⟩).append b.size b.bytes (.arr a.size 0 0 0 false) xs):=by
  unfold jE tu pP;rw[s,fw,w,fw];simp[t,v,y,NZ C,fw];rw[j,nD k,iP]
 rw[z,j];have l:=D.cons ⟨sz,0,0,true,false,[]⟩;have e:(a.cons ⟨sz,0,0,true,false,[]⟩).get a.size=G ⟨sz,0,0,true,false,[]⟩:=Y;rcases xs with _|⟨o,p⟩
 exact⟨0,a.cons ⟨sz,0,0,true,false,[]⟩,rfl,⟨0,true,e⟩,rfl,λc B=>by rw[fH,aq J],l⟩;refine⟨1,fQ (a.cons ⟨sz,0,0,true,false,[]⟩) a.size ⟨sz,1,1,false,false,o::p⟩,?_,⟨1,false,by rw[fj e,au rfl]⟩,by rw[iB];rfl,λc B=>by rw[fj e,aq J,fH,aq J],l.put _ _⟩;show kJ ((a.cons ⟨sz,0,0,true,false,[]⟩).o6 sz b.bytes a.size 0 ([]:List T).length (o::p))=_;rw[z9 e k A c5];rfl
def rx(c:H)(d:Nat)(b:T)(a:List T):Prop:=b=sl a\/Gr c b d a
def rx.kd{b:H}{e:Nat}{c:T}{a:List T}(d:rx b e c a):b.kd c=G a:=by rcases d with rfl|g;simp;exact g.kd
def rx.mono{d h':H}{e:Nat}{b:T}{c:List T}(h:rx d e b c)(g:∀a,fD b=G a->h'.get a=d.get a):rx h' e b c:=h.imp id λf=>f.mono g
def rx.len{cx:Ctx}{f:H}{j:Nat}{e:T}{c:List T}(i:rx f j e c)(a:H)(b:Ty)(d:ab)(h:b.u= .slice d):HX cx a b e=be (.int .i64 c.length) a:=by rcases i with rfl|g;simp_all;exact g.len a b d h
theorem rx.je{c:H}{e:Nat}{a:T}{b:List T}(d:rx c e a b):a.je/\a.cells=[a]:=by rcases d with rfl|g;cases b<;>exact⟨rfl,rfl⟩;exact⟨g.je,g.cells⟩
def rx.idx{b:H}{e:T}{a:List T}(m:rx b 1 e a){te:Ty}(l:te.size=1)(j:te.isAgg=false){i:Nat}{x:T}(k:a[i]? =G x)(r:x.cells=[x]):∃d,nC b te e i=be d b/\b.load te d=G x:=by
 have hr:lI te [x]=G x:=by unfold lI;rw[j];rfl
 have c:i<a.length:=by
  grind
 rcases m with rfl|g;simp_all;have⟨n,p,s,q,t,_,f,h,o⟩:=g.CD l c;refine⟨_,f,?_⟩;have:a[i]=x:=by rw[aF c]at k;grind
 rw[abk,h];simp_all
def rx.ft{h:H}{Vq:Nat->Prop}{q d:Nat}{f:T}{b:List T}(p:rx h q f b)(e:∀a∈b,cn a=a/\lr a/\∀k,a≠ .agg k)(i:∀c,fD f=G c->Vq c):FT h Vq (d+2) f (sl b):=by
 rcases p with rfl|g
 grind [uq]
 have j:=g.kd;rcases g with⟨rfl,rfl⟩|⟨c,l,v,s,w,rfl,m,n⟩
 simp[kj];refine .inr (.inl ⟨c,l,0,_,false,b,b,rfl,i c rfl,j,?_,rfl⟩);clear j i n m;induction b with
 |nil=>exact .nil
 |cons a u o=>exact .cons (.inl ⟨(e a Y).2.1,(e a Y).2.2,(e a Y).1.symm⟩) (o λr t=>e r c5)
structure Nb(h h':H):Prop where
 ok:jk h.size h'
 get:∀c,c<h.size->h'.get c=h.get c
def Nb.refl{a:H}(b:jk 0 a):Nb a a:=⟨⟨b.hp,b.low,ay _⟩,λ_ _=>rfl⟩
def Nb.trans{d e f:H}(a:Nb d e)(b:Nb e f):Nb d f:=⟨⟨b.ok.hp,b.ok.low,aV a.ok.sz b.ok.sz⟩,λc g=>(b.get c (bS g a.ok.sz)).trans (a.get c g)⟩
theorem Nb.cons{b c:H}(a:Nb b c)(d:jO):Nb b (c.cons d):=⟨a.ok.cons d,λe f=>by rw[fH,aq (iV a.ok.sz)];exact a.get e f⟩
theorem Nb.put{b c:H}(d:Nb b c){a:Nat}{x:jO}(g:c.get a=G x)(h:b.size<=a)(y:jO):Nb b (fQ c a y):=⟨d.ok.put a y,λe f=>by rw[fj g,aq J];exact d.get e f⟩
def Nb.step{b f:H}(a:Nb b f){d:Nat}(g:d<b.size):Step d b f:=⟨a.ok,λe c _=>a.get e c,λe c=>by rw[jY (a.get d g)]at c;grind⟩
def Nb.hr{a d:H}(b:Nb (TI.hr a) d):Nb a d:=⟨b.ok,λc e=>(b.get c e).trans (iZ a c)⟩
def Nb.out{h b:H}(c:Nb (TI.hr h) b):Nb h (mV h b):=⟨c.ok.out h,λa d=>(iJ h b a).trans ((c.get a d).trans (iZ h a))⟩
def Gr.new{h:H}{b sz ep ver:Nat}{ex:Bool}{es:List T}(a:h.get b=G ⟨sz,ep,ver,ex,false,es⟩):Gr h (.arr b ep 0 es.length false) sz es:= .inr ⟨b,ep,ver,ex,es,rfl,a,aI⟩
def rD.one{h:H}{w szw ver i0:Nat}{F:List (T×aa (Nat×List T))}(s:jk 0 h)(i:h.get w=G ⟨szw,0,ver,true,false,[.agg (F.map (·.1))]⟩)(n:∀a∈F,Fld h szw a)(f:∀(b:Nat) d,F[b]? =G d->fD d.1≠none->b=i0):
 rD h w szw ver F/\∀c,Fp h w c->c=w\/∃a,F[i0]? =G a/\fD a.1=G c:=by
 refine⟨⟨s,i,n,λb r q d k l m c t u=>q ((f b d l (by rw[t];simp)).trans (f r k m (by rw[u];simp)).symm)⟩,λc e=>?_⟩;rcases e with e|⟨x,g,v,j,e⟩
 omega;rw[i]at g;cases g;simp only[iy,bh,df,cq,T.cells]at j;obtain⟨a,o,rfl⟩:=List.mem_map.1 j;have⟨b,p⟩:=cY o;have:=f b a p (by rw[e];simp)
 grind
section
variable {cx:Ctx}{cf:jS}{V:Nat}
@[simp low] theorem agU (n:aa Nat) (l:T) (j:af Oper) (a:List (Nat×Nat)) (f:aa Tmp) (h:List Oper) (b:Nat) (i:List (Nat×Nat)) (c:List (Nat×H×H)) (m k:iM) (g:H) (e:jH) (q:nJ a b=false) (p:(c.all λd=> !DJ a d.1 b)):DLK n l cx cf V j a f h b i c m k g e=Wt l cx cf V j a f h (b+1) i c m k g e:=by
 rcases n with _|o;rfl;have hl:pj a b o c=True:=by
  simp[eq_iff_iff,iff_true];intro d s r;have:=List.all_eq_true.1 p d s;rw[r]at this;grind
 rw[Wa,hl,q,true_and];rfl
end
def Bf{a x:T}(c:∀b,a≠ .agg b):mT a 0 [x]=G x:=by cases a<;>first|rfl|grind
def rx.na{h:H}{sz:Nat}{b:T}{a:List T}(d:rx h sz b a):∀c,b≠ .agg c:=by rcases d with rfl|g;cases a<;>simp[sl];rcases g with⟨rfl,_⟩|⟨e,f,j,i,k,rfl,_⟩<;>simp
def Gr.setAt{j h':H}{f:T}{k a l b s ver2:Nat}{n ex2:Bool}{i h:List T}(o:Gr j f k i)(d:fD f=G a)(q:j.get a=G ⟨l,b,s,n,false,h⟩)(e:Nat)(g:T)(r:h'.get a=G ⟨l,b,ver2,ex2,false,h.set e g⟩):Gr h' f k (i.set e g):=by rcases o with⟨rfl,_⟩|⟨m,t,v,u,w,rfl,c,p⟩;simp at d;simp[D4,aw]at d;subst d;rw[q]at c;simp[aw,jO.mk.injEq]at c;obtain⟨rfl,rfl,rfl,rfl,_,rfl⟩:=c;exact .inr ⟨m,b,ver2,ex2,h.set e g,by rw[dG],r,by rw[dG,List.take_set,p]⟩
def jw.set{d e:Type}{f c:d->e->Prop}{i:List d}{j:List e}(b:jw f i j)(a:Nat){k:d}{l:e}(m:c k l)(h:∀b g,f b g->c b g):jw c (i.set a k) (j.set a l):=by
 induction b generalizing a with
 |nil=>exact .nil
 |cons o p n=>
  rcases a with _|a;exact .cons m (p.imp h);exact .cons (h _ _ o) (n a)
def jw.XB{b c j:Type}{d:b->c->Prop}{e:b->j->Prop}{f:c->j}{h:List b}{i:List c}(a:jw d h i)(k:∀a g,d a g->e a (f g)):jw e h (i.map f):=by
 induction a with
 |nil=>exact .nil
 |cons m n l=>exact .cons (k _ _ m) l
def FT.tup{c:H}{f:Nat->Prop}{d h:Nat}(k:h<=11)(j:∀a,f a->d<=a){b g:List T}(l:jw (FT c f h) b g)(a:Bool):∃i,kI c d (.tuple [.agg b,.bool a])=G i/\cn i= .tuple [.agg g,.bool a]:=by have⟨r0,e,n⟩:=FT.top k j l;refine⟨.tuple [r0,.bool a],?_,?_⟩;have e:mw c d (.agg b)=G r0:=e;show(Z (iN (mw c d) [.agg b,.bool a]) λm=>some (T.tuple m))=_;rw[kv,e];rfl;simp_all[xQ]
def Gr.ft{c:H}{Vq:Nat->Prop}{e:T}{m d:Nat}{a b:List T}(i:Gr c e m a)(k:∀h,fD e=G h->Vq h)(f:jw (FT c Vq d) a b):FT c Vq (d+1) e (sl b):=by
 have l:=i.kd;rcases i with⟨rfl,rfl⟩|⟨g,j,q,n,r,rfl,o,p⟩
 cases f;simp[kj];exact .inr (.inl ⟨g,j,0,_,false,a,b,rfl,k g rfl,l,f,rfl⟩)
def Gr.at{f:H}{h x:T}{g i:Nat}{a:List T}(k:Gr f h g a)(o:a[i]? =G x):∃b c j e d,h= .arr b c 0 a.length false/\f.get b=G ⟨g,c,j,e,false,d⟩/\d[i]? =G x/\i<a.length:=by
 have n:i<a.length:=by
  grind
 rcases k with⟨rfl,rfl⟩|⟨b,c,j,e,d,rfl,l,m⟩
 grind
 grind
def rx.qZ{b:H}{j:Nat}{e:Type}{f:e->T}{d:T}{c:List e}(i:rx b j d (c.map f))(k:∀a,cn (f a)=f a)(h:∀a,AX b 11 (f a)=G (f a)):TI.qZ b d=G (sl (c.map f)):=by rcases i with rfl|g;simp_all;exact g.qZ h
def pR{b:H}{a c:Nat}{f:jO}(e:b.get a=G f)(d:c≠a)(g:jO):il b (fQ b a g) c=true:=iw (by rw[fj e,aq d])
def rV{b:H}{c:Nat}(f:Hp b)(e:c<b.size)(d:jO)(a:Nat):(fQ b c d).get a=if a=c then some d else b.get a:=get_put f e d a
@[simp]def akx (a:Nat):(a<a+1+1)=True:=dY 
@[simp]def akw (a:Nat):(a<a+1+1+1)=True:=dY 
@[simp]def akv (a:Nat):(a<a+1+1+1+1)=True:=dY 
@[simp high] theorem ajA {e:ai} {cx:Ctx} (d:iq) (b:aj) (a:List T) (c:H) (g:d.p b=none):r7 e cx d b a c=hl e cx d b a c:=by
 unfold r7;rcases VM c a with _|f
 rfl
 grind [EY]
def kf{b c:H}{a:Nat}(d:b.get a=none):il b c a=true:=by unfold il;rw[d]
def oR(b:H){a:Nat}(d:b.size<=a):b.get a=none:=by rcases c:b.get a with _|e;rfl;have:=H.fV c;omega
def Gr.yv{cx:Ctx}{a:H}{h:T}{b:Nat}{f:List T}(q:Gr a h b f)(l:jk 0 a){g i:ab}{m d:Ty}(j:cx.ty g=G m)(k:m.u= .slice i)(r:cx.ty i=G d)(t:d.size=b)(s:1<=d.bytes){x:T}(w:x.cells.length=b)(v:(f.length+1)*d.bytes<=70368744177664):
 ∃e c,jE cx (a.cons ⟨b,0,0,true,false,[x]⟩) g g h (.arr a.size 0 0 1 false)=be e c/\Xt a h b (f++[x]) e c:=by
 have n:=(Xt.refl q l).cons ⟨b,0,0,true,false,[x]⟩;have⟨e,c,p,o⟩:=Gr.app (cx:=cx) n.1 (l.cons _) (x:= .arr a.size 0 0 1 false) (xs:=[x]) j k r j k t s d4 c5 Y J;exact⟨e,c,p,n.trans o.xt⟩
end
end
end Go.TI
namespace Go.Proofs.YtdpclhaknmicoaaGreatDoor
noncomputable section
open Go Go.TI Tryz
attribute [-simp] List.map_take List.map_drop List.map_append ik gu fI Bool.not_or Bool.not_and
section
attribute [-simp] size_cons
abbrev iE(a:List Int):List T:=a.map (T.int .i64)
def tn1(a:List Int):T:=sl (a.map (T.int .i64))
def Tv(e d:Nat)(b c:T)(a:Nat):Prop:=e<=a/\a<d/\fD b≠some a/\fD c≠some a
structure EG(lo hi:Nat)(h:H)(a b:T)(es:List T)(s:gJ):Prop where
 ga:Gr h a 1 (iE s.jT)
 gb:Gr h b 1 es
 el:jw (λe l=>rx h 1 e (iE l)/\∀c,fD e=G c->Tv lo hi a b c) es s.lU
 ba:∀c,fD a=G c->lo<=c/\c<hi/\fD b≠some c
 bb:∀c,fD b=G c->lo<=c/\c<hi
def EX(a:gJ)(b c:T):T:= .agg [M a.pC,b,c,M a.eZ]
structure TSr(h:H)(a b:T)(es:List T)(s:gJ):Prop where
 ra:rx h 1 a (iE s.jT)
 rb:rx h 1 b es
 el:jw (λe l=>rx h 1 e (iE l)) es s.lU
 lt:∀e c,(e=a\/e=b\/e∈es)->fD e=G c->c<h.size
structure ICp where
 (s:gJ) (a b:T) (es:List T)
def Te(c:ICp)(e:List T)(d:H):Prop:=e=[EX c.s c.a c.b]/\TSr d c.a c.b c.es c.s/\jk 0 d/\c.s.jT.length<=1000000/\c.s.lU.length<=1000000/\∀f∈c.s.lU,f.length<=1000000
def Nr(e:ICp)(h:List T)(d:H)(g:T)(a:H):Prop:=∃b c f,g=EX e.s b c/\EG d.size a.size a b c f e.s/\Nb d a
structure CpS(s:gJ)(a b aN:T)(h h':H)(i:Nat):Prop where
 ex:∃ver c es',rD h' (h.size+1+1+1) 4 ver [(M s.pC,none),(aN,some (1,iE s.jT)),(c,some (1,es')),(M s.eZ,none)]/\es'.length=i/\
  jw (λe l=>rx h' 1 e (iE l)/\∀k,fD e=G k->h.size+1<k/\k<h'.size/\¬Fp h' (h.size+1+1+1) k) es' (s.lU.take i)
 nb:Nb h h'
 l1:Lb (h.size+1+1+1) h' h.size (eg 4 0 [.agg [M s.pC,a,b,M s.eZ]])
 l2:Lb (h.size+1+1+1) h' (h.size+1) (eg 4 0 [.agg [M 0,ed,ed,M 0]])
 lo:∀c,Fp h' (h.size+1+1+1) c->h.size+1<c
theorem d2{p:Prop}(h:p:=by rw[fH,aq J]):p:=h
def Lv:(kW ICp Te Nr).Ok prog cx 231:=by
 refine jP [] [] (jz 262175 [(1,[(1,7),(3,7),(7,9)]),(5,[(1,8)])] func231) 1000005 ?_;rintro⟨b,z,l,V⟩ _ h ⟨rfl,v,bu,hr,de,br⟩ C O
 dsimp at v hr de br
 simp[EX]at O;have bA:=bu.hr;have Q:∀t a,(t=z\/t=l\/t∈V)->fD t=G a->a<h.size:=v.lt;have⟨o,A⟩:∃o:H,o=((TI.hr h).cons (eg 4 0 [.agg [M b.pC,z,l,M b.eZ]])).cons (eg 4 0 [.agg [M 0,ed,ed,M 0]]):=⟨_,rfl⟩;have dn:jk 0 o:=by subst A;exact(bA.cons _).cons _
 have b7:o.size=h.size+1+1:=by subst A;rfl
 have bs:Nb (TI.hr h) o:=by subst A;exact((Nb.refl bA).cons _).cons _
 have cp:o.get h.size=G (eg 4 0 [.agg [M b.pC,z,l,M b.eZ]]):=by subst A;simp
 have cL:o.get (h.size+1)=G (eg 4 0 [.agg [M 0,ed,ed,M 0]]):=by subst A;simp
 have eb:rx o 1 z (iE b.jT):=v.ra.mono λa c=>(bs.get a (Q z a (.inl rfl) c)).trans (iZ h a);have⟨ca,m,L,⟨eK,eu,gA⟩,ae,r,s⟩:=kR (cx:=cx) dn tv rfl CS tv rfl rfl Y eb.kd d1 dY;simp[A]at L;have eF:h.low<=h.size:=bu.low;have S:∀l,l<o.size->il (o.cons (eg 1 0 [])) m l=true:=λl c6=>iw ((r l c6).trans d2);have b6:il (o.cons (eg 1 0 [])) m m.size:=kf (oR _ dY);rw[b7]at S;replace S:=S h.size J;rw[A]at S b6;simp[f231,O,L,S,b6];have aA:m.size=h.size+1+1+1:=J;simp[aA];generalize a7:T.arr (h.size+1+1) ca 0 b.jT.length false=n;have gN:Gr m n 1 (iE b.jT):=by rw[<-a7];have:=Gr.new gA;rw[b7]at this;simpa using this
 have aE:∀a,fD n=G a->a=h.size+1+1:=λa c=>by rw[<-a7]at c;simp at c;exact c.symm
 have eH:jk 0 m:=s;refine io b.lU.length J (λI C g=>CpS b z l n h g I/\jg C 1 h.size/\jg C 2 (h.size+1)/\jg C 3 (h.size+1+1+1)/\iS C 4 I) ?_ ?_ J ?_;rintro I C g bn c4 ⟨⟨⟨ver,a,D,e,bi,U⟩,q,l1,l2,P⟩,m⟩;have E:=e.get;simp at E;have ec:∀x,rx (g.cons x) 1 l V:=λx=>v.rb.mono λa c=>by have:=Q l a (.inr (.inl rfl)) c;rw[fH,aq (iV q.ok.sz)];exact q.get a this
 have an:=v.el.length;have ao:=(show rx g 1 l V from v.rb.mono λa c=>q.get a (Q l a (.inr (.inl rfl)) c)).len (cx:=cx) g Fx _ rfl;have⟨u,hl⟩:∃u,b.lU[I]? =G u:=⟨_,aF bn⟩;have c7:=aB hl;have⟨t,a8,bT⟩:=v.el.get hl;have ee:rx g 1 t (iE u):=bT.mono λa c=>q.get a (Q t a (.inr (.inr (aB a8))) c);have⟨p,b8,b9⟩:=(ec (eg 1 0 [])).idx (te:=uu) rfl rfl a8 bT.je.2;have ds:jk 0 g:=e.ok;have⟨aX,N,L,⟨eL,ey,gA⟩,ae,r,s⟩:=kR (cx:=cx) ds kS rfl nL kS rfl rfl Y ee.kd d1 (uC (br u c7));have eo:Step (h.size+1+1+1) g N:=(Nb.mk ⟨s.hp,s.low,J⟩ r:Nb g N).step e.lt;have bW:=e.step s λa c=>r a (e.fp a c);have⟨et,eD,aN,ax⟩:=(bW.gr 2 rfl).yv (cx:=cx) s P0 rfl kS rfl Y (x:= .arr g.size aX 0 (iE u).length false) rfl dY;have⟨bN,eI,ea⟩:=bW.app 2 rfl ax;have⟨R,bX⟩:=ea _ rfl;simp at bN R bX;simp[ae]at L aN;have ej:∀a,a<g.size->il (g.cons (eg 1 0 [])) N a=true:=λa c=>iw ((r a c).trans d2);have dk:(h.size=g.size)=False:=uC l1.lt;have eG:(h.size+1+1+1=g.size)=False:=uC e.lt;have eh:=ej _ e.lt;have eA:=(r _ e.lt).trans E;simp[m,l1.get,E,ao,an,bn,b8,b9,L,ae,aN,bN,dk,eh,fN,ax.1.je,ax.1.cells,c4];have y:=eo.trans R;have eE:=y.ok.sz;have eC:N.size=g.size+1:=ae;refine⟨⟨_,et,D++[.arr g.size aX 0 u.length false],bX,by simp[bi],?_⟩,?_,l1.step y,l2.step y,λa c=>?_⟩;have dd:b.lU.take (I+1)=b.lU.take I++[u]:=by
  rw[dx,hl];rfl
 rw[dd];refine jw.append (U.imp λt u k=>⟨k.1.mono λd i=>?_,λd i=>?_⟩) (.cons ⟨.inr ?_,λd i=>?_⟩ .nil);have⟨ap,W,K⟩:=k.2 d i;exact y.get d W K;have⟨ap,W,K⟩:=k.2 d i;exact⟨ap,J,λf=>(y.fp d f).elim K λf=>by omega⟩;have B:¬Fp N (h.size+1+1+1) g.size:=λf=>by
  rw[jY (r _ e.lt)]at f;have:=e.fp _ f;omega
 have:=Gr.new ((R.get g.size J B).trans gA);simpa using this;simp at i;subst i;refine⟨iV l2.lt,iV R.ok.sz,λf=>?_⟩;rcases R.fp _ f with f|f
 rw[jY (r _ e.lt)]at f;have:=e.fp _ f;omega;omega;refine⟨⟨y.ok.hp,y.ok.low,iV q.ok.sz⟩,λa c=>?_⟩;exact(y.get a (iV q.ok.sz) λf=>iV (P a f)).trans (q.get a c);rcases y.fp a c with f|f;exact P a f;have:=l2.lt;omega;rintro C g ⟨⟨⟨ver,a,D,e,bi,U⟩,q,l1,l2,P⟩,m⟩;have E:=e.get;simp at E;have an:=v.el.length;have ao:=(show rx g 1 l V from v.rb.mono λa c=>q.get a (Q l a (.inr (.inl rfl)) c)).len (cx:=cx) g Fx _ rfl;rw[aI]at U;have c1:∀Z,(fQ g (h.size+1) Z).get (h.size+1)=G Z:=λZ=>(fj l2.get Z _).trans (au rfl);have X:=e.uB l2 (eg 4 1 [.agg [M b.pC,n,a,M b.eZ]]);simp[m,l1.get,l2.get,E,ao,an,fN,c1];have bZ:=X.step (X.ok.out h) λa _=>iJ h _ a;have c9:∀d,h.size+1<d->(fQ g (h.size+1) (eg 4 1 [.agg [M b.pC,n,a,M b.eZ]])).get d=g.get d:=λd i=>by rw[fj l2.get,aq J]
 have eB:=e.gr 2 rfl;have ar:(n,some (1,iE b.jT))∈ [((M b.pC:T),(none:aa (Nat×List T))),(n,some (1,iE b.jT)),(a,some (1,D)),(M b.eZ,none)]:=Y;have av:(a,some (1,D))∈ [((M b.pC:T),(none:aa (Nat×List T))),(n,some (1,iE b.jT)),(a,some (1,D)),(M b.eZ,none)]:=Y;refine⟨n,a,D,rfl,⟨bZ.gr 1 rfl,bZ.gr 2 rfl,U.imp λt u k=>⟨k.1.mono λd i=>?_,λd i=>?_⟩,λd i=>?_,λd i=>?_⟩,⟨⟨(X.ok.out h).hp,(X.ok.out h).low,by simp;exact q.ok.sz⟩,λd i=>?_⟩⟩;rw[iJ];exact c9 d (k.2 d i).1;have⟨ap,W,K⟩:=k.2 d i;exact⟨J,iC W,λk=>K (e.MT ar k),λk=>K (e.MT av k)⟩;have:=e.fp d (e.MT ar i);have:=P d (e.MT ar i);exact⟨J,by simpa,e.dis 1 2 d6 _ _ rfl rfl d i⟩;have:=e.fp d (e.MT av i);have:=P d (e.MT av i);exact⟨J,by simpa⟩;rw[iJ,fj l2.get,aq J];exact q.get d i;have di:m.low<=h.size+1+1+1:=iV s.low;have dm:Nb h m:=⟨⟨s.hp,s.low,J⟩,λa c=>(r a J).trans ((bs.get a c).trans (iZ h a))⟩;obtain⟨ef,cb⟩:=rD.one (i0:=1) (h:=m.cons (eg 4 1 [.agg [M b.pC,n,ed,M b.eZ]])) (w:=h.size+1+1+1) (szw:=4) (ver:=1) (F:=[(M b.pC,none),(n,some (1,iE b.jT)),(ed,some (1,[])),(M b.eZ,none)]) (s.cons _) (by simp[aA]) (λf B=>by
  simp[cg,cF,cG]at B;rcases B with rfl|rfl|rfl|rfl
  show fD _=none;simp;exact⟨gN.mono λa c=>by rw[aE a c,fH,aq J],show(1:Nat)≠4 by decide⟩;exact⟨Gr.nil _ _,d6⟩;show fD _=none;simp) (λj z O k=>by
  rcases j with _|_|_|_|j<;>simp at O<;>subst O<;>simp at k|-)
 have al:∀a,Fp (m.cons (eg 4 1 [.agg [M b.pC,n,ed,M b.eZ]])) (h.size+1+1+1) a->h.size+1<a:=λa c=>by
  rcases cb a c with k|⟨f,B,k⟩;omega;simp at B;subst B;have:=aE a k;omega
 simp[aA,di];refine⟨⟨_,_,[],ef,rfl,.nil⟩,dm.cons _,⟨?_,λk=>?_⟩,⟨?_,λk=>?_⟩,al⟩;rw[fH,aq J];exact(r h.size J).trans cp;have:=al _ k;omega;rw[fH,aq J];exact(r (h.size+1) J).trans cL;have:=al _ k;omega
def YF(b c:H)(d:T)(e:List Int):Prop:=rx c 1 d (iE e)/\Nb b c/\∀a,fD d=G a->b.size<=a
structure IUn where
 (x y:List Int) (u v:T)
def S9(a:IUn)(c:List T)(b:H):Prop:=c=[a.u,a.v]/\rx b 1 a.u (iE a.x)/\rx b 1 a.v (iE a.y)/\a.x.length+a.y.length<=10000000/\jk 0 b
def No(a:IUn)(e:List T)(b:H)(d:T)(c:H):Prop:=YF b c d (Dd a.x a.y)
def Pl(b:T)(a:List Int):Prop:=(b= ed/\a=[])\/b=sl (iE a)
def Pl.qZ{a:T}{b:List Int}(d:Pl a b)(c:H):qZ c a=G (sl (iE b))/\lr a/\a.je=true:=by rcases d with⟨rfl,rfl⟩|rfl<;>simp
def Pl.rd{a:T}{b:List Int}(d:Pl a b)(c:H):rx c 1 a (iE b)/\fD a=none:=by rcases d with⟨rfl,rfl⟩|rfl;exact⟨.inr (Gr.nil _ _),rfl⟩;exact⟨.inl rfl,Y⟩
def Le:(kW IUn S9 No).Ok prog cx 121:=by
 refine jP [(174,Nj)] [] (jz 8390899 [] func121) 10000005 ?_;rintro⟨x,f,w,o⟩ _ c ⟨rfl,s,u,hl,O⟩ b q
 dsimp at s u hl
 simp at q;have t:rx (hr c) 1 w (iE x):=s.mono λh _=>iZ c h;have v:rx (hr c) 1 o (iE f):=u.mono λh _=>iZ c h;have L:=t.len (cx:=cx) (hr c) uu _ rfl;have N:=v.len (cx:=cx) (hr c) uu _ rfl;rw[aL]at L N;simp[f121];refine io x.length J (λa b j=>j=hr c/\ka b 0 w/\ka b 1 o/\iS b 6 a/\∃e,ka b 5 e/\Pl e (oh [] (x.take a))) ?_ ?_ J (by simp[q];exact .inl ⟨rfl,rfl⟩);rintro a b _ g I ⟨rfl,E,k,F,e,l,d⟩;have⟨P,y,z⟩:=t.idx (te:=EW) rfl rfl (i:=a) (x:= M x[a]) (by simp[g]) rfl;have m:=Bj [] (x.take a);simp at m;have⟨B,C,D⟩:=d.qZ (hr c);have A:=λ{n:iq} (ht:n.p 174=G Nj)=>agn ht (oh [] (x.take a)) x[a] J;simp[*,Em [] x g];exact .inr rfl;rintro b _ ⟨rfl,E,k,F,e,l,d⟩;rw[aI]at d;simp[*];refine io f.length J (λa b j=>j=hr c/\ka b 1 o/\iS b 7 a/\∃e,ka b 5 e/\Pl e (oh (oh [] x) (f.take a))) ?_ ?_ J (by simp[*];exact d);rintro a b _ g I ⟨rfl,k,H,e,l,d⟩;have⟨P,y,z⟩:=v.idx (te:=EW) rfl rfl (i:=a) (x:= M f[a]) (by simp[g]) rfl;have m:=Bj (oh [] x) (f.take a);have K:=Bj [] x;simp at m K;have⟨B,C,D⟩:=d.qZ (hr c);have A:=λ{n:iq} (ht:n.p 174=G Nj)=>agn ht (oh (oh [] x) (f.take a)) f[a] J;simp[*,Em (oh [] x) f g];exact .inr rfl;rintro b _ ⟨rfl,k,H,e,l,d⟩;rw[aI]at d;simp[*];have⟨r1,r2⟩:=d.rd (mV c (hr c));exact⟨r1,(Nb.refl O.hr).out,λh r=>by rw[r2]at r;simp at r⟩
def Lk(f:H)(d:Nat->Prop)(e:T)(c:fF):Prop:=∃a,e= .agg [M c.jF,a]/\rx f 1 a (iE c.gh)/\∀b,fD a=G b->d b
structure ES(lo hi:Nat)(h:H)(c0 c2 c3:T)(es:List T)(S:iu):Prop where
 g0:Gr h c0 2 es
 g2:Gr h c2 1 (S.done.map T.bool)
 g3:Gr h c3 3 (S.eY.map fc.t)
 el:jw (Lk h λc=>lo<=c/\c<hi/\fD c0≠some c/\fD c2≠some c/\fD c3≠some c) es S.fT
 b:∀c,(fD c0=G c\/fD c2=G c\/fD c3=G c)->lo<=c/\c<hi
def QJ(a:iu)(b c d:T):T:= .agg [b,M a.tx,c,d]
def It(a:iu)(b:List T)(c:H):Prop:=b=[a.t]/\jk 0 c/\a.fT.length<=1000000/\a.done.length<=1000000/\a.eY.length<=1000000/\∀d∈a.fT,d.gh.length<=1000000
def Ns(b:iu)(i:List T)(f:H)(h:T)(a:H):Prop:=∃c d e g,h=QJ b c d e/\ES f.size a.size a c d e g b/\Nb f a
structure C8(S:iu)(c2 c3:T)(h h':H)(i:Nat):Prop where
 ex:∃ver c0 es,rD h' (h.size+1+1+1+1) 4 ver [(c0,some (2,es)),(M S.tx,none),(c2,some (1,S.done.map T.bool)),(c3,some (3,S.eY.map fc.t))]/\es.length=i/\
  jw (Lk h' λk=>h.size+1<k/\k<h'.size/\¬Fp h' (h.size+1+1+1+1) k) es (S.fT.take i)
 nb:Nb h h'
 l1:Lb (h.size+1+1+1+1) h' h.size (eg 4 0 [S.t])
 l2:Lb (h.size+1+1+1+1) h' (h.size+1) (eg 4 0 [.agg [ed,M 0,ed,ed]])
 lo:∀c,Fp h' (h.size+1+1+1+1) c->h.size+1<c
def Gm:(kW iu It Ns).Ok prog cx 67:=by
 refine jP [] [] (jz 1048607 [(1,[(1,5),(5,6),(5,8),(1,9),(5,11),(9,11)]),(5,[(1,15),(3,15),(5,15),(7,15)])] func67) 1000005 ?_;rintro c _ b ⟨rfl,eh,hl,eN,ht,hr⟩ F K;simp at K;have a8:=eh.hr;have⟨o,B⟩:∃o:H,o=((TI.hr b).cons (eg 4 0 [c.t])).cons (eg 4 0 [.agg [ed,M 0,ed,ed]]):=⟨_,rfl⟩;have ej:jk 0 o:=by subst B;exact(a8.cons _).cons _
 have eE:o.size=b.size+1+1:=by subst B;rfl
 have ef:Nb b o:=by subst B;exact⟨(((Nb.refl a8).cons _).cons _).ok,λa h=>((((Nb.refl a8).cons _).cons _).get a h).trans (iZ b a)⟩
 have bX:o.get b.size=G (eg 4 0 [c.t]):=by subst B;simp
 have dn:o.get (b.size+1)=G (eg 4 0 [.agg [ed,M 0,ed,ed]]):=by subst B;simp
 have⟨aA,s,Z,⟨e5,eF,gA⟩,bN,m,O⟩:=kR (cx:=cx) ej (x:=sl (c.done.map T.bool)) (xs:=c.done.map T.bool) Hg rfl I3 Hg rfl rfl Y Y (λe ea=>by obtain⟨n,_,rfl⟩:=List.mem_map.1 ea;rfl) dY;have⟨I,u,ae,⟨eB,dm,bZ⟩,e6,N,okB⟩:=kR (cx:=cx) O (x:=sl (c.eY.map fc.t)) (xs:=c.eY.map fc.t) J7 rfl J8 J7 rfl rfl Y Y Y dY;have de:s.size=b.size+1+1+1:=J;have bA:u.size=b.size+1+1+1+1:=J;have V:∀n,n<o.size->il (o.cons (eg 1 0 [])) s n=true:=λn S=>iw ((m n S).trans d2);have c7:∀n,n<s.size->il (s.cons (eg 3 0 [])) u n=true:=λn S=>iw ((N n S).trans d2);have c1:=V b.size J;have eo:=c7 b.size J;have c6:il (o.cons (eg 1 0 [])) s (b.size+1+1+1+1):=kf (oR _ dY);have et:il (s.cons (eg 3 0 [])) u (b.size+1+1+1+1):=kf (oR _ dY);have c4:il (o.cons (eg 1 0 [])) s (b.size+1+1+1):=kf (oR _ dY);have b6:=(m b.size J).trans bX;have ds:=(N b.size J).trans b6;simp[B]at Z;simp[de]at ae;rw[B]at c1 c4 c6;simp[*,f67];have di:=(show Gr u (.arr (b.size+1+1) aA 0 c.done.length false) 1 (c.done.map T.bool)by
  have:=Gr.new ((N o.size J).trans gA);rw[eE]at this;simpa using this)
 have dk:=(show Gr u (.arr (b.size+1+1+1) I 0 c.eY.length false) 3 (c.eY.map fc.t)by
  have:=Gr.new bZ;rw[de]at this;simpa using this)
 have ee:Nb b u:=⟨⟨okB.hp,okB.low,J⟩,λa h=>(N a J).trans ((m a J).trans (ef.get a h))⟩;have eC:=(N b.size J).trans ((m b.size J).trans bX);have eD:=(N (b.size+1) J).trans ((m (b.size+1) J).trans dn);have eU:u.low<=b.size+1+1+1+1:=iV okB.low;have bT:∀a,fD (.arr (b.size+1+1) aA 0 c.done.length false)=G a->a=b.size+1+1:=λa q=>iC q.symm;have bW:∀a,fD (.arr (b.size+1+1+1) I 0 c.eY.length false)=G a->a=b.size+1+1+1:=λa q=>iC q.symm;clear Z ae V c7 c1 c4 c6 eo et b6 ds gA bZ;generalize T.arr (b.size+1+1) aA 0 c.done.length false=p at*
 generalize T.arr (b.size+1+1+1) I 0 c.eY.length false=r at*
 refine io c.fT.length J (λD F i=>C8 c p r b i D/\jg F 1 b.size/\jg F 2 (b.size+1)/\jg F 3 (b.size+1+1+1+1)/\iS F 4 D) ?_ ?_ J ?_;rintro D F i b8 eM ⟨⟨⟨eA,z,A,d,b7,X⟩,L,l1,l2,ap⟩,s⟩;have al:=d.get;simp at al;have⟨l,an⟩:∃l,c.fT[D]? =G l:=⟨_,aF b8⟩;have eR:=hr l (aB an);have⟨I,R,Z,⟨eB,dm,gA⟩,bN,m,O⟩:=kR (cx:=cx) d.ok (x:=sl (iE l.gh)) (xs:=iE l.gh) kS rfl nL kS rfl rfl Y Y d1 dY;have eu:Step (b.size+1+1+1+1) i R:=(Nb.mk ⟨O.hp,O.low,J⟩ m:Nb i R).step d.lt;have c9:=d.step O λa h=>m a (d.fp a h);have⟨ey,eL,ae,bu⟩:=(c9.gr 0 rfl).yv (cx:=cx) O On rfl J9 rfl Y (x:= .agg [M l.jF,.arr i.size I 0 (iE l.gh).length false]) rfl dY;have⟨bi,eX,bn⟩:=c9.app 0 rfl bu;have⟨W,dd⟩:=bn _ rfl;simp at bi W dd;simp[bN]at Z ae;have V:∀a,a<i.size->il (i.cons (eg 1 0 [])) R a=true:=λa h=>iw ((m a h).trans d2);have eV:(b.size=i.size)=False:=uC l1.lt;have eW:(b.size+1+1+1+1=i.size)=False:=uC d.lt;have e0:=V _ d.lt;have e4:=V _ l1.lt;have eI:=(m _ d.lt).trans al;have eG:=(m _ l1.lt).trans l1.get;simp[*,l1.get];have eP:c.fT[D]=l:=by rw[aF b8]at an;simpa using an
 simp[*,fN,bu.1.je,bu.1.cells];have w:=eu.trans W;have eS:=w.ok.sz;have eK:R.size=i.size+1:=bN;refine⟨⟨_,ey,A++[.agg [M l.jF,.arr i.size I 0 l.gh.length false]],dd,by simp[b7],?_⟩,?_,l1.step w,l2.step w,λa h=>?_⟩;have ec:c.fT.take (D+1)=c.fT.take D++[l]:=by
  rw[dx,an];rfl
 rw[ec];refine jw.append (X.imp λe l ⟨br,av,ax,Q⟩=>⟨br,av,ax.mono λg k=>?_,λg k=>?_⟩) (.cons ⟨_,rfl,.inr ?_,λg k=>?_⟩ .nil);have⟨aX,ao,E⟩:=Q g k;exact w.get g ao E;have⟨aX,ao,E⟩:=Q g k;exact⟨aX,J,λf=>(w.fp g f).elim E λf=>by omega⟩;have C:¬Fp R (b.size+1+1+1+1) i.size:=λf=>by
  rw[jY (m _ d.lt)]at f;have:=d.fp _ f;omega
 have:=Gr.new ((W.get i.size J C).trans gA);simpa using this;simp at k;subst k;refine⟨iV l2.lt,iV W.ok.sz,λf=>?_⟩;rcases W.fp _ f with f|f
 rw[jY (m _ d.lt)]at f;have:=d.fp _ f;omega;omega;refine⟨⟨w.ok.hp,w.ok.low,iV L.ok.sz⟩,λa h=>?_⟩;exact(w.get a (iV L.ok.sz) λf=>iV (ap a f)).trans (L.get a h);rcases w.fp a h with f|f;exact ap a f;have:=l2.lt;omega;rintro F i ⟨⟨⟨eA,z,A,d,b7,X⟩,L,l1,l2,ap⟩,s⟩;have al:=d.get;simp at al;rw[aI]at X;have eH:∀y,(fQ i (b.size+1) y).get (b.size+1)=G y:=λy=>(fj l2.get y _).trans (au rfl);have ar:=d.uB l2 (eg 4 1 [.agg [z,M c.tx,p,r]]);simp[*,l1.get,l2.get,fN];have bs:=ar.step (ar.ok.out b) λa _=>iJ b _ a;have ca:(z,some (2,A))∈ [(z,some (2,A)),((M c.tx:T),(none:aa (Nat×List T))),(p,some (1,c.done.map T.bool)),(r,some (3,c.eY.map fc.t))]:=Y;have cb:(p,some (1,c.done.map T.bool))∈ [(z,some (2,A)),((M c.tx:T),(none:aa (Nat×List T))),(p,some (1,c.done.map T.bool)),(r,some (3,c.eY.map fc.t))]:=Y;have cp:(r,some (3,c.eY.map fc.t))∈ [(z,some (2,A)),((M c.tx:T),(none:aa (Nat×List T))),(p,some (1,c.done.map T.bool)),(r,some (3,c.eY.map fc.t))]:=Y;refine⟨z,p,r,A,rfl,⟨bs.gr 0 rfl,bs.gr 2 rfl,bs.gr 3 rfl,X.imp λe l ⟨br,av,ax,Q⟩=>⟨br,av,ax.mono λg k=>?_,λg k=>?_⟩,λg k=>?_⟩,⟨⟨(ar.ok.out b).hp,(ar.ok.out b).low,by simp;exact L.ok.sz⟩,λg k=>?_⟩⟩;rw[iJ,fj l2.get,aq (iV (Q g k).1)];have⟨aX,ao,E⟩:=Q g k;exact⟨J,iC ao,λq=>E (d.MT ca q),λq=>E (d.MT cb q),λq=>E (d.MT cp q)⟩;have C:Fp i (b.size+1+1+1+1) g:=by
  rcases k with q|q|q;exact d.MT ca q;exact d.MT cb q;exact d.MT cp q
 have:=d.fp g C;have:=ap g C;exact⟨J,by simpa⟩;rw[iJ,fj l2.get,aq J];exact L.get g k;have a7:∀(j:Nat) (P:T×aa (Nat×List T)) a,[(T.fg [] false,some (2,[])),((M c.tx:T),(none:aa (Nat×List T))),(p,some (1,c.done.map T.bool)),(r,some (3,c.eY.map fc.t))][j]? =G P->fD P.1=G a->a=b.size+j:=λj P a K q=>by
  rcases j with _|_|_|_|j<;>simp at K<;>subst K;simp at q;simp at q;have:=bT a q;omega;have:=bW a q;omega
 have cL:rD (u.cons (eg 4 1 [.agg [ed,M c.tx,p,r]])) (b.size+1+1+1+1) 4 1 [(T.fg [] false,some (2,[])),(M c.tx,none),(p,some (1,c.done.map T.bool)),(r,some (3,c.eY.map fc.t))]:=by
  refine⟨okB.cons _,by simp[bA],λf C=>?_,λj g eO P n K S a bi bn=>?_⟩;simp only[cg,cF,cG]at C;rcases C with rfl|rfl|rfl|rfl
  exact⟨Gr.nil _ _,show(2:Nat)≠4 by decide⟩;show fD _=none;simp;exact⟨di.mono λa h=>by have:=bT a h;rw[fH,aq (by rw[bA];omega)],show(1:Nat)≠4 by decide⟩;exact⟨dk.mono λa h=>by have:=bW a h;rw[fH,aq (by rw[bA];omega)],show(3:Nat)≠4 by decide⟩;have:=a7 j P a K bi;have:=a7 g n a S bn;omega
 have aE:∀a,Fp (u.cons (eg 4 1 [.agg [ed,M c.tx,p,r]])) (b.size+1+1+1+1) a->b.size+1<a:=λa h=>by
  rcases h with q|⟨x,aN,v,b9,q⟩;omega;rw[cL.get]at aN;cases aN;simp only[iy,bh,df,cq,T.cells]at b9;obtain⟨f,eb,rfl⟩:=List.mem_map.1 b9;have⟨j,U⟩:=cY eb;have k:=a7 j f a U q;rcases j with _|_|j
  simp at U;subst U;simp at q;simp at U;subst U;simp at q;omega
 simp[*];refine⟨⟨_,_,[],cL,rfl,.nil⟩,ee.cons _,⟨?_,λq=>?_⟩,⟨?_,λq=>?_⟩,aE⟩;rw[fH,aq J];exact eC;have:=aE _ q;omega;rw[fH,aq J];exact eD;have:=aE _ q;omega
structure Ac(h0 h':H)(v:T)(l:List Int):Prop where
 nb:Nb h0 h'
 g:Gr h' v 1 (iE l)
 lo:∀c,fD v=G c->h0.size<=c
def Ac.start{a:H}(b:jk 0 a):Ac a a ed []:=⟨Nb.refl b,Gr.nil _ _,Y⟩
def Ac.oy{m h:H}{n:T}{j:List Int}(a:Ac m h n j)(l:Int)(s:j.length<=10000000):∃d c,jE cx (h.cons (eg 1 0 [M l])) 37 37 n (.arr h.size 0 0 1 false)=be d c/\Ac m c d (j++[l]):=by have⟨d,c,e,o,p,r,k⟩:=a.g.oy (cx:=cx) (f:=T.int .i64) ⟨a.nb.ok.hp,a.nb.ok.low,az _⟩ kS rfl nL rfl Y (λ_=>rfl) l dY;have:=a.nb.ok.sz;refine⟨d,c,e,⟨⟨k.hp,k.low,aV a.nb.ok.sz k.sz⟩,λb i=>(p b J λq=>iV (a.lo b q)).trans (a.nb.get b i)⟩,o,λb i=>?_⟩;rcases r b i with q|q;exact a.lo b q;omega
def Ac.LC{a c:H}{l:T}{i:List Int}{h:H}(e:Ac h c l i)(j:Nb a h):YF a (mV a c) l i:=by have d:=j.trans e.nb;have k:jk 0 c:=⟨d.ok.hp,d.ok.low,az _⟩;have:=j.ok.sz;exact⟨.inr (e.g.out a),⟨⟨(k.out a).hp,(k.out a).low,d.ok.sz⟩,λb f=>(iJ a c b).trans (d.get b f)⟩,λb f=>iV (e.lo b f)⟩
structure IWt where
 (S:iu) (c0 c2 c3:T) (c:Int)
def Zn(a:IWt)(d:List T)(b:H):Prop:=d=[QJ a.S a.c0 a.c2 a.c3,M a.c]/\Gr b a.c3 3 (a.S.eY.map fc.t)/\a.S.eY.length<=1000000/\jk 0 b
def Tg(a:IWt)(f:List T)(b:H)(e:T)(d:H):Prop:=YF b d e (jb a.c a.S.eY 0)
def MZ(c:Int)(b:List fc)(a:Nat)(d:a<b.length):jb c (b.drop a) a=if b[a].jq=3/\b[a].cond=c then(a:Int)::jb c (b.drop (a+1)) (a+1)else jb c (b.drop (a+1)) (a+1):=by rw[aJ d,jb]
def Gh:(kW IWt Zn Tg).Ok prog cx 71:=by
 refine jP [] [] (jz 1073743991 [] func71) 1000005 ?_;rintro⟨b,j,k,c,h⟩ _ a ⟨rfl,n,hl,s⟩ l w
 dsimp at n hl
 simp[QJ]at w;obtain⟨U,o⟩:=w;have K:=s.hr.cons (eg 4 0 [.agg [j,M b.tx,k,c]]);have A:Gr ((hr a).cons (eg 4 0 [.agg [j,M b.tx,k,c]])) c 3 (b.eY.map fc.t):=n.mono λd p=>by
  have⟨_,_,_,_,u,_⟩:=n.box p;rw[fH,aq (uC (H.fV u)),iZ]
 have l3:∀d,fD c=G d->d<a.size:=λd p=>by have⟨_,_,_,_,u,_⟩:=n.box p;exact H.fV u
 have F:=λo:H=>n.len (cx:=cx) o QH _ rfl;rw[aL]at F;simp[*,f71];have v:((hr a).cons (eg 4 0 [.agg [j,M b.tx,k,c]])).get a.size=G (eg 4 0 [.agg [j,M b.tx,k,c]]):=Y;have I:Nb a ((hr a).cons (eg 4 0 [.agg [j,M b.tx,k,c]])):=⟨((Nb.refl s.hr).cons _).ok,λh E=>(((Nb.refl s.hr).cons _).get h E).trans (iZ a h)⟩;have al:((hr a).cons (eg 4 0 [.agg [j,M b.tx,k,c]])).size=a.size+1:=rfl;generalize W:(hr a).cons (eg 4 0 [.agg [j,M b.tx,k,c]])=C at*
 refine io b.eY.length J (λf l h'=>∃q m,Ac C h' q m/\m.length<=f/\m++jb h (b.eY.drop f) f=jb h b.eY 0/\iS l 1 h/\jg l 2 a.size/\ka l 5 q/\iS l 6 f) ?_ ?_ J ⟨_,_,Ac.start K,az _,rfl,by simp[o]⟩;rintro f l h' x V ⟨q,m,g,D,e,o⟩;have B:=(g.nb.get a.size J).trans v;have⟨d,R,Z,S,ae,N,O,P,z⟩:=(A.mono (h':=h') λd p=>g.nb.get d (iV (l3 d p))).CD (te:=Fw) rfl (i:=f) (iC x);simp at z;rw[MZ h _ _ x]at e;simp[*];generalize b.eY[f]=X at*
 refine fO (λr=>?_) (λr=>?_);rw[au (iC r)]at e;have⟨L,T,Q,y⟩:=g.oy (f:Int) J;simp[*];exact⟨L,_,y,dY,iC e,rfl⟩;rw[aq (iC r)]at e;simp[*];exact⟨q,m,g,J,e,rfl⟩;rintro l h' ⟨q,m,g,D,e,o⟩;have B:=(g.nb.get a.size J).trans v;simp[jb]at e;subst e;simp[*];exact g.LC I
structure IWo where
 (l:List Int) (v:T) (n:Int)
def Zo(a:IWo)(d:List T)(b:H):Prop:=d=[a.v,M a.n]/\rx b 1 a.v (iE a.l)/\(∀c,fD a.v=G c->c<b.size)/\a.l.length<=1000000/\jk 0 b
def Ti(a:IWo)(f:List T)(b:H)(d:T)(c:H):Prop:=YF b c d (a.l.filter λe=> !decide (e=a.n))
def Nv:(kW IWo Zo Ti).Ok prog cx 122:=by
 refine jP [] [] (jz 263283 [] func122) 1000005 ?_;rintro⟨h,A,l⟩ _ g ⟨rfl,n,s,hl,m⟩ c q
 dsimp at n s hl
 simp at q;obtain⟨o,p⟩:=q;have y:Nb g (hr g):=⟨⟨m.hr.hp,m.hr.low,ay _⟩,λf _=>iZ g f⟩;have w:=λp:H=>n.len (cx:=cx) p uu _ rfl;rw[aL]at w;simp[*,f122];refine io h.length J (λb c h'=>∃j d,Ac (hr g) h' j d/\d.length<=b/\d++(h.drop b).filter (λx=> !decide (x=l))=h.filter (λx=> !decide (x=l))/\ka c 0 A/\iS c 1 l/\ka c 5 j/\iS c 6 b) ?_ ?_ J ⟨_,_,Ac.start m.hr,az _,rfl,by simp[*]⟩;rintro b c h' r F ⟨j,d,e,u,a,o⟩;have⟨I,B,C⟩:=(n.mono (h':=h') λf v=>(e.nb.get f (iC (s f v))).trans (iZ g f)).idx (te:=EW) rfl rfl (i:=b) (x:= M h[b]) (by simp[r]) rfl;rw[aJ r,List.filter_cons]at a;simp[*];generalize h[b]=x at*
 refine fO (λk=>?_) (λk=>?_);rw[au (iC k)]at a;have⟨z,E,D,t⟩:=e.oy x J;simp[*];exact⟨z,_,t,dY,iC a,rfl⟩;rw[aq (iC k)]at a;simp[*];exact⟨j,d,e,J,a,rfl⟩;rintro c h' ⟨j,d,e,u,a,o⟩;simp at a;subst a;simp[*];exact e.LC y
end
section
def qP{d:Type}{c:List d}{b:Nat}{a:d}(h:c[b]? =G a)(f:d->d):c.modify b f=c.set b (f a):=by
 apply dB;intro g;rw[List.getElem?_modify,cE];by_cases e:b=g;subst e;have hi:b<c.length:=by
  rcases aR b c.length with k|k;exact k;rw[cj k]at h;simp at h
 rw[h];simp[hi];rw[aq e];simp[e]
section
variable {lo hi hi':Nat}{h h':H}{c0 c2 c3:T}{es:List T}{S:iu}
def ES.mono(d:ES lo hi h c0 c2 c3 es S)(l:hi<=hi')(f:∀a,lo<=a->a<hi->h'.get a=h.get a):ES lo hi' h' c0 c2 c3 es S:=
 ⟨d.g0.mono λa c=>f a (d.b a (.inl c)).1 (d.b a (.inl c)).2,d.g2.mono λa c=>f a (d.b a (.inr (.inl c))).1 (d.b a (.inr (.inl c))).2,d.g3.mono λa c=>f a (d.b a (.inr (.inr c))).1 (d.b a (.inr (.inr c))).2,
   d.el.imp λk m ⟨j,g,i,e⟩=>⟨j,g,i.mono λa c=>f a (e a c).1 (e a c).2.1,λa c=>⟨(e a c).1,iV (e a c).2.1,(e a c).2.2⟩⟩,λa c=>⟨(d.b a c).1,iV (d.b a c).2⟩⟩
def ES.tx(a:ES lo hi h c0 c2 c3 es S)(c:Int):ES lo hi h c0 c2 c3 es {S with tx:=c}:=⟨a.g0,a.g2,a.g3,a.el,a.b⟩
def ES.qA(d:ES lo hi h c0 c2 c3 es S){e l n:Nat}{m:Bool}{o:List T}(r:fD c3=G e)(g:h.get e=G ⟨3,l,n,m,false,o⟩)(i:Nat)(k:fc):
 ES lo hi (fQ h e ⟨3,l,n+1,m,false,o.set i k.t⟩) c0 c2 c3 es {S with eY:=S.eY.set i k}:=by
 have p:∀a,a≠e->(fQ h e ⟨3,l,n+1,m,false,o.set i k.t⟩).get a=h.get a:=λa c=>by rw[fj g,aq c]
 refine⟨d.g0.mono λa c=>p a λf=>?_,d.g2.mono λa c=>p a λf=>?_,?_,d.el.imp λf w ⟨v,s,u,q⟩=>⟨v,s,u.mono λa c=>p a λf=>(q a c).2.2.2.2 (f▸r),q⟩,d.b⟩;subst f;have⟨_,_,_,_,j,_⟩:=d.g0.box c;rw[g]at j;simp at j;subst f;have⟨_,_,_,_,j,_⟩:=d.g2.box c;rw[g]at j;simp at j;have:=d.g3.setAt r g i k.t (h':=fQ h e ⟨3,l,n+1,m,false,o.set i k.t⟩) (by rw[fj g,au rfl]);simpa[aY]using this
def ES.don(d:ES lo hi h c0 c2 c3 es S){e l n:Nat}{m:Bool}{o:List T}(r:fD c2=G e)(g:h.get e=G ⟨1,l,n,m,false,o⟩)(i:Nat)(k:Bool):
 ES lo hi (fQ h e ⟨1,l,n+1,m,false,o.set i (.bool k)⟩) c0 c2 c3 es {S with done:=S.done.set i k}:=by
 have p:∀a,a≠e->(fQ h e ⟨1,l,n+1,m,false,o.set i (.bool k)⟩).get a=h.get a:=λa c=>by rw[fj g,aq c]
 refine⟨d.g0.mono λa c=>p a λf=>?_,?_,d.g3.mono λa c=>p a λf=>?_,d.el.imp λf v ⟨u,s,t,q⟩=>⟨u,s,t.mono λa c=>p a λf=>(q a c).2.2.2.1 (f▸r),q⟩,d.b⟩;subst f;have⟨_,_,_,_,j,_⟩:=d.g0.box c;rw[g]at j;simp at j;have:=d.g2.setAt r g i (.bool k) (h':=fQ h e ⟨1,l,n+1,m,false,o.set i (.bool k)⟩) (by rw[fj g,au rfl]);simpa[aY]using this;subst f;have⟨_,_,_,_,j,_⟩:=d.g3.box c;rw[g]at j;simp at j
def ES.sj(e:ES lo hi h c0 c2 c3 es S){g m p:Nat}{n:Bool}{q:List T}(o:fD c0=G g)(i:h.get g=G ⟨2,m,p,n,false,q⟩)(f:Nat){rv:T}{k:fF}(hr:rx h 1 rv (iE k.gh))(s:∀a,fD rv=G a->lo<=a/\a<hi/\fD c0≠some a/\fD c2≠some a/\fD c3≠some a):
 ES lo hi (fQ h g ⟨2,m,p+1,n,false,q.set f (.agg [M k.jF,rv])⟩) c0 c2 c3 (es.set f (.agg [M k.jF,rv])) {S with fT:=S.fT.set f k}:=by
 have l:∀a,a≠g->(fQ h g ⟨2,m,p+1,n,false,q.set f (.agg [M k.jF,rv])⟩).get a=h.get a:=λa c=>by rw[fj i,aq c]
 refine⟨e.g0.setAt o i f _ (by rw[fj i,au rfl]),e.g2.mono λa c=>l a λd=>?_,e.g3.mono λa c=>l a λd=>?_,e.el.set f ⟨rv,rfl,hr.mono λa c=>l a λd=>(s a c).2.2.1 (d▸o),s⟩ λd v ⟨rv,t,u,r⟩=>⟨rv,t,u.mono λa c=>l a λd=>(r a c).2.2.1 (d▸o),r⟩,e.b⟩;subst d;have⟨_,_,_,_,j,_⟩:=e.g2.box c;rw[i]at j;simp at j;subst d;have⟨_,_,_,_,j,_⟩:=e.g3.box c;rw[i]at j;simp at j
end
def ES.fz{lo hi:Nat}{h:H}{c0 c2 c3:T}{es:List T}{S:iu}(a:ES lo hi h c0 c2 c3 es S):TI.fz h c0=G (sl (S.fT.map fF.t))/\TI.fz h c2=G (sl (S.done.map T.bool))/\TI.fz h c3=G (sl (S.eY.map fc.t)):=by
 refine⟨?_,a.g2.fz Y,a.g3.fz Y⟩;exact a.g0.JT (d:=4) J (a.el.XB (f:=fF.t) λg j ⟨l,b,c,i⟩=>by
  subst b;exact .inr (.inr ⟨_,_,rfl,.cons (jh ..) (.cons (c.ft (d:=1) (Vq:=λ_=>True) (λm e=>by obtain⟨k,_,rfl⟩:=List.mem_map.1 e;simp) λ_ _=>trivial) .nil),rfl⟩))
def M1{c:List Int}(h:MP c)(d:Int):Dd c [d]=oF c d:=by
 have e:∀(a b:List Int),oh b a=a.foldl oF b:=by
  intro a;induction a with
  |nil=>intro b;rfl
  |cons g a f=>intro b;show oh (xo b g) a=_;rw[f,FW];rfl
 unfold Dd;rw[e,e];exact QE h d
end
section
attribute [-simp] size_cons
section
def u6{e d:Int}:∀{b:List fc} {c:Nat},d∈jb e b c->∃a:Nat,d=((c+a:Nat):Int)/\a<b.length:=by
 intro b;induction b with
 |nil=>intro c h;simp[jb]at h
 |cons k b j=>
  intro c h;rw[jb]at h;have f:d∈jb e b (c+1)->∃a:Nat,d=((c+a:Nat):Int)/\a<(k::b).length:=λh=>by
   have⟨a,g,i⟩:=j h;exact⟨a+1,by rw[g];simp;omega,iC i⟩
  split at h;rcases List.mem_cons.1 h with rfl|h;exact⟨0,Y,Y⟩;exact f h;exact f h
def yR(c:Int):∀(a:List fc) (b:Nat),(jb c a b).length<=a.length:=by
 intro a;induction a with
 |nil=>intro b;simp[jb]
 |cons e a d=>intro b;rw[jb];have:=d (b+1);split<;>simp<;>omega
def Rx(T:List fc)(b:List Int):List fc:=b.foldl (λT (a:Int)=>T.modify a.toNat (mh 4)) T
def Xx(g:Int):∀(c b:List fc),Rx (b++c) (jb g c b.length)=b++c.map λe=>if e.jq=3/\e.cond=g then mh 4 e else e:=by
 intro c;induction c with
 |nil=>intro b;simp[jb,Rx]
 |cons d c i=>
  intro b;rw[jb];split;rename_i f;unfold Rx;rw[dF];have j:(b++d::c).modify ((b.length:Int).toNat) (mh 4)=(b++[mh 4 d])++c:=by
   rw[qP (a:=d) Y];simp
  rw[j];have:=i (b++[mh 4 d]);simp only[aT,aU,cW]at this;unfold Rx at this;rw[this];simp[f];rename_i f;have:=i (b++[d]);simp only[aT,aU,cW]at this;simp only[aO,dQ]at this;rw[this];simp[f]
def Xw(a:List Int):∀T,(Rx T a).length=T.length:=by
 induction a with
 |nil=>intro T;rfl
 |cons c a b=>intro T;show(Rx (T.modify c.toNat (mh 4)) a).length=_;rw[b];simp
def Ur(T:List fc)(b:List Int){a:Nat}(c:a<b.length):Rx T (b.take (a+1))=(Rx T (b.take a)).modify b[a].toNat (mh 4):=by rw[aM c];unfold Rx;rw[dO];rfl
def E2{c:Type}(b:List c)(a:Nat)(d e:c->c):(b.modify a d).modify a e=b.modify a λi=>e (d i):=by apply dB;intro f;simp only[List.getElem?_modify];by_cases g:a=f;simp[g];cases b[f]? <;>rfl;simp[g]
structure Bs(c0 c2 c3:T)(h:H)(es:List T)(S:iu)(ver:Nat):Prop where
 sy:ES 3 h.size h c0 c2 c3 es S
 ok:jk 0 h
 g1:h.get 1=G (eg 4 ver [.agg [c0,M S.tx,c2,c3]])
 g2:h.get 2=G (eg 4 0 [.agg [ed,M 0,ed,ed]])
section
variable {c0 c2 c3:T}{h h':H}{es:List T}{S:iu}{ver:Nat}
def Bs.nb(b:Bs c0 c2 c3 h es S ver)(a:Nb h h'):Bs c0 c2 c3 h' es S ver:=
 ⟨b.sy.mono a.ok.sz λc _ d=>a.get c d,⟨a.ok.hp,a.ok.low,az _⟩,(a.get _ (H.fV b.g1)).trans b.g1,(a.get _ (H.fV b.g2)).trans b.g2⟩
theorem Bs.put(c:Bs c0 c2 c3 h es S ver){a:Nat}{x:jO}(e:h.get a=G x)(g:3<=a){y:jO}{d:List T}{b:iu}(f:ES 3 h.size (fQ h a y) c0 c2 c3 d b)(ht:b.tx=S.tx):Bs c0 c2 c3 (fQ h a y) d b ver:=
 ⟨by rw[iB];exact f,c.ok.put _ _,by rw[fj e,aq J,ht];exact c.g1,by rw[fj e,aq J];exact c.g2⟩
def Bs.qA(c:Bs c0 c2 c3 h es S ver){a e k:Nat}{f:Bool}{l:List T}(g:fD c3=G a)(j:h.get a=G ⟨3,e,k,f,false,l⟩){i:Nat}{me:fc}(m:S.eY[i]? =G me)(d:fc->fc):
 Bs c0 c2 c3 (fQ h a ⟨3,e,k+1,f,false,l.set i (d me).t⟩) es {S with eY:=S.eY.modify i d} ver:=by
 have:=c.put j (c.sy.b a (.inr (.inr g))).1 (c.sy.qA g j i (d me)) rfl;rw[qP m];exact this
def Bs.sj(g:Bs c0 c2 c3 h es S ver){d i m:Nat}{j:Bool}{n:List T}(k:fD c0=G d)(l:h.get d=G ⟨2,i,m,j,false,n⟩){c:Nat}{f:fF}(hl:S.fT[c]? =G f)(e:fF->fF){rv:T}(hr:rx h 1 rv (iE (e f).gh))(o:∀a,fD rv=G a->3<=a/\a<h.size/\fD c0≠some a/\fD c2≠some a/\fD c3≠some a):
 Bs c0 c2 c3 (fQ h d ⟨2,i,m+1,j,false,n.set c (.agg [M (e f).jF,rv])⟩) (es.set c (.agg [M (e f).jF,rv])) {S with fT:=S.fT.modify c e} ver:=by
 have:=g.put l (g.sy.b d (.inl k)).1 (g.sy.sj k l c hr o) rfl;rw[qP hl];exact this
def Bs.don(c:Bs c0 c2 c3 h es S ver){a f k:Nat}{g:Bool}{l:List T}(i:fD c2=G a)(j:h.get a=G ⟨1,f,k,g,false,l⟩)(d:Nat)(e:Bool):Bs c0 c2 c3 (fQ h a ⟨1,f,k+1,g,false,l.set d (.bool e)⟩) es {S with done:=S.done.set d e} ver:=
 c.put j (c.sy.b a (.inr (.inl i))).1 (c.sy.don i j d e) rfl
def Bs.tx(a:Bs c0 c2 c3 h es S ver)(b:Int):Bs c0 c2 c3 (fQ h 1 (eg 4 (ver+1) [.agg [c0,M b,c2,c3]])) es {S with tx:=b} (ver+1):=
 ⟨by rw[iB];exact(a.sy.tx b).mono (ay _) λc d _=>by rw[fj a.g1,aq J],a.ok.put _ _,by rw[fj a.g1,au rfl],by rw[fj a.g1,aq J];exact a.g2⟩
end
structure ApJ(w:fU)(s:iu)(t k o wk:Int)(c0 c2 c3:T)(h:H)(n:Int):Prop where
 ex:∃S es ver,gW w s t k o wk=(S,n)/\Bs c0 c2 c3 h es S ver
def aae:iu:=⟨[],0,[],[]⟩
def BQ(a:fU×iu×Int×Int×Int×Int):T:=if jK a.1 a.2.1 a.2.2.1 a.2.2.2.1 a.2.2.2.2.1=true then .tuple [(gW a.1 a.2.1 a.2.2.1 a.2.2.2.1 a.2.2.2.2.1 a.2.2.2.2.2).1.t,M (gW a.1 a.2.1 a.2.2.1 a.2.2.2.1 a.2.2.2.2.1 a.2.2.2.2.2).2,.bool true]else .tuple [aae.t,M 0,.bool false]
def QQ(a:iu):Prop:=a.fT.length<=1000000/\a.done.length<=1000000/\a.eY.length<=1000000/\(∀b∈a.fT,b.gh.length<=1000000)/\a.BP
def uA:iF:=⟨fU×iu×Int×Int×Int×Int,λa=>[a.1.t,a.2.1.t,M a.2.2.1,M a.2.2.2.1,M a.2.2.2.2.1,M a.2.2.2.2.2],λa=>a.1.jl.length<=1099511627776/\QQ a.2.1,BQ,λa b h=>by
 obtain⟨a1,a2,a3,a4,a5,a6⟩:=a;obtain⟨c,d,e,f,g,i⟩:=b;simp at h;rw[fU.inj h.1,iu.inj h.2.1,h.2.2.1,h.2.2.2.1,h.2.2.2.2.1,h.2.2.2.2.2]⟩
def IJ:uA.Ok prog cx 75:=by
 refine AO (tb:=⟨pt [(119,oL),(97,Ci)],ht [(67,kW iu It Ns),(121,kW IUn S9 No),(122,kW IWo Zo Ti),(71,kW IWt Zn Tg)]⟩) ml kl (jz 829180818552508142370930303613581122868418894632663968482586879 [(17,[(1,11)]),(19,[(1,10)]),(30,[(4,9)]),(33,[(4,8)])] func75) (λ_=>1000005) (by simp[uA]) nl9 ?_;rintro⟨q,a,d,k,e,r⟩ ⟨c7,hl,eE,ht,hr,eB⟩ D eA;simp at c7 hl eE ht hr eB;simp[uA,BQ]at eA|-;obtain⟨ey,aE,w⟩:=eA;have eM:a.sm:=⟨J,J,J,λj u=>iV (hr j u)⟩;cases de:jK q a d k e with
 |false=>
  simp[f75,ey,aE,w,yq,c7,eM,de];rfl
 |true=>
  have di:=de;unfold jK at di;simp[aC]at di;obtain⟨⟨⟨eF,eH⟩,b6⟩,_⟩:=di;have⟨eS,gn,eU⟩:=o8 eF;simp[f75,ey,aE,w,yq,c7,eM,de];generalize aX:((hE.cons _).cons _).cons _=bA;have gk:jk 0 bA:=aX▸⟨Y,Y,Y⟩;have gB:bA.size=3:=by rw[<-aX];rfl
  have e0:bA.get 0=G (eg 6 0 [q.t]):=by rw[<-aX];simp
  have e4:bA.get 1=G (eg 4 0 [a.t]):=by rw[<-aX];simp
  have e5:bA.get 2=G (eg 4 0 [.agg [ed,M 0,ed,ed]]):=by rw[<-aX];simp
  clear aX;refine jy Gm Y a ⟨rfl,gk,hl,eE,ht,hr⟩ ?_;rintro _ ca ⟨c0,c2,c3,es,rfl,eW,bi⟩;rw[gB]at eW;have gQ:=bi.ok.sz;have gj:jk 0 ca:=⟨bi.ok.hp,bi.ok.low,az _⟩;have bs:=(bi.get 1 J).trans e4;have e8:=(bi.get 0 J).trans e0;have e9:=(bi.get 2 J).trans e5;have c:Bs c0 c2 c3 (fQ ca 1 (eg 4 1 [.agg [c0,M a.tx,c2,c3]])) es a 1:=⟨by rw[iB];exact eW.mono (ay _) λo u _=>by rw[fj bs,aq J],gj.put _ _,by rw[fj bs,au rfl],by rw[fj bs,aq J];exact e9⟩;have eu:(fQ ca 1 (eg 4 1 [.agg [c0,M a.tx,c2,c3]])).get 0=G (eg 6 0 [q.t]):=by rw[fj bs,aq J];exact e8
  simp[QJ,bs,w];generalize fQ ca 1 _=aN at*
  have eI:=eH;rw[<-eU]at eI;have⟨me,K,gE⟩:=jt eI;have bn:=fZ (gG.1 eH).1;refine nS (λD al=>∃n,ApJ q a d k e r c0 c2 c3 al n/\jg D 7 1/\jg D 12 2/\iS D 15 n) (λan=>?_) (λan=>?_) ?_;have an:k=1:=iC an;subst an;have⟨E,ep,ar,ex,av,y,l,s,m⟩:=c.sy.g3.at (x:=me.t) (i:=d.toNat) (by simp[K]);rw[aL]at y m;subst y;simp[w,c.g1,bn,l,s,m];exact⟨_,_,_,show gW q a d 1 e r=(a.qA d (mh 2),0)by simp[gW],c.qA rfl l K (mh 2)⟩
  .have an:¬k=1:=iC an;rcases xv b6 with g|rfl|rfl|rfl|rfl|rfl|rfl|rfl|rfl|g|g|g|g
   exact absurd g an;have⟨E,ep,ar,ex,av,y,l,s,m⟩:=c.sy.g3.at (x:=me.t) (i:=d.toNat) (by simp[K]);rw[aL]at y m;subst y;simp[w,c.g1,bn,l,s,m];exact⟨_,_,_,show gW q a d 2 e r=(a.qA d (mh 5),0)by simp[gW],c.qA rfl l K (mh 5)⟩;simp;exact⟨_,_,_,show gW q a d 3 e r=(a,0)by simp[gW],c⟩;simp;exact⟨_,_,_,show gW q a d 4 e r=(a,0)by simp[gW],c⟩;simp;exact⟨_,_,_,show gW q a d 5 e r=(a,0)by simp[gW],c⟩;simp[w,c.g1,fN];exact⟨_,_,_,show gW q a d 12 e r=({a with tx:=d},0)by simp[gW],c.tx d⟩;simp[c.g1,fN];exact⟨_,_,_,show gW q a d 13 e r=({a with tx:=-1},0)by simp[gW],c.tx (-1)⟩;have⟨E,ep,ar,ex,av,y,l,s,m⟩:=c.sy.g3.at (x:=me.t) (i:=d.toNat) (by simp[K]);rw[aL]at y m;subst y;simp[w,c.g1,bn,l,s,m];exact⟨_,_,_,show gW q a d 14 e r=(a.qA d (λx=>{x with atomic:=true}),0)by simp[gW],c.qA rfl l K (λx=>{x with atomic:=true})⟩;have⟨E,ep,ar,ex,av,y,l,s,m⟩:=c.sy.g3.at (x:=me.t) (i:=d.toNat) (by simp[K]);rw[aL]at y m;subst y;simp[w,c.g1,bn,l,s,m];exact⟨_,_,_,show gW q a d 15 e r=(a.qA d (λx=>{x with atomic:=false}),0)by simp[gW],c.qA rfl l K (λx=>{x with atomic:=false})⟩;have I:=mW b6 g;rw[<-eS]at I;have⟨X,L,fM⟩:=jt I;have F:=fZ (gG.1 I).1;obtain⟨C,dd,rv,rfl,W,ap⟩:=c.sy.el.get L;obtain⟨E,ep,ar,ex,av,rfl,l,s,m⟩:=c.sy.g0.at dd;have bN:=H.fV l;have gD:=(c.sy.b E (.inl rfl)).1;have eb:(1=aN.size)=False:=uC (H.fV c.g1);have gF:(E=aN.size)=False:=dY;have fX:=hr X (aB L);have eP:∀o,fD rv=G o->o<aN.size:=λo u=>(ap o u).2.1;rcases g with rfl|rfl|rfl|rfl|rfl|rfl
   simp[w,c.g1,F,l,s,m];exact⟨_,_,_,show gW q a d 6 e r=(a.sj e (λj=>{j with jF:=d}),0)by simp[gW],c.sj rfl l L (λj=>{j with jF:=d}) W ap⟩;simp[w,c.g1,F,l,s,m];exact⟨_,_,_,show gW q a d 7 e r=(a.sj e (λj=>{j with jF:=-1}),0)by simp[gW],c.sj rfl l L (λj=>{j with jF:=-1}) W ap⟩;simp[w,c.g1,F,l,s,m];refine mZ Le Y ⟨X.gh,[d],rv,.arr aN.size 0 0 1 false⟩ ⟨rfl,W.mono λo u=>by rw[fH,aq (iV (eP o u))],.inr (Gr.new (ep:=0) (ver:=0) (ex:=true) (es:=[M d]) Y),dY,c.ok.cons _⟩ ?_;rintro O ae ⟨v,R,ef⟩;have eR:Nb aN ae:=((Nb.refl c.ok).cons (eg 1 0 [M d])).trans R;have Q:=c.nb eR;have bW:=(eR.get E bN).trans l;have ej:=iw (R.get 1 (uC (H.fV c.g1)))
   dsimp at v
   rw[M1 (eB X (aB L))]at v;have eh:∀o,fD O=G o->o<ae.size:=λo u=>by
    rcases v with rfl|g;simp at u;have⟨_,_,_,_,k,_⟩:=g.box u;exact H.fV k
   simp[F,bW,s,m,ej,fN,v.je.1,v.je.2];exact⟨_,_,_,show gW q a d 8 e r=(a.sj e (λj=>{j with gh:=oF j.gh d}),0)by simp[gW],Q.sj rfl bW L (λj=>{j with gh:=oF j.gh d}) v λo u=>by
    have eO:=ef o u;simp at eO;have ea:=eh o u;exact⟨J,ea,λC=>by simp at C;omega,λC=>iV (c.sy.b o (.inr (.inl C))).2,λC=>iV (c.sy.b o (.inr (.inr C))).2⟩⟩
   simp[w,c.g1,F,l,s,m];refine mZ Nv Y ⟨X.gh,rv,d⟩ ⟨rfl,W,eP,fX,c.ok⟩ ?_;rintro O ae ⟨v,R,ef⟩;have Q:=c.nb R;have bW:=(R.get E bN).trans l;have ej:=iw (R.get 1 (H.fV c.g1))
   dsimp at v
   have eh:∀o,fD O=G o->o<ae.size:=λo u=>by
    rcases v with rfl|g;simp at u;have⟨_,_,_,_,k,_⟩:=g.box u;exact H.fV k
   simp[F,bW,s,m,ej,fN,v.je.1,v.je.2];exact⟨_,_,_,show gW q a d 9 e r=(a.sj e (λj=>{j with gh:=j.gh.filter λO=> !decide (O=d)}),0)by simp[gW],Q.sj rfl bW L (λj=>{j with gh:=j.gh.filter λO=> !decide (O=d)}) v λo u=>by
    have eO:=ef o u;have ea:=eh o u;exact⟨J,ea,λC=>by simp at C;omega,λC=>iV (c.sy.b o (.inr (.inl C))).2,λC=>iV (c.sy.b o (.inr (.inr C))).2⟩⟩
   simp[w,c.g1,F,l,s,m];exact⟨_,_,_,show gW q a d 10 e r=(a.sj e (λj=>{j with jF:=d}),0)by simp[gW],c.sj rfl l L (λj=>{j with jF:=d}) W ap⟩;simp[w,c.g1,F,l,s,m];exact⟨_,_,_,show gW q a d 11 e r=(a.sj e (λj=>{j with jF:=-1}),0)by simp[gW],c.sj rfl l L (λj=>{j with jF:=-1}) W ap⟩;have I:=qO b6 g;have⟨o,c9,eD⟩:=jt I;have bZ:=vS eF c9;rw[<-eS]at bZ;have⟨X,L,fM⟩:=jt bZ;have F:=fZ (gG.1 I).1;have eX:=fZ (gG.1 bZ).1;obtain⟨C,dd,rv,rfl,W,ap⟩:=c.sy.el.get L;obtain⟨E,ep,ar,ex,av,rfl,l,s,m⟩:=c.sy.g0.at dd;have⟨ax,et,gw,fs,cL,y,a7,cp,dk⟩:=c.sy.g3.at (x:=me.t) (i:=d.toNat) (by simp[K]);rw[aL]at y dk;subst y;have bN:=H.fV l;have eC:=H.fV a7;have eb:(1=E)=False:=uC (c.sy.b E (.inl rfl)).1;have gi:(1=ax)=False:=uC (c.sy.b ax (.inr (.inr rfl))).1;have ec:(ax=E)=False:=by simp;rintro rfl;rw[l]at a7;simp at a7
   have eN:∀x,(cL.set d.toNat x)[d.toNat]? =G x:=λx=>by
    have:d.toNat<cL.length:=by
     rcases aR d.toNat cL.length with k|k;exact k;rw[cj k]at cp;simp at cp
    rw[cE];simp[this]
   have bX:∀B,(fQ aN E B).get ax=G ⟨3,et,gw,fs,false,cL⟩:=λB=>by rw[fj l,aq (iC ec)];exact a7
   have eV:=λB z=>pR (bX B) (show 1≠ax from iC gi) z;have eo:=λ(f:fF->fF) (u:(f X).gh=X.gh)=>c.sj rfl l L f (rv:=rv) (u▸W) ap;rcases g with rfl|rfl|rfl|rfl
   have c4:=(eo (λj=>{j with jF:=-1}) rfl).qA rfl (bX _) K (λx=>{x with jq:=3});have br:=c4.qA (me:=(λx=>{x with jq:=3}) me) rfl ((fj (bX _) _ _).trans (au rfl)) (i:=d.toNat) (by simp[K]) (λx=>{x with cond:=e});simp[E2,List.set_set]at br;simp[w,eu,c.g1,F,eX,bn,c9,l,a7,s,cp,m,dk,rV,c.ok.hp,bN,eC,eb,ec,eN,eV];exact⟨_,_,_,show gW q a d 16 e r=((a.sj o.oG λj=>{j with jF:=-1}).qA d (λx=>{x with jq:=3,cond:=e}),0)by simp[gW,eD],br⟩;have c4:=(eo (λj=>{j with jF:=d}) rfl).qA rfl (bX _) K (λx=>{x with jq:=2});have br:=c4.qA (me:=(λx=>{x with jq:=2}) me) rfl ((fj (bX _) _ _).trans (au rfl)) (i:=d.toNat) (by simp[K]) (λx=>{x with cond:=0});simp[E2,List.set_set]at br;simp[w,eu,c.g1,F,eX,bn,c9,l,a7,s,cp,m,dk,rV,c.ok.hp,bN,eC,eb,ec,eN,eV];exact⟨_,_,_,show gW q a d 17 e r=((a.sj o.oG λj=>{j with jF:=d}).qA d (λx=>{x with jq:=2,cond:=0}),0)by simp[gW,eD],br⟩;simp[w,c.g1];refine jy Gh Y ⟨a,_,_,_,e⟩ ⟨rfl,c.sy.g3,ht,c.ok⟩ ?_;rintro O ae ⟨v,R,_⟩
   dsimp at v
   have Q:=c.nb R;have dn:=yR e a.eY 0;have V:=λaE:H=>v.len (cx:=cx) aE uu _ rfl;rw[aL]at V;simp[V];refine fO (λao=>?_) (λao=>?_);have b7:0<(jb e a.eY 0).length:=iC ao;have⟨gm,b8,b9⟩:=v.idx (te:=EW) rfl rfl (i:=0) (x:= M (jb e a.eY 0)[0]) (by simp[b7]) rfl;have fC:=v.qZ (f:=T.int .i64) (λ_=>by simp) (λ_=>rfl);have fb:=λ{tb:iq} (ht:tb.p 97=G Ci)=>Mz ht (jb e a.eY 0) r J;have eG:(jb e a.eY 0).headD (-1)=(jb e a.eY 0)[0]:=by
    clear b8 b9 v V dn;generalize jb e a.eY 0=j at*
    rcases j with _|⟨x,j⟩;simp at b7;simp
   simp[w,b8,b9,fC,fb];have N:∃A:Nat,wh e r a.eY=A/\A<a.eY.length:=by
    have bZ:wh e r a.eY∈jb e a.eY 0:=by
     unfold wh;split
     assumption
     rw[eG];exact aG b7
    have⟨A,C,U⟩:=u6 bZ;exact⟨A,iC C,U⟩
   obtain⟨A,dm,U⟩:=N;refine nS (λD al=>al=ae/\iS D 17 A/\jg D 7 1/\jg D 12 2) (λao=>?_) (λao=>?_) ?_;simp[w];rw[<-dm];unfold wh;rw[au (iC ao)];simp;rw[<-dm,<-eG];unfold wh;rw[aq (iC ao)];rintro D _ ⟨rfl,fL⟩;have⟨P,N⟩:∃P,a.eY[A]? =G P:=⟨_,aF U⟩;have⟨e7,fe,gy,fv,gz,bT,a8,ds,fW⟩:=Q.sy.g3.at (x:=P.t) (i:=A) (by simp[N]);simp at bT;obtain⟨rfl,rfl⟩:=bT;simp[fL,Q.g1,a8,ds,U];exact⟨_,_,_,show gW q a d 18 e r=(a.qA A (mh 4),(A:Int))by
    rw[<-dm];unfold gW;simp;intro u;rw[u]at b7;simp at b7,Q.qA rfl a8 N (mh 4)⟩
   have gg:jb e a.eY 0=[]:=by
    have:¬0<(jb e a.eY 0).length:=iC ao;exact bC J
   simp;exact⟨_,_,_,show gW q a d 18 e r=(a,-1)by simp[gW,gg],Q⟩;simp[w,c.g1];refine jy Gh Y ⟨a,_,_,_,e⟩ ⟨rfl,c.sy.g3,ht,c.ok⟩ ?_;rintro O ae ⟨v,R,gv⟩
   dsimp at v
   have Q:=c.nb R;have dn:=yR e a.eY 0;have V:=λaE:H=>v.len (cx:=cx) aE uu _ rfl;rw[aL]at V;have eL:∀x∈jb e a.eY 0,∃A:Nat,x=A/\A<a.eY.length:=λx s=>by
    have⟨A,C,U⟩:=u6 s;exact⟨A,iC C,U⟩
   have c6:=Xx e a.eY [];simp[bJ,cW]at c6;have cb:∃j,j=jb e a.eY 0:=⟨_,rfl⟩;obtain⟨j,cb⟩:=cb;rw[<-cb]at v dn eL c6 V;simp;refine io j.length J (λi D h'=>Bs (.arr E ep 0 es.length false) c2 (.arr ax et 0 a.eY.length false) h' es {a with eY:=Rx a.eY (j.take i)} 1/\rx h' 1 O (iE j)/\jg D 7 1/\jg D 12 2/\ka D 18 O/\iS D 19 i) ?_ ?_ J ⟨by simpa[Rx]using Q,v,Y⟩;rintro i D h' m fP ⟨aA,ee,bu⟩;have⟨A,U,eK⟩:=eL j[i] (aG m);have⟨P,N⟩:∃P,(Rx a.eY (j.take i))[A]? =G P:=⟨_,aF (by rw[Xw];exact eK)⟩;have⟨e7,fe,gy,fv,gz,bT,a8,ds,fW⟩:=aA.sy.g3.at (x:=P.t) (i:=A) (by simp[N]);simp at bT;obtain⟨rfl,rfl,_⟩:=bT;have⟨gm,b8,b9⟩:=ee.idx (te:=EW) rfl rfl (i:=i) (x:= M A) (by simp[m,U]) rfl;have e6:=aA.qA rfl a8 N (mh 4);simp[bu,V,m,b8,b9,aA.g1,a8,ds,eK,fP];refine⟨?_,ee.mono λo u=>by rw[fj a8,aq (iV (gv o u))]⟩;rw[Ur a.eY j m,U];exact e6;rintro D h' ⟨aA,ee,bu⟩;rw[aI]at aA;simp[bu,V];exact⟨_,_,_,show gW q a d 19 e r=({a with eY:=Rx a.eY j},(j.length:Int))by rw[c6];simp[gW,<-cb],aA⟩;have I:=Au b6 g;rw[<-eU]at I;have⟨P,N,fY⟩:=jt I;have F:=fZ (gG.1 I).1;rcases g with rfl|rfl
   have⟨E,ep,ar,ex,av,y,l,s,m⟩:=c.sy.g3.at (x:=P.t) (i:=e.toNat) (by simp[N]);rw[aL]at y m;subst y;simp[w,c.g1,F,l,s,m];exact⟨_,_,_,show gW q a d 20 e r=(a.qA e (mh 1),0)by simp[gW],c.qA rfl l N (mh 1)⟩;simp;exact⟨_,_,_,show gW q a d 21 e r=(a,0)by simp[gW],c⟩
   .have I:=vh b6 g;rw[<-gn]at I;have⟨P,N,fY⟩:=jt I;have F:=fZ (gG.1 I).1;rcases g with rfl|rfl
    .have⟨E,ep,ar,ex,av,y,l,s,m⟩:=c.sy.g2.at (x:= .bool P) (i:=e.toNat) (by simp[N]);rw[aL]at y m;subst y;simp[w,c.g1,F,l,s,m];exact⟨_,_,_,show gW q a d 22 e r=({a with done:=a.done.set e.toNat true},0)by simp[gW],c.don rfl l e.toNat true⟩
    simp;exact⟨_,_,_,show gW q a d 23 e r=(a,0)by simp[gW],c⟩
  rintro D al ⟨n,⟨S,ff,ver,fS,Z⟩,bu⟩;have⟨gI,gM,gP⟩:=Z.sy.fz;have fE:∀B,(fQ al 2 B).get 2=G B:=λB=>(fj Z.g2 B _).trans (au rfl);have c1:∀B,ES 3 al.size (fQ al 2 B) c0 c2 c3 ff S:=λB=>Z.sy.mono (ay _) λo u _=>by rw[fj Z.g2,aq J]
  have fy:=λB=>(c1 B).fz.1;have fA:=λB=>(c1 B).fz.2.1;have fB:=λB=>(c1 B).fz.2.2;simp[bu,Z.g1,Z.g2,fE,fN,fy,fA,fB,fS,Z.ok.hp]
end
def tM:iF:=⟨fU×ir×gd,λa=>[a.1.t,a.2.1.t,a.2.2.t],λa=>a.1.jl.length<=1000000/\yM 100000 a.2.1/\a.2.2.m9.length<=1000000/\a.2.2.uY.length<=1000000,λa=> .tuple [(lP a.1 a.2.1 a.2.2).1.t,.bool (lP a.1 a.2.1 a.2.2).2],λa c b=>by
 simp at b;rw[fU.inj b.1,ir.inj b.2.1,gd.inj b.2.2]⟩
def pO{c:fU}{b:ir}{a:gd}(d:uD c b a=false):lP c b a=(xU,false):=by unfold lP;rw[d];rfl
def MA{g:iq}(ht:g.p 75=G uA)(b:fU)(a:iu)(e c d f:Int)(i:b.jl.length<=1099511627776)(k:QQ a)(j:jK b a e c d):rl prog cx g 75 [b.t,a.t,M e,M c,M d,M f]=G (.tuple [(gW b a e c d f).1.t,M (gW b a e c d f).2,.bool true]):=by
 have:=iL ht IJ (b,a,e,c,d,f) ⟨i,k⟩;have h:uA.R (b,a,e,c,d,f)= .tuple [(gW b a e c d f).1.t,M (gW b a e c d f).2,.bool true]:=by show BQ _=_;unfold BQ;rw[au j]
 rw[h]at this;exact this
def TG:tM.Ok prog cx 79:=by
 refine iD [(132,Cj),(133,KY),(119,oL),(134,zb),(135,xa),(75,uA)] (jz 6434029281764525972148499167221040878727244754944919609542655 [(15,[(3,4),(3,6),(3,8),(7,8),(3,10),(7,10),(3,13),(7,13),(11,13)])] func79) (λ_=>100) (by simp[tM]) ?_;rintro⟨e,d,b⟩ ⟨fs,Z,fA,fB⟩ j eC;simp at fs Z fA fB;simp[tM]at eC|-;have⟨l1,l2,l3,l4,l5,l6⟩:=Z.l;have fM:d.ig.sm:=⟨J,J,J,λf q=>iV (Z.r f q)⟩;have eE:e.jl.length<=1099511627776:=J;have fP:QQ d.ig:=⟨J,J,J,λf q=>iV (Z.r f q),Z.a⟩;have h:uD e d b=(uG e d&&jB b.fa e.eY.length&&(decide (1<=b.kind)&&decide (b.kind<=23))&&jK e d.ig b.fa b.kind b.obj&&wt e b&&PV e b&&PM b&&Bt (d.count.getD b.fa.toNat 0) none b.m9&&Bt (d.count.getD b.fa.toNat 0) none b.uY&&qG d b):=rfl;simp[f79,eC,Yr,Vy,yq,eE,fM];have U:T.agg [sl [],M 0,sl [],sl [],sl [],sl [],sl []]=xU.t:=rfl;refine fO (λg=>?_) (λg=>?_);have:uD e d b=false:=by
  rw[h];simp only[cm,cO,aP]at g;rcases g with(((q|q)|q)|q)|q
  rw[q];simp;rw[q];simp;rw[bj (show¬1<=b.kind by omega)];simp;rw[bj (show¬b.kind<=23 by omega)];simp;rw[q];simp
 simp[pO this];exact U;simp only[ci,cZ,bg]at g;obtain⟨⟨⟨⟨et,eu⟩,gz⟩,gB⟩,bA⟩:=g;rw[et,eu,bA,bK (show 1<=b.kind by omega),bK (show b.kind<=23 by omega)]at h;simp only[aZ]at h;have bN:=bA;unfold jK at bN;simp only[aC]at bN;obtain⟨⟨⟨gE,_⟩,s⟩,_⟩:=bN;have bW:=et;unfold uG at bW;simp only[aC,aP]at bW;obtain⟨⟨⟨_,eA⟩,eB⟩,ff⟩:=bW;have av:=eu;rw[<-ff]at av;have⟨z,W,gD⟩:=jt av;have gw:=fZ (gG.1 av).1;have fC:d.count.getD b.fa.toNat 0=z:=by simp[List.getD,W]
 rw[fC]at h;simp;generalize L:(((hE.cons _).cons _).cons _).cons _=w;have P:jk 0 w:=L▸⟨Y,Y,Y⟩;have eW:w.size=4:=by rw[<-L];rfl
 have aN:w.get 0=G (eg 6 0 [e.t]):=by rw[<-L];simp
 have bn:w.get 1=G (eg 7 0 [d.t]):=by rw[<-L];simp
 have E:w.get 2=G (eg 7 0 [b.t]):=by rw[<-L];simp
 have B:w.get 3=G (eg 7 0 [.agg [ed,M 0,ed,ed,ed,ed,ed]]):=by rw[<-L];simp
 clear L;have V:∀y,(fQ w 3 y).get 3=G y:=λy=>(fj B y _).trans (au rfl);refine nS (λj v=>w=v/\wt e b/\jg j 3 0/\jg j 4 1/\jg j 5 2/\jg j 6 3) (λg=>?_) (λg=>?_) ?_;have X:b.kind=1\/b.kind=2:=iC g;simp[E];refine fO (λi=>?_) (λi=>?_);have:uD e d b=false:=by
  rw[h];unfold wt;rw[au X,bj (iC i)];simp
 simp[B,V,fN,pO this,P.hp];exact U;simp;unfold wt;rw[au X,bK (iC i)];have X:¬(b.kind=1\/b.kind=2):=iC g;cases A:jB b.j7 e.jM.length;have:uD e d b=false:=by
  rw[h];unfold wt;rw[aq X,nQ A];simp
 simp[aN,E,Vy,A,B,V,fN,pO this,P.hp];exact U;have⟨x,fW,eI⟩:=jt A;simp[aN,E,Vy,A,fW,fZ (gG.1 A).1];refine fO (λi=>?_) (λi=>?_);have:uD e d b=false:=by
  rw[h];unfold wt;rw[aq X,eI];simp only;rw[bj (iC i)];simp
 simp[B,V,fN,pO this,P.hp];exact U;simp;unfold wt;rw[aq X,eI];simp only;rw[bK (iC i)]
 .rintro j _ ⟨rfl,fL,m⟩;rw[fL,aZ]at h;have gg:((decide (b.kind=3)||decide (b.kind=4))=false/\True/\True/\(b.kind=3\/b.kind=4->∃o,e.cells[b.obj.toNat]? =G o)/\∃x:jm,x=x/\True)\/((decide (b.kind=3)||decide (b.kind=4))/\mQ b.obj=G b.obj.toNat/\jB b.obj e.cells.length/\True/\∃o,e.cells[b.obj.toNat]? =G o/\sizeOf e b.obj=o.size):=by
   cases q:(decide (b.kind=3)||decide (b.kind=4));simp at q;exact .inl ⟨rfl,trivial,trivial,λk=>(k.elim q.1 q.2).elim,default,rfl,trivial⟩;simp at q;have A:jB b.obj e.cells.length:=by
    unfold ko at s;rw[aq J,au q]at s;exact s
   have⟨o,fv,fy⟩:=jt A;exact .inr ⟨rfl,fZ (gG.1 A).1,A,trivial,o,fv,by simp[sizeOf,fy]⟩
  have a7:PV e b=(decide (b.m9=[])||decide (b.kind=5)||((decide (b.kind=3)||decide (b.kind=4))&& !decide (sizeOf e b.obj=0))):=rfl;have b6:decide (0<b.m9.length)= !decide (b.m9=[]):=by cases b.m9<;>simp
  have b7:decide (0<b.uY.length)= !decide (b.uY=[]):=by cases b.uY<;>simp
  have b8:PM b=(decide (b.uY=[])||decide (b.kind=4)||decide (b.kind=22)):=rfl;have e0:b.kind=3->jB b.obj d.cells.length=true:=λk=>by
   rw[eA];unfold ko at s;rw[aq J,au J]at s;exact s
  have eX:b.kind=23->jB b.obj d.fR.length=true:=λk=>by
   rw[eB];exact vh s (.inr k)
  rcases gg with⟨cp,eK,fX,fY,e4,eL,c7⟩|⟨cp,eK,fX,fY,e4,eL,c7⟩
  all_goals
   simp[m,aN,E,cp,eK,eL];rw[cp]at a7;refine fO (λg=>?_) (λg=>?_);have:uD e d b=false:=by
    rw[h,a7];simp[b6]at g;simp[g,c7]
   simp[m,B,V,fN,pO this,P.hp];exact U;have eF:PV e b:=by
    rw[a7];cases Q:decide (b.m9=[])<;>cases u:decide (b.kind=5)<;>simp[b6,Q,u,c7]at g|-
    all_goals exact g
   rw[eF,aZ]at h;simp[m,E];refine fO (λi=>?_) (λi=>?_);have:uD e d b=false:=by
    rw[h,b8];simp[b7]at i;simp[i]
   simp[m,B,V,fN,pO this,P.hp];exact U;have eG:PM b:=by
    rw[b8];cases Q:decide (b.uY=[])<;>cases u:decide (b.kind=4)<;>simp[b7,Q,u]at i|-
    all_goals exact i
   rw[eG,aZ]at h;have fe:=λ{dk:iq} (ht:dk.p 135=G xa)=>Vl ht d b J e0 eX;simp[m,bn,E,gw,W,Vs,fe,show b.m9.length<=1099511627776 by omega,show b.uY.length<=1099511627776 by omega];refine fO (λa8=>?_) (λa8=>?_);have:uD e d b=false:=by
    rw[h];cases Q:Bt z none b.m9<;>cases u:Bt z none b.uY<;>cases di:qG d b<;>simp[Q,u,di]at a8|-
   simp[m,B,V,fN,pO this,P.hp];exact U;have fE:uD e d b:=by
    rw[h];cases Q:Bt z none b.m9<;>cases u:Bt z none b.uY<;>cases di:qG d b<;>simp[Q,u,di]at a8|-
   clear g i a8 h a7 b8 b6 b7 eF eG;have fS:lP e d b=(oN e d b,true):=by unfold lP;rw[au fE]
   rw[fS];have⟨e8,aA,br,⟨gF,gP,gA⟩,eb,ae,eP⟩:=kR (cx:=cx) (sz:=1) P (x:=sl (d.cells.map (T.int .i64))) (xs:=d.cells.map (T.int .i64)) tv rfl CS tv rfl rfl Y Y d1 dY;have⟨e9,aE,bs,⟨gI,gQ,ey⟩,ec,O,okB⟩:=kR (cx:=cx) (sz:=1) eP (x:=sl (d.fR.map (T.int .i64))) (xs:=d.fR.map (T.int .i64)) tv rfl CS tv rfl rfl Y Y d1 dY;have⟨fb,S,bu,⟨gM,gS,gC⟩,ee,D,eR⟩:=kR (cx:=cx) (sz:=1) okB (x:=sl (d.count.map (T.int .i64))) (xs:=d.count.map (T.int .i64)) kS rfl nL kS rfl rfl Y Y d1 dY;replace eb:aA.size=5:=J;replace ec:aE.size=6:=J;replace ee:S.size=7:=J;simp only[eW,eb,ec,aL]at br bs bu gA ey gC;have eU:il (w.cons (eg 1 0 [])) aA 1:=iw ((ae 1 J).trans d2);have eV:il (aA.cons (eg 1 0 [])) aE 1:=iw ((O 1 J).trans d2);have gv:il (aE.cons (eg 1 0 [])) S 1:=iw ((D 1 J).trans d2);have eh:=(ae 1 J).trans bn;have ej:=(O 1 J).trans eh;have e5:=(D 1 J).trans ej;have eO:∀n,5<=n->il (w.cons (eg 1 0 [])) aA n=true:=λn eD=>kf (oR _ dY);have eM:∀n,6<=n->il (aA.cons (eg 1 0 [])) aE n=true:=λn eD=>kf (oR _ dY);have eN:∀n,7<=n->il (aE.cons (eg 1 0 [])) S n=true:=λn eD=>kf (oR _ dY);have gj:S.low<=7:=iV eR.low;simp[m,eW,eb,ec,ee,bn,br,bs,bu,eh,ej,eU,eV,eO,eM,eN,gj];have gk:=(D 4 J).trans ((O 4 J).trans gA);have gm:=(D 5 J).trans ey;have e6:=(D 0 J).trans ((O 0 J).trans ((ae 0 J).trans aN));have eo:=(D 2 J).trans ((O 2 J).trans ((ae 2 J).trans E));have e7:=(D 3 J).trans ((O 3 J).trans ((ae 3 J).trans B));have bX:=λ{dk:iq} (ht:dk.p 75=G uA)=>MA ht e d.ig b.fa b.kind b.obj (nT b) eE fP bA;have gy:=Z.c z (aB W);clear br bs bu ae O D eU eV gv eO eM eN eP okB;generalize ap:S.cons _=ao;have gn:jk 0 ao:=ap▸eR.cons _;have ef:ao.size=8:=by rw[<-ap];show S.size+1=8;omega
   have I:∀o,o<7->ao.get o=S.get o:=λo q=>by rw[<-ap,fH,aq J]
   have cb:=(I 0 J).trans e6;have cL:=(I 1 J).trans e5;have bi:=(I 2 J).trans eo;have c1:=(I 3 J).trans e7;have c4:=(I 4 J).trans gk;have c6:=(I 5 J).trans gm;have c9:=(I 6 J).trans gC;have dd:ao.get 7=G (eg 7 1 [.agg [ed,M 0,ed,ed,.arr 4 e8 0 d.cells.length false,.arr 5 e9 0 d.fR.length false,.arr 6 fb 0 d.count.length false]]):=by rw[<-ap,fH,au ee.symm]
   clear ap;simp[eo];refine nS (λj v=>ao=v/\jg j 3 0/\jg j 4 1/\jg j 5 2/\jg j 6 3/\jg j 9 7/\iS j 10 (nT b)) (λg=>?_) (λg=>?_) ?_;simp[m,bi];unfold nT;rw[au (iC g)];simp[m];unfold nT;rw[aq (iC g)];rintro j _ ⟨rfl,m⟩;have de:binop .add (M z) (M 1)=G (M (z+1)):=jr J J;have ds:=fZ (gG.1 av).1;have ar:=(gG.1 av).2;have eH:oN e d b=⟨(gW e d.ig b.fa b.kind b.obj (nT b)).1,if b.kind=4 then d.cells.set b.obj.toNat b.value else d.cells,if b.kind=22 then d.fR.set b.obj.toNat b.value else d.fR,d.count.modify b.fa.toNat (· +1)⟩:=rfl;rw[qP W]at eH;have gi:(b.kind=4/\jB b.obj d.cells.length=true)\/(b.kind=22/\jB b.obj d.fR.length=true)\/(¬b.kind=4/\¬b.kind=22):=by
    by_cases q:b.kind=4;refine .inl ⟨q,?_⟩;rw[eA];unfold ko at s;rw[aq J,au J]at s;exact s;by_cases u:b.kind=22;refine .inr (.inl ⟨u,?_⟩);rw[eB];exact vh s (.inl u);exact .inr (.inr ⟨q,u⟩)
   have ca:=gn.hp;have aX:∀(f:List Int) (v:H),iN (AX v 11) (f.map (T.int .i64))=G (f.map (T.int .i64)):=λf v=>LG _ _ _ λ_=>rfl;have bT:∀(f:List Int) (v:H) (N:Nat) (R:Int),iN (AX v 11) ((f.map (T.int .i64)).set N (M R))=G ((f.map (T.int .i64)).set N (M R)):=λf v N R=>aY▸aX _ v;have dm:∀(f:List Int),(f.map (T.int .i64)).take f.length=f.map (T.int .i64):=λf=>by rw[cd Y]
   have dn:∀(f:List Int) (N:Nat) (R:T),((f.map (T.int .i64)).set N R).take f.length=(f.map (T.int .i64)).set N R:=λf N R=>by rw[cd Y]
   have bZ:d.count[b.fa.toNat]'ar=z:=by rw[aF ar]at W;simpa using W
   have fin:∀(C F K:List Int),T.agg [sl ((gW e d.ig b.fa b.kind b.obj (nT b)).1.fT.map fF.t),M (gW e d.ig b.fa b.kind b.obj (nT b)).1.tx,sl ((gW e d.ig b.fa b.kind b.obj (nT b)).1.done.map T.bool),sl ((gW e d.ig b.fa b.kind b.obj (nT b)).1.eY.map fc.t),sl (C.map (T.int .i64)),sl (F.map (T.int .i64)),sl (K.map (T.int .i64))]=ir.t ⟨(gW e d.ig b.fa b.kind b.obj (nT b)).1,C,F,K⟩:=λ_ _ _=>rfl;rw[eH];rcases gi with⟨q,ax⟩|⟨q,ax⟩|⟨q,eS⟩
   have ea:=fZ (gG.1 ax).1;have b9:=(gG.1 ax).2;have al:decide (b.kind=22)=false:=bj J;have an:decide (b.kind=4):=bK q;rw[au q,aq J,<-fin];simp[m,cb,cL,bi,c1,c4,c6,c9,dd,bX,fN,rV,ca,ef,ds,ar,bZ,de,yh,iW,aX,an,al,ea,b9,bT,dm,dn];have ea:=fZ (gG.1 ax).1;have b9:=(gG.1 ax).2;have al:decide (b.kind=22):=bK q;have an:decide (b.kind=4)=false:=bj J;rw[aq J,au q,<-fin];simp[m,cb,cL,bi,c1,c4,c6,c9,dd,bX,fN,rV,ca,ef,ds,ar,bZ,de,yh,iW,aX,an,al,ea,b9,bT,dm,dn];have al:decide (b.kind=22)=false:=bj eS;have an:decide (b.kind=4)=false:=bj q;rw[aq q,aq eS,<-fin];simp[m,cb,cL,bi,c1,c4,c6,c9,dd,bX,fN,rV,ca,ef,ds,ar,bZ,de,yh,iW,aX,an,al,bT,dm,dn]
def Kh{d:iq}(ht:d.p 79=G tM)(c:fU)(b:ir)(a:gd)(e:c.jl.length<=1000000)(f:yM 100000 b)(g:a.m9.length<=1000000)(h:a.uY.length<=1000000):rl prog cx d 79 [c.t,b.t,a.t]=G (.tuple [(lP c b a).1.t,.bool (lP c b a).2]):=iL ht TG (c,b,a) ⟨e,f,g,h⟩
end
end
noncomputable section
open Go Go.TI Tryz
section
attribute [-simp] List.map_take List.map_drop List.map_append
def N3(a b:Int):Bool:=decide (0<=a/\a<b)
@[simp]def afL (a:Int) (b:Nat):N3 a (b:Int)=jB a b:=a9
def UN{a b:Int}:N3 a b↔0<=a/\a<b:=by unfold N3;simp
def rIn(d:Unit):iF:=⟨Int×Int,λa=>[M a.1,M a.2],λa=>True,λa=> .bool (N3 a.1 a.2),λa c b=>by simp at b;rw[b.1,b.2]⟩
def aa2:(rIn ()).Ok prog cx 181:=by refine iD [] (jz 19 [] func181) (λc=>1) (by simp[rIn]) ?_;rintro⟨b,e⟩ _ f a;simp[rIn]at a|-;by_cases d:0<=b<;>simp[*,f181,N3]
def yG{c:iq}(ht:c.p 181=G (rIn ()))(a b:Int):rl prog cx c 181 [M a,M b]=G (.bool (N3 a b)):=iL ht aa2 (a,b) trivial
def Al:iF:=⟨Int,λa=>[M a],λa=>True,λa=> .bool (Ae a),λa c b=>by simp at b;rw[b]⟩
def Ny:Al.Ok prog cx 230:=by refine iD [] (jz 5 [] func230) (λc=>1) (by simp[Al]) ?_;rintro(b:Int) _ e a;simp[Al]at a|-;by_cases d:1<=b<;>simp[*,f230,Ae]
def AE{b:iq}(ht:b.p 230=G Al)(a:Int):rl prog cx b 230 [M a]=G (.bool (Ae a)):=iL ht Ny a trivial
def Ao:iF:=⟨Nat,λa=>[.int .u8 a],λa=>True,λa=> .bool (ye a),λa b c=>by simp at c;rw[show a=b by omega]⟩
def FQ:iF:=⟨Nat,λa=>[.int .u8 a],λa=>True,λa=> .bool (He a),λa b c=>by simp at c;rw[show a=b by omega]⟩
def FN:iF:=⟨Nat,λa=>[.int .u8 a],λa=>True,λa=> .bool (zI a),λa b c=>by simp at c;rw[show a=b by omega]⟩
def T0:Ao.Ok prog cx 176:=by refine iD [] (jz 5 [] func176) (λc=>1) (by simp[Ao]) ?_;rintro(a:Nat) _ h b;simp[Ao]at b|-;by_cases d:97<=a<;>by_cases e:a<=122<;>by_cases f:65<=a<;>by_cases g:a<=90<;>simp[*,f176,ye,show(97:Int)<=(a:Int)↔97<=a by omega,show(a:Int)<=122↔a<=122 by omega,show(65:Int)<=(a:Int)↔65<=a by omega,show(a:Int)<=90↔a<=90 by omega]
def Fc{b:iq}(ht:b.p 176=G Ao)(a:Nat):rl prog cx b 176 [.int .u8 a]=G (.bool (ye a)):=iL ht T0 a trivial
def Xj:FQ.Ok prog cx 228:=by refine iD [] (jz 5 [] func228) (λc=>1) (by simp[FQ]) ?_;rintro(a:Nat) _ f b;simp[FQ]at b|-;by_cases d:48<=a<;>by_cases e:a<=57<;>simp[*,f228,He,show(48:Int)<=(a:Int)↔48<=a by omega,show(a:Int)<=57↔a<=57 by omega]
def acf{b:iq}(ht:b.p 228=G FQ)(a:Nat):rl prog cx b 228 [.int .u8 a]=G (.bool (He a)):=iL ht Xj a trivial
def Xf:FN.Ok prog cx 178:=by refine iD [(176,Ao),(228,FQ)] (jz 5 [] func178) (λc=>1) (by simp[FN]) ?_;rintro(a:Nat) _ f b;simp[FN]at b|-;cases d:ye a<;>cases e:He a<;>simp[*,f178,zI,Fc,acf,show(a:Int)=95↔a=95 by omega]
def Vx{b:iq}(ht:b.p 178=G FN)(a:Nat):rl prog cx b 178 [.int .u8 a]=G (.bool (zI a)):=iL ht Xf a trivial
def ze:iF:=⟨fU×Int×Int,λa=>[a.1.t,M a.2.1,M a.2.2],λa=>True,λa=> .bool (D6 a.1 a.2.1 a.2.2),λa c b=>by simp at b;rw[fU.inj b.1,b.2.1,b.2.2]⟩
def Rt:ze.Ok prog cx 229:=by refine iD [(181,rIn ())] (jz 79 [] func229) (λe=>1) (by simp[ze]) ?_;rintro⟨d,c,h⟩ _ k a;simp[ze]at a|-;cases hl:jB c d.cells.length;simp[f229,a,yG,hl,nQ hl,D6];have⟨b,f,g⟩:=jt hl;by_cases i:b.index=0<;>by_cases j:b.size=0<;>simp[*,f229,yG,D6,fZ (gG.1 hl).1]
def VD{d:iq}(ht:d.p 229=G ze)(c:fU)(a b:Int):rl prog cx d 229 [c.t,M a,M b]=G (.bool (D6 c a b)):=iL ht Rt (c,a,b) trivial
def qK:iF:=⟨iK,λa=>[a.t],λa=>True,λa=>sl ((jQ a).map (T.int .i64)),λa c b=>by simp at b;rw[iK.inj b]⟩
def HS:qK.Ok prog cx 92:=by
 refine iD [] (jz 8934607822903 [] func92) (λc=>1) (by simp[qK]) ?_;rintro⟨a,c,d,e,f,r⟩ _ s b;simp[qK]at b|-;rcases(by omega:a=1\/a=6\/a=10\/a=27\/a=2\/a=3\/a=4\/a=7\/a=8\/a=26\/a=9\/(¬a=1/\¬a=6/\¬a=10/\¬a=27/\¬a=2/\¬a=3/\¬a=4/\¬a=7/\¬a=8/\¬a=26/\¬a=9))with rfl|rfl|rfl|rfl|rfl|rfl|rfl|rfl|rfl|rfl|rfl|⟨g,j,k,l,m,n,o,p,q,h,i⟩
 rotate_right
 simp[*,f92,jQ]
 all_goals simp [f92,b,jQ,iW,sl]
def yo{b:iq}(ht:b.p 92=G qK)(a:iK):rl prog cx b 92 [a.t]=G (sl ((jQ a).map (T.int .i64))):=iL ht HS a trivial
def za:iF:=⟨fU×iK,λa=>[a.1.t,a.2.t],λa=>True,λa=> .bool (oS a.1 a.2),λa c b=>by simp at b;rw[fU.inj b.1,iK.inj b.2]⟩
def Ri:za.Ok prog cx 179:=by
 refine iD [(181,rIn ()),(229,ze)] (jz 11161304336780981658631819976322344575566047 [] func179) (λc=>1) (by simp[za]) ?_;rintro⟨e,⟨a,c,j,k,h,E⟩⟩ _ F b;simp[za]at b|-;rcases(by omega:a=3\/a=4\/a=7\/a=9\/a=21\/a=22\/a=23\/a=24\/a=25\/a=26\/a=27\/a=6\/a=8\/a=11\/a=12\/a=13\/a=14\/a=15\/a=16\/(¬a=3/\¬a=4/\¬a=6/\¬a=8/\¬a=7/\¬a=9/\¬a=11/\¬a=12/\¬a=13/\¬a=14/\¬a=15/\¬a=16/\¬a=21/\¬a=22/\¬a=23/\¬a=24/\¬a=25/\¬a=26/\¬a=27))with rfl|rfl|rfl|rfl|rfl|rfl|rfl|rfl|rfl|rfl|rfl|rfl|rfl|rfl|rfl|rfl|rfl|rfl|rfl|⟨l,w,z,A,B,C,D,m,n,o,p,q,r,s,t,u,v,x,y⟩
 rotate_right
 simp[*,f179,oS];by_cases d:h=4<;>simp[f179,b,oS,d];by_cases d:6<=h<;>simp[f179,b,oS,d]
 iterate 9 ·simp[f179,b,oS,yG,VD]
 cases hl:jB j e.cells.length;simp[f179,b,oS,yG,hl,nQ hl,Af];have⟨i,f,g⟩:=jt hl;simp[*,f179,oS,yG,Af,fZ (gG.1 hl).1];cases hl:jB c e.cells.length;simp[f179,b,oS,yG,hl,nQ hl,Af];have⟨i,f,g⟩:=jt hl;simp[*,f179,oS,yG,Af,fZ (gG.1 hl).1]
 all_goals
  cases hl:jB c e.fT.length;simp[f179,b,oS,yG,hl,nQ hl,xz];have⟨i,f,g⟩:=jt hl;simp[*,f179,oS,yG,xz,fZ (gG.1 hl).1]
def Vr{c:iq}(ht:c.p 179=G za)(b:fU)(a:iK):rl prog cx c 179 [b.t,a.t]=G (.bool (oS b a)):=iL ht Ri (b,a) trivial
def uO:List (List Nat)->List Nat->Nat->Int
 | [],_,_=>-1
 |x::c,b,a=>if x=b then(a:Int)else uO c b (a+1)
def Kt:∀(a:List (List Nat)) (b:List Nat) (d:Nat),(0<=uO a b d)=(b∈a):=by
 intro a;induction a with
 |nil=>intro b d;simp[uO]
 |cons g a f=>
  intro b d;rw[uO];by_cases c:g=b;subst c;simp;rw[aq c,f];simp;intro e;exact absurd e.symm c
def FU:iF:=⟨List (List Nat)×List Nat,λa=>[sl (a.1.map T.str),.str a.2],λa=>a.1.length<=1099511627776,λa=> M (uO a.1 a.2 0),λa c b=>by
 simp at b;rw[jD Y b.1,b.2]⟩
def aiE:FU.Ok prog cx 130:=by refine iD [] (jz 131635 [] func130) (λm=>m.1.length+1) (by simp[FU]) ?_;rintro⟨d,e⟩ hl b k;simp[FU]at hl k|-;simp[f130];refine io d.length J (λc b f=>f=hE/\ka b 0 (sl (d.map T.str))/\ka b 1 (.str e)/\iS b 5 c/\uO (d.drop c) e c=uO d e 0) ?_ ?_ J (by simp[k]);rintro c b f l n ⟨rfl,g,j,h,a⟩;rw[aJ l,uO]at a;by_cases i:d[c]=e;rw[au i]at a;simp[g,j,h,l,i,<-a];rw[aq i]at a;simp[*];rintro b f ⟨rfl,g,j,h,a⟩;simp[uO]at a;simp[g,h,<-a]
def Sk{c:iq}(ht:c.p 130=G FU)(a:List (List Nat))(b:List Nat)(hl:a.length<=1099511627776):rl prog cx c 130 [sl (a.map T.str),.str b]=G (M (uO a b 0)):=iL ht aiE (a,b) hl
def xi:iF:=⟨Unit,λa=>[],λa=>True,λa=>sl (qp.map T.str),λa b c=>rfl⟩
def NA:xi.Ok prog cx 227:=by refine iD [] (jz 1 [] func227) (λb=>1) (by simp[xi]) ?_;rintro _ _ c a;simp[xi]at a|-;simp[f227,iW];rfl
def RW{a:iq}(ht:a.p 227=G xi):rl prog cx a 227 []=G (sl (qp.map T.str)):=iL ht NA () trivial
def UI:qp.length=22:=rfl
def zd:iF:=⟨List Nat,λa=>[.str a],λa=>True,λa=> .bool (xE a),λa c b=>by simp at b;rw[b]⟩
def Ln:zd.Ok prog cx 177:=by
 refine iD [(227,xi)] (jz 131613 [] func177) (λl=>23) (by simp[zd]) ?_;rintro(d:List Nat) _ b e;simp[zd]at e|-;simp[f177,RW];refine io qp.length (by rw[UI];omega) (λc b h=>h=hE/\ka b 0 (.str d)/\ka b 3 (sl (qp.map T.str))/\iS b 4 c/\(d∈qp.drop c↔d∈qp)) ?_ ?_ (by rw[UI];omega) (by simp[e]);rintro c b h k m ⟨rfl,g,i,j,a⟩;rw[(aJ k)]at a;by_cases f:qp[c]=d;simp[*,xE];rw[<-a,f];simp;simp[*];refine⟨λh=>a.1 (dw _ h),λh=>?_⟩;rcases List.mem_cons.1 (a.2 h)with h|h
 exact absurd h.symm f;exact h;rintro b h ⟨rfl,g,i,j,a⟩;simp[*,xE];simpa using a
def Ho{b:iq}(ht:b.p 177=G zd)(a:List Nat):rl prog cx b 177 [.str a]=G (.bool (xE a)):=iL ht Ln a trivial
def Cf:iF:=⟨List Nat,λa=>[.str a],λa=>True,λa=> .bool (xw a),λa c b=>by simp at b;rw[b]⟩
def TU:Cf.Ok prog cx 129:=by
 refine iD [(177,zd),(176,Ao),(178,FN)] (jz 4330618893 [] func129) (λv=>13) (by simp[Cf]) ?_;rintro(a:List Nat) _ f d;simp[Cf]at d|-;rcases a with _|⟨b,a⟩
 simp[f129,d,xw];have h:¬(a.length:Int)+1<1:=J;by_cases w:a.length+1<=12;have e:¬(12:Int)<(a.length:Int)+1:=J;cases j:ye b;simp[f129,d,h,e,j,Fc,xw,PI];cases o:xE (b::a)with
 |true=>simp[f129,d,h,e,j,o,Fc,Ho,xw,PI]
 |false=>
  have q:xw (b::a)=(b::a).all zI:=by simp[xw,o,PI,j];intro _ _;omega
  have⟨m,s⟩:∃m,m=(b::a).all zI:=⟨_,rfl⟩;rw[q,<-s];simp[f129,d,h,e,j,o,Fc,Ho];refine io (b::a).length dY (λl f n=>n=hE/\ka f 0 (.str (b::a))/\iS f 3 l/\((b::a).drop l).all zI=m) ?_ ?_ dY (by rw[s];simp[d]);rintro l f n p u ⟨rfl,g,i,c⟩;rw[aJ p,cA]at c;generalize t:(b::a)=r at*
  cases k:zI r[l]with
  |true=>rw[k,aZ]at c;simp[g,i,p,u,Vx,k,c]
  |false=>rw[k,dy]at c;simp[g,i,p,Vx,k,<-c]
  rintro f n ⟨rfl,g,i,c⟩;generalize t:(b::a)=r at*
  rw[cr]at c;simp[g,i,<-c]
 have e:(12:Int)<(a.length:Int)+1:=J;have q:xw (b::a)=false:=by simp[xw];omega
 simp[f129,d,h,e,q]
def tT{b:iq}(ht:b.p 129=G Cf)(a:List Nat):rl prog cx b 129 [.str a]=G (.bool (xw a)):=iL ht TU a trivial
