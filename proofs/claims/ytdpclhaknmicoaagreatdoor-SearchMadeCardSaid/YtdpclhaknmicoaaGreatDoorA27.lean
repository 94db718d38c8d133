/- W20m -/
import Derived.Test.YtdpclhaknmicoaaGreatDoorA26
set_option linter.all false
set_option maxRecDepth 100000
set_option maxHeartbeats 0
namespace Go.Proofs.YtdpclhaknmicoaaGreatDoor
noncomputable section
open Go Go.TI Tryz
attribute [-simp] List.map_take List.map_drop List.map_append ik gu fI Bool.not_or Bool.not_and
def Nl:iF:=⟨Unit,λ_=>[],λ_=>True,λ_=> .bool true,λ_ _ _=>rfl⟩
def Xn:Nl.Ok prog cx 5:=λ_ _=>WP
def Ox{a:iq}(ht:a.p 5=G Nl):rl prog cx a 5 []=G (.bool true):=iL ht Xn () trivial
def Aj:iF:=⟨fh×iv,λa=>[a.1.t,a.2.t],λa=>kO a.1/\a.2.jA.length<=1000000,λa=> .bool (a.1.gx.vR a.2),λa c b=>by simp at b;rw[fh.inj b.1,iv.inj b.2]⟩
def RY{b:iq}(ht:b.p 42=G zg)(a:fh)(c:kO a):rl prog cx b 42 [a.t]=G (.tuple [iT.t ⟨a,a.gx.st⟩,.bool true]):=iL ht Ru a c
def TC:Aj.Ok prog cx 15:=by
 refine iD [(42,zg),(43,B9)] (jz 127 [] func15) (λ_=>100) (by simp[Aj]) ?_;rintro⟨b,c⟩ ⟨a,hl⟩ e d
 dsimp at a hl
 simp[Aj]at d|-;simp[*,f15,RY,Yl,(⟨a,rfl⟩:Eb ⟨b,b.gx.st⟩)];exact GX.aig _ c
section
attribute [-simp] size_cons
def Qb{c:iq}(ht:c.p 15=G Aj)(b:fh)(a:iv)(d:kO b)(hl:a.jA.length<=1000000):rl prog cx c 15 [b.t,a.t]=G (.bool (b.gx.vR a)):=iL ht TC (b,a) ⟨d,hl⟩
def sr(b:fh)(c:fi)(a:Int):Bool:=jB a b.eZ.length&&decide (jn b c (mL b.eZ a).fa=a)
def rM(b:fh)(c:fi)(a:Int):Bool:=jB a b.eZ.length&&qh b c a
def Am:iF:=⟨fh×fi×Int,λa=>[a.1.t,a.2.1.t,M a.2.2],λa=>sH a.1 a.2.1,λa=> .bool (sr a.1 a.2.1 a.2.2),λa c b=>by simp at b;rw[show a=c from aD (fh.inj b.1) (aD (fi.inj b.2.1) b.2.2)]⟩
def TR:Am.Ok prog cx 106:=by refine iD [(49,vx)] (jz 95 [] func106) (λn=>5) (by simp[Am]) ?_;rintro⟨c,e,a⟩ (g:sH c e) u d;simp[Am]at d|-;cases b:jB a c.eZ.length;have s:=sU b;by_cases h:0<=a;simp[f106,d,sr,b,show decide (0<=a)=true by simpa using h,show decide (a<(c.eZ.length:Int))=false by simp;omega];simp[f106,d,sr,b,show decide (0<=a)=false by simpa using h];have⟨j,f,k,o,q,r⟩:=g.hw.at b;have⟨i,t⟩:=gG.1 b;have l:=λ{m:iq} (ht:m.p 49=G vx)=>Ki ht c e j.fa g;simp[f106,d,sr,b,show decide (0<=a)=true by simpa using i,show decide (a<(c.eZ.length:Int))=true by simp;omega,f,k,l,pF i f]
def Fb{d:iq}(ht:d.p 106=G Am)(b:fh)(a:fi)(c:Int)(e:sH b a):rl prog cx d 106 [b.t,a.t,M c]=G (.bool (sr b a c)):=iL ht TR (b,a,c) e
def Cc:iF:=⟨fh×fi×Int,λa=>[a.1.t,a.2.1.t,M a.2.2],λa=>sH a.1 a.2.1,λa=> .bool (rM a.1 a.2.1 a.2.2),λa c b=>by simp at b;rw[show a=c from aD (fh.inj b.1) (aD (fi.inj b.2.1) b.2.2)]⟩
def TN:Cc.Ok prog cx 105:=by
 refine iD [(106,Am),(48,qU)] (jz 95 [] func105) (λi=>5) (by simp[Cc]) ?_;rintro⟨a,b,c⟩ (h:sH a b) p g;simp[Cc]at g|-;have o:rM a b c=(sr a b c&&iO a b (mL a.eZ c).fa):=by unfold rM sr qh;rw[Bool.and_assoc]
 cases d:sr a b c;simp[*,f105,Fb];have e:jB c a.eZ.length:=by unfold sr at d;simp[aC]at d;exact d.1
 have⟨j,f,k,l,m,n⟩:=h.hw.at e;simp[*,f105,Fb,D0,pF (gG.1 e).1 f]
def Qe{d:iq}(ht:d.p 105=G Cc)(b:fh)(a:fi)(c:Int)(e:sH b a):rl prog cx d 105 [b.t,a.t,M c]=G (.bool (rM b a c)):=iL ht TN (b,a,c) e
def A1(c:fh)(a:fi)(b:Int):Bool:=sr c a b&&vU c a b
def nu(g:fh)(f:fi)(e:iv):Bool:=
 if e.kind=1 then rM g f e.a&&rM g f e.b
 else if e.kind=2 then e.jA.all (A1 g f)
 else if e.kind=3 then decide (f.order.getLast?=G e.b)&&decide (e.a∈f.order)&&pL f e.a
 else if e.kind=4 then decide (0<=place f e.a)&&decide (place f e.a<place f e.c)&&decide (e.d∈f.order)&&rM g f e.b
 else false
def y9:iF:=⟨fh×fi×iv,λa=>[a.1.t,a.2.1.t,a.2.2.t],λa=>sH a.1 a.2.1/\a.2.2.jA.length<=1000000,λa=> .bool (nu a.1 a.2.1 a.2.2),λa c b=>by simp at b;rw[show a=c from aD (fh.inj b.1) (aD (fi.inj b.2.1) (iv.inj b.2.2))]⟩
def Rh:y9.Ok prog cx 46:=by
 refine iD [(105,Cc),(106,Am),(58,oc),(55,wv)] (jz 332306998946231919705005790102318975 [] func46) (λax=>1000005) (by simp[y9]) ?_;rintro⟨h,d,c⟩ ⟨l,hl⟩ o j
 dsimp at l hl
 simp[y9]at j|-;have hE:=nu.eq_1 h d c;generalize nu h d c=R at*
 have D:=l.od;by_cases e:c.kind=1;rw[au e]at hE;simp[f46,j,show decide (c.kind=1)=true by simpa using e,Qe,l,hE];rw[aq e]at hE;have p:decide (c.kind=1)=false:=iC e;by_cases e:c.kind=2
 .rw[au e]at hE;have m:decide (c.kind=2):=iC e;simp[f46,j,p,m];refine io c.jA.length J (λi o u=>jk 3 u/\u.get 0=G (eg 15 0 [h.t])/\u.get 1=G (eg 9 0 [d.t])/\jg o 3 0/\jg o 4 1/\ka o 31 (sl (c.jA.map (T.int .i64)))/\iS o 32 c.jA.length/\iS o 33 i/\(c.jA.drop i).all (A1 h d)=R) ?_ ?_ J ⟨⟨Y,Y,Y⟩,Y,Y,by simp[hE]⟩
  .rintro i o u F ae ⟨n,x,y,z,B,A,v,w,f⟩;rw[aJ F,cA]at f;have X:A1 h d c.jA[i]=(sr h d c.jA[i]&&vU h d c.jA[i]):=rfl;rw[X]at f;have ar:=n.ne (b:=0) J;have s:=n.ne (b:=1) J;cases g:sr h d c.jA[i]with
   |false=>
    rw[g]at f;simp at f;simp[x,y,z,B,A,v,w,F,Fb,l,g,n.hp,f]
   |true=>
   rw[g,aZ]at f;have k:jB c.jA[i] h.eZ.length:=by unfold sr at g;simp[aC]at g;exact g.1
   have⟨r,E,U,aA,L,aE⟩:=l.hw.at k;have Z:vU h d c.jA[i]=(decide (jn h d r.fa=c.jA[i])&&(!decide (r.kind=17)||decide ((qu d.ig r.fa).jq=4))):=by
    unfold vU;rw[pF (gG.1 k).1 E]
   have ap:decide (jn h d r.fa=c.jA[i]):=by unfold sr at g;simp only[aC]at g;rw[pF (gG.1 k).1 E]at g;exact g.2
   rw[Z,ap,aZ]at f;have N:=l.hc.ft (py k);have⟨O,t1,t2,t3⟩:=xV N L;have al:decide ((d.ig.eY.length:Int)<=r.fa)=false:=by rw[(o8 N).2.2];have:=gG.1 L;simp;omega
   rw[t3]at f;simp[x,y,z,B,A,v,w,F,Fb,l,g,E,U,s,n.low,t1,t2,al];refine fO (λan=>?_) (λan=>?_);rw[show(!decide (r.kind=17)||decide (O.jq=4))=false by grind]at f;simp at f;simp[n.hp,f];rw[show(!decide (r.kind=17)||decide (O.jq=4))=true by grind]at f;simp at f;simp[x,y,z,B,A,v,w,ar,s,ae,n.cons,f]
  rintro o u ⟨n,x,y,z,B,A,v,w,f⟩;rw[cr]at f;simp at f;simp[v,w,n.hp,f]
 rw[aq e]at hE;have m:decide (c.kind=2)=false:=iC e;by_cases e:c.kind=3;rw[au e]at hE;have q:decide (c.kind=3):=iC e;have aX:d.pM.length=h.eZ.length:=l.hc.wk;rcases C:d.order.getLast? with _|P
 have ao:d.order=[]:=iC C;rw[C]at hE;simp at hE;simp[f46,j,p,m,q,ao,hE];have⟨s,H⟩:=PD C;rw[C]at hE;have av:decide (some P=G c.b)=decide (P=c.b):=Y;rw[av]at hE;have I:binop .sub (M (d.order.length:Int)) (M 1)=G (M ((d.order.length-1:Nat):Int)):=by rw[my J J,show(d.order.length:Int)-1=((d.order.length-1:Nat):Int)by omega]
 cases k:jB c.a d.pM.length;have aN:=sU k;have K:pL d c.a=false:=by unfold pL;rw[nQ k];rfl
 rw[K,Bool.and_false]at hE;by_cases g:0<=c.a;simp[f46,j,p,m,q,s,H,I,ph,D,show decide (0<=c.a)=true by simpa using g,show decide (c.a<(d.pM.length:Int))=false by simp;omega,hE];simp[f46,j,p,m,q,s,H,I,ph,D,show decide (0<=c.a)=false by simpa using g,hE];have⟨Q,V,W⟩:=jt k;have⟨p1,p2⟩:=gG.1 k;have K:pL d c.a=decide (Q=0):=by unfold pL;rw[W];simp
 rw[K]at hE;simp[f46,j,p,m,q,s,H,I,ph,D,show decide (0<=c.a)=true by simpa using p1,show decide (c.a<(d.pM.length:Int))=true by simp;omega,fZ p1,V,hE];rw[aq e]at hE;have q:decide (c.kind=3)=false:=iC e;by_cases e:c.kind=4;rw[au e]at hE;have S:decide (c.kind=4):=iC e;simp[f46,j,p,m,q,S,Kj,ph,Qe,l,D,hE];rfl;rw[aq e]at hE;simp[f46,j,p,m,q,show decide (c.kind=4)=false by simpa using e,hE]
def Vp{d:iq}(ht:d.p 46=G y9)(c:fh)(a:fi)(b:iv)(e:sH c a)(hl:b.jA.length<=1000000):rl prog cx d 46 [c.t,a.t,b.t]=G (.bool (nu c a b)):=iL ht Rh (c,a,b) ⟨e,hl⟩
def wx:iF:=⟨fh×fi×iv,λa=>[a.1.t,a.2.1.t,a.2.2.t],λa=>sH a.1 a.2.1/\a.2.2.jA.length<=1000000,λa=> .bool (nu a.1 a.2.1 a.2.2&&a.1.gx.vR a.2.2),λa c b=>by simp at b;rw[show a=c from aD (fh.inj b.1) (aD (fi.inj b.2.1) (iv.inj b.2.2))]⟩
def T4:wx.Ok prog cx 18:=by
 refine iD [(46,y9),(15,Aj)] (jz 127 [] func18) (λc=>5) (by simp[wx]) ?_;rintro⟨g,d,e⟩ ⟨a,hl⟩ f b
 dsimp at a hl
 simp[wx]at b|-;simp[*,f18,Vp,Qb,a.hw]
def Qg{d:iq}(ht:d.p 18=G wx)(b:fh)(c:fi)(a:iv)(e:sH b c)(hl:a.jA.length<=1000000):rl prog cx d 18 [b.t,c.t,a.t]=G (.bool (nu b c a&&b.gx.vR a)):=iL ht T4 (b,c,a) ⟨e,hl⟩
end
end
noncomputable section
open Go Go.TI
def Iv{c:Int}:∀{a:List Int} {b:Nat},c∈a->kV a c b<b+a.length:=by
 intro a;induction a with
 |nil=>simp
 |cons f a d=>intro b e;unfold kV;have:= @d (b+1);grind
def Bm{c d:Int}:∀{a:List Int} {b:Nat},kV (a++[d]) c b=if c∈a then kV a c b else if d=c then((b+a.length:Nat):Int)else-1:=by
 intro a;induction a with
 |nil=>intro b;simp[kV]
 |cons f a e=>intro b;simp only[aW,kV,e,cg,aU];grind
end
noncomputable section
open Go Go.TI Tryz
attribute [-simp] List.map_take List.map_drop List.map_append ik gu fI Bool.not_or Bool.not_and
section
attribute [-simp] size_cons List.map_map
abbrev FS{f:Type}(b:f->T)(g:∀d e,b d=b e->d=e):iF:=⟨List f,λa=>[sl (a.map b)],λa=>a.length<=1000000,λa=>sl (a.map b),λh i c=>by simp at c;rw[jD g c]⟩
def Ul{e:Type}{a:e->T}{v:∀c m,a c=a m->c=m}{d:Nat}{h:aj}(x:(kW OT (wE d) (sR d)).Ok prog cx h)(o:∀c,(a c).cells.length=d)(p:∀b:List e,om [sl (b.map a)])(q:∀j l (b:List e),Gr j l d (b.map a)->TI.qZ j l=G (sl (b.map a))):(FS a v).Ok prog cx h:=by
 rintro(b:List e) hl;have k:wE d ⟨sl (b.map a),b.map a⟩ [sl (b.map a)] ⟨0,0,[]⟩:=⟨rfl,Y,λB t=>by obtain⟨c,_,rfl⟩:=List.mem_map.1 t;exact o c,iC hl,⟨rfl,ay _,ay _⟩⟩;have⟨y,n,u,s⟩:=x [sl (b.map a)] ⟨0,0,[]⟩ ⟨_,k⟩;have⟨i,w,_⟩:=u _ k;have⟨z,f,g⟩:=eQ.1 (q _ _ _ i);simp[aw]at g;have f:kI n 0 y=G z:=by rcases i with⟨rfl,_⟩|⟨_,_,_,_,_,rfl,_⟩<;>exact f
 have:=Hn s w.ok.hp (az _) Y f;rw[g]at this;exact FZ (nl _ (p b)) Y this
def Bh:iF:=⟨List Int,λa=>[sl (iE a)],λa=>a.length<=1000000,λa=>sl ((a.map λc=>(⟨c,true⟩:gU)).map gU.t),λd e b=>by simp at b;rw[jD (λ_ _ b=>iC b) b]⟩
def Xe:Bh.Ok prog cx 45:=by refine iD [] (jz 7725 [] func45) (λ_=>1000005) (by simp[Bh]) ?_;rintro(a:List Int) hl c k;simp[Bh]at hl k|-;simp[f45,k,show a.length*16<=70368744177664 by omega];refine io a.length J (λg c e=>∃b,Gr e b 2 (((a.take g).map λb=>(⟨b,true⟩:gU)).map gU.t)/\jk 0 e/\ka c 3 b/\ka c 9 (sl (iE a))/\iS c 10 a.length/\iS c 11 g) ?_ ?_ J ?_;rintro g c e l o ⟨b,d,h,j⟩;have⟨p,n,m,i⟩:=d.oy (cx:=cx) (f:=gU.t) h BK rfl CU rfl Y (λ_=>rfl) ⟨a[g],true⟩ dY;simp[*];exact⟨by rw[aM l,List.map_append];exact i.1,⟨i.2.2.2.hp,i.2.2.2.low,az _⟩⟩;rintro c e ⟨b,d,h,j⟩;rw[aI]at d;simp[j,h.hp];rw[N9 b d.je,d.qZ Y];exact⟨.arr 0 0 0 0 false,.inr ⟨0,0,0,decide (0=a.length),[],Y,Y,Y⟩,⟨Y,Y,Y⟩,Y⟩
def Vw{b:iq}(ht:b.p 45=G Bh)(a:List Int)(hl:a.length<=1000000):rl prog cx b 45 [sl (iE a)]=G (sl ((a.map λc=>(⟨c,true⟩:gU)).map gU.t)):=iL ht Xe a hl
def Dt:iF:=⟨fh×fi,λa=>[a.1.t,a.2.t],λa=>True,λa=> .bool (decide (a.2.cells.length=a.1.gY.cells.length)&&decide (a.2.fR.length=a.1.gY.fR.length)&&decide (a.2.fixed.length=a.1.eZ.length)&&decide (a.2.pM.length=a.1.eZ.length)),λa c b=>by simp at b;rw[show a=c from aD (fh.inj b.1) (fi.inj b.2)]⟩
def Xi:Dt.Ok prog cx 47:=by refine iD [] (jz 31 [] func47) (λ_=>5) (by simp[Dt]) ?_;rintro⟨d,b⟩ _ c a;simp[Dt]at a|-;simp[f47,a,Int.natCast_inj]
def ace{c:iq}(ht:c.p 47=G Dt)(b:fh)(a:fi):rl prog cx c 47 [b.t,a.t]=G (.bool (decide (a.cells.length=b.gY.cells.length)&&decide (a.fR.length=b.gY.fR.length)&&decide (a.fixed.length=b.eZ.length)&&decide (a.pM.length=b.eZ.length))):=iL ht Xi (b,a) trivial
def Du:iF:=⟨iu,λa=>[a.t],λa=>a.fT.length<=1000000/\a.done.length<=1000000/\a.eY.length<=1000000/\∀c∈a.fT,c.gh.length<=1000000,λa=>a.t,λd e b=>by simp at b;rw[iu.inj b]⟩
def Xm:Du.Ok prog cx 44:=by have N:(FS (T.int .i64) (λ_ _ h=>iC h)).Ok prog cx 53:=Ul Gp (λ_=>rfl) (λ_=>by simp) (λ_ _ _ g=>g.qZ Y);have L:(FS T.bool (λ_ _ h=>iC h)).Ok prog cx 52:=Ul Gq (λ_=>rfl) (λ_=>by simp) (λ_ _ _ g=>g.qZ Y);have O:(FS fc.t (λ_ _ h=>fc.inj h)).Ok prog cx 104:=Ul Ly (λ_=>rfl) (λ_=>by simp) (λ_ _ _ g=>g.qZ Y);refine iD [(53,FS (T.int .i64) (λ_ _ h=>iC h)),(52,FS T.bool (λ_ _ h=>iC h)),(104,FS fc.t (λ_ _ h=>fc.inj h))] (jz 983087 [(1,[(1,4),(4,6),(1,7),(4,9),(7,9)]),(5,[(1,6),(3,6)])] func44) (λ_=>1000005) (by simp[Du]) ?_;rintro(a:iu) ⟨hl,E,I,hr⟩ e C;simp[Du]at C|-;have B:=λ{i:iq} (ht:i.p 53=G (FS (T.int .i64) (λ_ _ h=>iC h))) (d:List Int) (h:d.length<=1000000)=>iL ht N d h;have W:=λ{i:iq} (ht:i.p 52=G (FS T.bool (λ_ _ h=>iC h)))=>iL ht L a.done E;have eT:=λ{i:iq} (ht:i.p 104=G (FS fc.t (λ_ _ h=>fc.inj h)))=>iL ht O a.eY I;simp[*,f44];refine io a.fT.length J (λc e h=>∃j ver,rD h 2 4 ver [(j,some (2,(a.fT.take c).map fF.t)),(M a.tx,none),(sl (a.done.map T.bool),none),(sl (a.eY.map fc.t),none)]/\Lb 2 h 1 yS/\jg e 2 1/\jg e 3 2/\ka e 16 (sl (a.fT.map fF.t))/\iS e 17 a.fT.length/\iS e 18 c) ?_ ?_ J ?_;rintro c e h k D ⟨j,ver,b,l1,r⟩;have H:=hr a.fT[c] (aG k);have y:a.fT.take (c+1)=a.fT.take c++[a.fT[c]]:=aM k;have o:=λ{i:iq} (ht:i.p 53=G (FS (T.int .i64) (λ_ _ h=>iC h)))=>B ht a.fT[c].gh H;have⟨d,s⟩:∃d,d=a.fT[c]:=⟨_,rfl⟩;rw[<-s]at y o;have K:(2=h.size)=False:=uC b.lt;have l:=b.cons (eg 2 1 [d.t]);have V:=Step.cons b.ok b.lt (eg 2 1 [d.t]);have⟨al,Z,n,m⟩:=(l.gr 0 rfl).oy (cx:=cx) (f:=fF.t) l.ok On rfl J9 rfl Y (λ_=>rfl) d dY;rw[size_cons]at n;have⟨u,ae,Q⟩:=l.app 0 rfl m;have⟨x,v⟩:=Q _ rfl;have q:=b.get;simp[aS,bR,cS]at u x v q;simp[r,k,b.ok.low,<-s,K,o,q,n,u,fN,m.1.je,m.1.cells,D];exact⟨⟨_,_,y▸v⟩,(l1.step V).step x⟩;rintro e h ⟨j,ver,b,l1,r⟩;rw[aI]at b;have g:=b.get;simp[aS,bR]at g;have A:=l1.get;unfold yS at A;have U:=b.uB l1 (eg 4 1 [.agg [j,M a.tx,sl (a.done.map T.bool),sl (a.eY.map fc.t)]]);have X:=(fj l1.get (eg 4 1 [.agg [j,M a.tx,sl (a.done.map T.bool),sl (a.eY.map fc.t)]]) 1).trans (au rfl);have z:=(U.gr 0 rfl).fz Y;simp[*,fN,b.ok.hp];have⟨R,S⟩:=rD.start (h:=(((hE.cons (eg 4 0 [a.t])).cons yS).cons (eg 4 1 [.agg [ed,M a.tx,sl (a.done.map T.bool),sl (a.eY.map fc.t)]]))) (w:=2) (szw:=4) (ver:=1) (F:=[(ed,some (2,[])),(M a.tx,none),(sl (a.done.map T.bool),none),(sl (a.eY.map fc.t),none)]) (by exact⟨rfl,Y,Y⟩) Y Y;exact⟨_,1,R,⟨by simp[yS],λP=>iV (S _ P)⟩,Y⟩
def acg{b:iq}(ht:b.p 44=G Du)(a:iu)(c:a.fT.length<=1000000/\a.done.length<=1000000/\a.eY.length<=1000000/\∀d∈a.fT,d.gh.length<=1000000):rl prog cx b 44 [a.t]=G a.t:=iL ht Xm a c
def Ca:iF:=⟨fh,λa=>[a.t],λa=>kO a,λa=>(jv a).t,λc d b=>by simp at b;rw[fh.inj b]⟩
def TJ:Ca.Ok prog cx 17:=by
 refine iD [(44,Du),(45,Bh)] (jz 7 [(1,[(3,6),(3,10),(7,10),(3,13),(7,13),(11,13),(3,15),(7,15),(11,15),(3,17),(7,17),(11,17),(3,19),(7,19),(11,19)])] func17) (λ_=>20) (by simp[Ca]) ?_;rintro(a:fh) e u i;simp[Ca]at i|-;have⟨l1,l2,l3,l4,l5,l6⟩:=e.sm.l;have o:=e.ok.len;have k:a.eZ.length<=70368744177664:=J;have m:a.eZ.length*8<=70368744177664:=J;have n:=λ{d:iq} (ht:d.p 44=G Du)=>acg ht a.mP.ig ⟨J,J,J,λj c=>iV (e.sm.r j c)⟩;have q:=λ{d:iq} (ht:d.p 45=G Bh)=>Vw ht a.mP.cells J;have s:=λ{d:iq} (ht:d.p 45=G Bh)=>Vw ht a.mP.fR J;have g:jv a=⟨a.mP.ig,a.mP.cells.map λf=>⟨f,true⟩,a.mP.fR.map λf=>⟨f,true⟩,[],List.replicate a.eZ.length false,List.replicate a.eZ.length 0⟩:=rfl;rw[g];have v:∀h:H,h.get 2=G ⟨1,0,0,true,false,List.replicate a.eZ.length (T.bool false)⟩->TI.fz h (.arr 2 0 0 a.eZ.length false)=G (sl ((List.replicate a.eZ.length false).map T.bool)):=λh c=>by
  have:=(Gr.new (h:=h) (b:=2) (sz:=1) (ep:=0) (es:=(List.replicate a.eZ.length false).map T.bool) (iC c)).fz Y;simpa using this
 have w:∀h:H,h.get 3=G ⟨1,0,0,true,false,List.replicate a.eZ.length (T.int .i64 0)⟩->TI.fz h (.arr 3 0 0 a.eZ.length false)=G (sl ((List.replicate a.eZ.length (0:Int)).map (T.int .i64))):=λh c=>by
  have:=(Gr.new (h:=h) (b:=3) (sz:=1) (ep:=0) (es:=(List.replicate a.eZ.length (0:Int)).map (T.int .i64)) (iC c)).fz Y;simpa using this
 simp[-yh, *,f17];unfold fi.t fi.cs;simp
def Yn{b:iq}(ht:b.p 17=G Ca)(a:fh)(c:kO a):rl prog cx b 17 [a.t]=G (jv a).t:=iL ht TJ a c
end
section
attribute [-simp] size_cons
def rG{a b:Nat}(c:a<b)(d:b<=16):binop .add (M (a:Int)) (M 1)=G (M ((a:Int)+1)):=jr J J 
def Gr.ajn{a:H}{h:Nat->Prop}{g:T}{j c:Nat}{d e:List T}(f:Gr a g j d)(i:c<=11)(b:jw (FT a h c) d e):TI.qZ a g=G (sl e):=by
 have:=f.JT i b;rcases f with⟨rfl,rfl⟩|⟨k,l,p,m,q,rfl,n,o⟩
 cases b;rfl;rwa[XO]
def afQ{b:fh}{a:Nat}(c:a<b.eZ.length):b.gx.e (a:Int)=b.eZ[a]:=by unfold GX.e mL so fh.gx;simp[c]
def Fh.nb{l:fh}{i j:H}{k:T}{f:List T}{h:List iv}(b:Fh l i k f h)(c:Nb i j):Fh l j k f h:=by have o:=b.ok.sz;have p:=c.ok.sz;exact⟨b.g.mono λe d=>by have⟨_,_,_,_,n,_⟩:=b.g.box d;exact c.get e (H.fV n),b.a.imp λ_ _ m=>m.mono λe d=>⟨⟨d.1,J,d.2.2⟩,c.get e d.2.1⟩,⟨c.ok.hp,c.ok.low,J⟩,(c.get 0 J).trans b.b0,b.v0⟩
def h1E:H:=hE.cons (eg 0 0 [])
def gcT(a:T):T:= .agg [M 2,M 0,M 0,M 0,M 0,a]
def Fh.MU{j:fh}{f b:H}{g i a:T}{e:List T}{h:List iv}{c:List Int}(o:Fh j f g e h)(p:MM h1E f g a c)(k:Xt f g 6 (e++[gcT a]) i b):Fh j b i (e++[gcT a]) (h++[gC c]):=by refine o.step k (.cons (.inr (.inr ⟨_,_,rfl,.cons (jh ..) (.cons (jh ..) (.cons (jh ..) (.cons (jh ..) (.cons (jh ..) (.cons (?_:FT b _ 3 a (sl (DI c))) .nil))))),rfl⟩)) .nil);have r2:=p.xt k;exact(show rx b 1 a (DI c)from .inr r2.1).ft (d:=1) (λr n=>by obtain⟨q,_,rfl⟩:=List.mem_map.1 n;simp) λl m=>r2.2 l m
def TZ:An.Ok prog cx 14:=by
 refine AO (tb:=⟨pt [(41,FV)],ht [(39,kW IPt Zr Jr),(40,kW ICy (λI m s=>Td I m s/\5-I.p.length<6) Nq)]⟩) ml kl (jz 43282986612756070113897410875122319359 [] func14) (λ_=>10000) (by simp[An]) nl9 ?_;rintro(b:fh) Q c bW;replace Q:kO b:=Q;simp[An]at bW|-;have U:=Q.ok.len;have⟨n,dn⟩:∃n,n=b.eZ.length:=⟨_,rfl⟩;have ap:b.gx.pW=((kM 0 n).flatMap λ(m:Nat)=>(kM 0 n).flatMap λ(d:Nat)=>mr b.gx.vR (gR m d))++(((kM 0 n).flatMap λ(m:Nat)=>(b.gx.Hf m).map gC)++(((kM 0 n).flatMap λ(m:Nat)=>(kM 0 n).flatMap λ(d:Nat)=>mr b.gx.vR (gL m d))++
  ((kM 0 n).flatMap λ(m:Nat)=>(kM (m+1) n).flatMap λ(d:Nat)=>if(b.gx.e m).fa=(b.gx.e d).fa/\pz (b.gx.e m)/\pz (b.gx.e d)=true then(kM 0 n).flatMap λ(o:Nat)=>(kM o n).flatMap λ(z:Nat)=>mr b.gx.vR (gA m d o z)else []))):=by
  unfold GX.pW;rw[show b.gx.n=n from dn.symm,M0];simp[aO]
 generalize c6:((kM 0 n).flatMap λ(m:Nat)=>(kM (m+1) n).flatMap λ(d:Nat)=>if(b.gx.e m).fa=(b.gx.e d).fa/\pz (b.gx.e m)/\pz (b.gx.e d)=true then(kM 0 n).flatMap λ(o:Nat)=>(kM o n).flatMap λ(z:Nat)=>mr b.gx.vR (gA m d o z)else [])=aX at ap;generalize c4:((kM 0 n).flatMap λ(m:Nat)=>(kM 0 n).flatMap λ(d:Nat)=>mr b.gx.vR (gL m d))++aX=aN at ap;generalize c1:((kM 0 n).flatMap λ(m:Nat)=>(b.gx.Hf m).map gC)++aN=bs at ap;have dm:(b.eZ.length:Int)=n:=J;simp[f14,bW,dm];refine u5 n (λk c s=>∃h l j,Fh b s h l j/\j++(((kM k n).flatMap λ(m:Nat)=>(kM 0 n).flatMap λ(d:Nat)=>mr b.gx.vR (gR m d))++bs)=b.gx.pW/\jg c 1 0/\ka c 3 h/\iS c 4 n/\iS c 5 k) ?_ J (k:=0) J ?_;rintro k c s bn ⟨h,l,j,i,f,u,w,q,t⟩;by_cases A:k<n;have L:=rG A J;rw[p9 A,bh,aO]at f;simp[q,t,A];refine u5 n (λv c s=>∃h l j,Fh b s h l j/\j++(((kM v n).flatMap λ(d:Nat)=>mr b.gx.vR (gR k d))++(((kM (k+1) n).flatMap λ(m:Nat)=>(kM 0 n).flatMap λ(d:Nat)=>mr b.gx.vR (gR m d))++bs))=b.gx.pW/\jg c 1 0/\ka c 3 h/\iS c 4 n/\iS c 5 k/\iS c 6 v) ?_ J (k:=0) J ⟨h,l,j,i,f,by simp[u,w,q,t]⟩;rintro v c s bZ ⟨h,l,j,i,f,u,w,q,t,B⟩;have T:=i.len U f;by_cases C:v<n;have S:=rG C J;rw[p9 C,bh,aO,<-aO]at f;simp[u,w,q,t,B,C,i.b0];refine jy Jx Y ⟨b,gR k v,h,l⟩ ⟨rfl,i.g,⟨i.ok.hp,i.ok.low,az _⟩,Q,T,rfl⟩ ?_;rintro r K x;have⟨G8,F⟩:=i.put rfl x;simp[u,q,t,B,S];exact⟨v+1,J,J,r,G8,_,F,f,rfl,Y⟩;rw[rE (show n<=v by omega)]at f;simp[u,w,q,t,B,C,L];exact⟨k+1,J,J,h,l,j,i,f,rfl,Y⟩;rw[rE (show n<=k by omega)]at f;simp[q,t,A];clear A t;rw[<-c1]at f;refine u5 n (λk c s=>∃h l j,Fh b s h l j/\j++(((kM k n).flatMap λ(m:Nat)=>(b.gx.Hf m).map gC)++aN)=b.gx.pW/\jg c 1 0/\ka c 3 h/\iS c 4 n/\iS c 7 k) ?_ J (k:=0) J ⟨h,l,j,i,iC f,by simp[u,w,q]⟩;rintro k c s bn ⟨h,l,j,i,f,u,w,q,t⟩;by_cases A:k<n;have L:=rG A J;rw[p9 A,bh,aO]at f;simp[u,q,t,A,i.b0];have ey:=i.ok.sz;have b8:=i.ok.cons (eg 1 0 [M k]);refine jy (ae1 6) Y ⟨b,[(k:Int)],.arr s.size 0 0 1 false,ed,[]⟩ ⟨⟨rfl,.inr ⟨s.size,0,0,true,[M k],rfl,Y,rfl⟩,Gr.nil _ _,λd D=>by simp,⟨b8.hp,b8.low,az _⟩,Q,Y,Y,λy Z=>?_,?_⟩,Y⟩ ?_;rw[List.mem_singleton.1 Z];exact gG.2 ⟨J,dZ⟩;have:=J6 (n:=b.gx.ev.length) U (ok:=λaA=>b.gx.vR (gC aA)) (go:=λaA v=> !decide (v∈aA)&&b.gx.r8 v (yC aA)) 3 [(k:Int)];exact aV (Nat.add_le_add_left (show _<=4913 from this) 0) J;rintro V K ⟨al,x,ao⟩;replace ao:jw (MM (s.cons (eg 1 0 [M k])) K V) al (b.gx.Hf k):=ao;have et:(b.gx.Hf k).length<=4913:=J6 (show b.gx.ev.length<=16 from U) 3 _;generalize b.gx.Hf k=W at*
 have ef:=x.2.2.2.sz;simp at ef;have ds:Nb s K:=⟨⟨x.2.2.2.hp,x.2.2.2.low,J⟩,λo ar=>(x.2.1 o dY Y).trans d2⟩;have F:=i.nb ds;have ca:∀d,fD h=G d->d<s.size:=λd D=>by have⟨_,_,_,_,Z,_⟩:=i.g.box D;exact H.fV Z
 have b7:=ao.length;have X:jw (MM h1E K h) al W:=ao.imp λa7 E y=>⟨y.1,λo ar=>⟨by have:=(y.2 o ar).1;simp at this;show 1<=o;omega,(y.2 o ar).2.1,λbr=>by have:=(y.2 o ar).1;have:=ca o br;simp at*;omega⟩⟩;simp;have R:=x.1;have N:∀d,fD V=G d->d<K.size/\fD h≠some d:=λd D=>⟨by have⟨_,_,_,_,Z,_⟩:=x.1.box D;exact H.fV Z,λbr=>(x.2.2.1 d D).elim Y (λE=>by have:=ca d br;simp at E;omega)⟩;refine io W.length J (λI c s=>∃h l j,Fh b s h l j/\j++((W.drop I).map gC++(((kM (k+1) n).flatMap λ(m:Nat)=>(b.gx.Hf m).map gC)++aN))=b.gx.pW/\Gr s V 1 al/\(∀d,fD V=G d->d<s.size/\fD h≠some d)/\jw (MM h1E s h) al W/\jg c 1 0/\ka c 3 h/\iS c 4 n/\iS c 7 k/\ka c 8 V/\iS c 9 I) ?_ ?_ J ⟨h,l,j,F,f,R,N,X,by simp[u,w,q,t]⟩;rintro I c s bi di ⟨h,l,j,i,f,R,N,X,u,w,q,t,P,a8⟩;have T:=i.len U f;rw[aJ bi,aS,aW,<-dQ,<-aO]at f;have⟨a7,dk,aE⟩:=X.get (k:=I) (y:=W[I]) (aF bi);have ae:=λu:H=>R.len (cx:=cx) u Fx _ rfl;rw[b7]at ae;have⟨b9,cp,cL⟩:=(show rx s 1 V al from .inr R).idx (te:=uu) rfl rfl dk aE.1.cells;have ea:jk 0 s:=⟨i.ok.hp,i.ok.low,az _⟩;have⟨ee,K,bN,an⟩:=i.g.yv (cx:=cx) ea U3 rfl U4 rfl Y (x:=gcT a7) rfl dY;have F:=i.MU aE an;unfold gcT at bN;have eu:=i.ok.low;simp[u,w,q,t,P,a8,ae,bi,cp,cL,aE.1.je,aE.1.cells,bN,di];rw[aO]at f;exact⟨ee,l++[gcT a7],j++[gC W[I]],F,iC f,R.mono λd D=>an.2.1 d (N d D).1 (N d D).2,λd D=>⟨by have:=an.2.2.2.sz;have:=(N d D).1;omega,λE=>(an.2.2.1 d E).elim (N d D).2 (iV (N d D).1)⟩,X.imp λ_ _ y=>y.xt an,rfl⟩;rintro c s ⟨h,l,j,i,f,R,N,X,u,w,q,t,P,a8⟩;have ae:=λu:H=>R.len (cx:=cx) u Fx _ rfl;rw[b7]at ae;simp[u,w,q,t,P,a8,ae,L];refine⟨k+1,J,J,h,l,j,i,iC f,rfl,Y⟩;rw[rE (show n<=k by omega)]at f;simp[q,t,A];rw[<-c4]at f;refine u5 n (λk c s=>∃h l j,Fh b s h l j/\j++(((kM k n).flatMap λ(m:Nat)=>(kM 0 n).flatMap λ(d:Nat)=>mr b.gx.vR (gL m d))++aX)=b.gx.pW/\jg c 1 0/\ka c 3 h/\iS c 4 n/\iS c 10 k) ?_ J (k:=0) J ⟨h,l,j,i,iC f,by simp[u,w,q]⟩;rintro k c s bn ⟨h,l,j,i,f,u,w,q,t⟩;by_cases A:k<n;have L:=rG A J;rw[p9 A,bh,aO]at f;simp[q,t,A];refine u5 n (λv c s=>∃h l j,Fh b s h l j/\j++(((kM v n).flatMap λ(d:Nat)=>mr b.gx.vR (gL k d))++(((kM (k+1) n).flatMap λ(m:Nat)=>(kM 0 n).flatMap λ(d:Nat)=>mr b.gx.vR (gL m d))++aX))=b.gx.pW/\jg c 1 0/\ka c 3 h/\iS c 4 n/\iS c 10 k/\iS c 11 v) ?_ J (k:=0) J ⟨h,l,j,i,f,by simp[u,w,q,t]⟩;rintro v c s bZ ⟨h,l,j,i,f,u,w,q,t,B⟩;have T:=i.len U f;by_cases C:v<n;have S:=rG C J;rw[p9 C,bh,aO,<-aO]at f;simp[u,w,q,t,B,C,i.b0];refine jy Jx Y ⟨b,gL k v,h,l⟩ ⟨rfl,i.g,⟨i.ok.hp,i.ok.low,az _⟩,Q,T,rfl⟩ ?_;rintro r K x;have⟨G8,F⟩:=i.put rfl x;simp[u,q,t,B,S];exact⟨v+1,J,J,r,G8,_,F,f,rfl,Y⟩;rw[rE (show n<=v by omega)]at f;simp[u,w,q,t,B,C,L];exact⟨k+1,J,J,h,l,j,i,f,rfl,Y⟩;rw[rE (show n<=k by omega)]at f;simp[q,t,A];rw[<-c6]at f;refine u5 n (λk c s=>∃h l j,Fh b s h l j/\j++((kM k n).flatMap λ(m:Nat)=>(kM (m+1) n).flatMap λ(d:Nat)=>if(b.gx.e m).fa=(b.gx.e d).fa/\pz (b.gx.e m)/\pz (b.gx.e d)=true then(kM 0 n).flatMap λ(o:Nat)=>(kM o n).flatMap λ(z:Nat)=>mr b.gx.vR (gA m d o z)else [])=b.gx.pW/\jg c 1 0/\ka c 3 h/\iS c 4 n/\iS c 12 k) ?_ J (k:=0) J ⟨h,l,j,i,iC f,by simp[u,w,q]⟩;rintro k c s bn ⟨h,l,j,i,f,u,w,q,t⟩;by_cases A:k<n;have L:=rG A J;rw[p9 A,bh]at f;simp[q,t,A,L];generalize c9:((kM (k+1) n).flatMap λ(m:Nat)=>(kM (m+1) n).flatMap λ(d:Nat)=>if(b.gx.e m).fa=(b.gx.e d).fa/\pz (b.gx.e m)/\pz (b.gx.e d)=true then(kM 0 n).flatMap λ(o:Nat)=>(kM o n).flatMap λ(z:Nat)=>mr b.gx.vR (gA m d o z)else [])=bA at f;refine u5 n (λv c s=>k<v/\∃h l j,Fh b s h l j/\j++(((kM v n).flatMap λ(d:Nat)=>if(b.gx.e k).fa=(b.gx.e d).fa/\pz (b.gx.e k)/\pz (b.gx.e d)=true then(kM 0 n).flatMap λ(o:Nat)=>(kM o n).flatMap λ(z:Nat)=>mr b.gx.vR (gA k d o z)else [])++bA)=b.gx.pW/\jg c 1 0/\ka c 3 h/\iS c 4 n/\iS c 12 k/\iS c 13 v) ?_ J (k:=k+1) J ⟨J,h,l,j,i,f,by simp[u,w,q,t]⟩;rintro v c s bZ ⟨eo,h,l,j,i,f,u,w,q,t,B⟩;by_cases C:v<n;have S:=rG C J;have b6:k<b.eZ.length:=J;have bX:v<b.eZ.length:=J;rw[p9 C,bh,aO]at f;generalize bT:((kM (v+1) n).flatMap λ(d:Nat)=>if(b.gx.e k).fa=(b.gx.e d).fa/\pz (b.gx.e k)/\pz (b.gx.e d)=true then(kM 0 n).flatMap λ(o:Nat)=>(kM o n).flatMap λ(z:Nat)=>mr b.gx.vR (gA k d o z)else [])++bA=bu at f;rw[afQ b6,afQ bX]at f;simp[u,q,t,B,C,i.b0,b6,bX,Kk];refine fO (λE=>?_) (λE=>?_);rw[aq (by rintro⟨b9,eb,ec⟩;simp[b9,eb,ec]at E)]at f;simp[u,w,q,t,B,S];rw[bJ,<-bT]at f;exact⟨v+1,J,J,J,h,l,j,i,f,rfl,Y⟩;rw[au (by simp at E;exact⟨E.1.1,E.1.2,E.2⟩)]at f;simp;refine u5 n (λo c s=>∃h l j,Fh b s h l j/\j++(((kM o n).flatMap λ(o:Nat)=>(kM o n).flatMap λ(z:Nat)=>mr b.gx.vR (gA k v o z))++bu)=b.gx.pW/\jg c 1 0/\ka c 3 h/\iS c 4 n/\iS c 12 k/\iS c 13 v/\iS c 14 o) ?_ J (k:=0) J ⟨h,l,j,i,f,by simp[u,w,q,t,B]⟩;rintro o c s eh ⟨h,l,j,i,f,u,w,q,t,B,O⟩;by_cases av:o<n;have dd:=rG av J;rw[p9 av,bh,aO]at f;simp[q,O,av];generalize c7:((kM (o+1) n).flatMap λ(o:Nat)=>(kM o n).flatMap λ(z:Nat)=>mr b.gx.vR (gA k v o z))++bu=cb at f;refine u5 n (λz c s=>∃h l j,Fh b s h l j/\j++(((kM z n).flatMap λ(z:Nat)=>mr b.gx.vR (gA k v o z))++cb)=b.gx.pW/\jg c 1 0/\ka c 3 h/\iS c 4 n/\iS c 12 k/\iS c 13 v/\iS c 14 o/\iS c 15 z) ?_ J (k:=o) J ⟨h,l,j,i,f,by simp[u,w,q,t,B,O]⟩;rintro z c s ej ⟨h,l,j,i,f,u,w,q,t,B,O,P⟩;have T:=i.len U f;by_cases ax:z<n;have de:=rG ax J;rw[p9 ax,bh,aO,<-aO]at f;simp[u,w,q,t,B,O,P,ax,i.b0];refine jy Jx Y ⟨b,gA k v o z,h,l⟩ ⟨rfl,i.g,⟨i.ok.hp,i.ok.low,az _⟩,Q,T,rfl⟩ ?_;rintro r K x;have⟨G8,F⟩:=i.put rfl x;simp[u,q,t,B,O,P,de];exact⟨z+1,J,J,r,G8,_,F,f,rfl,Y⟩;rw[rE (show n<=z by omega)]at f;simp[u,w,q,t,B,O,P,ax,dd];exact⟨o+1,J,J,h,l,j,i,c7▸f,rfl,Y⟩;rw[rE (show n<=o by omega)]at f;simp[u,w,q,t,B,O,av,S];exact⟨v+1,J,J,J,h,l,j,i,bT▸f,rfl,Y⟩;rw[rE (show n<=v by omega)]at f;simp[u,w,q,t,B,C,L];exact⟨k+1,J,J,h,l,j,i,c9▸f,rfl,Y⟩;rw[rE (show n<=k by omega)]at f;simp[w,q,t,A];rw[df,cq]at f;rw[N9 h i.g.je,Gr.ajn i.g J i.a,f];exact⟨i.ok.hp,rfl⟩;exact⟨ed,[],[],⟨Gr.nil _ _,.nil,by exact⟨Y,Y,Y⟩,Y,Y⟩,ap.symm,Y⟩
structure Fm(h h':H)(bl:Nat)(v v':T):Prop where
 ok:jk h.size h'
 fr:∀c,c<h.size->c≠bl->fD v≠some c->h'.get c=h.get c
 bx:∀c,fD v'=G c->fD v=G c\/h.size<=c
def Fm.nb{a b:H}{e:Nat}{d:T}(c:Nb a b):Fm a b e d d:=⟨c.ok,λf g _ _=>c.get f g,λ_ h=> .inl h⟩
def Fm.out{h c:H}{d:Nat}{e f:T}(a:Fm (TI.hr h) c d e f):Fm h (mV h c) d e f:=⟨⟨(a.ok.out h).hp,(a.ok.out h).low,iC a.ok.sz⟩,λb j g i=>(iJ h c b).trans ((a.fr b (iC j) g i).trans (iZ h b)),λb k=>iC (a.bx b k)⟩
@[simp]def agk (b:aj) (a:List T):(T.func b a).cells=[.func b a]:=a9
@[simp]def ahl (b:aj) (a:List T):(T.func b a).je=true:=a9
def Lz:(kW OT (wE 2) (sR 2)).Ok prog cx 51:=yn (uk (fn:=f51) (t:=67) (tb:=4) (te:=yA) kl func51 em em em em em em em) d6 (bytes:=16) d6 
def Ff{cx:Ctx}{sz:Nat}{e g:ab}{i b:Ty}(k:cx.ty e=G i)(l:i.u= .slice g)(m:cx.ty g=G b)(d:b.size=sz)(p:1<=b.bytes){es:List T}(o:∀a∈es,a.cells.length=sz)(q:(es.length+1)*b.bytes<=70368744177664){c:H}{j a:T}(h:a.cells.length=sz)
 (n:∀f,f≠ []->(c.cons (eg sz 0 [a])).append b.size b.bytes j f=(c.cons (eg sz 0 [a])).ku b.size b.bytes es f):jE cx (c.cons (eg sz 0 [a])) e e j (.arr c.size 0 0 1 false)=be (.arr (c.size+1) 0 0 (es.length+1) false) ((c.cons (eg sz 0 [a])).cons ⟨sz,0,0,false,false,es++[a]⟩):=by
 unfold jE tu pP;rw[k,fw,fw];simp[l,m,fw];rw[iW];simp[fH,fw,List.drop_zero,dH,aU,cW];simp[iP,nD (sz:=b.size) (es:=[a]) (by rw[d];simpa using h),n [a] Y];unfold H.ku;rw[sd,fw,kQ,jx,fw,nD (sz:=b.size) (d▸o),nD (sz:=b.size) (es:=[a]) (by rw[d];simpa using h)];simp[*,kJ]
def Ya{cx:Ctx}{sz:Nat}{m p:ab}{n f:Ty}(q:cx.ty m=G n)(g:n.u= .slice p)(h:cx.ty p=G f)(k:f.size=sz)(r:1<=f.bytes)(e:List T)(j:∀d∈e,d.cells.length=sz)(s:(e.length+1)*f.bytes<=70368744177664):
 ∃t:T,(∀a,Im cx a n (sl e) none (some e.length) (some e.length)=be t a)/\∀(a:H) (d:T),d.cells.length=sz->jE cx (a.cons (eg sz 0 [d])) m m t (.arr a.size 0 0 1 false)=be (.arr (a.size+1) 0 0 (e.length+1) false) ((a.cons (eg sz 0 [d])).cons ⟨sz,0,0,false,false,e++[d]⟩):=by
 rcases e with _|⟨c,b⟩;exact⟨ed,λa=>by unfold Im jL;simp[g,h];rfl,λa d i=>Ff q g h k r j s i λo l=>by cases o with|nil=>exact absurd rfl l|cons=>rfl⟩;refine⟨.fg (c::b) true,λa=>?_,λa d i=>Ff q g h k r j s i λo l=>by cases o with|nil=>exact absurd rfl l|cons=>rfl⟩;unfold Im jL;simp[g,h];show iX (fits f.size (c::b)) (iX true (val a (sJ (c::b) false 0 (c::b).length (some (c::b).length))))=_;rw[k,nD j,iP,iP];unfold sJ;rw[P1 _ _ _ (az _) (ay _),fw,show Nat.ble 0 (c::b).length=true by simp,iP,List.drop_zero,Nat.sub_zero,aI];show val a (iX (Nat.beq (c::b).length (c::b).length) (some (.fg (c::b) true)))=_;simp
def JM(b:Nat)(c:fi)(a:H):Prop:=∃i d e f g h,rD a b 9 i (qS c d e f g h)/\Lb b a 3 sw
def Of(a b:gU):I2 cx yA a.t b.t=G (decide (a=b)):=by obtain⟨c,e⟩:=a;obtain⟨d,f⟩:=b;show I2 cx yA (.agg [M c,.bool e]) (.agg [M d,.bool f])=_;rw[BE rfl rfl];simp only[tR,I3,CS,fw,show Wz.u= .bool from rfl,show KK.u= .int .i64 from rfl,Dx,F9,iP,BI,ED];simp only[C2,decide_true,iP,gU.mk.injEq];by_cases g:c=d<;>cases e<;>cases f<;>simp[g]
def NM(c d:ah)(b:gU)(a:T):zu c d b.t a=true:=a9
def L9{a:List gU}{b c:Int}{d:gU}(e:so a b=G d):fixC a b c=decide (d=⟨c,true⟩):=by unfold fixC;rw[e];simp
def Py{b c:H}(d:Nb b c):b.size<=c.size/\jk 0 c/\(∀a,a<b.size->c.get a=b.get a)/\∀a,a<b.size->il b c a=true:=⟨d.ok.sz,⟨d.ok.hp,d.ok.low,az _⟩,d.get,λa e=>iw (d.get a e)⟩
def Bg:iF:=⟨fh×fi×fG,λa=>[a.1.t,a.2.1.t,a.2.2.t],λa=>sH a.1 a.2.1/\iO a.1 a.2.1 a.2.2.fa/\ET 4 a.2.1.ig,λa=> .tuple [(jp a.1 a.2.1 a.2.2).1.t,.bool true],λa c b=>by simp at b;rw[show a=c from aD (fh.inj b.1) (aD (fi.inj b.2.1) (fG.inj b.2.2))]⟩
def W7:Bg.Ok prog cx 20:=by
 refine AO (tb:=⟨pt [(47,Dt),(48,qU),(49,vx),(54,wy),(50,wD)],ht [(51,kW OT (wE 2) (sR 2)),(52,kW OT (wE 1) (sR 1)),(53,kW OT (wE 1) (sR 1))]⟩) ml kl (jz 2954892465099842490915138798468358981925535743 [(8,[(0,3),(3,5),(0,6),(3,8),(6,8),(3,10),(6,10),(3,13),(6,13),(3,15),(6,15),(3,17),(6,17),(0,18),(3,20),(6,20),(18,20),(0,21),(3,23),(6,23),(18,23),(21,23),(0,24),(3,26),(6,26),(18,26),(21,26),(24,26)])] func20) (λ_=>100) (by simp[Bg]) nl9 ?_;rintro⟨w,d,e⟩ ⟨k,bs,e5⟩ C ae;simp only at k bs e5;simp[Bg]at ae|-;obtain⟨gy,cL,eU⟩:=ae;have ej:=jp.eq_1 w d e;rw[au bs]at ej;have hE:=iO.eq_1 w d e.fa;have e0:¬jn w d e.fa<0:=λq=>by rw[au q,bs]at hE;simp at hE
 rw[aq e0,bs]at hE;have bu:=qV e0;have⟨c,ee,a8,h4,h5,cp⟩:=k.hw.at bu;rw[pF (gG.1 bu).1 ee]at ej hE;have eW:jK w.gY d.ig e.fa c.kind c.obj:=by
  cases q:jK w.gY d.ig e.fa c.kind c.obj;rw[q]at hE;simp at hE;rfl
 have gZ:jB e.fa w.gY.eY.length:=by have:=eW;unfold jK at this;simp only[aC]at this;exact this.1.1.2
 have gE:=k.hw.ev c (aB ee);have al:=py bu;have gV:=λ{tb:iq} (ht:tb.p 49=G vx)=>Ki ht w d e.fa k;have eV:=λ{tb:iq} (ht:tb.p 48=G qU)=>D0 ht w d e.fa k gZ;have gI:=λ{tb:iq} (ht:tb.p 54=G wy)=>Qh ht w d e.fa c.uY k al gE.2;have eX:=λ{tb:iq} (ht:tb.p 47=G Dt)=>ace ht w d;rw[k.hc.ce al,k.hc.fu al,k.hc.fx,k.hc.wk]at eX;have e4:=e5.len k.hc.BP;have gX:QQ d.ig:=⟨iV (k.l al),iV (k.l al),iV (k.l al),λeB q=>iV (e4 eB q),k.hc.BP⟩;have gD:∀{tb:iq},tb.p 50=G wD->rl prog cx tb 50 [w.gY.t,d.ig.t,M e.fa,M c.kind,M c.obj,M e.pI]=G (.tuple [(gW w.gY d.ig e.fa c.kind c.obj e.pI).1.t,M (gW w.gY d.ig e.fa c.kind c.obj e.pI).2,.bool true]):=λht=>iL ht LA (w.gY,d.ig,e.fa,c.kind,c.obj,e.pI) ⟨eW,by have:=kA k.hw.wb;simp only;omega,gX,λeB q=>iV (e4 eB q)⟩;rw[bs]at eV;rw[ej];generalize ie:jn w d e.fa=s at*
 generalize gF:mD w d e.fa c.uY=eh at*
 simp[f20,gy,cL,eU,eX,eV,gV,ee,a8,gD];generalize R:H.cons _ _=E;have hJ:jk 0 E:=R▸⟨Y,Y,Y⟩;have hZ:E.size=6:=by rw[<-R];rfl
 have fS:E.get 0=G (eg 15 0 [w.t]):=by rw[<-R];simp
 have eN:E.get 1=G (eg 9 0 [d.t]):=by rw[<-R];simp
 have fW:E.get 2=G (eg 2 0 [e.t]):=by rw[<-R];simp
 have fX:E.get 3=G sw:=by rw[<-R];simp[sw]
 have fY:E.get 4=G (eg 7 1 [c.t]):=by rw[<-R];simp
 have hO:E.get 5=G (eg 4 1 [(gW w.gY d.ig e.fa c.kind c.obj e.pI).1.t]):=by rw[<-R];simp
 clear R;have ha:=k.hc.ce al;have hb:=k.hc.fu al;have j1:=kA k.hw.wb;refine mZ Lz Y ⟨sl (d.cells.map gU.t),d.cells.map gU.t⟩ ⟨rfl,Y,λB U=>by obtain⟨A,_,rfl⟩:=List.mem_map.1 U;rfl,dY,hJ⟩ ?_;rintro bW I ⟨gC,hB,gg⟩;simp only at gC;have⟨hV,hH,ef,b7⟩:=Py hB;rw[hZ]at hV ef b7;have a1:=(ef 1 J).trans eN;simp[a1,b7];refine mZ Lz Y ⟨sl (d.fR.map gU.t),d.fR.map gU.t⟩ ⟨rfl,Y,λB U=>by obtain⟨A,_,rfl⟩:=List.mem_map.1 U;rfl,dY,hH⟩ ?_;rintro bX m ⟨bi,e9,gi⟩;simp only at bi;have⟨hW,okB,gv,fs⟩:=Py e9;have eF:∀b,b<6->il I m b=true:=λb n=>fs b J;have di:=(gv 1 J).trans a1;have⟨jj,fb,c6⟩:=Ya (cx:=cx) (sz:=1) kS rfl nL rfl Y (iE d.order) d1 (uC k.hc.od);rw[aL]at fb c6;have c6:=c6 m (M s) rfl;have an:∀{h h':H} {b:Nat},h.size<=b->il h h' b=true:=λq=>kf (oR _ q);have hy:il E I m.size:=an J;have hA:il I m m.size:=an hW;have hg:(m.size=0)=False:=dY;have bA:(1=m.size)=False:=dY;simp[di,b7,eF,hy,hA,hg,bA,fb,c6];have⟨D,ar⟩:∃D,D=(m.cons (eg 1 0 [M s])).cons ⟨1,0,0,false,false,iE d.order++[M s]⟩:=⟨_,rfl⟩;rw[<-ar];have ZE:jk 0 D:=ar▸(okB.cons _).cons _;have j6:D.size=m.size+2:=by rw[ar];rfl
 have eO:∀b,b<m.size->D.get b=m.get b:=λb n=>by rw[ar,fH,aq (by simp[size_cons];omega),fH,aq J]
 have gO:D.get (m.size+1)=G ⟨1,0,0,false,false,iE d.order++[M s]⟩:=by rw[ar];simp[size_cons]
 have p1:=(eO 1 J).trans di;refine mZ Gq Y ⟨sl (d.fixed.map T.bool),d.fixed.map T.bool⟩ ⟨rfl,Y,λB U=>by obtain⟨A,_,rfl⟩:=List.mem_map.1 U;rfl,by have:=k.hc.fx;have:=k.ev;simp;omega,ZE⟩ ?_;rintro b6 Z ⟨bn,hD,gk⟩;simp only at bn;have⟨kc,hI,eR,eG⟩:=Py hD;have ap:=(eR 1 J).trans p1;have fv:il (m.cons (eg 1 0 [M s])) D 1:=iw (by rw[ar,fH,aq (by simp[size_cons];omega)]);simp[ap,eG 5 J,eG 1 J,fv,b7,eF];refine mZ Gp Y ⟨sl (iE d.pM),iE d.pM⟩ ⟨rfl,Y,by simp[T.cells],by have:=k.hc.wk;have:=k.ev;simp;omega,hI⟩ ?_;rintro bZ y ⟨gK,hC,gj⟩;simp only at gK;have⟨hY,okW,eP,fy⟩:=Py hC;have hM:=(eP 1 J).trans ap;simp[gC.je,gC.cells,bi.je,bi.cells,bn.je,bn.cells,gK.je,gK.cells,fy 5 J,an (h:=Z) (h':=y) (b:=y.size) hY,an (h:=D) (h':=Z) (b:=y.size) J,an (h:=m.cons (eg 1 0 [M s])) (h':=D) (b:=y.size) (by rw[size_cons];omega),an (h:=I) (h':=m) (b:=y.size) J,an (h:=E) (h':=I) (b:=y.size) J,okW.low];have x:=oZ.eq_1 w d s c e.fa e.pI;rw[gF]at x;generalize oZ w d s c e.fa e.pI=Q at*
 generalize hr:gW w.gY d.ig e.fa c.kind c.obj e.pI=r at*
 obtain⟨F,c9⟩:=r;have⟨u,br⟩:∃u,u=y.cons (eg 9 1 [.agg [sl (F.fT.map fF.t),M F.tx,sl (F.done.map T.bool),sl (F.eY.map fc.t),bW,bX,.arr (m.size+1) 0 0 (d.order.length+1) false,b6,bZ]]):=⟨_,rfl⟩;simp only[<-br];have eD:jk 0 u:=br▸okW.cons _;have hX:u.size=y.size+1:=by rw[br];rfl
 have fL:u.get y.size=G (eg 9 1 [.agg [sl (F.fT.map fF.t),M F.tx,sl (F.done.map T.bool),sl (F.eY.map fc.t),bW,bX,.arr (m.size+1) 0 0 (d.order.length+1) false,b6,bZ]]):=by rw[br];simp
 have de:∀b,b<y.size->u.get b=y.get b:=λb n=>by rw[br,fH,aq J]
 have eL:∀b,b<Z.size->u.get b=Z.get b:=λb n=>(de b J).trans (eP b n);have eK:∀b,b<D.size->u.get b=D.get b:=λb n=>(eL b J).trans (eR b n);have eI:∀b,b<m.size->u.get b=m.get b:=λb n=>(eK b J).trans (eO b n);have eH:∀b,b<I.size->u.get b=I.get b:=λb n=>(eI b J).trans (e9.get b n);have fE:∀b,b<6->u.get b=E.get b:=λb n=>(eH b J).trans (ef b n);have kC:∀q,fD bW=G q->6<=q/\q<I.size:=λq o=>⟨iV (gg q o),by have⟨_,_,_,_,A,_⟩:=gC.box o;exact H.fV A⟩;have eu:∀q,fD bX=G q->I.size<=q/\q<m.size:=λq o=>⟨gi q o,by have⟨_,_,_,_,A,_⟩:=bi.box o;exact H.fV A⟩;have eA:∀q,fD b6=G q->D.size<=q/\q<Z.size:=λq o=>⟨gk q o,by have⟨_,_,_,_,A,_⟩:=bn.box o;exact H.fV A⟩;have ey:∀q,fD bZ=G q->Z.size<=q/\q<y.size:=λq o=>⟨gj q o,by have⟨_,_,_,_,A,_⟩:=gK.box o;exact H.fV A⟩;have c4:∀(j:Nat) (a:T×aa (Nat×List T)),(qS {d with ig:=F,order:=d.order++[s]} bW bX (.arr (m.size+1) 0 0 (d.order.length+1) false) b6 bZ)[j]? =G a->∀q,fD a.1=G q->6<=q/\q<y.size/\(j=4/\q<I.size\/j=5/\I.size<=q/\q<m.size\/j=6/\q=m.size+1\/j=7/\D.size<=q/\q<Z.size\/j=8/\Z.size<=q):=by
  intro j a ae q o;unfold qS at ae;rcases j with _|_|_|_|_|_|_|_|_|j<;>simp at ae<;>subst ae<;>simp at o
  have:=kC q o;omega;have:=eu q o;omega;omega;have:=eA q o;omega;have:=ey q o;omega
 have g:rD u y.size 9 1 (qS {d with ig:=F,order:=d.order++[s]} bW bX (.arr (m.size+1) 0 0 (d.order.length+1) false) b6 bZ):=by
  refine⟨eD,fL,λf c1=>?_,λj s gP a b ae n q av hK=>gP ?_⟩
  .simp only[qS,cg,cF,cG]at c1;rcases c1 with rfl|rfl|rfl|rfl|rfl|rfl|rfl|rfl|rfl
   iterate 4 (show fD _=none;simp)
   exact⟨gC.mono λb n=>eH b (kC b n).2,show(2:Nat)≠9 by decide⟩;exact⟨bi.mono λb n=>eI b (eu b n).2,show(2:Nat)≠9 by decide⟩;exact⟨.inr ⟨m.size+1,0,0,false,iE d.order++[M s],Y,(eK _ J).trans gO,by simp[cd,List.map_append]⟩,show(1:Nat)≠9 by decide⟩;exact⟨bn.mono λb n=>eL b (eA b n).2,show(1:Nat)≠9 by decide⟩;exact⟨gK.mono λb n=>de b (ey b n).2,show(1:Nat)≠9 by decide⟩
  have cL:=c4 j a ae q av;have eU:=c4 s b n q hK;omega
 have eS:∀q,Fp u y.size q->6<=q:=λq o=>by
  rcases o with rfl|⟨B,U,v,e6,av⟩;omega;rw[g.get]at U;simp only[aw]at U;subst U;simp only[iy,bh,df,cq,T.cells]at e6;obtain⟨f,c1,rfl⟩:=List.mem_map.1 e6;have⟨j,gM⟩:=cY c1;have:=c4 j f gM q av;omega
 have V:∀b B,b<6->E.get b=G B->Lb y.size u b B:=λb B cL gz=>⟨(fE b cL).trans gz,λq=>iV (eS b q)⟩;have l0:=V 0 _ J fS;have l1:=V 1 _ J eN;have l2:=V 2 _ J fW;have l3:=V 3 _ J fX;have l4:=V 4 _ J fY;have kg:6<=y.size:=J;have fP:=(de 4 J).symm.trans l4.get;clear V eS c4 fE eH eI eK eL de kC eu eA ey fL hM ap p1 di a1 fS eN fW fX fY hO fy eG fv an b7 eF fs;generalize y.size=P at*
 have a7:(4=P)=False:=dY;have hd:=eD.low;have hf:u.low<=u.size+1:=J;have hF:∀b,b<7->(u.size=b)=False:=λb n=>by simp;omega
 have hG:∀b,b<7->(b=u.size)=False:=λb n=>by simp;omega
 simp[a7,fP,l0.get,l1.get,l2.get,l4.get,hd,hf,hF,hG,gI];have fC:=(g.cons (eg 2 1 [gU.t ⟨c.value,true⟩])).cons (eg 2 1 [gU.t ⟨0,false⟩]);have dd:=Step.cons g.ok g.lt (eg 2 1 [gU.t ⟨c.value,true⟩]);have b9:=Step.cons (g.cons (eg 2 1 [gU.t ⟨c.value,true⟩])).ok (g.cons (eg 2 1 [gU.t ⟨c.value,true⟩])).lt (eg 2 1 [gU.t ⟨0,false⟩]);have av:=(l1.step dd).step b9;have fe:=(l3.step dd).step b9;have ff:=(l4.step dd).step b9;have eE:=(UH g (eg 2 1 [gU.t ⟨c.value,true⟩])).step b9;have W:=UH (g.cons (eg 2 1 [gU.t ⟨c.value,true⟩])) (eg 2 1 [gU.t ⟨0,false⟩]);rw[size_cons]at W;have kk:6<=u.size:=J;generalize(u.cons _).cons _=ic at*
 generalize u.size=c7 at*
 clear dd b9 l0 l1 l2 l3 l4 fP g eD hX;refine nS (λC h=>∃ax aA aE aN aX fM,rD h P 9 1 (qS {d with ig:=F,order:=d.order++[s]} ax aA aE aN aX)/\Lb P h 1 (eg 9 0 [d.t])/\Lb P h 3 sw/\Lb P h 4 (eg 7 1 [c.t])/\Lb P h c7 (eg 2 1 [gU.t ⟨c.value,true⟩])/\Lb P h (c7+1) (eg 2 fM [(cont eh c.value).t])/\jg C 4 1/\jg C 6 3/\iS C 8 s/\jg C 9 4/\iS C 11 c9/\jg C 13 P/\jg C 14 c7/\jg C 15 (c7+1)) (λo=>?_) (λo=>?_) ?_;subst o;simp[eE.get,W.get];exact⟨⟨_,_,_,_,_,fC.uB W _⟩,zG av W J,zG fe W J,zG ff W J,zG eE W J,_,UG W _⟩;subst o;simp;exact⟨⟨_,_,_,_,_,fC⟩,av,fe,ff,eE,_,W⟩;rintro C h ⟨ax,aA,aE,aN,aX,fM,g,l1,l3,l4,e8,V,O⟩;simp[O,l4.get];have eo:c.kind=3\/c.kind=4->jB c.obj d.cells.length=true:=λq=>by
  rw[ha];unfold ko at cp;rcases q with q|q<;>simpa[q]using cp
 have et:c.kind=22\/c.kind=23->jB c.obj d.fR.length=true:=λq=>by
  rw[hb];unfold ko at cp;rcases q with q|q<;>simpa[q]using cp
 have gQ:s.toNat<d.fixed.length:=k.hc.fx▸(gG.1 bu).2;have gS:s.toNat<d.pM.length:=k.hc.wk▸(gG.1 bu).2;have N:=g.get;simp only[qS,aS,bR]at N;have fA:∀B A:Bool,mT (.bool B) 0 [.bool A]=G (.bool A):=λ_ _=>rfl;have fB:∀B A:Int,mT (M B) 0 [M A]=G (M A):=λ_ _=>rfl;simp only at x;have⟨ii,h8,j0,ib,j5,ca,cb,X,ao⟩:=(g.gr 7 rfl).CD (te:=Wz) rfl (i:=s.toNat) (iC gQ);simp at ao;refine nS (λC h=>JM P Q h/\jg C 6 3/\jg C 13 P) (λea=>?_) (λea=>?_) ?_;have z:c.kind=3:=iC ea;have⟨B,ap,eM⟩:=jt (eo (.inl z));have S:=gG.1 (eo (.inl z));simp[z,L9 eM]at x;have⟨L,K⟩:=g.elem 7 rfl ca X s.toNat (.bool (decide (B=⟨c.value,true⟩)));simp[O,N,l1.get,l4.get,e8.get,fZ S.1,ap,a8,cb,X,ao,fA,Of,NM];exact⟨_,_,_,_,_,_,by rw[x];simpa[qS,aY]using K,l3.step L⟩;have hs:¬c.kind=3:=iC ea;simp;refine fO (λds=>?_) (λds=>?_);have z:c.kind=23:=iC ds;have⟨B,ap,eM⟩:=jt (et (.inr z));have S:=gG.1 (et (.inr z));simp[z,L9 eM]at x;have⟨L,K⟩:=g.elem 7 rfl ca X s.toNat (.bool (decide (B=⟨c.value,true⟩)));simp[O,N,l1.get,l4.get,e8.get,fZ S.1,ap,a8,cb,X,ao,fA,Of,NM];exact⟨_,_,_,_,_,_,by rw[x];simpa[qS,aY]using K,l3.step L⟩;have hq:¬c.kind=23:=iC ds;simp;refine fO (λa7=>?_) (λa7=>?_);have z:c.kind=4:=iC a7;have S:=gG.1 (eo (.inr z));have⟨q,gm,hL,gn,hN,bA,eC,bN,bT⟩:=(g.gr 4 rfl).CD (te:=yA) rfl (i:=c.obj.toNat) (iC S.2);simp at bT;simp[z]at x;have⟨L,K⟩:=g.elem 4 rfl bA bN c.obj.toNat (cont eh c.value).t;simp[O,N,l4.get,V.get,fZ S.1,eC,bN,bT];exact⟨_,_,_,_,_,_,by rw[x];simpa[qS,aY]using K,l3.step L⟩;have hv:¬c.kind=4:=iC a7;simp;refine fO (λdn=>?_) (λdn=>?_);have z:c.kind=22:=iC dn;have S:=gG.1 (et (.inl z));have⟨q,gm,hL,gn,hN,bA,eC,bN,bT⟩:=(g.gr 5 rfl).CD (te:=yA) rfl (i:=c.obj.toNat) (iC S.2);simp at bT;simp[z]at x;have⟨L,K⟩:=g.elem 5 rfl bA bN c.obj.toNat (cont eh c.value).t;simp[O,N,l4.get,V.get,fZ S.1,eC,bN,bT];exact⟨_,_,_,_,_,_,by rw[x];simpa[qS,aY]using K,l3.step L⟩;have ho:¬c.kind=22:=iC dn;have⟨ih,h7,jZ,ia,j2,ca,cb,X,ao⟩:=(g.gr 8 rfl).CD (te:=EW) rfl (i:=s.toNat) (iC gS);simp at ao;simp;refine fO (λdk=>?_) (λdk=>?_);have z:c.kind=18:=iC dk;simp[z]at x;simp[O];refine fO (λeb=>?_) (λeb=>?_);have ec:0<=c9:=iC eb;rw[au ec]at x;have⟨L,K⟩:=g.elem 8 rfl ca X s.toNat (M 1);simp[O,N,a8,cb,X,ao,fB];exact⟨_,_,_,_,_,_,by rw[x];simpa[qS,aY]using K,l3.step L⟩;have ec:¬0<=c9:=iC eb;rw[aq ec]at x;simp[O];exact⟨_,_,_,_,_,_,x▸g,l3⟩;have hh:¬c.kind=18:=iC dk;simp;refine fO (λdm=>?_) (λdm=>?_);have z:c.kind=19:=iC dm;simp[z]at x;have⟨L,K⟩:=g.elem 8 rfl ca X s.toNat (M c9);simp[O,N,a8,cb,X,ao,fB];exact⟨_,_,_,_,_,_,by rw[x];simpa[qS,aY]using K,l3.step L⟩;have hj:¬c.kind=19:=iC dm;simp[hs,hq,hv,ho,hh,hj]at x;simp[O];exact⟨_,_,_,_,_,_,x▸g,l3⟩;rintro C h ⟨⟨jC,ax,aA,aE,aN,aX,g,l3⟩,gB⟩;have N:=g.get;simp only[qS,aS,bR]at N;have e7:=l3.get;unfold sw at e7;have b8:=g.uB l3 (eg 9 1 [.agg [sl (Q.ig.fT.map fF.t),M Q.ig.tx,sl (Q.ig.done.map T.bool),sl (Q.ig.eY.map fc.t),ax,aA,aE,aN,aX]]);have gw:=(fj l3.get (eg 9 1 [.agg [sl (Q.ig.fT.map fF.t),M Q.ig.tx,sl (Q.ig.done.map T.bool),sl (Q.ig.eY.map fc.t),ax,aA,aE,aN,aX]]) 3).trans (au rfl);have hP:=(b8.gr 4 rfl).fz Y;have hQ:=(b8.gr 5 rfl).fz Y;have hR:=(b8.gr 6 rfl).fz Y;have hS:=(b8.gr 7 rfl).fz Y;have hU:=(b8.gr 8 rfl).fz Y;simp[gB,N,e7,fN,gw,hP,hQ,hR,hS,hU,g.ok.hp]
def aca{d:iq}(ht:d.p 20=G Bg)(b:fh)(a:fi)(c:fG)(e:sH b a)(f:iO b a c.fa)(hr:ET 4 a.ig):rl prog cx d 20 [b.t,a.t,c.t]=G (.tuple [(jp b a c).1.t,.bool true]):=iL ht W7 (b,a,c) ⟨e,f,hr⟩
def ET.jp{b:fh}{c:fi}{d:fG}(e:ET 4 c.ig)(g:kO b)(a:iO b c d.fa):ET 4 (jp b c d).1.ig:=by
 have f:jB d.fa b.gY.eY.length:=by
  unfold iO jK at a;split at a;simp at a;simp[aC]at a;exact a.1.1.1.2
 unfold Go.Proofs.YtdpclhaknmicoaaGreatDoor.jp;rw[au a];have:=gG.1 f;have:=kA g.wb;exact BR e _ J _ _ _
structure ChR(w:fh)(c:fi)(L:List fG)(lv:T)(h:H):Prop where
 ok:jk 2 h
 b0:h.get 0=G (eg 15 0 [w.t])
 b1:h.get 1=G (eg 9 0 [c.t])
 gl:Gr h lv 2 (L.map fG.t)
 dl:∀b,fD lv=G b->2<=b/\b<h.size
theorem ChR.cons{w:fh}{e:fi}{d:List fG}{g:T}{f:H}(a:ChR w e d g f)(h:jO):ChR w e d g (f.cons h):=by have i:=a.ok.sz;refine⟨a.ok.cons h,?_,?_,a.gl.mono λb c=>?_,λb c=>?_⟩;rw[fH,aq J];exact a.b0;rw[fH,aq J];exact a.b1;have:=a.dl b c;rw[fH,aq J];have:=a.dl b c;rw[size_cons];omega
def ChR.add{m:fh}{i:fi}{f:List fG}{g h:T}{b c:H}{o:fG}(e:ChR m i f g b)(p:Xt b g 2 ((f++[o]).map fG.t) h c):ChR m i (f++[o]) h c/\b.size<=c.size/\∀a,a<b.size->fD g≠some a->c.get a=b.get a/\fD h≠some a:=by obtain⟨a1,a2,a3,a4⟩:=p;have u:=e.ok.sz;have s:=a4.sz;have j:∀a,a<2->c.get a=b.get a:=λa d=>a2 a J λq=>iV (e.dl a q);refine⟨⟨⟨a4.hp,a4.low,J⟩,(j 0 J).trans e.b0,(j 1 J).trans e.b1,a1,λa d=>⟨?_,?_⟩⟩,s,λa d l=>⟨a2 a d l,λq=>?_⟩⟩;rcases a3 a d with q|q;exact(e.dl a q).1;omega;have⟨_,_,_,_,r,_⟩:=a1.box d;exact H.fV r;rcases a3 a q with k|k;exact l k;omega
def KZ:iF:=⟨fh×fi,λa=>[a.1.t,a.2.t],λa=>sH a.1 a.2,λa=>sl ((mY a.1 a.2 a.1.gY.eY.length).map fG.t),λa c b=>by simp at b;rw[show a=c from aD (fh.inj b.1) (fi.inj b.2)]⟩
def aa4:KZ.Ok prog cx 23:=by
 refine iD [(48,qU),(49,vx)] (jz 9241386564217587711 [(6,[(1,5),(5,8)])] func23) (λa=>100) (by simp[KZ]) ?_;rintro⟨p,d⟩ (x:sH p d) h S;simp[KZ]at S|-;have a8:=(kA x.hw.wb).2.2.2.2.2;simp[f23,S];refine io p.gY.eY.length J (λj h i=>∃o,ChR p d (mY p d j) o i/\jg h 2 0/\jg h 3 1/\ka h 5 o/\iS h 14 p.gY.eY.length/\iS h 15 j) ?_ ?_ J ?_;rintro j h i an K ⟨o,c,k⟩;have w:=vX p d j;have a7:=AC x j;have bn:=c.ok.sz;simp[k,an,c.b0,c.b1,D0,x,(gG.2 ⟨J,J⟩:jB (j:Int) p.gY.eY.length=true)];refine fO (λg=>?_) (λg=>?_);rw[aq (iC g),cq]at w;simp[k,K,w,c];have A:iO p d j:=iC g;rw[au A]at w;have bi:=Ii x A;have al:¬jn p d j<0:=λr=>by unfold iO at A;rw[au r]at A;simp at A
 have I:=qV al;have⟨e,Q,ax,aA,aE,aN⟩:=x.hw.at I;have L:=gG.1 I;have hl:=x.l (py I);have E:kG p d j=if e.kind=18/\jb e.obj d.ig.eY 0≠ []then jb e.obj d.ig.eY 0 else [-1]:=by
  unfold kG;rw[pF L.1 Q];by_cases r:e.kind=18/\jb e.obj d.ig.eY 0≠ [];rw[au r,au ⟨L.1,r⟩];rw[aq r,aq λu=>r u.2]
 have N:=c.ok.low;have ap:=c.ok.ne (b:=0) J;have ar:=c.ok.ne (b:=1) J;simp[k,c.b0,c.b1,Ki,x,fZ L.1,Q,N,ap,ar];have v:(i.cons (eg 7 1 [e.t])).get i.size=G (eg 7 1 [e.t]):=Y;have B:fD o≠some i.size:=λr=>iV (c.dl _ r).2;have c:=c.cons (eg 7 1 [e.t]);generalize i.size=y at*
 generalize i.cons (eg 7 1 [e.t])=i at*
 let n (m:Nat):List fG:=if e.kind=18 then(jb e.obj (d.ig.eY.take m) 0).map λu=>(⟨j,u⟩:fG)else []
 refine io d.ig.eY.length J (λm h i=>∃o,ChR p d (mY p d j++n m) o i/\i.get y=G (eg 7 1 [e.t])/\fD o≠some y/\jg h 2 0/\jg h 3 1/\ka h 5 o/\iS h 6 j/\jg h 7 y/\ka h 8 (.bool (decide (n m≠ [])))/\iS h 14 p.gY.eY.length/\iS h 15 j/\ka h 33 (sl (d.ig.eY.map fc.t))/\iS h 34 d.ig.eY.length/\iS h 35 m) ?_ ?_ J ⟨o,by simpa[n,jb]using c,v,B,by simp[k,n,jb]⟩;rintro m h i U T ⟨o,c,v,B,k⟩;have⟨s,V⟩:∃s,s=d.ig.eY[m]:=⟨_,rfl⟩;have N:=c.ok.low;have q:n (m+1)=n m++if(e.kind=18/\s.jq=3)/\s.cond=e.obj then [⟨j,m⟩]else []:=by
  have:=Bb e.obj d.ig.eY U;simp[n,this,<-V,List.map_append];by_cases r:e.kind=18<;>by_cases av:s.jq=3/\s.cond=e.obj<;>simp[r,av]
 have aX:(i.cons (eg 3 1 [s.t])).get i.size=G (eg 3 1 [s.t]):=Y;have O:(y=i.size)=False:=uC (H.fV v);simp[k,U,<-V,N,v,O];have Z:(n m).length<=m:=by
  have:=Aa e.obj (d.ig.eY.take m) 0;simp[n];split<;>simp at* <;>omega
 have c:=c.cons (eg 3 1 [s.t]);have R:(i.cons (eg 3 1 [s.t])).get y=G (eg 7 1 [e.t]):=by rw[fH,aq (iC O)];exact v
 refine fO (λg=>?_) (λg=>?_);rw[au (by simpa[and_assoc]using g)]at q;have⟨W,X,C,P⟩:=c.gl.oy (cx:=cx) (f:=fG.t) (c.ok.Dc (az _)) BL rfl DY rfl Y (λ_=>rfl) (⟨j,m⟩:fG) dY;rw[size_cons]at C;have⟨r2,br,D⟩:=c.add P;have D:=D y (H.fV R) B;rw[aO,<-q]at r2;simp[k,C,T];exact⟨W,r2,D.1.trans R,D.2,rfl,by rw[q];simp⟩;rw[aq (by simpa[and_assoc]using g),cq]at q;simp[k,T,O];exact⟨o,q▸c,v,B,Y,by rw[q]⟩;rintro h i ⟨o,c,v,B,k⟩;simp[k];have q:n d.ig.eY.length=if e.kind=18 then(jb e.obj d.ig.eY 0).map λu=>(⟨j,u⟩:fG)else []:=by simp[n,aI]
 have Z:=Aa e.obj d.ig.eY 0;refine fO (λg=>?_) (λg=>?_);have g:n d.ig.eY.length=[]:=iC g;rw[g,cq]at c;rw[aq (by rw[q]at g;rintro⟨F,ao⟩;rw[au F]at g;simp at g;exact ao g)]at E;rw[E]at w;have⟨W,X,C,P⟩:=c.gl.oy (cx:=cx) (f:=fG.t) (c.ok.Dc (az _)) BL rfl DY rfl Y (λ_=>rfl) (⟨j,-1⟩:fG) dY;simp[k,C,K];rw[w];exact(c.add P).1;have g:¬n d.ig.eY.length=[]:=iC g;have F:e.kind=18:=by
  by_cases u:e.kind=18;exact u;rw[q,aq u]at g;simp at g
 rw[q,au F]at g c;rw[au ⟨F,iC g⟩]at E;rw[E]at w;simp[k,K];rw[w];exact c;rintro h i ⟨o,c,k⟩;have z:=c.gl.qZ Y;simp[k,c.ok.hp,c.gl.je,z];exact⟨ed,⟨⟨Y,Y,by simp[size_cons]⟩,by simp[size_cons],by simp[size_cons],Gr.nil _ _,Y⟩,Y⟩
end
def Nc(a:fh)(d:List fG):fi:=d.foldl (λb c=>(jp a b c).1) (jv a)
def oY(b:fh)(c:fi)(a:iv):Bool:=nu b c a&&b.gx.vR a
def StO(c:fh)(d:iv)(a:fi)(b:fG):Prop:=iO c a b.fa=true/\b.pI∈kG c a b.fa/\oY c a d=false
def HE(d:fh)(e:iv)(c:List fG):Prop:=∀(b:Nat) a,c[b]? =G a->StO d e (Nc d (c.take b)) a
def QM(a:fh)(c:List fG)(b:fG):Nc a (c++[b])=(jp a (Nc a c) b).1:=by unfold Nc;rw[dO];rfl
def HE.snoc{d:fh}{e:iv}{b:List fG}{ch:fG}(g:HE d e b)(h:StO d e (Nc d b) ch):HE d e (b++[ch]):=λc i a=>by
 by_cases f:c<b.length;rw[cN f]at a;rw[dp J];exact g c i a;rw[cX J]at a;have:c-b.length=0:=by
  rcases Nat.eq_zero_or_pos (c-b.length)with q|q;exact q;rw[cj dY]at a;simp at a
 rw[this]at a;simp at a;subst a;rw[show c=b.length by omega,List.take_left];exact h
def Vf{d:fh}{b:fi}{g:Nat}{c:fG}(a:c∈mY d b g):iO d b c.fa/\c.pI∈kG d b c.fa:=by unfold mY at a;have⟨h,_,a⟩:=List.mem_flatMap.1 a;by_cases e:iO d b h=true;rw[au e]at a;obtain⟨i,f,rfl⟩:=List.mem_map.1 a;exact⟨e,f⟩;rw[aq e]at a;simp at a
structure Wo(w:fh)(c:fi)(k:Nat):Prop where
 i:∀o∈c.order,jB o w.eZ.length
 nd:c.order.Nodup
 ln:c.order.length=k
def Wo.le{k:fh}{l:fi}{j:Nat}(g:Wo k l j):j<=k.eZ.length:=by
 have q:∀(c:Nat) (a:List Int),a.Nodup->(∀b∈a,0<=b/\b.toNat<c)->a.length<=c:=by
  intro c;induction c with
  |zero=>
   intro a _ hl;rcases a with _|⟨f,a⟩
   simp;have:=hl f Y;omega
  |succ c o=>
   intro a d hl;have m:=o (a.filter λb=>decide (b≠(c:Int))) (d.filter _) λb e=>by
    simp[List.mem_filter]at e;have:=hl b e.1;omega
   have r:a.length<=(a.filter λb=>decide (b≠(c:Int))).length+1:=by
    clear m hl;induction a with
    |nil=>simp
    |cons f a p=>
     rw[List.nodup_cons]at d;by_cases h:f=(c:Int);have:(a.filter λb=>decide (b≠(c:Int)))=a:=List.filter_eq_self.2 λs n=>by
      simp;rintro rfl;exact d.1 (h▸n)
     rw[List.filter_cons_of_neg (by simp[h]),this];simp;have:=p d.2;simp[ne_eq,aU]at*
     rw[List.filter_cons_of_pos (iC h),aU];omega
   omega
 rw[<-g.ln];exact q _ _ g.nd λb e=>gG.1 (g.i b e)
def Wo.step{b:fh}{a:fi}{h:Nat}{ch:fG}(c:Wo b a h)(f:iO b a ch.fa):Wo b (jp b a ch).1 (h+1):=by
 have g:=qq f;have l:jn b a ch.fa∉a.order:=by
  have j:=(gG.1 g).1;unfold jn at*
  rcases Bv ch.fa a.order b.eZ 0 with⟨q,_⟩|⟨s,r,q,_,_,n,_⟩;rw[q]at j;omega;rw[q];exact n
 have d:(jp b a ch).1.order=a.order++[jn b a ch.fa]:=by unfold jp;rw[au f];rfl
 refine⟨λm q=>?_,?_,by rw[d];simp[c.ln]⟩;rw[d]at q;rcases List.mem_append.1 q with q|q
 exact c.i m q;simp at q;rw[q];exact g;rw[d,List.nodup_append];exact⟨c.nd,Y,λo k p e=>by simp at e;subst e;rintro rfl;exact l k⟩
structure NdQ(w:fh)(g:iv)(k:Nat)(x:fi×List fG):Prop where
 ln:x.2.length=k
 c:x.1=Nc w x.2
 p:HE w g x.2
 h:oY w x.1 g=false
 co:yN (1000+k) w x.1
 rd:ET 4 x.1.ig
 od:Wo w x.1 k
def NdQ.step{a:fh}{g:iv}{f:Nat}{b:fi×List fG}{ch:fG}{s:Nat}(d:NdQ a g f b)(r:kO a)(q:ch∈mY a b.1 s):HE a g (b.2++[ch])/\(jp a b.1 ch).1=Nc a (b.2++[ch])/\iO a b.1 ch.fa/\
 (oY a (jp a b.1 ch).1 g=false->NdQ a g (f+1) ((jp a b.1 ch).1,b.2++[ch]))/\yN (1000+(f+1)) a (jp a b.1 ch).1/\ET 4 (jp a b.1 ch).1.ig/\Wo a (jp a b.1 ch).1 (f+1):=by
 have⟨e,n⟩:=Vf q;have l:=d.p.snoc (ch:=ch) (d.c▸⟨e,n,d.h⟩);have i:=(QM a b.2 ch).symm;rw[<-d.c]at i;have j:=(d.co.step ch e).up (Mq:=1000+(f+1)) J;have m:=d.rd.jp r e;have k:=d.od.step e;exact⟨l,i,e,λo=>⟨by simp[d.ln],i,l,o,j,m,k⟩,j,m,k⟩
end
noncomputable section
open Go Go.TI
section
def Et{j:Int}{h i:List Int}(f:∀k,k∈h↔k∈i):∀(b:List gd) (a:Nat),rR j h b a=rR j i b a
 | [],a=>rfl
 |e::b,a=>by simp only[rR,f,Et f b]
def Gs{j:Int}:∀{h:List gd} {a:Nat} {k:Int} {b:Nat},sh j h a k=b->∃e,a<=b/\h[b-a]? =G e/\e.fa=j
 | [],a,k,b,f=>by simp[sh]at f
 |e::h,a,k,b,f=>by
  simp only[sh]at f;have l:∀{k},sh j h (a+1) k=b->∃i,a<=b/\(e::h)[b-a]? =G i/\i.fa=j:=λf=>by
   obtain⟨i,o,m,c⟩:=Gs f;exact⟨i,J,by rw[show b-a=(b-(a+1))+1 by omega];exact m,c⟩
  split at f;split at f;rename_i n _;obtain rfl:a=b:=J;exact⟨e,J,Y,n⟩;exact l f;exact l f
structure Ie(w:fh)(c:fi):Prop where
 rg:∀x∈c.order,jB x w.eZ.length
 px:∀(i j:Nat) e e',w.eZ[j]? =G e->(j:Int)∈c.order->i<j->w.eZ[i]? =G e'->e'.fa=e.fa->(i:Int)∈c.order
 fo:∀i:Nat,c.fixed[i]? =G true->(i:Int)∈c.order
 wo:∀i:Nat,i<w.eZ.length->(i:Int)∉c.order->c.pM[i]? =G 0
 fl:c.fixed.length=w.eZ.length
 wl:c.pM.length=w.eZ.length
def Ie.start(w:fh):Ie w (jv w):=
 ⟨by simp[jv],by simp[jv],λa h=>by simp[jv,List.getElem?_replicate]at h,λa h _=>by simp[jv,h],by simp[jv],by simp[jv]⟩
section
variable {w:fh}{c d:fi}{g:iv}{us:List Int}
def Ad{a:fG}(j:iO w c a.fa):∃(e:Nat) (b:gd),jn w c a.fa=e/\w.eZ[e]? =G b/\b.fa=a.fa/\(e:Int)∉c.order/\(∀(h:Nat) i,h<e->w.eZ[h]? =G i->i.fa=a.fa->(h:Int)∈c.order)/\(jp w c a).1=oZ w c e b a.fa a.pI:=by have⟨_,l,f,_⟩:=F7 w c a.fa;have⟨f,b,k,m,n⟩:=f ((gG.1 (qq j)).1);refine⟨_,b,f,k,m,n,l,?_⟩;unfold jp;rw[au j,f,pF J (iC k)]
def Ie.step{ch:fG}(a:Ie w c)(p:iO w c ch.fa):Ie w (jp w c ch).1:=by
 have⟨s,y,_,n,t,B,u,v⟩:=Ad p;have q:=(List.getElem?_eq_some_iff.1 n).1;have z:=a.fl;have A:=a.wl;rw[v];refine⟨λx f=>?_,λb m o j h e l k ht=>?_,λb i=>?_,λb i r=>?_,?_,?_⟩;simp only[oZ,cz,dg]at f;rcases f with f|rfl
 exact a.rg x f;exact gG.2 ⟨J,by simpa using q⟩;simp only[oZ,cz,dg]at e|-;rcases e with e|e
 exact .inl (a.px b m o j h e l k ht);obtain rfl:m=s:=J;rw[n]at h;cases h;exact .inl (u b j l k (ht.trans t));have:=a.fo b;simp only[oZ,cz,dg,bO]at i|-
 grind
 have:=a.wo b i;simp only[oZ,cz,dg,bO]at r|-
 grind
 simp only[oZ];grind;simp only[oZ];grind
def V0(w:fh)(us:List Int):Prop:=∀(e:Nat) a b first (f:Nat),w.eZ[e]? =G a->b∈a.m9\/b∈a.uY->so w.mP.count a.fa=G first->first<=b->sh a.fa w.eZ 0 (IntKind.i64.wrap (b-first))=f->f<e->∃h:Nat,us[f]? =G (h:Int)/\e<=h/\∃i,w.eZ[h]? =G i/\i.fa=a.fa
def K4(c:fi)(g:iv):Bool:=decide (0<=place c g.a)&&decide (place c g.a<place c g.c)
structure Ig(w:fh)(us:List Int)(g:iv)(c d:fi):Prop where
 rc:Ie w c
 rd:Ie w d
 od:∀x,x∈c.order↔x∈d.order
 fx:∀(i:Nat) u,us[i]? =G u->0<=u->u∉c.order->c.fixed[i]? =d.fixed[i]?
 sy:c.ig=d.ig
 ce:c.cells=d.cells
 fu:c.fR=d.fR
 p3:g.kind=3->pL c g.a=pL d g.a
 p4:g.kind=4->K4 c g=K4 d g
def Ig.next(b:Ig w us g c d)(a:Int):jn w c a=jn w d a:=Et b.od _ _
def Ig.mD(n:Ig w us g c d)(x:V0 w us){k:Int}{f:Nat}{i:gd}(u:w.eZ[f]? =G i)(ht:i.fa=k)(v:(f:Int)∉c.order){l:List Int}(hl:∀a∈l,a∈i.m9\/a∈i.uY):Go.Proofs.YtdpclhaknmicoaaGreatDoor.mD w c k l=Go.Proofs.YtdpclhaknmicoaaGreatDoor.mD w d k l:=by
 unfold Go.Proofs.YtdpclhaknmicoaaGreatDoor.mD;cases D:so w.mP.count k with
 |none=>rfl
 |some first=>
 show l.all _=l.all _;rw[bD,cw,cw];have y:∀a∈l,yK w c.fixed k first a=yK w d.fixed k first a:=λa j=>by
  unfold yK;by_cases h:a<first
  simp[h];congr 1;generalize t:sh k w.eZ 0 (IntKind.i64.wrap (a-first))=C;unfold xM;by_cases s:0<=C;obtain⟨e,rfl⟩:=Int.eq_ofNat_of_zero_le s;have uO:∀l:List Bool,so l (e:Int)=l[e]? :=λl=>by unfold so;rw[au J,bO]
  rw[uO,uO];have⟨m,_,o,r⟩:=Gs t;rw[Nat.sub_zero]at o;have A:∀b:Nat,f<=b->(∃m,w.eZ[b]? =G m/\m.fa=i.fa)->(b:Int)∉c.order:=λb x ⟨m,o,r⟩ h=>by
   rcases aR f b with z|z;exact v (n.rc.px f b m i o h z u r.symm);obtain rfl:f=b:=J;exact v h
  rcases aR e f with z|z;subst ht;have⟨b,E,F,H⟩:=x f i a first e u (hl a j) D J t z
  rw[n.fx e b E J (A b F H)];have B:=A e z ⟨m,o,r.trans ht.symm⟩;have q:=mt (n.rd.fo e) (mt (n.od _).2 B);have z:∀p:aa Bool,p≠some true->p.getD false=false:=λp I=>by cases p with
   |none=>rfl
   |some q=>cases q<;>simp_all
  rw[z _ (mt (n.rc.fo e) B),z _ q];unfold so;rw[aq s,aq s]
 exact⟨λh a j=>y a j▸h a j,λh a j=>(y a j).symm▸h a j⟩
def Ig.J1(e:Ig w us g c d)(i:V0 w us)(a:Int):iO w c a=iO w d a:=by unfold iO;rw[<-e.next a,<-e.sy];by_cases b:jn w c a<0;rw[au b,au b];obtain⟨_,_,f,_⟩:=F7 w c a;obtain⟨f,l,h,j,k⟩:=f J;rw[aq b,aq b,f,pF J (iC h),e.mD i h j k λm=> .inl]
def Ig.wh(b:Ig w us g c d)(a:Int):kG w c a=kG w d a:=by unfold kG;rw[<-b.next a,<-b.sy]
def Ig.chs(a:Ig w us g c d)(e:V0 w us)(b:Nat):mY w c b=mY w d b:=by unfold mY;simp only[a.J1 e,a.wh]
def Cr{c c':fi}{b:Int}(e:c'.order=c.order++[b])(l:b∉c.order)(g:iv):K4 c' g=(K4 c g||(decide (g.a∈c.order)&&decide (b=g.c))):=by unfold K4 place;rw[e,Bm,Bm];have i:= @oM g.a c.order 0;have j:= @oM g.c c.order 0;have a1:= @Iv g.a c.order 0;have k:= @Iv g.c c.order 0;by_cases f:g.a∈c.order<;>by_cases h:g.c∈c.order<;>simp only[f,h,if_true,if_false]<;>grind
def Ig.step(a:Ig w us g c d)(e:V0 w us){ch:fG}(h:iO w c ch.fa):Ig w us g (jp w c ch).1 (jp w d ch).1/\(jp w c ch).1.order.getLast?=(jp w d ch).1.order.getLast?:=by
 have m:=(a.J1 e ch.fa).symm.trans h;have r:=a.rc.step h;have s:=a.rd.step m;obtain⟨b,f,E,i,z,j,_,A⟩:=Ad h;obtain⟨y,D,F,p,_,q,_,B⟩:=Ad m;obtain rfl:b=y:=by have:=a.next ch.fa;omega
 rw[i]at p;cases p;have k:=a.mD e i z j (l:=f.uY) λH=> .inr;have n:=(List.getElem?_eq_some_iff.1 i).1;rw[A]at r|-;rw[B]at s|-;refine⟨⟨r,s,λN=>?_,λx C e v o=>?_,?_,?_,?_,λt=>?_,λu=>?_⟩,?_⟩;simp only[oZ,cz,a.od];simp only[oZ,cz,not_or]at o;have:=a.fx x C e v o.1;have l1:=a.rc.fl;have l2:=a.rd.fl;simp only[oZ,bO,<-a.ce,<-a.fu]
 grind
 simp only[oZ,a.sy];simp only[oZ,a.ce,k];simp only[oZ,a.fu,k];have I:=a.p3 t;have l1:=a.rc.wl;have l2:=a.rd.wl;have K:=a.rc.wo b n j;have L:=a.rd.wo b n q;unfold pL so at*
 simp only[oZ,bO,<-a.sy]
 grind
 rw[Cr (c':=oZ w c b f ch.fa ch.pI) rfl j,Cr (c':=oZ w d b f ch.fa ch.pI) rfl q,a.p4 u];simp only[a.od];simp only[oZ,List.getLast?_append,List.getLast?_singleton];rfl
def Ig.hold(a:Ig w us g c d)(h:V0 w us)(hl:c.order.getLast?=d.order.getLast?):oY w c g=oY w d g:=by
 have i:∀b,rM w c b=rM w d b:=λb=>by unfold rM qh;rw[a.next,a.J1 h]
 have f:A1 w c=A1 w d:=funext λb=>by unfold A1 sr vU;rw[a.next,a.sy]
 unfold oY;congr 1;unfold nu;simp only[i,f,hl,a.od];split;rfl;split;rfl;split;rename_i e;rw[a.p3 e];split;rename_i e;have:=a.p4 e;unfold K4 at this;rw[this];rfl
def IK(c:fi)(g:iv):Bool:=
 if g.kind=1 then decide (g.a∈c.order)||decide (g.b∈c.order)
 else if g.kind=2 then g.jA.any λe=>decide (e∈c.order)
 else if g.kind=3 then decide (g.b∈c.order)||(decide (g.a∈c.order)&& !pL c g.a)
 else if g.kind=4 then decide (g.b∈c.order)||(!decide (g.a∈c.order)&&decide (g.c∈c.order))
 else false
def DdQ(w:fh)(g:iv)(c:fi):Prop:=Ie w c/\(g.kind=1/\(g.a∈c.order\/g.b∈c.order)\/g.kind=2/\(∃e∈g.jA,e∈c.order)\/g.kind=3/\(g.b∈c.order\/g.a∈c.order/\pL c g.a=false)\/g.kind=4/\(g.b∈c.order\/g.c∈c.order/\K4 c g=false))
def DdQ.of(f:Ie w c)(b:IK c g):DdQ w g c:=by
 refine⟨f,?_⟩;have h:g.a∉c.order->K4 c g=false:=λe=>by unfold K4 place;rw[bj (mt oM.1 e)];rfl
 unfold IK at b
 grind
def Bu{a:Int}(i:Ie w c)(e:a∈c.order):rM w c a=false/\sr w c a=false:=by
 have f:jn w c (mL w.eZ a).fa≠a:=λb=>by
  have:=Bv (mL w.eZ a).fa c.order w.eZ 0;unfold jn at b;rw[b]at this;rcases this with⟨b,_⟩|⟨k,j,b,_,_,h,_⟩
  have:=(gG.1 (i.rg a e)).1;omega;exact h (b▸e)
 unfold rM sr qh;simp[f]
def DdQ.step(h:DdQ w g c){ch:fG}(s:iO w c ch.fa):oY w (jp w c ch).1 g=false/\DdQ w g (jp w c ch).1:=by
 obtain⟨u,h⟩:=h;have r2:=u.step s;have⟨i,n,_,y,z,m,A,x⟩:=Ad s;rw[x]at r2|-;have o:(oZ w c i n ch.fa ch.pI).order=c.order++[(i:Int)]:=rfl;have l:=Cr o m g;have p:∀e,e∈c.order->pL c e=false->pL (oZ w c i n ch.fa ch.pI) e=false:=λe t p=>by
  have:=gG.1 (u.rg e t);have:e.toNat≠i:=λa=>m (by rw[<-a,dT this.1];exact t);unfold pL so at*
  simp only[oZ,bO]
  grind
 generalize oZ w c i n ch.fa ch.pI=r at*
 have f:∀q,q∈c.order->q∈r.order:=λq v=>by rw[o];simp[v]
 refine⟨?_,r2,?_⟩;unfold oY;rw[show nu w r g=false from ?_,dy];unfold nu;rcases h with⟨a,h⟩|⟨a,e,j,k⟩|⟨a,h⟩|⟨a,h⟩
 rw[au a];rcases h with h|h<;>simp[Bu r2 (f _ h)]
 rw[aq J,au a,cK];intro i;have:=List.all_eq_true.1 i e j;unfold A1 at this;rw[(Bu r2 (f e k)).2]at this;simp at this;rw[aq J,aq J,au a,o];rcases h with h|⟨j,k⟩
 have:(i:Int)≠g.b:=λa=>m (a▸h);simp[this];simp[p _ j k];rw[aq J,aq J,aq J,au a];rcases h with h|⟨j,k⟩
 simp[Bu r2 (f _ h)];have:(i:Int)≠g.c:=λa=>m (a▸j);rw[k]at l;simp only[this,decide_false,Bool.and_false,Bool.or_false]at l;unfold K4 at l;rw[l];rfl;rcases h with⟨a,h⟩|⟨a,e,j,k⟩|⟨a,h⟩|⟨a,h⟩;exact .inl ⟨a,h.imp (f _) (f _)⟩;exact .inr (.inl ⟨a,e,j,f e k⟩);exact .inr (.inr (.inl ⟨a,h.imp (f _) λh=>⟨f _ h.1,p _ h.1 h.2⟩⟩));refine .inr (.inr (.inr ⟨a,h.imp (f _) λh=>⟨f _ h.1,?_⟩⟩));have:(i:Int)≠g.c:=λa=>m (a▸h.1);rw[l,h.2];simp[this]
end
end
def Pc:∀{c m:List Int},c.Nodup->(∀b∈c,b∈m)->m.length<=c.length->∀b∈m,b∈c
 | [],m,_,_,f,b,d=>by rw[List.length_eq_zero_iff.1 (Nat.le_zero.1 f)]at d;exact d
 |a::c,m,e,i,f,b,d=>by
  have e:=List.nodup_cons.1 e;have l:=i a Y;by_cases h:b=a;simp[h];refine dw _ (Pc e.2 (m:=m.erase a) (λj g=>(List.mem_erase_of_ne λk:j=a=>e.1 (k▸g)).2 (i j (by simp[g]))) ?_ b ((List.mem_erase_of_ne h).2 d));rw[List.length_erase_of_mem l];simp at f;omega
def WT(c:fi)(b:iv):Bool:=decide (b.kind=3)&&(decide (b.a∈c.order)&&pL c b.a)||decide (b.kind=4)&&K4 c b
structure AkQ(g:iv)(c d:fi):Prop where
 ln:c.order.length=d.order.length
 od:∀x∈c.order,x∈d.order
 pr:WT c g=WT d g
 sy:c.ig=d.ig
 ce:c.cells=d.cells
 fu:c.fR=d.fR
 fx:c.fixed=d.fixed
def AkQ.lk{f:fh}{d:iv}{c h:fi}(b:AkQ d c h)(m:Ie f c)(n:Ie f h)(r:c.order.Nodup)(t:List Int):Ig f t d c h:=by
 have l:∀g,g∈c.order↔g∈h.order:=λg=>⟨b.od g,Pc r b.od (by have:=b.ln;omega) g⟩;refine⟨m,n,l,λu w _ _ _=>by rw[b.fx],b.sy,b.ce,b.fu,λp=>?_,λq=>?_⟩;have e:=b.pr;unfold WT at e;by_cases i:d.a∈c.order;simpa[p,i,(l _).1 i]using e;unfold pL;cases k:jB d.a f.eZ.length;rw[nQ (by rw[m.wl];exact k),nQ (by rw[n.wl];exact k)];have j:=gG.1 k;have o:∀{c:fi},Ie f c->d.a∉c.order->so c.pM d.a=G 0:=λ{c} s v=>by
  unfold so;rw[au j.1];exact s.wo d.a.toNat j.2 (by rwa[dT j.1])
 rw[o m i,o n (mt (l _).2 i)];have e:=b.pr;unfold WT at e;simpa[q]using e
end
noncomputable section
open Go Go.TI Tryz
attribute [-simp] List.map_take List.map_drop List.map_append ik gu fI Bool.not_or Bool.not_and
section
attribute [-simp] size_cons
def abJ(a b:fc):I2 cx Fw a.t b.t=G (decide (a=b)):=by obtain⟨c,e,g⟩:=a;obtain⟨d,f,h⟩:=b;show I2 cx Fw (.agg [M c,M e,.bool g]) (.agg [M d,M f,.bool h])=_;rw[BE rfl rfl];simp only[tR,I3,nL,fw,show Wz.u= .bool from rfl,show EW.u= .int .i64 from rfl,Dx,F9,iP,BI,ED];by_cases i:c=d<;>by_cases j:e=f<;>cases g<;>cases h<;>simp[i,j]
def abd(c d:ah)(b:fc)(a:T):zu c d b.t a=true:=a9
def TK:p8 prog cx 126 (λb:List gU×List gU=>[sl (b.1.map gU.t),sl (b.2.map gU.t)]) (λb=>b.1.length<=1000000) (λb=>GI (b.1=b.2)):=by
 refine jX [] (jz 33571891 [] func126) (λ_=>1000005) (λb n a=>by simp at a;exact aD (jD (λ_ _ a=>gU.inj a) a.1) (jD (λ_ _ a=>gU.inj a) a.2)) ?_;rintro⟨f,g⟩ hl d i;simp only at hl;simp at i;simp[f126,i];refine fO (λe=>?_) (λe=>?_);simp;have l:f.length=g.length:=by simp at e;omega
 simp;refine io f.length J (λc d a=>a=hE/\f.take c=g.take c/\ka d 0 (sl (f.map gU.t))/\ka d 1 (sl (g.map gU.t))/\iS d 5 c) ?_ ?_ J (by simp[i]);rintro c d a k m ⟨rfl,ht,h⟩;have j:c<g.length:=J;simp[h,k,j,Of,NM];refine fO (λe=>?_) (λe=>?_);simp;simp[h,m];rw[aM k,aM j,ht,show f[c]=g[c]from iC e];rintro d a ⟨rfl,ht,h⟩;rw[aI,l,aI]at ht;simp[h,ht]
def ZD:p8 prog cx 127 (λa:List Bool×List Bool=>[sl (a.1.map T.bool),sl (a.2.map T.bool)]) (λa=>a.1.length<=1000000) (λa=>GI (a.1=a.2)):=by
 refine jX [] (jz 33571891 [] func127) (λ_=>1000005) (λa n b=>by simp at b;exact aD (jD Y b.1) (jD Y b.2)) ?_;rintro⟨f,g⟩ hl d i;simp only at hl;simp at i;simp[f127,i];refine fO (λe=>?_) (λe=>?_);simp;have l:f.length=g.length:=by simp at e;omega
 simp;refine io f.length J (λc d b=>b=hE/\f.take c=g.take c/\ka d 0 (sl (f.map T.bool))/\ka d 1 (sl (g.map T.bool))/\iS d 5 c) ?_ ?_ J (by simp[i]);rintro c d b k m ⟨rfl,ht,h⟩;have j:c<g.length:=J;simp[h,k,j];refine fO (λe=>?_) (λe=>?_);simp;simp[h,m];rw[aM k,aM j,ht,show f[c]=g[c]from iC e];rintro d b ⟨rfl,ht,h⟩;rw[aI,l,aI]at ht;simp[h,ht]
def Li:p8 prog cx 125 (λa:iu×iu=>[a.1.t,a.2.t]) (λa=>a.1.fT.length<=1000000/\a.1.done.length<=1000000/\a.1.eY.length<=1000000/\(∀u∈a.1.fT,u.gh.length<=1000000)/\∀u∈a.2.fT,u.gh.length<=1000000) (λa=>GI (a.1=a.2)):=by
 refine jX [(175,vd)] (jz 2596475246684489906153549811679487 [] func125) (λ_=>1000005) (λa c m=>by simp at m;exact aD (iu.inj m.1) (iu.inj m.2)) ?_;rintro⟨a,c⟩ ⟨hl,B,ht,r1,r2⟩ f w;simp only at hl B ht r1 r2;simp at w;simp[f125,w];refine fO (λj=>?_) (λj=>?_);simp;have⟨v,x,y,z⟩:a.tx=c.tx/\a.fT.length=c.fT.length/\a.done.length=c.done.length/\a.eY.length=c.eY.length:=by simp at j;omega
 simp;refine io a.fT.length J (λb f h=>(jk 0 h/\h.get 0=G (eg 4 0 [a.t])/\h.get 1=G (eg 4 0 [c.t]))/\a.fT.take b=c.fT.take b/\jg f 2 0/\jg f 3 1/\iS f 5 b) ?_ ?_ J ⟨⟨⟨Y,by simp[size_cons],Y⟩,by simp[size_cons],by simp[size_cons]⟩,Y⟩;rintro b f h l n ⟨⟨g,d,i⟩,o,e⟩;have k:b<c.fT.length:=J;have A:=λ{C:iq} (m:C.p 175=G vd)=>RV m a.fT[b].gh c.fT[b].gh (iV (r1 _ (aG l))) (iV (r2 _ (aG k)));simp[e,d,i,l,k,A];refine fO (λj=>?_) (λj=>?_);simp[g.hp];simp[e,n,g,d,i];rw[aM l,aM k,o];generalize a.fT[b]=D at*
 generalize c.fT[b]=E at*
 obtain⟨F,H⟩:=D;obtain⟨I,K⟩:=E;simp at j|-;exact j;rintro f h ⟨⟨g,d,i⟩,r,e⟩;rw[aI,x,aI]at r;simp[e,d];refine io a.done.length J (λb f h=>(jk 0 h/\h.get 0=G (eg 4 0 [a.t])/\h.get 1=G (eg 4 0 [c.t]))/\a.done.take b=c.done.take b/\jg f 2 0/\jg f 3 1/\iS f 6 b) ?_ ?_ J ⟨⟨g,d,i⟩,by simp[e]⟩;clear g d i e;rintro b f h l n ⟨⟨g,d,i⟩,o,e⟩;have k:b<c.done.length:=J;simp[e,d,i,l,k];refine fO (λj=>?_) (λj=>?_);simp[g.hp];simp[e,n,g,d,i];rw[aM l,aM k,o,show a.done[b]=c.done[b]from iC j];clear g d i e;rintro f h ⟨⟨g,d,i⟩,q,e⟩;rw[aI,y,aI]at q;simp[e,d];refine io a.eY.length J (λb f h=>(jk 0 h/\h.get 0=G (eg 4 0 [a.t])/\h.get 1=G (eg 4 0 [c.t]))/\a.eY.take b=c.eY.take b/\jg f 2 0/\jg f 3 1/\iS f 7 b) ?_ ?_ J ⟨⟨g,d,i⟩,by simp[e]⟩;clear g d i e;rintro b f h l n ⟨⟨g,d,i⟩,o,e⟩;have k:b<c.eY.length:=J;simp[e,d,i,l,k,abJ,abd];refine fO (λj=>?_) (λj=>?_);simp[g.hp];simp[e,n,g,d,i];rw[aM l,aM k,o,show a.eY[b]=c.eY[b]from iC j];rintro f h ⟨⟨g,d,i⟩,s,e⟩;rw[aI,z,aI]at s;simp[e,d,g.hp];obtain⟨_,_,_,_⟩:=a;obtain⟨_,_,_,_⟩:=c;simp only at v r q s;rw[v,r,q,s]
def Ua:p8 prog cx 123 (λa:fi×fi=>[a.1.t,a.2.t]) (λa=>a.1.order.length<=1000000/\a.2.order.length<=1000000) (λa=>GI (a.1.order.length=a.2.order.length/\∀m∈a.1.order,m∈a.2.order)):=by
 refine jX [(97,Ci)] (jz 268570687 [] func123) (λ_=>1000005) (λa c d=>by simp at d;exact aD (fi.inj d.1) (fi.inj d.2)) ?_;rintro⟨a,c⟩ ⟨hl,u⟩ b n;simp only at hl u;simp at n;simp[f123,n];refine fO (λe=>?_) (λe=>?_);simp;have q:a.order.length=c.order.length:=by simp at e;omega
 simp;refine io a.order.length J (λj b f=>(jk 0 f/\f.get 0=G (eg 9 0 [a.t])/\f.get 1=G (eg 9 0 [c.t]))/\(∀m∈a.order.take j,m∈c.order)/\jg b 2 0/\jg b 3 1/\iS b 5 j) ?_ ?_ J ⟨⟨⟨Y,by simp[size_cons],Y⟩,by simp[size_cons],by simp[size_cons]⟩,Y⟩;rintro j b f o s ⟨⟨k,g,l⟩,i,h⟩;have r:=λ{x:iq} (d:x.p 97=G Ci)=>Mz d c.order a.order[j] J;simp[h,g,l,o,r];refine fO (λe=>?_) (λe=>?_);simp[k.hp];simp[h,s,k,g,l];rw[aM o];exact λy v=>(List.mem_append.1 v).elim (i y) λw=>List.mem_singleton.1 w▸iC e;rintro b f ⟨⟨k,g,l⟩,i,h⟩;rw[aI]at i;simp[h,g,k.hp,q];exact i
structure CfN(c:fi):Prop where
 l:c.order.length<=1000000
 n:c.order.Nodup
 w:∀o∈c.order,jB o c.pM.length
def Iu{a:List Int}{b:Nat}(e:b<a.length)(f:a.Nodup)(c:Int):kV (a.take (b+1)) c 0=if a[b]=c then(b:Int)else kV (a.take b) c 0:=by
 rw[aM e,Bm];have j:(a.take b++a[b]::a.drop (b+1)).Nodup:=by rw[<-aJ e,cB];exact f
 have h:a[b]∉a.take b:=λd=>(List.nodup_append.1 j).2.2 _ d _ dD rfl;by_cases d:a[b]=c;subst d;simp[h];omega;by_cases g:c∈a.take b;simp[g,d];have:=mt (@oM c (a.take b) 0).1 g;have k:kV (a.take b) c 0=-1:=by
  have:∀(a:List Int) (f:Nat),c∉a->kV a c f=-1:=λa=>by
   induction a with
   |nil=>intro f _;rfl
   |cons l a i=>intro f e;simp at e;unfold kV;rw[aq (λd=>e.1 d.symm)];exact i _ e.2
  exact this _ _ g
 simp[g,d,k]
def Gi:p8 prog cx 124 (λm:fi×iv=>[m.1.t,m.2.t]) (λm=>CfN m.1) (λm N=>N= M (if WT m.1 m.2=true then 1 else 0)):=by refine jX [] (jz 1125910648459519 [] func124) (λ_=>1000005) (λm O H=>by simp at H;exact aD (fi.inj H.1) (iv.inj H.2)) ?_;rintro⟨d,b⟩ (B:CfN d) p I;simp at I;have hl:=B.l;simp[f124,I];refine io d.order.length J (λx p z=>(jk 0 z/\z.get 0=G (eg 9 0 [d.t])/\z.get 1=G (eg 6 0 [b.t]))/\iS p 5 (kV (d.order.take x) b.a 0)/\iS p 6 (kV (d.order.take x) b.c 0)/\jg p 2 0/\jg p 3 1/\iS p 7 x) ?_ ?_ J ⟨⟨⟨Y,by simp[size_cons],Y⟩,by simp[size_cons],by simp[size_cons]⟩,by simp[kV]⟩;rintro x p z A K ⟨⟨j,f,g⟩,k,v,h⟩;have C:=Iu A B.n b.a;have D:=Iu A B.n b.c;have⟨u,F⟩:∃u,d.order[x]=u:=⟨_,rfl⟩;rw[F]at C D;simp[h,f,g,A,F];refine fO (λe=>?_) (λe=>?_)<;>simp only[aP,bg]at e<;>(first|rw[au e]at C|rw[aq e]at C)<;>simp[h,f,g,A,F]<;>refine fO (λE=>?_) (λE=>?_)<;>simp only[aP,bg]at E<;>(first|rw[au E]at D|rw[aq E]at D)<;>simp[h,k,v,f,g,C,D,K,j];rintro p z ⟨⟨j,f,g⟩,k,v,h⟩;rw[aI]at k v;have o:∀u,decide (0<=kV d.order u 0)=decide (u∈d.order):=λu=>decide_eq_decide.2 oM;have i:WT d b=_:=WT.eq_1 d b;unfold K4 place at i;by_cases e:b.a∈d.order;have L:=B.w _ e;have q:=gG.1 L;unfold pL so at i;rw[au q.1,aF q.2]at i;by_cases r:b.kind=3;by_cases y:d.pM[b.a.toNat]=0;simp[h,k,f,g,i,r,e,y,fZ q.1,q.2,o,j.hp];simp[h,k,f,g,i,r,e,y,fZ q.1,q.2,o,j.hp];by_cases s:b.kind=4;by_cases y:kV d.order b.a 0<kV d.order b.c 0;simp[h,k,v,f,g,i,s,e,y,o,j.hp];simp[h,k,v,f,g,i,s,e,y,o,j.hp];simp[h,f,g,i,r,s,e,o,j.hp];by_cases r:b.kind=3;simp[h,k,f,g,i,r,e,o,j.hp];by_cases s:b.kind=4;simp[h,k,f,g,i,s,e,o,j.hp];simp[h,f,g,i,r,s,e,o,j.hp]
structure CfM(c:fi):Prop where
 n:CfN c
 l:c.ig.fT.length<=1000000/\c.ig.done.length<=1000000/\c.ig.eY.length<=1000000
 r:∀l∈c.ig.fT,l.gh.length<=1000000
 s:c.cells.length<=1000000/\c.fR.length<=1000000/\c.fixed.length<=1000000
def Pv:p8 prog cx 76 (λa:fi×fi×iv=>[a.1.t,a.2.1.t,a.2.2.t]) (λa=>CfM a.1/\CfM a.2.1) (λa=>GI (AkQ a.2.2 a.1 a.2.1)):=by refine jX [(123,Ua.kx),(124,Gi.kx),(125,Li.kx),(126,TK.kx),(127,ZD.kx)] (jz 127 [(1,[(6,7),(6,8)])] func76) (λ_=>5) (λa c e=>by simp at e;exact aD (fi.inj e.1) (aD (fi.inj e.2.1) (iv.inj e.2.2))) ?_;rintro⟨a,c,d⟩ ⟨b,f⟩ H p;simp only at b f;simp at p;obtain⟨_,⟨I,rfl,q⟩,g⟩:=Ua.use (a,c) ⟨b.n.l,f.n.l⟩;obtain⟨_,rfl,h⟩:=Gi.use (a,d) b.n;obtain⟨_,rfl,i⟩:=Gi.use (c,d) f.n;obtain⟨_,⟨K,rfl,u⟩,j⟩:=Li.use (a.ig,c.ig) ⟨b.l.1,b.l.2.1,b.l.2.2,b.r,f.r⟩;obtain⟨_,⟨L,rfl,v⟩,k⟩:=TK.use (a.cells,c.cells) b.s.1;obtain⟨_,⟨N,rfl,w⟩,m⟩:=TK.use (a.fR,c.fR) b.s.2.1;obtain⟨_,⟨O,rfl,x⟩,o⟩:=ZD.use (a.fixed,c.fixed) b.s.2.2;simp only at q u v w x g h i j k m o;simp[f76,p,g,h,i,j,k,m,o];intro y z A B C D;have⟨E,F⟩:=q y;refine⟨E,F,?_,u A,v B,w C,x D⟩;revert z;cases WT a d<;>cases WT c d<;>simp
end
end
noncomputable section
open Go Go.TI
section
section
variable {S Cq:Type}{lt:Cq->Cq->Prop}{chs:S->List Cq}{step:S->Cq->S}{hit:S->Bool}{s0:S}{R:S->S->Prop}{k:Nat}{ms l lv:List (S×List Cq)}{e:S×List Cq}
structure KpI(lt:Cq->Cq->Prop)(hit:S->Bool)(R:S->S->Prop)(ms l:List (S×List Cq)):Prop where
 sb:ms.Sublist l
 cv:∀x∈l,∃y∈ms,IM lt y.2 x.2/\(y=x\/R y.1 x.1)
 ft:ms.find? (λx=>hit x.1)=l.find? λx=>hit x.1
def KpI.mO(a:KpI lt hit R ms l)(e:S×List Cq):KpI lt hit R (ms++[e]) (l++[e]):=
 ⟨a.sb.append (.refl _),λc g=>(List.mem_append.1 g).elim (λb=>by have⟨h,d,f⟩:=a.cv c b;exact⟨h,dC _ d,f⟩) λb=>⟨c,dU _ b,.inl rfl,.inl rfl⟩,by rw[List.find?_append,List.find?_append,a.ft]⟩
def KpI.drop(b:KpI lt hit R ms l)(h:hit e.1=false)(i:∃a∈ms,IM lt a.2 e.2/\R a.1 e.1):KpI lt hit R ms (l++[e]):=
 ⟨b.sb.trans (List.sublist_append_left _ _),λj g=>(List.mem_append.1 g).elim (b.cv j) λm=>by obtain⟨a,c,d,f⟩:=i;exact List.mem_singleton.1 m▸⟨a,c,d,.inr f⟩,by rw[List.find?_append,b.ft];simp[h]⟩
def LvP(lt:Cq->Cq->Prop)(chs:S->List Cq)(step:S->Cq->S)(hit:S->Bool)(s0:S)(R:S->S->Prop)(k:Nat)(lv:List (S×List Cq)):Prop:=
 k=0/\lv=[(s0,[])]\/∃a b,k=a+1/\HI lt chs step hit s0 a b/\KpI lt hit R lv (A6 chs step b)
def LvP.ajh(T:∀a b h,lt a b->lt b h->lt a h)(o:∀t,(chs t).Pairwise lt)(n:LvP lt chs step hit s0 R k lv){a b:List (S×List Cq)}(d:lv=a++e::b)(p:∀c∈a,hit c.1=false)(f:hit e.1):Lst lt chs step hit s0 e.2:=by rcases n with⟨_,rfl⟩|⟨u,v,_,m,j⟩;rcases a with _|⟨c,a⟩;simp at d;obtain⟨rfl,_⟩:=d;exact⟨trivial,f,λq _ _=>by cases q<;>simp[IM]⟩;have:=bE List.length d;simp at this;have i:=j.ft;rw[d,List.find?_append,List.find?_eq_none.2 λc g=>by simp[p c g],Option.none_or,List.find?_cons_of_pos (by exact f)]at i;have⟨_,l1,l2,r,s⟩:=List.find?_eq_some_iff_append.1 i.symm;exact m.found T o r (λc g=>by simpa using s c g) f
def LvP.pw(d:∀f,(chs f).Pairwise lt)(c:LvP lt chs step hit s0 R k lv):lv.Pairwise λg h=>lx lt g.2 h.2:=by rcases c with⟨_,rfl⟩|⟨i,j,_,b,a⟩;simp;exact(b.Kn d).sublist a.sb
def LvP.aeq(T:∀d f g,lt d f->lt f g->lt d g)(p:∀q,(chs q).Pairwise lt)(j:Alk chs step hit R)(n:LvP lt chs step hit s0 R k lv)(i:∀a∈lv,hit a.1=false):HI lt chs step hit s0 k lv:=by rcases n with⟨rfl,rfl⟩|⟨r,s,rfl,m,c⟩;exact HI.start (i (s0,[]) Y);have h:=c.ft;rw[List.find?_eq_none.2 λa b=>by simp[i a b]]at h;exact m.next T p j (D:=λ_=>False) (λo=>o.elim) (λa b=>by simpa using List.find?_eq_none.1 h.symm a b) c.sb λa b=> .inr (c.cv a b)
end
end
end
noncomputable section
open Go Go.TI
attribute [-simp] List.map_take List.map_drop List.map_append ik gu fI Bool.not_or Bool.not_and
section
attribute [-simp] size_cons
section
section
variable {V:Nat}{e:Env}{h:H}
def FG(a:List (List Nat)):List T:=a.map λb=> .tuple [.str b,.bool true]
def EB(c:List Nat):∀(b:List (List Nat)) (a:Nat),∃f,rY .str (.str c) (FG b) a=G (if c∈b then some (f,.bool true)else none):=by
 intro b;induction b with
 |nil=>intro a;exact⟨0,rfl⟩
 |cons d b l=>
  intro a;have⟨f,j⟩:=l (a+1);have i:rY .str (.str c) (FG (d::b)) a=Z (some (XR c d)) λm=> @Bool.rec (λ_=>aa (aa (Nat×T))) (Z (jd (Nat.succ a)) λk=>rY .str (.str c) (FG b) k) (some (some (a,.bool true))) m:=rfl;rw[i,PP,fw];by_cases g:c=d;subst g;exact⟨a,Y⟩;refine⟨f,?_⟩;simp[g,decide_false,jx,fw,cg,false_or];exact j
@[simp]theorem aiM:j9 (.makeMap 75 none) cx V e h=be (.map h.size) (h.cons ⟨0,0,0,true,true,[]⟩):=by
 show(Z (cx.ty 75) λb=>(match b.u with
  | .map _ _=>kJ (h.new (λa=> .map a) ⟨0,0,0,true,true,[]⟩)
  |_=>none))=_
 rw[Om,fw,show M3.u= .map 9 4 from rfl];rfl
def luS(h:H)(f a:T):aa nO:=iX (Ev .str a) (Z (h.entries f) λb=>Z (rY .str a b 0) λd=>val h (some (Option.casesOn d (.bool false) λc=>c.2)))
@[simp]theorem aiP (a b:ah):j9 (.lookup 75 a b false) cx V e h=Z (iG cx V e a) λa=>Z (iG cx V e b) λc=>luS h a c:=by show wK _ a b false cx V e h=_;unfold wK luS;rw[Om,fw,show M3.u= .map 9 4 from rfl];simp only[xO,I3,fw,show ty9.u= .str from rfl];rfl
def XC{c j:Nat}{a:List (List Nat)}(g:h.get c=G ⟨0,0,j,true,true,FG a⟩)(b:List Nat):luS h (.map c) (.str b)=be (.bool (decide (b∈a))) h:=by
 unfold luS;have f:h.entries (.map c)=G (FG a):=by
  show(Z (h.get c) λk=>_)=_;rw[g];rfl
 have⟨l,i⟩:=EB b a 0;rw[f,fw,i,fw,show Ev .str (.str b)=true from rfl,iP];by_cases d:b∈a;rw[au d,bK d];rfl;rw[aq d,bj d];rfl
def muS(h:H)(l a c:T):aa nO:=iX (Ev .str a) (iX c.je (match l with
 | .map d=>Z (h.get d) λf=>jO.casesOn f λo g p exact k b=>iX k (Z (rY .str a b 0) λn=>Z (jd (Nat.succ p)) λq=>
  (Z (Option.casesOn n (D7 b [.tuple [a,c]]) λm=>nH b m.1 (.tuple [a,c])) λi=>Z (h.put d ⟨o,g,q,exact,true,i⟩) λj=>be .undef j))
 |_=>none))
@[simp]theorem aiL (a b c:ah):j9 (.mapUpdate 75 a b c) cx V e h=Z (iG cx V e a) λa=>Z (iG cx V e b) λd=>Z (iG cx V e c) λf=>muS h a d f:=by show qR _ a b c cx V e h=_;unfold qR muS;rw[Om,fw,show M3.u= .map 9 4 from rfl];simp[xO,fw];rfl
def XA{c f:Nat}{b:List (List Nat)}(d:h.get c=G ⟨0,0,f,true,true,FG b⟩){a:List Nat}(i:a∉b):
 muS h (.map c) (.str a) (.bool true)=be .undef (fQ h c ⟨0,0,f+1,true,true,FG (b++[a])⟩):=by
 unfold muS;have⟨j,g⟩:=EB a b 0;rw[show Ev .str (.str a)=true from rfl,iP,show(T.bool true).je=true from rfl,iP];simp[d,fw,iP];rw[g,fw,aq i];simp[fw,zj d];unfold FG;rw[List.map_append];rfl
def Gr.ajx{d:Nat}{q s:ab}{i k:Ty}{z:T}{a:List T}(B:Gr h z d a)(t:cx.ty q=G i)(g:i.u= .slice s)(j:cx.ty s=G k)(n:k.size=d)(v:1<=k.bytes)(w:∀e∈a,e.cells.length=d)(x:(a.length+1)*k.bytes<=70368744177664):
 ∃y:T,Im cx h i z none (some a.length) (some a.length)=be y h/\∀(c:H) (e:T),h.size<=c.size->(∀b,b<h.size->c.get b=h.get b)->e.cells.length=d->jE cx (c.cons (eg d 0 [e])) q q y (.arr c.size 0 0 1 false)=be (.arr (c.size+1) 0 0 (a.length+1) false) ((c.cons (eg d 0 [e])).cons ⟨d,0,0,false,false,a++[e]⟩):=by
 rcases B with⟨rfl,rfl⟩|⟨b,f,L,K,r,rfl,m,o⟩;exact⟨ed,by unfold Im jL;simp[g,j];rfl,λc e _ _ l=>Ff t g j n v w x l λr o=>by cases r with|nil=>exact absurd rfl o|cons=>rfl⟩;refine⟨.arr b f 0 a.length true,?_,λc e _ C l=>Ff t g j n v w x l λA D=>?_⟩;unfold Im;have p:jL cx h i.u (.arr b f 0 a.length false):=by
  unfold jL;simp only[g,j,m];rw[n];simp
 rw[p,iP,show AI (some a.length) (some a.length)=true from by simp[AI],iP,show asSlice i.u (.arr b f 0 a.length false)= .arr b f 0 a.length false by rw[g];rfl];show val h (iX (Nat.ble 0 a.length) (iX (Nat.ble a.length a.length) (Z (jd (Nat.add 0 0)) λI=>Z (jd (Nat.sub a.length 0)) λE=>iX (Nat.beq a.length a.length) (some (T.arr b f I E true)))))=_;simp;have p:(c.cons (eg d 0 [e])).kd (.arr b f 0 a.length true)=G a:=by
  have F:=H.fV m;rw[iW,fH,aq J,C b F,m];have:a.length<=r.length:=by have:=bE List.length o;simp at this;omega
  simp[*]
 rcases A with _|⟨N,A⟩;exact absurd rfl D;show(Z ((c.cons (eg d 0 [e])).kd (.arr b f 0 a.length true)) λa=>_)=_;rw[p];rfl
end
end
end
end
noncomputable section
open Go Go.TI
abbrev H9:List Nat:=[48,49,50,51,52,53,54,55,56,57,97,98,99,100,101,102,103,104,105,106,107,108,109,110,111,112,113,114,115,116,117,118,119,120,121,122]
def yk(a:Nat):List Nat:=if b:a<36 then [H9.getD a 0]else yk (a/36)++[H9.getD (a% 36) 0]
termination_by a
decreasing_by omega
def agd(a:Nat):Nat:=H9.idxOf a
def QD(c:List Nat):Nat:=c.foldl (λa b=>a*36+agd b) 0
def J4:∀a,a<36->agd (H9.getD a 0)=a/\H9.getD a 0<256/\45<H9.getD a 0:=d6 
def Mg{P:Nat->Prop}(b:∀a,(36<=a->P (a/36))->P a)(a:Nat):P a:=by
 induction a using Nat.strongRecOn with
 |_ a c=>exact b a λd=>c _ J 
def CP(a:Nat):QD (yk a)=a:=Mg (P:=λa=>QD (yk a)=a) (λa c=>by
 rw[yk];split;rename_i b;simp only[QD,dF,List.foldl_nil,(J4 a b).1];omega;rename_i b;have:=c J;unfold QD at*
 rw[dO,this];simp only[dF,List.foldl_nil,(J4 (a% 36) J).1];omega) a
def J5(b:Nat):∀a∈yk b,a<256/\45<a:=Mg (P:=λb=>∀a∈yk b,a<256/\45<a) (λb d=>by
 rw[yk];split;rename_i c;simp only[dg];rintro a rfl;exact(J4 b c).2;rename_i c;intro a hc;rcases List.mem_append.1 hc with hc|hc
 exact d J a hc;simp only[dg]at hc;exact hc▸(J4 (b% 36) J).2) b
def U0(b:Nat):∀a,a<2^(b+1)->(yk a).length<=b+1:=by
 induction b with
 |zero=>intro a c;rw[yk,dif_pos J];simp
 |succ b d=>
  intro a c;rw[yk];split;simp;have:=d (a/36) (by rw[Nat.pow_succ]at c;omega);simp;omega
def AL(a:Int):List Nat:=if a<0 then 45::yk (IntKind.u64.wrap (-IntKind.u64.wrap a)).toNat else yk (IntKind.u64.wrap a).toNat
def Wx(a:Int):0<=IntKind.u64.wrap a/\IntKind.u64.wrap a<18446744073709551616:=by simp[IntKind.wrap,IntKind.bits,IntKind.signed];omega
def CI(b:Int):(AL b).length<=67/\∀a∈AL b,a<256/\a≠32:=by
 have d:∀c,(yk (IntKind.u64.wrap c).toNat).length<=64:=λc=>U0 63 _ (by have:=Wx c;show _<18446744073709551616;omega);unfold AL;split;refine⟨by have:=d (-IntKind.u64.wrap b);simp;omega,λa hc=>?_⟩;rcases List.mem_cons.1 hc with rfl|hc
 decide;have:=J5 _ a hc;omega;exact⟨by have:=d b;omega,λa hc=>by have:=J5 _ a hc;omega⟩
def US{a c:Int}(n:mH a)(m:mH c)(b:AL a=AL c):a=c:=by
 have i:∀{a:Int},0<=a->a<18446744073709551616->IntKind.u64.wrap a=a:=λk g=>by
  simp[IntKind.wrap,IntKind.bits,IntKind.signed];omega
 have j:∀{a:Int},a<0->mH a->IntKind.u64.wrap (-IntKind.u64.wrap a)=-a:=λk g=>by
  unfold mH at g;simp[IntKind.wrap,IntKind.bits,IntKind.signed];omega
 have h:∀{d:Nat} {l},yk d≠45::l:=λ{d l} o=>by have:=J5 d 45 (by rw[o];simp);omega
 unfold mH at*
 unfold AL at b;by_cases e:a<0<;>by_cases f:c<0<;>simp only[e,f,if_true,if_false]at b;rw[j e n,j f m]at b;have:=bE QD (List.cons.inj b).2;rw[CP,CP]at this;omega;exact absurd b.symm h;exact absurd b h;rw[i J J,i J J]at b;have:=bE QD b;rw[CP,CP]at this;omega
def enc(a:List Int):List Nat:=a.flatMap λb=>AL b++[32]
def J0(a:List Int):(enc a).length<=68*a.length:=by
 induction a with
 |nil=>simp[enc]
 |cons b a c=>
  have:=(CI b).1;unfold enc at*
  simp only[bh,aT,aU,cW];omega
def XU(a b:List Int):enc (a++b)=enc a++enc b:=by unfold enc;rw[cH]
def ZX:∀{b d h i:List Nat},(∀c∈b,c≠32)->(∀c∈d,c≠32)->b++32::h=d++32::i->b=d/\h=i
 | [],[],_,_,_,_,a=>by simpa using a
 | [],c::d,_,_,_,f,a=>by simp at a;exact absurd a.1.symm (f c Y)
 |c::b,[],_,_,e,_,a=>by simp at a;exact absurd a.1 (e c Y)
 |c::b,l::d,_,_,e,f,a=>by
  simp only[aW,bL]at a;have⟨j,k⟩:=ZX (λc g=>e c (by simp[g])) (λc g=>f c (by simp[g])) a.2;exact⟨by rw[a.1,j],k⟩
def PS:∀{b c:List Int},(∀n∈b,mH n)->(∀n∈c,mH n)->enc b=enc c->b=c
 | [],[],_,_,_=>rfl
 | [],n::c,_,_,a=>by have:=bE List.length a;simp[enc]at this
 |n::b,[],_,_,a=>by have:=bE List.length a;simp[enc]at this
 |n::b,i::c,g,h,a=>by
  unfold enc at a;simp only[bh,aO,dQ]at a;have⟨j,k⟩:=ZX (λd e=>((CI n).2 d e).2) (λd e=>((CI i).2 d e).2) a;rw[US (g n Y) (h i Y) j,PS (λn f=>g n (by simp[f])) (λn f=>h n (by simp[f])) k]
end
noncomputable section
open Go Go.TI Tryz
attribute [-simp] List.map_take List.map_drop List.map_append ik gu fI Bool.not_or Bool.not_and
section
attribute [-simp] size_cons
def BN(b:List Nat):List T:=b.map λ(a:Nat)=>T.int .u8 a
def ew{a:Int}(b:0<=a)(c:a<18446744073709551616):IntKind.u64.wrap a=a:=by simp[IntKind.wrap,IntKind.bits,IntKind.signed];omega
structure Ws where
 (v:T) (l:List Nat) (n:Int)
def En(d:Nat)(c:ak)(f:List T)(a:Ws)(e:List T)(b:H):Prop:=e=[a.v,.int c a.n,M 36]++f/\Gr b a.v 1 (BN a.l)/\jk 0 b/\a.l.length<=d/\(c= .u64->0<=a.n/\a.n<18446744073709551616)
def zr(d:Int->List Nat)(c:T->T)(a:Ws)(h:List T)(e:H)(g:T)(f:H):Prop:=∃b,g=c b/\Xt e a.v 1 (BN (a.l++d a.n)) b f
abbrev dgU(a:Int):List Nat:=yk a.toNat
def set_drop{l:List Nat}{k:Nat}(b:k<l.length)(a:Nat):(l.set k a).drop k=a::l.drop (k+1):=by rw[aJ (by simpa using b),List.getElem_set_self,List.drop_set_of_lt J]
def ZW(b:Nat)(c:b<36):∃a,H9[b]? =G a/\a<256/\H9.getD b 0=a:=⟨H9[b],by simp[c],by have:=(by decide:∀a∈H9,a<256);exact this _ (aG _),by simp[c]⟩
def aax{c:H}{a k b:Nat}{d:List T}(f:c.get a=G ⟨1,0,k,true,false,d⟩)(h:d.length=65)(g:b<=65):Im cx c Ft (ez a) (some b) none none=be (.arr a 0 b (65-b) false) c:=by
 unfold Im;have e:jL cx c Ft.u (ez a):=by
  unfold jL;simp only[show Ft.u= .array 65 5 from rfl,A2,f,kQ,h];rfl
 rw[e,iP,show AI none none=true from rfl,iP,show asSlice Ft.u (ez a)= .arr a 0 0 65 false by rw[show Ft.u= .array 65 5 from rfl];rfl];show val c (iX (Nat.ble b 65) (iX (Nat.ble 65 65) (Z (jd (Nat.add 0 b)) λj=>Z (jd (Nat.sub 65 b)) λi=>some (T.arr a 0 j i false))))=_;simp[g]
def afN{c:H}{b h a:Nat}{d:List T}(e:c.get b=G ⟨1,0,h,true,false,d⟩)(f:a<65):pX c 65 ty5 (ez b) a=be (.ptr b 0 a 0) c:=by unfold pX;simp only[e,fw,show Nat.blt a 65=true from aQ▸f,iP];show iX true (Z (jd (Nat.add 0 a)) λg=>some (nO.val (.ptr b 0 g 0) c))=_;simp
def VG{xs:List Nat}{k:Nat}(a:k<xs.length):∃b:Int,(BN xs)[k]? =G (.int .u8 b):=⟨xs[k],by simp[BN,a]⟩
def Qk(c:List Nat)(b a:Nat):(BN c).set b (.int .u8 a)=BN (c.set b a):=by simp[BN,aY]
structure DgR(h0 h:H)(xs:List Nat):Prop where
 nb:Nb h0 h
 sz:h.size=h0.size+1
 bx:∃ver,h.get h0.size=G ⟨1,0,ver,true,false,BN xs⟩
 ln:xs.length=65
 by':∀c∈xs,c<256
theorem DgR.put{c f:H}{d:List Nat}(a:DgR c f d)(g b h:Nat)(j:b<256):DgR c (fQ f c.size ⟨1,0,h,true,false,BN (d.set g b)⟩) (d.set g b):=by have⟨k,e⟩:=a.bx;refine⟨a.nb.put e (ay _) _,by rw[iB];exact a.sz,⟨h,by rw[fj e,au rfl]⟩,by simp[a.ln],λx i=>?_⟩;rcases bP i with q|q;exact a.by' x q;omega
@[simp]theorem aiX {b:Nat} {a:Env} {c:H} (f g:ab) (d e:ah):j9 (.binOp .and f d e g) cx b a c=zJ .and (iG cx b a d) (iG cx b a e) c:=rfl
def S5:iF:=⟨Unit,λ_=>[M 36],λ_=>True,λ_=> .bool false,λ_ _ _=>rfl⟩
def aeU:S5.Ok prog cx 259:=by refine iD [] (jz 5 [] func259) (λd=>5) (by simp[S5]) ?_;rintro⟨⟩ _ e a;simp[S5]at a|-;have b:binop .and (M 36) (M 35)=G (M 32):=rfl;have c:binop .sub (M 36) (M 1)=G (M 35):=rfl;simp[f259,a,b,c]
def ajB{a:iq}(ht:a.p 259=G S5):rl prog cx a 259 [M 36]=G (.bool false):=iL ht aeU () trivial
def ae0:(kW Ws (En 10000000001 .u64 [.bool false,.bool true]) (zr dgU λs=> .tuple [s,.str []])).Ok prog cx 226:=by
 refine jP [(259,S5)] [] (jz 20426010943356750102455122975 [] func226) 100 ?_;rintro⟨s,l,n⟩ _ b ⟨rfl,F,aE,hl,al⟩ br R;simp only at F hl al;simp at R;have an:∀x y:Int,mT (.int .u8 x) 0 [.int .u8 y]=G (.int .u8 y):=λ_ _=>rfl;have ao:∀b:H,U7 cx b 3 280 Ij (M 36)=be (.int .u64 36) b:=λb=>E9 PW rfl rfl;have aN:=aE.hr;simp[f226,R,ajB,ao];have⟨aA,bT⟩:=al trivial;obtain⟨A,rfl⟩:=Int.eq_ofNat_of_zero_le aA;refine HB (σ:=Nat×Nat×List Nat) (λe d o=>d.tmps= .nil/\DgR (TI.hr b) o e.2.2/\e.1<2^e.2.1/\e.2.1<=64/\yk A=yk e.1++e.2.2.drop (e.2.1+1)/\ka d.vars 0 s/\ka d.vars 1 (.int .u64 e.1)/\ka d.vars 3 (.bool false)/\ka d.vars 4 (.bool true)/\ka d.vars 11 (.str [])/\jg d.vars 12 b.size/\iS d.vars 13 (e.2.1+1)/\ka d.vars 17 (.int .u64 36)) (λe=>e.2.1) ?_ 100 (A,64,List.replicate 65 0) _ _ Y ?_;rintro⟨f,i,xs⟩ ⟨br,bX⟩ o ⟨ht,h,T,ae,t,I,B,P,Q,K,L,N,O⟩;simp only at ht h T ae t I B P Q K L N O;subst ht;have⟨w,r⟩:=h.bx;replace r:o.get b.size=_:=r;have bZ:(f:Int)<18446744073709551616:=by
  have:2^i<=2^64:=dR d6 ae;have:(2:Nat)^64=18446744073709551616:=d6;omega
 simp[B,O];refine fO (λp=>?_) (λp=>?_);have p:36<=f:=by simp at p;omega
 obtain⟨c,rfl⟩:∃c,i=c+1:=⟨i-1,by
  rcases i with _|i;·simp at T;omega
  rfl⟩
 have⟨m,u,v,ap,bu,bA⟩:∃m u v,m=f/36/\u=m*36/\v=f-u:=⟨_,_,_,rfl,rfl,rfl⟩;have ax:m<2^c:=by rw[Nat.pow_succ]at T;omega
 have V:binop .sub (M ((c:Int)+1+1)) (M 1)=G (M ((c:Int)+1)):=Ee J J J;have bi:mQ ((c:Int)+1)=G (c+1):=Fy (c+1);have aX:binop .quo (.int .u64 f) (.int .u64 36)=G (.int .u64 m):=by
  rw[aaG d6,Int.tdiv_eq_ediv_of_nonneg J,ew J J];congr 2;omega
 have a7:binop .mul (.int .u64 m) (.int .u64 36)=G (.int .u64 u):=by
  rw[afj,ew J J];congr 2;omega
 have a8:binop .sub (.int .u64 f) (.int .u64 u)=G (.int .u64 v):=by
  rw[we,ew J J];congr 2;omega
 have⟨g,C,D,E⟩:=ZW v J;have⟨x,U⟩:=VG (xs:=xs) (k:=c+1) (iV h.ln);simp[I,B,P,Q,K,L,N,O,V,aX,a7,a8,C,afN r (show c+1<65 by omega),r,bi,U,an,Qk];rw[yk.eq_1 f,dif_neg J,<-ap,show f% 36=v by omega,E,aO,dQ,<-set_drop (l:=xs) (k:=c+1) (iV h.ln)]at t;exact⟨m,c,J,_,h.put (c+1) g _ D,ax,J,t,rfl,rfl⟩;have p:f<36:=by simp at p;omega
 have V:binop .sub (M ((i:Int)+1)) (M 1)=G (M (i:Int)):=Ee J J J;have⟨g,C,D,E⟩:=ZW f p;have⟨x,U⟩:=VG (xs:=xs) (k:=i) (iV h.ln);simp[I,B,P,Q,L,N,V,C,afN r (show i<65 by omega),r,U,an,Qk];have j:=h.put i g (w+1) D;have⟨b6,X⟩:=j.bx;have bW:=j.sz;have Z:Gr (fQ o b.size ⟨1,0,w+1,true,false,BN (xs.set i g)⟩) s 1 (BN l):=F.mono λW ar=>by
  have⟨_,_,_,_,q,_⟩:=F.box ar;exact(j.nb.get W (H.fV q)).trans (iZ b W)
 have lx:(xs.set i g).length=65:=j.ln;rw[yk.eq_1 f,dif_pos p,E,dQ,<-set_drop (l:=xs) (k:=i) (iV h.ln)]at t;generalize xs.set i g=z at*
 have⟨bn,bN,d,a⟩:=Z.app (cx:=cx) (j.nb.ok.Dc (az _)) zO rfl A2 zO rfl rfl Y (x:= .arr b.size 0 i (65-i) false) (xs:=BN (z.drop i)) (by
  rw[iW,show(fQ o b.size ⟨1,0,w+1,true,false,BN z⟩).get b.size=_ from X];simp[BN,List.map_drop,lx];exact⟨J,cd (by simp[lx])⟩) (λd av=>by obtain⟨_,_,rfl⟩:=List.mem_map.1 av;rfl) (by simp[BN];omega) (by simp[BN,lx];omega)
 simp[aax (show(fQ o b.size ⟨1,0,w+1,true,false,BN z⟩).get b.size=_ from X) (by simp[BN,lx]) (show i<=65 by omega),d,K];have bs:Xt (TI.hr b) s 1 (BN l) s (fQ o b.size ⟨1,0,w+1,true,false,BN z⟩):=⟨Z,λg S _=>j.nb.get g S,λ_ k=> .inl k,j.nb.ok⟩;exact⟨bn,rfl,by
  have:=(bs.trans a.xt).out;rwa[show BN l++BN (z.drop i)=BN (l++dgU A)by unfold BN dgU;rw[List.map_append,bO,t]]at this⟩
 refine⟨rfl,⟨(Nb.refl aN).cons _,by rw[size_cons],⟨0,by unfold BN;simp⟩,Y,λg S=>by rw[bV S];decide⟩,?_,by simp[R]⟩;have:(2:Nat)^64=18446744073709551616:=d6;show A<2^64;omega
def ae5:(kW Ws (En 10000000001 .u64 []) (zr dgU λa=>a)).Ok prog cx 170:=by refine jP [] [(226,kW Ws (En 10000000001 .u64 [.bool false,.bool true]) (zr dgU λa=> .tuple [a,.str []]))] (jz 5575 [] func170) 9 ?_;rintro⟨a,h,i⟩ _ g ⟨rfl,b,j,hl,d⟩ m c;simp only at b hl d;simp at c;simp[f170,c];refine jy ae0 Y ⟨a,h,i⟩ ⟨rfl,b.mono λf _=>iZ g f,j.hr,hl,λ_=>d trivial⟩ ?_;rintro _ l ⟨k,rfl,e⟩;simp only at e;simp[exV];exact⟨k,rfl,e.out⟩
def cvU(a:H)(b:Int):U7 cx a 2 280 Ij (M b)=be (.int .u64 (IntKind.u64.wrap b)) a:=by
 unfold U7;rw[show Ij.u= .int .u64 from rfl];show val a (Z (cx.ty 280) λc=>match c.u with
  | .int d=>rN d b
  | .str=>none
  |_=>none)=_
 rw[PW,fw,show Ij.u= .int .u64 from rfl];simp[rN,kZ]
def ae6:(kW Ws (En 10000000000 .i64 []) (zr AL λa=>a)).Ok prog cx 116:=by refine jP [] [(170,kW Ws (En 10000000001 .u64 []) (zr dgU λa=>a))] (jz 2247 [] func116) 9 ?_;rintro⟨a,n,i⟩ _ b ⟨rfl,l,p,hl,x⟩ g h;simp only at l hl x;simp at h;simp[f116,h,cvU];refine nS (λg s=>∃d e c,Xt (TI.hr b) a 1 (BN (n++e)) d s/\e.length<=1/\e++dgU c=AL i/\0<=c/\c<18446744073709551616/\ka g 0 d/\iS g 2 36/\ka g 7 (.int .u64 c)) (λm=>?_) (λm=>?_) ?_;have⟨d,B,k,t⟩:=(l.mono λj _=>iZ b j:Gr (TI.hr b) a 1 (BN n)).oy (cx:=cx) (f:=λ(u:Nat)=>T.int .u8 u) p.hr zO rfl A2 rfl Y (λ_=>rfl) 45 dY;have q:=Wx (-IntKind.u64.wrap i);have k:jE cx ((TI.hr b).cons (eg 1 0 [.int .u8 45])) 22 22 a (.arr b.size 0 0 1 false)=_:=k;simp[h,afi,k];exact⟨d,[45],t,Y,_,by unfold AL;rw[au (iC m)];rfl,q.1,q.2,rfl,rfl⟩;simp[h];exact⟨a,[],iC (Xt.refl (l.mono λj _=>iZ b j) p.hr),Y,_,by unfold AL;rw[aq (iC m)];rfl,(Wx i).1,(Wx i).2,rfl,rfl⟩;rintro g s ⟨d,e,c,o,D,w,y,z,v⟩;simp[v];refine jy ae5 Y ⟨d,n++e,c⟩ ⟨rfl,o.1,o.2.2.2.Dc (az _),dY,λ_=>⟨y,z⟩⟩ ?_;rintro A C ⟨_,rfl,r⟩;simp only[aO,w]at r;simp;exact⟨A,rfl,(o.trans r).out⟩
def ae7:(kW Ws (En 10000000000 .i64 []) (zr AL λa=>a)).Ok prog cx 60:=by refine jP [] [(116,kW Ws (En 10000000000 .i64 []) (zr AL λa=>a))] (jz 71 [] func60) 9 ?_;rintro⟨a,g,h⟩ _ f ⟨rfl,b,i,hl,d⟩ m c;simp only at b hl d;simp at c;simp[f60,c];refine jy ae6 Y ⟨a,g,h⟩ ⟨rfl,b.mono λe _=>iZ f e,i.hr,hl,d⟩ ?_;rintro j l ⟨_,rfl,k⟩;simp;exact⟨j,rfl,k.out⟩
structure Wq(h:H)(b:Nat)(v:T)(l:List Nat):Prop where
 gl:∃ver,h.get b=G (eg 1 ver [v])
 g:Gr h v 1 (BN l)
 ne:fD v≠some b
 lt:∀c∈l,c<256
structure Qx where
 (b:Nat) (v:T) (l:List Nat) (n:Int) (f:Nat)
def F5(e:Qx->List T)(f:Qx->H->Prop)(a:Qx)(d:List T)(c:H):Prop:=d=e a/\f a c/\Wq c a.b a.v a.l/\jk 0 c/\a.l.length<=9000000000
def Bl(a:Qx)(f:List T)(e:H)(g:T)(c:H):Prop:=∃d,Wq c a.b d (a.l++AL a.n++[32])/\Fm e c a.b a.v d
abbrev WO(a:Qx):List T:=[M a.n,ez a.b]
def NB:(kW Qx (F5 WO λ_ _=>True) Bl).Ok prog cx 59:=by
 refine jP [] [(60,kW Ws (En 10000000000 .i64 []) (zr AL λi=>i))] (jz 3 [] func59) 9 ?_;rintro⟨b,i,z,t,f⟩ _ h ⟨rfl,_,d,A,hl⟩ I o;simp only at d hl;simp at o;have⟨C,r⟩:=d.gl;have gl0:=(iZ h b).trans r;simp[f59,o,gl0,d.g.cells];refine jy ae7 Y ⟨i,z,t⟩ ⟨rfl,d.g.mono λb _=>iZ h b,A.hr,dZ,λq=>by cases q⟩ ?_;rintro B v ⟨_,rfl,k⟩;have s:=CI t;simp only at k;have⟨j,w,n,D⟩:=k.1.oy (cx:=cx) (f:=λ(a:Nat)=>T.int .u8 a) (k.2.2.2.Dc (az _)) zO rfl A2 rfl Y (λ_=>rfl) 32 (by have:=s.1;simp;omega);have n:jE cx (v.cons (eg 1 0 [.int .u8 32])) 22 22 B (.arr v.size 0 0 1 false)=_:=n;have c:=k.trans D;have p:=(c.2.1 b (H.fV gl0) d.ne).trans gl0;have F:=c.2.2.2.low;have sv:mT i 0 [j]=G j:=Bf (rx.na (h:=h) (sz:=1) (.inr d.g));have E:=H.fV r;have u:fD j≠some b:=λq=>(c.2.2.1 b q).elim d.ne (by show¬h.size<=b;omega);have m:∀l a,(fQ w b l).get a=if a=b then some l else w.get a:=λl a=>fj p l a;simp[n,o,p,sv,c.1.je,c.1.cells];exact⟨j,⟨⟨C+1,(iJ h _ b).trans ((m _ b).trans (au rfl))⟩,(c.1.mono λa e=>by rw[m,aq (λq=>u (by rw[<-q];exact e))]).out h,u,λa e=>by
  simp only[cz,dg]at e;rcases e with(q|q)|q
  exact d.lt a q;exact(s.2 a q).1;omega⟩,⟨(c.2.2.2.put _ _).out h,λa e x y=>(iJ h _ a).trans ((m _ a).trans ((aq x).trans ((c.2.1 a e y).trans (iZ h a)))),c.2.2.1⟩⟩
abbrev aas(a:Qx):List T:=[.bool (decide (a.n=1)),ez a.f]
abbrev aar(a:Qx)(c:H):Prop:=(a.n=1\/a.n=0)/\c.get a.f=G (eg 1 1 [.func 59 [ez a.b]])
def Wq.hr{a:H}{c:Nat}{e:T}{d:List Nat}(b:Wq a c e d):Wq (TI.hr a) c e d:=⟨b.gl.imp λ_ h=>(iZ a c).trans h,b.g.mono λf _=>iZ a f,b.ne,b.lt⟩
def Wq.out{h c:H}{b:Nat}{e:T}{d:List Nat}(a:Wq c b e d):Wq (mV h c) b e d:=⟨a.gl.imp λ_ f=>(iJ h c b).trans f,a.g.out h,a.ne,a.lt⟩
def W5:(kW Qx (F5 aas aar) Bl).Ok prog cx 61:=by refine jP [] [(59,kW Qx (F5 WO λ_ _=>True) Bl)] (jz 11 [] func61) 9 ?_;rintro⟨g,n,j,k,o⟩ _ p ⟨rfl,⟨i,m⟩,d,l,hl⟩ s a;simp only at i m d hl;simp at a;have h:=(iZ p o).trans m;simp[f61,a];refine fO (λc=>?_) (λc=>?_);obtain rfl:k=1:=iC c;simp[a,h];refine jy NB Y ⟨g,n,j,1,0⟩ ⟨rfl,trivial,d.hr,l.hr,hl⟩ ?_;rintro r q ⟨f,e,b⟩;simp;exact⟨f,e.out,b.out⟩;obtain rfl:k=0:=i.resolve_left (iC c);simp[a,h];refine jy NB Y ⟨g,n,j,0,0⟩ ⟨rfl,trivial,d.hr,l.hr,hl⟩ ?_;rintro r q ⟨f,e,b⟩;simp;exact⟨f,e.out,b.out⟩
section
structure KyP(c:fi)(us:List Int):Prop where
 uL:us.length<=1000
 ul:∀u∈us,u<us.length
 od:∀o∈c.order,jB o us.length
 ol:c.order.length<=1000000
 fx:c.fixed.length=us.length
 lk:c.ig.fT.length<=4/\c.ig.done.length<=2/\c.ig.eY.length<=4
 rd:∀l∈c.ig.fT,l.gh.length<=1000000
 ce:c.cells.length<=1000/\c.fR.length<=1000
structure OQ(c:fi)(us:List Int)(xs:List Bool)(v:T)(l:List Nat)(h:H):Prop where
 ok:jk 4 h
 b0:h.get 0=G (eg 9 0 [c.t])
 kb:Wq h 1 v l
 b2:h.get 2=G (eg 1 1 [.func 59 [ez 1]])
 b3:∃ver ex,h.get 3=G ⟨1,0,ver,ex,false,xs.map T.bool⟩
 ln:xs.length=us.length
 vb:∀b,fD v=G b->4<=b
def OQ.fm{c:fi}{us:List Int}{xs:List Bool}{v i:T}{p k:List Nat}{h f:H}(b:OQ c us xs v p h)(o:Wq f 1 i k)(e:Fm h f 1 v i):OQ c us xs i k f:=by have s:=b.ok.sz;have g:∀a,a<4->a≠1->f.get a=h.get a:=λa j n=>e.fr a J n λq=>iV (b.vb a q);have⟨r,l,m⟩:=b.b3;exact⟨⟨e.ok.hp,e.ok.low,iV e.ok.sz⟩,(g 0 J J).trans b.b0,o,(g 2 J J).trans b.b2,⟨r,l,(g 3 J J).trans m⟩,b.ln,λa j=>(e.bx a j).elim (b.vb a) J⟩
def OQ.set{c:fi}{us:List Int}{xs:List Bool}{v:T}{m:List Nat}{h:H}(a:OQ c us xs v m h){i:Nat}{e:Bool}(n:h.get 3=G ⟨1,0,i,e,false,xs.map T.bool⟩)(f:Nat)(b:Bool):OQ c us (xs.set f b) v m (fQ h 3 ⟨1,0,i+1,e,false,(xs.map T.bool).set f (.bool b)⟩):=by rw[<-aY];have l:∀d,(fQ h 3 ⟨1,0,i+1,e,false,(xs.set f b).map T.bool⟩).get d=if d=3 then some ⟨1,0,i+1,e,false,(xs.set f b).map T.bool⟩else h.get d:=λd=>fj n _ d;have j:∀d,d≠3->(fQ h 3 ⟨1,0,i+1,e,false,(xs.set f b).map T.bool⟩).get d=h.get d:=λd k=>(l d).trans (aq k);have⟨p,o⟩:=a.kb.gl;exact⟨a.ok.put _ _,(j 0 J).trans a.b0,⟨⟨p,(j 1 J).trans o⟩,a.kb.g.mono λd k=>j d (iV (a.vb d k)),a.kb.ne,a.kb.lt⟩,(j 2 J).trans a.b2,⟨_,_,(l 3).trans (au rfl)⟩,iC a.ln,a.vb⟩
def KpZ(h:H)(v:T)(a:Nat)(b:jO):Prop:=4<=a/\h.get a=G b/\fD v≠some a
def KpZ.fm{h f:H}{v g:T}{b:Nat}{i:jO}(a:KpZ h v b i)(e:Fm h f 1 v g):KpZ f g b i:=by have j:=H.fV a.2.1;exact⟨a.1,(e.fr b j (iV a.1) a.2.2).trans a.2.1,λk=>(e.bx b k).elim a.2.2 J⟩
def OQ.nb{c:fi}{us:List Int}{xs:List Bool}{v:T}{k:List Nat}{h:H}(a:OQ c us xs v k h)(e:jO):OQ c us xs v k (h.cons e)/\KpZ (h.cons e) v h.size e:=by
 have o:=a.ok.sz;have i:Nb h (h.cons e):=(Nb.refl (a.ok.Dc (az _))).cons e;have⟨n,m⟩:=a.kb.gl;have l:∀b,fD v=G b->b<h.size:=λb f=>by have⟨_,_,_,_,j,_⟩:=a.kb.g.box f;exact H.fV j
 exact⟨a.fm ⟨⟨n,(i.get 1 J).trans m⟩,a.kb.g.mono λb f=>i.get b (l b f),a.kb.ne,a.kb.lt⟩ (Fm.nb i),o,Y,λj=>iV (l _ j)⟩
def bI(a:Bool):Int:=if a=true then 1 else 0
def Md(L:List Int)(a:Int):enc L++AL a++[32]=enc (L++[a]):=by rw[XU];simp[enc]
def Sh(b:Nat)(e:List Int):List Bool:=(List.range b).map λ(a:Nat)=>decide ((a:Int)∈e)
def UX(b:Nat)(e:List Int){a:Int}(h:0<=a):Sh b (e++[a])=(Sh b e).set a.toNat true:=by
 refine List.ext_getElem (by simp[Sh]) λi f g=>?_;simp only[Sh,List.getElem_map,List.getElem_range,cz,dg,List.getElem_set]
 grind
def tfm{f g:Type}(e:f->List g)(b:List f){a:Nat}(h:a<b.length):(b.take (a+1)).flatMap e=(b.take a).flatMap e++e b[a]:=by rw[aM h,cH];simp
def kU(c:fi)(us:List Int)(a:Nat):List Int:=[bI (decide ((a:Int)∈c.order)),bI (decide (0<=us.getD a (-1))&& !decide (us.getD a (-1)∈c.order)&&c.fixed.getD a false)]
abbrev kL(a:fF):List Int:=[a.jF,a.gh.length]++a.gh
abbrev kT(a:fc):List Int:=[a.jq,a.cond,bI a.atomic]
abbrev kC(a:gU):List Int:=[a.value,bI a.known]
def Bz(c:fi)(us:List Int):List Int:=(List.range us.length).flatMap (kU c us)++c.ig.fT.flatMap kL++[c.ig.tx]++c.ig.done.flatMap (λa=>[bI a])++c.ig.eY.flatMap kT++c.cells.flatMap kC++c.fR.flatMap kC
section
variable {c:fi}{us L:List Int}{xs:List Bool}{v:T}{h:H}{tb:iq}{ops:af Oper}{d:aa Tmp}{lo:List Oper}{vs tm:iM}{K:jH}{V:Nat}
def NX(f:OQ c us xs v (enc L) h)(hl:L.length<=60000000)(b:Int)(ht:tb.h 59=G (kW Qx (F5 WO λ_ _=>True) Bl))
 (l:∀g a e,OQ c us xs e (enc (L++[b])) a->(∀i k,KpZ h v i k->KpZ a e i k)->XK (some (g,a)) cx (r7 prog cx tb) V ops d lo vs tm K):XK (TI.hl prog cx tb 59 [M b,ez 1] h) cx (r7 prog cx tb) V ops d lo vs tm K:=
 jy NB ht ⟨1,v,enc L,b,0⟩ ⟨rfl,trivial,f.kb,f.ok.Dc (az _),by have:=J0 L;simp only;omega⟩ λg a ⟨e,m,j⟩=>l g a e (f.fm (Md L b▸m) j) λ_ _ n=>n.fm j
def RG(e:OQ c us xs v (enc L) h)(hl:L.length<=60000000)(a:Bool)(ht:tb.h 61=G (kW Qx (F5 aas aar) Bl))
 (k:∀g b f,OQ c us xs f (enc (L++[bI a])) b->(∀a j,KpZ h v a j->KpZ b f a j)->XK (some (g,b)) cx (r7 prog cx tb) V ops d lo vs tm K):XK (TI.hl prog cx tb 61 [.bool a,ez 2] h) cx (r7 prog cx tb) V ops d lo vs tm K:=
 jy W5 ht ⟨1,v,enc L,bI a,2⟩ ⟨by cases a<;>rfl,⟨by cases a<;>simp[bI],e.b2⟩,e.kb,e.ok.Dc (az _),by have:=J0 L;simp only;omega⟩ λg b ⟨f,l,i⟩=>k g b f (e.fm (Md L _▸l) i) λ_ _ m=>m.fm i
end
def cvS{h:H}{v:T}{a:List Nat}(e:Gr h v 1 (BN a))(b:∀c∈a,c<256)(hl:a.length<=4294967296):U7 cx h 22 9 ty9 v=be (.str a) h:=by
 have f:HL cx h 22 v=G (.str a):=by
  have j:∀a:List Nat,(∀c∈a,c<256)->iN TI.byteOf (BN a)=G a:=by
   intro a;induction a with
   |nil=>intro _;rfl
   |cons c a i=>
    intro b;show iN TI.byteOf (T.int .u8 (c:Nat)::BN a)=_;rw[kv,show TI.byteOf (.int .u8 (c:Nat))=G c from by
     show iX true (iX (Nat.blt c 256) (some c))=_;rw[iP,show Nat.blt c 256=true from aQ▸b c Y,iP],fw,i (λd g=>b d (by simp[g])),fw]
  unfold HL;simp only[zO,show aaq.u= .slice 5 from rfl,A2,show ty5.u= .int .u8 from rfl,fw,e.kd,j a b,kQ];rw[show Nat.ble a.length 4294967296=true from Nat.ble_eq▸hl];rfl
 unfold U7;rw[show ty9.u= .str from rfl];rcases e with⟨rfl,_⟩|⟨_,_,_,_,_,rfl,_⟩<;>simp only[f]<;>rfl
abbrev Ky(us:List Int)(vs:iM):Prop:=ka vs 1 (sl (iE us))/\jg vs 2 0/\jg vs 5 1/\jg vs 6 2/\ka vs 7 (.func 61 [ez 2])/\ka vs 8 (.arr 3 0 0 us.length false)
def JK(c:fi)(us:List Int)(xs:List Bool)(L:List Int)(a:Nat)(vs:iM)(h:H):Prop:=∃v,OQ c us xs v (enc L) h/\L.length<=a/\Ky us vs
def ZG:p8 prog cx 22 (λu:fi×List Int=>[u.1.t,sl (iE u.2)]) (λu=>KyP u.1 u.2) (λu q=>q= .str (enc (Bz u.1 u.2))):=by
 refine yQ (tb:=⟨pt [],ht [(59,kW Qx (F5 WO λ_ _=>True) Bl),(61,kW Qx (F5 aas aar) Bl)]⟩) ml kl (jz 5508284103923639383255319264801237402987617783 [] func22) (λ_=>1000005) (λu b h=>by simp at h;exact aD (fi.inj h.1) (jD (λ_ _ h=>iC h) h.2)) Y nl9 ?_;rintro⟨c,us⟩ (j:KyP c us) vs X;simp at X;have bN:=j.uL;have bW:∀O:T,(∀P,O≠ .agg P)->∀E,mT O 0 [E]=G E:=λO A E=>Bf A;have bi:∀f P,mT .mF 0 [.func f P]=G (.func f P):=λ_ _=>rfl;have a8:∀O E:Bool,mT (.bool O) 0 [.bool E]=G (.bool E):=λ_ _=>rfl;simp[f22,X,bi,show us.length<=70368744177664 by omega];refine io c.order.length (iV j.ol) (λe vs h=>JK c us (Sh us.length (c.order.take e)) [] 0 vs h/\ka vs 31 (sl (iE c.order))/\iS vs 32 c.order.length/\iS vs 33 e) ?_ ?_ (iV j.ol) ?_;rintro e vs h k r ⟨⟨v,a,hl,i⟩,W⟩;have ae:=gG.1 (j.od _ (aG k));have⟨al,V,C⟩:=a.b3;have p:=UX us.length (c.order.take e) ae.1;rw[<-aM k]at p;generalize Sh us.length (c.order.take e)=xs at*
 have A:(xs.map T.bool)[c.order[e].toNat]? =G (.bool (xs[c.order[e].toNat]'(iV a.ln))):=Y;simp[i,W,k,fZ ae.1,ae.2,C,A,a8,r];exact⟨v,p▸a.set C _ true,hl,by simp[Ky,i]⟩;rintro vs h ⟨⟨v,a,hl,i⟩,W⟩;rw[aI]at a;have V:∀S,(Sh us.length c.order)[S]? =if S<us.length then some (decide ((S:Int)∈c.order))else none:=λS=>by unfold Sh;grind
 generalize Sh us.length c.order=xs at*
 simp[i,W];have br:∀(B:Nat) (L:List Int) vs h,JK c us xs L B vs h=∃v,OQ c us xs v (enc L) h/\L.length<=B/\Ky us vs:=λ_ _ _ _=>rfl;refine io us.length J (λe vs h=>JK c us xs ((List.range e).flatMap (kU c us)) (2*e) vs h/\ka vs 41 (sl (iE us))/\iS vs 42 us.length/\iS vs 43 e) ?_ ?_ J ⟨⟨v,a,Y,by simp[Ky,i]⟩,Y⟩;rintro e vs h k r ⟨⟨v,a,hl,i⟩,F⟩;have⟨al,aE,C⟩:=a.b3;have bT:=a.ln;have A:(xs.map T.bool)[e]? =G (.bool (decide ((e:Int)∈c.order))):=by simp[V,k]
 have ao:e<c.fixed.length:=j.fx▸k;have bA:=j.ul _ (aG k);have p:(List.range (e+1)).flatMap (kU c us)=(List.range e).flatMap (kU c us)++[bI (decide ((e:Int)∈c.order)),bI (decide (0<=us[e])&& !decide (us[e]∈c.order)&&c.fixed[e])]:=by rw[List.range_succ,cH];simp[kU,k,ao]
 generalize(List.range (e+1)).flatMap (kU c us)=bn at*
 generalize(List.range e).flatMap (kU c us)=L at*
 simp[i,F,k,C,A];refine RG a J _ Y λq h v a o=>?_;have⟨al,aE,C⟩:=a.b3;by_cases D:0<=us[e];have ar:us[e].toNat<us.length:=J;have A:(xs.map T.bool)[us[e].toNat]? =G (.bool (decide (us[e]∈c.order))):=by simp[V,ar,dT D]
 simp[i,D,fZ D,ar,A,C,a.b0,ao];refine RG a dY _ Y λq h v a o=>?_;simp[F,r];exact⟨_,by rw[p];simpa[D]using a,by rw[p];simp;omega,by simp[Ky,i]⟩;simp[i,D];refine RG a dY _ Y λq h v a o=>?_;simp[F,r];exact⟨_,by rw[p];simpa[D]using a,by rw[p];simp;omega,by simp[Ky,i]⟩;rintro vs h ⟨⟨v,a,hl,i⟩,F⟩;have a7:=Bz.eq_1 c us;generalize(List.range us.length).flatMap (kU c us)=n at*
 simp[i,F,a.b0];refine io c.ig.fT.length (iV j.lk) (λe vs h=>JK c us xs (n++(c.ig.fT.take e).flatMap kL) (2000+1000002*e) vs h/\ka vs 75 (sl (c.ig.fT.map fF.t))/\iS vs 76 c.ig.fT.length/\iS vs 77 e) ?_ ?_ (iV j.lk) ⟨⟨v,by simpa using a,dY,by simp[Ky,i]⟩,Y⟩;rintro e vs h k r ⟨⟨v,a,hl,i⟩,x⟩;have ap:=j.lk;have aX:=j.rd _ (aG k);have p:=tfm kL c.ig.fT k;have⟨lk,z⟩:∃lk,lk=c.ig.fT[e]:=⟨_,rfl⟩;rw[<-z]at aX p;rw[p,<-aO];generalize n++(c.ig.fT.take e).flatMap kL=L at*
 have N:=a.ok.low;have⟨a,l⟩:=a.nb (eg 2 1 [lk.t]);simp[i,x,k,<-z,N,a.b2,l.2.1];generalize h.size=m at*
 refine NX a J _ Y λq h v a o=>?_;have l:=o _ _ l;simp[i,a.b2,l.2.1];refine NX a dY _ Y λq h v a o=>?_;have l:=o _ _ l;simp[l.2.1];refine io lk.gh.length J (λs vs h=>JK c us xs (L++[lk.jF,(lk.gh.length:Int)]++lk.gh.take s) (2002+1000002*e+s) vs h/\ka vs 75 (sl (c.ig.fT.map fF.t))/\iS vs 76 c.ig.fT.length/\iS vs 77 e/\ka vs 91 (sl (iE lk.gh))/\iS vs 92 lk.gh.length/\iS vs 93 s) ?_ ?_ J ⟨⟨v,by simpa using a,dY,by simp[Ky,i]⟩,by simp[x]⟩;rintro s vs h I Z ⟨⟨v,a,hl,i⟩,x⟩;rw[aM I,<-aO];generalize L++[lk.jF,(lk.gh.length:Int)]++lk.gh.take s=L at*
 simp[i,x,I,a.b2];refine NX a J _ Y λq h v a o=>?_;simp[x,Z];exact⟨_,a,dY,by simp[Ky,i]⟩;rintro vs h ⟨⟨v,a,hl,i⟩,x⟩;rw[aI]at a hl;simp[x,r];exact⟨_,by simpa using a,by simp at hl|-;omega,by simp[Ky,i]⟩;rintro vs h ⟨⟨v,a,hl,i⟩,x⟩;rw[aI]at a hl;generalize n++c.ig.fT.flatMap kL=n at*
 simp[i,x,a.b0,a.b2];refine NX a (iV j.lk) _ Y λq h v a o=>?_;have hl:(n++[c.ig.tx]).length<=4100000:=by have:=j.lk;simp;omega
 generalize n++[c.ig.tx]=n at*
 simp[i,a.b0];refine io c.ig.done.length (iV j.lk) (λe vs h=>JK c us xs (n++(c.ig.done.take e).flatMap λb=>[bI b]) (4100000+e) vs h/\ka vs 109 (sl (c.ig.done.map T.bool))/\iS vs 110 c.ig.done.length/\iS vs 111 e) ?_ ?_ (iV j.lk) ⟨⟨v,by simpa using a,dY,by simp[Ky,i]⟩,Y⟩;rintro e vs h k r ⟨⟨v,a,hl,i⟩,Q⟩;have ap:=j.lk;rw[tfm _ c.ig.done k,<-aO];generalize n++(c.ig.done.take e).flatMap _=L at*
 simp[i,Q,k];refine RG a J _ Y λq h v a o=>?_;simp[Q,r];exact⟨_,a,dY,by simp[Ky,i]⟩;rintro vs h ⟨⟨v,a,hl,i⟩,Q⟩;rw[aI]at a hl;generalize n++c.ig.done.flatMap _=n at*
 simp[i,Q,a.b0];refine io c.ig.eY.length (iV j.lk) (λe vs h=>JK c us xs (n++(c.ig.eY.take e).flatMap kT) (4200000+3*e) vs h/\ka vs 121 (sl (c.ig.eY.map fc.t))/\iS vs 122 c.ig.eY.length/\iS vs 123 e) ?_ ?_ (iV j.lk) ⟨⟨v,by simpa using a,by have:=j.lk;simp;omega,by simp[Ky,i]⟩,Y⟩;rintro e vs h k r ⟨⟨v,a,hl,i⟩,R⟩;have ap:=j.lk;have p:=tfm kT c.ig.eY k;have⟨lk,z⟩:∃lk,lk=c.ig.eY[e]:=⟨_,rfl⟩;rw[<-z]at p;rw[p,<-aO];generalize n++(c.ig.eY.take e).flatMap kT=L at*
 have N:=a.ok.low;have⟨a,l⟩:=a.nb (eg 3 1 [lk.t]);simp[i,R,k,<-z,N,a.b2,l.2.1];generalize h.size=m at*
 refine NX a J _ Y λq h v a o=>?_;have l:=o _ _ l;simp[i,a.b2,l.2.1];refine NX a dY _ Y λq h v a o=>?_;have l:=o _ _ l;simp[i,l.2.1];refine RG a dY _ Y λq h v a o=>?_;simp[R,r];exact⟨_,by simpa using a,dY,by simp[Ky,i]⟩;rintro vs h ⟨⟨v,a,hl,i⟩,R⟩;rw[aI]at a hl;generalize n++c.ig.eY.flatMap kT=n at*
 simp[i,R,a.b0];have an:=j.ce
 let y (e:Nat):List gU:=if e=0 then []else if e=1 then c.cells else c.cells++c.fR
 refine io 2 J (λe vs h=>JK c us xs (n++(y e).flatMap kC) (4300000+2000*e) vs h/\ka vs 144 (.agg [sl (c.cells.map gU.t),sl (c.fR.map gU.t)])/\iS vs 145 e) ?_ ?_ J ⟨⟨v,by simpa[y]using a,by have:=j.lk;simp[y];omega,by simp[Ky,i]⟩,Y⟩;rintro e vs h k r ⟨⟨v,a,hl,i⟩,w⟩;have⟨L,bu,aA,ax⟩:∃L:List gU,L.length<=1000/\(∀h,icW cx h Sz (.agg [sl (c.cells.map gU.t),sl (c.fR.map gU.t)]) e=be (sl (L.map gU.t)) h)/\y (e+1)=y e++L:=by
  obtain rfl|rfl:e=0\/e=1:=J;exact⟨c.cells,an.1,λh=>by simp,rfl⟩;exact⟨c.fR,an.2,λh=>by simp,rfl⟩
 rw[ax,cH,<-aO];generalize n++(y e).flatMap kC=U at*
 simp[-UP,w,show(e:Int)<2 by omega,aA];refine io L.length J (λs vs h=>JK c us xs (U++(L.take s).flatMap kC) (4300000+2000*e+2*s) vs h/\ka vs 144 (.agg [sl (c.cells.map gU.t),sl (c.fR.map gU.t)])/\iS vs 145 e/\ka vs 148 (sl (L.map gU.t))/\iS vs 149 L.length/\iS vs 150 s) ?_ ?_ J ⟨⟨v,by simpa using a,dY,by simp[Ky,i]⟩,by simp[w]⟩;rintro s vs h I Z ⟨⟨v,a,hl,i⟩,w⟩;have p:=tfm kC L I;have⟨lk,z⟩:∃lk,lk=L[s]:=⟨_,rfl⟩;rw[<-z]at p;rw[p,<-aO];generalize U++(L.take s).flatMap kC=U at*
 have N:=a.ok.low;have⟨a,l⟩:=a.nb (eg 2 1 [lk.t]);simp[i,w,I,<-z,N,a.b2,l.2.1];generalize h.size=m at*
 refine NX a J _ Y λq h v a o=>?_;have l:=o _ _ l;simp[i,l.2.1];refine RG a dY _ Y λq h v a o=>?_;simp[w,Z];exact⟨_,by simpa using a,dY,by simp[Ky,i]⟩;rintro vs h ⟨⟨v,a,hl,i⟩,w⟩;rw[aI]at a hl;simp[w,(iC (r:binop .add (M e) (M 1)=G (M (e+1))))];exact⟨_,a,J,by simp[Ky,i]⟩;rintro vs h ⟨⟨v,a,hl,i⟩,w⟩;have⟨al,aN⟩:=a.kb.gl;have:=J0 (n++(y 2).flatMap kC);simp[i,w,aN,a.kb.g.cells,cvS a.kb.g a.kb.lt J];exact⟨a.ok.hp,by simp[a7,y,cH]⟩;have av:Sh us.length (c.order.take 0)=List.replicate us.length false:=List.ext_getElem (by simp[Sh]) λe i bs=>by simp[Sh]
 rw[av];refine⟨⟨ed,⟨⟨Y,by simp[size_cons],by simp[size_cons]⟩,by simp[size_cons],⟨⟨0,by simp[size_cons]⟩,Gr.nil _ _,Y,by simp[enc]⟩,by simp[size_cons],⟨0,true,by simp[size_cons]⟩,Y,Y⟩,Y,by simp[Ky,X]⟩,Y⟩
end
structure IMz where
 (b:Nat) (c:fi) (l:List Int)
def mzF(a:Nat):T:= .func 57 [ez a]
def Cs(a:IMz)(d:H):Prop:=(∃e,d.get a.b=G (eg 9 e [a.c.t]))/\jk 0 d/\a.c.order.length<=1000000/\a.l.length<=1000000
def Cs.nb{f:IMz}{d e:H}(b:Cs f d)(a:Nb d e):Cs f e:=by obtain⟨⟨g,c⟩,h,b⟩:=b;exact⟨⟨g,(a.get _ (H.fV c)).trans c⟩,⟨a.ok.hp,a.ok.low,az _⟩,b⟩
def Xb:(kW (IMz×Int) (λa e d=>e=[M a.2,ez a.1.b]/\Cs a.1 d) (λa e d m k=>m= .bool (decide (a.2∈a.1.c.order))/\Nb d k)).Ok prog cx 57:=by refine jP [(58,oc)] [] (jz 11 [] func57) 9 ?_;rintro⟨⟨i,n,o⟩,r⟩ _ d ⟨rfl,⟨p,f⟩,l,h,hl⟩ q g;simp only at f h hl;simp at g;have j:=(iZ d i).trans f;simp[f57,g,j,ph,h];exact(Nb.refl l.hr).out
def aa3:(kW IMz (λa f d=>f=[sl (iE a.l),mzF a.b]/\Cs a d) (λa f d r m=>(∃v:Int,r= M v/\(0<=v↔∃i∈a.l,i∈a.c.order))/\Nb d m)).Ok prog cx 115:=by
 refine wP (tb:=⟨pt [],ht [(57,kW (IMz×Int) (λa f d=>f=[M a.2,ez a.1.b]/\Cs a.1 d) (λa f d r m=>r= .bool (decide (a.2∈a.1.c.order))/\Nb d m))]⟩) ml kl (jz 66483 [] func115) (λ_ _=>1000005) (λa f d y=>by obtain⟨rfl,_⟩:=y;simp[f115]) ?_;rintro⟨t,u,g⟩ _ d ⟨rfl,q⟩ e n;have hl:=q.2.2.2;simp only at hl;simp[mzF]at n;simp[f115,n];refine io g.length J (λa e s=>(Nb (TI.hr d) s/\∀i∈g.take a,i∉u.order)/\ka e 0 (sl (iE g))/\ka e 1 (.func 57 [ez t])/\iS e 7 g.length/\iS e 8 a) ?_ ?_ J ⟨⟨Nb.refl q.2.1.hr,Y⟩,by simp[n]⟩;rintro a e s p x ⟨⟨h,k⟩,j⟩;simp[j,p];refine jy Xb Y (⟨t,u,g⟩,g[a]) ⟨rfl,q.nb h.hr⟩ ?_;rintro _ z ⟨rfl,w⟩;simp;refine fO (λo=>?_) (λo=>?_);simp;exact⟨⟨_,aG p,iC o⟩,(h.trans w).out⟩;simp[j,x];refine⟨h.trans w,λi hm=>?_⟩;rw[aM p]at hm;rcases List.mem_append.1 hm with hm|hm
 exact k i hm;rw[List.mem_singleton.1 hm];exact iC o;rintro e s ⟨⟨h,k⟩,j⟩;rw[aI]at k;simp[j];exact⟨k,h.out⟩
def ae2:(kW IMz (λa e d=>e=[sl (iE a.l),mzF a.b]/\Cs a d) (λa e d g f=>g= .bool (a.l.any λh=>decide (h∈a.c.order))/\Nb d f)).Ok prog cx 56:=by refine wP (tb:=⟨pt [],ht [(115,kW IMz (λa e d=>e=[sl (iE a.l),mzF a.b]/\Cs a d) (λa e d g f=>(∃j:Int,g= M j/\(0<=j↔∃h∈a.l,h∈a.c.order))/\Nb d f))]⟩) ml kl (jz 19 [] func56) (λ_ _=>9) (λa e d o=>by obtain⟨rfl,_⟩:=o;simp[f56]) ?_;rintro⟨m,n,p⟩ _ d ⟨rfl,k⟩ s i;simp[mzF]at i;simp[f56,i];refine jy aa3 Y ⟨m,n,p⟩ ⟨rfl,k.nb (Nb.refl k.2.1.hr).hr⟩ ?_;rintro _ t ⟨⟨r,rfl,ht⟩,q⟩;simp;refine⟨?_,q.out⟩;rw[bD,List.any_eq_true];simp only[aP,ht]
structure MsP(c:fi)(g:iv):Prop where
 ol:c.order.length<=1000000
 od:∀o∈c.order,jB o c.pM.length
 cy:g.jA.length<=1000000
def Ll:p8 prog cx 21 (λf:fi×iv=>[f.1.t,f.2.t]) (λf=>MsP f.1 f.2) (λf r=>r= .bool (IK f.1 f.2)):=by
 refine yQ (tb:=⟨pt [(55,wv),(58,oc)],ht [(56,kW IMz (λj f i=>f=[sl (iE j.l),mzF j.b]/\Cs j i) (λj f i r u=>r= .bool (j.l.any λh=>decide (h∈j.c.order))/\Nb i u))]⟩) ml kl (jz 1125908631781503 [] func21) (λ_=>9) (λf z i=>by simp at i;exact aD (fi.inj i.1) (iv.inj i.2)) Y nl9 ?_;rintro⟨g,k⟩ (p:MsP g k) A s;simp at s;have o:=p.ol;have m:∀h,decide (0<=kV g.order h 0)=decide (h∈g.order):=λh=>decide_eq_decide.2 oM;have w:∀h,decide (kV g.order h 0<0)= !decide (h∈g.order):=λh=>by rw[<-m,<-decide_not,decide_eq_decide];omega
 have d:=IK.eq_1 g k;generalize IK g k=y at*
 simp[f21,s,Kj,o];refine fO (λe=>?_) (λe=>?_);rw[au (iC e)]at d;simp[d,m];rw[aq (iC e)]at d;simp;refine fO (λe=>?_) (λe=>?_);rw[au (iC e)]at d;simp;refine jy ae2 Y ⟨0,g,k.jA⟩ ⟨rfl,⟨0,by simp[size_cons]⟩,⟨Y,by simp[size_cons],Y⟩,o,p.cy⟩ ?_;rintro _ B ⟨rfl,x⟩;simp;exact⟨x.ok.hp,d.symm⟩;rw[aq (iC e)]at d;simp;refine fO (λe=>?_) (λe=>?_);rw[au (iC e)]at d;by_cases q:k.a∈g.order;have v:=p.od _ q;have n:=gG.1 v;unfold pL so at d;rw[au n.1,aF n.2]at d;simp[q,fZ n.1,n.2,d,m];simp[q,d,m];rw[aq (iC e)]at d;simp;refine fO (λe=>?_) (λe=>?_);rw[au (iC e)]at d;simp[ph,o,d,m,w];rw[aq (iC e)]at d;simp[d]
structure OwR(P:Nat->List Int)(E:List T)(h:H):Prop where
 get:∃ver,h.get 2=G ⟨1,0,ver,true,false,E⟩
 gr:∀(t:Nat) v,E[t]? =G v->Gr h v 1 (iE (P t))/\∀c,fD v=G c->3<=c
 ne:∀(t u:Nat) v v' c,t≠u->E[t]? =G v->E[u]? =G v'->fD v=G c->fD v'≠some c
def OwR.mono{e:Nat->List Int}{d:List T}{b h':H}(c:OwR e d b)(j:∀a,2<=a->a<b.size->h'.get a=b.get a):OwR e d h':=by have⟨o,f⟩:=c.get;refine⟨⟨o,(j 2 (ay _) (H.fV f)).trans f⟩,λm n k=>?_,c.ne⟩;have⟨g,h⟩:=c.gr m n k;exact⟨g.mono λa i=>by have⟨_,_,_,_,l,_⟩:=g.box i;exact j a (iV (h a i)) (H.fV l),h⟩
def OwR.app{x:Int}{c S:Nat}{h:List T}{r z:Nat->List Int}{A m:H}{q i:T}(l:OwR r h A)(V:3<=A.size)(t:h[c]? =G q)(Q:z c=r c++[x])(R:∀b,b≠c->z b=r b)
 (N:Xt A q 1 (iE (r c++[x])) i m) (P:m.get 2=G ⟨1,0,S,true,false,h⟩) (v:Nat):OwR z (h.set c i) (fQ m 2 ⟨1,0,v,true,false,h.set c i⟩):=by
 obtain⟨a1,a2,a3,a4⟩:=N;have⟨U,O⟩:=l.gr c q t;have y:∀a,(fQ m 2 ⟨1,0,v,true,false,h.set c i⟩).get a=if a=2 then some ⟨1,0,v,true,false,h.set c i⟩else m.get a:=λa=>fj P _ a;have C:c<h.length:=(List.getElem?_eq_some_iff.1 t).1;have L:∀a,fD i=G a->3<=a:=λa f=>(a3 a f).elim (O a) J;have u:∀b e,b≠c->(h.set c i)[b]? =G e->h[b]? =G e:=λb e j d=>by rwa[List.getElem?_set_ne (bH j)]at d
 have I:∀(b:Nat) e a,b≠c->h[b]? =G e->fD e=G a->fD i≠some a:=λb e a j d f g=>(a3 a g).elim (λg=>l.ne b c e q a j d t f g) λg=>by
  have⟨s,_⟩:=l.gr b e d;have⟨_,_,_,_,D,_⟩:=s.box f;have:=H.fV D;omega
 refine⟨⟨v,by rw[y,au rfl]⟩,λb e d=>?_,λb o e w a j d k f=>?_⟩;by_cases g:b=c;subst g;rw[dt C]at d;cases d;rw[Q];exact⟨a1.mono λa f=>by rw[y,aq (iV (L a f))],L⟩;have d:=u b e g d;have⟨s,E⟩:=l.gr b e d;rw[R b g];exact⟨s.mono λa f=>by
  rw[y,aq (iV (E a f))];have⟨_,_,_,_,D,_⟩:=s.box f;exact a2 a (H.fV D) λB=>l.ne b c e q a g d t f B,E⟩
 by_cases g:b=c;subst g;rw[dt C]at d;cases d;have k:=u o w (bH j) k;exact λB=>I o w a (bH j) k B f;have F:=u b e g d;by_cases K:o=c;subst K;rw[dt C]at k;cases k;exact I b e a g F f;exact l.ne b o e w a j F (u o w K k) f
structure OO(w:fh)(i:Nat)(D:List Int)(us:List Int):Prop where
 ln:us.length=w.eZ.length
 bd:∀u∈us,-1<=u/\u<w.eZ.length
 us:∀(i':Nat) e n first (k:Nat),w.eZ[i']? =G e->(i'<i/\(n∈e.m9\/n∈e.uY)\/i'=i/\n∈D)->so w.mP.count e.fa=G first->first<=n->sh e.fa w.eZ 0 (IntKind.i64.wrap (n-first))=k->k<i'->∃u:Nat,us[k]? =G (u:Int)/\i'<=u/\∃f,w.eZ[u]? =G f/\f.fa=e.fa
def EK(c:fh)(a b:Nat):List Int:=rj b (c.eZ.take a) 0
def W0{w:fh}{i t:Nat}(l:w.eZ.length<=16)(h:i<=w.eZ.length){k:Nat}{b:Int}(d: -9223372036854775808<=b/\b<9223372036854775808)(a:sh t w.eZ 0 b=k)(j:k<i):0<=b/\(EK w i t)[b.toNat]? =G (k:Int):=by by_cases e:0<=b;refine⟨e,?_⟩;rw[Gt _ _ _ _ e d.2,<-cB i w.eZ,Gd]at a;unfold EK;rw[da,List.getElem?_append]at a;split at a;rename_i g;rw[aF g]at a|-;exact bE some a;rcases c:(rj t (w.eZ.drop i) (0+(w.eZ.take i).length))[b.toNat-(rj t (w.eZ.take i) 0).length]? with _|o;rw[c]at a;simp at a;rw[c]at a;obtain⟨m,f,n⟩:=K8 (aB c);simp at a f;omega;rw[LD _ _ _ _ J d.1 J]at a;omega
def Gb{l:fh}{k g:Nat}{c:Int}(h:c∈EK l k g):0<=c/\c.toNat<k/\∃a,l.eZ[c.toNat]? =G a/\a.fa=g:=by
 have i:∀(d:List gd) (f:Nat),c∈rj g d f->∃b a,c=(f+b:Nat)/\d[b]? =G a/\a.fa=g:=λd=>by
  induction d with
  |nil=>intro f h;simp[rj]at h
  |cons j d n=>
   intro f h;simp only[rj]at h;have i:c∈rj g d (f+1)->∃b a,c=(f+b:Nat)/\(j::d)[b]? =G a/\a.fa=g:=λh=>by
    obtain⟨b,a,p,e⟩:=n _ h;exact⟨b+1,a,J,iC e⟩
   split at h;rename_i o;rcases List.mem_cons.1 h with h|h
   exact⟨0,j,J,Y,o⟩;exact i h;exact i h
 obtain⟨b,a,rfl,e,m⟩:=i _ _ h;rw[cM]at e;split at e;exact⟨J,J,a,by simpa using e,m⟩;simp at e
def K7(c:fh)(a b:Nat):(EK c a b).length<=a:=aV (Cv _ _ _) dY 
theorem OO.put{b:fh}{a:Nat}{e:List Int}{j:List Int}(c:OO b a e j)(r:a<b.eZ.length){y:Int}(v:y∈EK b a (b.eZ[a].fa.toNat))(F:0<=b.eZ[a].fa):OO b a e (j.set y.toNat a):=by
 have⟨_,_,D,f,E⟩:=Gb v;refine⟨by simp[c.ln],λd u=>?_,λw k n first h o m p t g s=>?_⟩;rcases bP u with q|q;exact c.bd d q;omega;have⟨d,i,z,l,A,B⟩:=c.us w k n first h o m p t g s
 by_cases q:y.toNat=h;have⟨C,_,a1,a2⟩:=Gs g;rw[Nat.sub_zero]at a1;rw[q,a1]at f;cases f;have hl:=(List.getElem?_eq_some_iff.1 i).1;refine⟨a,by rw[q,dt hl],J,b.eZ[a],aF r,J⟩;exact⟨d,by rw[List.getElem?_set_ne q];exact i,z,l,A,B⟩
def OO.add{d:fh}{b:Nat}{l:List Int}{k:List Int}(e:OO d b l k){n:Int}(o:b<d.eZ.length)(r:∀first (c:Nat),so d.mP.count d.eZ[b].fa=G first->sh d.eZ[b].fa d.eZ 0 (IntKind.i64.wrap (n-first))=c->c<b->k[c]? =G (b:Int)):OO d b (l++[n]) k:=by
 refine⟨e.ln,e.bd,λj m q first c f a g p h i=>?_⟩;rcases a with a|⟨rfl,a⟩
 exact e.us j m q first c f (.inl a) g p h i
 rcases List.mem_append.1 a with a|a;exact e.us j m q first c f (.inr ⟨rfl,a⟩) g p h i
 obtain rfl:=List.mem_singleton.1 a;rw[aF o]at f;cases f;exact⟨j,r first c g h i,ay _,_,aF o,rfl⟩
def OO.next{b:fh}{a:Nat}{g:List Int}(k:a<b.eZ.length)(d:OO b a (b.eZ[a].m9++b.eZ[a].uY) g):OO b (a+1) [] g:=
 ⟨d.ln,d.bd,λf h p first o e i j n l m=>d.us f h p first o e (by
   rcases i with⟨r,c⟩|⟨_,c⟩;rcases aR f a with q|q;exact .inl ⟨q,c⟩;obtain rfl:f=a:=J;rw[aF k]at e;cases e;exact .inr ⟨rfl,List.mem_append.2 c⟩;simp at c) j n l m⟩
structure YH(w:fh)(k i:Nat)(D:List Int)(E:List T)(us:List Int)(h:H):Prop where
 ok:jk 3 h
 b0:h.get 0=G (eg 15 0 [w.t])
 b1:∃ver,h.get 1=G ⟨1,0,ver,true,false,iE us⟩
 ul:OO w i D us
 ow:OwR (EK w k) E h
 el:E.length=w.gY.eY.length
theorem YH.cons{w:fh}{j i:Nat}{f:List Int}{g:List T}{k:List Int}{c:H}(a:YH w j i f g k c)(e:jO):YH w j i f g k (c.cons e):=by
 have n:=a.ok.sz;have d:∀b,b<c.size->(c.cons e).get b=c.get b:=λb h=>by rw[fH,aq J]
 have⟨m,l⟩:=a.b1;exact⟨a.ok.cons e,(d 0 J).trans a.b0,⟨m,(d 1 J).trans l⟩,a.ul,a.ow.mono λb _ h=>d b h,a.el⟩
def YH.set{j:fh}{m i:Nat}{n k:List Int}{l:List T}{a:List Int}{c:H}(g:YH j m i n l a c){d:Nat}(o:c.get 1=G ⟨1,0,d,true,false,iE a⟩)(f:Nat)(e:Int)(p:OO j i k (a.set f e)):YH j m i k l (a.set f e) (fQ c 1 ⟨1,0,d+1,true,false,(iE a).set f (M e)⟩):=by have h:∀b,(fQ c 1 ⟨1,0,d+1,true,false,(iE a).set f (M e)⟩).get b=if b=1 then some ⟨1,0,d+1,true,false,(iE a).set f (M e)⟩else c.get b:=λb=>fj o _ b;exact⟨g.ok.put _ _,by rw[h,aq J];exact g.b0,⟨d+1,by rw[h,au rfl];simp[iE,aY]⟩,p,g.ow.mono λb q _=>by rw[h,aq J],g.el⟩
abbrev Wp(b:fh)(a:iM):Prop:=jg a 1 0/\ka a 3 (.arr 1 0 0 b.eZ.length false)/\ka a 5 (.arr 2 0 0 b.gY.eY.length false)
def luQ(b:fh)(c:T):Prop:=∃a:List Int,c=sl (iE a)/\OO b b.eZ.length [] a
def Jw:p8 prog cx 16 (λw:fh=>[w.t]) kO luQ:=by
 refine jX [] (jz 2475880648186041451831757567 [(23,[(2,10)])] func16) (λ_=>1000005) (λm b h=>by simp at h;exact fh.inj h) ?_;rintro(w:fh) W c bn;simp at bn;have eo:=W.ok.len;have et:=(kA W.wb).2.2.2.2.2;have bZ:∀r y:Int,mT (M r) 0 [M y]=G (M y):=λ_ _=>rfl;simp[f16,bn,show w.eZ.length*8<=70368744177664 by omega];refine io w.eZ.length J (λi c h=>(∃us C,jk 2 h/\h.size=2/\h.get 0=G (eg 15 0 [w.t])/\h.get 1=G ⟨1,0,C,true,false,iE us⟩/\us.length=w.eZ.length/\∀L∈us,-1<=L/\L<w.eZ.length)/\jg c 1 0/\ka c 3 (.arr 1 0 0 w.eZ.length false)/\iS c 17 w.eZ.length/\iS c 18 i) ?_ ?_ J ?_;rintro i c h p av ⟨⟨us,C,X,an,Z,u,aE,aA⟩,j⟩;have I:(iE us)[i]? =G (M (us[i]' J)):=Y;have a7:=λy e=>fj u y e;simp[j,p,u,I,bZ,av];exact⟨X.put _ _,an,by rw[a7,aq J];exact Z,us.set i (-1),⟨C+1,by rw[a7,au rfl];simp[iE,aY]⟩,iC aE,λL F=>(bP F).elim (aA L) λq=>by omega⟩;rintro c h ⟨⟨us,C,X,an,Z,u,aE,aA⟩,j⟩;have bW:=X.low;simp[j,Z,show w.gY.eY.length*24<=70368744177664 by omega,an];refine io w.eZ.length J (λi c h=>(∃A us,YH w i i [] A us h)/\Wp w c/\ka c 31 (sl (w.eZ.map gd.t))/\iS c 32 w.eZ.length/\iS c 33 i) ?_ ?_ J ?_;rintro i c h p av ⟨⟨A,us,a⟩,j,ae⟩;obtain⟨d,D,ea,eb,b9,ec⟩:=W.at (i:=(i:Int)) (gG.2 ⟨J,J⟩);simp only[bO]at D;have D:w.eZ[i]=d:=by simpa[p]using D
 have t0:=gG.1 b9;have bW:=a.ok.low;have ej:=a.ok.sz;have a:=a.cons (eg 7 1 [d.t]);have o:(h.cons (eg 7 1 [d.t])).get h.size=G (eg 7 1 [d.t]):=Y;simp[j,ae,p,D,bW,o,a.b0,show¬d.fa<0 by omega,show¬(w.gY.eY.length:Int)<=d.fa by omega];generalize h.size=E at*
 generalize h.cons (eg 7 1 [d.t])=h at*
 refine fO (λq=>?_) (λq=>?_);have:=W.cnt λq=>by rw[q]at p;simp at p
 simp at q;omega;have q:d.fa.toNat<w.mP.count.length:=by simp at q;omega
 let R (m:Nat):List Int:=if m=0 then []else if m=1 then d.m9 else d.m9++d.uY
 simp[o];refine io 2 J (λm c h=>(∃us,YH w i i (R m) A us h)/\h.get E=G (eg 7 1 [d.t])/\Wp w c/\iS c 6 i/\jg c 7 E/\ka c 31 (sl (w.eZ.map gd.t))/\iS c 32 w.eZ.length/\iS c 33 i/\ka c 61 (.agg [sl (iE d.m9),sl (iE d.uY)])/\iS c 62 m) ?_ ?_ J ⟨⟨us,a⟩,o,by simp[Wp,j],by simp[ae]⟩;rintro m c h al c4 ⟨⟨us,a⟩,o,j,x⟩;have bs:=W.ev d (D▸aG p);obtain⟨s,eh,cp,cb⟩:∃s:List Int,s.length<=1000000/\(∀h,icW cx h SA (.agg [sl (iE d.m9),sl (iE d.uY)]) m=be (sl (iE s)) h)/\R (m+1)=R m++s:=by
  obtain rfl|rfl:m=0\/m=1:=J;exact⟨d.m9,bs.1,λh=>by simp,rfl⟩;exact⟨d.uY,bs.2,λh=>by simp,rfl⟩
 rw[cb];simp[-UP,x,show(m:Int)<2 by omega,cp];refine io s.length J (λK c h=>(∃us,YH w i i (R m++s.take K) A us h)/\h.get E=G (eg 7 1 [d.t])/\Wp w c/\iS c 6 i/\jg c 7 E/\ka c 31 (sl (w.eZ.map gd.t))/\iS c 32 w.eZ.length/\iS c 33 i/\ka c 61 (.agg [sl (iE d.m9),sl (iE d.uY)])/\iS c 62 m/\ka c 65 (sl (iE s))/\iS c 66 s.length/\iS c 67 K) ?_ ?_ J ⟨⟨us,by simpa using a⟩,o,by simp[Wp,j],by simp[x]⟩;rintro K c h bu br ⟨⟨us,a⟩,o,j,x⟩;have Q:d.fa.toNat<A.length:=a.el▸t0.2;obtain⟨B,l4⟩:=a.ow.gr _ _ (aF Q);have c9:∀y,y∈EK w i d.fa.toNat->0<=y/\y.toNat<i:=λy P=>⟨(Gb P).1,(Gb P).2.1⟩;have bA:=λ{y}=>a.ul.put p (y:=y);have S:=λ{us} (h:OO w i (R m++s.take K) us)=>h.add (n:=s[K]) p;have al:=λ{k}=>W0 (w:=w) (i:=i) (t:=d.fa.toNat) J J (k:=k) (adp (s[K]-w.mP.count[d.fa.toNat]));have c7:=K7 w i d.fa.toNat;rw[D]at bA S;rw[dT t0.1]at al;have c6:so w.mP.count d.fa=G w.mP.count[d.fa.toNat]:=by unfold so;rw[au t0.1,aF q]
 rw[c6]at S;rw[aO,<-aM bu]at S;generalize EK w i d.fa.toNat=l at*
 obtain⟨C,O⟩:=a.ow.get;have bT:=λh=>B.len (cx:=cx) h uu _ rfl;simp at bT;simp[j,x,bu,o,a.b0,fZ t0.1,t0.2,q,we,O,Q,B.cells,bT];generalize w.mP.count[d.fa.toNat]=first at*
 generalize bN:IntKind.i64.wrap (s[K]-first)=r at*
 refine fO (λI=>?_) (λI=>?_);have I:0<=r/\r<l.length:=iC I;obtain⟨b,ee,eA,ef,eB,ey,dd,de,aX⟩:=B.CD (te:=EW) rfl (i:=r.toNat) dY;simp at aX;obtain⟨y,P⟩:∃y,y=l[r.toNat]' J:=⟨_,rfl⟩;have b8:=P▸aG (l:=l) (n:=r.toNat) J;have dn:=c9 y b8;rw[<-P]at aX;obtain⟨b7,u⟩:=a.b1;have b6:=a.ul.ln;have F:(iE us)[y.toNat]? =G (M (us[y.toNat]' J)):=Y;simp[j,x,o,fZ t0.1,t0.2,O,Q,B.cells,fZ I.1,dd,de,aX,fZ dn.1,show y.toNat<w.eZ.length by omega,u,F,bZ,br];exact⟨⟨_,a.set u _ _ (S (bA b8 t0.1) λf k ax V p=>by
  obtain rfl:=db ax;rw[bN]at V;obtain⟨_,z⟩:=al V p;rw[aF J,<-P]at z;obtain rfl:=db z;rw[bO,dt J])⟩,(fj u _ E).trans ((aq J).trans o),by simp[Wp,j]⟩
 simp[x,br];exact⟨⟨us,a.ok,a.b0,a.b1,S a.ul λf k ax V p=>by
  obtain rfl:=db ax;rw[bN]at V;obtain⟨ds,z⟩:=al V p;have:=(List.getElem?_eq_some_iff.1 z).1;exact absurd ⟨ds,J⟩ (show¬(0<=r/\r<l.length)from iC I),a.ow,a.el⟩,o,by simp[Wp,j]⟩
 rintro c h ⟨⟨us,a⟩,o,j,x⟩;rw[aI]at a;simp[x,(iC (c4:binop .add (M m) (M 1)=G (M (m+1))))];exact⟨⟨us,a⟩,o,by simp[Wp,j]⟩;rintro c h ⟨⟨us,a⟩,o,j,x⟩;simp[j,x,o];have Q:d.fa.toNat<A.length:=a.el▸t0.2;obtain⟨B,l4⟩:=a.ow.gr _ _ (aF Q);have c7:=K7 w i d.fa.toNat;have b6:OO w (i+1) [] us:=OO.next p (D▸a.ul);have bX:∀t:Nat,EK w (i+1) t=EK w i t++if d.fa=t then [(i:Int)]else []:=λt=>by
  unfold EK;rw[aM p,Gd,D];simp only[rj,List.length_take,cV,show min i w.eZ.length=i by omega]
 obtain⟨C,O⟩:=a.ow.get;have bi:=aF Q;generalize A[d.fa.toNat]=v at*
 have dk:=a.ok.Dc (az 3);obtain⟨ao,ar,ca,N⟩:=B.oy (cx:=cx) (f:=T.int .i64) dk kS rfl nL rfl Y (λ_=>rfl) (i:Int) dY;have di:fD v≠some E:=λq=>by obtain⟨_,_,_,_,y,_⟩:=B.box q;rw[o]at y;simp at y
 have cL:=(N.2.1 E (H.fV o) di).trans o;have ap:=(N.2.1 2 (H.fV O) λq=>iV (l4 2 q)).trans O;have sv:∀e r,h.get e=G r->ar.get e=G r->il (h.cons (eg 1 0 [M i])) ar e=true:=λe r y z=>iw (by rw[z,fH,aq (iV (H.fV y)),y]);have dm:mT v 0 [ao]=G ao:=Bf (rx.na (h:=h) (sz:=1) (.inr B));simp[x,fZ t0.1,t0.2,O,bi,B.cells,ca,sv E _ o cL,ap,dm,N.1.je,N.1.cells,av];have z:=a.ok.sz;have a8:∀e,e<2->(fQ ar 2 ⟨1,0,C+1,true,false,A.set d.fa.toNat ao⟩).get e=h.get e:=λe U=>(fj ap _ e).trans ((aq J).trans (N.2.1 e J λq=>iV (l4 e q)));obtain⟨b7,u⟩:=a.b1;exact⟨⟨_,us,⟨(N.2.2.2.Dc z).put _ _,(a8 0 J).trans a.b0,⟨b7,(a8 1 J).trans u⟩,b6,a.ow.app z bi (by rw[bX,au J]) (λL F=>by rw[bX,aq J];simp) N ap _,by simp[a.el]⟩⟩,by simp[Wp,j]⟩;rintro c h ⟨⟨A,us,a⟩,j,ae⟩;obtain⟨C,u⟩:=a.b1;have z:TI.qZ h (.arr 1 0 0 w.eZ.length false)=G (sl (iE us)):=by
  rw[show w.eZ.length=(iE us).length by simp[a.ul.ln]];exact(Gr.new u).qZ (f:=T.int .i64) Y
 simp[j,ae,a.ok.hp];exact⟨_,⟨us,rfl,a.ul⟩,iC z⟩;refine⟨⟨List.replicate w.gY.eY.length ed,us,?_⟩,by simp[Wp,j],Y⟩;have g:∀e,e<2->(h.cons ⟨1,0,0,true,false,List.replicate w.gY.eY.length ed⟩).get e=h.get e:=λe U=>by rw[fH,aq J]
 exact⟨⟨(X.cons _).hp,(X.cons _).low,by rw[size_cons];omega⟩,(g 0 J).trans Z,⟨C,(g 1 J).trans u⟩,⟨aE,aA,Y⟩,⟨⟨0,by rw[fH,au an.symm]⟩,λt v aN=>by
  have:=bV (aB aN);subst this;exact⟨by simpa[EK,rj]using Gr.nil _ _,Y⟩,λt L v ao e _ aN _ U=>by
  have:=bV (aB aN);subst this;simp at U⟩,Y⟩
 simp;exact⟨List.replicate w.eZ.length 0,by simp[iE],Y,λL F=>by have:=List.length_pos_of_mem F;simp at this;have:=bV F;omega⟩
def BU(a:fi)(b:T):T:= .agg (a.cs++[b])
def Z9(d:H)(c:T)(b:fi×List fG):Prop:=∃a,c=BU b.1 a/\Gr d a 2 (b.2.map fG.t)
def OP(b:H)(d:T)(c:List (fi×List fG)):Prop:=∃a,Gr b d 10 a/\jw (Z9 b) a c
def kyT(a:List Int)(b:fi×List fG):List Nat:=enc (Bz b.1 a)
def kyE(a:List Int)(b c:fi):Bool:=decide (enc (Bz b a)=enc (Bz c a))
def XG(a:List Int)(c:List (fi×List fG))(b:fi):c.any (λd=>kyE a d.1 b)=decide (enc (Bz b a)∈c.map (kyT a)):=by rw[bD,List.any_eq_true];simp only[kyE,kyT,aP,dq]
abbrev HJ(c:List Int)(b:iv):List (fi×List fG)->fi×List fG->List (fi×List fG):=uN (kyE c) λa=>IK a b
structure V1(w:fh)(g:iv)(us:List Int)(Bq:Nat)(v:T)(ns:List (fi×List fG))(h:H):Prop where
 ok:jk 0 h
 n5:5<=Bq
 b0:h.get 0=G (eg 15 0 [w.t])
 b1:h.get 1=G (eg 6 0 [g.t])
 b2:h.get 2=G (eg 1 1 [sl (iE us)])
 bB:∃ver,h.get Bq=G (eg 1 ver [v])
 bF:∃ver fv,h.get (Bq+1)=G (eg 1 ver [fv])/\∀cs,fv≠ .agg cs
 bm:∃ver,h.get (Bq+2)=G ⟨0,0,ver,true,true,FG (ns.map (kyT us))⟩
 bM:h.get (Bq+3)=G (eg 1 1 [.map (Bq+2)])
 lv:OP h v ns
structure Fv(h h':H)(Bq:Nat)(v v':T):Prop where
 ok:jk h.size h'
 fr:∀c,c<h.size->c≠Bq->c≠Bq+1->c≠Bq+2->fD v≠some c->h'.get c=h.get c
 bx:∀c,fD v'=G c->fD v=G c\/h.size<=c
def Fv.nb{a b:H}{e:Nat}{d:T}(c:Nb a b):Fv a b e d d:=⟨c.ok,λf g _ _ _ _=>c.get f g,λ_ h=> .inl h⟩
structure IVi where
 (w:fh) (g:iv) (us:List Int) (B:Nat) (v:T) (ns:List (fi×List fG)) (x:fi×List fG) (pv:T) (ch:fG) (k:Nat)
def Zp(a:IVi)(c:List T)(b:H):Prop:=c=[BU a.x.1 a.pv,a.ch.t,ez 0,ez 1,ez (a.B+1),ez 2,ez (a.B+3),ez a.B]/\V1 a.w a.g a.us a.B a.v a.ns b/\Gr b a.pv 2 (a.x.2.map fG.t)/\
 kO a.w/\a.w.eZ.length<=8/\a.g.jA.length<=1000000/\NdQ a.w a.g a.k a.x/\a.ch∈mY a.w a.x.1 a.w.gY.eY.length/\a.us.length=a.w.eZ.length/\(∀d∈a.us,d<a.us.length)/\a.ns.length<=30000000000
def Dw(a:IVi)(i:List T)(f:H)(d:T)(b:H):Prop:=
 (d= .bool false/\oY a.w (jp a.w a.x.1 a.ch).1 a.g=false/\∃e,V1 a.w a.g a.us a.B e (HJ a.us a.g a.ns ((jp a.w a.x.1 a.ch).1,a.x.2++[a.ch])) b/\Fv f b a.B a.v e)\/
 (d= .bool true/\oY a.w (jp a.w a.x.1 a.ch).1 a.g/\Hp b/\∃h c,b.get (a.B+1)=G (eg 1 h [c])/\Gr b c 2 ((a.x.2++[a.ch]).map fG.t))
def Z9.mono{e h':H}{c:T}{f:fi×List fG}(l:Z9 e c f)(j:∀b a,e.get b=G a->a.sz=2->h'.get b=G a):Z9 h' c f:=by obtain⟨k,h,d⟩:=l;exact⟨k,h,d.mono λg i=>by have⟨_,_,_,_,a,_⟩:=d.box i;rw[a];exact j g _ a rfl⟩
def V1.nb{p:fh}{k:iv}{n:List Int}{j:Nat}{o:T}{m:List (fi×List fG)}{f g:H}(b:V1 p k n j o m f)(h:Nb f g):V1 p k n j o m g:=by have a:∀c i,f.get c=G i->g.get c=G i:=λc i d=>(h.get c (H.fV d)).trans d;have⟨r,l,q⟩:=b.lv;exact⟨⟨h.ok.hp,h.ok.low,az _⟩,b.n5,a _ _ b.b0,a _ _ b.b1,a _ _ b.b2,b.bB.imp λ_=>a _ _,by have⟨x,s,v,w⟩:=b.bF;exact⟨x,s,a _ _ v,w⟩,b.bm.imp λ_=>a _ _,a _ _ b.bM,r,l.mono λy t=>by have⟨_,_,_,_,e,_⟩:=l.box t;rw[a _ _ e,e],q.imp λ_ _ d=>d.mono λc e u _=>a c e u⟩
def W3:(kW IVi Zp Dw).Ok prog cx 19:=by
 refine jP [(20,Bg),(18,wx),(21,Ll.kx),(22,ZG.kx)] [] (jz 2270491528167423 [] func19) 9 ?_;rintro⟨g,v,y,j,I,B,⟨a,C⟩,eA,f,W⟩ _ h ⟨rfl,w,b6,aE,eR,ca,q,r,cp,eh,eS⟩ fA ef;simp only at w b6 aE eR ca q r cp eh eS;have⟨e6,eO,ax,e7,N,eB,c7⟩:=q.step aE r;simp only at e6 eO ax e7 N eB c7;have eU:sH g a:=⟨aE,q.co.up (iV q.od.le)⟩;have a8:sH g (jp g a f).1:=⟨aE,N.up (iV q.od.le)⟩;have eI:=λ{dd:iq} (ht:dd.p 20=G Bg)=>aca ht g a f eU ax q.rd;obtain⟨_,rfl,ea⟩:=Ll.use ((jp g a f).1,v) ⟨a8.od,λo cb=>N.wk▸c7.i o cb,ca⟩;have c4:g.eZ≠ []:=py (qq ax);have fs:=kA aE.wb;obtain⟨_,rfl,ds⟩:=ZG.use ((jp g a f).1,y) ⟨dZ,eh,λo cb=>cp▸c7.i o cb,a8.od,cp▸N.fx,a8.l c4,λeV hl=>iV (eB.len N.BP eV hl),(⟨iV (N.ce c4),iV (N.fu c4)⟩:(jp g a f).1.cells.length<=1000/\(jp g a f).1.fR.length<=1000)⟩;simp only at ea ds;have dn:=λ{dd:iq} (ht:dd.p 18=G wx)=>Qg ht g (jp g a f).1 v a8 ca;have eM:(nu g (jp g a f).1 v&&g.gx.vR v)=oY g (jp g a f).1 v:=rfl;rw[eM]at dn;generalize bi:jp g a f=e8 at*
 obtain⟨d,fy⟩:=e8;simp only at*
 simp at ef;obtain⟨eL,b8,R⟩:=ef;have fB:=H.fV w.b0;have ey:=w.ok.hr;have fC:=H.fV w.b2;have e4:∀k,k<3->(k=h.size)=False/\(k=h.size+1)=False/\(k=h.size+1+1)=False:=λk U=>by simp;omega
 have p3:∀x b z di,fQ ((((TI.hr h).cons x).cons b).cons z) (h.size+1+1) di=(((TI.hr h).cons x).cons b).cons di:=λx b z di=>zq _ _ _ _ rfl ((ey.cons x).cons b).low;simp[f19,eL,b8,R,BU,fi.cs,w.b0,(e4 0 J).1,eI,p3];generalize S:(((TI.hr h).cons _).cons _).cons _=n;have eF:n.size=h.size+1+1+1:=by rw[<-S];rfl
 have br:Nb (TI.hr h) n:=S▸(((Nb.refl ey).cons _).cons _).cons _;have eD:n.get (h.size+1)=G (eg 2 0 [f.t]):=by rw[<-S];simp[size_cons]
 have eE:n.get (h.size+1+1)=G (eg 9 1 [d.t]):=by rw[<-S];simp[size_cons]
 have de:n.get h.size=G (eg 10 0 [BU a eA]):=by rw[<-S];simp[size_cons,BU,fi.cs]
 simp only[BU,fi.cs,aW,bJ]at de;have eG:=w.nb br.hr;have bZ:Gr n eA 2 (C.map fG.t):=b6.mono λk U=>by have⟨_,_,_,_,b,_⟩:=b6.box U;exact br.hr.get k (H.fV b)
 clear S p3;have cL:=λb8=>bZ.len (cx:=cx) b8 fK _ rfl;have⟨u,bW,D⟩:=Gr.ajx bZ BL rfl DY rfl Y (λe ax=>by obtain⟨_,_,rfl⟩:=List.mem_map.1 ax;rfl) (by have:=q.ln;have:=q.od.le;simp at*;omega);have D:=D n f.t (ay _) (λ_ _=>rfl) rfl;simp only[aL]at cL bW D;have sv:∀k,il n n k:=λk=>iw rfl;simp[cL,bW,D,de,eD];generalize ar:(n.cons _).cons _=m;have A:Nb (TI.hr h) m:=ar▸(br.cons _).cons _;have al:m.get (h.size+1+1)=G (eg 9 1 [d.t]):=by rw[<-ar];simp[size_cons,eE,eF]
 have E:Gr m (.arr (n.size+1) 0 0 (C.length+1) false) 2 ((C++[f]).map fG.t):=by
  have:m.get (n.size+1)=G ⟨2,0,0,false,false,C.map fG.t++[f.t]⟩:=by rw[<-ar];simp[size_cons]
  have:=Gr.new this;rw[List.map_append];simpa using this
 have fE:h.size+5=m.size:=by rw[<-ar,size_cons,size_cons,eF]
 have c:=w.nb A.hr;clear ar D bW cL de eD eE eG bZ sv br;generalize T.arr (n.size+1) 0 0 (C.length+1) false=bs at*
 simp[R,c.b0,c.b1,al,dn];refine fO (λP=>?_) (λP=>?_);have⟨bA,ec,O,bX⟩:=c.bF;simp[R,O,Bf bX,E.je,E.cells];unfold Dw;simp only[bi];have K:=λb a=>fj O b a;exact .inr ⟨trivial,P,((A.ok.put _ _).out h).hp,bA+1,bs,(iJ h _ _).trans ((K _ _).trans (au rfl)),(E.mono λk U=>by
  have⟨_,_,_,_,b,_⟩:=E.box U;rw[K,aq λq=>by rw[q,O]at b;simp at b]).out h⟩
 simp[R,c.b1,al,ea];have P:oY g d v=false:=iC P;have ee:=XG y B d;have eP:kyT y (d,C++[f])=enc (Bz d y):=rfl;generalize enc (Bz d y)=bn at*
 have b9:(IK d v||decide (bn∈B.map (kyT y)))->HJ y v B (d,C++[f])=B:=λq=>au (ee▸q);have a7:(IK d v||decide (bn∈B.map (kyT y)))=false->HJ y v B (d,C++[f])=B++[(d,C++[f])]:=λq=>aq (by rw[ee,q];simp);refine fO (λaA=>?_) (λaA=>?_);simp;unfold Dw;simp only[bi];exact .inl ⟨trivial,P,I,by rw[b9 (by rw[aA];rfl)];exact w.nb A.out,Fv.nb A.out⟩;have⟨bA,Z⟩:=c.bm;have aA:IK d v=false:=iC aA;rw[aA]at b9 a7;generalize eN:B.map (kyT y)=L at*
 have eC:∀k,lI M3 (T.map k).cells=G (.map k):=λ_=>rfl;simp[R,c.b2,c.bM,al,ds,eC,XC Z];refine fO (λV=>?_) (λV=>?_);rotate_left;simp;unfold Dw;simp only[bi];exact .inl ⟨trivial,P,I,by rw[b9 (iC V)];exact w.nb A.out,Fv.nb A.out⟩;have V:bn∉L:=iC V;replace a7:=a7 (iC V);have et:=λb a=>fj Z b a;have⟨bu,aX⟩:=c.bB;have⟨eb,ap,dk⟩:=c.lv;have eu:=XA Z V;have⟨F,av⟩:∃F,F=fQ m (j+2) ⟨0,0,bA+1,true,true,FG (L++[bn])⟩:=⟨_,rfl⟩;rw[<-av]at eu;have K:∀a,a≠j+2->F.get a=m.get a:=λa r=>by rw[av,et,aq r]
 have e5:jk h.size F:=av▸A.ok.put _ _;have ff:F.size=m.size:=by rw[av,iB]
 have e0:=c.n5;have Q:∀a,fD I=G a->a<m.size/\a≠j/\a≠j+1/\a≠j+2/\a≠j+3/\3<=a:=λa r=>by
  have⟨_,_,_,_,b,_⟩:=ap.box r;refine⟨H.fV b,λq=>?_,λq=>?_,λq=>?_,λq=>?_,?_⟩;rw[q,aX]at b;simp at b;have⟨_,_,O,_⟩:=c.bF;rw[q,O]at b;simp at b;rw[q,Z]at b;simp at b;rw[q,c.bM]at b;simp at b;rcases aR a 3 with q|q;have:a=0\/a=1\/a=2:=J;rcases this with rfl|rfl|rfl
  rw[c.b0]at b;simp at b;rw[c.b1]at b;simp at b;rw[c.b2]at b;simp at b;exact q
 have eK:Gr F I 10 eb:=ap.mono λa r=>K a (Q a r).2.2.2.1;have eW:=dk.length;have⟨ae,b7,D,s⟩:=eK.yv (cx:=cx) (e5.Dc (az _)) abS rfl abT rfl Y (x:=BU d bs) rfl (by rw[eW];show(B.length+1)*224<=_;omega);simp only[BU,fi.cs,aW,bJ]at D;have⟨_,eX⟩:=w.bm;have fv:=H.fV eX;have fe:=(K (h.size+1+1) J).trans al;have bN:=(K j J).trans aX;have dm:=(s.2.1 j (H.fV bN) (λq=>(Q j q).2.1 rfl)).trans bN;have e9:mT I 0 [ae]=G ae:=Bf (rx.na (h:=m) (sz:=10) (.inr ap));simp[R,c.bM,eC,eu,bN,fe,ap.cells,E.je,E.cells,D,dm,e9,s.1.je,s.1.cells];unfold Dw;simp only[bi];have aN:=λb a=>fj dm b a;have fM:=s.2.2.2.sz;have fL:=A.ok.sz;have eo:∀a,a<F.size->a≠j->a≠j+2->fD I≠some a->(mV h (fQ b7 j (eg 1 (bu+1) [ae]))).get a=m.get a:=λa bT d an ao=>by rw[iJ,aN,aq d,s.2.1 a bT ao,K a an]
 have c1:∀a b,m.get a=G b->a<F.size:=λa b q=>ff▸H.fV q;have X:∀a b,m.get a=G b->a≠j->a≠j+2->fD I≠some a->(mV h (fQ b7 j (eg 1 (bu+1) [ae]))).get a=G b:=λa b q d an ao=>(eo a (c1 a b q) d an ao).trans q;have ej:∀a b,m.get a=G b->b.sz=2->(mV h (fQ b7 j (eg 1 (bu+1) [ae]))).get a=G b:=λa b q c9=>X a b q (λW=>by rw[W,aX]at q;simp at q;subst q;simp at c9) (λW=>by rw[W,Z]at q;simp at q;subst q;simp at c9) λW=>by have⟨_,_,_,_,al,_⟩:=ap.box W;rw[al]at q;simp at q;subst q;simp at c9
 have c6:∀a,a<3->fD I≠some a:=λa r q=>iV (Q a q).2.2.2.2.2;rw[a7];refine .inl ⟨trivial,P,ae,⟨⟨((s.2.2.2.put _ _).out h).hp,((s.2.2.2.put _ _).out h).low,az _⟩,e0,X 0 _ c.b0 J J (c6 0 J),X 1 _ c.b1 J J (c6 1 J),X 2 _ c.b2 J J (c6 2 J),⟨bu+1,by rw[iJ,aN,au rfl]⟩,?_,⟨bA+1,?_⟩,X _ _ c.bM J J (λq=>(Q _ q).2.2.2.2.1 rfl),eb++[BU d bs],?_,?_⟩,⟨?_,?_,?_⟩⟩;have⟨fb,ec,O,bX⟩:=c.bF;exact⟨fb,ec,X _ _ O J J (λq=>(Q _ q).2.2.1 rfl),bX⟩;rw[iJ,aN,aq J,s.2.1 _ (c1 _ _ Z) (λq=>(Q _ q).2.2.2.1 rfl),av,et,au rfl,List.map_append,eN,List.map_singleton,eP];exact(s.1.mono λa r=>by
  rw[aN,aq];rintro rfl;exact(s.2.2.1 _ r).elim (λq=>(Q _ q).2.1 rfl) (iV (c1 _ _ aX))).out h
 exact(dk.imp λ_ _ q=>q.mono ej).append (.cons ⟨bs,rfl,E.mono λk U=>by have⟨_,_,_,_,b,_⟩:=E.box U;rw[b];exact ej _ _ b rfl⟩ .nil);exact((s.2.2.2.put _ _).out h).Dc J;exact λa eH bT d an ao=>(eo a J bT an ao).trans (A.hr.get a eH);exact λa r=>(s.2.2.1 a r).imp id J 
