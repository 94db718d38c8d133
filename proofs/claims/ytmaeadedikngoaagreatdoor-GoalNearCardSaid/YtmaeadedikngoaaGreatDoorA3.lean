/- Texts TiBuiltin to TiOps. -/
import Derived.Test.YtmaeadedikngoaaGreatDoorA2
import Derived.Lib.ConvBytes
set_option linter.all false
namespace Go.TI
noncomputable section
section
variable {P:ai}{cx:Ctx}{base:Nat}{w:World}{μ:Mu}{h h':H}{mask:Nat}{e:Env}{a:Act}{o:Oper}{hp hp':af Obj}{p:T}
def pY(cx:Ctx)(base:Nat)(w:World)(μ:Mu)(f:Nat)(g:Result am)(i:T)(h':H):Prop:=
 ∃d b c,g= .ok d b/\fg b.heap c i d/\St cx base b.heap c h'/\oU w μ b c/\xE μ c f h'.size
def pY.pure{b:Result am}{d:T}{c:am}(g:St cx base w.heap μ h)(hr:b= .ok c w)(f:fg w.heap μ d c):pY cx base w μ h.size b d h:=
 ⟨c,w,μ,hr,f,g,oU.refl _ _,xE.refl _ _⟩
def uo(iG:iP P cx){f:ab}{g:Ty}(b:pR cx f=some g):∃c,P.underlying f=some (.slice c)/\cx.ty c=some g:=by
 obtain⟨l,j,b⟩:=dD.1 b;obtain⟨m,i,d⟩:=kq (iG.ty _ _ j);cases k:l.u<;>rw[k]at b d<;>simp at b;have:=lq d;subst this;exact⟨_,i,b⟩
def x8(b:List Nat):fD (λc=>some (T.int .u8 (.ofNat c))) b=some (b.map λc=>T.int .u8 (.ofNat c)):=by
 induction b with
 |nil=>rfl
 |cons f b d=>rw[jr,d];rfl
def qD(b:List Nat):fa (b.map λc=>T.int .u8 (.ofNat c))=b.map λc=>T.int .u8 (.ofNat c):=by
 induction b with
 |nil=>rfl
 |cons f b d=>rw[aR,lA,d];rfl
def IC(iG:iP P cx)(O:St cx base w.heap μ h){C:ab}{n:T}{f:am}{j:List T}{i:Nat}(z:fg w.heap μ n f)(c:nc cx h C n=some j)(k:fits i j=true):
 ∃s,R1 P w μ i C f j s:=by
 obtain⟨Q,L,c⟩:=dD.1 c;obtain⟨R,q,r⟩:=kq (iG.ty _ _ L);cases M:Q.u<;>rw[M]at c r<;>simp at c
 ·have:=rI r;subst this;have G:∃d,n= .str d:=by cases n<;>first|exact⟨_,rfl⟩|(simp at c)
  obtain⟨d,rfl⟩:=G;have c:fD (λf=>some (T.int .u8 (.ofNat f))) d=some j:=c;rw[x8]at c;simp only[ar]at c;subst c;obtain⟨rfl,F⟩:=z.ll;cases d with
  |nil=>
   have A:bytesOf []=ByteArray.empty:=rfl;refine⟨[],⟨⟨.inr q,λV=>by simp[Builtin.lenOf];rfl,?_,?_,dt,dt⟩,fV.nil,dt,by simp[fa]⟩⟩
   ·simp[Builtin.firstCells,A]
   ·simp[Builtin.firstCells,A]
  |cons g d=>
   have K:i=1:=by
    have k:Nat.beq 1 i=true:=k;exact(aC k).symm
   subst K;have x:=Src.ofString w q (bytesOf (g::d));have v:(bytesOf (g::d)).size=((g::d).map λf=>T.int .u8 (.ofNat f)).length:=by rw[jG];simp
   rw[v]at x;refine⟨_,x,?_,by intro D b;simp only[List.mem_map]at b;obtain⟨_,_,rfl⟩:=b;rfl,by rw[qD];intro D b;simp only[List.mem_map]at b;obtain⟨_,_,rfl⟩:=b;rfl⟩;rw[qD];refine⟨by rw[byteCells_length,v],λB D b=> ?_⟩;rw[aQ]at b;cases l:(g::d)[B]? with
   |none=>rw[l]at b;simp at b
   |some t=>
    rw[l]at b;simp at b;subst b;have I:t<256:=F t (ax l);have:(byteCells (bytesOf (g::d)))[B]? =some (.int .u8 (t:Int)):=by
     simp only[byteCells,bytesOf,aQ,db,l,cJ,jq I]
    rw[List.getD,this];exact .int _ _
 ·rename_i S;have:=lq r;subst this;obtain⟨U,m⟩:=nM (P:=P) O z c;have y:=Ke k m.HX;have N:Au P w μ f j i:=⟨y,m.scalar,m.form⟩;obtain⟨s,J,E⟩:=N.src q;exact⟨s,J,E,y,m.scalar⟩
def Df(g:og p=true){b:am}(hp:fg w.heap μ p b):∃f d c,b= .slice f d c/\d<=c:=by
 cases hp<;>simp[og]at g
 ·exact⟨_,_,_,rfl,au _⟩
 ·exact⟨_,_,_,rfl,by assumption⟩
 ·exact⟨_,_,_,rfl,aw _⟩
 ·exact⟨_,_,_,rfl,by assumption⟩
def wN(iG:iP P cx)(j:St cx base w.heap μ h){I J ty':ab}{L k:T}{c B:am}(hp:fg w.heap μ p c)(aA:fg w.heap μ L B)(b:iO cx h I J p L=some (.val k h')):
 pY cx base w μ h.size ((Builtin.append_ #[I,J] ty' #[c,B]).run P w) k h':=by
 replace b:=dD.1 b;obtain⟨f,aN,b⟩:=b;replace b:=dD.1 b;obtain⟨l,aX,b⟩:=b;replace b:=dL.1 b;obtain⟨Z,b⟩:=b;rw[je]at b;obtain⟨bs,E,F⟩:=uo iG aN;obtain⟨a6,y⟩:=IC (P:=P) iG j aA aX Z;cases l with
 |nil=>
  have b:fT (og p) (some (p,h))=some (k,h'):=b;obtain⟨aE,b⟩:=dL.1 b;simp only[ar,ay]at b;obtain⟨rfl,rfl⟩:=b;have ap:a6=[]:=aY (by have:=y.src.newsLen;simpa using this);subst ap;obtain⟨ad,g,t,rfl,K⟩:=Df aE hp;exact pY.pure j (MR (ty':=ty') iG E F y.src K) hp
 |cons s l=>
  have av:s::l≠ []:=dt;have bB:0<(s::l).length:=dt;have C:∀{es:List T} {v:Nat},Au P w μ c es v->(∀ad g t,c= .slice ad g t->t=g)->h.iY f.size f.bytes es (s::l)=some (k,h')->pY cx base w μ h.size ((Builtin.append_ #[I,J] ty' #[c,B]).run P w) k h':=by
   intro es v d W i;have al:fits f.size es=true:=by
    unfold H.iY at i;simp only[qr,dR,iw,jt]at i;obtain⟨_,i⟩:=dL.1 i;obtain⟨_,i⟩:=dL.1 i;exact(dL.1 i).1
   have x:Au P w μ c es f.size:=⟨Ke al d.HX,d.scalar,d.form⟩;obtain⟨ad,cap,bH,G,K,_⟩:=x.form;obtain⟨bN,a7,a8⟩:=x.first;subst G;have:=W _ _ _ rfl;obtain⟨Q,bi,bk,r1,r2,r3,r4,r5⟩:=AI iG j E F (ty':=ty') (ad:=ad) (cap:=cap) ⟨a7,a8,x.HX,x.scalar⟩ y dq i;exact⟨Q,bi,bk,r1,r2,r3,r4,r5⟩
  have G:(∃es m,p= .dF es m)\/∃A u o g m,p= .arr A u o g m:=by
   cases p<;>first|(exact .inl ⟨_,_,rfl⟩)|(exact .inr ⟨_,_,_,_,_,rfl⟩)|(simp[H.append]at b)
  rcases G with⟨es,m,rfl⟩|⟨A,u,z,g,m,rfl⟩
  ·cases es with
   |nil=>
    have b:h.iY f.size f.bytes [] (s::l)=some (k,h'):=b;obtain⟨ad,rfl⟩:=hp.tK;obtain⟨v,d⟩:=nM (P:=P) (es:=[]) j hp rfl;exact C d (by intro _ _ _ n;simp at n;omega) b
   |cons M es=>
    have b:fT m (h.iY f.size f.bytes (M::es) (s::l))=some (k,h'):=b;obtain⟨an,b⟩:=dL.1 b;obtain⟨v,d⟩:=nM (P:=P) (es:=M::es) j hp rfl;refine C d ?_ b;intro ad g t n;obtain⟨_,_,_,_,_,_,_,D,_,_,_,ae,_⟩:=hp.tL;rw[D]at n;simp at n;have:=ae an;omega
  ·cases m with
   |true=>
    have b:(dM (h.jg (.arr A u z g true)) λes=>h.iY f.size f.bytes es (s::l))=some (k,h'):=b;obtain⟨es,q,b⟩:=dD.1 b;obtain⟨v,d⟩:=nM (P:=P) j hp q;refine C d ?_ b;intro ad bC t n;obtain⟨N,bl,bn,D,U,_,_,X⟩:=hp.rV;rw[D]at n;simp at n;have Y:u=N.ep:=by
     unfold H.jg at q;obtain⟨O,V,q⟩:=dD.1 q;obtain⟨bS,S,bT,bu,d,R⟩:=O;have q:fT (Nat.beq S u) (@Bool.rec (λ_=>aa (List T)) (dM (jJ z R) λr=>takeN g r) none d)=some es:=q;have bz:=aC (dL.1 q).1;have:=(j.JG U V).2;simp only[]at this;omega
    have:=(X Y).1 rfl;omega
   |false=>
    cases z with
    |succ z=>exact absurd b (by simp[H.append])
    |zero=>exact CD iG j E F (ty':=ty') hp y av b
def Ft(iG:iP P cx)(M:St cx base w.heap μ h){N a7:ab}{f:T}{C:am}(hp:fg w.heap μ p C)(c:CA cx h N p=some (.val f h')):
 pY cx base w μ h.size ((Builtin.clear_ #[N] a7 #[C]).run P w) f h':=by
 replace c:=dD.1 c;obtain⟨s,b9,c⟩:=c;obtain⟨dd,W,bN⟩:=uo iG b9;have L:∀{t:aa Addr} {D:Nat},C= .slice t 0 D->f= .undef->h'=h->pY cx base w μ h.size ((Builtin.clear_ #[N] a7 #[C]).run P w) f h':=by
  intro t D V d bT;subst V d bT;refine pY.pure M ?_ .undef;cases t<;>simp[Builtin.clear_,run_underlying W]
 cases p<;>simp only[reduceCtorEq]at c
 ·rename_i j bs;cases j with
  |nil=>
   simp only[ar,lh.val.injEq]at c;obtain⟨t,rfl⟩:=hp.tK;exact L rfl c.1.symm c.2.symm
  |cons x j=>simp at c
 ·simp only[ar,lh.val.injEq]at c;obtain⟨t,g,D,V,I⟩:=Df (p:= .fR) rfl hp;cases hp;exact L rfl c.1.symm c.2.symm
 ·rename_i b bl m g bs;obtain⟨i,t,D,rfl,S,dk,dm,bH⟩:=hp.rV;cases g with
  |zero=>
   have c:some (lh.val .undef h)=some (.val f h'):=c;simp only[ar,lh.val.injEq]at c;exact L rfl c.1.symm c.2.symm
  |succ g=>
   replace c:=dD.1 c;obtain⟨a8,U,c⟩:=c;obtain⟨sz,O,c6,bn,a6,q⟩:=a8;have c:(fT (Nat.beq O bl)<|fT (Nat.beq sz s.size) (@Bool.rec (λ_=>aa lh)
    (dM (kx q m (oI s.j1 (g+1))) λj=>dM (gh (Nat.succ c6)) λc7=>
      dM (h.put b ⟨sz,O,c7,bn,false,j⟩) λh'=>some (.val .undef h')) none a6))=some (.val f h'):=c
   replace c:=dL.1 c;obtain⟨X,c⟩:=c;replace c:=dL.1 c;obtain⟨an,c⟩:=c;cases a6 with
   |true=>simp at c
   |false=>
    replace c:=dD.1 c;obtain⟨j,r,c⟩:=c;simp only[iw,dR]at c;replace c:=dD.1 c;obtain⟨de,b7,c⟩:=c;simp only[ar,lh.val.injEq]at c;obtain⟨rfl,rfl⟩:=c;have X:=aC X;have an:=aC an;obtain⟨n,Q,bu⟩:=M.Bl S U rfl;simp only[]at Q bu;obtain⟨_,_,F⟩:=bH dq;have F:=F dq;subst F;obtain⟨v,c4,Z,al,E⟩:=n.row;have z:=n.size;simp only[]at z E;obtain⟨B,ca,dn,av,aN,aE,A,ds,dv⟩:=(iG.ty _ _ bN).zero w;rw[ng]at r;obtain⟨I,r⟩:=nS r;rw[List.length_replicate]at I r;have G:=gD z;have cb:(fa (List.replicate (g+1) s.j1)).length=(g+1)*i.sz:=by
     rw[gD (sz:=i.sz) (by intro f d;rw[bO d,A,aE];omega),List.length_replicate]
    have Y:fa j=(fa q).take (m*i.sz)++fa (List.replicate (g+1) s.j1)++(fa q).drop (m*i.sz+(g+1)*i.sz):=by
     rw[r,mI,mI,qC z,<-bY,oQ z]
    have ap:∀f∈j,f.cells.length=i.sz:=by
     intro f d;rw[r]at d;rcases List.mem_append.1 d with d|d
     ·rcases List.mem_append.1 d with d|d
      ·exact z f (bw d)
      ·rw[bO d,A,aE];omega
     ·exact z f (bA d)
    have b8:∀f∈fa j,f.scalar=true:=by
     intro f d;rw[Y]at d;rcases List.mem_append.1 d with d|d
     ·rcases List.mem_append.1 d with d|d
      ·exact n.scalar f (bw d)
      ·obtain⟨y,K,d⟩:=List.mem_flatMap.1 d;rw[bO K,A]at d;exact aN f d
     ·exact n.scalar f (bA d)
    have J:j.length=q.length:=by rw[r];simp;omega
    have bS:(fa j).length=(fa q).length:=by rw[gD ap,G,J]
    have bB:(fa q).length<=v.size:=by
     rw[G,al];exact aW _ n.room
    have di:m*i.sz+(g+1)*i.sz<=(fa q).length:=by
     rw[G,<-bY];exact aW _ I
    have aX:B.cells.size=i.sz:=by have:=(av w.heap μ).1;simp only[bZ]at this;omega
    have cv:∃l:List am,(Builtin.zeroCells B.cells (g+1)).toList=l/\l.length=(g+1)*i.sz/\fV w.heap μ (fa (List.replicate (g+1) s.j1)) l:=by
     have bC:fV w.heap μ (fa (List.replicate (g+1) s.j1)) (Builtin.zeroCells B.cells (g+1)).toList:=by
      by_cases R:B.cells.size=0
      ·have bi:fa (List.replicate (g+1) s.j1)=[]:=aY (by rw[cb,<-aX,R];simp);have bk:(Builtin.zeroCells B.cells (g+1)).toList=[]:=aY (by rw[bZ,qF,R];simp);rw[bi,bk];exact fV.nil
      ·rw[Builtin.zeroCells,yR (g+1) dq,qZ,A];exact(av _ _).replicate (g+1)
     exact⟨_,rfl,by rw[bZ,qF,aX],bC⟩
    obtain⟨l,ce,cp,aA⟩:=cv;have b6:∀u∈l,u.oneCell'=true:=aA.El (by
     intro f d;obtain⟨y,K,d⟩:=List.mem_flatMap.1 d;rw[bO K,A]at d;exact aN f d)
    have bz:fV w.heap μ (fa j) ((v.toList.take (m*i.sz)++l++v.toList.drop (m*i.sz+l.length)).toArray.toList.take (fa j).length):=by
     rw[bS,Y];rw[db,zR _ _ dq (by simpa using bB)];rw[cp];exact((E.take _).append aA).append (E.drop _)
    obtain⟨c9,cy,cL,c1,ea⟩:=yJ M S U rfl Z (.inl Q) b7 (arr':=(v.toList.take (m*i.sz)++l++v.toList.drop (m*i.sz+l.length)).toArray)
     (by simp only[List.size_toArray,bh,List.length_take,List.length_drop,bZ];rw[<-al];omega) (by rw[J];exact n.room) (by intro k;have:=n.sx k;simp only at this;rw[J];exact this) ap b8 bz
    refine⟨.tuple #[],_,c9,?_,.undef,cy,cL,c1⟩;have ae:=run_storeCells_at (P:=P) i.iI (m*i.sz) c4 l 0 v w Z (by simp only[Nat.add_zero];omega) b6;simp only[Nat.add_zero]at ae;simp[Builtin.clear_,run_underlying W,ca,ce,ae]
end
end
noncomputable section
section
variable {P:ai}{cx:Ctx}{base:Nat}{w:World}{μ:Mu}{h h':H}{mask:Nat}{e:Env}{a:Act}{o:Oper}{hp hp':af Obj}{p:T}
def St.grow(c:St cx base hp μ h)(l:hp.size<=hp'.size)(j:∀b,b<hp.size->hp'[b]? =hp[b]?):St cx base hp' μ h/\Ext hp μ hp' μ:=by
 have g:Ext hp μ hp' μ:=⟨l,λb i t=>⟨j b i,t⟩,λk f d=>⟨f,d,.inl rfl⟩,rfl,λb i _=>j b i⟩;refine⟨⟨c.wf,by have:=c.fit;omega,λk f d=> ?_,c.inj,c.low,c.apart,λb hr=>bE (c.pW b hr) l,λn m s=>(c.yh n m s).ext g⟩,g⟩;obtain⟨u,q,r⟩:=c.box k f d;exact⟨u,q,r.ext g (j _ (c.lt d))⟩
def Fo(iG:iP P cx){D z:ab}{K:ah}(x:St cx base w.heap μ h)(r:j7 w.heap μ mask e a.tmps)(ap:o.op= .convert D z K){m:T}
 (C:∃F,cx.ty D=some F) (hp:fG cx mask e K=some p) (b:Cx cx z p=some m) (Y:h'=h):iZ cx base w μ h.size ((execOp a.eval o).run P w) m h':=by
 subst Y;obtain⟨bB,C⟩:=C;obtain⟨bs,U,_⟩:=kq (iG.ty _ _ C);replace b:=dD.1 b;obtain⟨F,a7,b⟩:=b;obtain⟨d,R,I⟩:=kq (iG.ty _ _ a7);have bk:=fX x r hp;cases a8:F.u<;>rw[a8]at b I<;>simp only[reduceCtorEq]at b;rename_i s;have:=lq I;subst this;have W:∃c,p= .str c:=by cases p<;>first|exact⟨_,rfl⟩|(simp at b)
 obtain⟨c,rfl⟩:=W;have b:(dM (cx.ty s) λE=>(match E.u with
  | .int l=>fT (CM l .u8) (@List.rec Nat (λ_=>aa T) (some .fR) (λ_ _ _=>dM (fD (λg=>some (T.int .u8 (.ofNat g))) c) λA=>some (.dF A false)) c)
  |_=>none))=some m:=b
 replace b:=dD.1 b;obtain⟨E,a6,b⟩:=b;obtain⟨bn,S,J⟩:=kq (iG.ty _ _ a6);cases bi:E.u<;>rw[bi]at b J<;>simp only[reduceCtorEq]at b;rename_i l;replace b:=dL.1 b;obtain⟨k,b⟩:=b;rw[xl]at k;subst k;have:=vy J;subst this;obtain⟨M,N⟩:=bk.ll
 let n:=(bytesOf c).size
 have B:∃q j,n<=q/\(execOp a.eval o).run P w= .ok (.value (.slice (some ⟨w.heap.size,0,none⟩) n q)) j/\j.heap.size=w.heap.size+1/\(∀t,t<w.heap.size->j.heap[t]? =w.heap[t]?)/\
  j.os=w.os/\j.tape=w.tape/\j.output=w.output/\∃fz,j.heap[w.heap.size]? =some (.cells ((bytesOf c).data.map (λi=>Value.int .u8 i.toNat)++Array.replicate (q-n) (.int .u8 0)) s fz):=by
  refine⟨grownCap w n 0 s,Lib.bytesWorld w s (bytesOf c),grownCap_ge w _ _ _,?_,Lib.bytesWorld_size _ _ _,λt Z=>Lib.bytesWorld_at_old _ _ _ t Z,rfl,rfl,rfl,_,Lib.bytesWorld_at_new _ _ _⟩;simp only[execOp,ap,Sem.run_bind,M,Lib.run_convert_string_bytes w D z s (bytesOf c) U R S,Result.andThen_ok,Sem.run_pure];rfl
 obtain⟨q,j,bu,B,bz,aN,av,aA,aE,fz,O⟩:=B;obtain⟨bl,V⟩:=x.grow (hp':=j.heap) dq aN;have G:n=c.length:=jG c;refine⟨_,j,μ,.inl B,?_,bl,⟨V,av,aA,aE⟩,xE.refl _ _⟩;cases c with
 |nil=>
  have b:some T.fR=some m:=b;simp at b;subst b;rw[G];exact .fR _ _
 |cons i c=>
  have b:(dM (fD (λg=>some (T.int .u8 (.ofNat g))) (i::c)) λA=>some (T.dF A false))=some m:=b;rw[x8]at b;simp only[dR,ar]at b;subst b;have an:¬mR μ w.heap.size:=by
   rintro(⟨g,L,Q,hl⟩|hr)
   ·have:=x.lt Q;omega
   ·have:=x.pW _ hr;omega
  have al:n=(c.map λg=>T.int .u8 (.ofNat g)).length+1:=by rw[G];simp
  rw[al];refine .dF (T.int .u8 (.ofNat i)) (c.map λg=>T.int .u8 (.ofNat g)) false w.heap.size 0 q 1 _ s fz an O dq dt ?_ ?_ ?_ ?_
  ·intro m b;rw[<-aR (f:=λg=>T.int .u8 (.ofNat g))]at b;obtain⟨g,_,rfl⟩:=List.mem_map.1 b;rfl
  ·rw[<-aR (f:=λg=>T.int .u8 (.ofNat g)),qD];simp[bytesOf]
  ·rw[<-aR (f:=λg=>T.int .u8 (.ofNat g)),qD];intro m b;obtain⟨g,_,rfl⟩:=List.mem_map.1 b;exact⟨rfl,.int _ _⟩
  ·rw[<-aR (f:=λg=>T.int .u8 (.ofNat g)),qD];intro l m b;rw[aQ]at b;cases k:(i::c)[l]? with
   |none=>rw[k]at b;simp at b
   |some v=>
    rw[k]at b;simp at b;subst b;have aX:v<256:=N v (ax k);have ae:l<(i::c).length:=by
     rcases aD l (i::c).length with y|y
     ·exact y
     ·rw[aK y]at k;simp at k
    have X:((bytesOf (i::c)).data.map (λi=>Value.int .u8 i.toNat)++Array.replicate (q-n) (.int .u8 0))[0+l]? =some (.int .u8 (v:Int)):=by
     rw[Nat.zero_add,Array.getElem?_append_left (by simp[bytesOf];simpa using ae),Array.getElem?_map];have:(bytesOf (i::c)).data[l]? =some (UInt8.ofNat v):=by
      simp only[bytesOf,List.getElem?_toArray,aQ,k,cJ]
     rw[this];simp[jq aX]
    rw[aV,X];exact .int _ _
def ED{x:ah}(A:St cx base w.heap μ h)(r:j7 w.heap μ mask e a.tmps)(U:o.op= .next x true){t:T}
 (b:zl x cx mask e h=some (.val t h')):iZ cx base w μ h.size ((execOp a.eval o).run P w) t h':=by
 unfold zl at b;replace b:=dD.1 b;obtain⟨p,hp,b⟩:=b;have bn:=fX A r hp;have aE:∃v,p= .iter v:=by cases p<;>first|exact⟨_,rfl⟩|(simp at b)
 obtain⟨v,rfl⟩:=aE;replace b:=dD.1 b;obtain⟨l,al,b⟩:=b;replace b:=dL.1 b;obtain⟨a6,b⟩:=b;obtain⟨n,bC,M,D,Z⟩:=bn.OG;obtain⟨y,G,C⟩:=A.box v n D;rw[al]at G;simp at G;subst G;obtain⟨R,a8⟩:=C.iter a6;rcases a8 with⟨f,d,aA,O,N⟩|⟨bN,b8,b9,bB⟩|⟨ca,m,d,ce,bH,V,W,bS,bT⟩;rotate_left;rotate_left
 ·exfalso;rw[V]at b;simp at b
 rotate_left
 ·exfalso;cases hE:l.em with
  |nil=>rw[hE]at b;simp at b
  |cons z cp=>
   obtain⟨k,u,cb,rfl,_⟩:=bB 0 z (by simp[hE]);rw[hE]at b;simp at b
 have X:n.ep=0:=by rw[<-C.ep];exact R
 have ae:=Z X;subst ae;rw[aA]at b;have S:(getObj n.iI).run P w= .ok (.stringIter (bytesOf f) d) w:=by simp[getObj,Sem.run,N]
 have b:(@Bool.rec (λ_=>aa lh) (some (.val (.tuple [.bool false]) h)) (dM (x7 f d) λK=>two K λc wd=>dM (gh (Nat.add d wd)) λJ=>dM (gh (Nat.succ l.ver)) λL=>
  dM (h.put v ⟨l.sz,l.ep,L,l.exact,true,[.str f,.int .i64 (.ofNat J)]⟩) λh'=>
   some (.val (.tuple [.bool true,.int .i64 (.ofNat d),.int .i32 (.ofNat c)]) h')) (Nat.blt d (kC f)))=some (.val t h'):=b
 rw[jt]at b;cases s:Nat.blt d f.length with
 |false=>
  rw[s]at b;have b:some (lh.val (.tuple [.bool false]) h)=some (.val t h'):=b;simp at b;obtain⟨rfl,rfl⟩:=b;have aX:¬d<f.length:=by rw[<-aG];simp[s]
  refine iZ.pure (c:= .tuple #[.bool false]) A ?_ (.tuple _ _ rfl λk t g=> ?_)
  ·simp[execOp,U,Instr.next,M,S,jG,aX]
  ·cases k with
   |zero=>simp at g;subst g;exact .bool _
   |succ k=>simp at g
 |true=>
  rw[s]at b;have F:d<f.length:=by rw[aG]at s;exact s
  have b:(dM (x7 f d) λK=>two K λc wd=>dM (gh (Nat.add d wd)) λJ=>dM (gh (Nat.succ l.ver)) λL=>
   dM (h.put v ⟨l.sz,l.ep,L,l.exact,true,[.str f,.int .i64 (.ofNat J)]⟩) λh'=>
    some (lh.val (.tuple [.bool true,.int .i64 (.ofNat d),.int .i32 (.ofNat c)]) h'))=some (.val t h'):=b
  replace b:=dD.1 b;obtain⟨⟨c,wd⟩,Q,b⟩:=b;simp only[kf,iw,dR]at b;replace b:=dD.1 b;obtain⟨W,bi,b⟩:=b;simp only[ar,lh.val.injEq]at b;obtain⟨rfl,rfl⟩:=b;unfold x7 at Q;obtain⟨q,B,j⟩:=dD.1 Q;rw[ks]at B;have av:Utf8.decode (bytesOf f) d=(c,wd):=by
   cases E:Nat.blt q 128 with
   |false=>
    rw[E]at j;have s:q<256:=O q (ax B);have an:Nat.blt q 256=true:=by rw[aG];exact s
    rw[an]at j;have j:some (Utf8.decode (bytesOf f) d)=some (c,wd):=j;simpa using j
   |true=>
    rw[E]at j;have j:some (q,1)=some (c,wd):=j;simp only[ar,ay]at j;obtain⟨rfl,rfl⟩:=j;rw[aG]at E;have ap:q<256:=dq;have aN:(bytesOf f).get! d=UInt8.ofNat q:=by
     have bk:d<(bytesOf f).size:=by rw[jG];exact F
     show(bytesOf f).data[d]! =_;rw[getElem!_pos (bytesOf f).data d bk];simp only[bytesOf,List.getElem_toArray,List.getElem_map];have:f[d]=q:=by rw[az F]at B;simpa using B
     rw[this]
    unfold Utf8.decode;simp only[Nat.add_zero,aN,jq ap];rw[aq dq]
  have bl:∀I:Obj,(setObj n.iI I).run P w= .ok () {w with heap:=w.heap.setIfInBounds n.iI I}:=by
   intro I;simp[setObj,Sem.run,N]
  have Y:=A.lt D;obtain⟨bs,bu,bz⟩:=A.change (L':=n) (hp':=w.heap.setIfInBounds n.iI (.stringIter (bytesOf f) (d+wd))) D bi dt (by
   intro i b7 a7;rw[Array.getElem?_setIfInBounds_ne (bg a7)]) (.inl rfl) (by
   intro b6;refine⟨C.ep,C.sz,λk=>by simp at k,λ_=>⟨R,.inl ⟨f,d+wd,rfl,O,by simp[Y]⟩⟩⟩)
  refine⟨.tuple #[.bool true,.int .i64 d,.int .i32 c],{w with heap:=w.heap.setIfInBounds n.iI (.stringIter (bytesOf f) (d+wd))},_,.inl ?_,.tuple _ _ rfl λk t g=> ?_,bs,⟨bu,rfl,rfl,rfl⟩,bz⟩
  ·simp[execOp,U,Instr.next,M,S,jG,F,av,bl,goInt]
  ·match k,g with
   |0,g=>simp at g;subst g;exact .bool _
   |1,g=>simp at g;subst g;exact .int _ _
   |2,g=>simp at g;subst g;exact .int _ _
   |k+3,g=>simp at g
def Jo(iG:iP P cx)(g:St cx base w.heap μ h){l:af ab}{y:ab}{k q:T}{m:am}(i:fg w.heap μ k m)(b:L8 cx h l.toList k=some (.val q h')):
 pY cx base w μ h.size ((Builtin.len_ l y #[m]).run P w) q h':=by
 replace b:=dD.1 b;obtain⟨v,ht,b⟩:=b;replace b:=dD.1 b;obtain⟨x,s,b⟩:=b;obtain⟨A,f,j⟩:=kq (iG.ty _ _ s);have ht:l[0]? =some v:=by rw[ks]at ht;simpa using ht
 cases t:x.u<;>rw[t]at b j<;>simp only[reduceCtorEq]at b
 ·have:=rI j;subst this;cases k<;>simp at b;obtain⟨c,rfl⟩:=fK.1 b;simp at c;subst c;obtain⟨d,_⟩:=i.ll;exact pY.pure g (by simp[Builtin.len_,ht,run_underlying f,d,jG,goInt]) (.int _ _)
 ·have:=lq j;subst this;cases k<;>simp at b
  ·obtain⟨c,rfl⟩:=fK.1 b;simp at c;subst c;rename_i n B;cases n with
   |nil=>obtain⟨r,d⟩:=i.tK;exact pY.pure g (by simp[Builtin.len_,ht,run_underlying f,d,goInt]) (.int _ _)
   |cons C n=>obtain⟨_,_,_,_,_,_,_,d,_⟩:=i.tL;exact pY.pure g (by simp[Builtin.len_,ht,run_underlying f,d,goInt]) (.int _ _)
  ·obtain⟨c,rfl⟩:=fK.1 b;simp at c;subst c;obtain⟨r,z,d⟩:=i.zj;exact pY.pure g (by simp[Builtin.len_,ht,run_underlying f,d,goInt]) (.int _ _)
  ·obtain⟨c,rfl⟩:=fK.1 b;simp at c;subst c;obtain⟨_,_,_,d,_⟩:=i.rV;exact pY.pure g (by simp[Builtin.len_,ht,run_underlying f,d,goInt]) (.int _ _)
 ·have:=qv j;subst this;obtain⟨c,rfl⟩:=fK.1 b;simp at c;subst c;exact pY.pure g (by simp[Builtin.len_,ht,run_underlying f,goInt]) (.int _ _)
def C9(iG:iP P cx)(u:St cx base w.heap μ h)(r:j7 w.heap μ mask e a.tmps){c:Call}{F:Builtin}(al:o.op= .call c)(Z:c.callee= .builtin F){n:List T}(Y:pq cx mask e c.args.toList=some n){v:T}
 (b:kR F cx h c.argTypes.toList n=some (.val v h')):iZ cx base w μ h.size ((execOp a.eval o).run P w) v h':=by
 have d:=uW u r Y;have N:∀{m:Sem am},(execOp a.eval o).run P w=((m.run P w).andThen λv O=> .ok (Next.value v) O)->pY cx base w μ h.size (m.run P w) v h'->iZ cx base w μ h.size ((execOp a.eval o).run P w) v h':=by
  intro m hr ae;obtain⟨z,O,an,S,U,V,W,X⟩:=ae;exact⟨z,O,an,.inl (by rw[hr,S];rfl),U,V,W,X⟩
 have A:(execOp a.eval o).run P w=(builtin F c.argTypes o.type (c.args.map λ| .const _=>true|_=>false) (c.args.map a.eval)).run P w:=by
  simp[execOp,al,resolve,Z,invoke];rfl
 have y:(c.args.map a.eval).toList=c.args.toList.map a.eval:=dt;cases F<;>simp only[kR,reduceCtorEq]at b
 case len=>
  match n,b,d with
  | [I],b,d=>
   obtain⟨g,t,f,l,k⟩:=d.lJ;have j:t=[]:=aY (by have:=k.1;simpa using this.symm);subst j;have i:c.args.map a.eval= #[g]:=by apply cq;rw[y,f]
   refine N (m:=Builtin.len_ c.argTypes o.type #[g]) ?_ (Jo iG u l b);rw[A,i];simp[builtin]
 case append=>
  match n,b,d with
  | [I,R],b,d=>
   match L:c.argTypes.toList,b with
   | [E,Q],b=>
    obtain⟨g,t,f,l,k⟩:=d.lJ;obtain⟨G,x,rfl,C,B⟩:=k.lJ;have j:x=[]:=aY (by have:=B.1;simpa using this.symm);subst j;have i:c.args.map a.eval= #[g,G]:=by apply cq;rw[y,f]
    have K:c.argTypes= #[E,Q]:=by apply cq;rw[L]
    refine N (m:=Builtin.append_ #[E,Q] o.type #[g,G]) ?_ (wN iG u l C b);rw[A,i,K];simp[builtin]
 case clear=>
  match n,b,d with
  | [I],b,d=>
   match L:c.argTypes.toList,b with
   | [E],b=>
    obtain⟨g,t,f,l,k⟩:=d.lJ;have j:t=[]:=aY (by have:=k.1;simpa using this.symm);subst j;have i:c.args.map a.eval= #[g]:=by apply cq;rw[y,f]
    have K:c.argTypes= #[E]:=by apply cq;rw[L]
    refine N (m:=Builtin.clear_ #[E] o.type #[g]) ?_ (Ft iG u l b);rw[A,i,K];simp[builtin]
 case min=>
  match n,b,d with
  | [I,R],b,d=>
   obtain⟨M,rfl⟩:=fK.1 b;obtain⟨D,m,s,rfl,rfl,q⟩:=um M;obtain⟨g,t,f,l,k⟩:=d.lJ;obtain⟨G,x,rfl,C,B⟩:=k.lJ;have j:x=[]:=aY (by have:=B.1;simpa using this.symm);subst j;rw[l.jH,C.jH]at f;have i:c.args.map a.eval= #[.int D m,.int D s]:=by apply cq;rw[y,f]
   rw[nY]at q;simp only[ar]at q;subst q;refine iZ.pure u ?_ (.int _ _);rw[A,i];simp only[builtin,Builtin.min_,List.foldlM,Builtin.min2,Sem.run_bind,Sem.run_pure,Result.andThen_ok];have:=xh s m;by_cases J:s<m<;>simp[this,J]
 case max=>
  match n,b,d with
  | [I,R],b,d=>
   obtain⟨M,rfl⟩:=fK.1 b;obtain⟨D,m,s,rfl,rfl,q⟩:=um M;obtain⟨g,t,f,l,k⟩:=d.lJ;obtain⟨G,x,rfl,C,B⟩:=k.lJ;have j:x=[]:=aY (by have:=B.1;simpa using this.symm);subst j;rw[l.jH,C.jH]at f;have i:c.args.map a.eval= #[.int D m,.int D s]:=by apply cq;rw[y,f]
   rw[nY]at q;simp only[ar]at q;subst q;refine iZ.pure u ?_ (.int _ _);rw[A,i];have:=xh m s;by_cases J:m<s<;>simp[builtin,Builtin.max_,Builtin.max2,this,J]
end
end
end Go.TI
