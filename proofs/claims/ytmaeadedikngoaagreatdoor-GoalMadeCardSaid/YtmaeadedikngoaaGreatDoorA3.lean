/- Texts TiAppend2 to TiOps. -/
import Derived.Test.YtmaeadedikngoaaGreatDoorA2
import Derived.Laws.AppendOwn
import Derived.Lib.ConvBytes
set_option linter.unusedVariables false
set_option linter.unusedSimpArgs false
namespace Go.TI
noncomputable section
section
variable {P:ai}{cx:Ctx}{base:Nat}{w:World}{μ:Mu}{h h':H}{mask:Nat}{e:Env}{a:Act}{o:Oper}{hp hp':af Obj}
structure QZ(P:ai)(w:World)(μ:Mu)(sz:Nat)(tx:ab)(x:am)(xs:List T)(news:List am):Prop where
 src:Src P sz tx x xs.length news w
 rel:fI w.heap μ (d6 xs) news
 Hk:∀v∈xs,v.cells.length=sz
 scalar:∀v∈d6 xs,v.scalar=true
structure QX(P:ai)(w:World)(μ:Mu)(sz:Nat)(c:am)(es:List T)(olds:List am):Prop where
 first:(Builtin.firstCells sz es.length c).run P w.drew= .ok olds.toArray w.drew
 rel:fI w.heap μ (d6 es) olds
 Hk:∀v∈es,v.cells.length=sz
 scalar:∀v∈d6 es,v.scalar=true
theorem qn(c:af am)(b:Nat):(Builtin.zeroCells c b).size=b*c.size:=by simp[Builtin.zeroCells]
theorem t8{f g:List T}{c:T->Prop}(i:∀b∈d6 f,c b)(j:∀b∈d6 g,c b):∀b∈d6 (f++g),c b:=by
 intro b d
 rw[mp]at d
 rcases List.mem_append.1 d with k|k
 ·exact i b k
 ·exact j b k
theorem Bp{g f:List am}{i:af am}{b c d:Nat}(j:g.length+f.length=c*d)(k:i.size=d)(l:c<=b):
 ((g++f).toArray++Builtin.zeroCells i (b-c)).size=b*d:=by
 simp only[Array.size_append,List.size_toArray,aP,qn,j,k]
 rw[<-bY]
 congr 1;omega
theorem E3(iB:iG P cx){n p ty' i:ab}{d:Ty}(A:P.underlying n=some (.slice i))(C:cx.ty i=some d){j:aa Addr}{g:Nat}{b c:List T}{m l:List am}{q:am}
 (G:QX P w μ d.size (.slice j b.length g) b m) (F:QZ P w μ d.size p q c l) (t:g<b.length+c.length) (N:1<=d.bytes) (B:(b.length+c.length)*d.bytes<=70368744177664):
 ∃(f:am) (k:Nat),b.length+c.length<=k/\f.cells.size=d.size/\(Builtin.append_ #[n,p] ty' #[.slice j b.length g,q]).run P w=
  .ok (.slice (some ⟨w.heap.size,0,none⟩) (b.length+c.length) k) {w with drawn:=w.drawn+1,heap:=w.heap.push (.cells ((m++l).toArray++Builtin.zeroCells f.cells (k-(b.length+c.length))) i)}:=by
 obtain⟨E,I,f,u,J,v,x,K,L,M,y,z,_⟩:=(iB.ty _ _ C).unfold
 have D:f.cells.size=d.size:=by
  have:=(fI.rn (hp:= #[]) (μ:=⟨λ_=>none,λ_=>False⟩) x).1.1
  simp at this;omega
 have O:b.length+c.length<=70368744177664:=aS (Nat.le_mul_of_pos_right _ (by omega)) B
 have r:=G.first
 have s:=F.src
 rw[<-y]at r s
 have:=run_append_grow_src w n p ty' i E f A u v j b.length g m r q c.length l s t (by omega) (by rw[z];exact growslice_fits t (by omega))
 exact⟨f,_,grownCap_ge w _ _ _,D,this⟩
theorem zL(iB:iG P cx)(N:St cx base w.heap μ h){x y ty' n:ab}{d:Ty}(B:P.underlying x=some (.slice n))(F:cx.ty n=some d){ad:aa Addr}{cap:Nat}{es c:List T}{t s:List am}{z:am}
 (i:QX P w μ d.size (.slice ad es.length cap) es t) (g:QZ P w μ d.size y z c s) (C:cap<es.length+c.length) {f:T} (b:h.iA d.size d.bytes es c=some (f,h')):
 ∃u m j,(Builtin.append_ #[x,y] ty' #[.slice ad es.length cap,z]).run P w= .ok u m/\eg m.heap j f u/\St cx base m.heap j h'/\oI w μ m j/\wZ μ j h.size h'.size:=by
 unfold H.iA at b
 simp only[oO,dD,gD,iX]at b
 replace b:=dz.1 b;obtain⟨p,b⟩:=b
 replace b:=dz.1 b;obtain⟨l,b⟩:=b
 replace b:=dz.1 b;obtain⟨_,b⟩:=b
 replace b:=dz.1 b;obtain⟨_,b⟩:=b
 rw[H.j4]at b
 simp only[ar,ax]at b
 obtain⟨rfl,rfl⟩:=b
 have p:=bA p
 have l:(es++c).length*d.bytes<=70368744177664:=bA l
 rw[aP]at l
 obtain⟨Q,r,q,I,E⟩:=E3 iB B F (ty':=ty') i g C p l
 have v:∀f∈es++c,f.cells.length=d.size:=by
  intro f G
  rcases List.mem_append.1 G with k|k
  ·exact i.Hk f k
  ·exact g.Hk f k
 have D:t.length+s.length=(es.length+c.length)*d.size:=by
  rw[<-i.rel.1,<-g.rel.1,fM i.Hk,fM g.Hk,bY]
 have A:fI w.heap μ (d6 (es++c)) (((t++s).toArray++Builtin.zeroCells Q.cells (r-(es.length+c.length))).toList.take (d6 (es++c)).length):=by
  rw[fM v,aP,Array.toList_append,cY,cQ (by simp;omega),bJ (by simp;omega),mp]
  exact i.rel.append g.rel
 have O:St cx base ({w with drawn:=w.drawn+1}:World).heap μ h:=N
 obtain⟨j,J,K,L,M⟩:=vh O n (cap:=r) (sz:=d.size) (ex:=false) (es:=es++c) (Bp D I q) (by simpa using q) (by simp) v (t8 i.scalar g.scalar) A
 rw[aP]
 exact⟨_,_,j,E,.arr _ 0 0 _ false _ _ r M (au _) q (λ_=>⟨by simp,by simp,by simp⟩),J,⟨K.ext,rfl,rfl,rfl⟩,L⟩
theorem LV(iB:iG P cx){n q ty' l:ab}{c:Ty}(v:P.underlying n=some (.slice l))(z:cx.ty l=some c){d b j k:Nat}{g:List am}{r:am}
 (i:Src P c.size q r k g w) (x:b+k<=j) {f:af am} {p:ab} (y:w.heap[d]? =some (.cells f p (0,0))) (K:b*c.size+g.length<=f.size):
 (Builtin.append_ #[n,q] ty' #[.slice (some ⟨d,0,none⟩) b j,r]).run P w= .ok (.slice (some ⟨d,0,none⟩) (b+k) j) (w.setRow d (f.toList.take (b*c.size)++g++f.toList.drop (b*c.size+g.length)).toArray):=by
 obtain⟨L,A,M,s,C,D,E,F,G,I,t,J,_⟩:=(iB.ty _ _ z).unfold
 have m:=run_storeCells_at (P:=P) d (b*c.size) p g 0 f w y (by omega) i.one
 simp only[Nat.add_zero]at m
 have u:(⟨d,0,none⟩:Addr).add (b*c.size)=⟨d,b*c.size,none⟩:=by rw[kd];simp
 rcases i.kind with⟨B,hk⟩|hk<;>simp[Builtin.append_,run_underlying v,run_underlying hk,sizeOf,typeInfo,s,t,i.len,x,i.cells,u,m]
theorem LW(iB:iG P cx){i k ty' g:ab}{j:Ty}(p:P.underlying i=some (.slice g))(r:cx.ty g=some j){b:aa Addr}{f c:Nat}{l:am}(d:Src P j.size k l 0 [] w)(q:f<=c):
 (Builtin.append_ #[i,k] ty' #[.slice b f c,l]).run P w= .ok (.slice b f c) w:=by
 obtain⟨C,s,D,m,u,v,x,y,z,A,n,B,_⟩:=(iB.ty _ _ r).unfold
 rcases d.kind with⟨t,hk⟩|hk<;>cases b<;>simp[Builtin.append_,run_underlying p,run_underlying hk,sizeOf,typeInfo,m,n,d.len,q,d.cells,storeCells]
theorem BW(iB:iG P cx)(s:St cx base w.heap μ h){t ca ty' M:ab}{d:Ty}(bu:P.underlying t=some (.slice M))(b8:cx.ty M=some d){D X b:Nat}{f:List T}{m:List am}{E x:am}
 (ea:eg w.heap μ (.arr D X 0 b false) E) (v:QZ P w μ d.size ca x f m) (ds:f≠ []) {l:T} (c:h.lH d.size d.bytes D X b f=some (l,h')):
 ∃a7 V I,(Builtin.append_ #[t,ca] ty' #[E,x]).run P w= .ok a7 V/\eg V.heap I l a7/\St cx base V.heap I h'/\oI w μ V I/\wZ μ I h.size h'.size:=by
 unfold H.lH at c
 replace c:=dj.1 c;obtain⟨ce,bs,c⟩:=c
 obtain⟨a6,ep',cb,er,b9,g⟩:=ce
 have c:(dB (takeN b g) λJ=>dB (Cv J f) λbk=>dB (fF (kc bk)) λn=>fy (Nat.ble 1 d.bytes)<|fy (Nat.beq ep' X) (fy (Nat.beq a6 d.size) (fy (Nat.ble (Nat.mul n d.bytes) 70368744177664) (fy (fits d.size f) (@Bool.rec (λ_=>aa (T×H))
  (dB (fF (Nat.succ ep')) λbi=>dB (fF (Nat.succ cb)) λeo=>dB (h.put D ⟨a6,bi,eo,false,false,bk⟩) λh'=>some (.arr D bi 0 n false,h')) none b9)))))=some (l,h'):=c
 replace c:=dj.1 c;obtain⟨J,K,c⟩:=c
 simp only[oO,dD,gD,iX]at c
 replace c:=dz.1 c;obtain⟨ae,c⟩:=c
 replace c:=dz.1 c;obtain⟨bv,c⟩:=c
 replace c:=dz.1 c;obtain⟨b7,c⟩:=c
 replace c:=dz.1 c;obtain⟨R,c⟩:=c
 replace c:=dz.1 c;obtain⟨_,c⟩:=c
 cases b9 with
 |true=>simp at c
 |false=>
  have c:(dB (h.put D ⟨a6,ep'+1,cb+1,false,false,J++f⟩) λh'=>some (T.arr D (ep'+1) 0 (J++f).length false,h'))=some (l,h'):=c
  replace c:=dj.1 c;obtain⟨et,bB,c⟩:=c
  simp only[ar,ax]at c
  obtain⟨rfl,rfl⟩:=c
  have ae:=bA ae
  have bv:=aC bv
  have b7:=aC b7
  have R:(J++f).length*d.bytes<=70368744177664:=bA R
  rw[aP]at R
  rw[mS]at K
  split at K
  ·rename_i dk
   simp at K;subst K
   obtain⟨A,W,r,rfl,Z,ey,eu,c9⟩:=ea.rD
   obtain⟨E,cL,cX⟩:=s.AG Z bs rfl
   simp only[]at cL cX
   obtain⟨_,cp,a8⟩:=c9 (by omega)
   have c6:r=A.cap:=by have:=cp rfl;omega
   obtain⟨q,eC,av,b6,bn⟩:=E.row
   have L:=E.size
   simp only[]at L bn
   have C:A.sz=d.size:=by omega
   have p:(g.take b).length=b:=by simp;omega
   have aA:∀l∈g.take b,l.cells.length=d.size:=λl F=>by rw[<-C];exact L l (bG F)
   have bT:∀l∈d6 (g.take b),l.scalar=true:=by
    intro l F;rw[<-ql L]at F;exact E.scalar l (bG F)
   have S:∀l∈g.take b++f,l.cells.length=A.sz:=by
    intro l F
    rw[C]
    rcases List.mem_append.1 F with k|k
    ·exact aA l k
    ·exact v.Hk l k
   have bX:=t8 bT v.scalar
   have de:=fM L
   have bz:m.length=f.length*d.size:=by rw[<-v.rel.1,fM v.Hk]
   have N:fI w.heap μ (d6 (g.take b)) (q.toList.take (b*A.sz)):=by
    have:=bn.take (b*A.sz)
    rw[ql L,List.take_take,cr (by rw[de];exact aV _ dk)]at this
    exact this
   have eB:0<f.length:=List.length_pos_iff.2 ds
   by_cases bN:b+f.length<=r
   ·
    have c7:r≠0:=by omega
    have bp:=a8 c7
    simp only[Nat.zero_mul]at bp
    subst bp
    have c4:b*d.size+m.length<=q.size:=by
     rw[b6,bz,C,<-bY]
     exact aV _ (by omega)
    have Q:=LV (ty':=ty') iB bu b8 v.src bN av c4
    have al:(d6 (g.take b++f)).length=b*d.size+m.length:=by
     rw[fM S,aP,p,bz,C,bY]
    have Y:fI w.heap μ (d6 (g.take b++f)) ((q.toList.take (b*d.size)++m++q.toList.drop (b*d.size+m.length)).toArray.toList.take (d6 (g.take b++f)).length):=by
     have ht:(q.toList.take (b*d.size)++m).take (b*d.size+m.length)=q.toList.take (b*d.size)++m:=bJ (by simp;omega)
     rw[al,cY,cQ (by simp;omega),ht,mp]
     rw[C]at N
     exact N.append v.rel
    obtain⟨I,aE,aN,aX,ef⟩:=xY s Z bs rfl av (ep':=ep'+1) (.inr (by omega)) bB (arr':=(q.toList.take (b*d.size)++m++q.toList.drop (b*d.size+m.length)).toArray)
     (by simp only[List.size_toArray,aP,List.length_take,List.length_drop,bZ];rw[<-b6];omega) (by simp[p];omega) (by simp) S bX Y
    refine⟨_,_,I,Q,?_,aE,aN,aX⟩
    have an:(g.take b++f).length=b+f.length:=by rw[aP,p]
    rw[an]
    exact .arr _ _ 0 _ false _ _ r ef (au _) bN (λ_=>⟨by simp,by simp[c6],by simp⟩)
   ·
    have G:∃B,QX P w μ d.size (.slice W b r) (g.take b) B:=by
     refine⟨q.toList.take (b*A.sz),?_,N,aA,bT⟩
     rw[p]
     have dn:(q.toList.take (b*A.sz)).length=b*d.size:=by rw[<-N.1,fM aA,p]
     by_cases c1:r=0
     ·have di:b=0:=by omega
      subst di
      simp only[Nat.zero_mul,List.take_zero]
      cases W with
      |none=>exact run_firstCells_none w.drew d.size 0 0 r
      |some y=>exact run_firstCells_some w.drew d.size 0 y 0 r [] (by simp) (by simp)
     ·rw[a8 c1]
      refine run_firstCells_some w.drew d.size b _ b r _ dn (λj u O=> ?_)
      rw[kd]
      rw[bK]at O
      split at O
      ·show World.cell? w _=_
       simp only[World.cell?,av]
       simpa using O
      ·simp at O
    obtain⟨B,G⟩:=G
    have dv:((g.take b).length+f.length)*d.bytes<=70368744177664:=by rw[<-p]at*;exact R
    have eh:QX P w μ d.size (.slice W (g.take b).length r) (g.take b) B:=by rw[p];exact G
    obtain⟨z,U,ap,eb,Q⟩:=E3 iB bu b8 (ty':=ty') eh v (by rw[p];omega) ae dv
    rw[p]at Q ap
    have dm:B.length+m.length=(b+f.length)*d.size:=by
     rw[<-G.rel.1,<-v.rel.1,fM G.Hk,fM v.Hk,p,bY]
    have al:(d6 (g.take b++f)).length=(b+f.length)*d.size:=by
     rw[fM S,aP,p,C]
    have Y:fI w.heap μ (d6 (g.take b++f)) (((B++m).toArray++Builtin.zeroCells z.cells (U-(b+f.length))).toList.take (d6 (g.take b++f)).length):=by
     have ht:(B++m).take ((b+f.length)*d.size)=B++m:=bJ (by simp;omega)
     rw[al,Array.toList_append,cY,cQ (by simp;omega),ht,mp]
     exact G.rel.append v.rel
    have an:(g.take b++f).length=b+f.length:=by rw[aP,p]
    obtain⟨aE,aN,aX⟩:=s.change (L':=⟨ep'+1,w.heap.size,U,A.sz⟩) (hp':=w.heap.push (.cells ((B++m).toArray++Builtin.zeroCells z.cells (U-(b+f.length))) M)) Z bB (by simp)
     (by intro i eA _;rw[Array.getElem?_push];simp;omega) (.inr ⟨by simp;omega,.inr (au _)⟩) (by
     intro dd
     refine⟨rfl,by simp;omega,λ_=>⟨⟨_,M,by simp,?_,Y.ext dd⟩,by simp[p];omega,by simp,S,bX⟩,λk=>by simp at k⟩
     rw[Bp dm eb ap,C])
    refine⟨_,_,_,Q,?_,aE,⟨aN,rfl,rfl,rfl⟩,aX⟩
    rw[an]
    exact .arr _ _ 0 _ false _ _ U (iW _ _ _) (au _) ap (λ_=>⟨by simp,by simp,by simp⟩)
  ·simp at K
end
end
noncomputable section
section
variable {P:ai}{cx:Ctx}{base:Nat}{w:World}{μ:Mu}{h h':H}{mask:Nat}{e:Env}{a:Act}{o:Oper}{hp hp':af Obj}{p:T}
def pP(cx:Ctx)(base:Nat)(w:World)(μ:Mu)(f:Nat)(g:Result am)(i:T)(h':H):Prop:=
 ∃d b c,g= .ok d b/\eg b.heap c i d/\St cx base b.heap c h'/\oI w μ b c/\wZ μ c f h'.size
theorem pP.pure{b:Result am}{d:T}{c:am}(g:St cx base w.heap μ h)(hr:b= .ok c w)(f:eg w.heap μ d c):pP cx base w μ h.size b d h:=
 ⟨c,w,μ,hr,f,g,oI.refl _ _,wZ.refl _ _⟩
theorem tQ(iB:iG P cx){f:ab}{g:Ty}(b:oF cx f=some g):∃c,P.underlying f=some (.slice c)/\cx.ty c=some g:=by
 obtain⟨l,j,b⟩:=dj.1 b
 obtain⟨m,i,d⟩:=ky (iB.ty _ _ j)
 cases k:l.u<;>rw[k]at b d<;>simp at b
 have:=kS d;subst this
 exact⟨_,i,b⟩
theorem xq(b:List Nat):eK (λc=>some (T.int .u8 (.ofNat c))) b=some (b.map λc=>T.int .u8 (.ofNat c)):=by
 induction b with
 |nil=>rfl
 |cons f b d=>rw[jc,d];rfl
theorem qm(b:List Nat):d6 (b.map λc=>T.int .u8 (.ofNat c))=b.map λc=>T.int .u8 (.ofNat c):=by
 induction b with
 |nil=>rfl
 |cons f b d=>rw[aU,kY,d];rfl
theorem HX(iB:iG P cx)(O:St cx base w.heap μ h){C:ab}{n:T}{f:am}{j:List T}{i:Nat}(z:eg w.heap μ n f)(c:mf cx h C n=some j)(k:fits i j=true):
 ∃s,QZ P w μ i C f j s:=by
 obtain⟨Q,L,c⟩:=dj.1 c
 obtain⟨R,q,r⟩:=ky (iB.ty _ _ L)
 cases M:Q.u<;>rw[M]at c r<;>simp at c
 ·have:=rh r;subst this
  have G:∃d,n= .str d:=by cases n<;>first|exact⟨_,rfl⟩|(simp at c)
  obtain⟨d,rfl⟩:=G
  have c:eK (λf=>some (T.int .u8 (.ofNat f))) d=some j:=c
  rw[xq]at c
  simp only[ar]at c;subst c
  obtain⟨rfl,F⟩:=z.kR
  cases d with
  |nil=>
   have A:bytesOf []=ByteArray.empty:=rfl
   refine⟨[],⟨⟨.inr q,λV=>by simp[Builtin.lenOf];rfl,?_,?_,by simp,by simp⟩,fI.nil,by simp,by simp[d6]⟩⟩
   ·simp[Builtin.firstCells,A]
   ·simp[Builtin.firstCells,A]
  |cons g d=>
   have K:i=1:=by
    have k:Nat.beq 1 i=true:=k
    exact(aC k).symm
   subst K
   have x:=Src.ofString w q (bytesOf (g::d))
   have v:(bytesOf (g::d)).size=((g::d).map λf=>T.int .u8 (.ofNat f)).length:=by rw[jp];simp
   rw[v]at x
   refine⟨_,x,?_,by intro D b;simp only[List.mem_map]at b;obtain⟨_,_,rfl⟩:=b;rfl,by rw[qm];intro D b;simp only[List.mem_map]at b;obtain⟨_,_,rfl⟩:=b;rfl⟩
   rw[qm]
   refine⟨by rw[byteCells_length,v],λB D b=> ?_⟩
   rw[aT]at b
   cases l:(g::d)[B]? with
   |none=>rw[l]at b;simp at b
   |some t=>
    rw[l]at b;simp at b;subst b
    have I:t<256:=F t (az l)
    have:(byteCells (bytesOf (g::d)))[B]? =some (.int .u8 (t:Int)):=by
     simp only[byteCells,bytesOf,aT,cY,l,cI,jb I]
    rw[List.getD,this]
    exact .int _ _
 ·rename_i S
  have:=kS r;subst this
  obtain⟨U,m⟩:=nj (P:=P) O z c
  have y:=Jx k m.Hk
  have N:zp P w μ f j i:=⟨y,m.scalar,m.form⟩
  obtain⟨s,J,E⟩:=N.src q
  exact⟨s,J,E,y,m.scalar⟩
theorem Cy(g:nS p=true){b:am}(hp:eg w.heap μ p b):∃f d c,b= .slice f d c/\d<=c:=by
 cases hp<;>simp[nS]at g
 ·exact⟨_,_,_,rfl,au _⟩
 ·exact⟨_,_,_,rfl,by assumption⟩
 ·exact⟨_,_,_,rfl,aw _⟩
 ·exact⟨_,_,_,rfl,by assumption⟩
theorem wh(iB:iG P cx)(j:St cx base w.heap μ h){I J ty':ab}{L k:T}{c B:am}(hp:eg w.heap μ p c)(aA:eg w.heap μ L B)(b:iu cx h I J p L=some (.val k h')):
 pP cx base w μ h.size ((Builtin.append_ #[I,J] ty' #[c,B]).run P w) k h':=by
 replace b:=dj.1 b;obtain⟨f,aN,b⟩:=b
 replace b:=dj.1 b;obtain⟨l,aX,b⟩:=b
 replace b:=dz.1 b;obtain⟨Z,b⟩:=b
 rw[iS]at b
 obtain⟨bs,E,F⟩:=tQ iB aN
 obtain⟨a6,y⟩:=HX (P:=P) iB j aA aX Z
 cases l with
 |nil=>
  have b:fy (nS p) (some (p,h))=some (k,h'):=b
  obtain⟨aE,b⟩:=dz.1 b
  simp only[ar,ax]at b
  obtain⟨rfl,rfl⟩:=b
  have ap:a6=[]:=bh (by have:=y.src.newsLen;simpa using this)
  subst ap
  obtain⟨ad,g,t,rfl,K⟩:=Cy aE hp
  exact pP.pure j (LW (ty':=ty') iB E F y.src K) hp
 |cons s l=>
  have av:s::l≠ []:=by simp
  have bz:0<(s::l).length:=by simp
  have C:∀{es:List T} {v:Nat},zp P w μ c es v->(∀ad g t,c= .slice ad g t->t=g)->h.iA f.size f.bytes es (s::l)=some (k,h')->pP cx base w μ h.size ((Builtin.append_ #[I,J] ty' #[c,B]).run P w) k h':=by
   intro es v d W i
   have al:fits f.size es=true:=by
    unfold H.iA at i
    simp only[oO,dD,gD,iX]at i
    obtain⟨_,i⟩:=dz.1 i
    obtain⟨_,i⟩:=dz.1 i
    exact(dz.1 i).1
   have x:zp P w μ c es f.size:=⟨Jx al d.Hk,d.scalar,d.form⟩
   obtain⟨ad,cap,bN,G,K,_⟩:=x.form
   obtain⟨bT,a7,a8⟩:=x.first
   subst G
   have:=W _ _ _ rfl
   obtain⟨Q,bi,bk,r1,r2,r3,r4,r5⟩:=zL iB j E F (ty':=ty') (ad:=ad) (cap:=cap) ⟨a7,a8,x.Hk,x.scalar⟩ y (by omega) i
   exact⟨Q,bi,bk,r1,r2,r3,r4,r5⟩
  have G:(∃es m,p= .dq es m)\/∃A u o g m,p= .arr A u o g m:=by
   cases p<;>first|(exact .inl ⟨_,_,rfl⟩)|(exact .inr ⟨_,_,_,_,_,rfl⟩)|(simp[H.append]at b)
  rcases G with⟨es,m,rfl⟩|⟨A,u,z,g,m,rfl⟩
  ·cases es with
   |nil=>
    have b:h.iA f.size f.bytes [] (s::l)=some (k,h'):=b
    obtain⟨ad,rfl⟩:=hp.sN
    obtain⟨v,d⟩:=nj (P:=P) (es:=[]) j hp rfl
    exact C d (by intro _ _ _ n;simp at n;omega) b
   |cons M es=>
    have b:fy m (h.iA f.size f.bytes (M::es) (s::l))=some (k,h'):=b
    obtain⟨an,b⟩:=dz.1 b
    obtain⟨v,d⟩:=nj (P:=P) (es:=M::es) j hp rfl
    refine C d ?_ b
    intro ad g t n
    obtain⟨_,_,_,_,_,_,_,D,_,_,_,ae,_⟩:=hp.sO
    rw[D]at n
    simp at n
    have:=ae an
    omega
  ·cases m with
   |true=>
    have b:(dB (h.iy (.arr A u z g true)) λes=>h.iA f.size f.bytes es (s::l))=some (k,h'):=b
    obtain⟨es,q,b⟩:=dj.1 b
    obtain⟨v,d⟩:=nj (P:=P) j hp q
    refine C d ?_ b
    intro ad bB t n
    obtain⟨N,bn,bp,D,U,_,_,X⟩:=hp.rD
    rw[D]at n
    simp at n
    have Y:u=N.ep:=by
     unfold H.iy at q
     obtain⟨O,V,q⟩:=dj.1 q
     obtain⟨bX,S,b6,bu,d,R⟩:=O
     have q:fy (Nat.beq S u) (@Bool.rec (λ_=>aa (List T)) (dB (je z R) λr=>takeN g r) none d)=some es:=q
     have bv:=aC (dz.1 q).1
     have:=(j.I1 U V).2
     simp only[]at this
     omega
    have:=(X Y).1 rfl
    omega
   |false=>
    cases z with
    |succ z=>exact absurd b (by simp[H.append])
    |zero=>exact BW iB j E F (ty':=ty') hp y av b
theorem EL(iB:iG P cx)(M:St cx base w.heap μ h){N a7:ab}{f:T}{C:am}(hp:eg w.heap μ p C)(c:BS cx h N p=some (.val f h')):
 pP cx base w μ h.size ((Builtin.clear_ #[N] a7 #[C]).run P w) f h':=by
 replace c:=dj.1 c;obtain⟨s,ca,c⟩:=c
 obtain⟨di,W,bT⟩:=tQ iB ca
 have L:∀{t:aa Addr} {D:Nat},C= .slice t 0 D->f= .undef->h'=h->pP cx base w μ h.size ((Builtin.clear_ #[N] a7 #[C]).run P w) f h':=by
  intro t D V d b6
  subst V d b6
  refine pP.pure M ?_ .undef
  cases t<;>simp[Builtin.clear_,run_underlying W]
 cases p<;>simp only[reduceCtorEq]at c
 ·rename_i j bs
  cases j with
  |nil=>
   simp only[ar,kx.val.injEq]at c
   obtain⟨t,rfl⟩:=hp.sN
   exact L rfl c.1.symm c.2.symm
  |cons x j=>simp at c
 ·simp only[ar,kx.val.injEq]at c
  obtain⟨t,g,D,V,I⟩:=Cy (p:= .fg) rfl hp
  cases hp
  exact L rfl c.1.symm c.2.symm
 ·rename_i b bn m g bs
  obtain⟨i,t,D,rfl,S,dn,ds,bN⟩:=hp.rD
  cases g with
  |zero=>
   have c:some (kx.val .undef h)=some (.val f h'):=c
   simp only[ar,kx.val.injEq]at c
   exact L rfl c.1.symm c.2.symm
  |succ g=>
   replace c:=dj.1 c;obtain⟨a8,U,c⟩:=c
   obtain⟨sz,O,c9,bp,a6,q⟩:=a8
   have c:(fy (Nat.beq O bn)<|fy (Nat.beq sz s.size) (@Bool.rec (λ_=>aa kx)
    (dB (jY q m (om s.jI (g+1))) λj=>dB (fF (Nat.succ c9)) λdd=>
      dB (h.put b ⟨sz,O,dd,bp,false,j⟩) λh'=>some (.val .undef h')) none a6))=some (.val f h'):=c
   replace c:=dz.1 c;obtain⟨X,c⟩:=c
   replace c:=dz.1 c;obtain⟨an,c⟩:=c
   cases a6 with
   |true=>simp at c
   |false=>
    replace c:=dj.1 c;obtain⟨j,r,c⟩:=c
    simp only[gD,dD]at c
    replace c:=dj.1 c;obtain⟨dk,b8,c⟩:=c
    simp only[ar,kx.val.injEq]at c
    obtain⟨rfl,rfl⟩:=c
    have X:=aC X
    have an:=aC an
    obtain⟨n,Q,bu⟩:=M.AG S U rfl
    simp only[]at Q bu
    obtain⟨_,_,F⟩:=bN (by omega)
    have F:=F (by omega)
    subst F
    obtain⟨v,c7,Z,al,E⟩:=n.row
    have z:=n.size
    simp only[]at z E
    obtain⟨B,cb,dv,av,aN,aE,A,ea,eb⟩:=(iB.ty _ _ bT).zero w
    rw[mU]at r
    obtain⟨I,r⟩:=nG r
    rw[List.length_replicate]at I r
    have G:=fM z
    have ce:(d6 (List.replicate (g+1) s.jI)).length=(g+1)*i.sz:=by
     rw[fM (sz:=i.sz) (by intro f d;rw[bQ d,A,aE];omega),List.length_replicate]
    have Y:d6 j=(d6 q).take (m*i.sz)++d6 (List.replicate (g+1) s.jI)++(d6 q).drop (m*i.sz+(g+1)*i.sz):=by
     rw[r,mp,mp,ql z,<-bY,oD z]
    have ap:∀f∈j,f.cells.length=i.sz:=by
     intro f d
     rw[r]at d
     rcases List.mem_append.1 d with d|d
     ·rcases List.mem_append.1 d with d|d
      ·exact z f (bG d)
      ·rw[bQ d,A,aE];omega
     ·exact z f (bE d)
    have b9:∀f∈d6 j,f.scalar=true:=by
     intro f d
     rw[Y]at d
     rcases List.mem_append.1 d with d|d
     ·rcases List.mem_append.1 d with d|d
      ·exact n.scalar f (bG d)
      ·obtain⟨y,K,d⟩:=List.mem_flatMap.1 d
       rw[bQ K,A]at d
       exact aN f d
     ·exact n.scalar f (bE d)
    have J:j.length=q.length:=by rw[r];simp;omega
    have bX:(d6 j).length=(d6 q).length:=by rw[fM ap,G,J]
    have bz:(d6 q).length<=v.size:=by
     rw[G,al];exact aV _ n.room
    have dm:m*i.sz+(g+1)*i.sz<=(d6 q).length:=by
     rw[G,<-bY];exact aV _ I
    have aX:B.cells.size=i.sz:=by have:=(av w.heap μ).1;simp only[bZ]at this;omega
    have cX:∃l:List am,(Builtin.zeroCells B.cells (g+1)).toList=l/\l.length=(g+1)*i.sz/\fI w.heap μ (d6 (List.replicate (g+1) s.jI)) l:=by
     have bB:fI w.heap μ (d6 (List.replicate (g+1) s.jI)) (Builtin.zeroCells B.cells (g+1)).toList:=by
      by_cases R:B.cells.size=0
      ·have bi:d6 (List.replicate (g+1) s.jI)=[]:=bh (by rw[ce,<-aX,R];simp)
       have bk:(Builtin.zeroCells B.cells (g+1)).toList=[]:=bh (by rw[bZ,qn,R];simp)
       rw[bi,bk];exact fI.nil
      ·rw[Builtin.zeroCells,yc (g+1) (by omega),qN,A]
       exact(av _ _).replicate (g+1)
     exact⟨_,rfl,by rw[bZ,qn,aX],bB⟩
    obtain⟨l,cp,cL,aA⟩:=cX
    have b7:∀u∈l,u.oneCell'=true:=aA.Dz (by
     intro f d
     obtain⟨y,K,d⟩:=List.mem_flatMap.1 d
     rw[bQ K,A]at d
     exact aN f d)
    have bv:fI w.heap μ (d6 j) ((v.toList.take (m*i.sz)++l++v.toList.drop (m*i.sz+l.length)).toArray.toList.take (d6 j).length):=by
     rw[bX,Y]
     rw[cY,yT _ _ (by omega) (by simpa using bz)]
     rw[cL]
     exact((E.take _).append aA).append (E.drop _)
    obtain⟨de,c1,c4,c6,ef⟩:=xY M S U rfl Z (.inl Q) b8 (arr':=(v.toList.take (m*i.sz)++l++v.toList.drop (m*i.sz+l.length)).toArray)
     (by simp only[List.size_toArray,aP,List.length_take,List.length_drop,bZ];rw[<-al];omega) (by rw[J];exact n.room) (by intro k;have:=n.rQ k;simp only at this;rw[J];exact this) ap b9 bv
    refine⟨.tuple #[],_,de,?_,.undef,c1,c4,c6⟩
    have ae:=run_storeCells_at (P:=P) i.io (m*i.sz) c7 l 0 v w Z (by simp only[Nat.add_zero];omega) b7
    simp only[Nat.add_zero]at ae
    simp[Builtin.clear_,run_underlying W,cb,cp,ae]
end
end
noncomputable section
section
variable {P:ai}{cx:Ctx}{base:Nat}{w:World}{μ:Mu}{h h':H}{mask:Nat}{e:Env}{a:Act}{o:Oper}{hp hp':af Obj}{p:T}
theorem St.grow(c:St cx base hp μ h)(l:hp.size<=hp'.size)(j:∀b,b<hp.size->hp'[b]? =hp[b]?):St cx base hp' μ h/\Ext hp μ hp' μ:=by
 have g:Ext hp μ hp' μ:=⟨l,λb i t=>⟨j b i,t⟩,λk f d=>⟨f,d,.inl rfl⟩,rfl,λb i _=>j b i⟩
 refine⟨⟨c.wf,by have:=c.fit;omega,λk f d=> ?_,c.inj,c.low,c.apart,λb hr=>bD (c.pM b hr) l,λn m s=>(c.xz n m s).ext g⟩,g⟩
 obtain⟨u,q,r⟩:=c.box k f d
 exact⟨u,q,r.ext g (j _ (c.lt d))⟩
theorem EJ(iB:iG P cx){D z:ab}{K:ah}(x:St cx base w.heap μ h)(r:jS w.heap μ mask e a.tmps)(ap:o.op= .convert D z K){m:T}
 (C:∃F,cx.ty D=some F) (hp:eJ cx mask e K=some p) (b:BP cx z p=some m) (Y:h'=h):iM cx base w μ h.size ((execOp a.eval o).run P w) m h':=by
 subst Y
 obtain⟨bz,C⟩:=C
 obtain⟨bs,U,_⟩:=ky (iB.ty _ _ C)
 replace b:=dj.1 b;obtain⟨F,a7,b⟩:=b
 obtain⟨d,R,I⟩:=ky (iB.ty _ _ a7)
 have bk:=fG x r hp
 cases a8:F.u<;>rw[a8]at b I<;>simp only[reduceCtorEq]at b
 rename_i s
 have:=kS I;subst this
 have W:∃c,p= .str c:=by cases p<;>first|exact⟨_,rfl⟩|(simp at b)
 obtain⟨c,rfl⟩:=W
 have b:(dB (cx.ty s) λE=>(match E.u with
  | .int l=>fy (B5 l .u8) (@List.rec Nat (λ_=>aa T) (some .fg) (λ_ _ _=>dB (eK (λg=>some (T.int .u8 (.ofNat g))) c) λA=>some (.dq A false)) c)
  |_=>none))=some m:=b
 replace b:=dj.1 b;obtain⟨E,a6,b⟩:=b
 obtain⟨bp,S,J⟩:=ky (iB.ty _ _ a6)
 cases bi:E.u<;>rw[bi]at b J<;>simp only[reduceCtorEq]at b
 rename_i l
 replace b:=dz.1 b;obtain⟨k,b⟩:=b
 rw[wM]at k;subst k
 have:=uQ J;subst this
 obtain⟨M,N⟩:=bk.kR
 let n:=(bytesOf c).size
 have B:∃q j,n<=q/\(execOp a.eval o).run P w= .ok (.value (.slice (some ⟨w.heap.size,0,none⟩) n q)) j/\j.heap.size=w.heap.size+1/\(∀t,t<w.heap.size->j.heap[t]? =w.heap[t]?)/\
  j.os=w.os/\j.tape=w.tape/\j.output=w.output/\∃fz,j.heap[w.heap.size]? =some (.cells ((bytesOf c).data.map (λi=>Value.int .u8 i.toNat)++Array.replicate (q-n) (.int .u8 0)) s fz):=by
  refine⟨grownCap w n 0 s,Lib.bytesWorld w s (bytesOf c),grownCap_ge w _ _ _,?_,Lib.bytesWorld_size _ _ _,λt Z=>Lib.bytesWorld_at_old _ _ _ t Z,rfl,rfl,rfl,_,Lib.bytesWorld_at_new _ _ _⟩
  simp only[execOp,ap,Sem.run_bind,M,Lib.run_convert_string_bytes w D z s (bytesOf c) U R S,Result.andThen_ok,Sem.run_pure]
  rfl
 obtain⟨q,j,bu,B,bv,aN,av,aA,aE,fz,O⟩:=B
 obtain⟨bn,V⟩:=x.grow (hp':=j.heap) (by omega) aN
 have G:n=c.length:=jp c
 refine⟨_,j,μ,.inl B,?_,bn,⟨V,av,aA,aE⟩,wZ.refl _ _⟩
 cases c with
 |nil=>
  have b:some T.fg=some m:=b
  simp at b;subst b
  rw[G]
  exact .fg _ _
 |cons i c=>
  have b:(dB (eK (λg=>some (T.int .u8 (.ofNat g))) (i::c)) λA=>some (T.dq A false))=some m:=b
  rw[xq]at b
  simp only[dD,ar]at b
  subst b
  have an:¬mG μ w.heap.size:=by
   rintro(⟨g,L,Q,hl⟩|hr)
   ·have:=x.lt Q;omega
   ·have:=x.pM _ hr;omega
  have al:n=(c.map λg=>T.int .u8 (.ofNat g)).length+1:=by rw[G];simp
  rw[al]
  refine .dq (T.int .u8 (.ofNat i)) (c.map λg=>T.int .u8 (.ofNat g)) false w.heap.size 0 q 1 _ s fz an O (by omega) (by simp) ?_ ?_ ?_ ?_
  ·intro m b
   rw[<-aU (f:=λg=>T.int .u8 (.ofNat g))]at b
   obtain⟨g,_,rfl⟩:=List.mem_map.1 b
   rfl
  ·rw[<-aU (f:=λg=>T.int .u8 (.ofNat g)),qm]
   simp[bytesOf]
  ·rw[<-aU (f:=λg=>T.int .u8 (.ofNat g)),qm]
   intro m b
   obtain⟨g,_,rfl⟩:=List.mem_map.1 b
   exact⟨rfl,.int _ _⟩
  ·rw[<-aU (f:=λg=>T.int .u8 (.ofNat g)),qm]
   intro l m b
   rw[aT]at b
   cases k:(i::c)[l]? with
   |none=>rw[k]at b;simp at b
   |some v=>
    rw[k]at b;simp at b;subst b
    have aX:v<256:=N v (az k)
    have ae:l<(i::c).length:=by
     rcases aD l (i::c).length with y|y
     ·exact y
     ·rw[aM y]at k;simp at k
    have X:((bytesOf (i::c)).data.map (λi=>Value.int .u8 i.toNat)++Array.replicate (q-n) (.int .u8 0))[0+l]? =some (.int .u8 (v:Int)):=by
     rw[Nat.zero_add,Array.getElem?_append_left (by simp[bytesOf];simpa using ae),Array.getElem?_map]
     have:(bytesOf (i::c)).data[l]? =some (UInt8.ofNat v):=by
      simp only[bytesOf,List.getElem?_toArray,aT,k,cI]
     rw[this]
     simp[jb aX]
    rw[aW,X]
    exact .int _ _
theorem DS{x:ah}(A:St cx base w.heap μ h)(r:jS w.heap μ mask e a.tmps)(U:o.op= .next x true){t:T}
 (b:uF x cx mask e h=some (.val t h')):iM cx base w μ h.size ((execOp a.eval o).run P w) t h':=by
 unfold uF at b
 replace b:=dj.1 b;obtain⟨p,hp,b⟩:=b
 have bp:=fG A r hp
 have aE:∃v,p= .iter v:=by cases p<;>first|exact⟨_,rfl⟩|(simp at b)
 obtain⟨v,rfl⟩:=aE
 replace b:=dj.1 b;obtain⟨l,al,b⟩:=b
 replace b:=dz.1 b;obtain⟨a6,b⟩:=b
 obtain⟨n,bB,M,D,Z⟩:=bp.NF
 obtain⟨y,G,C⟩:=A.box v n D
 rw[al]at G;simp at G;subst G
 obtain⟨R,a8⟩:=C.iter a6
 rcases a8 with⟨f,d,aA,O,N⟩|⟨bT,b9,ca,bz⟩|⟨cb,m,d,cp,bN,V,W,bX,b6⟩
 rotate_left
 rotate_left
 ·exfalso
  rw[V]at b
  simp at b
 rotate_left
 ·exfalso
  cases hE:l.dO with
  |nil=>rw[hE]at b;simp at b
  |cons z cL=>
   obtain⟨k,u,ce,rfl,_⟩:=bz 0 z (by simp[hE])
   rw[hE]at b
   simp at b
 have X:n.ep=0:=by rw[<-C.ep];exact R
 have ae:=Z X
 subst ae
 rw[aA]at b
 have S:(getObj n.io).run P w= .ok (.stringIter (bytesOf f) d) w:=by simp[getObj,Sem.run,N]
 have b:(@Bool.rec (λ_=>aa kx) (some (.val (.tuple [.bool false]) h)) (dB (uy f d) λK=>two K λc wd=>dB (fF (Nat.add d wd)) λJ=>dB (fF (Nat.succ l.ver)) λL=>
  dB (h.put v ⟨l.sz,l.ep,L,l.exact,true,[.str f,.int .i64 (.ofNat J)]⟩) λh'=>
   some (.val (.tuple [.bool true,.int .i64 (.ofNat d),.int .i32 (.ofNat c)]) h')) (Nat.blt d (kc f)))=some (.val t h'):=b
 rw[iX]at b
 cases s:Nat.blt d f.length with
 |false=>
  rw[s]at b
  have b:some (kx.val (.tuple [.bool false]) h)=some (.val t h'):=b
  simp at b
  obtain⟨rfl,rfl⟩:=b
  have aX:¬d<f.length:=by rw[<-aG];simp[s]
  refine iM.pure (c:= .tuple #[.bool false]) A ?_ (.tuple _ _ rfl λk t g=> ?_)
  ·simp[execOp,U,Instr.next,M,S,jp,aX]
  ·cases k with
   |zero=>simp at g;subst g;exact .bool _
   |succ k=>simp at g
 |true=>
  rw[s]at b
  have F:d<f.length:=by rw[aG]at s;exact s
  have b:(dB (uy f d) λK=>two K λc wd=>dB (fF (Nat.add d wd)) λJ=>dB (fF (Nat.succ l.ver)) λL=>
   dB (h.put v ⟨l.sz,l.ep,L,l.exact,true,[.str f,.int .i64 (.ofNat J)]⟩) λh'=>
    some (kx.val (.tuple [.bool true,.int .i64 (.ofNat d),.int .i32 (.ofNat c)]) h'))=some (.val t h'):=b
  replace b:=dj.1 b;obtain⟨⟨c,wd⟩,Q,b⟩:=b
  simp only[jX,gD,dD]at b
  replace b:=dj.1 b;obtain⟨W,bi,b⟩:=b
  simp only[ar,kx.val.injEq]at b
  obtain⟨rfl,rfl⟩:=b
  unfold uy at Q
  obtain⟨q,B,j⟩:=dj.1 Q
  rw[j9]at B
  have av:Utf8.decode (bytesOf f) d=(c,wd):=by
   cases E:Nat.blt q 128 with
   |false=>
    rw[E]at j
    have s:q<256:=O q (az B)
    have an:Nat.blt q 256=true:=by rw[aG];exact s
    rw[an]at j
    have j:some (Utf8.decode (bytesOf f) d)=some (c,wd):=j
    simpa using j
   |true=>
    rw[E]at j
    have j:some (q,1)=some (c,wd):=j
    simp only[ar,ax]at j
    obtain⟨rfl,rfl⟩:=j
    rw[aG]at E
    have ap:q<256:=by omega
    have aN:(bytesOf f).get! d=UInt8.ofNat q:=by
     have bk:d<(bytesOf f).size:=by rw[jp];exact F
     show(bytesOf f).data[d]! =_
     rw[getElem!_pos (bytesOf f).data d bk]
     simp only[bytesOf,List.getElem_toArray,List.getElem_map]
     have:f[d]=q:=by rw[aB F]at B;simpa using B
     rw[this]
    unfold Utf8.decode
    simp only[Nat.add_zero,aN,jb ap]
    rw[aq (by omega)]
  have bn:∀I:Obj,(setObj n.io I).run P w= .ok () {w with heap:=w.heap.setIfInBounds n.io I}:=by
   intro I;simp[setObj,Sem.run,N]
  have Y:=A.lt D
  obtain⟨bs,bu,bv⟩:=A.change (L':=n) (hp':=w.heap.setIfInBounds n.io (.stringIter (bytesOf f) (d+wd))) D bi (by simp) (by
   intro i b8 a7;rw[Array.getElem?_setIfInBounds_ne (br a7)]) (.inl rfl) (by
   intro b7
   refine⟨C.ep,C.sz,λk=>by simp at k,λ_=>⟨R,.inl ⟨f,d+wd,rfl,O,by simp[Y]⟩⟩⟩)
  refine⟨.tuple #[.bool true,.int .i64 d,.int .i32 c],{w with heap:=w.heap.setIfInBounds n.io (.stringIter (bytesOf f) (d+wd))},_,.inl ?_,.tuple _ _ rfl λk t g=> ?_,bs,⟨bu,rfl,rfl,rfl⟩,bv⟩
  ·simp[execOp,U,Instr.next,M,S,jp,F,av,bn,goInt]
  ·match k,g with
   |0,g=>simp at g;subst g;exact .bool _
   |1,g=>simp at g;subst g;exact .int _ _
   |2,g=>simp at g;subst g;exact .int _ _
   |k+3,g=>simp at g
theorem IK(iB:iG P cx)(g:St cx base w.heap μ h){l:af ab}{y:ab}{k q:T}{m:am}(i:eg w.heap μ k m)(b:Lm cx h l.toList k=some (.val q h')):
 pP cx base w μ h.size ((Builtin.len_ l y #[m]).run P w) q h':=by
 replace b:=dj.1 b;obtain⟨v,ht,b⟩:=b
 replace b:=dj.1 b;obtain⟨x,s,b⟩:=b
 obtain⟨A,f,j⟩:=ky (iB.ty _ _ s)
 have ht:l[0]? =some v:=by rw[j9]at ht;simpa using ht
 cases t:x.u<;>rw[t]at b j<;>simp only[reduceCtorEq]at b
 ·have:=rh j;subst this
  cases k<;>simp at b
  obtain⟨c,rfl⟩:=ff.1 b
  simp at c;subst c
  obtain⟨d,_⟩:=i.kR
  exact pP.pure g (by simp[Builtin.len_,ht,run_underlying f,d,jp,goInt]) (.int _ _)
 ·have:=kS j;subst this
  cases k<;>simp at b
  ·obtain⟨c,rfl⟩:=ff.1 b
   simp at c;subst c
   rename_i n B
   cases n with
   |nil=>obtain⟨r,d⟩:=i.sN;exact pP.pure g (by simp[Builtin.len_,ht,run_underlying f,d,goInt]) (.int _ _)
   |cons C n=>obtain⟨_,_,_,_,_,_,_,d,_⟩:=i.sO;exact pP.pure g (by simp[Builtin.len_,ht,run_underlying f,d,goInt]) (.int _ _)
  ·obtain⟨c,rfl⟩:=ff.1 b
   simp at c;subst c
   obtain⟨r,z,d⟩:=i.yx
   exact pP.pure g (by simp[Builtin.len_,ht,run_underlying f,d,goInt]) (.int _ _)
  ·obtain⟨c,rfl⟩:=ff.1 b
   simp at c;subst c
   obtain⟨_,_,_,d,_⟩:=i.rD
   exact pP.pure g (by simp[Builtin.len_,ht,run_underlying f,d,goInt]) (.int _ _)
 ·have:=qd j;subst this
  obtain⟨c,rfl⟩:=ff.1 b
  simp at c;subst c
  exact pP.pure g (by simp[Builtin.len_,ht,run_underlying f,goInt]) (.int _ _)
theorem Ct(iB:iG P cx)(u:St cx base w.heap μ h)(r:jS w.heap μ mask e a.tmps){c:Call}{F:Builtin}(al:o.op= .call c)(Z:c.callee= .builtin F){n:List T}(Y:oY cx mask e c.args.toList=some n){v:T}
 (b:kH F cx h c.argTypes.toList n=some (.val v h')):iM cx base w μ h.size ((execOp a.eval o).run P w) v h':=by
 have d:=uw u r Y
 have N:∀{m:Sem am},(execOp a.eval o).run P w=((m.run P w).andThen λv O=> .ok (Next.value v) O)->pP cx base w μ h.size (m.run P w) v h'->iM cx base w μ h.size ((execOp a.eval o).run P w) v h':=by
  intro m hr ae
  obtain⟨z,O,an,S,U,V,W,X⟩:=ae
  exact⟨z,O,an,.inl (by rw[hr,S];rfl),U,V,W,X⟩
 have A:(execOp a.eval o).run P w=(builtin F c.argTypes o.type (c.args.map λ| .const _=>true|_=>false) (c.args.map a.eval)).run P w:=by
  simp[execOp,al,resolve,Z,invoke]
  rfl
 have y:(c.args.map a.eval).toList=c.args.toList.map a.eval:=by simp
 cases F<;>simp only[kH,reduceCtorEq]at b
 case len=>
  match n,b,d with
  | [I],b,d=>
   obtain⟨g,t,f,l,k⟩:=d.ll
   have j:t=[]:=bh (by have:=k.1;simpa using this.symm)
   subst j
   have i:c.args.map a.eval= #[g]:=by apply co;rw[y,f]
   refine N (m:=Builtin.len_ c.argTypes o.type #[g]) ?_ (IK iB u l b)
   rw[A,i];simp[builtin]
 case append=>
  match n,b,d with
  | [I,R],b,d=>
   match L:c.argTypes.toList,b with
   | [E,Q],b=>
    obtain⟨g,t,f,l,k⟩:=d.ll
    obtain⟨G,x,rfl,C,B⟩:=k.ll
    have j:x=[]:=bh (by have:=B.1;simpa using this.symm)
    subst j
    have i:c.args.map a.eval= #[g,G]:=by apply co;rw[y,f]
    have K:c.argTypes= #[E,Q]:=by apply co;rw[L]
    refine N (m:=Builtin.append_ #[E,Q] o.type #[g,G]) ?_ (wh iB u l C b)
    rw[A,i,K];simp[builtin]
 case clear=>
  match n,b,d with
  | [I],b,d=>
   match L:c.argTypes.toList,b with
   | [E],b=>
    obtain⟨g,t,f,l,k⟩:=d.ll
    have j:t=[]:=bh (by have:=k.1;simpa using this.symm)
    subst j
    have i:c.args.map a.eval= #[g]:=by apply co;rw[y,f]
    have K:c.argTypes= #[E]:=by apply co;rw[L]
    refine N (m:=Builtin.clear_ #[E] o.type #[g]) ?_ (EL iB u l b)
    rw[A,i,K];simp[builtin]
 case min=>
  match n,b,d with
  | [I,R],b,d=>
   obtain⟨M,rfl⟩:=ff.1 b
   obtain⟨D,m,s,rfl,rfl,q⟩:=tN M
   obtain⟨g,t,f,l,k⟩:=d.ll
   obtain⟨G,x,rfl,C,B⟩:=k.ll
   have j:x=[]:=bh (by have:=B.1;simpa using this.symm)
   subst j
   rw[l.jr,C.jr]at f
   have i:c.args.map a.eval= #[.int D m,.int D s]:=by apply co;rw[y,f]
   rw[nM]at q;simp only[ar]at q;subst q
   refine iM.pure u ?_ (.int _ _)
   rw[A,i]
   simp only[builtin,Builtin.min_,List.foldlM,Builtin.min2,Sem.run_bind,Sem.run_pure,Result.andThen_ok]
   have:=wJ s m
   by_cases J:s<m<;>simp[this,J]
 case max=>
  match n,b,d with
  | [I,R],b,d=>
   obtain⟨M,rfl⟩:=ff.1 b
   obtain⟨D,m,s,rfl,rfl,q⟩:=tN M
   obtain⟨g,t,f,l,k⟩:=d.ll
   obtain⟨G,x,rfl,C,B⟩:=k.ll
   have j:x=[]:=bh (by have:=B.1;simpa using this.symm)
   subst j
   rw[l.jr,C.jr]at f
   have i:c.args.map a.eval= #[.int D m,.int D s]:=by apply co;rw[y,f]
   rw[nM]at q;simp only[ar]at q;subst q
   refine iM.pure u ?_ (.int _ _)
   rw[A,i]
   have:=wJ m s
   by_cases J:m<s<;>simp[builtin,Builtin.max_,Builtin.max2,this,J]
end
end
end Go.TI
