/- S23 -/
import Derived.Test.YtmoiekepclmgbaaGreatDoorA33
set_option linter.all false
set_option maxRecDepth 100000
set_option maxHeartbeats 0
namespace Go.Proofs.YtmoiekepclmgbaaGreatDoor
noncomputable section
open Go Go.TI
def Ei(a:fk):gJ:=⟨a.eg,ls a⟩
structure Dq(w:ej)(i:Nat)(c:fD):Prop where
 sy:c.fN=Pp w i
 od:c.order=(List.range i).map λk=>((k:Nat):Int)
 ce:c.cells=(o8 w.fq w.jG (w.dY.take i)).cells.map λv=>⟨v,true⟩
 fu:c.fa=(o8 w.fq w.jG (w.dY.take i)).fa.map λv=>⟨v,true⟩
 fl:c.fixed.length=w.dY.length
 fx:∀(k:Nat) (e:fk),k<i->w.dY[k]? =some e->e.kind=3\/e.kind=23->c.fixed[k]? =some true
def Dq.fix{a:ej}{i:Nat}{h:fD}(f:kZ a)(o:RdW a)(m:Dq a i h){b:fk}(e:a.dY[i]? =some b){l:List Int}(hl:∀n∈l,n∈b.mE\/n∈b.tQ)(q:xz ((o8 a.fq a.jG (a.dY.take i)).count.getD b.eg.toNat 0) none l=true)(ht:ju b.eg a.fq.dW.length=true):mN a h b.eg l=true:=by
 have x:a.dY≠ []:=λg=>by rw[g]at e;simp at e
 have p:=f.cnt x;have r:=fI.1 ht;have C:=(List.getElem?_eq_some_iff.1 e).1;have⟨first,a1,a2⟩:=iU (l:=a.jG.count) (i:=b.eg) (by rw[p];exact ht);unfold mN;rw[a2];simp only;rw[cz];intro n k;have j:=EO q k;have B:=f.sm.c first (ay a1)
 rw[Oo r.1 _ _ (tJ f.ok.run i),bQ,a1]at j;simp only[cU]at j;have y:=yc b.eg (a.dY.take i) 0;rw[List.length_take]at y;have F:=f.ok.len;unfold yZ;rw[cr];by_cases g:n<first
 ·exact .inl (by simpa using g)
 ·refine .inr ?_;rw[Du D D];have⟨u,A,d,v,w⟩:=o i b n first e (hl n k) a2 D
  rw[d];rw[A6 _ _ _ _ D D]at d;have z:nT b.eg a.dY 0=nT b.eg (a.dY.take i) 0++nT b.eg (a.dY.drop i) (0+(a.dY.take i).length):=by rw[<-AY,cS]
  rw[z,bQ,cv D,az D]at d;simp only[cU]at d;have⟨E,s,t⟩:=ED (aC (l:=nT b.eg (a.dY.take i) 0) (n:=(n-first).toNat) D);rw[d]at s;rw[List.length_take]at t;have:=m.fx u A D v w;unfold ww qJ;rw[aq D,cm,this];rfl
def On{b:List Int}{c:Int}(d:ju c b.length=true):∃a,qJ b c=some a/\b[c.toNat]? =some a/\qJ (b.map λa=>(⟨a,true⟩:fV)) c=some ⟨a,true⟩:=by
 have⟨a,e,f⟩:=iU d;exact⟨a,f,e,by unfold qJ;rw[aq (fI.1 d).1,aR,e];rfl⟩
def Dq.step{b:ej}{d:Nat}{f:fD}(p:kZ b)(I:RdW b)(e:Dq b d f){c:fk}(g:b.dY[d]? =some c):iP b f (Ei c).eg=true/\Dq b (d+1) (mf b f (Ei c)).1:=by
 have O:=p.ok.ok g;have y:=O;have L:=(List.getElem?_eq_some_iff.1 g).1;unfold pk at y;simp only[ax,aK]at y;obtain⟨⟨⟨⟨⟨⟨⟨⟨⟨W,ht⟩,_⟩,w⟩,_⟩,_⟩,_⟩,Z⟩,ae⟩,k⟩:=y;have⟨r1,r2⟩:=Po p g;have U:=e.fix p I g (l:=c.mE) (λn j=> .inl j) Z ht;have H:=e.fix p I g (l:=c.tQ) (λn j=> .inr j) ae ht;have N:iV b f c.eg=d:=by
  have P:=Ag c.eg f.order b.dY 0;simp only[cJ]at P;have x:∀i:Nat,(i:Int)∈f.order↔i<d:=λi=>by
   rw[e.od,cW];exact⟨λ⟨a,t,u⟩=>by have:=List.mem_range.1 t;omega,λj=>⟨i,List.mem_range.2 j,rfl⟩⟩
  rcases P with⟨_,u⟩|⟨i,R,t,u,al,S,T⟩
  ·have:=(x d).1 (u d c g rfl);omega
  ·rw[x]at S;have:¬d<i:=λq=>by have:=(x d).1 (T d c q g rfl);omega
   show qI _ _ _ 0=_;rw[t];omega
 have K:lL b.dY (d:Int)=c:=oQ D (by simpa using g);have E:iP b f c.eg=true:=by
  unfold iP;rw[N,ao D,K,e.sy,r1,U];rfl
 refine⟨E,?_⟩;unfold mf;rw[aq (show iP b f (Ei c).eg=true from E)];show Dq b (d+1) (wu b f (iV b f c.eg) (lL b.dY (iV b f c.eg)) c.eg (ls c));rw[N,K];have J:o8 b.fq b.jG (b.dY.take (d+1))=ko b.fq (o8 b.fq b.jG (b.dY.take d)) c:=by
  rw[dx,g];show wC (λs c=>(ke b.fq s c).1) b.jG (b.dY.take d++[c])=_;rw[BE];exact oF _ _ O
 have m:=W;unfold mD at m;simp only[ax,aK]at m;have o:jN b.fq c.kind c.obj=true:=by unfold je at w;simp only[ax]at w;exact w.1.2
 have V:c.kind=3\/c.kind=4->ju c.obj (o8 b.fq b.jG (b.dY.take d)).cells.length=true:=λq=>by
  rw[m.1.1.2];unfold jN at o;rcases q with q|q<;>simpa[q]using o
 have X:c.kind=22\/c.kind=23->ju c.obj (o8 b.fq b.jG (b.dY.take d)).fa.length=true:=λq=>by
  rw[m.1.2];unfold jN at o;rcases q with q|q<;>simpa[q]using o
 refine⟨by rw[r2,<-e.sy];rfl,by simp[wu,e.od,List.range_succ],?_,?_,?_,λA R an r M=>?_⟩
 ·rw[J];simp only[wu,ko,H,cont,aq,e.ce];split
  ·rw[aU]
  ·rfl
 ·rw[J];simp only[wu,ko,H,cont,aq,e.fu];split
  ·rw[aU]
  ·rfl
 ·have:=e.fl;simp only[wu];grind
 ·simp only[wu,cm];have F:=e.fl;by_cases q:A=d
  ·subst q;rw[g]at r;simp only[ar]at r;subst r;unfold oh at k;rcases M with h|h
   ·have⟨v,B,_,C⟩:=On (V (.inl h));simp[h,B]at k;simp[h,fixC,e.ce,C,k,F,L]
   ·have⟨v,B,_,C⟩:=On (X (.inr h));simp[h,B]at k;simp[h,fixC,e.fu,C,k,F,L]
  ·have:=e.fx A R D r M;have Q:¬d=A:=λz=>q z.symm;split
   ·rw[bR,ao Q];exact this
   split
   ·rw[bR,ao Q];exact this
   ·exact this
def Dq.start(w:ej):Dq w 0 (ka w):=⟨rfl,rfl,rfl,rfl,by simp[ka],λa _ h=>by omega⟩
def Vu{a:ej}(j:kZ a)(i:RdW a):∀(d b:Nat) (c:fD),b+d=a.dY.length->Dq a b c->∃f,uN a ((a.dY.drop b).map Ei) c=some f/\Dq a a.dY.length f:=by
 intro d;induction d with
 |zero=>intro b c h e;rw[List.drop_of_length_le D];exact⟨c,rfl,by rwa[show a.dY.length=b by omega]⟩
 |succ d k=>
  intro b c h e;have g:b<a.dY.length:=D;have⟨l,m⟩:=e.step j i (az g);rw[aH g,aL];unfold uN;rw[aq l];exact k _ _ D m
def L9{a:ej}{f:fD}{e:iX}(k:Dq a a.dY.length f)(c:a.gx.vR e=true):ot a f e=false:=by
 have u:∀j,iV a f j<0:=λj=>by
  have l:=Ag j f.order a.dY 0;simp only[cJ]at l;rcases l with⟨q,_⟩|⟨v,A,q,r,w,s,x⟩
  ·show qI _ _ _ 0<0;omega
  ·have:=(List.getElem?_eq_some_iff.1 r).1;exact absurd (by rw[k.od];exact List.mem_map.2 ⟨v,List.mem_range.2 this,rfl⟩) s
 have o:∀d,r8 a f d=false:=λd=>by
  unfold r8;cases g:ju d a.dY.length
  ·rfl
  ·have:=(fI.1 g).1;have:=u (lL a.dY d).eg;rw[aO D];rfl
 have p:∀d,uc a f d=false:=λd=>by
  have:=o d;unfold r8 at this;unfold uc Dy;rw[<-Bool.and_assoc,this];rfl
 unfold ot;by_cases m:e.kind=1
 ·rw[aq m,p];rfl
 rw[ao m];by_cases h:e.kind=2
 ·rw[aq h];unfold GX.vR GX.dead GX.KR at c;rw[aq h]at c;cases t:e.kc with
  |nil=>rw[t]at c;simp at c
  |cons d z=>simp[Og,o]
 rw[ao h];by_cases i:e.kind=3
 ·rw[aq i];unfold GX.vR GX.Yx at c;rw[ao h]at c;simp only[i]at c;simp[GX.CV]at c;have hl:a.gx.ev=a.dY:=rfl;rw[hl]at c;have y:=fI.1 c.1.1.1.1;by_cases g:f.order.getLast?=some e.b
  ·rw[k.od,List.getLast?_map,List.getLast?_range]at g;split at g
   ·simp at g
   ·simp at g;omega
  ·simp[g]
 rw[ao i];by_cases n:e.kind=4
 ·rw[aq n,p];simp
 ·rw[ao n]
def AG(a:fk):gJ:=⟨a.eg,if a.kind=18/\0<=a.value/\a.value<4 then a.value else-1⟩
def Vv{b:ej}(f:kZ b):b.dY.map AG=b.dY.map Ei:=by
 refine List.map_congr_left λk h=>?_;obtain⟨j,i,rfl⟩:=dy h;have d:=f.ok.ok (az i);unfold pk at d;simp only[ax,aK]at d;obtain⟨⟨⟨⟨⟨⟨⟨⟨⟨c,ht⟩,_⟩,l⟩,_⟩,_⟩,_⟩,_⟩,_⟩,a⟩:=d;unfold AG Ei ls;by_cases g:b.dY[j].kind=18
 ·unfold oh at a;unfold mD at c;simp only[ax,aK]at c;have hl:=(mF c.1.1.1).2.2;have m:=(kW f.wb).2.2.2.2.2;simp[g]at a|-;split at a
  ·intro e;omega
  ·intro e;have:=e a.1.1;omega
 ·simp[g]
end
noncomputable section
open Go Go.TI Tryz
attribute [-simp] List.map_take List.map_drop List.map_append fU fK fh Bool.not_or Bool.not_and
attribute [simp] fT fM
section
attribute [-simp] size_cons List.map_map
def GQ:iy:=⟨ej,λa=>[a.t],λa=>a.dY.length<=1000000,λa=>sl ((a.dY.map AG).map gJ.t),λc d b=>by simp at b;rw[ej.inj b]⟩
def ZL:GQ.Ok prog cx 15:=by
 refine iq [] (jr 8589996143 [] func15) (λ_=>1000005) (by simp[GQ]) ?_;rintro(c:ej) hl b u;simp[GQ]at hl u|-;simp[f15,u,show c.dY.length*16<=70368744177664 by omega];refine gu c.dY.length D (λe b d=>∃i,Gr d i 2 (((c.dY.take e).map AG).map gJ.t)/\iE 0 d/\dT b 3 i/\dT b 12 (sl (c.dY.map fk.t))/\dT b 13 (G c.dY.length)/\dT b 14 (G e)) ?_ ?_ D ?_
 ·rintro e b d w A ⟨i,j,n,l,k,g,h⟩;have⟨a,v⟩:∃a,a=c.dY[e]:=⟨_,rfl⟩;have I:c.dY.take (e+1)=c.dY.take e++[a]:=by rw[v];exact aM w
  have C:=n.low;have x:d.low<=d.size+1:=D;simp[k,g,h,w,<-v,C,x];refine kP (λb s=>(∃m,s=(d.cons (dS 7 1 [a.t])).cons (dS 2 m [(AG a).t]))/\dT b 3 i/\dT b 6 (.ptr (d.size+1) 0 0 0)/\dT b 12 (sl (c.dY.map fk.t))/\dT b 13 (G c.dY.length)/\dT b 14 (G e)) (λp=>?_) (λp=>?_) ?_
  ·have o:AG a=⟨a.eg,a.value⟩:=by unfold AG;simp at p;rw[aq D]
   simp[l,k,g,h,o,x];exact⟨_,rfl⟩
  ·have o:AG a=⟨a.eg,-1⟩:=by unfold AG;simp at p;rw[ao D]
   simp[l,k,g,h,o];exact⟨_,rfl⟩
  rintro b _ ⟨⟨m,rfl⟩,l,z,k,g,h⟩;have E:iE 0 ((d.cons (dS 7 1 [a.t])).cons (dS 2 m [(AG a).t])):=(n.cons _).cons _;have y:Gr ((d.cons (dS 7 1 [a.t])).cons (dS 2 m [(AG a).t])) i 2 (((c.dY.take e).map AG).map gJ.t):=j.mono λJ B=>by
   have⟨_,_,_,_,F,_⟩:=j.box B;have:=H.fG F;rw[ez,ao (by rw[size_cons];omega),ez,ao D]
  have⟨K,s,r,q⟩:=y.my (cx:=cx) (f:=gJ.t) E IH rfl IG rfl Y (λ_=>rfl) (AG a) dN;rw[size_cons,size_cons]at r;simp[l,z,k,g,h,r,A];exact⟨by rw[I,List.map_append];exact q.1,⟨q.2.2.2.hp,q.2.2.2.low,aw _⟩⟩
 ·rintro b d ⟨i,j,n,l,k,g,h⟩;rw[aI]at j;simp[l,g,h,n.hp];rw[Iw i j.iN,j.qC Y]
 ·exact⟨.arr 1 0 0 0 false,.inr ⟨1,0,0,decide (0=c.dY.length),[],Y,Y,Y⟩,by exact⟨Y,Y,Y⟩,Y⟩
def aeX{b:gG}(ht:b.p 15=some GQ)(a:ej)(hl:a.dY.length<=1000000):rl prog cx b 15 [a.t]=some (sl ((a.dY.map AG).map gJ.t)):=iA ht ZL a hl
def Zo{g:ej}:∀(b:List gJ) (d e:fD) (c:Nat),uI c g d->uN g b d=some e->uI (c+b.length) g e:=by
 intro b;induction b with
 |nil=>intro d e c f a;simp[uN]at a;subst a;exact f
 |cons j b i=>
  intro d e c f a;unfold uN at a;split at a
  ·rename_i h;exact(i _ _ _ (f.step j h) a).up dN
  ·simp at a
def RB:iy:=⟨nj×Int,λa=>[a.1.t,.int .u16 a.2],λa=>HH a.1/\0<=a.2/\a.2<65536,λ_=> .bool true,λ_ _ _=>rfl⟩
def ZQ:RB.Ok prog cx 4:=by
 refine iq [(5,EH.jX),(15,GQ),(8,AN),(9,wH),(10,uQ),(14,HV)] (jr 1073742327 [(2,[(0,2),(2,7),(3,7)])] func4) (λN=>1) (by simp[RB]) ?_;rintro⟨M,d⟩ ⟨g,x,L⟩ P u;simp only at g x L;simp[RB]at u|-;obtain⟨r,y⟩:=u;obtain⟨_,⟨a,rfl,c⟩,o⟩:=EH.use M g;have H:=c.ok.len;have⟨h,j,l⟩:=Vu c c.rdw a.dY.length 0 (ka a) Y (Dq.start a);rw[List.drop_zero]at j;have i:=λ{e:gG} (ht:e.p 15=some GQ)=>aeX ht a D;rw[Vv c]at i;have n:=λ{e:gG} (ht:e.p 8=some AN)=>YL ht a (a.dY.map Ei) h c dN j;have J:vH a h:=⟨c,(Zo _ _ _ _ (uI.start c) j).up dN⟩;have w:h.order.length=a.dY.length:=by rw[l.od];simp
 have m:∀{e:gG},e.p 9=some wH->rl prog cx e 9 [a.t]=some (sl (a.gx.pq.map iX.t)):=λht=>Uh ht a c;have C:∀q∈a.gx.pq,a.gx.vR q=true:=λq B=>GX.EZ (GX.Be a.gx▸B);have E:=B9 a.gx H;rw[<-GX.Be]at E;generalize a.gx.pq=b at*
 cases k:decide (b.length=0)with
 |true=>
  have z:b=[]:=List.length_eq_zero_iff.1 (of_decide_eq_true k);subst z;simp[f4,r,o,i,n,m,w,M3]
 |false=>
  have A:0<b.length:=by simp at k;exact List.length_pos_iff.2 k
  have⟨f,F,v⟩:∃f:Nat,(d% (b.length:Int))=f/\f<b.length:=⟨(d% (b.length:Int)).toNat,by have:=Int.emod_nonneg d (show(b.length:Int)≠0 by omega);omega,by have:=Int.emod_nonneg d (show(b.length:Int)≠0 by omega);have:=Int.emod_lt_of_pos d (show(0:Int)<b.length by omega);omega⟩;have K:binop .rem (G d) (G (b.length:Int))=some (G (f:Int)):=by
   rw[Da D,Int.tmod_eq_emod_of_nonneg x,F]
  have g:=C b[f] (aC v);have O:=Q3 g;have s:=λ{e:gG} (ht:e.p 10=some uQ)=>OJ ht a h b[f] J D;rw[L9 l g,df]at s;have I:decide (b=[])=false:=by simp;exact List.length_pos_iff.1 A
  simp[f4,r,y,o,i,n,m,w,I,show-9223372036854775808<=d by omega,show d<9223372036854775808 by omega,K,v,s,M3]
