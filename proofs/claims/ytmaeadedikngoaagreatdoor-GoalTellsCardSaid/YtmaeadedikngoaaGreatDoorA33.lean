/- Texts W18c to DView. -/
import Derived.Test.YtmaeadedikngoaaGreatDoorA24
set_option linter.all false
set_option maxRecDepth 100000
set_option maxHeartbeats 8000000
namespace Go.Proofs.YtmaeadedikngoaaGreatDoor
noncomputable section
open Go Go.TI
attribute [-simp] List.map_take List.map_drop List.map_append fG fg ei Bool.not_or Bool.not_and
attribute [simp] fF fh
def adF(c:T):Prop:=∃(a:List eZ) (b:Int),c= .tuple [sl (a.map eZ.t),dE b]/\∀d∈a,kq d
def QS{d:fJ}(ht:d.p 46=some rO)(b:d8)(a:List ez)(c:Nat)(e:j3 b=true)(f:Kb a)(g:c<=a.length)(h:a.length<=1000):rl Tryz.prog cx d 46 [kc.t ⟨b,a⟩,dE c]=some (o9 b (jT b) (a.take c)).t:=im ht MQ (⟨b,a⟩,c) ⟨e,f,g,h⟩
def RD{w:d8}{b:List ez}(g:pQ w b=true)(d:j3 w=true)(i:Kb b){e:Nat}(j:e<=16)(a:Nat):kq (wZ w b e a):=by
 obtain⟨c,h,l⟩:=yZ g;obtain⟨m,n,o,p,q,r⟩:=rG d;refine⟨NJ c h j a,d,?_,λf k=>i f (bG (bF k)),LQ dz _ _ (zt c a) (vy 4 w)⟩;have:=(uv w dz).o9 (w:=w) (b.take a);exact this.up dB 
def EA:nO Tryz.prog cx 20 (λh:kc×Nat=>[h.1.t,dE h.2]) (λh=>Kb h.1.dO/\h.1.dO.length<=1000000/\1<=h.2/\h.2<=16) (λ_=>adF):=by
 refine jt (tb:=⟨pt [(45,EF.jv),(46,rO)],ht []⟩) fa eQ (iR 138478519 [(10,[(2,6),(6,8),(6,14),(6,17)])] Tryz.func20) (λ_=>2000) (λh b g=>by simp at g;exact aR (kc.inj g.1) (by have:=g.2;omega)) dA (by simp[Tryz.f20]) ?_;rintro⟨⟨e,c⟩,a⟩ ⟨w,hl,T,I⟩ l H;simp only at w hl T I;simp at H;obtain⟨N,k⟩:=H;obtain⟨_,⟨x,y,rfl,X⟩,Q⟩:=EF.use ⟨e,c⟩ ⟨w,hl⟩;simp[Tryz.f20,N,Q];refine ee (λJ=> ?_) (λJ=> ?_)
 ·simp;exact⟨[],12,rfl,dA⟩
 have q:pQ e c=true:=X.1 (by simpa using J);have K:j3 e=true:=by
  unfold pQ at q;simp only[aB]at q;exact q.1.2
 have aN:c.length<=400:=(yZ q).2.2;simp[k,show¬(a:Int)<1 by omega,show¬(16:Int)<a by omega];generalize D:(c.length+(a-1))/a=o;have aE:o<=c.length+16:=by rw[<-D];exact aS (Nat.div_le_self _ _) dz
 refine fy o dz (λm l g=>∃s d,d=m*a/\dS s≠some 0/\Gr g s 15 (((List.range m).map λi=>wZ e c a (i*a)).map eZ.t)/\ig 1 g/\g.get 0=some (dG 7 0 [kc.t ⟨e,c⟩])/\dH l 1 (dE a)/\dH l 2 (.ptr 0 0 0 0)/\dH l 8 s/\dH l 9 (dE (d:Int))) ?_ ?_ dz ?_
 ·rintro m l g S _ ⟨s,d,r,E,A,n,u,k,v,B,C⟩;have a6:=n.ne (b:=0) dz;have U:d<c.length:=by
   rw[r];have k:(m+1)*a<=o*a:=aW a S;have v:o*a<=c.length+(a-1):=by rw[<-D];exact Nat.div_mul_le_self _ _
   rw[cd]at k;omega
  obtain⟨al,av,M,x⟩:=A.nd (cx:=cx) (f:=eZ.t) ⟨n.hp,n.low,aw _⟩ WN rfl WO rfl dA (λ_=>rfl) (wZ e c a d) dB;have P:=λ{tb:fJ} (ht:tb.p 46=some rO)=>QS ht e c d K w dz dz;have O:binop .add (dE (d:Int)) (dE (a:Int))=some (dE ((d:Int)+a)):=ik dz dz;obtain⟨j,Y,aX⟩:∃j:Nat,min ((d:Int)+a) (c.length:Int)=j/\j=min (d+a) c.length:=⟨min (d+a) c.length,dz,rfl⟩;have Z:d<=j:=dz;have ae:j<=c.length:=dz;have V:(c.drop d).take (j-d)=(c.drop d).take a:=by
   rw[List.take_eq_take_iff];simp;omega
  have G:=M;unfold wZ at G;simp[u,k,v,B,C,P,G,U,O,Y,Z,ae,V];have hr:((List.range m).map λi=>wZ e c a (i*a))++[wZ e c a d]=(List.range (m+1)).map λi=>wZ e c a (i*a):=by rw[List.range_succ,List.map_append,r];rfl
  rw[hr]at x;obtain⟨L,an,ap,F⟩:=x;have z:=n.sz;rw[cK]at L;exact⟨al,λj=>(ap 0 j).elim E dz,L,⟨F.hp,F.low,by have:=F.sz;omega⟩,(an 0 dz E).trans u,rfl,by rw[r];simp[Int.add_mul]⟩
 ·rintro l g ⟨s,d,r,E,A,n,u,k,v,B,C⟩;have R:¬d<c.length:=by
   rw[r,<-D];have:=Nat.div_add_mod (c.length+(a-1)) a;have aA:=Nat.mod_lt (c.length+(a-1)) (show a>0 by omega);rw[Nat.mul_comm]at this;omega
  simp[u,v,B,C,R];refine⟨.tuple [sl (((List.range o).map λi=>wZ e c a (i*a)).map eZ.t),dE 0],⟨_,0,rfl,λx W=> ?_⟩,n.hp,by rw[A.qJ dA];rfl⟩;obtain⟨i,_,rfl⟩:=List.mem_map.1 W;exact RD q K w I _
 ·exact⟨dF,0,dA,dA,Gr.nil _ _,by exact⟨dA,dA,dA⟩,by simp[k]⟩
end
noncomputable section
open Go Go.TI
structure mD where
 program:List Int
 schedule:List Int
 Eo:List Int
 size:Int
 uZ:Int
 deriving DecidableEq,Inhabited
def mD.cs(a:mD):List T:=[sl (a.program.map (T.int .u8)),sl (a.schedule.map (T.int .u8)),sl (a.Eo.map (T.int .u8)),.int .u8 a.size,.int .u8 a.uZ]
def mD.t(a:mD):T:= .agg a.cs
@[simp] theorem mD.ag (a:mD):rh a.t [sl (a.program.map (T.int .u8)),sl (a.schedule.map (T.int .u8)),sl (a.Eo.map (T.int .u8)),.int .u8 a.size,.int .u8 a.uZ] 5:=by
 unfold mD.t mD.cs;exact⟨rfl,rfl,λ_ _=>rfl,rfl,by simp[jS],λ_=>by simp,λ_ _=>by simp,dA,dA⟩
@[simp] theorem mD.fold (a0:List Int) (a1:List Int) (a2:List Int) (a3:Int) (a4:Int):T.agg [sl (a0.map (T.int .u8)),sl (a1.map (T.int .u8)),sl (a2.map (T.int .u8)),.int .u8 a3,.int .u8 a4]=mD.t ⟨a0,a1,a2,a3,a4⟩:=rfl
@[simp] theorem mD.eta (a:mD):mD.mk a.program a.schedule a.Eo a.size a.uZ=a:=rfl
def mD.inj{a b:mD}(c:a.t=b.t):a=b:=by
 rcases a with⟨_,_,_,_,_⟩;rcases b with⟨_,_,_,_,_⟩;simp only[mD.t,mD.cs,T.agg.injEq,aL]at c;obtain⟨d,e,f,g,h,_⟩:=c;obtain rfl:=iA (λ_ _=>ir) _ _ d;obtain rfl:=iA (λ_ _=>ir) _ _ e;obtain rfl:=iA (λ_ _=>ir) _ _ f;obtain rfl:=ir g;obtain rfl:=ir h;rfl
end
end Go.Proofs.YtmaeadedikngoaaGreatDoor
