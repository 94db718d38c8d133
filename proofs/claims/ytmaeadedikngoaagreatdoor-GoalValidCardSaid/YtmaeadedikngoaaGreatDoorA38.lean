/- Texts W18c to DView. -/
import Derived.Test.YtmaeadedikngoaaGreatDoorA26
set_option linter.unusedVariables false
set_option linter.unusedSimpArgs false
set_option linter.defProp false
set_option maxRecDepth 100000
set_option maxHeartbeats 8000000
namespace Go.Proofs.YtmaeadedikngoaaGreatDoor
noncomputable section
open Go Go.TI
attribute [-simp] List.map_take List.map_drop List.map_append fj eG dY Bool.not_or Bool.not_and
attribute [simp] fh eJ
def abM(c:T):Prop:=∃(a:List eK) (b:Int),c= .tuple [sl (a.map eK.t),dw b]/\∀d∈a,kH d
def Pn{d:fq}(ht:d.p 46=some qM)(b:dR)(a:List dX)(c:Nat)(e:jK b=true)(f:IV a)(g:c<=a.length)(h:a.length<=1000):rl Tryz.prog cx d 46 [jQ.t ⟨b,a⟩,dw c]=some (oo b (jA b) (a.take c)).t:=gF ht Lq (⟨b,a⟩,c) ⟨e,f,g,h⟩
def Qb{w:dR}{b:List dX}(g:oS w b=true)(d:jK w=true)(i:IV b){e:Nat}(j:e<=16)(a:Nat):kH (wh w b e a):=by
 obtain⟨c,h,l⟩:=yl g;obtain⟨m,n,o,p,q,r⟩:=qB d;refine⟨Mh c h j a,d,?_,λf k=>i f (bA (bw k)),Kv dj _ _ (yG c a) (uH 4 w)⟩;have:=(tO w dj).oo (w:=w) (b.take a);exact this.up dq 
def DI:mU Tryz.prog cx 20 (λh:jQ×Nat=>[h.1.t,dw h.2]) (λh=>IV h.1.dH/\h.1.dH.length<=1000000/\1<=h.2/\h.2<=16) (λ_=>abM):=by
 refine iZ (tb:=⟨pt [(45,DQ.jb),(46,qM)],ht []⟩) ei eg (iL 138478519 [(10,[(2,6),(6,8),(6,14),(6,17)])] Tryz.func20) (λ_=>2000) (λh b g=>by simp at g;exact aP (jQ.inj g.1) (by have:=g.2;omega)) dp (by simp[Tryz.f20]) ?_;rintro⟨⟨e,c⟩,a⟩ ⟨w,hl,T,I⟩ l H;simp only at w hl T I;simp at H;obtain⟨N,k⟩:=H;obtain⟨_,⟨x,y,rfl,X⟩,Q⟩:=DQ.use ⟨e,c⟩ ⟨w,hl⟩;simp[Tryz.f20,N,Q];refine dU (λJ=> ?_) (λJ=> ?_)
 ·simp;exact⟨[],12,rfl,dp⟩
 have q:oS e c=true:=X.1 (by simpa using J);have K:jK e=true:=by
  unfold oS at q;simp only[aB]at q;exact q.1.2
 have aN:c.length<=400:=(yl q).2.2;simp[k,show¬(a:Int)<1 by omega,show¬(16:Int)<a by omega];generalize D:(c.length+(a-1))/a=o;have aE:o<=c.length+16:=by rw[<-D];exact aS (Nat.div_le_self _ _) dj
 refine fc o dj (λm l g=>∃s d,d=m*a/\dL s≠some 0/\Gr g s 15 (((List.range m).map λi=>wh e c a (i*a)).map eK.t)/\gu 1 g/\g.get 0=some (dy 7 0 [jQ.t ⟨e,c⟩])/\dz l 1 (dw a)/\dz l 2 (.ptr 0 0 0 0)/\dz l 8 s/\dz l 9 (dw (d:Int))) ?_ ?_ dj ?_
 ·rintro m l g S _ ⟨s,d,r,E,A,n,u,k,v,B,C⟩;have a6:=n.ne (b:=0) dj;have U:d<c.length:=by
   rw[r];have k:(m+1)*a<=o*a:=aW a S;have v:o*a<=c.length+(a-1):=by rw[<-D];exact Nat.div_mul_le_self _ _
   rw[bX]at k;omega
  obtain⟨al,av,M,x⟩:=A.mM (cx:=cx) (f:=eK.t) ⟨n.hp,n.low,aw _⟩ U5 rfl U6 rfl dp (λ_=>rfl) (wh e c a d) dq;have P:=λ{tb:fq} (ht:tb.p 46=some qM)=>Pn ht e c d K w dj dj;have O:binop .add (dw (d:Int)) (dw (a:Int))=some (dw ((d:Int)+a)):=gY dj dj;obtain⟨j,Y,aX⟩:∃j:Nat,min ((d:Int)+a) (c.length:Int)=j/\j=min (d+a) c.length:=⟨min (d+a) c.length,dj,rfl⟩;have Z:d<=j:=dj;have ae:j<=c.length:=dj;have V:(c.drop d).take (j-d)=(c.drop d).take a:=by
   rw[List.take_eq_take_iff];simp;omega
  have G:=M;unfold wh at G;simp[u,k,v,B,C,P,G,U,O,Y,Z,ae,V];have hr:((List.range m).map λi=>wh e c a (i*a))++[wh e c a d]=(List.range (m+1)).map λi=>wh e c a (i*a):=by rw[List.range_succ,List.map_append,r];rfl
  rw[hr]at x;obtain⟨L,an,ap,F⟩:=x;have z:=n.sz;rw[cF]at L;exact⟨al,λj=>(ap 0 j).elim E dj,L,⟨F.hp,F.low,by have:=F.sz;omega⟩,(an 0 dj E).trans u,rfl,by rw[r];simp[Int.add_mul]⟩
 ·rintro l g ⟨s,d,r,E,A,n,u,k,v,B,C⟩;have R:¬d<c.length:=by
   rw[r,<-D];have:=Nat.div_add_mod (c.length+(a-1)) a;have aA:=Nat.mod_lt (c.length+(a-1)) (show a>0 by omega);rw[Nat.mul_comm]at this;omega
  simp[u,v,B,C,R];refine⟨.tuple [sl (((List.range o).map λi=>wh e c a (i*a)).map eK.t),dw 0],⟨_,0,rfl,λx W=> ?_⟩,n.hp,by rw[A.ry dp];rfl⟩;obtain⟨i,_,rfl⟩:=List.mem_map.1 W;exact Qb q K w I _
 ·exact⟨dx,0,dp,dp,Gr.nil _ _,by exact⟨dp,dp,dp⟩,by simp[k]⟩
end
noncomputable section
open Go Go.TI
structure mn where
 program:List Int
 schedule:List Int
 Dw:List Int
 size:Int
 uq:Int
 deriving DecidableEq,Inhabited
def mn.cs(a:mn):List T:=[sl (a.program.map (T.int .u8)),sl (a.schedule.map (T.int .u8)),sl (a.Dw.map (T.int .u8)),.int .u8 a.size,.int .u8 a.uq]
def mn.t(a:mn):T:= .agg a.cs
@[simp] theorem mn.ag (a:mn):qp a.t [sl (a.program.map (T.int .u8)),sl (a.schedule.map (T.int .u8)),sl (a.Dw.map (T.int .u8)),.int .u8 a.size,.int .u8 a.uq] 5:=by
 unfold mn.t mn.cs;exact⟨rfl,rfl,λ_ _=>rfl,rfl,by simp[jz],λ_=>by simp,λ_ _=>by simp,dp,dp⟩
@[simp] theorem mn.fold (a0:List Int) (a1:List Int) (a2:List Int) (a3:Int) (a4:Int):T.agg [sl (a0.map (T.int .u8)),sl (a1.map (T.int .u8)),sl (a2.map (T.int .u8)),.int .u8 a3,.int .u8 a4]=mn.t ⟨a0,a1,a2,a3,a4⟩:=rfl
@[simp] theorem mn.eta (a:mn):mn.mk a.program a.schedule a.Dw a.size a.uq=a:=rfl
def mn.inj{a b:mn}(c:a.t=b.t):a=b:=by
 rcases a with⟨_,_,_,_,_⟩;rcases b with⟨_,_,_,_,_⟩;simp only[mn.t,mn.cs,T.agg.injEq,aJ]at c;obtain⟨d,e,f,g,h,_⟩:=c;obtain rfl:=gW (λ_ _=>gh) _ _ d;obtain rfl:=gW (λ_ _=>gh) _ _ e;obtain rfl:=gW (λ_ _=>gh) _ _ f;obtain rfl:=gh g;obtain rfl:=gh h;rfl
end
end Go.Proofs.YtmaeadedikngoaaGreatDoor
