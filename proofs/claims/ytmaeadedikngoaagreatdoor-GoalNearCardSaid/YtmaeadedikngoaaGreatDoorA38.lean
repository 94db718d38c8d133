/- Texts W18c to DView. -/
import Derived.Test.YtmaeadedikngoaaGreatDoorA26
set_option linter.all false
set_option maxRecDepth 100000
set_option maxHeartbeats 8000000
namespace Go.Proofs.YtmaeadedikngoaaGreatDoor
noncomputable section
open Go Go.TI
attribute [-simp] List.map_take List.map_drop List.map_append fw eQ dZ Bool.not_or Bool.not_and
attribute [simp] fq eY
def abW(c:T):Prop:=∃(a:List eZ) (b:Int),c= .tuple [sl (a.map eZ.t),dy b]/\∀d∈a,kL d
def Px{d:fy}(ht:d.p 46=some qQ)(b:dU)(a:List ed)(c:Nat)(e:jO b=true)(f:I4 a)(g:c<=a.length)(h:a.length<=1000):rl Tryz.prog cx d 46 [jU.t ⟨b,a⟩,dy c]=some (ow b (jF b) (a.take c)).t:=gU ht LA (⟨b,a⟩,c) ⟨e,f,g,h⟩
def Ql{w:dU}{b:List ed}(g:oZ w b=true)(d:jO w=true)(i:I4 b){e:Nat}(j:e<=16)(a:Nat):kL (wv w b e a):=by
 obtain⟨c,h,l⟩:=yu g;obtain⟨m,n,o,p,q,r⟩:=qG d;refine⟨Ms c h j a,d,?_,λf k=>i f (bA (bw k)),KE dq _ _ (yP c a) (uN 4 w)⟩;have:=(tV w dq).ow (w:=w) (b.take a);exact this.up du 
def Du:m6 Tryz.prog cx 20 (λh:jU×Nat=>[h.1.t,dy h.2]) (λh=>I4 h.1.dK/\h.1.dK.length<=1000000/\1<=h.2/\h.2<=16) (λ_=>abW):=by
 refine jd (tb:=⟨pt [(45,Dz.jf),(46,qQ)],ht []⟩) ew ej (iQ 138478519 [(10,[(2,6),(6,8),(6,14),(6,17)])] Tryz.func20) (λ_=>2000) (λh b g=>by simp at g;exact aP (jU.inj g.1) (by have:=g.2;omega)) dt (by simp[Tryz.f20]) ?_;rintro⟨⟨e,c⟩,a⟩ ⟨w,hl,T,I⟩ l H;simp only at w hl T I;simp at H;obtain⟨N,k⟩:=H;obtain⟨_,⟨x,y,rfl,X⟩,Q⟩:=Dz.use ⟨e,c⟩ ⟨w,hl⟩;simp[Tryz.f20,N,Q];refine dW (λJ=> ?_) (λJ=> ?_)
 ·simp;exact⟨[],12,rfl,dt⟩
 have q:oZ e c=true:=X.1 (by simpa using J);have K:jO e=true:=by
  unfold oZ at q;simp only[aB]at q;exact q.1.2
 have aN:c.length<=400:=(yu q).2.2;simp[k,show¬(a:Int)<1 by omega,show¬(16:Int)<a by omega];generalize D:(c.length+(a-1))/a=o;have aE:o<=c.length+16:=by rw[<-D];exact aS (Nat.div_le_self _ _) dq
 refine fh o dq (λm l g=>∃s d,d=m*a/\dO s≠some 0/\Gr g s 15 (((List.range m).map λi=>wv e c a (i*a)).map eZ.t)/\gF 1 g/\g.get 0=some (dA 7 0 [jU.t ⟨e,c⟩])/\dB l 1 (dy a)/\dB l 2 (.ptr 0 0 0 0)/\dB l 8 s/\dB l 9 (dy (d:Int))) ?_ ?_ dq ?_
 ·rintro m l g S _ ⟨s,d,r,E,A,n,u,k,v,B,C⟩;have a6:=n.ne (b:=0) dq;have U:d<c.length:=by
   rw[r];have k:(m+1)*a<=o*a:=aW a S;have v:o*a<=c.length+(a-1):=by rw[<-D];exact Nat.div_mul_le_self _ _
   rw[bX]at k;omega
  obtain⟨al,av,M,x⟩:=A.mJ (cx:=cx) (f:=eZ.t) ⟨n.hp,n.low,aw _⟩ Vh rfl Vi rfl dt (λ_=>rfl) (wv e c a d) du;have P:=λ{tb:fy} (ht:tb.p 46=some qQ)=>Px ht e c d K w dq dq;have O:binop .add (dy (d:Int)) (dy (a:Int))=some (dy ((d:Int)+a)):=il dq dq;obtain⟨j,Y,aX⟩:∃j:Nat,min ((d:Int)+a) (c.length:Int)=j/\j=min (d+a) c.length:=⟨min (d+a) c.length,dq,rfl⟩;have Z:d<=j:=dq;have ae:j<=c.length:=dq;have V:(c.drop d).take (j-d)=(c.drop d).take a:=by
   rw[List.take_eq_take_iff];simp;omega
  have G:=M;unfold wv at G;simp[u,k,v,B,C,P,G,U,O,Y,Z,ae,V];have hr:((List.range m).map λi=>wv e c a (i*a))++[wv e c a d]=(List.range (m+1)).map λi=>wv e c a (i*a):=by rw[List.range_succ,List.map_append,r];rfl
  rw[hr]at x;obtain⟨L,an,ap,F⟩:=x;have z:=n.sz;rw[cH]at L;exact⟨al,λj=>(ap 0 j).elim E dq,L,⟨F.hp,F.low,by have:=F.sz;omega⟩,(an 0 dq E).trans u,rfl,by rw[r];simp[Int.add_mul]⟩
 ·rintro l g ⟨s,d,r,E,A,n,u,k,v,B,C⟩;have R:¬d<c.length:=by
   rw[r,<-D];have:=Nat.div_add_mod (c.length+(a-1)) a;have aA:=Nat.mod_lt (c.length+(a-1)) (show a>0 by omega);rw[Nat.mul_comm]at this;omega
  simp[u,v,B,C,R];refine⟨.tuple [sl (((List.range o).map λi=>wv e c a (i*a)).map eZ.t),dy 0],⟨_,0,rfl,λx W=> ?_⟩,n.hp,by rw[A.rF dt];rfl⟩;obtain⟨i,_,rfl⟩:=List.mem_map.1 W;exact Ql q K w I _
 ·exact⟨dz,0,dt,dt,Gr.nil _ _,by exact⟨dt,dt,dt⟩,by simp[k]⟩
end
noncomputable section
open Go Go.TI
structure mc where
 program:List Int
 schedule:List Int
 Dg:List Int
 size:Int
 uy:Int
 deriving DecidableEq,Inhabited
def mc.cs(a:mc):List T:=[sl (a.program.map (T.int .u8)),sl (a.schedule.map (T.int .u8)),sl (a.Dg.map (T.int .u8)),.int .u8 a.size,.int .u8 a.uy]
def mc.t(a:mc):T:= .agg a.cs
@[simp] theorem mc.ag (a:mc):qu a.t [sl (a.program.map (T.int .u8)),sl (a.schedule.map (T.int .u8)),sl (a.Dg.map (T.int .u8)),.int .u8 a.size,.int .u8 a.uy] 5:=by
 unfold mc.t mc.cs;exact⟨rfl,rfl,λ_ _=>rfl,rfl,by simp[jE],λ_=>by simp,λ_ _=>by simp,dt,dt⟩
@[simp] theorem mc.fold (a0:List Int) (a1:List Int) (a2:List Int) (a3:Int) (a4:Int):T.agg [sl (a0.map (T.int .u8)),sl (a1.map (T.int .u8)),sl (a2.map (T.int .u8)),.int .u8 a3,.int .u8 a4]=mc.t ⟨a0,a1,a2,a3,a4⟩:=rfl
@[simp] theorem mc.eta (a:mc):mc.mk a.program a.schedule a.Dg a.size a.uy=a:=rfl
def mc.inj{a b:mc}(c:a.t=b.t):a=b:=by
 rcases a with⟨_,_,_,_,_⟩;rcases b with⟨_,_,_,_,_⟩;simp only[mc.t,mc.cs,T.agg.injEq,aJ]at c;obtain⟨d,e,f,g,h,_⟩:=c;obtain rfl:=ig (λ_ _=>gH) _ _ d;obtain rfl:=ig (λ_ _=>gH) _ _ e;obtain rfl:=ig (λ_ _=>gH) _ _ f;obtain rfl:=gH g;obtain rfl:=gH h;rfl
end
end Go.Proofs.YtmaeadedikngoaaGreatDoor
