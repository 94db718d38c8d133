/- Texts W18c to DView. -/
import Derived.Test.YtmaeadedikngoaaGreatDoorA24
set_option linter.all false
set_option maxRecDepth 100000
set_option maxHeartbeats 8000000
namespace Go.Proofs.YtmaeadedikngoaaGreatDoor
noncomputable section
open Go Go.TI
attribute [-simp] List.map_take List.map_drop List.map_append fH fh ej Bool.not_or Bool.not_and
attribute [simp] fG fj
def ads(c:T):Prop:=∃(a:List fF) (b:Int),c= .tuple [sl (a.map fF.t),dG b]/\∀d∈a,ny d
def QB{d:fN}(ht:d.p 46=some rL)(b:ee)(a:List eK)(c:Nat)(e:j4 b=true)(f:JU a)(g:c<=a.length)(h:a.length<=1000):rl Tryz.prog cx d 46 [kh.t ⟨b,a⟩,dG c]=some (qz b (jT b) (a.take c)).t:=iv ht Mz (⟨b,a⟩,c) ⟨e,f,g,h⟩
def Rp{w:ee}{b:List eK}(g:pL w b=true)(d:j4 w=true)(i:JU b){e:Nat}(j:e<=16)(a:Nat):ny (wY w b e a):=by
 obtain⟨c,h,l⟩:=yX g;obtain⟨m,n,o,p,q,r⟩:=tI d;refine⟨Ns c h j a,d,?_,λf k=>i f (bF (bE k)),LC dB _ _ (zp c a) (vy 4 w)⟩;have:=(uw w dB).qz (w:=w) (b.take a);exact this.up dD 
def Es:nK Tryz.prog cx 20 (λh:kh×Nat=>[h.1.t,dG h.2]) (λh=>JU h.1.dS/\h.1.dS.length<=1000000/\1<=h.2/\h.2<=16) (λ_=>ads):=by
 refine ju (tb:=⟨pt [(45,Ey.jx),(46,rL)],ht []⟩) fc fa (je 138478519 [(10,[(2,6),(6,8),(6,14),(6,17)])] Tryz.func20) (λ_=>2000) (λh b g=>by simp at g;exact aP (kh.inj g.1) (by have:=g.2;omega)) dC (by simp[Tryz.f20]) ?_;rintro⟨⟨e,c⟩,a⟩ ⟨w,hl,T,I⟩ l H;simp only at w hl T I;simp at H;obtain⟨N,k⟩:=H;obtain⟨_,⟨x,y,rfl,X⟩,Q⟩:=Ey.use ⟨e,c⟩ ⟨w,hl⟩;simp[Tryz.f20,N,Q];refine em (λJ=> ?_) (λJ=> ?_)
 ·simp;exact⟨[],12,rfl,dC⟩
 have q:pL e c=true:=X.1 (by simpa using J);have K:j4 e=true:=by
  unfold pL at q;simp only[ay]at q;exact q.1.2
 have aN:c.length<=400:=(yX q).2.2;simp[k,show¬(a:Int)<1 by omega,show¬(16:Int)<a by omega];generalize D:(c.length+(a-1))/a=o;have aE:o<=c.length+16:=by rw[<-D];exact aS (Nat.div_le_self _ _) dB
 refine fI o dB (λm l g=>∃s d,d=m*a/\dU s≠some 0/\Gr g s 15 (((List.range m).map λi=>wY e c a (i*a)).map fF.t)/\ij 1 g/\g.get 0=some (dI 7 0 [kh.t ⟨e,c⟩])/\dJ l 1 (dG a)/\dJ l 2 (.ptr 0 0 0 0)/\dJ l 8 s/\dJ l 9 (dG (d:Int))) ?_ ?_ dB ?_
 ·rintro m l g S _ ⟨s,d,r,E,A,n,u,k,v,B,C⟩;have a6:=n.ne (b:=0) dB;have U:d<c.length:=by
   rw[r];have k:(m+1)*a<=o*a:=aY a S;have v:o*a<=c.length+(a-1):=by rw[<-D];exact Nat.div_mul_le_self _ _
   rw[bX]at k;omega
  obtain⟨al,av,M,x⟩:=A.nq (cx:=cx) (f:=fF.t) ⟨n.hp,n.low,aw _⟩ Wu rfl Ww rfl dC (λ_=>rfl) (wY e c a d) dD;have P:=λ{tb:fN} (ht:tb.p 46=some rL)=>QB ht e c d K w dB dB;have O:binop .add (dG (d:Int)) (dG (a:Int))=some (dG ((d:Int)+a)):=iy dB dB;obtain⟨j,Y,aX⟩:∃j:Nat,min ((d:Int)+a) (c.length:Int)=j/\j=min (d+a) c.length:=⟨min (d+a) c.length,dB,rfl⟩;have Z:d<=j:=dB;have ae:j<=c.length:=dB;have V:(c.drop d).take (j-d)=(c.drop d).take a:=by
   rw[List.take_eq_take_iff];simp;omega
  have G:=M;unfold wY at G;simp[u,k,v,B,C,P,G,U,O,Y,Z,ae,V];have hr:((List.range m).map λi=>wY e c a (i*a))++[wY e c a d]=(List.range (m+1)).map λi=>wY e c a (i*a):=by rw[List.range_succ,List.map_append,r];rfl
  rw[hr]at x;obtain⟨L,an,ap,F⟩:=x;have z:=n.sz;rw[cM]at L;exact⟨al,λj=>(ap 0 j).elim E dB,L,⟨F.hp,F.low,by have:=F.sz;omega⟩,(an 0 dB E).trans u,rfl,by rw[r];simp[Int.add_mul]⟩
 ·rintro l g ⟨s,d,r,E,A,n,u,k,v,B,C⟩;have R:¬d<c.length:=by
   rw[r,<-D];have:=Nat.div_add_mod (c.length+(a-1)) a;have aA:=Nat.mod_lt (c.length+(a-1)) (show a>0 by omega);rw[Nat.mul_comm]at this;omega
  simp[u,v,B,C,R];refine⟨.tuple [sl (((List.range o).map λi=>wY e c a (i*a)).map fF.t),dG 0],⟨_,0,rfl,λx W=> ?_⟩,n.hp,by rw[A.rn dC];rfl⟩;obtain⟨i,_,rfl⟩:=List.mem_map.1 W;exact Rp q K w I _
 ·exact⟨dH,0,dC,dC,Gr.nil _ _,by exact⟨dC,dC,dC⟩,by simp[k]⟩
end
noncomputable section
open Go Go.TI
structure mN where
 program:List Int
 schedule:List Int
 Eg:List Int
 size:Int
 uY:Int
 deriving DecidableEq,Inhabited
def mN.cs(a:mN):List T:=[sl (a.program.map (T.int .u8)),sl (a.schedule.map (T.int .u8)),sl (a.Eg.map (T.int .u8)),.int .u8 a.size,.int .u8 a.uY]
def mN.t(a:mN):T:= .agg a.cs
@[simp] theorem mN.ag (a:mN):qZ a.t [sl (a.program.map (T.int .u8)),sl (a.schedule.map (T.int .u8)),sl (a.Eg.map (T.int .u8)),.int .u8 a.size,.int .u8 a.uY] 5:=by
 unfold mN.t mN.cs;exact⟨rfl,rfl,λ_ _=>rfl,rfl,by simp[jS],λ_=>by simp,λ_ _=>by simp,dC,dC⟩
@[simp] theorem mN.fold (a0:List Int) (a1:List Int) (a2:List Int) (a3:Int) (a4:Int):T.agg [sl (a0.map (T.int .u8)),sl (a1.map (T.int .u8)),sl (a2.map (T.int .u8)),.int .u8 a3,.int .u8 a4]=mN.t ⟨a0,a1,a2,a3,a4⟩:=rfl
@[simp] theorem mN.eta (a:mN):mN.mk a.program a.schedule a.Eg a.size a.uY=a:=rfl
def mN.inj{a b:mN}(c:a.t=b.t):a=b:=by
 rcases a with⟨_,_,_,_,_⟩;rcases b with⟨_,_,_,_,_⟩;simp only[mN.t,mN.cs,T.agg.injEq,aK]at c;obtain⟨d,e,f,g,h,_⟩:=c;obtain rfl:=iA (λ_ _=>io) _ _ d;obtain rfl:=iA (λ_ _=>io) _ _ e;obtain rfl:=iA (λ_ _=>io) _ _ f;obtain rfl:=io g;obtain rfl:=io h;rfl
end
end Go.Proofs.YtmaeadedikngoaaGreatDoor
