/- Texts X15 to X17. -/
import Derived.Test.YtmaeadedikngoaaGreatDoorA46
set_option linter.all false
set_option maxRecDepth 100000
set_option maxHeartbeats 8000000
namespace Go.Proofs.YtmaeadedikngoaaGreatDoor
noncomputable section
open Go Go.TI
attribute [-simp] List.map_take List.map_drop List.map_append fw eQ dZ Bool.not_or Bool.not_and
attribute [simp] fq eY
def vH:gu:=⟨eZ×jy,λa=>[a.1.t,a.2.t],λa=>kL a.1/\a.2.kG.length<=1000000,λa=> .bool (a.1.gx.vR a.2),λa c b=>by simp at b;rw[eZ.inj b.1,jy.inj b.2]⟩
def L4{b:fy}(ht:b.p 21=some tc)(a:eZ)(c:kL a):rl Tryz.prog cx b 21 [a.t]=some (.tuple [fM.t ⟨a,a.gx.st⟩,.bool true]):=gU ht Ly a c
def Nz:vH.Ok Tryz.prog cx 14:=by
 refine gX (tb:=⟨pt [(21,tc),(23,vI)],ht []⟩) ew ej (iQ 127 [] Tryz.func14) (λ_=>100) (by simp[vH]) (by simp[vH,Tryz.f14]) ?_;rintro⟨c,d⟩ ⟨a,hl⟩ g b;simp only at a hl;simp[vH]at b|-;obtain⟨e,f⟩:=b;simp[Tryz.f14,e,f,L4,a,RJ,(⟨a,rfl⟩:zK ⟨c,c.gx.st⟩),hl];exact GX.abQ _ d
def RI{c:fy}(ht:c.p 14=some vH)(b:eZ)(a:jy)(d:kL b)(hl:a.kG.length<=1000000):rl Tryz.prog cx c 14 [b.t,a.t]=some (.bool (b.gx.vR a)):=gU ht Nz (b,a) ⟨d,hl⟩
end
noncomputable section
open Go Go.TI
attribute [-simp] List.map_take List.map_drop List.map_append fw eQ dZ Bool.not_or Bool.not_and
attribute [simp] fq eY
attribute [-simp] size_cons
def J4(a:mc×Int×Int×Int×Int×Int×List Int):List T:=[a.1.t,.int .u8 a.2.1,.int .u8 a.2.2.1,.int .u8 a.2.2.2.1,.int .u8 a.2.2.2.2.1,.int .u8 a.2.2.2.2.2.1,sl (a.2.2.2.2.2.2.map (T.int .u8))]
def JN:gu:=⟨mc×Int×Int×Int×Int×Int×List Int,J4,λa=>PT a.1/\Pz a.2.1/\Pz a.2.2.1/\Pz a.2.2.2.1/\Pz a.2.2.2.2.1/\Pz a.2.2.2.2.2.1/\∀b∈a.2.2.2.2.2.2,Pz b,λ_=> .bool true,λ_ _ _=>rfl⟩
def Ut:JN.Ok Tryz.prog cx 6:=by
 refine gX (tb:=⟨pt [(8,Ny.jf),(14,vH),(15,sU),(12,If)],ht []⟩) ew ej (iQ 9444732968076826886399 [(11,[(5,9)]),(13,[(5,9)]),(14,[(2,3),(2,4)])] Tryz.func6) (λa=>20) (by simp[JN,J4]) (by simp[JN,J4,Tryz.f6]) ?_;rintro⟨v,U,a,b,N,d,B⟩ ⟨aX,Y,O,x,P,Q,aE⟩ j aA;simp only at aX Y O x P Q aE;simp[JN,J4]at aA|-;obtain⟨bH,W,bN,bS,av,bT,y⟩:=aA;obtain⟨_,⟨w,rfl,a6⟩,bn⟩:=Ny.use v aX;unfold Pz at Y O x P Q;have dd:=a6.ok.len;obtain⟨de,di⟩:=Y;have cL: -9223372036854775808<=U:=dq;have c1:U<9223372036854775808:=dq;have ae:=yQ (k:= .i64) (a:=U) (show¬(6:Int)=0 by omega);simp[Tryz.f6,bH,y,bn];refine dW (λR=> ?_) (λR=> ?_)
 ·simp
 have c9:0<w.dK.length:=by
  rcases b7:w.dK with _|_
  ·rw[b7]at R;simp at R
  ·simp
 have c7:B.length<=6:=by simp at R;omega
 simp[W,cL,c1,ae];generalize U.tmod 6=p at*
 generalize E:((hE.cons _).cons _).cons _=r;have dn:r.size=3:=by rw[<-E];rfl
 have Z:gF 0 r:=by rw[<-E];exact⟨dt,by simp[size_cons],dt⟩
 have s:r.get 1=some (dA 15 1 [w.t]):=by rw[<-E];simp[size_cons]
 have M:r.get 2=some (dA 6 1 [.agg [dy p,dy 0,dy 0,dy 0,dy 0,dz]]):=by rw[<-E];simp[size_cons]
 clear E;have G:∀l:Int,0<=l/\l<256->binop .rem (dy l) (dy (w.dK.length:Int))=some (dy (l.tmod w.dK.length)):=λl _=>yQ dq;have K:∀l:Int,0<=l/\l<256->-9223372036854775808<=l/\l<9223372036854775808:=λl h=>by omega
 refine kS (λj e=>∃(ver:Nat) (m:jy) (n:T),e.get 1=some (dA 15 1 [w.t])/\e.get 2=some (dA 6 ver [.agg [dy m.kind,dy m.a,dy m.b,dy m.c,dy m.d,n]])/\Gr e n 1 (m.kG.map (T.int .i64))/\m.kG.length<=6/\gF 0 e/\dB j 15 (.ptr 1 0 0 0)/\dB j 17 (.ptr 2 0 0 0)) (λb8=> ?_) (λb8=> ?_) ?_
 ·simp;obtain⟨cy,bs⟩:=mW.start (h:=r) (w:=2) (szw:=6) (ver:=1) (F:=[(dy p,none),(dy 0,none),(dy 0,none),(dy 0,none),(dy 0,none),(dz,some (1,[]))]) Z (by rw[M];rfl) dt;refine fh B.length dq (λI j e=>(∃ver n J,mW e 2 6 ver [(dy p,none),(dy 0,none),(dy 0,none),(dy 0,none),(dy 0,none),(n,some (1,J.map (T.int .i64)))]/\J.length=I)/\Lb 2 e 1 (dA 15 1 [w.t])/\dB j 6 (sl (B.map (T.int .u8)))/\dB j 15 (.ptr 1 0 0 0)/\dB j 16 (dy w.dK.length)/\dB j 17 (.ptr 2 0 0 0)/\dB j 18 (dy I)) ?_ ?_ dq ⟨⟨1,dz,[],cy,rfl⟩,⟨s,λp=>by have:=bs _ p;omega⟩,by simp[y]⟩
  ·rintro I j e aN b6 ⟨⟨ver,n,J,q,hl⟩,l1,y,C,ap,D,X⟩;have u:=q.get;simp at u;have x:=aE B[I] (aF aN);obtain⟨r1,r2⟩:=K _ x;obtain⟨dm,c6,bl,al⟩:=(q.gr 5 rfl).mJ (cx:=cx) (f:=T.int .i64) q.ok kK rfl oq rfl dt (λ_=>rfl) (B[I].tmod w.dK.length) du;obtain⟨a8,dk,cb⟩:=q.app 5 rfl al;obtain⟨bk,bi⟩:=cb _ rfl;simp at a8 bk bi;simp[y,C,ap,D,X,aN,u,r1,r2,G _ x,bl,a8,dS,al.1.gJ,al.1.cells,b6];exact⟨⟨_,_,_,bi,by simp[hl]⟩,l1.step bk⟩
  ·rintro j e ⟨⟨ver,n,J,q,hl⟩,l1,y,C,ap,D,X⟩;have u:=q.get;simp at u;simp[y,C,D,X];exact⟨l1.get,ver,⟨p,0,0,0,0,J⟩,n,u,q.gr 5 rfl,dw,q.ok⟩
 ·obtain⟨r1,r2⟩:=K _ O;obtain⟨r3,r4⟩:=K _ x;obtain⟨r5,ae⟩:=K _ P;obtain⟨ce,cp⟩:=K _ Q;have cv:=yQ (k:= .u8) (a:=N) (show¬(8:Int)=0 by omega);have A:=λ(e:H) (S:gF 3 e) g N=>lY (b:=2) S.hp (by have:=S.sz;omega) g N;have o:gF 3 r:=⟨Z.hp,Z.low,dq⟩;have u:=λg=>(A r o g 2).trans (aq rfl);have V:=λg L=>(A _ (o.put 2 g) L 2).trans (aq rfl);have bz:=λg L an=>(A _ ((o.put 2 g).put 2 L) an 2).trans (aq rfl);have bB:=λg L an c4=>(A _ (((o.put 2 g).put 2 L).put 2 an) c4 2).trans (aq rfl);have bu:=λ(e:H) (S:gF 3 e) (W:e.get 1=some (dA 15 1 [w.t])) g=>(A e S g 1).trans ((ao dq).trans W);have i:∀{e:H},gF 3 e/\e.get 1=some (dA 15 1 [w.t])->∀g,gF 3 (dT e 2 g)/\(dT e 2 g).get 1=some (dA 15 1 [w.t]):=λz g=>⟨z.1.put 2 g,bu _ z.1 z.2 g⟩;have a7:∀{e:H},gF 3 e/\e.get 1=some (dA 15 1 [w.t])->gF 0 e:=λz=>⟨z.1.hp,z.1.low,aw _⟩;simp[bN,bS,av,M,r1,r2,r3,r4,G _ O,G _ x,u,V,cv];refine dW (λb9=> ?_) (λb9=> ?_)
  ·simp[av,bT,r5,ae,ce,cp,G _ P,G _ Q,V,bz,bB];exact⟨(i (i (i (i ⟨o,s⟩ _) _) _) _).2,5,⟨p,a.tmod w.dK.length,b.tmod w.dK.length,N.tmod w.dK.length,d.tmod w.dK.length,[]⟩,dz,dt,Gr.nil _ _,dt,a7 (i (i (i (i ⟨o,s⟩ _) _) _) _)⟩
  ·simp;exact⟨(i (i ⟨o,s⟩ _) _).2,3,⟨p,a.tmod w.dK.length,b.tmod w.dK.length,0,0,[]⟩,dz,V _ _,Gr.nil _ _,dt,a7 (i (i ⟨o,s⟩ _) _)⟩
 rintro j e ⟨ver,m,n,s,M,bC,hl,ca,C,D⟩;simp[C,D,s,M,bC.fz,RI,Ph,a6,show m.kG.length<=1000000 by omega,VB,ca.hp]
 done
end
end Go.Proofs.YtmaeadedikngoaaGreatDoor
