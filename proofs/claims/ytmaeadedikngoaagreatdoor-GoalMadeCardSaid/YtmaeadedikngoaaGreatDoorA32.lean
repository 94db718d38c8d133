/- Texts W20i to WOc. -/
import Derived.Test.YtmaeadedikngoaaGreatDoorA31
set_option linter.unusedVariables false
set_option linter.unusedSimpArgs false
set_option maxRecDepth 100000
set_option maxHeartbeats 8000000
namespace Go.Proofs.YtmaeadedikngoaaGreatDoor
noncomputable section
open Go Go.TI
attribute [-simp] List.map_take List.map_drop List.map_append fi ei dT Bool.not_or Bool.not_and
attribute [simp] fh ew
attribute [-simp] size_cons
theorem jW{a b:Nat}(c:a<b)(d:b<=16):binop .add (.int .i64 (a:Int)) (.int .i64 1)=some (.int .i64 ((a:Int)+1)):=fQ (by omega) (by omega)
theorem Gr.ZN{a:H}{h:Nat->Prop}{g:T}{j c:Nat}{d e:List T}(f:Gr a g j d)(i:c<=11)(b:gG (FT a h c) d e):TI.pq a g=some (sl e):=by
 have:=f.Gl i b
 rcases f with⟨rfl,rfl⟩|⟨k,l,p,m,q,rfl,n,o⟩
 ·cases b;rfl
 ·rwa[Em]
theorem Zu{b:dZ}{a:Nat}(c:a<b.dw.length):b.gx.e (a:Int)=b.dw[a]:=by
 unfold GX.e pG wi dZ.gx;simp[c]
theorem An.nb{l:dZ}{i j:H}{k:T}{f:List T}{h:List fw}(b:An l i k f h)(c:Nb i j):An l j k f h:=by
 have o:=b.ok.sz
 have p:=c.ok.sz
 exact⟨b.g.mono λe d=>by obtain⟨_,_,_,_,n,_⟩:=b.g.box d;exact c.get e (H.dL n),b.a.imp λ_ _ m=>m.mono λe d=>⟨⟨d.1,by omega,d.2.2⟩,c.get e d.2.1⟩,⟨c.ok.hp,c.ok.low,by omega⟩,(c.get 0 (by omega)).trans b.b0,b.v0⟩
def h1E:H:=hE.cons ⟨0,0,0,true,false,[]⟩
def ZA(a:T):T:= .agg [.int .i64 2,.int .i64 0,.int .i64 0,.int .i64 0,.int .i64 0,a]
theorem An.Eu{j:dZ}{f b:H}{g i a:T}{e:List T}{h:List fw}{c:List Int}(o:An j f g e h)(p:G7 h1E f g a c)(k:Xt f g 6 (e++[ZA a]) i b):An j b i (e++[ZA a]) (h++[gC c]):=by
 refine o.step k (.cons (.inr (.inr ⟨_,_,rfl,.cons (fJ ..) (.cons (fJ ..) (.cons (fJ ..) (.cons (fJ ..) (.cons (fJ ..) (.cons (?_:FT b _ 3 a (sl (yy c))) .nil))))),rfl⟩)) .nil)
 have r2:=p.xt k
 exact(show nz b 1 a (yy c)from .inr r2.1).ft (d:=1) (λr n=>by obtain⟨q,_,rfl⟩:=List.mem_map.1 n;simp) λl m=>r2.2 l m
theorem MT:uX.Ok Tryz.prog cx 11:=by
 refine f8 (tb:=⟨pt [(28,ym)],ht [(26,jM IPt So Dw),(27,jM VJ (λG m r=>Mg G m r/\5-G.p.length<6) HI)]⟩) dX dU (iN 43282986612756070113897410875122319359 [] Tryz.func11) (λ_=>10000) (by simp[uX]) (by simp[uX,Tryz.f11]) ?_
 rintro(b:dZ) M c bu
 replace M:jV b:=M
 simp[uX]at bu|-
 have T:=M.ok.len
 obtain⟨n,dd⟩:∃n,n=b.dw.length:=⟨_,rfl⟩
 have ae:b.gx.mV=((fV 0 n).flatMap λ(m:Nat)=>(fV 0 n).flatMap λ(d:Nat)=>ig b.gx.vR (gR m d))++(((fV 0 n).flatMap λ(m:Nat)=>(b.gx.yK m).map gC)++(((fV 0 n).flatMap λ(m:Nat)=>(fV 0 n).flatMap λ(d:Nat)=>ig b.gx.vR (gL m d))++
  ((fV 0 n).flatMap λ(m:Nat)=>(fV (m+1) n).flatMap λ(d:Nat)=>if(b.gx.e m).dA=(b.gx.e d).dA/\lq (b.gx.e m)=true/\lq (b.gx.e d)=true then(fV 0 n).flatMap λ(o:Nat)=>(fV o n).flatMap λ(w:Nat)=>ig b.gx.vR (gA m d o w)else []))):=by
  unfold GX.mV
  rw[show b.gx.n=n from dd.symm,Aw]
  simp only[aI]
 generalize cp:((fV 0 n).flatMap λ(m:Nat)=>(fV (m+1) n).flatMap λ(d:Nat)=>if(b.gx.e m).dA=(b.gx.e d).dA/\lq (b.gx.e m)=true/\lq (b.gx.e d)=true then(fV 0 n).flatMap λ(o:Nat)=>(fV o n).flatMap λ(w:Nat)=>ig b.gx.vR (gA m d o w)else [])=aE at ae
 generalize ce:((fV 0 n).flatMap λ(m:Nat)=>(fV 0 n).flatMap λ(d:Nat)=>ig b.gx.vR (gL m d))++aE=aA at ae
 generalize cb:((fV 0 n).flatMap λ(m:Nat)=>(b.gx.yK m).map gC)++aA=bi at ae
 have c9:(b.dw.length:Int)=n:=by omega
 simp[Tryz.f11,bu,c9]
 refine mF n (λk c r=>∃h l j,An b r h l j/\j++(((fV k n).flatMap λ(m:Nat)=>(fV 0 n).flatMap λ(d:Nat)=>ig b.gx.vR (gR m d))++bi)=b.gx.mV/\TI.dt c 1=some (.ptr 0 0 0 0)/\TI.dt c 3=some h/\TI.dt c 4=some (.int .i64 n)/\TI.dt c 5=some (.int .i64 k)) ?_ (by omega) (k:=0) (by omega) ?_
 ·rintro k c r a6 ⟨h,l,j,i,f,t,v,q,s⟩
  by_cases z:k<n
  ·have I:=jW z (by omega)
   rw[ji z,aO,aI]at f
   simp[q,s,z]
   refine mF n (λu c r=>∃h l j,An b r h l j/\j++(((fV u n).flatMap λ(d:Nat)=>ig b.gx.vR (gR k d))++(((fV (k+1) n).flatMap λ(m:Nat)=>(fV 0 n).flatMap λ(d:Nat)=>ig b.gx.vR (gR m d))++bi))=b.gx.mV/\TI.dt c 1=some (.ptr 0 0 0 0)/\TI.dt c 3=some h/\TI.dt c 4=some (.int .i64 n)/\TI.dt c 5=some (.int .i64 k)/\TI.dt c 6=some (.int .i64 u)) ?_ (by omega) (k:=0) (by omega) ⟨h,l,j,i,f,by simp[t,v,q,s]⟩
   rintro u c r bz ⟨h,l,j,i,f,t,v,q,s,A⟩
   have S:=i.len T f
   by_cases B:u<n
   ·have R:=jW B (by omega)
    rw[ji B,aO,aI,<-aI]at f
    simp[t,v,q,s,A,B,i.b0]
    refine gd DA (by simp) ⟨b,gR k u,h,l⟩ ⟨rfl,i.g,⟨i.ok.hp,i.ok.low,aw _⟩,M,S,rfl⟩ ?_
    rintro Y F x
    obtain⟨vD,E⟩:=i.put rfl x
    simp[t,q,s,A,R]
    exact⟨u+1,by omega,by omega,Y,vD,_,E,f,rfl,by simp⟩
   ·rw[jL (show n<=u by omega)]at f
    simp[t,v,q,s,A,B,I]
    exact⟨k+1,by omega,by omega,h,l,j,i,f,rfl,by simp⟩
  ·rw[jL (show n<=k by omega)]at f
   simp[q,s,z]
   clear z s
   rw[<-cb]at f
   refine mF n (λk c r=>∃h l j,An b r h l j/\j++(((fV k n).flatMap λ(m:Nat)=>(b.gx.yK m).map gC)++aA)=b.gx.mV/\TI.dt c 1=some (.ptr 0 0 0 0)/\TI.dt c 3=some h/\TI.dt c 4=some (.int .i64 n)/\TI.dt c 7=some (.int .i64 k)) ?_ (by omega) (k:=0) (by omega) ⟨h,l,j,i,by simpa using f,by simp[t,v,q]⟩
   rintro k c r a6 ⟨h,l,j,i,f,t,v,q,s⟩
   by_cases z:k<n
   ·have I:=jW z (by omega)
    rw[ji z,aO,aI]at f
    simp[t,q,s,z,i.b0]
    have ef:=i.ok.sz
    have bX:=i.ok.cons ⟨1,0,0,true,false,[.int .i64 k]⟩
    refine gd (YB 6) (by simp) ⟨b,[(k:Int)],.arr r.size 0 0 1 false,.dq [] false,[]⟩ ⟨⟨rfl,.inr ⟨r.size,0,0,true,[.int .i64 k],rfl,by simp,rfl⟩,Gr.nil _ _,λd C=>by simp,⟨bX.hp,bX.low,aw _⟩,M,by simp,by simp,λy W=> ?_,?_⟩,by simp⟩ ?_
    ·rw[List.mem_singleton.1 W];exact ed.2 ⟨by omega,by simp only;omega⟩
    ·have:=Et (n:=b.gx.ev.length) T (ok:=λp=>b.gx.vR (gC p)) (go:=λp u=> !decide (u∈p)&&b.gx.mM u (ks p)) 3 [(k:Int)]
     exact aS (Nat.add_le_add_left (show _<=4913 from this) 0) (by omega)
    rintro N F ⟨Q,x,V⟩
    replace V:gG (G7 (r.cons ⟨1,0,0,true,false,[.int .i64 k]⟩) F N) Q (b.gx.yK k):=V
    have ea:(b.gx.yK k).length<=4913:=Et (show b.gx.ev.length<=16 from T) 3 _
    generalize b.gx.yK k=P at*
    have b7:=x.2.2.2.sz
    simp at b7
    have bT:Nb r F:=⟨⟨x.2.2.2.hp,x.2.2.2.low,by omega⟩,λo al=>(x.2.1 o (by simp;omega) (by simp)).trans (by rw[dH,ao (by omega)])⟩
    have E:=i.nb bT
    have a8:∀d,dE h=some d->d<r.size:=λd C=>by obtain⟨_,_,_,_,W,_⟩:=i.g.box C;exact H.dL W
    have bN:Q.length=P.length:=V.length
    have U:gG (G7 h1E F h) Q P:=V.imp λe D y=>⟨y.1,λo al=>⟨by have:=(y.2 o al).1;simp at this;show 1<=o;omega,(y.2 o al).2.1,λa7=>by have:=(y.2 o al).1;have:=a8 o a7;simp at*;omega⟩⟩
    simp
    have O:Gr F N 1 Q:=x.1
    have J:∀d,dE N=some d->d<F.size/\dE h≠some d:=λd C=>⟨by obtain⟨_,_,_,_,W,_⟩:=x.1.box C;exact H.dL W,λa7=>(x.2.2.1 d C).elim (by simp) (λD=>by have:=a8 d a7;simp at D;omega)⟩
    clear x V i bT a8 b7
    refine eQ P.length (by omega) (λG c r=>∃h l j,An b r h l j/\j++((P.drop G).map gC++(((fV (k+1) n).flatMap λ(m:Nat)=>(b.gx.yK m).map gC)++aA))=b.gx.mV/\Gr r N 1 Q/\(∀d,dE N=some d->d<r.size/\dE h≠some d)/\gG (G7 h1E r h) Q P/\TI.dt c 1=some (.ptr 0 0 0 0)/\TI.dt c 3=some h/\TI.dt c 4=some (.int .i64 n)/\TI.dt c 7=some (.int .i64 k)/\TI.dt c 8=some N/\TI.dt c 9=some (.int .i64 G)) ?_ ?_ (by omega) ⟨h,l,j,E,f,O,J,U,by simp[t,v,q,s]⟩
    ·rintro G c r aX c6 ⟨h,l,j,i,f,O,J,U,t,v,q,s,L,aN⟩
     have S:=i.len T f
     rw[aJ aX,aU,cB,<-List.singleton_append,<-aI]at f
     obtain⟨e,c7,av⟩:=U.get (k:=G) (y:=P[G]) (aB aX)
     have X:=λt:H=>O.len (cx:=cx) t Hl _ rfl
     rw[bN]at X
     obtain⟨b6,b9,ca⟩:=(show nz r 1 N Q from .inr O).idx (te:=m8) rfl rfl c7 av.1.cells
     have de:gh 0 r:=⟨i.ok.hp,i.ok.low,aw _⟩
     obtain⟨dm,F,bp,Z⟩:=i.g.uP (cx:=cx) de Iw rfl Iv rfl (by simp) (x:=ZA e) rfl (by simp;omega)
     have E:=i.Eu av Z
     unfold ZA at bp
     have eb:=i.ok.low
     simp[t,v,q,s,L,aN,X,aX,b9,ca,av.1.fT,av.1.cells,bp,c6]
     rw[aI]at f
     exact⟨dm,l++[ZA e],j++[gC P[G]],E,by simpa using f,O.mono λd C=>Z.2.1 d (J d C).1 (J d C).2,λd C=>⟨by have:=Z.2.2.2.sz;have:=(J d C).1;omega,λD=>(Z.2.2.1 d D).elim (J d C).2 (by have:=(J d C).1;omega)⟩,U.imp λ_ _ y=>y.xt Z,rfl⟩
    ·rintro c r ⟨h,l,j,i,f,O,J,U,t,v,q,s,L,aN⟩
     have X:=λt:H=>O.len (cx:=cx) t Hl _ rfl
     rw[bN]at X
     simp[t,v,q,s,L,aN,X,I]
     refine⟨k+1,by omega,by omega,h,l,j,i,by simpa using f,rfl,by simp⟩
   ·rw[jL (show n<=k by omega)]at f
    simp[q,s,z]
    clear z s
    rw[<-ce]at f
    refine mF n (λk c r=>∃h l j,An b r h l j/\j++(((fV k n).flatMap λ(m:Nat)=>(fV 0 n).flatMap λ(d:Nat)=>ig b.gx.vR (gL m d))++aE)=b.gx.mV/\TI.dt c 1=some (.ptr 0 0 0 0)/\TI.dt c 3=some h/\TI.dt c 4=some (.int .i64 n)/\TI.dt c 10=some (.int .i64 k)) ?_ (by omega) (k:=0) (by omega) ⟨h,l,j,i,by simpa using f,by simp[t,v,q]⟩
    rintro k c r a6 ⟨h,l,j,i,f,t,v,q,s⟩
    by_cases z:k<n
    ·have I:=jW z (by omega)
     rw[ji z,aO,aI]at f
     simp[q,s,z]
     refine mF n (λu c r=>∃h l j,An b r h l j/\j++(((fV u n).flatMap λ(d:Nat)=>ig b.gx.vR (gL k d))++(((fV (k+1) n).flatMap λ(m:Nat)=>(fV 0 n).flatMap λ(d:Nat)=>ig b.gx.vR (gL m d))++aE))=b.gx.mV/\TI.dt c 1=some (.ptr 0 0 0 0)/\TI.dt c 3=some h/\TI.dt c 4=some (.int .i64 n)/\TI.dt c 10=some (.int .i64 k)/\TI.dt c 11=some (.int .i64 u)) ?_ (by omega) (k:=0) (by omega) ⟨h,l,j,i,f,by simp[t,v,q,s]⟩
     rintro u c r bz ⟨h,l,j,i,f,t,v,q,s,A⟩
     have S:=i.len T f
     by_cases B:u<n
     ·have R:=jW B (by omega)
      rw[ji B,aO,aI,<-aI]at f
      simp[t,v,q,s,A,B,i.b0]
      refine gd DA (by simp) ⟨b,gL k u,h,l⟩ ⟨rfl,i.g,⟨i.ok.hp,i.ok.low,aw _⟩,M,S,rfl⟩ ?_
      rintro Y F x
      obtain⟨vD,E⟩:=i.put rfl x
      simp[t,q,s,A,R]
      exact⟨u+1,by omega,by omega,Y,vD,_,E,f,rfl,by simp⟩
     ·rw[jL (show n<=u by omega)]at f
      simp[t,v,q,s,A,B,I]
      exact⟨k+1,by omega,by omega,h,l,j,i,f,rfl,by simp⟩
    ·rw[jL (show n<=k by omega)]at f
     simp[q,s,z]
     clear z s
     rw[<-cp]at f
     refine mF n (λk c r=>∃h l j,An b r h l j/\j++((fV k n).flatMap λ(m:Nat)=>(fV (m+1) n).flatMap λ(d:Nat)=>if(b.gx.e m).dA=(b.gx.e d).dA/\lq (b.gx.e m)=true/\lq (b.gx.e d)=true then(fV 0 n).flatMap λ(o:Nat)=>(fV o n).flatMap λ(w:Nat)=>ig b.gx.vR (gA m d o w)else [])=b.gx.mV/\TI.dt c 1=some (.ptr 0 0 0 0)/\TI.dt c 3=some h/\TI.dt c 4=some (.int .i64 n)/\TI.dt c 12=some (.int .i64 k)) ?_ (by omega) (k:=0) (by omega) ⟨h,l,j,i,by simpa using f,by simp[t,v,q]⟩
     rintro k c r a6 ⟨h,l,j,i,f,t,v,q,s⟩
     by_cases z:k<n
     ·have I:=jW z (by omega)
      rw[ji z,aO]at f
      simp[q,s,z,I]
      generalize cX:((fV (k+1) n).flatMap λ(m:Nat)=>(fV (m+1) n).flatMap λ(d:Nat)=>if(b.gx.e m).dA=(b.gx.e d).dA/\lq (b.gx.e m)=true/\lq (b.gx.e d)=true then(fV 0 n).flatMap λ(o:Nat)=>(fV o n).flatMap λ(w:Nat)=>ig b.gx.vR (gA m d o w)else [])=bn at f
      refine mF n (λu c r=>k<u/\∃h l j,An b r h l j/\j++(((fV u n).flatMap λ(d:Nat)=>if(b.gx.e k).dA=(b.gx.e d).dA/\lq (b.gx.e k)=true/\lq (b.gx.e d)=true then(fV 0 n).flatMap λ(o:Nat)=>(fV o n).flatMap λ(w:Nat)=>ig b.gx.vR (gA k d o w)else [])++bn)=b.gx.mV/\TI.dt c 1=some (.ptr 0 0 0 0)/\TI.dt c 3=some h/\TI.dt c 4=some (.int .i64 n)/\TI.dt c 12=some (.int .i64 k)/\TI.dt c 13=some (.int .i64 u)) ?_ (by omega) (k:=k+1) (by omega) ⟨by omega,h,l,j,i,f,by simp[t,v,q,s]⟩
      rintro u c r bz ⟨dv,h,l,j,i,f,t,v,q,s,A⟩
      by_cases B:u<n
      ·have R:=jW B (by omega)
       have bB:k<b.dw.length:=by omega
       have bv:u<b.dw.length:=by omega
       rw[ji B,aO,aI]at f
       generalize bs:((fV (u+1) n).flatMap λ(d:Nat)=>if(b.gx.e k).dA=(b.gx.e d).dA/\lq (b.gx.e k)=true/\lq (b.gx.e d)=true then(fV 0 n).flatMap λ(o:Nat)=>(fV o n).flatMap λ(w:Nat)=>ig b.gx.vR (gA k d o w)else [])++bn=bk at f
       rw[Zu bB,Zu bv]at f
       simp[t,q,s,A,B,i.b0,bB,bv,EI]
       refine dM (λD=> ?_) (λD=> ?_)
       ·rw[ao (by rintro⟨b6,di,dk⟩;simp[b6,di,dk]at D)]at f
        simp[t,v,q,s,A,R]
        rw[cy,<-bs]at f
        exact⟨u+1,by omega,by omega,by omega,h,l,j,i,f,rfl,by simp⟩
       ·rw[aq (by simp at D;exact⟨D.1.1,D.1.2,D.2⟩)]at f
        simp
        refine mF n (λo c r=>∃h l j,An b r h l j/\j++(((fV o n).flatMap λ(o:Nat)=>(fV o n).flatMap λ(w:Nat)=>ig b.gx.vR (gA k u o w))++bk)=b.gx.mV/\TI.dt c 1=some (.ptr 0 0 0 0)/\TI.dt c 3=some h/\TI.dt c 4=some (.int .i64 n)/\TI.dt c 12=some (.int .i64 k)/\TI.dt c 13=some (.int .i64 u)/\TI.dt c 14=some (.int .i64 o)) ?_ (by omega) (k:=0) (by omega) ⟨h,l,j,i,f,by simp[t,v,q,s,A]⟩
        rintro o c r dn ⟨h,l,j,i,f,t,v,q,s,A,K⟩
        by_cases an:o<n
        ·have c1:=jW an (by omega)
         rw[ji an,aO,aI]at f
         simp[q,K,an]
         generalize cL:((fV (o+1) n).flatMap λ(o:Nat)=>(fV o n).flatMap λ(w:Nat)=>ig b.gx.vR (gA k u o w))++bk=b8 at f
         refine mF n (λw c r=>∃h l j,An b r h l j/\j++(((fV w n).flatMap λ(w:Nat)=>ig b.gx.vR (gA k u o w))++b8)=b.gx.mV/\TI.dt c 1=some (.ptr 0 0 0 0)/\TI.dt c 3=some h/\TI.dt c 4=some (.int .i64 n)/\TI.dt c 12=some (.int .i64 k)/\TI.dt c 13=some (.int .i64 u)/\TI.dt c 14=some (.int .i64 o)/\TI.dt c 15=some (.int .i64 w)) ?_ (by omega) (k:=o) (by omega) ⟨h,l,j,i,f,by simp[t,v,q,s,A,K]⟩
         rintro w c r ds ⟨h,l,j,i,f,t,v,q,s,A,K,L⟩
         have S:=i.len T f
         by_cases ap:w<n
         ·have c4:=jW ap (by omega)
          rw[ji ap,aO,aI,<-aI]at f
          simp[t,v,q,s,A,K,L,ap,i.b0]
          refine gd DA (by simp) ⟨b,gA k u o w,h,l⟩ ⟨rfl,i.g,⟨i.ok.hp,i.ok.low,aw _⟩,M,S,rfl⟩ ?_
          rintro Y F x
          obtain⟨vD,E⟩:=i.put rfl x
          simp[t,q,s,A,K,L,c4]
          exact⟨w+1,by omega,by omega,Y,vD,_,E,f,rfl,by simp⟩
         ·rw[jL (show n<=w by omega)]at f
          simp[t,v,q,s,A,K,L,ap,c1]
          exact⟨o+1,by omega,by omega,h,l,j,i,by rw[cL];exact f,rfl,by simp⟩
        ·rw[jL (show n<=o by omega)]at f
         simp[t,v,q,s,A,K,an,R]
         exact⟨u+1,by omega,by omega,by omega,h,l,j,i,by rw[bs];exact f,rfl,by simp⟩
      ·rw[jL (show n<=u by omega)]at f
       simp[t,v,q,s,A,B,I]
       exact⟨k+1,by omega,by omega,h,l,j,i,by rw[cX];exact f,rfl,by simp⟩
     ·rw[jL (show n<=k by omega)]at f
      simp[v,q,s,z]
      rw[cg,bL]at f
      rw[NN h i.g.fT,Gr.ZN i.g (by omega) i.a,f]
      exact⟨i.ok.hp,rfl⟩
 ·exact⟨.dq [] false,[],[],⟨Gr.nil _ _,.nil,by exact⟨by simp,by simp,by simp⟩,by simp,by simp⟩,ae.symm,by simp⟩
theorem Kx:pN.Ok Tryz.prog cx 122:=by
 refine f8 (tb:=⟨pt [],ht []⟩) dX dU (iN 19 [] Tryz.func122) (λf=>1) (by simp[pN]) (by simp[pN,Tryz.f122]) ?_
 rintro⟨e,g⟩ _ h a
 simp[pN]at a|-
 obtain⟨b,c⟩:=a
 by_cases d:0<=e<;>simp[Tryz.f122,b,c,d,iI]
theorem xP{c:eG}(ht:c.p 122=some pN)(a:Int)(b:Nat):rl Tryz.prog cx c 122 [.int .i64 a,.int .i64 b]=some (.bool (iI a b)):=fR ht Kx (a,b) trivial
def yj:fK:=⟨dJ×ej,λa=>[a.1.t,a.2.t],λa=>mW a.1 a.2=true/\a.1.fP.length<=1000000,λa=> .bool true,λa b c=>rfl⟩
theorem PP:yj.Ok Tryz.prog cx 121:=by
 refine f8 (tb:=⟨pt [(122,pN)],ht []⟩) dX dU (iN 35315368591455 [] Tryz.func121) (λv=>1000005) (by simp[yj]) (by simp[yj,Tryz.f121]) ?_
 rintro⟨e,w⟩ ⟨h,r⟩ a l
 simp only at h r
 simp[yj]at l|-
 obtain⟨o,p⟩:=l
 obtain⟨l1,l2,l3⟩:=nq h
 simp[Tryz.f121,o,p,l1,l2,l3]
 refine eQ e.fP.length (by omega) (λn a d=>gh 2 d/\d.get 0=some ⟨6,0,0,true,false,[e.t]⟩/\TI.dt a 2=some (.ptr 0 0 0 0)/\TI.dt a 33=some (sl (e.fP.map iC.t))/\TI.dt a 34=some (.int .i64 e.fP.length)/\TI.dt a 35=some (.int .i64 n)) ?_ ?_ (by omega) ⟨by exact⟨by simp,by simp,by simp⟩,by simp⟩
 ·rintro n a d m q ⟨c,i,j,k,f,g⟩
  have s:=qO h (aB m)
  have u:=c.ne (b:=0) (by omega)
  simp[i,j,k,f,g,m,u,c.low,xP,s,q]
  exact c.cons _
 ·rintro a d ⟨c,i,j,k,f,g⟩
  simp[f,g,c.hp]
def sq:fK:=⟨dJ×Int×Int,λa=>[a.1.t,.int .i64 a.2.1,.int .i64 a.2.2],λa=>jn a.1 a.2.1 a.2.2=true,λa=> .bool true,λa b c=>rfl⟩
theorem KQ:sq.Ok Tryz.prog cx 123:=by
 refine f8 (tb:=⟨pt [(122,pN)],ht []⟩) dX dU (iN 606826398900554784047567 [] Tryz.func123) (λl=>1) (by simp[sq]) (by simp[sq,Tryz.f123]) ?_
 rintro⟨k,a,j⟩ b m f
 replace b:jn k a j=true:=b
 simp[sq]at f|-
 obtain⟨c,d,e⟩:=f
 have hr:=sH b
 have g:a=1\/a=2\/a=3\/a=4\/a=5\/a=6\/a=7\/a=8\/a=9\/a=10\/a=11\/a=12\/a=13\/a=14\/a=15\/a=16\/a=17\/a=18\/a=19\/a=20\/a=21\/a=22\/a=23:=by omega
 rcases g with rfl|rfl|rfl|rfl|rfl|rfl|rfl|rfl|rfl|rfl|rfl|rfl|rfl|rfl|rfl|rfl|rfl|rfl|rfl|rfl|rfl|rfl|rfl
 case inr.inr.inr.inr.inr.inl|inr.inr.inr.inr.inr.inr.inl|inr.inr.inr.inr.inr.inr.inr.inl|inr.inr.inr.inr.inr.inr.inr.inr.inl|inr.inr.inr.inr.inr.inr.inr.inr.inr.inl|inr.inr.inr.inr.inr.inr.inr.inr.inr.inr.inl=>
  have hl:=kr b (by omega)
  obtain⟨n,h,i⟩:=ij hl
  simp[jn,i]at b
  simp[Tryz.f123,c,d,e,xP,hl,h,b,dS (ed.1 hl).1]
 all_goals
  simp[jn]at b
  simp[Tryz.f123,c,d,e,xP,b]
theorem Fv:nZ Tryz.prog cx 132 (λb:List Int×Int=>[sl (b.1.map (T.int .i64)),.int .i64 b.2]) (λb=>b.1.length<=1000000) (λb r=>∃o,r= .int .i64 o/\(0<=o↔b.2∈b.1)):=by
 refine jk (tb:=⟨pt [],ht []⟩) dX dU (iN 66483 [] Tryz.func132) (λ_=>1000005) (λb s a=>by simp at a;exact aR (ja (λ_ _ a=>by simpa using a) a.1) a.2) (by simp) (by simp[Tryz.f132]) ?_
 rintro⟨f,p⟩ hl c m
 replace hl:f.length<=1000000:=hl
 simp at m
 obtain⟨d,e⟩:=m
 simp[Tryz.f132,d]
 refine eQ f.length (by omega) (λl c a=>a=hE/\p∉f.take l/\TI.dt c 0=some (sl (f.map (T.int .i64)))/\TI.dt c 1=some (.int .i64 p)/\TI.dt c 7=some (.int .i64 f.length)/\TI.dt c 8=some (.int .i64 l)) ?_ ?_ (by omega) (by simp[d,e])
 ·rintro l c a j q ⟨rfl,k,d,e,h,i⟩
  simp[d,e,h,i,j]
  refine dM (λg=> ?_) (λg=> ?_)
  ·simp at g
   simp
   subst g;exact aF j
  ·simp at g
   simp[d,e,h,i,q]
   intro n;rw[bj j,List.mem_append,List.mem_singleton]at n;exact n.elim k g
 ·rintro c a ⟨rfl,k,d,e,h,i⟩
  simp[h,i]
  simpa using k
def ot:fK:=⟨List Int×Int,λa=>[sl (a.1.map (T.int .i64)),.int .i64 a.2],λa=>a.1.length<=1000000,λa=> .bool (decide (a.2∈a.1)),λa c b=>by simp at b;rw[ja (λ_ _ b=>by simpa using b) b.1,b.2]⟩
theorem HT:ot.Ok Tryz.prog cx 89:=by
 refine f8 (tb:=⟨pt [(132,Fv.jl)],ht []⟩) dX dU (iN 19 [] Tryz.func89) (λh=>1) (by simp[ot]) (by simp[ot,Tryz.f89]) ?_
 rintro⟨b,g⟩ hl j a
 replace hl:b.length<=1000000:=hl
 simp[ot]at a|-
 obtain⟨d,e⟩:=a
 obtain⟨_,⟨i,rfl,f⟩,c⟩:=Fv.use (b,g) hl
 simp[Tryz.f89,d,e,c]
 exact f
theorem yL{c:eG}(ht:c.p 89=some ot)(a:List Int)(b:Int)(hl:a.length<=1000000):rl Tryz.prog cx c 89 [sl (a.map (T.int .i64)),.int .i64 b]=some (.bool (decide (b∈a))):=fR ht HT (a,b) hl
structure EnF(w:dJ)(s:ej)(t k o:Int):Prop where
 f:mW w s=true
 th:iI t w.dp.length=true
 n:jn w k o=true
 e:Ah w s t k o=true
 c:w.fP.length<=1000000
 r:∀l∈s.dP,l.dQ.length<=1000000
def uU:fK:=⟨dJ×ej×Int×Int×Int,λa=>[a.1.t,a.2.1.t,.int .i64 a.2.2.1,.int .i64 a.2.2.2.1,.int .i64 a.2.2.2.2],λa=>EnF a.1 a.2.1 a.2.2.1 a.2.2.2.1 a.2.2.2.2/\a.2.2.2.1≠1/\a.2.2.2.1≠17,λa=> .bool true,λa b c=>rfl⟩
theorem MI:uU.Ok Tryz.prog cx 124:=by
 refine f8 (tb:=⟨pt [(89,ot)],ht []⟩) dX dU (iN 5868843906288553182383292937158044313155908148351 [] Tryz.func124) (λx=>1) (by simp[uU]) (by simp[uU,Tryz.f124]) ?_
 rintro⟨F,C,D,a,B⟩ ⟨⟨g,ht,h,b,u,hr⟩,v,w⟩ E m
 simp only at g ht h b u hr v w
 simp[uU]at m|-
 obtain⟨d,e,i,f,j⟩:=m
 have A:=sH h
 obtain⟨l1,l2,l3⟩:=nq g
 have c:a=2\/a=3\/a=4\/a=5\/a=12\/a=13\/(a=6\/a=7\/a=8\/a=9\/a=10\/a=11)\/(a=14\/a=15)\/(a=16\/a=18\/a=19)\/(a=20\/a=21)\/(a=22\/a=23):=by omega
 rcases c with rfl|rfl|rfl|rfl|rfl|rfl|c|c|c|c|c
 case inr.inr.inr.inr.inr.inr.inl=>
  obtain⟨k,a1,a2,a3⟩:=rC g (kr h (by omega))
  have hl:=hr k (az a2)
  rcases c with rfl|rfl|rfl|rfl|rfl|rfl<;>simp[Ah,a3]at b<;>simp[Tryz.f124,d,e,i,f,j,a1,a2,b,yL,hl]
 case inr.inr.inr.inr.inr.inr.inr.inl=>
  obtain⟨k,a1,a2,a3⟩:=wq g ht
  rcases c with rfl|rfl<;>simp[Ah,a3]at b<;>simp[Tryz.f124,d,e,i,f,a1,a2,b]
 case inr.inr.inr.inr.inr.inr.inr.inr.inl=>
  obtain⟨y,k,n,o,p,q,r⟩:=Ai g (nd h (by omega))
  rcases c with rfl|rfl|rfl<;>simp[Ah,r]at b<;>simp[Tryz.f124,d,e,i,f,j,n,o,p,q,b]
 case inr.inr.inr.inr.inr.inr.inr.inr.inr.inl=>
  obtain⟨k,a1,a2,a3⟩:=wq g (vi h (by omega))
  rcases c with rfl|rfl<;>simp[Ah,a3]at b<;>simp[Tryz.f124,d,e,i,f,j,a1,a2,b]
 case inr.inr.inr.inr.inr.inr.inr.inr.inr.inr=>
  have l:=qh h (by omega)
  rw[<-l2]at l
  obtain⟨z,s,t⟩:=ij l
  rcases c with rfl|rfl<;>simp[Ah,BE,t]at b<;>simp[Tryz.f124,d,e,f,j,s,b,dS (ed.1 l).1]
 all_goals
  simp[Ah]at b
  simp[Tryz.f124,d,e,i,f,b]
def oq:fK:=⟨dJ×ej×Int×Int×Int,λa=>[a.1.t,a.2.1.t,.int .i64 a.2.2.1,.int .i64 a.2.2.2.1,.int .i64 a.2.2.2.2],λa=>EnF a.1 a.2.1 a.2.2.1 a.2.2.2.1 a.2.2.2.2,λa=> .bool true,λa b c=>rfl⟩
theorem HS:oq.Ok Tryz.prog cx 79:=by
 refine f8 (tb:=⟨pt [(121,yj),(122,pN),(123,sq),(124,uU)],ht []⟩) dX dU (iN 4605278686335 [] Tryz.func79) (λF=>1) (by simp[oq]) (by simp[oq,Tryz.f79]) ?_
 rintro⟨c,e,k,b,d⟩ f I n
 replace f:EnF c e k b d:=f
 obtain⟨j,ht,o,a,D,hr⟩:=id f
 simp[oq]at n|-
 obtain⟨B,C,l,m,i⟩:=n
 have y:∀{tb:eG},tb.p 121=some yj->rl Tryz.prog cx tb 121 [c.t,e.t]=some (.bool true):=λht=>fR ht PP (c,e) ⟨j,D⟩
 have z:∀{tb:eG},tb.p 123=some sq->rl Tryz.prog cx tb 123 [c.t,.int .i64 b,.int .i64 d]=some (.bool true):=λht=>fR ht KQ (c,b,d) o
 obtain⟨q,a1,a2,a3⟩:=wq j ht
 simp[Tryz.f79,B,C,l,m,i,y,z,xP,ht,a1,a2]
 by_cases g:b=1
 ·subst g
  simp[Ah,a3]at a
  simp[a]
 by_cases h:b=17
 ·subst h
  obtain⟨G,H,s,u,v,w,x⟩:=Ai j (nd o (by omega))
  simp[Ah,a3,x]at a
  simp[i,a,s,u,v,w]
 have A:∀{tb:eG},tb.p 124=some uU->rl Tryz.prog cx tb 124 [c.t,e.t,.int .i64 k,.int .i64 b,.int .i64 d]=some (.bool true):=λht=>fR ht MI (c,e,k,b,d) ⟨f,g,h⟩
 have E:q.im=2:=by
  unfold Ah at a;rw[ao g,ao h,a3]at a
  by_cases r:q.im=2
  ·exact r
  ·rw[aq r]at a;simp at a
 simp[l,m,i,g,h,E,A]
theorem Lh{a:eG}(ht:a.p 79=some oq){w:dJ}{s:ej}{t k o:Int}(b:EnF w s t k o):rl Tryz.prog cx a 79 [w.t,s.t,.int .i64 t,.int .i64 k,.int .i64 o]=some (.bool true):=fR ht HS (w,s,t,k,o) b
end
noncomputable section
open Go Go.TI
attribute [-simp] List.map_take List.map_drop List.map_append
def lP(c:Nat)(b:List Int):Bool:=b.all λa=>iI a c
def nJ:fK:=⟨em×List Int,λa=>[a.1.t,sl (a.2.map (T.int .i64))],λa=>a.2.length<=1099511627776,λa=> .bool (lP a.1.w.dw.length a.2),λa c b=>by simp at b;rw[em.inj b.1,ja (by simp) b.2]⟩
theorem Mz:nJ.Ok Tryz.prog cx 51:=by
 refine f8 (tb:=⟨pt [],ht []⟩) dX dU (iN 4196311 [] Tryz.func51) (λo=>o.2.length+1) (by simp[nJ]) (by simp[nJ,Tryz.f51]) ?_
 rintro⟨e,b⟩ hl d m
 simp[nJ]at hl m|-
 obtain⟨p,q⟩:=m
 simp[Tryz.f51,p,q]
 refine eQ b.length (by omega) (λc d j=>j=H.cons hE ⟨16,0,0,true,false,[e.t]⟩/\TI.dt d 2=some (.ptr 0 0 0 0)/\TI.dt d 7=some (sl (b.map (T.int .i64)))/\TI.dt d 8=some (.int .i64 b.length)/\TI.dt d 9=some (.int .i64 c)/\lP e.w.dw.length (b.drop c)=lP e.w.dw.length b) ?_ ?_ (by omega) (by simp)
 ·rintro c d j i r ⟨rfl,k,h,f,g,a⟩
  rw[aJ i]at a
  simp only[lP,cA]at a
  by_cases l:b[c]<0
  ·have:iI b[c] e.w.dw.length=false:=by simp[iI];omega
   rw[this,Bool.false_and]at a
   simp[h,f,g,i,l,lP,a.symm]
  ·by_cases n:(e.w.dw.length:Int)<=b[c]
   ·have:iI b[c] e.w.dw.length=false:=by simp[iI];omega
    rw[this,Bool.false_and]at a
    simp[k,h,f,g,i,l,n,lP,a.symm]
   ·have:iI b[c] e.w.dw.length=true:=by simp[iI];omega
    rw[this,bM]at a
    simp[k,h,f,g,i,r,l,n,lP,a]
 ·rintro d j ⟨rfl,k,h,f,g,a⟩
  simp[lP]at a
  simp[f,g,lP]
  exact a
theorem EG{c:eG}(ht:c.p 51=some nJ)(b:em)(a:List Int)(hl:a.length<=1099511627776):rl Tryz.prog cx c 51 [b.t,sl (a.map (T.int .i64))]=some (.bool (lP b.w.dw.length a)):=fR ht Mz (b,a) hl
theorem qR{d:eG}(ht:d.p 51=some nJ)(a:em)(b c:Int):rl Tryz.prog cx d 51 [a.t,sl [.int .i64 b,.int .i64 c]]=some (.bool (iI b a.w.dw.length&&iI c a.w.dw.length)):=by
 have:=EG ht a [b,c] (by simp)
 simpa[lP]using this
def y7(a:dZ)(b c:Int):Bool:=iI b a.dw.length&&iI c a.dw.length&&decide (b<c)&&j7 (pG a.dw b) (pG a.dw c)&& !decide ((pG a.dw b).dA=(pG a.dw c).dA)&& !((wi a.d8.cells (pG a.dw b).obj).getD default).rX
def ES(b:dZ):Prop:=∀a∈b.dw,lq a=true->iI a.obj b.d8.cells.length=true
def ww:fK:=⟨em×Int×Int,λa=>[a.1.t,.int .i64 a.2.1,.int .i64 a.2.2],λa=>ES a.1.w,λa=> .bool (y7 a.1.w a.2.1 a.2.2),λa c b=>by simp at b;rw[em.inj b.1,b.2.1,b.2.2]⟩
theorem PG:ww.Ok Tryz.prog cx 48:=by
 refine f8 (tb:=⟨pt [(51,nJ),(87,pV)],ht []⟩) dX dU (iN 67109327 [(3,[(8,14),(10,14),(11,14)])] Tryz.func48) (λb=>1) (by simp[ww]) (by simp[ww,Tryz.f48]) ?_
 rintro⟨j,d,e⟩ r E c
 simp[ww]at r c|-
 obtain⟨g,h,i⟩:=c
 cases l:(iI d j.w.dw.length&&iI e j.w.dw.length)with
 |false=>simp[Tryz.f48,g,h,i,qR,l,y7,fH]
 |true=>
  have a:=l
  rw[ay]at a
  obtain⟨b,c,t⟩:=ij a.1
  obtain⟨k,v,x⟩:=ij a.2
  have A:=dS (ed.1 a.1).1
  have B:=dS (ed.1 a.2).1
  have n:pG j.w.dw d=b:=by simp[pG,t]
  have o:pG j.w.dw e=k:=by simp[pG,x]
  by_cases m:e<=d
  ·have:¬d<e:=by omega
   simp[Tryz.f48,g,h,i,qR,l,m,y7,fH,this]
  ·have p:d<e:=by omega
   cases f:j7 b k with
   |false=>simp[Tryz.f48,g,h,i,qR,m,y7,fH,p,Al,a.1,a.2,n,o,f]
   |true=>
    have u:lq b=true:=by unfold j7 at f;simp at f;exact f.1.1.1
    have q:=r b (az c) u
    obtain⟨D,y,z⟩:=ij q
    have s:=dS (ed.1 q).1
    cases C:decide (b.dA=k.dA)<;>
     simp[Tryz.f48,g,h,i,qR,m,y7,fH,p,Al,a.1,a.2,n,o,f,C,A,B,c,v,y,z,s,ko]
theorem Vh{d:eG}(ht:d.p 48=some ww)(a:em)(b c:Int)(e:ES a.w):rl Tryz.prog cx d 48 [a.t,.int .i64 b,.int .i64 c]=some (.bool (y7 a.w b c)):=fR ht PG (a,b,c) e
end
noncomputable section
open Go Go.TI
attribute [-simp] List.map_take List.map_drop List.map_append fi ei dT Bool.not_or Bool.not_and
attribute [simp] fh ew
attribute [-simp] size_cons
structure vK(x:em):Prop where
 w:jV x.w
 s:x.Az=x.w.gx.st
theorem vK.st{a:em}(c:vK a){e:Int}(d:iI e a.w.dw.length=true):∃b,a.Az[e.toNat]? =some b/\a.w.gx.s e=b/\mW a.w.d8 b=true/\(∀h∈b.dP,h.dQ.length<=2000):=by
 obtain⟨f,i⟩:=c.w.ok.s d
 have g:=c.w.ok.st (ed.1 d).2
 refine⟨_,by rw[c.s];exact g,f,by rw[<-f];exact i,by rw[<-f];exact(c.w.rd d).1⟩
def nN:fK:=⟨em×Int×Int,λa=>[a.1.t,.int .i64 a.2.1,.int .i64 a.2.2],λa=>vK a.1/\iI a.2.1 a.1.w.dw.length=true/\iI a.2.2 a.1.w.dw.length=true,λa=> .bool (a.1.w.gx.pI a.2.1 a.2.2),λa c b=>by simp at b;rw[em.inj b.1,b.2.1,b.2.2]⟩
theorem KN:nN.Ok Tryz.prog cx 55:=by
 refine f8 (tb:=⟨pt [(88,uT),(89,ot)],ht []⟩) dX dU (iN 36051629065113551 [(1,[(8,14),(10,14),(11,14)])] Tryz.func55) (λ_=>10) (by simp[nN]) (by simp[nN,Tryz.f55]) ?_
 rintro⟨f,i,h⟩ ⟨p,u,A⟩ Z z
 simp only at p u A
 simp[nN]at z|-
 obtain⟨M,k,N⟩:=z
 obtain⟨v,L,j,y,X,Y⟩:=p.w.at u
 obtain⟨c,I,J,K,W,n⟩:=p.w.at A
 obtain⟨D,r,S,s,T⟩:=p.st u
 have a:=GX.mM.eq_1 f.w.gx i h
 rw[K,y,S,show f.w.gx.w=f.w.d8 from rfl]at a
 have t:f.w.gx.pI i h=(pw v.kind&&f.w.gx.mM i h):=by rw[<-y];rfl
 generalize f.w.gx.pI i h=C at*
 generalize f.w.gx.mM i h=U at*
 simp[Tryz.f55,M,k,N,I,J,L,j,QF,ko]
 refine dM (λl=> ?_) (λl=> ?_)
 ·have:C=false:=by
   rw[t]
   cases P:pw v.kind with
   |false=>rfl
   |true=>
    rw[P]at l
    have ht:c.dA=v.dA:=by simpa using l
    rw[aq ht]at a
    rw[a];rfl
  simp[this]
 simp only[bI,bS,bo]at l
 obtain⟨O,Q⟩:=l
 rw[Q,bM]at t
 subst t
 rw[ao O]at a
 simp
 have o:∀b:dF,b∈D.dP->b.dQ.length<=1000000:=λb hl=>by have:=T b hl;omega
 cases B:decide (c.kind=6)with
 |true=>
  have d:c.kind=6:=by simpa using B
  obtain⟨b,l1,l2,l3⟩:=rC s (kr n (by omega))
  have hl:=o b (az l2)
  rw[aq (.inl d),l3]at a
  simp[k,l1,l2,r,j,yL,hl,a]
 |false=>
  cases e:decide (c.kind=10)with
  |true=>
   have d:c.kind=10:=by simpa using e
   obtain⟨b,l1,l2,l3⟩:=rC s (kr n (by omega))
   have hl:=o b (az l2)
   rw[aq (.inr d),l3]at a
   simp[k,e,l1,l2,r,j,yL,hl,a]
  |false=>
   have R:¬(c.kind=6\/c.kind=10):=by simp at B e;omega
   rw[ao R]at a
   cases g:decide (c.kind=8)with
   |true=>
    have d:c.kind=8:=by simpa using g
    obtain⟨b,l1,l2,l3⟩:=rC s (kr n (by omega))
    rw[aq d,l3]at a
    have hl:=o b (az l2)
    simp[k,e,g,l1,l2,r,j,a]
   |false=>
    rw[ao (by simpa using g)]at a
    cases m:decide (c.kind=17)with
    |true=>
     have d:c.kind=17:=by simpa using m
     obtain⟨V,b,E,F,G,x,H⟩:=Ai s (nd n (by omega))
     rw[aq d,H]at a
     have hl:=o b (az x)
     simp[k,e,g,m,E,F,G,x,r,j,a]
    |false=>
     rw[ao (by simpa using m)]at a
     cases q:decide (c.kind=21)with
     |true=>
      rw[aq (by simpa using q)]at a
      simp[e,g,m,q,a]
     |false=>
      rw[ao (by simpa using q)]at a
      simp[e,g,m,q,a]
def yf:fK:=⟨em×Int×Int,λa=>[a.1.t,.int .i64 a.2.1,.int .i64 a.2.2],λa=>vK a.1,λa=> .bool ((iI a.2.1 a.1.w.dw.length&&iI a.2.2 a.1.w.dw.length)&&a.1.w.gx.Nv a.2.1 a.2.2),λa c b=>by simp at b;rw[em.inj b.1,b.2.1,b.2.2]⟩
theorem PK:yf.Ok Tryz.prog cx 50:=by
 refine f8 (tb:=⟨pt [(51,nJ)],ht []⟩) dX dU (iN 1238093369775042453301102031 [(3,[(8,14),(10,14),(11,14)])] Tryz.func50) (λ_=>100) (by simp[yf]) (by simp[yf,Tryz.f50]) ?_
 rintro⟨f,a,b⟩ p h J
 replace p:vK f:=p
 simp[yf]at J|-
 obtain⟨D,i,u⟩:=J
 cases z:(iI a f.w.dw.length&&iI b f.w.dw.length)with
 |false=>simp[Tryz.f50,D,i,u,qR,z,fH]
 |true=>
  have N:=z
  rw[ay]at N
  obtain⟨G,K⟩:=N
  obtain⟨H,a1,a2,a3,a4,a5⟩:=p.w.at G
  obtain⟨A,I,a7,R,T,a8⟩:=p.w.at K
  obtain⟨S,O,av,aA,bN⟩:=p.st G
  obtain⟨P,aN,aX,a6⟩:=wq aA T
  have d:=GX.Nv.eq_1 f.w.gx a b
  rw[a3,R,av,a6]at d
  generalize f.w.gx.Nv a b=Q at*
  obtain⟨e,rfl,bu⟩:=jV.nat G
  obtain⟨c,rfl,bz⟩:=jV.nat K
  have bB:=p.w.ok.len
  rw[cF]at a1 I O
  by_cases bv:c<e
  rotate_left
  ·rw[bg (show¬(c:Int)<e by omega)]at d
   simp[Tryz.f50,D,i,u,qR,z,fH,d,show e<=c by omega]
  have X:=EK f.w.gx (lo:=(c:Int)+1) (hi:=e) (a:=c+1) (b:=e) (λo=> !decide (o.dA=A.dA)) (by omega) rfl
  rw[X,show f.w.gx.ev=f.w.dw from rfl,bw (show(c:Int)<e by omega)]at d
  have W:binop .add (.int .i64 (c:Int)) (.int .i64 1)=some (.int .i64 ((c:Int)+1)):=fQ (by omega) (by omega)
  have aE:ke ((c:Int)+1)=some (c+1):=by have:=dS (show(0:Int)<=((c+1:Nat):Int)by omega);simpa using this
  simp[Tryz.f50,D,i,u,qR,z,fH,show¬e<=c by omega,a1,I,ko]
  refine dM (λs=> ?_) (λs=> ?_)
  ·have:Q=false:=by
    rw[cd];intro g
    rw[d]at g
    simp only[ay,bR,aL,bP,bo]at g s
    obtain⟨⟨⟨⟨⟨⟨⟨_,bn⟩,U⟩,r⟩,l⟩,bp⟩,bi⟩,bk⟩:=g
    simp[U,r,l]at s
    omega
   simp[this]
  simp only[bI,Bool.and_eq_false_iff,bS,bo,aL]at s
  obtain⟨⟨⟨ae,al⟩,an⟩,ap⟩:=s
  rw[bw al,bw an,bg ap,show(decide (H.kind=18)||decide (H.kind=19))=true by simpa using ae]at d
  simp[-List.length_take,-List.length_drop,i,u,W,aE,show c+1<=e by omega,show e<=f.w.dw.length by omega]
  have bs:((f.w.dw.drop (c+1)).take (e-(c+1))).length<=16:=by simp;omega
  generalize(f.w.dw.drop (c+1)).take (e-(c+1))=n at*
  refine eQ n.length (by omega) (λy h g=>gh 4 g/\g.get 0=some ⟨16,0,0,true,false,[f.t]⟩/\g.get 2=some ⟨7,0,1,true,false,[H.t]⟩/\g.get 3=some ⟨7,0,1,true,false,[A.t]⟩/\((n.drop y).all λo=> !decide (o.dA=A.dA))=(n.all λo=> !decide (o.dA=A.dA))/\TI.dt h 1=some (.int .i64 e)/\TI.dt h 3=some (.ptr 0 0 0 0)/\TI.dt h 7=some (.ptr 2 0 0 0)/\TI.dt h 8=some (.ptr 3 0 0 0)/\TI.dt h 67=some (sl (n.map dN.t))/\TI.dt h 68=some (.int .i64 n.length)/\TI.dt h 69=some (.int .i64 y)) ?_ ?_ (by omega) ?_
  ·rintro y h g L V ⟨j,B,C,q,k,i,E,r,l,F,v,x⟩
   have Y:=j.ne (b:=0) (by omega)
   have Z:=j.ne (b:=2) (by omega)
   have M:=j.ne (b:=3) (by omega)
   rw[aJ L,cA]at k
   simp[q,l,F,v,x,M,j.low,L]
   generalize n[y]=o at*
   refine dM (λm=> ?_) (λm=> ?_)
   ·rw[m]at k
    rw[<-k]at d
    simp at d
    simp[d,j.hp]
   ·rw[m]at k
    simp[i,E,r,l,F,v,x,V]
    exact⟨j.cons _,by simp[B,Y],by simp[C,Z],by simp[q,M],by simpa using k⟩
  ·rintro h g ⟨j,B,C,q,k,i,E,r,l,F,v,x⟩
   rw[dg]at k
   rw[<-k]at d
   simp at d
   simp[B,q,i,E,l,v,x,O,aN,aX]
   refine dM (λm=> ?_) (λm=> ?_)
   ·rw[show decide (P.im=3)=false by simpa using m]at d
    simp at d
    simp[d,j.hp]
   ·rw[show decide (P.im=3)=true by simpa using m]at d
    simp at d
    simp[C,q,r,l,j.hp,d]
  ·simp[i]
def rm:fK:=⟨em×Int×Int,λa=>[a.1.t,.int .i64 a.2.1,.int .i64 a.2.2],λa=>vK a.1/\iI a.2.1 a.1.w.dw.length=true/\iI a.2.2 a.1.w.dw.length=true,λa=> .bool (a.1.w.gx.GT a.2.1 a.2.2),λa c b=>by simp at b;rw[em.inj b.1,b.2.1,b.2.2]⟩
theorem FG:rm.Ok Tryz.prog cx 25:=by
 refine f8 (tb:=⟨pt [],ht []⟩) dX dU (iN 18463641368405213903 [] Tryz.func25) (λ_=>100) (by simp[rm]) (by simp[rm,Tryz.f25]) ?_
 rintro⟨g,a,b⟩ ⟨l,p,z⟩ h D
 simp only at l p z
 simp[rm]at D|-
 obtain⟨C,u,v⟩:=D
 obtain⟨i,a1,a2,a3,a4,a5⟩:=l.w.at p
 obtain⟨V,B,X,I,Y,Z⟩:=l.w.at z
 obtain⟨W,G,O,P,aA⟩:=l.st p
 obtain⟨R,S,T,U⟩:=wq P a4
 have d:=GX.GT.eq_1 g.w.gx a b
 rw[a3,I,O,U]at d
 generalize g.w.gx.GT a b=H at*
 obtain⟨c,rfl,al⟩:=jV.nat p
 obtain⟨e,rfl,ap⟩:=jV.nat z
 have av:=l.w.ok.len
 rw[cF]at a1 B G
 have L:=EK g.w.gx (lo:=(c:Int)+1) (hi:=e) (a:=c+1) (b:=e) (GX.xH i.dA) (by omega) rfl
 rw[L,show g.w.gx.ev=g.w.dw from rfl]at d
 have K:binop .add (.int .i64 (c:Int)) (.int .i64 1)=some (.int .i64 ((c:Int)+1)):=fQ (by omega) (by omega)
 have Q:ke ((c:Int)+1)=some (c+1):=by have:=dS (show(0:Int)<=((c+1:Nat):Int)by omega);simpa using this
 by_cases an:c<e
 rotate_left
 ·rw[bg (show¬(c:Int)<e by omega)]at d
  simp[Tryz.f25,C,u,v,d,show e<=c by omega,a1]
 rw[bw (show(c:Int)<e by omega),bM]at d
 simp[Tryz.f25,C,u,v,show¬e<=c by omega,a1,B,G,S,T]
 refine dM (λk=> ?_) (λk=> ?_)
 ·have:H=false:=by
   rw[d]
   cases M:decide (V.dA=i.dA)<;>cases N:R.atomic<;>simp[M,N]at k|-
  simp[this]
 simp only[bI,bS]at k
 rw[k.1,k.2]at d
 simp[-List.length_take,-List.length_drop,u,v,K,Q,show c+1<=e by omega,show e<=g.w.dw.length by omega]
 have ae:((g.w.dw.drop (c+1)).take (e-(c+1))).length<=16:=by simp;omega
 generalize(g.w.dw.drop (c+1)).take (e-(c+1))=j at*
 refine eQ j.length (by omega) (λq h s=>gh 1 s/\(j.drop q).all (GX.xH i.dA)=j.all (GX.xH i.dA)/\TI.dt h 7=some (.int .i64 i.dA)/\TI.dt h 50=some (sl (j.map dN.t))/\TI.dt h 51=some (.int .i64 j.length)/\TI.dt h 52=some (.int .i64 q)) ?_ ?_ (by omega) ?_
 ·rintro q h s F J ⟨m,f,y,x,n,o⟩
  rw[aJ F,cA]at f
  simp[y,x,n,o,m.low,F]
  generalize j[q]=r at*
  have E:GX.xH i.dA r= !(decide (r.dA=i.dA)&&decide (r.kind=15)):=rfl
  refine dM (λA=> ?_) (λA=> ?_)
  ·rw[E,A]at f
   rw[<-f]at d
   simp at d
   simp[d,m.hp]
  ·rw[E,A]at f
   simp[y,x,n,o,J]
   exact⟨m.cons _,by simpa using f⟩
 ·rintro h s ⟨m,f,y,x,n,o⟩
  rw[dg]at f
  rw[<-f]at d
  simp at d
  simp[n,o,m.hp,d]
 ·simp
def sk:fK:=⟨em×fw,λe=>[e.1.t,e.2.t],λe=>vK e.1/\iI e.2.a e.1.w.dw.length=true/\iI e.2.b e.1.w.dw.length=true/\iI e.2.c e.1.w.dw.length=true/\iI e.2.d e.1.w.dw.length=true,λe=> .bool (e.1.w.gx.Vo e.2.a e.2.b e.2.c e.2.d),λe g f=>by simp at f;rw[em.inj f.1,fw.inj f.2]⟩
theorem KM:sk.Ok Tryz.prog cx 52:=by
 refine f8 (tb:=⟨pt [(87,pV)],ht []⟩) dX dU (iN 63 [] Tryz.func52) (λ_=>100) (by simp[sk]) (by simp[sk,Tryz.f52]) ?_
 rintro⟨a,⟨E,b,c,d,f,F⟩⟩ ⟨g,h,o,i,j⟩ I n
 simp only at g h o i j
 simp[sk]at n|-
 obtain⟨x,y⟩:=n
 obtain⟨J,a1,a2,a3,a4,a5⟩:=g.w.at h
 obtain⟨G,q,r,s,A,B⟩:=g.w.at i
 obtain⟨H,t,u,v,C,D⟩:=g.w.at j
 have m:=GX.Vo.eq_1 a.w.gx b c d f
 have k:=λ{tb:eG} (ht:tb.p 87=some pV)=>Al ht a b d h i
 have l:=λ{tb:eG} (ht:tb.p 87=some pV)=>Al ht a f c j o
 rw[show pG a.w.dw b=a.w.gx.e b from rfl,show pG a.w.dw d=a.w.gx.e d from rfl]at k
 rw[show pG a.w.dw f=a.w.gx.e f from rfl,show pG a.w.dw c=a.w.gx.e c from rfl]at l
 generalize a.w.gx.Vo b c d f=z at*
 generalize j7 (a.w.gx.e b) (a.w.gx.e d)=p1 at*
 generalize j7 (a.w.gx.e f) (a.w.gx.e c)=p2 at*
 rw[a3,s,v]at m
 simp[Tryz.f52,x,y,a1,a2,q,r,t,u,k,l,m]
def u4:fK:=⟨em×List Int,λa=>[a.1.t,sl (a.2.map (T.int .i64))],λa=>vK a.1/\a.2.length<=1000000,λa=> .bool (a.1.w.gx.Eu a.1.w.gx.pI a.2),λa c b=>by simp at b;rw[em.inj b.1,ja (by simp) b.2]⟩
theorem GR{d:eG}(ht:d.p 55=some nN)(a:em)(c b:Int)(g:vK a)(e:iI c a.w.dw.length=true)(f:iI b a.w.dw.length=true):rl Tryz.prog cx d 55 [a.t,.int .i64 c,.int .i64 b]=some (.bool (a.w.gx.pI c b)):=fR ht KN (a,c,b) ⟨g,e,f⟩
theorem M6:u4.Ok Tryz.prog cx 49:=by
 refine f8 (tb:=⟨pt [(55,nN),(51,nJ)],ht []⟩) dX dU (iN 2361217299907134620023 [] Tryz.func49) (λ_=>100) (by simp[u4]) (by simp[u4,Tryz.f49]) ?_
 rintro⟨f,a⟩ ⟨C,a8⟩ g V
 simp only at C a8
 simp[u4]at V|-
 obtain⟨aA,i⟩:=V
 have bu:=C.w.ok.len
 obtain⟨D,s⟩:∃D,f.w.gx.Eu f.w.gx.pI a=D:=⟨_,rfl⟩
 rw[s]
 simp[Tryz.f49,aA,i,EG,show a.length<=1099511627776 by omega]
 refine dM (λB=> ?_) (λB=> ?_)
 ·have:D=false:=by
   rw[<-s]
   simp only[bR,aL,bP]at B
   rcases B with(h|h)|h
   ·exact nu (by omega)
   ·exact nu (by omega)
   ·unfold lP at h
    rw[List.all_eq_false]at h
    obtain⟨d,v,bk⟩:=h
    obtain⟨b,ae,rfl⟩:=List.mem_iff_getElem.1 v
    exact nu (.inr (.inr (.inl ⟨b,ae,by simp[List.getD,ae];exact(by simpa using bk:iI a[b] f.w.dw.length=false)⟩)))
  simp[this]
 simp only[bI,bS,bo]at B
 obtain⟨⟨bv,bz⟩,an⟩:=B
 have a6:2<=a.length:=by omega
 have a7:a.length<=4:=by omega
 have z:∀c (j:c<a.length),iI a[c] f.w.dw.length=true:=λc j=>by
  unfold lP at an;exact List.all_eq_true.1 an _ (aF j)
 have bi:∀c<a.length,iI (a.getD c 0) f.w.gx.ev.length=true:=λc j=>by simp[List.getD,j];exact z c j
 simp[i]
 generalize O:H.cons _ _=G
 have U:G.get 0=some ⟨16,0,0,true,false,[f.t]⟩:=by rw[<-O];simp
 have S:Hp G:=by rw[<-O];simp
 clear O
 refine eQ a.length (by omega) (λb g h=>G=h/\(∀c<b,xI f.w.gx f.w.gx.pI a c=true)/\TI.dt g 1=some (sl (a.map (T.int .i64)))/\TI.dt g 2=some (.ptr 0 0 0 0)/\TI.dt g 23=some (sl (a.map (T.int .i64)))/\TI.dt g 24=some (.int .i64 a.length)/\TI.dt g 25=some (.int .i64 b)) ?_ ?_ (by omega) ?_
 ·rintro b g _ A W ⟨rfl,P,i,l,r,n,o⟩
  have R:∀c (j:c<a.length),a.getD c 0=a[c]:=λc j=>by simp[List.getD,j]
  have K:0<a.length:=by omega
  have al:=I8 (b+1) a.length (by omega) (by omega)
  have J:(b+1)% a.length<a.length:=Nat.mod_lt _ K
  have u:xI f.w.gx f.w.gx.pI a b=(!decide (a[b]<a[0])&&f.w.gx.pI (a[(b+1)% a.length]'J) a[b]&&(List.range b).all λd=> !decide ((f.w.gx.e a[b]).dA=(f.w.gx.e (a.getD d 0)).dA)):=by unfold xI;rw[R _ A,R _ K,R _ J]
  generalize(b+1)% a.length=m at*
  have av:=λ{tb:eG} (ht:tb.p 55=some nN)=>GR ht f a[m] a[b] C (z m J) (z b A)
  obtain⟨x,a1,a2,a3,a4,a5⟩:=C.w.at (z b A)
  rw[a3]at u
  simp at al
  have X:xI f.w.gx f.w.gx.pI a b=false->D=false:=λh=>by rw[<-s];exact nu (.inr (.inr (.inr ⟨b,A,h⟩)))
  simp[U,i,l,r,n,o,A,W,K,al,J,av]
  refine dM (λk=> ?_) (λk=> ?_)
  ·have:xI f.w.gx f.w.gx.pI a b=false:=by
    rw[u,cd];intro h
    simp only[ay,bP,bo]at h
    simp[h.1.2]at k
    omega
   simp[X this,S]
  ·simp only[bI,bS,bo]at k
   rw[k.2,bg k.1]at u
   simp[-List.length_take,i,show b<=a.length by omega]
   obtain⟨q,N⟩:∃q,q=a.take b:=⟨_,rfl⟩
   rw[<-N]
   have aX:q.length=b:=by rw[N];simp;omega
   have bn:∀d (v:d<q.length) (hl:d<a.length),q[d]=a[d]:=λd v hl=>by subst N;exact List.getElem_take
   refine eQ b (by omega) (λd g h=>G=h/\(∀c<d,decide (x.dA=(f.w.gx.e (a.getD c 0)).dA)=false)/\TI.dt g 1=some (sl (a.map (T.int .i64)))/\TI.dt g 2=some (.ptr 0 0 0 0)/\TI.dt g 6=some (.int .i64 a[b])/\TI.dt g 23=some (sl (a.map (T.int .i64)))/\TI.dt g 24=some (.int .i64 a.length)/\TI.dt g 25=some (.int .i64 b)/\TI.dt g 51=some (sl (q.map (T.int .i64)))/\TI.dt g 52=some (.int .i64 b)/\TI.dt g 53=some (.int .i64 d)) ?_ ?_ (by omega) ?_
   ·rintro d g _ Z aN ⟨rfl,Q,i,l,M,r,n,o,L,E,F⟩
    have I:d<a.length:=by omega
    obtain⟨y,bp,bs,ap,bB,bN⟩:=C.w.at (z d I)
    have Y:d<q.length:=by omega
    have aE:=bn d Y I
    simp[U,l,M,L,E,F,Z,Y,aE,a1,a2,bp,bs]
    refine dM (λk=> ?_) (λk=> ?_)
    ·have:xI f.w.gx f.w.gx.pI a b=false:=by
      rw[u];simp
      exact⟨d,Z,by simpa[I,ap]using k⟩
     simp[X this,S]
    ·simp[i,l,M,r,n,o,L,E,F,aN]
     intro c j
     rcases aD c d with h|h
     ·simpa using Q c h
     ·rw[show c=d by omega];simp[I,ap];simpa using k
   ·rintro g _ ⟨rfl,Q,i,l,M,r,n,o,L,E,F⟩
    simp[i,l,r,n,o,E,F,W]
    intro c j
    rcases aD c b with h|h
    ·exact P c h
    ·rw[show c=b by omega,u];simp;intro d v;simpa using Q d v
   ·simp[i,l,r,n,o,aX]
 ·rintro g _ ⟨rfl,P,i,l,r,n,o⟩
  rw[Gv a6 a7 bi P]at s
  simp[n,o,s.symm,S]
 ·simp[i]
theorem jV.cells{a:dZ}(g:jV a):ES a:=λd h e=>by
 obtain⟨i,f⟩:=cT h
 have hl:i<a.dw.length:=(List.getElem?_eq_some_iff.1 f).1
 obtain⟨k,b,l,m,n,c⟩:=g.at (i:=i) (ed.2 ⟨by omega,by simpa using hl⟩)
 rw[cF,f]at b
 simp only[ar]at b;subst b
 have j:d.kind=3\/d.kind=4:=by unfold lq at e;simpa using e
 unfold jn at c;rw[ao (by omega),aq j]at c;exact c
theorem GL{f:eG}(ht:f.p 51=some nJ)(a:em)(b c d e:Int):rl Tryz.prog cx f 51 [a.t,sl [.int .i64 b,.int .i64 c,.int .i64 d,.int .i64 e]]=some (.bool (iI b a.w.dw.length&&iI c a.w.dw.length&&iI d a.w.dw.length&&iI e a.w.dw.length)):=by
 have:=EG ht a [b,c,d,e] (by simp)
 simpa[lP,Bool.and_assoc]using this
theorem L5{a:em}(d:vK a)(b c:Int):y7 a.w b c=((iI b a.w.dw.length&&iI c a.w.dw.length)&&a.w.gx.O8 b c):=by
 unfold y7 GX.O8 GX.e dZ.gx
 cases iI b a.w.dw.length<;>cases iI c a.w.dw.length<;>simp
 ac_rfl
def tj:fK:=⟨em×fw,λa=>[a.1.t,a.2.t],λa=>vK a.1/\a.2.jf.length<=1000000,λa=> .bool (a.1.w.gx.vG a.2),λa c b=>by simp at b;rw[em.inj b.1,fw.inj b.2]⟩
theorem MC:tj.Ok Tryz.prog cx 23:=by
 refine f8 (tb:=⟨pt [(48,ww),(49,u4),(50,yf),(51,nJ),(25,rm),(52,sk)],ht []⟩) dX dU (iN 2417851783344448572752095 [] Tryz.func23) (λ_=>100) (by simp[tj]) (by simp[tj,Tryz.f23]) ?_
 rintro⟨f,e⟩ ⟨i,u⟩ F s
 simp only at i u
 simp[tj]at s|-
 obtain⟨k,l⟩:=s
 have g:=GX.vG.eq_1 f.w.gx e
 simp only[show∀v,f.w.gx.zg v=iI v f.w.dw.length from λ_=>rfl]at g
 generalize f.w.gx.vG e=E at*
 cases h:decide (e.kind=1)with
 |true=>
  rw[aq (by simpa using h)]at g
  have n:∀{tb:eG},tb.p 48=some ww->rl Tryz.prog cx tb 48 [f.t,.int .i64 e.a,.int .i64 e.b]=some (.bool ((iI e.a f.w.dw.length&&iI e.b f.w.dw.length)&&f.w.gx.O8 e.a e.b)):=λht=>by rw[<-L5 i];exact Vh ht f e.a e.b i.w.cells
  simp[Tryz.f23,k,l,h,n,g]
  try ac_rfl
 |false=>
  rw[ao (by simpa using h)]at g
  cases j:decide (e.kind=2)with
  |true=>
   rw[aq (by simpa using j)]at g
   have n:∀{tb:eG},tb.p 49=some u4->rl Tryz.prog cx tb 49 [f.t,sl (e.jf.map (T.int .i64))]=some (.bool (f.w.gx.Eu f.w.gx.pI e.jf)):=λht=>fR ht M6 (f,e.jf) ⟨i,u⟩
   simp[Tryz.f23,k,l,h,j,n,g,GX.dead]
  |false=>
   rw[ao (by simpa using j)]at g
   cases m:decide (e.kind=3)with
   |true=>
    rw[aq (by simpa using m)]at g
    have n:∀{tb:eG},tb.p 50=some yf->rl Tryz.prog cx tb 50 [f.t,.int .i64 e.a,.int .i64 e.b]=some (.bool ((iI e.a f.w.dw.length&&iI e.b f.w.dw.length)&&f.w.gx.Nv e.a e.b)):=λht=>fR ht PK (f,e.a,e.b) i
    simp[Tryz.f23,k,l,h,j,m,n,g]
    try ac_rfl
   |false=>
    rw[ao (by simpa using m)]at g
    cases o:decide (e.kind=4)with
    |false=>
     rw[ao (by simpa using o)]at g
     simp[Tryz.f23,k,l,h,j,m,o,g]
    |true=>
     rw[aq (by simpa using o)]at g
     cases q:(iI e.a f.w.dw.length&&iI e.b f.w.dw.length&&iI e.c f.w.dw.length&&iI e.d f.w.dw.length)with
     |false=>
      rw[q]at g
      cases r:decide (e.jf=[])<;>simp[Tryz.f23,k,l,h,j,m,o,GL,fH,q,g,r]
     |true=>
      rw[q]at g
      have z:=q
      simp only[ay]at z
      obtain⟨⟨⟨x,y⟩,C⟩,D⟩:=z
      have A:∀{tb:eG},tb.p 25=some rm->rl Tryz.prog cx tb 25 [f.t,.int .i64 e.a,.int .i64 e.b]=some (.bool (f.w.gx.GT e.a e.b)):=λht=>fR ht FG (f,e.a,e.b) ⟨i,x,y⟩
      have B:∀{tb:eG},tb.p 52=some sk->rl Tryz.prog cx tb 52 [f.t,e.t]=some (.bool (f.w.gx.Vo e.a e.b e.c e.d)):=λht=>fR ht KM (f,e) ⟨i,x,y,C,D⟩
      cases r:decide (e.jf=[])<;>simp[Tryz.f23,k,l,h,j,m,o,GL,fH,q,A,B,g,r]
theorem QG{c:eG}(ht:c.p 23=some tj)(b:em)(a:fw)(d:vK b)(hl:a.jf.length<=1000000):rl Tryz.prog cx c 23 [b.t,a.t]=some (.bool (b.w.gx.vG a)):=fR ht MC (b,a) ⟨d,hl⟩
structure OT where
 (v:T) (es:List T)
def xi(e:Nat)(a:OT)(c:List T)(b:H):Prop:=c=[a.v]/\b.iy a.v=some a.es/\(∀d∈a.es,d.cells.length=e)/\a.es.length<=1000000/\gh 0 b
def tF(f:Nat)(e:OT)(g:List T)(b:H)(d:T)(c:H):Prop:=Gr c d f e.es/\Nb b c/\∀a,dE d=some a->b.size<=a
theorem wS{a bytes:Nat}{l:aj}(x:B1 Tryz.prog cx l (.clone a bytes))(v:1<=bytes)(w:bytes<=1000):(jM OT (xi a) (tF a)).Ok Tryz.prog cx l:=by
 intro i b ⟨⟨p,e⟩,y⟩
 have n:∀h:OT,xi a h i b->∃d c,AP (.clone a bytes) i b=some (d,c)/\tF a h i b d c:=by
  rintro⟨p,e⟩ ⟨rfl,g,m,hl,o⟩
  simp only at g m hl
  show∃d c,(dB (b.iy p) λe=>List.casesOn e (some (.dq [] false,b)) λ_ _=>b.iA a bytes [] e)=some (d,c)/\_
  rw[g,dD]
  cases e with
  |nil=>exact⟨_,_,rfl,Gr.nil _ _,Nb.refl o,λr j=>by simp at j⟩
  |cons F E=>
   refine⟨_,_,nW m v (aS (Nat.mul_le_mul hl w) (by omega)),Gr.new (ep:=0) (ver:=0) (ex:=false) (by simp),(Nb.refl o).cons _,λr j=>by simp at j;omega⟩
 obtain⟨d,c,k,C⟩:=n _ y
 refine⟨d,c,λh g=> ?_,λq A B s z u=>x _ _ _ _ k q A B s z u⟩
 obtain⟨r2,D,f,t⟩:=n h g
 rw[k]at f;simp only[ar,ax]at f
 rw[f.1,f.2];exact t
theorem FF:(jM OT (xi 1) (tF 1)).Ok Tryz.prog cx 54:=wS (uM (fn:=Tryz.f54) (t:=38) (tb:=4) (te:=Dj) dU Tryz.func54 (by kernel_rfl) (by kernel_rfl) (by kernel_rfl) (by kernel_rfl) (by kernel_rfl) (by kernel_rfl) (by kernel_rfl)) (by decide) (bytes:=8) (by decide)
theorem Nd:(jM OT (xi 1) (tF 1)).Ok Tryz.prog cx 125:=wS (uM (fn:=Tryz.f125) (t:=33) (tb:=4) (te:=ty4) dU Tryz.func125 (by kernel_rfl) (by kernel_rfl) (by kernel_rfl) (by kernel_rfl) (by kernel_rfl) (by kernel_rfl) (by kernel_rfl)) (by decide) (bytes:=1) (by decide)
theorem Na:(jM OT (xi 3) (tF 3)).Ok Tryz.prog cx 126:=wS (uM (fn:=Tryz.f126) (t:=34) (tb:=4) (te:=EW) dU Tryz.func126 (by kernel_rfl) (by kernel_rfl) (by kernel_rfl) (by kernel_rfl) (by kernel_rfl) (by kernel_rfl) (by kernel_rfl)) (by decide) (bytes:=24) (by decide)
def LkG(f:H)(d:Nat->Prop)(e:T)(c:dF):Prop:=∃a,e= .agg [.int .i64 c.iw,a]/\Gr f a 1 (fD c.dQ)/\∀b,dE a=some b->d b
def LkD(b:List T):Prop:=∀(c d:Nat) (e f g h:T) (a:Nat),b[c]? =some (.agg [g,e])->b[d]? =some (.agg [h,f])->dE e=some a->dE f=some a->c=d
def Sz(c:ej)(j:List T)(h:H)(i:T)(b:H):Prop:=∃d e f g,i=LJ c d e f/\zO h.size b.size b d e f g c/\Nb h b/\gG (LkG b λa=>h.size<=a/\a<b.size/\dE d≠some a/\dE e≠some a/\dE f≠some a) g c.dP/\LkD g
structure ClO(S:ej)(h h':H)(i:Nat)(es:List T)(ver:Nat):Prop where
 nb:Nb h h'
 z:h.size+3<=h'.size
 b0:h'.get h.size=some ⟨4,0,0,true,false,[S.t]⟩
 b1:h'.get (h.size+1)=some ⟨4,0,0,true,false,[.agg [.dq [] false,.int .i64 0,.dq [] false,.dq [] false]]⟩
 b2:h'.get (h.size+1+1)=some ⟨2,0,ver,true,false,es⟩
 l:es.length=S.dP.length
 c:∀e∈es,∃x y,e= .agg [x,y]
 d:LkD es
 bd:∀(j:Nat) (o x:T) (c:Nat),es[j]? =some (.agg [o,x])->dE x=some c->c<h'.size
 a:gG (LkG h' λk=>h.size+3<=k/\k<h'.size) (es.take i) (S.dP.take i)
theorem Nc:(jM ej CC Sz).Ok Tryz.prog cx 80:=by
 refine iU (tb:=⟨pt [],ht [(54,jM OT (xi 1) (tF 1)),(125,jM OT (xi 1) (tF 1)),(126,jM OT (xi 3) (tF 3))]⟩) dX dU (iN 30783 [(5,[(3,6)])] Tryz.func80) (λ_ _=>1000005) (λl a d c7=>by obtain⟨rfl,_⟩:=c7;simp[Tryz.f80]) ?_
 rintro f _ d ⟨rfl,dk,hl,ef,ht,hr⟩ z b7
 simp at b7
 have cb:=dk.hr
 simp[Tryz.f80,b7,show f.dP.length*32<=70368744177664 by omega]
 refine eQ f.dP.length (by omega) (λl z i=>∃v ver,ClO f d i l v ver/\TI.dt z 1=some (.ptr d.size 0 0 0)/\TI.dt z 2=some (.ptr (d.size+1) 0 0 0)/\TI.dt z 3=some (.arr (d.size+1+1) 0 0 f.dP.length false)/\TI.dt z 11=some (sl (f.dP.map dF.t))/\TI.dt z 12=some (.int .i64 f.dP.length)/\TI.dt z 13=some (.int .i64 l)) ?_ ?_ (by omega) ?_
 ·rintro l z i aN c4 ⟨v,ver,⟨x,dd,Z,a7,a8,aE,bv,bz,aA,Y⟩,S,bu,ap,bs,al,an⟩
  have a6:gh 0 i:=⟨x.ok.hp,x.ok.low,aw _⟩
  have eh:=hr f.dP[l] (aF aN)
  have c9:f.dP.take (l+1)=f.dP.take l++[f.dP[l]]:=bj aN
  obtain⟨ea,eb,c6⟩:=bv v[l] (aF (by omega))
  have eo:(d.size+1+1=i.size)=False:=by simp;omega
  have di:=a6.low
  simp[ap,bs,al,an,aN,di]
  generalize f.dP[l]=w at*
  have bT:=a6.cons ⟨2,0,1,true,false,[w.t]⟩
  refine kA FF (by simp) ⟨sl (fD w.dQ),fD w.dQ⟩ ⟨rfl,by simp,by simp[T.cells],by simp;omega,bT⟩ ?_
  rintro r L ⟨G,y,av⟩
  simp only at G
  have ds:=y.ok.sz
  simp at ds
  have aX:L.get (d.size+1+1)=some ⟨2,0,ver,true,false,v⟩:=(y.get (d.size+1+1) (by simp;omega)).trans (by rw[dH,ao (by omega)];exact a8)
  have er:dY (i.cons ⟨2,0,1,true,false,[w.t]⟩) L (d.size+1+1)=true:=ee (y.get _ (by simp;omega))
  have dn:dY (i.cons ⟨2,0,1,true,false,[w.t]⟩) L i.size=true:=ee (y.get _ (by simp))
  simp[S,bu,ap,bs,al,an,G.fT,G.cells,aX,dn,aN,aE,c6,dG,c4]
  have ae:∀c,c<i.size->c≠d.size+1+1->(dI L (d.size+1+1) ⟨2,0,ver+1,true,false,v.set l (.agg [.int .i64 w.iw,r])⟩).get c=i.get c:=λc e M=>by
   rw[dy aX,ao M];exact(y.get c (by simp;omega)).trans (by rw[dH,ao (by omega)])
  have dv:=x.ok.sz
  refine⟨v.set l (.agg [.int .i64 w.iw,r]),ver+1,⟨⟨(⟨y.ok.hp,y.ok.low,aw _⟩:gh 0 L).put _ _|>.hp,(⟨y.ok.hp,y.ok.low,aw _⟩:gh 0 L).put _ _|>.low,by simp;omega⟩,λc e=>(ae c (by omega) (by omega)).trans (x.get c e)⟩,by simp;omega,(ae _ (by omega) (by omega)).trans Z,(ae _ (by omega) (by omega)).trans a7,by rw[dy aX,aq rfl],by simpa using aE,λC D=> ?_,?_,?_,?_⟩
  ·rcases cE D with q|q
   ·exact bv C q
   ·exact⟨_,_,q⟩
  ·intro N k B g o ca c h A j p
   rw[cm]at h A
   split at h<;>split at A
   ·omega
   ·split at h
    ·simp only[ar,T.agg.injEq,aK,and_true]at h
     have:=av c (by rw[h.2];exact j)
     have:=aA k _ _ c A p
     simp at*;omega
    ·simp at h
   ·split at A
    ·simp only[ar,T.agg.injEq,aK,and_true]at A
     have:=av c (by rw[A.2];exact p)
     have:=aA N _ _ c h j
     simp at*;omega
    ·simp at A
   ·exact bz N k B g o ca c h A j p
  ·intro N o B c h j
   rw[cm]at h
   rw[fc]
   split at h
   ·split at h
    ·simp only[ar,T.agg.injEq,aK,and_true]at h
     obtain⟨_,_,_,_,p,_⟩:=G.box (b:=c) (by rw[h.2];exact j)
     exact H.dL p
    ·simp at h
   ·have:=aA N _ _ c h j;omega
  ·rw[c9,bj (by simp;omega)]
   refine gG.append ?_ (.cons ?_ .nil)
   ·rw[List.take_set_of_le (au _)]
    exact Y.imp λC m ⟨X,P,Q,u⟩=>⟨X,P,Q.mono λc e=>ae c (u c e).2 (by have:=(u c e).1;omega),λc e=>⟨(u c e).1,by have:=(u c e).2;simp;omega⟩⟩
   ·simp only[List.getElem_set_self]
    refine⟨r,rfl,(G.mono λc e=>by rw[dy aX,ao (by have:=av c e;simp at this;omega)]),λc e=>⟨by have:=av c e;simp at this;omega,?_⟩⟩
    obtain⟨_,_,_,_,p,_⟩:=G.box e
    have:=H.dL p
    simpa using this
 ·rintro z i ⟨v,ver,⟨x,dd,Z,a7,a8,aE,bv,bz,aA,Y⟩,S,bu,ap,bs,al,an⟩
  have a6:gh 0 i:=⟨x.ok.hp,x.ok.low,aw _⟩
  have bn:∀g c,(dI i d.size g).get c=if c=d.size then some g else i.get c:=λg c=>dy Z g c
  simp[S,ap,al,an,Z,bn]
  obtain⟨J,U⟩:∃J,J=dI i d.size ⟨4,0,1,true,false,[.agg [.arr (d.size+1+1) 0 0 f.dP.length false,.int .i64 f.tx,sl (f.done.map T.bool),sl (f.dp.map dx.t)]]⟩:=⟨_,rfl⟩
  have et:J.size=i.size:=by rw[U];simp
  have dm:gh 0 J:=by rw[U];exact a6.put _ _
  have gA:∀c,c≠d.size->J.get c=i.get c:=λc e=>by rw[U,bn,ao e]
  have cX:J.get d.size=some ⟨4,0,1,true,false,[.agg [.arr (d.size+1+1) 0 0 f.dP.length false,.int .i64 f.tx,sl (f.done.map T.bool),sl (f.dp.map dx.t)]]⟩:=by rw[U,bn,aq rfl]
  rw[<-U]
  refine gd Nd (by simp) ⟨sl (f.done.map T.bool),f.done.map T.bool⟩ ⟨rfl,by simp,by intro C D;obtain⟨b,_,rfl⟩:=List.mem_map.1 D;rfl,by simp;omega,dm⟩ ?_
  rintro F s ⟨R,O,ce⟩
  simp only at R
  have eu:=O.ok.sz
  have b8:=(O.get d.size (by omega)).trans cX
  have bp:∀g c,(dI s d.size g).get c=if c=d.size then some g else s.get c:=λg c=>dy b8 g c
  simp[S,R.fT,R.cells,b8,bp,dG]
  obtain⟨K,V⟩:∃K,K=dI s d.size ⟨4,0,2,true,false,[.agg [.arr (d.size+1+1) 0 0 f.dP.length false,.int .i64 f.tx,F,sl (f.dp.map dx.t)]]⟩:=⟨_,rfl⟩
  have ey:K.size=s.size:=by rw[V];simp
  have bT:gh 0 K:=by rw[V];exact(⟨O.ok.hp,O.ok.low,aw _⟩:gh 0 s).put _ _
  have bk:∀c,c≠d.size->K.get c=s.get c:=λc e=>by rw[V,bp,ao e]
  have c1:K.get d.size=some ⟨4,0,2,true,false,[.agg [.arr (d.size+1+1) 0 0 f.dP.length false,.int .i64 f.tx,F,sl (f.dp.map dx.t)]]⟩:=by rw[V,bp,aq rfl]
  rw[<-V]
  refine gd Na (by simp) ⟨sl (f.dp.map dx.t),f.dp.map dx.t⟩ ⟨rfl,by simp,by intro C D;obtain⟨b,_,rfl⟩:=List.mem_map.1 D;rfl,by simp;omega,bT⟩ ?_
  rintro W n ⟨gT,E,cp⟩
  simp only at gT
  have eA:=E.ok.sz
  have M5:gh 0 n:=⟨E.ok.hp,E.ok.low,aw _⟩
  have b9:=(E.get d.size (by omega)).trans c1
  have de:n.get (d.size+1)=_:=(E.get (d.size+1) (by omega)).trans ((bk _ (by omega)).trans ((O.get _ (by omega)).trans ((gA _ (by omega)).trans a7)))
  have b6:∀g c,(dI n d.size g).get c=if c=d.size then some g else n.get c:=λg c=>dy b9 g c
  have I:∀g B c,(dI (dI n d.size g) (d.size+1) B).get c=if c=d.size+1 then some B else if c=d.size then some g else n.get c:=λg B c=>by
   rw[ph (by simp[M5.hp]) (by simp;omega),b6]
  simp[S,bu,gT.fT,gT.cells,b9,de,b6,I,dG]
  rw[bJ (by omega),aQ]at Y
  have bi:∀c,c<i.size->c≠d.size->n.get c=i.get c:=λc e M=>(E.get c (by omega)).trans ((bk c M).trans ((O.get c (by omega)).trans (gA c M)))
  have cL:∀c,c<s.size->c≠d.size->n.get c=s.get c:=λc e M=>(E.get c (by omega)).trans (bk c M)
  have dv:=x.ok.sz
  have bB:∀c,dE F=some c->i.size<=c/\c<s.size:=λc e=>⟨by have:=ce c e;omega,by obtain⟨_,_,_,_,p,_⟩:=R.box e;exact H.dL p⟩
  have bN:∀c,dE W=some c->s.size<=c/\c<n.size:=λc e=>⟨by have:=cp c e;omega,by obtain⟨_,_,_,_,p,_⟩:=gT.box e;exact H.dL p⟩
  have bX:gG (LkG (kV d (dI (dI n d.size ⟨4,0,3,true,false,[.agg [.arr (d.size+1+1) 0 0 f.dP.length false,.int .i64 f.tx,F,W]]⟩) (d.size+1) ⟨4,0,1,true,false,[.agg [.arr (d.size+1+1) 0 0 f.dP.length false,.int .i64 f.tx,F,W]]⟩)) λc=>d.size<=c/\c<n.size/\dE (.arr (d.size+1+1) 0 0 f.dP.length false)≠some c/\dE F≠some c/\dE W≠some c) v f.dP:=Y.imp λC w ⟨X,P,Q,u⟩=>⟨X,P,Q.mono λc e=>by
   have:=u c e
   rw[fj,I,ao (by omega),ao (by omega),bi _ (by omega) (by omega)],λc e=>by
   have:=u c e
   exact⟨by omega,by omega,by simp;omega,λq=>by have:=bB c q;omega,λq=>by have:=bN c q;omega⟩⟩
  refine⟨.arr (d.size+1+1) 0 0 f.dP.length false,F,W,v,rfl,⟨?_,R.mono λc e=> ?_,gT.mono λc e=> ?_,bX.imp λC w ⟨X,P,Q,u⟩=>⟨X,P,.inr Q,by simpa using u⟩,λc e=> ?_⟩,⟨⟨?_,?_,?_⟩,λc e=> ?_⟩,by simpa using bX,bz⟩
  ·rw[<-aE];exact Gr.new (ep:=0) (ver:=ver) (ex:=true) (by rw[fj,I,ao (by omega),ao (by omega),bi _ (by omega) (by omega)];exact a8)
  ·have:=bB c e
   rw[fj,I,ao (by omega),ao (by omega),cL _ (by omega) (by omega)]
  ·have:=bN c e
   rw[fj,I,ao (by omega),ao (by omega)]
  ·simp
   rcases e with q|q|q
   ·simp at q;omega
   ·have:=bB c q;omega
   ·have:=bN c q;omega
  ·exact(((M5.put _ _).put _ _).out d).hp
  ·exact(((M5.put _ _).put _ _).out d).low
  ·simp;omega
  ·rw[fj,I,ao (by omega),ao (by omega),bi _ (by omega) (by omega)];exact x.get c e
 ·simp
  refine⟨List.replicate f.dP.length (.agg [.int .i64 0,.dq [] false]),0,⟨(((Nb.refl cb).cons _).cons _).cons _|>.ok,λc e=>(((((Nb.refl cb).cons _).cons _).cons _).get c e).trans (fU d c)⟩,by simp,by simp,by simp,by simp,by simp,λC D=>⟨_,_,(bQ D)⟩,?_,?_,.nil⟩
  ·intro N k B g o ca c h _ j _
   have:=bQ (az h)
   simp only[T.agg.injEq,aK,and_true]at this
   rw[this.2]at j;simp at j
  ·intro N o B c h j
   have:=bQ (az h)
   simp only[T.agg.injEq,aK,and_true]at this
   rw[this.2]at j;simp at j
def tg:fK:=⟨dx×Int,λa=>[a.1.t,.int .i64 a.2],λa=>True,λa=> .bool (decide (a.1.im=3)&&decide (a.1.cond=a.2)),λa c b=>by simp at b;rw[dx.inj b.1,b.2]⟩
theorem MA:tg.Ok Tryz.prog cx 130:=by
 refine f8 (tb:=⟨pt [],ht []⟩) dX dU (iN 23 [] Tryz.func130) (λd=>1) (by simp[tg]) (by simp[tg,Tryz.f130]) ?_
 rintro⟨f,e⟩ _ g a
 simp[tg]at a|-
 obtain⟨b,c⟩:=a
 simp[Tryz.f130,b,c]
theorem JP{c:eG}(ht:c.p 130=some tg)(a:dx)(b:Int):rl Tryz.prog cx c 130 [a.t,.int .i64 b]=some (.bool (decide (a.im=3)&&decide (a.cond=b))):=fR ht MA (a,b) trivial
theorem Kc(d:Int):∀(a c:List dx) (b:Nat),gu d (a++c) b=gu d a b++gu d c (b+a.length):=by
 intro a
 induction a with
 |nil=>intro c b;rfl
 |cons f a e=>intro c b;simp only[cB,gu,e,aZ];rw[show b+(a.length+1)=b+1+a.length by omega];split<;>rfl
theorem Au(c:Int)(b:List dx){a:Nat}(d:a<b.length):gu c (b.take (a+1)) 0=gu c (b.take a) 0++(if b[a].im=3/\b[a].cond=c then [(a:Int)]else []):=by
 rw[bj d,Kc,List.length_take,cr (by omega)]
 simp[gu]
def ls(a:Int)(W:List Int):Int:=if a∈W then a else W.headD (-1)
structure G8 where
 (S:ej) (c0 c2 c3:T) (c wk:Int)
structure VB(h h':H)(c3:T)(l:List dx):Prop where
 g:Gr h' c3 3 (l.map dx.t)
 ok:gh h.size h'
 fr:∀c,c<h.size->dE c3≠some c->h'.get c=h.get c
def Sq(a:G8)(d:List T)(b:H):Prop:=d=[LJ a.S a.c0 a.c2 a.c3,.int .i64 a.c,.int .i64 a.wk]/\Gr b a.c3 3 (a.S.dp.map dx.t)/\gh 0 b/\a.S.dp.length<=1000000
def Mm(a:G8)(g:List T)(d:H)(f:T)(e:H):Prop:=∃b,f= .int .i64 b/\b=ls a.wk (gu a.c a.S.dp 0)/\VB d e a.c3 (if gu a.c a.S.dp 0=[]then a.S.dp else a.S.dp.modify b.toNat (j1 4))
theorem Ku{wk:Int}{W:List Int}{b:Nat}(d:∀c∈W,0<=c/\c<b):ls wk (W++[(b:Int)])=if ls wk W<0\/(b:Int)=wk then(b:Int)else ls wk W:=by
 unfold ls
 by_cases a:wk∈W
 ·have:=d wk a
  rw[aq (by simp[a]),aq a,ao (by omega)]
 ·rw[ao a]
  by_cases e:(b:Int)=wk
  ·subst e;rw[aq (by simp),aq (.inr rfl)]
  ·rw[ao (by simp[a];omega)]
   cases W with
   |nil=>simp
   |cons c W=>have:=d c (by simp);simp;intro f;omega
theorem ML:(jM G8 Sq Mm).Ok Tryz.prog cx 85:=by
 refine iU (tb:=⟨pt [(130,tg)],ht []⟩) dX dU (iN 9126837199 [] Tryz.func85) (λ_ _=>1000005) (λi a d bk=>by obtain⟨rfl,_⟩:=bk;simp[Tryz.f85]) ?_
 rintro⟨⟨L,aN,bv,b⟩,Y,Z,K,c,wk⟩ _ d ⟨rfl,m,aE,hl⟩ g al
 simp only at m hl
 simp[LJ]at al
 obtain⟨a6,h,p⟩:=al
 have av:=λh:H=>m.len (cx:=cx) h Kf _ rfl
 rw[aH]at av
 have X:∀e,dE K=some e->e<d.size:=λe bi=>by obtain⟨_,_,_,_,bn,_⟩:=m.box bi;exact H.dL bn
 simp[Tryz.f85,a6,av]
 refine eQ b.length (by omega) (λi g h'=>Nb d h'/\d.size<h'.size/\h'.get d.size=some ⟨4,0,0,true,false,[.agg [Y,.int .i64 aN,Z,K]]⟩/\TI.dt g 1=some (.int .i64 c)/\TI.dt g 2=some (.int .i64 wk)/\TI.dt g 3=some (.ptr d.size 0 0 0)/\TI.dt g 7=some (.int .i64 (ls wk (gu c (b.take i) 0)))/\TI.dt g 11=some K/\TI.dt g 12=some (.int .i64 b.length)/\TI.dt g 13=some (.int .i64 i)) ?_ ?_ (by omega) ?_
 ·rintro i g h' Q an ⟨f,bp,J,h,p,I,n,G,z,A⟩
  have v:gh 0 h':=⟨f.ok.hp,f.ok.low,aw _⟩
  obtain⟨e,M,U,N,aX,C,r,j,R⟩:=m.at (x:=b[i].t) (i:=i) (by simp[Q])
  rw[aH]at C R
  subst C
  have o:=(f.get e (H.dL r)).trans r
  have bz:(e=h'.size)=False:=by have:=H.dL o;simp;omega
  have bs:=v.low
  have T:=Au c b Q
  simp[h,p,n,G,z,A,Q,o,j,bs,JP]
  generalize b[i]=l at*
  have a7:∀x∈gu c (b.take i) 0,0<=x/\x<i:=λx j=>by
   obtain⟨u,y,D⟩:=rV j
   simp at D;omega
  have O:=Ku (wk:=wk) a7
  have aA:=f.cons ⟨3,0,1,true,false,[l.t]⟩
  have V:(h'.cons ⟨3,0,1,true,false,[l.t]⟩).get d.size=some ⟨4,0,0,true,false,[.agg [Y,.int .i64 aN,Z,.arr e M 0 b.length false]]⟩:=by rw[dH,ao (by omega)];exact J
  refine dM (λq=> ?_) (λq=> ?_)
  ·simp only[ay,bR,aL]at q
   rw[aq ⟨q.1.1,q.1.2⟩]at T
   rw[aq q.2,<-T]at O
   simp[h,p,I,G,z,A,an]
   exact⟨aA,by omega,by simpa using V,O.symm⟩
  ·simp[h,p,I,n,G,z,A,an]
   refine⟨aA,by omega,by simpa using V,?_⟩
   rw[T]
   split
   ·rename_i ap
    simp only[Bool.and_eq_false_iff,bI,bo]at q
    rw[O,ao]
    rcases q with(q|q)|q
    ·exact absurd ap.1 q
    ·exact absurd ap.2 q
    ·rintro(k|k)
     ·exact q.1 k
     ·exact q.2 k
   ·simp
 ·rintro g h' ⟨f,bp,J,h,p,I,n,G,z,A⟩
  rw[aQ]at n
  simp[n,z,A]
  have v:gh 0 h':=⟨f.ok.hp,f.ok.low,aw _⟩
  refine dM (λq=> ?_) (λq=> ?_)
  ·have q:0<=ls wk (gu c b 0):=by simpa using q
   have s:ls wk (gu c b 0)∈gu c b 0:=by
    generalize gu c b 0=W at*
    unfold ls at*
    split
    ·assumption
    ·rename_i E
     rw[ao E]at q
     cases W with
     |nil=>simp at q
     |cons x W=>simp
   obtain⟨u,y,D⟩:=rV s
   have S:gu c b 0≠ []:=λk=>by rw[k]at s;simp at s
   obtain⟨l,ht⟩:∃l,b[u]? =some l:=⟨_,aB D⟩
   obtain⟨e,M,U,N,aX,C,r,j,R⟩:=m.at (x:=l.t) (i:=u) (by simp[ht])
   rw[aH]at C R
   subst C
   have o:=(f.get e (H.dL r)).trans r
   simp at y
   simp[I,n,J,y,o,j,D]
   refine⟨_,rfl,y.symm,?_⟩
   simp only
   rw[ao S,cF,ng ht]
   have bu:=H.dL r
   refine⟨?_,⟨((v.put e _).out d).hp,((v.put e _).out d).low,by simp;omega⟩,λF B E=> ?_⟩
   ·have ae:=(m.mono (h':=h') λw P=>f.get w (X w P)).setAt rfl o u (j1 4 l).t (h':=kV d (dI h' e ⟨3,M,U+1,N,false,aX.set u (j1 4 l).t⟩)) (ver2:=U+1) (ex2:=N) (by rw[fj,dy o,aq rfl])
    rw[<-bV]at ae
    exact ae
   ·simp at E
    rw[fj,dy o,ao (by omega)];exact f.get F B
  ·have q:¬0<=ls wk (gu c b 0):=by simpa using q
   have S:gu c b 0=[]:=by
    generalize a8:gu c b 0=W at*
    have s:∀x∈W,0<=x:=λx j=>by rw[<-a8]at j;obtain⟨u,y,D⟩:=rV j;omega
    unfold ls at q
    split at q
    ·rename_i E;exact absurd (s _ E) q
    ·cases W with
     |nil=>rfl
     |cons x W=>have:=s x (by simp);simp at q;omega
   simp[n]
   refine⟨_,rfl,rfl,?_⟩
   simp only
   rw[aq S]
   exact⟨(m.mono (h':=h') λw P=>f.get w (X w P)).out d,⟨(v.out d).hp,(v.out d).low,by simp;omega⟩,λF B _=>(fj d h' F).trans (f.get F B)⟩
 ·simp
  exact⟨⟨((Nb.refl aE.hr).cons _).ok,λc B=>(((Nb.refl aE.hr).cons _).get c B).trans (fU d c)⟩,h,p,by simp[ls,gu]⟩
def A1(b:Int)(a:dx):dx:=if a.im=3/\a.cond=b then j1 4 a else a
def Sr(a:G8)(d:List T)(b:H):Prop:=d=[LJ a.S a.c0 a.c2 a.c3,.int .i64 a.c]/\Gr b a.c3 3 (a.S.dp.map dx.t)/\gh 0 b/\a.S.dp.length<=1000000
def Mn(a:G8)(f:List T)(b:H)(e:T)(d:H):Prop:=e= .int .i64 (gu a.c a.S.dp 0).length/\VB b d a.c3 (a.S.dp.map (A1 a.c))
theorem Fq:(jM G8 Sr Mn).Ok Tryz.prog cx 86:=by
 refine iU (tb:=⟨pt [(130,tg)],ht []⟩) dX dU (iN 270071 [] Tryz.func86) (λ_ _=>1000005) (λi a d a7=>by obtain⟨rfl,_⟩:=a7;simp[Tryz.f86]) ?_
 rintro⟨⟨L,bp,bu,b⟩,an,ap,v,e,bN⟩ _ d ⟨rfl,C,Z,hl⟩ l T
 simp only at C hl
 simp[LJ]at T
 obtain⟨aE,m⟩:=T
 have Y:=λm:H=>C.len (cx:=cx) m Kf _ rfl
 rw[aH]at Y
 have R:∀f,dE v=some f->f<d.size:=λf E=>by obtain⟨_,_,_,_,bi,_⟩:=C.box E;exact H.dL bi
 simp[Tryz.f86,aE,Y]
 refine eQ b.length (by omega) (λi l h'=>gh d.size h'/\d.size<h'.size/\h'.get d.size=some ⟨4,0,0,true,false,[.agg [an,.int .i64 bp,ap,v]]⟩/\(∀c,c<d.size->dE v≠some c->h'.get c=d.get c)/\Gr h' v 3 (((b.take i).map (A1 e)++b.drop i).map dx.t)/\TI.dt l 1=some (.int .i64 e)/\TI.dt l 2=some (.ptr d.size 0 0 0)/\TI.dt l 5=some (.int .i64 (gu e (b.take i) 0).length)/\TI.dt l 9=some v/\TI.dt l 10=some (.int .i64 b.length)/\TI.dt l 11=some (.int .i64 i)) ?_ ?_ (by omega) ?_
 ·rintro i l h' n U ⟨u,P,I,B,r,m,K,z,D,w,y⟩
  have bn:gh 0 h':=⟨u.hp,u.low,aw _⟩
  have W:((b.take i).map (A1 e)++b.drop i)[i]? =some b[i]:=by
   rw[cq (by simp;omega)];simp[cr (show i<=b.length by omega),n]
  obtain⟨f,av,al,S,bs,V,M,X,a6⟩:=r.at (x:=b[i].t) (i:=i) (by simp[W])
  have aX:(((b.take i).map (A1 e)++b.drop i).map dx.t).length=b.length:=by simp;omega
  rw[aX]at V a6
  subst V
  have bz:(f=h'.size)=False:=by have:=H.dL M;simp;omega
  have E:f<d.size:=R f rfl
  have bk:=bn.low
  have F:=Au e b n
  have bv:(gu e (b.take i) 0).length<=i:=by have:=Av e (b.take i) 0;simp at this;omega
  have aN:binop .add (.int .i64 ((gu e (b.take i) 0).length:Int)) (.int .i64 1)=some (.int .i64 (((gu e (b.take i) 0).length:Int)+1)):=fQ (by omega) (by omega)
  have O:(b.take (i+1)).map (A1 e)++b.drop (i+1)=((b.take i).map (A1 e)++b.drop i).set i (A1 e b[i]):=by
   rw[List.set_append_right _ _ (by simp;omega),bj n,List.map_append,aJ n]
   simp[cr (show i<=b.length by omega)]
   rw[aJ n];rfl
  simp[m,D,w,y,n,M,X,bk,JP]
  have A:A1 e b[i]=if b[i].im=3/\b[i].cond=e then j1 4 b[i]else b[i]:=rfl
  generalize b[i]=h at*
  have ae:=u.cons ⟨3,0,1,true,false,[h.t]⟩
  have q:∀c,c<h'.size->(h'.cons ⟨3,0,1,true,false,[h.t]⟩).get c=h'.get c:=λc g=>by rw[dH,ao (by omega)]
  refine dM (λp=> ?_) (λp=> ?_)
  ·simp only[ay,aL]at p
   rw[aq p]at F A
   have N:=(q f (by omega)).trans M
   have Q:=(q d.size P).trans I
   have bB:(f=d.size)=False:=by simp;omega
   simp[m,K,z,D,w,y,Q,N,X,n,aN,U]
   have J:∀G c,(dI (h'.cons ⟨3,0,1,true,false,[h.t]⟩) f G).get c=if c=f then some G else(h'.cons ⟨3,0,1,true,false,[h.t]⟩).get c:=λG c=>dy N G c
   refine⟨ae.put _ _,by omega,by rw[J,ao (by omega)];exact Q,λc g s=>by rw[J,ao (λp=>s p.symm),q c (by omega)];exact B c g (by simpa using s),?_,by rw[F];simp⟩
   have aA:=r.mono (h':=h'.cons ⟨3,0,1,true,false,[h.t]⟩) λc g=>q c (by simp at g;omega)
   have:=aA.setAt rfl N i (j1 4 h).t (h':=dI (h'.cons ⟨3,0,1,true,false,[h.t]⟩) f ⟨3,av,al+1,S,false,bs.set i (j1 4 h).t⟩) (ver2:=al+1) (ex2:=S) (by rw[J,aq rfl])
   rw[<-bV,<-A,<-O]at this
   rw[A]at this
   exact this
  ·rw[ao (by simpa using p)]at F A
   simp[m,K,z,D,w,y,U]
   refine⟨ae,by omega,by simpa using(q d.size P).trans I,λc g s=>by rw[ao (by omega)];exact B c g (by simpa using s),?_,by rw[F];simp⟩
   have a8:((b.take i).map (A1 e)++b.drop i).set i h=(b.take i).map (A1 e)++b.drop i:=by
    apply cV;intro j
    rw[cm];split
    ·rename_i k;subst k;rw[W];simp;omega
    ·rfl
   rw[A,a8]at O
   have:=r.mono (h':=h'.cons ⟨3,0,1,true,false,[h.t]⟩) λc g=>q c (by simp at g;omega)
   rw[<-O]at this
   simpa using this
 ·rintro l h' ⟨u,P,I,B,r,m,K,z,D,w,y⟩
  rw[aQ,dg,bL]at r
  rw[aQ]at z
  simp[z,w,y]
  exact⟨rfl,r.out d,⟨(u.out d).hp,(u.out d).low,by simp;omega⟩,λc g s=>(fj d h' c).trans (B c g s)⟩
 ·simp
  exact⟨⟨Z.hr.hp,Z.hr.low,au _⟩|>λ(o:gh d.size (TI.hr d))=>o.cons _,λc g _ p=>by omega,(C.mono (h':=TI.hr d) λf _=>fU d f).mono λf E=>by rw[dH,ao (by have:=R f E;simp;omega)],m,by simp[gu]⟩
end
end Go.Proofs.YtmaeadedikngoaaGreatDoor
