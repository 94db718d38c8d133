/- W20m -/
import Derived.Test.YtalknpnbaceflaaGreatDoorA30
set_option linter.all false
set_option maxRecDepth 100000
set_option maxHeartbeats 0
namespace Go.Proofs.YtalknpnbaceflaaGreatDoor
noncomputable section
open Go Go.TI Tryz
attribute [-simp] List.map_take List.map_drop List.map_append ij gG fK Bool.not_or Bool.not_and
attribute [simp] ig gJ
def Ff:iK:=⟨Unit,λ_=>[],λ_=>True,λ_=> .ez true,λ_ _ _=>rfl⟩
def WY:Ff.Ok prog cx 13:=λ_ _=>SN
def N5{a:io}(ht:a.p 13=some Ff):rl prog cx a 13 []=some (.ez true):=iN ht WY () trivial
def Bt:iK:=⟨fg×jm,λa=>[a.1.t,a.2.t],λa=>lj a.1/\a.2.jz.length<=1000000,λa=> .ez (a.1.gx.vR a.2),λa c b=>by simp at b;rw[fg.inj b.1,jm.inj b.2]⟩
def RD{b:io}(ht:b.p 25=some uH)(a:fg)(c:lj a):rl prog cx b 25 [a.t]=some (.tuple [iw.t ⟨a,a.gx.st⟩,.ez true]):=iN ht H7 a c
def Ts:Bt.Ok prog cx 31:=by
 refine iF [(25,uH),(27,xf)] (jF 127 [] func31) (λ_=>100) (by simp[Bt]) ?_;rintro⟨c,d⟩ ⟨a,hl⟩ g b;simp only at a hl;simp[Bt]at b|-;obtain⟨e,f⟩:=b;simp[f31,e,f,RD,a,PL,(⟨a,rfl⟩:y8 ⟨c,c.gx.st⟩),hl];exact GX.V1 _ d
def xj:iK:=⟨gY,λa=>[a.t],λa=>a.fI.length<=1000000/\a.done.length<=1000000/\a.ee.length<=1000000/\∀c∈a.fI,c.fO.length<=1000000,λa=>a.t,λd e b=>by simp at b;rw[gY.inj b]⟩
def WU:xj.Ok prog cx 50:=by
 rintro(a:gY) d;have⟨q,h,l,k⟩:=FG [a.t] ⟨0,0,[]⟩ ⟨a,rfl,⟨rfl,ax _,ax _⟩,d⟩;obtain⟨e,f,g,p,rfl,b,n⟩:=l a ⟨rfl,⟨rfl,ax _,ax _⟩,d⟩;have m:TI.rZ h (Ql a e f g)=some a.t:=by
  unfold Ql;rw[Pi];simp[b.fz.1,b.fz.2.1,b.fz.2.2]
 have⟨r,i,c⟩:=eg.1 m;simp only[aw]at c;have:=GE k n.ok.hp (ay _) (λo s j=>by simp at j) i;rw[c]at this;exact Fk (mD _ (by simp[xj])) G this
def Vd{b:io}(ht:b.p 50=some xj)(a:gY)(c:a.fI.length<=1000000/\a.done.length<=1000000/\a.ee.length<=1000000/\∀d∈a.fI,d.fO.length<=1000000):rl prog cx b 50 [a.t]=some a.t:=iN ht WU a c
section
attribute [-simp] size_cons
def xM{d:io}(ht:d.p 15=some qf)(b:fg)(a:fT)(c:Int)(e:vZ b a):rl prog cx d 15 [b.t,a.t,C c]=some (.ez (jk b a c)):=iN ht KV (b,a,c) e
def E6:iK:=⟨fg×fT×Int,λa=>[a.1.t,a.2.1.t,C a.2.2],λa=>vZ a.1 a.2.1,λa=>sl ((pV a.1 a.2.1 a.2.2).map (T.int .i64)),λa c b=>by simp at b;rw[show a=c from aD (fg.inj b.1) (aD (fT.inj b.2.1) b.2.2)]⟩
def Wt:E6.Ok prog cx 21:=by
 refine iF [(33,so),(51,uE)] (jF 34368127455 [] func21) (λy=>5) (by simp[E6]) ?_;rintro⟨b,a,d⟩ (k:vZ b a) E s;simp[E6]at s|-;obtain⟨g,h,i⟩:=s;have hE:=pV.eq_1 b a d;generalize pV b a d=x at*
 have j:=λ{r:io} (ht:r.p 33=some so)=>JO ht b a d k.ev k.od;by_cases v:ja b a d<0
 ·rw[Z B]at hE;simp[f21,g,h,i,j,show¬0<=ja b a d by omega,hE]
  try rfl
 ·have q:=rQ v;have⟨e,f,o,z,A,D⟩:=k.hw.at q;rw[ny (fQ.1 q).1 f]at hE;have u:a.gu.ee.length<=1099511627776:=by have:=k.l (pK q);omega
  have t:=λ{r:io} (ht:r.p 51=some uE)=>Cn ht a.gu e.obj u;have m:0<=ja b a d:=B;cases c:decide (e.fh=18)
  ·rw[Z (by simp at c;simp[c])]at hE;simp[f21,g,h,i,j,m,f,o,c,hE]
   try rfl
  ·by_cases n:ji e.obj a.gu.ee 0=[]
   ·rw[Z (by simp[n])]at hE;simp[f21,g,h,i,j,m,f,o,c,t,n,hE]
    try rfl
   ·rw[au ⟨m,by simpa using c,n⟩]at hE;have w:0<(ji e.obj a.gu.ee 0).length:=List.length_pos_iff.2 n;simp[f21,g,h,i,j,m,f,o,c,t,w,hE]
def aby{d:io}(ht:d.p 21=some E6)(b:fg)(a:fT)(c:Int)(e:vZ b a):rl prog cx d 21 [b.t,a.t,C c]=some (sl ((pV b a c).map (T.int .i64))):=iN ht Wt (b,a,c) e
def af0(g:H)(a:gY)(b:Nat)(c d:List im):Prop:=∃h e f,oJ g 4 9 h [(sl (a.fI.map fa.t),none),(C a.tx,none),(sl (a.done.map T.ez),none),(sl (a.ee.map ei.t),none),(e,some (2,c.map im.t)),(f,some (2,d.map im.t)),(dV,none),(.arr 2 0 0 b false,some (1,(List.replicate b false).map T.ez)),(.arr 3 0 0 b false,some (1,(List.replicate b (0:Int)).map (T.int .i64)))]
def oy:jK:=(X 9 0 [.eZ [dV,C 0,dV,dV,dV,dV,dV,dV,dV]])
def yw:iK:=⟨fg,λa=>[a.t],λa=>lj a,λa=>(jI a).t,λc d b=>by simp at b;rw[fg.inj b]⟩
def QU:yw.Ok prog cx 20:=by
 refine iF [(50,xj)] (jF 17592202821695 [(1,[(3,5),(3,7),(3,9),(3,11),(3,13)])] func20) (λ_=>1000005) (by simp[yw]) ?_;rintro(a:fg) N d v;simp[yw]at v|-;have⟨l1,l2,l3,l4,l5,l6⟩:=N.sm.l;have bp:=N.ok.len;have Z:a.ej.length<=70368744177664:=B;have ab:a.ej.length*8<=70368744177664:=B;have aA:=λ{a6:io} (ht:a6.p 50=some xj)=>Vd ht a.ka.gu ⟨B,B,B,λaN F=>by have:=N.sm.r aN F;omega⟩;have an:jI a=⟨a.ka.gu,a.ka.cells.map λi=>⟨i,true⟩,a.ka.fH.map λi=>⟨i,true⟩,[],List.replicate a.ej.length false,List.replicate a.ej.length 0⟩:=rfl;rw[an];simp[f20,v,aA,Z,ab];generalize a.ka.gu=c at*
 refine ik a.ka.cells.length B (λm d g=>af0 g c a.ej.length ((a.ka.cells.take m).map λi=>⟨i,true⟩) []/\Lb 4 g 0 (X 15 0 [a.t])/\Lb 4 g 1 oy/\Y d 1 (.fc 0 0 0 0)/\Y d 2 (.fc 1 0 0 0)/\Y d 3 (.fc 4 0 0 0)/\Y d 4 (C m)) ?_ ?_ B ?_
 ·rintro m d g E L ⟨⟨P,e,f,b⟩,h,q,j,o,s,u⟩;have n:=b.get;simp at n;have⟨a7,al,K,A⟩:=(b.gr 4 rfl).m9 (cx:=cx) (f:=im.t) b.ok A2 rfl Cg rfl G (λ_=>rfl) ⟨a.ka.cells[m],true⟩ dR;have⟨y,aX,H⟩:=b.app 4 rfl A;have⟨z,I⟩:=H _ rfl;simp only[aO,bF,cP,cz]at y z I;simp[j,o,s,u,E,h.get,n,K,y,fG,A.1.jc,A.1.cells,L];exact⟨⟨_,_,_,by rw[aP E,List.map_append];exact I⟩,h.step z,q.step z⟩
 ·rintro d g ⟨⟨P,e,f,b⟩,h,q,j,o,s,u⟩;rw[aL]at b;simp[j,u,h.get];refine ik a.ka.fH.length B (λm d g=>af0 g c a.ej.length (a.ka.cells.map λi=>⟨i,true⟩) ((a.ka.fH.take m).map λi=>⟨i,true⟩)/\Lb 4 g 0 (X 15 0 [a.t])/\Lb 4 g 1 oy/\Y d 1 (.fc 0 0 0 0)/\Y d 2 (.fc 1 0 0 0)/\Y d 3 (.fc 4 0 0 0)/\Y d 5 (C m)) ?_ ?_ B ⟨⟨_,_,_,b⟩,h,q,by simp[j,o,s]⟩
  ·rintro m d g E L ⟨⟨P,e,f,b⟩,h,q,j,o,s,u⟩;have n:=b.get;simp at n;have⟨a7,al,K,A⟩:=(b.gr 5 rfl).m9 (cx:=cx) (f:=im.t) b.ok A2 rfl Cg rfl G (λ_=>rfl) ⟨a.ka.fH[m],true⟩ dR;have⟨y,aX,H⟩:=b.app 5 rfl A;have⟨z,I⟩:=H _ rfl;simp only[aO,bF,cP,cz]at y z I;simp[j,o,s,u,E,h.get,n,K,y,fG,A.1.jc,A.1.cells,L];exact⟨⟨_,_,_,by rw[aP E,List.map_append];exact I⟩,h.step z,q.step z⟩
  ·rintro d g ⟨⟨P,e,f,b⟩,h,q,j,o,s,u⟩;rw[aL]at b;have n:=b.get;simp at n;have O:=q.get;unfold oy at O;have J:=b.qJ q (X 9 1 [.eZ [sl (c.fI.map fa.t),C c.tx,sl (c.done.map T.ez),sl (c.ee.map ei.t),e,f,dV,.arr 2 0 0 a.ej.length false,.arr 3 0 0 a.ej.length false]]);have ae:(fJ g 1 (X 9 1 [.eZ [sl (c.fI.map fa.t),C c.tx,sl (c.done.map T.ez),sl (c.ee.map ei.t),e,f,dV,.arr 2 0 0 a.ej.length false,.arr 3 0 0 a.ej.length false]])).get 1=_:=(eG O _ 1).trans (au rfl);have a8:=(J.gr 4 rfl).fz G;have bg:=(J.gr 5 rfl).fz G;have bi:=(J.gr 7 rfl).fz G;have bn:=(J.gr 8 rfl).fz G;simp[j,o,s,u,h.get,n,O,fG,ae,a8,bg,bi,bn,-List.map_replicate,-xE];exact⟨b.ok.hp,by unfold fT.t fT.cs;simp[-List.map_replicate]⟩
 ·have U:∀(w:Nat) (D:T×aa (Nat×List T)),([(sl (c.fI.map fa.t),none),(C c.tx,none),(sl (c.done.map T.ez),none),(sl (c.ee.map ei.t),none),(dV,some (2,[])),(dV,some (2,[])),(dV,none),(.arr 2 0 0 a.ej.length false,some (1,(List.replicate a.ej.length false).map T.ez)),(.arr 3 0 0 a.ej.length false,some (1,(List.replicate a.ej.length (0:Int)).map (T.int .i64)))]:List (T×aa (Nat×List T)))[w]? =some D->∀e,fq D.1=some e->e+5=w:=by
   intro w D v e av;rcases w with _|_|_|_|_|_|_|_|_|w<;>simp at v<;>subst v<;>simp at av<;>omega
  refine⟨⟨1,dV,dV,⟨G,G,G⟩,G,λf Q=>?_,λw k aE D W v ap e y H=>aE ?_⟩,⟨G,?_⟩,⟨by simp[oy],?_⟩,G⟩
  ·simp only[ci,cS,or_false,bF,List.take_zero]at Q;rcases Q with rfl|rfl|rfl|rfl|rfl|rfl|rfl|rfl|rfl
   iterate 4 (show fq _=none;simp)
   ·exact⟨Gr.nil _ _,dT⟩
   ·exact⟨Gr.nil _ _,dT⟩
   ·show fq _=none;simp
   ·exact⟨.inr ⟨2,0,0,true,_,G,by simp;rfl,G⟩,show(1:Nat)≠9 by decide⟩
   ·exact⟨.inr ⟨3,0,0,true,_,G,by simp;rfl,G⟩,show(1:Nat)≠9 by decide⟩
  ·have j:=U w D (by simpa using v) e y;have o:=U k W (by simpa using ap) e H;omega
  all_goals
   rintro(F|⟨x,S,i,R,F⟩)
   ·simp at F
   ·simp at S;subst S;simp[iq,T.cells]at R;rcases R with rfl|rfl|rfl|rfl|rfl|rfl|rfl|rfl|rfl<;>simp at F
def U1{b:io}(ht:b.p 20=some yw)(a:fg)(c:lj a):rl prog cx b 20 [a.t]=some (jI a).t:=iN ht QU a c
def Yu{h:GX}{f:jm}(e:h.vR f=true):(f.fh=2/\∀i∈f.jz,ju i h.ev.length=true)\/((f.fh=1\/f.fh=3\/f.fh=4)/\h.zJ f.a=true/\h.zJ f.b=true/\h.zJ f.c=true/\h.zJ f.d=true):=by
 unfold GX.vR at e;split at e
 ·rename_i g;refine .inl ⟨g,λi j=>?_⟩;unfold GX.dead GX.J8 at e;simp only[az,cg]at e;exact e.2.1.2 i j
 ·split at e
  ·rename_i g;simp only[az]at g;refine .inr ⟨?_,g.1.1.1,g.1.1.2,g.1.2,g.2⟩;split at e
   ·omega
   ·split at e
    ·omega
    ·split at e
     ·omega
     ·simp at e
  ·simp at e
def Jw(b:fg)(c:fT)(a:Int):Bool:=decide (ja b c (kS b.ej a).eJ=a)&&(!decide ((kS b.ej a).fh=17)||decide ((j2 c.gu (kS b.ej a).eJ).je=4))
def Xh{a:List Int}{c:Int}(b:a.getLast?=some c):0<a.length/\a[a.length-1]? =some c:=by
 rw[List.getLast?_eq_getElem?]at b;refine⟨?_,b⟩;cases a with
 |nil=>simp at b
 |cons=>simp
def XW{c:io}(ht:c.p 31=some Bt)(b:fg)(a:jm)(d:lj b)(hl:a.jz.length<=1000000):rl prog cx c 31 [b.t,a.t]=some (.ez (b.gx.vR a)):=iN ht Ts (b,a) ⟨d,hl⟩
def uK(b:fg)(c:fT)(a:Int):Bool:=ju a b.ej.length&&decide (ja b c (kS b.ej a).eJ=a)
def yu(b:fg)(c:fT)(a:Int):Bool:=ju a b.ej.length&&IM b c a
def zo:iK:=⟨fg×fT×Int,λa=>[a.1.t,a.2.1.t,C a.2.2],λa=>vZ a.1 a.2.1,λa=> .ez (uK a.1 a.2.1 a.2.2),λa c b=>by simp at b;rw[show a=c from aD (fg.inj b.1) (aD (fT.inj b.2.1) b.2.2)]⟩
def TJ:zo.Ok prog cx 72:=by
 refine iF [(58,we)] (jF 95 [] func72) (λr=>5) (by simp[zo]) ?_;rintro⟨c,g,a⟩ (j:vZ c g) x i;simp[zo]at i|-;obtain⟨d,e,f⟩:=i;cases b:ju a c.ej.length with
 |false=>
  have v:=rS b;by_cases k:0<=a
  ·simp[f72,d,e,f,uK,b,show decide (0<=a)=true by simpa using k,show decide (a<(c.ej.length:Int))=false by simp;omega]
  ·simp[f72,d,e,f,uK,b,show decide (0<=a)=false by simpa using k]
 |true=>
  have⟨m,h,n,s,t,u⟩:=j.hw.at b;have⟨l,w⟩:=fQ.1 b;have o:=λ{q:io} (ht:q.p 58=some we)=>N2 ht c g m.eJ j;simp[f72,d,e,f,uK,b,show decide (0<=a)=true by simpa using l,show decide (a<(c.ej.length:Int))=true by simp;omega,h,n,o,ny l h]
def EC{d:io}(ht:d.p 72=some zo)(b:fg)(a:fT)(c:Int)(e:vZ b a):rl prog cx d 72 [b.t,a.t,C c]=some (.ez (uK b a c)):=iN ht TJ (b,a,c) e
def By:iK:=⟨fg×fT×Int,λa=>[a.1.t,a.2.1.t,C a.2.2],λa=>vZ a.1 a.2.1,λa=> .ez (yu a.1 a.2.1 a.2.2),λa c b=>by simp at b;rw[show a=c from aD (fg.inj b.1) (aD (fT.inj b.2.1) b.2.2)]⟩
def TE:By.Ok prog cx 71:=by
 refine iF [(72,zo),(57,rL)] (jF 95 [] func71) (λo=>5) (by simp[By]) ?_;rintro⟨a,b,c⟩ (e:vZ a b) s k;simp[By]at k|-;obtain⟨g,h,i⟩:=k;have j:yu a b c=(uK a b c&&jk a b (kS a.ej c).eJ):=by unfold yu uK IM;rw[Bool.and_assoc]
 cases d:uK a b c
 ·simp[f71,g,h,i,EC,e,j,d]
 ·have l:ju c a.ej.length=true:=by unfold uK at d;simp only[az]at d;exact d.1
  have⟨p,f,m,q,n,r⟩:=e.hw.at l;simp[f71,g,h,i,EC,e,j,d,f,m,Iw,n,ny (fQ.1 l).1 f]
def PO{d:io}(ht:d.p 71=some By)(b:fg)(a:fT)(c:Int)(e:vZ b a):rl prog cx d 71 [b.t,a.t,C c]=some (.ez (yu b a c)):=iN ht TE (b,a,c) e
def Pt(c:fg)(a:fT)(b:Int):Bool:=uK c a b&&Jw c a b
def mH(g:fg)(f:fT)(e:jm):Bool:=
 if e.fh=1 then yu g f e.a&&yu g f e.b
 else if e.fh=2 then e.jz.all (Pt g f)
 else if e.fh=3 then decide (f.order.getLast?=some e.b)&&decide (e.a∈f.order)&&J9 f e.a
 else if e.fh=4 then decide (0<=place f e.a)&&decide (place f e.a<place f e.c)&&decide (e.d∈f.order)&&yu g f e.b
 else false
def yx:iK:=⟨fg×fT×jm,λa=>[a.1.t,a.2.1.t,a.2.2.t],λa=>vZ a.1 a.2.1/\a.2.2.jz.length<=1000000,λa=> .ez (mH a.1 a.2.1 a.2.2),λa c b=>by simp at b;rw[show a=c from aD (fg.inj b.1) (aD (fT.inj b.2.1) (jm.inj b.2.2))]⟩
def QZ:yx.Ok prog cx 30:=by
 refine iF [(71,By),(72,zo),(73,po),(74,xi)] (jF 332306998946231919705005790102318975 [] func30) (λbg=>1000005) (by simp[yx]) ?_;rintro⟨h,d,c⟩ ⟨k,hl⟩ q Q;simp only at k hl;simp[yx]at Q|-;obtain⟨m,n,o⟩:=Q;have hE:=mH.eq_1 h d c;generalize mH h d c=W at*
 have I:=k.od;by_cases e:c.fh=1
 ·rw[au e]at hE;simp[f30,m,n,o,show decide (c.fh=1)=true by simpa using e,PO,k,hE]
 rw[Z e]at hE;have r:decide (c.fh=1)=false:=by simpa using e
 by_cases e:c.fh=2
 ·rw[au e]at hE;have l:decide (c.fh=2)=true:=by simpa using e
  simp[f30,m,n,o,r,l];refine ik c.jz.length B (λi q w=>iQ 3 w/\w.get 0=some (X 15 0 [h.t])/\w.get 1=some (X 9 0 [d.t])/\Y q 3 (.fc 0 0 0 0)/\Y q 4 (.fc 1 0 0 0)/\Y q 31 (sl (c.jz.map (T.int .i64)))/\Y q 32 (C c.jz.length)/\Y q 33 (C i)/\(c.jz.drop i).all (Pt h d)=W) ?_ ?_ B ⟨⟨G,G,G⟩,G,G,by simp[hE]⟩
  ·rintro i q w K aA ⟨p,z,A,D,F,E,x,y,f⟩;rw[aJ K,cA]at f;have ap:Pt h d c.jz[i]=(uK h d c.jz[i]&&Jw h d c.jz[i]):=rfl;rw[ap]at f;have a7:=p.ne (b:=0) B;have v:=p.ne (b:=1) B;cases g:uK h d c.jz[i]with
   |false=>
    rw[g]at f;simp at f;simp[z,A,D,F,E,x,y,K,EC,k,g,p.hp,f]
   |true=>
   rw[g,bm]at f;have j:ju c.jz[i] h.ej.length=true:=by unfold uK at g;simp only[az]at g;exact g.1
   have⟨u,J,ae,bi,P,bn⟩:=k.hw.at j;have av:Jw h d c.jz[i]=(decide (ja h d u.eJ=c.jz[i])&&(!decide (u.fh=17)||decide ((j2 d.gu u.eJ).je=4))):=by
    unfold Jw;rw[ny (fQ.1 j).1 J]
   have a6:decide (ja h d u.eJ=c.jz[i])=true:=by unfold uK at g;simp only[az]at g;rw[ny (fQ.1 j).1 J]at g;exact g.2
   rw[av,a6,bm]at f;have R:=k.hc.ft (pK j);have⟨S,t1,t2,t3⟩:=xc R P;have aE:decide ((d.gu.ee.length:Int)<=u.eJ)=false:=by rw[(kY R).2.2];have:=fQ.1 P;simp;omega
   rw[t3]at f;simp[z,A,D,F,E,x,y,K,EC,k,g,J,ae,v,p.low,t1,t2,aE];refine fN (λaN=>?_) (λaN=>?_)
   ·rw[show(!decide (u.fh=17)||decide (S.je=4))=false by grind]at f;simp at f;simp[p.hp,f]
   ·rw[show(!decide (u.fh=17)||decide (S.je=4))=true by grind]at f;simp at f;simp[z,A,D,F,E,x,y,a7,v,aA,p.cons,f]
  ·rintro q w ⟨p,z,A,D,F,E,x,y,f⟩;rw[bR]at f;simp at f;simp[x,y,p.hp,f]
 rw[Z e]at hE;have l:decide (c.fh=2)=false:=by simpa using e
 by_cases e:c.fh=3
 ·rw[au e]at hE;have s:decide (c.fh=3)=true:=by simpa using e
  have bs:d.qA.length=h.ej.length:=k.hc.wk;cases H:d.order.getLast? with
  |none=>
   have aX:d.order=[]:=by simpa using H
   rw[H]at hE;simp at hE;simp[f30,m,n,o,r,l,s,aX,hE]
  |some U=>
   have⟨v,L⟩:=Xh H;rw[H]at hE;have a8:decide (some U=some c.b)=decide (U=c.b):=G;rw[a8]at hE;have N:binop .sub (C (d.order.length:Int)) (C 1)=some (C ((d.order.length-1:Nat):Int)):=by rw[mh B B,show(d.order.length:Int)-1=((d.order.length-1:Nat):Int)by omega]
   cases j:ju c.a d.qA.length with
   |false=>
    have bp:=rS j;have O:J9 d c.a=false:=by unfold J9;rw[pF j];rfl
    rw[O,Bool.and_false]at hE;by_cases g:0<=c.a
    ·simp[f30,m,n,o,r,l,s,v,L,N,qz,I,show decide (0<=c.a)=true by simpa using g,show decide (c.a<(d.qA.length:Int))=false by simp;omega,hE]
    ·simp[f30,m,n,o,r,l,s,v,L,N,qz,I,show decide (0<=c.a)=false by simpa using g,hE]
   |true=>
    have⟨V,al,an⟩:=jn j;have⟨p1,p2⟩:=fQ.1 j;have O:J9 d c.a=decide (V=0):=by unfold J9;rw[an];simp
    rw[O]at hE;simp[f30,m,n,o,r,l,s,v,L,N,qz,I,show decide (0<=c.a)=true by simpa using p1,show decide (c.a<(d.qA.length:Int))=true by simp;omega,fU p1,al,hE]
 rw[Z e]at hE;have s:decide (c.fh=3)=false:=by simpa using e
 by_cases e:c.fh=4
 ·rw[au e]at hE;have ab:decide (c.fh=4)=true:=by simpa using e
  simp[f30,m,n,o,r,l,s,ab,PQ,qz,PO,k,I,hE];rfl
 ·rw[Z e]at hE;simp[f30,m,n,o,r,l,s,show decide (c.fh=4)=false by simpa using e,hE]
def U3{d:io}(ht:d.p 30=some yx)(c:fg)(a:fT)(b:jm)(e:vZ c a)(hl:b.jz.length<=1000000):rl prog cx d 30 [c.t,a.t,b.t]=some (.ez (mH c a b)):=iN ht QZ (c,a,b) ⟨e,hl⟩
def sq:iK:=⟨fg×fT×jm,λa=>[a.1.t,a.2.1.t,a.2.2.t],λa=>vZ a.1 a.2.1/\a.2.2.jz.length<=1000000,λa=> .ez (mH a.1 a.2.1 a.2.2&&a.1.gx.vR a.2.2),λa c b=>by simp at b;rw[show a=c from aD (fg.inj b.1) (aD (fT.inj b.2.1) (jm.inj b.2.2))]⟩
def TU:sq.Ok prog cx 11:=by
 refine iF [(30,yx),(31,Bt)] (jF 127 [] func11) (λf=>5) (by simp[sq]) ?_;rintro⟨j,g,h⟩ ⟨a,hl⟩ i b;simp only at a hl;simp[sq]at b|-;obtain⟨c,d,e⟩:=b;simp[f11,c,d,e,U3,XW,a,a.hw,hl]
def JP{d:io}(ht:d.p 11=some sq)(b:fg)(c:fT)(a:jm)(e:vZ b c)(hl:a.jz.length<=1000000):rl prog cx d 11 [b.t,c.t,a.t]=some (.ez (mH b c a&&b.gx.vR a)):=iN ht TU (b,c,a) ⟨e,hl⟩
@[simp]def ajP (a:Nat):(a+1+1=a)=False:=dR 
@[simp]def ajO (a:Nat):(a+1+1+1=a)=False:=dR 
@[simp]def ajN (a:Nat):(a+1+1+1+1=a)=False:=dR 
@[simp]def ajM (a:Nat):(a+1+1+1+1+1=a)=False:=dR 
@[simp]def ajL (a:Nat):(a+1+1+1+1+1+1=a)=False:=dR 
@[simp]def ajF (a:Nat):(a=a+1+1+1+1+1+1)=False:=dR 
@[simp]def ajE (a:Nat):(a=a+1+1+1+1+1+1+1)=False:=dR 
def Bx(e:H)(a b f:Nat)(c:List T):Prop:=∃g d,e.get a=some ⟨f,b,g,d,false,c⟩
def Bx.mono{d h':H}{a b e:Nat}{c:List T}(j:Bx d a b e c)(g:h'.get a=d.get a):Bx h' a b e c:=by obtain⟨i,f,h⟩:=j;exact⟨i,f,g.trans h⟩
def Bx.gr{d:H}{b c e:Nat}{a:List T}(g:Bx d b c e a):Gr d (.arr b c 0 a.length false) e a:=by obtain⟨i,h,f⟩:=g;exact Gr.new f
def SW(a:fT)(b:List T)(c:H):Prop:=b=[a.t]/\iQ 0 c/\(a.gu.fI.length<=1000000/\a.gu.done.length<=1000000/\a.gu.ee.length<=1000000/\∀d∈a.gu.fI,d.fO.length<=1000000)/\a.cells.length<=1000000/\a.fH.length<=1000000/\a.order.length<=1000000/\a.fixed.length<=1000000/\a.qA.length<=1000000
def Zy(a:fT)(b c d e f g:Nat):T:= .eZ [sl (a.gu.fI.map fa.t),C a.gu.tx,sl (a.gu.done.map T.ez),sl (a.gu.ee.map ei.t),.arr b c 0 a.cells.length false,.arr (b+1) d 0 a.fH.length false,.arr (b+1+1) e 0 a.order.length false,.arr (b+1+1+1) f 0 a.fixed.length false,.arr (b+1+1+1+1) g 0 a.qA.length false]
structure VQ(c:fT)(n e1 e2 e3 e4 e5:Nat)(h':H):Prop where
 bc:Bx h' n e1 2 (c.cells.map im.t)
 bf:Bx h' (n+1) e2 2 (c.fH.map im.t)
 bo:Bx h' (n+1+1) e3 1 (iz c.order)
 bx:Bx h' (n+1+1+1) e4 1 (c.fixed.map T.ez)
 bk:Bx h' (n+1+1+1+1) e5 1 (iz c.qA)
 bz:n+5<=h'.size
def OP(b:fT)(k:List T)(h:H)(j:T)(i:H):Prop:=∃a c d e f g,h.size<=a/\Nb h i/\j=Zy b a c d e f g/\VQ b a c d e f g i
def ym{b c:H}{x:jK}(e:∀a,a<b.size->c.get a=b.get a)(f:c.size=b.size+1)(a:Nat)(d:(a=b.size)=False):gU (b.cons x) c a=true:=by
 rcases dG a b.size with q|q|q
 ·exact il ((e a q).trans (by rw[fk,Z B]))
 ·exact(d▸q:False).elim
 ·exact jL (mP _ dR)
def T3:(km fT SW OP).Ok prog cx 52:=by
 refine kh (tb:=⟨pt [(50,xj)],ht []⟩) jv jl (jF 7 [(1,[(2,3),(2,5),(2,7),(6,7),(2,9),(6,9),(2,11),(6,11),(10,11),(2,13),(6,13),(10,13),(2,15),(6,15),(10,15),(14,15),(2,17),(6,17),(10,17),(14,17),(2,19),(6,19),(10,19),(14,19),(18,19),(2,21),(6,21),(10,21),(14,21),(18,21)])] func52) (λ_ _=>20) (λi a b bi=>by obtain⟨rfl,_⟩:=bi;simp[f52]) ?_;rintro c _ b ⟨rfl,bH,bn,l1,l2,l3,l4,l5⟩ cX N;simp at N;have A:=bH.hr;have a8:=λ{tb:io} (ht:tb.p 50=some xj)=>Vd ht c.gu bn;have⟨f,g⟩:∃f:H,f=((TI.hr b).cons (X 9 0 [c.t])).cons oy:=⟨_,rfl⟩;have bW:iQ 0 f:=by subst g;exact(A.cons _).cons _
 have al:f.size=b.size+1+1:=by subst g;rfl
 have bC:Nb b f:=by subst g;exact⟨(((Nb.refl A).cons _).cons _).ok,λc a7=>((((Nb.refl A).cons _).cons _).get c a7).trans (iU b c)⟩
 have aN:f.get b.size=some (X 9 0 [c.t]):=by subst g;simp
 have aX:f.get (b.size+1)=some oy:=by subst g;simp
 have⟨an,c1,D,⟨b6,cb,gA⟩,n,u,bN⟩:=lA (cx:=cx) (sz:=2) bW (x:=sl (c.cells.map im.t)) (xs:=c.cells.map im.t) A2 rfl Cg A2 rfl rfl G G G dR;have⟨ap,c4,E,⟨b7,cd,K⟩,o,m,okB⟩:=lA (cx:=cx) (sz:=2) bN (x:=sl (c.fH.map im.t)) (xs:=c.fH.map im.t) A2 rfl Cg A2 rfl rfl G G G dR;have⟨av,c6,F,⟨b8,cp,gC⟩,q,k,bS⟩:=lA (cx:=cx) (sz:=1) okB (x:=sl (iz c.order)) (xs:=iz c.order) kO rfl nP kO rfl rfl G G (by simp[T.cells]) dR;have⟨aA,c7,I,⟨b9,cF,L⟩,r,h,Q4⟩:=lA (cx:=cx) (sz:=1) bS (x:=sl (c.fixed.map T.ez)) (xs:=c.fixed.map T.ez) Dg rfl LP Dg rfl rfl G G (λe bg=>by obtain⟨d,_,rfl⟩:=List.mem_map.1 bg;rfl) dR;have⟨aE,ab,J,⟨ca,cL,M⟩,ae,j,bT⟩:=lA (cx:=cx) (sz:=1) Q4 (x:=sl (iz c.qA)) (xs:=iz c.qA) kO rfl nP kO rfl rfl G G (by simp[T.cells]) dR;have S:=ym (x:=(X 2 0 [])) u n;have U:=ym (x:=(X 2 0 [])) m o;have V:=ym (x:=(X 1 0 [])) k q;have W:=ym (x:=(X 1 0 [])) h r;have bX:=ym (x:=(X 1 0 [])) j ae;rw[al]at n;rw[n]at o;rw[o]at q;rw[q]at r;rw[r]at ae;have O:=(u b.size B).trans aN;have P:=(m b.size B).trans O;have Q:=(k b.size B).trans P;have bp:=(h b.size B).trans Q;have bs:=(u (b.size+1) B).trans aX;have bu:=(m (b.size+1) B).trans bs;have bA:=(k (b.size+1) B).trans bu;have bB:=(h (b.size+1) B).trans bA;have s:=(j (b.size+1) B).trans bB;simp only[al,aI]at D gA S;simp only[n,aI]at E K U;simp only[o,aI]at F gC V;simp only[q,aI]at I L W;simp only[r,aI]at J M bX;unfold oy at g s;simp[f52,N,a8];rw[<-g];have a6:=λy=>(eG s y (b.size+1)).trans (au rfl);simp[O,P,Q,bp,D,E,F,I,J,S,U,V,W,n,o,q,r,s,a6];generalize w:fJ ab (b.size+1) _=v;have l:∀d,d≠b.size+1->(mX b v).get d=ab.get d:=λd z=>by rw[iB,<-w,eG s,Z z]
 have R:iQ 0 v:=by rw[<-w];exact bT.put _ _
 have c9:(mX b v).size=b.size+7:=by rw[wI,<-w,iy];omega
 exact⟨b.size+1+1,an,ap,av,aA,aE,B,⟨⟨(R.out b).hp,(R.out b).low,B⟩,λd z=>(l d B).trans ((j d B).trans ((h d B).trans ((k d B).trans ((m d B).trans ((u d B).trans (bC.get d z))))))⟩,rfl,
  ⟨b6,cb,(l _ B).trans ((j _ B).trans ((h _ B).trans ((k _ B).trans ((m _ B).trans gA))))⟩,
  ⟨b7,cd,(l _ B).trans ((j _ B).trans ((h _ B).trans ((k _ B).trans K)))⟩,
  ⟨b8,cp,(l _ B).trans ((j _ B).trans ((h _ B).trans gC))⟩,⟨b9,cF,(l _ B).trans ((j _ B).trans L)⟩,⟨ca,cL,(l _ B).trans M⟩,B⟩
def qk(a:fT)(b c d e f:T):List (T×aa (Nat×List T)):=[(sl (a.gu.fI.map fa.t),none),(C a.gu.tx,none),(sl (a.gu.done.map T.ez),none),(sl (a.gu.ee.map ei.t),none),(b,some (2,a.cells.map im.t)),(c,some (2,a.fH.map im.t)),(d,some (1,iz a.order)),(e,some (1,a.fixed.map T.ez)),(f,some (1,iz a.qA))]
def VQ.iP{c:fT}{S:gY}{a i j k l m ver:Nat}{h:H}(g:VQ c a i j k l m h)(E:iQ 0 h)(L:1<a)(z:h.get 1=some (X 9 ver [.eZ [sl (S.fI.map fa.t),C S.tx,sl (S.done.map T.ez),sl (S.ee.map ei.t),.arr a i 0 c.cells.length false,.arr (a+1) j 0 c.fH.length false,.arr (a+1+1) k 0 c.order.length false,.arr (a+1+1+1) l 0 c.fixed.length false,.arr (a+1+1+1+1) m 0 c.qA.length false]])):
 oJ h 1 9 ver (qk {c with gu:=S} (.arr a i 0 c.cells.length false) (.arr (a+1) j 0 c.fH.length false) (.arr (a+1+1) k 0 c.order.length false) (.arr (a+1+1+1) l 0 c.fixed.length false) (.arr (a+1+1+1+1) m 0 c.qA.length false))/\∀d,Fp h 1 d->d=1\/(a<=d/\d<a+5):=by
 have s:∀(b:Nat) (f:T×aa (Nat×List T)),(qk {c with gu:=S} (.arr a i 0 c.cells.length false) (.arr (a+1) j 0 c.fH.length false) (.arr (a+1+1) k 0 c.order.length false) (.arr (a+1+1+1) l 0 c.fixed.length false) (.arr (a+1+1+1+1) m 0 c.qA.length false))[b]? =some f->∀d,fq f.1=some d->d+4=a+b/\b<9:=by
  intro b f n d q;unfold qk at n;rcases b with _|_|_|_|_|_|_|_|_|b<;>simp at n<;>subst n<;>simp at q<;>omega
 have w:oJ h 1 9 ver (qk {c with gu:=S} (.arr a i 0 c.cells.length false) (.arr (a+1) j 0 c.fH.length false) (.arr (a+1+1) k 0 c.order.length false) (.arr (a+1+1+1) l 0 c.fixed.length false) (.arr (a+1+1+1+1) m 0 c.qA.length false)):=by
  refine⟨E,z,λu o=>?_,λb D A f x n y d e F=>A ?_⟩
  ·simp only[qk,ci,cS,or_false]at o;rcases o with rfl|rfl|rfl|rfl|rfl|rfl|rfl|rfl|rfl
   iterate 4 (show fq _=none;simp)
   ·exact⟨by simpa using g.bc.gr,show(2:Nat)≠9 by decide⟩
   ·exact⟨by simpa using g.bf.gr,show(2:Nat)≠9 by decide⟩
   ·exact⟨by simpa using g.bo.gr,show(1:Nat)≠9 by decide⟩
   ·exact⟨by simpa using g.bx.gr,show(1:Nat)≠9 by decide⟩
   ·exact⟨by simpa using g.bk.gr,show(1:Nat)≠9 by decide⟩
  ·have I:=s b f n d e;have J:=s D x y d F;omega
 refine⟨w,λd q=>?_⟩;rcases q with e|⟨N,r,M,v,e⟩
 ·exact .inl e
 ·rw[w.get]at r;simp only[aw]at r;subst r;simp only[iq,bD,cB,bG,T.cells]at v;obtain⟨u,o,rfl⟩:=List.mem_map.1 v;have⟨b,p⟩:=cR o;have:=s b u p d e;have K:4<=b:=by
   rcases b with _|_|_|_|b
   iterate 4 (simp[qk]at p;subst p;simp at e)
   omega
  omega
def aeZ{b a:Nat}{c:H}{f:jK}(d:Lb b c a f):b≠a:=λe=>d.nf (.inl e.symm)
def yL{e d a:Nat}{b:H}{i y f:jK}(h:Lb e b a f)(c:Lb e b d i)(g:a≠d):Lb e (fJ b d y) a f:=
 h.mE (by rw[eG c.get,Z (aeZ c)]) (by rw[eG c.get,Z g])
def Ur{d c:Nat}{a:H}{g:jK}(b:Lb d a c g)(e:jK):Lb d (fJ a c e) c e:=
 ⟨by rw[eG b.get,au rfl],by
   have f:(fJ a c e).get d=a.get d:=by rw[eG b.get,Z (aeZ b)]
   rw[jJ f];exact b.nf⟩
def Us{b h i:Nat}{f:List (T×aa (Nat×List T))}{a:H}(e:oJ a b h i f)(c:jK):Lb b (a.cons c) a.size c:=
 ⟨G,λd=>by
   have g:(a.cons c).get b=a.get b:=by rw[fk,Z (by have:=e.lt;omega)]
   rw[jJ g]at d;have:=e.fp _ d;omega⟩
def Pk{b:List im}{c d:Int}{a:im}(f:qB b c=some a):fixC b c d=(a.known&&decide (a.value=d)):=by
 unfold fixC;rw[f];obtain⟨g,e⟩:=a;cases e<;>simp
def zk:iK:=⟨fg×fT×iv,λa=>[a.1.t,a.2.1.t,a.2.2.t],λa=>vZ a.1 a.2.1,λa=> .tuple [(mF a.1 a.2.1 a.2.2).1.t,.ez (mF a.1 a.2.1 a.2.2).2],λa c b=>by simp at b;rw[show a=c from aD (fg.inj b.1) (aD (fT.inj b.2.1) (iv.inj b.2.2))]⟩
def J19(b:fT)(a:H):Prop:=∃h c d e f g,oJ a 1 9 h (qk b c d e f g)/\Lb 1 a 3 oy
def Tx:zk.Ok prog cx 22:=by
 refine Ah (tb:=⟨pt [(15,qf),(33,so),(35,qp),(53,tM)],ht [(52,km fT SW OP)]⟩) jv jl (jF 184680779068091373590541728903436752898777087 [] func22) (λ_=>100) (by simp[zk]) nl9 ?_;rintro⟨j,c,e⟩ (b:vZ j c) A eF;simp[zk]at eF|-;obtain⟨eC,I,U⟩:=eF;have bH:=mF.eq_1 j c e;cases aE:jk j c e.eJ with
 |false=>
  rw[aE,Z G]at bH;simp[f22,eC,I,U,xM,b,aE,bH];rfl
 |true=>
 rw[au aE]at bH;have hE:=jk.eq_1 j c e.eJ;have eH:¬ja j c e.eJ<0:=λq=>by rw[au q,aE]at hE;simp at hE
 rw[Z eH,aE]at hE;have P:=rQ eH;have⟨a,c6,bu,gy,gz,b6⟩:=b.hw.at P;rw[ny (fQ.1 P).1 c6]at bH hE;have e9:iV j.fM c.gu e.eJ a.fh a.obj=true:=by
  cases q:iV j.fM c.gu e.eJ a.fh a.obj
  ·rw[q]at hE;simp at hE
  ·rfl
 have fb:=b.hw.ev a (aC c6);have fl:=λ{tb:io} (ht:tb.p 33=some so)=>JO ht j c e.eJ b.ev b.od;have ff:=λ{tb:io} (ht:tb.p 35=some qp)=>Iv ht j c e.eJ a.wm b.ev fb.2;have gF:=b.l (pK P);have e8:j.fM.iL.length<=1099511627776:=by have:=lY b.hw.wb;omega
 have e6:=λ{tb:io} (ht:tb.p 53=some tM)=>L5 ht j.fM c.gu e.eJ a.fh a.obj e.ry e8 ⟨B,B,B,b.hc.rd,b.hc.Cx⟩ e9;rw[bH];generalize gE:ja j c e.eJ=u at*
 generalize fe:oa j c e.eJ a.wm=dd at*
 simp[f22,eC,I,U,xM,b,aE,fl,c6,bu,ff];generalize V:H.cons _ _=al;have fP:iQ 0 al:=by rw[<-V];exact⟨G,G,G⟩
 have gw:al.size=5:=by rw[<-V];rfl
 have fW:al.get 0=some (X 15 0 [j.t]):=by rw[<-V];simp
 have fX:al.get 1=some (X 9 0 [c.t]):=by rw[<-V];simp
 have fY:al.get 2=some (X 2 0 [e.t]):=by rw[<-V];simp
 have gd:al.get 3=some oy:=by rw[<-V];simp[oy]
 have gg:al.get 4=some (X 7 1 [a.t]):=by rw[<-V];simp
 clear V;refine jB T3 G c ⟨rfl,fP,⟨B,B,B,b.hc.rd⟩,by have:=b.hc.ce (pK P);have:=lY b.hw.wb;omega,by have:=b.hc.fu (pK P);have:=lY b.hw.wb;omega,b.od,by have:=b.hc.fx;have:=b.ev;omega,by have:=b.hc.wk;have:=b.ev;omega⟩ ?_;rintro _ ae ⟨n,p1,p2,p3,p4,p5,fo,ap,rfl,W⟩;rw[gw]at fo;have a0:=(ap.get 0 B).trans fW;have a1:=(ap.get 1 B).trans fX;have a2:=(ap.get 2 B).trans fY;have a3:=(ap.get 3 B).trans gd;have a4:=(ap.get 4 B).trans gg;have x:=λy=>(eG a1 y 1).trans (au rfl);have go:=λy g (e7:(g=1)=False)=>(eG a1 y g).trans (Z (by simp[e7]));simp[Zy,a0,a1,a2,a4,x,go,fG,e6];generalize aA:fJ (H.cons _ _) ae.size _=O;have b8:iQ 0 ae:=⟨ap.ok.hp,ap.ok.low,ay _⟩;have gM:=W.bz;have okB:iQ 0 O:=by rw[<-aA];exact((b8.put _ _).cons _).put _ _
 have e0:O.size=ae.size+1:=by rw[<-aA,iy];simp[size_cons]
 have er:O.get ae.size=some (X 4 1 [(fZ j.fM c.gu e.eJ a.fh a.obj e.ry).1.t]):=by rw[<-aA,ou ((b8.put _ _).cons _).hp (by simp[size_cons]),au rfl]
 have F:∀g,g<ae.size->g≠1->O.get g=ae.get g:=λg I U=>by
  rw[<-aA,ou ((b8.put _ _).cons _).hp (by simp[size_cons]),Z B,fk,Z dR,eG a1,Z U]
 have bX:O.get 1=some (X 9 1 [.eZ [sl (c.gu.fI.map fa.t),C c.gu.tx,sl (c.gu.done.map T.ez),sl (c.gu.ee.map ei.t),.arr n p1 0 c.cells.length false,.arr (n+1) p2 0 c.fH.length false,.arr (n+1+1) p3 0 c.order.length false,.arr (n+1+1+1) p4 0 c.fixed.length false,.arr (n+1+1+1+1) p5 0 c.qA.length false]]):=by
  rw[<-aA,ou ((b8.put _ _).cons _).hp (by simp[size_cons]),Z B,fk,Z dR];exact x _
 have ed:=(F 0 B B).trans a0;have ef:=(F 2 B B).trans a2;have eh:=(F 3 B B).trans a3;have eo:=(F 4 B B).trans a4;have av:VQ c n p1 p2 p3 p4 p5 O:=⟨W.bc.mono (F _ B B),W.bf.mono (F _ B B),W.bo.mono (F _ B B),W.bx.mono (F _ B B),W.bk.mono (F _ B B),B⟩;clear aA x go F;have gD:uS j c u a e.eJ e.ry=uS j c u a e.eJ e.ry:=rfl;generalize hr:fZ j.fM c.gu e.eJ a.fh a.obj e.ry=r at*
 obtain⟨S,b9⟩:=r;simp[er,bX,fG];generalize bC:fJ O 1 _=bB;have gv:bB.size=ae.size+1:=by rw[<-bC,iy,e0]
 have eM:iQ 0 bB:=by rw[<-bC];exact okB.put _ _
 have ab:∀g,g≠1->bB.get g=O.get g:=λg U=>by rw[<-bC,eG bX,Z U]
 have⟨d,eA⟩:=VQ.iP (S:=S) (c:=c) (ver:=2) (h:=bB) ⟨av.bc.mono (ab _ B),av.bf.mono (ab _ B),av.bo.mono (ab _ B),av.bx.mono (ab _ B),av.bk.mono (ab _ B),B⟩ eM B (by rw[<-bC,eG bX,au rfl]);have bN:∀g w,g<5->g≠1->O.get g=some w->Lb 1 bB g w:=λg w I U e5=>⟨(ab g U).trans e5,λq=>by have:=eA g q;omega⟩;have l0:=bN 0 _ B B ed;have l2:=bN 2 _ B B ef;have l3:=bN 3 _ B B eh;have l4:=bN 4 _ B B eo;clear bN bC ab eA av er ed bX ef eh eo okB e0 W a0 a1 a2 a3 a4;have⟨gI,eB,et,ca⟩:=(d.gr 6 rfl).m9 (cx:=cx) (f:=T.int .i64) d.ok kO rfl nP rfl G (λ_=>rfl) u (by have:=b.hc.od;simp;omega);have⟨dn,fS,eO⟩:=d.app 6 rfl ca;have⟨a6,aX⟩:=eO _ rfl;have de:=d.get;simp only[qk,aO,bF,cP,cz]at dn a6 aX de;simp[de,et,dn,fG,ca.1.jc,ca.1.cells];have eS:=aX.cons (X 2 0 [im.t ⟨0,false⟩]);have ds:=Step.cons aX.ok aX.lt (X 2 0 [im.t ⟨0,false⟩]);have aN:=Us aX (X 2 0 [im.t ⟨0,false⟩]);rw[iy]at aN;have z:=yL (y:=(X 2 1 [im.t ⟨0,false⟩])) ((l3.step a6).step ds) aN (by have:=(l3.step a6).lt;rw[iy]at this;omega);have s:=yL (y:=(X 2 1 [im.t ⟨0,false⟩])) ((l4.step a6).step ds) aN (by have:=(l4.step a6).lt;rw[iy]at this;omega);have Q:=Ur aN (X 2 1 [im.t ⟨0,false⟩]);have eU:=eS.qJ aN (X 2 1 [im.t ⟨0,false⟩]);generalize fJ (H.cons _ _) eB.size _=gB at*
 generalize eB.size=m at*
 clear eS ds aN aX a6 dn fS eO ca et de l0 l2 l3 l4 d eM gv;refine lV (λA h=>∃bg bi bn bp bs eW,oJ h 1 9 3 (qk {c with gu:=S,order:=c.order++[u]} bg bi bn bp bs)/\Lb 1 h 3 oy/\Lb 1 h 4 (X 7 1 [a.t])/\Lb 1 h m (X 2 eW [(cont dd a.value).t])/\Y A 4 (.fc 1 0 0 0)/\Y A 6 (.fc 3 0 0 0)/\Y A 8 (C u)/\Y A 9 (.fc 4 0 0 0)/\Y A 12 (C b9)/\Y A 14 (.fc m 0 0 0)) (λdm=>?_) (λdm=>?_) ?_
 ·subst dm;have fs:(4=m)=False:=by have:=Q.nf;have:=s;simp;intro q;subst q;have I:=Q.get;rw[s.get]at I;simp at I
  simp[s.get,Q.get];exact⟨⟨_,_,_,_,_,eU.qJ Q _⟩,yL z Q (by intro q;subst q;have I:=Q.get;rw[z.get]at I;simp[oy]at I),yL s Q (by simpa using fs),_,Ur Q _⟩
 ·subst dm;simp;exact⟨⟨_,_,_,_,_,eU⟩,z,s,_,Q⟩
 rintro A h ⟨bg,bi,bn,bp,bs,eW,d,l3,l4,eL,J,K,b7,bA,eD,eE⟩;simp[bA,l4.get];have di:a.fh=3\/a.fh=4->ju a.obj c.cells.length=true:=λq=>by
  rw[b.hc.ce (pK P)];unfold j8 at b6;rcases q with q|q<;>simpa[q]using b6
 have dk:a.fh=22\/a.fh=23->ju a.obj c.fH.length=true:=λq=>by
  rw[b.hc.fu (pK P)];unfold j8 at b6;rcases q with q|q<;>simpa[q]using b6
 have eI:u.toNat<c.fixed.length:=by rw[b.hc.fx];exact(fQ.1 P).2
 have fi:u.toNat<c.qA.length:=by rw[b.hc.wk];exact(fQ.1 P).2
 have x:=d.get;simp only[qk,aO,bF]at x;have eP:∀w y:Bool,mS (.ez w) 0 [.ez y]=some (.ez y):=λ_ _=>rfl;have eR:∀w y:Int,mS (C w) 0 [C y]=some (C y):=λ_ _=>rfl;have k:=uS.eq_1 j c u a e.eJ e.ry;rw[hr,fe]at k;generalize uS j c u a e.eJ e.ry=N at*
 refine lV (λA h=>J19 N h/\Y A 4 (.fc 1 0 0 0)/\Y A 6 (.fc 3 0 0 0)) (λcL=>?_) (λcL=>?_) ?_
 ·have o:a.fh=3:=by simpa using cL
  have⟨w,bW,ea⟩:=jn (di (.inl o));have v:=fQ.1 (di (.inl o));have⟨q,c7,dv,c9,ec,bS,an,z,s⟩:=(d.gr 4 rfl).Bd (te:=yl) rfl (i:=a.obj.toNat) (by simpa using v.2);have⟨eN,eu,eV,ey,eX,a7,a8,L,R⟩:=(d.gr 7 rfl).Bd (te:=V5) rfl (i:=u.toNat) (by simpa using eI);have eb:c.cells[a.obj.toNat]'v.2=w:=by rw[aB v.2]at bW;simpa using bW
  simp[eb]at s R;simp[o,Pk ea]at k;have⟨E,D⟩:=d.elem 7 rfl a7 L u.toNat (.ez (w.known&&decide (w.value=a.value)));simp[J,K,b7,bA,x,l4.get,fU v.1,an,z,s,bu,a8,L,R,eP];exact⟨_,_,_,_,_,_,by rw[k];simpa[qk,aW]using D,l3.step E⟩
 have fE:¬a.fh=3:=by simpa using cL
 simp;refine fN (λcF=>?_) (λcF=>?_)
 ·have o:a.fh=23:=by simpa using cF
  have⟨w,bW,ea⟩:=jn (dk (.inr o));have v:=fQ.1 (dk (.inr o));have⟨q,c7,dv,c9,ec,bS,an,z,s⟩:=(d.gr 5 rfl).Bd (te:=yl) rfl (i:=a.obj.toNat) (by simpa using v.2);have⟨eN,eu,eV,ey,eX,a7,a8,L,R⟩:=(d.gr 7 rfl).Bd (te:=V5) rfl (i:=u.toNat) (by simpa using eI);have eb:c.fH[a.obj.toNat]'v.2=w:=by rw[aB v.2]at bW;simpa using bW
  simp[eb]at s R;simp[o,Pk ea]at k;have⟨E,D⟩:=d.elem 7 rfl a7 L u.toNat (.ez (w.known&&decide (w.value=a.value)));simp[J,K,b7,bA,x,l4.get,fU v.1,an,z,s,bu,a8,L,R,eP];exact⟨_,_,_,_,_,_,by rw[k];simpa[qk,aW]using D,l3.step E⟩
 have fC:¬a.fh=23:=by simpa using cF
 simp;refine fN (λcX=>?_) (λcX=>?_)
 ·have o:a.fh=4:=by simpa using cX
  have v:=fQ.1 (di (.inr o));have⟨q,c7,dv,c9,ec,bS,an,z,s⟩:=(d.gr 4 rfl).Bd (te:=yl) rfl (i:=a.obj.toNat) (by simpa using v.2);simp at s;simp[o]at k;have⟨E,D⟩:=d.elem 4 rfl bS z a.obj.toNat (cont dd a.value).t;simp[J,K,bA,eE,x,l4.get,eL.get,fU v.1,an,z,s];exact⟨_,_,_,_,_,_,by rw[k];simpa[qk,aW]using D,l3.step E⟩
 have fL:¬a.fh=4:=by simpa using cX
 simp;refine fN (λcp=>?_) (λcp=>?_)
 ·have o:a.fh=22:=by simpa using cp
  have v:=fQ.1 (dk (.inl o));have⟨q,c7,dv,c9,ec,bS,an,z,s⟩:=(d.gr 5 rfl).Bd (te:=yl) rfl (i:=a.obj.toNat) (by simpa using v.2);simp at s;simp[o]at k;have⟨E,D⟩:=d.elem 5 rfl bS z a.obj.toNat (cont dd a.value).t;simp[J,K,bA,eE,x,l4.get,eL.get,fU v.1,an,z,s];exact⟨_,_,_,_,_,_,by rw[k];simpa[qk,aW]using D,l3.step E⟩
 have fB:¬a.fh=22:=by simpa using cp
 have⟨eN,eu,eV,ey,eX,a7,a8,L,R⟩:=(d.gr 8 rfl).Bd (te:=Ek) rfl (i:=u.toNat) (by simpa using fi);simp at R;simp;refine fN (λcb=>?_) (λcb=>?_)
 ·have o:a.fh=18:=by simpa using cb
  simp[o]at k;simp[eD];refine fN (λc1=>?_) (λc1=>?_)
  ·have c4:0<=b9:=by simpa using c1
   rw[au c4]at k;have⟨E,D⟩:=d.elem 8 rfl a7 L u.toNat (C 1);simp[J,K,b7,x,bu,a8,L,R,eR];exact⟨_,_,_,_,_,_,by rw[k];simpa[qk,aW]using D,l3.step E⟩
  ·have c4:¬0<=b9:=by simpa using c1
   rw[Z c4]at k;simp[J,K];exact⟨_,_,_,_,_,_,by rw[k];exact d,l3⟩
 have fv:¬a.fh=18:=by simpa using cb
 simp;refine fN (λcd=>?_) (λcd=>?_)
 ·have o:a.fh=19:=by simpa using cd
  simp[o]at k;have⟨E,D⟩:=d.elem 8 rfl a7 L u.toNat (C b9);simp[J,K,b7,eD,x,bu,a8,L,R,eR];exact⟨_,_,_,_,_,_,by rw[k];simpa[qk,aW]using D,l3.step E⟩
 ·have fA:¬a.fh=19:=by simpa using cd
  simp[fE,fC,fL,fB,fv,fA]at k;simp[J,K];exact⟨_,_,_,_,_,_,by rw[k];exact d,l3⟩
 rintro A h ⟨⟨ver,bg,bi,bn,bp,bs,d,l3⟩,J,K⟩;have x:=d.get;simp only[qk,aO,bF]at x;have eK:=l3.get;unfold oy at eK;have bT:=d.qJ l3 (X 9 1 [.eZ [sl (N.gu.fI.map fa.t),C N.gu.tx,sl (N.gu.done.map T.ez),sl (N.gu.ee.map ei.t),bg,bi,bn,bp,bs]]);have e4:=(eG l3.get (X 9 1 [.eZ [sl (N.gu.fI.map fa.t),C N.gu.tx,sl (N.gu.done.map T.ez),sl (N.gu.ee.map ei.t),bg,bi,bn,bp,bs]]) 3).trans (au rfl);have gi:=(bT.gr 4 rfl).fz G;have gj:=(bT.gr 5 rfl).fz G;have gk:=(bT.gr 6 rfl).fz G;have gm:=(bT.gr 7 rfl).fz G;have gn:=(bT.gr 8 rfl).fz G;simp[J,K,x,eK,fG,e4,gi,gj,gk,gm,gn,d.ok.hp]
def XX{d:io}(ht:d.p 22=some zk)(b:fg)(a:fT)(c:iv)(e:vZ b a):rl prog cx d 22 [b.t,a.t,c.t]=some (.tuple [(mF b a c).1.t,.ez (mF b a c).2]):=iN ht Tx (b,a,c) e
def Ju{b:fg}{c:fT}{d:Int}(a:jk b c d=true):ju (ja b c d) b.ej.length=true:=by
 refine rQ λe=>?_;unfold jk at a;rw[au e]at a;simp at a
def HF{b:fg}{a:fT}{c:Int}(d:vZ b a)(e:jk b a c=true):(pV b a c).length<=5:=by
 have:=(d.l (pK (Ju e))).2.2;unfold pV;split
 ·have:=HG (kS b.ej (ja b a c)).obj a.gu.ee 0;omega
 ·simp
def GA(c:fg)(b:fT)(a:Nat):nc c b (a+1)=nc c b a++(if jk c b a=true then(pV c b a).map λd=>(⟨a,d⟩:iv)else []):=by
 unfold nc;rw[List.range_succ,dJ];simp
def Iu{c:fg}{b:fT}(d:vZ c b):∀a,(nc c b a).length<=5*a:=by
 intro a;induction a with
 |zero=>simp[nc]
 |succ a f=>
  rw[GA,aV];split
  ·rename_i e;have:=HF d e;rw[aI];omega
  ·simp;omega
def It{d:fg}{b:fT}{n:Nat}{c:iv}(a:c∈nc d b n):jk d b c.eJ=true:=by
 unfold nc at a;rw[cI]at a;obtain⟨g,_,a⟩:=a;split at a
 ·rename_i e;obtain⟨f,_,rfl⟩:=List.mem_map.1 a;exact e
 ·simp at a
def Gz{a:fg}{b:fT}(n:Int)(c:¬nc a b a.fM.ee.length=[]):jk a b ((nc a b a.fM.ee.length).getD (n% ((nc a b a.fM.ee.length).length:Int)).toNat default).eJ=true:=by
 have f:0<(nc a b a.fM.ee.length).length:=List.length_pos_iff.2 c;have d:=Int.emod_nonneg n (show((nc a b a.fM.ee.length).length:Int)≠0 by omega);have e:=Int.emod_lt_of_pos n (show(0:Int)<(nc a b a.fM.ee.length).length by omega);exact It (n:=a.fM.ee.length) (by
  rw[cN,aB (show(n% ((nc a b a.fM.ee.length).length:Int)).toNat<_ by omega)];exact aG _)
def Bf{e:fg}{I:fT->Prop}(h:∀a f,I a->jk e a f.eJ=true->I (mF e a f).1):∀(c:List Int) (d:List iv) (a:fT),I a->I (ml e c d a).2:=by
 intro c;induction c with
 |nil=>intro d a b;exact b
 |cons j c i=>
  intro d a b;simp only[ml];split
  ·exact b
  ·rename_i g;exact i _ _ (h _ _ b (Gz j g))
structure PY(w:fg)(c:fT)(P L:List iv)(pv lv:T)(h:H):Prop where
 ok:iQ 3 h
 b0:h.get 0=some (X 15 0 [w.t])
 b1:h.get 1=some oy
 b2:∃ver,h.get 2=some (X 9 ver [c.t])
 gp:Gr h pv 2 (P.map iv.t)
 gl:Gr h lv 2 (L.map iv.t)
 dp:∀b,fq pv=some b->3<=b/\fq lv≠some b
 dl:∀b,fq lv=some b->3<=b
def PY.aiW{n:fg}{j:fT}{i d:List iv}{m k l:T}{g h:H}{o:iv}(b:PY n j i d m k g)(p:Xt g k 2 ((d++[o]).map iv.t) l h):PY n j i (d++[o]) m l h:=by
 obtain⟨a1,a2,a3,a4⟩:=p;have u:=b.ok.sz;have e:∀a,a<3->h.get a=g.get a:=λa c=>a2 a B λq=>by have:=b.dl a q;omega
 have⟨s,r⟩:=b.b2;refine⟨⟨a4.hp,a4.low,by have:=a4.sz;omega⟩,(e 0 B).trans b.b0,(e 1 B).trans b.b1,⟨s,(e 2 B).trans r⟩,b.gp.mono λa c=>?_,a1,λa c=>⟨(b.dp a c).1,λq=>?_⟩,λa c=>?_⟩
 ·have⟨_,_,_,_,f,_⟩:=b.gp.box c;exact a2 a (H.gh f) (b.dp a c).2
 ·have⟨_,_,_,_,f,_⟩:=b.gp.box c;rcases a3 a q with q|q
  ·exact(b.dp a c).2 q
  ·have:=H.gh f;omega
 ·rcases a3 a c with q|q
  ·exact b.dl a q
  ·omega
def PY.aiV{k:fg}{h:fT}{d m:List iv}{i p j:T}{f g:H}{l:iv}(b:PY k h d m i p f)(n:Xt f i 2 ((d++[l]).map iv.t) j g):PY k h (d++[l]) [] j dV g:=by
 obtain⟨a1,a2,a3,a4⟩:=n;have s:=b.ok.sz;have e:∀a,a<3->g.get a=f.get a:=λa c=>a2 a B λq=>by have:=(b.dp a q).1;omega
 have⟨r,o⟩:=b.b2;refine⟨⟨a4.hp,a4.low,by have:=a4.sz;omega⟩,(e 0 B).trans b.b0,(e 1 B).trans b.b1,⟨r,(e 2 B).trans o⟩,a1,Gr.nil _ _,λa c=>⟨?_,G⟩,λa c=>by simp at c⟩;rcases a3 a c with q|q
 ·exact(b.dp a q).1
 ·omega
def PY.ahV{l:fg}{m c':fT}{h g:List iv}{k j:T}{d:H}(b:PY l m h g k j d)(f:Nat):PY l c' h g k j (fJ d 2 (X 9 f [c'.t])):=by
 have⟨n,i⟩:=b.b2;have e:∀a,a≠2->(fJ d 2 (X 9 f [c'.t])).get a=d.get a:=λa c=>by rw[eG i,Z c]
 exact⟨b.ok.put _ _,(e 0 B).trans b.b0,(e 1 B).trans b.b1,⟨f,by rw[eG i,au rfl]⟩,b.gp.mono λa c=>e a (by have:=(b.dp a c).1;omega),b.gl.mono λa c=>e a (by have:=b.dl a c;omega),b.dp,b.dl⟩
def PY.fin{k:fg}{h:fT}{d f:List iv}{e j:T}{b:H}(a:PY k h d f e j b)(c:jK):(fJ b 1 c).get 1=some c/\TI.rZ (fJ b 1 c) e=some (sl (d.map iv.t)):=
 ⟨by rw[eG a.b1,au rfl],(a.gp.mono λg i=>by rw[eG a.b1,Z (by have:=(a.dp g i).1;omega)]).rZ G⟩
def Dz:iK:=⟨fg×List Int,λa=>[a.1.t,sl (iz a.2)],λa=>lj a.1/\a.2.length<=40/\∀c∈a.2,0<=c/\c<=255,λa=> .tuple [sl ((ml a.1 a.2 [] (jI a.1)).1.map iv.t),(ml a.1 a.2 [] (jI a.1)).2.t],λa d b=>by simp at b;rw[show a=d from aD (fg.inj b.1) (jV G b.2)]⟩
def aar:Dz.Ok prog cx 7:=by
 refine iF [(20,yw),(15,qf),(21,E6),(22,zk)] (jF 36965550156818169847 [] func7) (λ_=>1000) (by simp[Dz]) ?_;rintro⟨c,s⟩ ⟨I,hl,an⟩ a W;simp only at I hl an;simp[Dz]at W|-;obtain⟨aX,e⟩:=W;have b6:=(lY I.wb).2.2.2.2.2;simp[f7,aX,U1,I];refine ik s.length B (λi a u=>∃d z D,xU (1000+i) c d/\z.length<=i/\PY c d z [] D dV u/\ml c (s.drop i) z d=ml c s [] (jI c)/\Y a 1 (sl (iz s))/\Y a 2 (.fc 0 0 0 0)/\Y a 5 (.fc 1 0 0 0)/\Y a 6 (.fc 2 0 0 0)/\Y a 7 D/\Y a 8 (C i)) ?_ ?_ B ?_
 ·rintro i a u L a8 ⟨d,z,D,P,a7,b,v,e,j,o,h,p,r⟩;simp[e,r,L];have F:vZ c d:=⟨I,P.up B⟩;have bp:=an s[i] (aG L);refine ik c.fM.ee.length B (λm a u=>∃y,PY c d z (nc c d m) D y u/\Y a 1 (sl (iz s))/\Y a 2 (.fc 0 0 0 0)/\Y a 5 (.fc 1 0 0 0)/\Y a 6 (.fc 2 0 0 0)/\Y a 7 D/\Y a 8 (C i)/\Y a 9 y/\Y a 10 (C m)) ?_ ?_ B ⟨_,b,by simp[e,j,o,h,p,r]⟩
  ·rintro m a u bu ap ⟨y,b,e,j,o,h,p,r,x,w⟩;have⟨T,E⟩:=b.b2;have K:=GA c d m;have bg:=Iu F m;simp[j,h,w,bu,b.b0,E,xM,F];refine fN (λA=>?_) (λA=>?_)
   ·rw[Z (by simpa using A),bG]at K;simp[e,j,o,h,p,r,x,w,ap,K,b]
   have ab:jk c d m=true:=by simpa using A
   rw[au ab]at K;have b7:=HF F ab;simp[j,h,w,b.b0,E,aby,F];refine ik (pV c d m).length B (λO a u=>∃y,PY c d z (nc c d m++((pV c d m).take O).map λk=>(⟨m,k⟩:iv)) D y u/\Y a 1 (sl (iz s))/\Y a 2 (.fc 0 0 0 0)/\Y a 5 (.fc 1 0 0 0)/\Y a 6 (.fc 2 0 0 0)/\Y a 7 D/\Y a 8 (C i)/\Y a 9 y/\Y a 10 (C m)/\Y a 11 (sl (iz (pV c d m)))/\Y a 12 (C O)) ?_ ?_ B ⟨_,by simpa using b,by simp[e,j,o,h,p,r,x,w]⟩
   ·rintro O a u ae bi ⟨y,b,e,j,o,h,p,r,x,w,Q,R⟩;have⟨cb,aN,J,U⟩:=b.gl.m9 (cx:=cx) (f:=iv.t) (b.ok.ZO (ay _)) NW rfl NV rfl G (λ_=>rfl) (⟨m,(pV c d m)[O]⟩:iv) dR;simp[e,j,o,h,p,r,x,w,Q,R,ae,J,bi];have:=b.aiW U;rw[bj]at this;rw[aP ae,List.map_append];exact this
   ·rintro a u ⟨y,b,e,j,o,h,p,r,x,w,Q,R⟩;rw[aL,<-K]at b;simp[e,j,o,h,p,r,x,w,Q,R,ap,b]
  ·rintro a u ⟨y,b,e,j,o,h,p,r,x,w⟩;have bg:=Iu F c.fM.ee.length;rw[aJ L]at v;simp only[ml]at v;generalize a6:nc c d c.fM.ee.length=g at*
   have S:=λe=>b.gl.len (cx:=cx) e ZV _ rfl;simp at S;have⟨T,E⟩:=b.b2;have H:=b.b1;unfold oy at H;simp[j,x,w,S,b.b0];refine fN (λA=>?_) (λA=>?_)
   ·rw[au (by simpa using A)]at v;simp[o,h,p,E,H,(b.fin _).1,(b.fin _).2,b.ok.hp];rw[<-v];exact⟨rfl,rfl⟩
   rw[Z (by simpa using A)]at v;have bX:0<g.length:=List.length_pos_iff.2 (by simpa using A);have⟨l,al,N⟩:∃l:Nat,(s[i]% (g.length:Int))=l/\l<g.length:=⟨(s[i]% (g.length:Int)).toNat,by have:=Int.emod_nonneg s[i] (show(g.length:Int)≠0 by omega);omega,by have:=Int.emod_nonneg s[i] (show(g.length:Int)≠0 by omega);have:=Int.emod_lt_of_pos s[i] (show(0:Int)<g.length by omega);omega⟩;have bs:binop .rem (C s[i]) (C (g.length:Int))=some (C (l:Int)):=by
    rw[D1 B,Int.tmod_eq_emod_of_nonneg bp.1,al]
   rw[al,cG,show g.getD l default=g[l]by simp[List.getD,N]]at v;have bn:jk c d g[l].eJ=true:=It (n:=c.fM.ee.length) (by rw[a6];exact aG N);have aE:=P.step g[l] bn;have⟨q,bN,cp,bT,cL,ca,bA,bB,av⟩:=b.gl.Bd (te:=V4) rfl (i:=l) (by simpa using N);have r2:=b.ahV (c':=(mF c d g[l]).1) (T+1);have⟨b9,bS,cF,bW,cX,cd,bC,bH,aA⟩:=r2.gl.Bd (te:=V4) rfl (i:=l) (by simpa using N);have⟨b8,aN,J,U⟩:=r2.gp.m9 (cx:=cx) (f:=iv.t) (r2.ok.ZO (ay _)) NW rfl NV rfl G (λ_=>rfl) g[l] dR;simp at av aA J;simp[e,j,o,h,p,r,x,S,L,bs,show decide ((l:Int)<0)=false by simp,b.b0,E,bA,bB,av,XX,F,bC,bH,aA,J,a8];exact⟨_,aE,z++[g[l]],dR,r2.aiV U,v⟩
 ·rintro a u ⟨d,z,D,P,a7,b,v,e,j,o,h,p,r⟩;rw[bR]at v;simp only[ml]at v;have⟨T,E⟩:=b.b2;have H:=b.b1;unfold oy at H;simp[e,o,h,p,r,E,H,(b.fin _).1,(b.fin _).2,b.ok.hp];rw[<-v];exact⟨rfl,rfl⟩
 ·exact⟨_,_,_,xU.start I,ax _,⟨⟨G,G,G⟩,G,by simp[oy],⟨1,G⟩,Gr.nil _ _,Gr.nil _ _,G,G⟩,rfl,by simp[e]⟩
def afG{d:io}(ht:d.p 7=some Dz)(a:fg)(b:List Int)(f:lj a)(hl:b.length<=40)(e:∀c∈b,0<=c/\c<=255):rl prog cx d 7 [a.t,sl (iz b)]=some (.tuple [sl ((ml a b [] (jI a)).1.map iv.t),(ml a b [] (jI a)).2.t]):=iN ht aar (a,b) ⟨f,hl,e⟩
def sK{a b:Nat}(c:a<b)(d:b<=16):binop .add (C (a:Int)) (C 1)=some (C ((a:Int)+1)):=jp B B 
def Gr.aiI{a:H}{h:Nat->Prop}{g:T}{j c:Nat}{d e:List T}(f:Gr a g j d)(i:c<=11)(b:jw (FT a h c) d e):TI.rZ a g=some (sl e):=by
 have:=f.LD i b;rcases f with⟨rfl,rfl⟩|⟨k,l,p,m,q,rfl,n,o⟩
 ·cases b;rfl
 ·rwa[Xl]
structure Fm(h h':H)(bl:Nat)(v v':T):Prop where
 ok:iQ h.size h'
 fr:∀c,c<h.size->c≠bl->fq v≠some c->h'.get c=h.get c
 bx:∀c,fq v'=some c->fq v=some c\/h.size<=c
def Fm.nb{a b:H}{e:Nat}{d:T}(c:Nb a b):Fm a b e d d:=⟨c.ok,λf g _ _=>c.get f g,λ_ h=> .inl h⟩
def Fm.trans{g c d:H}{f:Nat}{h i j:T}(e:Fm g c f h i)(b:Fm c d f i j):Fm g d f h j:=by
 have l:=e.ok.sz;have m:=b.ok.sz;refine⟨⟨b.ok.hp,b.ok.low,B⟩,λa k c d=>(b.fr a B c λq=>(e.bx a q).elim d B).trans (e.fr a k c d),λa q=>?_⟩;rcases b.bx a q with q|q
 ·exact e.bx a q
 ·right;omega
structure EH(h:H)(bl:Nat)(v:T)(es:List T)(gs:List jm):Prop where
 gl:∃ver,h.get bl=some (X 1 ver [v])
 g:Gr h v 6 es
 a:jw (FT h (λc=>c<h.size/\c≠bl/\fq v≠some c) 4) es (gs.map jm.t)
def EH.step{l b:H}{c:Nat}{m e:T}{g i:List T}{k gs2:List jm}(q:EH l c m g k)(h:Fm l b c m e)(p:∃u,b.get c=some (X 1 u [e]))(o:Gr b e 6 (g++i))(n:jw (FT b (λf=>f<b.size/\f≠c/\fq e≠some f) 4) i (gs2.map jm.t)):EH b c e (g++i) (k++gs2):=by
 have v:=h.ok.sz;refine⟨p,o,?_⟩;rw[List.map_append];exact(q.a.imp λ_ _ r=>r.mono λj d=>⟨⟨B,d.2.1,λs=>(h.bx j s).elim d.2.2 B⟩,h.fr j d.1 d.2.1 d.2.2⟩).append n
def EH.nb{j k:H}{f:Nat}{m:T}{h:List T}{i:List jm}(c:EH j f m h i)(d:Nb j k):EH k f m h i:=by
 have⟨p,l⟩:=c.gl;have q:=d.ok.sz;exact⟨⟨p,(d.get f (H.gh l)).trans l⟩,c.g.mono λe b=>by have⟨_,_,_,_,n,_⟩:=c.g.box b;exact d.get e (H.gh n),c.a.imp λ_ _ o=>o.mono λe b=>⟨⟨B,b.2⟩,d.get e b.1⟩⟩
def EH.out{b:H}{d:Nat}{j:T}{f:List T}{i:List jm}(e:EH b d j f i)(c:H):EH (mX c b) d j f i:=by
 have⟨p,n⟩:=e.gl;exact⟨⟨p,(iB c b d).trans n⟩,e.g.out c,e.a.imp λ_ _ o=>o.mono λk l=>⟨by simpa using l,iB c b k⟩⟩
def Jn(e:jm)(f:T):T:= .eZ [C e.fh,C e.a,C e.b,C e.c,C e.d,f]
structure IAd where
 (z:iw) (g:jm) (e:T) (bx bl:Nat) (v:T) (es:List T) (gs:List jm)
def OL(a:IAd)(d:List T)(b:H):Prop:=d=[Jn a.g a.e,.fc a.bx 0 0 0,.fc a.bl 0 0 0]/\(∃f,b.get a.bx=some (X 16 f [a.z.t]))/\EH b a.bl a.v a.es a.gs/\iQ 0 b/\y8 a.z/\a.es.length<=1000000/\a.g.jz.length<=1000000/\Gr b a.e 1 (iz a.g.jz)/\(∀c,fq a.e=some c->c≠a.bl)
def MY(a:IAd)(f:List T)(e:H)(h:T)(b:H):Prop:=∃c d,EH b a.bl c d (a.gs++kH a.z.w.gx.vG a.g)/\Fm e b a.bl a.v c
def OY:(km IAd OL MY).Ok prog cx 26:=by
 refine kh (tb:=⟨pt [(27,xf)],ht []⟩) jv jl (jF 79 [] func26) (λ_ _=>10) (λi bN h bC=>by obtain⟨rfl,_⟩:=bC;simp[f26]) ?_;rintro⟨V,j,l,a8,r,A,ab,bS⟩ _ h ⟨rfl,⟨bX,R⟩,L,aX,aN,bB,aE,E,S⟩ bW av;simp only at R L aN bB aE E S;simp[Jn]at av;obtain⟨bu,F,I⟩:=av;have⟨U,aA⟩:=L.gl;generalize y:(TI.hr h).cons (X 6 0 [Jn j l])=m;have J:iQ h.size m:=by rw[<-y];exact(⟨aX.hr.hp,aX.hr.low,ax _⟩:iQ h.size (TI.hr h)).cons _
 have b7:m.size=h.size+1:=by rw[<-y];rfl
 have z:Nb h m:=⟨J,λe f=>by rw[<-y,fk,Z dR];exact iU h e⟩;have bg:=(z.get a8 (H.gh R)).trans R;have M:=(z.get r (H.gh aA)).trans aA;have an:m.get h.size=some (X 6 0 [.eZ [C j.fh,C j.a,C j.b,C j.c,C j.d,l]]):=by rw[<-y];simp[Jn]
 have ap:Gr m l 1 (iz j.jz):=E.mono λe f=>by have⟨_,_,_,_,o,_⟩:=E.box f;exact z.get e (H.gh o)
 have bn:TI.fz m l=some (sl (iz j.jz)):=ap.fz G;have bi:∀{tb:io},tb.p 27=some xf->rl prog cx tb 27 [V.t,j.t]=some (.ez (V.w.gx.vG j)):=λht=>PL ht V j aN aE;have v:=L.nb z;unfold Jn at y;simp[f26,bu,F,y,bg,an,bn,bi];refine fN (λT=>?_) (λT=>?_)
 ·have a6:iQ 0 m:=⟨J.hp,J.low,ay _⟩;have⟨u,O,W,q⟩:=v.g.GR (cx:=cx) a6 abl rfl abk rfl G (x:=Jn j l) rfl (by simp only[show ZU.bytes=64 from rfl];omega);have bA:=H.gh M;have P:=(q.2.1 r bA (λs=>by have⟨_,_,_,_,o,_⟩:=v.g.box s;rw[M]at o;simp at o)).trans M;have bT:=a6.low;have b6:=q.2.2.2.sz;unfold Jn at W;have sv:mS A 0 [u]=some u:=E0 (qZ.na (h:=m) (sz:=6) (.inr v.g));simp[I,M,an,W,P,sv,q.1.jc,q.1.cells,v.g.cells];have N:∀K e,(fJ O r K).get e=if e=r then some K else O.get e:=λK e=>eG P K e;have bH:fq u≠some r:=λs=>by have⟨_,_,_,_,o,_⟩:=q.1.box s;rw[P]at o;simp at o
  have al:Fm m (fJ O r (X 1 (U+1) [u])) r A u:=⟨q.2.2.2.put _ _,λe f F I=>by rw[N,Z F];exact q.2.1 e f I,q.2.2.1⟩;have a7:=v.step (gs2:=[j]) al ⟨U+1,by rw[N,au rfl]⟩ (q.1.mono λe s=>by rw[N,Z (λk=>bH (by rw[<-k];exact s))]) (.cons (.inr (.inr ⟨_,_,rfl,.cons (iO ..) (.cons (iO ..) (.cons (iO ..) (.cons (iO ..) (.cons (iO ..) (.cons (?_:FT _ _ 3 l (sl (iz j.jz))) .nil))))),rfl⟩)) .nil);rotate_left
  ·have Q:∀e,fq l=some e->e<h.size:=λe f=>by have⟨_,_,_,_,o,_⟩:=E.box f;exact H.gh o
   have ae:∀e,fq l=some e->fq A≠some e:=λe f=>E.ne L.g dT e f;have bs:Gr (fJ O r (X 1 (U+1) [u])) l 1 (iz j.jz):=ap.mono λe f=>by
    rw[N,Z (S e f)];exact q.2.1 e (by have:=Q e f;omega) (ae e f)
   exact(show qZ _ 1 l (iz j.jz)from .inr bs).ft (d:=1) (λK o=>by obtain⟨n,_,rfl⟩:=List.mem_map.1 o;simp) λe f=>⟨by have:=Q e f;simp;omega,S e f,λs=>(q.2.2.1 e s).elim (ae e f) (by have:=Q e f;omega)⟩
  have bp:Fm h m r A A:=Fm.nb z;have D:=bp.trans al;refine⟨u,ab++[Jn j l],?_,⟨⟨(D.ok.out h).hp,(D.ok.out h).low,by simpa using D.ok.sz⟩,λe f F I=>(iB h _ e).trans (D.fr e f F I),D.bx⟩⟩;unfold kH;rw[T];exact a7.out h
 ·simp;exact⟨A,ab,by
   unfold kH;rw[T];simpa using v.out h,Fm.nb ⟨⟨(J.out h).hp,(J.out h).low,dR⟩,λe f=>(iB h m e).trans (z.get e f)⟩⟩
@[simp]def afF (b:ak) (a:List T):(T.func b a).cells=[.func b a]:=id rfl
@[simp]def agJ (b:ak) (a:List T):(T.func b a).jc=true:=id rfl
def Z4{h:H}(b c a:Nat)(d:jK)(f:h.get b=some d)(g:d.sz=1):Kq cx h pI (.arr b c 0 a false) none (some a) (some a)=some (.val (.arr b c 0 a true) h):=by
 unfold Kq;have e:jW cx h pI.u (.arr b c 0 a false)=true:=by
  unfold jW;simp only[show pI.u= .slice 3 from rfl,nP,f,g];rfl
 rw[e,jf,show BS (some a) (some a)=true from rfl,jf,show asSlice pI.u (.arr b c 0 a false)= .arr b c 0 a false by rw[show pI.u= .slice 3 from rfl];rfl];show val h (iS (Nat.ble 0 a) (iS (Nat.ble a a) (J (jd (Nat.add 0 0)) λj=>J (jd (Nat.sub a 0)) λi=>iS (Nat.beq a a) (some (T.arr b c j i true)))))=_;simp
def Vo{h:H}{b ep n:Nat}{c:List T}(g:h.j1 (.arr b ep 0 n true)=some c)(f:∀d∈c,d.cells.length=1)(hl:c.length<=1000)(a:Int):
 jx cx (h.cons (X 1 0 [C a])) 38 38 (.arr b ep 0 n true) (.arr h.size 0 0 1 false)=some (.val (.arr (h.size+1) 0 0 (c.length+1) false) ((h.cons (X 1 0 [C a])).cons ⟨1,0,0,false,false,c++[C a]⟩)):=by
 unfold jx ql nD;simp only[kO,fw,show pI.u= .slice 3 from rfl,nP];have i:(h.cons (X 1 0 [C a])).j1 (.arr h.size 0 0 1 false)=some [C a]:=by rw[iR];simp
 rw[i,fw];show iS true (kr (J ((h.cons (X 1 0 [C a])).j1 (.arr b ep 0 n true)) λc=>(h.cons (X 1 0 [C a])).jH 1 8 c [C a]))=_;rw[jf,FZ g,fw];unfold H.jH;rw[qY,fw,kE,jt,fw,mc f,mc (by simp[T.cells])];have e:Nat.ble (Nat.mul (c++[T.int .i64 a]).length 8) 70368744177664=true:=by
  rw[Nat.ble_eq];show(c++[T.int .i64 a]).length*8<=_;simp;omega
 rw[e];simp only[show Nat.ble 1 8=true from rfl,jf,H.mI,aV,List.length_singleton];rfl
def Fm.dQ{a c:H}{d:Nat}{f g:T}(b:Fm a c d f g):Fm a (mX a c) d f g:=⟨⟨(b.ok.out a).hp,(b.ok.out a).low,by simpa using b.ok.sz⟩,λe j h i=>(iB a c e).trans (b.fr e j h i),b.bx⟩
def Vy(b a:Nat):T:= .func 26 [.fc b 0 0 0,.fc a 0 0 0]
def Xp(a b c:Nat):T:= .func 69 [.fc a 0 0 0,.fc b 0 0 0,.fc c 0 0 0]
structure EnD(h:H)(z:iw)(b1 b2 b3 bx bl:Nat):Prop where
 e1:∃ver,h.get b1=some (X 1 ver [Vy bx bl])
 e2:∃ver,h.get b2=some (X 16 ver [z.t])
 e3:∃ver,h.get b3=some (X 1 ver [Xp b1 b2 b3])
 ex:∃ver,h.get bx=some (X 16 ver [z.t])
def EH.ne{i:H}{h:Nat}{f:T}{m:List T}{n:List jm}(l:EH i h f m n){c:Nat}{a:jK}(j:i.get c=some a)(k:a.sz=16\/(a.sz=1/\a.gW≠ [f])):c≠h/\fq f≠some c:=by
 have⟨o,d⟩:=l.gl;refine⟨?_,λq=>?_⟩
 ·rintro rfl;rw[j]at d;simp only[aw]at d;subst d;rcases k with q|q
  ·simp at q
  ·exact q.2 rfl
 ·have⟨_,_,_,_,e,_⟩:=l.g.box q;rw[j]at e;simp only[aw]at e;subst e;rcases k with q|q
  ·simp at q
  ·have:=q.1;simp at this
def Gr.nf{f:H}{a:T}{g:Nat}{c:List T}(e:Gr f a g c){d:ak}{b:List T}: [T.func d b]≠ [a]:=by
 rcases e with⟨rfl,_⟩|⟨_,_,_,_,_,rfl,_⟩<;>simp
def EnD.fm{j o:H}{u:iw}{k l m n b:Nat}{t x:T}{v:List T}{w:List jm}(c:EnD j u k l m n b)(a:EH j b t v w)(d:Fm j o b t x):EnD o u k l m n b:=by
 have⟨y,e⟩:=c.e1;have⟨z,f⟩:=c.e2;have⟨A,h⟩:=c.e3;have⟨D,i⟩:=c.ex;have p:=a.ne e (.inr ⟨rfl,Gr.nf a.g⟩);have q:=a.ne f (.inl rfl);have r:=a.ne h (.inr ⟨rfl,Gr.nf a.g⟩);have s:=a.ne i (.inl rfl);exact⟨⟨y,(d.fr _ (H.gh e) p.1 p.2).trans e⟩,⟨z,(d.fr _ (H.gh f) q.1 q.2).trans f⟩,⟨A,(d.fr _ (H.gh h) r.1 r.2).trans h⟩,⟨D,(d.fr _ (H.gh i) s.1 s.2).trans i⟩⟩
structure IDd where
 (z:iw) (p:List Int) (pv:T) (b1 b2 b3 bx bl:Nat) (v:T) (es:List T) (gs:List jm)
def cyG(b:iw)(a:List Int):List (List Int):=Ez b.w.gx.ev.length (λa=>decide (2<=a.length)&&b.w.gx.vG (gC a)) (λa c=>b.w.gx.tS c (qu a)) (4-a.length) a
def SS(a:IDd)(d:List T)(b:H):Prop:=d=[a.pv,.fc a.b1 0 0 0,.fc a.b2 0 0 0,.fc a.b3 0 0 0]/\EnD b a.z a.b1 a.b2 a.b3 a.bx a.bl/\EH b a.bl a.v a.es a.gs/\iQ 0 b/\y8 a.z/\Gr b a.pv 1 (iz a.p)/\(∀c,fq a.pv=some c->c≠a.bl)/\1<=a.p.length/\a.p.length<=4/\(∀e∈a.p,ju e a.z.w.ej.length=true)/\a.gs.length+(cyG a.z a.p).length<=1000000
def MT(a:IDd)(f:List T)(e:H)(g:T)(b:H):Prop:=∃c d,EH b a.bl c d (a.gs++(cyG a.z a.p).map gC)/\Fm e b a.bl a.v c
def aaD(k:Nat):(km IDd (λi aE h=>SS i aE h/\5-i.p.length<k) MT).Ok prog cx 69:=by
 refine z9 (λi:IDd=>5-i.p.length) (λm eR=>?_) k;refine kh (tb:=⟨pt [(70,sS)],ht [(26,km IAd OL MY),(62,km Mo (uI 1) (qK 1)),(69,km IDd (λi aE h=>SS i aE h/\5-i.p.length<m) MT)]⟩) jv jl (jF 137506128175 [(1,[(0,2)]),(7,[(0,9)])] func69) (λ_ _=>100) (λi aE h eL=>by obtain⟨⟨rfl,_⟩,_⟩:=eL;simp[f69]) ?_;rintro⟨d,c,z,ab,bu,E,cp,o,Q,es,al⟩ _ h ⟨⟨rfl,bB,A,b9,av,S,b7,eM,eN,a8,bT⟩,eI⟩ l c1;simp only at bB A av S b7 eM eN a8 bT eI;simp at c1;obtain⟨f,v,t,J⟩:=c1;have dm:Nb h (TI.hr h):=⟨⟨b9.hr.hp,b9.hr.low,ax _⟩,λe _=>iU h e⟩;have bN:Fm h (TI.hr h) o Q Q:=Fm.nb dm;have bi:=A.nb dm;have cX:=bB.fm A bN;have eS:∀b,fq z=some b->b<h.size:=λb eD=>by have⟨_,_,_,_,ae,_⟩:=S.box eD;exact H.gh ae
 have dn:∀e,fq z=some e->fq Q≠some e:=λe u=>S.ne A.g dT e u;have aA:=λv:H=>S.len (cx:=cx) v pI _ rfl;rw[aI]at aA;have e9:es.length=al.length:=by have:=A.a.length;simpa using this
 have⟨fC,I⟩:=cX.e1;simp[f69,f,aA];refine lV (λl h'=>∃j q,EH h' o j q (al++(if(decide (2<=c.length)&&d.w.gx.vG (gC c))=true then [c]else []).map gC)/\Fm h h' o Q j/\Y l 0 z/\Y l 1 (.fc ab 0 0 0)/\Y l 2 (.fc bu 0 0 0)/\Y l 3 (.fc E 0 0 0)) (λV=>?_) (λV=>?_) ?_
 ·have eA:2<=c.length:=by have:=dA V;omega
  have eu:Gr (TI.hr h) z 1 (iz c):=S.mono λe _=>iU h e;simp[f,v,I,Vy];refine mf BO G ⟨z,iz c⟩ ⟨rfl,eu.j1,by simp[T.cells],dR,b9.hr⟩ ?_;rintro r e6 ⟨a7,O,eU⟩;simp only at a7;have bn:=bi.nb O;have eh:=cX.fm bi (Fm.nb O);have ea:o<h.size:=by have⟨ver,bX⟩:=A.gl;exact H.gh bX
  have eV:=il (O.get ab (H.gh I));simp[a7.jc,a7.cells,eV];refine mf OY G ⟨d,gC c,r,cp,o,Q,es,al⟩ ⟨rfl,eh.ex,bn,⟨O.ok.hp,O.ok.low,ay _⟩,av,dS,by simp[gC];omega,a7,λe u=>by have:=eU e u;simp at this;show e≠o;omega⟩ ?_;rintro _ e7 ⟨j,q,dv,aX⟩;have er:=(bN.trans (Fm.nb O)).trans aX;have di:=bn.ne ((O.get ab (H.gh I)).trans I) (.inr ⟨rfl,Gr.nf bn.g⟩);have eW:=il (aX.fr ab (bK (H.gh I) O.ok.sz) di.1 di.2);have fi:=aX.ok.low;have fS:=aX.ok.sz;simp[f,v,t,J,eW];refine⟨j,⟨q,?_⟩,er⟩;have:kH d.w.gx.vG (gC c)=List.map gC (if 2<=c.length/\d.w.gx.vG (gC c)=true then [c]else []):=by
   unfold kH;by_cases P:d.w.gx.vG (gC c)=true
   ·rw[au P,au ⟨eA,P⟩];rfl
   ·rw[Z P,Z (λk=>P k.2)];rfl
  rw[<-this];exact dv
 ·have:¬2<=c.length:=by simp at V;omega
  simp[f,v,t,J,this];exact⟨Q,⟨es,bi⟩,bN⟩
 rintro l h' ⟨j,q,D,s,f,v,t,J⟩;have ca:∀{t:H} {ds:T},Fm h t o Q ds->Gr t z 1 (iz c):=λR=>S.mono λe u=>R.fr e (eS e u) (b7 e u) (dn e u);have U:cyG d c=Ez d.w.ej.length (λc=>decide (2<=c.length)&&d.w.gx.vG (gC c)) (λc N=>d.w.gx.tS N (qu c)) (4-c.length) c:=rfl;simp[f,aA];refine fN (λV=>?_) (λV=>?_)
 ·simp at V;rw[show 4-c.length=0 by omega,Ez]at U;simp;refine⟨j,q,?_,s.dQ⟩;simp only;rw[U];exact D.out h
 simp at V;have⟨K,eB⟩:∃K,4-c.length=K+1:=⟨3-c.length,B⟩;rw[eB,Ez]at U;have⟨p0,b6⟩:∃p0:Nat,c[0]? =some (p0:Int)/\p0<d.w.ej.length:=by
  have:=fQ.1 (a8 c[0] (aG B));exact⟨c[0].toNat,by rw[aB B];congr 1;omega,B⟩
 have ff:=av.w.ok.len;have eE:(c.getD 0 0).toNat=p0:=by simp[List.getD,b6.1]
 rw[eE]at U;have b8:c.length-1<c.length:=B;have dd:qu c=c[c.length-1]:=by simp[qu,List.getD,b8]
 have eK:ju (qu c) d.w.ej.length=true:=by rw[dd];exact a8 _ (aG b8)
 have⟨F,bH,fL,e5,fP,L,c9,_,_⟩:=S.at (x:= C p0) (i:=0) (by rw[aR,b6.1];rfl);rw[aI]at L;have⟨fA,I,cF⟩:=(show qZ h' 1 z _ from .inr (ca s)).idx (te:=Ek) rfl rfl (i:=0) (x:= C p0) (by simp[b6.1]) rfl;have eC:binop .add (C (p0:Int)) (C 1)=some (C ((p0:Int)+1)):=jp B B;have eO:binop .sub (C (c.length:Int)) (C 1)=some (C ((c.length-1:Nat):Int)):=by rw[mh B B];congr 2;omega
 generalize c7:(λ(N:Nat)=>if d.w.gx.tS N (qu c)=true then Ez d.w.ej.length (λc=>decide (2<=c.length)&&d.w.gx.vG (gC c)) (λc N=>d.w.gx.tS N (qu c)) K (c++[(N:Int)])else [])=R at U;generalize(if(decide (2<=c.length)&&d.w.gx.vG (gC c))=true then [c]else [])=cb at*
 simp[f,I,cF,eC];clear I cF;refine vh d.w.ej.length (λk l h'=>p0+1<=k/\∃j q,EH h' o j q (al++(cb++(List.range' (p0+1) (k-(p0+1))).flatMap R).map gC)/\Fm h h' o Q j/\Y l 0 z/\Y l 1 (.fc ab 0 0 0)/\Y l 2 (.fc bu 0 0 0)/\Y l 3 (.fc E 0 0 0)/\Y l 5 (C k)) ?_ B (k:=p0+1) B ?_
 ·rintro k l h' fe ⟨fb,j,q,D,s,f,v,t,J,an⟩;have bC:=bB.fm A s;have⟨ds,cL⟩:=bC.e2;have⟨fE,aN⟩:=bC.e3;by_cases de:k<d.w.ej.length
  ·have c4:binop .add (C (k:Int)) (C 1)=some (C ((k:Int)+1)):=jp B B;have⟨fB,eb,ec⟩:=(show qZ h' 1 z _ from .inr (ca s)).idx (te:=Ek) rfl rfl (i:=c.length-1) (x:= C (qu c)) (by rw[dd];simp[b8]) rfl;have ed:=λ{tb:io} (ht:tb.p 70=some sS)=>L4 ht d k (qu c) av (fQ.2 ⟨B,B⟩) eK;simp[f,t,an,de,cL,aA,eO,eb,ec,ed];refine fN (λP=>?_) (λP=>?_)
   ·have ey:=ca s;have eH:h'.j1 (.arr F bH 0 c.length true)=some (iz c):=by
     have:=ey.j1;rw[L]at this;rw[iR]at this|-;exact this
    have fv:∀e,fq z=some e->e=F:=λe u=>by rw[L]at u;simpa using u.symm
    have eF:h'.get F=_:=(s.fr F (H.gh c9) (b7 F (by rw[L];rfl)) (dn F (by rw[L];rfl))).trans c9;have ef:=Z4 (h:=h') F bH c.length _ eF rfl;have bA:=Vo (h:=h') (b:=F) (ep:=bH) (n:=c.length) eH (by simp[T.cells]) dR (k:Int);rw[aI]at bA;have bg:iQ h.size h':=s.ok;generalize bS:(h'.cons (X 1 0 [C k])).cons ⟨1,0,0,false,false,iz c++[C k]⟩=ap at bA;have fW:ap.size=h'.size+1+1:=by rw[<-bS];rfl
    have W:Nb h' ap:=by rw[<-bS];exact((Nb.refl ⟨bg.hp,bg.low,ay _⟩).cons _).cons _
    have et:Gr ap (.arr (h'.size+1) 0 0 (c.length+1) false) 1 (iz (c++[(k:Int)])):=by
     have:=Gr.new (h:=ap) (b:=h'.size+1) (sz:=1) (ep:=0) (ver:=0) (ex:=false) (es:=iz (c++[(k:Int)])) (by rw[<-bS,show iz (c++[(k:Int)])=iz c++[C k]from List.map_append ..];simp);simpa using this
    have bp:=D.nb W;have eo:=bC.fm D (Fm.nb W);have fo:=bg.low;have cd:=H.gh aN;have fY:=bg.sz;have fs:(E=h'.size)=False:=dR;have eX:=il (h:=h'.cons (X 1 0 [C k])) (h':=ap) (b:=E) (by rw[W.get E cd,fk,Z B]);have ea:o<h.size:=by have⟨ver,bX⟩:=A.gl;exact H.gh bX
    simp only[Xp]at aN;rw[L]at f;simp[f,J,an,aN,L▸aA,ef,bA,eX];have bW:R k=Ez d.w.ej.length (λc=>decide (2<=c.length)&&d.w.gx.vG (gC c)) (λc N=>d.w.gx.tS N (qu c)) K (c++[(k:Int)]):=by rw[<-c7];simp only;rw[au P]
    have c6:cyG d (c++[(k:Int)])=R k:=by rw[bW];unfold cyG;simp only[aV,List.length_singleton];rw[show 4-(c.length+1)=K by omega];rfl
    have eP:ku (p0+1) d.w.ej.length=List.range' (p0+1) (k-(p0+1))++k::List.range' (k+1) (d.w.ej.length-(k+1)):=by
     unfold ku;rw[show d.w.ej.length-(p0+1)=(k-(p0+1))+(d.w.ej.length-k)by omega,<-List.range'_append_1,show p0+1+(k-(p0+1))=k by omega,show d.w.ej.length-k=(d.w.ej.length-(k+1))+1 by omega,List.range'_succ]
    refine mf eR G ⟨d,c++[(k:Int)],.arr (h'.size+1) 0 0 (c.length+1) false,ab,bu,E,cp,o,j,q,al++(cb++(List.range' (p0+1) (k-(p0+1))).flatMap R).map gC⟩ ⟨⟨rfl,eo,bp,⟨W.ok.hp,W.ok.low,ay _⟩,av,et,λe u=>?_,G,dR,λy ae=>?_,?_⟩,dR⟩ ?_
    ·simp at u;show e≠o;omega
    ·simp at ae;rcases ae with ae|rfl
     ·exact a8 y ae
     ·show ju (k:Int) d.w.ej.length=true;exact fQ.2 ⟨B,B⟩
    ·simp only[c6];rw[U,eP]at bT;simp only[aV,dJ,bD,aI]at bT|-;omega
    rintro _ e8 ⟨e4,es3,bs,a6⟩;simp only[c6]at bs;have dk:=bp.ne ((W.get E cd).trans aN) (.inr ⟨rfl,Gr.nf bp.g⟩);have e0:=il (a6.fr E B dk.1 dk.2);have fl:=a6.ok.low;have fX:=a6.ok.sz;simp[f,v,t,J,an,c4,e0];refine⟨k+1,B,B,B,e4,⟨es3,?_⟩,(s.trans (Fm.nb W)).trans a6,by rw[L],G⟩;rw[show k+1-(p0+1)=(k-(p0+1))+1 by omega,List.range'_concat,show p0+1+1*(k-(p0+1))=k by omega,dJ];simp only[bD,cB,bG,List.map_append,<-bj]at bs|-;exact bs
   ·simp[f,v,t,J,an,c4];have bW:R k=[]:=by rw[<-c7];simp only;rw[Z (by rw[P];simp)]
    refine⟨k+1,B,B,B,j,⟨q,?_⟩,s,G⟩;rw[show k+1-(p0+1)=(k-(p0+1))+1 by omega,List.range'_concat,show p0+1+1*(k-(p0+1))=k by omega,dJ];simpa[bW]using D
  ·simp[t,an,de,cL];refine⟨j,q,?_,s.dQ⟩;simp only;rw[U];unfold ku;rw[show k=d.w.ej.length by omega]at D;exact D.out h
 ·exact⟨B,j,q,by simpa using D,s,by simp[f,v,t,J]⟩
def MK(a:T):mS .my 0 [a]=some a:=E0 G 
structure IDl where
 (z:iw) (bx bl:Nat) (v:T) (es:List T) (gs:List jm)
def Df(a:iw)(c:Nat):List jm:=(ku c a.w.ej.length).flatMap λ(b:Nat)=>(a.w.gx.NU b).map gC
def Za(a:IDl)(c:List T)(b:H):Prop:=c=[a.z.t,Vy a.bx a.bl]/\(∃d,b.get a.bx=some (X 16 d [a.z.t]))/\EH b a.bl a.v a.es a.gs/\iQ 0 b/\y8 a.z/\a.gs.length+(Df a.z 0).length<=1000000
def Td(a:IDl)(f:List T)(e:H)(g:T)(b:H):Prop:=∃c d,EH b a.bl c d (a.gs++Df a.z 0)/\Fm e b a.bl a.v c
def I1:(km IDl Za Td).Ok prog cx 28:=by
 refine kh (tb:=⟨pt [],ht [(69,km IDd (λL h a=>SS L h a/\5-L.p.length<6) MT)]⟩) jv jl (jF 7231 [] func28) (λ_ _=>100) (λL h a aX=>by obtain⟨rfl,_⟩:=aX;simp[f28]) ?_;rintro⟨b,s,d,Z,an,S⟩ _ a ⟨rfl,⟨bg,J⟩,v,o,K,V⟩ r U;simp only at J v K V;simp at U;obtain⟨ap,av⟩:=U;have bp:=K.w.ok.len;have a7:(TI.hr a).low<=a.size:=by have:=o.hr.low;simp
 have a8:∀h y e u,fJ ((((TI.hr a).cons h).cons y).cons e) (a.size+1+1) u=(((TI.hr a).cons h).cons y).cons u:=λh y e u=>Fh _ _ _ _ rfl dR;simp[f28,ap,av,a8,Vy,MK];generalize f:H.cons _ _=m;have W:iQ a.size m:=by rw[<-f];exact(((⟨o.hr.hp,o.hr.low,ax _⟩:iQ a.size (TI.hr a)).cons _).cons _).cons _
 have bB:m.size=a.size+1+1+1:=by rw[<-f];rfl
 have N:Nb a m:=by rw[<-f];exact⟨((((Nb.refl o.hr).cons _).cons _).cons _).ok,λe E=>(((((Nb.refl o.hr).cons _).cons _).cons _).get e E).trans (iU a e)⟩
 have ae:EnD m b (a.size+1) a.size (a.size+1+1) s d:=⟨⟨0,by rw[<-f];simp[Vy]⟩,⟨0,by rw[<-f];simp⟩,⟨1,by rw[<-f];simp[Xp]⟩,⟨bg,(N.get s (H.gh J)).trans J⟩⟩;clear f;refine vh b.w.ej.length (λk r c=>∃q t i,EH c d q t i/\i++Df b k=S++Df b 0/\EnD c b (a.size+1) a.size (a.size+1+1) s d/\Fm m c d Z q/\Y r 4 (.fc (a.size+1+1) 0 0 0)/\Y r 10 (C b.w.ej.length)/\Y r 11 (C k)) ?_ B (k:=0) B ⟨Z,an,S,v.nb N,rfl,ae,Fm.nb ⟨⟨W.hp,W.low,ax _⟩,λ_ _=>rfl⟩,G⟩;rintro k r c bn ⟨q,t,i,j,g,z,l,T,A,D⟩;have O:iQ 0 c:=⟨l.ok.hp,l.ok.low,ay _⟩;have⟨bu,P⟩:=z.e3;by_cases F:k<b.w.ej.length
 ·have aE:binop .add (C (k:Int)) (C 1)=some (C ((k:Int)+1)):=jp B B;have I:Df b k=(b.w.gx.NU k).map gC++Df b (k+1):=by unfold Df;rw[o9 F];rfl
  rw[I]at g;have aN:i.length+(b.w.gx.NU k).length<=1000000:=by
   have:=bL List.length g;simp at this V;omega
  have bC:=l.ok.sz;have Q:=P;simp only[Xp]at Q;have bs:(a.size+1+1=c.size)=False:=by have:=H.gh P;simp;omega
  have a7:=O.low;simp[T,A,D,F,Q];have n:Nb c (c.cons (X 1 0 [C k])):=(Nb.refl O).cons _;have bi:d<a.size:=by have⟨bA,g⟩:=v.gl;exact H.gh g
  refine jB (aaD 6) G ⟨b,[(k:Int)],.arr c.size 0 0 1 false,a.size+1,a.size,a.size+1+1,s,d,q,t,i⟩ ⟨⟨rfl,z.fm j (Fm.nb n),j.nb n,O.cons _,K,.inr ⟨c.size,0,0,true,[C k],rfl,G,rfl⟩,λe E=>?_,G,G,λu a6=>?_,aN⟩,G⟩ ?_
  ·simp at E;show e≠d;omega
  ·rw[List.mem_singleton.1 a6];exact fQ.2 ⟨B,dS⟩
  rintro _ aA ⟨ab,Ea,x,R⟩;have al:=(z.fm j (Fm.nb n)).fm (j.nb n) R;have x:EH aA d ab Ea (i++(b.w.gx.NU k).map gC):=x;simp[T,A,D,aE];exact⟨k+1,B,B,ab,Ea,_,x,by rw[bj];exact g,al,(l.trans (Fm.nb n)).trans R,G⟩
 ·have I:Df b k=[]:=by unfold Df;rw[qC B];rfl
  rw[I,bG]at g;subst g;simp[A,D,F];exact⟨q,t,j.out a,((Fm.nb N).trans l).dQ⟩
def xg:iK:=⟨fg,λa=>[a.t],λa=>lj a,λa=>sl (a.gx.rk.map jm.t),λc d b=>by simp at b;rw[fg.inj b]⟩
def Vf{b:io}(ht:b.p 25=some uH)(a:fg)(c:lj a):rl prog cx b 25 [a.t]=some (.tuple [iw.t ⟨a,a.gx.st⟩,.ez true]):=iN ht H7 a c
structure Oj(w:fg)(h:H)(v:T)(es:List T)(gs:List jm):Prop where
 ac:EH h 2 v es gs
 ok:iQ 3 h
 b0:h.get 0=some (X 15 0 [w.t])
 b1:h.get 1=some (X 16 1 [iw.t ⟨w,w.gx.st⟩])
def Oj.fm{k:fg}{i c:H}{d e:T}{m f:List T}{n h:List jm}(a:Oj k i d m n)(b:Fm i c 2 d e)(l:EH c 2 e f h):Oj k c e f h:=by
 have r:=a.ok.sz;have p:=a.ac.ne a.b1 (.inl rfl);have o:fq d≠some 0:=λq=>by
  have⟨_,_,_,_,j,_⟩:=a.ac.g.box q;rw[a.b0]at j;simp at j
 exact⟨l,⟨b.ok.hp,b.ok.low,by have:=b.ok.sz;omega⟩,(b.fr 0 B B o).trans a.b0,(b.fr 1 B B p.2).trans a.b1⟩
def Oj.len{b:fg}{g:H}{l:T}{e:List T}{c d:List jm}(k:Oj b g l e c)(j:lj b)(i:c++d=b.gx.rk):e.length<=1000000/\c.length+d.length<=1000000:=by
 have h:=k.ac.a.length;have f:=Id b.gx j.ok.len;rw[<-GX.I6,<-i]at f;simp at h f;omega
def lj.ana{a:fg}(b:lj a):y8 ⟨a,a.gx.st⟩:=⟨b,rfl⟩
def Oj.pre{b:fg}{e:H}{i:T}{d:List T}{c j:List jm}(a:Oj b e i d c)(h:lj b)(k:c++j=b.gx.rk){g:jm}(f:g.jz=[]):OL ⟨⟨b,b.gx.st⟩,g,dV,1,2,i,d,c⟩ [Jn g dV,.fc 1 0 0 0,.fc 2 0 0 0] e:=
 ⟨rfl,⟨1,a.b1⟩,a.ac,⟨a.ok.hp,a.ok.low,ay _⟩,h.ana,(a.len h k).1,by simp[f],by simp[f];exact Gr.nil _ _,λm l=>by simp at l⟩
def WF:xg.Ok prog cx 10:=by
 refine Ah (tb:=⟨pt [(25,uH),(29,xl)],ht [(26,km IAd OL MY),(28,km IDl Za Td)]⟩) jv jl (jF 40953575029616206113996799 [] func10) (λ_=>100) (by simp[xg]) nl9 ?_;rintro(d:fg) J b bu;replace J:lj d:=J;simp[xg]at bu|-;have c4:=J.ok.len;have⟨c,bH⟩:∃c,c=d.ej.length:=⟨_,rfl⟩;have ae:d.gx.rk=((ku 0 c).flatMap λ(j:Nat)=>(ku (j+1) c).flatMap λ(r:Nat)=>kH d.gx.vG (gR j r))++(Df ⟨d,d.gx.st⟩ 0++(((ku 0 c).flatMap λ(j:Nat)=>(ku 0 j).flatMap λ(r:Nat)=>kH d.gx.vG (gL j r))++
  ((ku 0 c).flatMap λ(j:Nat)=>(ku (j+1) c).flatMap λ(r:Nat)=>if d.gx.L6 j r=true then(ku 0 c).flatMap λ(l:Nat)=>(ku l c).flatMap λ(v:Nat)=>kH d.gx.vG (gA j r l v)else []))):=by
  unfold GX.rk Df;rw[show d.gx.n=c from bH.symm];simp only[Mx,bj,<-bH]
 generalize b7:((ku 0 c).flatMap λ(j:Nat)=>(ku (j+1) c).flatMap λ(r:Nat)=>if d.gx.L6 j r=true then(ku 0 c).flatMap λ(l:Nat)=>(ku l c).flatMap λ(v:Nat)=>kH d.gx.vG (gA j r l v)else [])=ap at ae;generalize b6:((ku 0 c).flatMap λ(j:Nat)=>(ku 0 j).flatMap λ(r:Nat)=>kH d.gx.vG (gL j r))++ap=bN at ae;generalize bX:Df ⟨d,d.gx.st⟩ 0++bN=a6 at ae;have cd:(d.ej.length:Int)=c:=B;simp[f10,bu,cd,Vf,J];refine vh c (λk b y=>∃o m f,Oj d y o m f/\f++(((ku k c).flatMap λ(j:Nat)=>(ku (j+1) c).flatMap λ(r:Nat)=>kH d.gx.vG (gR j r))++a6)=d.gx.rk/\Y b 1 (.fc 0 0 0 0)/\Y b 3 (.fc 1 0 0 0)/\Y b 5 (.fc 2 0 0 0)/\Y b 6 (.func 26 [.fc 1 0 0 0,.fc 2 0 0 0])/\Y b 7 (C c)/\Y b 27 (C c)/\Y b 28 (C k)) ?_ B (k:=0) B ?_
 ·rintro k b y bC ⟨o,m,f,h,e,z,w,x,u,s,N,O⟩;by_cases A:k<c
  ·have R:=sK A B;rw[o9 A,bD,bj]at e;simp[N,O,A,R];refine vh c (λi b y=>∃o m f,Oj d y o m f/\f++(((ku i c).flatMap λ(r:Nat)=>kH d.gx.vG (gR k r))++(((ku (k+1) c).flatMap λ(j:Nat)=>(ku (j+1) c).flatMap λ(r:Nat)=>kH d.gx.vG (gR j r))++a6))=d.gx.rk/\Y b 1 (.fc 0 0 0 0)/\Y b 3 (.fc 1 0 0 0)/\Y b 5 (.fc 2 0 0 0)/\Y b 6 (.func 26 [.fc 1 0 0 0,.fc 2 0 0 0])/\Y b 7 (C c)/\Y b 8 (C k)/\Y b 27 (C c)/\Y b 28 (C k)/\Y b 9 (C i)) ?_ B (k:=k+1) B ⟨o,m,f,h,e,by simp[z,w,x,u,s,N,O]⟩;rintro i b y bB ⟨o,m,f,h,e,z,w,x,u,s,bp,N,O,aN⟩;by_cases F:i<c
   ·have W:=sK F B;rw[o9 F,bD]at e;have ab:=h.pre J e (g:=gR k i) rfl;rw[bj,<-bj]at e;simp[u,s,bp,aN,F];refine jB OY G _ ab ?_;rintro _ bn ⟨S,Ea,K,L⟩;simp[z,w,x,u,s,bp,aN,N,O,W];exact⟨i+1,B,B,S,Ea,_,h.fm L K,e,G⟩
   ·rw[qC (show c<=i by omega)]at e;simp[z,w,x,u,s,aN,N,O,F,R];exact⟨k+1,B,B,o,m,f,h,e,G⟩
  ·rw[qC (show c<=k by omega)]at e;simp[w,u,N,O,A,h.b1];clear A N O;rw[<-bX,cB,cQ]at e;have bA:=h.len J e;refine jB I1 G ⟨⟨d,d.gx.st⟩,1,2,o,m,f⟩ ⟨rfl,⟨1,h.b1⟩,h.ac,⟨h.ok.hp,h.ok.low,ay _⟩,J.ana,by have:=bA.2;simp at this|-;omega⟩ ?_;rintro _ cF ⟨S,Ea,K,L⟩;have aX:=h.fm L K;rw[<-bj]at e;simp only at aX;clear h K L bA;simp[s];rw[<-b6]at e;generalize f++Df ⟨d,d.gx.st⟩ 0=bW at*
   refine vh c (λk b y=>∃o m f,Oj d y o m f/\f++(((ku k c).flatMap λ(j:Nat)=>(ku 0 j).flatMap λ(r:Nat)=>kH d.gx.vG (gL j r))++ap)=d.gx.rk/\Y b 1 (.fc 0 0 0 0)/\Y b 3 (.fc 1 0 0 0)/\Y b 5 (.fc 2 0 0 0)/\Y b 6 (.func 26 [.fc 1 0 0 0,.fc 2 0 0 0])/\Y b 7 (C c)/\Y b 47 (C c)/\Y b 48 (C k)) ?_ B (k:=0) B ⟨S,Ea,bW,aX,e,by simp[z,w,x,u,s]⟩;rintro k b y bC ⟨o,m,f,h,e,z,w,x,u,s,P,Q⟩;by_cases A:k<c
   ·have R:=sK A B;rw[o9 A,bD,bj]at e;simp[P,Q,A];refine vh k (λi b y=>∃o m f,Oj d y o m f/\f++(((ku i k).flatMap λ(r:Nat)=>kH d.gx.vG (gL k r))++(((ku (k+1) c).flatMap λ(j:Nat)=>(ku 0 j).flatMap λ(r:Nat)=>kH d.gx.vG (gL j r))++ap))=d.gx.rk/\Y b 1 (.fc 0 0 0 0)/\Y b 3 (.fc 1 0 0 0)/\Y b 5 (.fc 2 0 0 0)/\Y b 6 (.func 26 [.fc 1 0 0 0,.fc 2 0 0 0])/\Y b 7 (C c)/\Y b 10 (C k)/\Y b 47 (C c)/\Y b 48 (C k)/\Y b 51 (C k)/\Y b 52 (C i)) ?_ B (k:=0) B ⟨o,m,f,h,e,by simp[z,w,x,u,s,P,Q]⟩;rintro i b y bB ⟨o,m,f,h,e,z,w,x,u,s,bg,P,Q,aA,aE⟩;by_cases F:i<k
    ·have W:=sK (show i<c by omega) B;rw[o9 F,bD]at e;have ab:=h.pre J e (g:=gL k i) rfl;rw[bj,<-bj]at e;simp[u,bg,aA,aE,F];refine jB OY G _ ab ?_;rintro _ bn ⟨S,Ea,K,L⟩;simp[z,w,x,u,s,bg,P,Q,aA,aE,W];exact⟨i+1,B,B,S,Ea,_,h.fm L K,e,G⟩
    ·rw[qC (show k<=i by omega)]at e;simp[z,w,x,u,s,P,Q,aA,aE,F,R];exact⟨k+1,B,B,o,m,f,h,e,G⟩
   ·rw[qC (show c<=k by omega)]at e;simp[s,P,Q,A];clear A P Q;rw[<-b7,cB,cQ]at e;refine vh c (λk b y=>∃o m f,Oj d y o m f/\f++((ku k c).flatMap λ(j:Nat)=>(ku (j+1) c).flatMap λ(r:Nat)=>if d.gx.L6 j r=true then(ku 0 c).flatMap λ(l:Nat)=>(ku l c).flatMap λ(v:Nat)=>kH d.gx.vG (gA j r l v)else [])=d.gx.rk/\Y b 1 (.fc 0 0 0 0)/\Y b 3 (.fc 1 0 0 0)/\Y b 5 (.fc 2 0 0 0)/\Y b 6 (.func 26 [.fc 1 0 0 0,.fc 2 0 0 0])/\Y b 7 (C c)/\Y b 62 (C c)/\Y b 63 (C k)) ?_ B (k:=0) B ⟨o,m,f,h,e,by simp[z,w,x,u,s]⟩;rintro k b y bC ⟨o,m,f,h,e,z,w,x,u,s,D,E⟩;by_cases A:k<c
    ·have R:=sK A B;rw[o9 A,bD]at e;simp[D,E,A,R];generalize b9:((ku (k+1) c).flatMap λ(j:Nat)=>(ku (j+1) c).flatMap λ(r:Nat)=>if d.gx.L6 j r=true then(ku 0 c).flatMap λ(l:Nat)=>(ku l c).flatMap λ(v:Nat)=>kH d.gx.vG (gA j r l v)else [])=a8 at e;refine vh c (λi b y=>k<i/\∃o m f,Oj d y o m f/\f++(((ku i c).flatMap λ(r:Nat)=>if d.gx.L6 k r=true then(ku 0 c).flatMap λ(l:Nat)=>(ku l c).flatMap λ(v:Nat)=>kH d.gx.vG (gA k r l v)else [])++a8)=d.gx.rk/\Y b 1 (.fc 0 0 0 0)/\Y b 3 (.fc 1 0 0 0)/\Y b 5 (.fc 2 0 0 0)/\Y b 6 (.func 26 [.fc 1 0 0 0,.fc 2 0 0 0])/\Y b 7 (C c)/\Y b 12 (C k)/\Y b 13 (C i)/\Y b 62 (C c)/\Y b 63 (C k)) ?_ B (k:=k+1) B ⟨B,o,m,f,h,e,by simp[z,w,x,u,s,D,E]⟩;rintro i b y bB ⟨c1,o,m,f,h,e,z,w,x,u,s,I,H,D,E⟩;by_cases F:i<c
     ·have W:=sK F B;rw[o9 F,bD,bj]at e;generalize bs:((ku (i+1) c).flatMap λ(r:Nat)=>if d.gx.L6 k r=true then(ku 0 c).flatMap λ(l:Nat)=>(ku l c).flatMap λ(v:Nat)=>kH d.gx.vG (gA k r l v)else [])++a8=a7 at e;have bT:∀{tb:io},tb.p 29=some xl->rl prog cx tb 29 [iw.t ⟨d,d.gx.st⟩,C k,C i]=some (.ez (d.gx.L6 k i)):=λht=>iN ht K2 (⟨d,d.gx.st⟩,(k:Int),(i:Int)) ⟨J.ana,(fQ.2 ⟨B,B⟩:ju (k:Int) d.ej.length=true),(fQ.2 ⟨B,B⟩:ju (i:Int) d.ej.length=true)⟩;simp[w,s,I,H,F,h.b1,bT];refine fN (λq=>?_) (λq=>?_)
      ·rw[Z (by rw[show d.gx.L6 k i=false by simpa using q];simp),cQ,<-bs]at e;simp[z,w,x,u,s,I,H,D,E,W];exact⟨i+1,B,B,B,o,m,f,h,e,G⟩
      ·rw[au (by simpa using q)]at e;simp[s];refine vh c (λl b y=>∃o m f,Oj d y o m f/\f++(((ku l c).flatMap λ(l:Nat)=>(ku l c).flatMap λ(v:Nat)=>kH d.gx.vG (gA k i l v))++a7)=d.gx.rk/\Y b 1 (.fc 0 0 0 0)/\Y b 3 (.fc 1 0 0 0)/\Y b 5 (.fc 2 0 0 0)/\Y b 6 (.func 26 [.fc 1 0 0 0,.fc 2 0 0 0])/\Y b 7 (C c)/\Y b 12 (C k)/\Y b 13 (C i)/\Y b 62 (C c)/\Y b 63 (C k)/\Y b 78 (C c)/\Y b 79 (C l)) ?_ B (k:=0) B ⟨o,m,f,h,e,by simp[z,w,x,u,s,I,H,D,E]⟩;rintro l b y cL ⟨o,m,f,h,e,z,w,x,u,s,I,H,D,E,T,U⟩;by_cases al:l<c
       ·have ca:=sK al B;rw[o9 al,bD,bj]at e;simp[T,U,al];generalize b8:((ku (l+1) c).flatMap λ(l:Nat)=>(ku l c).flatMap λ(v:Nat)=>kH d.gx.vG (gA k i l v))++a7=bS at e;refine vh c (λv b y=>∃o m f,Oj d y o m f/\f++(((ku v c).flatMap λ(v:Nat)=>kH d.gx.vG (gA k i l v))++bS)=d.gx.rk/\Y b 1 (.fc 0 0 0 0)/\Y b 3 (.fc 1 0 0 0)/\Y b 5 (.fc 2 0 0 0)/\Y b 6 (.func 26 [.fc 1 0 0 0,.fc 2 0 0 0])/\Y b 7 (C c)/\Y b 12 (C k)/\Y b 13 (C i)/\Y b 14 (C l)/\Y b 15 (C v)/\Y b 62 (C c)/\Y b 63 (C k)/\Y b 78 (C c)/\Y b 79 (C l)) ?_ B (k:=l) B ⟨o,m,f,h,e,by simp[z,w,x,u,s,I,H,D,E,T,U]⟩;rintro v b y cX ⟨o,m,f,h,e,z,w,x,u,s,I,H,bi,av,D,E,T,U⟩;by_cases an:v<c
        ·have cb:=sK an B;rw[o9 an,bD]at e;have ab:=h.pre J e (g:=gA k i l v) rfl;rw[bj,<-bj]at e;simp[u,s,I,H,bi,av,an];refine jB OY G _ ab ?_;rintro _ bn ⟨S,Ea,K,L⟩;simp[z,w,x,u,s,I,H,bi,av,D,E,T,U,cb];exact⟨v+1,B,B,S,Ea,_,h.fm L K,e,G⟩
        ·rw[qC (show c<=v by omega)]at e;simp[z,w,x,u,s,I,H,av,D,E,T,U,an,ca];exact⟨l+1,B,B,o,m,f,h,by rw[b8];exact e,G⟩
       ·rw[qC (show c<=l by omega)]at e;simp[z,w,x,u,s,I,H,D,E,T,U,al,W];exact⟨i+1,B,B,B,o,m,f,h,by rw[bs];exact e,G⟩
     ·rw[qC (show c<=i by omega)]at e;simp[z,w,x,u,s,H,D,E,F,R];exact⟨k+1,B,B,o,m,f,h,by rw[b9];exact e,G⟩
    ·rw[qC (show c<=k by omega)]at e;rw[cB,bG]at e;have⟨c6,cp⟩:=h.ac.gl;simp[x,D,E,A,cp,h.ac.g.cells,h.ac.g.jc];exact⟨h.ok.hp,by rw[Gr.aiI h.ac.g B h.ac.a,e]⟩
 ·refine⟨dV,[],[],⟨⟨⟨0,G⟩,Gr.nil _ _,.nil⟩,by exact⟨G,G,G⟩,G,G⟩,ae.symm,G⟩
end
def ZQ{f:GX}{b:jm}(a:f.vR b=true):b.jz.length<=4:=by
 unfold GX.vR at a;split at a
 ·unfold GX.dead GX.J8 at a;simp only[az,aM]at a;exact a.2.1.1.2
 split at a;rotate_left
 ·simp at a
 have e:∀{d:Bool},(decide (b.jz=[])&&d)=true->b.jz.length<=4:=λc=>by
  simp only[az,aM]at c;rw[c.1];simp
 split at a
 ·simp only[az,aM]at a;rw[a.1.2];simp
 split at a
 ·simp only[az,aM]at a;rw[a.1.2];simp
 split at a
 ·exact e a
 ·simp at a
def abE{b:io}(ht:b.p 10=some xg)(a:fg)(c:lj a):rl prog cx b 10 [a.t]=some (sl (a.gx.rk.map jm.t)):=iN ht WF a c
section
attribute [-simp] size_cons
def DB:iK:=⟨List Int,λa=>[sl (a.map (T.int .u8))],λa=>a.length<=1000000/\∀c∈a,PT c,λa=>sl (iz a),λd e b=>by simp at b;rw[jV (λ_ _ b=>by simpa using b) b]⟩
def aaw:DB.Ok prog cx 8:=by
 refine iF [] (jF 285 [] func8) (λ_=>1000005) (by simp[DB]) ?_;rintro(a:List Int) ⟨hl,p⟩ c n;simp[DB]at n|-;simp[f8];refine ik a.length B (λb c g=>∃e,Gr g e 1 (iz (a.take b))/\iQ 0 g/\Y c 0 (sl (a.map (T.int .u8)))/\Y c 3 e/\Y c 4 (C b)) ?_ ?_ B ⟨dV,Gr.nil _ _,by exact⟨G,G,G⟩,by simp[n]⟩
 ·rintro b c g k q ⟨e,d,l,h,i,j⟩;have r:=p a[b] (aG k);unfold PT at r;have⟨t,s,o,m⟩:=d.m9 (cx:=cx) (f:=T.int .i64) l kO rfl nP rfl G (λ_=>rfl) a[b] dR;simp[h,i,j,k,o,q,show-9223372036854775808<=a[b]by omega,show a[b]<9223372036854775808 by omega];exact⟨by rw[aP k];exact m.1,⟨m.2.2.2.hp,m.2.2.2.low,ay _⟩⟩
 ·rintro c g ⟨e,d,l,h,i,j⟩;rw[aL]at d;simp[h,i,j,l.hp];rw[NG e d.jc,d.rZ G]
def afJ{b:io}(ht:b.p 8=some DB)(a:List Int)(hl:a.length<=1000000)(c:∀d∈a,PT d):rl prog cx b 8 [sl (a.map (T.int .u8))]=some (sl (iz a)):=iN ht aaw a ⟨hl,c⟩
def Qf{a:fg}:∀(c:List Int) (e:List iv) (b:fT) (d:Nat),xU d a b->xU (d+c.length) a (ml a c e b).2:=by
 intro c;induction c with
 |nil=>intro e b d f;exact f
 |cons g c j=>
  intro e b d f;simp only[ml];split
  ·exact f.up B
  ·rename_i h;have i:=Gz g h;have:=j (e++[(nc a b a.fM.ee.length).getD (g% ((nc a b a.fM.ee.length).length:Int)).toNat default]) _ _ (f.step _ i);exact this.up dR 
end
end
noncomputable section
open Go Go.TI
def XS(a:Int):Int:=if a=1 then 0 else if a=4 then 3 else a
structure PE(u:Int)(s r:gY):Prop where
 cl:XS (j2 s u).je=XS (j2 r u).je
 am:(j2 s u).atomic=(j2 r u).atomic
 ow:(s.fI.map λl=>decide (l.jg=u))=r.fI.map λl=>decide (l.jg=u)
 rd:(s.fI.map λl=>decide (u∈l.fO))=r.fI.map λl=>decide (u∈l.fO)
def PE.refl(b:Int)(a:gY):PE b a a:=⟨rfl,rfl,rfl,rfl⟩
def PE.trans{c:Int}{f e d:gY}(a:PE c f e)(b:PE c e d):PE c f d:=⟨a.cl.trans b.cl,a.am.trans b.am,a.ow.trans b.ow,a.rd.trans b.rd⟩
def PE.symm{d:Int}{c b:gY}(a:PE d c b):PE d b c:=⟨a.cl.symm,a.am.symm,a.ow.symm,a.rd.symm⟩
def BT{b g:Type}{c:List b}{f:Nat}{e:b->b}{a:b->g}(h:∀d,c[f]? =some d->a (e d)=a d):(c.modify f e).map a=c.map a:=by
 apply cW;intro i;simp only[aR,cZ];grind
def un{b c:Type}{f:List b}{e:Nat}{d:b->b}{a:b->c}{F:c->c}(h:∀g,a (d g)=F (a g)):(f.modify e d).map a=(f.map a).modify e F:=by
 apply cW;intro i;simp only[aR,cZ];grind
def Sf{c:gY}{b a:Int}{d:ei->ei}(ht:0<=b)(e:0<=a)(f:b≠a):j2 (c.pf b d) a=j2 c a:=by
 have:b.toNat≠a.toNat:=B;simp only[j2,qB,gY.pf,au e,cZ,Z this];cases c.ee[a.toNat]? <;>rfl
def xa{b:gY}{a:Int}{c:ei->ei}(f:ju a b.ee.length=true):j2 (b.pf a c) a=c (j2 b a):=by
 have⟨d,e⟩:=fQ.1 f;simp[j2,qB,gY.pf,d,e]
def Em{a:gY}{b:Int}{c:ei->ei}(f:ju b a.ee.length=true):j2 {a with ee:=a.ee.map c} b=c (j2 a b):=by
 have⟨d,e⟩:=fQ.1 f;simp[j2,qB,d,e]
def PE.Ha{e:gY}{a b:Int}{f:ei->ei}(ht:0<=a)(d:0<=b)(c:a≠b):PE b (e.pf a f) e:=⟨by rw[Sf ht d c],by rw[Sf ht d c],rfl,rfl⟩
def PE.ew{c:gY}{e b:Int}{d:fa->fa}(f:∀a,c.fI[e.toNat]? =some a->decide ((d a).jg=b)=decide (a.jg=b))(g:∀a,c.fI[e.toNat]? =some a->decide (b∈(d a).fO)=decide (b∈a.fO)):PE b (c.pO e d) c:=
 ⟨rfl,rfl,BT f,BT g⟩
def Nq{b:gY}{a:Int}{c:fa}(d:ju a b.fI.length=true)(e:b.fI[a.toNat]? =some c):kl b a=c:=by
 unfold kl qB;rw[au (fQ.1 d).1,e];rfl
def yO{a:List Int}{c b:Int}:b∈m6 a c↔b∈a\/b=c:=by
 induction a with
 |nil=>simp[m6]
 |cons e a d=>unfold m6;grind
def Ka{a wk:Int}{b:List ei}(c:¬ji a b 0=[]):xW a wk b∈ji a b 0:=by
 unfold xW;split
 ·assumption
 ·cases d:ji a b 0 with
  |nil=>exact absurd d c
  |cons e f=>simp
def Kb{g:Int}:∀{b:List ei} {c:Nat} {d:Int},d∈ji g b c->∃a:Nat,d=(c+a:Nat)/\∃e,b[a]? =some e/\e.je=3:=by
 intro b;induction b with
 |nil=>intro c d h;simp[ji]at h
 |cons e b l=>
  intro c d h;have i:d∈ji g b (c+1)->∃a:Nat,d=(c+a:Nat)/\∃f,(e::b)[a]? =some f/\f.je=3:=λh=>by
   obtain⟨a,n,f,j,k⟩:=l h;exact⟨a+1,B,f,by simpa using j,k⟩
  unfold ji at h;split at h
  ·rename_i m;rcases List.mem_cons.1 h with h|h
   ·exact⟨0,B,e,G,m.1⟩
   ·exact i h
  ·exact i h
def Pz{a:fy}{c:gY}{b:Int}(d:mK a c=true)(g:ju b a.iL.length=true):ju ((qB a.iL b).getD default).kU c.fI.length=true/\pT a c b=kl c ((qB a.iL b).getD default).kU:=by
 have⟨h,e,f⟩:=jn g;refine⟨?_,rfl⟩;rw[f,(kY d).1];exact r7 d e
def PE.other{p:fy}{d:gY}{o f u j wk:Int}(m:iV p d o u j=true)(t:ju f p.ee.length=true)(i:o≠f):PE f (fZ p d o u j wk).1 d:=by
 unfold iV at m;simp only[az]at m;obtain⟨⟨⟨r,ht⟩,k⟩,b⟩:=m;have hl:=kY r;have e:=(fQ.1 t).1;have t0:=(fQ.1 ht).1;have h:ju f d.ee.length=true:=by rw[hl.2.2];exact t
 have lk:∀l:Int,∀a,ju l d.fI.length=true->d.fI[l.toNat]? =some a->kl d l=a:=λl a q n=>Nq q n;rcases qr k with rfl|rfl|rfl|rfl|rfl|rfl|rfl|rfl|rfl|hk|hk|hk|hk
 ·exact PE.Ha t0 e i
 ·exact PE.Ha t0 e i
 ·exact PE.refl _ _
 ·exact PE.refl _ _
 ·exact PE.refl _ _
 ·exact⟨rfl,rfl,rfl,rfl⟩
 ·exact⟨rfl,rfl,rfl,rfl⟩
 ·exact PE.Ha t0 e i
 ·exact PE.Ha t0 e i
 ·have s:=kJ k hk;rw[<-hl.1]at s;rcases hk with rfl|rfl|rfl|rfl|rfl|rfl
  all_goals
   simp only[vd,fZ]at b|-;simp at b|-;refine PE.ew (λa c=>?_) λa c=>?_
   all_goals
    have b:=lk j a s c▸b
    first
     |rfl
     |(simp[yO];done)
     |(simp[yO];grind)
 ·have y:=mZ k hk;obtain⟨v,w⟩:=Pz r y;rcases hk with rfl|rfl|rfl|rfl
  ·simp only[vd,fZ]at b|-;simp at b|-;refine(PE.Ha t0 e i).trans (PE.ew (λa c=>?_) λa c=>rfl);rw[w,lk _ a v c]at b;simp;grind
  ·simp only[vd,fZ]at b|-;simp at b|-;refine(PE.Ha t0 e i).trans (PE.ew (λa c=>?_) λa c=>rfl);rw[w,lk _ a v c]at b;simp;grind
  ·simp only[fZ];simp;split
   ·exact PE.refl _ _
   ·rename_i A;obtain⟨D,q,a,n,x⟩:=Kb (Ka (wk:=wk) A);by_cases g:xW j wk d.ee=f
    ·rw[g];have c:j2 d f=a:=by
      simp only[j2,qB,au e];rw[show f.toNat=D by omega,n];rfl
     exact⟨by rw[xa h];simp[kV,c,x,XS],by rw[xa h];rfl,rfl,rfl⟩
    ·exact PE.Ha B e g
  ·simp only[fZ];simp;refine⟨?_,?_,rfl,rfl⟩
   ·rw[Em h];split
    ·rename_i g;simp[kV,g.1,XS]
    ·rfl
   ·rw[Em h];split<;>rfl
 ·rcases hk with rfl|rfl
  ·simp only[vd,fZ]at b|-;simp at b|-;have z:=rR k (.inl rfl);by_cases g:j=f
   ·subst g;exact⟨by rw[xa h];simp[kV,b,XS],by rw[xa h];rfl,rfl,rfl⟩
   ·exact PE.Ha (fQ.1 z).1 e g
  ·exact PE.refl _ _
 ·rcases hk with rfl|rfl
  ·exact⟨rfl,rfl,rfl,rfl⟩
  ·exact PE.refl _ _
def vN{e d:gY}{b i:Int}{f g:fa->fa}{A Bq:Bool->Bool}(c:PE b e d)(h:∀a,decide ((f a).jg=b)=A (decide (a.jg=b)))(j:∀a,decide ((g a).jg=b)=A (decide (a.jg=b)))(k:∀a,decide (b∈(f a).fO)=Bq (decide (b∈a.fO)))(l:∀a,decide (b∈(g a).fO)=Bq (decide (b∈a.fO))):PE b (e.pO i f) (d.pO i g):=by
 refine⟨c.cl,c.am,?_,?_⟩
 ·show(e.fI.modify _ f).map _=(d.fI.modify _ g).map _;rw[un (F:=A) h,un (F:=A) j,c.ow]
 ·show(e.fI.modify _ f).map _=(d.fI.modify _ g).map _;rw[un (F:=Bq) k,un (F:=Bq) l,c.rd]
def Bi{e d:gY}{a:Int}{f:ei->ei}{F:Int->Int}{A:Bool->Bool}(i:ju a e.ee.length=true)(hr:ju a d.ee.length=true)(c:PE a e d)(g:∀b,XS (f b).je=F (XS b.je))(h:∀b,(f b).atomic=A b.atomic):PE a (e.pf a f) (d.pf a f):=
 ⟨by rw[xa i,xa hr,g,g,c.cl],by rw[xa i,xa hr,h,h,c.am],c.ow,c.rd⟩
def PE.H8{j:fy}{c:gY}{a d i wk:Int}(e:iV j c a d i=true)(m:d=18\/d=19\/d=20):PE a (fZ j c a d i wk).1 c:=by
 unfold iV at e;simp only[az]at e;obtain⟨⟨⟨l,ht⟩,n⟩,b⟩:=e;have g:=(fQ.1 ht).1;have h:ju a c.ee.length=true:=by rw[(kY l).2.2];exact ht
 have k:(j2 c a).je=2:=by
  unfold vd at b;rw[Z B,Z B]at b;by_cases f:(j2 c a).je=2
  ·exact f
  ·rw[au f]at b;simp at b
 rcases m with rfl|rfl|rfl
 ·simp only[fZ];simp;split
  ·exact PE.refl _ _
  ·rename_i o;obtain⟨p,s,r,q,t⟩:=Kb (Ka (wk:=wk) o);refine PE.Ha B g λf=>?_;rw[show j2 c a=r by simp only[j2,qB,au g];rw[show a.toNat=p by omega,q];rfl]at k;omega
 ·simp only[fZ];simp;exact⟨by rw[Em h,Z B],by rw[Em h,Z B],rfl,rfl⟩
 ·simp only[vd,fZ]at b|-;simp at b|-;exact PE.Ha (fQ.1 (rR n (.inl rfl))).1 g b.2.1
def PE.own{e:fy}{k j:gY}{b n d wk wk':Int}(l:iV e k b n d=true)(m:iV e j b n d=true)(a:PE b k j):PE b (fZ e k b n d wk).1 (fZ e j b n d wk').1:=by
 have p:=l;have q:=m;unfold iV at l m;simp only[az]at l m;have⟨⟨⟨u,ht⟩,x⟩,y⟩:=id l;have⟨⟨⟨v,_⟩,_⟩,z⟩:=id m;have hl:=kY u;have w:=kY v;have D:=(fQ.1 ht).1;have h:ju b k.ee.length=true:=by rw[hl.2.2];exact ht
 have hr:ju b j.ee.length=true:=by rw[w.2.2];exact ht
 have t:∀o:Int,PE b (k.pf b (kV o)) (j.pf b (kV o)):=λo=>Bi (F:=λ_=>XS o) (A:=id) h hr a (λ_=>rfl) λ_=>rfl;rcases qr x with rfl|rfl|rfl|rfl|rfl|rfl|rfl|rfl|rfl|hk|hk|hk|hk
 ·exact t 2
 ·exact t 5
 ·exact a
 ·exact a
 ·exact a
 ·exact⟨a.cl,a.am,a.ow,a.rd⟩
 ·exact⟨a.cl,a.am,a.ow,a.rd⟩
 ·exact Bi (F:=id) (A:=λ_=>true) h hr a (λ_=>rfl) λ_=>rfl
 ·exact Bi (F:=id) (A:=λ_=>false) h hr a (λ_=>rfl) λ_=>rfl
 ·rcases hk with rfl|rfl|rfl|rfl|rfl|rfl
  ·exact vN (A:=λ_=>true) (Bq:=id) a G G G G
  ·exact vN (A:=λ_=>false) (Bq:=id) a dR dR G G
  ·exact vN (A:=id) (Bq:=λ_=>true) a G G (by simp[yO]) (by simp[yO])
  ·exact vN (A:=id) (Bq:=λ_=>false) a G G G G
  ·exact vN (A:=λ_=>true) (Bq:=id) a G G G G
  ·exact vN (A:=λ_=>false) (Bq:=id) a dR dR G G
 ·rcases hk with rfl|rfl|rfl|rfl
  ·have r:=vN (i:=((qB e.iL d).getD default).kU) (f:=λc=>{c with jg:=-1}) (g:=λc=>{c with jg:=-1}) (A:=λ_=>false) (Bq:=id) a dR dR G G;exact Bi (f:=λs=>{s with je:=3,cond:=d}) (F:=λ_=>3) (A:=id) (by simpa[gY.pO]using h) (by simpa[gY.pO]using hr) r (λ_=>rfl) λ_=>rfl
  ·have r:=vN (i:=((qB e.iL d).getD default).kU) (f:=λc=>{c with jg:=b}) (g:=λc=>{c with jg:=b}) (A:=λ_=>true) (Bq:=id) a G G G G;exact Bi (f:=λs=>{s with je:=2,cond:=0}) (F:=λ_=>2) (A:=id) (by simpa[gY.pO]using h) (by simpa[gY.pO]using hr) r (λ_=>rfl) λ_=>rfl
  ·exact(PE.H8 p B).trans (a.trans (PE.H8 q B).symm)
  ·exact(PE.H8 p B).trans (a.trans (PE.H8 q B).symm)
 ·rcases hk with rfl|rfl
  ·exact(PE.H8 p B).trans (a.trans (PE.H8 q B).symm)
  ·exact a
 ·rcases hk with rfl|rfl
  ·exact⟨a.cl,a.am,a.ow,a.rd⟩
  ·exact a
def Nf(g:Int)(f:List Int):∀(e:List fR) (b:Nat),
 (tZ g f e b=-1/\∀a c,e[a]? =some c->c.eJ=g->((b+a:Nat):Int)∈f)\/
 ∃a c,tZ g f e b=(b+a:Nat)/\e[a]? =some c/\c.eJ=g/\((b+a:Nat):Int)∉f/\∀d h,d<a->e[d]? =some h->h.eJ=g->((b+d:Nat):Int)∈f:=by
 intro e;induction e with
 |nil=>intro b;exact .inl ⟨rfl,λa c i=>by simp at i⟩
 |cons q e u=>
  intro b;simp only[tZ];split
  ·rename_i j;exact .inr ⟨0,q,G,G,j.1,by simpa using j.2,λd h i=>by omega⟩
  ·rename_i j;have p:q.eJ=g->(b:Int)∈f:=λi=>by
    by_cases o:(b:Int)∈f
    ·exact o
    ·exact absurd ⟨i,o⟩ j
   rcases u (b+1)with⟨k,l⟩|⟨a,c,k,l,r,s,t⟩
   ·refine .inl ⟨k,λa c n ht=>?_⟩;cases a with
    |zero=>simp at n;subst n;simpa using p ht
    |succ a=>have:=l a c (by simpa using n) ht;rwa[show b+1+a=b+(a+1)by omega]at this
   ·refine .inr ⟨a+1,c,by rw[k];congr 1;omega,by simpa using l,r,by rwa[show b+1+a=b+(a+1)by omega]at s,λd h v m ht=>?_⟩;cases d with
    |zero=>simp at m;subst m;simpa using p ht
    |succ d=>have:=t d h B (by simpa using m) ht;rwa[show b+1+d=b+(d+1)by omega]at this
def qM(a:fg)(b:fT)(c:Int):Nat:=if ja a b c<0 then a.ej.length else(ja a b c).toNat
def Hf(a:fg)(b:Nat):gY:=(r9 a.fM a.ka (a.ej.take b)).gu
def rN(a:fg)(b:fT)(c:Int):qM a b c<=a.ej.length/\(∀(e:Nat) d,e<qM a b c->a.ej[e]? =some d->d.eJ=c->(e:Int)∈b.order)/\
 (0<=ja a b c->ja a b c=qM a b c/\∃d,a.ej[qM a b c]? =some d/\d.eJ=c/\((qM a b c:Nat):Int)∉b.order)/\(ja a b c<0->qM a b c=a.ej.length):=by
 have j:=Nf c b.order a.ej 0;simp only[cU]at j;unfold qM;rcases j with⟨g,f⟩|⟨e,d,g,f,l,m,n⟩
 ·have h:ja a b c=-1:=g;rw[h];exact⟨G,λe d _ i ht=>f e d i ht,B,G⟩
 ·have h:ja a b c=(e:Int):=g;have i:=(List.getElem?_eq_some_iff.1 f).1;rw[h,Z B];simp only[cG];exact⟨B,λq k p o ht=>n q k p o ht,λ_=>⟨trivial,d,f,l,m⟩,B⟩
def zh{a:fg}(d:lj a){n:Nat}{e:fR}(b:a.ej[n]? =some e):iV a.fM (Hf a n) e.eJ e.fh e.obj=true/\Hf a (n+1)=(fZ a.fM (Hf a n) e.eJ e.fh e.obj (mr e)).1:=by
 have c:=d.ok.ok b;have g:=(List.getElem?_eq_some_iff.1 b).1;refine⟨(oF c).2.2,?_⟩;unfold Hf;rw[dK,b];show(yg (λf e=>(kz a.fM f e).1) a.ka (a.ej.take n++[e])).gu=_;rw[GS];show((kz a.fM (r9 a.fM a.ka (a.ej.take n)) e).1).gu=_;rw[rD _ _ c];rfl
def Ky{d:fg}(k:lj d){f:Int}(j:ju f d.fM.ee.length=true){a:Nat}:∀b:Nat,a+b<=d.ej.length->(∀e c,a<=e->e<a+b->d.ej[e]? =some c->c.eJ≠f)->PE f (Hf d (a+b)) (Hf d a):=by
 intro b;induction b with
 |zero=>intro _ _;exact PE.refl _ _
 |succ b l=>
  intro o g;have⟨c,h⟩:∃c,d.ej[a+b]? =some c:=⟨_,aB B⟩;have⟨m,n⟩:=zh k h;rw[show a+(b+1)=a+b+1 by omega,n];exact(PE.other m j (g _ c B B h)).trans (l B λe c i p=>g e c i B)
structure Mm(w:fg)(c:fT):Prop where
 rg:∀x∈c.order,ju x w.ej.length=true
 px:∀(i j:Nat) e e',w.ej[j]? =some e->(j:Int)∈c.order->i<j->w.ej[i]? =some e'->e'.eJ=e.eJ->(i:Int)∈c.order
 pe:∀u,ju u w.fM.ee.length=true->PE u c.gu (Hf w (qM w c u))
def Mm.start{w:fg}(g:lj w):Mm w (jI w):=by
 refine⟨by simp[jI],by simp[jI],λb f=>?_⟩;have⟨k,d,_,_⟩:=rN w (jI w) b;have:=Ky g f (a:=0) (qM w (jI w) b) B λi c _ l e j=>by have:=d i c B e j;simp[jI]at this
 rw[cU]at this;exact this.symm
def Mm.go{a:fg}{b:fT}(K:lj a)(q:Mm a b){c:Int}{e:fR}(wk:Int)(P:0<=ja a b c)(l:a.ej[(ja a b c).toNat]? =some e)(s:iV a.fM b.gu c e.fh e.obj=true):Mm a (uS a b (ja a b c) e c wk):=by
 have⟨aX,N,W,a6⟩:=rN a b c;have⟨U,an,A,v,V⟩:=W P;generalize T:qM a b c=d at*
 rw[U]at l|-;simp only[cG]at l;rw[l]at A;simp only[aw]at A;subst A;have z:(uS a b d e c wk).order=b.order++[(d:Int)]:=rfl;have aE:=(List.getElem?_eq_some_iff.1 l).1;have ht:ju c a.fM.ee.length=true:=by unfold iV at s;simp only[az]at s;exact s.1.1.2
 refine⟨λx hx=>?_,λL f O j u o I k F=>?_,λg J=>?_⟩
 ·rw[z]at hx;rcases List.mem_append.1 hx with hx|hx
  ·exact q.rg x hx
  ·simp at hx;subst hx;rw[fQ];omega
 ·rw[z]at o|-;rw[dc]at*
  rcases o with o|o
  ·exact .inl (q.px L f O j u o I k F)
  ·simp at o;have:f=d:=B;subst this;rw[l]at u;simp only[aw]at u;subst u;exact .inl (N L j I k (F.trans v))
 ·have⟨t1,t2,t3,t4⟩:=rN a (uS a b d e c wk) g;have⟨a7,ab,ae,al⟩:=rN a b g;rw[z]at t2 t3;show PE g (fZ a.fM b.gu c e.fh e.obj wk).1 _;generalize qM a (uS a b d e c wk) g=i at*
  by_cases D:c=g
  ·subst D;have⟨r1,r2⟩:=zh K l;rw[v]at r1 r2;have E:=PE.own (wk:=wk) (wk':=mr e) s r1 (T▸q.pe c ht);rw[<-r2]at E;have aN:d+1<=i:=by
    rcases aT d i with h|h
    ·exact h
    ·exfalso;by_cases t:ja a (uS a b d e c wk) c<0
     ·have:=t4 t;omega
     ·have⟨_,r,m,n,p⟩:=t3 B;have S:((i:Nat):Int)∉b.order/\i≠d:=by
       constructor
       ·intro y;exact p (List.mem_append.2 (.inl y))
       ·intro y;exact p (List.mem_append.2 (.inr (by simp[y])))
      exact S.1 (N i r B m n)
   have⟨w,R⟩:∃w,i=d+1+w:=⟨i-(d+1),B⟩;rw[R];refine E.trans (Ky K ht w B λf j ap av k H=>?_).symm;have:=t2 f j B k H;rcases List.mem_append.1 this with y|y
   ·exact V (q.px d f j e k y B l (by rw[H];exact v))
   ·simp at y;omega
  ·have Z:i=qM a b g:=by
    have M:∀(f:Nat) (j:fR),a.ej[f]? =some j->j.eJ=g->((f:Int)∈b.order++[(d:Int)]↔(f:Int)∈b.order):=λf j k Q=>by
     constructor
     ·intro y;rcases List.mem_append.1 y with y|y
      ·exact y
      ·simp at y;have:f=d:=B;subst this;rw[l]at k;simp only[aw]at k;subst k;exact absurd (v.symm.trans Q) D
     ·intro y;exact List.mem_append.2 (.inl y)
    generalize aA:qM a b g=p2 at*
    rcases dG i p2 with h|h|h
    ·exfalso;by_cases t:ja a (uS a b d e c wk) g<0
     ·have:=t4 t;omega
     ·have⟨_,r,m,n,p⟩:=t3 B;exact p ((M _ _ m n).2 (ab i r h m n))
    ·exact h
    ·exfalso;by_cases t:ja a b g<0
     ·have:=al t;omega
     ·have⟨_,r,m,n,p⟩:=ae B;exact p ((M _ _ m n).1 (t2 p2 r h m n))
   rw[Z];exact(PE.other s J D).trans (q.pe g J)
def Zz(e:fy)(c:gY)(d b a:Int):List Int:=
 if b=6\/b=8 then [(kl c a).jg]else if b=10 then(kl c a).jg::(kl c a).fO
 else if b=17 then [(pT e c a).jg]else if b=21 then(if a≠d/\(j2 c a).je≠5 then [a]else [])else []
def PE.lk{b a:Int}{d c:gY}(f:PE b d c)(k:ju a d.fI.length=true):(decide ((kl d a).jg=b)=decide ((kl c a).jg=b))/\decide (b∈(kl d a).fO)=decide (b∈(kl c a).fO):=by
 have⟨l,i⟩:=fQ.1 k;have l1:=bL List.length f.ow;simp only[aI]at l1;have g:=bL (λe=>e[a.toNat]?) f.ow;have h:=bL (λe=>e[a.toNat]?) f.rd;have j:a.toNat<c.fI.length:=B;simp only[aR,aB i,aB j,dj,aw]at g h;simp only[kl,qB,au l,aB i,aB j,dB];exact⟨g,h⟩
def Er{a:fg}{c:fT}(j:lj a){t:Int}(i:0<=ja a c t):∃b,a.ej[(ja a c t).toNat]? =some b/\b.eJ=t/\kS a.ej (ja a c t)=b/\a.gx.e (ja a c t)=b/\ja a c t=qM a c t/\a.gx.s (ja a c t)=Hf a (qM a c t)/\ju (ja a c t) a.ej.length=true/\j8 a.fM b.fh b.obj=true:=by
 have⟨_,_,m,_⟩:=rN a c t;have⟨n,b,h,o,_⟩:=m i;have g:ju (ja a c t) a.ej.length=true:=rQ B;have⟨p,f,_,k,_,l⟩:=j.at g;have d:(ja a c t).toNat=qM a c t:=B;rw[d,h]at f;simp only[aw]at f;subst f;refine⟨b,by rw[d];exact h,o,ny i (by rw[d];exact h),k,n,?_,g,l⟩;rw[(j.ok.s g).1,d];rfl
def Mm.step{b:fg}{c:fT}(g:lj b)(h:Mm b c){d:iv}(a:jk b c d.eJ=true):Mm b (mF b c d).1:=by
 unfold mF;rw[au a];unfold jk at a;split at a
 ·simp at a
 ·rename_i k;have f:0<=ja b c d.eJ:=B;obtain⟨j,i,_,e,_⟩:=Er g f;rw[az,e]at a;rw[e];exact h.go g _ f i a.1
def Mm.walk{a:fg}(f:lj a):∀(g:List Int) (c:List iv) (b:fT),Mm a b->Mm a (ml a g c b).2:=Bf λ_ _ d e=>d.step f e
def IH{b:fg}{c:fT}{a:iv}(i:lj b)(e:jk b c a.eJ=true):∃d,kS b.ej (ja b c a.eJ)=d/\d.eJ=a.eJ/\iV b.fM c.gu a.eJ d.fh d.obj=true/\(mF b c a).1=uS b c (ja b c a.eJ) d a.eJ a.ry:=by
 unfold mF;rw[au e];have h:0<=ja b c a.eJ:=by
  unfold jk at e;split at e
  ·simp at e
  ·omega
 have⟨d,j,g,f,_⟩:=Er i h;unfold jk at e;rw[Z B,f,az]at e;exact⟨d,f,g,e.1,by rw[f]⟩
def R0{w:fg}:∀(c:List Int) (b:List iv) (a:fT),∃d,(ml w c b a).1=b++d/\d.length<=c.length/\Bm w d a=some (ml w c b a).2:=by
 intro c;induction c with
 |nil=>intro b a;exact⟨[],by simp[ml],G,rfl⟩
 |cons e c h=>
  intro b a;simp only[ml];split
  ·exact⟨[],G,G,rfl⟩
  ·rename_i f;have g:=Gz e f;obtain⟨d,i,k,j⟩:=h (b++[(nc w a w.fM.ee.length).getD (e% ((nc w a w.fM.ee.length).length:Int)).toNat default]) (mF w a ((nc w a w.fM.ee.length).getD (e% ((nc w a w.fM.ee.length).length:Int)).toNat default)).1;refine⟨_::d,by rw[i,bj];rfl,by simp only[aQ];omega,?_⟩;unfold Bm;rw[au g];exact j
end
noncomputable section
open Go Go.TI Tryz
attribute [-simp] List.map_take List.map_drop List.map_append ij gG fK Bool.not_or Bool.not_and
attribute [simp] ig gJ
section
attribute [-simp] size_cons List.map_map
abbrev Fe{f:Type}(b:f->T)(g:∀d e,b d=b e->d=e):iK:=⟨List f,λa=>[sl (a.map b)],λa=>a.length<=1000000,λa=>sl (a.map b),λh i c=>by simp at c;rw[jV g c]⟩
def T8{e:Type}{a:e->T}{v:∀c m,a c=a m->c=m}{d:Nat}{h:ak}(x:(km Mo (uI d) (qK d)).Ok prog cx h)(o:∀c,(a c).cells.length=d)(p:∀b:List e,nK [sl (b.map a)]=true)(q:∀j l (b:List e),Gr j l d (b.map a)->TI.rZ j l=some (sl (b.map a))):(Fe a v).Ok prog cx h:=by
 rintro(b:List e) hl;have k:uI d ⟨sl (b.map a),b.map a⟩ [sl (b.map a)] ⟨0,0,[]⟩:=⟨rfl,G,λD t=>by obtain⟨c,_,rfl⟩:=List.mem_map.1 t;exact o c,by simpa using hl,⟨rfl,ax _,ax _⟩⟩;have⟨y,n,u,s⟩:=x [sl (b.map a)] ⟨0,0,[]⟩ ⟨_,k⟩;have⟨i,w,_⟩:=u _ k;have⟨z,f,g⟩:=eg.1 (q _ _ _ i);simp only[aw]at g;have f:jX n 0 y=some z:=by rcases i with⟨rfl,_⟩|⟨_,_,_,_,_,rfl,_⟩<;>exact f
 have:=GE s w.ok.hp (ay _) (λA c r=>by simp at r) f;rw[g]at this;exact Fk (mD _ (p b)) G this
def AH:iK:=⟨List Int,λa=>[sl (iz a)],λa=>a.length<=1000000,λa=>sl ((a.map λc=>(⟨c,true⟩:im)).map im.t),λd e b=>by simp at b;rw[jV (λ_ _ b=>by simpa using b) b]⟩
def WL:AH.Ok prog cx 55:=by
 refine iF [] (jF 7725 [] func55) (λ_=>1000005) (by simp[AH]) ?_;rintro(a:List Int) hl c n;simp[AH]at hl n|-;simp[f55,n,show a.length*16<=70368744177664 by omega];refine ik a.length B (λg c e=>∃b,Gr e b 2 (((a.take g).map λb=>(⟨b,true⟩:im)).map im.t)/\iQ 0 e/\Y c 3 b/\Y c 9 (sl (iz a))/\Y c 10 (C a.length)/\Y c 11 (C g)) ?_ ?_ B ?_
 ·rintro g c e o q ⟨b,d,k,j,m,h,i⟩;have⟨s,r,p,l⟩:=d.m9 (cx:=cx) (f:=im.t) k A2 rfl Cg rfl G (λ_=>rfl) ⟨a[g],true⟩ dR;simp[j,m,h,i,o,p,q];exact⟨by rw[aP o,List.map_append];exact l.1,⟨l.2.2.2.hp,l.2.2.2.low,ay _⟩⟩
 ·rintro c e ⟨b,d,k,j,m,h,i⟩;rw[aL]at d;simp[j,h,i,k.hp];rw[NG b d.jc,d.rZ G]
 ·exact⟨.arr 0 0 0 0 false,.inr ⟨0,0,0,decide (0=a.length),[],G,G,G⟩,⟨G,G,G⟩,G⟩
def U8{b:io}(ht:b.p 55=some AH)(a:List Int)(hl:a.length<=1000000):rl prog cx b 55 [sl (iz a)]=some (sl ((a.map λc=>(⟨c,true⟩:im)).map im.t)):=iN ht WL a hl
def CL:iK:=⟨fg×fT,λa=>[a.1.t,a.2.t],λa=>True,λa=> .ez (decide (a.2.cells.length=a.1.fM.cells.length)&&decide (a.2.fH.length=a.1.fM.fH.length)&&decide (a.2.fixed.length=a.1.ej.length)&&decide (a.2.qA.length=a.1.ej.length)),λa c b=>by simp at b;rw[show a=c from aD (fg.inj b.1) (fT.inj b.2)]⟩
def WQ:CL.Ok prog cx 56:=by
 refine iF [] (jF 31 [] func56) (λ_=>5) (by simp[CL]) ?_;rintro⟨f,d⟩ _ e a;simp[CL]at a|-;obtain⟨b,c⟩:=a;simp[f56,b,c,Int.natCast_inj]
def abH{c:io}(ht:c.p 56=some CL)(b:fg)(a:fT):rl prog cx c 56 [b.t,a.t]=some (.ez (decide (a.cells.length=b.fM.cells.length)&&decide (a.fH.length=b.fM.fH.length)&&decide (a.fixed.length=b.ej.length)&&decide (a.qA.length=b.ej.length))):=iN ht WQ (b,a) trivial
def CM:iK:=⟨gY,λa=>[a.t],λa=>a.fI.length<=1000000/\a.done.length<=1000000/\a.ee.length<=1000000/\∀c∈a.fI,c.fO.length<=1000000,λa=>a.t,λd e b=>by simp at b;rw[gY.inj b]⟩
def WW:CM.Ok prog cx 54:=by
 have Z:(Fe (T.int .i64) (λ_ _ h=>by simpa using h)).Ok prog cx 62:=T8 BO (λ_=>rfl) (λ_=>by simp) (λ_ _ _ d=>d.rZ G);have W:(Fe T.ez (λ_ _ h=>by simpa using h)).Ok prog cx 61:=T8 FI (λ_=>rfl) (λ_=>by simp) (λ_ _ _ d=>d.rZ G);have ab:(Fe ei.t (λ_ _ h=>ei.inj h)).Ok prog cx 97:=T8 K0 (λ_=>rfl) (λ_=>by simp) (λ_ _ _ d=>d.rZ G);refine iF [(62,Fe (T.int .i64) (λ_ _ h=>by simpa using h)),(61,Fe T.ez (λ_ _ h=>by simpa using h)),(97,Fe ei.t (λ_ _ h=>ei.inj h))] (jF 983087 [(1,[(1,4),(4,6),(1,7),(4,9),(7,9)]),(5,[(1,6),(3,6)])] func54) (λ_=>1000005) (by simp[CM]) ?_;rintro(a:gY) ⟨hl,Q,S,hr⟩ g D;simp[CM]at D|-;have N:=λ{i:io} (ht:i.p 62=some (Fe (T.int .i64) (λ_ _ h=>by simpa using h))) (e:List Int) (h:e.length<=1000000)=>iN ht Z e h;have L:=λ{i:io} (ht:i.p 61=some (Fe T.ez (λ_ _ h=>by simpa using h)))=>iN ht W a.done Q;have eT:=λ{i:io} (ht:i.p 97=some (Fe ei.t (λ_ _ h=>ei.inj h)))=>iN ht ab a.ee S;simp[f54,D,L,eT];refine ik a.fI.length B (λc g h=>∃j ver,oJ h 2 4 ver [(j,some (2,(a.fI.take c).map fa.t)),(C a.tx,none),(sl (a.done.map T.ez),none),(sl (a.ee.map ei.t),none)]/\Lb 2 h 1 uC/\Y g 2 (.fc 1 0 0 0)/\Y g 3 (.fc 2 0 0 0)/\Y g 16 (sl (a.fI.map fa.t))/\Y g 17 (C a.fI.length)/\Y g 18 (C c)) ?_ ?_ B ?_
 ·rintro c g h o P ⟨j,ver,b,l1,m,n,A,k,l⟩;have R:=hr a.fI[c] (aG o);have K:a.fI.take (c+1)=a.fI.take c++[a.fI[c]]:=aP o;have x:=λ{i:io} (ht:i.p 62=some (Fe (T.int .i64) (λ_ _ h=>by simpa using h)))=>N ht a.fI[c].fO R;have⟨e,E⟩:∃e,e=a.fI[c]:=⟨_,rfl⟩;rw[<-E]at K x;have U:(2=h.size)=False:=by have:=b.lt;simp;omega
  have r:=b.cons (X 2 1 [e.t]);have av:=Step.cons b.ok b.lt (X 2 1 [e.t]);have⟨aN,aA,v,s⟩:=(r.gr 0 rfl).m9 (cx:=cx) (f:=fa.t) r.ok JA rfl Jy rfl G (λ_=>rfl) e dR;rw[size_cons]at v;have⟨H,aE,ae⟩:=r.app 0 rfl s;have⟨J,I⟩:=ae _ rfl;have y:=b.get;simp only[aO,bF,cz]at H J I y;simp[m,n,A,k,l,o,b.ok.low,<-E,U,x,y,v,H,fG,s.1.jc,s.1.cells,P];exact⟨⟨_,_,by rw[K];exact I⟩,(l1.step av).step J⟩
 ·rintro g h ⟨j,ver,b,l1,m,n,A,k,l⟩;rw[aL]at b;have d:=b.get;simp only[aO,bF]at d;have u:=l1.get;unfold uC at u;have ap:=b.qJ l1 (X 4 1 [.eZ [j,C a.tx,sl (a.done.map T.ez),sl (a.ee.map ei.t)]]);have O:=(eG l1.get (X 4 1 [.eZ [j,C a.tx,sl (a.done.map T.ez),sl (a.ee.map ei.t)]]) 1).trans (au rfl);have z:=(ap.gr 0 rfl).fz G;simp[m,n,k,l,d,u,fG,O,z,b.ok.hp]
 ·have⟨al,an⟩:=oJ.start (h:=(((hE.cons (X 4 0 [a.t])).cons uC).cons (X 4 1 [.eZ [dV,C a.tx,sl (a.done.map T.ez),sl (a.ee.map ei.t)]]))) (w:=2) (szw:=4) (ver:=1) (F:=[(dV,some (2,[])),(C a.tx,none),(sl (a.done.map T.ez),none),(sl (a.ee.map ei.t),none)]) (by exact⟨rfl,G,G⟩) G G;exact⟨_,1,al,⟨by simp[uC],λq=>by have:=an _ q;omega⟩,G⟩
def abJ{b:io}(ht:b.p 54=some CM)(a:gY)(c:a.fI.length<=1000000/\a.done.length<=1000000/\a.ee.length<=1000000/\∀d∈a.fI,d.fO.length<=1000000):rl prog cx b 54 [a.t]=some a.t:=iN ht WW a c
def Bu:iK:=⟨fg,λa=>[a.t],λa=>lj a,λa=>(jI a).t,λc d b=>by simp at b;rw[fg.inj b]⟩
def TB:Bu.Ok prog cx 23:=by
 refine iF [(54,CM),(55,AH)] (jF 7 [(1,[(3,6),(3,10),(7,10),(3,13),(7,13),(11,13),(3,15),(7,15),(11,15),(3,17),(7,17),(11,17),(3,19),(7,19),(11,19)])] func23) (λ_=>20) (by simp[Bu]) ?_;rintro(a:fg) e w g;simp[Bu]at g|-;have⟨l1,l2,l3,l4,l5,l6⟩:=e.sm.l;have v:=e.ok.len;have i:a.ej.length<=70368744177664:=B;have j:a.ej.length*8<=70368744177664:=B;have m:=λ{d:io} (ht:d.p 54=some CM)=>abJ ht a.ka.gu ⟨B,B,B,λq c=>by have:=e.sm.r q c;omega⟩;have n:=λ{d:io} (ht:d.p 55=some AH)=>U8 ht a.ka.cells B;have o:=λ{d:io} (ht:d.p 55=some AH)=>U8 ht a.ka.fH B;have k:jI a=⟨a.ka.gu,a.ka.cells.map λf=>⟨f,true⟩,a.ka.fH.map λf=>⟨f,true⟩,[],List.replicate a.ej.length false,List.replicate a.ej.length 0⟩:=rfl;rw[k];have s:∀h:H,h.get 2=some ⟨1,0,0,true,false,List.replicate a.ej.length (T.ez false)⟩->TI.fz h (.arr 2 0 0 a.ej.length false)=some (sl ((List.replicate a.ej.length false).map T.ez)):=λh c=>by
  have:=(Gr.new (h:=h) (b:=2) (sz:=1) (ep:=0) (es:=(List.replicate a.ej.length false).map T.ez) (by simpa using c)).fz G;simpa using this
 have u:∀h:H,h.get 3=some ⟨1,0,0,true,false,List.replicate a.ej.length (T.int .i64 0)⟩->TI.fz h (.arr 3 0 0 a.ej.length false)=some (sl ((List.replicate a.ej.length (0:Int)).map (T.int .i64))):=λh c=>by
  have:=(Gr.new (h:=h) (b:=3) (sz:=1) (ep:=0) (es:=(List.replicate a.ej.length (0:Int)).map (T.int .i64)) (by simpa using c)).fz G;simpa using this
 simp[f23,g,m,n,o,i,j,s,u,-xE];unfold fT.t fT.cs;simp
def XY{b:io}(ht:b.p 23=some Bu)(a:fg)(c:lj a):rl prog cx b 23 [a.t]=some (jI a).t:=iN ht TB a c
