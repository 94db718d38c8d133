/- S22b -/
import Derived.Test.YtalknpnbaceflaaGreatDoorA33
set_option linter.all false
set_option maxRecDepth 100000
set_option maxHeartbeats 0
namespace Go.Proofs.YtalknpnbaceflaaGreatDoor
noncomputable section
open Go Go.TI
def QL{c:Int}:∀{a:List Int} {b:Nat},c∈a->nJ a c b<b+a.length:=by
 intro a;induction a with
 |nil=>simp
 |cons f a d=>intro b e;unfold nJ;have:= @d (b+1);grind
def Ft{c d:Int}:∀{a:List Int} {b:Nat},nJ (a++[d]) c b=if c∈a then nJ a c b else if d=c then((b+a.length:Nat):Int)else-1:=by
 intro a;induction a with
 |nil=>intro b;simp[nJ]
 |cons f a e=>intro b;simp only[cJ,nJ,e,ci,aQ];grind
structure PlI(w:fg)(c:fT):Prop where
 I:Mm w c
 pl:∀(i j:Nat) e e',w.ej[i]? =some e->w.ej[j]? =some e'->i<j->e.eJ=e'.eJ->(j:Int)∈c.order->place c i<place c j
def PlI.walk{a:fg}(k:lj a)(q:List Int):PlI a (ml a q [] (jI a)).2:=Bf (I:=PlI a) (λb c f n=>by
 have e:=f.I.step k n;have⟨r,u,_,_,s⟩:=IH k n;rw[s]at e|-;refine⟨e,λd l g h m i p ht j=>?_⟩;have t:(uS a b (ja a b c.eJ) r c.eJ c.ry).order=b.order++[ja a b c.eJ]:=rfl;have o:=e.px d l h g i j p m ht;unfold place;rw[t]at o j|-;rw[Ft,Ft];have:=f.pl d l g h m i p ht;unfold place at this;have v:= @QL (d:Int) b.order 0;have w:=f.I.px d l h g i;simp only[dc,List.mem_singleton]at o j
 grind) q [] (jI a) ⟨Mm.start k,by simp[jI]⟩
def w8{s:gY}{h c:Int}{e:ei->ei}(g:∀d,d.atomic=true->(e d).atomic=true)(a:(j2 s c).atomic=true):(j2 (s.pf h e) c).atomic=true:=by
 unfold j2 qB at*
 simp only[gY.pf,cZ];split at a
 ·rename_i b;rw[au b];cases f:s.ee[c.toNat]? with
  |none=>rw[f]at a;exact a
  |some d=>rw[f]at a;simp at a|-;split<;>simp[a,g]
 ·rename_i b;rw[Z b];exact a
def RX(b:Int)(a:gY×Int):Prop:=(j2 a.1 b).atomic=true
def Oe{i:fy}{s:gY}{h e g j b:Int}(f:e≠15)(a:(j2 s b).atomic=true):(j2 (fZ i s h e g j).1 b).atomic=true:=by
 show RX b _;unfold fZ;refine nL (RX b) (λ_=>w8 (λ_ c=>c) a) λ_=>?_;refine nL (RX b) (λ_=>w8 (λ_ c=>c) a) λ_=>?_
 iterate 6 refine nL (RX b) (λ_=>a) λ_=>?_
 refine nL (RX b) (λ_=>w8 (λ_ _=>rfl) a) λ_=>?_;rw[Z f]
 iterate 2 refine nL (RX b) (λ_=>w8 (s:=s.pO _ _) (λ_ c=>c) a) λ_=>?_
 refine nL (RX b) (λ_=>nL (RX b) (λ_=>a) λ_=>w8 (λ_ c=>c) a) λ_=>?_;refine nL (RX b) (λ_=>?_) λ_=>?_
 ·unfold RX j2 qB at*
  split at a
  ·rename_i d;rw[au d];simp only[aR];cases c:s.ee[b.toNat]? with
   |none=>rw[c]at a;exact a
   |some k=>rw[c]at a;simp at a|-;split<;>simp[a,kV]
  ·rename_i d;rw[Z d];exact a
 refine nL (RX b) (λ_=>w8 (λ_ c=>c) a) λ_=>?_;exact nL (RX b) (λ_=>a) λ_=>a
def RI{d:fg}(m:lj d){f:Int}(ht:ju f d.fM.ee.length=true){c:Nat}(k:(j2 (Hf d c) f).atomic=true):∀a:Nat,c+a<=d.ej.length->(∀e b,c<=e->e<c+a->d.ej[e]? =some b->GX.Ec f b=true)->(j2 (Hf d (c+a)) f).atomic=true:=by
 intro a;induction a with
 |zero=>intro _ _;exact k
 |succ a n=>
  intro q h;have⟨b,i⟩:∃b,d.ej[c+a]? =some b:=⟨_,aB B⟩;have⟨o,p⟩:=zh m i;have:=n B λe b l r=>h e b l B;rw[show c+(a+1)=c+a+1 by omega,p];by_cases j:b.eJ=f
  ·have g:=h _ b B B i;unfold GX.Ec at g;simp[j]at g;exact Oe g this
  ·rw[(PE.other o ht j).am];exact this
def JS{f:fg}{g:fT}{e:jm}(i:lj f)(w:PlI f g)(z:e.fh=4)(h:f.gx.vR e=true)(hr:mH f g e=true):
 0<=place g e.a/\place g e.a<place g e.c/\place g e.c<=place g e.d/\place g e.b<0/\(j2 g.gu (kS f.ej e.a).eJ).atomic=true:=by
 unfold mH at hr;unfold GX.vR GX.Vj at h;rw[Z B,Z B,Z B,au z]at hr;rw[Z B]at h;by_cases m:(f.gx.zJ e.a&&f.gx.zJ e.b&&f.gx.zJ e.c&&f.gx.zJ e.d)=true;rotate_left
 ·rw[Z m]at h;simp at h
 rw[au m,Z B,Z B,au z]at h;simp only[az,GX.zJ]at m;obtain⟨⟨⟨n,r⟩,t⟩,q⟩:=m;simp only[az,aM]at h hr;obtain⟨_,⟨⟨⟨⟨⟨⟨⟨aE,aN⟩,v⟩,E⟩,_⟩,_⟩,_⟩,l⟩,x⟩:=h;obtain⟨⟨⟨al,an⟩,ae⟩,k⟩:=hr;have y:f.gx.ev=f.ej:=rfl;rw[y]at n r t q;unfold yu IM at k;simp only[az,aM]at k;have⟨H,Q,_,p,A,_⟩:=i.at n;have⟨o,R,_,N,bg,_⟩:=i.at r;have⟨J,S,_,O,_,_⟩:=i.at t;have⟨K,T,_,P,_,_⟩:=i.at q;have W:=fQ.1 n;have ab:=fQ.1 r;have a7:=fQ.1 t;have a8:=fQ.1 q;rw[p,N]at v;rw[O,P]at E;have L:=ny W.1 Q;have M:=ny ab.1 R;rw[M]at k;rw[L];have V:0<=ja f g o.eJ:=by rw[k.2.1];omega
 have⟨_,_,D,_⟩:=rN f g o.eJ;have⟨p1,bi,av,aA,p4⟩:=D V;clear av aA D;rw[<-p1,k.2.1]at p4;refine⟨al,an,?_,?_,?_⟩
 ·by_cases u:e.c=e.d
  ·rw[u];exact Int.le_refl _
  ·have:=w.pl e.c.toNat e.d.toNat J K S T B E (by rw[show((e.d.toNat:Nat):Int)=e.d by omega];exact ae);rw[show((e.d.toNat:Nat):Int)=e.d by omega,show((e.c.toNat:Nat):Int)=e.c by omega]at this;omega
 ·have:¬0<=place g e.b:=λu=>p4 (Fs.1 u);omega
 ·have ap:=(w.I.pe H.eJ A).am;rw[ap,v,show qM f g o.eJ=e.a.toNat+(e.b.toNat-e.a.toNat)by omega,<-v];rw[p,(i.ok.s n).1]at x;refine RI i A x _ B λj F aX a6 U=>?_;unfold GX.X2 at l;rw[cg]at l;rw[p,y]at l;refine l F (List.mem_iff_getElem?.2 ⟨j-e.a.toNat,?_⟩);rw[cD,au B,bU,<-U];congr 1;omega
end
noncomputable section
open Go Go.TI Tryz
attribute [-simp] List.map_take List.map_drop List.map_append ij gG fK Bool.not_or Bool.not_and
attribute [simp] ig gJ
section
attribute [-simp] size_cons
def CI:iK:=⟨fT×Int,λa=>[a.1.t,C a.2],λa=>a.1.order.length<=1000000,λa=> C (place a.1 a.2),λa c b=>by simp at b;rw[show a=c from aD (fT.inj b.1) b.2]⟩
def Wy:CI.Ok prog cx 14:=by
 refine iF [] (jF 525367 [] func14) (λq=>1000005) (by simp[CI]) ?_;rintro⟨f,l⟩ hl b m;simp[CI]at hl m|-;obtain⟨o,c⟩:=m;simp[f14,o];refine ik f.order.length B (λi b g=>iQ 1 g/\g.get 0=some (X 9 0 [f.t])/\Y b 1 (C l)/\Y b 2 (.fc 0 0 0 0)/\Y b 5 (C i)/\nJ (f.order.drop i) l i=place f l) ?_ ?_ B ⟨⟨G,G,G⟩,G,by simp[c,place]⟩
 ·rintro i b g n p ⟨j,e,c,h,d,a⟩;rw[aJ n]at a;simp only[nJ]at a;simp[e,c,h,d,n];refine fN (λk=>?_) (λk=>?_)
  ·rw[au (by simpa using k)]at a;simp[d,j.hp,<-a]
  ·rw[Z (by simpa using k)]at a;simp[e,c,h,d,p,j,a]
 ·rintro b g ⟨j,e,c,h,d,a⟩;rw[bR]at a;simp only[nJ]at a;simp[e,h,d,j.hp,<-a]
def abD{c:io}(ht:c.p 14=some CI)(a:fT)(b:Int)(d:a.order.length<=1000000):rl prog cx c 14 [a.t,C b]=some (C (place a b)):=iN ht Wy (a,b) d
def WJ:BA.Ok prog cx 4:=by
 refine iF [(6,FB.kc),(8,DB),(7,Dz),(9,Bv),(10,xg),(11,sq),(14,CI),(13,Ff)] (jF 20282409603651814541471789678455 [(4,[(0,2),(2,7),(3,7)]),(14,[(3,4),(3,6),(3,8),(7,8),(3,10),(7,10)])] func4) (λbi=>1000005) (by simp[BA]) ?_;rintro⟨v,l⟩ ⟨Z,U⟩ i A;simp only at Z U;simp[BA]at A|-;obtain⟨a6,T⟩:=A;simp[f4,a6,T];refine fN (λW=>?_) (λW=>?_)
 ·simp
 have⟨s,P,g,ab,H,a7,aX,aA,ap,aN,j,bs,a8,av⟩:=FW Z U (l:=l) (by simp at W;omega);simp[T,aX,aA,ap,aN,av];refine ik j.length B (λr i m=>iQ 4 m/\m.get 1=some (X 15 1 [s.t])/\m.get 3=some (X 9 1 [g.t])/\Y i 5 (.fc 1 0 0 0)/\Y i 8 (.fc 3 0 0 0)/\Y i 10 (sl (j.map jm.t))/\Y i 11 (C r)) ?_ ?_ B ⟨⟨G,by simp[size_cons],G⟩,by simp[size_cons],by simp[size_cons],G⟩
 ·rintro r i m F K ⟨h,u,w,y,z,o,q⟩;have O:=h.ne (b:=1) B;have Q:=h.ne (b:=3) B;have V:=a8 j[r] (aG F);have J:=λ{R:io} (ht:R.p 11=some sq)=>JP ht s g j[r] H V;have aE:=λ{R:io} (ht:R.p 14=some CI) (n:Int)=>abD ht g n H.od;have⟨f,D⟩:∃f,f=j[r]:=⟨_,rfl⟩;rw[<-D]at V J;cases I:decide (f.fh=4)with
  |false=>simp[u,w,y,z,o,q,F,O,Q,h.low,<-D,I,K,h.cons]
  |true=>
  cases L:mH s g f&&s.gx.vR f with
  |false=>simp[u,w,y,z,o,q,F,O,Q,h.low,<-D,I,J,L,K,h.cons]
  |true=>
   have E:=L;simp only[az]at E;have bg:f.fh=4:=by simpa using I
   have⟨bu,bA,bB,bC,ae⟩:=JS ab (a7▸PlI.walk ab l) bg E.2 E.1;have N:ju f.a s.ej.length=true:=by
    rcases Yu E.2 with⟨k,_⟩|⟨_,A,_,_,_⟩
    ·omega
    ·exact A
   have⟨e,S,al,bn,an,bp⟩:=H.hw.at N;have⟨x,t1,t2,t3⟩:=xc (H.hc.ft (pK N)) an;rw[ny (fQ.1 N).1 S,t3]at ae;simp[u,w,y,z,o,q,F,O,Q,h.low,<-D,I,J,L,aE,show¬place g f.a<0 by omega,show¬place g f.c<=place g f.a by omega,show¬place g f.d<place g f.c by omega,show¬0<=place g f.b by omega,S,al,t1,t2,ae,K,h.cons]
 ·rintro i m ⟨h,u,w,y,z,o,q⟩;simp[o,q,h.hp,N5]
