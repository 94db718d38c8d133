/- W06d -/
import Derived.Test.YtdpclhaknmicoaaGreatDoorA7
set_option linter.all false
set_option maxRecDepth 100000
set_option maxHeartbeats 0
namespace Go.Proofs.YtdpclhaknmicoaaGreatDoor
noncomputable section
open Go Go.TI Tryz
section
attribute [-simp] List.map_take List.map_drop List.map_append
def FM:iF:=⟨List iK×Int,λa=>[sl (a.1.map iK.t),M a.2],λa=>a.1.length<=140737488355328,λa=> .bool (GH a.1 (a.1.length+1) a.2),λa c b=>by
 simp at b;rw[jD (λ_ _=>iK.inj) b.1,b.2]⟩
def Xd:FM.Ok prog cx 180:=by
 refine iD [(230,Al)] (jz 4362601011 [] func180) (λa=>a.1.length+2) (by simp[FM]) ?_;rintro⟨d,w⟩ hl l s;simp[FM]at hl s|-;simp[f180];refine io (d.length+1) J (λj l p=>p=hE/\ka l 0 (sl (d.map iK.t))/\iS l 5 j/\∃e:Int,iS l 1 e/\GH d (d.length+1-j) e=GH d (d.length+1) w) ?_ ?_ J ?_;rintro j l p B u ⟨rfl,f,g,e,i,c⟩;have h:(j:Int)<=d.length:=J;rw[show d.length+1-j=(d.length-j)+1 by omega,GH]at c;by_cases m:e<0;have:so d e=none:=by unfold so;rw[aq J]
 rw[this]at c;simp[f,i,g,h,m,<-c];by_cases o:(d.length:Int)<=e;have:so d e=none:=by unfold so;rw[au J];simp;omega
 rw[this]at c;simp[f,i,g,h,m,o,<-c];have z:jB e d.length:=by rw[gG];omega
 have⟨v,q,y⟩:=jt z;rw[y]at c
 dsimp at c
 have r:=fZ (show 0<=e by omega);have x:=jr (a:=e) (b:=1) J J;cases n:Ae v.op;rw[n,aq Y]at c;simp[f,i,g,h,m,o,r,q,n,AE,<-c];rw[n,au rfl]at c;cases k:decide (v.op=5)with
 |true=>
  rw[aP]at k;rw[N7,au k]at c;have A:=iC k;simp[f,i,g,h,m,o,r,q,AE,A,u];exact c
 |false=>
  rw[bg]at k;rw[N7,aq k]at c;simp[f,i,g,h,m,o,r,q,n,AE,k,u,x];exact c
 rintro l p ⟨rfl,f,g,e,i,c⟩;rw[Nat.sub_self,GH]at c;have h:¬((d.length:Int)+1<=d.length):=J;simp[f,g,h,<-c];simp[s]
def acd{c:iq}(ht:c.p 180=G FM)(a:List iK)(b:Int)(hl:a.length<=140737488355328):rl prog cx c 180 [sl (a.map iK.t),M b]=G (.bool (GH a (a.length+1) b)):=iL ht Xd (a,b) hl
@[simp]def ain:sl []=T.jf:=a9
def zQ{a:jm}{b:List jm}(c:a.size=0):jU (a::b)=if a.index=0 then(jU b).map (a.name:: ·)else none:=by rw[jU,au c]
def A4{a:jm}{b:List jm}(c:¬a.size=0)(d:a.size<1\/4<a.size\/(b.length+1:Int)<a.size):jU (a::b)=none:=by rw[jU,aq c,dif_pos d]
def A3{a:jm}{b:List jm}(c:¬a.size=0)(d:¬(a.size<1\/4<a.size\/(b.length+1:Int)<a.size)):jU (a::b)=if Pf a (a::b)=true then(jU ((a::b).drop a.size.toNat)).map (a.name:: ·)else none:=by rw[jU,aq c,dif_neg d]
def Ia:∀(e:Nat) (c:List jm),c.length<=e->∀g,jU c=G g->g.length<=c.length:=by
 intro e;induction e with
 |zero=>
  intro c hl g a;have:c=[]:=bC J;subst this;rw[jU]at a;simp at a;subst a;simp
 |succ e k=>
  intro c hl g a;rcases c with _|⟨d,f⟩
  rw[jU]at a;simp at a;subst a;simp;simp at hl;by_cases h:d.size=0;rw[zQ h]at a;split at a;rcases b:jU f with _|i;rw[b]at a;simp at a;rw[b]at a;simp at a;subst a;have:=k f hl i b;simp;omega;simp at a;by_cases j:d.size<1\/4<d.size\/(f.length+1:Int)<d.size;rw[A4 h j]at a;simp at a;rw[A3 h j]at a;split at a;cases b:jU ((d::f).drop d.size.toNat)with
  |none=>rw[b]at a;simp at a
  |some i=>
   rw[b]at a;simp at a;subst a;have:=k _ dY i b;simp at this|-;omega
  simp at a
def AP{d f:Type}(c:d->f)(b:List d){a:Nat}(e:a<b.length):(b.take (a+1)).map c=(b.take a).map c++[c b[a]]:=by rw[aM e,List.map_append];rfl
def vH(a:fU):T:=match jU a.cells with|some b=> .tuple [sl ((uW a b).map T.str),.bool true]|none=> .tuple [.jf,.bool false]
def xh:iF:=⟨fU,λa=>[a.t],λa=>a.cells.length<=1000000/\a.fT.length<=1000000/\a.jl.length<=1000000/\a.fR.length<=1000000/\a.eY.length<=1000000,vH,λa c b=>by simp at b;rw[fU.inj b]⟩
def Rk:xh.Ok prog cx 128:=by
 refine iD [] (jz 332312079452150195464880550324504575 [] func128) (λa=>1000002) (by simp[xh]) ?_;rintro(e:fU) hl l bX;simp[xh]at hl bX|-;obtain⟨hl,l2,l3,l4,l5⟩:=hl;simp[f128,bX];have eB:=hl;have⟨h,N⟩:∃h,h=e.cells:=⟨_,rfl⟩;rw[<-N]at hl;refine u5 h.length (λd l i=>jk 1 i/\i.get 0=G (eg 6 0 [e.t])/\jg l 1 0/\iS l 5 d/\∃y v,ka l 4 y/\wc i 0 y 1 (v.map T.str)/\v.length<=d/\(jU (h.drop d)).map (v++ ·)=jU h) ?_ (k:=0) J J ?_;rotate_left;simp
 first|exact⟨[],wc.nil _ _ _,Y,Y⟩|exact⟨⟨Y,Y,Y⟩,[],wc.nil _ _ _,Y,Y⟩
 rintro d l i eA ⟨r,g,j,p,y,v,n,z,eC,q⟩;have dn:=r.ne (b:=0) J;by_cases O:d<h.length;have dm:(d:Int)<h.length:=J;have an:=N▸dm;have bZ:(e.cells.length:Int)=h.length:=by rw[N]
 have dk:h[d]? =G h[d]:=aF O;have ae:e.cells[d]? =G h[d]:=N▸dk;have a8:=aJ O;rw[a8]at q;generalize ey:h[d]=c at*
 obtain⟨o,B,m,D,w⟩:=c;have de:(H.cons i (eg 5 1 [jm.t ⟨o,B,m,D,w⟩])).get i.size=G (eg 5 1 [jm.t ⟨o,B,m,D,w⟩]):=Y;have dd:(H.cons i (eg 5 1 [jm.t ⟨o,B,m,D,w⟩])).get 0=G (eg 6 0 [e.t]):=by rw[fH,aq (by rw[dn];simp)];exact g
 have⟨a7,cL,A,ao,C⟩:=(z.cons (eg 5 1 [jm.t ⟨o,B,m,D,w⟩])).OL (cx:=cx) uH rfl xO rfl Y Y o dY;rw[show(H.cons i (eg 5 1 [jm.t ⟨o,B,m,D,w⟩])).size=i.size+1 from rfl]at A;have E:=C.get _ _ de Y;have U:=C.get _ _ dd Y;have ap:=C.ok 1 (r.cons _);have ea:i.size<cL.size:=by have:=C.size;simp[H.cons]at this;omega
 have c6:=jr (a:=d) (b:=1) J J;have bi:jU h=none->vH e= .tuple [.jf,.bool false]:=by intro i;unfold vH;rw[<-N,i]
 by_cases ar:m=0;subst ar;rw[zQ rfl]at q;by_cases bA:B=0;subst bA;rw[au rfl]at q;simp[g,j,p,n,an,ae,r.low,A,E,U,c6];refine⟨d+1,J,J,ap,Y,v++[o],ao,dY,?_⟩;rw[<-q];cases jU (List.drop (d+1) h)<;>simp;rw[aq bA]at q;have hr:=bi (by rw[<-q];rfl);simp[g,j,p,n,an,ae,r.low,A,E,bA,hr,ap.hp];have eD:(h.drop (d+1)).length+1=h.length-d:=by rw[List.length_drop];omega
 have b7:=my (a:=e.cells.length) (b:=d) J J;by_cases ca:m<1\/4<m\/((h.drop (d+1)).length+1:Int)<m;rw[A4 ar ca]at q;have hr:=bi (by rw[<-q];rfl);by_cases p1:m<1;simp[g,j,p,n,an,ae,r.low,A,E,ar,p1,hr,ap.hp];by_cases p2:4<m;simp[g,j,p,n,an,ae,r.low,A,E,ar,p1,p2,hr,ap.hp];have p3:(e.cells.length:Int)-d<m:=J;simp[g,j,p,n,an,ae,r.low,A,E,U,ar,p1,p2,p3,hr,ap.hp,b7];rw[A3 ar ca]at q;have p1:¬m<1:=J;have p2:¬4<m:=J;have p3:¬(e.cells.length:Int)-d<m:=J;have b6:Pf ⟨o,B,m,D,w⟩ (⟨o,B,m,D,w⟩::List.drop (d+1) h)=allI (λk x=>decide (x=⟨o,k,m,false,w⟩)) 0 ((h.drop d).take m.toNat):=by rw[a8];rfl
 generalize Pf ⟨o,B,m,D,w⟩ (⟨o,B,m,D,w⟩::List.drop (d+1) h)=R at*
 obtain⟨s,rfl⟩:∃s:Nat,m=s:=⟨m.toNat,J⟩;rw[bO]at b6 q
 dsimp at q
 have ej:¬s=0:=J;simp[g,j,p,n,an,ae,r.low,A,E,U,ej,p1,p2,p3,b7];refine io s J (λk l I=>jk 1 I/\i.size<I.size/\I.get 0=G (eg 6 0 [e.t])/\jg l 1 0/\iS l 5 d/\ka l 4 a7/\wc I 0 a7 1 ((v++[o]).map T.str)/\jg l 6 i.size/\iS l 7 k/\
  (∃bT,I.get i.size=G (eg 5 bT [jm.t ⟨o,B,s,D,w⟩]))/\allI (λk x=>decide (x=⟨o,k,s,false,w⟩)) k (((h.drop d).take s).drop k)=R) ?_ ?_ J ?_
 rintro k l I aX ax ⟨u,ec,g,j,p,n,bn,K,L,⟨bT,F⟩,S⟩;have Z:(k:Int)<s:=J;have di:d+k<h.length:=J;have ds:=u.ne (b:=0) J;have aE:(i.size=I.size)=False:=dY;have W:=jr (a:=d) (b:=k) J J;have X:mQ ((d:Int)+k)=G (d+k):=by rw[fZ J];congr 1
 have al:e.cells[d+k]? =G h[d+k]:=N▸aF di;have c7:((h.drop d).take s).drop k=h[d+k]::((h.drop d).take s).drop (k+1):=by
  rw[aJ (by rw[List.length_take,List.length_drop];omega)];congr 1;rw[List.getElem_take,List.getElem_drop]
 rw[c7,allI]at S;generalize h[d+k]=x at*
 obtain⟨bu,bs,bN,bW,br⟩:=x;have aA:¬(⟨bu,bs,bN,bW,br⟩:jm)=⟨o,k,s,false,w⟩->vH e= .tuple [.jf,.bool false]:=by
  intro c9;rw[bj c9,dy]at S;rw[<-S,aq Y]at q;exact bi (by rw[<-q];rfl)
 have eb:=u.cons (eg 5 1 [jm.t ⟨bu,bs,bN,bW,br⟩]);by_cases P:bs=k;by_cases V:bu=o;by_cases av:bN=s;by_cases aN:br=w;cases bW;subst P V av aN;rw[bK rfl,aZ]at S;simp[g,j,p,n,K,L,ds,aE,Z,F,W,X,al,u.low,ax];exact⟨eb,J,bn.cons _,S⟩;have hr:=aA Y;simp[g,j,p,K,L,aE,Z,F,W,X,al,u.low,P,V,av,aN,hr,u.hp];have hr:=aA (by simp[aN]);simp[g,j,p,K,L,aE,Z,F,W,X,al,u.low,P,V,av,aN,hr,u.hp];have hr:=aA (by simp[av]);simp[g,j,p,K,L,aE,Z,F,W,X,al,u.low,P,V,av,hr,u.hp];have hr:=aA (by simp[V]);simp[g,j,p,K,L,aE,Z,F,W,X,al,u.low,P,V,hr,u.hp];have hr:=aA (by simp[P]);simp[g,j,p,K,L,Z,F,W,X,al,u.low,P,hr,u.hp];rintro l I ⟨u,ec,g,j,p,n,bn,K,L,⟨bT,F⟩,S⟩;have c4:R:=by rw[<-S,dV (by rw[List.length_take];omega)];rfl
 rw[c4,au rfl]at q;simp[g,j,p,n,K,L,F,(jr (a:=d) (b:=s) J J)];refine⟨d+s,J,J,u,Y,v++[o],bn,dY,?_⟩;rw[<-q,List.drop_drop.symm,a8];cases jU (List.drop s (_::List.drop (d+1) h))<;>simp;simp[j,p];exact⟨ap,ea,U,ao,⟨_,E⟩,b6.symm⟩
 .have:d=h.length:=J;subst this;have bZ:(e.cells.length:Int)=h.length:=by rw[N]
  rw[cr,jU]at q;have ee:jU e.cells=G v:=by rw[<-N,<-q];simp
  have hr:vH e= .tuple [sl ((uW e v).map T.str),.bool true]:=by unfold vH;rw[ee]
  have eu:v.length<=1000000:=J;simp[g,j,p,bZ];refine io e.fT.length J (λk l i=>jk 1 i/\i.get 0=G (eg 6 0 [e.t])/\jg l 1 0/\iS l 9 k/\
   ∃y,ka l 4 y/\wc i 0 y 1 ((v++(e.fT.take k).map (·.name)).map T.str)) ?_ ?_ J ?_
  rintro k l i O ax ⟨r,g,j,Q,y,n,z⟩;have aX:(k:Int)<e.fT.length:=J;have⟨a7,E,A,ao,C⟩:=z.OL (cx:=cx) uH rfl xO rfl Y Y (e.fT[k]).name dY;have U:=C.get 0 _ g Y;simp[g,j,Q,n,aX,O,A,ax];refine⟨C.ok 1 r,U,?_⟩;simpa[AP _ _ O]using ao;rotate_left;simp[j,n];exact⟨r,g,iC z⟩;rintro l i ⟨r,g,j,Q,y,n,z⟩;simp[g,j,Q];rw[aI]at z;refine io e.jl.length J (λk l i=>jk 1 i/\i.get 0=G (eg 6 0 [e.t])/\jg l 1 0/\iS l 10 k/\
   ∃y,ka l 4 y/\wc i 0 y 1 ((v++e.fT.map (·.name)++(e.jl.take k).map (·.name)).map T.str)) ?_ ?_ J ?_
  rintro k l i O ax ⟨r,g,j,Q,y,n,z⟩;have aX:(k:Int)<e.jl.length:=J;have⟨a7,E,A,ao,C⟩:=z.OL (cx:=cx) uH rfl xO rfl Y Y (e.jl[k]).name dY;simp[g,j,Q,n,aX,O,A,ax];refine⟨C.ok 1 r,(C.get 0 _ g Y),?_⟩;simpa[AP _ _ O]using ao;rotate_left;simp[j,g,n];exact⟨r,iC z⟩;rintro l i ⟨r,g,j,Q,y,n,z⟩;rw[aI]at z;have⟨eE,eo,cb,eh,b8⟩:=z.Z3 (cx:=cx) uH rfl xO rfl Y Y e.fR dY;have⟨eF,et,cp,b9,ef⟩:=eh.Z3 (cx:=cx) uH rfl xO rfl Y Y e.eY dY;have c1:uW e v=v++e.fT.map (·.name)++e.jl.map (·.name)++e.fR++e.eY:=rfl;rw[<-c1]at b9;simp[g,j,Q,n,cb,(b8.get 0 _ g Y),cp,hr,b9.fzM (f:=T.str) Y,(ef.ok 1 (b8.ok 1 r)).hp]
def Vt{b:iq}(ht:b.p 128=G xh)(a:fU)(hl:a.cells.length<=1000000/\a.fT.length<=1000000/\a.jl.length<=1000000/\a.fR.length<=1000000/\a.eY.length<=1000000):rl prog cx b 128 [a.t]=G (vH a):=iL ht Rk a hl
section
def Dm:iF:=⟨fU,λa=>[a.t],λa=>True,λa=> .bool (lY a),λa c b=>by simp at b;rw[fU.inj b]⟩
def Eg{w:fU}:wq w↔(w.cells.length<=12/\w.fT.length<=4/\w.jl.length<=2/\w.fR.length<=2/\w.jM.length<=60/\1<=w.eY.length/\w.eY.length<=4):=by unfold wq;simp;omega
def sI{w:fU}(a:¬(w.cells.length<=12/\w.fT.length<=4/\w.jl.length<=2/\w.fR.length<=2/\w.jM.length<=60/\1<=w.eY.length/\w.eY.length<=4)):lY w=false:=by
 unfold lY;have:wq w=false:=by rw[cK];exact λk=>a (Eg.1 k)
 rw[this];rfl
def sx(w:fU)(k:Nat):Prop:=∃b a:Int,0<=b/\0<=a/\a<=k/\(k=0->b=0/\a=0)/\(∀d c,k=d+1->w.jM[d]? =G c->b=c.fa/\a=c.stmt+1)/\nP w.eY.length b a (w.jM.drop k)=nP w.eY.length 0 0 w.jM
def sx.zero(w:fU):sx w 0:=⟨0,0,Y,Y,Y,Y,Y,Y⟩
def sx.fin{w:fU}(a:sx w w.jM.length):nP w.eY.length 0 0 w.jM=true:=by obtain⟨c,d,_,_,_,_,_,b⟩:=a;rw[<-b,cr];rfl
section
variable {w:fU}{k:Nat}{s:jJ}
theorem sx.cons(h:sx w k)(c:w.jM[k]? =G s):∃a b:Int,0<=a/\0<=b/\b<=k/\(k=0->a=0/\b=0)/\(∀f d,k=f+1->w.jM[f]? =G d->a=d.fa/\b=d.stmt+1)/\(if s.fa<a\/(w.eY.length:Int)<=s.fa then false else
 if a<s.fa then(if s.stmt=0 then nP w.eY.length s.fa 1 (w.jM.drop (k+1))else false)else(if s.stmt=b then nP w.eY.length a (b+1) (w.jM.drop (k+1))else false))=nP w.eY.length 0 0 w.jM:=by
 obtain⟨a,b,g,i,j,l,m,n⟩:=h;have e:k<w.jM.length:=by
  rcases aR k w.jM.length with h|h;exact h;rw[cj h]at c;simp at c
 have:w.jM[k]=s:=by rw[aF e]at c;simpa using c
 refine⟨a,b,g,i,j,l,m,?_⟩;rw[<-n,aJ e,this,nP]
def sx.bad(a:sx w k)(c:w.jM[k]? =G s)(i:s.fa<0\/(w.eY.length:Int)<=s.fa):nP w.eY.length 0 0 w.jM=false:=by have⟨j,l,d,e,f,g,h,b⟩:=a.cons c;rw[<-b,au J]
def sx.next(n:sx w k)(j:w.jM[k]? =G s)(o:0<=s.fa)(x:s.fa<w.eY.length)(p:(k=0/\s.stmt=0)\/∃b a,k=b+1/\w.jM[b]? =G a/\((a.fa=s.fa/\s.stmt=a.stmt+1)\/(a.fa<s.fa/\s.stmt=0))):sx w (k+1):=by
 obtain⟨y,z,t0,A,B,u,r,c⟩:=n.cons j;have t:∀b a,k+1=b+1->w.jM[b]? =G a->a=s:=by
  intro b a g h;have:b=k:=J;subst this;rw[j]at h;simpa using h.symm
 have fin:∀d:Int,d=s.stmt+1->0<=d->d<=k+1->nP w.eY.length s.fa d (w.jM.drop (k+1))=nP w.eY.length 0 0 w.jM->sx w (k+1):=by
  intro d e f v m;exact⟨s.fa,d,o,f,J,Y,λb a g h=>by rw[t b a g h];exact⟨rfl,e⟩,m⟩
 rcases p with⟨rfl,l⟩|⟨b,a,rfl,g,q⟩;obtain⟨rfl,rfl⟩:=u rfl;rw[aq J]at c;refine fin 1 J J J ?_;rw[<-c];by_cases i:0<s.fa;rw[au i,au l];rw[aq i,au l];have:s.fa=0:=J;rw[this];rfl;obtain⟨rfl,rfl⟩:=r b a rfl g;rcases q with⟨e,f⟩|⟨e,f⟩;rw[aq J,aq J,au f]at c;refine fin (a.stmt+1+1) J J J ?_;rw[<-c,e];rw[aq J,au e,au f]at c;exact fin 1 J J J c
def sx.no(e:sx w k)(m:w.jM[k]? =G s)(f:(k=0/\s.stmt≠0)\/∃b a,k=b+1/\w.jM[b]? =G a/\((a.fa=s.fa/\s.stmt≠a.stmt+1)\/s.fa<a.fa\/(a.fa≠s.fa/\s.stmt≠0))):nP w.eY.length 0 0 w.jM=false:=by have⟨o,p,t0,q,r,n,l,i⟩:=e.cons m;rw[<-i];rcases f with⟨rfl,d⟩|⟨b,a,rfl,g,j⟩;obtain⟨rfl,rfl⟩:=n rfl;rw[aq d,aq d];simp;obtain⟨rfl,rfl⟩:=l b a rfl g;rcases j with⟨e1,c⟩|e1|⟨e1,c⟩;rw[aq c,aq (show¬a.fa<s.fa by omega)];simp;rw[au (.inl e1)];by_cases h:s.fa<a.fa;rw[au (.inl h)];rw[aq c,au (show a.fa<s.fa by omega)];simp
def sx.rng(c:sx w k){b:Nat}{a:jJ}(e:k=b+1)(d:w.jM[b]? =G a):0<=a.stmt+1/\a.stmt+1<=k:=by obtain⟨l,m,t0,g,h,j,f,i⟩:=c;obtain⟨_,rfl⟩:=f b a e d;exact⟨g,h⟩
end
def Q4:Dm.Ok prog cx 77:=by
 refine iD [(128,xh),(129,Cf),(130,FU)] (jz 95827739445721067874190659254502973333984266632037375 [] func77) (λa=>100) (by simp[Dm]) ?_;rintro(w:fU) _ l r;simp[Dm]at r|-;by_cases cb:w.cells.length<=12;rotate_left;simp[f77,r,show(12:Int)<w.cells.length by omega,sI (w:=w) J];have F:¬(12:Int)<w.cells.length:=J;by_cases cp:w.fT.length<=4;rotate_left;simp[f77,r,F,show(4:Int)<w.fT.length by omega,sI (w:=w) J];have L:¬(4:Int)<w.fT.length:=J;by_cases cL:w.jl.length<=2;rotate_left;simp[f77,r,F,L,show(2:Int)<w.jl.length by omega,sI (w:=w) J];have O:¬(2:Int)<w.jl.length:=J;by_cases c1:w.fR.length<=2;rotate_left;simp[f77,r,F,L,O,show(2:Int)<w.fR.length by omega,sI (w:=w) J];have V:¬(2:Int)<w.fR.length:=J;by_cases c6:1<=w.eY.length;rotate_left;simp[f77,r,F,L,O,V,show(w.eY.length:Int)<1 by omega,sI (w:=w) J];have ao:¬(w.eY.length:Int)<1:=J;by_cases c7:w.eY.length<=4;rotate_left;simp[f77,r,F,L,O,V,ao,show(4:Int)<w.eY.length by omega,sI (w:=w) J];have aN:¬(4:Int)<w.eY.length:=J;by_cases c4:w.jM.length<=60;rotate_left;simp[f77,r,F,L,O,V,ao,aN,show(60:Int)<w.jM.length by omega,sI (w:=w) J];have bA:¬(60:Int)<w.jM.length:=J;have o:lY w=(Fj w&&(w.jl.all λD=>xz w D.oG false)&&nP w.eY.length 0 0 w.jM):=by
  unfold lY;rw[Eg.2 ⟨cb,cp,cL,c1,c4,c6,c7⟩,aZ]
 have bX:=λ{bu:iq} (ht:bu.p 128=G xh)=>Vt ht w ⟨J,J,J,J,J⟩;cases an:jU w.cells with
 |none=>
  have hr:lY w=false:=by rw[o];unfold Fj;rw[an];rfl
  have a7:vH w= .tuple [.jf,.bool false]:=by unfold vH;rw[an]
  simp[f77,r,F,L,O,V,bA,ao,aN,bX,a7,hr]
 |some v=>
  have a7:vH w= .tuple [sl ((uW w v).map T.str),.bool true]:=by unfold vH;rw[an]
  have eb:=Ia _ _ (ay _) v an;have dn:Fj w=zv (uW w v):=by unfold Fj;rw[an]
  have ea:(uW w v).length<=24:=by unfold uW;simp;omega
  rw[dn]at o;generalize uW w v=d at*
  simp[f77,r,F,L,O,V,bA,ao,aN,bX,a7];refine io d.length J (λk l h=>jk 1 h/\h.get 0=G (eg 6 0 [w.t])/\jg l 1 0/\ka l 3 (sl (d.map T.str))/\iS l 5 k/\(d.take k).all xw/\(d.take k).Nodup) ?_ ?_ J ?_;rintro k l h E N ⟨c,e,f,W,X,ap,ax⟩;have i:(k:Int)<d.length:=J;have di:d[k]∈d:=aG E;have dk:d=d.take k++d[k]::d.drop (k+1):=by rw[<-aJ E,cB]
  have dm:d.take (k+1)=d.take k++[d[k]]:=aM E;have br:d[k]? =G d[k]:=aF E;generalize d[k]=A at*
  have bW:=λ{bu:iq} (ht:bu.p 130=G FU)=>Sk ht (d.take k) A (by rw[List.length_take];omega);have b6:k<=d.length:=J;cases S:xw A;have hr:lY w=false:=by
   rw[o];have:zv d=false:=by
    unfold zv;have:d.all xw=false:=by rw[List.all_eq_false];exact⟨A,di,by simp[S]⟩
    rw[this];rfl
   rw[this];rfl
  simp[W,X,i,br,tT,S,hr,c.hp];by_cases ar:A∈d.take k;have hr:lY w=false:=by
   rw[o];have:zv d=false:=by
    unfold zv;have:¬d.Nodup:=by
     rw[dk];intro h;exact(List.nodup_append.1 h).2.2 A ar A Y rfl
    rw[bj this];simp
   rw[this];rfl
  have a8:(0<=uO (d.take k) A 0)=True:=by rw[Kt];simp[ar]
  simp[W,X,i,br,tT,S,bW,b6,a8,hr,c.hp];have a8:(0<=uO (d.take k) A 0)=False:=by rw[Kt];simp[ar]
  simp[e,f,W,X,i,br,tT,S,bW,b6,a8,N];rw[dm];refine⟨c,?_,?_⟩;intro y I;rcases List.mem_append.1 I with I|I
  exact List.all_eq_true.1 ap y I;simp at I;subst I;exact S;rw[List.nodup_append];exact⟨ax,Y,λa r b o=>by simp at o;subst o;exact λh=>ar (h▸r)⟩;rotate_left
  .simp
   first|done|exact⟨Y,Y,Y⟩
  rintro l h ⟨c,e,f,W,X,ap,ax⟩;rw[aI]at ap ax;have dd:zv d:=by unfold zv;rw[ap,bK ax];rfl
  rw[dd,aZ]at o;simp[W,X];refine io w.jl.length J (λk l h=>jk 1 h/\h.get 0=G (eg 6 0 [w.t])/\jg l 1 0/\iS l 6 k/\
   (w.jl.drop k).all (λD=>xz w D.oG false)=w.jl.all λD=>xz w D.oG false) ?_ ?_ J ?_
  rintro k l h E N ⟨c,e,f,P,C⟩;have i:(k:Int)<w.jl.length:=J;have g:w.jl[k]? =G w.jl[k]:=aF E;rw[aJ E,cA]at C;generalize w.jl[k]=D at*
  obtain⟨cn,K⟩:=D
  dsimp at C
  by_cases bi:jB K w.fT.length=true;obtain⟨A,b8,I⟩:=jt bi;have al:=gG.1 bi;have j:¬K<0:=J;have m:¬(w.fT.length:Int)<=K:=J;have av:xz w K false= !A.rW:=by unfold xz;rw[I];simp
  cases aA:A.rW;rw[av,aA]at C;simp[e,f,P,i,g,j,m,fZ al.1,b8,aA,N];exact⟨c,iC C⟩;rw[av,aA]at C;have hr:lY w=false:=by rw[o,<-C];rfl
  simp[e,f,P,i,g,j,m,fZ al.1,b8,aA,hr,c.hp];have al:jB K w.fT.length=false:=iC bi;have S:=sU al;have av:xz w K false=false:=by unfold xz;rw[nQ al]
  rw[av]at C;have hr:lY w=false:=by rw[o,<-C];rfl
  by_cases j:K<0;simp[e,f,P,i,g,j,hr,c.hp];have m:(w.fT.length:Int)<=K:=J;simp[e,f,P,i,g,j,m,hr,c.hp];rotate_left;simp[f,e];exact c;rintro l h ⟨c,e,f,P,C⟩;have c9:(w.jl.all λD=>xz w D.oG false):=by rw[<-C];simp
  rw[c9,aZ]at o;simp[e,f,P];have R:nP w.eY.length 0 0 w.jM=false->lY w=false:=λh=>by rw[o,h]
  refine io w.jM.length J (λk l h=>jk 1 h/\h.get 0=G (eg 6 0 [w.t])/\jg l 1 0/\iS l 8 k/\sx w k) ?_ ?_ J ?_;rintro k l h E N ⟨c,e,f,u,q⟩;have i:(k:Int)<w.jM.length:=J;have g:w.jM[k]? =G w.jM[k]:=aF E;have H:=c.ne (b:=0) J;generalize w.jM[k]=s at*
  obtain⟨aE,bs,ee⟩:=s;by_cases j:aE<0;have hr:=R (q.bad g (.inl j));simp[e,f,u,i,g,c.low,j,hr,c.hp];by_cases m:(w.eY.length:Int)<=aE;have hr:=R (q.bad g (.inr m));simp[e,f,u,i,g,H,c.low,j,m,hr,c.hp];by_cases bn:k=0;have bZ:(k=0)=True:=by simp[bn]
  have de:(0<k)=False:=dY;by_cases n:bs=0;have Z:=q.next g dZ dZ (.inl ⟨bn,n⟩);subst n;simp[e,f,u,i,g,H,c.low,j,m,bZ,de,N];exact⟨c.cons _,Z⟩;have hr:=R (q.no g (.inl ⟨bn,n⟩));simp[e,f,u,i,g,H,c.low,j,m,bZ,n,hr,c.hp];obtain⟨z,Q⟩:∃z,k=z+1:=⟨k-1,J⟩;have x:w.jM[z]? =G w.jM[z]:=aF J;generalize w.jM[z]=ds at*
  have b7:=q.rng Q x;have U:=my (a:=(k:Int)) (b:=1) J J;rw[show(k:Int)-1=(z:Int)by omega]at U;obtain⟨ca,b9,ec⟩:=ds;have bT:=jr (a:=b9) (b:=1) (by dsimp at b7;omega) (by dsimp at b7;omega);have ae:(k=0)=False:=dY;have bN:(0<k)=True:=dY;by_cases n:ca=aE;by_cases B:bs=b9+1;have Z:=q.next g dZ dZ (.inr ⟨z,_,Q,x,.inl ⟨n,B⟩⟩);subst n B;simp[e,f,u,i,g,H,c.low,j,m,ae,U,x,bT,N];exact⟨c.cons _,Z⟩;have hr:=R (q.no g (.inr ⟨z,_,Q,x,.inl ⟨n,B⟩⟩));subst n;simp[e,f,u,i,g,H,c.low,j,m,ae,U,x,bT,B,hr,c.hp];by_cases B:bs=0;by_cases aX:aE<ca;have hr:=R (q.no g (.inr ⟨z,_,Q,x,.inr (.inl aX)⟩));subst B;simp[e,f,u,i,g,H,c.low,j,m,ae,bN,U,x,n,aX,hr,c.hp];have Z:=q.next g dZ dZ (.inr ⟨z,_,Q,x,.inr ⟨dZ,B⟩⟩);subst B;simp[e,f,u,i,g,H,c.low,j,m,ae,bN,U,x,n,aX,N];exact⟨c.cons _,Z⟩;have hr:=R (q.no g (.inr ⟨z,_,Q,x,.inr (.inr ⟨n,B⟩)⟩));simp[e,f,u,i,g,H,c.low,j,m,ae,U,x,n,B,hr,c.hp];rintro l h ⟨c,e,f,u,q⟩;have hr:lY w:=by rw[o,q.fin]
  simp[e,f,u,hr,c.hp];simp[f,e];exact⟨c,sx.zero w⟩
def Ms{a:iq}(ht:a.p 77=G Dm)(w:fU):rl prog cx a 77 [w.t]=G (.bool (lY w)):=iL ht Q4 w trivial
