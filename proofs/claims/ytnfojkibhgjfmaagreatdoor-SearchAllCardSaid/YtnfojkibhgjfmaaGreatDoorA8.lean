/- W06d -/
import Derived.Test.YtnfojkibhgjfmaaGreatDoorA7
set_option linter.all false
set_option maxRecDepth 100000
set_option maxHeartbeats 0
namespace Go.Proofs.YtnfojkibhgjfmaaGreatDoor
noncomputable section
open Go Go.TI Tryz
section
attribute [-simp] List.map_take List.map_drop List.map_append
def Gj:iE:=⟨List iN×Int,λa=>[sl (a.1.map iN.t),J a.2],λa=>a.1.length<=140737488355328,λa=> .ej (Ha a.1 (a.1.length+1) a.2),λa c b=>by
 simp at b;rw[j3 (λ_ _=>iN.inj) b.1,b.2]⟩
def Yl:Gj.Ok prog cx 192:=by
 refine iz [(241,Ay)] (js 4362601011 [] func192) (λa=>a.1.length+2) (by simp[Gj]) ?_;rintro⟨d,x⟩ hl l v;simp[Gj]at hl v|-;simp[f192];refine gW (d.length+1) G (λj l q=>q=hE/\TI.Y l 0=D (sl (d.map iN.t))/\TI.Y l 5=D (J j)/\∃e:Int,TI.Y l 1=D (J e)/\Ha d (d.length+1-j) e=Ha d (d.length+1) x) ?_ ?_ G ?_;rintro j l q B w ⟨rfl,f,g,e,i,c⟩;have h:(j:Int)<=d.length:=G;rw[show d.length+1-j=(d.length-j)+1 by omega,Ha]at c;by_cases n:e<0;have:wU d e=none:=by unfold wU;rw[aw G]
 rw[this]at c;simp[f,i,g,h,n,<-c];by_cases p:(d.length:Int)<=e;have:wU d e=none:=by unfold wU;rw[ax G];simp;omega
 rw[this]at c;simp[f,i,g,h,n,p,<-c];have A:jx e d.length:=by rw[fT];omega
 have⟨o,r,z⟩:=jm A;rw[z]at c
 dsimp at c
 have s:=fO (show 0<=e by omega);have y:=jf (a:=e) (b:=1) G G;cases m:Ar o.op;rw[m,aw V]at c;simp[f,i,g,h,n,p,s,r,m,AO,<-c];rw[m,ax rfl]at c;cases k:decide (o.op=5)with
 |true=>
  rw[aO]at k;rw[ON,ax k]at c;have u:decide (o.op=5):=iD k;simp[f,i,g,h,n,p,s,r,m,AO,u,w];exact c
 |false=>
  have u:decide (o.op=5)=false:=k;rw[bK]at k;rw[ON,aw k]at c;simp[f,i,g,h,n,p,s,r,m,AO,u,w,y];exact c
 rintro l q ⟨rfl,f,g,e,i,c⟩;rw[Nat.sub_self,Ha]at c;have h:¬((d.length:Int)+1<=d.length):=G;simp[f,g,h,<-c];simp[v]
def adl{c:ik}(ht:c.p 192=D Gj)(a:List iN)(b:Int)(hl:a.length<=140737488355328):rl prog cx c 192 [sl (a.map iN.t),J b]=D (.ej (Ha a (a.length+1) b)):=iF ht Yl (a,b) hl
@[simp]def aju:sl []=T.jb:=a9
def Ai{a:ji}{b:List ji}(c:a.size=0):jW (a::b)=if a.index=0 then(jW b).map (a.name:: ·)else none:=by rw[jW,ax c]
def Bd{a:ji}{b:List ji}(c:¬a.size=0)(d:a.size<1\/4<a.size\/(b.length+1:Int)<a.size):jW (a::b)=none:=by rw[jW,aw c,dif_pos d]
def Bc{a:ji}{b:List ji}(c:¬a.size=0)(d:¬(a.size<1\/4<a.size\/(b.length+1:Int)<a.size)):jW (a::b)=if PS a (a::b)=true then(jW ((a::b).drop a.size.toNat)).map (a.name:: ·)else none:=by rw[jW,aw c,dif_neg d]
def Iw:∀(e:Nat) (c:List ji),c.length<=e->∀g,jW c=D g->g.length<=c.length:=by
 intro e;induction e with
 |zero=>
  intro c hl g a;have:c=[]:=bw G;subst this;rw[jW]at a;simp at a;subst a;simp
 |succ e k=>
  intro c hl g a;rcases c with _|⟨d,f⟩
  rw[jW]at a;simp at a;subst a;simp;simp at hl;by_cases h:d.size=0;rw[Ai h]at a;split at a;rcases b:jW f with _|i;rw[b]at a;simp at a;rw[b]at a;simp at a;subst a;have:=k f hl i b;simp;omega;simp at a;by_cases j:d.size<1\/4<d.size\/(f.length+1:Int)<d.size;rw[Bd h j]at a;simp at a;rw[Bc h j]at a;split at a;cases b:jW ((d::f).drop d.size.toNat)with
  |none=>rw[b]at a;simp at a
  |some i=>
   rw[b]at a;simp at a;subst a;have:=k _ dP i b;simp at this|-;omega
  simp at a
def AW{d f:Type}(c:d->f)(b:List d){a:Nat}(e:a<b.length):(b.take (a+1)).map c=(b.take a).map c++[c b[a]]:=by rw[aT e,List.map_append];rfl
def vk(a:fJ):T:=match jW a.cells with|some b=> .tuple [sl ((uI a b).map T.str),.ej true]|none=> .tuple [.jb,.ej false]
def xf:iE:=⟨fJ,λa=>[a.t],λa=>a.cells.length<=1000000/\a.fQ.length<=1000000/\a.je.length<=1000000/\a.fI.length<=1000000/\a.d8.length<=1000000,vk,λa c b=>by simp at b;rw[fJ.inj b]⟩
def Se:xf.Ok prog cx 149:=by
 refine iz [] (js 332312079452150195464880550324504575 [] func149) (λa=>1000002) (by simp[xf]) ?_;rintro(e:fJ) hl l bZ;simp[xf]at hl bZ|-;obtain⟨hl,l2,l3,l4,l5⟩:=hl;simp[f149,bZ];have eD:=hl;have⟨h,P⟩:∃h,h=e.cells:=⟨_,rfl⟩;rw[<-P]at hl;refine pU h.length (λd l i=>iS 1 i/\i.get 0=D (dU 6 0 [e.t])/\TI.Y l 1=D (dY 0)/\TI.Y l 5=D (J d)/\∃y v,TI.Y l 4=D y/\vQ i 0 y 1 (v.map T.str)/\v.length<=d/\(jW (h.drop d)).map (v++ ·)=jW h) ?_ (k:=0) G G ?_;rotate_left;simp
 first|exact⟨[],vQ.nil _ _ _,V,V⟩|exact⟨⟨V,V,V⟩,[],vQ.nil _ _ _,V,V⟩
 rintro d l i eC ⟨r,g,j,q,y,v,n,z,eE,o⟩;have dn:=r.ne (b:=0) G;by_cases Q:d<h.length;have dm:(d:Int)<h.length:=G;have ap:(d:Int)<e.cells.length:=P▸dm;have b6:(e.cells.length:Int)=h.length:=by rw[P]
 have dk:h[d]? =D h[d]:=aF Q;have al:e.cells[d]? =D h[d]:=P▸dk;have bs:=aL Q;rw[bs]at o;generalize eB:h[d]=c at*
 obtain⟨p,B,m,E,w⟩:=c;have eb:=z.cons (dU 5 1 [ji.t ⟨p,B,m,E,w⟩]);have de:(H.cons i (dU 5 1 [ji.t ⟨p,B,m,E,w⟩])).get i.size=D (dU 5 1 [ji.t ⟨p,B,m,E,w⟩]):=V;have dd:(H.cons i (dU 5 1 [ji.t ⟨p,B,m,E,w⟩])).get 0=D (dU 6 0 [e.t]):=by rw[fg,aw (by rw[dn];simp)];exact g
 have⟨bp,cX,A,av,C⟩:=eb.Pr (cx:=cx) un rfl xL rfl V V p dP;rw[show(H.cons i (dU 5 1 [ji.t ⟨p,B,m,E,w⟩])).size=i.size+1 from rfl]at A;have F:=C.get _ _ de V;have I:=C.get _ _ dd V;have aA:=C.ok 1 (r.cons _);have ea:i.size<cX.size:=by have:=C.size;simp[H.cons]at this;omega
 have c6:=jf (a:=d) (b:=1) G G;have bu:jW h=none->vk e= .tuple [.jb,.ej false]:=by intro i;unfold vk;rw[<-P,i]
 by_cases aE:m=0;subst aE;rw[Ai rfl]at o
 dsimp at o
 by_cases bS:B=0;subst bS;rw[ax rfl]at o;simp[g,j,q,n,ap,al,r.low,A,F,I,c6];refine⟨d+1,G,G,aA,V,v++[p],av,dP,?_⟩;rw[<-o];cases jW (List.drop (d+1) h)<;>simp;rw[aw bS]at o;have hr:=bu (by rw[<-o];rfl);simp[g,j,q,n,ap,al,r.low,A,F,bS,hr,aA.hp];have eF:(h.drop (d+1)).length+1=h.length-d:=by rw[List.length_drop];omega
 have b8:=lK (a:=e.cells.length) (b:=d) G G;by_cases cb:m<1\/4<m\/((h.drop (d+1)).length+1:Int)<m;rw[Bd aE cb]at o;have hr:=bu (by rw[<-o];rfl);by_cases p1:m<1;simp[g,j,q,n,ap,al,r.low,A,F,aE,p1,hr,aA.hp];by_cases p2:4<m;simp[g,j,q,n,ap,al,r.low,A,F,aE,p1,p2,hr,aA.hp];have p3:(e.cells.length:Int)-d<m:=G;simp[g,j,q,n,ap,al,r.low,A,F,I,aE,p1,p2,p3,hr,aA.hp,b8];rw[Bc aE cb]at o;have p1:¬m<1:=G;have p2:¬4<m:=G;have p3:¬(e.cells.length:Int)-d<m:=G;have b7:PS ⟨p,B,m,E,w⟩ (⟨p,B,m,E,w⟩::List.drop (d+1) h)=allI (λk x=>decide (x=⟨p,k,m,false,w⟩)) 0 ((h.drop d).take m.toNat):=by rw[bs];rfl
 generalize PS ⟨p,B,m,E,w⟩ (⟨p,B,m,E,w⟩::List.drop (d+1) h)=R at*
 obtain⟨s,rfl⟩:∃s:Nat,m=s:=⟨m.toNat,G⟩;rw[cN]at b7 o
 dsimp at o
 have et:¬s=0:=G;simp[g,j,q,n,ap,al,r.low,A,F,I,et,p1,p2,p3,b8];refine gW s G (λk l L=>iS 1 L/\i.size<L.size/\L.get 0=D (dU 6 0 [e.t])/\TI.Y l 1=D (dY 0)/\TI.Y l 5=D (J d)/\TI.Y l 4=D bp/\vQ L 0 bp 1 ((v++[p]).map T.str)/\TI.Y l 6=D (dY i.size)/\TI.Y l 7=D (J k)/\
  (∃bW,L.get i.size=D (dU 5 bW [ji.t ⟨p,B,s,E,w⟩]))/\allI (λk x=>decide (x=⟨p,k,s,false,w⟩)) k (((h.drop d).take s).drop k)=R) ?_ ?_ G ?_
 rintro k l L bn aX ⟨u,ee,g,j,q,n,bA,M,N,⟨bW,K⟩,W⟩;have ae:(k:Int)<s:=G;have di:d+k<h.length:=G;have ds:=u.ne (b:=0) G;have a8:(i.size=L.size)=False:=dP;have O:=jf (a:=d) (b:=k) G G;have Z:lr ((d:Int)+k)=D (d+k):=by rw[fO G];congr 1
 have an:e.cells[d+k]? =D h[d+k]:=P▸aF di;have c7:((h.drop d).take s).drop k=h[d+k]::((h.drop d).take s).drop (k+1):=by
  rw[aL (by rw[List.length_take,List.length_drop];omega)];congr 1;rw[List.getElem_take,List.getElem_drop]
 rw[c7,allI]at W;generalize h[d+k]=x at*
 obtain⟨bN,bH,bT,bX,bC⟩:=x;have a7:¬(⟨bN,bH,bT,bX,bC⟩:ji)=⟨p,k,s,false,w⟩->vk e= .tuple [.jb,.ej false]:=by
  intro c9;rw[aS c9,dC]at W;rw[<-W,aw V]at o;exact bu (by rw[<-o];rfl)
 have ec:=u.cons (dU 5 1 [ji.t ⟨bN,bH,bT,bX,bC⟩]);by_cases S:bH=k;by_cases X:bN=p;by_cases aN:bT=s;by_cases bi:bC=w;cases bX;subst S X aN bi;rw[bh rfl,bj]at W;simp[g,j,q,n,M,N,ds,a8,ae,K,O,Z,an,u.low,aX];exact⟨ec,G,bA.cons _,W⟩;have hr:=a7 V;simp[g,j,q,M,N,a8,ae,K,O,Z,an,u.low,S,X,aN,bi,hr,u.hp];have hr:=a7 (by simp[bi]);simp[g,j,q,M,N,a8,ae,K,O,Z,an,u.low,S,X,aN,bi,hr,u.hp];have hr:=a7 (by simp[aN]);simp[g,j,q,M,N,a8,ae,K,O,Z,an,u.low,S,X,aN,hr,u.hp];have hr:=a7 (by simp[X]);simp[g,j,q,M,N,a8,ae,K,O,Z,an,u.low,S,X,hr,u.hp];have hr:=a7 (by simp[S]);simp[g,j,q,M,N,ae,K,O,Z,an,u.low,S,hr,u.hp];rintro l L ⟨u,ee,g,j,q,n,bA,M,N,⟨bW,K⟩,W⟩;have c4:R:=by rw[<-W,List.drop_eq_nil_of_le (by rw[List.length_take];omega)];rfl
 have O:=jf (a:=d) (b:=s) G G;rw[c4,ax rfl]at o;simp[g,j,q,n,M,N,K,O];refine⟨d+s,G,G,u,V,v++[p],bA,dP,?_⟩;rw[<-o,List.drop_drop.symm,bs];cases jW (List.drop s (_::List.drop (d+1) h))<;>simp;simp[j,q];exact⟨aA,ea,I,av,⟨_,F⟩,b7.symm⟩
 .have:d=h.length:=G;subst this;have b6:(e.cells.length:Int)=h.length:=by rw[P]
  rw[cq,jW]at o;have ef:jW e.cells=D v:=by rw[<-P,<-o];simp
  have hr:vk e= .tuple [sl ((uI e v).map T.str),.ej true]:=by unfold vk;rw[ef]
  have eA:v.length<=1000000:=G;simp[g,j,q,b6];refine gW e.fQ.length G (λk l i=>iS 1 i/\i.get 0=D (dU 6 0 [e.t])/\TI.Y l 1=D (dY 0)/\TI.Y l 9=D (J k)/\
   ∃y,TI.Y l 4=D y/\vQ i 0 y 1 ((v++(e.fQ.take k).map (·.name)).map T.str)) ?_ ?_ G ?_
  rintro k l i Q aX ⟨r,g,j,U,y,n,z⟩;have bn:(k:Int)<e.fQ.length:=G;have⟨bp,F,A,av,C⟩:=z.Pr (cx:=cx) un rfl xL rfl V V (e.fQ[k]).name dP;have I:=C.get 0 _ g V;simp[g,j,U,n,bn,Q,A,aX];refine⟨C.ok 1 r,I,?_⟩;simpa[AW _ _ Q]using av;rotate_left;simp[j,n];exact⟨r,g,iD z⟩;rintro l i ⟨r,g,j,U,y,n,z⟩;simp[g,j,U];rw[aM]at z;refine gW e.je.length G (λk l i=>iS 1 i/\i.get 0=D (dU 6 0 [e.t])/\TI.Y l 1=D (dY 0)/\TI.Y l 10=D (J k)/\
   ∃y,TI.Y l 4=D y/\vQ i 0 y 1 ((v++e.fQ.map (·.name)++(e.je.take k).map (·.name)).map T.str)) ?_ ?_ G ?_
  rintro k l i Q aX ⟨r,g,j,U,y,n,z⟩;have bn:(k:Int)<e.je.length:=G;have⟨bp,F,A,av,C⟩:=z.Pr (cx:=cx) un rfl xL rfl V V (e.je[k]).name dP;have I:=C.get 0 _ g V;simp[g,j,U,n,bn,Q,A,aX];refine⟨C.ok 1 r,I,?_⟩;simpa[AW _ _ Q]using av;rotate_left;simp[j,g,n];exact⟨r,iD z⟩;rintro l i ⟨r,g,j,U,y,n,z⟩;rw[aM]at z;have⟨eH,eu,cv,eo,b9⟩:=z.aa2 (cx:=cx) un rfl xL rfl V V e.fI dP;have cp:=b9.get 0 _ g V;have⟨eI,ey,cL,ca,eh⟩:=eo.aa2 (cx:=cx) un rfl xL rfl V V e.d8 dP;have er:=eh.ok 1 (b9.ok 1 r);have c1:uI e v=v++e.fQ.map (·.name)++e.je.map (·.name)++e.fI++e.d8:=rfl;rw[<-c1]at ca;simp[g,j,U,n,cv,cp,cL,hr,ca.fzM (f:=T.str) V,er.hp]
def Wr{b:ik}(ht:b.p 149=D xf)(a:fJ)(hl:a.cells.length<=1000000/\a.fQ.length<=1000000/\a.je.length<=1000000/\a.fI.length<=1000000/\a.d8.length<=1000000):rl prog cx b 149 [a.t]=D (vk a):=iF ht Se a hl
section
def Bm:iE:=⟨fJ,λa=>[a.t],λa=>True,λa=> .ej (li a),λa c b=>by simp at b;rw[fJ.inj b]⟩
def Ez{w:fJ}:vY w↔(w.cells.length<=12/\w.fQ.length<=4/\w.je.length<=2/\w.fI.length<=2/\w.jL.length<=60/\1<=w.d8.length/\w.d8.length<=4):=by unfold vY;simp;omega
def sd{w:fJ}(a:¬(w.cells.length<=12/\w.fQ.length<=4/\w.je.length<=2/\w.fI.length<=2/\w.jL.length<=60/\1<=w.d8.length/\w.d8.length<=4)):li w=false:=by
 unfold li;have:vY w=false:=by rw[cO];exact λk=>a (Ez.1 k)
 rw[this];rfl
def r9(w:fJ)(k:Nat):Prop:=∃b a:Int,0<=b/\0<=a/\a<=k/\(k=0->b=0/\a=0)/\(∀d c,k=d+1->w.jL[d]? =D c->b=c.eG/\a=c.stmt+1)/\nI w.d8.length b a (w.jL.drop k)=nI w.d8.length 0 0 w.jL
def r9.zero(w:fJ):r9 w 0:=⟨0,0,V,V,V,V,V,V⟩
def r9.fin{w:fJ}(a:r9 w w.jL.length):nI w.d8.length 0 0 w.jL=true:=by obtain⟨c,d,_,_,_,_,_,b⟩:=a;rw[<-b,cq];rfl
section
variable {w:fJ}{k:Nat}{s:jE}
theorem r9.cons(h:r9 w k)(c:w.jL[k]? =D s):∃a b:Int,0<=a/\0<=b/\b<=k/\(k=0->a=0/\b=0)/\(∀f d,k=f+1->w.jL[f]? =D d->a=d.eG/\b=d.stmt+1)/\(if s.eG<a\/(w.d8.length:Int)<=s.eG then false else
 if a<s.eG then(if s.stmt=0 then nI w.d8.length s.eG 1 (w.jL.drop (k+1))else false)else(if s.stmt=b then nI w.d8.length a (b+1) (w.jL.drop (k+1))else false))=nI w.d8.length 0 0 w.jL:=by
 obtain⟨a,b,g,i,j,l,m,n⟩:=h;have e:k<w.jL.length:=by
  rcases aW k w.jL.length with h|h;exact h;rw[bY h]at c;simp at c
 have:w.jL[k]=s:=by rw[aF e]at c;simpa using c
 refine⟨a,b,g,i,j,l,m,?_⟩;rw[<-n,aL e,this,nI]
def r9.bad(a:r9 w k)(c:w.jL[k]? =D s)(i:s.eG<0\/(w.d8.length:Int)<=s.eG):nI w.d8.length 0 0 w.jL=false:=by have⟨j,l,d,e,f,g,h,b⟩:=a.cons c;rw[<-b,ax G]
def r9.next(n:r9 w k)(j:w.jL[k]? =D s)(o:0<=s.eG)(x:s.eG<w.d8.length)(p:(k=0/\s.stmt=0)\/∃b a,k=b+1/\w.jL[b]? =D a/\((a.eG=s.eG/\s.stmt=a.stmt+1)\/(a.eG<s.eG/\s.stmt=0))):r9 w (k+1):=by
 obtain⟨y,z,t0,A,B,u,r,c⟩:=n.cons j;have t:∀b a,k+1=b+1->w.jL[b]? =D a->a=s:=by
  intro b a g h;have:b=k:=G;subst this;rw[j]at h;simpa using h.symm
 have fin:∀d:Int,d=s.stmt+1->0<=d->d<=k+1->nI w.d8.length s.eG d (w.jL.drop (k+1))=nI w.d8.length 0 0 w.jL->r9 w (k+1):=by
  intro d e f v m;exact⟨s.eG,d,o,f,G,V,λb a g h=>by rw[t b a g h];exact⟨rfl,e⟩,m⟩
 rcases p with⟨rfl,l⟩|⟨b,a,rfl,g,q⟩;obtain⟨rfl,rfl⟩:=u rfl;rw[aw G]at c;refine fin 1 G G G ?_;rw[<-c];by_cases i:0<s.eG;rw[ax i,ax l];rw[aw i,ax l];have:s.eG=0:=G;rw[this];rfl;obtain⟨rfl,rfl⟩:=r b a rfl g;rcases q with⟨e,f⟩|⟨e,f⟩;rw[aw G,aw G,ax f]at c;refine fin (a.stmt+1+1) G G G ?_;rw[<-c,e];rw[aw G,ax e,ax f]at c;exact fin 1 G G G c
def r9.no(e:r9 w k)(m:w.jL[k]? =D s)(f:(k=0/\s.stmt≠0)\/∃b a,k=b+1/\w.jL[b]? =D a/\((a.eG=s.eG/\s.stmt≠a.stmt+1)\/s.eG<a.eG\/(a.eG≠s.eG/\s.stmt≠0))):nI w.d8.length 0 0 w.jL=false:=by have⟨o,p,t0,q,r,n,l,i⟩:=e.cons m;rw[<-i];rcases f with⟨rfl,d⟩|⟨b,a,rfl,g,j⟩;obtain⟨rfl,rfl⟩:=n rfl;rw[aw d,aw d];simp;obtain⟨rfl,rfl⟩:=l b a rfl g;rcases j with⟨e1,c⟩|e1|⟨e1,c⟩;rw[aw c,aw (show¬a.eG<s.eG by omega)];simp;rw[ax (.inl e1)];by_cases h:s.eG<a.eG;rw[ax (.inl h)];rw[aw c,ax (show a.eG<s.eG by omega)];simp
def r9.rng(c:r9 w k){b:Nat}{a:jE}(e:k=b+1)(d:w.jL[b]? =D a):0<=a.stmt+1/\a.stmt+1<=k:=by obtain⟨l,m,t0,g,h,j,f,i⟩:=c;obtain⟨_,rfl⟩:=f b a e d;exact⟨g,h⟩
end
def RT:Bm.Ok prog cx 95:=by
 refine iz [(149,xf),(150,Cm),(151,Gt)] (js 95827739445721067874190659254502973333984266632037375 [] func95) (λa=>100) (by simp[Bm]) ?_;rintro(w:fJ) _ l r;simp[Bm]at r|-;by_cases cp:w.cells.length<=12;rotate_left;simp[f95,r,show(12:Int)<w.cells.length by omega,sd (w:=w) G];have H:¬(12:Int)<w.cells.length:=G;by_cases cv:w.fQ.length<=4;rotate_left;simp[f95,r,H,show(4:Int)<w.fQ.length by omega,sd (w:=w) G];have M:¬(4:Int)<w.fQ.length:=G;by_cases cL:w.je.length<=2;rotate_left;simp[f95,r,H,M,show(2:Int)<w.je.length by omega,sd (w:=w) G];have O:¬(2:Int)<w.je.length:=G;by_cases cX:w.fI.length<=2;rotate_left;simp[f95,r,H,M,O,show(2:Int)<w.fI.length by omega,sd (w:=w) G];have W:¬(2:Int)<w.fI.length:=G;by_cases c4:1<=w.d8.length;rotate_left;simp[f95,r,H,M,O,W,show(w.d8.length:Int)<1 by omega,sd (w:=w) G];have av:¬(w.d8.length:Int)<1:=G;by_cases c6:w.d8.length<=4;rotate_left;simp[f95,r,H,M,O,W,av,show(4:Int)<w.d8.length by omega,sd (w:=w) G];have bi:¬(4:Int)<w.d8.length:=G;by_cases c1:w.jL.length<=60;rotate_left;simp[f95,r,H,M,O,W,av,bi,show(60:Int)<w.jL.length by omega,sd (w:=w) G];have bS:¬(60:Int)<w.jL.length:=G;have o:li w=(FQ w&&(w.je.all λE=>xy w E.mN false)&&nI w.d8.length 0 0 w.jL):=by
  unfold li;rw[Ez.2 ⟨cp,cv,cL,cX,c1,c4,c6⟩,bj]
 have bZ:=λ{bN:ik} (ht:bN.p 149=D xf)=>Wr ht w ⟨G,G,G,G,G⟩;cases ap:jW w.cells with
 |none=>
  have hr:li w=false:=by rw[o];unfold FQ;rw[ap];rfl
  have bp:vk w= .tuple [.jb,.ej false]:=by unfold vk;rw[ap]
  simp[f95,r,H,M,O,W,bS,av,bi,bZ,bp,hr]
 |some v=>
  have bp:vk w= .tuple [sl ((uI w v).map T.str),.ej true]:=by unfold vk;rw[ap]
  have ea:=Iw _ _ (az _) v ap;have dm:FQ w=zL (uI w v):=by unfold FQ;rw[ap]
  have ds:(uI w v).length<=24:=by unfold uI;simp;omega
  rw[dm]at o;generalize uI w v=d at*
  simp[f95,r,H,M,O,W,bS,av,bi,bZ,bp];refine gW d.length G (λk l h=>iS 1 h/\h.get 0=D (dU 6 0 [w.t])/\TI.Y l 1=D (dY 0)/\TI.Y l 3=D (sl (d.map T.str))/\TI.Y l 5=D (J k)/\(d.take k).all xv/\(d.take k).Nodup) ?_ ?_ G ?_;rintro k l h F N ⟨c,e,f,X,Z,aA,aX⟩;have i:(k:Int)<d.length:=G;have de:d[k]∈d:=aH F;have di:d=d.take k++d[k]::d.drop (k+1):=by rw[<-aL F,da]
  have dk:d.take (k+1)=d.take k++[d[k]]:=aT F;have bC:d[k]? =D d[k]:=aF F;generalize d[k]=A at*
  have bX:=λ{bN:ik} (ht:bN.p 151=D Gt)=>Tu ht (d.take k) A (by rw[List.length_take];omega);have b7:k<=d.length:=G;cases S:xv A;have hr:li w=false:=by
   rw[o];have:zL d=false:=by
    unfold zL;have:d.all xv=false:=by rw[List.all_eq_false];exact⟨A,de,by simp[S]⟩
    rw[this];rfl
   rw[this];rfl
  simp[X,Z,i,bC,tg,S,hr,c.hp];by_cases aE:A∈d.take k;have hr:li w=false:=by
   rw[o];have:zL d=false:=by
    unfold zL;have:¬d.Nodup:=by
     rw[di];intro h;exact(List.nodup_append.1 h).2.2 A aE A V rfl
    rw[aS this];simp
   rw[this];rfl
  have bs:(0<=vN (d.take k) A 0)=True:=by rw[KU];simp[aE]
  simp[X,Z,i,bC,tg,S,bX,b7,bs,hr,c.hp];have bs:(0<=vN (d.take k) A 0)=False:=by rw[KU];simp[aE]
  simp[e,f,X,Z,i,bC,tg,S,bX,b7,bs,N];rw[dk];refine⟨c,?_,?_⟩;intro y K;rcases List.mem_append.1 K with K|K
  exact List.all_eq_true.1 aA y K;simp at K;subst K;exact S;rw[List.nodup_append];exact⟨aX,V,λa r b o=>by simp at o;subst o;exact λh=>aE (h▸r)⟩;rotate_left
  .simp
   first|done|exact⟨V,V,V⟩
  rintro l h ⟨c,e,f,X,Z,aA,aX⟩;rw[aM]at aA aX;have c9:zL d:=by unfold zL;rw[aA,bh aX];rfl
  rw[c9,bj]at o;simp[X,Z];refine gW w.je.length G (λk l h=>iS 1 h/\h.get 0=D (dU 6 0 [w.t])/\TI.Y l 1=D (dY 0)/\TI.Y l 6=D (J k)/\
   (w.je.drop k).all (λE=>xy w E.mN false)=w.je.all λE=>xy w E.mN false) ?_ ?_ G ?_
  rintro k l h F N ⟨c,e,f,P,C⟩;have i:(k:Int)<w.je.length:=G;have g:w.je[k]? =D w.je[k]:=aF F;rw[aL F,cA]at C;generalize w.je[k]=E at*
  obtain⟨cn,L⟩:=E
  dsimp at C
  by_cases bu:jx L w.fQ.length=true;obtain⟨A,b9,K⟩:=jm bu;have an:=fT.1 bu;have j:¬L<0:=G;have m:¬(w.fQ.length:Int)<=L:=G;have aN:xy w L false= !A.rW:=by unfold xy;rw[K];simp
  cases a7:A.rW;rw[aN,a7]at C;simp[e,f,P,i,g,j,m,fO an.1,b9,a7,N];exact⟨c,iD C⟩;rw[aN,a7]at C;have hr:li w=false:=by rw[o,<-C];rfl
  simp[e,f,P,i,g,j,m,fO an.1,b9,a7,hr,c.hp];have an:jx L w.fQ.length=false:=iD bu;have S:=sw an;have aN:xy w L false=false:=by unfold xy;rw[pT an]
  rw[aN]at C;have hr:li w=false:=by rw[o,<-C];rfl
  by_cases j:L<0;simp[e,f,P,i,g,j,hr,c.hp];have m:(w.fQ.length:Int)<=L:=G;simp[e,f,P,i,g,j,m,hr,c.hp];rotate_left;simp[f,e];exact c;rintro l h ⟨c,e,f,P,C⟩;have c7:(w.je.all λE=>xy w E.mN false):=by rw[<-C];simp
  rw[c7,bj]at o;simp[e,f,P];have R:nI w.d8.length 0 0 w.jL=false->li w=false:=λh=>by rw[o,h]
  refine gW w.jL.length G (λk l h=>iS 1 h/\h.get 0=D (dU 6 0 [w.t])/\TI.Y l 1=D (dY 0)/\TI.Y l 8=D (J k)/\r9 w k) ?_ ?_ G ?_;rintro k l h F N ⟨c,e,f,u,q⟩;have i:(k:Int)<w.jL.length:=G;have g:w.jL[k]? =D w.jL[k]:=aF F;have I:=c.ne (b:=0) G;generalize w.jL[k]=s at*
  obtain⟨a8,bH,ec⟩:=s;by_cases j:a8<0;have hr:=R (q.bad g (.inl j));simp[e,f,u,i,g,c.low,j,hr,c.hp];by_cases m:(w.d8.length:Int)<=a8;have hr:=R (q.bad g (.inr m));simp[e,f,u,i,g,I,c.low,j,m,hr,c.hp];by_cases bA:k=0;have b6:(k=0)=True:=by simp[bA]
  have dd:(0<k)=False:=dP;by_cases n:bH=0;have ae:=q.next g dQ dQ (.inl ⟨bA,n⟩);subst n;simp[e,f,u,i,g,I,c.low,j,m,b6,dd,N];exact⟨c.cons _,ae⟩;have hr:=R (q.no g (.inl ⟨bA,n⟩));simp[e,f,u,i,g,I,c.low,j,m,b6,n,hr,c.hp];obtain⟨z,Q⟩:∃z,k=z+1:=⟨k-1,G⟩;have x:w.jL[z]? =D w.jL[z]:=aF G;generalize w.jL[z]=dn at*
  have b8:=q.rng Q x;have U:=lK (a:=(k:Int)) (b:=1) G G;rw[show(k:Int)-1=(z:Int)by omega]at U;obtain⟨cb,ca,eb⟩:=dn;have bW:=jf (a:=ca) (b:=1) (by dsimp at b8;omega) (by dsimp at b8;omega);have al:(k=0)=False:=dP;have bT:(0<k)=True:=dP;by_cases n:cb=a8;by_cases B:bH=ca+1;have ae:=q.next g dQ dQ (.inr ⟨z,_,Q,x,.inl ⟨n,B⟩⟩);subst n B;simp[e,f,u,i,g,I,c.low,j,m,al,U,x,bW,N];exact⟨c.cons _,ae⟩;have hr:=R (q.no g (.inr ⟨z,_,Q,x,.inl ⟨n,B⟩⟩));subst n;simp[e,f,u,i,g,I,c.low,j,m,al,U,x,bW,B,hr,c.hp];by_cases B:bH=0;by_cases bn:a8<cb;have hr:=R (q.no g (.inr ⟨z,_,Q,x,.inr (.inl bn)⟩));subst B;simp[e,f,u,i,g,I,c.low,j,m,al,bT,U,x,n,bn,hr,c.hp];have ae:=q.next g dQ dQ (.inr ⟨z,_,Q,x,.inr ⟨dQ,B⟩⟩);subst B;simp[e,f,u,i,g,I,c.low,j,m,al,bT,U,x,n,bn,N];exact⟨c.cons _,ae⟩;have hr:=R (q.no g (.inr ⟨z,_,Q,x,.inr (.inr ⟨n,B⟩)⟩));simp[e,f,u,i,g,I,c.low,j,m,al,U,x,n,B,hr,c.hp];rintro l h ⟨c,e,f,u,q⟩;have hr:li w:=by rw[o,q.fin]
  simp[e,f,u,hr,c.hp];simp[f,e];exact⟨c,r9.zero w⟩
def C1{a:ik}(ht:a.p 95=D Bm)(w:fJ):rl prog cx a 95 [w.t]=D (.ej (li w)):=iF ht RT w trivial
