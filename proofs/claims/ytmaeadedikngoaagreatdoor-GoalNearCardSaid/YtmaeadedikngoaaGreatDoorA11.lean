/- Texts TiMerge to TiCutI. -/
import Derived.Test.YtmaeadedikngoaaGreatDoorA10
set_option linter.all false
namespace Go.TI
noncomputable section
attribute [-simp] eQ dZ
def gT(a:Bool)(b:T):T:=match a with|true=>b|false=> .undef
def Zh(a:Bool)(b c:T):T:=match a with|true=>b|false=>c
@[simp] theorem Zg (b:Bool) (a:T):Zh b a a=a:=by cases b<;>rfl
@[simp] theorem adC (a:Bool) (b:T):Zh a b .undef=gT a b:=by cases a<;>rfl
@[simp] theorem adB (a:Bool) (b:T):Zh a .undef b=gT (!a) b:=by cases a<;>rfl
@[simp] theorem adD (a b c:Bool):Zh a (.bool b) (.bool c)= .bool (bif a then b else c):=by cases a<;>rfl
def UH(a:Bool)(b c:fN):fN:=match a with|true=>b|false=>c
@[simp] theorem Ze (b:Bool) (a:fN):UH b a a=a:=by cases b<;>rfl
@[simp] theorem Zf (a:Bool) (b:Nat) (e g:T) (c d:fN):UH a (.cons b e c) (.cons b g d)= .cons b (Zh a e g) (UH a c d):=by cases a<;>rfl
def uE:fN->Nat->T->fN
 | .nil,_,_=> .nil
 | .cons a e b,c,d=>if a=c then .cons a d b else .cons a e (uE b c d)
@[simp] theorem KZ (a c:Nat) (e d:T) (b:fN):uE (.cons a e b) c d=if a=c then .cons a d b else .cons a e (uE b c d):=id rfl
def sP:∀{c:fN} {b:Nat} {d:T},dH c b=some d->uE c b d=c
 | .nil,_,_,_=>rfl
 | .cons e i g,b,d,h=>by
  rw[kY]at h;rw[KZ];by_cases a:e=b
  ·rw[aq a]at h;simp only[ar]at h;rw[aq a,h]
  ·rw[ao a]at h;rw[ao a,sP h]
def CO(a:Nat):List Oper->List Oper
 | []=>[]
 |o::c=>match o.guard with|some (b,_)=>if a<=b then o::CO a c else []|none=>[]
def Kh(b:Nat):List Oper->List Oper
 | []=>[]
 |o::a=>match o.guard with|some (c,_)=>if b<=c then Kh b a else o::a|none=>o::a
def MB(b:Nat):∀a,CO b a++Kh b a=a
 | []=>rfl
 |o::a=>by
  unfold CO Kh;cases o.guard with
  |none=>rfl
  |some c=>
   simp only;split
   ·rw[cG,MB b a]
   ·rfl
section
variable {cx:Ctx}{cf:iL}{mask:Nat}
@[simp] theorem adv (c:Nat) (b:aa Tmp) (e:Op) (i:ab) (g:String) (a:af Edge) (d:List Oper):CO c (⟨b,e,i,g,a,none⟩::d)=[]:=id rfl
@[simp] theorem adN (i:Nat) (b:aa Tmp) (d:Op) (g:ab) (e:String) (a:af Edge) (c:List Oper):Kh i (⟨b,d,g,e,a,none⟩::c)=⟨b,d,g,e,a,none⟩::c:=id rfl
@[simp] theorem adw (a b:Nat) (d:Bool) (e:aa Tmp) (i:Op) (k:ab) (j:String) (c:af Edge) (g:List Oper):CO a (⟨e,i,k,j,c,some (b,d)⟩::g)=if a<=b then⟨e,i,k,j,c,some (b,d)⟩::CO a g else []:=id rfl
@[simp] theorem adO (a b:Nat) (e:Bool) (g:aa Tmp) (i:Op) (k:ab) (j:String) (d:af Edge) (c:List Oper):Kh a (⟨g,i,k,j,d,some (b,e)⟩::c)=if a<=b then Kh a c else⟨g,i,k,j,d,some (b,e)⟩::c:=id rfl
def uR(a:af Oper)(c:Oper)(g:List Oper)(b:Env)(h:H):
 ke cx cf mask a (c::g) b h=dM (xI cx cf mask a b h c) λi=>two i λj e=>dM (b.dst mask c.dst j) λd=>ke cx cf mask a g d e:=by
 show(dM (kV cx cf mask a b h c) λi=>two i λd e=>ke cx cf mask a g d e)=_;rw[qd]
def sh(b:af Oper):∀(c d:List Oper) (a:Env) (h:H),ke cx cf mask b (c++d) a h=dM (ke cx cf mask b c a h) λi=>two i λe g=>ke cx cf mask b d e g
 | [],_,_,_=>rfl
 |o::c,d,a,h=>by
  rw[cG,uR,uR];cases xI cx cf mask b a h o with
  |none=>rfl
  |some i=>
   obtain⟨j,g⟩:=i;simp only[dR,kf];cases a.dst mask o.dst j with
   |none=>rfl
   |some e=>simp only[dR];exact sh b c d e g
def qf(cx:Ctx)(cf:iL)(mask:Nat)(b:af Oper)(a:List Oper)(d c:fN)(h:H):aa (Env×H):=ke cx cf mask b a ⟨d,c⟩ h
def SG(l:aa (T×H))(cx:Ctx)(cf:iL)(mask:Nat)(e:af Oper)(a:aa Tmp)(d:List Oper)(k i:fN):aa (Env×H):=
 dM l λg=>two g λj c=>dM (Env.dst mask ⟨k,i⟩ a j) λb=>ke cx cf mask e d b c
@[simp] theorem Yt (c:af Oper) (b a:fN) (h:H):qf cx cf mask c [] b a h=some (⟨b,a⟩,h):=id rfl
def OP(d b:fN)(a:Tmp)(c:T):Env.dst mask ⟨d,b⟩ (some a) c=some (if(mask>>>a)&&&1=1 then⟨put d a c,b⟩else⟨d,.cons a c b⟩):=by
 show @Bool.rec (λ_=>aa Env) (some ⟨d,.cons a c b⟩) (dM (lr d a c) λe=>some ⟨e,b⟩) (jW mask a)=_;rw[oG];have:=BS mask a;cases hl:jW mask a with
 |true=>rw[aq (by rw[<-this];exact hl)];rfl
 |false=>rw[ao (by rw[<-this,hl];simp)]
@[simp] theorem abC (e:T) (h:H) (c:af Oper) (a:Tmp) (b:List Oper) (g d:fN):SG (some (e,h)) cx cf mask c (some a) b g d=
 if(mask>>>a)&&&1=1 then qf cx cf mask c b (put g a e) d h else qf cx cf mask c b g (.cons a e d) h:=by
 unfold SG;rw[dR,kf,OP,dR];split<;>rfl
def G3(o:aa Tmp)(i:aa Bool)(m:Nat)(l:Bool)(cx:Ctx)(cf:iL)(mask:Nat)(g:af Oper)(c:aa Tmp)(e:Op)(p:ab)(n:String)(k:af Edge)(d:List Oper)(b a:fN)(h:H):aa (Env×H):=
 SG (dM i λj=> @Bool.rec (λ_=>aa (T×H)) (some (.undef,h)) (fin cf h (ja e cx mask ⟨b,a⟩ h)) j) cx cf mask g c d b a
def Ic(a:af Oper)(j:aa Tmp)(k:Op)(m:ab)(l:String)(i:af Edge)(c:Nat)(b:Bool)(d:List Oper)(g e:fN)(h:H)(n:aa Tmp):
 qf cx cf mask a (⟨j,k,m,l,i,some (c,b)⟩::d) g e h=G3 n (j9 a mask ⟨g,e⟩ (some (c,b))) c b cx cf mask a j k m l i d g e h:=uR a _ d _ h
@[simp] theorem FS (b:List Oper) (i:aa Tmp) (k:Op) (m:ab) (l:String) (g:af Edge) (a:Nat) (c:Bool) (j:List Oper) (e d:fN) (h:H):
 qf cx cf mask b.toArray (⟨i,k,m,l,g,some (a,c)⟩::j) e d h=G3 (dM (b[a]?) λn=>n.dst) (j9 b.toArray mask ⟨e,d⟩ (some (a,c))) a c cx cf mask b.toArray i k m l g j e d h:=Ic b.toArray i k m l g a c j e d h _
@[simp] theorem abI (m:aa Tmp) (k:Nat) (j:Bool) (g:af Oper) (c:aa Tmp) (e:Op) (n:ab) (l:String) (i:af Edge) (d:List Oper) (b a:fN) (h:H):G3 m (some true) k j cx cf mask g c e n l i d b a h=SG (fin cf h (ja e cx mask ⟨b,a⟩ h)) cx cf mask g c d b a:=id rfl
@[simp] theorem aat (m:aa Tmp) (j:Nat) (i:Bool) (c:af Oper) (a:aa Tmp) (k:Op) (n:ab) (l:String) (g:af Edge) (b:List Oper) (e d:fN) (h:H):G3 m (some false) j i cx cf mask c a k n l g b e d h=SG (some (.undef,h)) cx cf mask c a b e d:=id rfl
def VY(a:Bool)(g i:aa (Env×H))(cx:Ctx)(cf:iL)(mask:Nat)(c:af Oper)(e:List Oper):aa (Env×H):=dM (bif a then g else i) λd=>two d λb h=>ke cx cf mask c e b h
@[congr] theorem Xa {a b:Bool} {g i j k:aa (Env×H)} {c:af Oper} {d e:List Oper} (l:a=b) (m:g=i) (n:j=k) (hr:d=e):VY a g j cx cf mask c d=VY b i k cx cf mask c e:=by rw[l,m,n,hr]
@[simp] theorem abP (a:Bool) (g d i e:fN) (h:H) (b:af Oper) (c:List Oper):VY a (some (⟨g,d⟩,h)) (some (⟨i,e⟩,h)) cx cf mask b c=qf cx cf mask b c (UH a g i) (UH a d e) h:=by cases a<;>rfl
def Kg{e c:fN}{a:Tmp}{d:T}(g:(mask>>>a)&&&1=0)(b:Env.get mask ⟨e,c⟩ a=some d):dH c a=some d:=by
 rw[AV,ao dq]at b;exact b
def MT{b:List Oper}{g:Tmp}{i:Bool}{a:List Oper}{d c:fN}{h:H}(e:Nat)(n:(mask>>>g)&&&1=0)(m:Env.get mask ⟨d,c⟩ g=some (.bool i)):
 qf cx cf mask b.toArray a d c h=VY i (qf cx cf mask b.toArray (CO e a) d (uE c g (.bool true)) h) (qf cx cf mask b.toArray (CO e a) d (uE c g (.bool false)) h) cx cf mask b.toArray (Kh e a):=by
 have j:=Kg n m;have:qf cx cf mask b.toArray a d c h=dM (qf cx cf mask b.toArray (CO e a) d c h) λo=>two o λk l=>ke cx cf mask b.toArray (Kh e a) k l:=by
  show ke cx cf mask b.toArray a ⟨d,c⟩ h=_
  conv=>lhs;rw[<-MB e a]
  exact sh _ _ _ _ _
 rw[this];cases i
 ·conv=>lhs;rw[<-sP j]
  rfl
 ·conv=>lhs;rw[<-sP j]
  rfl
def PW(d:List Oper)(b:Tmp)(o:Bool)(a:Nat)(c:Bool)(g:aa Tmp)(j:Op)(l:ab)(k:String)(e:af Edge)(i:List Oper)(n m:fN)(h:H)(r:Bool)
 (s:(mask>>>b)&&&1=0) (p:(dM (d[a]?) λu=>u.dst)=some b) (q:Env.get mask ⟨n,m⟩ b=some (.bool o)) (t:r=(o==c)):
 G3 (some b) (some r) a c cx cf mask d.toArray g j l k e i n m h=
  VY o (qf cx cf mask d.toArray (CO a (⟨g,j,l,k,e,some (a,c)⟩::i)) n (uE m b (.bool true)) h) (qf cx cf mask d.toArray (CO a (⟨g,j,l,k,e,some (a,c)⟩::i)) n (uE m b (.bool false)) h) cx cf mask d.toArray (Kh a (⟨g,j,l,k,e,some (a,c)⟩::i)):=by
 subst t;rw[<-MT a s q,FS,p,A9,p,dR,q,A8]
@[simp low] theorem abJ (c:List Oper) (b:Tmp) (e:Bool) (a:Nat) (g:aa Tmp) (j:Op) (l:ab) (k:String) (d:af Edge) (i:List Oper) (n m:fN) (h:H)
 (q:(mask>>>b)&&&1=0) (o:(dM (c[a]?) λr=>r.dst)=some b) (p:Env.get mask ⟨n,m⟩ b=some (.bool e)):
 G3 (some b) (some e) a true cx cf mask c.toArray g j l k d i n m h=
  VY e (qf cx cf mask c.toArray (CO a (⟨g,j,l,k,d,some (a,true)⟩::i)) n (uE m b (.bool true)) h) (qf cx cf mask c.toArray (CO a (⟨g,j,l,k,d,some (a,true)⟩::i)) n (uE m b (.bool false)) h) cx cf mask c.toArray (Kh a (⟨g,j,l,k,d,some (a,true)⟩::i)):=
 PW c b e a true g j l k d i n m h e q o p dt 
@[simp low] theorem abK (d:List Oper) (b:Tmp) (c:Bool) (a:Nat) (g:aa Tmp) (j:Op) (l:ab) (k:String) (e:af Edge) (i:List Oper) (n m:fN) (h:H)
 (q:(mask>>>b)&&&1=0) (o:(dM (d[a]?) λr=>r.dst)=some b) (p:Env.get mask ⟨n,m⟩ b=some (.bool !c)):
 G3 (some b) (some c) a false cx cf mask d.toArray g j l k e i n m h=
  VY (!c) (qf cx cf mask d.toArray (CO a (⟨g,j,l,k,e,some (a,false)⟩::i)) n (uE m b (.bool true)) h) (qf cx cf mask d.toArray (CO a (⟨g,j,l,k,e,some (a,false)⟩::i)) n (uE m b (.bool false)) h) cx cf mask d.toArray (Kh a (⟨g,j,l,k,e,some (a,false)⟩::i)):=
 PW d b (!c) a false g j l k e i n m h c q o p (by cases c<;>rfl)
def G2(o:aa Tmp)(j:aa Bool)(m:Nat)(l:Bool)(cx:Ctx)(cf:iL)(mask:Nat)(e:af Oper)(b:aa Tmp)(d:Op)(p:ab)(n:String)(k:af Edge)(c:List Oper)(i g:fN)(h:H)(a:iB):Prop:=GK j cx cf mask e b d c i g h a
@[simp] theorem Me (b:List Oper) (j:aa Tmp) (l:Op) (n:ab) (m:String) (i:af Edge) (a:Nat) (c:Bool) (k:List Oper) (e d:fN) (h:H) (g:iB):
 RK cx cf mask b.toArray (⟨j,l,n,m,i,some (a,c)⟩::k) e d h g=G2 (dM (b[a]?) λo=>o.dst) (j9 b.toArray mask ⟨e,d⟩ (some (a,c))) a c cx cf mask b.toArray j l n m i k e d h g:=eQ b.toArray j l n m i a c k e d h g
@[simp] theorem abL (n:aa Tmp) (l:Nat) (k:Bool) (i:af Oper) (d:aa Tmp) (g:Op) (o:ab) (m:String) (j:af Edge) (e:List Oper) (b a:fN) (h:H) (c:iB):G2 n (some true) l k cx cf mask i d g o m j e b a h c=XK (fin cf h (ja g cx mask ⟨b,a⟩ h)) cx cf mask i d e b a c:=id rfl
@[simp] theorem aau (n:aa Tmp) (k:Nat) (j:Bool) (d:af Oper) (b:aa Tmp) (l:Op) (o:ab) (m:String) (i:af Edge) (c:List Oper) (g e:fN) (h:H) (a:iB):G2 n (some false) k j cx cf mask d b l o m i c g e h a=XK (some (.undef,h)) cx cf mask d b c g e a:=by
 unfold XK;rw[yD];rfl
def BG(c:Bool)(g i:aa (Env×H))(cx:Ctx)(cf:iL)(mask:Nat)(d:af Oper)(e:List Oper)(b:iB):Prop:=
 (c=true->∃a h,g=some (a,h)/\RK cx cf mask d e a.vars a.tmps h b)/\(c=false->∃a h,i=some (a,h)/\RK cx cf mask d e a.vars a.tmps h b)
@[congr] theorem aaB {b c:Bool} {i j k l:aa (Env×H)} {d:af Oper} {e g:List Oper} {a:iB} (m:b=c) (n:i=j) (o:k=l) (hr:e=g):BG b i k cx cf mask d e a=BG c j l cx cf mask d g a:=by rw[m,n,o,hr]
@[simp] theorem adn (c:Bool) (l j m k:fN) (h:H) (g:af Oper) (i:List Oper) (e:iB):BG c (some (⟨l,j⟩,h)) (some (⟨m,k⟩,h)) cx cf mask g i e=RK cx cf mask g i (UH c l m) (UH c j k) h e:=by
 unfold BG;apply propext;cases c
 ·constructor
  ·intro a;obtain⟨n,o,b,hr⟩:=a.2 rfl;simp only[ar,ay]at b;obtain⟨rfl,rfl⟩:=b;exact hr
  ·exact λa=>⟨λd=>by simp at d,λ_=>⟨_,_,rfl,a⟩⟩
 ·constructor
  ·intro a;obtain⟨n,o,b,hr⟩:=a.1 rfl;simp only[ar,ay]at b;obtain⟨rfl,rfl⟩:=b;exact hr
  ·exact λa=>⟨λ_=>⟨_,_,rfl,a⟩,λd=>by simp at d⟩
def VP(e:af Oper)(g q:List Oper)(j i:fN)(h:H)(k:iB):RK cx cf mask e (g++q) j i h k=∃l a,qf cx cf mask e g j i h=some (l,a)/\RK cx cf mask e q l.vars l.tmps a k:=by
 apply propext;show(∃b a,ke cx cf mask e (g++q) ⟨j,i⟩ h=some (b,a)/\k.n ⟨b.vars,.nil⟩ a)↔_;rw[sh];constructor
 ·rintro⟨b,a,c,p⟩;obtain⟨⟨m,o⟩,d,c⟩:=dD.1 c;exact⟨m,o,d,b,a,c,p⟩
 ·rintro⟨m,o,d,b,a,c,p⟩;have d:ke cx cf mask e g ⟨j,i⟩ h=some (m,o):=d;exact⟨b,a,by rw[d];exact c,p⟩
def PX(j:List Oper)(l:Tmp)(p:Bool)(a:Nat)(b:Bool)(d:aa Tmp)(i:Op)(m:ab)(k:String)(c:af Edge)(g:List Oper)(o n:fN)(h:H)(q:iB)(v:Bool)
 (x:(mask>>>l)&&&1=0) (s:(dM (j[a]?) λz=>z.dst)=some l) (t:Env.get mask ⟨o,n⟩ l=some (.bool p)) (y:v=(p==b)):
 G2 (some l) (some v) a b cx cf mask j.toArray d i m k c g o n h q=
  BG p (qf cx cf mask j.toArray (CO a (⟨d,i,m,k,c,some (a,b)⟩::g)) o (uE n l (.bool true)) h) (qf cx cf mask j.toArray (CO a (⟨d,i,m,k,c,some (a,b)⟩::g)) o (uE n l (.bool false)) h) cx cf mask j.toArray (Kh a (⟨d,i,m,k,c,some (a,b)⟩::g)) q:=by
 subst y;have u:=Kg x t;have w:G2 (some l) (some (p==b)) a b cx cf mask j.toArray d i m k c g o n h q=RK cx cf mask j.toArray (⟨d,i,m,k,c,some (a,b)⟩::g) o n h q:=by
  rw[Me,s,A9,s,dR,t,A8]
 rw[w]
 conv=>lhs;rw[<-MB a (⟨d,i,m,k,c,some (a,b)⟩::g)]
 rw[VP];unfold BG;apply propext;cases p
 ·conv=>lhs;rw[<-sP u]
  exact⟨λe=>⟨λr=>by simp at r,λ_=>e⟩,λe=>e.2 rfl⟩
 ·conv=>lhs;rw[<-sP u]
  exact⟨λe=>⟨λ_=>e,λr=>by simp at r⟩,λe=>e.1 rfl⟩
@[simp low] theorem abM (c:List Oper) (b:Tmp) (e:Bool) (a:Nat) (g:aa Tmp) (j:Op) (l:ab) (k:String) (d:af Edge) (i:List Oper) (n m:fN) (h:H) (o:iB)
 (r:(mask>>>b)&&&1=0) (p:(dM (c[a]?) λs=>s.dst)=some b) (q:Env.get mask ⟨n,m⟩ b=some (.bool e)):
 G2 (some b) (some e) a true cx cf mask c.toArray g j l k d i n m h o=
  BG e (qf cx cf mask c.toArray (CO a (⟨g,j,l,k,d,some (a,true)⟩::i)) n (uE m b (.bool true)) h) (qf cx cf mask c.toArray (CO a (⟨g,j,l,k,d,some (a,true)⟩::i)) n (uE m b (.bool false)) h) cx cf mask c.toArray (Kh a (⟨g,j,l,k,d,some (a,true)⟩::i)) o:=
 PX c b e a true g j l k d i n m h o e r p q dt 
@[simp low] theorem abN (d:List Oper) (b:Tmp) (c:Bool) (a:Nat) (g:aa Tmp) (j:Op) (l:ab) (k:String) (e:af Edge) (i:List Oper) (n m:fN) (h:H) (o:iB)
 (r:(mask>>>b)&&&1=0) (p:(dM (d[a]?) λs=>s.dst)=some b) (q:Env.get mask ⟨n,m⟩ b=some (.bool !c)):
 G2 (some b) (some c) a false cx cf mask d.toArray g j l k e i n m h o=
  BG (!c) (qf cx cf mask d.toArray (CO a (⟨g,j,l,k,e,some (a,false)⟩::i)) n (uE m b (.bool true)) h) (qf cx cf mask d.toArray (CO a (⟨g,j,l,k,e,some (a,false)⟩::i)) n (uE m b (.bool false)) h) cx cf mask d.toArray (Kh a (⟨g,j,l,k,e,some (a,false)⟩::i)) o:=
 PX d b (!c) a false g j l k e i n m h o c r p q (by cases c<;>rfl)
def VZ{c:Bool}{g i:aa (Env×H)}{d:af Oper}{e:List Oper}{b:iB}(j:c=true->∃a h,g=some (a,h)/\RK cx cf mask d e a.vars a.tmps h b)(k:c=false->∃a h,i=some (a,h)/\RK cx cf mask d e a.vars a.tmps h b):BG c g i cx cf mask d e b:=⟨j,k⟩
def Ip{a d e:Bool}{h:H}{b c:aa lh}(g:a=true->b=some (.val (.bool d) h))(i:a=false->c=some (.val (.bool e) h)):mF (some (.bool a)) b c=some (.val (.bool (bif a then d else e)) h):=by
 cases a
 ·exact i rfl
 ·exact g rfl
@[simp] theorem aaO (a b:aa lh):mF (some (.bool true)) a b=a:=id rfl
@[simp] theorem YK (b a:aa lh):mF (some (.bool false)) b a=a:=id rfl
@[simp] theorem adz (a b c:Bool) (h:H):mF (some (.bool a)) (some (.val (.bool b) h)) (some (.val (.bool c) h))=some (.val (.bool (bif a then b else c)) h):=Ip (λ_=>rfl) (λ_=>rfl)
@[simp] theorem ady (a c d b:Bool) (h:H) (g:a=false->b=true):mF (some (.bool a)) (some (.val (.bool c) h)) (some (.val (gT b (.bool d)) h))=some (.val (.bool (bif a then c else d)) h):=Ip (λ_=>rfl) (λe=>by rw[g e];rfl)
@[simp] theorem adx (a c d b:Bool) (h:H) (g:a=true->b=true):mF (some (.bool a)) (some (.val (gT b (.bool c)) h)) (some (.val (.bool d) h))=some (.val (.bool (bif a then c else d)) h):=Ip (λe=>by rw[g e];rfl) (λ_=>rfl)
end
def jY(th:aj->aa kH):Op->Bool
 | .move _| .assign _| .pick .. | .load .. | .nilCheck _| .unOp .. | .binOp .. | .fieldAddr .. | .field .. | .indexAddr .. | .index .. | .extract .. | .slice .. =>true
 | .call b=>(match b.callee with
  | .builtin a=>(match a with| .len| .min| .max=>true|_=>false)
  | .value c=>(match c with| .func f=>(th f).isNone|_=>false)
  |_=>false)
 |_=>false
section
variable {th:aj->aa kH}
@[simp] theorem aaL (a:ah):jY th (.move a)=true:=id rfl
@[simp] theorem Wb (a:ah):jY th (.assign a)=true:=id rfl
@[simp] theorem aaK (a b c:ah):jY th (.pick a b c)=true:=id rfl
@[simp] theorem aaM (a:ab) (b:ah):jY th (.load a b)=true:=id rfl
@[simp] theorem SN (a:ah):jY th (.nilCheck a)=true:=id rfl
@[simp] theorem aaJ (a:UnOp) (b:ab) (c:ah):jY th (.unOp a b c)=true:=id rfl
@[simp] theorem YG (a:BinOp) (b:ab) (d e:ah) (c:ab):jY th (.binOp a b d e c)=true:=id rfl
@[simp] theorem QD (a:ab) (b:ah) (f:Nat):jY th (.fieldAddr a b f)=true:=id rfl
@[simp] theorem YD (a:ab) (b:ah) (f:Nat):jY th (.field a b f)=true:=id rfl
@[simp] theorem QC (a:ab) (b c:ah):jY th (.indexAddr a b c)=true:=id rfl
@[simp] theorem Uf (b:ah) (a:Nat):jY th (.extract b a)=true:=id rfl
@[simp] theorem YC (d:ab) (e:ah) (a b c:aa ah):jY th (.slice d e a b c)=true:=id rfl
@[simp] theorem YE (f:aj) (a:af ah) (b:af ab):jY th (.call ⟨.value (.func f),a,b⟩)=(th f).isNone:=id rfl
@[simp] theorem aca (a:af ah) (b:af ab):jY th (.call ⟨.builtin .len,a,b⟩)=true:=id rfl
@[simp] theorem ab9 (a:af ah) (b:af ab):jY th (.call ⟨.builtin .min,a,b⟩)=true:=id rfl
@[simp] theorem YH (a:ab):jY th (.alloc a)=false:=id rfl
@[simp] theorem YB (a:ab) (b c:ah):jY th (.store a b c)=false:=id rfl
@[simp] theorem YF (b:ab) (a:af (Nat×ah)):jY th (.build b a)=false:=id rfl
@[simp] theorem Qc (c:ab) (a:Nat) (b:af (Nat×ah)):jY th (.buildSlice c a b)=false:=id rfl
end
def Kp(th:aj->aa kH)(h:H)(e:aa lh):Prop:=∀a,e=some a->(∀d b,a= .val d b->b=h)/\∀f c,a= .call f c->th f=none
section
variable {th:aj->aa kH}{h:H}
def Kp.val(c:aa T):Kp th h (val h c):=by
 intro d a;obtain⟨e,_,a⟩:=dD.1 a;simp only[ar]at a;subst a;exact⟨λ_ _ b=>by simp at b;exact b.2.symm,λ_ _ b=>by simp at b⟩
def Kp.one(a:T):Kp th h (some (.val a h)):=Kp.val (some a)
def Kp.none:Kp th h none:=by intro b a;simp at a
def Kp.dM{α:Type}{e:aa α}{f:α->aa lh}(d:∀a,Kp th h (f a)):Kp th h (dM e f):=by
 intro c b;obtain⟨a,_,b⟩:=dD.1 b;exact d a c b
def Kp.fT{b:Bool}{a:aa lh}(e:Kp th h a):Kp th h (fT b a):=by
 intro c d;exact e c (dL.1 d).2
def Uo{o:Op}(d:jY th o=true)(cx:Ctx)(mask:Nat)(t:Env):Kp th h (ja o cx mask t h):=by
 cases o<;>first|(simp[jY]at d;done)|skip
 case move x=>exact Kp.val _
 case assign x=>exact Kp.val _
 case pick m k l=>
  rw[QZ];unfold mF;refine Kp.dM λa=> ?_;cases a<;>first|exact Kp.none|(rename_i b;cases b<;>exact Kp.val _)
 case load b k=>exact Kp.dM λ_=>Kp.dM λ_=>Kp.val _
 case nilCheck x=>exact Kp.dM λa=>by cases a<;>first|exact Kp.none|exact Kp.one _
 case unOp j b x=>exact Kp.dM λ_=>Kp.val _
 case binOp j b x q F=>
  cases j<;>first
   |exact Kp.dM λ_=>Kp.dM λ_=>Kp.val _
   |exact Kp.dM λ_=>Kp.dM λ_=>Kp.dM λ_=>Kp.fT (Kp.dM λ_=>Kp.val _)
 case fieldAddr b x f=>
  exact Kp.dM λv=>Kp.dM λa=>by
   cases a<;>first|exact Kp.none|exact Kp.dM λ_=>Kp.one _
 case field b x f=>
  exact Kp.dM λv=>Kp.dM λ_=>Kp.dM λa=>by
   cases a<;>first|exact Kp.none|exact Kp.dM λ_=>Kp.val _
 case indexAddr b x g=>
  exact Kp.dM λe=>Kp.dM λa=>Kp.dM λ_=>Kp.dM λg=>by
   cases e.u<;>first|exact Kp.none|(refine Kp.dM λy=> ?_;first
    |(cases a<;>first|exact Kp.none|exact Kp.dM λ_=>Kp.fT (Kp.one _)|exact Kp.fT (Kp.dM λ_=>Kp.fT (Kp.fT (Kp.dM λ_=>Kp.one _))))
    |(refine Kp.fT ?_;cases a<;>first|exact Kp.none|exact Kp.dM λ_=>Kp.one _|(refine Kp.dM λr=> ?_;cases Nat.beq r.sz y.size<;>first|exact Kp.dM λ_=>Kp.one _|exact Kp.fT (Kp.dM λ_=>Kp.one _))))
 case index b x g=>
  exact Kp.dM λe=>Kp.dM λa=>Kp.dM λ_=>Kp.dM λg=>by
   cases e.u<;>first|exact Kp.none|(cases a<;>first|exact Kp.none|exact Kp.dM λ_=>Kp.val _|exact Kp.dM λ_=>Kp.fT (Kp.dM λ_=>Kp.val _))
 case extract x g=>exact Kp.dM λa=>by cases a<;>first|exact Kp.none|exact Kp.val _
 case slice b x k l m=>exact Kp.dM λ_=>Kp.dM λ_=>Kp.fT (Kp.dM λ_=>Kp.dM λ_=>Kp.dM λ_=>Kp.fT (Kp.val _))
 rename_i m;obtain⟨s,z,E⟩:=m;cases s with
 |builtin l=>
  refine Kp.dM λn=> ?_;cases l<;>first
   |(simp[jY]at d;done)
   |(match n with
    | []=>exact Kp.none
    | [x]=>first|exact Kp.none|(refine Kp.dM λb=>Kp.dM λe=> ?_;cases e.u<;>first|exact Kp.none|exact Kp.val _|(cases x<;>first|exact Kp.none|exact Kp.val _))
    | [x,q]=>first|exact Kp.val _|exact Kp.none
    |x::q::G::n=>exact Kp.none)
 |value j=>
  cases j with
  |func f=>
   have w:(th f).isNone=true:=d;refine Kp.dM λn=> ?_;intro B c;obtain⟨a,p,c⟩:=dD.1 c;simp only[La,ar]at p;subst p;obtain⟨D,_,c⟩:=dD.1 c;simp only[ar]at c;subst c;exact⟨λ_ _ i=>by simp at i,λC k i=>by simp at i;rw[<-i.1];simpa using w⟩
  |_=>simp[jY]at d
 |_=>simp[jY]at d
end
section
variable {P:ai}{cx:Ctx}{tb:fy}{mask:Nat}
def OM{j:Op}(o:jY tb.h j=true){e:Env}{h:H}{k:T}{c:H}(a:fin (qp P cx tb) h (ja j cx mask e h)=some (k,c)):c=h:=by
 obtain⟨d,m,a⟩:=dD.1 a;obtain⟨p,q⟩:=Uo o cx mask e d m;rcases d with⟨t,r⟩|⟨f,b⟩
 ·simp only[ar,ay]at a;rw[<-a.2];exact p _ _ rfl
 ·have n:=q _ _ rfl;have a:qp P cx tb f b h=some (k,c):=a;have g:hl P cx tb f b h=none:=by unfold hl;rw[n]
  rw[Pd]at a;cases i:PC h b with
  |none=>rw[i,Pb,g]at a;simp at a
  |some l=>
   rw[i,Pa,g]at a;cases hr:rl P cx tb f l with
   |none=>rw[hr]at a;simp at a
   |some s=>
    rw[hr,Pc]at a;split at a
    ·simp only[ar,ay]at a;exact a.2.symm
    ·simp at a
def CH(j:af Oper)(l:List (Nat×Nat))(Q:fN->H->Prop):∀(i:List Oper) (g:Nat) (n:List (Nat×Nat)) (e:List (Nat×H×H)) (b a:fN) (h:H),(i.all λo=>jY tb.h o.op)=true->(∀k∈e,k.2.1=k.2.2)->
 Jr cx (qp P cx tb) mask j l i g n e b a h Q=WR cx (qp P cx tb) mask j i b a h Q
 | [],g,n,e,b,a,h,_,_=>by rw[KF,PR]
 |o::i,g,n,e,b,a,h,hp,q=>by
  simp only[cA,aB]at hp;rw[HI,FA];unfold xI;cases j9 j mask ⟨b,a⟩ o.guard with
  |none=>apply propext;constructor<;>(first|exact False.elim|(rintro⟨d,c,G,_⟩;simp[dM]at G))
  |some J=>
   rw[dR];cases J with
   |false=>
    rw[HJ,yD];congr 1;funext b a;exact CH j l Q i _ n e b a h hp.2 q
   |true=>
    rw[KG];apply propext;have y:∀d c,fin (qp P cx tb) h (ja o.op cx mask ⟨b,a⟩ h)=some (d,c)->
     ((DK cx mask l g n e o.op ⟨b,a⟩ h c λn e=>WD mask o.dst d b a λb a=>Jr cx (qp P cx tb) mask j l i (g+1) n e b a c Q)↔WD mask o.dst d b a λb a=>WR cx (qp P cx tb) mask j i b a c Q):=by
     intro d c C;have D:=OM hp.1 C;subst D;have E:∀p,mh l g p e:=λp k hp _=>by rw[q k hp];exact D8 p
     have F:∀u v d,o.op≠ .store u v d:=λu v d m=>by have:=hp.1;rw[m]at this;simp[jY]at this
     have x:∀t r,(∀k∈r,k.2.1=k.2.2)->((WD mask o.dst d b a λb a=>Jr cx (qp P cx tb) mask j l i (g+1) t r b a c Q)↔WD mask o.dst d b a λb a=>WR cx (qp P cx tb) mask j i b a c Q):=by
      intro t r z;rw[show(λb a=>Jr cx (qp P cx tb) mask j l i (g+1) t r b a c Q)=λb a=>WR cx (qp P cx tb) mask j i b a c Q from by funext b a;exact CH j l Q i _ t r b a c hp.2 z]
     unfold DK;split
     ·rw[I6];show(True/\_)/\(WD mask o.dst d b a λb a=>Jr cx (qp P cx tb) mask j l i (g+1) n (if kZ l g=true then(g,c,c)::e else e) b a c Q)↔_;have B:∀k∈(if kZ l g=true then(g,c,c)::e else e),k.2.1=k.2.2:=by
       split
       ·intro k hp;rcases List.mem_cons.1 hp with rfl|hp
        ·rfl
        ·exact q k hp
       ·exact q
      rw[x _ _ B];exact⟨λm=>m.2,λm=>⟨⟨trivial,λu v d p I=>absurd I (F u v d)⟩,m⟩⟩
     ·cases fU cx mask ⟨b,a⟩ c o.op with
      |none=>exact x _ _ q
      |some p=>simp only;rw[x _ _ q];exact⟨λm=>m.2,λm=>⟨E p,m⟩⟩
    show(∃d c,_/\_)↔∃d c,_/\_;constructor
    ·rintro⟨d,c,s,w⟩;exact⟨d,c,s,(y d c s).1 w⟩
    ·rintro⟨d,c,s,w⟩;exact⟨d,c,s,(y d c s).2 w⟩
@[simp high] theorem abE (a:List Oper) (d:List (Nat×Nat)) (b:fN) (h:H) (c:iB) (e:(a.all λi=>jY tb.h i.op)=true):QK cx (qp P cx tb) mask a (some d) b h c=RK cx (qp P cx tb) mask a.toArray a b .nil h c:=
 CH a.toArray d (λb h=>c.n ⟨b,.nil⟩ h) a 0 [] [] b .nil h e (λj g=>by simp at g)
end
def DJ(b:T):Prop:=∃a,b= .int .i64 a
@[simp] theorem aaX (a:Int):DJ (.int .i64 a)=True:=by simp[DJ]
section
variable {P:ai}{cx:Ctx}{f:aj}{α:Type}{A:α->List T}{pre:α->Prop}{Q:α->T->Prop}
noncomputable abbrev m6.jf(_:m6 P cx f A pre Q):gu:=wR P cx f A pre Q
def m6.use(c:m6 P cx f A pre Q)(a:α)(b:pre a):∃d,Q a d/\∀{tb:fy},tb.p f=some (wR P cx f A pre Q)->rl P cx tb f (A a)=some d:=⟨_,c.2 a b,λht=>gU ht c.1 a b⟩
end
section
variable {P:ai}{cx:Ctx}{f:aj}{α γ:Type}{A:α->List T}{pre:α->Prop}
def m6.fnI(d:m6 P cx f A pre (λ_=>DJ))(b:γ->α)(c:∀a,pre (b a)):∃e:γ->Int,∀{tb:fy},tb.p f=some (wR P cx f A pre (λ_=>DJ))->∀a,rl P cx tb f (A (b a))=some (.int .i64 (e a)):=by
 refine⟨λa=>(d.2 (b a) (c a)).choose,λht a=> ?_⟩;exact(gU ht d.1 (b a) (c a)).trans (bM some (d.2 (b a) (c a)).choose_spec)
end
@[simp] theorem adS (a:iN):gF 1 (hE.cons a)=True:=by simp;exact⟨dt,dt,dt⟩
@[simp] theorem adR (a b:iN):gF 2 ((hE.cons a).cons b)=True:=by simp;exact⟨dt,dt,dt⟩
@[simp] theorem adQ (b c d a:iN):gF 4 ((((hE.cons b).cons c).cons d).cons a)=True:=by simp;exact⟨dt,dt,dt⟩
def nJ(a:ak)(b c:Int):binop .add (.int a b) (.int a c)=some (.int a (a.wrap (b+c))):=by
 show fT (CM a a) (pi a (b+c))=_;simp
def tU(a:ak)(b c:Int):binop .sub (.int a b) (.int a c)=some (.int a (a.wrap (b-c))):=by
 show fT (CM a a) (pi a (b-c))=_;simp
def Zb(a:ak)(b c:Int):binop .mul (.int a b) (.int a c)=some (.int a (a.wrap (b*c))):=by
 show fT (CM a a) (pi a (b*c))=_;simp
def GJ(c:T):Prop:=∃a b,c= .tuple [.int .i64 a,.int .i64 b]
@[simp] theorem aaY (a b:Int):GJ (.tuple [.int .i64 a,.int .i64 b])=True:=by simp[GJ]
end
noncomputable section
section
variable {cx:Ctx}{mask:Nat}{e:Env}
@[simp] theorem UB (a:ak) (b:Int):nD (.int a b)=some (.int a b):=id rfl
@[simp] theorem Td:nD (.slice none 0 0)=some (.dF [] false):=id rfl
@[simp] theorem UA (a:ByteArray):nD (.string a)=some (.str (a.data.toList.map UInt8.toNat)):=Ns (cx:=⟨λ_=>none,λ_=>none,λ_=>none⟩) (mask:=0) (e:=⟨.nil,.nil⟩) a
@[simp] theorem YN (a:List am):fG cx mask e (.const (.agg a.toArray))=dM (fD nD a) λb=>some (.agg b):=id rfl
end
@[simp] theorem PA (a:List T):dO (sl a)=none:=by cases a<;>rfl
@[simp] theorem oT1 (a:T):jv [a]=a:=id rfl
@[simp] theorem oT2 (a b:T) (c:List T):jv (a::b::c)= .tuple (a::b::c):=id rfl
@[simp] theorem oT0:jv []= .tuple []:=id rfl
@[simp] theorem acP (a:H):(hr a).low=a.size:=id rfl
@[simp] theorem T9 (a:H) (d f:iN) (b:Nat) (c:¬b=a.size):eJ (a.cons d) (a.cons f) b=true:=by
 unfold eJ;rw[dP,dP,ao c,ao c];cases a.get b<;>simp
def ff{b c:H}{a:Nat}(d:c.get a=b.get a):eJ b c a=true:=by
 unfold eJ;rw[d];cases b.get a<;>simp
def Fp(d:H)(b a:Nat):Prop:=a=b\/∃c,d.get b=some c/\∃f∈fa c.em,dO f=some a
structure Step(w:Nat)(h h':H):Prop where
 ok:gF h.size h'
 get:∀b,b<h.size->¬Fp h w b->h'.get b=h.get b
 fp:∀b,Fp h' w b->Fp h w b\/h.size<=b
def iJ{c d:H}{a:Nat}(f:d.get a=c.get a)(b:Nat):Fp d a b=Fp c a b:=by unfold Fp;rw[f]
def Step.refl{d:Nat}{a:H}(b:gF 0 a):Step d a a:=⟨⟨b.hp,b.low,au _⟩,λ_ _ _=>rfl,λ_ c=> .inl c⟩
def Step.trans{g:Nat}{h d i:H}(a:Step g h d)(c:Step g d i):Step g h i:=by
 refine⟨⟨c.ok.hp,c.ok.low,aS a.ok.sz c.ok.sz⟩,λb f j=> ?_,λb f=> ?_⟩
 ·have d:=a.get b f j;have:=a.ok.sz;rw[c.get b dq (λk=>(a.fp b k).elim j λk=>absurd k dq),d]
 ·rcases c.fp b f with k|k
  ·exact a.fp b k
  ·exact .inr (aS a.ok.sz k)
structure Lb(w:Nat)(h:H)(b:Nat)(x:iN):Prop where
 get:h.get b=some x
 nf:¬Fp h w b
def Lb.lt{d:Nat}{b:H}{a:Nat}{f:iN}(c:Lb d b a f):a<b.size:=H.ez c.get
def Lb.ne{a:Nat}{c:H}{b:Nat}{g:iN}(f:Lb a c b g):b≠a:=λd=>f.nf (.inl d)
def Lb.step{d:Nat}{f g:H}{b:Nat}{i:iN}(a:Lb d f b i)(h:Step d f g):Lb d g b i:=
 ⟨by rw[h.get b a.lt a.nf];exact a.get,λc=>(h.fp b c).elim a.nf λc=>absurd c (by have:=a.lt;omega)⟩
def Step.cons{w:Nat}{a:H}(d:gF 0 a)(i:w<a.size)(b:iN):Step w a (a.cons b):=by
 have g:(a.cons b).get w=a.get w:=by rw[dP,ao dq]
 exact⟨⟨(d.cons b).hp,(d.cons b).low,dt⟩,λf h _=>by rw[dP,ao dq],λf c=>by rw[iJ g]at c;exact .inl c⟩
def Lb.new{b:Nat}{a:H}(j:b<a.size)(h:∀d,Fp a b d->d<a.size)(c:iN):Lb b (a.cons c) a.size c:=by
 have i:(a.cons c).get b=a.get b:=by rw[dP,ao dq]
 exact⟨dt,λg=>by rw[iJ i]at g;have:=h _ g;omega⟩
def Step.rD{c:Nat}{b:H}(k:gF 0 b){a:Nat}{o:iN}(h:Lb c b a o)(d:iN)(g:H)(i:Step c g b)(p:g.size<=a):Step c g (dT b a d):=by
 have m:(dT b a d).get c=b.get c:=by rw[dI h.get,ao (bg h.ne)]
 refine⟨⟨(k.put a d).hp,(k.put a d).low,by rw[fJ];exact i.ok.sz⟩,λf l n=> ?_,λf j=> ?_⟩
 ·rw[dI h.get,ao dq];exact i.get f l n
 ·rw[iJ m]at j;exact i.fp f j
def Step.put{b:Nat}{a:H}(k:gF 0 a){x:iN}(j:a.get b=some x)(d:iN)(p:∀i∈fa d.em,∀f,dO i=some f->Fp a b f\/a.size<=f):Step b a (dT a b d):=by
 refine⟨⟨(k.put b d).hp,(k.put b d).low,by rw[fJ];exact au _⟩,λc q m=> ?_,λc h=> ?_⟩
 ·rw[dI j,ao (λh=>m (.inl h))]
 ·rcases h with rfl|⟨r,g,i,o,l⟩
  ·exact .inl (.inl rfl)
  ·rw[dI j,aq rfl]at g;simp only[ar]at g;subst g;exact p i o c l
def Step.YA{c:Nat}{b:H}(h:gF 0 b){a:Nat}{n:iN}(g:b.get a=some n)(j:Fp b c a)(l:a≠c)(f:iN):Step c b (dT b a f):=by
 have m:(dT b a f).get c=b.get c:=by rw[dI g,ao (bg l)]
 refine⟨⟨(h.put a f).hp,(h.put a f).low,by rw[fJ];exact au _⟩,λi o k=> ?_,λi d=> ?_⟩
 ·rw[dI g,ao (λd=>k (by rw[d];exact j))]
 ·rw[iJ m]at d;exact .inl d
def Step.JL{f:Nat}{g c:H}(d:Step f g c){b:H}(h:∀a,b.get a=c.get a)(m:b.size=c.size)(j:gF 0 b):Step f g b:=
 ⟨⟨j.hp,j.low,by rw[m];exact d.ok.sz⟩,λa k l=>by rw[h];exact d.get a k l,λa i=>by rw[iJ (h f)]at i;exact d.fp a i⟩
def TO(b:H)(c a:Nat):Fp (hr b) c a=Fp b c a:=iJ (f9 b c) a
def Step.hr{f:Nat}{c d:H}(a:Step f (hr c) d):Step f c d:=
 ⟨⟨a.ok.hp,a.ok.low,a.ok.sz⟩,λb g h=>by rw[a.get b g (by rw[TO];exact h),f9],λb i=>by have:=a.fp b i;rw[TO]at this;exact this⟩
def gF.hr{b:Nat}{a:H}(c:gF b a):gF b (hr a):=⟨by rw[ZD];exact c.hp,au _,c.sz⟩
def Gr(h:H)(d:T)(i:Nat)(a:List T):Prop:=
 (d= .dF [] false/\a=[])\/∃b c j g f,d= .arr b c 0 a.length false/\h.get b=some ⟨i,c,j,g,false,f⟩/\f.take a.length=a
def Gr.nil(a:H)(b:Nat):Gr a (.dF [] false) b []:= .inl ⟨rfl,rfl⟩
def Gr.gJ{d:H}{a:T}{f:Nat}{b:List T}(c:Gr d a f b):a.gJ=true:=by
 rcases c with⟨rfl,_⟩|⟨g,h,j,i,k,rfl,_⟩<;>rfl
def Gr.cells{d:H}{a:T}{f:Nat}{b:List T}(c:Gr d a f b):a.cells=[a]:=by
 rcases c with⟨rfl,_⟩|⟨g,h,j,i,k,rfl,_⟩<;>rfl
def Gr.mono{d h':H}{b:T}{f:Nat}{c:List T}(i:Gr d b f c)(l:∀a,dO b=some a->h'.get a=d.get a):Gr h' b f c:=by
 rcases i with⟨rfl,rfl⟩|⟨a,g,m,h,n,rfl,j,k⟩
 ·exact .inl ⟨rfl,rfl⟩
 ·exact .inr ⟨a,g,m,h,n,rfl,by rw[l a rfl];exact j,k⟩
def Gr.box{j:H}{f:T}{k:Nat}{i:List T}(l:Gr j f k i){b:Nat}(d:dO f=some b):∃a g c h,j.get b=some ⟨k,a,g,c,false,h⟩/\f= .arr b a 0 i.length false:=by
 rcases l with⟨rfl,_⟩|⟨n,a,g,c,h,rfl,m,o⟩
 ·simp at d
 ·simp only[wj,ar]at d;subst d;exact⟨a,g,c,h,m,rfl⟩
def Gr.ne{c:H}{g h:T}{d f:Nat}{i Kf:List T}(j:Gr c g d i)(k:Gr c h f Kf)(m:d≠f):∀b,dO g=some b->dO h≠some b:=λb l n=>by
 obtain⟨_,_,_,_,o,_⟩:=j.box l;obtain⟨_,_,_,_,a,_⟩:=k.box n;rw[o]at a;simp at a;exact m a.1
def Gr.jg{b:H}{d:T}{h:Nat}{a:List T}(f:Gr b d h a):b.jg d=some a:=by
 rcases f with⟨rfl,rfl⟩|⟨j,k,m,l,i,rfl,g,c⟩
 ·rfl
 ·have hl:a.length<=i.length:=by have:=bM List.length c;rw[List.length_take]at this;omega
  rw[f7,g];simp[hl,c]
def Gr.len{cx:Ctx}{h:H}{f:T}{i:Nat}{a:List T}(g:Gr h f i a)(b:H)(d:Ty)(j:ab)(c:d.u= .slice j):CX cx b d f=some (.val (.int .i64 a.length) b):=by
 rcases g with⟨rfl,rfl⟩|⟨k,l,p,m,q,rfl,n,o⟩
 ·exact DH _ _ _ _ c
 ·rw[Oy _ _ _ _ _ _ _ c]
def Gr.IK{f:H}{k:T}{j:Nat}{b:List T}(o:Gr f k j b){te:Ty}(q:te.size=j){i:Nat}(g:i<b.length):∃a d l h c,dO k=some a/\km f te k i=some (.val (.ptr a d i 0) f)/\f.get a=some ⟨j,d,l,h,false,c⟩/\c[i]? =some b[i]:=by
 rcases o with⟨rfl,rfl⟩|⟨a,d,l,h,c,rfl,m,p⟩
 ·simp at g
 ·refine⟨a,d,l,h,c,rfl,?_,m,?_⟩
  ·rw[OI,m];simp[g,q]
  ·have n:(c.take b.length)[i]? =b[i]? :=by rw[p]
   rw[bJ,aq g,az g]at n;exact n
def Gr.rF{a:H}{d:T}{l:Nat}{h:Type}{f:h->T}{b:List h}(c:Gr a d l (b.map f))(j:∀g,wG a 11 (f g)=some (f g)):TI.rF a d=some (sl (b.map f)):=by
 have k:=c.jg;rcases c with⟨rfl,i⟩|⟨m,n,r,o,s,rfl,p,q⟩
 ·rw[i];rfl
 ·rw[Kc,vd,k,dR,BM _ _ _ j];rfl
def Gr.cut{cx:Ctx}{b:H}{i:T}{h:Nat}{a:List T}(m:Gr b i h a){ty te:Ty}{f:ab}(r:ty.u= .slice f)(ht:cx.ty f=some te)(q:te.size=h){n:Nat}(c:n<=a.length)(p:0<a.length):
 ∃j,Ml cx b ty i none (some n) none=some (.val j b)/\Gr b j h (a.take n)/\dO j=dO i:=by
 rcases m with⟨rfl,rfl⟩|⟨d,g,s,l,t,rfl,k,o⟩
 ·simp at p
 ·refine⟨.arr d g 0 n false,JI ty te f d g 0 a.length n false _ r ht k (by simp[q]) c,.inr ⟨d,g,s,l,t,by rw[List.length_take,cw c],k,?_⟩,rfl⟩;rw[List.length_take,cw c,<-o,List.take_take,cw c]
def AK(c:H)(h:T)(j:Nat)(g:List T)(k:T)(d:H):Prop:=∃a f l i,k= .arr a f 0 g.length false/\d.get a=some ⟨j,f,l,i,false,g⟩/\
 (dO h=some a\/(dO h=none/\a=c.size))/\(∀b,b≠a->b<c.size->d.get b=c.get b)/\gF c.size d
def AK.gr{j:H}{l:T}{c:Nat}{a:List T}{d:T}{b:H}(f:AK j l c a d b):Gr b d c a:=by
 obtain⟨g,h,m,i,rfl,k,_⟩:=f;exact .inr ⟨g,h,m,i,a,rfl,k,aL⟩
def AK.set{i:H}{n:T}{d b c h:Nat}{f:Bool}{a:List T}{g:H}(p:AK i n d a (.arr b c 0 a.length false) g)(l:g.get b=some ⟨d,c,h,f,false,a⟩)(m:Nat)(o:T):
 AK i n d (a.set m o) (.arr b c 0 a.length false) (dT g b ⟨d,c,h+1,f,false,a.set m o⟩):=by
 obtain⟨u,v,y,w,j,x,r,s,t⟩:=p;simp only[T.arr.injEq,and_true]at j;obtain⟨rfl,rfl⟩:=j;exact⟨b,c,h+1,f,by rw[cO],by rw[dI l,aq rfl],r,λq k hl=>by rw[dI l,ao k];exact s q k hl,t.put _ _⟩
def Gr.app{cx:Ctx}{a:H}{j:T}{f:Nat}{d:List T}(E:Gr a j f d)(l:gF 0 a){r s m:ab}{A B g:Ty}(F:cx.ty r=some A)(G:A.u= .slice m)(I:cx.ty m=some g)(J:cx.ty s=some B)(K:B.u= .slice m)(y:g.size=f)(w:1<=g.bytes)
 {x:T} {xs:List T} (N:a.jg x=some xs) (q:∀e∈xs,e.cells.length=f) (M:xs≠ []) (p:(d.length+xs.length)*g.bytes<=70368744177664):
 ∃C v,iO cx a r s j x=some (.val C v)/\AK a j f (d++xs) C v:=by
 have L:iO cx a r s j x=jp (a.append g.size g.bytes j xs):=by
  unfold iO pR nc;rw[F,dR,J,dR];simp only[G,I,K,N,dR];rw[y,ni q,ij]
 rw[L,y];obtain⟨b,c,rfl⟩:∃b c,xs=b::c:=by cases xs with|nil=>exact absurd rfl M|cons b c=>exact⟨b,c,rfl⟩
 rcases E with⟨rfl,rfl⟩|⟨h,i,t,Q,O,rfl,k,z⟩
 ·refine⟨_,a.cons ⟨f,0,0,false,false,b::c⟩,?_,a.size,0,0,false,rfl,dt,.inr ⟨rfl,rfl⟩,λD o _=>by rw[dP,ao o],(l.cons _).hp,(l.cons _).low,dt⟩;show jp (a.iY f g.bytes [] (b::c))=_;rw[ou q w (by simpa using p)];rfl
 ·refine⟨.arr h (i+1) 0 (d++b::c).length false,dT a h ⟨f,i+1,t+1,false,false,d++b::c⟩,?_,h,i+1,t+1,false,rfl,by rw[dI k,aq rfl],.inl rfl,λD o _=>by rw[dI k,ao o],(l.put _ _).hp,(l.put _ _).low,by rw[fJ];exact au _⟩;show jp (a.ma f g.bytes h i d.length (b::c))=_;have hl:d.length<=O.length:=by have:=bM List.length z;rw[List.length_take]at this;omega
  have:a.ma f g.bytes h i d.length (b::c)=some (.arr h (i+1) 0 (d++b::c).length false,dT a h ⟨f,i+1,t+1,false,false,d++b::c⟩):=by
   unfold H.ma;rw[k];simp only[dR,m9,hl,bo,z,qr,jt,iw,ni q,xQ k];simp at p;simp[w,p,bh]
  rw[this];rfl
def Xt(b:H)(d:T)(h:Nat)(g:List T)(f:T)(c:H):Prop:=Gr c f h g/\(∀a,a<b.size->dO d≠some a->c.get a=b.get a)/\(∀a,dO f=some a->dO d=some a\/b.size<=a)/\gF b.size c
def AK.xt{g:H}{k:T}{j:Nat}{f:List T}{l:T}{h:H}(d:AK g k j f l h):Xt g k j f l h:=by
 have n:=d.gr;obtain⟨m,r,u,e,rfl,s,a,o,p⟩:=d;refine⟨n,λc b q=> ?_,λc b=> ?_,p⟩
 ·by_cases i:c=m
  ·subst i;rcases a with a|⟨_,a⟩
   ·exact absurd a q
   ·omega
  ·exact o c i b
 ·simp only[wj,ar]at b;subst b;exact a.imp id λt=>by omega
def Xt.refl{a:H}{b:T}{f:Nat}{c:List T}(g:Gr a b f c)(d:gF 0 a):Xt a b f c b a:=⟨g,λ_ _ _=>rfl,λ_ h=> .inl h,d.hp,d.low,au _⟩
def Xt.trans{f g h:H}{j l m:T}{d:Nat}{s Kf:List T}(n:Xt f j d s l g)(o:Xt g l d Kf m h):Xt f j d Kf m h:=by
 obtain⟨_,a2,a3,a4⟩:=n;obtain⟨p,q,r,b⟩:=o;have:=a4.sz;refine⟨p,λa c i=> ?_,λa c=> ?_,b.hp,b.low,aS a4.sz b.sz⟩
 ·rw[q a dq (λk=>(a3 a k).elim i (λt=>by omega)),a2 a c i]
 ·rcases r a c with k|k
  ·exact a3 a k
  ·exact .inr dq 
def Xt.cons{c d:H}{g h:T}{f:Nat}{b:List T}(i:Xt c g f b h d)(a:iN):Xt c g f b h (d.cons a):=by
 obtain⟨a1,a2,a3,a4⟩:=i;have:=a4.sz;refine⟨a1.mono λo k=> ?_,λj l m=> ?_,a3,(a4.cons a).hp,(a4.cons a).low,(a4.cons a).sz⟩
 ·obtain⟨_,_,_,_,n,_⟩:=a1.box k;have:=H.ez n;rw[dP,ao dq]
 ·rw[dP,ao dq];exact a2 j l m
def vX{b:Nat}{d f:H}{l s:T}{y w F i:Nat}{C:Bool}{G:List T}{o:List T}(bi:gF 0 d)(X:∀a,Fp d b a->a<d.size)(p:d.get b=some ⟨w,0,F,C,false,[.agg o]⟩)(ap:o[i]? =some l)(an:y≠w)
 {W:List T} (ae:Gr d l y W) (Z:Xt d l y G s f):f.get b=d.get b/\∀h,h=(⟨w,0,F+1,C,false,[.agg (o.set i s)]⟩:iN)->
  Step b d (dT f b h)/\(∀a,Fp (dT f b h) b a->a<(dT f b h).size)/\Gr (dT f b h) s y G/\
   ∀t A Kf,t∈o->Gr d t A Kf->(∀a,dO l=some a->dO t≠some a)->A≠w->Gr (dT f b h) t A Kf/\∀a,dO s=some a->dO t≠some a:=by
 have aA:=H.ez p;have R:l∈o:=ax ap;obtain⟨J,E,U,Y⟩:=Z;have M:∀a,dO l=some a->a≠b:=λa c k=>by
  subst k;obtain⟨_,_,_,_,q,_⟩:=ae.box c;rw[p]at q;simp at q;exact an q.1.symm
 have a7:Step b d f/\f.get b=d.get b/\(∀a,dO s=some a->a≠b/\(dO l=some a\/d.size<=a))/\(∀a,a≠b->dO l≠some a->a<d.size->f.get a=d.get a):=by
  have S:f.get b=d.get b:=E b aA λq=>M b q rfl;refine⟨⟨Y,λn m x=>E n m λq=>x (.inr ⟨_,p,l,by simpa[fa,T.cells]using R,q⟩),λn m=>by rw[iJ S]at m;exact .inl m⟩,S,λn m=>⟨?_,U n m⟩,λn _ m hl=>E n hl m⟩;rcases U n m with q|q
  ·exact M n q
  ·omega
 obtain⟨v,I,B,aN⟩:=a7;refine⟨I,λh aE=> ?_⟩;have u:f.get b=some ⟨w,0,F,C,false,[.agg o]⟩:=I.trans p;have Q:(dT f b h).get b=some h:=by rw[dI u,aq rfl]
 have L:∀g∈fa h.em,g∈o\/g=s:=by
  intro g j;subst aE;simp only[fa,cD,cZ,cg,T.cells]at j;exact bV j
 have O:∀g∈o,∀a,dO g=some a->Fp d b a:=λg j a c=> .inr ⟨_,p,g,by simpa[fa,T.cells]using j,c⟩;have a6:Step b d (dT f b h):=by
  have V:gF 0 f:=⟨v.ok.hp,v.ok.low,aw _⟩;refine⟨⟨(V.put b h).hp,(V.put b h).low,by rw[fJ];exact v.ok.sz⟩,λa c x=> ?_,λa c=> ?_⟩
  ·rw[dI u,ao (λk=>x (.inl k))];exact v.get a c x
  ·rcases c with rfl|⟨z,r,g,j,c⟩
   ·exact .inl (.inl rfl)
   ·rw[Q]at r;simp only[ar]at r;subst r;rcases L g j with j|rfl
    ·exact .inl (O g j a c)
    ·rcases(B a c).2 with q|q
     ·exact .inl (O l R a q)
     ·exact .inr dq
 have av:∀a,dO s=some a->a<f.size:=λa c=>by obtain⟨_,_,_,_,q,_⟩:=J.box c;exact H.ez q
 refine⟨a6,λa c=> ?_,?_,λt A Kf a8 D N al=>⟨?_,λa c k=> ?_⟩⟩
 ·rw[fJ];rcases c with rfl|⟨z,r,g,j,c⟩
  ·exact H.ez u
  ·rw[Q]at r;simp only[ar]at r;subst r;rcases L g j with j|rfl
   ·have:=X a (.inr ⟨_,p,g,by simpa[fa,T.cells]using j,c⟩);have:d.size<=f.size:=v.ok.sz;omega
   ·exact av a c
 ·exact J.mono λa c=>by rw[dI u,ao (B a c).1]
 ·refine D.mono λa c=> ?_;obtain⟨_,_,_,_,q,_⟩:=D.box c;have K:a≠b:=λk=>by subst k;rw[p]at q;simp at q;exact al q.1.symm
  rw[dI u,ao K];exact aN a K (λk=>N a k c) (H.ez q)
 ·rcases(B a c).2 with q|q
  ·exact N a q k
  ·obtain⟨_,_,_,_,aX,_⟩:=D.box k;have:=H.ez aX;omega
section
variable {P:ai}{cx:Ctx}{tb:fy}{mask:Nat}
def aag{f:aj}{a:kH}{d:List T}{g:H}{l:af Oper}{j:aa Tmp}{k:List Oper}{n m:fN}{i:iB}(o:a.Ok P cx f)(ht:tb.h f=some a)(p:a.pre d g)
 (r:∀c b,a.post d g c b->XK (some (c,b)) cx (qp P cx tb) mask l j k n m i):XK (hl P cx tb f d g) cx (qp P cx tb) mask l j k n m i:=by
 obtain⟨c,b,e,q⟩:=DP ht o p;rw[e];exact r c b q
def VX{g:aj}{b:kH}{f:List T}{a:H}{q:af Oper}{j:List (Nat×Nat)}{k:aa Tmp}{p:Op}{n:List Oper}{m:Nat}{o:List (Nat×Nat)}{l:List (Nat×H×H)}{s r:fN}{i:iB}(t:b.Ok P cx g)(ht:tb.h g=some b)(u:b.pre f a)
 (w:∀d c,b.post f a d c->P7 (some (d,c)) cx (qp P cx tb) mask q j k p n m o l s r a i):P7 (hl P cx tb g f a) cx (qp P cx tb) mask q j k p n m o l s r a i:=by
 obtain⟨d,c,e,v⟩:=DP ht t u;rw[e];exact w d c v
def hlB{c:aj}{d:kH}(m:d.Ok P cx c)(n:∀b a g f,d.post b a g f->f=a/\DM g):∃k:List T->H->Bool,∀{tb:fy},tb.h c=some d->∀b a,d.pre b a->hl P cx tb c b a=some (.bool (k b a),a):=by
 let i:fy:=⟨λ_=>none,λ_=>some d⟩
 refine⟨λb a=>match hl P cx i c b a with|some (.bool j,_)=>j|_=>false,λ{tb} ht b a o=> ?_⟩;have l:hl P cx tb c b a=hl P cx i c b a:=by unfold hl;rw[ht]
 obtain⟨g,f,e,p⟩:=DP (tb:=i) rfl m o;obtain⟨rfl,j,rfl⟩:=n _ _ _ _ p;rw[l];simp only[e]
def hlI{c:aj}{d:kH}(m:d.Ok P cx c)(n:∀b a g f,d.post b a g f->f=a/\DJ g):∃k:List T->H->Int,∀{tb:fy},tb.h c=some d->∀b a,d.pre b a->hl P cx tb c b a=some (.int .i64 (k b a),a):=by
 let i:fy:=⟨λ_=>none,λ_=>some d⟩
 refine⟨λb a=>match hl P cx i c b a with|some (.int _ j,_)=>j|_=>0,λ{tb} ht b a o=> ?_⟩;have l:hl P cx tb c b a=hl P cx i c b a:=by unfold hl;rw[ht]
 obtain⟨g,f,e,p⟩:=DP (tb:=i) rfl m o;obtain⟨rfl,j,rfl⟩:=n _ _ _ _ p;rw[l];simp only[e]
end
def lL(b a:H):H:=⟨a.size,if a.low<b.low then a.low else b.low,a.fc⟩
def fO(c b:H)(a:Nat):(lL c b).get a=b.get a:=H.qB b _ a
@[simp] theorem vU (b a:H):(lL b a).size=a.size:=id rfl
def gF.out{c:Nat}{b:H}(a:gF c b)(h:H):gF c (lL h b):=⟨a.hp,by have:=a.low;unfold lL;simp only;split<;>omega,a.sz⟩
def Step.out{c:Nat}{h a:H}(b:Step c (TI.hr h) a):Step c h (lL h a):=b.hr.JL (fO h a) rfl ⟨(b.ok.out h).hp,(b.ok.out h).low,aw _⟩
def Gr.out{a:H}{d:T}{c:Nat}{b:List T}(g:Gr a d c b)(h:H):Gr (lL h a) d c b:=g.mono λf _=>fO h a f
def js(ι:Type)(pre:ι->List T->H->Prop)(post:ι->List T->H->T->H->Prop):kH:=⟨λa b=>∃c,pre c a b,λa b f d=>∀c,pre c a b->post c a b f d⟩
section
variable {P:ai}{cx:Ctx}{mask:Nat}{ι:Type}{pre:ι->List T->H->Prop}{post:ι->List T->H->T->H->Prop}
def jo{tb:fy}(I:P.follows .mixedOrders=true)(iG:iP P cx){s:aj}{d:Func}{r:DL}(k:FC P cx s d mask r)(l:List T->H->Nat)(J:∀c p a,pre c p a->p.length<=d.ntmps)
 (O:∀c b a,pre c b a->∀y,mY y 0 b->W (jm cx (qp P cx tb) (l b a) mask r (d.body.getD .skip) ⟨y,.nil⟩ (hr a)) (BU cx mask d.results.toList λn C=>post c b a (jv n) (lL a C))):(js ι pre post).Ok P cx s:=by
 intro b a ⟨R,K⟩;have w:∀c,pre c b a->∃i h,rZ cx (qp P cx tb) (l b a) d mask true b a=some (i,h)/\post c b a i h:=by
  intro c j;obtain⟨x,N,_,E⟩:=md mask d.ntmps 0 b (J c b a j);obtain⟨V,e,t,g,Q,n,L,m⟩:=CE (O c b a j x E);have g:=pH _ k.dr _ _ _ g;obtain⟨A,f⟩:=yz k.ok;rw[f]at g;refine⟨_,_,?_,m⟩;unfold rZ;rw[f];obtain⟨o,v,q⟩:=a;simp only;rw[N,dR];have g:jP cx (qp P cx tb) (l b ⟨o,v,q⟩) mask A ⟨x,.nil⟩ ⟨o,o,q⟩=some (V,e,t):=g;rw[g,dR,kw];have M:=nU L;have G:=u4 v (jv n) t;rcases Q with rfl|rfl<;>(simp only;rw[M,dR];exact G)
 obtain⟨i,h,u,_⟩:=w R K;refine⟨i,h,λc j=> ?_,λz U X B S D=>oL (F:=⟨d,mask,true,none⟩) I iG k.at_ k.ok _ (Cr P cx tb) (l b a) b a i h u z U X B S D⟩;obtain⟨Z,Y,f,m⟩:=w c j;rw[u]at f;simp only[ar,ay]at f;rw[f.1,f.2];exact m
def gY{tb:fy}{f:aj}{d:List T}{g:H}{m:af Oper}{j:aa Tmp}{l:List Oper}{o n:fN}{i:iB}(p:(js ι pre post).Ok P cx f)(ht:tb.h f=some (js ι pre post))(b:ι)(k:pre b d g)
 (r:∀c a,post b d g c a->XK (some (c,a)) cx (qp P cx tb) mask m j l o n i):XK (hl P cx tb f d g) cx (qp P cx tb) mask m j l o n i:=
 aag p ht ⟨b,k⟩ λc a q=>r c a (q b k)
def lP{tb:fy}{g:aj}{f:List T}{a:H}{r:af Oper}{j:List (Nat×Nat)}{k:aa Tmp}{q:Op}{o:List Oper}{n:Nat}{p:List (Nat×Nat)}{l:List (Nat×H×H)}{t s:fN}{i:iB}(u:(js ι pre post).Ok P cx g)(ht:tb.h g=some (js ι pre post))(c:ι)(m:pre c f a)
 (w:∀d b,post c f a d b->P7 (some (d,b)) cx (qp P cx tb) mask r j k q o n p l t s a i):P7 (hl P cx tb g f a) cx (qp P cx tb) mask r j k q o n p l t s a i:=
 VX u ht ⟨c,m⟩ λd b v=>w d b (v c m)
def yG(g:ι->Nat){f:aj}(step:∀b,(js ι (λa d c=>pre a d c/\g a<b) post).Ok P cx f->(js ι (λa d c=>pre a d c/\g a<b+1) post).Ok P cx f)(b:Nat):(js ι (λa d c=>pre a d c/\g a<b) post).Ok P cx f:=by
 induction b with
 |zero=>intro j c ⟨a,_,h⟩;exact absurd h (Nat.not_lt_zero _)
 |succ b i=>exact step b i
end
def AR{f l r:Nat}{o:Bool}{d:H}{m cells':List T}(z:gF 0 d)(u:∀b,Fp d f b->b<d.size)(g:d.get f=some ⟨l,0,r,o,false,[.agg m]⟩)(w:∀a∈cells',a∈m\/dO a=none\/∃q∈m,dO a=dO q):
 ∀h,h=(⟨l,0,r+1,o,false,[.agg cells']⟩:iN)->Step f d (dT d f h)/\(∀b,Fp (dT d f h) f b->b<(dT d f h).size)/\(dT d f h).get f=some h/\∀a j n,Gr d a j n->j≠l->Gr (dT d f h) a j n:=by
 rintro h rfl;have t:∀a∈cells',∀b,dO a=some b->Fp d f b:=λa i b c=>by
  rcases w a i with k|k|⟨q,y,k⟩
  ·exact .inr ⟨_,g,a,by simpa[fa,T.cells]using k,c⟩
  ·rw[k]at c;simp at c
  ·exact .inr ⟨_,g,q,by simpa[fa,T.cells]using y,by rw[<-k];exact c⟩
 have A:=Step.put z g ⟨l,0,r+1,o,false,[.agg cells']⟩ (λa i b c=> .inl (t a (by simpa[fa,T.cells]using i) b c));refine⟨A,λb c=> ?_,by rw[dI g,aq rfl],λa j n s x=>s.mono λb v=> ?_⟩
 ·rw[fJ];rcases c with rfl|⟨B,p,a,i,c⟩
  ·exact H.ez g
  ·rw[dI g,aq rfl]at p;simp only[ar]at p;subst p;exact u b (t a (by simpa[fa,T.cells]using i) b c)
 ·obtain⟨_,_,_,_,c,_⟩:=s.box v;rw[dI g,ao (λk=>by subst k;rw[g]at c;simp at c;exact x c.1.symm)]
def VV(c:H)(d:Nat)(a:T×aa (Nat×List T)):Prop:=match a.2 with
 |none=>dO a.1=none
 |some b=>Gr c a.1 b.1 b.2/\b.1≠d
structure mW(h:H)(w szw ver:Nat)(F:List (T×aa (Nat×List T))):Prop where
 ok:gF 0 h
 get:h.get w=some ⟨szw,0,ver,true,false,[.agg (F.map (·.1))]⟩
 Rg:∀f∈F,VV h szw f
 Tu:∀(j k:Nat),j≠k->∀a b,F[j]? =some a->F[k]? =some b->∀c,dO a.1=some c->dO b.1≠some c
def mW.lt{a:H}{b f g:Nat}{c:List (T×aa (Nat×List T))}(d:mW a b f g c):b<a.size:=H.ez d.get
def mW.fp{b:H}{h m n:Nat}{i:List (T×aa (Nat×List T))}(f:mW b h m n i):∀a,Fp b h a->a<b.size:=by
 rintro a (rfl|⟨p,d,o,g,c⟩)
 ·exact f.lt
 rw[f.get]at d;simp only[ar]at d;subst d;simp only[fa,cD,cZ,cg,T.cells]at g;obtain⟨j,k,rfl⟩:=List.mem_map.1 g;have:=f.Rg j k;unfold VV at this;split at this
 ·rw[this]at c;simp at c
 ·obtain⟨_,_,_,_,l,_⟩:=this.1.box c;exact H.ez l
def mW.gr{c:H}{l j k:Nat}{a:List (T×aa (Nat×List T))}(i:mW c l j k a){f:T}{d:Nat}{b:List T}(h:Nat)(g:a[h]? =some (f,some (d,b))):Gr c f d b:=(i.Rg _ (ax g)).1
def mW.AW{c:H}{d j k:Nat}{a:List (T×aa (Nat×List T))}(i:mW c d j k a){f:T×aa (Nat×List T)}(h:f∈a){b:Nat}(g:dO f.1=some b):Fp c d b:= .inr ⟨_,i.get,f.1,by simp only[fa,cD,cZ,cg,T.cells];exact List.mem_map_of_mem h,g⟩
def mW.step{d f:H}{c j k:Nat}{g:List (T×aa (Nat×List T))}(b:mW d c j k g)(n:gF 0 f)(i:∀a,Fp d c a->f.get a=d.get a):mW f c j k g:=by
 refine⟨n,by rw[i c (.inl rfl)];exact b.get,λl h=> ?_,b.Tu⟩;have:=b.Rg l h;unfold VV at this|-;split at this
 ·exact this
 ·exact⟨this.1.mono λa m=>i a (b.AW h m),this.2⟩
def mW.cons{c:H}{w d f:Nat}{b:List (T×aa (Nat×List T))}(a:mW c w d f b)(g:iN):mW (c.cons g) w d f b:=a.step (a.ok.cons g) λh i=>by rw[dP,ao (by have:=a.fp h i;omega)]
def mW.rD{b:H}{c h i:Nat}{d:List (T×aa (Nat×List T))}(f:mW b c h i d){a:Nat}{m:iN}(g:Lb c b a m)(j:iN):mW (dT b a j) c h i d:=f.step (f.ok.put a j) λn k=>by rw[dI g.get,ao (λl=>g.nf (by rw[<-l];exact k))]
def mW.Ys{t i:H}{f j q o:Nat}{k:List (T×aa (Nat×List T))}(v:mW t f j q k)(l:T×aa (Nat×List T)){m:iN}(D:m=⟨j,0,q+1,true,false,[.agg ((k.set o l).map (·.1))]⟩)(B:i.get f=t.get f)(E:gF 0 i)
 (A:VV (dT i f m) j l) (n:∀(d:Nat) h,d≠o->k[d]? =some h->VV (dT i f m) j h/\(∀g,dO l.1=some g->dO h.1≠some g)):mW (dT i f m) f j (q+1) (k.set o l):=by
 have C:=B.trans v.get;refine⟨E.put _ _,by rw[dI C,aq rfl,D],λh z=> ?_,λd w u r s b a g=> ?_⟩
 ·obtain⟨d,c⟩:=cP z;rw[bQ]at c;split at c
  ·split at c
   ·simp only[ar]at c;subst c;exact A
   ·simp at c
  ·exact(n d h dq c).1
 ·rw[bQ]at b a;split at b
  ·rename_i p;subst p;split at b
   ·simp only[ar]at b;subst b;rw[ao dq]at a;exact(n w s (bg u) a).2 g
   ·simp at b
  ·split at a
   ·split at a
    ·simp only[ar]at a;subst a;rename_i p _;subst p;exact λx y=>(n d r dq b).2 g y x
    ·simp at a
   ·exact v.Tu d w u r s b a g
def mW.app{j d:H}{c l m k:Nat}{b:List (T×aa (Nat×List T))}(a:mW j c l m b){s t:T}{G o:List T}(g:Nat)(q:b[g]? =some (s,some (k,G)))(v:Xt j s k o t d):
 d.get c=some ⟨l,0,m,true,false,[.agg (b.map (·.1))]⟩/\eJ j d c=true/\∀h,h=(⟨l,0,m+1,true,false,[.agg ((b.set g (t,some (k,o))).map (·.1))]⟩:iN)->Step c j (dT d c h)/\mW (dT d c h) c l (m+1) (b.set g (t,some (k,o))):=by
 have p:=a.Rg _ (ax q);have L:(b.map (·.1))[g]? =some s:=by rw[aQ,q];rfl
 obtain⟨r,S⟩:=vX a.ok a.fp a.get L p.2 p.1 v;refine⟨r.trans a.get,ff r,λh z=> ?_⟩;obtain⟨U,i,J,Q⟩:=S h (by rw[z,bR]);have R:gF 0 d:=by obtain⟨_,_,_,A⟩:=v;exact⟨A.hp,A.low,aw _⟩
 refine⟨U,a.Ys _ z r R ⟨J,p.2⟩ λO i N w=> ?_⟩;have y:=ax w;have f:=a.Rg i y;have M:i.1∈b.map (·.1):=List.mem_map_of_mem y;obtain⟨u,I⟩:=i;cases I with
 |none=>exact⟨f,λV _ C=>by rw[show dO u=none from f]at C;simp at C⟩
 |some B=>
  obtain⟨E,F⟩:=Q u B.1 B.2 M f.1 (λD K=>a.Tu g O (bg N) _ _ q w D K) f.2;exact⟨⟨E,f.2⟩,F⟩
def mW.abZ{g:H}{c m n:Nat}{b:List (T×aa (Nat×List T))}(a:mW g c m n b)(j:Nat){v':T}(i:dO v'=none)(x:∃p,b[j]? =some (p,none)):
 ∀d,d=(⟨m,0,n+1,true,false,[.agg ((b.set j (v',none)).map (·.1))]⟩:iN)->Step c g (dT g c d)/\mW (dT g c d) c m (n+1) (b.set j (v',none)):=by
 intro d o;obtain⟨u,f,w,t⟩:=AR a.ok a.fp a.get (cells':=(b.set j (v',none)).map (·.1)) (λp l=>by
  obtain⟨f,k,rfl⟩:=List.mem_map.1 l;rcases bV k with q|q
  ·exact .inl (List.mem_map_of_mem q)
  ·rw[q];exact .inr (.inl i)) d o
 refine⟨u,a.Ys _ o rfl a.ok i λz f y k=> ?_⟩;have l:=ax k;have h:=a.Rg f l;obtain⟨v,s⟩:=f;cases s with
 |none=>exact⟨h,λr q=>by rw[show dO v'=none from i]at q;simp at q⟩
 |some A=>exact⟨⟨t _ _ _ h.1 h.2,h.2⟩,λr q=>by rw[show dO v'=none from i]at q;simp at q⟩
def mW.elem{q:H}{A K L g m n u:Nat}{o:Bool}{v:List T}{b:List (T×aa (Nat×List T))}(a:mW q A K L b){t:T}{y:List T}(i:Nat)(k:b[i]? =some (t,some (g,y)))(r:dO t=some m)(c:q.get m=some ⟨g,n,u,o,false,v⟩)(j:Nat)(x:T):
 Step A q (dT q m ⟨g,n,u+1,o,false,v.set j x⟩)/\mW (dT q m ⟨g,n,u+1,o,false,v.set j x⟩) A K L (b.set i (t,some (g,y.set j x))):=by
 have C:=a.Rg _ (ax k);have J:m≠A:=λf=>by subst f;rw[a.get]at c;simp at c;exact C.2 c.1.symm
 have an:=Step.YA a.ok c (a.AW (ax k) r) J ⟨g,n,u+1,o,false,v.set j x⟩;have ae:(b.set i (t,some (g,y.set j x))).map (·.1)=b.map (·.1):=by
  rw[bR];simp only;apply cU;intro s;rw[bQ];split
  ·rename_i f;subst f;rw[aQ,k];split
   ·rfl
   ·rename_i f;rw[aH]at f;have:=aK (l:=b) (i:=i) dq;rw[k]at this;simp at this
  ·rfl
 refine⟨an,a.ok.put _ _,by rw[dI c,ao (bg J),ae];exact a.get,λI Z=> ?_,λs l al M B W D=> ?_⟩
 ·obtain⟨s,d⟩:=cP Z;rw[bQ]at d;split at d
  ·split at d
   ·simp only[ar]at d;subst d;refine⟨?_,C.2⟩;rcases C.1 with⟨rfl,z⟩|⟨O,ap,aE,av,aN,rfl,z,V⟩
    ·simp at r
    ·simp only[wj,ar]at r;subst r;rw[c]at z;simp only[ar,iN.mk.injEq]at z;obtain⟨_,rfl,rfl,rfl,_,rfl⟩:=z;exact .inr ⟨O,n,u+1,o,v.set j x,by rw[cO],by rw[dI c,aq rfl],by rw[cO,List.take_set,V]⟩
   ·simp at d
  ·rename_i f;have E:=a.Rg I (ax d);obtain⟨aA,U⟩:=I;cases U with
   |none=>exact E
   |some p=>exact⟨E.1.mono λB D=>by rw[dI c,ao (λe=>by subst e;exact a.Tu i s dq _ _ k d B r D)],E.2⟩
 ·have:∀(F:Nat) (w:T×aa (Nat×List T)),(b.set i (t,some (g,y.set j x)))[F]? =some w->∃G,b[F]? =some G/\G.1=w.1:=by
   intro F w h;rw[bQ]at h;split at h
   ·rename_i f;subst f;split at h
    ·simp only[ar]at h;subst h;exact⟨_,k,rfl⟩
    ·simp at h
   ·exact⟨w,h,rfl⟩
  obtain⟨N,X,R⟩:=this s M W;obtain⟨Q,Y,S⟩:=this l B D;rw[<-R,<-S];exact a.Tu s l al N Q X Y
def Gr.fz{b:H}{f:T}{k:Nat}{h:Type}{a:h->T}{c:List h}(d:Gr b f k (c.map a))(j:∀g,wG b 11 (a g)=some (a g)):TI.fz b f=some (sl (c.map a)):=by
 have:=d.rF j;rcases d with⟨rfl,i⟩|⟨l,m,q,n,r,rfl,o,p⟩
 ·rw[i];rfl
 ·rwa[Kc]at this
def Xt.out{h b:H}{d f:T}{c:Nat}{a:List T}(g:Xt (TI.hr h) d c a f b):Xt h d c a f (lL h b):=by
 obtain⟨a1,a2,a3,a4⟩:=g;exact⟨a1.out h,λi j k=>by rw[fO,a2 i j k,f9],a3,(a4.out h).hp,(a4.out h).low,a4.sz⟩
def Gr.mJ{cx:Ctx}{b:H}{j:T}{a:Nat}{k:Type}{f:k->T}{h:List k}(s:Gr b j a (h.map f))(o:gF 0 b){i l:ab}{p d:Ty}(m:cx.ty i=some p)(n:p.u= .slice l)(t:cx.ty l=some d)(z:d.size=a)(v:1<=d.bytes)(w:∀x,Km (f x)=a)(x:k)(y:(h.length+1)*d.bytes<=70368744177664):
 ∃g c,iO cx (b.cons ⟨a,0,0,true,false,[f x]⟩) i i j (.arr b.size 0 0 1 false)=some (.val g c)/\Xt b j a ((h++[x]).map f) g c:=by
 have q:=(Xt.refl s o).cons ⟨a,0,0,true,false,[f x]⟩;obtain⟨g,c,e,r⟩:=Gr.app (cx:=cx) q.1 (o.cons _) (x:= .arr b.size 0 0 1 false) (xs:=[f x]) m n t m n z v (by rw[f7];simp) (by simpa using show(f x).cells.length=a from w x) dt (by simpa using y);exact⟨g,c,e,by rw[List.map_append];exact q.trans r.xt⟩
end
noncomputable section
def mW.start{h:H}{w szw ver:Nat}{F:List (T×aa (Nat×List T))}(o:gF 0 h)(g:h.get w=some ⟨szw,0,ver,true,false,[.agg (F.map (·.1))]⟩)
 (f:∀a∈F,(a.2=none/\dO a.1=none)\/(a.1= .dF [] false/\∃e,a.2=some (e,[])/\e≠szw)):mW h w szw ver F/\∀c,Fp h w c->c=w:=by
 have i:∀a∈F,dO a.1=none:=λa h=>by
  rcases f a h with k|k
  ·exact k.2
  ·rw[k.1];rfl
 refine⟨⟨o,g,λa h=> ?_,λs k _ l c m r q b=>by rw[i l (ax m)]at b;simp at b⟩,λc b=> ?_⟩
 ·obtain⟨p,t⟩:=a;rcases f _ h with⟨rfl,k⟩|⟨rfl,e,rfl,k⟩
  ·exact k
  ·exact⟨Gr.nil _ _,k⟩
 ·rcases b with rfl|⟨u,d,p,j,b⟩
  ·rfl
  ·rw[g]at d;simp only[ar]at d;subst d;simp only[fa,cD,cZ,cg,T.cells]at j;obtain⟨a,n,rfl⟩:=List.mem_map.1 j;rw[i a n]at b;simp at b
def mW.other{b e:H}{d l m g:Nat}{i:List (T×aa (Nat×List T))}(h:mW b d l m i)(j:∀a,Fp b d a->¬Fp b g a)(f:Step g b e):mW e d l m i/\∀a,Fp e d a->¬Fp e g a:=by
 have k:∀a,Fp b d a->e.get a=b.get a:=λa c=>f.get a (h.fp a c) (j a c);refine⟨h.step ⟨f.ok.hp,f.ok.low,aw _⟩ k,λa c n=> ?_⟩;rw[iJ (k d (.inl rfl))]at c;rcases f.fp a n with q|q
 ·exact j a c q
 ·have:=h.fp a c;omega
structure Sm(b:Nat)(h h':H):Prop where
 ok:gF 0 h'
 size:h'.size=h.size
 get:∀c,c≠b->h'.get c=h.get c
def Sm.refl{b:Nat}{a:H}(c:gF 0 a):Sm b a a:=⟨c,rfl,λ_ _=>rfl⟩
def Sm.put{a:Nat}{e b:H}(d:Sm a e b){x:iN}(h:b.get a=some x)(g:iN):Sm a e (dT b a g):=⟨d.ok.put a g,by rw[fJ];exact d.size,λc f=>by rw[dI h,ao f];exact d.get c f⟩
def Sm.im{d:Nat}{a e:H}{b g h:Nat}{c:List (T×aa (Nat×List T))}(f:Sm d a e)(l:mW a b g h c)(j:¬Fp a b d):mW e b g h c:=l.step f.ok λi k=>f.get i λm=>j (by rw[<-m];exact k)
def iv.ft{b c:H}{V V':Nat->Prop}{d:Nat}{e f:List T}(g:iv (FT b V d) e f)(h:∀a,V a->V' a/\c.get a=b.get a):iv (FT c V' d) e f:=g.imp λ_ _ i=>i.mono h
def Gr.IW{a:H}{V:Nat->Prop}{g:T}{l d:Nat}{b c:List T}(f:Gr a g l b)(h:d<=11)(e:iv (FT a V d) b c):TI.fz a g=some (sl c):=by
 have j:fD (wG a 11) b=some c:=pz (e.imp λ_ _ k=>(k.deep h).wG);have i:=f.jg;rcases f with⟨rfl,rfl⟩|⟨m,n,r,o,s,rfl,p,q⟩
 ·cases e;rfl
 ·rw[vd,i,dR,j];rfl
def iv.left{a f:Type}{b:a->f->Prop}{d:List a}{j:List f}(h:iv b d j){e:a}(c:e∈d):∃k,b e k:=by
 induction h with
 |nil=>simp at c
 |cons g _ i=>
  rcases List.mem_cons.1 c with rfl|q
  ·exact⟨_,g⟩
  ·exact i q
def FT.fzN{a:H}{z:Nat->Prop}{h:Nat}(E:∀c,z c->h<=c):∀{b:Nat} {j y:T},FT a z b j y->freeze a h b j=freeze a 0 b j:=by
 intro b;induction b with
 |zero=>intro j y v;exact v.elim
 |succ b C=>
  intro j y v;rcases v with⟨A,B,rfl⟩|⟨c,l,i,g,s,n,r,rfl,F,f,t,rfl⟩|⟨p,L,rfl,t,rfl⟩
  ·rw[rX a h b j A B,rX a 0 b j A B]
  ·have u:fD (freeze a h b) n=fD (freeze a 0 b) n:=mM λk w=>by
    obtain⟨K,x⟩:=t.left w;exact C x
   have D:∀q,freeze a q (b+1) (.arr c l i g s)=fT (Nat.ble q c) (dM (a.get c) λk=>iN.casesOn k λ_ m _ exact o e=>
    fT (Nat.beq m l) (Bool.casesOn o (dM (dM (jJ i e) λd=>takeN g d) λn=>dM (fD (freeze a q b) n) λr=>
     List.casesOn r (List.casesOn e (Bool.casesOn exact (some .fR) (some (.dF [] false))) λ_ _=>some .fR) λ_ _=>some (.dF r s)) none)):=λq=>rfl
   rw[D,D];have I:a.jg (.arr c l i g s)=dM (a.get c) λk=>iN.casesOn k λ_ m _ _ o e=>fT (Nat.beq m l) (Bool.casesOn o (dM (jJ i e) λd=>takeN g d) none):=rfl;rw[I]at f;rw[show Nat.ble h c=true from bW (E c F),show Nat.ble 0 c=true from bW (aw c)];show(dM (a.get c) _)=(dM (a.get c) _);cases G:a.get c with
   |none=>rfl
   |some k=>
    rw[G]at f;obtain⟨N,m,O,M,o,e⟩:=k;simp only[dR]at f|-;cases J:Nat.beq m l with
    |false=>rfl
    |true=>
     rw[J]at f;cases o with
     |true=>rfl
     |false=>
      have f:(dM (jJ i e) λd=>takeN g d)=some n:=f;show(dM (dM (jJ i e) λd=>takeN g d) _)=(dM (dM (jJ i e) λd=>takeN g d) _);rw[f,dR,dR,u]
  ·have u:fD (freeze a h b) p=fD (freeze a 0 b) p:=mM λk w=>by
    obtain⟨K,x⟩:=t.left w;exact C x
   show(dM (fD (freeze a h b) p) _)=(dM (fD (freeze a 0 b) p) _);rw[u]
def FT.top{b:H}{V:Nat->Prop}{h d:Nat}(F:d<=11)(q:∀a,V a->h<=a){c f:List T}(r:iv (FT b V d) c f):∃i,iX b h (.agg c)=some i/\cn i= .agg f:=by
 have u:fD (iy b h) c=fD (iy b 0) c:=mM λA x=>by
  obtain⟨G,s⟩:=r.left x;have l:=(s.deep (show d<=12 by omega)).fzN q;rcases(s.deep (show d<=12 by omega))with⟨m,n,rfl⟩|⟨a,j,p,o,k,C,D,rfl,w,E,v,rfl⟩|⟨c,f,rfl,v,rfl⟩
  ·cases A<;>first|exact l|(simp[jI]at m)
  ·have t:∀e,iy b e (.arr a j p o k)=(Bool.casesOn (Nat.ble e a) (some (.arr a j p o k)) (freeze b e 12 (.arr a j p o k)):aa T):=λe=>rfl;rw[t,t,show Nat.ble h a=true from bW (q a w),show Nat.ble 0 a=true from bW (aw a),l]
  ·exact l
 have g:rF b (.agg c)=some (.agg f):=by
  rw[Re,pz (r.imp λB a e=>(e.deep (show d<=12 by omega)).fz)];rfl
 have g:(dM (dM (fD (iy b 0) c) λy=>some (T.agg y)) λz=>some (cn z))=some (.agg f):=g;rw[<-u]at g;obtain⟨i,m,n⟩:=dD.1 g;simp only[ar]at n;exact⟨i,m,n⟩
def Lb.kE{b:Nat}{c d:H}{a:Nat}{f:iN}(e:Lb b c a f)(h:d.get b=c.get b)(g:d.get a=c.get a):Lb b d a f:=⟨by rw[g];exact e.get,by rw[iJ h];exact e.nf⟩
def uq(a b:H):H:=⟨a.size,(lL a b).low,(lL a b).fc.drop ((lL a b).size-a.size)⟩
def yt{h a:H}(d:Hp a)(e:h.size<=a.size){b:Nat}(c:b<h.size):(uq h a).get b=a.get b:=
 (He (h:=lL h a) (by unfold Hp at*;exact d) e c).trans (fO h a b)
def gF.cut{a b:H}(c:gF 0 a)(d:Hp b)(e:a.size<=b.size):gF 0 (uq a b):=
 ⟨by unfold Hp at*;unfold uq lL;simp;omega,by have:=c.low;unfold uq lL;simp only;split<;>omega,aw _⟩
def xF(a:H)(f:T)(b:H)(post:T->H->Prop):Prop:=
 Hp b/\a.size<=b.size/\(∀c e,c<a.size->b.get c=some e->b.get c=a.get c\/∀g∈fa e.em,o8 a.size g)/\∃d,iX b a.size f=some d/\post (cn d) (uq a b)
section
variable {P:ai}{cx:Ctx}{mask:Nat}{ι:Type}{pre:ι->List T->H->Prop}{post:ι->List T->H->T->H->Prop}
def p7{tb:fy}(S:P.follows .mixedOrders=true)(iG:iP P cx){m:aj}{g:Func}{t:DL}(j:FC P cx m g mask t)(k:List T->H->Nat)(U:∀d q a,pre d q a->q.length<=g.ntmps)
 (al:∀d b a,pre d b a->∀C,mY C 0 b->W (jm cx (qp P cx tb) (k b a) mask t (g.body.getD .skip) ⟨C,.nil⟩ (hr a)) (BU cx mask g.results.toList λo L=>xF a (jv o) L (post d b a))):(js ι pre post).Ok P cx m:=by
 intro b a ⟨ap,V⟩;have A:∀d,pre d b a->∃h c,rZ cx (qp P cx tb) (k b a) g mask true b a=some (h,lL a c)/\xF a h c (post d b a):=by
  intro d i;obtain⟨B,ae,_,N⟩:=md mask g.ntmps 0 b (U d b a i);obtain⟨x,J,c,e,an,o,Y,X⟩:=CE (al d b a i B N);have e:=pH _ j.dr _ _ _ e;obtain⟨G,f⟩:=yz j.ok;rw[f]at e;refine⟨_,c,?_,X⟩;unfold rZ;rw[f];obtain⟨p,z,r⟩:=a;simp only;rw[ae,dR];have e:jP cx (qp P cx tb) (k b ⟨p,z,r⟩) mask G ⟨B,.nil⟩ ⟨p,p,r⟩=some (x,J,c):=e;rw[e,dR,kw];have Z:=nU Y;have R:=u4 z (jv o) c;rcases an with rfl|rfl<;>(simp only;rw[Z,dR];exact R)
 obtain⟨h,c,u,av,aA,aE,aN,l,a6⟩:=A ap V;have O:pT P cx ⟨m,b,a,h,lL a c⟩:=λE w aX I s M=>oL (F:=⟨g,mask,true,none⟩) S iG j.at_ j.ok _ (Cr P cx tb) (k b a) b a h (lL a c) u E w aX I s M;have Q:=Pe O (by unfold Hp at*;exact av) aA (λD y f v=>by rw[fO]at v|-;exact aE D y f v) (by rw[sw (fO a c)];exact l);refine⟨cn aN,uq a c,λd i=> ?_,Q⟩;obtain⟨r2,n,f,p1,p2,p3,a7,p4,p5⟩:=A d i;rw[u]at f;simp only[ar,ay]at f;obtain⟨rfl,e⟩:=f;have K:iX c a.size h=iX n a.size h:=by rw[<-sw (fO a c),e,sw (fO a n)]
 rw[K,p4]at l;simp only[ar]at l;subst l;have:uq a c=uq a n:=by unfold uq;rw[e]
 rw[this];exact p5
end
end
end Go.TI
