/- Texts TiMerge to TiCutI. -/
import Derived.Test.YtmaeadedikngoaaGreatDoorA10
set_option linter.unusedVariables false
set_option linter.unusedSimpArgs false
set_option linter.defProp false
namespace Go.TI
noncomputable section
attribute [-simp] eG dY
def gT(a:Bool)(b:T):T:=match a with|true=>b|false=> .undef
def Y8(a:Bool)(b c:T):T:=match a with|true=>b|false=>c
@[simp] theorem Y7 (b:Bool) (a:T):Y8 b a a=a:=by cases b<;>rfl
@[simp] theorem adu (a:Bool) (b:T):Y8 a b .undef=gT a b:=by cases a<;>rfl
@[simp] theorem adt (a:Bool) (b:T):Y8 a .undef b=gT (!a) b:=by cases a<;>rfl
@[simp] theorem adv (a b c:Bool):Y8 a (.bool b) (.bool c)= .bool (bif a then b else c):=by cases a<;>rfl
def Uv(a:Bool)(b c:fJ):fJ:=match a with|true=>b|false=>c
@[simp] theorem Y5 (b:Bool) (a:fJ):Uv b a a=a:=by cases b<;>rfl
@[simp] theorem Y6 (a:Bool) (b:Nat) (e g:T) (c d:fJ):Uv a (.cons b e c) (.cons b g d)= .cons b (Y8 a e g) (Uv a c d):=by cases a<;>rfl
def uy:fJ->Nat->T->fJ
 | .nil,_,_=> .nil
 | .cons a e b,c,d=>if a=c then .cons a d b else .cons a e (uy b c d)
@[simp] theorem KQ (a c:Nat) (e d:T) (b:fJ):uy (.cons a e b) c d=if a=c then .cons a d b else .cons a e (uy b c d):=id rfl
def sI:∀{c:fJ} {b:Nat} {d:T},dF c b=some d->uy c b d=c
 | .nil,_,_,_=>rfl
 | .cons e i g,b,d,h=>by
  rw[kT]at h;rw[KQ];by_cases a:e=b
  ·rw[aq a]at h;simp only[ar]at h;rw[aq a,h]
  ·rw[ao a]at h;rw[ao a,sI h]
def CF(a:Nat):List Oper->List Oper
 | []=>[]
 |o::c=>match o.guard with|some (b,_)=>if a<=b then o::CF a c else []|none=>[]
def J8(b:Nat):List Oper->List Oper
 | []=>[]
 |o::a=>match o.guard with|some (c,_)=>if b<=c then J8 b a else o::a|none=>o::a
def Mp(b:Nat):∀a,CF b a++J8 b a=a
 | []=>rfl
 |o::a=>by
  unfold CF J8;cases o.guard with
  |none=>rfl
  |some c=>
   simp only;split
   ·rw[cE,Mp b a]
   ·rfl
section
variable {cx:Ctx}{cf:iG}{mask:Nat}
@[simp] theorem adn (c:Nat) (b:aa Tmp) (e:Op) (i:ab) (g:String) (a:af Edge) (d:List Oper):CF c (⟨b,e,i,g,a,none⟩::d)=[]:=id rfl
@[simp] theorem adE (i:Nat) (b:aa Tmp) (d:Op) (g:ab) (e:String) (a:af Edge) (c:List Oper):J8 i (⟨b,d,g,e,a,none⟩::c)=⟨b,d,g,e,a,none⟩::c:=id rfl
@[simp] theorem ado (a b:Nat) (d:Bool) (e:aa Tmp) (i:Op) (k:ab) (j:String) (c:af Edge) (g:List Oper):CF a (⟨e,i,k,j,c,some (b,d)⟩::g)=if a<=b then⟨e,i,k,j,c,some (b,d)⟩::CF a g else []:=id rfl
@[simp] theorem adF (a b:Nat) (e:Bool) (g:aa Tmp) (i:Op) (k:ab) (j:String) (d:af Edge) (c:List Oper):J8 a (⟨g,i,k,j,d,some (b,e)⟩::c)=if a<=b then J8 a c else⟨g,i,k,j,d,some (b,e)⟩::c:=id rfl
def uL(a:af Oper)(c:Oper)(g:List Oper)(b:Env)(h:H):
 j8 cx cf mask a (c::g) b h=dJ (xz cx cf mask a b h c) λi=>two i λj e=>dJ (b.dst mask c.dst j) λd=>j8 cx cf mask a g d e:=by
 show(dJ (kQ cx cf mask a b h c) λi=>two i λd e=>j8 cx cf mask a g d e)=_;rw[pZ]
def r6(b:af Oper):∀(c d:List Oper) (a:Env) (h:H),j8 cx cf mask b (c++d) a h=dJ (j8 cx cf mask b c a h) λi=>two i λe g=>j8 cx cf mask b d e g
 | [],_,_,_=>rfl
 |o::c,d,a,h=>by
  rw[cE,uL,uL];cases xz cx cf mask b a h o with
  |none=>rfl
  |some i=>
   obtain⟨j,g⟩:=i;simp only[dO,j9];cases a.dst mask o.dst j with
   |none=>rfl
   |some e=>simp only[dO];exact r6 b c d e g
def p7(cx:Ctx)(cf:iG)(mask:Nat)(b:af Oper)(a:List Oper)(d c:fJ)(h:H):aa (Env×H):=j8 cx cf mask b a ⟨d,c⟩ h
def SG(l:aa (T×H))(cx:Ctx)(cf:iG)(mask:Nat)(e:af Oper)(a:aa Tmp)(d:List Oper)(k i:fJ):aa (Env×H):=
 dJ l λg=>two g λj c=>dJ (Env.dst mask ⟨k,i⟩ a j) λb=>j8 cx cf mask e d b c
@[simp] theorem Yj (c:af Oper) (b a:fJ) (h:H):p7 cx cf mask c [] b a h=some (⟨b,a⟩,h):=id rfl
def OB(d b:fJ)(a:Tmp)(c:T):Env.dst mask ⟨d,b⟩ (some a) c=some (if(mask>>>a)&&&1=1 then⟨put d a c,b⟩else⟨d,.cons a c b⟩):=by
 show @Bool.rec (λ_=>aa Env) (some ⟨d,.cons a c b⟩) (dJ (li d a c) λe=>some ⟨e,b⟩) (jS mask a)=_;rw[oz];have:=BK mask a;cases hl:jS mask a with
 |true=>rw[aq (by rw[<-this];exact hl)];rfl
 |false=>rw[ao (by rw[<-this,hl];simp)]
@[simp] theorem abs (e:T) (h:H) (c:af Oper) (a:Tmp) (b:List Oper) (g d:fJ):SG (some (e,h)) cx cf mask c (some a) b g d=
 if(mask>>>a)&&&1=1 then p7 cx cf mask c b (put g a e) d h else p7 cx cf mask c b g (.cons a e d) h:=by
 unfold SG;rw[dO,j9,OB,dO];split<;>rfl
def G3(o:aa Tmp)(i:aa Bool)(m:Nat)(l:Bool)(cx:Ctx)(cf:iG)(mask:Nat)(g:af Oper)(c:aa Tmp)(e:Op)(p:ab)(n:String)(k:af Edge)(d:List Oper)(b a:fJ)(h:H):aa (Env×H):=
 SG (dJ i λj=> @Bool.rec (λ_=>aa (T×H)) (some (.undef,h)) (fin cf h (iW e cx mask ⟨b,a⟩ h)) j) cx cf mask g c d b a
def H5(a:af Oper)(j:aa Tmp)(k:Op)(m:ab)(l:String)(i:af Edge)(c:Nat)(b:Bool)(d:List Oper)(g e:fJ)(h:H)(n:aa Tmp):
 p7 cx cf mask a (⟨j,k,m,l,i,some (c,b)⟩::d) g e h=G3 n (j3 a mask ⟨g,e⟩ (some (c,b))) c b cx cf mask a j k m l i d g e h:=uL a _ d _ h
@[simp] theorem FV (b:List Oper) (i:aa Tmp) (k:Op) (m:ab) (l:String) (g:af Edge) (a:Nat) (c:Bool) (j:List Oper) (e d:fJ) (h:H):
 p7 cx cf mask b.toArray (⟨i,k,m,l,g,some (a,c)⟩::j) e d h=G3 (dJ (b[a]?) λn=>n.dst) (j3 b.toArray mask ⟨e,d⟩ (some (a,c))) a c cx cf mask b.toArray i k m l g j e d h:=H5 b.toArray i k m l g a c j e d h _
@[simp] theorem aby (m:aa Tmp) (k:Nat) (j:Bool) (g:af Oper) (c:aa Tmp) (e:Op) (n:ab) (l:String) (i:af Edge) (d:List Oper) (b a:fJ) (h:H):G3 m (some true) k j cx cf mask g c e n l i d b a h=SG (fin cf h (iW e cx mask ⟨b,a⟩ h)) cx cf mask g c d b a:=id rfl
@[simp] theorem aaj (m:aa Tmp) (j:Nat) (i:Bool) (c:af Oper) (a:aa Tmp) (k:Op) (n:ab) (l:String) (g:af Edge) (b:List Oper) (e d:fJ) (h:H):G3 m (some false) j i cx cf mask c a k n l g b e d h=SG (some (.undef,h)) cx cf mask c a b e d:=id rfl
def VN(a:Bool)(g i:aa (Env×H))(cx:Ctx)(cf:iG)(mask:Nat)(c:af Oper)(e:List Oper):aa (Env×H):=dJ (bif a then g else i) λd=>two d λb h=>j8 cx cf mask c e b h
@[congr] theorem WQ {a b:Bool} {g i j k:aa (Env×H)} {c:af Oper} {d e:List Oper} (l:a=b) (m:g=i) (n:j=k) (hr:d=e):VN a g j cx cf mask c d=VN b i k cx cf mask c e:=by rw[l,m,n,hr]
@[simp] theorem abF (a:Bool) (g d i e:fJ) (h:H) (b:af Oper) (c:List Oper):VN a (some (⟨g,d⟩,h)) (some (⟨i,e⟩,h)) cx cf mask b c=p7 cx cf mask b c (Uv a g i) (Uv a d e) h:=by cases a<;>rfl
def J7{e c:fJ}{a:Tmp}{d:T}(g:(mask>>>a)&&&1=0)(b:Env.get mask ⟨e,c⟩ a=some d):dF c a=some d:=by
 rw[AN,ao dj]at b;exact b
def MI{b:List Oper}{g:Tmp}{i:Bool}{a:List Oper}{d c:fJ}{h:H}(e:Nat)(n:(mask>>>g)&&&1=0)(m:Env.get mask ⟨d,c⟩ g=some (.bool i)):
 p7 cx cf mask b.toArray a d c h=VN i (p7 cx cf mask b.toArray (CF e a) d (uy c g (.bool true)) h) (p7 cx cf mask b.toArray (CF e a) d (uy c g (.bool false)) h) cx cf mask b.toArray (J8 e a):=by
 have j:=J7 n m;have:p7 cx cf mask b.toArray a d c h=dJ (p7 cx cf mask b.toArray (CF e a) d c h) λo=>two o λk l=>j8 cx cf mask b.toArray (J8 e a) k l:=by
  show j8 cx cf mask b.toArray a ⟨d,c⟩ h=_
  conv=>lhs;rw[<-Mp e a]
  exact r6 _ _ _ _ _
 rw[this];cases i
 ·conv=>lhs;rw[<-sI j]
  rfl
 ·conv=>lhs;rw[<-sI j]
  rfl
def PM(d:List Oper)(b:Tmp)(o:Bool)(a:Nat)(c:Bool)(g:aa Tmp)(j:Op)(l:ab)(k:String)(e:af Edge)(i:List Oper)(n m:fJ)(h:H)(r:Bool)
 (s:(mask>>>b)&&&1=0) (p:(dJ (d[a]?) λu=>u.dst)=some b) (q:Env.get mask ⟨n,m⟩ b=some (.bool o)) (t:r=(o==c)):
 G3 (some b) (some r) a c cx cf mask d.toArray g j l k e i n m h=
  VN o (p7 cx cf mask d.toArray (CF a (⟨g,j,l,k,e,some (a,c)⟩::i)) n (uy m b (.bool true)) h) (p7 cx cf mask d.toArray (CF a (⟨g,j,l,k,e,some (a,c)⟩::i)) n (uy m b (.bool false)) h) cx cf mask d.toArray (J8 a (⟨g,j,l,k,e,some (a,c)⟩::i)):=by
 subst t;rw[<-MI a s q,FV,p,A1,p,dO,q,A0]
@[simp low] theorem abz (c:List Oper) (b:Tmp) (e:Bool) (a:Nat) (g:aa Tmp) (j:Op) (l:ab) (k:String) (d:af Edge) (i:List Oper) (n m:fJ) (h:H)
 (q:(mask>>>b)&&&1=0) (o:(dJ (c[a]?) λr=>r.dst)=some b) (p:Env.get mask ⟨n,m⟩ b=some (.bool e)):
 G3 (some b) (some e) a true cx cf mask c.toArray g j l k d i n m h=
  VN e (p7 cx cf mask c.toArray (CF a (⟨g,j,l,k,d,some (a,true)⟩::i)) n (uy m b (.bool true)) h) (p7 cx cf mask c.toArray (CF a (⟨g,j,l,k,d,some (a,true)⟩::i)) n (uy m b (.bool false)) h) cx cf mask c.toArray (J8 a (⟨g,j,l,k,d,some (a,true)⟩::i)):=
 PM c b e a true g j l k d i n m h e q o p dp 
@[simp low] theorem abA (d:List Oper) (b:Tmp) (c:Bool) (a:Nat) (g:aa Tmp) (j:Op) (l:ab) (k:String) (e:af Edge) (i:List Oper) (n m:fJ) (h:H)
 (q:(mask>>>b)&&&1=0) (o:(dJ (d[a]?) λr=>r.dst)=some b) (p:Env.get mask ⟨n,m⟩ b=some (.bool !c)):
 G3 (some b) (some c) a false cx cf mask d.toArray g j l k e i n m h=
  VN (!c) (p7 cx cf mask d.toArray (CF a (⟨g,j,l,k,e,some (a,false)⟩::i)) n (uy m b (.bool true)) h) (p7 cx cf mask d.toArray (CF a (⟨g,j,l,k,e,some (a,false)⟩::i)) n (uy m b (.bool false)) h) cx cf mask d.toArray (J8 a (⟨g,j,l,k,e,some (a,false)⟩::i)):=
 PM d b (!c) a false g j l k e i n m h c q o p (by cases c<;>rfl)
def G2(o:aa Tmp)(j:aa Bool)(m:Nat)(l:Bool)(cx:Ctx)(cf:iG)(mask:Nat)(e:af Oper)(b:aa Tmp)(d:Op)(p:ab)(n:String)(k:af Edge)(c:List Oper)(i g:fJ)(h:H)(a:iw):Prop:=GK j cx cf mask e b d c i g h a
@[simp] theorem L4 (b:List Oper) (j:aa Tmp) (l:Op) (n:ab) (m:String) (i:af Edge) (a:Nat) (c:Bool) (k:List Oper) (e d:fJ) (h:H) (g:iw):
 RK cx cf mask b.toArray (⟨j,l,n,m,i,some (a,c)⟩::k) e d h g=G2 (dJ (b[a]?) λo=>o.dst) (j3 b.toArray mask ⟨e,d⟩ (some (a,c))) a c cx cf mask b.toArray j l n m i k e d h g:=eG b.toArray j l n m i a c k e d h g
@[simp] theorem abB (n:aa Tmp) (l:Nat) (k:Bool) (i:af Oper) (d:aa Tmp) (g:Op) (o:ab) (m:String) (j:af Edge) (e:List Oper) (b a:fJ) (h:H) (c:iw):G2 n (some true) l k cx cf mask i d g o m j e b a h c=XK (fin cf h (iW g cx mask ⟨b,a⟩ h)) cx cf mask i d e b a c:=id rfl
@[simp] theorem aak (n:aa Tmp) (k:Nat) (j:Bool) (d:af Oper) (b:aa Tmp) (l:Op) (o:ab) (m:String) (i:af Edge) (c:List Oper) (g e:fJ) (h:H) (a:iw):G2 n (some false) k j cx cf mask d b l o m i c g e h a=XK (some (.undef,h)) cx cf mask d b c g e a:=by
 unfold XK;rw[yu];rfl
def BG(c:Bool)(g i:aa (Env×H))(cx:Ctx)(cf:iG)(mask:Nat)(d:af Oper)(e:List Oper)(b:iw):Prop:=
 (c=true->∃a h,g=some (a,h)/\RK cx cf mask d e a.vars a.tmps h b)/\(c=false->∃a h,i=some (a,h)/\RK cx cf mask d e a.vars a.tmps h b)
@[congr] theorem aar {b c:Bool} {i j k l:aa (Env×H)} {d:af Oper} {e g:List Oper} {a:iw} (m:b=c) (n:i=j) (o:k=l) (hr:e=g):BG b i k cx cf mask d e a=BG c j l cx cf mask d g a:=by rw[m,n,o,hr]
@[simp] theorem adf (c:Bool) (l j m k:fJ) (h:H) (g:af Oper) (i:List Oper) (e:iw):BG c (some (⟨l,j⟩,h)) (some (⟨m,k⟩,h)) cx cf mask g i e=RK cx cf mask g i (Uv c l m) (Uv c j k) h e:=by
 unfold BG;apply propext;cases c
 ·constructor
  ·intro a;obtain⟨n,o,b,hr⟩:=a.2 rfl;simp only[ar,ay]at b;obtain⟨rfl,rfl⟩:=b;exact hr
  ·exact λa=>⟨λd=>by simp at d,λ_=>⟨_,_,rfl,a⟩⟩
 ·constructor
  ·intro a;obtain⟨n,o,b,hr⟩:=a.1 rfl;simp only[ar,ay]at b;obtain⟨rfl,rfl⟩:=b;exact hr
  ·exact λa=>⟨λ_=>⟨_,_,rfl,a⟩,λd=>by simp at d⟩
def VE(e:af Oper)(g q:List Oper)(j i:fJ)(h:H)(k:iw):RK cx cf mask e (g++q) j i h k=∃l a,p7 cx cf mask e g j i h=some (l,a)/\RK cx cf mask e q l.vars l.tmps a k:=by
 apply propext;show(∃b a,j8 cx cf mask e (g++q) ⟨j,i⟩ h=some (b,a)/\k.n ⟨b.vars,.nil⟩ a)↔_;rw[r6];constructor
 ·rintro⟨b,a,c,p⟩;obtain⟨⟨m,o⟩,d,c⟩:=dA.1 c;exact⟨m,o,d,b,a,c,p⟩
 ·rintro⟨m,o,d,b,a,c,p⟩;have d:j8 cx cf mask e g ⟨j,i⟩ h=some (m,o):=d;exact⟨b,a,by rw[d];exact c,p⟩
def PN(j:List Oper)(l:Tmp)(p:Bool)(a:Nat)(b:Bool)(d:aa Tmp)(i:Op)(m:ab)(k:String)(c:af Edge)(g:List Oper)(o n:fJ)(h:H)(q:iw)(v:Bool)
 (x:(mask>>>l)&&&1=0) (s:(dJ (j[a]?) λz=>z.dst)=some l) (t:Env.get mask ⟨o,n⟩ l=some (.bool p)) (y:v=(p==b)):
 G2 (some l) (some v) a b cx cf mask j.toArray d i m k c g o n h q=
  BG p (p7 cx cf mask j.toArray (CF a (⟨d,i,m,k,c,some (a,b)⟩::g)) o (uy n l (.bool true)) h) (p7 cx cf mask j.toArray (CF a (⟨d,i,m,k,c,some (a,b)⟩::g)) o (uy n l (.bool false)) h) cx cf mask j.toArray (J8 a (⟨d,i,m,k,c,some (a,b)⟩::g)) q:=by
 subst y;have u:=J7 x t;have w:G2 (some l) (some (p==b)) a b cx cf mask j.toArray d i m k c g o n h q=RK cx cf mask j.toArray (⟨d,i,m,k,c,some (a,b)⟩::g) o n h q:=by
  rw[L4,s,A1,s,dO,t,A0]
 rw[w]
 conv=>lhs;rw[<-Mp a (⟨d,i,m,k,c,some (a,b)⟩::g)]
 rw[VE];unfold BG;apply propext;cases p
 ·conv=>lhs;rw[<-sI u]
  exact⟨λe=>⟨λr=>by simp at r,λ_=>e⟩,λe=>e.2 rfl⟩
 ·conv=>lhs;rw[<-sI u]
  exact⟨λe=>⟨λ_=>e,λr=>by simp at r⟩,λe=>e.1 rfl⟩
@[simp low] theorem abC (c:List Oper) (b:Tmp) (e:Bool) (a:Nat) (g:aa Tmp) (j:Op) (l:ab) (k:String) (d:af Edge) (i:List Oper) (n m:fJ) (h:H) (o:iw)
 (r:(mask>>>b)&&&1=0) (p:(dJ (c[a]?) λs=>s.dst)=some b) (q:Env.get mask ⟨n,m⟩ b=some (.bool e)):
 G2 (some b) (some e) a true cx cf mask c.toArray g j l k d i n m h o=
  BG e (p7 cx cf mask c.toArray (CF a (⟨g,j,l,k,d,some (a,true)⟩::i)) n (uy m b (.bool true)) h) (p7 cx cf mask c.toArray (CF a (⟨g,j,l,k,d,some (a,true)⟩::i)) n (uy m b (.bool false)) h) cx cf mask c.toArray (J8 a (⟨g,j,l,k,d,some (a,true)⟩::i)) o:=
 PN c b e a true g j l k d i n m h o e r p q dp 
@[simp low] theorem abD (d:List Oper) (b:Tmp) (c:Bool) (a:Nat) (g:aa Tmp) (j:Op) (l:ab) (k:String) (e:af Edge) (i:List Oper) (n m:fJ) (h:H) (o:iw)
 (r:(mask>>>b)&&&1=0) (p:(dJ (d[a]?) λs=>s.dst)=some b) (q:Env.get mask ⟨n,m⟩ b=some (.bool !c)):
 G2 (some b) (some c) a false cx cf mask d.toArray g j l k e i n m h o=
  BG (!c) (p7 cx cf mask d.toArray (CF a (⟨g,j,l,k,e,some (a,false)⟩::i)) n (uy m b (.bool true)) h) (p7 cx cf mask d.toArray (CF a (⟨g,j,l,k,e,some (a,false)⟩::i)) n (uy m b (.bool false)) h) cx cf mask d.toArray (J8 a (⟨g,j,l,k,e,some (a,false)⟩::i)) o:=
 PN d b (!c) a false g j l k e i n m h o c r p q (by cases c<;>rfl)
def VO{c:Bool}{g i:aa (Env×H)}{d:af Oper}{e:List Oper}{b:iw}(j:c=true->∃a h,g=some (a,h)/\RK cx cf mask d e a.vars a.tmps h b)(k:c=false->∃a h,i=some (a,h)/\RK cx cf mask d e a.vars a.tmps h b):BG c g i cx cf mask d e b:=⟨j,k⟩
def Ii{a d e:Bool}{h:H}{b c:aa kW}(g:a=true->b=some (.val (.bool d) h))(i:a=false->c=some (.val (.bool e) h)):mz (some (.bool a)) b c=some (.val (.bool (bif a then d else e)) h):=by
 cases a
 ·exact i rfl
 ·exact g rfl
@[simp] theorem aaE (a b:aa kW):mz (some (.bool true)) a b=a:=id rfl
@[simp] theorem YA (b a:aa kW):mz (some (.bool false)) b a=a:=id rfl
@[simp] theorem adr (a b c:Bool) (h:H):mz (some (.bool a)) (some (.val (.bool b) h)) (some (.val (.bool c) h))=some (.val (.bool (bif a then b else c)) h):=Ii (λ_=>rfl) (λ_=>rfl)
@[simp] theorem adq (a c d b:Bool) (h:H) (g:a=false->b=true):mz (some (.bool a)) (some (.val (.bool c) h)) (some (.val (gT b (.bool d)) h))=some (.val (.bool (bif a then c else d)) h):=Ii (λ_=>rfl) (λe=>by rw[g e];rfl)
@[simp] theorem adp (a c d b:Bool) (h:H) (g:a=true->b=true):mz (some (.bool a)) (some (.val (gT b (.bool c)) h)) (some (.val (.bool d) h))=some (.val (.bool (bif a then c else d)) h):=Ii (λe=>by rw[g e];rfl) (λ_=>rfl)
end
def jU(th:aj->aa kA):Op->Bool
 | .move _| .assign _| .pick .. | .load .. | .nilCheck _| .unOp .. | .binOp .. | .fieldAddr .. | .field .. | .indexAddr .. | .index .. | .extract .. | .slice .. =>true
 | .call b=>(match b.callee with
  | .builtin a=>(match a with| .len| .min| .max=>true|_=>false)
  | .value c=>(match c with| .func f=>(th f).isNone|_=>false)
  |_=>false)
 |_=>false
section
variable {th:aj->aa kA}
@[simp] theorem aaB (a:ah):jU th (.move a)=true:=id rfl
@[simp] theorem V1 (a:ah):jU th (.assign a)=true:=id rfl
@[simp] theorem aaA (a b c:ah):jU th (.pick a b c)=true:=id rfl
@[simp] theorem aaC (a:ab) (b:ah):jU th (.load a b)=true:=id rfl
@[simp] theorem Sx (a:ah):jU th (.nilCheck a)=true:=id rfl
@[simp] theorem aaz (a:UnOp) (b:ab) (c:ah):jU th (.unOp a b c)=true:=id rfl
@[simp] theorem Yw (a:BinOp) (b:ab) (d e:ah) (c:ab):jU th (.binOp a b d e c)=true:=id rfl
@[simp] theorem Qr (a:ab) (b:ah) (f:Nat):jU th (.fieldAddr a b f)=true:=id rfl
@[simp] theorem Yt (a:ab) (b:ah) (f:Nat):jU th (.field a b f)=true:=id rfl
@[simp] theorem Qq (a:ab) (b c:ah):jU th (.indexAddr a b c)=true:=id rfl
@[simp] theorem T3 (b:ah) (a:Nat):jU th (.extract b a)=true:=id rfl
@[simp] theorem Ys (d:ab) (e:ah) (a b c:aa ah):jU th (.slice d e a b c)=true:=id rfl
@[simp] theorem Yu (f:aj) (a:af ah) (b:af ab):jU th (.call ⟨.value (.func f),a,b⟩)=(th f).isNone:=id rfl
@[simp] theorem ab2 (a:af ah) (b:af ab):jU th (.call ⟨.builtin .len,a,b⟩)=true:=id rfl
@[simp] theorem ab1 (a:af ah) (b:af ab):jU th (.call ⟨.builtin .min,a,b⟩)=true:=id rfl
@[simp] theorem Yx (a:ab):jU th (.alloc a)=false:=id rfl
@[simp] theorem Yr (a:ab) (b c:ah):jU th (.store a b c)=false:=id rfl
@[simp] theorem Yv (b:ab) (a:af (Nat×ah)):jU th (.build b a)=false:=id rfl
@[simp] theorem PW (c:ab) (a:Nat) (b:af (Nat×ah)):jU th (.buildSlice c a b)=false:=id rfl
end
def Kp(th:aj->aa kA)(h:H)(e:aa kW):Prop:=∀a,e=some a->(∀d b,a= .val d b->b=h)/\∀f c,a= .call f c->th f=none
section
variable {th:aj->aa kA}{h:H}
def Kp.val(c:aa T):Kp th h (val h c):=by
 intro d a;obtain⟨e,_,a⟩:=dA.1 a;simp only[ar]at a;subst a;exact⟨λ_ _ b=>by simp at b;exact b.2.symm,λ_ _ b=>by simp at b⟩
def Kp.one(a:T):Kp th h (some (.val a h)):=Kp.val (some a)
def Kp.none:Kp th h none:=by intro b a;simp at a
def Kp.dJ{α:Type}{e:aa α}{f:α->aa kW}(d:∀a,Kp th h (f a)):Kp th h (dJ e f):=by
 intro c b;obtain⟨a,_,b⟩:=dA.1 b;exact d a c b
def Kp.fP{b:Bool}{a:aa kW}(e:Kp th h a):Kp th h (fP b a):=by
 intro c d;exact e c (dI.1 d).2
def Uc{o:Op}(d:jU th o=true)(cx:Ctx)(mask:Nat)(t:Env):Kp th h (iW o cx mask t h):=by
 cases o<;>first|(simp[jU]at d;done)|skip
 case move x=>exact Kp.val _
 case assign x=>exact Kp.val _
 case pick m k l=>
  rw[QO];unfold mz;refine Kp.dJ λa=> ?_;cases a<;>first|exact Kp.none|(rename_i b;cases b<;>exact Kp.val _)
 case load b k=>exact Kp.dJ λ_=>Kp.dJ λ_=>Kp.val _
 case nilCheck x=>exact Kp.dJ λa=>by cases a<;>first|exact Kp.none|exact Kp.one _
 case unOp j b x=>exact Kp.dJ λ_=>Kp.val _
 case binOp j b x q F=>
  cases j<;>first
   |exact Kp.dJ λ_=>Kp.dJ λ_=>Kp.val _
   |exact Kp.dJ λ_=>Kp.dJ λ_=>Kp.dJ λ_=>Kp.fP (Kp.dJ λ_=>Kp.val _)
 case fieldAddr b x f=>
  exact Kp.dJ λv=>Kp.dJ λa=>by
   cases a<;>first|exact Kp.none|exact Kp.dJ λ_=>Kp.one _
 case field b x f=>
  exact Kp.dJ λv=>Kp.dJ λ_=>Kp.dJ λa=>by
   cases a<;>first|exact Kp.none|exact Kp.dJ λ_=>Kp.val _
 case indexAddr b x g=>
  exact Kp.dJ λe=>Kp.dJ λa=>Kp.dJ λ_=>Kp.dJ λg=>by
   cases e.u<;>first|exact Kp.none|(refine Kp.dJ λy=> ?_;first
    |(cases a<;>first|exact Kp.none|exact Kp.dJ λ_=>Kp.fP (Kp.one _)|exact Kp.fP (Kp.dJ λ_=>Kp.fP (Kp.fP (Kp.dJ λ_=>Kp.one _))))
    |(refine Kp.fP ?_;cases a<;>first|exact Kp.none|exact Kp.dJ λ_=>Kp.one _|(refine Kp.dJ λr=> ?_;cases Nat.beq r.sz y.size<;>first|exact Kp.dJ λ_=>Kp.one _|exact Kp.fP (Kp.dJ λ_=>Kp.one _))))
 case index b x g=>
  exact Kp.dJ λe=>Kp.dJ λa=>Kp.dJ λ_=>Kp.dJ λg=>by
   cases e.u<;>first|exact Kp.none|(cases a<;>first|exact Kp.none|exact Kp.dJ λ_=>Kp.val _|exact Kp.dJ λ_=>Kp.fP (Kp.dJ λ_=>Kp.val _))
 case extract x g=>exact Kp.dJ λa=>by cases a<;>first|exact Kp.none|exact Kp.val _
 case slice b x k l m=>exact Kp.dJ λ_=>Kp.dJ λ_=>Kp.fP (Kp.dJ λ_=>Kp.dJ λ_=>Kp.dJ λ_=>Kp.fP (Kp.val _))
 rename_i m;obtain⟨s,z,E⟩:=m;cases s with
 |builtin l=>
  refine Kp.dJ λn=> ?_;cases l<;>first
   |(simp[jU]at d;done)
   |(match n with
    | []=>exact Kp.none
    | [x]=>first|exact Kp.none|(refine Kp.dJ λb=>Kp.dJ λe=> ?_;cases e.u<;>first|exact Kp.none|exact Kp.val _|(cases x<;>first|exact Kp.none|exact Kp.val _))
    | [x,q]=>first|exact Kp.val _|exact Kp.none
    |x::q::G::n=>exact Kp.none)
 |value j=>
  cases j with
  |func f=>
   have w:(th f).isNone=true:=d;refine Kp.dJ λn=> ?_;intro B c;obtain⟨a,p,c⟩:=dA.1 c;simp only[K0,ar]at p;subst p;obtain⟨D,_,c⟩:=dA.1 c;simp only[ar]at c;subst c;exact⟨λ_ _ i=>by simp at i,λC k i=>by simp at i;rw[<-i.1];simpa using w⟩
  |_=>simp[jU]at d
 |_=>simp[jU]at d
end
section
variable {P:ai}{cx:Ctx}{tb:fq}{mask:Nat}
def Ox{j:Op}(o:jU tb.h j=true){e:Env}{h:H}{k:T}{c:H}(a:fin (qk P cx tb) h (iW j cx mask e h)=some (k,c)):c=h:=by
 obtain⟨d,m,a⟩:=dA.1 a;obtain⟨p,q⟩:=Uc o cx mask e d m;rcases d with⟨t,r⟩|⟨f,b⟩
 ·simp only[ar,ay]at a;rw[<-a.2];exact p _ _ rfl
 ·have n:=q _ _ rfl;have a:qk P cx tb f b h=some (k,c):=a;have g:hl P cx tb f b h=none:=by unfold hl;rw[n]
  rw[OY]at a;cases i:Ps h b with
  |none=>rw[i,OW,g]at a;simp at a
  |some l=>
   rw[i,OV,g]at a;cases hr:rl P cx tb f l with
   |none=>rw[hr]at a;simp at a
   |some s=>
    rw[hr,OX]at a;split at a
    ·simp only[ar,ay]at a;exact a.2.symm
    ·simp at a
def Cz(j:af Oper)(l:List (Nat×Nat))(Q:fJ->H->Prop):∀(i:List Oper) (g:Nat) (n:List (Nat×Nat)) (e:List (Nat×H×H)) (b a:fJ) (h:H),(i.all λo=>jU tb.h o.op)=true->(∀k∈e,k.2.1=k.2.2)->
 Jk cx (qk P cx tb) mask j l i g n e b a h Q=WR cx (qk P cx tb) mask j i b a h Q
 | [],g,n,e,b,a,h,_,_=>by rw[Kw,PF]
 |o::i,g,n,e,b,a,h,hp,q=>by
  simp only[cy,aB]at hp;rw[HA,FC];unfold xz;cases j3 j mask ⟨b,a⟩ o.guard with
  |none=>apply propext;constructor<;>(first|exact False.elim|(rintro⟨d,c,G,_⟩;simp[dJ]at G))
  |some J=>
   rw[dO];cases J with
   |false=>
    rw[HB,yu];congr 1;funext b a;exact Cz j l Q i _ n e b a h hp.2 q
   |true=>
    rw[Kx];apply propext;have y:∀d c,fin (qk P cx tb) h (iW o.op cx mask ⟨b,a⟩ h)=some (d,c)->
     ((DK cx mask l g n e o.op ⟨b,a⟩ h c λn e=>WD mask o.dst d b a λb a=>Jk cx (qk P cx tb) mask j l i (g+1) n e b a c Q)↔WD mask o.dst d b a λb a=>WR cx (qk P cx tb) mask j i b a c Q):=by
     intro d c C;have D:=Ox hp.1 C;subst D;have E:∀p,lZ l g p e:=λp k hp _=>by rw[q k hp];exact Em p
     have F:∀u v d,o.op≠ .store u v d:=λu v d m=>by have:=hp.1;rw[m]at this;simp[jU]at this
     have x:∀t r,(∀k∈r,k.2.1=k.2.2)->((WD mask o.dst d b a λb a=>Jk cx (qk P cx tb) mask j l i (g+1) t r b a c Q)↔WD mask o.dst d b a λb a=>WR cx (qk P cx tb) mask j i b a c Q):=by
      intro t r z;rw[show(λb a=>Jk cx (qk P cx tb) mask j l i (g+1) t r b a c Q)=λb a=>WR cx (qk P cx tb) mask j i b a c Q from by funext b a;exact Cz j l Q i _ t r b a c hp.2 z]
     unfold DK;split
     ·rw[IX];show(True/\_)/\(WD mask o.dst d b a λb a=>Jk cx (qk P cx tb) mask j l i (g+1) n (if kU l g=true then(g,c,c)::e else e) b a c Q)↔_;have B:∀k∈(if kU l g=true then(g,c,c)::e else e),k.2.1=k.2.2:=by
       split
       ·intro k hp;rcases List.mem_cons.1 hp with rfl|hp
        ·rfl
        ·exact q k hp
       ·exact q
      rw[x _ _ B];exact⟨λm=>m.2,λm=>⟨⟨trivial,λu v d p I=>absurd I (F u v d)⟩,m⟩⟩
     ·cases fU cx mask ⟨b,a⟩ c o.op with
      |none=>exact x _ _ q
      |some p=>simp only;rw[x _ _ q];exact⟨λm=>m.2,λm=>⟨E p,m⟩⟩
    show(∃d c,_/\_)↔∃d c,_/\_;constructor
    ·rintro⟨d,c,s,w⟩;exact⟨d,c,s,(y d c s).1 w⟩
    ·rintro⟨d,c,s,w⟩;exact⟨d,c,s,(y d c s).2 w⟩
@[simp high] theorem abu (a:List Oper) (d:List (Nat×Nat)) (b:fJ) (h:H) (c:iw) (e:(a.all λi=>jU tb.h i.op)=true):QK cx (qk P cx tb) mask a (some d) b h c=RK cx (qk P cx tb) mask a.toArray a b .nil h c:=
 Cz a.toArray d (λb h=>c.n ⟨b,.nil⟩ h) a 0 [] [] b .nil h e (λj g=>by simp at g)
end
def D0(b:T):Prop:=∃a,b= .int .i64 a
@[simp] theorem aaN (a:Int):D0 (.int .i64 a)=True:=by simp[D0]
section
variable {P:ai}{cx:Ctx}{f:aj}{α:Type}{A:α->List T}{pre:α->Prop}{Q:α->T->Prop}
noncomputable abbrev mU.jb(_:mU P cx f A pre Q):f7:=wR P cx f A pre Q
def mU.use(c:mU P cx f A pre Q)(a:α)(b:pre a):∃d,Q a d/\∀{tb:fq},tb.p f=some (wR P cx f A pre Q)->rl P cx tb f (A a)=some d:=⟨_,c.2 a b,λht=>gF ht c.1 a b⟩
end
section
variable {P:ai}{cx:Ctx}{f:aj}{α γ:Type}{A:α->List T}{pre:α->Prop}
def mU.fnI(d:mU P cx f A pre (λ_=>D0))(b:γ->α)(c:∀a,pre (b a)):∃e:γ->Int,∀{tb:fq},tb.p f=some (wR P cx f A pre (λ_=>D0))->∀a,rl P cx tb f (A (b a))=some (.int .i64 (e a)):=by
 refine⟨λa=>(d.2 (b a) (c a)).choose,λht a=> ?_⟩;exact(gF ht d.1 (b a) (c a)).trans (bM some (d.2 (b a) (c a)).choose_spec)
end
@[simp] theorem adJ (a:iJ):gu 1 (hE.cons a)=True:=by simp;exact⟨dp,dp,dp⟩
@[simp] theorem adI (a b:iJ):gu 2 ((hE.cons a).cons b)=True:=by simp;exact⟨dp,dp,dp⟩
@[simp] theorem adH (b c d a:iJ):gu 4 ((((hE.cons b).cons c).cons d).cons a)=True:=by simp;exact⟨dp,dp,dp⟩
def nD(a:ak)(b c:Int):binop .add (.int a b) (.int a c)=some (.int a (a.wrap (b+c))):=by
 show fP (CD a a) (o8 a (b+c))=_;simp
def tN(a:ak)(b c:Int):binop .sub (.int a b) (.int a c)=some (.int a (a.wrap (b-c))):=by
 show fP (CD a a) (o8 a (b-c))=_;simp
def Y2(a:ak)(b c:Int):binop .mul (.int a b) (.int a c)=some (.int a (a.wrap (b*c))):=by
 show fP (CD a a) (o8 a (b*c))=_;simp
def GN(c:T):Prop:=∃a b,c= .tuple [.int .i64 a,.int .i64 b]
@[simp] theorem aaO (a b:Int):GN (.tuple [.int .i64 a,.int .i64 b])=True:=by simp[GN]
end
noncomputable section
section
variable {cx:Ctx}{mask:Nat}{e:Env}
@[simp] theorem Up (a:ak) (b:Int):nl (.int a b)=some (.int a b):=id rfl
@[simp] theorem ST:nl (.slice none 0 0)=some (.dC [] false):=id rfl
@[simp] theorem Uo (a:ByteArray):nl (.string a)=some (.str (a.data.toList.map UInt8.toNat)):=Ng (cx:=⟨λ_=>none,λ_=>none,λ_=>none⟩) (mask:=0) (e:=⟨.nil,.nil⟩) a
@[simp] theorem YD (a:List am):fy cx mask e (.const (.agg a.toArray))=dJ (fw nl a) λb=>some (.agg b):=id rfl
end
@[simp] theorem Pq (a:List T):dL (sl a)=none:=by cases a<;>rfl
@[simp] theorem oT1 (a:T):js [a]=a:=id rfl
@[simp] theorem oT2 (a b:T) (c:List T):js (a::b::c)= .tuple (a::b::c):=id rfl
@[simp] theorem oT0:js []= .tuple []:=id rfl
@[simp] theorem acI (a:H):(hr a).low=a.size:=id rfl
@[simp] theorem TY (a:H) (d f:iJ) (b:Nat) (c:¬b=a.size):ew (a.cons d) (a.cons f) b=true:=by
 unfold ew;rw[dM,dM,ao c,ao c];cases a.get b<;>simp
def eZ{b c:H}{a:Nat}(d:c.get a=b.get a):ew b c a=true:=by
 unfold ew;rw[d];cases b.get a<;>simp
def Fp(d:H)(b a:Nat):Prop:=a=b\/∃c,d.get b=some c/\∃f∈eQ c.ee,dL f=some a
structure Step(w:Nat)(h h':H):Prop where
 ok:gu h.size h'
 get:∀b,b<h.size->¬Fp h w b->h'.get b=h.get b
 fp:∀b,Fp h' w b->Fp h w b\/h.size<=b
def iE{c d:H}{a:Nat}(f:d.get a=c.get a)(b:Nat):Fp d a b=Fp c a b:=by unfold Fp;rw[f]
def Step.refl{d:Nat}{a:H}(b:gu 0 a):Step d a a:=⟨⟨b.hp,b.low,au _⟩,λ_ _ _=>rfl,λ_ c=> .inl c⟩
def Step.trans{g:Nat}{h d i:H}(a:Step g h d)(c:Step g d i):Step g h i:=by
 refine⟨⟨c.ok.hp,c.ok.low,aS a.ok.sz c.ok.sz⟩,λb f j=> ?_,λb f=> ?_⟩
 ·have d:=a.get b f j;have:=a.ok.sz;rw[c.get b dj (λk=>(a.fp b k).elim j λk=>absurd k dj),d]
 ·rcases c.fp b f with k|k
  ·exact a.fp b k
  ·exact .inr (aS a.ok.sz k)
structure Lb(w:Nat)(h:H)(b:Nat)(x:iJ):Prop where
 get:h.get b=some x
 nf:¬Fp h w b
def Lb.lt{d:Nat}{b:H}{a:Nat}{f:iJ}(c:Lb d b a f):a<b.size:=H.ej c.get
def Lb.ne{a:Nat}{c:H}{b:Nat}{g:iJ}(f:Lb a c b g):b≠a:=λd=>f.nf (.inl d)
def Lb.step{d:Nat}{f g:H}{b:Nat}{i:iJ}(a:Lb d f b i)(h:Step d f g):Lb d g b i:=
 ⟨by rw[h.get b a.lt a.nf];exact a.get,λc=>(h.fp b c).elim a.nf λc=>absurd c (by have:=a.lt;omega)⟩
def Step.cons{w:Nat}{a:H}(d:gu 0 a)(i:w<a.size)(b:iJ):Step w a (a.cons b):=by
 have g:(a.cons b).get w=a.get w:=by rw[dM,ao dj]
 exact⟨⟨(d.cons b).hp,(d.cons b).low,dp⟩,λf h _=>by rw[dM,ao dj],λf c=>by rw[iE g]at c;exact .inl c⟩
def Lb.new{b:Nat}{a:H}(j:b<a.size)(h:∀d,Fp a b d->d<a.size)(c:iJ):Lb b (a.cons c) a.size c:=by
 have i:(a.cons c).get b=a.get b:=by rw[dM,ao dj]
 exact⟨dp,λg=>by rw[iE i]at g;have:=h _ g;omega⟩
def Step.rn{c:Nat}{b:H}(k:gu 0 b){a:Nat}{o:iJ}(h:Lb c b a o)(d:iJ)(g:H)(i:Step c g b)(p:g.size<=a):Step c g (dQ b a d):=by
 have m:(dQ b a d).get c=b.get c:=by rw[dE h.get,ao (bg h.ne)]
 refine⟨⟨(k.put a d).hp,(k.put a d).low,by rw[fG];exact i.ok.sz⟩,λf l n=> ?_,λf j=> ?_⟩
 ·rw[dE h.get,ao dj];exact i.get f l n
 ·rw[iE m]at j;exact i.fp f j
def Step.put{b:Nat}{a:H}(k:gu 0 a){x:iJ}(j:a.get b=some x)(d:iJ)(p:∀i∈eQ d.ee,∀f,dL i=some f->Fp a b f\/a.size<=f):Step b a (dQ a b d):=by
 refine⟨⟨(k.put b d).hp,(k.put b d).low,by rw[fG];exact au _⟩,λc q m=> ?_,λc h=> ?_⟩
 ·rw[dE j,ao (λh=>m (.inl h))]
 ·rcases h with rfl|⟨r,g,i,o,l⟩
  ·exact .inl (.inl rfl)
  ·rw[dE j,aq rfl]at g;simp only[ar]at g;subst g;exact p i o c l
def Step.Yq{c:Nat}{b:H}(h:gu 0 b){a:Nat}{n:iJ}(g:b.get a=some n)(j:Fp b c a)(l:a≠c)(f:iJ):Step c b (dQ b a f):=by
 have m:(dQ b a f).get c=b.get c:=by rw[dE g,ao (bg l)]
 refine⟨⟨(h.put a f).hp,(h.put a f).low,by rw[fG];exact au _⟩,λi o k=> ?_,λi d=> ?_⟩
 ·rw[dE g,ao (λd=>k (by rw[d];exact j))]
 ·rw[iE m]at d;exact .inl d
def Step.JB{f:Nat}{g c:H}(d:Step f g c){b:H}(h:∀a,b.get a=c.get a)(m:b.size=c.size)(j:gu 0 b):Step f g b:=
 ⟨⟨j.hp,j.low,by rw[m];exact d.ok.sz⟩,λa k l=>by rw[h];exact d.get a k l,λa i=>by rw[iE (h f)]at i;exact d.fp a i⟩
def TB(b:H)(c a:Nat):Fp (hr b) c a=Fp b c a:=iE (fX b c) a
def Step.hr{f:Nat}{c d:H}(a:Step f (hr c) d):Step f c d:=
 ⟨⟨a.ok.hp,a.ok.low,a.ok.sz⟩,λb g h=>by rw[a.get b g (by rw[TB];exact h),fX],λb i=>by have:=a.fp b i;rw[TB]at this;exact this⟩
def gu.hr{b:Nat}{a:H}(c:gu b a):gu b (hr a):=⟨by rw[Zt];exact c.hp,au _,c.sz⟩
def Gr(h:H)(d:T)(i:Nat)(a:List T):Prop:=
 (d= .dC [] false/\a=[])\/∃b c j g f,d= .arr b c 0 a.length false/\h.get b=some ⟨i,c,j,g,false,f⟩/\f.take a.length=a
def Gr.nil(a:H)(b:Nat):Gr a (.dC [] false) b []:= .inl ⟨rfl,rfl⟩
def Gr.gD{d:H}{a:T}{f:Nat}{b:List T}(c:Gr d a f b):a.gD=true:=by
 rcases c with⟨rfl,_⟩|⟨g,h,j,i,k,rfl,_⟩<;>rfl
def Gr.cells{d:H}{a:T}{f:Nat}{b:List T}(c:Gr d a f b):a.cells=[a]:=by
 rcases c with⟨rfl,_⟩|⟨g,h,j,i,k,rfl,_⟩<;>rfl
def Gr.mono{d h':H}{b:T}{f:Nat}{c:List T}(i:Gr d b f c)(l:∀a,dL b=some a->h'.get a=d.get a):Gr h' b f c:=by
 rcases i with⟨rfl,rfl⟩|⟨a,g,m,h,n,rfl,j,k⟩
 ·exact .inl ⟨rfl,rfl⟩
 ·exact .inr ⟨a,g,m,h,n,rfl,by rw[l a rfl];exact j,k⟩
def Gr.box{j:H}{f:T}{k:Nat}{i:List T}(l:Gr j f k i){b:Nat}(d:dL f=some b):∃a g c h,j.get b=some ⟨k,a,g,c,false,h⟩/\f= .arr b a 0 i.length false:=by
 rcases l with⟨rfl,_⟩|⟨n,a,g,c,h,rfl,m,o⟩
 ·simp at d
 ·simp only[v7,ar]at d;subst d;exact⟨a,g,c,h,m,rfl⟩
def Gr.ne{c:H}{g h:T}{d f:Nat}{i J6:List T}(j:Gr c g d i)(k:Gr c h f J6)(m:d≠f):∀b,dL g=some b->dL h≠some b:=λb l n=>by
 obtain⟨_,_,_,_,o,_⟩:=j.box l;obtain⟨_,_,_,_,a,_⟩:=k.box n;rw[o]at a;simp at a;exact m a.1
def Gr.jc{b:H}{d:T}{h:Nat}{a:List T}(f:Gr b d h a):b.jc d=some a:=by
 rcases f with⟨rfl,rfl⟩|⟨j,k,m,l,i,rfl,g,c⟩
 ·rfl
 ·have hl:a.length<=i.length:=by have:=bM List.length c;rw[List.length_take]at this;omega
  rw[fW,g];simp[hl,c]
def Gr.len{cx:Ctx}{h:H}{f:T}{i:Nat}{a:List T}(g:Gr h f i a)(b:H)(d:Ty)(j:ab)(c:d.u= .slice j):CQ cx b d f=some (.val (.int .i64 a.length) b):=by
 rcases g with⟨rfl,rfl⟩|⟨k,l,p,m,q,rfl,n,o⟩
 ·exact DY _ _ _ _ c
 ·rw[Oj _ _ _ _ _ _ _ c]
def Gr.ID{f:H}{k:T}{j:Nat}{b:List T}(o:Gr f k j b){te:Ty}(q:te.size=j){i:Nat}(g:i<b.length):∃a d l h c,dL k=some a/\kf f te k i=some (.val (.ptr a d i 0) f)/\f.get a=some ⟨j,d,l,h,false,c⟩/\c[i]? =some b[i]:=by
 rcases o with⟨rfl,rfl⟩|⟨a,d,l,h,c,rfl,m,p⟩
 ·simp at g
 ·refine⟨a,d,l,h,c,rfl,?_,m,?_⟩
  ·rw[Ot,m];simp[g,q]
  ·have n:(c.take b.length)[i]? =b[i]? :=by rw[p]
   rw[bJ,aq g,az g]at n;exact n
def Gr.ry{a:H}{d:T}{l:Nat}{h:Type}{f:h->T}{b:List h}(c:Gr a d l (b.map f))(j:∀g,wy a 11 (f g)=some (f g)):TI.ry a d=some (sl (b.map f)):=by
 have k:=c.jc;rcases c with⟨rfl,i⟩|⟨m,n,r,o,s,rfl,p,q⟩
 ·rw[i];rfl
 ·rw[J2,uZ,k,dO,BD _ _ _ j];rfl
def Gr.cut{cx:Ctx}{b:H}{i:T}{h:Nat}{a:List T}(m:Gr b i h a){ty te:Ty}{f:ab}(r:ty.u= .slice f)(ht:cx.ty f=some te)(q:te.size=h){n:Nat}(c:n<=a.length)(p:0<a.length):
 ∃j,Ma cx b ty i none (some n) none=some (.val j b)/\Gr b j h (a.take n)/\dL j=dL i:=by
 rcases m with⟨rfl,rfl⟩|⟨d,g,s,l,t,rfl,k,o⟩
 ·simp at p
 ·refine⟨.arr d g 0 n false,Jy ty te f d g 0 a.length n false _ r ht k (by simp[q]) c,.inr ⟨d,g,s,l,t,by rw[List.length_take,cv c],k,?_⟩,rfl⟩;rw[List.length_take,cv c,<-o,List.take_take,cv c]
def AC(c:H)(h:T)(j:Nat)(g:List T)(k:T)(d:H):Prop:=∃a f l i,k= .arr a f 0 g.length false/\d.get a=some ⟨j,f,l,i,false,g⟩/\
 (dL h=some a\/(dL h=none/\a=c.size))/\(∀b,b≠a->b<c.size->d.get b=c.get b)/\gu c.size d
def AC.gr{j:H}{l:T}{c:Nat}{a:List T}{d:T}{b:H}(f:AC j l c a d b):Gr b d c a:=by
 obtain⟨g,h,m,i,rfl,k,_⟩:=f;exact .inr ⟨g,h,m,i,a,rfl,k,aL⟩
def AC.set{i:H}{n:T}{d b c h:Nat}{f:Bool}{a:List T}{g:H}(p:AC i n d a (.arr b c 0 a.length false) g)(l:g.get b=some ⟨d,c,h,f,false,a⟩)(m:Nat)(o:T):
 AC i n d (a.set m o) (.arr b c 0 a.length false) (dQ g b ⟨d,c,h+1,f,false,a.set m o⟩):=by
 obtain⟨u,v,y,w,j,x,r,s,t⟩:=p;simp only[T.arr.injEq,and_true]at j;obtain⟨rfl,rfl⟩:=j;exact⟨b,c,h+1,f,by rw[cM],by rw[dE l,aq rfl],r,λq k hl=>by rw[dE l,ao k];exact s q k hl,t.put _ _⟩
def Gr.app{cx:Ctx}{a:H}{j:T}{f:Nat}{d:List T}(E:Gr a j f d)(l:gu 0 a){r s m:ab}{A B g:Ty}(F:cx.ty r=some A)(G:A.u= .slice m)(I:cx.ty m=some g)(J:cx.ty s=some B)(K:B.u= .slice m)(y:g.size=f)(w:1<=g.bytes)
 {x:T} {xs:List T} (N:a.jc x=some xs) (q:∀e∈xs,e.cells.length=f) (M:xs≠ []) (p:(d.length+xs.length)*g.bytes<=70368744177664):
 ∃C v,iK cx a r s j x=some (.val C v)/\AC a j f (d++xs) C v:=by
 have L:iK cx a r s j x=jl (a.append g.size g.bytes j xs):=by
  unfold iK pN mY;rw[F,dO,J,dO];simp only[G,I,K,N,dO];rw[y,m8 q,gX]
 rw[L,y];obtain⟨b,c,rfl⟩:∃b c,xs=b::c:=by cases xs with|nil=>exact absurd rfl M|cons b c=>exact⟨b,c,rfl⟩
 rcases E with⟨rfl,rfl⟩|⟨h,i,t,Q,O,rfl,k,z⟩
 ·refine⟨_,a.cons ⟨f,0,0,false,false,b::c⟩,?_,a.size,0,0,false,rfl,dp,.inr ⟨rfl,rfl⟩,λD o _=>by rw[dM,ao o],(l.cons _).hp,(l.cons _).low,dp⟩;show jl (a.iU f g.bytes [] (b::c))=_;rw[om q w (by simpa using p)];rfl
 ·refine⟨.arr h (i+1) 0 (d++b::c).length false,dQ a h ⟨f,i+1,t+1,false,false,d++b::c⟩,?_,h,i+1,t+1,false,rfl,by rw[dE k,aq rfl],.inl rfl,λD o _=>by rw[dE k,ao o],(l.put _ _).hp,(l.put _ _).low,by rw[fG];exact au _⟩;show jl (a.lO f g.bytes h i d.length (b::c))=_;have hl:d.length<=O.length:=by have:=bM List.length z;rw[List.length_take]at this;omega
  have:a.lO f g.bytes h i d.length (b::c)=some (.arr h (i+1) 0 (d++b::c).length false,dQ a h ⟨f,i+1,t+1,false,false,d++b::c⟩):=by
   unfold H.lO;rw[k];simp only[dO,mX,hl,bo,z,qm,jq,iq,m8 q,xJ k];simp at p;simp[w,p,bh]
  rw[this];rfl
def Xt(b:H)(d:T)(h:Nat)(g:List T)(f:T)(c:H):Prop:=Gr c f h g/\(∀a,a<b.size->dL d≠some a->c.get a=b.get a)/\(∀a,dL f=some a->dL d=some a\/b.size<=a)/\gu b.size c
def AC.xt{g:H}{k:T}{j:Nat}{f:List T}{l:T}{h:H}(d:AC g k j f l h):Xt g k j f l h:=by
 have n:=d.gr;obtain⟨m,r,u,e,rfl,s,a,o,p⟩:=d;refine⟨n,λc b q=> ?_,λc b=> ?_,p⟩
 ·by_cases i:c=m
  ·subst i;rcases a with a|⟨_,a⟩
   ·exact absurd a q
   ·omega
  ·exact o c i b
 ·simp only[v7,ar]at b;subst b;exact a.imp id λt=>by omega
def Xt.refl{a:H}{b:T}{f:Nat}{c:List T}(g:Gr a b f c)(d:gu 0 a):Xt a b f c b a:=⟨g,λ_ _ _=>rfl,λ_ h=> .inl h,d.hp,d.low,au _⟩
def Xt.trans{f g h:H}{j l m:T}{d:Nat}{s J6:List T}(n:Xt f j d s l g)(o:Xt g l d J6 m h):Xt f j d J6 m h:=by
 obtain⟨_,a2,a3,a4⟩:=n;obtain⟨p,q,r,b⟩:=o;have:=a4.sz;refine⟨p,λa c i=> ?_,λa c=> ?_,b.hp,b.low,aS a4.sz b.sz⟩
 ·rw[q a dj (λk=>(a3 a k).elim i (λt=>by omega)),a2 a c i]
 ·rcases r a c with k|k
  ·exact a3 a k
  ·exact .inr dj 
def Xt.cons{c d:H}{g h:T}{f:Nat}{b:List T}(i:Xt c g f b h d)(a:iJ):Xt c g f b h (d.cons a):=by
 obtain⟨a1,a2,a3,a4⟩:=i;have:=a4.sz;refine⟨a1.mono λo k=> ?_,λj l m=> ?_,a3,(a4.cons a).hp,(a4.cons a).low,(a4.cons a).sz⟩
 ·obtain⟨_,_,_,_,n,_⟩:=a1.box k;have:=H.ej n;rw[dM,ao dj]
 ·rw[dM,ao dj];exact a2 j l m
def vM{b:Nat}{d f:H}{l s:T}{y w F i:Nat}{C:Bool}{G:List T}{o:List T}(bi:gu 0 d)(X:∀a,Fp d b a->a<d.size)(p:d.get b=some ⟨w,0,F,C,false,[.agg o]⟩)(ap:o[i]? =some l)(an:y≠w)
 {W:List T} (ae:Gr d l y W) (Z:Xt d l y G s f):f.get b=d.get b/\∀h,h=(⟨w,0,F+1,C,false,[.agg (o.set i s)]⟩:iJ)->
  Step b d (dQ f b h)/\(∀a,Fp (dQ f b h) b a->a<(dQ f b h).size)/\Gr (dQ f b h) s y G/\
   ∀t A J6,t∈o->Gr d t A J6->(∀a,dL l=some a->dL t≠some a)->A≠w->Gr (dQ f b h) t A J6/\∀a,dL s=some a->dL t≠some a:=by
 have aA:=H.ej p;have R:l∈o:=ax ap;obtain⟨J,E,U,Y⟩:=Z;have M:∀a,dL l=some a->a≠b:=λa c k=>by
  subst k;obtain⟨_,_,_,_,q,_⟩:=ae.box c;rw[p]at q;simp at q;exact an q.1.symm
 have a7:Step b d f/\f.get b=d.get b/\(∀a,dL s=some a->a≠b/\(dL l=some a\/d.size<=a))/\(∀a,a≠b->dL l≠some a->a<d.size->f.get a=d.get a):=by
  have S:f.get b=d.get b:=E b aA λq=>M b q rfl;refine⟨⟨Y,λn m x=>E n m λq=>x (.inr ⟨_,p,l,by simpa[eQ,T.cells]using R,q⟩),λn m=>by rw[iE S]at m;exact .inl m⟩,S,λn m=>⟨?_,U n m⟩,λn _ m hl=>E n hl m⟩;rcases U n m with q|q
  ·exact M n q
  ·omega
 obtain⟨v,I,B,aN⟩:=a7;refine⟨I,λh aE=> ?_⟩;have u:f.get b=some ⟨w,0,F,C,false,[.agg o]⟩:=I.trans p;have Q:(dQ f b h).get b=some h:=by rw[dE u,aq rfl]
 have L:∀g∈eQ h.ee,g∈o\/g=s:=by
  intro g j;subst aE;simp only[eQ,cB,cX,cg,T.cells]at j;exact bV j
 have O:∀g∈o,∀a,dL g=some a->Fp d b a:=λg j a c=> .inr ⟨_,p,g,by simpa[eQ,T.cells]using j,c⟩;have a6:Step b d (dQ f b h):=by
  have V:gu 0 f:=⟨v.ok.hp,v.ok.low,aw _⟩;refine⟨⟨(V.put b h).hp,(V.put b h).low,by rw[fG];exact v.ok.sz⟩,λa c x=> ?_,λa c=> ?_⟩
  ·rw[dE u,ao (λk=>x (.inl k))];exact v.get a c x
  ·rcases c with rfl|⟨z,r,g,j,c⟩
   ·exact .inl (.inl rfl)
   ·rw[Q]at r;simp only[ar]at r;subst r;rcases L g j with j|rfl
    ·exact .inl (O g j a c)
    ·rcases(B a c).2 with q|q
     ·exact .inl (O l R a q)
     ·exact .inr dj
 have av:∀a,dL s=some a->a<f.size:=λa c=>by obtain⟨_,_,_,_,q,_⟩:=J.box c;exact H.ej q
 refine⟨a6,λa c=> ?_,?_,λt A J6 a8 D N al=>⟨?_,λa c k=> ?_⟩⟩
 ·rw[fG];rcases c with rfl|⟨z,r,g,j,c⟩
  ·exact H.ej u
  ·rw[Q]at r;simp only[ar]at r;subst r;rcases L g j with j|rfl
   ·have:=X a (.inr ⟨_,p,g,by simpa[eQ,T.cells]using j,c⟩);have:d.size<=f.size:=v.ok.sz;omega
   ·exact av a c
 ·exact J.mono λa c=>by rw[dE u,ao (B a c).1]
 ·refine D.mono λa c=> ?_;obtain⟨_,_,_,_,q,_⟩:=D.box c;have K:a≠b:=λk=>by subst k;rw[p]at q;simp at q;exact al q.1.symm
  rw[dE u,ao K];exact aN a K (λk=>N a k c) (H.ej q)
 ·rcases(B a c).2 with q|q
  ·exact N a q k
  ·obtain⟨_,_,_,_,aX,_⟩:=D.box k;have:=H.ej aX;omega
section
variable {P:ai}{cx:Ctx}{tb:fq}{mask:Nat}
def Z6{f:aj}{a:kA}{d:List T}{g:H}{l:af Oper}{j:aa Tmp}{k:List Oper}{n m:fJ}{i:iw}(o:a.Ok P cx f)(ht:tb.h f=some a)(p:a.pre d g)
 (r:∀c b,a.post d g c b->XK (some (c,b)) cx (qk P cx tb) mask l j k n m i):XK (hl P cx tb f d g) cx (qk P cx tb) mask l j k n m i:=by
 obtain⟨c,b,e,q⟩:=D3 ht o p;rw[e];exact r c b q
def VM{g:aj}{b:kA}{f:List T}{a:H}{q:af Oper}{j:List (Nat×Nat)}{k:aa Tmp}{p:Op}{n:List Oper}{m:Nat}{o:List (Nat×Nat)}{l:List (Nat×H×H)}{s r:fJ}{i:iw}(t:b.Ok P cx g)(ht:tb.h g=some b)(u:b.pre f a)
 (w:∀d c,b.post f a d c->PR (some (d,c)) cx (qk P cx tb) mask q j k p n m o l s r a i):PR (hl P cx tb g f a) cx (qk P cx tb) mask q j k p n m o l s r a i:=by
 obtain⟨d,c,e,v⟩:=D3 ht t u;rw[e];exact w d c v
def hlB{c:aj}{d:kA}(m:d.Ok P cx c)(n:∀b a g f,d.post b a g f->f=a/\D1 g):∃k:List T->H->Bool,∀{tb:fq},tb.h c=some d->∀b a,d.pre b a->hl P cx tb c b a=some (.bool (k b a),a):=by
 let i:fq:=⟨λ_=>none,λ_=>some d⟩
 refine⟨λb a=>match hl P cx i c b a with|some (.bool j,_)=>j|_=>false,λ{tb} ht b a o=> ?_⟩;have l:hl P cx tb c b a=hl P cx i c b a:=by unfold hl;rw[ht]
 obtain⟨g,f,e,p⟩:=D3 (tb:=i) rfl m o;obtain⟨rfl,j,rfl⟩:=n _ _ _ _ p;rw[l];simp only[e]
def hlI{c:aj}{d:kA}(m:d.Ok P cx c)(n:∀b a g f,d.post b a g f->f=a/\D0 g):∃k:List T->H->Int,∀{tb:fq},tb.h c=some d->∀b a,d.pre b a->hl P cx tb c b a=some (.int .i64 (k b a),a):=by
 let i:fq:=⟨λ_=>none,λ_=>some d⟩
 refine⟨λb a=>match hl P cx i c b a with|some (.int _ j,_)=>j|_=>0,λ{tb} ht b a o=> ?_⟩;have l:hl P cx tb c b a=hl P cx i c b a:=by unfold hl;rw[ht]
 obtain⟨g,f,e,p⟩:=D3 (tb:=i) rfl m o;obtain⟨rfl,j,rfl⟩:=n _ _ _ _ p;rw[l];simp only[e]
end
def lA(b a:H):H:=⟨a.size,if a.low<b.low then a.low else b.low,a.eY⟩
def fK(c b:H)(a:Nat):(lA c b).get a=b.get a:=H.qx b _ a
@[simp] theorem vK (b a:H):(lA b a).size=a.size:=id rfl
def gu.out{c:Nat}{b:H}(a:gu c b)(h:H):gu c (lA h b):=⟨a.hp,by have:=a.low;unfold lA;simp only;split<;>omega,a.sz⟩
def Step.out{c:Nat}{h a:H}(b:Step c (TI.hr h) a):Step c h (lA h a):=b.hr.JB (fK h a) rfl ⟨(b.ok.out h).hp,(b.ok.out h).low,aw _⟩
def Gr.out{a:H}{d:T}{c:Nat}{b:List T}(g:Gr a d c b)(h:H):Gr (lA h a) d c b:=g.mono λf _=>fK h a f
def jp(ι:Type)(pre:ι->List T->H->Prop)(post:ι->List T->H->T->H->Prop):kA:=⟨λa b=>∃c,pre c a b,λa b f d=>∀c,pre c a b->post c a b f d⟩
section
variable {P:ai}{cx:Ctx}{mask:Nat}{ι:Type}{pre:ι->List T->H->Prop}{post:ι->List T->H->T->H->Prop}
def jk{tb:fq}(I:P.follows .mixedOrders=true)(iH:iM P cx){s:aj}{d:Func}{r:DL}(k:FE P cx s d mask r)(l:List T->H->Nat)(J:∀c p a,pre c p a->p.length<=d.ntmps)
 (O:∀c b a,pre c b a->∀y,mS y 0 b->W (jh cx (qk P cx tb) (l b a) mask r (d.body.getD .skip) ⟨y,.nil⟩ (hr a)) (BM cx mask d.results.toList λn C=>post c b a (js n) (lA a C))):(jp ι pre post).Ok P cx s:=by
 intro b a ⟨R,K⟩;have w:∀c,pre c b a->∃i h,rU cx (qk P cx tb) (l b a) d mask true b a=some (i,h)/\post c b a i h:=by
  intro c j;obtain⟨x,N,_,E⟩:=lQ mask d.ntmps 0 b (J c b a j);obtain⟨V,e,t,g,Q,n,L,m⟩:=Cw (O c b a j x E);have g:=pA _ k.dr _ _ _ g;obtain⟨A,f⟩:=yp k.ok;rw[f]at g;refine⟨_,_,?_,m⟩;unfold rU;rw[f];obtain⟨o,v,q⟩:=a;simp only;rw[N,dO];have g:jL cx (qk P cx tb) (l b ⟨o,v,q⟩) mask A ⟨x,.nil⟩ ⟨o,o,q⟩=some (V,e,t):=g;rw[g,dO,ks];have M:=nR L;have G:=uV v (js n) t;rcases Q with rfl|rfl<;>(simp only;rw[M,dO];exact G)
 obtain⟨i,h,u,_⟩:=w R K;refine⟨i,h,λc j=> ?_,λz U X B S D=>oH (F:=⟨d,mask,true,none⟩) I iH k.at_ k.ok _ (Ch P cx tb) (l b a) b a i h u z U X B S D⟩;obtain⟨Z,Y,f,m⟩:=w c j;rw[u]at f;simp only[ar,ay]at f;rw[f.1,f.2];exact m
def gJ{tb:fq}{f:aj}{d:List T}{g:H}{m:af Oper}{j:aa Tmp}{l:List Oper}{o n:fJ}{i:iw}(p:(jp ι pre post).Ok P cx f)(ht:tb.h f=some (jp ι pre post))(b:ι)(k:pre b d g)
 (r:∀c a,post b d g c a->XK (some (c,a)) cx (qk P cx tb) mask m j l o n i):XK (hl P cx tb f d g) cx (qk P cx tb) mask m j l o n i:=
 Z6 p ht ⟨b,k⟩ λc a q=>r c a (q b k)
def lJ{tb:fq}{g:aj}{f:List T}{a:H}{r:af Oper}{j:List (Nat×Nat)}{k:aa Tmp}{q:Op}{o:List Oper}{n:Nat}{p:List (Nat×Nat)}{l:List (Nat×H×H)}{t s:fJ}{i:iw}(u:(jp ι pre post).Ok P cx g)(ht:tb.h g=some (jp ι pre post))(c:ι)(m:pre c f a)
 (w:∀d b,post c f a d b->PR (some (d,b)) cx (qk P cx tb) mask r j k q o n p l t s a i):PR (hl P cx tb g f a) cx (qk P cx tb) mask r j k q o n p l t s a i:=
 VM u ht ⟨c,m⟩ λd b v=>w d b (v c m)
def yx(g:ι->Nat){f:aj}(step:∀b,(jp ι (λa d c=>pre a d c/\g a<b) post).Ok P cx f->(jp ι (λa d c=>pre a d c/\g a<b+1) post).Ok P cx f)(b:Nat):(jp ι (λa d c=>pre a d c/\g a<b) post).Ok P cx f:=by
 induction b with
 |zero=>intro j c ⟨a,_,h⟩;exact absurd h (Nat.not_lt_zero _)
 |succ b i=>exact step b i
end
def AJ{f l r:Nat}{o:Bool}{d:H}{m cells':List T}(z:gu 0 d)(u:∀b,Fp d f b->b<d.size)(g:d.get f=some ⟨l,0,r,o,false,[.agg m]⟩)(w:∀a∈cells',a∈m\/dL a=none\/∃q∈m,dL a=dL q):
 ∀h,h=(⟨l,0,r+1,o,false,[.agg cells']⟩:iJ)->Step f d (dQ d f h)/\(∀b,Fp (dQ d f h) f b->b<(dQ d f h).size)/\(dQ d f h).get f=some h/\∀a j n,Gr d a j n->j≠l->Gr (dQ d f h) a j n:=by
 rintro h rfl;have t:∀a∈cells',∀b,dL a=some b->Fp d f b:=λa i b c=>by
  rcases w a i with k|k|⟨q,y,k⟩
  ·exact .inr ⟨_,g,a,by simpa[eQ,T.cells]using k,c⟩
  ·rw[k]at c;simp at c
  ·exact .inr ⟨_,g,q,by simpa[eQ,T.cells]using y,by rw[<-k];exact c⟩
 have A:=Step.put z g ⟨l,0,r+1,o,false,[.agg cells']⟩ (λa i b c=> .inl (t a (by simpa[eQ,T.cells]using i) b c));refine⟨A,λb c=> ?_,by rw[dE g,aq rfl],λa j n s x=>s.mono λb v=> ?_⟩
 ·rw[fG];rcases c with rfl|⟨B,p,a,i,c⟩
  ·exact H.ej g
  ·rw[dE g,aq rfl]at p;simp only[ar]at p;subst p;exact u b (t a (by simpa[eQ,T.cells]using i) b c)
 ·obtain⟨_,_,_,_,c,_⟩:=s.box v;rw[dE g,ao (λk=>by subst k;rw[g]at c;simp at c;exact x c.1.symm)]
def VK(c:H)(d:Nat)(a:T×aa (Nat×List T)):Prop:=match a.2 with
 |none=>dL a.1=none
 |some b=>Gr c a.1 b.1 b.2/\b.1≠d
structure m9(h:H)(w szw ver:Nat)(F:List (T×aa (Nat×List T))):Prop where
 ok:gu 0 h
 get:h.get w=some ⟨szw,0,ver,true,false,[.agg (F.map (·.1))]⟩
 Q4:∀f∈F,VK h szw f
 Tf:∀(j k:Nat),j≠k->∀a b,F[j]? =some a->F[k]? =some b->∀c,dL a.1=some c->dL b.1≠some c
def m9.lt{a:H}{b f g:Nat}{c:List (T×aa (Nat×List T))}(d:m9 a b f g c):b<a.size:=H.ej d.get
def m9.fp{b:H}{h m n:Nat}{i:List (T×aa (Nat×List T))}(f:m9 b h m n i):∀a,Fp b h a->a<b.size:=by
 rintro a (rfl|⟨p,d,o,g,c⟩)
 ·exact f.lt
 rw[f.get]at d;simp only[ar]at d;subst d;simp only[eQ,cB,cX,cg,T.cells]at g;obtain⟨j,k,rfl⟩:=List.mem_map.1 g;have:=f.Q4 j k;unfold VK at this;split at this
 ·rw[this]at c;simp at c
 ·obtain⟨_,_,_,_,l,_⟩:=this.1.box c;exact H.ej l
def m9.gr{c:H}{l j k:Nat}{a:List (T×aa (Nat×List T))}(i:m9 c l j k a){f:T}{d:Nat}{b:List T}(h:Nat)(g:a[h]? =some (f,some (d,b))):Gr c f d b:=(i.Q4 _ (ax g)).1
def m9.AO{c:H}{d j k:Nat}{a:List (T×aa (Nat×List T))}(i:m9 c d j k a){f:T×aa (Nat×List T)}(h:f∈a){b:Nat}(g:dL f.1=some b):Fp c d b:= .inr ⟨_,i.get,f.1,by simp only[eQ,cB,cX,cg,T.cells];exact List.mem_map_of_mem h,g⟩
def m9.step{d f:H}{c j k:Nat}{g:List (T×aa (Nat×List T))}(b:m9 d c j k g)(n:gu 0 f)(i:∀a,Fp d c a->f.get a=d.get a):m9 f c j k g:=by
 refine⟨n,by rw[i c (.inl rfl)];exact b.get,λl h=> ?_,b.Tf⟩;have:=b.Q4 l h;unfold VK at this|-;split at this
 ·exact this
 ·exact⟨this.1.mono λa m=>i a (b.AO h m),this.2⟩
def m9.cons{c:H}{w d f:Nat}{b:List (T×aa (Nat×List T))}(a:m9 c w d f b)(g:iJ):m9 (c.cons g) w d f b:=a.step (a.ok.cons g) λh i=>by rw[dM,ao (by have:=a.fp h i;omega)]
def m9.rn{b:H}{c h i:Nat}{d:List (T×aa (Nat×List T))}(f:m9 b c h i d){a:Nat}{m:iJ}(g:Lb c b a m)(j:iJ):m9 (dQ b a j) c h i d:=f.step (f.ok.put a j) λn k=>by rw[dE g.get,ao (λl=>g.nf (by rw[<-l];exact k))]
def m9.Yi{t i:H}{f j q o:Nat}{k:List (T×aa (Nat×List T))}(v:m9 t f j q k)(l:T×aa (Nat×List T)){m:iJ}(D:m=⟨j,0,q+1,true,false,[.agg ((k.set o l).map (·.1))]⟩)(B:i.get f=t.get f)(E:gu 0 i)
 (A:VK (dQ i f m) j l) (n:∀(d:Nat) h,d≠o->k[d]? =some h->VK (dQ i f m) j h/\(∀g,dL l.1=some g->dL h.1≠some g)):m9 (dQ i f m) f j (q+1) (k.set o l):=by
 have C:=B.trans v.get;refine⟨E.put _ _,by rw[dE C,aq rfl,D],λh z=> ?_,λd w u r s b a g=> ?_⟩
 ·obtain⟨d,c⟩:=cN z;rw[bQ]at c;split at c
  ·split at c
   ·simp only[ar]at c;subst c;exact A
   ·simp at c
  ·exact(n d h dj c).1
 ·rw[bQ]at b a;split at b
  ·rename_i p;subst p;split at b
   ·simp only[ar]at b;subst b;rw[ao dj]at a;exact(n w s (bg u) a).2 g
   ·simp at b
  ·split at a
   ·split at a
    ·simp only[ar]at a;subst a;rename_i p _;subst p;exact λx y=>(n d r dj b).2 g y x
    ·simp at a
   ·exact v.Tf d w u r s b a g
def m9.app{j d:H}{c l m k:Nat}{b:List (T×aa (Nat×List T))}(a:m9 j c l m b){s t:T}{G o:List T}(g:Nat)(q:b[g]? =some (s,some (k,G)))(v:Xt j s k o t d):
 d.get c=some ⟨l,0,m,true,false,[.agg (b.map (·.1))]⟩/\ew j d c=true/\∀h,h=(⟨l,0,m+1,true,false,[.agg ((b.set g (t,some (k,o))).map (·.1))]⟩:iJ)->Step c j (dQ d c h)/\m9 (dQ d c h) c l (m+1) (b.set g (t,some (k,o))):=by
 have p:=a.Q4 _ (ax q);have L:(b.map (·.1))[g]? =some s:=by rw[aQ,q];rfl
 obtain⟨r,S⟩:=vM a.ok a.fp a.get L p.2 p.1 v;refine⟨r.trans a.get,eZ r,λh z=> ?_⟩;obtain⟨U,i,J,Q⟩:=S h (by rw[z,bR]);have R:gu 0 d:=by obtain⟨_,_,_,A⟩:=v;exact⟨A.hp,A.low,aw _⟩
 refine⟨U,a.Yi _ z r R ⟨J,p.2⟩ λO i N w=> ?_⟩;have y:=ax w;have f:=a.Q4 i y;have M:i.1∈b.map (·.1):=List.mem_map_of_mem y;obtain⟨u,I⟩:=i;cases I with
 |none=>exact⟨f,λV _ C=>by rw[show dL u=none from f]at C;simp at C⟩
 |some B=>
  obtain⟨E,F⟩:=Q u B.1 B.2 M f.1 (λD K=>a.Tf g O (bg N) _ _ q w D K) f.2;exact⟨⟨E,f.2⟩,F⟩
def m9.abP{g:H}{c m n:Nat}{b:List (T×aa (Nat×List T))}(a:m9 g c m n b)(j:Nat){v':T}(i:dL v'=none)(x:∃p,b[j]? =some (p,none)):
 ∀d,d=(⟨m,0,n+1,true,false,[.agg ((b.set j (v',none)).map (·.1))]⟩:iJ)->Step c g (dQ g c d)/\m9 (dQ g c d) c m (n+1) (b.set j (v',none)):=by
 intro d o;obtain⟨u,f,w,t⟩:=AJ a.ok a.fp a.get (cells':=(b.set j (v',none)).map (·.1)) (λp l=>by
  obtain⟨f,k,rfl⟩:=List.mem_map.1 l;rcases bV k with q|q
  ·exact .inl (List.mem_map_of_mem q)
  ·rw[q];exact .inr (.inl i)) d o
 refine⟨u,a.Yi _ o rfl a.ok i λz f y k=> ?_⟩;have l:=ax k;have h:=a.Q4 f l;obtain⟨v,s⟩:=f;cases s with
 |none=>exact⟨h,λr q=>by rw[show dL v'=none from i]at q;simp at q⟩
 |some A=>exact⟨⟨t _ _ _ h.1 h.2,h.2⟩,λr q=>by rw[show dL v'=none from i]at q;simp at q⟩
def m9.elem{q:H}{A K L g m n u:Nat}{o:Bool}{v:List T}{b:List (T×aa (Nat×List T))}(a:m9 q A K L b){t:T}{y:List T}(i:Nat)(k:b[i]? =some (t,some (g,y)))(r:dL t=some m)(c:q.get m=some ⟨g,n,u,o,false,v⟩)(j:Nat)(x:T):
 Step A q (dQ q m ⟨g,n,u+1,o,false,v.set j x⟩)/\m9 (dQ q m ⟨g,n,u+1,o,false,v.set j x⟩) A K L (b.set i (t,some (g,y.set j x))):=by
 have C:=a.Q4 _ (ax k);have J:m≠A:=λf=>by subst f;rw[a.get]at c;simp at c;exact C.2 c.1.symm
 have an:=Step.Yq a.ok c (a.AO (ax k) r) J ⟨g,n,u+1,o,false,v.set j x⟩;have ae:(b.set i (t,some (g,y.set j x))).map (·.1)=b.map (·.1):=by
  rw[bR];simp only;apply cS;intro s;rw[bQ];split
  ·rename_i f;subst f;rw[aQ,k];split
   ·rfl
   ·rename_i f;rw[aH]at f;have:=aK (l:=b) (i:=i) dj;rw[k]at this;simp at this
  ·rfl
 refine⟨an,a.ok.put _ _,by rw[dE c,ao (bg J),ae];exact a.get,λI Z=> ?_,λs l al M B W D=> ?_⟩
 ·obtain⟨s,d⟩:=cN Z;rw[bQ]at d;split at d
  ·split at d
   ·simp only[ar]at d;subst d;refine⟨?_,C.2⟩;rcases C.1 with⟨rfl,z⟩|⟨O,ap,aE,av,aN,rfl,z,V⟩
    ·simp at r
    ·simp only[v7,ar]at r;subst r;rw[c]at z;simp only[ar,iJ.mk.injEq]at z;obtain⟨_,rfl,rfl,rfl,_,rfl⟩:=z;exact .inr ⟨O,n,u+1,o,v.set j x,by rw[cM],by rw[dE c,aq rfl],by rw[cM,List.take_set,V]⟩
   ·simp at d
  ·rename_i f;have E:=a.Q4 I (ax d);obtain⟨aA,U⟩:=I;cases U with
   |none=>exact E
   |some p=>exact⟨E.1.mono λB D=>by rw[dE c,ao (λe=>by subst e;exact a.Tf i s dj _ _ k d B r D)],E.2⟩
 ·have:∀(F:Nat) (w:T×aa (Nat×List T)),(b.set i (t,some (g,y.set j x)))[F]? =some w->∃G,b[F]? =some G/\G.1=w.1:=by
   intro F w h;rw[bQ]at h;split at h
   ·rename_i f;subst f;split at h
    ·simp only[ar]at h;subst h;exact⟨_,k,rfl⟩
    ·simp at h
   ·exact⟨w,h,rfl⟩
  obtain⟨N,X,R⟩:=this s M W;obtain⟨Q,Y,S⟩:=this l B D;rw[<-R,<-S];exact a.Tf s l al N Q X Y
def Gr.fz{b:H}{f:T}{k:Nat}{h:Type}{a:h->T}{c:List h}(d:Gr b f k (c.map a))(j:∀g,wy b 11 (a g)=some (a g)):TI.fz b f=some (sl (c.map a)):=by
 have:=d.ry j;rcases d with⟨rfl,i⟩|⟨l,m,q,n,r,rfl,o,p⟩
 ·rw[i];rfl
 ·rwa[J2]at this
def Xt.out{h b:H}{d f:T}{c:Nat}{a:List T}(g:Xt (TI.hr h) d c a f b):Xt h d c a f (lA h b):=by
 obtain⟨a1,a2,a3,a4⟩:=g;exact⟨a1.out h,λi j k=>by rw[fK,a2 i j k,fX],a3,(a4.out h).hp,(a4.out h).low,a4.sz⟩
def Gr.mM{cx:Ctx}{b:H}{j:T}{a:Nat}{k:Type}{f:k->T}{h:List k}(s:Gr b j a (h.map f))(o:gu 0 b){i l:ab}{p d:Ty}(m:cx.ty i=some p)(n:p.u= .slice l)(t:cx.ty l=some d)(z:d.size=a)(v:1<=d.bytes)(w:∀x,Kd (f x)=a)(x:k)(y:(h.length+1)*d.bytes<=70368744177664):
 ∃g c,iK cx (b.cons ⟨a,0,0,true,false,[f x]⟩) i i j (.arr b.size 0 0 1 false)=some (.val g c)/\Xt b j a ((h++[x]).map f) g c:=by
 have q:=(Xt.refl s o).cons ⟨a,0,0,true,false,[f x]⟩;obtain⟨g,c,e,r⟩:=Gr.app (cx:=cx) q.1 (o.cons _) (x:= .arr b.size 0 0 1 false) (xs:=[f x]) m n t m n z v (by rw[fW];simp) (by simpa using show(f x).cells.length=a from w x) dp (by simpa using y);exact⟨g,c,e,by rw[List.map_append];exact q.trans r.xt⟩
end
noncomputable section
def m9.start{h:H}{w szw ver:Nat}{F:List (T×aa (Nat×List T))}(o:gu 0 h)(g:h.get w=some ⟨szw,0,ver,true,false,[.agg (F.map (·.1))]⟩)
 (f:∀a∈F,(a.2=none/\dL a.1=none)\/(a.1= .dC [] false/\∃e,a.2=some (e,[])/\e≠szw)):m9 h w szw ver F/\∀c,Fp h w c->c=w:=by
 have i:∀a∈F,dL a.1=none:=λa h=>by
  rcases f a h with k|k
  ·exact k.2
  ·rw[k.1];rfl
 refine⟨⟨o,g,λa h=> ?_,λs k _ l c m r q b=>by rw[i l (ax m)]at b;simp at b⟩,λc b=> ?_⟩
 ·obtain⟨p,t⟩:=a;rcases f _ h with⟨rfl,k⟩|⟨rfl,e,rfl,k⟩
  ·exact k
  ·exact⟨Gr.nil _ _,k⟩
 ·rcases b with rfl|⟨u,d,p,j,b⟩
  ·rfl
  ·rw[g]at d;simp only[ar]at d;subst d;simp only[eQ,cB,cX,cg,T.cells]at j;obtain⟨a,n,rfl⟩:=List.mem_map.1 j;rw[i a n]at b;simp at b
def m9.other{b e:H}{d l m g:Nat}{i:List (T×aa (Nat×List T))}(h:m9 b d l m i)(j:∀a,Fp b d a->¬Fp b g a)(f:Step g b e):m9 e d l m i/\∀a,Fp e d a->¬Fp e g a:=by
 have k:∀a,Fp b d a->e.get a=b.get a:=λa c=>f.get a (h.fp a c) (j a c);refine⟨h.step ⟨f.ok.hp,f.ok.low,aw _⟩ k,λa c n=> ?_⟩;rw[iE (k d (.inl rfl))]at c;rcases f.fp a n with q|q
 ·exact j a c q
 ·have:=h.fp a c;omega
structure Sm(b:Nat)(h h':H):Prop where
 ok:gu 0 h'
 size:h'.size=h.size
 get:∀c,c≠b->h'.get c=h.get c
def Sm.refl{b:Nat}{a:H}(c:gu 0 a):Sm b a a:=⟨c,rfl,λ_ _=>rfl⟩
def Sm.put{a:Nat}{e b:H}(d:Sm a e b){x:iJ}(h:b.get a=some x)(g:iJ):Sm a e (dQ b a g):=⟨d.ok.put a g,by rw[fG];exact d.size,λc f=>by rw[dE h,ao f];exact d.get c f⟩
def Sm.ig{d:Nat}{a e:H}{b g h:Nat}{c:List (T×aa (Nat×List T))}(f:Sm d a e)(l:m9 a b g h c)(j:¬Fp a b d):m9 e b g h c:=l.step f.ok λi k=>f.get i λm=>j (by rw[<-m];exact k)
def io.ft{b c:H}{V V':Nat->Prop}{d:Nat}{e f:List T}(g:io (FT b V d) e f)(h:∀a,V a->V' a/\c.get a=b.get a):io (FT c V' d) e f:=g.imp λ_ _ i=>i.mono h
def Gr.IP{a:H}{V:Nat->Prop}{g:T}{l d:Nat}{b c:List T}(f:Gr a g l b)(h:d<=11)(e:io (FT a V d) b c):TI.fz a g=some (sl c):=by
 have j:fw (wy a 11) b=some c:=po (e.imp λ_ _ k=>(k.deep h).wy);have i:=f.jc;rcases f with⟨rfl,rfl⟩|⟨m,n,r,o,s,rfl,p,q⟩
 ·cases e;rfl
 ·rw[uZ,i,dO,j];rfl
def io.left{a f:Type}{b:a->f->Prop}{d:List a}{j:List f}(h:io b d j){e:a}(c:e∈d):∃k,b e k:=by
 induction h with
 |nil=>simp at c
 |cons g _ i=>
  rcases List.mem_cons.1 c with rfl|q
  ·exact⟨_,g⟩
  ·exact i q
def FT.fzN{a:H}{z:Nat->Prop}{h:Nat}(E:∀c,z c->h<=c):∀{b:Nat} {j y:T},FT a z b j y->freeze a h b j=freeze a 0 b j:=by
 intro b;induction b with
 |zero=>intro j y v;exact v.elim
 |succ b C=>
  intro j y v;rcases v with⟨A,B,rfl⟩|⟨c,l,i,g,s,n,r,rfl,F,f,t,rfl⟩|⟨p,L,rfl,t,rfl⟩
  ·rw[rR a h b j A B,rR a 0 b j A B]
  ·have u:fw (freeze a h b) n=fw (freeze a 0 b) n:=mH λk w=>by
    obtain⟨K,x⟩:=t.left w;exact C x
   have D:∀q,freeze a q (b+1) (.arr c l i g s)=fP (Nat.ble q c) (dJ (a.get c) λk=>iJ.casesOn k λ_ m _ exact o e=>
    fP (Nat.beq m l) (Bool.casesOn o (dJ (dJ (jF i e) λd=>takeN g d) λn=>dJ (fw (freeze a q b) n) λr=>
     List.casesOn r (List.casesOn e (Bool.casesOn exact (some .fO) (some (.dC [] false))) λ_ _=>some .fO) λ_ _=>some (.dC r s)) none)):=λq=>rfl
   rw[D,D];have I:a.jc (.arr c l i g s)=dJ (a.get c) λk=>iJ.casesOn k λ_ m _ _ o e=>fP (Nat.beq m l) (Bool.casesOn o (dJ (jF i e) λd=>takeN g d) none):=rfl;rw[I]at f;rw[show Nat.ble h c=true from bW (E c F),show Nat.ble 0 c=true from bW (aw c)];show(dJ (a.get c) _)=(dJ (a.get c) _);cases G:a.get c with
   |none=>rfl
   |some k=>
    rw[G]at f;obtain⟨N,m,O,M,o,e⟩:=k;simp only[dO]at f|-;cases J:Nat.beq m l with
    |false=>rfl
    |true=>
     rw[J]at f;cases o with
     |true=>rfl
     |false=>
      have f:(dJ (jF i e) λd=>takeN g d)=some n:=f;show(dJ (dJ (jF i e) λd=>takeN g d) _)=(dJ (dJ (jF i e) λd=>takeN g d) _);rw[f,dO,dO,u]
  ·have u:fw (freeze a h b) p=fw (freeze a 0 b) p:=mH λk w=>by
    obtain⟨K,x⟩:=t.left w;exact C x
   show(dJ (fw (freeze a h b) p) _)=(dJ (fw (freeze a 0 b) p) _);rw[u]
def FT.top{b:H}{V:Nat->Prop}{h d:Nat}(F:d<=11)(q:∀a,V a->h<=a){c f:List T}(r:io (FT b V d) c f):∃i,iT b h (.agg c)=some i/\cn i= .agg f:=by
 have u:fw (ir b h) c=fw (ir b 0) c:=mH λA x=>by
  obtain⟨G,s⟩:=r.left x;have l:=(s.deep (show d<=12 by omega)).fzN q;rcases(s.deep (show d<=12 by omega))with⟨m,n,rfl⟩|⟨a,j,p,o,k,C,D,rfl,w,E,v,rfl⟩|⟨c,f,rfl,v,rfl⟩
  ·cases A<;>first|exact l|(simp[jE]at m)
  ·have t:∀e,ir b e (.arr a j p o k)=(Bool.casesOn (Nat.ble e a) (some (.arr a j p o k)) (freeze b e 12 (.arr a j p o k)):aa T):=λe=>rfl;rw[t,t,show Nat.ble h a=true from bW (q a w),show Nat.ble 0 a=true from bW (aw a),l]
  ·exact l
 have g:ry b (.agg c)=some (.agg f):=by
  rw[Q2,po (r.imp λB a e=>(e.deep (show d<=12 by omega)).fz)];rfl
 have g:(dJ (dJ (fw (ir b 0) c) λy=>some (T.agg y)) λz=>some (cn z))=some (.agg f):=g;rw[<-u]at g;obtain⟨i,m,n⟩:=dA.1 g;simp only[ar]at n;exact⟨i,m,n⟩
def Lb.ky{b:Nat}{c d:H}{a:Nat}{f:iJ}(e:Lb b c a f)(h:d.get b=c.get b)(g:d.get a=c.get a):Lb b d a f:=⟨by rw[g];exact e.get,by rw[iE h];exact e.nf⟩
def ui(a b:H):H:=⟨a.size,(lA a b).low,(lA a b).eY.drop ((lA a b).size-a.size)⟩
def yk{h a:H}(d:Hp a)(e:h.size<=a.size){b:Nat}(c:b<h.size):(ui h a).get b=a.get b:=
 (G5 (h:=lA h a) (by unfold Hp at*;exact d) e c).trans (fK h a b)
def gu.cut{a b:H}(c:gu 0 a)(d:Hp b)(e:a.size<=b.size):gu 0 (ui a b):=
 ⟨by unfold Hp at*;unfold ui lA;simp;omega,by have:=c.low;unfold ui lA;simp only;split<;>omega,aw _⟩
def xv(a:H)(f:T)(b:H)(post:T->H->Prop):Prop:=
 Hp b/\a.size<=b.size/\(∀c e,c<a.size->b.get c=some e->b.get c=a.get c\/∀g∈eQ e.ee,oY a.size g)/\∃d,iT b a.size f=some d/\post (cn d) (ui a b)
section
variable {P:ai}{cx:Ctx}{mask:Nat}{ι:Type}{pre:ι->List T->H->Prop}{post:ι->List T->H->T->H->Prop}
def pW{tb:fq}(S:P.follows .mixedOrders=true)(iH:iM P cx){m:aj}{g:Func}{t:DL}(j:FE P cx m g mask t)(k:List T->H->Nat)(U:∀d q a,pre d q a->q.length<=g.ntmps)
 (al:∀d b a,pre d b a->∀C,mS C 0 b->W (jh cx (qk P cx tb) (k b a) mask t (g.body.getD .skip) ⟨C,.nil⟩ (hr a)) (BM cx mask g.results.toList λo L=>xv a (js o) L (post d b a))):(jp ι pre post).Ok P cx m:=by
 intro b a ⟨ap,V⟩;have A:∀d,pre d b a->∃h c,rU cx (qk P cx tb) (k b a) g mask true b a=some (h,lA a c)/\xv a h c (post d b a):=by
  intro d i;obtain⟨B,ae,_,N⟩:=lQ mask g.ntmps 0 b (U d b a i);obtain⟨x,J,c,e,an,o,Y,X⟩:=Cw (al d b a i B N);have e:=pA _ j.dr _ _ _ e;obtain⟨G,f⟩:=yp j.ok;rw[f]at e;refine⟨_,c,?_,X⟩;unfold rU;rw[f];obtain⟨p,z,r⟩:=a;simp only;rw[ae,dO];have e:jL cx (qk P cx tb) (k b ⟨p,z,r⟩) mask G ⟨B,.nil⟩ ⟨p,p,r⟩=some (x,J,c):=e;rw[e,dO,ks];have Z:=nR Y;have R:=uV z (js o) c;rcases an with rfl|rfl<;>(simp only;rw[Z,dO];exact R)
 obtain⟨h,c,u,av,aA,aE,aN,l,a6⟩:=A ap V;have O:pP P cx ⟨m,b,a,h,lA a c⟩:=λE w aX I s M=>oH (F:=⟨g,mask,true,none⟩) S iH j.at_ j.ok _ (Ch P cx tb) (k b a) b a h (lA a c) u E w aX I s M;have Q:=OZ O (by unfold Hp at*;exact av) aA (λD y f v=>by rw[fK]at v|-;exact aE D y f v) (by rw[sg (fK a c)];exact l);refine⟨cn aN,ui a c,λd i=> ?_,Q⟩;obtain⟨r2,n,f,p1,p2,p3,a7,p4,p5⟩:=A d i;rw[u]at f;simp only[ar,ay]at f;obtain⟨rfl,e⟩:=f;have K:iT c a.size h=iT n a.size h:=by rw[<-sg (fK a c),e,sg (fK a n)]
 rw[K,p4]at l;simp only[ar]at l;subst l;have:ui a c=ui a n:=by unfold ui;rw[e]
 rw[this];exact p5
end
end
end Go.TI
