/- W06a -/
import Derived.Test.YtbappgeamhmmbaaGreatDoorA13
set_option linter.all false
set_option maxRecDepth 100000
set_option maxHeartbeats 0
namespace Go.Proofs.YtbappgeamhmmbaaGreatDoor
noncomputable section
open Go Go.TI Tryz
section
attribute [-simp] List.map_take List.map_drop List.map_append
def IM(a b:Int):Bool:=decide (0<=a/\a<b)
@[simp]def abe (a:Int) (b:Nat):IM a (b:Int)=iR a b:=id rfl
def OI{a b:Int}:IM a b=true↔0<=a/\a<b:=by unfold IM;simp
def U3(d:Unit):ge:=⟨Int×Int,λa=>[D a.1,D a.2],λa=>True,λa=> .bool (IM a.1 a.2),λa c b=>by simp at b;rw[b.1,b.2]⟩
def Vp:(U3 ()).Ok prog cx 174:=by
 refine fR [] (iP 19 [] func174) (λf=>1) (by simp[U3]) ?_;rintro⟨e,g⟩ _ h a;simp[U3]at a|-;obtain⟨b,c⟩:=a;by_cases d:0<=e<;>simp[f174,b,c,d,IM]
def ux{c:fw}(ht:c.p 174=some (U3 ()))(a b:Int):rl prog cx c 174 [D a,D b]=some (.bool (IM a b)):=gG ht Vp (a,b) trivial
def vP:ge:=⟨Int,λa=>[D a],λa=>True,λa=> .bool (vK a),λa c b=>by simp at b;rw[b]⟩
def Ip:vP.Ok prog cx 224:=by
 refine fR [] (iP 5 [] func224) (λd=>1) (by simp[vP]) ?_;rintro(c:Int) _ e a;simp[vP]at a|-;by_cases b:1<=c<;>simp[f224,a,b,vK]
def wv{b:fw}(ht:b.p 224=some vP)(a:Int):rl prog cx b 224 [D a]=some (.bool (vK a)):=gG ht Ip a trivial
def vQ:ge:=⟨Nat,λa=>[.int .u8 a],λa=>True,λa=> .bool (ue a),λa b c=>by simp at c;rw[show a=b by omega]⟩
def BN:ge:=⟨Nat,λa=>[.int .u8 a],λa=>True,λa=> .bool (CI a),λa b c=>by simp at c;rw[show a=b by omega]⟩
def BJ:ge:=⟨Nat,λa=>[.int .u8 a],λa=>True,λa=> .bool (vj a),λa b c=>by simp at c;rw[show a=b by omega]⟩
def NT:vQ.Ok prog cx 169:=by
 refine fR [] (iP 5 [] func169) (λg=>1) (by simp[vQ]) ?_;rintro(a:Nat) _ h b;simp[vQ]at b|-;by_cases c:97<=a<;>by_cases d:a<=122<;>by_cases e:65<=a<;>by_cases f:a<=90<;>simp[f169,b,ue,c,d,e,f,show(97:Int)<=(a:Int)↔97<=a by omega,show(a:Int)<=122↔a<=122 by omega,show(65:Int)<=(a:Int)↔65<=a by omega,show(a:Int)<=90↔a<=90 by omega]
def Bd{b:fw}(ht:b.p 169=some vQ)(a:Nat):rl prog cx b 169 [.int .u8 a]=some (.bool (ue a)):=gG ht NT a trivial
def QY:BN.Ok prog cx 222:=by
 refine fR [] (iP 5 [] func222) (λe=>1) (by simp[BN]) ?_;rintro(a:Nat) _ f b;simp[BN]at b|-;by_cases c:48<=a<;>by_cases d:a<=57<;>simp[f222,b,CI,c,d,show(48:Int)<=(a:Int)↔48<=a by omega,show(a:Int)<=57↔a<=57 by omega]
def WL{b:fw}(ht:b.p 222=some BN)(a:Nat):rl prog cx b 222 [.int .u8 a]=some (.bool (CI a)):=gG ht QY a trivial
def QU:BJ.Ok prog cx 171:=by
 refine fR [(169,vQ),(222,BN)] (iP 5 [] func171) (λe=>1) (by simp[BJ]) ?_;rintro(a:Nat) _ f b;simp[BJ]at b|-;cases c:ue a<;>cases d:CI a<;>simp[f171,b,vj,Bd,WL,c,d,show(a:Int)=95↔a=95 by omega]
def Pr{b:fw}(ht:b.p 171=some BJ)(a:Nat):rl prog cx b 171 [.int .u8 a]=some (.bool (vj a)):=gG ht QU a trivial
def uU:ge:=⟨dR×Int×Int,λa=>[a.1.t,D a.2.1,D a.2.2],λa=>True,λa=> .bool (Ah a.1 a.2.1 a.2.2),λa c b=>by simp at b;rw[dR.inj b.1,b.2.1,b.2.2]⟩
def Lz:uU.Ok prog cx 223:=by
 refine fR [(174,U3 ())] (iP 79 [] func223) (λl=>1) (by simp[uU]) ?_;rintro⟨k,h,m⟩ _ n d;simp[uU]at d|-;obtain⟨a,b,c⟩:=d;cases hl:iR h k.cells.length with
 |true=>
  have⟨e,f,g⟩:=im hl;by_cases i:e.index=0<;>by_cases j:e.size=0<;>simp[f223,a,b,c,ux,hl,f,g,Ah,ee (ff.1 hl).1,i,j]
 |false=>simp[f223,a,b,c,ux,hl,qn hl,Ah]
def Pw{d:fw}(ht:d.p 223=some uU)(c:dR)(a b:Int):rl prog cx d 223 [c.t,D a,D b]=some (.bool (Ah c a b)):=gG ht Lz (c,a,b) trivial
def nq:ge:=⟨fD,λa=>[a.t],λa=>True,λa=>sl ((iK a).map (T.int .i64)),λa c b=>by simp at b;rw[fD.inj b]⟩
def Dg:nq.Ok prog cx 108:=by
 refine fR [] (iP 8934607822903 [] func108) (λc=>1) (by simp[nq]) ?_;rintro⟨a,c,o,p,q,r⟩ _ s b;simp[nq]at b|-;rcases(by omega:a=1\/a=6\/a=10\/a=27\/a=2\/a=3\/a=4\/a=7\/a=8\/a=26\/a=9\/(¬a=1/\¬a=6/\¬a=10/\¬a=27/\¬a=2/\¬a=3/\¬a=4/\¬a=7/\¬a=8/\¬a=26/\¬a=9))with rfl|rfl|rfl|rfl|rfl|rfl|rfl|rfl|rfl|rfl|rfl|⟨d,g,h,i,j,k,l,m,n,e,f⟩
 rotate_right
 ·simp[f108,b,iK,d,g,h,i,j,k,l,m,n,e,f]
 all_goals simp [f108,b,iK,gh,sl]
def ul{b:fw}(ht:b.p 108=some nq)(a:fD):rl prog cx b 108 [a.t]=some (sl ((iK a).map (T.int .i64))):=gG ht Dg a trivial
def uR:ge:=⟨dR×fD,λa=>[a.1.t,a.2.t],λa=>True,λa=> .bool (lQ a.1 a.2),λa c b=>by simp at b;rw[dR.inj b.1,fD.inj b.2]⟩
def Lq:uR.Ok prog cx 172:=by
 refine fR [(174,U3 ()),(223,uU)] (iP 11161304336780981658631819976322344575566047 [] func172) (λf=>1) (by simp[uR]) ?_;rintro⟨h,⟨a,f,l,H,j,I⟩⟩ _ K i;simp[uR]at i|-;obtain⟨b,c⟩:=i;rcases(by omega:a=3\/a=4\/a=7\/a=9\/a=21\/a=22\/a=23\/a=24\/a=25\/a=26\/a=27\/a=6\/a=8\/a=11\/a=12\/a=13\/a=14\/a=15\/a=16\/(¬a=3/\¬a=4/\¬a=6/\¬a=8/\¬a=7/\¬a=9/\¬a=11/\¬a=12/\¬a=13/\¬a=14/\¬a=15/\¬a=16/\¬a=21/\¬a=22/\¬a=23/\¬a=24/\¬a=25/\¬a=26/\¬a=27))with rfl|rfl|rfl|rfl|rfl|rfl|rfl|rfl|rfl|rfl|rfl|rfl|rfl|rfl|rfl|rfl|rfl|rfl|rfl|⟨m,x,A,C,E,F,G,n,o,p,q,r,s,t,u,v,w,y,z⟩
 rotate_right
 ·simp[f172,b,c,lQ,m,x,A,C,E,F,G,n,o,p,q,r,s,t,u,v,w,y,z]
 ·by_cases g:j=4<;>simp[f172,b,c,lQ,g]
 ·by_cases g:6<=j<;>simp[f172,b,c,lQ,g]
 iterate 9 ·simp[f172,b,c,lQ,ux,Pw]
 ·cases hl:iR l h.cells.length with
  |true=>
   have⟨k,d,e⟩:=im hl;simp[f172,b,c,lQ,ux,hl,d,e,vL,ee (ff.1 hl).1]
  |false=>simp[f172,b,c,lQ,ux,hl,qn hl,vL]
 ·cases hl:iR f h.cells.length with
  |true=>
   have⟨k,d,e⟩:=im hl;simp[f172,b,c,lQ,ux,hl,d,e,vL,ee (ff.1 hl).1]
  |false=>simp[f172,b,c,lQ,ux,hl,qn hl,vL]
 all_goals
  cases hl:iR f h.dW.length with
  |true=>
   have⟨k,d,e⟩:=im hl;simp[f172,b,c,lQ,ux,hl,d,e,pB,ee (ff.1 hl).1]
  |false=>simp[f172,b,c,lQ,ux,hl,qn hl,pB]
def Pk{c:fw}(ht:c.p 172=some uR)(b:dR)(a:fD):rl prog cx c 172 [b.t,a.t]=some (.bool (lQ b a)):=gG ht Lq (b,a) trivial
def rm:List (List Nat)->List Nat->Nat->Int
 | [],_,_=>-1
 |x::c,b,a=>if x=b then(a:Int)else rm c b (a+1)
def Ft:∀(a:List (List Nat)) (b:List Nat) (d:Nat),(0<=rm a b d)=(b∈a):=by
 intro a;induction a with
 |nil=>intro b d;simp[rm]
 |cons g a f=>
  intro b d;rw[rm];by_cases c:g=b
  ·subst c;simp
  ·rw[ao c,f];simp;intro e;exact absurd e.symm c
def BP:ge:=⟨List (List Nat)×List Nat,λa=>[sl (a.1.map T.str),.str a.2],λa=>a.1.length<=1099511627776,λa=> D (rm a.1 a.2 0),λa c b=>by
 simp at b;rw[jt J b.1,b.2]⟩
def ae1:BP.Ok prog cx 123:=by
 refine fR [] (iP 131635 [] func123) (λm=>m.1.length+1) (by simp[BP]) ?_;rintro⟨f,i⟩ hl d l;simp[BP]at hl l|-;obtain⟨b,c⟩:=l;simp[f123,b,c];refine fc f.length B (λe d j=>j=hE/\dy d 0 (sl (f.map T.str))/\dy d 1 (.str i)/\dy d 5 (D e)/\rm (f.drop e) i e=rm f i 0) ?_ ?_ B (by simp[b,c])
 ·rintro e d j k n ⟨rfl,b,c,g,a⟩;rw[aH k,rm]at a;by_cases h:f[e]=i
  ·rw[aq h]at a;simp[b,c,g,k,h,<-a]
  ·rw[ao h]at a;simp[b,c,g,k,h,n,a]
 ·rintro d j ⟨rfl,b,c,g,a⟩;simp[rm]at a;simp[b,c,g,<-a]
def Mt{c:fw}(ht:c.p 123=some BP)(a:List (List Nat))(b:List Nat)(hl:a.length<=1099511627776):rl prog cx c 123 [sl (a.map T.str),.str b]=some (D (rm a b 0)):=gG ht ae1 (a,b) hl
def sW:ge:=⟨Unit,λa=>[],λa=>True,λa=>sl (mO.map T.str),λa b c=>rfl⟩
def Ir:sW.Ok prog cx 221:=by
 refine fR [] (iP 1 [] func221) (λb=>1) (by simp[sW]) ?_;rintro _ _ c a;simp[sW]at a|-;simp[f221,gh];rfl
def LZ{a:fw}(ht:a.p 221=some sW):rl prog cx a 221 []=some (sl (mO.map T.str)):=gG ht Ir () trivial
def OB:mO.length=22:=rfl
def uT:ge:=⟨List Nat,λa=>[.str a],λa=>True,λa=> .bool (tu a),λa c b=>by simp at b;rw[b]⟩
def Gi:uT.Ok prog cx 170:=by
 refine fR [(221,sW)] (iP 131613 [] func170) (λn=>23) (by simp[uT]) ?_;rintro(i:List Nat) _ b j;simp[uT]at j|-;simp[f170,j,LZ];refine fc mO.length (by rw[OB];omega) (λg b h=>h=hE/\dy b 0 (.str i)/\dy b 3 (sl (mO.map T.str))/\dy b 4 (D g)/\(i∈mO.drop g↔i∈mO)) ?_ ?_ (by rw[OB];omega) (by simp[j])
 ·rintro g b h k l ⟨rfl,c,d,e,a⟩;have m:=aH k;rw[m]at a;by_cases f:mO[g]=i
  ·simp[c,d,e,k,f,tu];rw[<-a,f];simp
  ·simp[c,d,e,k,f,l];refine⟨λh=>a.1 (List.mem_cons_of_mem _ h),λh=>?_⟩;rcases List.mem_cons.1 (a.2 h)with h|h
   ·exact absurd h.symm f
   ·exact h
 ·rintro b h ⟨rfl,c,d,e,a⟩;simp[c,d,e,tu];simpa using a
def CQ{b:fw}(ht:b.p 170=some uT)(a:List Nat):rl prog cx b 170 [.str a]=some (.bool (tu a)):=gG ht Gi a trivial
def yc:ge:=⟨List Nat,λa=>[.str a],λa=>True,λa=> .bool (tg a),λa c b=>by simp at b;rw[b]⟩
def NO:yc.Ok prog cx 122:=by
 refine fR [(170,uT),(169,vQ),(171,BJ)] (iP 4330618893 [] func122) (λv=>13) (by simp[yc]) ?_;rintro(a:List Nat) _ f d;simp[yc]at d|-;cases a with
 |nil=>simp[f122,d,tg]
 |cons b a=>
  have h:¬(a.length:Int)+1<1:=B;by_cases w:a.length+1<=12
  ·have e:¬(12:Int)<(a.length:Int)+1:=B;cases j:ue b with
   |false=>simp[f122,d,h,e,j,Bd,tg,J7]
   |true=>
    cases o:tu (b::a)with
    |true=>simp[f122,d,h,e,j,o,Bd,CQ,tg,J7]
    |false=>
     have q:tg (b::a)=(b::a).all vj:=by simp[tg,o,J7,j];intro _ _;omega
     have⟨m,s⟩:∃m,m=(b::a).all vj:=⟨_,rfl⟩;rw[q,<-s];simp[f122,d,h,e,j,o,Bd,CQ];refine fc (b::a).length dp (λl f n=>n=hE/\dy f 0 (.str (b::a))/\dy f 3 (D l)/\((b::a).drop l).all vj=m) ?_ ?_ dp (by rw[s];simp[d])
     ·rintro l f n p t ⟨rfl,g,i,c⟩;rw[aH p,cq]at c;generalize u:(b::a)=r at*
      cases k:vj r[l]with
      |true=>rw[k,bD]at c;simp[g,i,p,t,Pr,k,c]
      |false=>rw[k,Bool.false_and]at c;simp[g,i,p,t,Pr,k,<-c]
     ·rintro f n ⟨rfl,g,i,c⟩;generalize u:(b::a)=r at*
      rw[cW]at c;simp[g,i,<-c]
  ·have e:(12:Int)<(a.length:Int)+1:=B;have q:tg (b::a)=false:=by simp[tg];omega
   simp[f122,d,h,e,q]
def ni{b:fw}(ht:b.p 122=some yc)(a:List Nat):rl prog cx b 122 [.str a]=some (.bool (tg a)):=gG ht NO a trivial
