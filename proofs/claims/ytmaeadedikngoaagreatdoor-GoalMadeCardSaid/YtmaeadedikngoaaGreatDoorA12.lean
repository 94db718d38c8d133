/- Texts W07 to W07. -/
import Derived.Test.YtmaeadedikngoaaGreatDoorA11
set_option linter.unusedVariables false
set_option linter.unusedSimpArgs false
set_option maxRecDepth 100000
set_option maxHeartbeats 8000000
namespace Go.Proofs.YtmaeadedikngoaaGreatDoor
noncomputable section
open Go Go.TI
attribute [-simp] List.map_take List.map_drop List.map_append
def zu:fK:=⟨List Int×Int,λa=>[sl (a.1.map (T.int .i64)),.int .i64 a.2],λa=>a.1.length<=1099511627776,λa=> .bool (decide (a.2∈a.1)),λa c b=>by
 simp at b;rw[ja (by simp) b.1,b.2]⟩
theorem YA:zu.Ok Tryz.prog cx 56:=by
 refine f8 (tb:=⟨pt [],ht []⟩) dX dU (iN 131635 [] Tryz.func56) (λl=>l.1.length+1) (by simp[zu]) (by simp[zu,Tryz.f56]) ?_
 rintro⟨d,g⟩ hl b j
 simp[zu]at hl j|-
 obtain⟨a,c⟩:=j
 simp[Tryz.f56]
 refine eQ d.length (by omega) (λf b h=>h=hE/\TI.dt b 0=some (sl (d.map (T.int .i64)))/\TI.dt b 1=some (.int .i64 g)/\TI.dt b 5=some (.int .i64 f)/\(g∈d.drop f↔g∈d)) ?_ ?_ (by omega) (by simp[a,c])
 ·rintro f b h i m ⟨rfl,a,c,e,n⟩
  have o:=aJ i
  by_cases k:d[f]=g
  ·simp[a,c,e,i,k];grind
  ·simp[a,c,e,i,k,m];grind
 ·rintro b h ⟨rfl,a,c,e,n⟩
  simp[a,e];grind
theorem Lg{c:eG}(ht:c.p 56=some zu)(a:List Int)(b:Int)(hl:a.length<=1099511627776):rl Tryz.prog cx c 56 [sl (a.map (T.int .i64)),.int .i64 b]=some (.bool (decide (b∈a))):=fR ht YA (a,b) hl
def oo:fK:=⟨List Int×List Int,λa=>[sl (a.1.map (T.int .i64)),sl (a.2.map (T.int .i64))],λa=>a.1.length<=1099511627776/\a.2.length<=1099511627776,λa=> .bool (decide (a.1=a.2)),λa c b=>by
 simp at b;rw[ja (by simp) b.1,ja (by simp) b.2]⟩
theorem HQ:oo.Ok Tryz.prog cx 36:=by
 refine f8 (tb:=⟨pt [],ht []⟩) dX dU (iN 33571891 [] Tryz.func36) (λn=>n.1.length+1) (by simp[oo]) (by simp[oo,Tryz.f36]) ?_
 rintro⟨b,c⟩ hl f l
 simp[oo]at hl l|-
 obtain⟨a,d⟩:=l
 by_cases i:b.length=c.length
 ·simp[Tryz.f36,a,d,i]
  rw[<-i]
  refine eQ b.length (by omega) (λe f g=>g=hE/\TI.dt f 0=some (sl (b.map (T.int .i64)))/\TI.dt f 1=some (sl (c.map (T.int .i64)))/\TI.dt f 5=some (.int .i64 e)/\(b.drop e=c.drop e↔b=c)) ?_ ?_ (by omega) (by simp[a,d])
  ·rintro e f g j o ⟨rfl,a,d,h,p⟩
   have s:=aJ j
   have k:e<c.length:=by omega
   have t:=aJ k
   by_cases m:b[e]=c[e]
   ·simp[a,d,h,j,k,m,o];grind
   ·simp[a,d,h,j,k,m];grind
  ·rintro f g ⟨rfl,a,d,h,p⟩
   simp[a,h];grind
 ·have q:b≠c:=λg=>i (by rw[g])
  have r:¬((b.length:Int)=c.length):=by omega
  simp[Tryz.f36,a,d,r,q]
theorem Le{c:eG}(ht:c.p 36=some oo)(a b:List Int)(hl:a.length<=1099511627776)(d:b.length<=1099511627776):rl Tryz.prog cx c 36 [sl (a.map (T.int .i64)),sl (b.map (T.int .i64))]=some (.bool (decide (a=b))):=fR ht HQ (a,b) ⟨hl,d⟩
def sr:List Int->Int->List Int
 | [],a=>[a]
 |x::b,a=>if x<a then x::sr b a else if x=a then x::b else a::x::b
def Fa:fK:=⟨List Int×Int,λa=>[sl (a.1.map (T.int .i64)),.int .i64 a.2],λa=>a.1.length<=1099511627776,λa=>sl ((sr a.1 a.2).map (T.int .i64)),λa c b=>by
 simp at b;rw[ja (by simp) b.1,b.2]⟩
theorem Yu:Fa.Ok Tryz.prog cx 202:=by
 refine f8 (tb:=⟨pt [],ht []⟩) dX dU (iN 4295229555 [] Tryz.func202) (λz=>z.1.length+1) (by simp[Fa]) (by simp[Fa,Tryz.f202]) ?_
 rintro⟨a,h⟩ hl i y
 simp[Fa]at hl y|-
 obtain⟨b,c⟩:=y
 simp[Tryz.f202]
 refine eQ a.length (by omega) (λd i u=>u=hE/\TI.dt i 0=some (sl (a.map (T.int .i64)))/\TI.dt i 1=some (.int .i64 h)/\TI.dt i 5=some (.int .i64 d)/\sr a h=a.take d++sr (a.drop d) h) ?_ ?_ (by omega) (by simp[b,c])
 ·rintro d i u g D ⟨rfl,b,c,e,k⟩
  have n:=aJ g
  by_cases j:a[d]<h
  ·simp[b,c,e,g,j,D]
   rw[k,n,sr,aq j,bj g,aI,List.singleton_append]
  ·by_cases o:a[d]=h
   ·simp[b,c,e,g,o]
    rw[k,n,sr,ao j,aq o,<-n,cK]
   ·simp[b,c,e,g,j,o,bC g]
    have v:qZ (H.cons hE ⟨1,0,0,true,false,[]⟩) 0 (.arr 0 0 0 0 false) 1 (([]:List Int).map (T.int .i64)):= .inr ⟨0,0,0,true,by simp,rfl,by simp⟩
    obtain⟨E,A,p,w,r⟩:=v.QQ (cx:=cx) (aw _) jQ rfl mJ rfl (by simp) (by simp) (a.take d) (by simp;omega)
    simp[p]
    obtain⟨F,B,q,x,s⟩:=w.Oz (cx:=cx) (aw _) jQ rfl mJ rfl (by simp) (by simp) h (by simp;omega)
    simp[q,b,c,e,bC g]
    obtain⟨G,C,m,l,t⟩:=x.QQ (cx:=cx) (aw _) jQ rfl mJ rfl (by simp) (by simp) (a.drop d) (by simp;omega)
    simp[m,l.fT,l.fzM (f:=T.int .i64) (by simp)]
    refine⟨t.hp (s.hp (r.hp (by simp))),?_⟩
    rw[k,n,sr,ao j,ao o]
 ·rintro i u ⟨rfl,b,c,e,k⟩
  simp[b,e]
  have v:qZ (H.cons hE ⟨1,0,0,true,false,[]⟩) 0 (.arr 0 0 0 0 false) 1 (([]:List Int).map (T.int .i64)):= .inr ⟨0,0,0,true,by simp,rfl,by simp⟩
  obtain⟨E,A,p,w,r⟩:=v.QQ (cx:=cx) (aw _) jQ rfl mJ rfl (by simp) (by simp) a (by simp;omega)
  simp[p]
  obtain⟨F,B,q,x,s⟩:=w.Oz (cx:=cx) (aw _) jQ rfl mJ rfl (by simp) (by simp) h (by simp;omega)
  simp[q,b,c,e]
  obtain⟨G,C,m,l,t⟩:=x.QQ (cx:=cx) (aw _) jQ rfl mJ rfl (by simp) (by simp) [] (by simp;omega)
  rw[cz]at m
  simp[m,l.fT,l.fzM (f:=T.int .i64) (by simp)]
  refine⟨t.hp (s.hp (r.hp (by simp))),?_⟩
  rw[k];simp[sr]
theorem aab{c:eG}(ht:c.p 202=some Fa)(a:List Int)(b:Int)(hl:a.length<=1099511627776):rl Tryz.prog cx c 202 [sl (a.map (T.int .i64)),.int .i64 b]=some (sl ((sr a b).map (T.int .i64))):=fR ht Yu (a,b) hl
end
end Go.Proofs.YtmaeadedikngoaaGreatDoor
