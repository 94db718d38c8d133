/- Texts W07 to W07. -/
import Derived.Test.YtmaeadedikngoaaGreatDoorA12
set_option linter.all false
set_option maxRecDepth 100000
set_option maxHeartbeats 8000000
namespace Go.Proofs.YtmaeadedikngoaaGreatDoor
noncomputable section
open Go Go.TI
attribute [-simp] List.map_take List.map_drop List.map_append
def Ba:hU:=⟨List Int×Int,λa=>[sl (a.1.map (T.int .i64)),dE a.2],λa=>a.1.length<=1099511627776,λa=> .bool (decide (a.2∈a.1)),λa c b=>by
 simp at b;rw[jD dA b.1,b.2]⟩
def aau:Ba.Ok Tryz.prog cx 56:=by
 refine iv (tb:=⟨pt [],ht []⟩) fa eQ (iR 131635 [] Tryz.func56) (λl=>l.1.length+1) (by simp[Ba]) (by simp[Ba,Tryz.f56]) ?_;rintro⟨d,g⟩ hl b j;simp[Ba]at hl j|-;obtain⟨a,c⟩:=j;simp[Tryz.f56];refine fy d.length dz (λf b h=>h=hE/\dH b 0 (sl (d.map (T.int .i64)))/\dH b 1 (dE g)/\dH b 5 (dE f)/\(g∈d.drop f↔g∈d)) ?_ ?_ dz (by simp[a,c])
 ·rintro f b h i m ⟨rfl,a,c,e,n⟩;have o:=aJ i;by_cases k:d[f]=g
  ·simp[a,c,e,i,k];grind
  ·simp[a,c,e,i,k,m];grind
 ·rintro b h ⟨rfl,a,c,e,n⟩;simp[a,e];grind
def Nj{c:fJ}(ht:c.p 56=some Ba)(a:List Int)(b:Int)(hl:a.length<=1099511627776):rl Tryz.prog cx c 56 [sl (a.map (T.int .i64)),dE b]=some (.bool (decide (b∈a))):=im ht aau (a,b) hl
def pz:hU:=⟨List Int×List Int,λa=>[sl (a.1.map (T.int .i64)),sl (a.2.map (T.int .i64))],λa=>a.1.length<=1099511627776/\a.2.length<=1099511627776,λa=> .bool (decide (a.1=a.2)),λa c b=>by
 simp at b;rw[jD dA b.1,jD dA b.2]⟩
def Jy:pz.Ok Tryz.prog cx 36:=by
 refine iv (tb:=⟨pt [],ht []⟩) fa eQ (iR 33571891 [] Tryz.func36) (λn=>n.1.length+1) (by simp[pz]) (by simp[pz,Tryz.f36]) ?_;rintro⟨b,c⟩ hl f l;simp[pz]at hl l|-;obtain⟨a,d⟩:=l;by_cases i:b.length=c.length
 ·simp[Tryz.f36,a,d,i];rw[<-i];refine fy b.length dz (λe f g=>g=hE/\dH f 0 (sl (b.map (T.int .i64)))/\dH f 1 (sl (c.map (T.int .i64)))/\dH f 5 (dE e)/\(b.drop e=c.drop e↔b=c)) ?_ ?_ dz (by simp[a,d])
  ·rintro e f g j o ⟨rfl,a,d,h,p⟩;have s:=aJ j;have k:e<c.length:=dz;have t:=aJ k;by_cases m:b[e]=c[e]
   ·simp[a,d,h,j,k,m,o];grind
   ·simp[a,d,h,j,k,m];grind
  ·rintro f g ⟨rfl,a,d,h,p⟩;simp[a,h];grind
 ·have q:b≠c:=λg=>i (by rw[g]);have r:¬((b.length:Int)=c.length):=dz;simp[Tryz.f36,a,d,r,q]
def Nh{c:fJ}(ht:c.p 36=some pz)(a b:List Int)(hl:a.length<=1099511627776)(d:b.length<=1099511627776):rl Tryz.prog cx c 36 [sl (a.map (T.int .i64)),sl (b.map (T.int .i64))]=some (.bool (decide (a=b))):=im ht Jy (a,b) ⟨hl,d⟩
def t7:List Int->Int->List Int
 | [],a=>[a]
 |x::b,a=>if x<a then x::t7 b a else if x=a then x::b else a::x::b
def He:hU:=⟨List Int×Int,λa=>[sl (a.1.map (T.int .i64)),dE a.2],λa=>a.1.length<=1099511627776,λa=>sl ((t7 a.1 a.2).map (T.int .i64)),λa c b=>by
 simp at b;rw[jD dA b.1,b.2]⟩
def aao:He.Ok Tryz.prog cx 202:=by
 refine iv (tb:=⟨pt [],ht []⟩) fa eQ (iR 4295229555 [] Tryz.func202) (λz=>z.1.length+1) (by simp[He]) (by simp[He,Tryz.f202]) ?_;rintro⟨a,h⟩ hl i y;simp[He]at hl y|-;obtain⟨b,c⟩:=y;simp[Tryz.f202];refine fy a.length dz (λd i u=>u=hE/\dH i 0 (sl (a.map (T.int .i64)))/\dH i 1 (dE h)/\dH i 5 (dE d)/\t7 a h=a.take d++t7 (a.drop d) h) ?_ ?_ dz (by simp[b,c])
 ·rintro d i u g D ⟨rfl,b,c,e,k⟩;have n:=aJ g;by_cases j:a[d]<h
  ·simp[b,c,e,g,j,D];rw[k,n,t7,aq j,aZ g,aI,List.singleton_append]
  ·by_cases o:a[d]=h
   ·simp[b,c,e,g,o];rw[k,n,t7,ao j,aq o,<-n,cR]
   ·simp[b,c,e,g,j,o,bD g];have v:so (H.cons hE (dG 1 0 [])) 0 (.arr 0 0 0 0 false) 1 (([]:List Int).map (T.int .i64)):= .inr ⟨0,0,0,true,dA,rfl,dA⟩;obtain⟨E,A,p,w,r⟩:=v.TA (cx:=cx) (aw _) ko rfl nc rfl dA dA (a.take d) dB;simp[p];obtain⟨F,B,q,x,s⟩:=w.QZ (cx:=cx) (aw _) ko rfl nc rfl dA dA h dB;simp[q,b,c,e,bD g];obtain⟨G,C,m,l,t⟩:=x.TA (cx:=cx) (aw _) ko rfl nc rfl dA dA (a.drop d) dB;simp[m,l.il,l.fzM (f:=T.int .i64) dA];refine⟨t.hp (s.hp (r.hp dA)),?_⟩;rw[k,n,t7,ao j,ao o]
 ·rintro i u ⟨rfl,b,c,e,k⟩;simp[b,e];have v:so (H.cons hE (dG 1 0 [])) 0 (.arr 0 0 0 0 false) 1 (([]:List Int).map (T.int .i64)):= .inr ⟨0,0,0,true,dA,rfl,dA⟩;obtain⟨E,A,p,w,r⟩:=v.TA (cx:=cx) (aw _) ko rfl nc rfl dA dA a dB;simp[p];obtain⟨F,B,q,x,s⟩:=w.QZ (cx:=cx) (aw _) ko rfl nc rfl dA dA h dB;simp[q,b,c,e];obtain⟨G,C,m,l,t⟩:=x.TA (cx:=cx) (aw _) ko rfl nc rfl dA dA [] dB;rw[cw]at m;simp[m,l.il,l.fzM (f:=T.int .i64) dA];refine⟨t.hp (s.hp (r.hp dA)),?_⟩;rw[k];simp[t7]
def abI{c:fJ}(ht:c.p 202=some He)(a:List Int)(b:Int)(hl:a.length<=1099511627776):rl Tryz.prog cx c 202 [sl (a.map (T.int .i64)),dE b]=some (sl ((t7 a b).map (T.int .i64))):=im ht aao (a,b) hl
end
end Go.Proofs.YtmaeadedikngoaaGreatDoor
