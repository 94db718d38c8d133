/- Texts W07 to W07. -/
import Derived.Test.YtmaeadedikngoaaGreatDoorA13
import Derived.Test.YtmaeadedikngoaaGreatDoorA10
set_option linter.unusedVariables false
set_option linter.unusedSimpArgs false
set_option linter.defProp false
set_option maxRecDepth 100000
set_option maxHeartbeats 8000000
namespace Go.Proofs.YtmaeadedikngoaaGreatDoor
noncomputable section
open Go Go.TI
attribute [-simp] List.map_take List.map_drop List.map_append
def Bi:f7:=⟨List Int×Int,λa=>[sl (a.1.map (T.int .i64)),dw a.2],λa=>a.1.length<=1099511627776,λa=> .bool (decide (a.2∈a.1)),λa c b=>by
 simp at b;rw[jt dp b.1,b.2]⟩
def YN:Bi.Ok Tryz.prog cx 56:=by
 refine gH (tb:=⟨pt [],ht []⟩) ei eg (iL 131635 [] Tryz.func56) (λl=>l.1.length+1) (by simp[Bi]) (by simp[Bi,Tryz.f56]) ?_;rintro⟨d,g⟩ hl b j;simp[Bi]at hl j|-;obtain⟨a,c⟩:=j;simp[Tryz.f56];refine fc d.length dj (λf b h=>h=hE/\dz b 0 (sl (d.map (T.int .i64)))/\dz b 1 (dw g)/\dz b 5 (dw f)/\(g∈d.drop f↔g∈d)) ?_ ?_ dj (by simp[a,c])
 ·rintro f b h i m ⟨rfl,a,c,e,n⟩;have o:=aI i;by_cases k:d[f]=g
  ·simp[a,c,e,i,k];grind
  ·simp[a,c,e,i,k,m];grind
 ·rintro b h ⟨rfl,a,c,e,n⟩;simp[a,e];grind
def Ph{c:fq}(ht:c.p 56=some Bi)(a:List Int)(b:Int)(hl:a.length<=1099511627776):rl Tryz.prog cx c 56 [sl (a.map (T.int .i64)),dw b]=some (.bool (decide (b∈a))):=gF ht YN (a,b) hl
def sX:List Int->Int->List Int
 | [],a=>[a]
 |x::b,a=>if x<a then x::sX b a else if x=a then x::b else a::x::b
def F2:f7:=⟨List Int×Int,λa=>[sl (a.1.map (T.int .i64)),dw a.2],λa=>a.1.length<=1099511627776,λa=>sl ((sX a.1 a.2).map (T.int .i64)),λa c b=>by
 simp at b;rw[jt dp b.1,b.2]⟩
def YH:F2.Ok Tryz.prog cx 202:=by
 refine gH (tb:=⟨pt [],ht []⟩) ei eg (iL 4295229555 [] Tryz.func202) (λz=>z.1.length+1) (by simp[F2]) (by simp[F2,Tryz.f202]) ?_;rintro⟨a,h⟩ hl i y;simp[F2]at hl y|-;obtain⟨b,c⟩:=y;simp[Tryz.f202];refine fc a.length dj (λd i u=>u=hE/\dz i 0 (sl (a.map (T.int .i64)))/\dz i 1 (dw h)/\dz i 5 (dw d)/\sX a h=a.take d++sX (a.drop d) h) ?_ ?_ dj (by simp[b,c])
 ·rintro d i u g D ⟨rfl,b,c,e,k⟩;have n:=aI g;by_cases j:a[d]<h
  ·simp[b,c,e,g,j,D];rw[k,n,sX,aq j,aU g,cr,List.singleton_append]
  ·by_cases o:a[d]=h
   ·simp[b,c,e,g,o];rw[k,n,sX,ao j,aq o,<-n,cK]
   ·simp[b,c,e,g,j,o,bp g];have v:rm (H.cons hE (dy 1 0 [])) 0 (.arr 0 0 0 0 false) 1 (([]:List Int).map (T.int .i64)):= .inr ⟨0,0,0,true,dp,rfl,dp⟩;obtain⟨E,A,p,w,r⟩:=v.RG (cx:=cx) (aw _) kG rfl nM rfl dp dp (a.take d) dq;simp[p];obtain⟨F,B,q,x,s⟩:=w.Pt (cx:=cx) (aw _) kG rfl nM rfl dp dp h dq;simp[q,b,c,e,bp g];obtain⟨G,C,m,l,t⟩:=x.RG (cx:=cx) (aw _) kG rfl nM rfl dp dp (a.drop d) dq;simp[m,l.gD,l.fzM (f:=T.int .i64) dp];refine⟨t.hp (s.hp (r.hp dp)),?_⟩;rw[k,n,sX,ao j,ao o]
 ·rintro i u ⟨rfl,b,c,e,k⟩;simp[b,e];have v:rm (H.cons hE (dy 1 0 [])) 0 (.arr 0 0 0 0 false) 1 (([]:List Int).map (T.int .i64)):= .inr ⟨0,0,0,true,dp,rfl,dp⟩;obtain⟨E,A,p,w,r⟩:=v.RG (cx:=cx) (aw _) kG rfl nM rfl dp dp a dq;simp[p];obtain⟨F,B,q,x,s⟩:=w.Pt (cx:=cx) (aw _) kG rfl nM rfl dp dp h dq;simp[q,b,c,e];obtain⟨G,C,m,l,t⟩:=x.RG (cx:=cx) (aw _) kG rfl nM rfl dp dp [] dq;rw[cm]at m;simp[m,l.gD,l.fzM (f:=T.int .i64) dp];refine⟨t.hp (s.hp (r.hp dp)),?_⟩;rw[k];simp[sX]
def Z0{c:fq}(ht:c.p 202=some F2)(a:List Int)(b:Int)(hl:a.length<=1099511627776):rl Tryz.prog cx c 202 [sl (a.map (T.int .i64)),dw b]=some (sl ((sX a b).map (T.int .i64))):=gF ht YH (a,b) hl
end
end Go.Proofs.YtmaeadedikngoaaGreatDoor
