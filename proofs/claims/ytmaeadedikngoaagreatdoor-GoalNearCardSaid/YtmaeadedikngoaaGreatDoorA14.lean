/- Texts W07 to W07. -/
import Derived.Test.YtmaeadedikngoaaGreatDoorA13
import Derived.Test.YtmaeadedikngoaaGreatDoorA10
set_option linter.all false
set_option maxRecDepth 100000
set_option maxHeartbeats 8000000
namespace Go.Proofs.YtmaeadedikngoaaGreatDoor
noncomputable section
open Go Go.TI
attribute [-simp] List.map_take List.map_drop List.map_append
def Bq:gu:=⟨List Int×Int,λa=>[sl (a.1.map (T.int .i64)),dy a.2],λa=>a.1.length<=1099511627776,λa=> .bool (decide (a.2∈a.1)),λa c b=>by
 simp at b;rw[jw dt b.1,b.2]⟩
def YX:Bq.Ok Tryz.prog cx 56:=by
 refine gX (tb:=⟨pt [],ht []⟩) ew ej (iQ 131635 [] Tryz.func56) (λl=>l.1.length+1) (by simp[Bq]) (by simp[Bq,Tryz.f56]) ?_;rintro⟨d,g⟩ hl b j;simp[Bq]at hl j|-;obtain⟨a,c⟩:=j;simp[Tryz.f56];refine fh d.length dq (λf b h=>h=hE/\dB b 0 (sl (d.map (T.int .i64)))/\dB b 1 (dy g)/\dB b 5 (dy f)/\(g∈d.drop f↔g∈d)) ?_ ?_ dq (by simp[a,c])
 ·rintro f b h i m ⟨rfl,a,c,e,n⟩;have o:=aI i;by_cases k:d[f]=g
  ·simp[a,c,e,i,k];grind
  ·simp[a,c,e,i,k,m];grind
 ·rintro b h ⟨rfl,a,c,e,n⟩;simp[a,e];grind
def Ps{c:fy}(ht:c.p 56=some Bq)(a:List Int)(b:Int)(hl:a.length<=1099511627776):rl Tryz.prog cx c 56 [sl (a.map (T.int .i64)),dy b]=some (.bool (decide (b∈a))):=gU ht YX (a,b) hl
def tj:List Int->Int->List Int
 | [],a=>[a]
 |x::b,a=>if x<a then x::tj b a else if x=a then x::b else a::x::b
def FZ:gu:=⟨List Int×Int,λa=>[sl (a.1.map (T.int .i64)),dy a.2],λa=>a.1.length<=1099511627776,λa=>sl ((tj a.1 a.2).map (T.int .i64)),λa c b=>by
 simp at b;rw[jw dt b.1,b.2]⟩
def YR:FZ.Ok Tryz.prog cx 202:=by
 refine gX (tb:=⟨pt [],ht []⟩) ew ej (iQ 4295229555 [] Tryz.func202) (λz=>z.1.length+1) (by simp[FZ]) (by simp[FZ,Tryz.f202]) ?_;rintro⟨a,h⟩ hl i y;simp[FZ]at hl y|-;obtain⟨b,c⟩:=y;simp[Tryz.f202];refine fh a.length dq (λd i u=>u=hE/\dB i 0 (sl (a.map (T.int .i64)))/\dB i 1 (dy h)/\dB i 5 (dy d)/\tj a h=a.take d++tj (a.drop d) h) ?_ ?_ dq (by simp[b,c])
 ·rintro d i u g D ⟨rfl,b,c,e,k⟩;have n:=aI g;by_cases j:a[d]<h
  ·simp[b,c,e,g,j,D];rw[k,n,tj,aq j,aU g,cr,List.singleton_append]
  ·by_cases o:a[d]=h
   ·simp[b,c,e,g,o];rw[k,n,tj,ao j,aq o,<-n,cN]
   ·simp[b,c,e,g,j,o,bp g];have v:rC (H.cons hE (dA 1 0 [])) 0 (.arr 0 0 0 0 false) 1 (([]:List Int).map (T.int .i64)):= .inr ⟨0,0,0,true,dt,rfl,dt⟩;obtain⟨E,A,p,w,r⟩:=v.RS (cx:=cx) (aw _) kK rfl oq rfl dt dt (a.take d) du;simp[p];obtain⟨F,B,q,x,s⟩:=w.PD (cx:=cx) (aw _) kK rfl oq rfl dt dt h du;simp[q,b,c,e,bp g];obtain⟨G,C,m,l,t⟩:=x.RS (cx:=cx) (aw _) kK rfl oq rfl dt dt (a.drop d) du;simp[m,l.gJ,l.fzM (f:=T.int .i64) dt];refine⟨t.hp (s.hp (r.hp dt)),?_⟩;rw[k,n,tj,ao j,ao o]
 ·rintro i u ⟨rfl,b,c,e,k⟩;simp[b,e];have v:rC (H.cons hE (dA 1 0 [])) 0 (.arr 0 0 0 0 false) 1 (([]:List Int).map (T.int .i64)):= .inr ⟨0,0,0,true,dt,rfl,dt⟩;obtain⟨E,A,p,w,r⟩:=v.RS (cx:=cx) (aw _) kK rfl oq rfl dt dt a du;simp[p];obtain⟨F,B,q,x,s⟩:=w.PD (cx:=cx) (aw _) kK rfl oq rfl dt dt h du;simp[q,b,c,e];obtain⟨G,C,m,l,t⟩:=x.RS (cx:=cx) (aw _) kK rfl oq rfl dt dt [] du;rw[cm]at m;simp[m,l.gJ,l.fzM (f:=T.int .i64) dt];refine⟨t.hp (s.hp (r.hp dt)),?_⟩;rw[k];simp[tj]
def aaa{c:fy}(ht:c.p 202=some FZ)(a:List Int)(b:Int)(hl:a.length<=1099511627776):rl Tryz.prog cx c 202 [sl (a.map (T.int .i64)),dy b]=some (sl ((tj a b).map (T.int .i64))):=gU ht YR (a,b) hl
end
end Go.Proofs.YtmaeadedikngoaaGreatDoor
