/- Texts W07 to W07. -/
import Derived.Test.YtmaeadedikngoaaGreatDoorA12
set_option linter.all false
set_option maxRecDepth 100000
set_option maxHeartbeats 8000000
namespace Go.Proofs.YtmaeadedikngoaaGreatDoor
noncomputable section
open Go Go.TI
attribute [-simp] List.map_take List.map_drop List.map_append
def Dv:iq:=⟨List Int×Int,λa=>[sl (a.1.map (T.int .i64)),dG a.2],λa=>a.1.length<=1099511627776,λa=> .bool (decide (a.2∈a.1)),λa c b=>by
 simp at b;rw[jy dC b.1,b.2]⟩
def aak:Dv.Ok Tryz.prog cx 56:=by
 refine iC (tb:=⟨pt [],ht []⟩) fc fa (je 131635 [] Tryz.func56) (λl=>l.1.length+1) (by simp[Dv]) (by simp[Dv,Tryz.f56]) ?_;rintro⟨d,g⟩ hl b j;simp[Dv]at hl j|-;obtain⟨a,c⟩:=j;simp[Tryz.f56];refine fI d.length dB (λf b h=>h=hE/\dJ b 0 (sl (d.map (T.int .i64)))/\dJ b 1 (dG g)/\dJ b 5 (dG f)/\(g∈d.drop f↔g∈d)) ?_ ?_ dB (by simp[a,c])
 ·rintro f b h i m ⟨rfl,a,c,e,n⟩;have o:=aI i;by_cases k:d[f]=g
  ·simp[a,c,e,i,k];grind
  ·simp[a,c,e,i,k,m];grind
 ·rintro b h ⟨rfl,a,c,e,n⟩;simp[a,e];grind
def WY{c:fN}(ht:c.p 56=some Dv)(a:List Int)(b:Int)(hl:a.length<=1099511627776):rl Tryz.prog cx c 56 [sl (a.map (T.int .i64)),dG b]=some (.bool (decide (b∈a))):=iv ht aak (a,b) hl
def pk:iq:=⟨List Int×List Int,λa=>[sl (a.1.map (T.int .i64)),sl (a.2.map (T.int .i64))],λa=>a.1.length<=1099511627776/\a.2.length<=1099511627776,λa=> .bool (decide (a.1=a.2)),λa c b=>by
 simp at b;rw[jy dC b.1,jy dC b.2]⟩
def Jo:pk.Ok Tryz.prog cx 36:=by
 refine iC (tb:=⟨pt [],ht []⟩) fc fa (je 33571891 [] Tryz.func36) (λn=>n.1.length+1) (by simp[pk]) (by simp[pk,Tryz.f36]) ?_;rintro⟨b,c⟩ hl f l;simp[pk]at hl l|-;obtain⟨a,d⟩:=l;by_cases i:b.length=c.length
 ·simp[Tryz.f36,a,d,i];rw[<-i];refine fI b.length dB (λe f g=>g=hE/\dJ f 0 (sl (b.map (T.int .i64)))/\dJ f 1 (sl (c.map (T.int .i64)))/\dJ f 5 (dG e)/\(b.drop e=c.drop e↔b=c)) ?_ ?_ dB (by simp[a,d])
  ·rintro e f g j o ⟨rfl,a,d,h,p⟩;have s:=aI j;have k:e<c.length:=dB;have t:=aI k;by_cases m:b[e]=c[e]
   ·simp[a,d,h,j,k,m,o];grind
   ·simp[a,d,h,j,k,m];grind
  ·rintro f g ⟨rfl,a,d,h,p⟩;simp[a,h];grind
 ·have q:b≠c:=λg=>i (by rw[g]);have r:¬((b.length:Int)=c.length):=dB;simp[Tryz.f36,a,d,r,q]
def M0{c:fN}(ht:c.p 36=some pk)(a b:List Int)(hl:a.length<=1099511627776)(d:b.length<=1099511627776):rl Tryz.prog cx c 36 [sl (a.map (T.int .i64)),sl (b.map (T.int .i64))]=some (.bool (decide (a=b))):=iv ht Jo (a,b) ⟨hl,d⟩
def t7:List Int->Int->List Int
 | [],a=>[a]
 |x::b,a=>if x<a then x::t7 b a else if x=a then x::b else a::x::b
def G5:iq:=⟨List Int×Int,λa=>[sl (a.1.map (T.int .i64)),dG a.2],λa=>a.1.length<=1099511627776,λa=>sl ((t7 a.1 a.2).map (T.int .i64)),λa c b=>by
 simp at b;rw[jy dC b.1,b.2]⟩
def aae:G5.Ok Tryz.prog cx 202:=by
 refine iC (tb:=⟨pt [],ht []⟩) fc fa (je 4295229555 [] Tryz.func202) (λz=>z.1.length+1) (by simp[G5]) (by simp[G5,Tryz.f202]) ?_;rintro⟨a,h⟩ hl i y;simp[G5]at hl y|-;obtain⟨b,c⟩:=y;simp[Tryz.f202];refine fI a.length dB (λd i u=>u=hE/\dJ i 0 (sl (a.map (T.int .i64)))/\dJ i 1 (dG h)/\dJ i 5 (dG d)/\t7 a h=a.take d++t7 (a.drop d) h) ?_ ?_ dB (by simp[b,c])
 ·rintro d i u g D ⟨rfl,b,c,e,k⟩;have n:=aI g;by_cases j:a[d]<h
  ·simp[b,c,e,g,j,D];rw[k,n,t7,aq j,aW g,aV,List.singleton_append]
  ·by_cases o:a[d]=h
   ·simp[b,c,e,g,o];rw[k,n,t7,ao j,aq o,<-n,cR]
   ·simp[b,c,e,g,j,o,bD g];have v:sj (H.cons hE (dI 1 0 [])) 0 (.arr 0 0 0 0 false) 1 (([]:List Int).map (T.int .i64)):= .inr ⟨0,0,0,true,dC,rfl,dC⟩;obtain⟨E,A,p,w,r⟩:=v.Tg (cx:=cx) (aw _) kz rfl mM rfl dC dC (a.take d) dD;simp[p];obtain⟨F,B,q,x,s⟩:=w.QL (cx:=cx) (aw _) kz rfl mM rfl dC dC h dD;simp[q,b,c,e,bD g];obtain⟨G,C,m,l,t⟩:=x.Tg (cx:=cx) (aw _) kz rfl mM rfl dC dC (a.drop d) dD;simp[m,l.im,l.fzM (f:=T.int .i64) dC];refine⟨t.hp (s.hp (r.hp dC)),?_⟩;rw[k,n,t7,ao j,ao o]
 ·rintro i u ⟨rfl,b,c,e,k⟩;simp[b,e];have v:sj (H.cons hE (dI 1 0 [])) 0 (.arr 0 0 0 0 false) 1 (([]:List Int).map (T.int .i64)):= .inr ⟨0,0,0,true,dC,rfl,dC⟩;obtain⟨E,A,p,w,r⟩:=v.Tg (cx:=cx) (aw _) kz rfl mM rfl dC dC a dD;simp[p];obtain⟨F,B,q,x,s⟩:=w.QL (cx:=cx) (aw _) kz rfl mM rfl dC dC h dD;simp[q,b,c,e];obtain⟨G,C,m,l,t⟩:=x.Tg (cx:=cx) (aw _) kz rfl mM rfl dC dC [] dD;rw[cB]at m;simp[m,l.im,l.fzM (f:=T.int .i64) dC];refine⟨t.hp (s.hp (r.hp dC)),?_⟩;rw[k];simp[t7]
def abv{c:fN}(ht:c.p 202=some G5)(a:List Int)(b:Int)(hl:a.length<=1099511627776):rl Tryz.prog cx c 202 [sl (a.map (T.int .i64)),dG b]=some (sl ((t7 a b).map (T.int .i64))):=iv ht aae (a,b) hl
end
end Go.Proofs.YtmaeadedikngoaaGreatDoor
