/- Pipelines. -/
import Derived.Test.YtckpldpombdkgaaGreatEL2
set_option linter.unusedSimpArgs false
set_option linter.unusedVariables false
set_option maxRecDepth 100000
namespace Go.Proofs.YtckpldpombdkgaaGreat
open Go.Sx
theorem P5{x:PlT}{l:List Int}{m:Int}(h:(Af x l m).2.2=true):Gf x=0/\G2 x=true/\(Bm x (F8 x).1 l m).2.2=0/\(G3 x (Bm x (F8 x).1 l m).1).2=0/\Af x l m=((Bm x (F8 x).1 l m).1,(G3 x (Bm x (F8 x).1 l m).1).1,true):=by
 by_cases hc:grP x=true\/Gf x≠0\/G2 x=false\/60<(l.length:Int)
 ·rw[show Af x l m=(zFs,[],false)from aN hc]at h;cases h
 ·have e:Af x l m=_:=aL hc;have hz:Gf x=0:=Classical.byContradiction λh=>hc (.inr (.inl h))
  have hs:G2 x=true:=by
   cases hb:G2 x
   ·exact aS (.inr (.inr (.inl hb))) hc
   ·rfl
  rw[e]at h ⊢;have h:(bif (bif decide ((F8 x).2=0)then decide ((Bm x (F8 x).1 l m).2.2=0)else false)then decide ((G3 x (Bm x (F8 x).1 l m).1).2=0)else false)=true:=h;obtain⟨h1,h2⟩:=P0 h;obtain⟨h3,h4⟩:=P0 h1;exact⟨hz,hs,aM h4,aM h2,by rw[h]⟩
theorem Agk{x:PlT}{l:List Int}:∀(m k:Nat)(s:FsT)(o:List Int),(Ds x l m k s o).2.2=0->(Ds x l m k s o).1.2.2.2=s.2.2.2
 |0,_,_,_,_=>rfl
 |m+1,k,s,o,h=>by
  by_cases hs:G8 x s
  ·rw[Hm hs]
  ·by_cases he:(Ci x s (D2 x l k s)).2=0
   ·rw[Lr hs he]at h ⊢;rw[Agk m (k+1) _ _ h,(Lq he).dr]
   ·rw[Ks hs he]at h;exact aS h he
theorem Asj(x:PlT):(F8 x).1.2.2.2=false:=by unfold F8;split<;>rfl
theorem Amz{x:PlT}{l:List Int}{m:Int}(h:(Af x l m).2.2=true):WF x/\VS x (Af x l m).1/\(Af x l m).1.2.2.2=false:=by
 obtain⟨hz,-,hr,-,e⟩:=P5 h;rw[e];show WF x/\VS x (Bm x (F8 x).1 l m).1/\(Bm x (F8 x).1 l m).1.2.2.2=false;unfold Bm at hr ⊢;by_cases h1:Cl x (F8 x).1=0
 ·rw[aL (λh=>h h1)]at hr ⊢;by_cases h2:m<0\/10000<m
  ·rw[aN h2]at hr;exact aS hr (by decide)
  ·rw[aL h2]at hr ⊢;have hv:=Su _ _ _ _ h1 hr;exact⟨(Bh.1 hv).1,(Bh.1 hv).2,(Agk _ _ _ _ hr).trans (Asj x)⟩
 ·rw[aN h1]at hr;exact aS hr (by decide)
section
variable {x:PlT}{s:FsT}(w:WF x)(v:VS x s)
include w v
end
def Xg:List (TypeId×Ty):=(30,tFs)::(31,tIs)::Mm
end Go.Proofs.YtckpldpombdkgaaGreat
