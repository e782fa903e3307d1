/- Pipelines. -/
import Derived.Test.YtckpldpombdkgaaGreatEL3
import Derived.Test.YtckpldpombdkgaaGreatEK2
set_option linter.unusedSimpArgs false
set_option linter.unusedVariables false
set_option maxRecDepth 100000
namespace Go.Proofs.YtckpldpombdkgaaGreat
open Go.Sx
theorem Q8{x:PlT}{l:List Int}{m:Int}(h:(Af x l m).2.2=true):x.1.length<=12/\(Af x l m).2.1=(G3 x (Af x l m).1).1/\∃S J r T O,Way x (Af x l m).1 S J r T O:=by
 obtain⟨hz,hs,hr,he,e⟩:=P5 h;refine⟨Vf hs,by rw[e], ?_⟩;rw[e];exact Avr hz rfl hr he
theorem Am0{x:PlT}{s:FsT}{S:List (List Int)}{J:Int->Nat->RT->Prop}{r:Int->Nat}{T:Int->List Int}{O:Int->List (List Int)}(w:Way x s S J r T O)(h:x.1.length<=12):Q6 x r<(5000:Int).toNat:=by
 have h1:=w.tt;have h2:(5000:Int).toNat=5000:=rfl;omega
structure Dlv(x:PlT)(l:List Int)(m:Int)(n:Nat)(R:FsT×List Int×Int):Prop where
 e0:R.2.2=0
 ln:R.2.1.length=n
 n5:n<5000
 ou:R.1.2.2.1=(Af x l m).2.1
 fi:Abh x R.1=true
theorem Xh{x:PlT}{l:List Int}{m:Int}(h:(Af x l m).2.2=true):Hl x (Af x l m).1=(drS (Af x l m).1,0)/\∃n,∀l':List Int,Dlv x l m n (Bm x (drS (Af x l m).1) l' 5000):=by
 obtain⟨h12,hw,S,J,r,T,O,w⟩:=Q8 h;refine⟨w.beg,Q6 x r,λl'=>?_⟩;have t5:=Am0 w h12;have R:=w.run l' (m:=5000) (by decide) (by decide);obtain⟨o1,o2,o3⟩:=R.ou t5;refine⟨R.e0,o2,t5,o1.trans hw.symm, ?_⟩;unfold Abh;rw[aW (Bh.2 ⟨w.p.w,R.v⟩),eX,bT];intro t ht;obtain⟨i,hi,rfl⟩:=dN.1 ht;have hil:i<x.1.length:=by have:=R.v.ls;omega
 have:=o3 (i:Int) (by omega) (by omega);unfold Az at this;rw[bE,A1 hi]at this;exact this
end Go.Proofs.YtckpldpombdkgaaGreat
