/- Pipelines. -/
import Derived.Test.YtckpldpombdkgaaGreatCZ6
set_option linter.unusedSimpArgs false
set_option linter.unusedVariables false
set_option maxRecDepth 100000
namespace Go.Proofs.YtckpldpombdkgaaGreat
open Go.Sx
theorem Sv {α:Type} {xs ys:List α} {i:Nat} {d:α} (h1:i < xs.length) (h2:i < ys.length) (h:xs.take i=ys.take i) (hd:xs.getD i d=ys.getD i d):xs.take (i+1)=ys.take (i+1):=Il h1 h2 h hd
def c47:Ctr:=fnC [dIs,dIs] rB (fun _=>True) (fun y=>(decide (y.1=y.2.1),()))
theorem Ama:GoodC Tryz.prog 55 c47:=by
 refine Ap Ag 3 _ _ _ _ ⟨_,Tryz.func55,rfl,rfl⟩ fun (⟨xs,ys,_⟩ : List Int × List Int × Unit) _=>?_
 refine (aF (fun h0=>(fun h1=>(aI (fun h2=>(Aa rfl ?_)) (fun h2=>?_)))))
 ·have hl:xs≠ys:=fun e=>by
   have h:(!decide ((xs.length:Int)=(ys.length:Int)))=true:=h2
   rw [e] at h;simp at h
  show (decide (xs=ys),())=(false,())
  rw [decide_eq_false hl]
 have hl:xs.length=ys.length:=by
  have h:(!decide ((xs.length:Int)=(ys.length:Int)))=false:=h2
  have:(xs.length:Int)=ys.length:=by simpa using h
  omega
 refine ex4 _ (fun i:Nat=>⟨[.sl (.int .i64) xs,.sl (.int .i64) ys,.any,.any,.any,.int .i64 (i:Int)]++nA 20,[],0⟩) (fun i=>i≤xs.length∧xs.take i=ys.take i) (fun i=>xs.length - i) (aI (eI (0) (eI ([]) (aI ?_ (aB (aI tT (by rfl)))))) ?_)
 ·simp
 rintro i ⟨hi,ht⟩
 refine (fun k0=>(aI (fun k1=>(aF (aO (aO (aI (fun k2=>(Aa rfl ?_)) (fun k2=>(aO ?_))))))) (fun k1=>(Aa rfl ?_))))
 ·have hi':i < xs.length:=by simpa using k1
  have hk:¬ xs.getD i (Ab tI)=ys.getD i (Ab tI):=by have h:=k2;simpa using h
  have hne:xs≠ys:=fun e=>hk (by rw [e])
  show (decide (xs=ys),())=(false,())
  rw [decide_eq_false hne]
 ·have hi':i < xs.length:=by simpa using k1
  have hk:xs.getD i (Ab tI)=ys.getD i (Ab tI):=by have h:=k2;simpa using h
  refine eI (i+1) (eI ([]) (aI ?_ (aI ?_ (aB (aI tT (by rfl))))))
  ·exact ⟨hi',Il hi' (hl ▸ hi') ht hk⟩
  ·show xs.length - (i+1) < xs.length - i
   omega
 ·have hi':¬ i < xs.length:=by simpa using k1
  have he:xs=ys:=by
   rw [List.take_of_length_le (by omega),List.take_of_length_le (by omega)] at ht
   exact ht
  show (decide (xs=ys),())=(true,())
  rw [decide_eq_true he]
def cxO1:Ctx:=⟨C5,[(55,([],c47))]⟩
theorem Adh:Ah Tryz.prog cxO1:=Ae Ama Ag
def c14:Ctr:=fnC [Za,Za] rB (fun _=>True) (fun y=>(decide (y.1=y.2.1),()))
theorem Amb:GoodC Tryz.prog 23 c14:=by
 refine Ap Adh 3 _ _ _ _ ⟨_,Tryz.func23,rfl,rfl⟩ fun (⟨xs,ys,_⟩ : List (List Int) × List (List Int) × Unit) _=>?_
 refine (aF (fun h0=>(fun h1=>(aI (fun h2=>(Aa rfl ?_)) (fun h2=>?_)))))
 ·have hl:xs≠ys:=fun e=>by
   have h:(!decide ((xs.length:Int)=(ys.length:Int)))=true:=h2
   rw [e] at h;simp at h
  show (decide (xs=ys),())=(false,())
  rw [decide_eq_false hl]
 have hl:xs.length=ys.length:=by
  have h:(!decide ((xs.length:Int)=(ys.length:Int)))=false:=h2
  have:(xs.length:Int)=ys.length:=by simpa using h
  omega
 refine ex4 _ (fun i:Nat=>⟨[.sl (.sl (.int .i64)) xs,.sl (.sl (.int .i64)) ys,.any,.any,.any,.int .i64 (i:Int)]++nA 21,[],0⟩) (fun i=>i≤xs.length∧xs.take i=ys.take i) (fun i=>xs.length - i) (aI (eI (0) (eI ([]) (aI ?_ (aB (aI tT (by rfl)))))) ?_)
 ·simp
 rintro i ⟨hi,ht⟩
 refine (fun k0=>(aI (fun k1=>(aF (aO (aO (aI tT (aI (fun k2=>(Aa rfl ?_)) (fun k2=>(aO ?_)))))))) (fun k1=>(Aa rfl ?_))))
 ·have hi':i < xs.length:=by simpa using k1
  have hk:¬ xs.getD i (Ab tIs)=ys.getD i (Ab tIs):=by
   have h:(!decide (xs.getD i (Ab tIs)=ys.getD i (Ab tIs)))=true:=k2
   simpa using h
  have hne:xs≠ys:=fun e=>hk (by rw [e])
  show (decide (xs=ys),())=(false,())
  rw [decide_eq_false hne]
 ·have hi':i < xs.length:=by simpa using k1
  have hk:xs.getD i (Ab tIs)=ys.getD i (Ab tIs):=by
   have h:(!decide (xs.getD i (Ab tIs)=ys.getD i (Ab tIs)))=false:=k2
   simpa using h
  refine eI (i+1) (eI ([]) (aI ?_ (aI ?_ (aB (aI tT (by rfl))))))
  ·exact ⟨hi',Il hi' (hl ▸ hi') ht hk⟩
  ·show xs.length - (i+1) < xs.length - i
   omega
 ·have hi':¬ i < xs.length:=by simpa using k1
  have he:xs=ys:=by
   rw [List.take_of_length_le (by omega),List.take_of_length_le (by omega)] at ht
   exact ht
  show (decide (xs=ys),())=(true,())
  rw [decide_eq_true he]
theorem Vo {x:StT} {ins:List (List Int)} (h:(Az x ins).2=0):An x=0∧(ins.length:Int)=(Ao x.1).1∧Ba ins=0∧(Ch x ins).2=0∧(Az x ins).1=(Ch x ins).1∧(Ch x ins).1.any A2=false:=by
 by_cases h0:An x=0
 ·have e0:(!decide (An x=0))=false:=by rw [h0];rfl
  by_cases h1:(ins.length:Int)=(Ao x.1).1
  ·have e1:(!decide ((ins.length:Int)=(Ao x.1).1))=false:=by rw [decide_eq_true h1];rfl
   by_cases h2:Ba ins=0
   ·have e2:(!decide (Ba ins=0))=false:=by rw [h2];rfl
    by_cases h3:(Ch x ins).2=0
    ·have e3:(!decide ((Ch x ins).2=0))=false:=by rw [h3];rfl
     cases h4:(Ch x ins).1.any A2 with
     | false=>exact ⟨h0,h1,h2,h3,by rw [MN5 e0 e1 e2 e3 h4],rfl⟩
     | true=>rw [MN4 e0 e1 e2 e3 h4] at h;exact absurd h (by decide)
    ·rw [MN3 e0 e1 e2 (by simpa using h3)] at h;exact absurd h h3
   ·rw [MN2 e0 e1 (by simpa using h2)] at h;exact absurd h h2
  ·rw [MN1 e0 (by simpa using h1)] at h;exact absurd h (by decide)
 ·rw [MN0 (by simpa using h0)] at h;exact absurd h h0
end Go.Proofs.YtckpldpombdkgaaGreat
