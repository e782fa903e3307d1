/- Pipelines. -/
import Derived.Test.YtckpldpombdkgaaGreatCX
import Derived.Test.YtckpldpombdkgaaGreatCH
import Derived.Test.YtckpldpombdkgaaGreatCS1
set_option linter.unusedSimpArgs false
set_option linter.unusedVariables false
set_option maxRecDepth 100000
namespace Go.Proofs.YtckpldpombdkgaaGreat
open Go.Sx
def tysLP:List (TypeId × Ty):=(31,tIs) :: (30,tFs) :: O7
def cxlP:Ctx:=⟨tysLP,[(13,([],cGr)),(14,([],cAwake)),(30,([],cVal)),(17,([],cRun)),(36,([],cCat)),(19,([],cSame)),(20,([],cEq))]⟩
theorem cxlP_good:Ah Tryz.prog cxlP:=C7 (Ae gGr (Ae Am4 (Ae Aj0 (Ae Aps (Ae gCat (Ae gSame (Ae gEq Ag)))))))
theorem runG_le {x:PlT} {l:List Int}:∀ (m k:Nat) (s:FsT) (o:List Int),(Kd x l m k s o).2.1.length≤o.length+m
 | 0,_,_,_=>Nat.le_refl _
 | m+1,k,s,o=>by
  by_cases hs:Ub x s
  ·rw [Ado hs]
   exact Nat.le_add_right _ _
  ·by_cases he:(Du x s (J8 x l k s)).2=0
   ·rw [Ajw hs he]
    have:=runG_le (x:=x) (l:=l) m (k+1) (Du x s (J8 x l k s)).1 (o++[J8 x l k s])
    rw [List.length_append,List.length_singleton] at this
    omega
   ·rw [Ahj hs he]
    exact Nat.zero_le _
theorem dRun_le {x:PlT} {s:FsT} {l:List Int} {m:Int} (h:0≤m∧m≤59):(Sg x s l m).2.1.length≤59:=by
 unfold Sg
 split
 ·exact Nat.zero_le _
 ·split
  ·exact Nat.zero_le _
  ·have:=runG_le (x:=x) (l:=l) m.toNat 0 s []
   rw [List.length_nil] at this
   omega
structure Pts (n:Int) (A B Q:FsT × List Int × Int):Prop where
 f1:B.2.2≠0→A.2.2=B.2.2∧A.2.1=[]
 f2:B.2.2=0→Q.2.2=A.2.2
 f3:B.2.2=0→(B.2.1.length:Int) < n→Q.2.1=[]
 f4:B.2.2=0→A.2.2=0→Q.1=A.1∧B.2.1++Q.2.1=A.2.1
 lb:B.2.1.length≤59
 lq:Q.2.1.length≤59
theorem parts_law {x:PlT} {s:FsT} {l l':List Int} {n m:Int} (hz:Cv x s=0) (hn:0≤n∧n≤59) (hm:0≤m∧m≤59) (hl:l'=rotF l n.toNat):Pts n (Sg x s l (n+m)) (Sg x s l n) (Sg x (Sg x s l n).1 l' m):=by
 subst hl
 obtain ⟨p1,p2⟩:=parts_ok hz l n.toNat m.toNat (by omega)
 rw [show ((n.toNat+m.toNat:Nat):Int)=n+m by omega,show ((n.toNat:Nat):Int)=n by omega] at p1 p2
 rw [show ((m.toNat:Nat):Int)=m by omega] at p2
 exact ⟨p1,fun h=>(p2 h).1,fun h h1=>(p2 h).2.1 (by omega),fun h=>(p2 h).2.2,dRun_le hn,dRun_le hm⟩
theorem rot_1 {l:List Int} {n:Int} (hn:0≤n) (h:decide (0 < (l.length:Int))=true):[List.drop (n.tmod (l.length:Int)).toNat l,List.take (n.tmod (l.length:Int)).toNat l].flatten=rotF l n.toNat:=by
 have h1:0 < (l.length:Int):=of_decide_eq_true h
 have e:(n.tmod (l.length:Int)).toNat=n.toNat % l.length:=by
  obtain ⟨k,rfl⟩ : ∃ k:Nat,n=(k:Int):=⟨n.toNat,by omega⟩
  rw [← Int.ofNat_tmod,Int.toNat_natCast,Int.toNat_natCast]
 unfold rotF
 rw [if_neg (by omega),e]
 simp
theorem rot_0 {l:List Int} {n:Int} (h:decide (0 < (l.length:Int))=false):l=rotF l n.toNat:=by
 have h1:¬ 0 < (l.length:Int):=of_decide_eq_false h
 unfold rotF
 rw [if_pos (by omega)]
theorem tm60 {a:Int} (h:0≤a):0≤a.tmod 60∧a.tmod 60≤59:=by
 have h1:=Int.tmod_nonneg (60:Int) h
 have h2:=Int.tmod_lt_of_pos a (show (0:Int) < 60 by decide)
 omega
theorem bo3 {a b c:Bool} (h:(bif (bif a then true else b) then true else c)=false):b=false∧c=false:=by cases a <;> cases b <;> cases c <;> simp_all
section
variable {n:Int} {A B Q:FsT × List Int × Int} (p:Pts n A B Q)
include p
theorem lf_1 (h:(!decide (B.2.2=0))=true):((true,()):Bool × Unit)=(bif bif decide (A.2.2=B.2.2) then decide ((A.2.1.length:Int)=0) else false then true else false,()):=by
 obtain ⟨h1,h2⟩:=p.f1 (fun h'=>by rw [h'] at h;cases h)
 rw [h1,h2,decide_eq_true rfl];rfl
theorem lf_2 (h0:(!decide (B.2.2=0))=false) (h:(bif bif decide ((B.2.1.length:Int) < n) then decide (0 < (Q.2.1.length:Int)) else false then true else !decide (Q.2.2=A.2.2))=true):((true,()):Bool × Unit)=(false,()):=by
 have hB:B.2.2=0:=of_decide_eq_true (Bw h0)
 rw [p.f2 hB,decide_eq_true rfl] at h
 by_cases h1:(B.2.1.length:Int) < n
 ·rw [p.f3 hB h1,decide_eq_true h1] at h
  cases h
 ·rw [decide_eq_false h1] at h
  cases h
theorem lf_3 (h0:(!decide (B.2.2=0))=false):((true,()):Bool × Unit)=(bif bif !decide (A.2.2=0) then true else bif Am5 Q.1 A.1 then decide ([B.2.1,Q.2.1].flatten=A.2.1) else false then true else false,()):=by
 have hB:B.2.2=0:=of_decide_eq_true (Bw h0)
 by_cases h1:A.2.2=0
 ·obtain ⟨h2,h3⟩:=p.f4 hB h1
  rw [sameB_iff.2 h2,show [B.2.1,Q.2.1].flatten=A.2.1 by rw [← h3];simp,decide_eq_true rfl,h1];rfl
 ·rw [decide_eq_false h1];rfl
theorem lf_4:([B.2.1,Q.2.1].flatten).length≤1000:=by
 have h1:=p.lb
 have h2:=p.lq
 simp
 omega
end
set_option maxHeartbeats 8000000 in
theorem law12:Akk Tryz.prog 12 [tPl,tFs,tIs,.int .u8,.int .u8] [true,true,false,false,false]:=by
 refine ⟨cxlP,3,cxlP_good,fun (⟨⟨st,ps⟩,⟨ss,cs,os,dr⟩,l,a,b,_⟩ : PlT × FsT × List Int × Int × Int × Unit) fine=>?_⟩
 have ha:0≤a∧a≤255:=fine.2.2.2.1
 have hb:0≤b∧b≤255:=fine.2.2.2.2.1
 have hn:=tm60 ha.1
 have hm:=tm60 hb.1
 have hZ:(bif (bif (bif grP (st,ps) then true else grT (ss,cs,os,dr)) then true else decide (60 < (l.length:Int))) then true else !decide (Cv (st,ps) (ss,cs,os,dr)=0))=false→l.length≤60∧Cv (st,ps) (ss,cs,os,dr)=0:=fun h=>by
  obtain ⟨h1,h2⟩:=bo3 h
  exact ⟨by have:=of_decide_eq_false h1;omega,of_decide_eq_true (Bw h2)⟩
 have hP:∀ {l':List Int},Cv (st,ps) (ss,cs,os,dr)=0→l'=rotF l (a.tmod 60).toNat→Pts (a.tmod 60) (Sg (st,ps) (ss,cs,os,dr) l (a.tmod 60+b.tmod 60)) (Sg (st,ps) (ss,cs,os,dr) l (a.tmod 60)) (Sg (st,ps) (Sg (st,ps) (ss,cs,os,dr) l (a.tmod 60)).1 l' (b.tmod 60)):=fun hz hl=>parts_law hz hn hm hl
 refine (aF (aO (aE (aO (aE (aI tT (fun h0=>(aI (fun h1=>tT) (aI (fun h2=>(aI tT (Aa rfl ?_))) (fun h2=>(aO (aI tT (fun (h3:(List (List Int × Int × Bool) × List (Int × Int × Int × Int × List Int × Bool) × List (List Int) × Bool) ×   List Int × Int × PUnit)=>(fun h4=>(aI tT (fun (h5:(List (List Int × Int × Bool) × List (Int × Int × Int × Int × List Int × Bool) × List (List Int) × Bool) ×   List Int × Int × PUnit)=>(fun h6=>(aI (fun h7=>(fun h8=>(aI (fun h9=>tT) (Aa rfl ?_)))) (fun h7=>(fun h10=>(aI (fun h11=>(fun h12=>(aO (aF (aI ?_ (aI ?_ (aI ?_ (aI tT (fun (h13:(List (List Int × Int × Bool) × List (Int × Int × Int × Int × List Int × Bool) × List (List Int) × Bool) ×   List Int × Int × PUnit)=>(fun h14=>(fun h15=>(fun h16=>(aI (fun h17=>(Aa rfl ?_)) (fun h17=>(aI (fun h18=>tT) (aI (fun h19=>?_) (aI (fun h20=>tT) (aI (fun h21=>tT) (Aa rfl ?_))))))))))))))))))) (fun h11=>(aI tT (fun (h22:(List (List Int × Int × Bool) × List (Int × Int × Int × Int × List Int × Bool) × List (List Int) × Bool) ×   List Int × Int × PUnit)=>(fun h23=>(fun h24=>(fun h25=>(aI (fun h26=>(Aa rfl ?_)) (fun h26=>(aI (fun h27=>tT) (aI (fun h28=>?_) (aI (fun h29=>tT) (aI (fun h30=>tT) (Aa rfl ?_))))))))))))))))))))))))))))))))))
 ·rfl
 ·subst h4 h6
  exact lf_1 (hP (hZ h2).2 rfl) h7
 ·have h1:0 < (l.length:Int):=of_decide_eq_true h11
  exact ⟨Int.tmod_nonneg _ hn.1,Int.le_of_lt (Int.tmod_lt_of_pos _ h1)⟩
 ·have h1:0 < (l.length:Int):=of_decide_eq_true h11
  exact ⟨Int.tmod_nonneg _ hn.1,Int.le_of_lt (Int.tmod_lt_of_pos _ h1)⟩
 ·have h1:=(hZ h2).1
  simp
  omega
 ·subst h4 h6
  have p:=hP (hZ h2).2 (rot_1 hn.1 h11)
  subst h14
  exact lf_2 p h7 h17
 ·subst h4 h6
  have p:=hP (hZ h2).2 (rot_1 hn.1 h11)
  subst h14
  exact lf_4 p
 ·subst h4 h6
  have p:=hP (hZ h2).2 (rot_1 hn.1 h11)
  subst h14
  exact lf_3 p h7
 ·subst h4 h6
  have p:=hP (hZ h2).2 (rot_0 h11)
  subst h23
  exact lf_2 p h7 h26
 ·subst h4 h6
  have p:=hP (hZ h2).2 (rot_0 h11)
  subst h23
  exact lf_4 p
 ·subst h4 h6
  have p:=hP (hZ h2).2 (rot_0 h11)
  subst h23
  exact lf_3 p h7
end Go.Proofs.YtckpldpombdkgaaGreat
