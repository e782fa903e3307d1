/- Pipelines. -/
import Derived.Test.YtckpldpombdkgaaGreatCX
import Derived.Test.YtckpldpombdkgaaGreatCH
set_option linter.unusedSimpArgs false
set_option linter.unusedVariables false
set_option maxRecDepth 100000
namespace Go.Proofs.YtckpldpombdkgaaGreat
open Go.Sx
def cxhE:Ctx:=⟨O7,[(55,([],c47))]⟩
theorem cxhE_good:Ah Tryz.prog cxhE:=C7 (Ae Ama Ag)
def cSaS:Ctr:=fnC [.dat true tSS,.dat true tSS] rB (fun _=>True) (fun y=>(decide (y.1=y.2.1),()))
theorem gSaS:GoodC Tryz.prog 49 cSaS:=by
 refine Ap cxhE_good 3 _ _ _ _ ⟨_,Tryz.func49,rfl,rfl⟩ fun (⟨⟨h1,c1,e1⟩,⟨h2,c2,e2⟩,_⟩ : SST × SST × Unit) _=>?_
 refine (aF (aI tT (Aa rfl ?_)))
 refine congrArg (fun b=>(b,())) (Bool.eq_iff_iff.2 ⟨fun h=>?_,fun h=>?_⟩)
 ·obtain ⟨rfl,rfl,rfl⟩ : h1=h2∧c1=c2∧e1=e2:=by simpa using h
  simp
 ·simp only [Bool.cond_false_right,Bool.and_eq_true,decide_eq_true_eq,beq_iff_eq] at h
  obtain ⟨⟨rfl,rfl⟩,rfl⟩:=h
  simp
def cSaC:Ctr:=fnC [Si,Si] rB (fun _=>True) (fun y=>(decide (y.1=y.2.1),()))
theorem gSaC:GoodC Tryz.prog 50 cSaC:=by
 refine Ap cxhE_good 3 _ _ _ _ ⟨_,Tryz.func50,rfl,rfl⟩ fun (⟨⟨a1,a2,a3,a4,a5,a6⟩,⟨b1,b2,b3,b4,b5,b6⟩,_⟩ : Cred × Cred × Unit) _=>?_
 refine (aF (aI (fun g0=>tT) (Aa rfl ?_)))
 refine congrArg (fun b=>(b,())) (Bool.eq_iff_iff.2 ⟨fun h=>?_,fun h=>?_⟩)
 ·obtain ⟨rfl,rfl,rfl,rfl,rfl,rfl⟩ : a1=b1∧a2=b2∧a3=b3∧a4=b4∧a5=b5∧a6=b6:=by simpa using h
  simp
 ·simp only [Bool.cond_false_right,Bool.and_eq_true,decide_eq_true_eq,beq_iff_eq] at h
  obtain ⟨⟨⟨⟨⟨rfl,rfl⟩,rfl⟩,rfl⟩,rfl⟩,rfl⟩:=h
  simp
def cxhF:Ctx:=⟨O7,[(49,([],cSaS)),(50,([],cSaC)),(23,([],c14))]⟩
theorem cxhF_good:Ah Tryz.prog cxhF:=C7 (Ae gSaS (Ae gSaC (Ae Amb Ag)))
instance decCred:DecidableEq Cred:=fun a b=>inferInstanceAs (Decidable (a=b))
instance decCreds:DecidableEq (List Cred):=instDecidableEqList
def Am5 (a b:FsT):Bool:=decide (a.1=b.1) && (decide (a.2.1=b.2.1) && (decide (a.2.2.1=b.2.2.1) && (a.2.2.2 == b.2.2.2)))
theorem sameB_iff {a b:FsT}:Am5 a b=true↔a=b:=by
 obtain ⟨a1,a2,a3,a4⟩:=a
 obtain ⟨b1,b2,b3,b4⟩:=b
 simp [Am5]
def cSame:Ctr:=fnC [dFs,dFs] rB (fun _=>True) (fun y=>(Am5 y.1 y.2.1,()))
theorem gSame:GoodC Tryz.prog 19 cSame:=by
 refine Ap cxhF_good 3 _ _ _ _ ⟨_,Tryz.func19,rfl,rfl⟩ fun (⟨⟨sa,ca,oa,da⟩,⟨sb,cb,ob,db⟩,_⟩ : FsT × FsT × Unit) _=>?_
 refine (aF (fun h0=>(fun h1=>(fun h2=>(fun h3=>(aI (fun h4=>tT) (aI (fun h5=>(Aa rfl ?_)) (fun h5=>?_))))))))
 ·refine congrArg (fun b=>(b,())) (Bool.eq_false_iff.2 fun h=>?_)
  have h:=sameB_iff.1 h
  cases h
  have h5:(bif (bif (bif !decide ((sa.length:Int)=(sa.length:Int)) then true else !decide ((ca.length:Int)=(ca.length:Int))) then true else !da == da) then true else !decide (oa=oa))=true:=h5
  simp at h5
 have hb:(bif (bif (bif !decide ((sa.length:Int)=(sb.length:Int)) then true else !decide ((ca.length:Int)=(cb.length:Int))) then true else !da == db) then true else !decide (oa=ob))=false:=h5
 simp only [Bool.cond_true_left,Bool.or_eq_false_iff,Bool.not_eq_false',decide_eq_true_eq] at hb
 clear h0 h1 h2 h3 h5
 refine ex4 _ (fun i:Nat=>⟨[.any,.any,.ptr 0 0,.ptr 1 0,.any,.int .i64 (i:Int)]++nA 70,[.cells [.sl tSS sa,.sl A8 ca,.sl (.sl (.int .i64)) oa,.bool da],.cells [.sl tSS sb,.sl A8 cb,.sl (.sl (.int .i64)) ob,.bool db]],2⟩) (fun i=>i≤sa.length∧sa.take i=sb.take i) (fun i=>sa.length - i) (aI (eI (0) (eI ([some 0,some 1]) (aI ?_ (aB (aI (aI (aA (by rfl)) (aI (aA (by rfl)) tT)) (by rfl)))))) ?_)
 ·exact ⟨Nat.zero_le _,by simp⟩
 rintro i ⟨hi,ht⟩
 replace hi:i≤sa.length:=hi
 replace ht:sa.take i=sb.take i:=ht
 obtain ⟨⟨⟨hb1,hb2⟩,hb3⟩,hb4⟩:=hb
 have hlS:sa.length=sb.length:=by omega
 have hlC:ca.length=cb.length:=by omega
 have hF:∀ {P:Prop},(P→False)→((sa,ca,oa,da)=(sb,cb,ob,db)→P)→(Am5 (sa,ca,oa,da) (sb,cb,ob,db),())=(false,()):=fun hn hp =>
  congrArg (fun b=>(b,())) (Bool.eq_false_iff.2 fun h=>hn (hp (sameB_iff.1 h)))
 refine (fun k0=>(aI (fun k1=>(aF (aO (aO (aI tT (aI (fun k2=>(Aa rfl ?_)) (fun k2=>(aO ?_)))))))) (fun k1=>?_)))
 ·have h1:¬ sa.getD (i:Int).toNat (Ab tSS)=sb.getD (i:Int).toNat (Ab tSS):=by
   have h:(!decide (sa.getD (i:Int).toNat (Ab tSS)=sb.getD (i:Int).toNat (Ab tSS)))=true:=k2
   simpa using h
  exact hF h1 fun h=>by rw [(Prod.mk.inj h).1]
 ·have hi':i < sa.length:=by have:=of_decide_eq_true k1;omega
  have h1:sa.getD i (Ab tSS)=sb.getD i (Ab tSS):=by
   have h:(!decide (sa.getD (i:Int).toNat (Ab tSS)=sb.getD (i:Int).toNat (Ab tSS)))=false:=k2
   exact of_decide_eq_true (Bw h)
  clear k0 k1 k2
  refine eI (i+1) (eI ([some 0,some 1]) (aI ?_ (aI ?_ (aB (aI (aI (aA (by rfl)) (aI (aA (by rfl)) tT)) (by rfl))))))
  ·exact ⟨hi',Sv hi' (hlS ▸ hi') ht h1⟩
  ·show sa.length - (i+1) < sa.length - i
   omega
 have hS:sa=sb:=by
  have:¬ (i:Int) < (sa.length:Int):=of_decide_eq_false k1
  rwa [List.take_of_length_le (by omega),List.take_of_length_le (by omega)] at ht
 clear k0 k1 ht hi
 refine ex4 _ (fun j:Nat=>⟨[.any,.any,.ptr 0 0,.ptr 1 0,.any,.any,.int .i64 (j:Int)]++nA 69,[.cells [.sl tSS sa,.sl A8 ca,.sl (.sl (.int .i64)) oa,.bool da],.cells [.sl tSS sb,.sl A8 cb,.sl (.sl (.int .i64)) ob,.bool db]],2⟩) (fun j=>j≤ca.length∧ca.take j=cb.take j) (fun j=>ca.length - j) (aI (eI (0) (eI ([some 0,some 1]) (aI ?_ (aB (aI (aI (aA (by rfl)) (aI (aA (by rfl)) tT)) (by rfl)))))) ?_)
 ·exact ⟨Nat.zero_le _,by simp⟩
 rintro j ⟨hj,hu⟩
 replace hj:j≤ca.length:=hj
 replace hu:ca.take j=cb.take j:=hu
 refine (fun m0=>(aI (fun m1=>(aF (aO (aO (aI tT (aI (fun m2=>(Aa rfl ?_)) (fun m2=>(aO ?_)))))))) (fun m1=>(Aa rfl ?_))))
 ·have h1:¬ ca.getD (j:Int).toNat (Ab A8)=cb.getD (j:Int).toNat (Ab A8):=by
   have h:(!decide (ca.getD (j:Int).toNat (Ab A8)=cb.getD (j:Int).toNat (Ab A8)))=true:=m2
   simpa using h
  exact hF h1 fun h=>by rw [(Prod.mk.inj (Prod.mk.inj h).2).1]
 ·have hj':j < ca.length:=by have:=of_decide_eq_true m1;omega
  have h1:ca.getD j (Ab A8)=cb.getD j (Ab A8):=by
   have h:(!decide (ca.getD (j:Int).toNat (Ab A8)=cb.getD (j:Int).toNat (Ab A8)))=false:=m2
   exact of_decide_eq_true (Bw h)
  clear m0 m1 m2
  refine eI (j+1) (eI ([some 0,some 1]) (aI ?_ (aI ?_ (aB (aI (aI (aA (by rfl)) (aI (aA (by rfl)) tT)) (by rfl))))))
  ·exact ⟨hj',Sv hj' (hlC ▸ hj') hu h1⟩
  ·show ca.length - (j+1) < ca.length - j
   omega
 ·have hC:ca=cb:=by
   have:¬ (j:Int) < (ca.length:Int):=of_decide_eq_false m1
   rwa [List.take_of_length_le (by omega),List.take_of_length_le (by omega)] at hu
  have hd:da=db:=by simpa using hb3
  refine congrArg (fun b=>(b,())) (sameB_iff.2 ?_)
  rw [hS,hC,hb4,hd]
def catL (ll:List (List Int)) (i:Nat):List Int:=(ll.take i).flatten
def tysCa:List (TypeId × Ty):=(31,tIs) :: C5
theorem cxCa_good:Ah Tryz.prog ⟨tysCa,[]⟩:=fun _ _ _ h=>by simp [Gp] at h
theorem catL_next {ll:List (List Int)} {i:Nat} (h:i < ll.length):catL ll (i+1)=catL ll i++ll.getD i []:=by
 rw [catL,List.take_add_one,List.flatten_append,List.getD_eq_getElem?_getD,List.getElem?_eq_getElem h]
 simp [catL]
theorem catL_len (ll:List (List Int)) (i:Nat):(catL ll i).length≤ll.flatten.length:=by
 have h:ll.flatten.length=(catL ll i).length+((ll.drop i).flatten).length:=by
  rw [catL,← List.length_append,← List.flatten_append,List.take_append_drop]
 omega
theorem catL_end {ll:List (List Int)} {i:Nat} (h:¬ i < ll.length):catL ll i=ll.flatten:=by
 rw [catL,List.take_of_length_le (by omega)]
def cCat:Ctr:=fnC [.dat false (.sl tIs)] [(false,tIs)] (fun y=>y.1.flatten.length≤1000) (fun y=>(y.1.flatten,()))
theorem gCat:GoodC Tryz.prog 36 cCat:=by
 refine Ap cxCa_good 3 _ _ _ _ ⟨_,Tryz.func36,rfl,rfl⟩ fun (⟨ll,_⟩ : List (List Int) × Unit) hlen=>?_
 replace hlen:ll.flatten.length≤1000:=hlen
 refine (aF (fun h0=>?_))
 refine ex4 _ (fun p:Nat × Int=>⟨[.sl tIs ll,.any,.any,.int .i64 p.2,.any,.any,.any,.any,.any,.sl tIs ll,.int .i64 (↑ll.length:Int),.int .i64 (p.1:Int)]++nA 24,[],0⟩) (fun p=>p.1≤ll.length∧p.2=((catL ll p.1).length:Int)) (fun p=>ll.length - p.1) (aI (eI ((0,0)) (eI ([]) (aI ?_ (aB (aI tT (by rfl)))))) ?_)
 ·exact ⟨Nat.zero_le _,rfl⟩
 rintro ⟨i,z⟩ ⟨hi,hz⟩
 simp only at hi hz
 have hc:=catL_len ll i
 refine (aI (fun k0=>(aO (fun k1=>(aI ?_ (aI (fun (k2:decide (z+(↑(List.length (ll.getD (↑i:Int).toNat (Ab tIs))):Int) < (0:Int))=true)=>absurd (of_decide_eq_true k2) (by omega)) (fun k2=>(aO ?_))))))) (fun k0=>(aF (aI (fun (k3:decide (z < (0:Int))=true)=>absurd (of_decide_eq_true k3) (by omega)) (fun k3=>(aO (aO (aI (fun k4=>(aE (aO (aI (by omega) (fun k5=>?_))))) (fun k4=>(fun k6=>?_))))))))))
 ·have hi':i < ll.length:=by simpa using k0
  have hn:=catL_next hi'
  have hc2:=catL_len ll (i+1)
  rw [hn,List.length_append] at hc2
  show -9223372036854775808≤z+((ll.getD i []).length:Int)∧z+((ll.getD i []).length:Int)≤9223372036854775807
  omega
 ·have hi':i < ll.length:=by simpa using k0
  have hn:=catL_next hi'
  have e:((catL ll (i+1)).length:Int)=((catL ll i).length:Int)+((ll.getD i []).length:Int):=by rw [hn,List.length_append];rfl
  refine eI ((i+1,z+((ll.getD i []).length:Int))) (eI ([]) (aI ?_ (aI ?_ (aB (aI tT (by rfl))))))
  ·exact ⟨hi',by rw [e,hz]⟩
  ·show ll.length - (i+1) < ll.length - i
   omega
 ·have hi':¬ i < ll.length:=by simpa using k0
  refine ex4 _ (fun j:Nat=>⟨[.sl tIs ll,.any,.any,.any,.any,.any,(match j with | 0=>.ownp 0 1 0 0 | _+1=>.own 0),.any,.any,.any,.any,.any,.any,.any,.any,.any,.any,.any,.any,.any,.any,.any,.any,.any,.any,.sl tIs ll,.int .i64 (↑ll.length:Int),.int .i64 (j:Int),.any,.any,.any,.any,.any,.any,.any,.any],[.rows tI (match j with | 0=>List.replicate (z - (0 - 0)).toNat 0 | m+1=>catL ll (m+1))],1⟩) (fun j=>j≤ll.length) (fun j=>ll.length - j) (aI (eI (0) (eI ([some 0]) (aI ?_ (aB (aI (aA tT) (by rfl)))))) ?_)
  ·exact Nat.zero_le _
  rintro j hj
  have hcj:=catL_len ll j
  have hcj2:=catL_len ll (j+1)
  cases j with
  | zero =>
   refine (aI (fun m0=>(aO (aI ?_ (aO ?_)))) (fun m0=>(Aa rfl ?_)))
   ·have hj':0 < ll.length:=by simpa using m0
    rw [catL_next hj',List.length_append] at hcj2
    show (0+(ll.getD 0 []).length) * 8≤lim
    unfold lim
    omega
   ·have hj':0 < ll.length:=by simpa using m0
    refine eI 1 (eI [some 1] (aI ?_ (aI ?_ (aB (aI (aI ?_ tT) (by rfl))))))
    ·exact hj'
    ·show ll.length - 1 < ll.length - 0
     omega
    ·show Ob.rows tI (ll.getD 0 [])=Ob.rows tI (catL ll 1)
     rw [catL_next hj']
     rfl
   ·exfalso
    have hj':¬ 0 < ll.length:=by simpa using m0
    have e:ll=[]:=List.length_eq_zero_iff.1 (by omega)
    have hz0:z=0:=by rw [hz,e];simp [catL]
    have hk:0 < z - (0 - 0):=by simpa using k4
    omega
  | succ j =>
   refine (aI (fun m0=>(aO (aI ?_ (aO ?_)))) (fun m0=>(Aa rfl ?_)))
   ·have hj':j+1 < ll.length:=Int.ofNat_lt.1 (of_decide_eq_true m0)
    rw [catL_next hj',List.length_append] at hcj2
    show ((catL ll (j+1)).length+(ll.getD (j+1) []).length) * 8≤lim
    unfold lim
    omega
   ·have hj':j+1 < ll.length:=Int.ofNat_lt.1 (of_decide_eq_true m0)
    refine eI (j+1+1) (eI [some 1] (aI ?_ (aI ?_ (aB (aI (aI ?_ tT) (by rfl))))))
    ·exact hj'
    ·show ll.length - (j+1+1) < ll.length - (j+1)
     omega
    ·show Ob.rows tI (catL ll (j+1)++ll.getD (j+1) [])=Ob.rows tI (catL ll (j+1+1))
     rw [catL_next hj']
   ·have hj':¬ j+1 < ll.length:=fun hh=>of_decide_eq_false m0 (Int.ofNat_lt.2 hh)
    exact congrArg (fun b=>(b,())) (catL_end hj').symm
 ·have hi':¬ i < ll.length:=by simpa using k0
  refine ex4 _ (fun j:Nat=>⟨[.sl tIs ll,.any,.any,.any,.any,.any,.own 0,.any,.any,.any,.any,.any,.any,.any,.any,.any,.any,.any,.any,.any,.any,.any,.any,.any,.any,.sl tIs ll,.int .i64 (↑ll.length:Int),.int .i64 (j:Int),.any,.any,.any,.any,.any,.any,.any,.any],[.rows tI (catL ll j)],1⟩) (fun j=>j≤ll.length) (fun j=>ll.length - j) (aI (eI (0) (eI ([none]) (aI ?_ (aB (aI (aA tT) (by rfl)))))) ?_)
  ·exact Nat.zero_le _
  rintro j hj
  have hcj:=catL_len ll j
  have hcj2:=catL_len ll (j+1)
  refine (aI (fun m0=>(aO (aI ?_ (aO ?_)))) (fun m0=>(Aa rfl ?_)))
  ·have hj':j < ll.length:=by simpa using m0
   rw [catL_next hj',List.length_append] at hcj2
   show ((catL ll j).length+(ll.getD j []).length) * 8≤lim
   unfold lim
   omega
  ·have hj':j < ll.length:=by simpa using m0
   refine eI (j+1) (eI ([some 1]) (aI ?_ (aI ?_ (aB (aI (aI ?_ tT) (by rfl))))))
   ·exact hj'
   ·show ll.length - (j+1) < ll.length - j
    omega
   ·show Ob.rows tI (catL ll j++ll.getD j [])=Ob.rows tI (catL ll (j+1))
    rw [catL_next hj']
  ·have hj':¬ j < ll.length:=by simpa using m0
   exact congrArg (fun b=>(b,())) (catL_end hj').symm
end Go.Proofs.YtckpldpombdkgaaGreat
