import Derived.Test.YticmijfmgmkkcaaGreatVZa6
set_option linter.unusedSimpArgs false
set_option linter.unusedVariables false
set_option maxRecDepth 100000
namespace Go.Proofs.YticmijfmgmkkcaaGreat
open Go.Sx
theorem take_ext_next {α:Type} {xs ys:List α} {i:Nat} {d:α} (h1:i < xs.length) (h2:i < ys.length) (h:xs.take i=ys.take i) (hd:xs.getD i d=ys.getD i d):xs.take (i+1)=ys.take (i+1):=take_ext_succ h1 h2 h hd
def c47:Ctr:=fnC [dIs,dIs] rB (fun _=>True) (fun y=>(decide (y.1=y.2.1),()))
theorem good47:GoodC Tryz.prog 47 c47:=by
 refine goodF cx0_good 3 _ _ _ _ ⟨_,Tryz.func47,rfl,rfl⟩ fun (⟨xs,ys,_⟩ : List Int × List Int × Unit) _=>?_
 refine (aI (by first | kernel_rfl | rfl) (fun h0=>(fun h1=>(aI (fun h2=>(fin_of rfl ?_)) (fun h2=>?_)))))
 ·have hl:xs≠ys:=fun e=>by
   have h:(!decide ((xs.length:Int)=(ys.length:Int)))=true:=h2
   rw [e] at h;simp at h
  show (decide (xs=ys),())=(false,())
  rw [decide_eq_false hl]
 have hl:xs.length=ys.length:=by
  have h:(!decide ((xs.length:Int)=(ys.length:Int)))=false:=h2
  have:(xs.length:Int)=ys.length:=by simpa using h
  omega
 refine ex4 _ (fun i:Nat=>⟨[.sl (.int .i64) xs,.sl (.int .i64) ys,.any,.any,.any,.int .i64 (i:Int)]++nA 20,[],0⟩) (fun i=>i≤xs.length∧xs.take i=ys.take i) (fun i=>xs.length - i) (aI (Exists.intro (0) (Exists.intro ([]) (aI ?_ (aI (by rfl) (aI (by rfl) (aI True.intro (by rfl))))))) ?_)
 ·simp
 rintro i ⟨hi,ht⟩
 refine (fun k0=>(aI (fun k1=>(aI (by first | kernel_rfl | rfl) (aI (by intros;(try subst_vars);(try simp only [nB] at *);(try simp only [inK,big,lim,nL] at *);omega) (aI (by intros;(try subst_vars);(try simp only [nB] at *);(try simp only [inK,big,lim,nL] at *);omega) (aI (fun k2=>(fin_of rfl ?_)) (fun k2=>(aI (by intros;(try subst_vars);(try simp only [nB] at *);(try simp only [inK,big,lim,nL] at *);omega) ?_))))))) (fun k1=>(fin_of rfl ?_))))
 ·have hi':i < xs.length:=by simpa using k1
  have hk:¬ xs.getD i (dflt tI)=ys.getD i (dflt tI):=by have h:=k2;simpa using h
  have hne:xs≠ys:=fun e=>hk (by rw [e])
  show (decide (xs=ys),())=(false,())
  rw [decide_eq_false hne]
 ·have hi':i < xs.length:=by simpa using k1
  have hk:xs.getD i (dflt tI)=ys.getD i (dflt tI):=by have h:=k2;simpa using h
  refine Exists.intro (i+1) (Exists.intro ([]) (aI ?_ (aI ?_ (aI (by rfl) (aI (by rfl) (aI True.intro (by rfl)))))))
  ·exact ⟨hi',take_ext_succ hi' (hl ▸ hi') ht hk⟩
  ·show xs.length - (i+1) < xs.length - i
   omega
 ·have hi':¬ i < xs.length:=by simpa using k1
  have he:xs=ys:=by
   rw [List.take_of_length_le (by omega),List.take_of_length_le (by omega)] at ht
   exact ht
  show (decide (xs=ys),())=(true,())
  rw [decide_eq_true he]
def cxO1:Ctx:=⟨tys0,[(47,([],c47))]⟩
theorem cxO1_good:GoodCtx Tryz.prog cxO1:=cx_cons good47 cx0_good
def c14:Ctr:=fnC [dIss,dIss] rB (fun _=>True) (fun y=>(decide (y.1=y.2.1),()))
theorem good14:GoodC Tryz.prog 14 c14:=by
 refine goodF cxO1_good 3 _ _ _ _ ⟨_,Tryz.func14,rfl,rfl⟩ fun (⟨xs,ys,_⟩ : List (List Int) × List (List Int) × Unit) _=>?_
 refine (aI (by first | kernel_rfl | rfl) (fun h0=>(fun h1=>(aI (fun h2=>(fin_of rfl ?_)) (fun h2=>?_)))))
 ·have hl:xs≠ys:=fun e=>by
   have h:(!decide ((xs.length:Int)=(ys.length:Int)))=true:=h2
   rw [e] at h;simp at h
  show (decide (xs=ys),())=(false,())
  rw [decide_eq_false hl]
 have hl:xs.length=ys.length:=by
  have h:(!decide ((xs.length:Int)=(ys.length:Int)))=false:=h2
  have:(xs.length:Int)=ys.length:=by simpa using h
  omega
 refine ex4 _ (fun i:Nat=>⟨[.sl (.sl (.int .i64)) xs,.sl (.sl (.int .i64)) ys,.any,.any,.any,.int .i64 (i:Int)]++nA 21,[],0⟩) (fun i=>i≤xs.length∧xs.take i=ys.take i) (fun i=>xs.length - i) (aI (Exists.intro (0) (Exists.intro ([]) (aI ?_ (aI (by rfl) (aI (by rfl) (aI True.intro (by rfl))))))) ?_)
 ·simp
 rintro i ⟨hi,ht⟩
 refine (fun k0=>(aI (fun k1=>(aI (by first | kernel_rfl | rfl) (aI (by intros;(try subst_vars);(try simp only [nB] at *);(try simp only [inK,big,lim,nL] at *);omega) (aI (by intros;(try subst_vars);(try simp only [nB] at *);(try simp only [inK,big,lim,nL] at *);omega) (aI True.intro (aI (fun k2=>(fin_of rfl ?_)) (fun k2=>(aI (by intros;(try subst_vars);(try simp only [nB] at *);(try simp only [inK,big,lim,nL] at *);omega) ?_)))))))) (fun k1=>(fin_of rfl ?_))))
 ·have hi':i < xs.length:=by simpa using k1
  have hk:¬ xs.getD i (dflt tIs)=ys.getD i (dflt tIs):=by
   have h:(!decide (xs.getD i (dflt tIs)=ys.getD i (dflt tIs)))=true:=k2
   simpa using h
  have hne:xs≠ys:=fun e=>hk (by rw [e])
  show (decide (xs=ys),())=(false,())
  rw [decide_eq_false hne]
 ·have hi':i < xs.length:=by simpa using k1
  have hk:xs.getD i (dflt tIs)=ys.getD i (dflt tIs):=by
   have h:(!decide (xs.getD i (dflt tIs)=ys.getD i (dflt tIs)))=false:=k2
   simpa using h
  refine Exists.intro (i+1) (Exists.intro ([]) (aI ?_ (aI ?_ (aI (by rfl) (aI (by rfl) (aI True.intro (by rfl)))))))
  ·exact ⟨hi',take_ext_succ hi' (hl ▸ hi') ht hk⟩
  ·show xs.length - (i+1) < xs.length - i
   omega
 ·have hi':¬ i < xs.length:=by simpa using k1
  have he:xs=ys:=by
   rw [List.take_of_length_le (by omega),List.take_of_length_le (by omega)] at ht
   exact ht
  show (decide (xs=ys),())=(true,())
  rw [decide_eq_true he]
def zeroE:ExprT:=.mk 0 0 ⟨#[]⟩ 0 []
def prodE:ExprT:=.mk 4 5 ⟨#[]⟩ 0 [.mk 2 0 ⟨#[120]⟩ 0 [],.mk 2 0 ⟨#[121]⟩ 0 []]
theorem ex4m:meanF (4,2,zeroE,[]) [[1,2,3]]=([[3,3]],0):=by kernel_rfl
theorem ex8m:meanF (8,0,zeroE,[]) [[1,2,3],[4]]=([[1,4,2,3]],0):=by kernel_rfl
theorem exNm:exNames prodE=nmXY:=by
 have h1:exChk prodE=0:=by kernel_rfl
 have h2:namT prodE=nmXY:=by kernel_rfl
 have h3:sortB nmXY=nmXY:=by
  unfold sortB
  rw [List.mergeSort_of_pairwise]
  ·rfl
  ·decide
 rw [exNames,if_pos h1,h2,h3]
 show uniqB nmXY=nmXY
 decide
theorem ex9c:stChk (9,0,prodE,[])=0:=by
 have h1:chkH (knownF 9) (9,0,prodE,[])=chkX nmXY 1 prodE:=by kernel_rfl
 rw [stChk_in (by decide) (by decide)]
 show chkH (knownF 9) (9,0,prodE,[])=0
 rw [h1,chkX,exNm]
 kernel_rfl
theorem ex9m:meanF (9,0,prodE,[]) [[1,2,3],[4,5]]=([[4,10]],0):=by
 have h:runF (9,0,prodE,[]) [[1,2,3],[4,5]]=([[4,10]],0):=by kernel_rfl
 rw [MN5 (by rw [ex9c];rfl) (by rfl) (by rfl) (by rw [h];rfl) (by rw [h];rfl),h]
def awTab:List (AK.dens [dSt,dIss] × Rens rIssI):=[(((4,2,zeroE,[]),[[1,2,3]],()),([[3,3]],0,())),(((8,0,zeroE,[]),[[1,2,3],[4]],()),([[1,4,2,3]],0,())),(((9,0,prodE,[]),[[1,2,3],[4,5]],()),([[4,10]],0,()))]
def c13k:Ctr:=pickC [dSt,dIss] rIssI (fun y=>y.1.1.toNat - 7) awTab
theorem good13k:GoodC Tryz.prog 13 c13k:=by
 refine good_pick good13 _ awTab fun p hp=>?_
 simp only [awTab,List.mem_cons,List.not_mem_nil,or_false] at hp
 rcases hp with rfl | rfl | rfl
 ·exact ⟨trivial,by rw [ex4m]⟩
 ·exact ⟨trivial,by rw [ex8m]⟩
 ·exact ⟨trivial,by rw [ex9m]⟩
def tysO:List (TypeId × Ty):=(28,tIss) :: tys0
def cxO3:Ctx:=⟨tysO,[(13,([],c13k)),(14,([],c14))]⟩
theorem cxO3_good:GoodCtx Tryz.prog cxO3:=cx_ty (cx_cons good13k (cx_cons good14 cx0_good))
def c12:Ctr:=fnC [] rB (fun _=>True) (fun _=>(true,()))
theorem good12:GoodC Tryz.prog 12 c12:=by
 refine goodF cxO3_good 4 _ _ _ _ ⟨_,Tryz.func12,rfl,rfl⟩ fun y _=>?_
 refine (aI (by first | kernel_rfl | rfl) (aI (by rfl) (aI (by rfl) (aI (by first | kernel_rfl | rfl) (aI (by rfl) (aI (fun h0=>True.intro) (aI (fun h1=>True.intro) (aI (fun h2=>True.intro) (fin_of rfl (by rfl))))))))))
end Go.Proofs.YticmijfmgmkkcaaGreat
