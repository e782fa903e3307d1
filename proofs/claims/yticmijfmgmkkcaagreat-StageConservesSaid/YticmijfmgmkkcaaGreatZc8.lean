/- Stages: sums, and parts of lists. -/
import Derived.Test.YticmijfmgmkkcaaGreatZc7
import Derived.Test.YticmijfmgmkkcaaGreatSxGive
set_option linter.unusedSimpArgs false
set_option linter.unusedVariables false
set_option maxRecDepth 100000
namespace Go.Proofs.YticmijfmgmkkcaaGreat
open Go.Sx

def c23 : Ctr := fnV [dIs] (fun _ => True) (fun y => .fn (.func 24) [] [.eptr [.sl tI y.1]])
theorem good23 : GoodC Tryz.prog 23 c23 := by
  refine goodV (callS_good cx0_good no_call) _ _ _ ⟨_, Tryz.func23, rfl, rfl⟩ fun (⟨xs, _⟩ : List Int × Unit) _ => ?_
  refine (aI (by first | kernel_rfl | rfl) ?_)
  exact ⟨0, .func 24, [.sl tI xs], [.sl tI xs], [], rfl, rfl, rfl, trivial, rfl, [], [], by rfl, rfl, trivial, by simp [Sx.distinct, Sx.keeps]⟩
def c27 : Ctr := fnC [dIs] rI (fun y => y.1.length ≤ 1000 ∧ ∀ x ∈ y.1, inM x) (fun y => (y.1.sum, ()))
theorem good27 : GoodC Tryz.prog 27 c27 := by
  refine goodF cx0_good 3 _ _ _ _ ⟨_, Tryz.func27, rfl, rfl⟩ fun (⟨xs, _⟩ : List Int × Unit) hn => ?_
  have hl : xs.length ≤ 1000 := hn.1
  have hm : ∀ x ∈ xs, inM x := hn.2
  clear hn
  refine (aI (by first | kernel_rfl | rfl) (fun h0 => ?_))
  refine ex4 _ (fun p : Nat × Int => ⟨[.sl (.int .i64) xs, .any, .any, .int .i64 p.2, .any, .any, .sl (.int .i64) xs, .int .i64 (↑xs.length : Int), .int .i64 (p.1 : Int), .any, .any, .any, .any, .any, .any, .any, .any], [], 0⟩) (fun p => p.1 ≤ xs.length ∧ p.2 = (xs.take p.1).sum) (fun p => xs.length - p.1) (aI (Exists.intro ((0, 0)) (Exists.intro ([]) (aI ?_ (aI (by rfl) (aI (by rfl) (aI True.intro (by rfl))))))) ?_)
  · exact ⟨Nat.zero_le _, rfl⟩
  rintro ⟨i, s⟩ ⟨hi, hs⟩
  replace hi : i ≤ xs.length := hi
  replace hs : s = (xs.take i).sum := hs
  have hr := sum_le (xs.take (i + 1)) 1001 (by rw [List.length_take]; omega) fun x hx => hm x (List.mem_of_mem_take hx)
  have nr : decide ((i : Int) < (xs.length : Int)) = true → -9223372036854775808 ≤ s + xs.getD i 0 ∧ s + xs.getD i 0 ≤ 9223372036854775807 := fun h => by
    have h' : i < xs.length := by simpa using h
    rw [sum_take xs i h', ← hs] at hr
    omega
  refine (aI (fun k0 => (aI (by (intros; (try subst_vars); (try simp only [nB] at *); (try simp only [inK, big, lim, nL] at *); omega)) (aI (nr k0) (aI (by (intros; (try subst_vars); (try simp only [nB] at *); (try simp only [inK, big, lim, nL] at *); omega)) ?_)))) (fun k0 => (fin_of rfl ?_)))
  · have hi' : i < xs.length := by simpa using k0
    refine Exists.intro ((i + 1, s + xs.getD i 0)) (Exists.intro ([]) (aI ?_ (aI ?_ (aI (by rfl) (aI (by rfl) (aI True.intro (by rfl)))))))
    · refine ⟨hi', ?_⟩
      show s + xs.getD i 0 = _
      rw [sum_take xs i hi', hs]
    · show xs.length - (i + 1) < xs.length - i
      omega
  · have hi' : ¬ i < xs.length := by simpa using k0
    show (xs.sum, ()) = (s, ())
    rw [hs, List.take_of_length_le (by omega)]
@[reducible] def dHas : AK := .fn 24 [] [.eptr tIs]
def c26 : Ctr := fnC [dIs, dIs, dHas] rB (fun y => y.2.1.length ≤ 1000) (fun y => (decide (y.1 = y.2.1.filter (fun n => y.2.2.1.2.1.any (isI n))), ()))
def cxC1 : Ctx := ⟨tys0, [(25, ([], c25)), (60, ([], c60)), (15, ([], c15))]⟩
theorem cxC1_good : GoodCtx Tryz.prog cxC1 := cx_cons good25 (cx_cons good60 (cx_cons good15 cx0_good))
theorem good26 : GoodC Tryz.prog 26 c26 := by
  refine goodF cxC1_good 7 _ _ _ _ ⟨_, Tryz.func26, rfl, rfl⟩ fun (⟨l, xs, ⟨_, h, _⟩, _⟩ : List Int × List Int × (Unit × List Int × Unit) × Unit) hn => ?_
  have hl : xs.length ≤ 1000 := hn
  clear hn
  refine (aI (by first | kernel_rfl | rfl) (aI (by omega) (aI (by first | kernel_rfl | rfl) (aI (by first | kernel_rfl | rfl) (fun h0 => ?_)))))
  refine ex4 _ (fun i : Nat => ⟨[.own 1, .fn (Fn.func 61) [] [.ptr 0 0], .any, .any, .any, .any, .own 1, .int .i64 (↑xs.length : Int), .int .i64 (i : Int), .any, .any, .any, .any, .any, .any, .any, .any, .any, .any], [.cells [.fn (Fn.func 24) [] [.eptr [PV.sl (.int .i64) h]]], .rows tI xs], 2⟩) (fun i => i ≤ xs.length ∧ (xs.take i).filter (fun n => h.any (isI n)) = xs.take i) (fun i => xs.length - i) (aI (Exists.intro (0) (Exists.intro ([some 0, some 1]) (aI ?_ (aI (by rfl) (aI (by rfl) (aI (aI (aI (by rfl) (by rfl)) (aI (by rfl) True.intro)) (by rfl))))))) ?_)
  · exact ⟨Nat.zero_le _, rfl⟩
  rintro i ⟨hi, hp⟩
  refine (aI (fun k0 => (aI (by intros; (try subst_vars); (try simp only [nB] at *); (try simp only [inK, big, lim, nL] at *); omega) (aI (by first | kernel_rfl | rfl) (aI (by first | kernel_rfl | rfl) (aI True.intro (aI (fun k1 => (aI (fun k2 => False.elim (Bool.false_ne_true (Eq.trans (by kernel_rfl) k2))) (fun k2 => (aI (by intros; (try subst_vars); (try simp only [nB] at *); (try simp only [inK, big, lim, nL] at *); omega) ?_)))) (fun k1 => (aI (by intros; (try subst_vars); (try simp only [nB] at *); (try simp only [inK, big, lim, nL] at *); omega) ?_)))))))) (fun k0 => (aI (fun k3 => (aI True.intro (fin_of rfl ?_))) (fun k3 => False.elim (Bool.false_ne_true (Eq.symm (Eq.trans (by kernel_rfl) k3)))))))
  · have hi' : i < xs.length := by simpa using k0
    have hk : h.any (isI (xs.getD i 0)) = false := by
      have h1 : (!h.any (isI (xs.getD i 0))) = true := k1
      simpa using h1
    refine ex4 _ (fun p : Nat × Nat × List Int => ⟨[.own 1, .fn (Fn.func 61) [] [.ptr 0 0], .any, .any, .any, .int .i64 (p.2.1 : Int), .int .i64 (p.1 : Int), .any, .own 1, .fn (Fn.func 61) [] [.ptr 0 0], (noW (.int .i64 (↑i : Int))), .int .i64 (↑i : Int), .bool (decide ((↑i : Int) = -1)), .any, .int .i64 (↑i : Int), .int .i64 ((↑i : Int) + 1), .any, .any, .any, .any, .any, .any, .any, .any, .any, .any, .any, .any, .any, .any, .any, .any, .any, .any, .any, .any, .any, .any, .any, .any, .any, .any], [.cells [.fn (Fn.func 24) [] [.eptr [PV.sl (.int .i64) h]]], .rows tI p.2.2], 2⟩) (fun p => p.1 ≤ xs.length ∧ (p.2.1 < p.1 ∧ p.2.2.length = xs.length) ∧ p.2.2.take p.2.1 = (xs.take p.1).filter (fun n => h.any (isI n)) ∧ p.2.2.drop p.1 = xs.drop p.1) (fun p => xs.length - p.1) (aI (Exists.intro ((i + 1, i, xs)) (Exists.intro ([some 0, some 1]) (aI ?_ (aI (by rfl) (aI (by rfl) (aI (aI (aI (by rfl) (by rfl)) (aI (by rfl) True.intro)) (by rfl))))))) ?_)
    · refine ⟨hi', ⟨Nat.lt_succ_self i, rfl⟩, ?_, rfl⟩
      show xs.take i = (xs.take (i + 1)).filter _
      rw [take_getD (d := 0) hi', List.filter_append, hp]
      simp only [List.filter_cons, hk, List.filter_nil, if_neg Bool.false_ne_true, List.append_nil]
    rintro ⟨j, m, zs⟩ ⟨hj, ⟨hm, hz⟩, ht, hd⟩
    replace hj : j ≤ xs.length := hj
    replace hm : m < j := hm
    replace hz : zs.length = xs.length := hz
    replace ht : zs.take m = (xs.take j).filter (fun n => h.any (isI n)) := ht
    replace hd : zs.drop j = xs.drop j := hd
    have hg : j < xs.length → zs.getD j 0 = xs.getD j 0 := fun h => drop_getD hd (by omega)
    refine (fun w0 => (aI (fun w1 => (aI (by intros; (try subst_vars); (try simp only [nB] at *); (try simp only [inK, big, lim, nL] at *); omega) (aI (by first | kernel_rfl | rfl) (aI (by first | kernel_rfl | rfl) (aI True.intro (aI (fun w2 => (aI (by intros; (try subst_vars); (try simp only [nB] at *); (try simp only [inK, big, lim, nL] at *); omega) (aI (by intros; (try subst_vars); (try simp only [nB] at *); (try simp only [inK, big, lim, nL] at *); omega) (aI (by intros; (try subst_vars); (try simp only [nB] at *); (try simp only [inK, big, lim, nL] at *); omega) ?_)))) (fun w2 => (aI (by intros; (try subst_vars); (try simp only [nB] at *); (try simp only [inK, big, lim, nL] at *); omega) ?_)))))))) (fun w1 => (aI (by intros; (try subst_vars); (try simp only [nB] at *); (try simp only [inK, big, lim, nL] at *); omega) (aI (by intros; (try subst_vars); (try simp only [nB] at *); (try simp only [inK, big, lim, nL] at *); omega) (aI True.intro (fin_of rfl ?_)))))))
    · have hj' : j < xs.length := by have h1 : (j : Int) < (zs.length : Int) := of_decide_eq_true w1; omega
      have hk : h.any (isI (xs.getD j 0)) = true := by
        have h1 : (!!h.any (isI (zs.getD j 0))) = true := w2
        rw [hg hj'] at h1
        simpa using h1
      refine Exists.intro ((j + 1, m + 1, zs.set m (zs.getD j 0))) (Exists.intro ([some 0, some 1]) (aI ?_ (aI ?_ (aI (by rfl) (aI (by rfl) (aI (aI (aI (by rfl) (by rfl)) (aI (by rfl) True.intro)) (by rfl)))))))
      · refine ⟨hj', ⟨by show m + 1 < j + 1; omega, by show (zs.set m _).length = _; rw [List.length_set]; exact hz⟩, ?_, ?_⟩
        · show (zs.set m _).take (m + 1) = (xs.take (j + 1)).filter _
          rw [set_take (by omega), ht, hg hj', take_getD (d := 0) hj', List.filter_append]
          simp only [List.filter_cons, hk, if_pos, List.filter_nil]
        · show (zs.set m _).drop (j + 1) = _
          rw [List.drop_set_of_lt (by omega)]
          exact drop_next hd
      · show xs.length - (j + 1) < xs.length - j
        omega
    · have hj' : j < xs.length := by have h1 : (j : Int) < (zs.length : Int) := of_decide_eq_true w1; omega
      have hk : h.any (isI (xs.getD j 0)) = false := by
        have h1 : (!!h.any (isI (zs.getD j 0))) = false := w2
        rw [hg hj'] at h1
        simpa using h1
      refine Exists.intro ((j + 1, m, zs)) (Exists.intro ([some 0, some 1]) (aI ?_ (aI ?_ (aI (by rfl) (aI (by rfl) (aI (aI (aI (by rfl) (by rfl)) (aI (by rfl) True.intro)) (by rfl)))))))
      · refine ⟨hj', ⟨by show m < j + 1; omega, hz⟩, ?_, drop_next hd⟩
        show zs.take m = (xs.take (j + 1)).filter _
        rw [ht, take_getD (d := 0) hj', List.filter_append]
        simp only [List.filter_cons, hk, if_neg Bool.false_ne_true, List.filter_nil, List.append_nil]
      · show xs.length - (j + 1) < xs.length - j
        omega
    · have hj' : j = xs.length := by have h1 : ¬ (j : Int) < (zs.length : Int) := of_decide_eq_false w1; omega
      have hm2 : m ≤ zs.length := by omega
      rw [hj', List.take_length] at ht
      show (decide (l = xs.filter _), ()) = (decide (l = List.take m (List.drop 0 (List.take m zs ++ _))), ())
      rw [List.drop_zero, List.take_append_of_le_length (by rw [List.length_take]; omega), List.take_take, Nat.min_self, ht]
  · have hi' : i < xs.length := by simpa using k0
    have hk : h.any (isI (xs.getD i 0)) = true := by
      have h1 : (!h.any (isI (xs.getD i 0))) = false := k1
      simpa using h1
    refine Exists.intro (i + 1) (Exists.intro ([some 0, some 1]) (aI ?_ (aI ?_ (aI (by rfl) (aI (by rfl) (aI (aI (aI (by rfl) (by rfl)) (aI (by rfl) True.intro)) (by rfl)))))))
    · refine ⟨hi', ?_⟩
      rw [take_getD (d := 0) hi', List.filter_append, hp]
      simp only [List.filter_cons, hk, if_pos, List.filter_nil]
    · show xs.length - (i + 1) < xs.length - i
      omega
  · have hi' : ¬ i < xs.length := by simpa using k0
    rw [List.take_of_length_le (by omega)] at hp
    show (decide (l = xs.filter _), ()) = (decide (l = xs), ())
    rw [hp]
end Go.Proofs.YticmijfmgmkkcaaGreat
