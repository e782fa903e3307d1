/- Partial orders: Extensions, as a contract. -/
import Derived.Test.YtlaefkhbpnbahaaPoF
import Derived.Test.YtlaefkhbpnbahaaSxFrame
set_option linter.unusedSimpArgs false
set_option linter.unusedVariables false
set_option maxRecDepth 100000
namespace Go.Proofs.Ytlaefkhbpnbahaa
open Go.Sx

def rIs : List (Bool × Ty) := [(false, tIs)]
def c41 : Ctr := fnO [dIs] tI (fun y => y.1.length ≤ 200) (fun y => y.1)
theorem good41 : GoodC Try.prog 41 c41 := by
  refine Go.Sx.goodO cx0_good 4 _ _ _ _ ⟨_, Try.func41, rfl, rfl⟩ fun (⟨xs, _⟩ : List Int × Unit) hn => ?_
  have hn' : xs.length ≤ 200 := hn
  clear hn
  have room : xs.length * 8 ≤ lim := by simp only [lim]; omega
  refine (And.intro (by first | kernel_rfl | rfl) (fun h0 => (fun h1 => (And.intro (fun h2 => (fin_cap0 (by simp_all))) (fun h2 => (And.intro (by first | exact room | (intros; (try subst_vars); (try simp only [Bool.cond_true_left, Bool.cond_false_right, Bool.or_eq_true, Bool.or_eq_false_iff, Bool.and_eq_true, Bool.not_eq_true', Bool.not_eq_false', decide_eq_true_eq, decide_eq_false_iff_not, Int.not_lt, Int.not_le] at *); (try simp only [inK, big, lim, List.length_cons, List.length_nil, List.length_append, List.length_drop, List.length_take, List.length_replicate] at *); omega)) (fin_own rfl (by simp_all))))))))
def tysX : List (TypeId × Ty) := (2000000 + 3, tI) :: tys0
def cxX : Ctx := ⟨tysX, [(41, ([], c41))]⟩
theorem cxX_good : GoodCtx Try.prog cxX := cx_ty (cx_cons good41 cx0_good)
/-- The state of memory that the search works in. -/
def exT (n : Nat) (m : Mx) (most : Int) (out : List (List Int)) (used : List Bool) (buf : List Int) : List Ob :=
  [.cells [.int .i64 (n : Int)], .cells [.own 6], .cells [.int .i64 most], .cells [.int .i64 (n : Int), .sl tBs m], .cells [.own 7], .cells [.fn (.func 40) [] [.ptr 0 0, .ptr 1 0, .ptr 2 0, .ptr 3 0, .ptr 4 0, .ptr 5 0]],
    .rows tIs out, .rows .bool used, .rows tI buf]
def exT1 (n : Nat) (m : Mx) (most : Int) (out : List (List Int)) (used : List Bool) (buf : List Int) : List Ob :=
  [.cells [.int .i64 (n : Int)], .cells [.own 9], .cells [.int .i64 most], .cells [.int .i64 (n : Int), .sl tBs m], .cells [.own 7], .cells [.fn (.func 40) [] [.ptr 0 0, .ptr 1 0, .ptr 2 0, .ptr 3 0, .ptr 4 0, .ptr 5 0]],
    .dead, .rows .bool used, .rows tI buf, .rows tIs out]
/-- The search, as the program makes it: what is found so far, and the row that the order is written into. -/
def extD (n : Nat) (f : Nat → Nat → Bool) (most : Int) : Nat → List Bool → Nat → List (List Int) × List Int → List (List Int) × List Int
  | 0, _, len, s => if (len : Int) = n ∧ (s.1.length : Int) < most then (s.1 ++ [s.2.take len], s.2) else s
  | d + 1, used, len, s => if (len : Int) = n ∧ (s.1.length : Int) < most then (s.1 ++ [s.2.take len], s.2) else
    (List.range n).foldl (fun s x => if freeB n f used x = true ∧ (s.1.length : Int) < most then extD n f most d (used.set x true) (len + 1) (s.1, s.2.set len (x : Int)) else s) s
def extStep (n : Nat) (f : Nat → Nat → Bool) (most : Int) (d : Nat) (used : List Bool) (len : Nat) (s : List (List Int) × List Int) (x : Nat) : List (List Int) × List Int :=
  match d with
  | 0 => s
  | d + 1 => if freeB n f used x = true ∧ (s.1.length : Int) < most then extD n f most d (used.set x true) (len + 1) (s.1, s.2.set len (x : Int)) else s
theorem extD_eq (n : Nat) (f : Nat → Nat → Bool) (most : Int) (d : Nat) (used : List Bool) (len : Nat) (s : List (List Int) × List Int) :
    extD n f most d used len s = if (len : Int) = n ∧ (s.1.length : Int) < most then (s.1 ++ [s.2.take len], s.2) else (List.range n).foldl (extStep n f most d used len) s := by
  cases d with
  | zero =>
    have e : ∀ l : List Nat, l.foldl (extStep n f most 0 used len) s = s := fun l => by
      induction l with
      | nil => rfl
      | cons x l ih => exact ih
    rw [e]; rfl
  | succ d => rfl
theorem ext_blen (n : Nat) (f : Nat → Nat → Bool) (most : Int) : ∀ (d : Nat) (used : List Bool) (len : Nat) (s : List (List Int) × List Int), (extD n f most d used len s).2.length = s.2.length
  | 0, used, len, s => by
    rw [extD]
    split <;> rfl
  | d + 1, used, len, s => by
    rw [extD]
    split
    · rfl
    · rename_i hneg
      clear hneg
      generalize List.range n = l
      induction l generalizing s with
      | nil => rfl
      | cons x l ih =>
        rw [List.foldl_cons, ih]
        split
        · rw [ext_blen n f most d]; simp
        · rfl
theorem step_blen (n : Nat) (f : Nat → Nat → Bool) (most : Int) (d : Nat) (used : List Bool) (len : Nat) (l : List Nat) : ∀ (s : List (List Int) × List Int), (l.foldl (extStep n f most d used len) s).2.length = s.2.length := by
  induction l with
  | nil => exact fun _ => rfl
  | cons x l ih =>
    intro s
    rw [List.foldl_cons, ih]
    cases d with
    | zero => rfl
    | succ d =>
      simp only [extStep]
      split
      · rw [ext_blen]; simp
      · rfl
theorem step_stay (n : Nat) (f : Nat → Nat → Bool) {most : Int} (d : Nat) (used : List Bool) (len : Nat) (l : List Nat) {s : List (List Int) × List Int} (h : most ≤ (s.1.length : Int)) : l.foldl (extStep n f most d used len) s = s := by
  induction l with
  | nil => rfl
  | cons x l ih =>
    have e : extStep n f most d used len s x = s := by
      cases d with
      | zero => rfl
      | succ d => simp only [extStep]; rw [if_neg (by omega)]
    rw [List.foldl_cons, e, ih]
theorem fold_next {β : Type} (g : β → Nat → β) (s : β) (x : Nat) : (List.range (x + 1)).foldl g s = g ((List.range x).foldl g s) x := by
  rw [List.range_succ, List.foldl_append]; rfl
theorem free_used {n : Nat} {f : Nat → Nat → Bool} {used : List Bool} {x : Nat} (h : freeB n f used x = true) (hx : x < used.length) : used.getD x false = false ∧ 0 < used.count false ∧ (used.set x true).count false + 1 = used.count false := by
  have h1 : used.getD x false = false := by
    unfold freeB at h
    revert h
    cases used.getD x false <;> simp
  have h2 : used[x] = false := by rw [← h1, List.getD_eq_getElem?_getD, List.getElem?_eq_getElem hx]; rfl
  have h3 : 0 < used.count false := List.count_pos_iff.2 (h2 ▸ List.getElem_mem hx)
  refine ⟨h1, h3, ?_⟩
  rw [List.count_set hx, h2]
  simp
  omega
theorem fold_stay {n x : Nat} {f : Nat → Nat → Bool} {most : Int} {d : Nat} {used : List Bool} {len : Nat} {s0 s : List (List Int) × List Int} (hx : x ≤ n) (hs : (List.range x).foldl (extStep n f most d used len) s0 = s) (h : most ≤ (s.1.length : Int)) :
    (List.range n).foldl (extStep n f most d used len) s0 = s := by
  obtain ⟨k, rfl⟩ : ∃ k, n = x + k := ⟨n - x, by omega⟩
  rw [List.range_add, List.foldl_append, hs, step_stay _ _ _ _ _ _ h]
theorem buf_set {bf : List Int} {len : Nat} (x : Int) (h : len < bf.length) : List.take (0 + len) bf ++ ([x] ++ List.drop (0 + len + [x].length) bf) = bf.set len x := by
  rw [Nat.zero_add, List.set_eq_take_append_cons_drop, if_pos h]
  simp
theorem step_hit {n : Nat} {f : Nat → Nat → Bool} {most : Int} {d : Nat} {used : List Bool} {len x : Nat} {s : List (List Int)} {bf : List Int} (hd : 0 < d) (hf : freeB n f used x = true) (hm : (s.length : Int) < most) :
    extStep n f most d used len (s, bf) x = extD n f most (d - 1) (used.set x true) (len + 1) (s, bf.set len (x : Int)) := by
  cases d with
  | zero => exact absurd hd (Nat.lt_irrefl _)
  | succ d => simp only [extStep]; rw [if_pos ⟨hf, hm⟩]; rfl
theorem step_miss {n : Nat} {f : Nat → Nat → Bool} {most : Int} {d : Nat} {used : List Bool} {len x : Nat} {s : List (List Int) × List Int} (hf : freeB n f used x = false) : extStep n f most d used len s x = s := by
  cases d with
  | zero => rfl
  | succ d => simp only [extStep]; rw [if_neg (by simp [hf])]
theorem set_back {used : List Bool} {x : Nat} (h : used.getD x false = false) (hx : x < used.length) : (used.set x true).set x false = used := by
  rw [List.set_set]
  have h2 : used[x] = false := by rw [← h, List.getD_eq_getElem?_getD, List.getElem?_eq_getElem hx]; rfl
  rw [← h2]
  exact List.set_getElem_self hx
/-- What a call with k unused elements does. -/
def RelX (k : Nat) : FuncId → List AV → List Ob → AV → List Ob → Prop := fun g args T x1 T1 =>
  ∃ (n : Nat) (f : Nat → Nat → Bool) (most : Int) (out : List (List Int)) (used : List Bool) (buf : List Int) (len : Nat), n ≤ 200 ∧ most ≤ 5000 ∧ used.length = n ∧ buf.length = n ∧ len + used.count false = n ∧ used.count false = k ∧
    g = 40 ∧ args = [.ownc 8 1 0 len, .ptr 0 0, .ptr 1 0, .ptr 2 0, .ptr 3 0, .ptr 4 0, .ptr 5 0] ∧ T = exT n (tab n f) most out used buf ∧ x1 = .tup [] ∧
    T1 = exT1 n (tab n f) most (extD n f most k used len (out, buf)).1 used (extD n f most k used len (out, buf)).2
set_option maxHeartbeats 4000000 in
theorem walk40 (base : CallSem) (n : Nat) (f : Nat → Nat → Bool) (most : Int) (out : List (List Int)) (used : List Bool) (buf : List Int) (len d : Nat) (hn : n ≤ 200) (hm : most ≤ 5000) (hu : used.length = n) (hb : buf.length = n) (hl : len + used.count false = n) (hd : used.count false = d)
    (hbase : ∀ k args H m K, k + 1 = d → frameS (RelX k) 40 args H m K → base 40 args H m K) :
    callS cxX Try.prog (callS cxX Try.prog (callS cxX Try.prog base)) 40 [.ownc 8 1 0 len, .ptr 0 0, .ptr 1 0, .ptr 2 0, .ptr 3 0, .ptr 4 0, .ptr 5 0]
      [.cells [.int .i64 (n : Int)], .cells [.own 6], .cells [.int .i64 most], .cells [.int .i64 (n : Int), .sl tBs (tab n f)], .cells [.own 7], .cells [.fn (.func 40) [] [.ptr 0 0, .ptr 1 0, .ptr 2 0, .ptr 3 0, .ptr 4 0, .ptr 5 0]],
        .rows tIs out, .rows .bool used, .rows tI buf] 9
      (fun x T' n' => ∃ σ, weak 9 σ [noW x] T' n' ⟨[.tup []], exT1 n (tab n f) most (extD n f most d used len (out, buf)).1 used (extD n f most d used len (out, buf)).2, 10⟩) := by
  have room : (bif decide ((len : Int) = n) then decide ((out.length : Int) < most) else false) = true → (out.length + 1) * 24 ≤ lim := fun h => by
    have : (out.length : Int) < most := by
      revert h
      cases decide ((len : Int) = n) <;> simp
    simp only [lim]
    omega
  have ful : (bif decide ((len : Int) = n) then decide ((out.length : Int) < most) else false) = false → extD n f most d used len (out, buf) = (List.range n).foldl (extStep n f most d used len) (out, buf) := fun h => by
    rw [extD_eq, if_neg]
    rintro ⟨h1, h2⟩
    have h2' : (out.length : Int) < most := h2
    rw [decide_eq_true h1, decide_eq_true h2'] at h
    cases h
  refine (And.intro (by first | kernel_rfl | rfl) (fun h0 => (And.intro (fun h1 => (And.intro (by first | kernel_rfl | rfl) (And.intro (by first | exact room h1 | (intros; (try subst_vars); (try simp only [Bool.cond_true_left, Bool.cond_false_right, Bool.or_eq_true, Bool.or_eq_false_iff, Bool.and_eq_true, Bool.not_eq_true', Bool.not_eq_false', decide_eq_true_eq, decide_eq_false_iff_not, Int.not_lt, Int.not_le] at *); (try simp only [inK, big, lim, List.length_cons, List.length_nil, List.length_append, List.length_drop, List.length_take, List.length_replicate] at *); omega)) (And.intro (by first | exact room h1 | (intros; (try subst_vars); (try simp only [Bool.cond_true_left, Bool.cond_false_right, Bool.or_eq_true, Bool.or_eq_false_iff, Bool.and_eq_true, Bool.not_eq_true', Bool.not_eq_false', decide_eq_true_eq, decide_eq_false_iff_not, Int.not_lt, Int.not_le] at *); (try simp only [inK, big, lim, List.length_cons, List.length_nil, List.length_append, List.length_drop, List.length_take, List.length_replicate] at *); omega)) ?_)))) (fun h1 => (And.intro (by first | kernel_rfl | rfl) (And.intro (by first | kernel_rfl | rfl) (And.intro (by first | kernel_rfl | rfl) ?_)))))))
  · have e : extD n f most d used len (out, buf) = (out ++ [buf.take len], buf) := by
      have h1' : (bif decide ((len : Int) = n) then decide ((out.length : Int) < most) else false) = true := h1
      rw [extD_eq, if_pos]
      revert h1'
      by_cases c1 : (len : Int) = n <;> by_cases c2 : (out.length : Int) < most <;> simp [c1, c2]
    rw [e]
    refine ⟨[some 0, some 1, some 2, some 3, some 4, some 5, none, some 7, some 8, some 12], by rfl, by rfl, ⟨⟨by rfl, by rfl⟩, ⟨by rfl, by rfl⟩, ⟨by rfl, by rfl⟩, ⟨by rfl, by rfl⟩, ⟨by rfl, by rfl⟩, ⟨by rfl, by rfl⟩, by rfl, by rfl, by rfl, trivial⟩, by rfl⟩
  have eg := ful h1
  rw [eg]
  have lt : ∀ a : Nat, decide ((a : Int) < (n : Int)) = true → a < n := fun a h => by have := of_decide_eq_true h; omega
  have ge : ∀ a : Nat, decide ((a : Int) < (n : Int)) = false → n ≤ a := fun a h => by have := of_decide_eq_false h; omega
  have f1 : ∀ a : Nat, a < n → 0 ≤ (a : Int) ∧ (a : Int) < ((tab n f).length : Int) := fun a h => by rw [tab_len]; omega
  have f2 : ∀ a b : Nat, a < n → b < n → 0 ≤ (b : Int) ∧ (b : Int) < (((tab n f).getD (a : Int).toNat []).length : Int) := fun a b h h' => by
    rw [Int.toNat_natCast, tab_rlen _ h]; omega
  have f3 : ∀ a : Nat, a < n → 0 ≤ (a : Int) ∧ (a : Int) < (used.length : Int) := fun a h => by rw [hu]; omega
  refine ex4 _ (fun p : Nat × List (List Int) × List Int => ⟨[.yld 12, .ptr 10 0, .ptr 11 0, .any, .any, .any, .any, .ptr 10 0, .int .i64 (↑n : Int), .int .i64 (p.1 : Int), .any, .any, .any, .any, .any, .any, .any, .any, .any, .any, .any, .any, .any, .any, .any, .any, .any, .any, .any, .any, .any, .any, .any, .any, .any, .any, .any, .any, .any, .any, .any, .any, .any, .any, .any, .any, .any, .any, .any], [.cells [.int .i64 (↑n : Int)], .cells [.own 13], .cells [.int .i64 most], .cells [.int .i64 (↑n : Int), .sl tBs (tab n f)], .cells [.own 7], .cells [.fn (Fn.func 40) [] [.ptr 0 0, .ptr 1 0, .ptr 2 0, .ptr 3 0, .ptr 4 0, .ptr 5 0]], .dead, .rows .bool used, .rows tI p.2.2, .cells [.ownc 8 1 0 len], .cells [.int .i64 (↑n : Int), .sl tBs (tab n f)], .cells [.own 7], .loop .ready .no ([27]) _ _ [.ownc 8 1 0 len, .ptr 0 0, .ptr 1 0, .ptr 2 0, .ptr 3 0, .ptr 4 0, .ptr 5 0, .ptr 9 0, .any, .ownc 8 1 0 len, .int .i64 (↑len : Int), .int .i64 (↑n : Int), .bool (decide ((↑len : Int) = (↑n : Int))), .bool (decide ((↑len : Int) = (↑n : Int))), .any, .any, .any, .any, .bool (bif decide ((↑len : Int) = (↑n : Int)) then decide ((↑out.length : Int) < most) else false), .any, .any, .any, .any, .any, .agg [.int .i64 (↑n : Int), .sl tBs (tab n f)], .own 7, .fn (Fn.func 63) [] [.ptr 10 0, .ptr 11 0], .any, .any, .any, .any, .any, .any, .any, .any, .any, .any, .any, .any, .any, .any, .any, .any, .any], .rows tIs p.2.1], 14⟩) (fun p => p.1 ≤ n ∧ p.2 = (List.range p.1).foldl (extStep n f most d used len) (out, buf)) (fun p => n - p.1) (And.intro (Exists.intro ((0, out, buf)) (Exists.intro ([some 0, some 1, some 2, some 3, some 4, some 5, some 6, some 7, some 8, some 9, some 10, some 11, some 12, some 6]) (And.intro ?_ (And.intro (by rfl) (And.intro (by rfl) (And.intro (And.intro (And.intro (by rfl) (by rfl)) (And.intro (And.intro (by rfl) (by rfl)) (And.intro (And.intro (by rfl) (by rfl)) (And.intro (And.intro (by rfl) (by rfl)) (And.intro (And.intro (by rfl) (by rfl)) (And.intro (And.intro (by rfl) (by rfl)) (And.intro (by rfl) (And.intro (by rfl) (And.intro (And.intro (by rfl) (by rfl)) (And.intro (And.intro (by rfl) (by rfl)) (And.intro (And.intro (by rfl) (by rfl)) (And.intro (And.intro (And.intro rfl (And.intro rfl (And.intro rfl (And.intro rfl rfl)))) (And.intro (by rfl) (by rfl))) (And.intro (by rfl) True.intro))))))))))))) (by rfl))))))) ?_)
  · exact ⟨Nat.zero_le _, rfl⟩
  rintro ⟨x, s, bf⟩ ⟨hx, hs⟩
  have hx' : x ≤ n := hx
  have hs' : (s, bf) = (List.range x).foldl (extStep n f most d used len) (out, buf) := hs
  have hbf : bf.length = n := by
    have := step_blen n f most d used len (List.range x) (out, buf)
    rw [← hs'] at this
    exact this.trans hb
  refine (And.intro (fun m0 => (And.intro (by first | (intros; (try subst_vars); (try simp only [Bool.cond_true_left, Bool.cond_false_right, Bool.or_eq_true, Bool.or_eq_false_iff, Bool.and_eq_true, Bool.not_eq_true', Bool.not_eq_false', decide_eq_true_eq, decide_eq_false_iff_not, Int.not_lt, Int.not_le] at *); (try simp only [inK, big, lim, List.length_cons, List.length_nil, List.length_append, List.length_drop, List.length_take, List.length_replicate] at *); omega) | exact f3 _ (lt _ m0)) ?_)) (fun m0 => ?_))
  · have hxn := lt _ m0
    refine ex4 _ (fun p : Nat × Bool => ⟨[.yld 12, .ptr 10 0, .ptr 11 0, .any, .int .i64 (↑x : Int), .bool p.2, .any, .ptr 10 0, .int .i64 (↑n : Int), .int .i64 (↑x : Int), .any, .int .i64 (↑x : Int), .own 7, .int .i64 (↑x : Int), .any, .bool (used.getD (↑x : Int).toNat (dflt .bool)), .ptr 10 0, .int .i64 (↑n : Int), .int .i64 (p.1 : Int), .any, .any, .any, .any, .any, .any, .any, .any, .any, .any, .any, .any, .any, .any, .any, .any, .any, .any, .any, .any, .any, .any, .any, .any, .any, .any, .any, .any, .any, .any], [.cells [.int .i64 (↑n : Int)], .cells [.own 13], .cells [.int .i64 most], .cells [.int .i64 (↑n : Int), .sl tBs (tab n f)], .cells [.own 7], .cells [.fn (Fn.func 40) [] [.ptr 0 0, .ptr 1 0, .ptr 2 0, .ptr 3 0, .ptr 4 0, .ptr 5 0]], .dead, .rows .bool used, .rows tI bf, .cells [.ownc 8 1 0 len], .cells [.int .i64 (↑n : Int), .sl tBs (tab n f)], .cells [.own 7], .loop .ready .no ([27]) _ _ [.ownc 8 1 0 len, .ptr 0 0, .ptr 1 0, .ptr 2 0, .ptr 3 0, .ptr 4 0, .ptr 5 0, .ptr 9 0, .any, .ownc 8 1 0 len, .int .i64 (↑len : Int), .int .i64 (↑n : Int), .bool (decide ((↑len : Int) = (↑n : Int))), .bool (decide ((↑len : Int) = (↑n : Int))), .any, .any, .any, .any, .bool (bif decide ((↑len : Int) = (↑n : Int)) then decide ((↑out.length : Int) < most) else false), .any, .any, .any, .any, .any, .agg [.int .i64 (↑n : Int), .sl tBs (tab n f)], .own 7, .fn (Fn.func 63) [] [.ptr 10 0, .ptr 11 0], .any, .any, .any, .any, .any, .any, .any, .any, .any, .any, .any, .any, .any, .any, .any, .any, .any], .rows tIs s], 14⟩) (fun p => p.1 ≤ n ∧ p.2 = (used.getD x false || (List.range p.1).any fun k => f k x && !used.getD k false)) (fun p => n - p.1) (And.intro (Exists.intro ((0, used.getD x false)) (Exists.intro ([some 0, some 1, some 2, some 3, some 4, some 5, some 6, some 7, some 8, some 9, some 10, some 11, some 12, some 13]) (And.intro ?_ (And.intro (by rfl) (And.intro (by rfl) (And.intro (And.intro (And.intro (by rfl) (by rfl)) (And.intro (And.intro (by rfl) (by rfl)) (And.intro (And.intro (by rfl) (by rfl)) (And.intro (And.intro (by rfl) (by rfl)) (And.intro (And.intro (by rfl) (by rfl)) (And.intro (And.intro (by rfl) (by rfl)) (And.intro (by rfl) (And.intro (by rfl) (And.intro (And.intro (by rfl) (by rfl)) (And.intro (And.intro (by rfl) (by rfl)) (And.intro (And.intro (by rfl) (by rfl)) (And.intro (And.intro (And.intro rfl (And.intro rfl (And.intro rfl (And.intro rfl rfl)))) (And.intro (by rfl) (by rfl))) (And.intro (by rfl) True.intro))))))))))))) (by rfl))))))) ?_)
    · exact ⟨Nat.zero_le _, by simp⟩
    rintro ⟨k, b⟩ ⟨hk, hbb⟩
    refine (And.intro (fun w0 => (And.intro (fun w1 => (by first | (intros; (try subst_vars); (try simp only [Bool.cond_true_left, Bool.cond_false_right, Bool.or_eq_true, Bool.or_eq_false_iff, Bool.and_eq_true, Bool.not_eq_true', Bool.not_eq_false', decide_eq_true_eq, decide_eq_false_iff_not, Int.not_lt, Int.not_le] at *); (try simp only [inK, big, lim, List.length_cons, List.length_nil, List.length_append, List.length_drop, List.length_take, List.length_replicate] at *); omega) | exact f1 _ (lt _ w0) | exact f2 _ _ (lt _ w0) hxn | exact f3 _ (lt _ w0) | exact f3 _ hxn)) (And.intro (fun w2 => (by first | (intros; (try subst_vars); (try simp only [Bool.cond_true_left, Bool.cond_false_right, Bool.or_eq_true, Bool.or_eq_false_iff, Bool.and_eq_true, Bool.not_eq_true', Bool.not_eq_false', decide_eq_true_eq, decide_eq_false_iff_not, Int.not_lt, Int.not_le] at *); (try simp only [inK, big, lim, List.length_cons, List.length_nil, List.length_append, List.length_drop, List.length_take, List.length_replicate] at *); omega) | exact f1 _ (lt _ w0) | exact f2 _ _ (lt _ w0) hxn | exact f3 _ (lt _ w0) | exact f3 _ hxn)) (And.intro (fun w3 => (by first | (intros; (try subst_vars); (try simp only [Bool.cond_true_left, Bool.cond_false_right, Bool.or_eq_true, Bool.or_eq_false_iff, Bool.and_eq_true, Bool.not_eq_true', Bool.not_eq_false', decide_eq_true_eq, decide_eq_false_iff_not, Int.not_lt, Int.not_le] at *); (try simp only [inK, big, lim, List.length_cons, List.length_nil, List.length_append, List.length_drop, List.length_take, List.length_replicate] at *); omega) | exact f1 _ (lt _ w0) | exact f2 _ _ (lt _ w0) hxn | exact f3 _ (lt _ w0) | exact f3 _ hxn)) (And.intro (by first | (intros; (try subst_vars); (try simp only [Bool.cond_true_left, Bool.cond_false_right, Bool.or_eq_true, Bool.or_eq_false_iff, Bool.and_eq_true, Bool.not_eq_true', Bool.not_eq_false', decide_eq_true_eq, decide_eq_false_iff_not, Int.not_lt, Int.not_le] at *); (try simp only [inK, big, lim, List.length_cons, List.length_nil, List.length_append, List.length_drop, List.length_take, List.length_replicate] at *); omega) | exact f1 _ (lt _ w0) | exact f2 _ _ (lt _ w0) hxn | exact f3 _ (lt _ w0) | exact f3 _ hxn) ?_))))) (fun w0 => (And.intro (fun w4 => ?_) (fun w5 => (And.intro (fun w6 => ?_) (fun w6 => (And.intro (by first | (intros; (try subst_vars); (try simp only [Bool.cond_true_left, Bool.cond_false_right, Bool.or_eq_true, Bool.or_eq_false_iff, Bool.and_eq_true, Bool.not_eq_true', Bool.not_eq_false', decide_eq_true_eq, decide_eq_false_iff_not, Int.not_lt, Int.not_le] at *); (try simp only [inK, big, lim, List.length_cons, List.length_nil, List.length_append, List.length_drop, List.length_take, List.length_replicate] at *); omega) | exact f1 _ (lt _ w0) | exact f2 _ _ (lt _ w0) hxn | exact f3 _ (lt _ w0) | exact f3 _ hxn) ?_)))))))
    · have hk' := lt _ w0
      refine Exists.intro ((k + 1, _)) (Exists.intro ([some 0, some 1, some 2, some 3, some 4, some 5, some 6, some 7, some 8, some 9, some 10, some 11, some 12, some 13]) (And.intro ?_ (And.intro ?_ (And.intro (by rfl) (And.intro (by rfl) (And.intro (And.intro (And.intro (by rfl) (by rfl)) (And.intro (And.intro (by rfl) (by rfl)) (And.intro (And.intro (by rfl) (by rfl)) (And.intro (And.intro (by rfl) (by rfl)) (And.intro (And.intro (by rfl) (by rfl)) (And.intro (And.intro (by rfl) (by rfl)) (And.intro (by rfl) (And.intro (by rfl) (And.intro (And.intro (by rfl) (by rfl)) (And.intro (And.intro (by rfl) (by rfl)) (And.intro (And.intro (by rfl) (by rfl)) (And.intro (And.intro (And.intro rfl (And.intro rfl (And.intro rfl (And.intro rfl rfl)))) (And.intro (by rfl) (by rfl))) (And.intro (by rfl) True.intro))))))))))))) (by rfl)))))))
      · refine ⟨hk', ?_⟩
        rw [range_any, ← Bool.or_assoc, ← hbb]
        show (bif b then true else bif ((tab n f).getD k []).getD x false then !used.getD k false else false) = _
        rw [tab_at _ hk' hxn]
        cases b <;> cases f k x <;> cases used.getD k false <;> rfl
      · show n - (k + 1) < n - k
        omega
    · have ek : n = k := (Nat.le_antisymm hk (ge _ w0)).symm
      subst ek
      have ef : freeB n f used x = true := by
        have : freeB n f used x = !b := congrArg (fun c => !c) hbb.symm
        rw [this]; exact w4
      obtain ⟨hux, hcnt⟩ := free_used ef (by rw [hu]; exact hxn)
      have rm : 0 + len + 1 ≤ bf.length := by rw [hbf]; omega
      intro hg
      refine (And.intro (fun y0 => (And.intro (fun y1 => ?_) (fun y1 => (And.intro (by first | exact rm | (intros; (try subst_vars); (try simp only [Bool.cond_true_left, Bool.cond_false_right, Bool.or_eq_true, Bool.or_eq_false_iff, Bool.and_eq_true, Bool.not_eq_true', Bool.not_eq_false', decide_eq_true_eq, decide_eq_false_iff_not, Int.not_lt, Int.not_le] at *); (try simp only [inK, big, lim, List.length_cons, List.length_nil, List.length_append, List.length_drop, List.length_take, List.length_replicate] at *); omega)) ?_)))) (fun y0 => (And.intro (by first | exact rm | (intros; (try subst_vars); (try simp only [Bool.cond_true_left, Bool.cond_false_right, Bool.or_eq_true, Bool.or_eq_false_iff, Bool.and_eq_true, Bool.not_eq_true', Bool.not_eq_false', decide_eq_true_eq, decide_eq_false_iff_not, Int.not_lt, Int.not_le] at *); (try simp only [inK, big, lim, List.length_cons, List.length_nil, List.length_append, List.length_drop, List.length_take, List.length_replicate] at *); omega)) (And.intro (by kernel_rfl) (And.intro (by rfl) (And.intro (by rfl) (And.intro (by rfl) (And.intro (by rfl) (And.intro (by rfl) (And.intro (by first | exact rm | (intros; (try subst_vars); (try simp only [Bool.cond_true_left, Bool.cond_false_right, Bool.or_eq_true, Bool.or_eq_false_iff, Bool.and_eq_true, Bool.not_eq_true', Bool.not_eq_false', decide_eq_true_eq, decide_eq_false_iff_not, Int.not_lt, Int.not_le] at *); (try simp only [inK, big, lim, List.length_cons, List.length_nil, List.length_append, List.length_drop, List.length_take, List.length_replicate] at *); omega)) (And.intro (by rfl) ?_)))))))))))
      · have hst : (List.range n).foldl (extStep n f most d used len) (out, buf) = (s, bf) := fold_stay hx' hs'.symm (of_decide_eq_true y0)
        rw [hst]
        exact Exists.intro [some 0, some 1, some 2, some 3, some 4, some 5, none, some 7, some 8, some 13] ⟨by rfl, by rfl, ⟨⟨by rfl, by rfl⟩, ⟨by rfl, by rfl⟩, ⟨by rfl, by rfl⟩, ⟨by rfl, by rfl⟩, ⟨by rfl, by rfl⟩, ⟨by rfl, by rfl⟩, by rfl, by rfl, by rfl, trivial⟩, by rfl⟩
      · have e : b = false := by simpa using w4
        subst e
        exact nomatch y1
      · refine hbase (d - 1) _ _ _ _ (by omega) ⟨True.intro, [.ownc 8 1 0 (len + 1), .ptr 0 0, .ptr 1 0, .ptr 2 0, .ptr 3 0, .ptr 4 0, .ptr 5 0], exT n (tab n f) most _ _ _, .tup [], exT1 n (tab n f) most _ _ _, [some 0, some 1, some 2, some 3, some 4, some 5, some 13, some 7, some 8],
          ⟨n, f, most, s, used.set x true, _, len + 1, hn, hm, ?_, ?_, ?_, ?_, rfl, rfl, rfl, rfl, rfl⟩, ⟨by rfl, by rfl, ⟨⟨by rfl, by rfl⟩, ⟨by rfl, by rfl⟩, ⟨by rfl, by rfl⟩, ⟨by rfl, by rfl⟩, ⟨by rfl, by rfl⟩, ⟨by rfl, by rfl⟩, by rfl, by rfl, by rfl, trivial⟩, by rfl⟩, by rfl, ?_⟩
        · rw [List.length_set]; exact hu
        · rw [buf_set _ (by omega)]; simp [hbf]
        · omega
        · omega
        rw [buf_set _ (by omega)]
        obtain ⟨r, hr⟩ : ∃ r, extD n f most (d - 1) (used.set x true) (len + 1) (s, bf.set len (x : Int)) = r := ⟨_, rfl⟩
        rw [hr]
        obtain ⟨s1, b1⟩ := r
        dsimp only [putL, renObs, renOb, renAL, renA, setN, getN, newN, exT1, exT, List.length_cons, List.length_nil, List.cons_append, List.nil_append, Nat.reduceAdd, Nat.reduceSub]
        have ux : 0 ≤ (x : Int) ∧ (x : Int) < ((used.set x true).length : Int) := by rw [List.length_set]; exact f3 x hxn
        refine (And.intro (by first | exact ux | (intros; (try subst_vars); (try simp only [Bool.cond_true_left, Bool.cond_false_right, Bool.or_eq_true, Bool.or_eq_false_iff, Bool.and_eq_true, Bool.not_eq_true', Bool.not_eq_false', decide_eq_true_eq, decide_eq_false_iff_not, Int.not_lt, Int.not_le] at *); (try simp only [inK, big, lim, List.length_cons, List.length_nil, List.length_append, List.length_drop, List.length_take, List.length_replicate] at *); omega)) (And.intro (fun z0 => ?_) (fun z0 => (And.intro (by first | exact ux | (intros; (try subst_vars); (try simp only [Bool.cond_true_left, Bool.cond_false_right, Bool.or_eq_true, Bool.or_eq_false_iff, Bool.and_eq_true, Bool.not_eq_true', Bool.not_eq_false', decide_eq_true_eq, decide_eq_false_iff_not, Int.not_lt, Int.not_le] at *); (try simp only [inK, big, lim, List.length_cons, List.length_nil, List.length_append, List.length_drop, List.length_take, List.length_replicate] at *); omega)) ?_))))
        · have e : b = false := by simpa using w4
          subst e
          exact nomatch z0
        · have y0' : (s.length : Int) < most := by have := of_decide_eq_false y0; omega
          refine Exists.intro ((x + 1, s1, b1)) (Exists.intro ([some 0, some 1, some 2, some 3, some 4, some 5, some 6, some 7, some 8, some 9, some 10, some 11, some 12, some 15]) (And.intro ?_ (And.intro ?_ (And.intro (by rfl) (And.intro (by rfl) (And.intro (And.intro (And.intro (by rfl) (by rfl)) (And.intro (And.intro (by rfl) (by rfl)) (And.intro (And.intro (by rfl) (by rfl)) (And.intro (And.intro (by rfl) (by rfl)) (And.intro (And.intro (by rfl) (by rfl)) (And.intro (And.intro (by rfl) (by rfl)) (And.intro ?_ (And.intro (by rfl) (And.intro (And.intro (by rfl) (by rfl)) (And.intro (And.intro (by rfl) (by rfl)) (And.intro (And.intro (by rfl) (by rfl)) (And.intro (And.intro (And.intro rfl (And.intro rfl (And.intro rfl (And.intro rfl rfl)))) (And.intro (by rfl) (by rfl))) (And.intro (by rfl) True.intro))))))))))))) (by rfl)))))))
          · refine ⟨hxn, ?_⟩
            show (s1, b1) = (List.range (x + 1)).foldl (extStep n f most d used len) (out, buf)
            rw [fold_next, ← hs', step_hit (by omega) ef y0', hr]
          · show n - (x + 1) < n - x
            omega
          · refine congrArg (Ob.rows .bool) ?_
            exact set_back hux (by rw [hu]; exact hxn)
    · have e : b = true := by simpa using w5
      subst e
      exact nomatch w6
    · have ek : n = k := (Nat.le_antisymm hk (ge _ w0)).symm
      subst ek
      have e : b = true := by simpa using w5
      have ef : freeB n f used x = false := by
        have : freeB n f used x = !b := congrArg (fun c => !c) hbb.symm
        rw [this, e]; rfl
      refine Exists.intro ((x + 1, s, bf)) (Exists.intro ([some 0, some 1, some 2, some 3, some 4, some 5, some 6, some 7, some 8, some 9, some 10, some 11, some 12, some 13]) (And.intro ?_ (And.intro ?_ (And.intro (by rfl) (And.intro (by rfl) (And.intro (And.intro (And.intro (by rfl) (by rfl)) (And.intro (And.intro (by rfl) (by rfl)) (And.intro (And.intro (by rfl) (by rfl)) (And.intro (And.intro (by rfl) (by rfl)) (And.intro (And.intro (by rfl) (by rfl)) (And.intro (And.intro (by rfl) (by rfl)) (And.intro (by rfl) (And.intro (by rfl) (And.intro (And.intro (by rfl) (by rfl)) (And.intro (And.intro (by rfl) (by rfl)) (And.intro (And.intro (by rfl) (by rfl)) (And.intro (And.intro (And.intro rfl (And.intro rfl (And.intro rfl (And.intro rfl rfl)))) (And.intro (by rfl) (by rfl))) (And.intro (by rfl) True.intro))))))))))))) (by rfl)))))))
      · refine ⟨hxn, ?_⟩
        show (s, bf) = (List.range (x + 1)).foldl (extStep n f most d used len) (out, buf)
        rw [fold_next, ← hs', step_miss ef]
      · show n - (x + 1) < n - x
        omega
  · have e : x = n := Nat.le_antisymm hx' (ge _ m0)
    subst e
    rw [← hs']
    refine ⟨[some 0, some 1, some 2, some 3, some 4, some 5, none, some 7, some 8, some 13], by rfl, by rfl, ⟨⟨by rfl, by rfl⟩, ⟨by rfl, by rfl⟩, ⟨by rfl, by rfl⟩, ⟨by rfl, by rfl⟩, ⟨by rfl, by rfl⟩, ⟨by rfl, by rfl⟩, by rfl, by rfl, by rfl, trivial⟩, by rfl⟩
end Go.Proofs.Ytlaefkhbpnbahaa
