/- Deque: slices.Sort of this program, out of the shelf, as a call that turns a block. -/
import Derived.Shelf.SlGeneric
import Derived.Shelf.SortM.Plain
import Derived.Shelf.SortM.SortNone
import Derived.Ground.SlgmProg
import Derived.Test.YtcghckgbaeindaaSxSum
import Derived.Test.YtcghckgbaeindaaDequeK
set_option linter.unusedSimpArgs false
set_option linter.unusedVariables false
set_option maxRecDepth 100000
namespace Go.Proofs.Ytcghckgbaeindaa
open Go.Shelf Go.Sx Go.RowKit
def Try.sortA_ren : Go.Shelf.Ren := ⟨fun | 5 => 27 | 8 => 34 | 7 => 33 | 19 => 50 | 20 => 51 | 10 => 41 | 11 => 42 | 12 => 43 | 13 => 44 | 14 => 45 | 15 => 46 | 16 => 47 | 17 => 48 | 18 => 49 | 30 => 52 | 31 => 53 | 32 => 54 | 33 => 55 | 34 => 56 | 35 => 57 | 40 => 58 | n => n, fun | 23 => 22 | 25 => 3 | 3 => 3 | 32 => 60 | 22 => 22 | 0 => 0 | 44 => 74 | 46 => 76 | 4 => 4 | 36 => 66 | 35 => 65 | 41 => 71 | 5 => 5 | 9 => 9 | 53 => 77 | 57 => 81 | 63 => 83 | 64 => 84 | n => n, fun | n => n⟩
theorem Try.sortA : Go.Proofs.SlLaysM.n5 Try.prog Try.sortA_ren := {
  mixed := by kernel_rfl
  f5 := ⟨Try.f27.name, by decide, Try.func27.trans (congrArg some (by kernel_rfl))⟩
  f7 := ⟨Try.f33.name, by decide, Try.func33.trans (congrArg some (by kernel_rfl))⟩
  f8 := Try.func34.trans (congrArg some (by kernel_rfl))
  f10 := ⟨Try.f41.name, by decide, Try.func41.trans (congrArg some (by kernel_rfl))⟩
  f11 := ⟨Try.f42.name, by decide, Try.func42.trans (congrArg some (by kernel_rfl))⟩
  f12 := ⟨Try.f43.name, by decide, Try.func43.trans (congrArg some (by kernel_rfl))⟩
  f13 := ⟨Try.f44.name, by decide, Try.func44.trans (congrArg some (by kernel_rfl))⟩
  f14 := ⟨Try.f45.name, by decide, Try.func45.trans (congrArg some (by kernel_rfl))⟩
  f15 := ⟨Try.f46.name, by decide, Try.func46.trans (congrArg some (by kernel_rfl))⟩
  f16 := ⟨Try.f47.name, by decide, Try.func47.trans (congrArg some (by kernel_rfl))⟩
  f17 := ⟨Try.f48.name, by decide, Try.func48.trans (congrArg some (by kernel_rfl))⟩
  f18 := ⟨Try.f49.name, by decide, Try.func49.trans (congrArg some (by kernel_rfl))⟩
  f19 := Try.func50.trans (congrArg some (by kernel_rfl))
  f20 := Try.func51.trans (congrArg some (by kernel_rfl))
  f30 := ⟨Try.f52.name, by decide, Try.func52.trans (congrArg some (by kernel_rfl))⟩
  f31 := Try.func53.trans (congrArg some (by kernel_rfl))
  f32 := Try.func54.trans (congrArg some (by kernel_rfl))
  f33 := ⟨Try.f55.name, by decide, Try.func55.trans (congrArg some (by kernel_rfl))⟩
  f34 := ⟨Try.f56.name, by decide, Try.func56.trans (congrArg some (by kernel_rfl))⟩
  f35 := ⟨Try.f57.name, by decide, Try.func57.trans (congrArg some (by kernel_rfl))⟩
  f40 := ⟨Try.f58.name, by decide, Try.func58.trans (congrArg some (by kernel_rfl))⟩
  t0 := Try.underlying0
  a0 := Try.isAgg0
  z0 := Try.sizeOf0
  v0 := Try.zeroValue0
  t3 := Try.underlying3
  a3 := Try.isAgg3
  z3 := Try.sizeOf3
  v3 := Try.zeroValue3
  t4 := Try.underlying4
  a4 := Try.isAgg4
  z4 := Try.sizeOf4
  v4 := Try.zeroValue4
  t5 := Try.underlying5
  a5 := Try.isAgg5
  z5 := Try.sizeOf5
  v5 := Try.zeroValue5
  t9 := Try.underlying9
  a9 := Try.isAgg9
  z9 := Try.sizeOf9
  v9 := Try.zeroValue9
  t22 := Try.underlying22
  a22 := Try.isAgg22
  z22 := Try.sizeOf22
  v22 := Try.zeroValue22
  t23 := Try.underlying22
  a23 := Try.isAgg22
  z23 := Try.sizeOf22
  v23 := Try.zeroValue22
  t25 := Try.underlying3
  a25 := Try.isAgg3
  z25 := Try.sizeOf3
  v25 := Try.zeroValue3
  t32 := Try.underlying60
  a32 := Try.isAgg60
  z32 := Try.sizeOf60
  v32 := Try.zeroValue60
  t35 := Try.underlying65
  a35 := Try.isAgg65
  z35 := Try.sizeOf65
  v35 := Try.zeroValue65
  t36 := Try.underlying66
  a36 := Try.isAgg66
  z36 := Try.sizeOf66
  v36 := Try.zeroValue66
  t41 := Try.underlying71
  a41 := Try.isAgg71
  z41 := Try.sizeOf71
  v41 := Try.zeroValue71
  t44 := Try.underlying74
  a44 := Try.isAgg74
  z44 := Try.sizeOf74
  v44 := Try.zeroValue74
  t46 := Try.underlying76
  a46 := Try.isAgg76
  z46 := Try.sizeOf76
  v46 := Try.zeroValue76
  t53 := Try.underlying77
  a53 := Try.isAgg77
  z53 := Try.sizeOf77
  v53 := Try.zeroValue77
  t57 := Try.underlying81
  a57 := Try.isAgg81
  z57 := Try.sizeOf81
  v57 := Try.zeroValue81
  t63 := Try.underlying83
  a63 := Try.isAgg83
  z63 := Try.sizeOf83
  v63 := Try.zeroValue83
  t64 := Try.underlying84
  a64 := Try.isAgg84
  z64 := Try.sizeOf84
  v64 := Try.zeroValue84 }

def sortI (xs : List Int) : List Int := xs.mergeSort fun x y => decide (x ≤ y)
/-- A call to slices.Sort, by what it does. -/
def sortSem (g0 : FuncId) : CallSem := fun g args H n K => g = g0 ∧ ∃ (id : Nat) (xs : List Int), args = [.own id] ∧ getOb H id = .rows tI xs ∧ xs.length ≤ 1000000 ∧ K (.tup []) (setN (.rows tI (sortI xs)) H id) n
theorem flat_ints : ∀ (xs : List Int), flat tI xs = xs.map (PV.int .i64)
  | [] => rfl
  | x :: xs => by
    have h := flat_ints xs
    unfold flat at h ⊢
    rw [List.flatMap_cons, h]
    rfl
theorem setN_same {α : Type} (v : α) : ∀ (l : List α) (i : Nat), (∀ h : i < l.length, l[i] = v) → setN v l i = l
  | [], _, _ => rfl
  | a :: l, 0, h => by
    have := h (Nat.succ_pos _)
    simp only [List.getElem_cons_zero] at this
    rw [setN, this]
  | a :: l, i + 1, h => by
    rw [setN, setN_same v l i fun hi => ?_]
    have := h (Nat.succ_lt_succ hi)
    simpa using this
theorem sort_size (xs : List Int) : (sortI xs).length = xs.length := List.length_mergeSort xs
theorem modify_block {w : World} {blk b : Nat} {f : Array Value → Array Value} (h : b ≠ blk) : (Sort.mapBlock w blk f).heap[b]? = w.heap[b]? := by
  unfold Sort.mapBlock
  simp only [Array.getElem?_modify]
  rw [if_neg (Ne.symm h)]
theorem sortSem_ok {P : Program} {g0 : FuncId} (hf : ∃ fn, P.funcs[g0]? = some fn ∧ fn.body.isSome = true ∧ (fn.name == "runtime.NumGoroutine") = false)
    (hs : ∀ (blk off cap : Nat) (zs : List Int) (w : World), Sort.Holds (Value.int .i64) w blk off zs.toArray → blk < w.heap.size → zs.length < 4611686018427387904 →
      Calls P g0 #[.slice (some ⟨blk, off, none⟩) zs.length cap] w fun e w' => e = .returned (.tuple #[]) ∧ ∃ n os, w' = Sort.grow (Sort.putRow (Value.int .i64) (Sort.ahead w n) blk off (sortI zs).toArray) os)
    (h0 : ∀ (p : Option Addr) (cap : Nat) (w : World), Calls P g0 #[.slice p 0 cap] w fun e w' => e = .returned (.tuple #[]) ∧ w' = w) : CallOk P (sortSem g0) := by
  rintro g args H n K ⟨rfl, id, xs, rfl, hob, hlen, hk⟩ E vs hE hsz hrd
  refine ⟨hf, ?_⟩
  obtain ⟨vs⟩ := vs
  match vs, hsz with
  | [v], _ =>
  have hv : RdA E v (.own id) := hrd 0 v _ rfl rfl
  have hA := hv.own_inv.1
  have hne : getOb H id ≠ .dead := by rw [hob]; simp
  have hl := hE.live id hne
  have hok : RowsAt E tI xs (E.ρ id) := by
    have := hE.ok id hl hne
    rw [hob] at this
    exact this
  have hW : E.W id := hE.wr id (by rw [hob]; trivial)
  have hown := hv.own_inv.2.2 hl
  cases hρ : E.ρ id with
  | none =>
    rw [hρ] at hok hown
    obtain ⟨ba, rfl⟩ := hown
    have hxs : xs = [] := hok
    subst hxs
    refine (h0 ba 0 E.w).mono ?_
    rintro e w' ⟨rfl, rfl⟩
    refine ⟨_, E, .tup [], _, n, rfl, rfl, Nat.le_refl _, ?_, .tup _ _ rfl (fun i u x hu => by simp at hu), Evo.refl _ _, hk⟩
    rw [setN_same]
    · exact hE
    · intro hi
      have : getOb H id = H[id] := by
        unfold getOb
        rw [getN_eq, List.getElem?_eq_getElem hi]
        rfl
      rw [← this, hob, show sortI [] = [] by simp [sortI]]
  | some hd =>
    rw [hρ] at hok hown
    obtain ⟨g1, g2, g3, g3', arr, el, g4, g5, g6⟩ := hok
    have hown : v = .slice (some ⟨hd.blk, hd.off, none⟩) hd.len hd.cap := hown
    subst hown
    have hsz1 : Ty.size tI = 1 := rfl
    rw [hsz1, Nat.mul_one] at g5
    have hcell : ∀ j (hj : j < xs.length), arr[hd.off + j]? = some (.int .i64 xs[j]) := by
      intro j hj
      obtain ⟨u, u1, u2⟩ := g6 j (.int .i64 xs[j]) (by rw [flat_ints, List.getElem?_map, List.getElem?_eq_getElem hj]; rfl)
      cases u2
      exact u1
    have hH : Sort.Holds (Value.int .i64) E.w hd.blk hd.off xs.toArray := by
      intro j hj
      have hj' : j < xs.length := by simpa using hj
      refine ⟨?_, ?_⟩
      · have := hcell j hj'
        simp only [World.cell?, g4]
        rw [this]
        simp [hj']
      · simp [World.frozen?, g4]
    have hblk := (hE.lt id hd hl hρ).2
    have := hs hd.blk hd.off hd.cap xs E.w hH hblk (by omega)
    rw [← g1] at this
    refine this.mono ?_
    rintro e w' ⟨rfl, m, os, rfl⟩
    have hsl := sort_size xs
    -- the block behind it
    have hnew : (Sort.grow (Sort.putRow (Value.int .i64) (Sort.ahead E.w m) hd.blk hd.off (sortI xs).toArray) os).heap[hd.blk]? = some (.cells (Sort.putCells (Value.int .i64) hd.off (sortI xs).toArray arr) el (0, 0)) := by
      unfold Sort.grow Sort.putRow Sort.mapBlock
      simp only [Sort.heap_ahead]
      rw [Array.getElem?_append_left (by simpa using hblk), Array.getElem?_modify, if_pos rfl, g4]
      rfl
    have hold : ∀ b, b < E.w.heap.size → b ≠ hd.blk → (Sort.grow (Sort.putRow (Value.int .i64) (Sort.ahead E.w m) hd.blk hd.off (sortI xs).toArray) os).heap[b]? = E.w.heap[b]? := by
      intro b hb hne
      show ((Sort.putRow (Value.int .i64) (Sort.ahead E.w m) hd.blk hd.off (sortI xs).toArray).heap ++ os)[b]? = _
      rw [Array.getElem?_append_left (by simpa using hb)]
      exact modify_block hne
    have hsize : E.w.heap.size ≤ (Sort.grow (Sort.putRow (Value.int .i64) (Sort.ahead E.w m) hd.blk hd.off (sortI xs).toArray) os).heap.size := by
      show _ ≤ ((Sort.putRow (Value.int .i64) (Sort.ahead E.w m) hd.blk hd.off (sortI xs).toArray).heap ++ os).size
      rw [Array.size_append, Sort.size_putRow]
      exact Nat.le_add_right _ _
    have hbd : Below E.B E.w (Sort.grow (Sort.putRow (Value.int .i64) (Sort.ahead E.w m) hd.blk hd.off (sortI xs).toArray) os) := by
      refine ⟨rfl, rfl, rfl, hsize, fun k hk => hold k (Nat.lt_of_lt_of_le hk hE.B) ?_⟩
      have := (hE.lt id hd hl hρ).1
      omega
    generalize Sort.grow (Sort.putRow (Value.int .i64) (Sort.ahead E.w m) hd.blk hd.off (sortI xs).toArray) os = w' at hnew hold hsize hbd
    have hstep : Step E n ⟨none, none, .tup [], [], none, some (id, .rows tI (sortI xs)), []⟩ w' (fun _ => none) := by
      refine ⟨hbd, fun b hb hne => hold b hb fun e => hne id hd hW (.inr rfl) hρ e.symm, ?_, ?_, ?_, ?_⟩
      · intro j h hj; simp at hj
      · intro j j' h h' hj; simp at hj
      · intro id hid; cases hid
      · intro p hp; cases hp; exact hW
    have hρ2 : ∀ wn, (E.ext n 0 none [] wn w' (fun _ => none)).ρ id = some hd := fun wn => by
      simp only [Env.ext]
      rw [if_neg (by omega), hρ]
    have hx := hstep.ext (wn := newW n ⟨none, none, .tup [], [], none, some (id, .rows tI (sortI xs)), []⟩) (hE.ready _) ⟨n, hE.ns⟩ (fun _ j ob hj => by simp at hj) (fun hevo i ob hi => by
      cases hi
      show RowsAt _ tI _ _
      rw [show (E.ext n (List.length ([] : List Ob)) none [] _ w' (fun _ => none)).ρ id = some hd from hρ2 _]
      refine ⟨by rw [hsl]; exact g1, g2, g3, g3', _, el, hnew, ?_, fun j p hp => ?_⟩
      · simp [Sort.putCells]
        omega
      · rw [flat_ints, List.getElem?_map] at hp
        obtain ⟨x, hx, rfl⟩ := Option.map_eq_some_iff.1 hp
        have hj := (List.getElem?_eq_some_iff.1 hx).1
        refine ⟨.int .i64 x, ?_, .int _ _⟩
        have hlt : hd.off + j < arr.size := by omega
        unfold Sort.putCells
        rw [Array.getElem?_mapIdx, Array.getElem?_eq_getElem hlt]
        simp only [Option.map_some, Option.some.injEq]
        rw [if_pos ⟨by omega, by simp; omega⟩, show hd.off + j - hd.off = j by omega]
        obtain ⟨_, he⟩ := List.getElem?_eq_some_iff.1 hx
        simp [hj, he])
    have hE' := hE.step hx ⟨fun id hid => (by cases hid), fun p hp => (by cases hp; exact ⟨hA, by rw [hob]; trivial⟩)⟩
    have hheap : Res.heap ⟨none, none, .tup [], [], none, some (id, .rows tI (sortI xs)), []⟩ H = setN (.rows tI (sortI xs)) H id := by
      unfold Res.heap
      rw [List.append_nil]
      rfl
    rw [hheap] at hE'
    exact ⟨_, _, .tup [], _, n, rfl, rfl, Nat.le_refl _, hE', .tup _ _ rfl (fun i u x hu => by simp at hu), hx.evo n, hk⟩
theorem sort27 : CallOk Try.prog (sortSem 27) :=
  sortSem_ok ⟨_, Try.func27, rfl, rfl⟩ (fun blk off cap zs w hH hb hz => AnyM.slices_Sort_int Try.sortA blk off cap zs w hH hb hz) (fun p cap w => AnyM.slices_Sort_int_none Try.sortA p cap w)
end Go.Proofs.Ytcghckgbaeindaa
