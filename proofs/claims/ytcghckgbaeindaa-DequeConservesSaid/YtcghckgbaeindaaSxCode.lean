/- Statements, loops and calls in place: what the symbolic execution says of them is so. -/
import Derived.Test.YtcghckgbaeindaaSxStill
import Derived.Test.YtcghckgbaeindaaSxWeak
import Derived.Deep.LoopGhost
set_option linter.unusedSimpArgs false
set_option linter.unusedVariables false
namespace Go.Sx
open Go.RowKit

/-- What a region whose order is drawn is good for. -/
def DrawnOk1 (P : Program) (cx : Ctx) : Prop :=
  ∀ (opsA : Array Oper) (id : Nat) (E : Env) (a : Act) (sl : List AV) (H : List Ob) (n : Nat) (K : Kont) (Q : Exit → Act → World → Prop), EnvOk E H n → SlOk E a sl →
    (P.follows .mixedOrders && ordOk opsA.toList 0 (flags opsA.toList)) = true → runDraw cx P opsA.toList (flags opsA.toList) 0 [] sl H n K →
    (∀ E' a' sl' H' n', K sl' H' n' → EnvOk E' H' n' → SlOk E' a' sl' → Evo n E E' → n ≤ n' → Q .normal a' E'.w) → (Code.region id opsA true).wp P Q a E.w

/-- The same, with calls that are carried out in place. -/
def DrawnOk2 (P : Program) (cx : Ctx) : Prop :=
  ∀ (call : CallSem), CallOk P call → ∀ (opsA : Array Oper) (id : Nat) (E : Env) (a : Act) (sl : List AV) (H : List Ob) (n : Nat) (K : Kont) (Q : Exit → Act → World → Prop), EnvOk E H n → SlOk E a sl →
    (P.follows .mixedOrders && mixB opsA.toList) = true → runMix cx P call opsA.toList (planOf opsA.toList) sl H n K →
    (∀ E' a' sl' H' n', K sl' H' n' → EnvOk E' H' n' → SlOk E' a' sl' → Evo n E E' → n ≤ n' → Q .normal a' E'.w) → (Code.region id opsA true).wp P Q a E.w
def DrawnOk (P : Program) (cx : Ctx) : Prop := DrawnOk1 P cx ∧ DrawnOk2 P cx

def exOf : Ex → Exit
  | .normal => .normal
  | .ret => .ret
  | .exit n => .exit n

theorem getN_map_noW (sl : List AV) (t : Nat) : getN .any (sl.map noW) t = noW (getN .any sl t) := by
  rw [getN_eq, getN_eq, List.getElem?_map]
  cases sl[t]? <;> rfl

theorem SlOk.noW {E : Env} {a : Act} {sl : List AV} (h : SlOk E a sl) : SlOk E a (sl.map Sx.noW) := by
  refine ⟨by rw [List.length_map]; exact h.size, fun t => ?_, fun t c s w v ht => ?_, h.defers⟩
  · rw [getN_map_noW]; exact noW_ok (h.rd t)
  · rw [List.getElem?_map, Option.map_eq_some_iff] at ht
    obtain ⟨x, _, hx⟩ := ht
    exact absurd hx (noW_ne _ _ _ _ _)

theorem ev_all {E : Env} {a : Act} {sl : List AV} (hs : SlOk E a sl) (x : Operand) : RdA E (a.eval x) (ev sl x) := by
  cases x with
  | tmp t => exact hs.rd t
  | const v => exact ofConst_ok v
  | global g => exact .any _
  | func f => exact .fn _ _ _ _ _ rfl rfl (fun i v x hv _ => by simp at hv) (fun i v x hv _ => by simp at hv)

section
variable {P : Program} {cx : Ctx} {call : CallSem} {n0 : Nat}

theorem exec_ok (hcx : GoodCtx P cx) (hdraw : DrawnOk P cx) (hcall : CallOk P call) : ∀ (c : Code) {sl : List AV} {H : List Ob} {n : Nat} {K : Ex → Kont} {E : Env} {a : Act} {Q : Exit → Act → World → Prop}, EnvOk E H n → SlOk E a sl → n0 ≤ n →
    exec cx P call n0 c sl H n K → (∀ e E' a' sl' H' n', K e sl' H' n' → EnvOk E' H' n' → SlOk E' a' sl' → Evo n0 E E' → n0 ≤ n' → Q (exOf e) a' E'.w) → c.wp P Q a E.w
  | .skip, sl, H, n, K, E, a, Q, hE, hs, hn, h, hK => wp_skip (hK .normal E a sl H n h hE hs (Evo.refl _ _) hn)
  | .ret, sl, H, n, K, E, a, Q, hE, hs, hn, h, hK => wp_ret (hK .ret E a sl H n h hE hs (Evo.refl _ _) hn)
  | .exit m, sl, H, n, K, E, a, Q, hE, hs, hn, h, hK => wp_exit (hK (.exit m) E a sl H n h hE hs (Evo.refl _ _) hn)
  | .region id ops false, sl, H, n, K, E, a, Q, hE, hs, hn, h, hK => by
    simp only [exec] at h
    refine wp_region_list (runOps_ok hcx hcall ops.toList hE hs h fun E' a' sl' H' n' hk hE' hs' hevo hn' => ?_)
    rw [dropWhen_eq] at hk
    exact hK .normal E' a' _ H' n' hk hE' hs'.noW (hevo.mono hn) (Nat.le_trans hn hn')
  | .region id ops true, sl, H, n, K, E, a, Q, hE, hs, hn, h, hK => by
    simp only [exec, execDraw] at h
    split at h
    · split at h
      · refine still_ok hcx hcall (id := id) hE hs h.1 h.2 fun E' a' sl' H' n' hk hE' hs' hevo hn' => ?_
        rw [dropWhen_eq] at hk
        exact hK .normal E' a' _ H' n' hk hE' hs'.noW (hevo.mono hn) (Nat.le_trans hn hn')
      · refine hdraw.2 call hcall ops id E a sl H n _ Q hE hs h.1 h.2 fun E' a' sl' H' n' hk hE' hs' hevo hn' => ?_
        rw [dropWhen_eq] at hk
        exact hK .normal E' a' _ H' n' hk hE' hs'.noW (hevo.mono hn) (Nat.le_trans hn hn')
    · refine hdraw.1 ops id E a sl H n _ Q hE hs h.1 h.2 fun E' a' sl' H' n' hk hE' hs' hevo hn' => ?_
      rw [dropWhen_eq] at hk
      exact hK .normal E' a' _ H' n' hk hE' hs'.noW (hevo.mono hn) (Nat.le_trans hn hn')
  | .seq x y, sl, H, n, K, E, a, Q, hE, hs, hn, h, hK => by
    simp only [exec] at h
    refine wp_seq (exec_ok hcx hdraw hcall x hE hs hn h fun e E' a' sl' H' n' hk hE' hs' hevo hn' => ?_)
    cases e with
    | normal =>
      exact exec_ok hcx hdraw hcall y hE' hs' hn' hk fun e E'' a'' sl'' H'' n'' hk' hE'' hs'' hevo' hn'' => hK e E'' a'' sl'' H'' n'' hk' hE'' hs'' (hevo.trans hevo') hn''
    | ret => exact hK .ret E' a' sl' H' n' hk hE' hs' hevo hn'
    | exit m => exact hK (.exit m) E' a' sl' H' n' hk hE' hs' hevo hn'
  | .cond c x y, sl, H, n, K, E, a, Q, hE, hs, hn, h, hK => by
    simp only [exec] at h
    have hv := ev_all hs c
    split at h
    · rename_i q hq
      rw [hq] at hv
      refine wp_cond_split hv.bool_inv (fun ht => exec_ok hcx hdraw hcall x hE hs hn (h.1 ht) hK) (fun hf => exec_ok hcx hdraw hcall y hE hs hn (h.2 hf) hK)
    · exact h.elim
  | .block id x, sl, H, n, K, E, a, Q, hE, hs, hn, h, hK => by
    simp only [exec] at h
    refine wp_block (exec_ok hcx hdraw hcall x hE hs hn h fun e E' a' sl' H' n' hk hE' hs' hevo hn' => ?_)
    cases e with
    | normal => exact hK .normal E' a' sl' H' n' hk hE' hs' hevo hn'
    | ret => exact hK .ret E' a' sl' H' n' hk hE' hs' hevo hn'
    | exit m =>
      simp only at hk
      show (if m = id then Q .normal a' E'.w else Q (.exit m) a' E'.w)
      split at hk
      · rename_i hm
        rw [if_pos (Nat.eq_of_beq_eq_true hm)]
        exact hK .normal E' a' sl' H' n' hk hE' hs' hevo hn'
      · rename_i hm
        rw [if_neg (fun e => hm (by rw [e]; exact Nat.beq_refl id))]
        exact hK (.exit m) E' a' sl' H' n' hk hE' hs' hevo hn'
  | .loop x, sl, H, n, K, E, a, Q, hE, hs, hn, h, hK => by
    simp only [exec] at h
    obtain ⟨ι, S, I, μ, ⟨i0, σ0, hi0, hw0⟩, hround⟩ := h
    obtain ⟨E0, hw, hE0, hs0, hevo0, hn0, _⟩ := weaken hE hs hw0
    refine wp_loop_ghost (fun m a w => ∃ i E', μ i = m ∧ I i ∧ E'.w = w ∧ EnvOk E' (S i).H (S i).n ∧ SlOk E' a (S i).sl ∧ Evo n0 E E' ∧ n0 ≤ (S i).n) (μ i0) ⟨i0, E0, rfl, hi0, hw, hE0, hs0, hevo0, hn0⟩ ?_
    rintro m a1 w1 ⟨i, E1, rfl, hi, rfl, hE1, hs1, hevo1, hn1⟩
    refine exec_ok hcx hdraw hcall x hE1 hs1 hn1 (hround i hi) fun e E' a' sl' H' n' hk hE' hs' hevo hn' => ?_
    cases e with
    | normal =>
      obtain ⟨j, σ, hj, hμ, hwk⟩ := hk
      obtain ⟨E2, hw2, hE2, hs2, hevo2, hn2, _⟩ := weaken hE' hs' hwk
      exact ⟨μ j, hμ, j, E2, rfl, hj, hw2, hE2, hs2, (hevo1.trans hevo).trans hevo2, hn2⟩
    | ret => exact hK .ret E' a' sl' H' n' hk hE' hs' (hevo1.trans hevo) hn'
    | exit m => exact hK (.exit m) E' a' sl' H' n' hk hE' hs' (hevo1.trans hevo) hn'
  | .label _, _, _, _, _, _, _, _, _, _, _, h, _ => (by simp [exec] at h)
  | .goto _, _, _, _, _, _, _, _, _, _, _, h, _ => (by simp [exec] at h)
  | .rangeFunc .., _, _, _, _, _, _, _, _, _, _, h, _ => (by simp [exec] at h)

theorem padTo_get : ∀ (m : Nat) (l : List AV), l.length ≤ m → (padTo m l).length = m ∧ ∀ t, getN .any (padTo m l) t = getN .any l t
  | 0, l, h => by
    have : l = [] := List.length_eq_zero_iff.1 (by omega)
    subst this
    exact ⟨rfl, fun _ => rfl⟩
  | m + 1, [], _ => by
    obtain ⟨h1, h2⟩ := padTo_get m [] (by simp)
    refine ⟨by simp [padTo, h1], fun t => ?_⟩
    cases t with
    | zero => rfl
    | succ t => simp only [padTo, getN]; rw [h2 t]; rfl
  | m + 1, x :: l, h => by
    obtain ⟨h1, h2⟩ := padTo_get m l (by simpa using h)
    refine ⟨by simp [padTo, h1], fun t => ?_⟩
    cases t with
    | zero => rfl
    | succ t => simp only [padTo, getN]; exact h2 t

def resRun (tmps : Array Value) : ResultVar → Sem Value
  | .tmp t => pure (tmps.getD t undef)
  | .cell b t => do loadVar t (← asAddr (tmps.getD b undef))

theorem mapM_cons_run {α β : Type} {f : α → Sem β} {x : α} {l : List α} {y : β} {ys : List β} {w : World} (h : (f x).run P w = .ok y w) (h' : (l.mapM f).run P w = .ok ys w) : ((x :: l).mapM f).run P w = .ok (y :: ys) w := by
  rw [List.mapM_cons]
  simp only [Sem.run_bind, h, h', Result.andThen_ok, Sem.run_pure]

theorem resultsK_ok {E : Env} {a : Act} {sl : List AV} {H : List Ob} {n : Nat} (hE : EnvOk E H n) (hs : SlOk E a sl) : ∀ (l : List ResultVar) (k : List AV → Prop), resultsK P sl H l k →
    ∃ (us : List Value) (vs : List AV), k vs ∧ us.length = vs.length ∧ us.length = l.length ∧ (∀ (i : Nat) u x, us[i]? = some u → vs[i]? = some x → RdA E u x) ∧
      (l.mapM (resRun a.tmps)).run P E.w = .ok us E.w
  | [], k, h => ⟨[], [], h, rfl, rfl, fun i u x hu => by simp at hu, rfl⟩
  | .tmp t :: l, k, h => by
    simp only [resultsK, forceA_eq] at h
    obtain ⟨us, vs, h1, h2, h3, h4, h5⟩ := resultsK_ok hE hs l _ h
    refine ⟨a.tmps.getD t undef :: us, _, h1, by simp [h2], by simp [h3], fun i u x hu hx => ?_, ?_⟩
    · cases i with
      | zero => cases hu; cases hx; exact noW_ok (hs.rd t)
      | succ i => exact h4 i u x (by simpa using hu) (by simpa using hx)
    · exact mapM_cons_run rfl h5
  | .cell b t :: l, k, h => by
    simp only [resultsK] at h
    split at h
    · rename_i id off hv
      split at h
      · rename_i cs hob
        split at h
        · rename_i v hr
          rw [forceA_eq] at h
          obtain ⟨us, vs, h1, h2, h3, h4, h5⟩ := resultsK_ok hE hs l _ h
          have hne : getOb H id ≠ .dead := by rw [hob]; simp
          have hl := hE.live id hne
          have hok := hE.ok id hl hne
          rw [hob] at hok
          obtain ⟨hd, hρ, hcells⟩ := CellsAt.of_box hok
          have hrd := hs.rd b
          rw [hv] at hrd
          obtain ⟨hd', hρ', hval⟩ := hrd.ptr_inv.2.2 hl
          rw [hρ] at hρ'
          cases hρ'
          obtain ⟨u, hu1, hu2⟩ := run_readAt (P := P) (t := t) hcells hr
          refine ⟨u :: us, _, h1, by simp [h2], by simp [h3], fun i u' x hu hx => ?_, ?_⟩
          · cases i with
            | zero => cases hu; cases hx; exact hu2
            | succ i => exact h4 i u' x (by simpa using hu) (by simpa using hx)
          · have hval' : a.tmps.getD b undef = .pointer (some ⟨hd.blk, off, none⟩) := hval
            refine mapM_cons_run ?_ h5
            simp only [resRun, hval', asAddr, Sem.run_bind]
            rw [Nat.zero_add] at hu1
            simpa using hu1
        · exact h.elim
      · exact h.elim
    · exact h.elim

theorem run_results {fn : Func} {a : Act} {us : List Value} {w : World} (h : (fn.results.toList.mapM (resRun a.tmps)).run P w = .ok us w) :
    (results fn a.tmps).run P w = .ok (match us with | [v] => v | us => .tuple us.toArray) w := by
  have hm : (fn.results.mapM (resRun a.tmps)).run P w = .ok us.toArray w := by
    rw [Array.mapM_eq_mapM_toList]
    simp only [Sem.run_map, h]
    rfl
  have he : results fn a.tmps = (do let vs ← fn.results.mapM (resRun a.tmps); pure (if h : vs.size = 1 then vs[0] else .tuple vs)) := by
    unfold results
    congr 1
  rw [he]
  simp only [Sem.run_bind, hm, Result.andThen_ok, Sem.run_pure]
  match us with
  | [] => rfl
  | [v] => rfl
  | _ :: _ :: _ => simp

theorem callN_ok (hcx : GoodCtx P cx) (hdraw : DrawnOk P cx) : ∀ d, CallOk P (callN cx P d)
  | 0 => fun g args H n K h => h.elim
  | d + 1 => by
    intro g args H n K h E vs hE hsz hrd
    rw [callN_succ] at h
    simp only [callS] at h
    split at h
    · rename_i fn hfn
      split at h
      · rename_i c hc
        split at h
        · rename_i hle
          obtain ⟨hname, h⟩ := h
          rw [forceL_eq] at h
          refine ⟨⟨fn, hfn, by rw [hc]; rfl, hname⟩, calls_of_wp hfn hc ?_⟩
          have hle' : (args.map noW).length ≤ fn.ntmps := by rw [List.length_map]; exact Nat.le_of_ble_eq_true hle
          obtain ⟨p1, p2⟩ := padTo_get fn.ntmps (args.map noW) hle'
          rw [List.length_map] at hle'
          refine exec_ok (n0 := n) hcx hdraw (callN_ok hcx hdraw d) c hE ?_ (Nat.le_refl _) h fun e E' a' sl' H' n' hk hE' hs' hevo hn' => ?_
          · refine ⟨?_, fun t => ?_, fun t c s w v ht => ?_, rfl⟩
            · rw [p1]; simp; omega
            · rw [p2, getN_map_noW]
              rcases Nat.lt_or_ge t args.length with hlt | hge
              · have hx := getN_of_lt (d := AV.any) hlt
                have hv : vs[t]? = some (vs[t]'(by omega)) := Array.getElem?_eq_getElem (by omega)
                have : (Act.mk (vs ++ Array.replicate (fn.ntmps - vs.size) undef) []).eval (.tmp t) = vs[t]'(by omega) := by
                  simp only [Act.eval, Array.getD_eq_getD_getElem?, Array.getElem?_append]
                  rw [if_pos (by omega), hv]
                  rfl
                rw [this]
                exact noW_ok (hrd t _ _ hv hx)
              · rw [getN_ge _ hge]; exact .any _
            · have hg : getN .any (padTo fn.ntmps (args.map noW)) t = .when c s w v := by rw [getN_eq, ht]; rfl
              rw [p2, getN_map_noW] at hg
              exact absurd hg (noW_ne _ _ _ _ _)
          · have fin : resultsK P sl' H' fn.results.toList (fun vs => oneK vs (fun v => K v H' n')) → bodyPost P fn (fun en w' => ∃ v E' x H' n', en = .returned v ∧ E'.w = w' ∧ n ≤ n' ∧ EnvOk E' H' n' ∧ RdA E' v x ∧ Evo n E E' ∧ K x H' n') .ret a' E'.w := by
              intro hk
              obtain ⟨us, ws, k1, k2, k3, k4, k5⟩ := resultsK_ok (P := P) hE' hs' _ _ hk
              refine ⟨hs'.defers, _, run_results k5, ?_⟩
              match us, ws, k1, k2, k4 with
              | [], [], k1, _, _ => exact ⟨_, E', .tup [], H', n', rfl, rfl, hn', hE', .tup _ _ rfl (fun i u x hu => by simp at hu), hevo, k1⟩
              | [u], [x], k1, _, k4 => exact ⟨_, E', x, H', n', rfl, rfl, hn', hE', k4 0 u x rfl rfl, hevo, k1⟩
              | u :: u' :: us, x :: x' :: xs, k1, k2, k4 =>
                exact ⟨_, E', .tup (x :: x' :: xs), H', n', rfl, rfl, hn', hE', .tup _ _ (by simpa using k2) (fun i v y hv hy => k4 i v y (by simpa using hv) hy), hevo, k1⟩
              | [], _ :: _, _, k2, _ => exact absurd k2 (by simp)
              | _ :: _, [], _, k2, _ => exact absurd k2 (by simp)
              | [_], _ :: _ :: _, _, k2, _ => exact absurd k2 (by simp)
              | _ :: _ :: _, [_], _, k2, _ => exact absurd k2 (by simp)
            cases e with
            | normal => exact fin hk
            | ret => exact fin hk
            | exit m => exact hk.elim
        · exact h.elim
      · exact h.elim
    · exact h.elim

end
end Go.Sx
