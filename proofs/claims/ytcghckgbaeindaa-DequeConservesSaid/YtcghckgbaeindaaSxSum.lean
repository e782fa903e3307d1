/- Calls that are carried out by a summary: what is said of them is so. -/
import Derived.Test.YtcghckgbaeindaaSxFn
set_option linter.unusedSimpArgs false
set_option linter.unusedVariables false
namespace Go.Sx
open Go.ChangeShapes Go.WideShapes Go.ChangeAt Go.RowKit

section
variable {P : Program} {cx : Ctx}

theorem callS_ok (hcx : GoodCtx P cx) (hdraw : DrawnOk P cx) {sem : CallSem} (hsem : CallOk P sem) : CallOk P (callS cx P sem) := by
    intro g args H n K h E vs hE hsz hrd
    simp only [callS] at h
    split at h
    · rename_i fn hfn
      split at h
      · rename_i c hc
        split at h
        · rename_i hle
          obtain ⟨hname, h⟩ := h
          rw [forceL_eq] at h
          refine ⟨⟨fn, hfn, by rw [hc]; rfl, hname⟩, calls_of_wp hfn hc ?_⟩
          have hle' : (args.map noW).length ≤ fn.ntmps := by rw [List.length_map]; exact Nat.le_of_ble_eq_true hle
          obtain ⟨p1, p2⟩ := padTo_get fn.ntmps (args.map noW) hle'
          rw [List.length_map] at hle'
          refine exec_ok (n0 := n) hcx hdraw hsem c hE ?_ (Nat.le_refl _) h fun e E' a' sl' H' n' hk hE' hs' hevo hn' => ?_
          · refine ⟨?_, fun t => ?_, fun t c s w v ht => ?_, rfl⟩
            · rw [p1]; simp; omega
            · rw [p2, getN_map_noW]
              rcases Nat.lt_or_ge t args.length with hlt | hge
              · have hx := getN_of_lt (d := AV.any) hlt
                have hv : vs[t]? = some (vs[t]'(by omega)) := Array.getElem?_eq_getElem (by omega)
                have : (Act.mk (vs ++ Array.replicate (fn.ntmps - vs.size) undef) []).eval (.tmp t) = vs[t]'(by omega) := by
                  simp only [Act.eval, Array.getD_eq_getD_getElem?, Array.getElem?_append]
                  rw [if_pos (by omega), hv]
                  rfl
                rw [this]
                exact noW_ok (hrd t _ _ hv hx)
              · rw [getN_ge _ hge]; exact .any _
            · have hg : getN .any (padTo fn.ntmps (args.map noW)) t = .when c s w v := by rw [getN_eq, ht]; rfl
              rw [p2, getN_map_noW] at hg
              exact absurd hg (noW_ne _ _ _ _ _)
          · have fin : resultsK P sl' H' fn.results.toList (fun vs => oneK vs (fun v => K v H' n')) → bodyPost P fn (fun en w' => ∃ v E' x H' n', en = .returned v ∧ E'.w = w' ∧ n ≤ n' ∧ EnvOk E' H' n' ∧ RdA E' v x ∧ Evo n E E' ∧ K x H' n') .ret a' E'.w := by
              intro hk
              obtain ⟨us, ws, k1, k2, k3, k4, k5⟩ := resultsK_ok (P := P) hE' hs' _ _ hk
              refine ⟨hs'.defers, _, run_results k5, ?_⟩
              match us, ws, k1, k2, k4 with
              | [], [], k1, _, _ => exact ⟨_, E', .tup [], H', n', rfl, rfl, hn', hE', .tup _ _ rfl (fun i u x hu => by simp at hu), hevo, k1⟩
              | [u], [x], k1, _, k4 => exact ⟨_, E', x, H', n', rfl, rfl, hn', hE', k4 0 u x rfl rfl, hevo, k1⟩
              | u :: u' :: us, x :: x' :: xs, k1, k2, k4 =>
                exact ⟨_, E', .tup (x :: x' :: xs), H', n', rfl, rfl, hn', hE', .tup _ _ (by simpa using k2) (fun i v y hv hy => k4 i v y (by simpa using hv) hy), hevo, k1⟩
              | [], _ :: _, _, k2, _ => exact absurd k2 (by simp)
              | _ :: _, [], _, k2, _ => exact absurd k2 (by simp)
              | [_], _ :: _ :: _, _, k2, _ => exact absurd k2 (by simp)
              | _ :: _ :: _, [_], _, k2, _ => exact absurd k2 (by simp)
            cases e with
            | normal => exact fin hk
            | ret => exact fin hk
            | exit m => exact hk.elim
        · exact h.elim
      · exact h.elim
    · exact h.elim

theorem goodC_ofS {call : CallSem} (hcall : CallOk P call) {g : FuncId} {C : Ctr} (hfn : ∃ fn, P.funcs[g]? = some fn ∧ fn.body.isSome = true ∧ (fn.name == "runtime.NumGoroutine") = false)
    (hgen : ∀ args r, C args = some r → ∀ k, r.gen k → k r.cr.res) (h : ∀ args r gen, C args = some ⟨r, gen⟩ → OptP r.need → call g args [] 0 (finK r)) : GoodC P g C := by
  refine ⟨hfn, hgen, fun args r gen hC hn w F0 vs hF hsz hrd => ?_⟩
  obtain ⟨_, hc⟩ := hcall g args [] 0 _ (h args r gen hC hn) (Env.base w F0) vs (base_ok hF) hsz hrd
  refine hc.mono fun en w' hpost => ?_
  obtain ⟨v, E', x, H', n', rfl, hw, _, hE', hv, hevo, hk⟩ := hpost
  exact fin_ok hE' hv hevo hw hk

end

theorem goodC_oneS {P : Program} {call : CallSem} (hcall : CallOk P call) {g : FuncId} (hfn : ∃ fn, P.funcs[g]? = some fn ∧ fn.body.isSome = true ∧ (fn.name == "runtime.NumGoroutine") = false) (a : List AV) (r : CR)
    (h : call g a [] 0 (finK r)) : ∃ C : Ctr, GoodC P g C ∧ C a = some ⟨r, fun k => k r.res⟩ := by
  refine ⟨fun args => @ite _ (args = a) (Classical.propDecidable _) (some ⟨r, fun k => k r.res⟩) none, goodC_ofS hcall hfn (fun args r' hC k hk => ?_) fun args r' _ hC _ => ?_, by simp⟩
  · split at hC
    · cases hC; exact hk
    · cases hC
  split at hC
  · rename_i he
    cases hC
    rw [he]
    exact h
  · cases hC


theorem law_liftedS {H : Type} {en : TypeId × Value → H} {C : Checked} {os : Os} {f : FuncId} {fn : Func} {s : ChangeSpec} {tb : TypeId} (call : CallSem) (tys : List Ty) (ss : List Bool) (hcall : CallOk C.prog call)
    (own : ownKnob C.prog.godebug = none) (started : os.Started) (noInit : C.prog.inits.idxOf? f = none) (hfn : C.prog.funcs[f]? = some fn)
    (witness : ∃ (w : World) (tape : Tape) (i : Input), w.os = os ∧ (w.forCall tape i).Shaped C.prog ∧ i.vars = [] ∧ Input.okWide C.prog (w.forCall tape i) .any w.heap.size f i ∧
      s.pre6 en C.prog fn [] false (w.forCall tape i).memory i.args ∧ ({} : Assume).holds C.prog (lone (Frame.enter C.prog f i.args .normal) [] (w.forCall tape i)))
    (hl : laidOutB C.prog = true) (hts : fn.params.toList.all (fun t => C.prog.readableRec t && Nat.blt t C.prog.types.size) = true) (hfit : fitsAll C.prog tys fn.params.toList = true) (hss : fn.params.toList.map (isStruct C.prog) = ss)
    (hv : s.vars = []) (hs : ∀ ds : List (DataW H), ds.length = tys.length → (s.fn H ds).results = [.lit (.bool true)] ∧ (s.fn H ds).args = ds ∧ (s.fn H ds).vars = [])
    (hr : fn.resultTypes = #[tb]) (ht : C.prog.underlying tb = some .bool) (hb : fn.body.isSome = true ∧ (fn.name == "runtime.NumGoroutine") = false)
    (h : ∀ y : Dens tys, fineAll tys y → call f (argAVs ss tys y) [] 0 (finK ⟨none, none, [], .bool true⟩)) :
    ReturnsInHanded {} C os f .any (s.pre6 en C.prog fn [] false) (s.post en C.prog fn false true false false) := by
  refine returnsInHanded_of_change own started noInit hfn witness ?_
  intro W base args ds gs before hval hW hcnd _
  have hW' := hW
  obtain ⟨p, q, hA, hV, rfl, hfz, hnd⟩ := hW
  have hgs : gs = [] := by
    rw [hv] at hV
    exact (trodVars_none hV).1
  subst hgs
  obtain ⟨y, hy, hlen, hrd⟩ := args_rd hfit (fun j t v h1 h2 => hval j t v (by simpa using h1) (by simpa using h2)) hA
  rw [hss] at hlen hrd
  obtain ⟨Ct, hgood, hCt⟩ := goodC_oneS hcall ⟨fn, hfn, hb⟩ _ _ (h y hy)
  have hdl : ds.length = tys.length := by
    have h1 : ∀ {ts : List TypeId} {vs : List Value} {ds : List (DataW H)} {ps : List MemPlace}, DataW.TrodAll en C.prog W 0 (fun _ => true) true ts vs ds ps → ds.length = ts.length := by
      intro ts
      induction ts with
      | nil => intro vs ds ps h; obtain ⟨_, rfl, _⟩ := trodAll_nil h; rfl
      | cons t ts ih => intro vs ds ps h; obtain ⟨_, _, _, _, _, _, _, rfl, _, _, h2⟩ := trodAll_cons h; simp [ih h2]
    have h2 : ∀ {tys : List Ty} {ts : List TypeId}, fitsAll C.prog tys ts = true → ts.length = tys.length := by
      intro tys
      induction tys with
      | nil => intro ts h; cases ts with | nil => rfl | cons _ _ => simp [fitsAll] at h
      | cons t tys ih => intro ts h; cases ts with | nil => simp [fitsAll] at h | cons _ ts => simp only [fitsAll, Bool.and_eq_true] at h; simp [ih h.2]
    rw [h1 hA, h2 hfit]
  obtain ⟨e1, e2, e3⟩ := hs ds hdl
  refine (hgood.calls _ _ _ hCt trivial W (allOld W) args (fun b _ hb => hb) (by rw [hlen]; simp) (fun i v x h1 h2 => hrd i v x (by simpa using h1) h2)).mono fun e W' hpost => ?_
  obtain ⟨_, v, hd, rfl, hbel, hrv, _⟩ := hpost
  have := hrv.bool_inv
  subst this
  refine ⟨_, rfl, law_post hl (fun t htm => ?_) hv hW' (by rw [List.append_nil]; exact e1) (by rw [List.append_nil]; exact e2) (by rw [List.append_nil]; exact e3) hbel hr ht⟩
  have := List.all_eq_true.1 hts t htm
  simp only [Bool.and_eq_true, Nat.blt_eq] at this
  exact this


/-- What a law owes, as its symbolic execution. -/
def LawOkS (P : Program) (f : FuncId) (tys : List Ty) (ss : List Bool) : Prop :=
  ∃ call : CallSem, CallOk P call ∧ ∀ y : Dens tys, fineAll tys y → call f (argAVs ss tys y) [] 0 (finK ⟨none, none, [], resAV [(false, .bool)] (true, ())⟩)

/-- A law, at the form of its row. -/
theorem law_rowS {p : Pinned} {s : ChangeSpec} {c : OpenClaim} (f : FuncId) (fn : Func) (tys : List Ty) (ss : List Bool) (tb : TypeId)
    (hn : c.program = p.name) (hs : c.sum = p.sum) (hsp : c.spec = s.name)
    (hstart : c.start = .entering) (hout : c.outside = []) (hin : c.inits = []) (hun : c.under = none) (hi4 : c.initsInPlace = [] ∧ c.initsUnfollowed = false ∧ c.initsRecurse = false ∧ c.initsNamed = [] ∧ c.initsPassed = []) (hnb : c.noBlocks = false) (hlv : c.leaving = false) (hfo : c.followed = none) (hnar : c.narrowed = false) (hstill : c.still = false)
    (hfn : p.checked.prog.funcNamed c.func = some f) (hf : p.checked.prog.funcs[f]? = some fn)
    (closed : joinedFacts p.checked.prog f fn s c = true)
    (hinst : fn.isInstance p.checked.prog c.origin c.targs) (hwrap : fn.isWrapper p.checked.prog c.wrapper c.mainSum)
    (hcell : c.assume = {} ∧ c.domain = [] ∧ c.apart = false ∧ c.fresh = true ∧ c.handsOn = false ∧ c.again = false)
    (hpre : ∀ (H : Type) (enc : TypeId × Value → H), c.pre enc p.checked.prog fn (OpenSpec.ofChange s) = s.pre6 enc p.checked.prog fn [] false)
    (own : ownKnob p.checked.prog.godebug = none) (noInit : p.checked.prog.inits.idxOf? f = none)
    (witness : ∀ (os : Os) (H : Type) (en : TypeId × Value → H), ∃ (w : World) (tape : Tape) (i : Input), w.os = os ∧ (w.forCall tape i).Shaped p.checked.prog ∧ i.vars = [] ∧ Input.okWide p.checked.prog (w.forCall tape i) .any w.heap.size f i ∧
      s.pre6 en p.checked.prog fn [] false (w.forCall tape i).memory i.args ∧ ({} : Assume).holds p.checked.prog (lone (Frame.enter p.checked.prog f i.args .normal) [] (w.forCall tape i)))
    (hl : laidOutB p.checked.prog = true) (hts : fn.params.toList.all (fun t => p.checked.prog.readableRec t && Nat.blt t p.checked.prog.types.size) = true) (hfit : fitsAll p.checked.prog tys fn.params.toList = true) (hss : fn.params.toList.map (isStruct p.checked.prog) = ss)
    (hv : s.vars = []) (hsd : ∀ (H : Type) (ds : List (DataW H)), ds.length = tys.length → (s.fn H ds).results = [.lit (.bool true)] ∧ (s.fn H ds).args = ds ∧ (s.fn H ds).vars = [])
    (hr : fn.resultTypes = #[tb]) (ht : p.checked.prog.underlying tb = some .bool) (hb : fn.body.isSome = true ∧ (fn.name == "runtime.NumGoroutine") = false)
    (h : LawOkS p.checked.prog f tys ss) : c.holds p (OpenSpec.ofChange s) := by
  obtain ⟨call, hcall, h⟩ := h
  refine OpenClaim.holds_of_wide f fn hn hs hsp hstart hout hin hun hi4 hnb hlv hfo hnar hstill hfn hf closed hinst hwrap fun os started H enc _ => ?_
  rw [hpre H enc, hcell.1, hcell.2.2.1, hcell.2.2.2.1, hcell.2.2.2.2.1, hcell.2.2.2.2.2]
  exact law_liftedS call tys ss hcall own started noInit hf (witness os H enc) hl hts hfit hss hv (hsd H) hr ht hb h

end Go.Sx
