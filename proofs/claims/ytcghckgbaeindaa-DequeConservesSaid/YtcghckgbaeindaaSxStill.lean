/- A region whose order is drawn, whose head only reads, and whose tail has one order: what the symbolic execution says of it is so. -/
import Derived.Test.YtcghckgbaeindaaSxRun
import Derived.StillTail
set_option linter.unusedSimpArgs false
set_option linter.unusedVariables false
namespace Go.Sx
open Go.RowKit

theorem drew_evo (n : Nat) (E : Env) : Evo n E { E with w := { E.w with drawn := E.w.drawn + 1 } } :=
  ⟨rfl, rfl, (Below.refl _ _).drew, fun _ _ h => h, fun _ _ _ h => ⟨h, rfl⟩, fun _ _ h => ⟨h, rfl⟩⟩

theorem EnvOk.drew {E : Env} {H : List Ob} {n : Nat} (h : EnvOk E H n) : EnvOk { E with w := { E.w with drawn := E.w.drawn + 1 } } H n :=
  ⟨h.len, h.ns, h.live, h.wr, fun id hl hne => OkOb.mono (drew_evo n E) h.ns (h.sub id hl) hl (fun _ _ => rfl) (h.ok id hl hne), h.sub, h.wl, h.inj, h.lt, h.f0, h.B⟩


section
variable {P : Program} {cx : Ctx} {call : CallSem} {E : Env} {a : Act} {opsA : Array Oper} {sl : List AV} {H : List Ob} {n : Nat} {r : Res} {e : Operand → AV}
  {K : Kont} {Q : Exit → Act → World → Prop}

theorem evOp_still {o : Oper} (hL : ∀ id, E.A id → getOb H id ≠ .dead → E.L id) (hH : ∀ id, E.L id → getOb H id ≠ .dead → OkOb E id (getOb H id)) (hx : ∀ x ∈ o.op.operands.toList, RdA E (a.eval x) (e x)) (hn : OptP r.need)
    (hst : stillOp o.op = true) (h : evOp cx P e H n o = some r) : PureRun P E a o r := by
  obtain ⟨dst, op, ty, pos, after, guard⟩ := o
  cases op with
  | move x => exact s_move (hx x (by simp [Op.operands])) h
  | assign x => exact s_assign (hx x (by simp [Op.operands])) h
  | extract x i => exact s_extract (hx x (by simp [Op.operands])) h
  | makeFunc f xs ys => exact s_makeFunc (fun x hm => hx x (by simp only [Op.operands, Array.toList_append, List.mem_append]; exact .inl hm)) (fun x hm => hx x (by simp only [Op.operands, Array.toList_append, List.mem_append]; exact .inr hm)) h
  | load t x => exact s_load hL hH (hx x (by simp [Op.operands])) h
  | nilCheck x => exact s_nilCheck (hx x (by simp [Op.operands])) h
  | binOp op t x y u => exact s_binOp (hx x (by simp [Op.operands])) (hx y (by simp [Op.operands])) hn h
  | unOp op t x => exact s_unOp (hx x (by simp [Op.operands])) hn h
  | convert s d x => exact s_convert (hx x (by simp [Op.operands])) hn h
  | fieldAddr t x f => exact s_fieldAddr (hx x (by simp [Op.operands])) h
  | field t x f => exact s_field (hx x (by simp [Op.operands])) h
  | indexAddr t x ix => exact s_indexAddr hL hH (hx x (by simp [Op.operands])) (hx ix (by simp [Op.operands])) hn h
  | slice t x lo hi mx => exact s_slice hL hH (hx x (by simp [Op.operands])) (fun o ho => hx o (by simp [Op.operands, ho])) (fun o ho => hx o (by simp [Op.operands, ho])) hn h
  | call c =>
    obtain ⟨callee, args, ts⟩ := c
    cases callee with
    | builtin b =>
      cases b with
      | len => exact s_len rfl hL hH (fun x hm => hx x (by simp only [Op.operands, Call.operands]; simpa using hm)) h
      | _ => cases hst
    | _ => cases hst
  | _ => cases hst

theorem head_ok (hE : EnvOk E H n) {L : Act → Prop} {ops : Array Oper} : ∀ (l : List Oper) {a : Act} {sl : List AV} {K : List AV → Prop}, SlOk E a sl → runHead cx P l sl H n K → (∀ a' sl', K sl' → SlOk E a' sl' → L a') → wpStill P ops E.w L l a
  | [], a, sl, K, hs, h, hK => hK a sl h hs
  | o :: l, a, sl, K, hs, h, hK => by
    simp only [runHead] at h
    split at h
    · rename_i r hg hst hev
      rw [needP_iff, givenP_iff] at h
      obtain ⟨hn, h⟩ := h
      have rd : ∀ x ∈ o.op.operands.toList, RdA E (a.eval x) (ev sl x) := fun x _ => by
        cases x with
        | tmp t => exact hs.rd t
        | const v => exact ofConst_ok v
        | global g => exact .any _
        | func f => exact .fn _ _ _ _ _ rfl rfl (fun i v x hv _ => by simp at hv) (fun i v x hv _ => by simp at hv)
      obtain ⟨v, h1, h2, h3⟩ := (evOp_still (fun id _ => hE.live id) hE.ok rd hn hst hev).run
      have h := h h3
      rw [forceA_eq] at h
      obtain ⟨sl', k1, k2, _⟩ := hs.put (noW_ok h2) (fun c s w x hw => absurd hw (noW_ne _ _ _ _ _)) h
      simp only [wpStill]
      rw [if_pos (by simp [Region.wanted, hg])]
      unfold Oper.still
      rw [h1, Oper.stillUpon_value]
      exact head_ok hE l k2 k1 hK
    · exact h.elim

theorem still_ok (hcx : GoodCtx P cx) (hcall : CallOk P call) {id : Nat} (hE : EnvOk E H n) (hs : SlOk E a sl) (hB : (P.follows .mixedOrders && Region.lexTailB .any opsA (callAt opsA.toList)) = true)
    (h : runHead cx P (opsA.toList.take (callAt opsA.toList)) sl H n (fun sl' => runOps cx P call opsA.toList (opsA.toList.drop (callAt opsA.toList)) sl' H n K))
    (hK : ∀ E' a' sl' H' n', K sl' H' n' → EnvOk E' H' n' → SlOk E' a' sl' → Evo n E E' → n ≤ n' → Q .normal a' E'.w) : (Code.region id opsA true).wp P Q a E.w := by
  simp only [Bool.and_eq_true] at hB
  have hE1 := hE.drew
  have hs1 : SlOk { E with w := { E.w with drawn := E.w.drawn + 1 } } a sl := hs.mono (drew_evo n E) hE.ns
  have := wp_region_still_tail (P := P) (Q := Q) (a := a) (w := E.w) (id := id) (l := opsA.toList) (callAt opsA.toList) hB.1 (by simpa using hB.2)
    (head_ok (ops := opsA.toList.toArray) (L := fun a' => wpList P opsA.toList.toArray Q (opsA.toList.drop (callAt opsA.toList)) a' { E.w with drawn := E.w.drawn + 1 }) hE1 _ hs1 h fun a' sl' hk hs' => by
      simp only [Array.toArray_toList]
      exact runOps_ok (E := { E with w := { E.w with drawn := E.w.drawn + 1 } }) hcx hcall _ hE1 hs' hk fun E' a' sl' H' n' hk hE' hs' hevo hn' => hK E' a' sl' H' n' hk hE' hs' ((drew_evo _ E).trans hevo) hn')
  simpa using this

end
end Go.Sx
