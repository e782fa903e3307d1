import Derived.Test.YticmijfmgmkkcaaGreatVSxRun
set_option linter.unusedSimpArgs false
set_option linter.unusedVariables false
set_option maxRecDepth 100000
namespace Go.Sx
open Go.RowKit
theorem drew_evo (n:Nat) (E:Env):Evo n E { E with w:={ E.w with drawn:=E.w.drawn+1 } } :=
 ⟨rfl,rfl,rfl,(Below.refl _ _).drew,fun _ _ h=>h,fun _ _ _ h=>⟨h,rfl⟩,fun _ _ _ _ _ _ h=>h,fun _ h=>⟨h,rfl⟩,rfl,fun _ _=>rfl⟩
theorem EnvOk.drew {E:Env} {H:List Ob} {n:Nat} (h:EnvOk E H n):EnvOk { E with w:={ E.w with drawn:=E.w.drawn+1 } } H n :=
 ⟨h.len,h.ns,h.live,h.wr,fun id hl hne=>OkOb.mono (drew_evo n E) h.ns (h.sub id hl) hl rfl (fun _ _=>rfl) (h.ok id hl hne),h.sub,h.wl,h.injO,h.ltO,h.f0,h.B,h.hid,h.hlt⟩
section
variable {P:Program} {cx:Ctx} {call:CallSem} {E:Env} {a:Act} {opsA:Array Oper} {sl:List AV} {H:List Ob} {n:Nat} {r:Res} {e:Operand→AV}
 {K:Kont} {Q:Exit→Act→World→Prop} {ro:Option Nat}
theorem evOp_still {o:Oper} (hL:∀ id,E.A id→getOb H id≠.dead→E.L id) (hH:∀ id,E.L id→getOb H id≠.dead→OkOb E id (getOb H id)) (hx:∀ x∈o.op.operands.toList,RdA E (a.eval x) (e x)) (hn:OptP r.need)
 (hst:stillOp o.op=true) (h:evOp cx P e H n o=some r):PureRun P E a o r:=by
 obtain ⟨dst,op,ty,pos,after,guard⟩:=o
 cases op with
 | move x=>exact s_move (hx x (by simp [Op.operands])) h
 | assign x=>exact s_assign (hx x (by simp [Op.operands])) h
 | extract x i=>exact s_extract (hx x (by simp [Op.operands])) h
 | makeFunc f xs ys=>exact s_makeFunc (fun x hm=>hx x (by simp only [Op.operands,Array.toList_append,List.mem_append];exact .inl hm)) (fun x hm=>hx x (by simp only [Op.operands,Array.toList_append,List.mem_append];exact .inr hm)) h
 | load t x=>exact s_load hL hH (hx x (by simp [Op.operands])) hn h
 | nilCheck x=>exact s_nilCheck (hx x (by simp [Op.operands])) h
 | binOp op t x y u=>exact s_binOp (hx x (by simp [Op.operands])) (hx y (by simp [Op.operands])) hn h
 | unOp op t x=>exact s_unOp (hx x (by simp [Op.operands])) hn h
 | convert s d x=>exact s_convert (hx x (by simp [Op.operands])) hn h
 | fieldAddr t x f=>exact s_fieldAddr (hx x (by simp [Op.operands])) h
 | field t x f=>exact s_field (hx x (by simp [Op.operands])) h
 | index t x ix=>exact s_index (hx x (by simp [Op.operands])) (hx ix (by simp [Op.operands])) hn h
 | indexAddr t x ix=>exact s_indexAddr hL hH (hx x (by simp [Op.operands])) (hx ix (by simp [Op.operands])) hn h
 | slice t x lo hi mx=>exact s_slice hL hH (hx x (by simp [Op.operands])) (fun o ho=>hx o (by simp [Op.operands,ho])) (fun o ho=>hx o (by simp [Op.operands,ho])) (fun o ho=>hx o (by simp [Op.operands,ho])) hn h
 | call c =>
  obtain ⟨callee,args,ts⟩:=c
  cases callee with
  | builtin b =>
   cases b with
   | len=>exact s_len rfl hL hH (fun x hm=>hx x (by simp only [Op.operands,Call.operands];simpa using hm)) hn h
   | _=>cases hst
  | _=>cases hst
 | _=>cases hst
end
end Go.Sx
