import Derived.Test.YticmijfmgmkkcaaGreatVSxOps1
set_option linter.unusedSimpArgs false
set_option linter.unusedVariables false
set_option maxRecDepth 100000
namespace Go.Sx
open Go.RowKit
structure PureRun (P:Program) (E:Env) (a:Act) (o:Oper) (r:Res):Prop where
 news:r.news=[]
 kill:r.kill=none
 st:r.st=none
 frz:r.frz=[]
 run:∃ v,(execOp a.eval o).run P E.w=.ok (.value v) E.w∧RdA E v r.val∧OptP r.given
section
variable {P:Program} {cx:Ctx} {E:Env} {a:Act} {e:Operand→AV} {H:List Ob} {n:Nat} {r:Res}
 {dst:Option Tmp} {ty:TypeId} {pos:String} {after:Array Go.Edge} {guard:Option (Nat × Bool)}
theorem s_move {x:Operand} (hx:RdA E (a.eval x) (e x)) (h:evOp cx P e H n ⟨dst,.move x,ty,pos,after,guard⟩=some r):PureRun P E a ⟨dst,.move x,ty,pos,after,guard⟩ r:=by
 simp only [evOp,Option.some.injEq] at h
 subst h
 exact ⟨rfl,rfl,rfl,rfl,_,rfl,hx,trivial⟩
theorem s_assign {x:Operand} (hx:RdA E (a.eval x) (e x)) (h:evOp cx P e H n ⟨dst,.assign x,ty,pos,after,guard⟩=some r):PureRun P E a ⟨dst,.assign x,ty,pos,after,guard⟩ r:=by
 simp only [evOp,Option.some.injEq] at h
 subst h
 exact ⟨rfl,rfl,rfl,rfl,_,rfl,hx,trivial⟩
theorem kind_eq {k k':IntKind} (h:IntKind.beq' k k'=true):k=k':=by
 cases k <;> cases k' <;> first | rfl | cases h
theorem unwrap_ok {s:Nat} {w:Bool} {x:Operand} (hx:RdA E (a.eval x) (e x)) (hw:∀ c w v,e x=.when c s w v→a.eval (.tmp s)=.bool w→c)
 (hs:a.eval (.tmp s)=.bool w):RdA E (a.eval x) (unwrap s w (e x)):=by
 cases hv:e x with
 | when c s' w' v =>
  simp only [unwrap]
  split
  ·rename_i hc
   simp only [Bool.and_eq_true,beq_iff_eq] at hc
   obtain ⟨h1,h2⟩:=hc
   have h1':=Nat.eq_of_beq_eq_true h1
   subst h1';subst h2
   have hc':=hw _ _ _ hv hs
   rw [hv] at hx
   exact hx.when_inv.1 hc'
  ·rw [← hv];exact hx
 | _=>rw [hv] at hx;exact hx
theorem pickV_ok {q:Bool} {va vb:Value} {x y:AV} (h:pickV q x y=some r) (hx:q=true→RdA E va x) (hy:q=false→RdA E vb y) :
 r.news=[]∧r.kill=none∧r.st=none∧r.frz=[]∧RdA E (if q then va else vb) r.val∧OptP r.given:=by
 unfold pickV at h
 split at h
 ·cases h
  refine ⟨rfl,rfl,rfl,rfl, ?_,trivial⟩
  cases q
  ·have:=hy rfl;cases this;exact .bool _
  ·have:=hx rfl;cases this;exact .bool _
 ·split at h
  ·rename_i hk
   have:=kind_eq hk
   subst this
   cases h
   refine ⟨rfl,rfl,rfl,rfl, ?_,trivial⟩
   cases q
   ·have:=hy rfl;cases this;exact .int _ _
   ·have:=hx rfl;cases this;exact .int _ _
  ·cases h
 ·cases h
theorem s_pick {c x y:Operand} (hc:RdA E (a.eval c) (e c)) (hx:RdA E (a.eval x) (e x)) (hy:RdA E (a.eval y) (e y))
 (hwx:∀ s,c=.tmp s→∀ q w v,e x=.when q s w v→a.eval (.tmp s)=.bool w→q) (hwy:∀ s,c=.tmp s→∀ q w v,e y=.when q s w v→a.eval (.tmp s)=.bool w→q)
 (h:evOp cx P e H n ⟨dst,.pick c x y,ty,pos,after,guard⟩=some r):PureRun P E a ⟨dst,.pick c x y,ty,pos,after,guard⟩ r:=by
 simp only [evOp] at h
 split at h
 ·rename_i q hq
  split at h
  ·rename_i s
   rw [hq] at hc
   have hs:a.eval (.tmp s)=.bool q:=by
    revert hc
    generalize a.eval (.tmp s)=vv
    intro hc
    cases hc
    rfl
   obtain ⟨h1,h2,h3,h4,h5,h6⟩:=pickV_ok (va:=a.eval x) (vb:=a.eval y) h (fun hq'=>unwrap_ok hx (hwx _ rfl) (hq' ▸ hs)) (fun hq'=>unwrap_ok hy (hwy _ rfl) (hq' ▸ hs))
   exact ⟨h1,h2,h3,h4,_,by simp [execOp,hs,asBool],h5,h6⟩
  ·cases h
 ·cases h
theorem s_extract {x:Operand} {i:Nat} (hx:RdA E (a.eval x) (e x)) (h:evOp cx P e H n ⟨dst,.extract x i,ty,pos,after,guard⟩=some r):PureRun P E a ⟨dst,.extract x i,ty,pos,after,guard⟩ r:=by
 simp only [evOp] at h
 split at h
 ·rename_i vs hv
  split at h
  ·rename_i hlt
   cases h
   rw [hv] at hx
   generalize hval:a.eval x=val at hx
   cases hx
   rename_i us hsz hr
   have hlt':i < vs.length:=Nat.le_of_ble_eq_true hlt
   have h1:us[i]?=some (us[i]'(by omega)):=Array.getElem?_eq_getElem (by omega)
   refine ⟨rfl,rfl,rfl,rfl,us[i]'(by omega), ?_,hr i _ _ h1 (getN_of_lt hlt'),trivial⟩
   simp [execOp,hval,Instr.extract,h1]
  ·cases h
 ·cases h
theorem map_rd {l:Array Operand} (h:∀ x∈l.toList,RdA E (a.eval x) (e x)):(l.map a.eval).size=(l.toList.map e).length ∧
 ∀ (i:Nat) v x,(l.map a.eval)[i]?=some v→(l.toList.map e)[i]?=some x→RdA E v x:=by
 refine ⟨by simp,fun i v x hv hx=>?_⟩
 simp only [Array.getElem?_map,Option.map_eq_some_iff] at hv
 obtain ⟨y,hy,rfl⟩:=hv
 simp only [List.getElem?_map,Option.map_eq_some_iff] at hx
 obtain ⟨z,hz,rfl⟩:=hx
 have:l.toList[i]?=some y:=by simpa using hy
 rw [this] at hz
 cases hz
 exact h y (List.mem_of_getElem? this)
theorem s_makeFunc {f:Fn} {xs ys:Array Operand} (h1:∀ x∈xs.toList,RdA E (a.eval x) (e x)) (h2:∀ x∈ys.toList,RdA E (a.eval x) (e x))
 (h:evOp cx P e H n ⟨dst,.makeFunc f xs ys,ty,pos,after,guard⟩=some r):PureRun P E a ⟨dst,.makeFunc f xs ys,ty,pos,after,guard⟩ r:=by
 simp only [evOp,Option.some.injEq] at h
 subst h
 refine ⟨rfl,rfl,rfl,rfl,.func f (xs.map a.eval) (ys.map a.eval),by simp [execOp,Instr.makeFunc], ?_,trivial⟩
 exact .fn f _ _ _ _ (map_rd h1).1 (map_rd h2).1 (map_rd h1).2 (map_rd h2).2
theorem s_nilCheck {x:Operand} (hx:RdA E (a.eval x) (e x))
 (h:evOp cx P e H n ⟨dst,.nilCheck x,ty,pos,after,guard⟩=some r):PureRun P E a ⟨dst,.nilCheck x,ty,pos,after,guard⟩ r:=by
 simp only [evOp] at h
 split at h
 ·rename_i id off hv
  cases h
  have hx':=hx
  rw [hv] at hx
  obtain ⟨b,o,h3⟩:=hx.ptr_inv.2.1
  exact ⟨rfl,rfl,rfl,rfl,a.eval x,by simp [execOp,h3],by rw [← hv];exact hx',trivial⟩
 ·rename_i id k row off hv
  cases h
  have hx':=hx
  rw [hv] at hx
  obtain ⟨b,o,h3⟩:=hx.rptr_inv.2.1
  exact ⟨rfl,rfl,rfl,rfl,a.eval x,by simp [execOp,h3],by rw [← hv];exact hx',trivial⟩
 ·rename_i cs hv
  cases h
  have hx':=hx
  rw [hv] at hx
  generalize hval:a.eval x=val at hx
  cases hx
  exact ⟨rfl,rfl,rfl,rfl,a.eval x,by simp [execOp,hval],by rw [← hv];exact hx',trivial⟩
 ·rename_i f xs ys hv
  cases h
  have hx':=hx
  rw [hv] at hx
  generalize hval:a.eval x=val at hx
  cases hx
  exact ⟨rfl,rfl,rfl,rfl,a.eval x,by simp [execOp,hval],by rw [← hv];exact hx',trivial⟩
 ·cases h
theorem wrap_in {k:IntKind} {m:Int} (h:inK k m):k.wrap m=m:=by
 cases k <;> simp only [inK] at h <;> simp [IntKind.wrap,IntKind.bits,IntKind.signed] <;> (try split) <;> omega
theorem arith_ok {op:BinOp} {k:IntKind} {p q:Int} {t:TypeId} (h:arith op k p q=some r) (hn:OptP r.need) :
 r.news=[]∧r.kill=none∧r.st=none∧r.frz=[]∧OptP r.given∧∃ v,(binOp op t (.int k p) (.int k q)).run P E.w=.ok v E.w∧RdA E v r.val:=by
 cases op <;> simp only [arith,Option.some.injEq,reduceCtorEq] at h <;> subst h <;> refine ⟨rfl,rfl,rfl,rfl,trivial, ?_⟩ <;> simp only [OptP] at hn
 ·exact ⟨_,by simp [binOp,Op.intArith,wrap_in hn],.int _ _⟩
 ·exact ⟨_,by simp [binOp,Op.intArith,wrap_in hn],.int _ _⟩
 ·exact ⟨_,by simp [binOp,Op.intArith,wrap_in hn],.int _ _⟩
 ·exact ⟨_,by simp [binOp,Op.intDiv,wrap_in hn.2,hn.1],.int _ _⟩
 ·exact ⟨_,by simp [binOp,Op.intDiv,hn],.int _ _⟩
 ·exact ⟨_,by simp [binOp,Op.intBits,bandI],.int _ _⟩
 ·exact ⟨_,by simp [binOp,Op.intBits,borI],.int _ _⟩
 ·exact ⟨_,by simp [binOp,Op.intBits,bxorI],.int _ _⟩
 ·exact ⟨_,by simp [binOp,Op.shift,shlI,Int.not_lt.2 hn],.int _ _⟩
 ·exact ⟨_,by simp [binOp,Op.shift,shrI,Int.not_lt.2 hn],.int _ _⟩
 ·exact ⟨.bool (decide (p=q)),by simp [binOp,Op.intCmp];rw [Bool.eq_iff_iff];simp,.bool _⟩
 ·exact ⟨.bool (!decide (p=q)),by simp [binOp,Op.intCmp];rw [Bool.eq_iff_iff];simp,.bool _⟩
 ·exact ⟨_,by simp [binOp,Op.intCmp],.bool _⟩
 ·exact ⟨_,by simp [binOp,Op.intCmp],.bool _⟩
 ·exact ⟨_,by simp [binOp,Op.intCmp],.bool _⟩
 ·exact ⟨_,by simp [binOp,Op.intCmp],.bool _⟩
theorem s_unOp {op:UnOp} {t:TypeId} {x:Operand} (hx:RdA E (a.eval x) (e x)) (hn:OptP r.need)
 (h:evOp cx P e H n ⟨dst,.unOp op t x,ty,pos,after,guard⟩=some r):PureRun P E a ⟨dst,.unOp op t x,ty,pos,after,guard⟩ r:=by
 simp only [evOp] at h
 split at h
 ·rename_i b hv
  cases h
  rw [hv] at hx
  generalize hval:a.eval x=val at hx
  cases hx
  exact ⟨rfl,rfl,rfl,rfl,_,by simp [execOp,hval,Op.unary],.bool _,trivial⟩
 ·rename_i k m hv
  cases h
  rw [hv] at hx
  generalize hval:a.eval x=val at hx
  cases hx
  simp only [OptP] at hn
  refine ⟨rfl,rfl,rfl,rfl,.int k (0 - m), ?_,.int _ _,trivial⟩
  simp only [execOp,hval,Op.unary,Op.intArith,wrap_in hn]
  rfl
 ·cases h
theorem s_convert {s d:TypeId} {x:Operand} (hx:RdA E (a.eval x) (e x)) (hn:OptP r.need)
 (h:evOp cx P e H n ⟨dst,.convert s d x,ty,pos,after,guard⟩=some r):PureRun P E a ⟨dst,.convert s d x,ty,pos,after,guard⟩ r:=by
 simp only [evOp] at h
 split at h
 ·rename_i k0 k q m hs hd hv
  cases h
  rw [hv] at hx
  generalize hval:a.eval x=val at hx
  cases hx
  simp only [OptP] at hn
  refine ⟨rfl,rfl,rfl,rfl,.int k m, ?_,.int _ _,trivial⟩
  simp [execOp,hval,convert,run_underlying hs,run_underlying hd,Conv.intToInt,wrap_in hn]
 ·cases h
end
end Go.Sx
