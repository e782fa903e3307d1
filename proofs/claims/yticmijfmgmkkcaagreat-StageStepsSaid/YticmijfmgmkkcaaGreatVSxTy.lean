import GoSem.Core.Value
import GoSem.ClaimData
set_option linter.unusedSimpArgs false
set_option linter.unusedVariables false
set_option maxRecDepth 100000
namespace Go.Sx
inductive ExprT where
 | mk (kind op:Int) (name:ByteArray) (value:Int) (args:List ExprT)
namespace ExprT
@[reducible] def kind:ExprT→Int | mk k _ _ _ _=>k
@[reducible] def op:ExprT→Int | mk _ o _ _ _=>o
@[reducible] def name:ExprT→ByteArray | mk _ _ n _ _=>n
@[reducible] def value:ExprT→Int | mk _ _ _ v _=>v
@[reducible] def args:ExprT→List ExprT | mk _ _ _ _ a=>a
end ExprT
inductive FnT where
 | nil
 | mk (f:Nat) (caps:List FnT)
inductive Ty where
 | int (k:IntKind)
 | bool
 | str
 | pair (a b:Ty)
 | sl (t:Ty)
 | expr
 | fn
deriving DecidableEq
@[reducible] def Ty.den:Ty→Type
 | .int _=>Int
 | .bool=>Bool
 | .str=>ByteArray
 | .pair a b=>a.den × b.den
 | .sl t=>List t.den
 | .expr=>ExprT
 | .fn=>FnT
inductive PV where
 | int (k:IntKind) (n:Int)
 | bool (b:Bool)
 | str (s:ByteArray)
 | sl (t:Ty) (xs:List t.den)
 | nils
 | val (v:Value)
 | fn (T:FnT)
@[reducible] def Ty.size:Ty→Nat
 | .int _=>1
 | .bool=>1
 | .str=>1
 | .pair a b=>Nat.add a.size b.size
 | .sl _=>1
 | .expr=>5
 | .fn=>1
@[reducible] def Ty.flat:Ty→Bool
 | .int _=>true
 | .bool=>true
 | .str=>true
 | .pair a b=>a.flat && b.flat
 | .sl _=>false
 | .expr=>false
 | .fn=>false
@[reducible] def dflt:(t:Ty)→t.den
 | .int _=>(0:Int)
 | .bool=>false
 | .str=>ByteArray.empty
 | .pair a b=>(dflt a,dflt b)
 | .sl t=>([]:List t.den)
 | .expr=>.mk 0 0 ByteArray.empty 0 []
 | .fn=>FnT.nil
def enc:(t:Ty)→t.den→List PV
 | .int k,n=>[.int k n]
 | .bool,b=>[.bool b]
 | .str,s=>[.str s]
 | .pair a b,p=>enc a p.1++enc b p.2
 | .sl t,xs=>[.sl t xs]
 | .expr,e=>[.int .i64 e.kind,.int .i64 e.op,.str e.name,.int .i64 e.value,.sl .expr e.args]
 | .fn,T=>[.fn T]
def IntKind.beq' (a b:IntKind):Bool:=match a,b with
 | .i8,.i8 | .i16,.i16 | .i32,.i32 | .i64,.i64 | .u8,.u8 | .u16,.u16 | .u32,.u32 | .u64,.u64=>true
 | _,_=>false
theorem IntKind.eq_of_beq' {a b:IntKind} (h:IntKind.beq' a b=true):a=b:=by
 cases a <;> cases b <;> first | rfl | cases h
def Ty.beq:Ty→Ty→Bool
 | .int k,.int k'=>IntKind.beq' k k'
 | .bool,.bool=>true
 | .str,.str=>true
 | .pair a b,.pair a' b'=>Ty.beq a a' && Ty.beq b b'
 | .sl t,.sl t'=>Ty.beq t t'
 | .expr,.expr=>true
 | .fn,.fn=>true
 | _,_=>false
theorem Ty.eq_of_beq:∀ {t u:Ty},Ty.beq t u=true→t=u:=by
 intro t
 induction t with
 | int k=>intro u h;cases u <;> first | (rw [IntKind.eq_of_beq' h]) | cases h
 | bool=>intro u h;cases u <;> first | rfl | cases h
 | str=>intro u h;cases u <;> first | rfl | cases h
 | expr=>intro u h;cases u <;> first | rfl | cases h
 | fn=>intro u h;cases u <;> first | rfl | cases h
 | sl t ih=>intro u h;cases u <;> first | (rw [ih h]) | cases h
 | pair a b iha ihb =>
  intro u h
  cases u with
  | pair a' b' =>
   simp only [Ty.beq,Bool.and_eq_true] at h
   rw [iha h.1,ihb h.2]
  | _=>cases h
def castI:(k k':IntKind)→(F:IntKind→Type)→F k→Option (F k')
 | .i8,.i8,_,x=>some x
 | .i16,.i16,_,x=>some x
 | .i32,.i32,_,x=>some x
 | .i64,.i64,_,x=>some x
 | .u8,.u8,_,x=>some x
 | .u16,.u16,_,x=>some x
 | .u32,.u32,_,x=>some x
 | .u64,.u64,_,x=>some x
 | _,_,_,_=>none
theorem castI_some {k k':IntKind} {F:IntKind→Type} {x:F k} {y:F k'} (h:castI k k' F x=some y):∃ e:k=k',e ▸ x=y:=by
 cases k <;> cases k' <;> first
  | (cases h;exact ⟨rfl,rfl⟩)
  | cases h
def castK:(t u:Ty)→(F:Ty→Type)→F t→Option (F u)
 | .int k,.int k',F,x=>castI k k' (fun k=>F (.int k)) x
 | .bool,.bool,_,x=>some x
 | .str,.str,_,x=>some x
 | .expr,.expr,_,x=>some x
 | .fn,.fn,_,x=>some x
 | .sl t,.sl t',F,x=>castK t t' (fun t=>F (.sl t)) x
 | .pair a b,.pair a' b',F,x=>match castK a a' (fun a=>F (.pair a b)) x with
  | some x=>castK b b' (fun b=>F (.pair a' b)) x
  | none=>none
 | _,_,_,_=>none
theorem castK_some:∀ {t u:Ty} {F:Ty→Type} {x:F t} {y:F u},castK t u F x=some y→∃ e:t=u,e ▸ x=y:=by
 intro t
 induction t with
 | int k =>
  intro u F x y h
  cases u with
  | int k' =>
   obtain ⟨e,he⟩:=castI_some h
   subst e
   exact ⟨rfl,he⟩
  | _=>cases h
 | bool=>intro u F x y h;cases u <;> first | (cases h;exact ⟨rfl,rfl⟩) | cases h
 | str=>intro u F x y h;cases u <;> first | (cases h;exact ⟨rfl,rfl⟩) | cases h
 | expr=>intro u F x y h;cases u <;> first | (cases h;exact ⟨rfl,rfl⟩) | cases h
 | fn=>intro u F x y h;cases u <;> first | (cases h;exact ⟨rfl,rfl⟩) | cases h
 | sl t ih =>
  intro u F x y h
  cases u with
  | sl t' =>
   simp only [castK] at h
   obtain ⟨e,he⟩:=ih h
   subst e
   exact ⟨rfl,he⟩
  | _=>cases h
 | pair a b iha ihb =>
  intro u F x y h
  cases u with
  | pair a' b' =>
   simp only [castK] at h
   split at h
   ·rename_i x' h1
    obtain ⟨e,he⟩:=iha h1
    subst e
    obtain ⟨e,he'⟩:=ihb h
    subst e
    subst he
    exact ⟨rfl,he'⟩
   ·cases h
  | _=>cases h
def castL (t u:Ty) (xs:List t.den):Option (List u.den):=castK t u (fun t=>List t.den) xs
theorem castL_some {t u:Ty} {xs:List t.den} {ys:List u.den} (h:castL t u xs=some ys):∃ e:t=u,e ▸ xs=ys:=castK_some h
def decInt (k:IntKind):List PV→Option (Int × List PV)
 | .int k' n :: l=>if IntKind.beq' k k' then some (n,l) else none
 | _=>none
def decBool:List PV→Option (Bool × List PV)
 | .bool b :: l=>some (b,l)
 | _=>none
def decStr:List PV→Option (ByteArray × List PV)
 | .str b :: l=>some (b,l)
 | _=>none
def decSl (t:Ty):List PV→Option (List t.den × List PV)
 | .sl t' xs :: l=>(match castL t' t xs with | some ys=>some (ys,l) | none=>none)
 | .nils :: l=>some (([]:List t.den),l)
 | _=>none
def decExpr:List PV→Option (ExprT × List PV)
 | .int .i64 k :: .int .i64 o :: .str n :: .int .i64 v :: l=>(match decSl .expr l with | some (ys,l')=>some (.mk k o n v ys,l') | none=>none)
 | _=>none
def decFn:List PV→Option (FnT × List PV)
 | .fn T :: l=>some (T,l)
 | _=>none
def decP:(t:Ty)→List PV→Option (t.den × List PV)
 | .int k=>decInt k
 | .bool=>decBool
 | .str=>decStr
 | .pair a b=>fun l=>match decP a l with
  | some (x,l')=>(match decP b l' with
   | some (y,l'')=>some ((x,y),l'')
   | none=>none)
  | none=>none
 | .sl t=>decSl t
 | .expr=>decExpr
 | .fn=>decFn
def dec (t:Ty) (cs:List PV):Option t.den:=match decP t cs with
 | some (x,[])=>some x
 | _=>none
def PV.le (p q:PV):Prop:=p=q∨(p=.nils∧∃ t,q=.sl t [])
theorem PV.le_refl (p:PV):PV.le p p:=.inl rfl
inductive LeL:List PV→List PV→Prop
 | nil:LeL [] []
 | cons {p q:PV} {l m:List PV}:PV.le p q→LeL l m→LeL (p :: l) (q :: m)
theorem LeL.refl:∀ l,LeL l l
 | []=>.nil
 | p :: l=>.cons (PV.le_refl p) (LeL.refl l)
theorem LeL.append {a b c d:List PV} (h:LeL a b) (k:LeL c d):LeL (a++c) (b++d):=by
 induction h with
 | nil=>exact k
 | cons h _ ih=>exact .cons h ih
theorem enc_length (t:Ty) (x:t.den):(enc t x).length=t.size:=by
 induction t with
 | pair a b iha ihb=>simp [enc,iha,ihb]
 | _=>rfl
theorem size_pos (t:Ty):0 < t.size:=by
 induction t with
 | pair a b iha ihb=>simp only [Ty.size,Nat.add_eq];omega
 | _=>simp [Ty.size]
theorem decSl_le {t:Ty} {cs:List PV} {x:List t.den} {l:List PV} (h:decSl t cs=some (x,l)):∃ ds,cs=ds++l∧LeL ds [.sl t x]:=by
 unfold decSl at h
 split at h
 ·rename_i t' xs l'
  split at h
  ·rename_i ys hc
   cases h
   obtain ⟨e,he⟩:=castL_some hc
   subst e
   cases he
   exact ⟨[_],rfl,LeL.refl _⟩
  ·cases h
 ·cases h
  exact ⟨[_],rfl,.cons (.inr ⟨rfl,_,rfl⟩) .nil⟩
 ·cases h
theorem decP_le (t:Ty):∀ (cs:List PV) (x:t.den) (l:List PV),decP t cs=some (x,l)→∃ ds,cs=ds++l∧LeL ds (enc t x):=by
 induction t with
 | int k =>
  intro cs x l h
  simp only [decP] at h
  unfold decInt at h
  split at h
  ·split at h
   ·rename_i hk
    cases h
    have:=IntKind.eq_of_beq' hk
    subst this
    exact ⟨[_],rfl,LeL.refl _⟩
   ·cases h
  ·cases h
 | bool =>
  intro cs x l h
  simp only [decP] at h
  unfold decBool at h
  split at h
  ·cases h;exact ⟨[_],rfl,LeL.refl _⟩
  ·cases h
 | str =>
  intro cs x l h
  simp only [decP] at h
  unfold decStr at h
  split at h
  ·cases h;exact ⟨[_],rfl,LeL.refl _⟩
  ·cases h
 | pair a b iha ihb =>
  intro cs x l h
  simp only [decP] at h
  split at h
  ·rename_i y l' hy
   split at h
   ·rename_i z l'' hz
    cases h
    obtain ⟨ds,e1,h1⟩:=iha _ _ _ hy
    obtain ⟨es,e2,h2⟩:=ihb _ _ _ hz
    exact ⟨ds++es,by rw [e1,e2,List.append_assoc],h1.append h2⟩
   ·cases h
  ·cases h
 | sl t ih =>
  intro cs x l h
  simp only [decP] at h
  exact decSl_le h
 | fn =>
  intro cs x l h
  simp only [decP] at h
  unfold decFn at h
  split at h
  ·cases h;exact ⟨[_],rfl,LeL.refl _⟩
  ·cases h
 | expr =>
  intro cs x l h
  simp only [decP] at h
  unfold decExpr at h
  split at h
  ·split at h
   ·rename_i hs
    cases h
    obtain ⟨ds,e,hl⟩:=decSl_le hs
    exact ⟨_ :: _ :: _ :: _ :: ds,by rw [e];rfl,.cons (PV.le_refl _) (.cons (PV.le_refl _) (.cons (PV.le_refl _) (.cons (PV.le_refl _) hl)))⟩
   ·cases h
  ·cases h
theorem dec_le (t:Ty) (cs:List PV) (x:t.den) (h:dec t cs=some x):LeL cs (enc t x):=by
 unfold dec at h
 split at h
 ·rename_i y hy
  cases h
  obtain ⟨ds,e,hl⟩:=decP_le t _ _ _ hy
  rw [e,List.append_nil]
  exact hl
 ·cases h
end Go.Sx
