/- Symbolic steps. -/
import GoSem.Core.Value
import GoSem.ClaimData
import GoSem.Dispatch
import GoSem.Core.Region
import Derived.WalkKit
set_option linter.unusedSimpArgs false
set_option linter.unusedVariables false
set_option maxRecDepth 100000
namespace Go.Sx
theorem aL:type_of%@if_neg:=@if_neg
theorem aM:type_of%@of_decide_eq_true:=@of_decide_eq_true
theorem aP:type_of%@if_pos:=@if_pos
theorem aQ:type_of%@of_decide_eq_false:=@of_decide_eq_false
theorem aR:type_of%@List.getElem?_eq_getElem:=@List.getElem?_eq_getElem
theorem aS:type_of%@Bool.and_eq_true:=@Bool.and_eq_true
theorem aT{a b:Prop}(h:a)(g:¬a):b:=absurd h g
theorem aU:type_of%@Option.some.injEq:=@Option.some.injEq
theorem aV:type_of%@Nat.zero_le:=@Nat.zero_le
theorem aW:type_of%@List.getElem?_eq_some_iff:=@List.getElem?_eq_some_iff
theorem aX:type_of%@decide_eq_true:=@decide_eq_true
theorem aY:type_of%@Bool.false_ne_true:=@Bool.false_ne_true
theorem aZ:type_of%@List.getD_eq_getElem?_getD:=@List.getD_eq_getElem?_getD
theorem bA:type_of%@Nat.le_refl:=@Nat.le_refl
theorem bB:type_of%@Nat.eq_of_beq_eq_true:=@Nat.eq_of_beq_eq_true
theorem bC:type_of%@Option.map_eq_some_iff:=@Option.map_eq_some_iff
theorem bD:type_of%@List.length_append:=@List.length_append
theorem bE:type_of%@decide_eq_false:=@decide_eq_false
theorem bF:type_of%@decide_eq_false_iff_not:=@decide_eq_false_iff_not
theorem bG:type_of%@Prod.mk.injEq:=@Prod.mk.injEq
theorem bH:type_of%@Int.toNat_natCast:=@Int.toNat_natCast
theorem bI:type_of%@congrArg:=@congrArg
theorem bJ:type_of%@Bool.or_eq_false_iff:=@Bool.or_eq_false_iff
theorem bK:type_of%@List.drop_of_length_le:=@List.drop_of_length_le
theorem bL:type_of%@List.take_of_length_le:=@List.take_of_length_le
theorem bM:type_of%@Bool.not_eq_true':=@Bool.not_eq_true'
theorem bN:type_of%@List.length_map:=@List.length_map
theorem bO:type_of%@decide_eq_true_eq:=@decide_eq_true_eq
theorem bP:type_of%@List.length_take:=@List.length_take
theorem bQ:type_of%@Bool.cond_false_right:=@Bool.cond_false_right
theorem bR:type_of%@Array.getD_eq_getD_getElem?:=@Array.getD_eq_getD_getElem?
theorem bS:type_of%@List.take_succ_eq_append_getElem:=@List.take_succ_eq_append_getElem
theorem bT:type_of%@List.mem_singleton:=@List.mem_singleton
theorem bU:type_of%@Bool.not_eq_false':=@Bool.not_eq_false'
theorem bV:type_of%@List.all_eq_true:=@List.all_eq_true
theorem bW:type_of%@Bool.cond_true_left:=@Bool.cond_true_left
theorem bX:type_of%@List.getElem?_append_left:=@List.getElem?_append_left
theorem bY:type_of%@Bool.or_eq_true:=@Bool.or_eq_true
theorem bZ:type_of%@List.length_replicate:=@List.length_replicate
theorem cA:type_of%@Nat.lt_of_lt_of_le:=@Nat.lt_of_lt_of_le
theorem cB:type_of%@Nat.le_of_ble_eq_true:=@Nat.le_of_ble_eq_true
theorem cC:type_of%@List.append_nil:=@List.append_nil
theorem cD:type_of%@List.getElem?_append_right:=@List.getElem?_append_right
theorem cE:type_of%@List.length_set:=@List.length_set
theorem cF:type_of%@Array.getElem?_eq_getElem:=@Array.getElem?_eq_getElem
theorem cG:type_of%@List.drop_eq_getElem_cons:=@List.drop_eq_getElem_cons
theorem cH:type_of%@Bool.false_eq_true:=@Bool.false_eq_true
theorem cI:type_of%@List.length_drop:=@List.length_drop
theorem cJ:type_of%@List.getElem_mem:=@List.getElem_mem
theorem cK:type_of%@List.getElem?_drop:=@List.getElem?_drop
theorem cL:type_of%@List.getElem?_map:=@List.getElem?_map
theorem cM:type_of%@List.foldl_cons:=@List.foldl_cons
theorem cN:type_of%@Nat.lt_or_ge:=@Nat.lt_or_ge
theorem cO:type_of%@Int.le_refl:=@Int.le_refl
theorem cP:type_of%@Nat.le_trans:=@Nat.le_trans
theorem cQ:type_of%@List.getElem?_take_of_lt:=@List.getElem?_take_of_lt
theorem cR:type_of%@List.mem_of_getElem?:=@List.mem_of_getElem?
theorem cS:type_of%@Nat.add_mul:=@Nat.add_mul
theorem cT:type_of%@List.mem_cons:=@List.mem_cons
theorem cU:type_of%@List.mem_map:=@List.mem_map
theorem cV:type_of%@List.eq_nil_of_length_eq_zero:=@List.eq_nil_of_length_eq_zero
theorem cW:type_of%@List.mem_filter:=@List.mem_filter
theorem cX:type_of%@Array.length_toList:=@Array.length_toList
theorem cY:type_of%@Nat.mul_le_mul_right:=@Nat.mul_le_mul_right
theorem cZ:type_of%@List.mem_range:=@List.mem_range
theorem dA:type_of%@List.any_eq_false:=@List.any_eq_false
theorem dB:type_of%@List.not_mem_nil:=@List.not_mem_nil
theorem dC:type_of%@Option.getD_some:=@Option.getD_some
theorem dD:type_of%@List.take_length:=@List.take_length
theorem dF:type_of%@Nat.zero_add:=@Nat.zero_add
theorem dG:type_of%@List.mem_append:=@List.mem_append
theorem dH:type_of%@Nat.add_zero:=@Nat.add_zero
theorem dJ:type_of%@not_false_iff:=@not_false_iff
theorem dK:type_of%@List.mem_cons_self:=@List.mem_cons_self
theorem dL:type_of%@List.range_succ:=@List.range_succ
theorem dM:type_of%@List.mem_iff_getElem:=@List.mem_iff_getElem
theorem dN:type_of%@List.filter_cons:=@List.filter_cons
theorem dO:type_of%@List.foldl_append:=@List.foldl_append
theorem dP:type_of%@List.getElem?_cons_zero:=@List.getElem?_cons_zero
theorem dQ:type_of%@List.mem_cons_of_mem:=@List.mem_cons_of_mem
theorem dR:type_of%@List.append_assoc:=@List.append_assoc
theorem dT:type_of%@Classical.not_not:=@Classical.not_not
theorem dU:type_of%@List.length_range:=@List.length_range
theorem dV:type_of%@Array.getElem?_setIfInBounds:=@Array.getElem?_setIfInBounds
theorem dW:type_of%@List.getElem?_eq_none:=@List.getElem?_eq_none
theorem dY:type_of%@List.countP_cons:=@List.countP_cons
theorem dZ:type_of%@List.size_toArray:=@List.size_toArray
theorem eA:type_of%@List.getElem?_append:=@List.getElem?_append
theorem eB:type_of%@Int.natCast_nonneg:=@Int.natCast_nonneg
theorem eC:type_of%@List.filter_append:=@List.filter_append
theorem eD:type_of%@List.map_cons:=@List.map_cons
theorem eE:type_of%@Nat.not_lt_zero:=@Nat.not_lt_zero
theorem eF:type_of%@Array.getElem?_toList:=@Array.getElem?_toList
theorem eG:type_of%@List.length_singleton:=@List.length_singleton
theorem eH:type_of%@Array.getElem?_eq_some_iff:=@Array.getElem?_eq_some_iff
theorem eJ:type_of%@List.map_congr_left:=@List.map_congr_left
theorem eK:type_of%@Nat.add_assoc:=@Nat.add_assoc
theorem eL:type_of%@List.map_append:=@List.map_append
theorem eM:type_of%@Nat.add_sub_cancel_left:=@Nat.add_sub_cancel_left
theorem eN:type_of%@Nat.lt_succ_self:=@Nat.lt_succ_self
theorem eO:type_of%@Option.map_some:=@Option.map_some
theorem eP:type_of%@List.getElem?_replicate:=@List.getElem?_replicate
theorem eQ:type_of%@Nat.min_eq_left:=@Nat.min_eq_left
theorem eR:type_of%@List.any_append:=@List.any_append
theorem eS:type_of%@List.getElem_map:=@List.getElem_map
theorem eT:type_of%@List.countP_le_length:=@List.countP_le_length
theorem eU:type_of%@List.mem_append_left:=@List.mem_append_left
theorem eV:type_of%@List.any_cons:=@List.any_cons
theorem eW:type_of%@List.getElem?_range:=@List.getElem?_range
theorem eX:type_of%@List.length_pos_iff:=@List.length_pos_iff
theorem eY:type_of%@Bool.not_eq_true:=@Bool.not_eq_true
theorem eZ:type_of%@List.getElem?_take:=@List.getElem?_take
theorem fA:type_of%@List.length_filter_le:=@List.length_filter_le
theorem fB:type_of%@List.flatMap_cons:=@List.flatMap_cons
theorem fC:type_of%@Bool.not_eq_false:=@Bool.not_eq_false
theorem fD:type_of%@List.mem_of_mem_take:=@List.mem_of_mem_take
theorem fE:type_of%@Nat.testBit_or:=@Nat.testBit_or
theorem fF:type_of%@Or.resolve_right:=@Or.resolve_right
theorem fG:type_of%@Option.isSome_iff_exists:=@Option.isSome_iff_exists
theorem fH:type_of%@List.any_eq_true:=@List.any_eq_true
theorem fI:type_of%@Bool.cond_eq_ite:=@Bool.cond_eq_ite
theorem fJ:type_of%@List.take_succ_cons:=@List.take_succ_cons
theorem fK:type_of%@Int.not_lt:=@Int.not_lt
theorem fL:type_of%@List.getElem_range:=@List.getElem_range
theorem fM:type_of%@Bool.eq_false_iff:=@Bool.eq_false_iff
theorem fN:type_of%@Nat.add_comm:=@Nat.add_comm
theorem fO:type_of%@Nat.sub_self:=@Nat.sub_self
theorem fP:type_of%@List.mem_iff_getElem?:=@List.mem_iff_getElem?
theorem fQ:type_of%@List.mem_append_right:=@List.mem_append_right
theorem fR:type_of%@List.mem_zipIdx_iff_getElem?:=@List.mem_zipIdx_iff_getElem?
theorem fS:type_of%@Nat.min_eq_right:=@Nat.min_eq_right
theorem fT:type_of%@Array.toList_setIfInBounds:=@Array.toList_setIfInBounds
theorem fU:type_of%@Array.getElem?_append_left:=@Array.getElem?_append_left
theorem fV:type_of%@Bool.true_and:=@Bool.true_and
theorem fW:type_of%@Bool.false_or:=@Bool.false_or
theorem fX:type_of%@Nat.mul_one:=@Nat.mul_one
theorem fY:type_of%@Nat.mul_le_mul_left:=@Nat.mul_le_mul_left
theorem fZ:type_of%@Array.toList_append:=@Array.toList_append
theorem gA:type_of%@List.pairwise_iff_getElem:=@List.pairwise_iff_getElem
theorem gB:type_of%@Array.getElem?_map:=@Array.getElem?_map
theorem gC:type_of%@Array.foldl_toList:=@Array.foldl_toList
theorem gD:type_of%@Nat.beq_refl:=@Nat.beq_refl
theorem gE:type_of%@Array.all_eq_true':=@Array.all_eq_true'
theorem gF:type_of%@Bool.not_false:=@Bool.not_false
theorem gG:type_of%@List.take_take:=@List.take_take
theorem gH:type_of%@List.getElem?_cons_succ:=@List.getElem?_cons_succ
theorem gI:type_of%@List.filter_cons_of_pos:=@List.filter_cons_of_pos
theorem gJ:type_of%@List.filter_cons_of_neg:=@List.filter_cons_of_neg
theorem gK:type_of%@Array.size_append:=@Array.size_append
theorem gL:type_of%@Bool.not_true:=@Bool.not_true
theorem gM:type_of%@Bool.or_false:=@Bool.or_false
theorem gN:type_of%@List.drop_length:=@List.drop_length
theorem gO:type_of%@List.ext_getElem:=@List.ext_getElem
theorem gP:type_of%@Array.getElem?_append:=@Array.getElem?_append
theorem gQ:type_of%@List.length_mergeSort:=@List.length_mergeSort
theorem gR:type_of%@List.take_append_drop:=@List.take_append_drop
theorem gS:type_of%@Array.getElem?_range:=@Array.getElem?_range
theorem gT:type_of%@List.any_nil:=@List.any_nil
theorem gU:type_of%@List.countP_pos_iff:=@List.countP_pos_iff
theorem gV:type_of%@List.countP_eq_zero:=@List.countP_eq_zero
theorem gW:type_of%@List.drop_drop:=@List.drop_drop
theorem gX:type_of%@List.take_zero:=@List.take_zero
theorem gY:type_of%@Nat.one_mul:=@Nat.one_mul
theorem gZ:type_of%@List.pairwise_cons:=@List.pairwise_cons
theorem hP:type_of%@Int.tmod_lt_of_pos:=@Int.tmod_lt_of_pos
theorem hU:type_of%@List.drop_nil:=@List.drop_nil
theorem hX:type_of%@Nat.lt_irrefl:=@Nat.lt_irrefl
theorem hY:type_of%@List.sum_cons:=@List.sum_cons
theorem iA:type_of%@List.filter_congr:=@List.filter_congr
theorem iB:type_of%@List.getElem_take:=@List.getElem_take
theorem iC:type_of%@Int.lt_trichotomy:=@Int.lt_trichotomy
theorem iD:type_of%@Array.toList_inj:=@Array.toList_inj
theorem iE:type_of%@Nat.le_add_right:=@Nat.le_add_right
inductive ExprT where
 |mk (kind op:Int) (name:ByteArray) (value:Int) (args:List ExprT)
namespace ExprT
@[reducible] def kind:ExprT->Int|mk k _ _ _ _=>k
@[reducible] def op:ExprT->Int|mk _ o _ _ _=>o
@[reducible] def name:ExprT->ByteArray|mk _ _ n _ _=>n
@[reducible] def value:ExprT->Int|mk _ _ _ v _=>v
@[reducible] def args:ExprT->List ExprT|mk _ _ _ _ a=>a
end ExprT
inductive FnT where
 |nil
 |mk (f:Nat) (caps:List FnT)
inductive Ty where
 |int (k:IntKind)
 |bool
 |str
 |pair (a b:Ty)
 |sl (t:Ty)
 |expr
 |fn
deriving DecidableEq
@[reducible] def Ty.den:Ty->Type
 |.int _=>Int
 |.bool=>Bool
 |.str=>ByteArray
 |.pair a b=>a.den×b.den
 |.sl t=>List t.den
 |.expr=>ExprT
 |.fn=>FnT
inductive PV where
 |int (k:IntKind) (n:Int)
 |bool (b:Bool)
 |str (s:ByteArray)
 |sl (t:Ty) (xs:List t.den)
 |nils
 |val (v:Value)
 |fn (T:FnT)
@[reducible] def Ty.size:Ty->Nat
 |.int _=>1
 |.bool=>1
 |.str=>1
 |.pair a b=>Nat.add a.size b.size
 |.sl _=>1
 |.expr=>5
 |.fn=>1
@[reducible] def Ty.flat:Ty->Bool
 |.int _=>true
 |.bool=>true
 |.str=>true
 |.pair a b=>a.flat&&b.flat
 |.sl _=>false
 |.expr=>false
 |.fn=>false
@[reducible] def Ab:(t:Ty)->t.den
 |.int _=>(0:Int)
 |.bool=>false
 |.str=>ByteArray.empty
 |.pair a b=>(Ab a,Ab b)
 |.sl t=>([]:List t.den)
 |.expr=>.mk 0 0 ByteArray.empty 0 []
 |.fn=>FnT.nil
def enc:(t:Ty)->t.den->List PV
 |.int k,n=>[.int k n]
 |.bool,b=>[.bool b]
 |.str,s=>[.str s]
 |.pair a b,p=>enc a p.1++enc b p.2
 |.sl t,xs=>[.sl t xs]
 |.expr,e=>[.int .i64 e.kind,.int .i64 e.op,.str e.name,.int .i64 e.value,.sl .expr e.args]
 |.fn,T=>[.fn T]
def IntKind.beq'(a b:IntKind):Bool:=match a,b with
 |.i8,.i8|.i16,.i16|.i32,.i32|.i64,.i64|.u8,.u8|.u16,.u16|.u32,.u32|.u64,.u64=>true
 |_,_=>false
theorem IntKind.eq_of_beq'{a b:IntKind}(h:IntKind.beq' a b=true):a=b:=by
 cases a<;>cases b<;>first|rfl|cases h
def Ty.beq:Ty->Ty->Bool
 |.int k,.int k'=>IntKind.beq' k k'
 |.bool,.bool=>true
 |.str,.str=>true
 |.pair a b,.pair a' b'=>Ty.beq a a'&&Ty.beq b b'
 |.sl t,.sl t'=>Ty.beq t t'
 |.expr,.expr=>true
 |.fn,.fn=>true
 |_,_=>false
theorem Ty.eq_of_beq:∀{t u:Ty},Ty.beq t u=true->t=u:=by
 intro t
 induction t with
 |int k=>intro u h;cases u<;>first|(rw[IntKind.eq_of_beq' h])|cases h
 |bool=>intro u h;cases u<;>first|rfl|cases h
 |str=>intro u h;cases u<;>first|rfl|cases h
 |expr=>intro u h;cases u<;>first|rfl|cases h
 |fn=>intro u h;cases u<;>first|rfl|cases h
 |sl t ih=>intro u h;cases u<;>first|(rw[ih h])|cases h
 |pair a b iha ihb=>
  intro u h;cases u with
  |pair a' b'=>
   simp only[Ty.beq,aS]at h;rw[iha h.1,ihb h.2]
  |_=>cases h
def Ape:(k k':IntKind)->(F:IntKind->Type)->F k->Option (F k')
 |.i8,.i8,_,x=>some x
 |.i16,.i16,_,x=>some x
 |.i32,.i32,_,x=>some x
 |.i64,.i64,_,x=>some x
 |.u8,.u8,_,x=>some x
 |.u16,.u16,_,x=>some x
 |.u32,.u32,_,x=>some x
 |.u64,.u64,_,x=>some x
 |_,_,_,_=>none
theorem Ab3{k k':IntKind}{F:IntKind->Type}{x:F k}{y:F k'}(h:Ape k k' F x=some y):∃e:k=k',e ▸ x=y:=by
 cases k<;>cases k'<;>first
  |(cases h;exact⟨rfl,rfl⟩)
  |cases h
def Sp:(t u:Ty)->(F:Ty->Type)->F t->Option (F u)
 |.int k,.int k',F,x=>Ape k k' (λk=>F (.int k)) x
 |.bool,.bool,_,x=>some x
 |.str,.str,_,x=>some x
 |.expr,.expr,_,x=>some x
 |.fn,.fn,_,x=>some x
 |.sl t,.sl t',F,x=>Sp t t' (λt=>F (.sl t)) x
 |.pair a b,.pair a' b',F,x=>match Sp a a' (λa=>F (.pair a b)) x with
  |some x=>Sp b b' (λb=>F (.pair a' b)) x
  |none=>none
 |_,_,_,_=>none
theorem Ab4:∀{t u:Ty}{F:Ty->Type}{x:F t}{y:F u},Sp t u F x=some y->∃e:t=u,e ▸ x=y:=by
 intro t
 induction t with
 |int k=>
  intro u F x y h;cases u with
  |int k'=>
   obtain⟨e,he⟩:=Ab3 h;subst e;exact⟨rfl,he⟩
  |_=>cases h
 |bool=>intro u F x y h;cases u<;>first|(cases h;exact⟨rfl,rfl⟩)|cases h
 |str=>intro u F x y h;cases u<;>first|(cases h;exact⟨rfl,rfl⟩)|cases h
 |expr=>intro u F x y h;cases u<;>first|(cases h;exact⟨rfl,rfl⟩)|cases h
 |fn=>intro u F x y h;cases u<;>first|(cases h;exact⟨rfl,rfl⟩)|cases h
 |sl t ih=>
  intro u F x y h;cases u with
  |sl t'=>
   simp only[Sp]at h;obtain⟨e,he⟩:=ih h;subst e;exact⟨rfl,he⟩
  |_=>cases h
 |pair a b iha ihb=>
  intro u F x y h;cases u with
  |pair a' b'=>
   simp only[Sp]at h;split at h
   ·rename_i x' h1;obtain⟨e,he⟩:=iha h1;subst e;obtain⟨e,he'⟩:=ihb h;subst e;subst he;exact⟨rfl,he'⟩
   ·cases h
  |_=>cases h
def Lp(t u:Ty)(xs:List t.den):Option (List u.den):=Sp t u (λt=>List t.den) xs
theorem Ha{t u:Ty}{xs:List t.den}{ys:List u.den}(h:Lp t u xs=some ys):∃e:t=u,e ▸ xs=ys:=Ab4 h
def Aiz(k:IntKind):List PV->Option (Int×List PV)
 |.int k' n::l=>if IntKind.beq' k k' then some (n,l)else none
 |_=>none
def Ad8:List PV->Option (Bool×List PV)
 |.bool b::l=>some (b,l)
 |_=>none
def Ai0:List PV->Option (ByteArray×List PV)
 |.str b::l=>some (b,l)
 |_=>none
def Ad9(t:Ty):List PV->Option (List t.den×List PV)
 |.sl t' xs::l=>(match Lp t' t xs with|some ys=>some (ys,l)|none=>none)
 |.nils::l=>some (([]:List t.den),l)
 |_=>none
def Aea:List PV->Option (ExprT×List PV)
 |.int .i64 k :: .int .i64 o :: .str n :: .int .i64 v::l=>(match Ad9 .expr l with|some (ys,l')=>some (.mk k o n v ys,l')|none=>none)
 |_=>none
def Apf:List PV->Option (FnT×List PV)
 |.fn T::l=>some (T,l)
 |_=>none
def Rs:(t:Ty)->List PV->Option (t.den×List PV)
 |.int k=>Aiz k
 |.bool=>Ad8
 |.str=>Ai0
 |.pair a b=>λl=>match Rs a l with
  |some (x,l')=>(match Rs b l' with
   |some (y,l'')=>some ((x,y),l'')
   |none=>none)
  |none=>none
 |.sl t=>Ad9 t
 |.expr=>Aea
 |.fn=>Apf
def dec(t:Ty)(cs:List PV):Option t.den:=match Rs t cs with
 |some (x,[])=>some x
 |_=>none
def PV.le(p q:PV):Prop:=p=q\/(p=.nils/\∃t,q=.sl t [])
theorem PV.le_refl(p:PV):PV.le p p:=.inl rfl
inductive LeL:List PV->List PV->Prop
 |nil:LeL [] []
 |cons {p q:PV} {l m:List PV}:PV.le p q->LeL l m->LeL (p::l) (q::m)
theorem LeL.refl:∀l,LeL l l
 |[]=>.nil
 |p::l=>.cons (PV.le_refl p) (LeL.refl l)
theorem LeL.append{a b c d:List PV}(h:LeL a b)(k:LeL c d):LeL (a++c) (b++d):=by
 induction h with
 |nil=>exact k
 |cons h _ ih=>exact .cons h ih
theorem Aw(t:Ty)(x:t.den):(enc t x).length=t.size:=by
 induction t with
 |pair a b iha ihb=>simp[enc,iha,ihb]
 |_=>rfl
theorem Bh(t:Ty):0<t.size:=by
 induction t with
 |pair a b iha ihb=>simp only[Ty.size,Nat.add_eq];omega
 |_=>simp[Ty.size]
theorem Y2{t:Ty}{cs:List PV}{x:List t.den}{l:List PV}(h:Ad9 t cs=some (x,l)):∃ds,cs=ds++l/\LeL ds [.sl t x]:=by
 unfold Ad9 at h;split at h
 ·rename_i t' xs l';split at h
  ·rename_i ys hc;cases h;obtain⟨e,he⟩:=Ha hc;subst e;cases he;exact⟨[_],rfl,LeL.refl _⟩
  ·cases h
 ·cases h;exact⟨[_],rfl,.cons (.inr ⟨rfl,_,rfl⟩) .nil⟩
 ·cases h
theorem Aeb(t:Ty):∀(cs:List PV)(x:t.den)(l:List PV),Rs t cs=some (x,l)->∃ds,cs=ds++l/\LeL ds (enc t x):=by
 induction t with
 |int k=>
  intro cs x l h;simp only[Rs]at h;unfold Aiz at h;split at h
  ·split at h
   ·rename_i hk;cases h;have:=IntKind.eq_of_beq' hk;subst this;exact⟨[_],rfl,LeL.refl _⟩
   ·cases h
  ·cases h
 |bool=>
  intro cs x l h;simp only[Rs]at h;unfold Ad8 at h;split at h
  ·cases h;exact⟨[_],rfl,LeL.refl _⟩
  ·cases h
 |str=>
  intro cs x l h;simp only[Rs]at h;unfold Ai0 at h;split at h
  ·cases h;exact⟨[_],rfl,LeL.refl _⟩
  ·cases h
 |pair a b iha ihb=>
  intro cs x l h;simp only[Rs]at h;split at h
  ·rename_i y l' hy;split at h
   ·rename_i z l'' hz;cases h;obtain⟨ds,e1,h1⟩:=iha _ _ _ hy;obtain⟨es,e2,h2⟩:=ihb _ _ _ hz;exact⟨ds++es,by rw[e1,e2,dR],h1.append h2⟩
   ·cases h
  ·cases h
 |sl t ih=>
  intro cs x l h;simp only[Rs]at h;exact Y2 h
 |fn=>
  intro cs x l h;simp only[Rs]at h;unfold Apf at h;split at h
  ·cases h;exact⟨[_],rfl,LeL.refl _⟩
  ·cases h
 |expr=>
  intro cs x l h;simp only[Rs]at h;unfold Aea at h;split at h
  ·split at h
   ·rename_i hs;cases h;obtain⟨ds,e,hl⟩:=Y2 hs;exact⟨_::_::_::_::ds,by rw[e];rfl,.cons (PV.le_refl _) (.cons (PV.le_refl _) (.cons (PV.le_refl _) (.cons (PV.le_refl _) hl)))⟩
   ·cases h
  ·cases h
theorem Ir(t:Ty)(cs:List PV)(x:t.den)(h:dec t cs=some x):LeL cs (enc t x):=by
 unfold dec at h;split at h
 ·rename_i y hy;cases h;obtain⟨ds,e,hl⟩:=Aeb t _ _ _ hy;rw[e,cC];exact hl
 ·cases h
end Go.Sx
namespace Go.Sx
inductive AV where
 |any
 |int (k:IntKind) (n:Int)
 |bool (b:Bool)
 |str (s:ByteArray)
 |val (v:Value)
 |nils
 |cap0
 |sl (t:Ty) (xs:List t.den)
 |ptr (id off:Nat)
 |rptr (id k row off:Nat)
 |eptr (cells:List PV)
 |own (id:Nat)
 |ownp (id k lo len:Nat)
 |mp (id:Nat)
 |fn (f:Fn) (first captured:List AV)
 |agg (cs:List AV)
 |tup (vs:List AV)
 |when (c:Prop) (s:Nat) (want:Bool) (v:AV)
 |yld (id:Nat)
 |rnd (id:Nat)
 |grow (id row:Nat)
 |gptr (id row col:Nat)
 |ownc (id k lo len:Nat)
 |slf (t:Ty) (xs:List t.den)
 |csl (t:Ty) (id n:Nat)
 |dmp (es:List (Int×List (Option PV)))
inductive Jump where
 |no
 |ret
 |exit (n:Nat)
inductive Ob where
 |dead
 |cells (cs:List AV)
 |rows (t:Ty) (xs:List t.den)
 |froz (t:Ty) (xs:List t.den)
 |fmap (es:List (Int×AV))
 |grid (t:Ty) (more:Nat) (xss:List (List t.den))
 |loop (st:LoopState) (pend:Jump) (ps:List Nat) (assign body:Code) (sl:List AV)
def Aq{α:Type}(d:α):List α->Nat->α
 |[],_=>d
 |a::_,0=>a
 |_::l,n+1=>Aq d l n
def Ac(H:List Ob)(id:Nat):Ob:=Aq .dead H id
def B3{α:Type}(v:α):List α->Nat->List α
 |[],_=>[]
 |_::l,0=>v::l
 |a::l,n+1=>a::B3 v l n
def Eo:Value->AV
 |.int k n=>.int k n
 |.bool b=>.bool b
 |.string s=>.str s
 |.slice none 0 0=>.cap0
 |.agg _=>.any
 |.tuple _=>.any
 |v=>.val v
def Ef:Value->Bool
 |.agg _=>false
 |.tuple _=>false
 |_=>true
def Jf:Value->AV
 |.agg cs=>if cs.toList.all Ef then .agg (cs.toList.map Eo)else .any
 |.tuple _=>.any
 |v=>Eo v
def Py:List FnT->List AV
 |[]=>[]
 |c::l=>.eptr [.fn c]::Py l
def up:PV->AV
 |.fn .nil=>.val .nilFunc
 |.fn (.mk f caps)=>.fn (.func f) [] (Py caps)
 |.int k n=>.int k n
 |.bool b=>.bool b
 |.str s=>.str s
 |.sl t xs=>.sl t xs
 |.nils=>.nils
 |.val v=>.val v
def Kt(H:List Ob)(rec:AV->Option (FnT×List Nat)):List AV->Option (List FnT×List Nat)
 |[]=>some ([],[])
 |.eptr [.fn c]::l=>(match Kt H rec l with
  |some (cs,ids)=>some (c::cs,ids)
  |none=>none)
 |.ptr id off::l=>(match Ac H id with
  |.cells xs=>if Nat.blt off xs.length then(match rec (Aq .any xs off),Kt H rec l with
   |some (c,i1),some (cs,i2)=>some (c::cs,id::(i1++i2))
   |_,_=>none)else none
  |_=>none)
 |_=>none
def Lu(H:List Ob)(rec:AV->Option (FnT×List Nat)):AV->Option (FnT×List Nat)
 |.val .nilFunc=>some (.nil,[])
 |.fn (.func f) [] ys=>(match Kt H rec ys with
  |some (cs,ids)=>some (.mk f cs,ids)
  |none=>none)
 |_=>none
def Vf(H:List Ob):AV->Option (FnT×List Nat):=Lu H (Lu H (Lu H λ_=>none))
def Cl(H:List Ob):AV->Option (PV×List Nat)
 |.fn f a b=>(match Vf H (.fn f a b)with
  |some (T,l)=>some (.fn T,l)
  |none=>none)
 |.val .nilFunc=>some (.fn .nil,[])
 |.int k n=>some (.int k n,[])
 |.bool b=>some (.bool b,[])
 |.str s=>some (.str s,[])
 |.sl t xs=>some (.sl t xs,[])
 |.nils=>some (.nils,[])
 |.cap0=>some (.nils,[])
 |.val v=>some (.val v,[])
 |.own id=>match Ac H id with
  |.rows t xs=>some (.sl t xs,[id])
  |.froz t xs=>some (.sl t xs,[id])
  |.grid t m xss=>some (.sl (.sl t) (xss++List.replicate m []),[id])
  |_=>none
 |.ownp id k lo len=>match Ac H id with
  |.rows t xs=>if k==t.size then some (.sl t ((xs.drop lo).take len),[id])else none
  |.froz t xs=>if k==t.size then some (.sl t ((xs.drop lo).take len),[id])else none
  |_=>none
 |.ownc id k lo len=>match Ac H id with
  |.rows t xs=>if k==t.size then some (.sl t ((xs.drop lo).take len),[id])else none
  |.froz t xs=>if k==t.size then some (.sl t ((xs.drop lo).take len),[id])else none
  |_=>none
 |.slf t xs=>some (.sl t xs,[])
 |_=>none
def Di(H:List Ob):List AV->Option (List PV×List Nat)
 |[]=>some ([],[])
 |x::l=>match Cl H x,Di H l with
  |some (p,a),some (ps,b)=>some (p::ps,a++b)
  |_,_=>none
def cellsOf:AV->Option (List AV)
 |.agg cs=>some cs
 |.any=>none
 |.tup _=>none
 |.when _ _ _ _=>none
 |.yld _=>none
 |.rnd _=>none
 |.grow _ _=>none
 |.gptr _ _ _=>none
 |.dmp _=>none
 |v=>some [v]
structure CR where
 need:Option Prop
 given:Option Prop
 news:List Ob
 res:AV
structure CG where
 cr:CR
 gen:(AV->Prop)->Prop
abbrev Ctr:=List AV->Option CG
inductive Sh where
 |any
 |ints (t:Ty)
 |agg (l:List Sh)
mutual
def fit:Sh->AV->AV
 |.ints t,.cap0=>.sl t []
 |.ints t,.nils=>.sl t []
 |.agg l,.agg cs=>.agg (Nd l cs)
 |.agg l,.tup cs=>.tup (Nd l cs)
 |_,x=>x
def Nd:List Sh->List AV->List AV
 |s::ss,x::l=>fit s x::Nd ss l
 |_,l=>l
end
mutual
def Rt:AV->Sh
 |.sl t _=>.ints t
 |.agg cs=>.agg (Sq cs)
 |.tup cs=>.agg (Sq cs)
 |_=>.any
def Sq:List AV->List Sh
 |[]=>[]
 |x::l=>Rt x::Sq l
end
structure Ctx where
 ty:List (TypeId×Ty)
 tab:List (FuncId×(List Sh×Ctr))
def G3{α:Type}:List (Nat×α)->Nat->Option α
 |[],_=>none
 |(k,a)::l,n=>if Nat.beq k n then some a else G3 l n
structure Res where
 need:Option Prop
 given:Option Prop
 val:AV
 news:List Ob
 kill:Option Nat
 st:Option (Nat×Ob)
 frz:List Nat
@[reducible] def Res.pure(v:AV):Res:=⟨none,none,v,[],none,none,[]⟩
def Bk(P:Program)(t:TypeId):Nat:=match P.info? t with|some i=>i.size|none=>0
def C0(P:Program)(t:TypeId):Nat:=match P.info? t with|some i=>i.bytes|none=>0
def Q1:List Nat:=[8,16,24,32,40,48,56,64,72,80,88,96,104,112,120,1,2,4,128,136,144,152,160,168,176,184,192,200,208,216,224,232,240,248,256,264,272,280,288,296,304,312,320,328,336,344,352,360,368,376,384,392,400]
def Sr(n:Nat):List Nat->Option Nat
 |[]=>none
 |a::l=>if Nat.beq a n then some a else Sr n l
theorem Jg{n m:Nat}:∀{l:List Nat},Sr n l=some m->m=n
 |[],h=>by cases h
 |a::l,h=>by
  unfold Sr at h;split at h
  ·rename_i he;cases h;exact bB he
  ·exact Jg h
def Eg(P:Program)(t:TypeId):Option Value:=match P.info? t with|some i=>i.zero|none=>none
def Ss(P:Program)(t:TypeId)(f:Nat):Option (TypeId×Nat):=match P.underlying t with|some (.struct fs)=>(fs[f]?).map (λx=>(x.type,x.offset))|_=>none
def Eu(P:Program)(t:TypeId)(cs:List AV)(off:Nat):Option AV:=
 match P.underlying t,P.info? t with
 |some (.struct _),some i=>if Nat.ble (off+i.size) cs.length then some (.agg ((cs.drop off).take i.size))else none
 |some (.array _ _),some i=>if Nat.ble (off+i.size) cs.length then some (.agg ((cs.drop off).take i.size))else none
 |some _,some _=>if Nat.blt off cs.length then some (Aq .any cs off)else none
 |_,_=>none
def splice{α:Type}:List α->Nat->List α->List α
 |l,0,m=>m++l.drop m.length
 |[],_+1,_=>[]
 |a::l,n+1,m=>a::splice l n m
def inK:IntKind->Int->Prop
 |.i8,m=>-128<=m/\m<=127
 |.i16,m=>-32768<=m/\m<=32767
 |.i32,m=>-2147483648<=m/\m<=2147483647
 |.i64,m=>-9223372036854775808<=m/\m<=9223372036854775807
 |.u8,m=>0<=m/\m<=255
 |.u16,m=>0<=m/\m<=65535
 |.u32,m=>0<=m/\m<=4294967295
 |.u64,m=>0<=m/\m<=18446744073709551615
def C8(k:IntKind)(a b:Int):Int:=k.wrap ((BitVec.ofInt k.bits a &&& BitVec.ofInt k.bits b).toNat:Nat)
def Dc(k:IntKind)(a b:Int):Int:=k.wrap ((BitVec.ofInt k.bits a ||| BitVec.ofInt k.bits b).toNat:Nat)
def Apg(k:IntKind)(a b:Int):Int:=k.wrap ((BitVec.ofInt k.bits a ^^^ BitVec.ofInt k.bits b).toNat:Nat)
def Dd(k:IntKind)(a b:Int):Int:=k.wrap (a*2 ^ (min b.toNat k.bits))
def Nv(k:IntKind)(a b:Int):Int:=a.fdiv (2 ^ (min b.toNat k.bits))
def Su(op:BinOp)(k:IntKind)(a b:Int):Option Res:=
 match op with
 |.and=>some (.pure (.int k (C8 k a b)))
 |.or=>some (.pure (.int k (Dc k a b)))
 |.xor=>some (.pure (.int k (Apg k a b)))
 |.shl=>some ⟨some (0<=b),none,.int k (Dd k a b),[],none,none,[]⟩
 |.shr=>some ⟨some (0<=b),none,.int k (Nv k a b),[],none,none,[]⟩
 |.add=>some ⟨some (inK k (a+b)),none,.int k (a+b),[],none,none,[]⟩
 |.sub=>some ⟨some (inK k (a-b)),none,.int k (a-b),[],none,none,[]⟩
 |.mul=>some ⟨some (inK k (a*b)),none,.int k (a*b),[],none,none,[]⟩
 |.quo=>some ⟨some (b≠0/\inK k (a.tdiv b)),none,.int k (a.tdiv b),[],none,none,[]⟩
 |.rem=>some ⟨some (b≠0),none,.int k (a.tmod b),[],none,none,[]⟩
 |.lss=>some (.pure (.bool (decide (a<b))))
 |.leq=>some (.pure (.bool (decide (a<=b))))
 |.gtr=>some (.pure (.bool (decide (b<a))))
 |.geq=>some (.pure (.bool (decide (b<=a))))
 |.eql=>some (.pure (.bool (decide (a=b))))
 |.neq=>some (.pure (.bool (!decide (a=b))))
 |_=>none
def Aso:Operand->Bool
 |.tmp _=>true
 |_=>false
def Nw(w:Bool)(op:BinOp)(k:IntKind)(a b:Int):Option Res:=
 match w,op with
 |true,.add=>some (.pure (.int k (k.wrap (a+b))))
 |_,_=>Su op k a b
def ltS(a b:ByteArray):Bool:=Op.bytesLess a.data.toList b.data.toList
def Vg(op:BinOp)(a b:ByteArray):Option Res:=
 match op with
 |.eql=>some (.pure (.bool (decide (a=b))))
 |.neq=>some (.pure (.bool (!decide (a=b))))
 |.lss=>some (.pure (.bool (ltS a b)))
 |.leq=>some (.pure (.bool (ltS a b||decide (a=b))))
 |.gtr=>some (.pure (.bool (!(ltS a b||decide (a=b)))))
 |.geq=>some (.pure (.bool (!ltS a b)))
 |_=>none
def eqF(P:Program)(xs ys:List AV):List Field->Option Bool
 |[]=>some true
 |f::fs=>(match P.underlying f.type,Eu P f.type xs f.offset,Eu P f.type ys f.offset with
  |some (.int _),some (.int k a),some (.int k' b)=>if IntKind.beq' k k' then(eqF P xs ys fs).map (λr=>bif decide (a=b)then r else false)else none
  |some .bool,some (.bool a),some (.bool b)=>(eqF P xs ys fs).map (λr=>bif a==b then r else false)
  |_,_,_=>none)
def Aec(P:Program)(t:TypeId)(fs:List Field):Bool:=P.stoodInHeld t||(P.eqGuardType P.depth t||fs.any (λf=>f.name == "_"))
def Ku(s:Nat)(want:Bool):AV->AV
 |.when c s' w v=>if Nat.beq s s'&&(w==want)then v else .when c s' w v
 |v=>v
def Sv(q:Bool):AV->AV->Option Res
 |.bool x,.bool y=>some (.pure (.bool (bif q then x else y)))
 |.int k x,.int k' y=>if IntKind.beq' k k' then some (.pure (.int k (bif q then x else y)))else none
 |_,_=>none
structure PartS(α:Type) where
 need:Prop
 lo:Nat
 len:Nat
 xs:List α
def Lq{α:Type}(xs:List α)(len:Nat):Option AV->Option AV->Option (PartS α)
 |none,none=>some ⟨True,0,len,xs⟩
 |some (.int _ l),none=>some ⟨0<=l/\l<=(len:Int),l.toNat,len-l.toNat,xs.drop l.toNat⟩
 |none,some (.int _ h)=>some ⟨0<=h/\h<=(len:Int),0,h.toNat,xs.take h.toNat⟩
 |some (.int _ l),some (.int _ h)=>some ⟨0<=l/\l<=h/\h<=(len:Int),l.toNat,h.toNat-l.toNat,(xs.drop l.toNat).take (h.toNat-l.toNat)⟩
 |_,_=>none
def Aph(hi:Option Operand)(room len:Nat):Nat:=match hi with
 |none=>len
 |some _=>room
def Fb(H:List Ob):AV->Option (Sigma λt:Ty=>List t.den)
 |.sl t xs=>some ⟨t,xs⟩
 |.own id=>match Ac H id with
  |.rows t xs=>some ⟨t,xs⟩
  |.froz t xs=>some ⟨t,xs⟩
  |_=>none
 |.ownp id k lo len=>match Ac H id with
  |.rows t xs=>if k==t.size then some ⟨t,(xs.drop lo).take len⟩else none
  |.froz t xs=>if k==t.size then some ⟨t,(xs.drop lo).take len⟩else none
  |_=>none
 |.ownc id k lo len=>match Ac H id with
  |.rows t xs=>if k==t.size then some ⟨t,(xs.drop lo).take len⟩else none
  |.froz t xs=>if k==t.size then some ⟨t,(xs.drop lo).take len⟩else none
  |_=>none
 |.slf t xs=>some ⟨t,xs⟩
 |_=>none
def Nk(t:Ty):List PV->Option (List (List t.den))
 |[]=>some []
 |.nils::l=>(Nk t l).map λys=>[]::ys
 |.sl t' xs::l=>(match Lp t' t xs with
  |some zs=>(Nk t l).map λys=>zs::ys
  |none=>none)
 |_::_=>none
mutual
def An(H:List Ob):AV->Option (AV×List Nat)
 |.own id=>(Cl H (.own id)).map λp=>(up p.1,p.2)
 |.ownp id k lo len=>(Cl H (.ownp id k lo len)).map λp=>(up p.1,p.2)
 |.ownc id k lo len=>(Cl H (.ownc id k lo len)).map λp=>(up p.1,p.2)
 |.slf t xs=>some (.sl t xs,[])
 |.csl t id n=>match Ac H id with
  |.cells cs=>if Nat.beq cs.length n&&Nat.ble n 1000000 then(match Di H cs with
   |some (ps,l)=>(match Nk t ps with
    |some xss=>some (.sl (.sl t) xss,id::l)
    |none=>none)
   |none=>none)else none
  |_=>none
 |.ptr id off=>match Ac H id with
  |.cells cs=>match Di H (cs.drop off)with
   |some (ps,l)=>some (.eptr ps,id::l)
   |none=>none
  |_=>none
 |.rptr id k row off=>match Ac H id with
  |.rows t xs=>if k==t.size then some (.eptr ((enc t (xs.getD row (Ab t))).drop off),[id])else none
  |.froz t xs=>if k==t.size then some (.eptr ((enc t (xs.getD row (Ab t))).drop off),[id])else none
  |_=>none
 |.agg cs=>match Dv H cs with|some (l,m)=>some (.agg l,m)|none=>none
 |.fn f a b=>match Dv H a,Dv H b with|some (a',m),some (b',m')=>some (.fn f a' b',m++m')|_,_=>none
 |.tup _=>none
 |.when _ _ _ _=>none
 |.any=>none
 |.mp _=>none
 |.yld _=>none
 |.rnd _=>none
 |.grow _ _=>none
 |.gptr _ _ _=>none
 |.dmp _=>none
 |v=>some (v,[])
def Dv(H:List Ob):List AV->Option (List AV×List Nat)
 |[]=>some ([],[])
 |x::l=>match An H x,Dv H l with
  |some (y,a),some (ys,b)=>some (y::ys,a++b)
  |_,_=>none
end
mutual
def shift(n:Nat):AV->AV
 |.own id=>.own (n+id)
 |.agg cs=>.agg (Kv n cs)
 |.tup vs=>.tup (Kv n vs)
 |v=>v
def Kv(n:Nat):List AV->List AV
 |[]=>[]
 |x::l=>shift n x::Kv n l
end
mutual
def Ev(news:List Ob):AV->Bool
 |.int _ _=>true
 |.bool _=>true
 |.str _=>true
 |.nils=>true
 |.cap0=>true
 |.own id=>match Ac news id with|.rows t _=>t.flat|_=>false
 |.agg cs=>Ih news cs
 |.tup vs=>Ih news vs
 |_=>false
def Ih(news:List Ob):List AV->Bool
 |[]=>true
 |x::l=>Ev news x&&Ih news l
end
def Aed:AV->Bool
 |.eptr _=>true
 |_=>false
mutual
def Ho:AV->Bool
 |.eptr _=>true
 |.fn _ a b=>a.all Aed&&b.all Aed
 |.int _ _=>true
 |.bool _=>true
 |.str _=>true
 |.nils=>true
 |.cap0=>true
 |.val _=>true
 |.sl _ _=>true
 |.own _=>true
 |.dmp _=>true
 |.agg cs=>Jz cs
 |.tup vs=>Jz vs
 |_=>false
def Jz:List AV->Bool
 |[]=>true
 |x::l=>Ho x&&Jz l
end
def Ai1:Ob->Bool
 |.rows t _=>t.flat
 |_=>false
def Ny:Ob->Bool
 |.rows _ _=>true
 |_=>false
def Q2(cx:Ctx)(H:List Ob)(n:Nat)(g:FuncId)(args:List AV):Option Res:=
 match G3 cx.tab g with
 |none=>none
 |some (shs,C)=>match Dv H args with
  |none=>none
  |some (args',ids)=>match C (Nd shs args')with
   |none=>none
   |some ⟨r,_⟩=>
    if Ho r.res&&r.news.all Ny then
     (if Ev r.news r.res&&r.news.all Ai1 then some ⟨r.need,r.given,shift n r.res,r.news,none,none,[]⟩
      else some ⟨r.need,r.given,shift n r.res,r.news,none,none,ids⟩)
    else none
def lim:Nat:=140737488355328
def big:Nat:=9223372036854775807
def Og(P:Program)(elem:TypeId)(t:Ty):Bool:=match Eg P elem with|some z=>Nat.beq z.cells.size t.size|none=>false
def R2(P:Program)(H:List Ob)(elem:TypeId)(id k lo len:Nat)(src:AV):Option Res:=
 match Fb H src with
 |none=>none
 |some ⟨t,ys⟩=>match Ac H id with
  |.rows t' xs=>if Nat.beq (Bk P elem) t'.size&&Nat.beq k t'.size then
   (match Lp t t' ys with
   |some zs=>some ⟨some (lo+len+zs.length<=xs.length),none,.ownc id k lo (len+zs.length),[],none,some (id,.rows t' (xs.take (lo+len)++(zs++xs.drop (lo+len+zs.length)))),[]⟩
   |none=>none)else none
  |_=>none
def R3(P:Program)(H:List Ob)(n:Nat)(elem:TypeId)(u:Ty)(xs:List u.den)(src:AV):Option Res:=
 match Fb H src with
 |none=>none
 |some ⟨t,ys⟩=>
  if Nat.beq (Bk P elem) u.size&&Og P elem u&&Nat.ble 1 (C0 P elem)then
   match Sr (C0 P elem) Q1,Lp t u ys with
   |some bs,some zs=>some ⟨some (zs≠[]/\(xs.length+zs.length)*bs<=lim),none,.own n,[.rows u (xs++zs)],none,none,[]⟩
   |_,_=>none
  else none
def Lv(P:Program)(H:List Ob)(n:Nat)(elem:TypeId)(dst src:AV):Option Res:=
 match Fb H src with
 |none=>(match P.info? elem with|none=>none|some _=>match src,dst with
  |.cap0,.cap0=>some (.pure .cap0)
  |.nils,.cap0=>some (.pure .cap0)
  |.cap0,.own id=>(match Ac H id with|.rows _ _=>some (.pure (.own id))|_=>none)
  |.nils,.own id=>(match Ac H id with|.rows _ _=>some (.pure (.own id))|_=>none)
  |_,_=>none)
 |some ⟨t,ys⟩=>
  if Nat.beq (Bk P elem) t.size&&Og P elem t&&Nat.ble 1 (C0 P elem)then
   match Sr (C0 P elem) Q1 with
   |none=>none
   |some bs=>match dst with
   |.cap0=>some ⟨some (ys.length*bs<=lim),none,.own n,[.rows t ys],none,none,[]⟩
   |.own id=>match Ac H id with
    |.rows t' xs=>match Lp t t' ys with
     |some zs=>some ⟨some ((xs.length+zs.length)*bs<=lim),none,.own n,[.rows t' (xs++zs)],some id,none,[]⟩
     |none=>none
    |_=>none
   |.ownp id k lo len=>match Ac H id with
    |.rows t' xs=>if Nat.beq k t'.size then(match Lp t t' ys with
     |some zs=>some ⟨some ((((xs.drop lo).take len).length+zs.length)*bs<=lim),none,.own n,[.rows t' ((xs.drop lo).take len++zs)],some id,none,[]⟩
     |none=>none)else none
    |_=>none
   |_=>none
  else none
def Asp:AV->AV->Bool
 |.ownp id _ _ _,.ownp id' _ _ _=>Nat.beq id id'
 |_,_=>false
def Oh(P:Program)(H:List Ob)(elem:TypeId)(dst src:AV):Option Res:=
 match dst,Fb H src with
 |.ownp id k lo len,some ⟨t,ys⟩=>(match Ac H id with
  |.rows t' xs=>if Nat.beq (Bk P elem) t'.size&&Nat.beq k t'.size then
   (match Lp t t' ys with
   |some zs=>some ⟨some (lo+len+zs.length<=xs.length),none,.ownp id k lo (len+zs.length),[],none,some (id,.rows t' (xs.take (lo+len)++(zs++xs.drop (lo+len+zs.length)))),[]⟩
   |none=>none)else none
  |_=>none)
 |_,_=>none
def Kw(P:Program)(H:List Ob)(n:Nat)(elem:TypeId)(dst src:AV):Option Res:=
 if Asp dst src then Oh P H elem dst src else
 match dst with
 |.ownc id k lo len=>R2 P H elem id k lo len src
 |.slf u xs=>R3 P H n elem u xs src
 |dst=>Lv P H n elem dst src
def Y3(P:Program)(t:TypeId):Bool:=match P.underlying t with|some (.slice _)=>(P.info? t).isSome|_=>false
def Oi(cx:Ctx)(P:Program)(n:Nat)(t t':TypeId)(dst src:AV):Option Res:=
 match P.underlying t,P.underlying t',dst,src with
 |some (.slice elem),some (.int _),.cap0,.int _ c=>(match G3 cx.ty elem,Eg P elem with
  |some ty,some z=>if Nat.beq (Bk P elem) ty.size&&z.cells.toList.all Ef then
   (match Di [] (z.cells.toList.map Eo)with
   |some (ps,_)=>(match dec ty ps,Sr (C0 P elem) Q1 with
    |some y,some bs=>some ⟨some (0<c/\c*(bs:Int)<=(lim:Int)/\c<=(lim:Int)),none,.own n,[.rows ty (List.replicate c.toNat y)],none,none,[]⟩
    |_,_=>none)
   |none=>none)else none
  |_,_=>none)
 |_,_,_,_=>none
def Oj(H:List Ob):AV->Option (Nat×Ob)
 |.ownp id k lo len=>match Ac H id with
  |.rows t xs=>if Nat.beq k t.size then some (id,.rows t ((xs.drop lo).take len))else none
  |_=>none
 |_=>none
def Ds{α:Type}(q:Int)(z:α):List (Int×α)->α
 |[]=>z
 |(p,a)::l=>if q=p then a else Ds q z l
def Nz{α:Type}(q:Int):List (Int×α)->Bool
 |[]=>false
 |(p,_)::l=>if q=p then true else Nz q l
def Amx(k:IntKind):List (Int×AV)->Option (List (Int×Int))
 |[]=>some []
 |(p,.int k' n)::l=>if IntKind.beq' k' k then(match Amx k l with|some r=>some ((p,n)::r)|none=>none)else none
 |_=>none
def Amy:List (Int×AV)->Option (List (Int×ByteArray))
 |[]=>some []
 |(p,.str s)::l=>(match Amy l with|some r=>some ((p,s)::r)|none=>none)
 |_=>none
def Ab5(q:Int)(z:AV)(es:List (Int×AV)):AV:=match z with
 |.int k n=>(match Amx k es with|some l=>.int k (Ds q n l)|none=>.any)
 |.str s=>(match Amy es with|some l=>.str (Ds q s l)|none=>.any)
 |_=>.any
def Amz(m:Nat):List (Int×AV)->Option (List (Int×List AV))
 |[]=>some []
 |(p,.agg cs)::l=>if Nat.beq cs.length m then(match Amz m l with|some r=>some ((p,cs)::r)|none=>none)else none
 |_=>none
def Lw(q:Int):List AV->List (Int×List AV)->List AV
 |[],_=>[]
 |z::zs,l=>Ab5 q z (l.map λp=>(p.1,p.2.headD .any))::Lw q zs (l.map λp=>(p.1,p.2.tail))
def N0(q:Int)(z:AV)(es:List (Int×AV)):Option AV:=match z with
 |.agg zs=>(match Amz zs.length es with|some l=>some (.agg (Lw q zs l))|none=>none)
 |_=>none
def Sw(ok:Bool)(v:AV)(b:Bool):AV:=match ok with
 |true=>.tup [v,.bool b]
 |false=>v
def Ai2:Option PV->AV
 |some p=>up p
 |none=>.any
def U7(es:List (Int×List (Option PV))):List (Int×AV):=es.map λp=>(p.1,.agg (p.2.map Ai2))
def evOp(cx:Ctx)(P:Program)(e:Operand->AV)(H:List Ob)(n:Nat)(o:Oper):Option Res:=
 match o.op with
 |.move x=>some (.pure (e x))
 |.assign x=>some (.pure (e x))
 |.pick c a b=>match e c with
  |.bool q=>(match c with
   |.tmp s=>Sv q (Ku s true (e a)) (Ku s false (e b))
   |_=>none)
  |_=>none
 |.extract x i=>match e x with
  |.tup vs=>if Nat.blt i vs.length then some (.pure (Aq .any vs i))else none
  |_=>none
 |.makeFunc f first captured=>some (.pure (.fn f (first.toList.map e) (captured.toList.map e)))
 |.alloc t=>match Eg P t with
  |some z=>if z.cells.toList.all Ef then some ⟨none,none,.ptr n 0,[.cells (z.cells.toList.map Eo)],none,none,[]⟩else none
  |none=>none
 |.makeMap _ none=>some ⟨none,none,.mp n,[.fmap []],none,none,[]⟩
 |.insert t m k x=>match P.underlying t with
  |some (.map kt _)=>(match P.underlying kt,e m,e k,e x with
   |some (.int _),.mp id,.int .i64 q,y=>(match Ac H id with
    |.fmap es=>if es.all (λp=>!decide (q=p.1))then some ⟨none,none,.any,[],none,some (id,.fmap (es++[(q,y)])),[]⟩else none
    |_=>none)
   |_,_,_,_=>none)
  |_=>none
 |.box _ x=>match cellsOf (e x)with
  |some cs=>some ⟨none,none,.ptr n 0,[.cells cs],none,none,[]⟩
  |none=>none
 |.build t parts=>match Eg P t,P.underlying t with
  |some (.agg z),some (.struct fs)=>if z.toList.all Ef&&fs.toList.all (λf=>(P.info? f.type).isSome)then
   (match buildGo P t e parts.toList (z.toList.map Eo)with
   |some cs=>some (.pure (.agg cs))
   |none=>none)else none
  |some (.agg z),some (.array _ elem)=>if z.toList.all Ef&&(P.info? elem).isSome then
   (match arrGo (Bk P elem) e parts.toList (z.toList.map Eo)with
   |some cs=>some (.pure (.agg cs))
   |none=>none)else none
  |_,_=>none
 |.buildSlice t len parts=>match P.underlying t with
  |some (.slice elem)=>
   match G3 cx.ty elem,Eg P elem with
   |some ty,some _=>if Nat.beq len 0 then(if parts.toList.isEmpty&&Nat.beq (Bk P elem) ty.size then some (.pure .cap0)else none)else
    if Nat.beq (Bk P elem) ty.size&&Nat.ble (len*Bk P elem) 1000 then
     (match rowsGo H ty e 0 parts.toList with
     |some (xs,ids)=>if Nat.beq xs.length len then some ⟨none,none,.own n,[.rows ty xs],none,none,ids⟩else none
     |none=>none)else none
   |_,_=>none
  |_=>none
 |.load t x=>match e x with
  |.ptr id off=>(match Ac H id with
   |.cells cs=>(Eu P t cs off).map .pure
   |_=>none)
  |.rptr id k row off=>(match Ac H id with
   |.rows ty xs=>if Nat.beq k ty.size then(Eu P t ((enc ty (xs.getD row (Ab ty))).map up) off).map .pure else none
   |.froz ty xs=>if Nat.beq k ty.size then(Eu P t ((enc ty (xs.getD row (Ab ty))).map up) off).map .pure else none
   |.grid _ _ xss=>if Nat.beq k 1&&(Nat.beq off 0&&Y3 P t)then some ⟨some (row<xss.length),none,.grow id row,[],none,none,[]⟩else none
   |_=>none)
  |.gptr id i j=>(match Ac H id with
   |.grid gt _ xss=>if Nat.beq gt.size 1 then(Eu P t ((enc gt ((xss.getD i []).getD j (Ab gt))).map up) 0).map .pure else none
   |_=>none)
  |.eptr cs=>(Eu P t (cs.map up) 0).map .pure
  |_=>none
 |.store t a x=>match cellsOf (e x)with
  |none=>none
  |some vs=>if Nat.beq vs.length (Bk P t)then
   (match P.info? t with|none=>none|some _=>match e a with
   |.ptr id off=>(match Ac H id with
    |.cells cs=>if Nat.ble (off+vs.length) cs.length then(match Oj H (e x)with
     |some (id2,ob)=>some ⟨none,none,.any,[ob],some id2,some (id,.cells (splice cs off [.own n])),[]⟩
     |none=>some ⟨none,none,.any,[],none,some (id,.cells (splice cs off vs)),[]⟩)else none
    |_=>none)
   |.rptr id k row off=>(match Ac H id with
    |.rows ty xs=>if Nat.beq k ty.size&&Nat.ble (off+vs.length) k then
     (match Di H vs with
     |some (ps,ids)=>(match dec ty (splice (enc ty (xs.getD row (Ab ty))) off ps)with
      |some y=>if ids.contains id then none else some ⟨none,none,.any,[],none,some (id,.rows ty (xs.set row y)),ids⟩
      |none=>none)
     |none=>none)else none
    |.grid gt m xss=>if Nat.beq k 1&&Nat.beq off 0 then
     (match e x with
     |.own j=>(match Ac H j with
      |.rows t' xs=>(match Lp t' gt xs with
       |some zs=>some ⟨some (row=xss.length/\1<=m),none,.any,[],some j,some (id,.grid gt (m-1) (xss++[zs])),[]⟩
       |none=>none)
      |_=>none)
     |_=>none)else none
    |_=>none)
   |.gptr id i j=>(match Ac H id with
    |.grid gt m xss=>if Nat.beq gt.size 1&&gt.flat then
     (match Di H vs with
     |some (ps,_)=>(match dec gt ps with
      |some y=>some ⟨none,none,.any,[],none,some (id,.grid gt m (xss.set i ((xss.getD i []).set j y))),[]⟩
      |none=>none)
     |none=>none)else none
    |_=>none)
   |_=>none)else none
 |.nilCheck x=>match e x with
  |.ptr id off=>some (.pure (.ptr id off))
  |.rptr id k row off=>some (.pure (.rptr id k row off))
  |.eptr cs=>some (.pure (.eptr cs))
  |.fn (.func f) a b=>some (.pure (.fn (.func f) a b))
  |_=>none
 |.binOp op t x y _=>match e x,e y with
  |.int k a,.int k' b=>if IntKind.beq' k k' then Nw ((G3 cx.ty 4000000).isSome&&Aso y) op k a b else none
  |.bool a,.bool b=>(match op,P.underlying t with
   |.eql,some .bool=>some (.pure (.bool (a==b)))
   |.neq,some .bool=>some (.pure (.bool (!(a==b))))
   |_,_=>none)
  |.str a,.str b=>Vg op a b
  |.agg xs,.agg ys=>(match P.underlying t with
   |some (.struct fs)=>(match eqF P xs ys fs.toList with
    |some b=>(match op with
     |.eql=>some ⟨some (Aec P t fs.toList=false),none,.bool b,[],none,none,[]⟩
     |.neq=>some ⟨some (Aec P t fs.toList=false),none,.bool (!b),[],none,none,[]⟩
     |_=>none)
    |none=>none)
   |_=>none)
  |_,_=>none
 |.unOp op _ x=>match op,e x with
  |.not,.bool b=>some (.pure (.bool (!b)))
  |.neg,.int k a=>some ⟨some (inK k (0-a)),none,.int k (0-a),[],none,none,[]⟩
  |_,_=>none
 |.convert src dst x=>match P.underlying src,P.underlying dst,e x with
  |some (.int _),some (.int k),.int _ a=>some ⟨some (inK k a),none,.int k a,[],none,none,[]⟩
  |_,_,_=>none
 |.fieldAddr t x f=>match Ss P t f with
  |some (ft,d)=>if Nat.beq (Bk P ft) 0 then none else
   (match e x with
   |.ptr id off=>some (.pure (.ptr id (off+d)))
   |.rptr id k row off=>some (.pure (.rptr id k row (off+d)))
   |.eptr cs=>some (.pure (.eptr (cs.drop d)))
   |_=>none)
  |none=>none
 |.field t x f=>match Ss P t f,e x with
  |some (ft,d),.agg cs=>(Eu P ft cs d).map .pure
  |_,_=>none
 |.lookup t m k ok=>match P.underlying t with
  |some (.map kt et)=>(match P.underlying kt,Eg P et,e m,e k with
   |some (.int _),some z,.dmp es,.int .i64 q=>(match N0 q (Jf z) (U7 es)with
    |some v=>some (.pure (Sw ok v (Nz q (U7 es))))
    |none=>none)
   |_,_,_,_=>none)
  |_=>none
 |.index t x ix=>match P.underlying t,e x,e ix with
  |some .string,.str s,.int _ i=>some ⟨some (0<=i/\i<(s.size:Int)),none,.int .u8 ((s.data.toList.getD i.toNat 0).toNat:Int),[],none,none,[]⟩
  |_,_,_=>none
 |.indexAddr t x ix=>match P.underlying t,e ix with
  |some (.slice elem),.int _ i=>(match e x with
   |.sl ty xs=>if Nat.beq (Bk P elem) ty.size then some ⟨some (0<=i/\i<(xs.length:Int)),none,.eptr (enc ty (xs.getD i.toNat (Ab ty))),[],none,none,[]⟩else none
   |.own id=>(match Ac H id with
    |.rows ty xs=>if Nat.beq (Bk P elem) ty.size then some ⟨some (0<=i/\i<(xs.length:Int)),none,.rptr id ty.size i.toNat 0,[],none,none,[]⟩else none
    |.froz ty xs=>if Nat.beq (Bk P elem) ty.size then some ⟨some (0<=i/\i<(xs.length:Int)),none,.rptr id ty.size i.toNat 0,[],none,none,[]⟩else none
    |.grid _ m xss=>if Nat.beq (Bk P elem) 1 then some ⟨some (0<=i/\i<((xss.length+m:Nat):Int)),none,.rptr id 1 i.toNat 0,[],none,none,[]⟩else none
    |_=>none)
   |.grow id gi=>(match Ac H id with
    |.grid gt _ xss=>if Nat.beq (Bk P elem) 1&&Nat.beq gt.size 1 then some ⟨some (gi<xss.length/\0<=i/\i<((xss.getD gi []).length:Int)),none,.gptr id gi i.toNat,[],none,none,[]⟩else none
    |_=>none)
   |.csl _ id m=>(match Ac H id with
    |.cells _=>if Nat.beq (Bk P elem) 1 then some ⟨some (0<=i/\i<(m:Int)),none,.ptr id i.toNat,[],none,none,[]⟩else none
    |_=>none)
   |.ownc id k lo len=>(match Ac H id with
    |.dead=>none
    |_=>if Nat.beq (Bk P elem) k&&Nat.ble 1 k then some ⟨some (0<=i/\i<(len:Int)),none,.rptr id k (lo+i.toNat) 0,[],none,none,[]⟩else none)
   |.ownp id k lo len=>(match Ac H id with
    |.dead=>none
    |_=>if Nat.beq (Bk P elem) k&&Nat.ble 1 k then some ⟨some (0<=i/\i<(len:Int)),none,.rptr id k (lo+i.toNat) 0,[],none,none,[]⟩else none)
   |_=>none)
  |some (.array len elem),.int _ i=>(match P.info? elem with
   |none=>none
   |some _=>(match e x with
    |.ptr id off=>some ⟨some (0<=i/\i<(len:Int)),none,.ptr id (off+i.toNat*Bk P elem),[],none,none,[]⟩
    |_=>none))
  |_,_=>none
 |.slice t x lo hi mx=>match P.underlying t with
  |some (.slice elem)=>(match mx with
   |some (.const (.int _ 0))=>(match lo,hi with
    |none,some (.const (.int _ 0))=>(match P.info? elem with|none=>none|some _=>match e x with
     |.sl _ _=>some (.pure .cap0)
     |.own id=>(match Ac H id with
      |.rows _ _=>some (.pure .cap0)
      |.froz _ _=>some (.pure .cap0)
      |_=>none)
     |.ownp id _ _ _=>(match Ac H id with
      |.dead=>none
      |_=>some (.pure .cap0))
     |.cap0=>some (.pure .cap0)
     |.nils=>some (.pure .cap0)
     |_=>none)
    |_,_=>none)
   |some m=>(match lo,hi,e x with
    |none,some h,.sl ty xs=>(match e h,e m with
     |.int _ a,.int _ b=>if Nat.beq (Bk P elem) ty.size then some ⟨some (0<=a/\a=b/\a<=(xs.length:Int)),none,.slf ty (xs.take a.toNat),[],none,none,[]⟩else none
     |_,_=>none)
    |some l,some h,.own id=>(match Ac H id with
     |.rows ty xs=>(match e l,e h,e m with
      |.int _ a,.int _ b,.int _ c=>if Nat.beq (Bk P elem) ty.size then some ⟨some (0<=a/\a<=b/\b<=c/\c<=(xs.length:Int)),none,.any,[],none,none,[]⟩else none
      |_,_,_=>none)
     |_=>none)
    |_,_,_=>none)
   |none=>(match e x with
    |.ownp id k l0 n0=>(match Ac H id with
     |.rows ty xs=>if Nat.beq (Bk P elem) ty.size&&Nat.beq k ty.size then
      (match Lq (List.replicate (Aph hi (xs.length-l0) n0) ()) (Aph hi (xs.length-l0) n0) (lo.map e) (hi.map e)with
      |some ⟨q,l,m,_⟩=>some ⟨some (q/\l0+n0<=xs.length),none,.ownp id k (l0+l) m,[],none,none,[]⟩
      |none=>none)else none
     |_=>none)
    |.sl ty xs=>if Nat.beq (Bk P elem) ty.size then
     (match Lq xs xs.length (lo.map e) (hi.map e)with
     |some ⟨q,_,_,ys⟩=>some ⟨some q,none,.sl ty ys,[],none,none,[]⟩
     |none=>none)else none
    |.own id=>(match Ac H id with
     |.rows ty xs=>if Nat.beq (Bk P elem) ty.size then
      (match Lq xs xs.length (lo.map e) (hi.map e)with
      |some ⟨q,l,m,_⟩=>some ⟨some q,none,.ownp id ty.size l m,[],none,none,[]⟩
      |none=>none)else none
     |.froz ty xs=>if Nat.beq (Bk P elem) ty.size then
      (match Lq xs xs.length (lo.map e) (hi.map e)with
      |some ⟨q,l,m,_⟩=>some ⟨some q,none,.ownp id ty.size l m,[],none,none,[]⟩
      |none=>none)else none
     |_=>none)
    |.cap0=>(match P.info? elem with|none=>none|some _=>match Lq ([]:List Nat) 0 (lo.map e) (hi.map e)with
     |some ⟨q,_,_,_⟩=>some ⟨some q,none,.cap0,[],none,none,[]⟩
     |none=>none)
    |.nils=>(match P.info? elem with|none=>none|some _=>match Lq ([]:List Nat) 0 (lo.map e) (hi.map e)with
     |some ⟨q,_,_,_⟩=>some ⟨some q,none,.nils,[],none,none,[]⟩
     |none=>none)
    |_=>none))
  |_=>none
 |.makeSlice t l c=>match P.underlying t,e l,e c with
  |some (.slice elem),.int _ len,.int _ cp=>(match G3 cx.ty (3000000+elem)with
   |some ct=>(match Eg P elem,Sr (C0 P elem) Q1 with
    |some (.slice none 0 0),some bs=>if Nat.beq (Bk P elem) 1 then some ⟨some (0<=len/\len=cp/\cp*(bs:Int)<=(lim:Int)/\cp<=(lim:Int)),none,.csl ct n len.toNat,[.cells (List.replicate len.toNat .cap0)],none,none,[]⟩else none
    |_,_=>none)
   |none=>match G3 cx.ty (1000000+elem)with
   |some gt=>(match Eg P elem,Sr (C0 P elem) Q1 with
    |some (.slice none 0 0),some bs=>if Nat.beq (Bk P elem) 1 then some ⟨some (0<=len/\len<=cp/\cp*(bs:Int)<=(lim:Int)/\cp<=(lim:Int)),none,.own n,[.grid gt len.toNat []],none,none,[]⟩else none
    |_,_=>none)
   |none=>(match G3 cx.ty (2000000+elem),Eg P elem with
   |some ty,some z=>if Nat.beq (Bk P elem) ty.size&&z.cells.toList.all Ef then
    (match Di [] (z.cells.toList.map Eo)with
    |some (ps,_)=>(match dec ty ps,Sr (C0 P elem) Q1 with
     |some y,some bs=>some ⟨some (0<=len/\len<=cp/\cp*(bs:Int)<=(lim:Int)/\cp<=(lim:Int)),none,.ownc n ty.size 0 len.toNat,[.rows ty (List.replicate cp.toNat y)],none,none,[]⟩
     |_,_=>none)
    |none=>none)else none
   |_,_=>(match G3 cx.ty elem,Eg P elem with
   |some ty,some z=>if Nat.beq (Bk P elem) ty.size&&z.cells.toList.all Ef then
    (match Di [] (z.cells.toList.map Eo)with
    |some (ps,_)=>(match dec ty ps,Sr (C0 P elem) Q1 with
     |some y,some bs=>some ⟨some (0<=len/\len<=cp/\cp*(bs:Int)<=(lim:Int)/\cp<=(lim:Int)),none,.own n,[.rows ty (List.replicate len.toNat y)],none,none,[]⟩
     |_,_=>none)
    |none=>none)else none
   |_,_=>none)))
  |_,_,_=>none
 |.call c=>match c.callee with
  |.builtin .len=>(match c.argTypes[0]? with
   |none=>none
   |some t=>match P.underlying t with
   |some (.slice _)=>(match c.args.toList.map e with
   |[.sl _ xs]=>some ⟨none,some (xs.length<=big),.int .i64 (xs.length:Int),[],none,none,[]⟩
   |[.own id]=>(match Ac H id with
    |.rows _ xs=>some ⟨none,some (xs.length<=lim),.int .i64 (xs.length:Int),[],none,none,[]⟩
    |.froz _ xs=>some ⟨none,some (xs.length<=lim),.int .i64 (xs.length:Int),[],none,none,[]⟩
    |.grid _ m xss=>some ⟨none,some (xss.length+m<=lim),.int .i64 ((xss.length+m:Nat):Int),[],none,none,[]⟩
    |_=>none)
   |[.grow id gi]=>(match Ac H id with
    |.grid _ _ xss=>some ⟨some (gi<xss.length),some ((xss.getD gi []).length<=lim),.int .i64 ((xss.getD gi []).length:Int),[],none,none,[]⟩
    |_=>none)
   |[.ownc id _ _ len]=>(match Ac H id with
    |.dead=>none
    |_=>some ⟨none,none,.int .i64 (len:Int),[],none,none,[]⟩)
   |[.csl _ id m]=>(match Ac H id with
    |.dead=>none
    |_=>some (.pure (.int .i64 (m:Int))))
   |[.slf _ xs]=>some ⟨none,some (xs.length<=big),.int .i64 (xs.length:Int),[],none,none,[]⟩
   |[.ownp id _ _ len]=>(match Ac H id with
    |.dead=>none
    |_=>some ⟨none,none,.int .i64 (len:Int),[],none,none,[]⟩)
   |[.cap0]=>some (.pure (.int .i64 0))
   |[.nils]=>some (.pure (.int .i64 0))
   |_=>none)
   |some .string=>(match c.args.toList.map e with
   |[.str s]=>some (.pure (.int .i64 (s.size:Int)))
   |_=>none)
   |_=>none)
  |.builtin .cap=>(match c.argTypes[0]? with
   |none=>none
   |some t=>match P.underlying t with
   |some (.slice _)=>(match c.args.toList.map e with
    |[.cap0]=>some (.pure (.int .i64 0))
    |_=>none)
   |_=>none)
  |.builtin .append=>(match c.args.toList.map e,c.argTypes.toList with
   |[dst,src],[t,t']=>if Nat.beq t t' then
    (match P.underlying t with
    |some (.slice elem)=>Kw P H n elem dst src
    |_=>none)else Oi cx P n t t' dst src
   |_,_=>none)
  |.builtin .copy=>(match c.args.toList.map e,c.argTypes.toList with
   |[.own id,src],[t,t']=>if Nat.beq t t' then
    (match P.underlying t,Ac H id,Fb H src with
    |some (.slice elem),.rows ty xs,some ⟨ty',ys⟩=>if Nat.beq (Bk P elem) ty.size then
     (match Lp ty' ty ys with
     |some zs=>some ⟨none,none,.int .i64 ((Nat.min zs.length xs.length:Nat):Int),[],none,some (id,.rows ty (zs.take xs.length++xs.drop zs.length)),[]⟩
     |none=>none)else none
    |_,_,_=>none)else none
   |_,_=>none)
  |.builtin .clear=>(match c.args.toList.map e,c.argTypes.toList with
   |[.ownp id k lo len],[t]=>(match P.underlying t,Ac H id with
    |some (.slice elem),.rows ty xs=>(match Eg P elem with
     |some z=>if Nat.beq (Bk P elem) ty.size&&(Nat.beq k ty.size&&z.cells.toList.all Ef)then
      (match Di [] (z.cells.toList.map Eo)with
      |some (ps,_)=>(match dec ty ps with
       |some y=>some ⟨none,none,.any,[],none,some (id,.rows ty (xs.take lo++(List.replicate len y++xs.drop (lo+len)))),[]⟩
       |none=>none)
      |none=>none)else none
     |none=>none)
    |_,_=>none)
   |_,_=>none)
  |.builtin .min=>(match c.args.toList.map e with
   |[.int k a,.int k' b]=>if IntKind.beq' k k' then some (.pure (.int k (if b<a then b else a)))else none
   |_=>none)
  |.builtin .max=>(match c.args.toList.map e with
   |[.int k a,.int k' b]=>if IntKind.beq' k k' then some (.pure (.int k (if b>a then b else a)))else none
   |_=>none)
  |.value f=>(match e f with
   |.fn (.func g) first captured=>Q2 cx H n g (first++c.args.toList.map e++captured)
   |_=>none)
  |_=>none
 |_=>none
where
 arrGo (sz:Nat) (e:Operand->AV):List (Nat×Operand)->List AV->Option (List AV)
  |[],cs=>some cs
  |(i,x)::rest,cs=>match cellsOf (e x)with
   |some vs=>if Nat.beq vs.length sz&&Nat.ble (i*sz+vs.length) cs.length then arrGo sz e rest (splice cs (i*sz) vs)else none
   |none=>none
 buildGo (P:Program) (t:TypeId) (e:Operand->AV):List (Nat×Operand)->List AV->Option (List AV)
  |[],cs=>some cs
  |(f,x)::rest,cs=>match Ss P t f,cellsOf (e x)with
   |some (ft,d),some vs=>if Nat.beq vs.length (Bk P ft)&&Nat.ble (d+vs.length) cs.length then buildGo P t e rest (splice cs d vs)else none
   |_,_=>none
 rowsGo (H:List Ob) (ty:Ty) (e:Operand->AV):Nat->List (Nat×Operand)->Option (List ty.den×List Nat)
  |_,[]=>some ([],[])
  |i,(j,x)::rest=>if Nat.beq i j then
   (match cellsOf (e x)with
   |some vs=>(match Di H vs with
    |some (ps,ids)=>(match dec ty ps,rowsGo H ty e (i+1) rest with
     |some y,some (ys,ids')=>some (y::ys,ids++ids')
     |_,_=>none)
    |none=>none)
   |none=>none)
   else none
end Go.Sx
namespace Go.Sx
def ev(sl:List AV):Operand->AV
 |.tmp t=>Aq .any sl t
 |.const v=>Jf v
 |.func f=>.fn (.func f) [] []
 |.global _=>.any
def Agh{α:Type}(v:α):(List α->Prop)->List α->Nat->Prop
 |k,[],_=>k []
 |k,_::l,0=>k (v::l)
 |k,a::l,n+1=>Agh v (λl'=>k (a::l')) l n
def Asq:List Nat:=[0,1,2,3,4,5,6,7,8,9,10,11,12,13,14,15,16,17,18,19,20,21,22,23,24,25,26,27,28,29,30,31,32,33,34,35,36,37,38,39,40,41,42,43,44,45,46,47,48,49,50,51,52,53,54,55,56,57,58,59,60,61,62,63,64,65,66,67,68,69,70,71,72,73,74,75,76,77,78,79,80,81,82,83,84,85,86,87,88,89,90,91,92,93,94,95,96,97,98,99,100,101,102,103,104,105,106,107,108,109,110,111,112,113,114,115,116,117,118,119]
def Ok(n:Nat)(k:Nat->Prop):List Nat->Prop
 |[]=>k n
 |a::l=>if Nat.beq a n then k a else Ok n k l
def Fo(n:Nat)(k:Nat->Prop):Prop:=Ok n k Asq
def Fp:List PV->(List PV->Prop)->Prop
 |[],k=>k []
 |.int q n::l,k=>Fp l (λl'=>k (.int q n::l'))
 |.bool b::l,k=>Fp l (λl'=>k (.bool b::l'))
 |.str s::l,k=>Fp l (λl'=>k (.str s::l'))
 |.sl t xs::l,k=>Fp l (λl'=>k (.sl t xs::l'))
 |.nils::l,k=>Fp l (λl'=>k (.nils::l'))
 |.val v::l,k=>Fp l (λl'=>k (.val v::l'))
 |.fn T::l,k=>Fp l (λl'=>k (.fn T::l'))
mutual
def Cd:AV->(AV->Prop)->Prop
 |.any,k=>k .any
 |.int q n,k=>k (.int q n)
 |.bool b,k=>k (.bool b)
 |.str s,k=>k (.str s)
 |.val v,k=>k (.val v)
 |.nils,k=>k .nils
 |.cap0,k=>k .cap0
 |.sl t xs,k=>k (.sl t xs)
 |.ptr id off,k=>Fo id (λid'=>Fo off (λoff'=>k (.ptr id' off')))
 |.rptr id q row off,k=>Fo id (λid'=>Fo off (λoff'=>k (.rptr id' q row off')))
 |.eptr cs,k=>Fp cs (λcs'=>k (.eptr cs'))
 |.own id,k=>Fo id (λid'=>k (.own id'))
 |.ownp id q lo len,k=>Fo id (λid'=>k (.ownp id' q lo len))
 |.mp id,k=>Fo id (λid'=>k (.mp id'))
 |.fn f a b,k=>Hz a (λa'=>Hz b (λb'=>k (.fn f a' b')))
 |.agg cs,k=>Hz cs (λcs'=>k (.agg cs'))
 |.tup vs,k=>Hz vs (λvs'=>k (.tup vs'))
 |.when c s w v,k=>Cd v (λv'=>k (.when c s w v'))
 |.yld id,k=>Fo id (λid'=>k (.yld id'))
 |.rnd id,k=>Fo id (λid'=>k (.rnd id'))
 |.grow id i,k=>Fo id (λid'=>k (.grow id' i))
 |.gptr id i j,k=>Fo id (λid'=>k (.gptr id' i j))
 |.ownc id q lo len,k=>Fo id (λid'=>k (.ownc id' q lo len))
 |.slf t xs,k=>k (.slf t xs)
 |.csl t id m,k=>Fo id (λid'=>k (.csl t id' m))
 |.dmp es,k=>k (.dmp es)
def Hz:List AV->(List AV->Prop)->Prop
 |[],k=>k []
 |x::l,k=>Cd x (λx'=>Hz l (λl'=>k (x'::l')))
end
def W9:List (Int×AV)->(List (Int×AV)->Prop)->Prop
 |[],k=>k []
 |(q,x)::l,k=>Cd x (λx'=>W9 l (λl'=>k ((q,x')::l')))
def C4:List Ob->(List Ob->Prop)->Prop
 |[],k=>k []
 |.dead::l,k=>C4 l (λl'=>k (.dead::l'))
 |.cells cs::l,k=>Hz cs (λcs'=>C4 l (λl'=>k (.cells cs'::l')))
 |.rows t xs::l,k=>C4 l (λl'=>k (.rows t xs::l'))
 |.froz t xs::l,k=>C4 l (λl'=>k (.froz t xs::l'))
 |.fmap es::l,k=>W9 es (λes'=>C4 l (λl'=>k (.fmap es'::l')))
 |.grid t m xss::l,k=>C4 l (λl'=>k (.grid t m xss::l'))
 |.loop st pe ps x y sl::l,k=>Hz sl (λsl'=>C4 l (λl'=>k (.loop st pe ps x y sl'::l')))
def Y4(o:Option Prop)(p:Prop):Prop:=match o with|none=>p|some q=>q/\p
def Xa(o:Option Prop)(p:Prop):Prop:=match o with|none=>p|some q=>q->p
def Vh(H:List Ob)(id:Nat):List Ob:=match Ac H id with
 |.rows t xs=>B3 (.froz t xs) H id
 |.cells _=>B3 .dead H id
 |.fmap _=>B3 .dead H id
 |.grid _ _ _=>B3 .dead H id
 |.loop _ _ _ _ _ _=>B3 .dead H id
 |_=>H
def Gj:List Nat->List Ob->List Ob
 |[],H=>H
 |id::l,H=>Gj l (Vh H id)
def stH(st:Option (Nat×Ob))(H:List Ob):List Ob:=match st with|none=>H|some (id,ob)=>B3 ob H id
def Jh(k:Option Nat)(H:List Ob):List Ob:=match k with|none=>H|some id=>B3 .dead H id
def Res.heap(r:Res)(H:List Ob):List Ob:=Gj r.frz (Jh r.kill (stH r.st H))++r.news
def Res.quiet(r:Res):Bool:=r.news.isEmpty&&r.kill.isNone&&r.st.isNone&&r.frz.isEmpty
def F4(sl:List AV)(s:Nat)(w:Bool):Option Prop:=
 match Aq .any sl s with
 |.bool e=>some (e=w)
 |.when c _ _ (.bool e)=>some (c/\e=w)
 |_=>none
mutual
def Nf(n:Nat)(news:List Ob):AV->Option AV
 |.own id=>if Nat.ble n id then(match Ac news (id-n)with|.rows t xs=>some (.sl t xs)|_=>none)else some (.own id)
 |.ownp _ _ _ _=>none
 |.ownc _ _ _ _=>none
 |.csl t id m=>if Nat.ble n id then none else some (.csl t id m)
 |.dmp _=>none
 |.yld id=>if Nat.ble n id then none else some (.yld id)
 |.rnd _=>none
 |.grow _ _=>none
 |.gptr _ _ _=>none
 |.ptr id off=>if Nat.ble n id then none else some (.ptr id off)
 |.rptr id k row off=>if Nat.ble n id then none else some (.rptr id k row off)
 |.mp id=>if Nat.ble n id then none else some (.mp id)
 |.fn f a b=>match Q3 n news a,Q3 n news b with
  |some a',some b'=>some (.fn f a' b')
  |_,_=>none
 |.agg cs=>(Q3 n news cs).map .agg
 |.tup vs=>(Q3 n news vs).map .tup
 |.when _ _ _ _=>none
 |v=>some v
def Q3(n:Nat)(news:List Ob):List AV->Option (List AV)
 |[]=>some []
 |x::l=>match Nf n news x,Q3 n news l with
  |some y,some ys=>some (y::ys)
  |_,_=>none
end
abbrev Ls:=List AV->List Ob->Nat->Prop
abbrev CallSem:=FuncId->List AV->List Ob->Nat->(AV->List Ob->Nat->Prop)->Prop
def Sy(d:Nat):List AV->Bool
 |[]=>true
 |.when _ s _ _::l=>if Nat.beq s d then false else Sy d l
 |_::l=>Sy d l
def R4(d:Nat):AV->Bool
 |.when _ s _ _=>!Nat.beq s d
 |_=>true
def N1(dst:Option Tmp)(v:AV)(sl:List AV)(K:List AV->Prop):Prop:=
 match dst with
 |none=>K sl
 |some d=>if Nat.blt d sl.length&&(Sy d sl&&R4 d v)then Agh v K sl d else False
def Xb(r:Res)(H:List Ob)(n:Nat)(K:List Ob->Nat->Prop):Prop:=
 if r.quiet then K H n else C4 (r.heap H) (λH'=>Fo (n+r.news.length) (λn'=>K H' n'))
def Ii(ops:List Oper)(j:Nat):Option Nat:=match ops[j]? with|some o=>o.dst|none=>none
def noW:AV->AV
 |.when _ _ _ _=>.any
 |v=>v
def Ew(cx:Ctx)(P:Program)(dr:Bool)(ops:List Oper)(o:Oper)(sl:List AV)(H:List Ob)(n:Nat):Option Res:=
 match o.guard with
 |none=>(match evOp cx P (ev sl) H n o with
  |some ⟨q,g,v,news,kill,st,frz⟩=>some ⟨q,g,noW v,news,kill,st,frz⟩
  |none=>none)
 |some (j,w)=>(match Ii ops j with
  |none=>none
  |some s=>(match F4 sl s w with
   |none=>none
   |some c=>(match evOp cx P (λx=>Ku s w (ev sl x)) H n o with
    |some ⟨q,g,v,news,none,none,[]⟩=>if dr && !news.isEmpty then none else(match Nf n news (noW v)with
     |some v'=>some ⟨q.map (λq=>c->q),g.map (λq=>c->q),.when c s w v',[],none,none,[]⟩
     |none=>none)
    |_=>none)))
def nilQ(P:Program)(H:List Ob)(op:BinOp)(t:TypeId)(x:AV):Option (Bool×Prop):=
 match P.underlying t with
 |some (.slice _)=>(match op with
  |.eql=>(nilF H x).map λq=>(true,q)
  |.neq=>(nilF H x).map λq=>(false,q)
  |_=>none)
 |_=>none
where
 nilF (H:List Ob):AV->Option Prop
  |.sl _ xs=>some (xs=[])
  |.cap0=>some True
  |.nils=>some True
  |.own id=>(match Ac H id with
   |.rows _ xs=>some (xs=[])
   |.froz _ xs=>some (xs=[])
   |_=>none)
  |_=>none
def Ap6(P:Program)(H:List Ob)(t:TypeId)(m k:AV):Option (List (Int×AV)×Int):=
 match P.underlying t with
 |some (.map kt et)=>(match P.underlying kt,Eg P et,m,k with
  |some (.int _),some _,.mp id,.int .i64 q=>(match Ac H id with
   |.fmap es=>some (es,q)
   |_=>none)
  |_,_,_,_=>none)
 |_=>none
def Vi(ok:Bool)(q:Int)(z:AV)(K:AV->Prop):List (Int×AV)->Prop
 |[]=>K (match ok with|true=>.tup [z,.bool false]|false=>z)
 |(p,v)::l=>(decide (q=p)=true->K (match ok with|true=>.tup [v,.bool true]|false=>v))/\(decide (q=p)=false->Vi ok q z K l)
def Ol(P:Program)(t:TypeId):AV:=match P.underlying t with
 |some (.map _ et)=>(match Eg P et with|some z=>Jf z|none=>.any)
 |_=>.any
def Ap7(cx:Ctx)(H:List Ob)(n:Nat)(o:Oper)(sl:List AV)(val:AV)(k:AV->Prop):Prop:=
 match o.guard,o.op with
 |none,.call c=>(match c.callee with
  |.value f=>(match ev sl f with
   |.fn (.func g) first captured=>(match G3 cx.tab g with
    |some (shs,C)=>(match Dv H (first++c.args.toList.map (ev sl)++captured)with
     |some (args',_)=>(match C (Nd shs args')with
      |some ⟨_,gen⟩=>gen (λx=>k (noW (shift n x)))
      |none=>k val)
     |none=>k val)
    |none=>k val)
   |_=>k val)
  |_=>k val)
 |_,_=>k val
def Aee(call:CallSem)(f:AV)(args:List AV)(H:List Ob)(n:Nat)(K:AV->List Ob->Nat->Prop):Prop:=
 match f with
 |.fn (.func g) first captured=>call g (first++args++captured) H n K
 |.yld id=>call 0 (.rnd id::args) H n K
 |_=>False
def Ab6(P:Program)(t:TypeId):AV:=match P.underlying t with
 |some .bool=>.bool false
 |some (.int k)=>.int k 0
 |_=>.any
def Vj(cx:Ctx)(P:Program)(call:CallSem)(ops:List Oper)(o:Oper)(sl:List AV)(H:List Ob)(n:Nat)(K:Ls):Prop:=
 match Ew cx P false ops o sl H n with
 |some r=>Y4 r.need (Xa r.given (Xb r H n (λH' n'=>Ap7 cx H n o sl r.val (λx=>Cd x (λv=>N1 o.dst v sl (λsl'=>K sl' H' n'))))))
 |none=>(match o.guard,o.op with
  |none,.call c=>(match c.callee with
   |.value f=>Aee call (ev sl f) (c.args.toList.map (ev sl)) H n (λv H' n'=>N1 o.dst (noW v) sl (λsl'=>K sl' H' n'))
   |_=>False)
  |some (j,w),.call c=>(match c.callee with
   |.value f=>(match Ii ops j with
    |none=>False
    |some s=>(match Aq .any sl s with
     |.bool e=>
      (e=w->Aee call (Ku s w (ev sl f)) (c.args.toList.map (λx=>Ku s w (ev sl x))) H n (λv H' n'=>N1 o.dst (.when (e=w) s w (noW v)) sl (λsl'=>K sl' H' n')))/\
      (e=!w->N1 o.dst (.when (e=w) s w (Ab6 P o.type)) sl (λsl'=>K sl' H n))
     |_=>False))
   |_=>False)
  |none,.binOp op t x (.const (.slice none 0 0)) _=>(match nilQ P H op t (ev sl x)with
   |some (eq,q)=>∀b:Bool,(b=eq->q)->N1 o.dst (.bool b) sl (λsl'=>K sl' H n)
   |none=>False)
  |none,.lookup t m k ok=>(match Ap6 P H t (ev sl m) (ev sl k)with
   |some (es,q)=>Vi ok q (Ol P t) (λv=>Cd (noW v) (λv'=>N1 o.dst v' sl (λsl'=>K sl' H n))) es\/
    ∃v,N0 q (Ol P t) es=some v/\Cd (Sw ok v (Nz q es)) (λv'=>N1 o.dst v' sl (λsl'=>K sl' H n))
   |none=>False)
  |_,_=>False)
def Ab7(cx:Ctx)(P:Program)(call:CallSem)(ops:List Oper):List Oper->List AV->List Ob->Nat->Ls->Prop
 |[],sl,H,n,K=>K sl H n
 |o::rest,sl,H,n,K=>Vj cx P call ops o sl H n (λsl' H' n'=>Ab7 cx P call ops rest sl' H' n' K)
def J0:List AV->(List AV->Prop)->Prop
 |[],k=>k []
 |.when _ _ _ _::l,k=>J0 l (λl'=>k (.any::l'))
 |v::l,k=>J0 l (λl'=>k (v::l'))
def Ce:Op->Bool
 |.move _=>true
 |.assign _=>true
 |.pick _ _ _=>true
 |.extract _ _=>true
 |.makeFunc _ _ _=>true
 |.build _ _=>true
 |.binOp _ _ _ _ _=>true
 |.unOp _ _ _=>true
 |.convert _ _ _=>true
 |.fieldAddr _ _ _=>true
 |.nilCheck _=>true
 |.field _ _ _=>true
 |_=>false
def A4(e:Go.Edge):Bool:=match e.ground with|.textOnly _=>false|.gcOnly _=>false|_=>true
def Y5(acc:List Nat):List Go.Edge->Nat
 |[]=>0
 |e::l=>if A4 e then Nat.lor (Nat.lor (Nat.pow 2 e.on) (Aq 0 acc e.on)) (Y5 acc l)else Y5 acc l
def Is:List Nat->List Oper->List Nat
 |acc,[]=>acc
 |acc,o::l=>Is (acc++[Y5 acc o.after.toList]) l
def Om:Nat->List Oper->Nat
 |_,[]=>0
 |i,o::l=>if Ce o.op then Om (i+1) l else Nat.lor (Nat.pow 2 i) (Om (i+1) l)
def D4(b j:Nat):Bool:=Nat.beq (Nat.lor (Nat.pow 2 j) b) b
def N2(L b i:Nat):Bool:=Nat.beq (Nat.lor (L % Nat.pow 2 i) b) b
structure DrawOp where
 o:Oper
 bef:Nat
 late:Bool
 bar:Bool
def Gk(L:Nat):Nat->List (Oper×Nat)->List DrawOp
 |_,[]=>[]
 |i,(o,b)::l=>(match Gk L (i+1) l with
  |[]=>[⟨o,b,N2 L b i,N2 L b i⟩]
  |d::r=>⟨o,b,N2 L b i,(N2 L b i)&&d.bar⟩::d::r)
def Hs(ops:List Oper):List DrawOp:=Gk (Om 0 ops) 0 (ops.zip (Is [] ops))
def Dj(ops:List Oper)(o:Oper):List Nat:=
 o.op.operands.toList.filterMap (λx=>match x with|.tmp t=>some t|_=>none)++(match o.guard with|some (j,_)=>(Ii ops j).toList|none=>[])
def Q4(ops:List Oper)(x y:Oper):Bool:=
 (match x.dst with|some d=>(Dj ops y).contains d||(match y.dst with|some d'=>Nat.beq d d'|none=>false)|none=>false) ||
 (match y.dst with|some d=>(Dj ops x).contains d|none=>false)
def Sz(ops:List Oper):Nat->List DrawOp->Bool
 |_,[]=>true
 |j,d::l=>((ops.take j).zipIdx.all (λp=>!Q4 ops p.1 d.o||D4 d.bef p.2)&&d.o.after.toList.all (λe=>!A4 e||Nat.blt e.on j))&&Sz ops (j+1) l
def Ab8(b:Nat)(q:Prop):List (Nat×Prop)->Prop
 |[]=>q
 |(j,g)::l=>if D4 b j then g->Ab8 b q l else Ab8 b q l
def Y6(b:Nat)(q:Prop):List (Nat×Prop)->(Prop->Prop)->Prop
 |[],k=>k q
 |(j,g)::l,k=>if D4 b j then Y6 b q l (λq'=>k (g->q'))else Y6 b q l k
def Aef(G:List (Nat×Prop))(b:Nat)(o:Option Prop)(p:Prop):Prop:=match o with|none=>p|some q=>Y6 b q G (λq'=>q'/\p)
def Ai3(q:Prop):List (Nat×Prop)->Prop
 |[]=>q
 |(_,g)::l=>g->Ai3 q l
def Am0(i:Nat)(o:Option Prop)(G:List (Nat×Prop)):List (Nat×Prop):=match o with|none=>G|some q=>(i,q)::G
def On(ops:List Oper)(i:Nat)(ms:List Nat)(d:DrawOp)(rest:List DrawOp)(st:Option (Nat×Ob)):Bool:=match st with
 |none=>true
 |some (id,_)=>(ms.zip ops).zipIdx.all (λp=>Ce p.1.2.op||(D4 d.bef p.2||Nat.ble p.1.1 id))&&rest.all (λd'=>Ce d'.o.op||D4 d'.bef i)
def Mf(cx:Ctx)(P:Program)(ops:List Oper):List DrawOp->Nat->List Nat->List (Nat×Prop)->List AV->List Ob->Nat->Ls->Prop
 |[],_,_,G,sl,H,n,K=>Ai3 (K sl H n) G
 |d::rest,i,ms,G,sl,H,n,K=>(match Ew cx P true ops d.o sl H n with
  |some r=>
   if(r.kill.isNone||(d.late||On ops i ms d rest (r.kill.map (λid=>(id,Ob.dead)))))&&(d.bar||On ops i ms d rest r.st)then
    Aef G d.bef r.need (Xb r H n (λH' n'=>Cd r.val (λv=>N1 d.o.dst v sl (λsl'=>Mf cx P ops rest (i+1) (ms++[n]) (Am0 i r.given G) sl' H' n' K))))
   else False
  |none=>False)
inductive Ex where
 |normal
 |ret
 |exit (n:Nat)
structure St where
 sl:List AV
 H:List Ob
 n:Nat
def bad:AV:=.val (.agg #[])
mutual
def ren(σ:List (Option Nat)):AV->AV
 |.ptr id off=>match Aq none σ id with|some j=>.ptr j off|none=>bad
 |.rptr id k row off=>match Aq none σ id with|some j=>.rptr j k row off|none=>bad
 |.own id=>if Nat.blt id σ.length then(match Aq none σ id with|some j=>.own j|none=>.cap0)else bad
 |.ownp id k lo len=>match Aq none σ id with|some j=>.ownp j k lo len|none=>bad
 |.mp id=>match Aq none σ id with|some j=>.mp j|none=>bad
 |.yld id=>match Aq none σ id with|some j=>.yld j|none=>bad
 |.rnd _=>bad
 |.grow id i=>match Aq none σ id with|some j=>.grow j i|none=>bad
 |.gptr id i k=>match Aq none σ id with|some j=>.gptr j i k|none=>bad
 |.ownc id k lo len=>match Aq none σ id with|some j=>.ownc j k lo len|none=>bad
 |.csl t id m=>match Aq none σ id with|some j=>.csl t j m|none=>bad
 |.fn f a b=>.fn f (Hb σ a) (Hb σ b)
 |.agg cs=>.agg (Hb σ cs)
 |.tup vs=>.tup (Hb σ vs)
 |.when _ _ _ _=>bad
 |v=>v
def Hb(σ:List (Option Nat)):List AV->List AV
 |[]=>[]
 |x::l=>ren σ x::Hb σ l
end
def Oo:List AV->List AV->List AV
 |.any::l,_::m=>.any::Oo l m
 |.sl t _::l,.cap0::m=>.sl t []::Oo l m
 |_::l,y::m=>y::Oo l m
 |_,_=>[]
def Eh(σ:List (Option Nat))(H:List Ob):List (Option Nat)->List Ob->Prop
 |_,[]=>True
 |some j::τ,.cells cs::l=>(match Ac H j with|.cells ds=>Oo cs ds=Hb σ cs/\cs.length=ds.length|_=>False)/\Eh σ H τ l
 |some j::τ,.rows t xs::l=>Ac H j=.rows t xs/\Eh σ H τ l
 |some j::τ,.froz t xs::l=>(match Ac H j with|.rows t' ys=>Ob.froz t' ys=.froz t xs|.froz t' ys=>Ob.froz t' ys=.froz t xs|_=>False)/\Eh σ H τ l
 |some j::τ,.grid t m xss::l=>Ac H j=.grid t m xss/\Eh σ H τ l
 |some j::τ,.loop st pe ps x y sl::l=>(match Ac H j with|.loop st' pe' ps' x' y' sl'=>(st=st'/\pe=pe'/\ps=ps'/\x=x'/\y=y')/\Oo sl sl'=Hb σ sl/\sl.length=sl'.length|_=>False)/\Eh σ H τ l
 |none::τ,.rows _ xs::l=>xs=[]/\Eh σ H τ l
 |_::τ,.dead::l=>Eh σ H τ l
 |_,_=>False
def distinct:List (Option Nat)->List Ob->List Nat->Bool
 |some j::τ,ob::l,seen=>(match ob with|.dead=>distinct τ l seen|_=>!seen.contains j&&distinct τ l (j::seen))
 |none::τ,_::l,seen=>distinct τ l seen
 |[],[],_=>true
 |_,_,_=>false
def keeps:Nat->Nat->List (Option Nat)->List Ob->Bool
 |0,_,_,_=>true
 |_+1,_,_,[]=>true
 |n0+1,i,some j::τ,ob::l=>(match ob with|.dead=>true|_=>Nat.beq i j)&&keeps n0 (i+1) τ l
 |n0+1,i,none::τ,ob::l=>(match ob with|.dead=>true|_=>false)&&keeps n0 (i+1) τ l
 |_+1,_,[],_::_=>false
def J1(n0:Nat)(σ:List (Option Nat))(sl:List AV)(H:List Ob)(n:Nat)(T:St):Prop:=
 Oo T.sl sl=Hb σ T.sl/\T.sl.length=sl.length/\Eh σ H σ T.H/\(distinct σ T.H []&&keeps n0 0 σ T.H&&Nat.beq T.H.length T.n&&Nat.ble n0 T.n&&Nat.ble n0 n)=true
def Xc:Op->Bool
 |.move _=>true
 |.assign _=>true
 |.extract _ _=>true
 |.makeFunc _ _ _=>true
 |.load _ _=>true
 |.nilCheck _=>true
 |.binOp _ _ _ _ _=>true
 |.unOp _ _ _=>true
 |.convert _ _ _=>true
 |.fieldAddr _ _ _=>true
 |.field _ _ _=>true
 |.index _ _ _=>true
 |.indexAddr _ _ _=>true
 |.slice _ _ _ _ _=>true
 |.call c=>(match c.callee with|.builtin .len=>true|_=>false)
 |_=>false
def Ab9(o:Oper):Bool:=match o.op with|.call c=>(match c.callee with|.value _=>true|_=>false)|_=>false
def Ai4:List Oper->Nat
 |[]=>0
 |o::l=>if Ab9 o then 0 else Ai4 l+1
def Aca(cx:Ctx)(o:Oper):Bool:=match o.op with
 |.call c=>(match c.callee with
  |.value (.func g)=>(G3 cx.tab g).isNone
  |.value (.tmp _)=>true
  |_=>false)
 |_=>false
def Am1(ops:List Oper):Bool:=ops.all (λo=>o.guard.isNone)&&(Hs ops).any (λd=>!d.late&&(match d.o.op with|.call c=>(match c.callee with|.builtin .append=>true|_=>false)|_=>false))
def Ap8(ops:List Oper):Bool:=
 ops.all (λo=>o.guard.isNone&&(Ce o.op||match o.op with|.load _ _=>true|.store _ _ _=>true|_=>false)) &&
  (Hs ops).zipIdx.any (λp=>(match p.1.o.op with|.store _ _ _=>true|_=>false)&&(!p.1.bar&&(ops.take p.2).zipIdx.any (λq=>!Ce q.1.op && !D4 p.1.bef q.2)))
def Am2(ops:List Oper):Bool:=
 ops.all (λo=>o.guard.isNone)&&(ops.any Ab9&&(Hs ops).zipIdx.any (λp=>(match p.1.o.op with|.store _ _ _=>true|_=>false)&&(!p.1.bar&&(ops.take p.2).zipIdx.any (λq=>Nat.blt (Ai4 ops) q.2&&(!Ce q.1.op && !D4 p.1.bef q.2)))))
def Ap9(ops:List Oper):Bool:=
 (ops.any (λo=>match o.op with|.indexAddr _ _ _=>true|_=>false)&&ops.all (λo=>o.guard.isNone&&(Ce o.op||match o.op with|.load _ _=>true|.store _ _ _=>true|.indexAddr _ _ _=>true|_=>false))) &&
   (Hs ops).zipIdx.any (λp=>(match p.1.o.op with|.store _ _ _=>true|_=>false)&&(!p.1.bar&&(ops.take p.2).zipIdx.any (λq=>!Ce q.1.op && !D4 p.1.bef q.2)))
def Ck(cx:Ctx):Code->Bool
 |.rangeFunc _ _ _ _=>false
 |.seq a b=>Ck cx a&&Ck cx b
 |.cond _ a b=>Ck cx a&&Ck cx b
 |.block _ a=>Ck cx a
 |.loop a=>Ck cx a
 |_=>true
def R5(cx:Ctx)(P:Program):List Oper->List AV->List Ob->Nat->(List AV->Prop)->Prop
 |[],sl,_,_,K=>K sl
 |o::rest,sl,H,n,K=>match o.guard,Xc o.op,evOp cx P (ev sl) H n o with
  |none,true,some r=>Y4 r.need (Xa r.given (Cd (noW r.val) (λv=>N1 o.dst v sl (λsl'=>R5 cx P rest sl' H n K))))
  |_,_,_=>False
def Xd(o:Oper):Bool:=Xc o.op&&(o.guard.isNone && !(match o.op with|.assign _=>true|_=>false))
def R6(S:List Nat)(o:Oper):Bool:=o.after.toList.all (λe=>!A4 e||S.contains e.on)
structure Lev where
 new:List Nat
 pend:List Nat
 main:Option Nat
def Xe(S:List Nat):Nat->List Oper->List Nat->List Nat
 |_,[],acc=>acc
 |i,o::l,acc=>if Xd o&&(!(S.contains i)&&R6 (acc++S) o)then Xe S (i+1) l (acc++[i])else Xe S (i+1) l acc
def Y7(S:List Nat):Nat->List Oper->Option Nat
 |_,[]=>none
 |i,o::l=>if !(S.contains i)&&R6 S o then some i else Y7 S (i+1) l
def Asr(ops:List Oper)(bef:List Nat):Nat->List Nat->List Nat->List Lev
 |0,_,_=>[]
 |f+1,S,pend=>
  let nw:=Xe S 0 ops [];let S1:=nw++S
  match Y7 S1 0 ops with
  |none=>[⟨nw,nw++pend,none⟩]
  |some m=>⟨nw,nw++pend,some m⟩::Asr ops bef f (m::S1) ((nw++pend).filter (λi=>!D4 (Aq 0 bef m) i))
def Acb(ops:List Oper):List Lev:=Asr ops (Is [] ops) (ops.length+1) [] []
def Xf(ops:List Oper)(i:Nat):Bool:=match ops[i]? with|some o=>Xd o|none=>false
def Mg(ops:List Oper)(bef:List Nat)(i j:Nat):Bool:=D4 (Aq 0 bef j) i||(match ops[i]?,ops[j]? with|some x,some y=>(match x.dst with|some d=>!(Dj ops y).contains d|none=>true)|_,_=>false)
def Pz(ops:List Oper)(bef:List Nat):List Nat->List Nat->List Lev->Bool
 |_,_,[]=>false
 |S,pend,⟨nw,pd,main⟩::rest=>
  (nw.all (λi=>pd.contains i && !(S.contains i))&&(pend.all pd.contains&&pd.all (λi=>Xf ops i&&(nw++S).contains i))) &&
  ((ops.zipIdx.all (λp=>(nw++S).contains p.2||(!R6 (nw++S) p.1||main==some p.2))&&pd.all (λi=>pd.all (λj=>Mg ops bef i j))) &&
  (match main with
  |none=>true
  |some m=>!((nw++S).contains m)&&((match ops[m]? with|some o=>o.guard.isNone|none=>false)&&(pd.all (λi=>Mg ops bef i m)&&Pz ops bef (m::(nw++S)) (pd.filter (λi=>!D4 (Aq 0 bef m) i)) rest))))
def ahead:Nat->List Oper->Bool
 |_,[]=>true
 |j,o::l=>o.after.toList.all (λe=>!A4 e||Nat.blt e.on j)&&ahead (j+1) l
def Am3(ops:List Oper):Bool:=ahead 0 ops&&Pz ops (Is [] ops) [] [] (Acb ops)
def mixed(cx:Ctx)(ops:List Oper):Bool:=(ops.any (Aca cx) && !ops.any (λo=>Ab9 o&&o.guard.isSome))||((Am1 ops||(Ap8 ops||(Am2 ops||Ap9 ops)))&&Am3 ops)
def R7(cx:Ctx)(P:Program)(ops:List Oper)(sl:List AV)(H:List Ob)(n:Nat)(k:Prop):List Nat->Prop
 |[]=>k
 |i::l=>match ops[i]? with
  |some o=>(match evOp cx P (ev sl) H n o with
   |some r=>Y4 r.need ((match o.dst with|some d=>noW r.val=Aq .any sl d|none=>True)/\R7 cx P ops sl H n k l)
   |none=>False)
  |none=>False
def P0(cx:Ctx)(P:Program)(call:CallSem)(ops:List Oper):List Lev->List AV->List Ob->Nat->Ls->Prop
 |[],_,_,_,_=>False
 |⟨nw,pd,main⟩::rest,sl,H,n,K=>
  R5 cx P (nw.filterMap (λi=>ops[i]?)) sl H n (λsl1=>R7 cx P ops sl1 H n (match main with
   |none=>K sl1 H n
   |some m=>(match ops[m]? with
    |some o=>Vj cx P call ops o sl1 H n (λsl' H' n'=>P0 cx P call ops rest sl' H' n' K)
    |none=>False)) pd)
def Y8(cx:Ctx)(P:Program)(call:CallSem)(ops:Array Oper)(sl:List AV)(H:List Ob)(n:Nat)(K:Ls):Prop:=
 if mixed cx ops.toList then
  (P.follows .mixedOrders&&Am3 ops.toList)=true/\P0 cx P call ops.toList (Acb ops.toList) sl H n K
 else(P.follows .mixedOrders&&Sz ops.toList 0 (Hs ops.toList))=true/\Mf cx P ops.toList (Hs ops.toList) 0 [] [] sl H n K
def Ja(cx:Ctx)(P:Program)(call:CallSem)(n0:Nat):Code->List AV->List Ob->Nat->(Ex->Ls)->Prop
 |.skip,sl,H,n,K=>K .normal sl H n
 |.region _ ops false,sl,H,n,K=>Ab7 cx P call ops.toList ops.toList sl H n (λsl' H' n'=>J0 sl' (λsl''=>K .normal sl'' H' n'))
 |.region _ ops true,sl,H,n,K=>Y8 cx P call ops sl H n (λsl' H' n'=>J0 sl' (λsl''=>K .normal sl'' H' n'))
 |.seq a b,sl,H,n,K=>Ja cx P call n0 a sl H n (λe sl' H' n'=>match e with
  |.normal=>Ja cx P call n0 b sl' H' n' K
  |e=>K e sl' H' n')
 |.cond c a b,sl,H,n,K=>(match ev sl c with
  |.bool q=>(q=true->Ja cx P call n0 a sl H n K)/\(q=false->Ja cx P call n0 b sl H n K)
  |_=>False)
 |.block id a,sl,H,n,K=>Ja cx P call n0 a sl H n (λe sl' H' n'=>match e with
  |.exit m=>if Nat.beq m id then K .normal sl' H' n' else K (.exit m) sl' H' n'
  |e=>K e sl' H' n')
 |.loop a,sl,H,n,K=>∃(ι:Type)(S:ι->St)(I:ι->Prop)(μ:ι->Nat),
  (∃i σ,I i/\J1 n0 σ sl H n (S i))/\
  ∀i,I i->Ja cx P call n0 a (S i).sl (S i).H (S i).n (λe sl' H' n'=>match e with
   |.normal=>∃j σ,I j/\μ j<μ i/\J1 n0 σ sl' H' n' (S j)
   |e=>K e sl' H' n')
 |.rangeFunc f ps x y,sl,H,n,K=>(match ev sl f with
  |.fn (.func g) first captured=>(Ck cx x&&Ck cx y)=true/\C4 (H++[.loop .ready .no ps.toList x y sl]) (λH1=>Fo (n+1) (λn1=>
   call g (first++[.yld n]++captured) H1 n1 (λ_ H' n'=>(match Ac H' n with
    |.loop .ready .no _ _ _ _=>C4 (B3 .dead H' n) (λH2=>K .normal sl H2 n')
    |.loop .done .ret _ _ _ _=>C4 (B3 .dead H' n) (λH2=>K .ret sl H2 n')
    |.loop .done (.exit m) _ _ _ _=>C4 (B3 .dead H' n) (λH2=>K (.exit m) sl H2 n')
    |_=>False))))
  |_=>False)
 |.ret,sl,H,n,K=>K .ret sl H n
 |.exit m,sl,H,n,K=>K (.exit m) sl H n
 |_,_,_,_,_=>False
def Ht(P:Program)(sl:List AV)(H:List Ob):List ResultVar->(List AV->Prop)->Prop
 |[],k=>k []
 |.tmp t::l,k=>Cd (noW (Aq .any sl t)) (λv=>Ht P sl H l (λvs=>k (v::vs)))
 |.cell a t::l,k=>(match Aq .any sl a with
  |.ptr id off=>(match Ac H id with
   |.cells cs=>(match Eu P t cs off with
    |some v=>Cd v (λv'=>Ht P sl H l (λvs=>k (v'::vs)))
    |none=>False)
   |_=>False)
  |_=>False)
def Aqa:List AV->(AV->Prop)->Prop
 |[v],k=>k v
 |vs,k=>k (.tup vs)
def Ass(P:Program)(fn:Func)(K:AV->List Ob->Nat->Prop):Ex->Ls
 |.normal,sl,H,n=>Ht P sl H fn.results.toList (λvs=>Aqa vs (λv=>K v H n))
 |.ret,sl,H,n=>Ht P sl H fn.results.toList (λvs=>Aqa vs (λv=>K v H n))
 |.exit _,_,_,_=>False
def Lx:Nat->List AV->List AV
 |0,l=>l
 |n+1,[]=>.any::Lx n []
 |n+1,x::l=>x::Lx n l
def F2:List Nat->List AV->List AV->List AV
 |p::ps,v::vs,sl=>F2 ps vs (B3 (noW v) sl p)
 |_,_,sl=>sl
def Acc(cx:Ctx)(P:Program)(sem:CallSem)(id:Nat)(args:List AV)(H:List Ob)(n:Nat)(K:AV->List Ob->Nat->Prop):Prop:=
 match Ac H id with
 |.loop .ready .no ps x y sl=>
  if(Nat.beq ps.length args.length&&(ps.all (λp=>Nat.blt p sl.length)))&&(Ck cx x&&Ck cx y)then
   Hz (F2 ps args (sl.map noW)) (λsl0=>Ja cx P sem n x sl0 H n (λe sl1 H1 n1=>match e with
    |.normal=>(match Ac H1 id with
     |.loop .ready .no ps' x' y' sl'=>C4 (B3 (.loop .busy .no ps' x' y' sl') H1 id) (λH2=>Ja cx P sem n y sl1 H2 n1 (λe _ H3 n3=>(match Ac H3 id with
      |.loop .busy .no ps' x' y' sl'=>(match e with
       |.normal=>C4 (B3 (.loop .ready .no ps' x' y' sl') H3 id) (λH4=>K (.bool true) H4 n3)
       |.ret=>C4 (B3 (.loop .done .ret ps' x' y' sl') H3 id) (λH4=>K (.bool false) H4 n3)
       |.exit m=>C4 (B3 (.loop .done (.exit m) ps' x' y' sl') H3 id) (λH4=>K (.bool false) H4 n3))
      |_=>False)))
     |_=>False)
    |_=>False))
  else False
 |_=>False
def Ba(cx:Ctx)(P:Program)(sem:CallSem):CallSem:=λg args H n K=>match args with
 |.rnd id::args=>Acc cx P sem id args H n K
 |args=>(match P.funcs[g]? with
  |some fn=>(match fn.body with
   |some c=>if Nat.ble args.length fn.ntmps then(fn.name == "runtime.NumGoroutine")=false/\Hz (Lx fn.ntmps (args.map noW)) (λsl=>Ja cx P sem n c sl H n (Ass P fn K))else False
   |none=>False)
  |none=>False)
def Nl(cx:Ctx)(P:Program)(d:Nat):CallSem:=Nat.rec (motive:=λ_=>CallSem) (λ_ _ _ _ _=>False) (λ_ sem=>Ba cx P sem) d
def Ly(ids:List Nat)(H:List Ob)(x:AV):AV:=match Cl H x with
 |some (p,l)=>if l.all ids.contains then up p else x
 |none=>x
def S3(ids:List Nat)(H:List Ob)(x:AV):AV:=match An H x with
 |some (y,l)=>if l.all ids.contains then y else x
 |none=>x
def Xg:AV->Option PV
 |.int k n=>some (.int k n)
 |.bool b=>some (.bool b)
 |.str s=>some (.str s)
 |_=>none
def S4:List (Int×AV)->Option (List (Int×List (Option PV)))
 |[]=>some []
 |(p,.agg cs)::l=>(match S4 l with|some r=>some ((p,cs.map Xg)::r)|none=>none)
 |_=>none
def Agi(ids:List Nat)(H:List Ob)(id:Nat):AV:=match Ac H id with
 |.fmap es=>if ids.contains id then(match S4 es with|some es'=>.dmp es'|none=>.mp id)else .mp id
 |_=>.mp id
mutual
def frV(ids:List Nat)(H:List Ob):AV->AV
 |.own id=>Ly ids H (.own id)
 |.ownc id k lo len=>Ly ids H (.ownc id k lo len)
 |.csl t id m=>S3 ids H (.csl t id m)
 |.mp id=>Agi ids H id
 |.fn f a b=>Ly ids H (.fn f a b)
 |.slf t xs=>.sl t xs
 |.ownp id k lo len=>Ly ids H (.ownp id k lo len)
 |.agg cs=>.agg (N3 ids H cs)
 |.tup vs=>.tup (N3 ids H vs)
 |v=>v
def N3(ids:List Nat)(H:List Ob):List AV->List AV
 |[]=>[]
 |x::l=>frV ids H x::N3 ids H l
end
def H0(r:CR):AV->List Ob->Nat->Prop:=λx H n=>
 givenAll r.given/\r.news.all Ny=true/\∃ids σ,J1 0 σ [fit (Rt r.res) (noW (frV ids H x))] (Gj ids H) n ⟨[r.res],r.news,r.news.length⟩
where
 givenAll:Option Prop->Prop
  |none=>True
  |some q=>q
end Go.Sx
namespace Go.Sx
open Go.RowKit
theorem Kx{n:Nat}(h:n<=lim):n<=big:=cP h (by decide)
def flat(t:Ty)(xs:List t.den):List PV:=xs.flatMap (enc t)
inductive RdP(w:World)(F:Nat->Nat->Prop):Value->PV->Prop
 |int (k:IntKind) (n:Int):RdP w F (.int k n) (.int k n)
 |bool (b:Bool):RdP w F (.bool b) (.bool b)
 |str (s:ByteArray):RdP w F (.string s) (.str s)
 |val (v:Value) (h:v.oneCell'=true):RdP w F v (.val v)
 |nils (a:Option Addr) (c:Nat):RdP w F (.slice a 0 c) .nils
 |sl0 (a:Option Addr) (c:Nat) (t:Ty):RdP w F (.slice a 0 c) (.sl t [])
 |sl (b o n c:Nat) (t:Ty) (xs:List t.den) (g:Nat->Value) (hn:n=xs.length) (hc:n<=c) (hl:n<=big)
  (hcell:∀j,j<(flat t xs).length->F b (o+j)/\w.cell? ⟨b,o+j,none⟩=some (g j))
  (hrd:∀j p,(flat t xs)[j]?=some p->RdP w F (g j) p):RdP w F (.slice (some ⟨b,o,none⟩) n c) (.sl t xs)
 |fnil:RdP w F .nilFunc (.fn .nil)
 |fn (f:FuncId) (caps:List FnT) (ws:Array Value) (g:Nat->Nat×Nat) (u:Nat->Value) (hw:ws.size=caps.length)
  (hc:∀i,i<caps.length->ws[i]?=some (.pointer (some ⟨(g i).1,(g i).2,none⟩))/\F (g i).1 (g i).2/\w.cell? ⟨(g i).1,(g i).2,none⟩=some (u i))
  (hr:∀i c,caps[i]?=some c->RdP w F (u i) (.fn c)):RdP w F (.func (.func f) #[] ws) (.fn (.mk f caps))
structure Hdr where
 blk:Nat
 off:Nat
 len:Nat
 cap:Nat
structure Env where
 w:World
 B:Nat
 F0:Nat->Nat->Prop
 ρ:Nat->Option Hdr
 L:Nat->Prop
 W:Nat->Prop
 A:Nat->Prop
 K:Nat->Nat->Option (Option Hdr)
 M:Nat
 Hd:Nat->Prop
def Env.Own(E:Env)(id b:Nat):Prop:=(∃h,E.ρ id=some h/\h.blk=b)\/∃i h,E.K id i=some (some h)/\h.blk=b
@[reducible] def Env.Nb(E:Env)(b:Nat):Prop:=b<E.w.heap.size/\(∀id,E.W id->¬E.Own id b)/\¬E.Hd b
@[reducible] def Env.Fz(E:Env)(b o:Nat):Prop:=
 (b<E.B/\E.F0 b o)\/(E.B<=b/\E.Nb b)
def P1:Option Hdr->Value->Prop
 |none,v=>∃a,v=.slice a 0 0
 |some h,v=>v=.slice (some ⟨h.blk,h.off,none⟩) h.len h.cap
def ownpV(k lo n:Nat):Option Hdr->Value->Prop
 |none,v=>n=0/\∃a,v=.slice a 0 0
 |some h,v=>lo+n<=h.len/\∃o c,v=.slice (some ⟨h.blk,o,none⟩) n c/\n<=c/\c=h.cap-lo/\(o=h.off+lo*k\/(c=0/\o<=h.off+h.cap*k))
def Y9(k lo n:Nat):Option Hdr->Value->Prop
 |none,v=>n=0/\∃a,v=.slice a 0 0
 |some h,v=>lo+n<=h.len/\∃o c,v=.slice (some ⟨h.blk,o,none⟩) n c/\n<=c/\c<=h.cap-lo/\(o=h.off+lo*k\/(c=0/\o<=h.off+h.cap*k))
theorem ownpV.q{k lo n:Nat}{o:Option Hdr}{v:Value}(h:ownpV k lo n o v):Y9 k lo n o v:=by
 cases o with
 |none=>exact h
 |some hd=>
  obtain⟨h1,o,c,h2,h3,h4,h5⟩:=h;exact⟨h1,o,c,h2,h3,by omega,h5⟩
def PV.rdS:PV->Value->Prop
 |.int k n,v=>v=.int k n
 |.bool b,v=>v=.bool b
 |.str s,v=>v=.string s
 |_,_=>False
def FlatRd(v:Value)(cs:List (Option PV)):Prop:=∃vs:Array Value,v=.agg vs/\vs.size=cs.length/\(∀(i:Nat) u,vs[i]?=some u->u.oneCell'=true)/\∀(i:Nat) u p,vs[i]?=some u->cs[i]?=some (some p)->p.rdS u
inductive RdA(E:Env):Value->AV->Prop
 |any (v:Value):RdA E v .any
 |int (k:IntKind) (n:Int):RdA E (.int k n) (.int k n)
 |bool (b:Bool):RdA E (.bool b) (.bool b)
 |str (s:ByteArray):RdA E (.string s) (.str s)
 |val (v:Value) (h:v.oneCell'=true):RdA E v (.val v)
 |nils (a:Option Addr) (c:Nat):RdA E (.slice a 0 c) .nils
 |cap0 (a:Option Addr):RdA E (.slice a 0 0) .cap0
 |sl (v:Value) (t:Ty) (xs:List t.den) (h:RdP E.w E.Fz v (.sl t xs)):RdA E v (.sl t xs)
 |ptr (v:Value) (id off:Nat) (hA:E.A id) (h1:∃b o,v=.pointer (some ⟨b,o,none⟩)) (h:E.L id->∃h,E.ρ id=some h/\v=.pointer (some ⟨h.blk,off,none⟩)):RdA E v (.ptr id off)
 |rptr (v:Value) (id k row off:Nat) (hA:E.A id) (h1:∃b o,v=.pointer (some ⟨b,o,none⟩))
  (h:E.L id->∃h,E.ρ id=some h/\row<h.len/\v=.pointer (some ⟨h.blk,h.off+row*k+off,none⟩)):RdA E v (.rptr id k row off)
 |eptr (b o:Nat) (cs:List PV) (g:Nat->Value) (hcell:∀j,j<cs.length->E.Fz b (o+j)/\E.w.cell? ⟨b,o+j,none⟩=some (g j))
  (hrd:∀j p,cs[j]?=some p->RdP E.w E.Fz (g j) p):RdA E (.pointer (some ⟨b,o,none⟩)) (.eptr cs)
 |own (v:Value) (id:Nat) (hA:E.A id) (h1:v.oneCell'=true) (h:E.L id->P1 (E.ρ id) v):RdA E v (.own id)
 |ownp (v:Value) (id k lo n:Nat) (hA:E.A id) (h1:v.oneCell'=true) (h:E.L id->ownpV k lo n (E.ρ id) v):RdA E v (.ownp id k lo n)
 |mp (v:Value) (id:Nat) (hA:E.A id) (h1:v.oneCell'=true) (h:E.L id->∃h,E.ρ id=some h/\v=.map (some h.blk)):RdA E v (.mp id)
 |fn (f:Fn) (vs ws:Array Value) (xs ys:List AV) (hv:vs.size=xs.length) (hw:ws.size=ys.length)
  (h1:∀(i:Nat) v x,vs[i]?=some v->xs[i]?=some x->RdA E v x)(h2:∀(i:Nat) v x,ws[i]?=some v->ys[i]?=some x->RdA E v x):RdA E (.func f vs ws) (.fn f xs ys)
 |agg (vs:Array Value) (xs:List AV) (hv:vs.size=xs.length) (h1:∀(i:Nat) v,vs[i]?=some v->v.oneCell'=true)
  (h:∀(i:Nat) v x,vs[i]?=some v->xs[i]?=some x->RdA E v x):RdA E (.agg vs) (.agg xs)
 |tup (vs:Array Value) (xs:List AV) (hv:vs.size=xs.length) (h:∀(i:Nat) v x,vs[i]?=some v->xs[i]?=some x->RdA E v x):RdA E (.tuple vs) (.tup xs)
 |when (v:Value) (c:Prop) (s:Nat) (w:Bool) (x:AV) (h1:c->RdA E v x) (h2:¬c->v=undef):RdA E v (.when c s w x)
 |yld (v:Value) (id:Nat) (hA:E.A id) (h1:∃l,v=.func (.yield l) #[] #[]) (h:E.L id->∃h,E.ρ id=some h/\v=.func (.yield h.blk) #[] #[]):RdA E v (.yld id)
 |grow (v:Value) (id i:Nat) (hA:E.A id) (h1:v.oneCell'=true) (h:E.L id->∃o,E.K id i=some o/\P1 o v):RdA E v (.grow id i)
 |gptr (v:Value) (id i j:Nat) (hA:E.A id) (h1:∃b o,v=.pointer (some ⟨b,o,none⟩))
  (h:E.L id->∃h,E.K id i=some (some h)/\j<h.len/\v=.pointer (some ⟨h.blk,h.off+j,none⟩)):RdA E v (.gptr id i j)
 |ownc (v:Value) (id k lo n:Nat) (hA:E.A id) (h1:v.oneCell'=true)
  (h:E.L id->∃h,E.ρ id=some h/\lo+n<=h.len/\v=.slice (some ⟨h.blk,h.off+lo*k,none⟩) n (h.len-lo)):RdA E v (.ownc id k lo n)
 |csl (v:Value) (t:Ty) (id n:Nat) (hA:E.A id) (h1:v.oneCell'=true)
  (h:E.L id->∃h,E.ρ id=some h/\v=.slice (some ⟨h.blk,0,none⟩) n n):RdA E v (.csl t id n)
 |dmp (b:Nat) (es:List (Int×List (Option PV))) (ms:Array MapEntry) (clock:Nat) (hB:E.B<=b) (hb:E.Nb b) (hh:E.w.heap[b]?=some (.map ms clock)) (hsz:ms.size=es.length)
  (hes:∀(i:Nat) m p,ms[i]?=some m->es[i]?=some p->m.key=.int .i64 p.1/\FlatRd m.val p.2):RdA E (.map (some b)) (.dmp es)
 |slf (t:Ty) (xs:List t.den) (a:Option Addr) (h:RdP E.w E.Fz (.slice a xs.length xs.length) (.sl t xs)):RdA E (.slice a xs.length xs.length) (.slf t xs)
theorem H9{w w':World}{b o:Nat}(h:w'.heap[b]?=w.heap[b]?):w'.cell? ⟨b,o,none⟩=w.cell? ⟨b,o,none⟩:=by simp[World.cell?,h]
structure Evo(n0:Nat)(E E':Env):Prop where
 B:E'.B=E.B
 F0:E'.F0=E.F0
 M:E'.M=E.M
 below:Below E.B E.w E'.w
 A:∀id,id<n0->E.A id->E'.A id
 ids:∀id,id<n0->E.A id->E'.L id->E.L id/\E'.ρ id=E.ρ id
 kds:∀id,id<n0->E.A id->E'.L id->∀i o,E.K id i=some o->E'.K id i=some o
 hp:∀b,E.Nb b->E'.Nb b/\E'.w.heap[b]?=E.w.heap[b]?
 Hd:E'.Hd=E.Hd
 hh:∀b,E.Hd b->E'.w.heap[b]?=E.w.heap[b]?
theorem Evo.fz{n0:Nat}{E E':Env}(h:Evo n0 E E')(b o:Nat)(hf:E.Fz b o):E'.Fz b o/\E'.w.cell? ⟨b,o,none⟩=E.w.cell? ⟨b,o,none⟩:=by
 rcases hf with⟨h1,h2⟩|⟨h1,h2⟩
 ·exact⟨.inl ⟨by rw[h.B];exact h1,by rw[h.F0];exact h2⟩,H9 (h.below.block b h1)⟩
 ·obtain⟨h3,h4⟩:=h.hp b h2;exact⟨.inr ⟨by rw[h.B];exact h1,h3⟩,H9 h4⟩
structure Evq(n0:Nat)(E E':Env):Prop where
 A:∀id,id<n0->E.A id->E'.A id
 ids:∀id,id<n0->E.A id->E'.L id->E.L id/\E'.ρ id=E.ρ id
 kds:∀id,id<n0->E.A id->E'.L id->∀i o,E.K id i=some o->E'.K id i=some o
 fz:∀b o,E.Fz b o->E'.Fz b o/\E'.w.cell? ⟨b,o,none⟩=E.w.cell? ⟨b,o,none⟩
 mp:∀b ms clock,E.B<=b->E.Nb b->E.w.heap[b]?=some (.map ms clock)->E'.B<=b/\E'.Nb b/\E'.w.heap[b]?=some (.map ms clock)
theorem Evo.q{n0:Nat}{E E':Env}(h:Evo n0 E E'):Evq n0 E E':=⟨h.A,h.ids,h.kds,h.fz,λb ms clock hB hb hm=>by
 obtain⟨h1,h2⟩:=h.hp b hb;exact⟨by rw[h.B];exact hB,h1,h2.trans hm⟩⟩
theorem Evo.own{n0:Nat}{E E':Env}(h:Evo n0 E E'){id b:Nat}(hid:id<n0)(ha:E.A id)(hl:E'.L id)(ho:E.Own id b):E'.Own id b:=by
 rcases ho with⟨hd,hρ,hb⟩|⟨i,hd,hk,hb⟩
 ·exact .inl ⟨hd,(h.ids id hid ha hl).2.trans hρ,hb⟩
 ·exact .inr ⟨i,hd,h.kds id hid ha hl i _ hk,hb⟩
theorem Evo.refl(n0:Nat)(E:Env):Evo n0 E E:=⟨rfl,rfl,rfl,Below.refl _ _,λ_ _ h=>h,λ_ _ _ h=>⟨h,rfl⟩,λ_ _ _ _ _ _ h=>h,λ_ h=>⟨h,rfl⟩,rfl,λ_ _=>rfl⟩
theorem Evo.trans{n0:Nat}{E E' E'':Env}(h:Evo n0 E E')(k:Evo n0 E' E''):Evo n0 E E'':=by
 refine⟨k.B.trans h.B,k.F0.trans h.F0,k.M.trans h.M,h.below.trans (h.B ▸ k.below),λid hi ha=>k.A id hi (h.A id hi ha), ?_, ?_, ?_,k.Hd.trans h.Hd,λb hb=>(k.hh b (by rw[h.Hd];exact hb)).trans (h.hh b hb)⟩
 ·intro id hi ha hl;obtain⟨h1,h2⟩:=k.ids id hi (h.A id hi ha) hl;obtain⟨h3,h4⟩:=h.ids id hi ha h1;exact⟨h3,h2.trans h4⟩
 ·intro id hi ha hl i o ho;have h1:=(k.ids id hi (h.A id hi ha) hl).1;exact k.kds id hi (h.A id hi ha) hl i o (h.kds id hi ha h1 i o ho)
 ·intro b hf;obtain⟨h1,h2⟩:=h.hp b hf;obtain⟨h3,h4⟩:=k.hp b h1;exact⟨h3,h4.trans h2⟩
theorem Evo.mono{n0 n1:Nat}{E E':Env}(h:Evo n0 E E')(hn:n1<=n0):Evo n1 E E':=
 ⟨h.B,h.F0,h.M,h.below,λid hi=>h.A id (cA hi hn),λid hi=>h.ids id (cA hi hn),λid hi=>h.kds id (cA hi hn),h.hp,h.Hd,h.hh⟩
theorem RdP.mono{w w':World}{F F':Nat->Nat->Prop}(hF:∀b o,F b o->F' b o/\w'.cell? ⟨b,o,none⟩=w.cell? ⟨b,o,none⟩){v:Value}{p:PV}(h:RdP w F v p):RdP w' F' v p:=by
 induction h with
 |int k n=>exact .int k n
 |bool b=>exact .bool b
 |str s=>exact .str s
 |val v h=>exact .val v h
 |nils a c=>exact .nils a c
 |sl0 a c t=>exact .sl0 a c t
 |sl b o n c t xs g hn hc hl hcell _ ih=>
  refine .sl b o n c t xs g hn hc hl (λj hj=>?_) ih;obtain⟨h1,h2⟩:=hcell j hj;obtain⟨h3,h4⟩:=hF _ _ h1;exact⟨h3,h4.trans h2⟩
 |fnil=>exact .fnil
 |fn f caps ws g u hw hc _ ih=>
  refine .fn f caps ws g u hw (λi hi=>?_) ih;obtain⟨h0,h1,h2⟩:=hc i hi;obtain⟨h3,h4⟩:=hF _ _ h1;exact⟨h0,h3,h4.trans h2⟩
theorem RdA.monoq{n0:Nat}{E E':Env}(hE:Evq n0 E E')(hA:∀id,E.A id->id<n0){v:Value}{x:AV}(h:RdA E v x):RdA E' v x:=by
 induction h with
 |any v=>exact .any v
 |int k n=>exact .int k n
 |bool b=>exact .bool b
 |str s=>exact .str s
 |val v h=>exact .val v h
 |nils a c=>exact .nils a c
 |cap0 a=>exact .cap0 a
 |sl v t xs h=>exact .sl v t xs (h.mono hE.fz)
 |ptr v id off ha h1 h=>
  refine .ptr v id off (hE.A id (hA id ha) ha) h1 λhl=>?_
  obtain⟨h2,h3⟩:=hE.ids id (hA id ha) ha hl;rw[h3];exact h h2
 |rptr v id k row off ha h1 h=>
  refine .rptr v id k row off (hE.A id (hA id ha) ha) h1 λhl=>?_
  obtain⟨h2,h3⟩:=hE.ids id (hA id ha) ha hl;rw[h3];exact h h2
 |eptr b o cs g hcell hrd=>
  refine .eptr b o cs g (λj hj=>?_) (λj p hp=>(hrd j p hp).mono hE.fz);obtain⟨h1,h2⟩:=hcell j hj;obtain⟨h3,h4⟩:=hE.fz _ _ h1;exact⟨h3,h4.trans h2⟩
 |own v id ha h1 h=>
  refine .own v id (hE.A id (hA id ha) ha) h1 λhl=>?_
  obtain⟨h2,h3⟩:=hE.ids id (hA id ha) ha hl;rw[h3];exact h h2
 |ownp v id k lo n ha h1 h=>
  refine .ownp v id k lo n (hE.A id (hA id ha) ha) h1 λhl=>?_
  obtain⟨h2,h3⟩:=hE.ids id (hA id ha) ha hl;rw[h3];exact h h2
 |mp v id ha h1 h=>
  refine .mp v id (hE.A id (hA id ha) ha) h1 λhl=>?_
  obtain⟨h2,h3⟩:=hE.ids id (hA id ha) ha hl;rw[h3];exact h h2
 |fn f vs ws xs ys hv hw _ _ ih1 ih2=>exact .fn f vs ws xs ys hv hw ih1 ih2
 |agg vs xs hv h1 _ ih=>exact .agg vs xs hv h1 ih
 |tup vs xs hv _ ih=>exact .tup vs xs hv ih
 |when v c s w x _ h2 ih=>exact .when v c s w x ih h2
 |yld v id ha h1 h=>
  refine .yld v id (hE.A id (hA id ha) ha) h1 λhl=>?_
  obtain⟨h2,h3⟩:=hE.ids id (hA id ha) ha hl;rw[h3];exact h h2
 |grow v id i ha h1 h=>
  refine .grow v id i (hE.A id (hA id ha) ha) h1 λhl=>?_
  obtain⟨h2,h3⟩:=hE.ids id (hA id ha) ha hl;obtain⟨o,h4,h5⟩:=h h2;exact⟨o,hE.kds id (hA id ha) ha hl i o h4,h5⟩
 |gptr v id i j ha h1 h=>
  refine .gptr v id i j (hE.A id (hA id ha) ha) h1 λhl=>?_
  obtain⟨h2,h3⟩:=hE.ids id (hA id ha) ha hl;obtain⟨o,h4,h5⟩:=h h2;exact⟨o,hE.kds id (hA id ha) ha hl i _ h4,h5⟩
 |ownc v id k lo n ha h1 h=>
  refine .ownc v id k lo n (hE.A id (hA id ha) ha) h1 λhl=>?_
  obtain⟨h2,h3⟩:=hE.ids id (hA id ha) ha hl;rw[h3];exact h h2
 |csl v t id n ha h1 h=>
  refine .csl v t id n (hE.A id (hA id ha) ha) h1 λhl=>?_
  obtain⟨h2,h3⟩:=hE.ids id (hA id ha) ha hl;rw[h3];exact h h2
 |slf t xs a h=>exact .slf t xs a (h.mono hE.fz)
 |dmp b es ms clock hB hb hh hsz hes=>
  obtain⟨h0,h1,h2⟩:=hE.mp b ms clock hB hb hh;exact .dmp b es ms clock h0 h1 h2 hsz hes
theorem RdA.mono{n0:Nat}{E E':Env}(hE:Evo n0 E E')(hA:∀id,E.A id->id<n0){v:Value}{x:AV}(h:RdA E v x):RdA E' v x:=h.monoq hE.q hA
theorem RdA.ptr_inv{E:Env}{v:Value}{id off:Nat}(h:RdA E v (.ptr id off)):E.A id/\(∃b o,v=.pointer (some ⟨b,o,none⟩))/\(E.L id->∃h,E.ρ id=some h/\v=.pointer (some ⟨h.blk,off,none⟩)):=
 match h with|.ptr _ _ _ hA h1 h=>⟨hA,h1,h⟩
theorem RdA.rptr_inv{E:Env}{v:Value}{id k row off:Nat}(h:RdA E v (.rptr id k row off)):
 E.A id/\(∃b o,v=.pointer (some ⟨b,o,none⟩))/\(E.L id->∃h,E.ρ id=some h/\row<h.len/\v=.pointer (some ⟨h.blk,h.off+row*k+off,none⟩)):=
 match h with|.rptr _ _ _ _ _ hA h1 h=>⟨hA,h1,h⟩
theorem RdA.own_inv{E:Env}{v:Value}{id:Nat}(h:RdA E v (.own id)):E.A id/\v.oneCell'=true/\(E.L id->P1 (E.ρ id) v):=
 match h with|.own _ _ hA h1 h=>⟨hA,h1,h⟩
theorem RdA.ownp_inv{E:Env}{v:Value}{id k lo n:Nat}(h:RdA E v (.ownp id k lo n)):E.A id/\v.oneCell'=true/\(E.L id->ownpV k lo n (E.ρ id) v):=
 match h with|.ownp _ _ _ _ _ hA h1 h=>⟨hA,h1,h⟩
theorem RdA.mp_inv{E:Env}{v:Value}{id:Nat}(h:RdA E v (.mp id)):E.A id/\v.oneCell'=true/\(E.L id->∃h,E.ρ id=some h/\v=.map (some h.blk)):=
 match h with|.mp _ _ hA h1 h=>⟨hA,h1,h⟩
theorem RdA.yld_inv{E:Env}{v:Value}{id:Nat}(h:RdA E v (.yld id)):E.A id/\(∃l,v=.func (.yield l) #[] #[])/\(E.L id->∃h,E.ρ id=some h/\v=.func (.yield h.blk) #[] #[]):=
 match h with|.yld _ _ hA h1 h=>⟨hA,h1,h⟩
theorem RdA.grow_inv{E:Env}{v:Value}{id i:Nat}(h:RdA E v (.grow id i)):E.A id/\v.oneCell'=true/\(E.L id->∃o,E.K id i=some o/\P1 o v):=
 match h with|.grow _ _ _ hA h1 h=>⟨hA,h1,h⟩
theorem RdA.gptr_inv{E:Env}{v:Value}{id i j:Nat}(h:RdA E v (.gptr id i j)):E.A id/\(∃b o,v=.pointer (some ⟨b,o,none⟩))/\(E.L id->∃h,E.K id i=some (some h)/\j<h.len/\v=.pointer (some ⟨h.blk,h.off+j,none⟩)):=
 match h with|.gptr _ _ _ _ hA h1 h=>⟨hA,h1,h⟩
theorem RdA.ownc_inv{E:Env}{v:Value}{id k lo n:Nat}(h:RdA E v (.ownc id k lo n)):E.A id/\v.oneCell'=true/\(E.L id->∃h,E.ρ id=some h/\lo+n<=h.len/\v=.slice (some ⟨h.blk,h.off+lo*k,none⟩) n (h.len-lo)):=
 match h with|.ownc _ _ _ _ _ hA h1 h=>⟨hA,h1,h⟩
theorem RdA.csl_inv{E:Env}{v:Value}{t:Ty}{id n:Nat}(h:RdA E v (.csl t id n)):E.A id/\v.oneCell'=true/\(E.L id->∃h,E.ρ id=some h/\v=.slice (some ⟨h.blk,0,none⟩) n n):=
 match h with|.csl _ _ _ _ hA h1 h=>⟨hA,h1,h⟩
theorem RdA.slf_inv{E:Env}{v:Value}{t:Ty}{xs:List t.den}(h:RdA E v (.slf t xs)):(∃a,v=.slice a xs.length xs.length)/\RdP E.w E.Fz v (.sl t xs):=by
 cases h;exact⟨⟨_,rfl⟩,by assumption⟩
theorem RdA.int_inv{E:Env}{v:Value}{k:IntKind}{n:Int}(h:RdA E v (.int k n)):v=.int k n:=by cases h;rfl
theorem RdA.bool_inv{E:Env}{v:Value}{b:Bool}(h:RdA E v (.bool b)):v=.bool b:=by cases h;rfl
theorem RdA.sl_inv{E:Env}{v:Value}{t:Ty}{xs:List t.den}(h:RdA E v (.sl t xs)):RdP E.w E.Fz v (.sl t xs):=by cases h;assumption
theorem RdA.cap0_inv{E:Env}{v:Value}(h:RdA E v .cap0):∃a,v=.slice a 0 0:=by cases h;exact⟨_,rfl⟩
theorem RdA.nils_inv{E:Env}{v:Value}(h:RdA E v .nils):∃a c,v=.slice a 0 c:=by cases h;exact⟨_,_,rfl⟩
theorem RdA.when_inv{E:Env}{v:Value}{c:Prop}{s:Nat}{w:Bool}{x:AV}(h:RdA E v (.when c s w x)):(c->RdA E v x)/\(¬c->v=undef):=
 match h with|.when _ _ _ _ _ h1 h2=>⟨h1,h2⟩
theorem RdA.agg_inv{E:Env}{v:Value}{xs:List AV}(h:RdA E v (.agg xs)):∃vs:Array Value,v=.agg vs/\vs.size=xs.length/\(∀(i:Nat) u,vs[i]?=some u->u.oneCell'=true)/\∀(i:Nat) u x,vs[i]?=some u->xs[i]?=some x->RdA E u x:=
 match h with|.agg vs _ h1 h2 h3=>⟨vs,rfl,h1,h2,h3⟩
theorem RdP.sl_inv{w:World}{F:Nat->Nat->Prop}{v:Value}{t:Ty}{xs:List t.den}(h:RdP w F v (.sl t xs)):(xs=[]/\∃a c,v=.slice a 0 c)\/
 ∃(b o c:Nat)(g:Nat->Value),v=.slice (some ⟨b,o,none⟩) xs.length c/\xs.length<=c/\xs.length<=big/\(∀j,j<(flat t xs).length->F b (o+j)/\w.cell? ⟨b,o+j,none⟩=some (g j))/\
  ∀j p,(flat t xs)[j]?=some p->RdP w F (g j) p:=by
 cases h with
 |sl0 a c=>exact .inl ⟨rfl,a,c,rfl⟩
 |sl b o n c _ _ g hn hc hl hcell hrd=>subst hn;exact .inr ⟨b,o,c,g,rfl,hc,hl,hcell,hrd⟩
theorem RdP.one{w:World}{F:Nat->Nat->Prop}{v:Value}{p:PV}(h:RdP w F v p):v.oneCell'=true:=by
 cases h<;>first|rfl|assumption
def RowsAt(E:Env)(t:Ty)(xs:List t.den):Option Hdr->Prop
 |none=>xs=[]
 |some h=>h.len=xs.length/\h.len<=h.cap/\h.len<=lim/\h.cap<=maxLen/\
  ∃arr el,E.w.heap[h.blk]?=some (.cells arr el (0,0))/\h.off+h.cap*t.size<=arr.size/\
   ∀j p,(flat t xs)[j]?=some p->∃v,arr[h.off+j]?=some v/\RdP E.w E.Fz v p
structure GridAt(E:Env)(t:Ty)(more:Nat)(xss:List (List t.den))(h:Hdr)(k:Nat->Option (Option Hdr)):Prop where
 len:h.len=xss.length+more
 cap:h.len<=h.cap
 lim:h.len<=lim
 max:h.cap<=maxLen
 head:∃arr el,E.w.heap[h.blk]?=some (.cells arr el (0,0))/\h.off+h.cap<=arr.size/\
  (∀i,i<xss.length->∃o v,k i=some o/\arr[h.off+i]?=some v/\P1 o v)/\
  (∀i,xss.length<=i->i<xss.length+more->∃a,arr[h.off+i]?=some (.slice a 0 0))
 rows:∀(i:Nat) xs,xss[i]?=some xs->∃o,k i=some o/\RowsAt E t xs o
 past:∀i,xss.length<=i->k i=none
 apart:∀i h',k i=some (some h')->h'.blk≠h.blk
 two:∀i j h1 h2,k i=some (some h1)->k j=some (some h2)->i≠j->h1.blk≠h2.blk
def Gl:Jump->Option Code
 |.no=>none
 |.ret=>some .ret
 |.exit m=>some (.exit m)
def OkOb(E:Env)(id:Nat):Ob->Prop
 |.dead=>False
 |.cells cs=>∃h,E.ρ id=some h/\∃arr el,E.w.heap[h.blk]?=some (.cells arr el (0,0))/\arr.size=cs.length/\
  ∀(i:Nat) v x,arr[i]?=some v->cs[i]?=some x->v.oneCell'=true/\RdA E v x
 |.rows t xs=>RowsAt E t xs (E.ρ id)
 |.froz t xs=>RowsAt E t xs (E.ρ id)
 |.fmap es=>∃h,E.ρ id=some h/\∃(ms:Array MapEntry)(clock:Nat),E.w.heap[h.blk]?=some (.map ms clock)/\ms.size=es.length/\
  ∀(i:Nat) m p,ms[i]?=some m->es[i]?=some p->m.key=.int .i64 p.1/\RdA E m.val p.2
 |.grid t more xss=>∃h,E.ρ id=some h/\GridAt E t more xss h (E.K id)
 |.loop st pend ps x y sl=>∃h,E.ρ id=some h/\∃r:Loop,E.w.heap[h.blk]?=some (.loop r)/\r.state=st/\r.pending=Gl pend/\r.params.toList=ps/\r.assign=x/\r.body=y/\r.tmps.size=sl.length/\
  ∀(i:Nat) v s,r.tmps[i]?=some v->sl[i]?=some s->RdA E v s
theorem RowsAt.mono{E E':Env}{t:Ty}{xs:List t.den}{o:Option Hdr}(hF:∀b o,E.Fz b o->E'.Fz b o/\E'.w.cell? ⟨b,o,none⟩=E.w.cell? ⟨b,o,none⟩)
 (hb:∀h,o=some h->E'.w.heap[h.blk]?=E.w.heap[h.blk]?)(h:RowsAt E t xs o):RowsAt E' t xs o:=by
 cases o with
 |none=>exact h
 |some hd=>
  obtain⟨h1,h2,h3,h3',arr,el,h4,h5,h6⟩:=h;refine⟨h1,h2,h3,h3',arr,el,(hb hd rfl).trans h4,h5,λj p hp=>?_⟩;obtain⟨v,hv,hr⟩:=h6 j p hp;exact⟨v,hv,hr.mono hF⟩
theorem GridAt.mono{E E':Env}{t:Ty}{more:Nat}{xss:List (List t.den)}{h:Hdr}{k:Nat->Option (Option Hdr)}(hF:∀b o,E.Fz b o->E'.Fz b o/\E'.w.cell? ⟨b,o,none⟩=E.w.cell? ⟨b,o,none⟩)
 (hb:E'.w.heap[h.blk]?=E.w.heap[h.blk]?)(hk:∀i h',k i=some (some h')->E'.w.heap[h'.blk]?=E.w.heap[h'.blk]?)(g:GridAt E t more xss h k):GridAt E' t more xss h k:=by
 obtain⟨arr,el,h1,h2,h3,h4⟩:=g.head;refine⟨g.len,g.cap,g.lim,g.max,⟨arr,el,hb.trans h1,h2,h3,h4⟩,λi xs hi=>?_,g.past,g.apart,g.two⟩;obtain⟨o,h5,h6⟩:=g.rows i xs hi;exact⟨o,h5,h6.mono hF λh' ho=>hk i h' (by rw[h5,ho])⟩
theorem OkOb.monoq{n0:Nat}{E E':Env}{id:Nat}{ob:Ob}(hE:Evq n0 E E')(hA:∀id,E.A id->id<n0)(hid:E.A id)(hl:E'.L id)
 (hK:E'.K id=E.K id)(hb:∀b,E.Own id b->E'.w.heap[b]?=E.w.heap[b]?)(h:OkOb E id ob):OkOb E' id ob:=by
 have hb0:=hb;replace hb:∀h,E.ρ id=some h->E'.w.heap[h.blk]?=E.w.heap[h.blk]?:=λh hρ=>hb0 h.blk (.inl ⟨h,hρ,rfl⟩)
 have hρ:E'.ρ id=E.ρ id:=(hE.ids id (hA id hid) hid hl).2;cases ob with
 |dead=>exact h
 |cells cs=>
  obtain⟨hd,h1,arr,el,h2,h3,h4⟩:=h;refine⟨hd,hρ.trans h1,arr,el,(hb hd h1).trans h2,h3,λi v x hv hx=>?_⟩;obtain⟨h5,h6⟩:=h4 i v x hv hx;exact⟨h5,h6.monoq hE hA⟩
 |rows t xs=>
  show RowsAt E' t xs (E'.ρ id);rw[hρ];exact RowsAt.mono hE.fz hb h
 |froz t xs=>
  show RowsAt E' t xs (E'.ρ id);rw[hρ];exact RowsAt.mono hE.fz hb h
 |fmap es=>
  obtain⟨hd,h1,ms,clock,h2,h3,h4⟩:=h;refine⟨hd,hρ.trans h1,ms,clock,(hb hd h1).trans h2,h3,λi m p hm hp=>?_⟩;obtain⟨h5,h6⟩:=h4 i m p hm hp;exact⟨h5,h6.monoq hE hA⟩
 |grid t more xss=>
  obtain⟨hd,h1,h2⟩:=h;refine⟨hd,hρ.trans h1, ?_⟩;rw[hK];exact h2.mono hE.fz (hb hd h1) λi h' hi=>hb0 _ (.inr ⟨i,h',hi,rfl⟩)
 |loop st pe ps x y sl=>
  obtain⟨hd,h1,r,h2,h3,h4,h5,h6,h7,h8,h9⟩:=h;exact⟨hd,hρ.trans h1,r,(hb hd h1).trans h2,h3,h4,h5,h6,h7,h8,λi v s hv hs=>(h9 i v s hv hs).monoq hE hA⟩
theorem OkOb.mono{n0:Nat}{E E':Env}{id:Nat}{ob:Ob}(hE:Evo n0 E E')(hA:∀id,E.A id->id<n0)(hid:E.A id)(hl:E'.L id)
 (hK:E'.K id=E.K id)(hb:∀b,E.Own id b->E'.w.heap[b]?=E.w.heap[b]?)(h:OkOb E id ob):OkOb E' id ob:=OkOb.monoq hE.q hA hid hl hK hb h
end Go.Sx
namespace Go.Sx
open Go.RowKit
def Env.ext(E:Env)(n m:Nat)(kill:Option Nat)(frz:List Nat)(wn:Nat->Prop)(w':World)(hd:Nat->Option Hdr):Env where
 w:=w'
 B:=E.B
 F0:=E.F0
 ρ:=λid=>if n<=id/\id<n+m then hd (id-n)else E.ρ id
 L:=λid=>(E.L id/\kill≠some id)\/(n<=id/\id<n+m)
 W:=λid=>(E.W id/\kill≠some id/\id ∉ frz)\/(n<=id/\id<n+m/\wn id)
 A:=λid=>E.A id\/(n<=id/\id<n+m)
 K:=λid=>if n<=id/\id<n+m thenλ_=>none else E.K id
 M:=E.M
 Hd:=E.Hd
structure Step(E:Env)(n:Nat)(r:Res)(w':World)(hd:Nat->Option Hdr):Prop where
 below:Below E.B E.w w'
 fr:∀b,b<E.w.heap.size->(∀id,E.W id->(r.kill=some id\/r.st.map (·.1)=some id)->¬E.Own id b)->w'.heap[b]?=E.w.heap[b]?
 blk:∀j h,j<r.news.length->hd j=some h->h.blk<w'.heap.size/\(E.w.heap.size<=h.blk\/∃id,E.W id/\r.kill=some id/\E.Own id h.blk)
 two:∀j j' h h',j<r.news.length->j'<r.news.length->hd j=some h->hd j'=some h'->j≠j'->h.blk≠h'.blk
 kw:∀id,r.kill=some id->E.W id
 sw:∀p,r.st=some p->E.W p.1
structure Ext(E:Env)(n:Nat)(r:Res)(wn:Nat->Prop)(E':Env):Prop where
 evo:∀n0,Evo n0 E E'
 L:∀id,E'.L id<->(E.L id/\r.kill≠some id)\/(n<=id/\id<n+r.news.length)
 W:∀id,E'.W id<->(E.W id/\r.kill≠some id/\id ∉ r.frz)\/(n<=id/\id<n+r.news.length/\wn id)
 A:∀id,E'.A id<->E.A id\/(n<=id/\id<n+r.news.length)
 injO:∀id id' b,E'.L id->E'.L id'->E'.Own id b->E'.Own id' b->id=id'
 ltO:∀id b,E'.L id->E'.Own id b->E'.B<=b/\b<E'.w.heap.size
 hid:∀id b,E'.L id->E'.Own id b->¬E'.Hd b
 new:∀j ob,r.news[j]?=some ob->OkOb E' (n+j) ob
 st:∀id ob,r.st=some (id,ob)->OkOb E' id ob
 keep:∀id b,E.L id->E.Own id b->r.kill≠some id->(∀p,r.st=some p->p.1≠id)->E'.w.heap[b]?=E.w.heap[b]?
 old:∀id ob,E.L id->r.kill≠some id->(∀p,r.st=some p->p.1≠id)->OkOb E id ob->OkOb E' id ob
structure Ready(E:Env)(n:Nat)(m:Nat):Prop where
 sub:∀id,E.L id->E.A id
 wl:∀id,E.W id->E.L id
 injO:∀id id' b,E.L id->E.L id'->E.Own id b->E.Own id' b->id=id'
 ltO:∀id b,E.L id->E.Own id b->E.B<=b/\b<E.w.heap.size
 f0:∀b o,E.F0 b o->b<E.B
 B:E.B<=E.w.heap.size
 fresh:∀id,n<=id->id<n+m->¬E.A id
 hid:∀id b,E.L id->E.Own id b->¬E.Hd b
 hlt:∀b,E.Hd b->b<E.w.heap.size
theorem Ready.inj{E:Env}{n m:Nat}(hr:Ready E n m)(id id':Nat)(h h':Hdr)(hl:E.L id)(hl':E.L id')(hρ:E.ρ id=some h)(hρ':E.ρ id'=some h')(hne:id≠id'):h.blk≠h'.blk:=λe=>
 hne (hr.injO id id' h.blk hl hl' (.inl ⟨h,hρ,rfl⟩) (.inl ⟨h',hρ',e.symm⟩))
theorem Ready.lt{E:Env}{n m:Nat}(hr:Ready E n m)(id:Nat)(h:Hdr)(hl:E.L id)(hρ:E.ρ id=some h):E.B<=h.blk/\h.blk<E.w.heap.size:=hr.ltO id h.blk hl (.inl ⟨h,hρ,rfl⟩)
theorem Ext.inj{E E':Env}{n:Nat}{r:Res}{wn:Nat->Prop}(hr:Ext E n r wn E')(id id':Nat)(h h':Hdr)(hl:E'.L id)(hl':E'.L id')(hρ:E'.ρ id=some h)(hρ':E'.ρ id'=some h')(hne:id≠id'):h.blk≠h'.blk:=λe=>
 hne (hr.injO id id' h.blk hl hl' (.inl ⟨h,hρ,rfl⟩) (.inl ⟨h',hρ',e.symm⟩))
theorem Ext.lt{E E':Env}{n:Nat}{r:Res}{wn:Nat->Prop}(hr:Ext E n r wn E')(id:Nat)(h:Hdr)(hl:E'.L id)(hρ:E'.ρ id=some h):E'.B<=h.blk/\h.blk<E'.w.heap.size:=hr.ltO id h.blk hl (.inl ⟨h,hρ,rfl⟩)
theorem Env.ext_own{E:Env}{n m:Nat}{kill:Option Nat}{frz:List Nat}{wn:Nat->Prop}{w':World}{hd:Nat->Option Hdr}{id b:Nat}(h:(E.ext n m kill frz wn w' hd).Own id b):
 ((n<=id/\id<n+m)/\∃h,hd (id-n)=some h/\h.blk=b)\/(¬(n<=id/\id<n+m)/\E.Own id b):=by
 by_cases hid:n<=id/\id<n+m
 ·rcases h with⟨h,hρ,hb⟩|⟨i,h,hK,hb⟩
  ·simp only[Env.ext]at hρ;rw[aP hid]at hρ;exact .inl ⟨hid,h,hρ,hb⟩
  ·simp only[Env.ext]at hK;rw[aP hid]at hK;cases hK
 ·refine .inr ⟨hid, ?_⟩;rcases h with⟨h,hρ,hb⟩|⟨i,h,hK,hb⟩
  ·simp only[Env.ext]at hρ;rw[aL hid]at hρ;exact .inl ⟨h,hρ,hb⟩
  ·simp only[Env.ext]at hK;rw[aL hid]at hK;exact .inr ⟨i,h,hK,hb⟩
theorem Env.ext_own_old{E:Env}{n m:Nat}{kill:Option Nat}{frz:List Nat}{wn:Nat->Prop}{w':World}{hd:Nat->Option Hdr}{id b:Nat}(hid:¬(n<=id/\id<n+m)):
 (E.ext n m kill frz wn w' hd).Own id b<->E.Own id b:=by
 refine⟨λh=>(Env.ext_own h).elim (λh=>aT h.1 hid) λh=>h.2,λh=>?_⟩;rcases h with⟨h,hρ,hb⟩|⟨i,h,hK,hb⟩
 ·exact .inl ⟨h,by simp only[Env.ext];rw[aL hid];exact hρ,hb⟩
 ·exact .inr ⟨i,h,by simp only[Env.ext];rw[aL hid];exact hK,hb⟩
theorem Step.evo{E:Env}{n:Nat}{r:Res}{w':World}{hd:Nat->Option Hdr}{wn:Nat->Prop}(hs:Step E n r w' hd)(hr:Ready E n r.news.length)(n0:Nat):
 Evo n0 E (E.ext n r.news.length r.kill r.frz wn w' hd):=by
 have old:∀b,E.Nb b->w'.heap[b]?=E.w.heap[b]?:=λb hb=>hs.fr b hb.1 λid hW _=>hb.2.1 id hW
 refine⟨rfl,rfl,rfl,hs.below,λid _ ha=>.inl ha, ?_, ?_, ?_,rfl,λb hb=>hs.fr b (hr.hlt b hb) λid hW _ ho=>hr.hid id b (hr.wl id hW) ho hb⟩
 ·intro id _ ha hl;have hne:¬(n<=id/\id<n+r.news.length):=λ⟨h1,h2⟩=>hr.fresh id h1 h2 ha
  rcases hl with⟨hl,_⟩|hl
  ·exact⟨hl,by simp only[Env.ext];rw[aL hne]⟩
  ·exact aT hl hne
 ·intro id _ ha hl i o ho;have hne:¬(n<=id/\id<n+r.news.length):=λ⟨h1,h2⟩=>hr.fresh id h1 h2 ha
  simp only[Env.ext];rw[aL hne];exact ho
 ·intro b hb;refine⟨⟨cA hb.1 hs.below.size,λid hW ho=>?_,hb.2.2⟩,old b hb⟩;rcases Env.ext_own ho with⟨hid,h,hρ,he⟩|⟨hid,ho⟩
  ·obtain⟨_,h2⟩:=hs.blk (id-n) h (by omega) hρ;rcases h2 with h2|⟨id',hW',_,ho'⟩
   ·have:=hb.1;omega
   ·rw[he]at ho';exact hb.2.1 id' hW' ho'
  ·rcases hW with⟨hW,_⟩|⟨h1,h2,_⟩
   ·exact hb.2.1 id hW ho
   ·exact aT ⟨h1,h2⟩ hid
theorem Step.blkB{E:Env}{n:Nat}{r:Res}{w':World}{hd:Nat->Option Hdr}(hs:Step E n r w' hd)(hr:Ready E n r.news.length){j:Nat}{h:Hdr}(hj:j<r.news.length)(hh:hd j=some h):
 E.B<=h.blk/\h.blk<w'.heap.size:=by
 obtain⟨h1,h2⟩:=hs.blk j h hj hh;refine⟨?_,h1⟩;rcases h2 with h2|⟨id,hW,_,ho⟩
 ·exact cP hr.B h2
 ·exact(hr.ltO id h.blk (hr.wl id hW) ho).1
theorem Step.apartO{E:Env}{n:Nat}{r:Res}{w':World}{hd:Nat->Option Hdr}(hs:Step E n r w' hd)(hr:Ready E n r.news.length){j:Nat}{h:Hdr}(hj:j<r.news.length)(hh:hd j=some h)
 {id b:Nat}(hl:E.L id)(hk:r.kill≠some id)(ho:E.Own id b):h.blk≠b:=by
 obtain⟨_,h2⟩:=hs.blk j h hj hh;rcases h2 with h2|⟨id2,hW,hk2,ho2⟩
 ·have:=(hr.ltO id b hl ho).2;omega
 ·intro e;rw[e]at ho2;exact hk ((hr.injO id2 id b (hr.wl id2 hW) hl ho2 ho) ▸ hk2)
theorem Step.apart{E:Env}{n:Nat}{r:Res}{w':World}{hd:Nat->Option Hdr}(hs:Step E n r w' hd)(hr:Ready E n r.news.length){j:Nat}{h:Hdr}(hj:j<r.news.length)(hh:hd j=some h)
 {id:Nat}{h':Hdr}(hl:E.L id)(hk:r.kill≠some id)(hρ:E.ρ id=some h'):h.blk≠h'.blk:=hs.apartO hr hj hh hl hk (.inl ⟨h',hρ,rfl⟩)
theorem Step.ext{E:Env}{n:Nat}{r:Res}{w':World}{hd:Nat->Option Hdr}{wn:Nat->Prop}(hs:Step E n r w' hd)(hr:Ready E n r.news.length)
 (hA:∃N,∀id,E.A id->id<N)
 (hnew:(∀n0,Evo n0 E (E.ext n r.news.length r.kill r.frz wn w' hd))->∀j ob,r.news[j]?=some ob->OkOb (E.ext n r.news.length r.kill r.frz wn w' hd) (n+j) ob)
 (hst:(∀n0,Evo n0 E (E.ext n r.news.length r.kill r.frz wn w' hd))->∀id ob,r.st=some (id,ob)->OkOb (E.ext n r.news.length r.kill r.frz wn w' hd) id ob):
 Ext E n r wn (E.ext n r.news.length r.kill r.frz wn w' hd):=by
 obtain⟨N,hN⟩:=hA;have hkeep:∀id b,E.L id->E.Own id b->r.kill≠some id->(∀p,r.st=some p->p.1≠id)->w'.heap[b]?=E.w.heap[b]?:=by
  intro id b hl ho hk hst';refine hs.fr b (hr.ltO id b hl ho).2 λid2 hW2 hor ho2=>?_
  have e:=hr.injO id2 id b (hr.wl id2 hW2) hl ho2 ho;subst e;rcases hor with h|h
  ·exact hk h
  ·cases hst2:r.st with
   |none=>rw[hst2]at h;cases h
   |some p=>rw[hst2]at h;simp at h;exact hst' p hst2 h
 refine⟨hs.evo hr,λ_=>Iff.rfl,λ_=>Iff.rfl,λ_=>Iff.rfl, ?_, ?_, ?_,hnew (hs.evo hr),hst (hs.evo hr),hkeep, ?_⟩
 ·intro id id' b hl hl' ho ho';rcases Env.ext_own ho with⟨h1,h,hρ,hb⟩|⟨h1,ho⟩<;>rcases Env.ext_own ho' with⟨h2,h',hρ',hb'⟩|⟨h2,ho'⟩
  ·refine Classical.byContradiction λhne=>?_
   exact hs.two _ _ h h' (by omega) (by omega) hρ hρ' (by omega) (hb.trans hb'.symm)
  ·obtain⟨hl',hk⟩:=fF hl' h2;exact aT hb (hs.apartO hr (by omega) hρ hl' hk ho')
  ·obtain⟨hl,hk⟩:=fF hl h1;exact aT hb' (hs.apartO hr (by omega) hρ' hl hk ho)
  ·exact hr.injO id id' b (fF hl h1).1 (fF hl' h2).1 ho ho'
 ·intro id b hl ho;rcases Env.ext_own ho with⟨h1,h,hρ,hb⟩|⟨h1,ho⟩
  ·rw[<-hb];exact hs.blkB hr (by omega) hρ
  ·obtain⟨h2,h3⟩:=hr.ltO id b (fF hl h1).1 ho;exact⟨h2,cA h3 hs.below.size⟩
 ·intro id b hl ho;rcases Env.ext_own ho with⟨h1,h,hρ,hb⟩|⟨h1,ho⟩
  ·obtain⟨_,h2⟩:=hs.blk (id-n) h (by omega) hρ;rcases h2 with h2|⟨id',hW',_,ho'⟩
   ·intro hh;have:=hr.hlt b hh;omega
   ·rw[hb]at ho';exact hr.hid id' b (hr.wl id' hW') ho'
  ·exact hr.hid id b (fF hl h1).1 ho
 ·intro id ob hl hk hst' hok;have hne:¬(n<=id/\id<n+r.news.length):=λ⟨h1,h2⟩=>hr.fresh id h1 h2 (hr.sub id hl)
  exact OkOb.mono (hs.evo hr N) hN (hr.sub id hl) (.inl ⟨hl,hk⟩) (by simp only[Env.ext];rw[aL hne]) (λb hb=>hkeep id b hl hb hk hst') hok
theorem Ext.idle{E:Env}{n:Nat}{r:Res}{wn:Nat->Prop}(hr:Ready E n r.news.length)(hk:r.kill=none)(hst:r.st=none)(hf:r.frz=[])(hn:r.news=[]):Ext E n r wn E:=by
 refine⟨λn0=>Evo.refl n0 E, ?_, ?_, ?_,hr.injO,hr.ltO,hr.hid, ?_, ?_,λ_ _ _ _ _ _=>rfl,λ_ _ _ _ _ h=>h⟩
 ·intro id;rw[hk,hn];simp;omega
 ·intro id;rw[hk,hn,hf];simp;omega
 ·intro id;rw[hn];simp;omega
 ·intro j ob h;rw[hn]at h;simp at h
 ·intro id ob h;rw[hst]at h;cases h
end Go.Sx
