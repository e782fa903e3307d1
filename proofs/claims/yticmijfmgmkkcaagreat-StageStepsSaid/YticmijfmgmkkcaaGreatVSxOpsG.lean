import Derived.Test.YticmijfmgmkkcaaGreatVSxOpsF
set_option linter.unusedSimpArgs false
set_option linter.unusedVariables false
set_option maxRecDepth 100000
namespace Go.Sx
open Go.RowKit
def Ob.wr:Ob→Prop
 | .cells _=>True
 | .rows _ _=>True
 | .fmap _=>True
 | .grid _ _ _=>True
 | .loop _ _ _ _ _ _=>True
 | _=>False
def names (id:Nat):AV→Prop
 | .own i=>i=id
 | .ptr i _=>i=id
 | .rptr i _ _ _=>i=id
 | .ownp i _ _ _=>i=id
 | .mp i=>i=id
 | .gptr i _ _=>i=id
 | .grow i _=>i=id
 | .ownc i _ _ _=>i=id
 | _=>False
section
variable {P:Program} {cx:Ctx} {e:Operand→AV} {H:List Ob} {n:Nat} {r:Res}
def calm (r:Res):Prop:=r.kill=none∧r.st=none
theorem calm_arith {op:BinOp} {k:IntKind} {p q:Int} (h:arith op k p q=some r):calm r:=by
 unfold arith at h
 split at h <;> first | (cases h;exact ⟨rfl,rfl⟩) | cases h
theorem calm_pick {q:Bool} {x y:AV} (h:pickV q x y=some r):calm r:=by
 unfold pickV at h
 repeat' split at h
 all_goals first | (cases h;exact ⟨rfl,rfl⟩) | cases h
theorem calm_map {o:Option AV} (h:o.map Res.pure=some r):calm r:=by
 simp only [Option.map_eq_some_iff] at h
 obtain ⟨v,_,rfl⟩:=h
 exact ⟨rfl,rfl⟩
theorem calm_callC {g:FuncId} {args:List AV} (h:callC cx H n g args=some r):calm r:=by
 unfold callC at h
 repeat' split at h
 all_goals first | (cases h;exact ⟨rfl,rfl⟩) | cases h
theorem append_wr {elem:TypeId} {x y:AV} (h:appendV P H n elem x y=some r):(∀ p,r.st=some p→names p.1 x∧(getOb H p.1).wr)∧∀ id,r.kill=some id→names id x∧∃ t xs,getOb H id=.rows t xs:=by
 unfold appendV at h
 split at h
 ·unfold appendP at h
  repeat' split at h
  all_goals first
   | cases h;done
   | (cases h;refine ⟨fun p hp=>?_,fun id hid=>(by cases hid)⟩;cases hp;exact ⟨rfl,by simp [*,Ob.wr]⟩)
 split at h
 ·unfold appendC at h
  repeat' split at h
  all_goals first
   | cases h;done
   | (cases h;refine ⟨fun p hp=>?_,fun id hid=>(by cases hid)⟩;cases hp;exact ⟨rfl,by simp [*,Ob.wr]⟩)
 ·unfold appendF at h
  repeat' split at h
  all_goals first
   | cases h;done
   | (cases h;exact ⟨fun p hp=>(by cases hp),fun id hid=>(by cases hid)⟩)
 ·unfold appendV0 at h
  repeat' split at h
  all_goals first
   | cases h;done
   | (cases h;refine ⟨fun p hp=>(by cases hp),fun id hid=>?_⟩;cases hid;done)
   | (cases h;refine ⟨fun p hp=>(by cases hp),fun id hid=>?_⟩;cases hid;exact ⟨rfl,_,_,‹_›⟩)
def Turns (o:Oper) (e:Operand→AV) (H:List Ob) (r:Res):Prop :=
 (∀ id,r.kill=some id→(∃ x∈o.op.operands.toList,names id (e x))∧∃ t xs,getOb H id=.rows t xs) ∧
   ∀ p,r.st=some p→(∃ x∈o.op.operands.toList,names p.1 (e x))∧(getOb H p.1).wr
theorem calm.turns {o:Oper} (h:calm r):Turns o e H r :=
 ⟨fun id hid=>(by rw [h.1] at hid;cases hid),fun p hp=>(by rw [h.2] at hp;cases hp)⟩
theorem partRow_names {x:AV} {id:Nat} {ob:Ob} (h:partRow H x=some (id,ob)):names id x∧∃ t xs,getOb H id=.rows t xs:=by
 unfold partRow at h
 split at h
 ·split at h
  ·rename_i hob
   split at h
   ·cases h
    exact ⟨rfl,_,_,hob⟩
   ·cases h
  ·cases h
 ·cases h
theorem evOp_turns {o:Oper} (h:evOp cx P e H n o=some r):Turns o e H r:=by
 obtain ⟨dst,op,ty,pos,after,guard⟩:=o
 cases op with
 | store t p x =>
  simp only [evOp] at h
  split at h
  ·cases h
  ·split at h
   ·split at h
    ·cases h
    ·split at h
     ·rename_i id off hp
      split at h
      ·rename_i cs hob
       split at h
       ·split at h
        ·rename_i id2 ob hpr
         cases h
         obtain ⟨hn2,hob2⟩:=partRow_names hpr
         refine ⟨fun id hid=>?_,fun q hq=>?_⟩
         ·cases hid
          exact ⟨⟨x,by simp [Op.operands],hn2⟩,hob2⟩
         ·cases hq
          exact ⟨⟨p,by simp [Op.operands],by rw [hp];rfl⟩,by rw [hob];trivial⟩
        ·cases h
         refine ⟨fun id hid=>(by cases hid),fun q hq=>?_⟩
         cases hq
         exact ⟨⟨p,by simp [Op.operands],by rw [hp];rfl⟩,by rw [hob];trivial⟩
       ·cases h
      ·cases h
     ·rename_i id k row off hp
      split at h
      ·rename_i t' xs hob
       repeat' split at h
       all_goals first
        | cases h;done
        | (cases h
           refine ⟨fun id hid=>(by cases hid),fun q hq=>?_⟩
           cases hq
           exact ⟨⟨p,by simp [Op.operands],by rw [hp];rfl⟩,by rw [hob];trivial⟩)
      ·rename_i gt m xss hob
       split at h
       ·split at h
        ·rename_i j hvx
         split at h
         ·rename_i t' xs hobj
          split at h
          ·cases h
           refine ⟨fun id hid=>?_,fun q hq=>?_⟩
           ·cases hid
            exact ⟨⟨x,by simp [Op.operands],by rw [hvx];rfl⟩,_,_,hobj⟩
           ·cases hq
            exact ⟨⟨p,by simp [Op.operands],by rw [hp];rfl⟩,by rw [hob];trivial⟩
          ·cases h
         ·cases h
        ·cases h
       ·cases h
      ·cases h
     ·rename_i id gi gj hp
      split at h
      ·rename_i gt m xss hob
       repeat' split at h
       all_goals first
        | cases h;done
        | (cases h
           refine ⟨fun id hid=>(by cases hid),fun q hq=>?_⟩
           cases hq
           exact ⟨⟨p,by simp [Op.operands],by rw [hp];rfl⟩,by rw [hob];trivial⟩)
      ·cases h
     ·cases h
   ·cases h
 | makeMap t hint =>
  cases hint with
  | none=>cases h;exact calm.turns ⟨rfl,rfl⟩
  | some x=>simp [evOp] at h
 | insert t m k x =>
  simp only [evOp] at h
  repeat' split at h
  all_goals first
   | cases h;done
   | (cases h
      refine ⟨fun id hid=>(by cases hid),fun q hq=>?_⟩
      cases hq
      exact ⟨⟨m,by simp [Op.operands],by simp [*,names]⟩,by simp [*,Ob.wr]⟩)
 | call c =>
  obtain ⟨callee,args,ts⟩:=c
  cases callee with
  | value f =>
   simp only [evOp] at h
   split at h
   ·exact (calm_callC h).turns
   ·cases h
  | invoke _ _=>simp [evOp] at h
  | builtin b =>
   cases b with
   | append =>
    simp only [evOp] at h
    split at h
    ·rename_i dv sv t t' hargs hts
     obtain ⟨x,y,rfl,hx,rfl⟩:=toList_two hargs
     split at h
     ·split at h
      ·obtain ⟨g1,g2⟩:=append_wr h
       refine ⟨fun id hid=>?_,fun p hp=>⟨⟨x,by simp [Op.operands,Call.operands],by rw [hx];exact (g1 p hp).1⟩,(g1 p hp).2⟩⟩
       obtain ⟨g3,g4⟩:=g2 id hid
       exact ⟨⟨x,by simp [Op.operands,Call.operands],by rw [hx];exact g3⟩,g4⟩
      ·cases h
     ·unfold appendZ at h
      repeat' split at h
      all_goals first
       | cases h;done
       | (cases h;exact calm.turns ⟨rfl,rfl⟩)
    ·cases h
   | copy =>
    simp only [evOp] at h
    split at h
    ·rename_i id sv t t' hargs hts
     obtain ⟨x,y,rfl,hx,rfl⟩:=toList_two hargs
     repeat' split at h
     all_goals first
      | cases h;done
      | (cases h
         refine ⟨fun id hid=>(by cases hid),fun q hq=>?_⟩
         cases hq
         exact ⟨⟨x,by simp [Op.operands,Call.operands],by rw [hx];rfl⟩,by simp [*,Ob.wr]⟩)
    ·cases h
   | clear =>
    simp only [evOp] at h
    split at h
    ·rename_i id k lo len t hargs hts
     obtain ⟨x,rfl,hx⟩:=toList_one hargs
     repeat' split at h
     all_goals first
      | cases h;done
      | (cases h
         refine ⟨fun id hid=>(by cases hid),fun q hq=>?_⟩
         cases hq
         exact ⟨⟨x,by simp [Op.operands,Call.operands],by rw [hx];rfl⟩,by simp [*,Ob.wr]⟩)
    ·cases h
   | _ =>
    simp only [evOp] at h
    repeat' split at h
    all_goals first
     | cases h;done
     | (cases h;exact calm.turns ⟨rfl,rfl⟩)
 | binOp op t x y u =>
  simp only [evOp] at h
  repeat' split at h
  all_goals first
   | cases h;done
   | exact (calm_arith h).turns
   | (cases h;exact calm.turns ⟨rfl,rfl⟩)
   | (unfold strOp at h
      split at h <;> first
       | (cases h;exact calm.turns ⟨rfl,rfl⟩)
       | cases h)
 | pick c x y =>
  simp only [evOp] at h
  repeat' split at h
  all_goals first
   | cases h;done
   | exact (calm_pick h).turns
 | load t x =>
  simp only [evOp] at h
  repeat' split at h
  all_goals first
   | cases h;done
   | exact (calm_map h).turns
   | (cases h;exact calm.turns ⟨rfl,rfl⟩)
 | field t x f =>
  simp only [evOp] at h
  repeat' split at h
  all_goals first
   | cases h;done
   | exact (calm_map h).turns
 | _ =>
  simp only [evOp] at h
  repeat' split at h
  all_goals first
   | cases h;done
   | (cases h;exact calm.turns ⟨rfl,rfl⟩)
end
end Go.Sx
