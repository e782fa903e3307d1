import Derived.Test.YticmijfmgmkkcaaGreatVSxDrawA
set_option linter.unusedSimpArgs false
set_option linter.unusedVariables false
set_option maxRecDepth 100000
namespace Go.Sx
open Go.RowKit
section
variable {P:Program} {cx:Ctx} {e:Operand→AV} {H:List Ob} {n:Nat} {r:Res}
def RecLive (H:List Ob) (rec:AV→Option (FnT × List Nat)):Prop:=∀ x T l,rec x=some (T,l)→∀ id∈l,getOb H id≠.dead
theorem downFs_live {rec:AV→Option (FnT × List Nat)} (hrec:RecLive H rec):∀ (ys:List AV) (cs:List FnT) (ids:List Nat),downFs H rec ys=some (cs,ids)→∀ id∈ids,getOb H id≠.dead
 | [],_,_,h=>by cases h;intro id hid;simp at hid
 | y :: ys,cs,ids,h=>by
  unfold downFs at h
  split at h
  ·rename_i heq;cases heq
  ·rename_i c0 l heq
   cases heq
   split at h
   ·rename_i cs' ids1 h1
    cases h
    exact downFs_live hrec _ _ _ h1
   ·cases h
  ·rename_i i off l heq
   cases heq
   split at h
   ·rename_i xs hob
    split at h
    ·split at h
     ·rename_i c1 i1 cs' i2 h1 h2
      cases h
      intro id hid
      rcases List.mem_cons.1 hid with rfl | hid
      ·rw [hob];simp
      ·rcases List.mem_append.1 hid with hid | hid
       ·exact hrec _ _ _ h1 id hid
       ·exact downFs_live hrec _ _ _ h2 id hid
     ·cases h
    ·cases h
   ·cases h
  ·cases h
theorem downFw_live {rec:AV→Option (FnT × List Nat)} (hrec:RecLive H rec):RecLive H (downFw H rec):=by
 intro x T l h
 unfold downFw at h
 split at h
 ·cases h;intro id hid;simp at hid
 ·split at h
  ·rename_i cs ids hd
   cases h
   exact downFs_live hrec _ _ _ hd
  ·cases h
 ·cases h
theorem downF_live:RecLive H (downF H):=downFw_live (downFw_live (downFw_live fun x T l h=>by cases h))
theorem down_live {x:AV} {p:PV} {ids:List Nat} (h:down H x=some (p,ids)):∀ id∈ids,getOb H id≠.dead:=by
 unfold down at h
 split at h
 ·split at h
  ·rename_i T l hT
   cases h
   exact downF_live _ _ _ hT
  ·cases h
 all_goals repeat' split at h
 all_goals first
  | cases h;done
  | (cases h;intro id hid;simp at hid;done)
  | (cases h;intro id hid;simp only [List.mem_singleton] at hid;subst hid;simp [*])
theorem downL_live:∀ {l:List AV} {ps:List PV} {ids:List Nat},downL H l=some (ps,ids)→∀ id∈ids,getOb H id≠.dead
 | [],ps,ids,h=>by cases h;intro id hid;simp at hid
 | x :: l,ps,ids,h=>by
  simp only [downL] at h
  split at h
  ·rename_i h1 h2
   cases h
   intro id hid
   rcases List.mem_append.1 hid with hid | hid
   ·exact down_live h1 id hid
   ·exact downL_live h2 id hid
  ·cases h
mutual
theorem lower_live:∀ (x:AV) {y:AV} {ids:List Nat},lowerArg H x=some (y,ids)→∀ id∈ids,getOb H id≠.dead
 | .own i,y,ids,h=>by
  simp only [lowerArg,Option.map_eq_some_iff,Prod.mk.injEq,Prod.exists] at h
  obtain ⟨p,l,h2,_,rfl⟩:=h
  exact down_live h2
 | .ownp i k lo len,y,ids,h=>by
  simp only [lowerArg,Option.map_eq_some_iff,Prod.mk.injEq,Prod.exists] at h
  obtain ⟨p,l,h2,_,rfl⟩:=h
  exact down_live h2
 | .ownc i k lo len,y,ids,h=>by
  simp only [lowerArg,Option.map_eq_some_iff,Prod.mk.injEq,Prod.exists] at h
  obtain ⟨p,l,h2,_,rfl⟩:=h
  exact down_live h2
 | .slf _ _,_,_,h=>by simp only [lowerArg,Option.some.injEq,Prod.mk.injEq] at h;obtain ⟨_,rfl⟩:=h;simp
 | .csl t i m,y,ids,h=>by
  simp only [lowerArg] at h
  split at h
  ·rename_i cs hob
   split at h
   ·split at h
    ·rename_i ps l hd
     split at h
     ·cases h
      intro id hid
      rcases List.mem_cons.1 hid with rfl | hid
      ·rw [hob];simp
      ·exact downL_live hd id hid
     ·cases h
    ·cases h
   ·cases h
  ·cases h
 | .yld _,_,_,h=>by simp [lowerArg] at h
 | .dmp _,_,_,h=>by simp [lowerArg] at h
 | .rnd _,_,_,h=>by simp [lowerArg] at h
 | .grow _ _,_,_,h=>by simp [lowerArg] at h
 | .gptr _ _ _,_,_,h=>by simp [lowerArg] at h
 | .ptr i off,y,ids,h=>by
  simp only [lowerArg] at h
  split at h
  ·rename_i cs hob
   split at h
   ·rename_i ps l hd
    cases h
    intro id hid
    rcases List.mem_cons.1 hid with rfl | hid
    ·rw [hob];simp
    ·exact downL_live hd id hid
   ·cases h
  ·cases h
 | .rptr i k row off,y,ids,h=>by
  simp only [lowerArg] at h
  repeat' split at h
  all_goals first
   | cases h;done
   | (cases h;intro id hid;simp only [List.mem_singleton] at hid;subst hid;simp [*])
 | .agg cs,y,ids,h=>by
  simp only [lowerArg] at h
  split at h
  ·rename_i hl;cases h;exact lowers_live cs hl
  ·cases h
 | .fn f a b,y,ids,h=>by
  simp only [lowerArg] at h
  split at h
  ·rename_i h1 h2
   cases h
   intro id hid
   rcases List.mem_append.1 hid with hid | hid
   ·exact lowers_live a h1 id hid
   ·exact lowers_live b h2 id hid
  ·cases h
 | .tup _,_,_,h=>by simp [lowerArg] at h
 | .when _ _ _ _,_,_,h=>by simp [lowerArg] at h
 | .any,_,_,h=>by simp [lowerArg] at h
 | .int _ _,_,_,h=>by simp only [lowerArg,Option.some.injEq,Prod.mk.injEq] at h;obtain ⟨_,rfl⟩:=h;simp
 | .bool _,_,_,h=>by simp only [lowerArg,Option.some.injEq,Prod.mk.injEq] at h;obtain ⟨_,rfl⟩:=h;simp
 | .str _,_,_,h=>by simp only [lowerArg,Option.some.injEq,Prod.mk.injEq] at h;obtain ⟨_,rfl⟩:=h;simp
 | .val _,_,_,h=>by simp only [lowerArg,Option.some.injEq,Prod.mk.injEq] at h;obtain ⟨_,rfl⟩:=h;simp
 | .nils,_,_,h=>by simp only [lowerArg,Option.some.injEq,Prod.mk.injEq] at h;obtain ⟨_,rfl⟩:=h;simp
 | .cap0,_,_,h=>by simp only [lowerArg,Option.some.injEq,Prod.mk.injEq] at h;obtain ⟨_,rfl⟩:=h;simp
 | .sl _ _,_,_,h=>by simp only [lowerArg,Option.some.injEq,Prod.mk.injEq] at h;obtain ⟨_,rfl⟩:=h;simp
 | .eptr _,_,_,h=>by simp only [lowerArg,Option.some.injEq,Prod.mk.injEq] at h;obtain ⟨_,rfl⟩:=h;simp
theorem lowers_live:∀ (l:List AV) {ys:List AV} {ids:List Nat},lowerArgs H l=some (ys,ids)→∀ id∈ids,getOb H id≠.dead
 | [],_,_,h=>by cases h;simp
 | x :: l,ys,ids,h=>by
  simp only [lowerArgs] at h
  split at h
  ·rename_i h1 h2
   cases h
   intro id hid
   rcases List.mem_append.1 hid with hid | hid
   ·exact lower_live x h1 id hid
   ·exact lowers_live l h2 id hid
  ·cases h
end
theorem callC_live {g:FuncId} {args:List AV} (h:callC cx H n g args=some r):∀ id∈r.frz,getOb H id≠.dead:=by
 unfold callC at h
 split at h
 ·cases h
 ·split at h
  ·cases h
  ·rename_i hlow
   repeat' split at h
   all_goals first
    | cases h;done
    | (cases h;simp;done)
    | (cases h;exact lowers_live _ hlow)
theorem rowsGo_live {t:Ty}:∀ (parts:List (Nat × Operand)) (i:Nat) (xs:List t.den) (ids:List Nat),evOp.rowsGo H t e i parts=some (xs,ids)→∀ id∈ids,getOb H id≠.dead
 | [],_,_,_,h=>by cases h;simp
 | (j,x) :: rest,i,xs,ids,h=>by
  simp only [evOp.rowsGo] at h
  split at h
  ·split at h
   ·split at h
    ·rename_i hd
     split at h
     ·rename_i h1 h2
      cases h
      intro id hid
      rcases List.mem_append.1 hid with hid | hid
      ·exact downL_live hd id hid
      ·exact rowsGo_live rest _ _ _ h2 id hid
     ·cases h
    ·cases h
   ·cases h
  ·cases h
theorem append_live {elem:TypeId} {x y:AV} (h:appendV P H n elem x y=some r):∀ id∈r.frz,getOb H id≠.dead:=by
 unfold appendV at h
 split at h
 ·unfold appendP at h
  repeat' split at h
  all_goals first
   | cases h;done
   | (cases h;simp;done)
 split at h
 ·unfold appendC at h
  repeat' split at h
  all_goals first
   | cases h;done
   | (cases h;simp;done)
 ·unfold appendF at h
  repeat' split at h
  all_goals first
   | cases h;done
   | (cases h;simp;done)
 ·unfold appendV0 at h
  repeat' split at h
  all_goals first
   | cases h;done
   | (cases h;simp;done)
theorem evOp_live {o:Oper} (h:evOp cx P e H n o=some r):∀ id∈r.frz,getOb H id≠.dead:=by
 obtain ⟨dst,op,ty,pos,after,guard⟩:=o
 cases op with
 | buildSlice t len parts =>
  simp only [evOp] at h
  repeat' split at h
  all_goals first
   | cases h;done
   | (cases h;simp;done)
   | (cases h;exact rowsGo_live _ _ _ _ ‹_›)
 | store t p x =>
  simp only [evOp] at h
  repeat' split at h
  all_goals first
   | cases h;done
   | (cases h;simp;done)
   | (cases h;exact downL_live ‹_›)
 | makeMap t hint =>
  cases hint with
  | none=>cases h;simp
  | some x=>simp [evOp] at h
 | call c =>
  obtain ⟨callee,args,ts⟩:=c
  cases callee with
  | value f =>
   simp only [evOp] at h
   split at h
   ·exact callC_live h
   ·cases h
  | invoke _ _=>simp [evOp] at h
  | builtin b =>
   cases b with
   | append =>
    simp only [evOp] at h
    repeat' split at h
    all_goals first
     | cases h;done
     | exact append_live h
     | (unfold appendZ at h
        repeat' split at h
        all_goals first | (cases h;simp;done) | (cases h;done))
   | _ =>
    simp only [evOp] at h
    repeat' split at h
    all_goals first
     | cases h;done
     | (cases h;simp;done)
 | binOp op t x y u =>
  simp only [evOp] at h
  repeat' split at h
  all_goals first
   | cases h;done
   | (unfold arith at h;split at h <;> first | (cases h;simp;done) | (cases h;done))
   | (cases h;simp;done)
   | (unfold strOp at h;split at h <;> first | (cases h;simp;done) | (cases h;done))
 | pick c x y =>
  simp only [evOp] at h
  repeat' split at h
  all_goals first
   | cases h;done
   | (unfold pickV at h;repeat' split at h)
  all_goals first | (cases h;simp;done) | (cases h;done)
 | load t x =>
  simp only [evOp] at h
  repeat' split at h
  all_goals first
   | cases h;done
   | (cases h;simp;done)
   | (simp only [Option.map_eq_some_iff] at h;obtain ⟨v,_,rfl⟩:=h;simp;done)
 | field t x f =>
  simp only [evOp] at h
  repeat' split at h
  all_goals first
   | cases h;done
   | (simp only [Option.map_eq_some_iff] at h;obtain ⟨v,_,rfl⟩:=h;simp;done)
 | _ =>
  simp only [evOp] at h
  repeat' split at h
  all_goals first
   | cases h;done
   | (cases h;simp;done)
theorem evOp_silent {o:Oper} (hs:silent o.op=true) (H':List Ob) (n':Nat):evOp cx P e H n o=evOp cx P e H' n' o:=by
 obtain ⟨dst,op,ty,pos,after,guard⟩:=o
 cases op <;> first | rfl | (simp [silent] at hs)
theorem evOp_quiet {o:Oper} (hs:silent o.op=true) (h:evOp cx P e H n o=some r):r.news=[]∧r.frz=[]:=by
 obtain ⟨dst,op,ty,pos,after,guard⟩:=o
 cases op <;> simp only [silent,Bool.false_eq_true] at hs <;> simp only [evOp] at h
 all_goals repeat' split at h
 all_goals first
  | cases h;done
  | (cases h;exact ⟨rfl,rfl⟩)
  | (simp only [Option.map_eq_some_iff] at h;obtain ⟨v,_,rfl⟩:=h;exact ⟨rfl,rfl⟩)
  | (unfold arith at h;split at h <;> first | (cases h;exact ⟨rfl,rfl⟩) | (cases h;done))
  | (unfold strOp at h;split at h <;> first | (cases h;exact ⟨rfl,rfl⟩) | (cases h;done))
  | (unfold pickV at h;repeat' split at h)
 all_goals first | (cases h;exact ⟨rfl,rfl⟩) | (cases h;done)
end
section
variable {P:Program} {cx:Ctx} {ops:List Oper} {o:Oper} {sl:List AV} {H:List Ob} {n:Nat} {r:Res} {dr:Bool}
theorem opRes_live (h:opRes cx P dr ops o sl H n=some r):∀ id∈r.frz,getOb H id≠.dead:=by
 unfold opRes at h
 split at h
 ·split at h
  ·rename_i hev
   cases h
   have:=evOp_live hev
   exact this
  ·cases h
 ·repeat' split at h
  all_goals first
   | cases h;done
   | (cases h;simp;done)
theorem opRes_silent (hs:silent o.op=true) (h:opRes cx P dr ops o sl H n=some r):opRes cx P dr ops o sl [] n=some r∧r.news=[]∧r.frz=[]∧r.kill=none∧r.st=none:=by
 unfold opRes at h ⊢
 split at h
 ·rw [evOp_silent hs [] n] at h
  split at h
  ·rename_i q g v news kill st frz hev
   cases h
   obtain ⟨h1,h2⟩:=evOp_quiet hs hev
   have ht:=evOp_turns hev
   refine ⟨rfl,h1,h2, ?_, ?_⟩
   ·cases kill with
    | none=>rfl
    | some id =>
     obtain ⟨_,t,xs,hob⟩:=ht.1 id rfl
     exact absurd hob (by rw [show getOb [] id=Ob.dead from getN_ge _ (by simp)];simp)
   ·cases st with
    | none=>rfl
    | some p =>
     have:=(ht.2 p rfl).2
     rw [show getOb [] p.1=Ob.dead from getN_ge _ (by simp)] at this
     exact this.elim
  ·cases h
 ·split at h
  ·cases h
  ·rename_i s hgs
   split at h
   ·cases h
   ·rename_i c hc
    rw [evOp_silent hs [] n] at h
    have hr:r.news=[]∧r.frz=[]∧r.kill=none∧r.st=none:=by
     repeat' split at h
     all_goals first
      | cases h;done
      | (cases h;exact ⟨rfl,rfl,rfl,rfl⟩)
    exact ⟨h,hr⟩
end
end Go.Sx
