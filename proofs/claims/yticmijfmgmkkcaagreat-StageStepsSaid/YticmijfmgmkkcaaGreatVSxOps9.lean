import Derived.Test.YticmijfmgmkkcaaGreatVSxOps8
set_option linter.unusedSimpArgs false
set_option linter.unusedVariables false
set_option maxRecDepth 100000
namespace Go.Sx
open Go.RowKit
section
variable {P:Program} {cx:Ctx} {E:Env} {a:Act} {e:Operand→AV} {H:List Ob} {n:Nat} {r:Res}
 {dst:Option Tmp} {ty:TypeId} {pos:String} {after:Array Go.Edge} {guard:Option (Nat × Bool)} {wn:Nat→Prop} {K:Act→World→Prop} {Q:Exit→Act→World→Prop} {ro:Option Nat}
theorem rowsGo_ok (hL:∀ id,E.A id→getOb H id≠.dead→E.L id) (hH:∀ id,E.L id→getOb H id≠.dead→OkOb E id (getOb H id)) {t:Ty} {ids':List Nat}:∀ (parts:List (Nat × Operand)) (i:Nat) (vs:Array Value) (xs:List t.den) (ids:List Nat),
 evOp.rowsGo H t e i parts=some (xs,ids)→(∀ p∈parts,RdA E (a.eval p.2) (e p.2))→(∀ id∈ids,id∈ids')→(i+xs.length) * t.size≤vs.size →
 ∃ us:Array Value,Instr.fill (fun i=>some (i * t.size,t.size)) vs (parts.map fun p=>(p.1,a.eval p.2))=some us∧us.size=vs.size∧(∀ j,j < i * t.size→us[j]?=vs[j]?) ∧
  ∀ (j:Nat) p,(flat t xs)[j]?=some p→∃ v,us[i * t.size+j]?=some v∧RdP E.w (FF E ids') v p
 | [],i,vs,xs,ids,h,_,_,_=>by
  simp only [evOp.rowsGo,Option.some.injEq,Prod.mk.injEq] at h
  obtain ⟨rfl,rfl⟩:=h
  exact ⟨vs,rfl,rfl,fun _ _=>rfl,fun j p hp=>by simp [flat] at hp⟩
 | (k,x) :: rest,i,vs,xs,ids,h,hp,hsub,hsz=>by
  simp only [evOp.rowsGo] at h
  split at h
  ·rename_i hik
   have hik':=Nat.eq_of_beq_eq_true hik
   subst hik'
   split at h
   ·rename_i cs hcs
    split at h
    ·rename_i ps ia hd
     split at h
     ·rename_i y ys ib hy hrest
      simp only [Option.some.injEq,Prod.mk.injEq] at h
      obtain ⟨rfl,rfl⟩:=h
      have hc:=cellsOf_ok (hp (i,x) (by simp)) hcs
      obtain ⟨g1,g2⟩:=downL_ok (ids':=ids') hL hH hc hd (fun id hid=>hsub id (by simp [hid]))
      have hle:=dec_le t ps y hy
      have hlen:(a.eval x).cells.toList.length=t.size:=by rw [g1,hle.get.1,enc_length]
      have hlen':(a.eval x).cells.size=t.size:=by simpa using hlen
      simp only [List.length_cons] at hsz
      have hroom:i * t.size+t.size≤vs.size:=by
       have:i * t.size+t.size=(i+1) * t.size:=by rw [Nat.add_mul,Nat.one_mul]
       rw [this]
       exact Nat.le_trans (Nat.mul_le_mul_right _ (by omega)) hsz
      have hfold:=foldl_set (i * t.size) (a.eval x).cells.toList 0 vs (by rw [hlen];omega)
      simp only [Nat.add_zero] at hfold
      generalize hvs':((a.eval x).cells.toList.zipIdx 0).foldl (fun cs (c,j)=>cs.setIfInBounds (i * t.size+j) c) vs=vs' at hfold
      have hsz':vs'.size=vs.size:=by
       have:=congrArg List.length hfold
       rw [splice_length (by simp [hlen'];omega)] at this
       simpa using this
      have hget:∀ j,vs'[j]?=if i * t.size≤j∧j < i * t.size+t.size then (a.eval x).cells.toList[j - i * t.size]? else vs[j]?:=by
       intro j
       have h1:vs'[j]?=vs'.toList[j]?:=by simp
       rw [h1,hfold,splice_get (by simp [hlen'];omega),hlen]
       simp
      obtain ⟨us,u1,u2,u3,u4⟩:=rowsGo_ok hL hH rest (i+1) vs' ys ib hrest (fun p hp'=>hp p (by simp [hp'])) (fun id hid=>hsub id (by simp [hid])) (by rw [hsz'];rw [show i+1+ys.length=i+(ys.length+1) by omega];exact hsz)
      refine ⟨us, ?_,u2.trans hsz',fun j hj=>?_,fun j p hp=>?_⟩
      ·simp only [List.map_cons,Instr.fill]
       rw [if_neg (by simp [hlen'];omega),← u1]
       congr 1
       rw [← hvs',← Array.foldl_toList]
       simp
      ·rw [u3 j (by rw [Nat.add_mul];omega),hget,if_neg (by omega)]
      ·have hflat:flat t (y :: ys)=enc t y++flat t ys:=by simp [flat]
       rw [hflat] at hp
       by_cases hj:j < t.size
       ·rw [List.getElem?_append_left (by rw [enc_length];exact hj)] at hp
        have hcell:(a.eval x).cells.toList[j]?=some ((a.eval x).cells.toList[j]'(by rw [hlen];exact hj)):=List.getElem?_eq_getElem (by rw [hlen];exact hj)
        refine ⟨(a.eval x).cells.toList[j]'(by rw [hlen];exact hj), ?_, ?_⟩
        ·rw [u3 _ (by rw [Nat.add_mul];omega),hget,if_pos (by omega),Nat.add_sub_cancel_left,hcell]
        ·have hpl:ps[j]?=some (ps[j]'(by rw [← g1,hlen];exact hj)):=List.getElem?_eq_getElem (by rw [← g1,hlen];exact hj)
         exact (g2 _ _ _ hcell hpl).2.le (hle.get.2 _ _ _ hpl hp)
       ·rw [List.getElem?_append_right (by rw [enc_length];omega),enc_length] at hp
        obtain ⟨v,h1,h2⟩:=u4 _ p hp
        refine ⟨v, ?_,h2⟩
        rw [← h1]
        congr 1
        rw [Nat.add_mul]
        omega
     ·cases h
    ·cases h
   ·cases h
  ·cases h
theorem s_buildSlice {t:TypeId} {len:Nat} {parts:Array (Nat × Operand)} (hr:Ready E n r.news.length) (hA:∃ N,∀ id,E.A id→id < N) (hL:∀ id,E.A id→getOb H id≠.dead→E.L id) (hH:∀ id,E.L id→getOb H id≠.dead→OkOb E id (getOb H id))
 (hx:∀ p∈parts.toList,RdA E (a.eval p.2) (e p.2))
 (h:evOp cx P e H n ⟨dst,.buildSlice t len parts,ty,pos,after,guard⟩=some r)
 (hK:∀ E' v,Ext E n r wn E'→OptP r.given→RdA E' v r.val→K (a.put dst v) E'.w):(⟨dst,.buildSlice t len parts,ty,pos,after,guard⟩ : Oper).wpI ro P a E.w K Q:=by
 simp only [evOp] at h
 split at h
 ·rename_i elem hu
  split at h
  ·rename_i t' z hlook hz
   split at h
   ·rename_i h0
    have h0':=Nat.eq_of_beq_eq_true h0
    subst h0'
    split at h
    ·rename_i hc
     simp only [Bool.and_eq_true,List.isEmpty_iff] at hc
     obtain ⟨hc,hsz⟩:=hc
     obtain ⟨info,hi,hs⟩:=sizeT_eq hsz (size_pos t')
     have hp:parts=#[]:=by apply Array.toList_inj.1;simpa using hc
     subst hp
     have hr0:=(Option.some.inj h).symm
     subst hr0
     have hst:Step E n (Res.pure .cap0) (E.w.alloc (.cells #[] elem)) (fun _=>none):=by
      refine ⟨(Below.refl _ _).alloc hr.B _,fun b hb _=>alloc_heap b hb, ?_, ?_, ?_, ?_⟩
      ·intro j h hj;simp at hj
      ·intro j j' h h' hj;simp at hj
      ·intro id hid;cases hid
      ·intro p hp;cases hp
     have hx:=hst.ext (wn:=wn) hr hA (fun _ j ob hj=>by simp at hj) (fun _ id ob h=>by cases h)
     refine wp_value (w':=E.w.alloc (.cells #[] elem)) (v:=.slice (some ⟨E.w.heap.size,0,none⟩) 0 0) ?_ (hK _ _ hx trivial (.cap0 _))
     simp [execOp,Instr.buildSlice,run_underlying hu,sizeOf,typeInfo,hi,Instr.fill,newRow,Array.range_zero']
    ·cases h
   ·rename_i hne
    split at h
    ·rename_i hc
     simp only [Bool.and_eq_true] at hc
     obtain ⟨info,hi,hs⟩:=sizeT_eq hc.1 (size_pos t')
     have hle:len * info.size≤1000:=by
      have:=Nat.le_of_ble_eq_true hc.2
      simpa [sizeT,hi] using this
     split at h
     ·rename_i xs ids hrows
      split at h
      ·rename_i hxl
       have hxl':xs.length=len:=Nat.eq_of_beq_eq_true hxl
       have hr0:=(Option.some.inj h).symm
       have hr':Ready E n 1:=by rw [hr0] at hr;exact hr
       have hlen0:len≠0:=fun e=>hne (by rw [e];rfl)
       have hbase:((Array.range (len * info.size)).map (z.cells[· % z.cells.size]!)).size=len * t'.size:=by simp [hs]
       obtain ⟨us,u1,u2,_,u4⟩:=rowsGo_ok (a:=a) (ids':=ids) hL hH parts.toList 0 _ xs ids hrows hx (fun _ h=>h) (by rw [hbase,hxl'];simp)
       have hne0:¬ (len * info.size=0):=by
        rw [hs]
        have:=size_pos t'
        intro h
        rcases Nat.mul_eq_zero.1 h with h | h <;> omega
       have e1:(parts.map fun (i,x)=>(i,a.eval x)).toList=parts.toList.map fun p=>(p.1,a.eval p.2):=by simp
       refine wp_value (w':=E.w.alloc (.cells us elem)) (v:=.slice (some ⟨E.w.heap.size,0,none⟩) len len) ?_ ?_
       ·simp only [execOp,Instr.buildSlice,Sem.run_bind,run_underlying hu,Result.andThen_ok]
        have hsr:(sizeOf elem).run P E.w=.ok info.size E.w:=by simp [sizeOf,typeInfo,hi]
        simp only [hsr,Result.andThen_ok,Sem.run_ite]
        rw [if_neg (by omega)]
        simp only [Sem.run_pure,Result.andThen_ok,hne0,if_false,Sem.run_bind,zeroT_run hz]
        simp only [hs] at u1 ⊢
        simp only [e1,u1]
        simp [newRow]
       ·have:=new_rows (a:=a) (dst:=dst) (arr:=us) (el:=elem) (t:=t') (xs:=xs) (cp:=len) (ids:=ids) (K:=K) (r:=r) (wn:=wn) hr' hA (by omega) (by simp [lim];have:=size_pos t';rw [hs] at hle;have:=Nat.mul_le_mul_left len this;omega)
         (by simp only [maxLen];have:=size_pos t';rw [hs] at hle;have:=Nat.mul_le_mul_left len this;omega) (by rw [u2,hbase];exact Nat.le_refl _) (fun j p hp=>by have:=u4 j p hp;simpa using this) hr0 hK
        rw [hxl'] at this
        exact this
      ·cases h
     ·cases h
    ·cases h
  ·cases h
 ·cases h
end
end Go.Sx
