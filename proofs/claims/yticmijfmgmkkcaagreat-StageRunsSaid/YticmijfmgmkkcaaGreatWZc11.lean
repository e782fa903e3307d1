import Derived.Test.YticmijfmgmkkcaaGreatWZc10
import Derived.Test.YticmijfmgmkkcaaGreatWSxGive
set_option linter.unusedSimpArgs false
set_option linter.unusedVariables false
set_option maxRecDepth 100000
namespace Go.Proofs.YticmijfmgmkkcaaGreat
open Go.Sx
def valC (a:List AK) (need:AK.dens a→Prop) (v:AK.dens a→AV) (gen:AK.dens a→(AV→Prop)→Prop):Ctr:=fun args =>
 match ofAVs a args with
 | some y=>some ⟨⟨some (need y),none,[],v y⟩,gen y⟩
 | none=>none
theorem good_val {P:Program} {g:FuncId} {a:List AK} {r:List (Bool × Ty)} {need0:AK.dens a→Prop} {f:AK.dens a→Rens r} (h:GoodC P g (fnC a r need0 f)) {need:AK.dens a→Prop} {v:AK.dens a→AV} {gen:AK.dens a→(AV→Prop)→Prop}
 (hv:∀ y,need y→need0 y∧resAV r (f y)=v y) (hg:∀ y k,gen y k→k (v y)):GoodC P g (valC a need v gen):=by
 refine ⟨h.1,fun args cg hC k hk=>?_,fun args cr gen' hC hn w F0 vs hF hsz hrd=>?_⟩
 ·unfold valC at hC
  split at hC
  ·cases hC
   exact hg _ k hk
  ·cases hC
 ·unfold valC at hC
  split at hC
  ·rename_i y hy
   cases hC
   obtain ⟨h1,h2⟩:=hv y hn
   have hC':fnC a r need0 f args=some ⟨⟨some (need0 y),none,[],resAV r (f y)⟩,if rich r then fun k=>∀ z,z=f y→k (resAV r z) else fun k=>k (resAV r (f y))⟩:=by
    unfold fnC
    rw [hy]
   have:=h.calls _ _ _ hC' h1 w F0 vs hF hsz hrd
   rw [h2] at this
   exact this
  ·cases hC
def oneOf:List Int→Option Int
 | [i]=>some i
 | _=>none
def hasOne (l:List Int):Bool:=(oneOf l).isSome
def ofOne:Option Int→Rens rIsI
 | some i=>([i],0,())
 | none=>([],0,())
def c31r:Ctr:=valC [dSt,dSS] (fun y=>(needF y.1 y.2.1).2=0∧((needF y.1 y.2.1).1=[]∨∃ i,(needF y.1 y.2.1).1=[i])) (fun y=>resAV rIsI (ofOne (oneOf (needF y.1 y.2.1).1)))
 (fun y k=>(hasOne (needF y.1 y.2.1).1=true→∀ i,oneOf (needF y.1 y.2.1).1=some i→k (resAV rIsI ([i],0,())))∧(hasOne (needF y.1 y.2.1).1=false→k (resAV rIsI ([],0,()))))
theorem good31r:GoodC Tryz.prog 31 c31r:=by
 refine good_val good31 (fun y hn=>⟨trivial, ?_⟩) (fun y k hk=>?_)
 ·obtain ⟨h1,h2 | ⟨i,h2⟩⟩:=hn
  ·show resAV rIsI ((needF y.1 y.2.1).1,(needF y.1 y.2.1).2,())=_
   rw [h1,h2];rfl
  ·show resAV rIsI ((needF y.1 y.2.1).1,(needF y.1 y.2.1).2,())=_
   rw [h1,h2];rfl
 ·cases ho:oneOf (needF y.1 y.2.1).1 with
  | some i=>exact hk.1 (by unfold hasOne;rw [ho];rfl) i ho
  | none=>exact hk.2 (by unfold hasOne;rw [ho];rfl)
def c30r:Ctr:=valC [dSt,dSS,dI,dI] (fun y=>(takeF y.1 y.2.1 y.2.2.1 y.2.2.2.1).2.2=0) (fun y=>resAV rTk ((takeF y.1 y.2.1 y.2.2.1 y.2.2.2.1).1,(takeF y.1 y.2.1 y.2.2.1 y.2.2.2.1).2.1,0,()))
 (fun y k=>∀ (h:List Int) (c:Int) (b:Bool) (o:List (List Int)),(h,c,b)=(takeF y.1 y.2.1 y.2.2.1 y.2.2.2.1).1→o=(takeF y.1 y.2.1 y.2.2.1 y.2.2.2.1).2.1→k (resAV rTk ((h,c,b),o,0,())))
theorem good30r:GoodC Tryz.prog 30 c30r:=by
 refine good_val good30 (fun y hn=>⟨trivial, ?_⟩) (fun y k hk=>hk _ _ _ _ rfl rfl)
 show resAV rTk ((takeF y.1 y.2.1 y.2.2.1 y.2.2.2.1).1,(takeF y.1 y.2.1 y.2.2.1 y.2.2.2.1).2.1,(takeF y.1 y.2.1 y.2.2.1 y.2.2.2.1).2.2,())=_
 rw [show (takeF y.1 y.2.1 y.2.2.1 y.2.2.2.1).2.2=0 from hn]
def c32r:Ctr:=valC [dSt,dSS,dI] (fun y=>(endG y.1 y.2.1 y.2.2.1).2.2.2=0) (fun y=>resAV rEn ((endG y.1 y.2.1 y.2.2.1).1,(endG y.1 y.2.1 y.2.2.1).2.1,(endG y.1 y.2.1 y.2.2.1).2.2.1,0,()))
 (fun y k=>∀ (h:List Int) (c:Int) (b:Bool) (o:List (List Int)) (q:Bool),(h,c,b)=(endG y.1 y.2.1 y.2.2.1).1→o=(endG y.1 y.2.1 y.2.2.1).2.1→q=(endG y.1 y.2.1 y.2.2.1).2.2.1→k (resAV rEn ((h,c,b),o,q,0,())))
theorem good32r:GoodC Tryz.prog 32 c32r:=by
 refine good_val good32 (fun y hn=>⟨trivial, ?_⟩) (fun y k hk=>hk _ _ _ _ _ rfl rfl rfl)
 show resAV rEn ((endG y.1 y.2.1 y.2.2.1).1,(endG y.1 y.2.1 y.2.2.1).2.1,(endG y.1 y.2.1 y.2.2.1).2.2.1,(endG y.1 y.2.1 y.2.2.1).2.2.2,())=_
 rw [show (endG y.1 y.2.1 y.2.2.1).2.2.2=0 from hn]
def out3 (x:StT):Int:=if stOut x=1 then 1 else if stOut x=2 then 2 else 0
def c21r:Ctr:=valC [dSt] (fun y=>stOut y.1=0∨stOut y.1=1∨stOut y.1=2) (fun y=>.int .i64 (out3 y.1))
 (fun y k=>(decide (stOut y.1=1)=true→k (.int .i64 1))∧(decide (stOut y.1=1)=false→(decide (stOut y.1=2)=true→k (.int .i64 2))∧(decide (stOut y.1=2)=false→k (.int .i64 0))))
theorem good21r:GoodC Tryz.prog 21 c21r:=by
 refine good_val good21 (fun y hn=>⟨trivial, ?_⟩) (fun y k hk=>?_)
 ·show resAV rI (stOut y.1,())=AV.int .i64 (out3 y.1)
  have h:out3 y.1=stOut y.1:=by
   unfold out3
   rcases hn with h | h | h <;> rw [h] <;> rfl
  rw [h];rfl
 ·show k (.int .i64 (out3 y.1))
  unfold out3
  by_cases h1:stOut y.1=1
  ·rw [if_pos h1];exact hk.1 (decide_eq_true h1)
  ·rw [if_neg h1]
   by_cases h2:stOut y.1=2
   ·rw [if_pos h2];exact (hk.2 (decide_eq_false h1)).1 (decide_eq_true h2)
   ·rw [if_neg h2];exact (hk.2 (decide_eq_false h1)).2 (decide_eq_false h2)
def tysR:List (TypeId × Ty):=(3000025,tI) :: (28,tIss) :: tys0
def cxQ8:Ctx:=⟨tysR,[(11,([],c11)),(12,([],c12)),(13,([],c13)),(14,([],c14)),(21,([],c21r)),(30,([],c30r)),(31,([],c31r)),(32,([],c32r))]⟩
theorem cxQ8_good:GoodCtx Tryz.prog cxQ8:=cx_ty (cx_cons good11 (cx_cons good12 (cx_cons good13 (cx_cons good14 (cx_cons good21r (cx_cons good30r (cx_cons good31r (cx_cons good32r cx0_good))))))))
theorem mean_err {x:StT} {ins:List (List Int)} (h:(meanF x ins).2≠0):(meanF x ins).1=[]:=by
 unfold meanF at h ⊢
 split
 ·rfl
 ·split
  ·rfl
  ·split
   ·rfl
   ·split
    ·rfl
    ·split
     ·rfl
     ·rename_i h1 h2 h3 h4 h5
      rw [if_neg h1,if_neg h2,if_neg h3,if_neg h4,if_neg h5] at h
      exact absurd rfl h
end Go.Proofs.YticmijfmgmkkcaaGreat
