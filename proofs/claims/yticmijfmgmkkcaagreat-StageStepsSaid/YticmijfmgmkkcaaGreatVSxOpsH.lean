import Derived.Test.YticmijfmgmkkcaaGreatVSxOpsG
set_option linter.unusedSimpArgs false
set_option linter.unusedVariables false
set_option maxRecDepth 100000
namespace Go.Sx
open Go.RowKit
def WhenStat (sl:List AV):Prop:=∀ (t:Nat) c s w v,sl[t]?=some (.when c s w v)→condOf sl s w=some c∧∀ c' s' w' v',v≠.when c' s' w' v'
structure StPre (P:Program) (cx:Ctx) (E:Env) (a:Act) (dr:Bool) (ops:List Oper) (o:Oper) (sl:List AV) (H:List Ob) (n:Nat) (r:Res):Prop where
 cx:GoodCtx P cx
 ready:∀ m,(dr=false∨m≤r.news.length)→Ready E n m
 fin:∃ N,∀ id,E.A id→id < N
 live:∀ id,E.A id→getOb H id≠.dead→E.L id
 ok:∀ id,E.L id→getOb H id≠.dead→OkOb E id (getOb H id)
 wr:∀ id,(r.kill=some id∨∃ ob,r.st=some (id,ob))→E.A id→(getOb H id).wr→E.W id
 rd:∀ t∈opLooks ops o,RdA E (a.eval (.tmp t)) (getN .any sl t)
 stat:WhenStat sl
 need:OptP r.need
section
variable {P:Program} {cx:Ctx} {E:Env} {a:Act} {dr:Bool} {ops:List Oper} {opsA:Array Oper} {o:Oper} {sl:List AV} {H:List Ob} {n:Nat} {r:Res}
 {wn:Nat→Prop} {K:Act→World→Prop} {Q:Exit→Act→World→Prop} {ro:Option Nat}
theorem ev_rd (hrd:∀ t,Operand.tmp t∈o.op.operands.toList→RdA E (a.eval (.tmp t)) (getN .any sl t)):∀ x∈o.op.operands.toList,RdA E (a.eval x) (ev sl x):=by
 intro x hx
 cases x with
 | tmp t=>exact hrd t hx
 | const v=>exact ofConst_ok v
 | global g=>exact .any _
 | func f=>exact .fn _ _ _ _ _ rfl rfl (fun i v x hv _=>by simp at hv) (fun i v x hv _=>by simp at hv)
theorem looks_mem {t:Nat} (h:Operand.tmp t∈o.op.operands.toList):t∈opLooks ops o:=by
 unfold opLooks
 refine List.mem_append_left _ (List.mem_filterMap.2 ⟨_,h,rfl⟩)
theorem ev_when {x:Operand} {c:Prop} {s:Nat} {w:Bool} {v:AV} (h:ev sl x=.when c s w v):∃ t,x=.tmp t∧sl[t]?=some (.when c s w v):=by
 cases x with
 | tmp t =>
  refine ⟨t,rfl, ?_⟩
  simp only [ev,getN_eq] at h
  cases hg:sl[t]? with
  | none=>rw [hg] at h;cases h
  | some y=>rw [hg] at h;simp only [Option.getD_some] at h;rw [h]
 | const v =>
  simp only [ev] at h
  cases v with
  | agg cs =>
   simp only [ofConst] at h
   split at h <;> cases h
  | slice b l c =>
   simp only [ofConst,ofCell] at h
   split at h <;> cases h
  | _=>cases h
 | global g=>cases h
 | func f=>cases h
theorem condOf_ok {s:Nat} {w:Bool} {c:Prop} (h:condOf sl s w=some c) (hs:RdA E (a.eval (.tmp s)) (getN .any sl s)):a.eval (.tmp s)=.bool w↔c:=by
 unfold condOf at h
 generalize a.eval (.tmp s)=v at hs
 split at h
 ·rename_i e he
  cases h
  rw [he] at hs
  rw [hs.bool_inv]
  simp
 ·rename_i cc _ _ e he
  cases h
  rw [he] at hs
  obtain ⟨h1,h2⟩:=hs.when_inv
  constructor
  ·intro hv
   by_cases hc:cc
   ·have:=(h1 hc).bool_inv
    rw [hv] at this
    simp only [Value.bool.injEq] at this
    exact ⟨hc,this.symm⟩
   ·have:=h2 hc
    rw [hv] at this
    cases this
  ·rintro ⟨hc,rfl⟩
   exact (h1 hc).bool_inv
 ·cases h
theorem noW_ok {v:Value} {x:AV} (h:RdA E v x):RdA E v (noW x):=by
 cases x <;> first | exact h | exact .any _
theorem noW_ne (x:AV):∀ c s w v,noW x≠.when c s w v:=by
 intro c s w v h
 cases x <;> cases h
theorem guardSlot_some {j s:Nat} (h:guardSlot opsA.toList j=some s):(opsA[j]?).bind (·.dst)=some s:=by
 unfold guardSlot at h
 rw [Array.getElem?_toList] at h
 cases hj:opsA[j]? with
 | none=>rw [hj] at h;cases h
 | some o'=>rw [hj] at h;simpa using h
theorem wanted_iff {j s:Nat} {w:Bool} (hg:o.guard=some (j,w)) (hs:guardSlot opsA.toList j=some s):Region.wanted o (yielded opsA a.tmps)=true↔a.eval (.tmp s)=.bool w:=by
 simp only [Region.wanted,hg,yielded,guardSlot_some hs,Option.bind_some,Act.eval,Array.getD_eq_getD_getElem?]
 cases ht:a.tmps[s]? with
 | none=>simp [undef]
 | some v=>cases v <;> simp
theorem OptP_map {c:Prop} {q:Option Prop}:OptP (q.map (fun q=>c→q))↔(c→OptP q):=by
 cases q <;> simp [OptP]
theorem names_A {v:Value} {x:AV} {id:Nat} (h:RdA E v x) (hn:names id x):E.A id:=by
 cases x <;> simp only [names] at hn
 ·subst hn;exact h.ptr_inv.1
 ·subst hn;exact h.rptr_inv.1
 ·subst hn;exact h.own_inv.1
 ·subst hn;exact h.ownp_inv.1
 ·subst hn;exact h.mp_inv.1
 ·subst hn;exact h.grow_inv.1
 ·subst hn;exact h.gptr_inv.1
 ·subst hn;exact h.ownc_inv.1
theorem opRes_ok (hp:StPre P cx E a dr opsA.toList o sl H n r) (h:opRes cx P dr opsA.toList o sl H n=some r)
 (hK:∀ E' v,Ext E n r wn E'→OptP r.given→RdA E' v r.val→K (a.put o.dst v) E'.w) :
 (Region.wanted o (yielded opsA a.tmps)=true∧o.wpI ro P a E.w K Q)∨(Region.wanted o (yielded opsA a.tmps)=false∧K (a.put o.dst undef) E.w):=by
 obtain ⟨hcx,hready,hA,hL,hH,hwr,hrd,hstat,hneed⟩:=hp
 have hrd':∀ x∈o.op.operands.toList,RdA E (a.eval x) (ev sl x):=ev_rd fun t ht=>hrd t (looks_mem ht)
 have hwh:∀ x,∀ c s w v,Operand.tmp s∈o.op.operands.toList→ev sl x=.when c s w v→a.eval (.tmp s)=.bool w→c:=by
  intro x c s w v hs hx hv
  obtain ⟨t,rfl,ht⟩:=ev_when hx
  exact (condOf_ok (hstat t c s w v ht).1 (hrd s (looks_mem hs))).1 hv
 unfold opRes at h
 split at h
 ·rename_i hg
  left
  refine ⟨by simp [Region.wanted,hg], ?_⟩
  split at h
  ·rename_i q g v news kill st frz hev
   cases h
   have hturn:=evOp_turns hev
   refine evOp_sound (wn:=wn) (r:=⟨q,g,v,news,kill,st,frz⟩) ⟨hcx,hready _ (.inr (Nat.le_refl _)),hA,hL,hH,fun id hid=>?_,fun p hp=>?_,hrd',fun x _=>hwh x,hneed⟩ hev fun E' v' hx hgiv hv'=>?_
   ·obtain ⟨⟨x,hx,hn⟩,t,xs,hob⟩:=hturn.1 id hid
    exact hwr id (.inl hid) (names_A (hrd' x hx) hn) (by rw [hob];trivial)
   ·obtain ⟨⟨x,hx,hn⟩,hob⟩:=hturn.2 p hp
    exact hwr p.1 (.inr ⟨p.2,hp⟩) (names_A (hrd' x hx) hn) hob
   ·refine hK E' v' ⟨hx.evo,hx.L,hx.W,hx.A,hx.injO,hx.ltO,hx.hid,hx.new,hx.st,hx.keep,hx.old⟩ hgiv (noW_ok hv')
  ·cases h
 ·rename_i j w hg
  split at h
  ·cases h
  ·rename_i s hs
   split at h
   ·cases h
   ·rename_i c hc
    have hlook:s∈opLooks opsA.toList o:=by
     unfold opLooks
     refine List.mem_append_right _ ?_
     simp [hg,hs]
    have hcond:=condOf_ok hc (hrd s hlook)
    have hw:=wanted_iff (a:=a) hg hs
    split at h
    ·rename_i q g v news hev
     split at h
     ·cases h
     ·rename_i hdr
      split at h
      ·rename_i v' has
       cases h
       by_cases hcc:c
       ·left
        have hsv:=hcond.2 hcc
        refine ⟨hw.2 hsv, ?_⟩
        have hr:Ready E n news.length:=by
         cases dr with
         | false=>exact hready _ (.inl rfl)
         | true =>
          simp only [Bool.true_and,Bool.not_eq_true,Bool.not_eq_false'] at hdr
          have:news=[]:=by simpa using hdr
          subst this
          exact hready _ (.inr (Nat.le_refl _))
        refine evOp_sound (wn:=wn) (r:=⟨q,g,v,news,none,none,[]⟩) ⟨hcx,hr,hA,hL,hH,fun id hid=>(by cases hid),fun p hp=>(by cases hp),fun x hx=>?_,fun x hx c' s' w' v'' hs' hx' hv'=>?_, ?_⟩ hev fun E' u hx hgiv hu=>?_
        ·refine unwrap_ok (hrd' x hx) (fun c' w' v'' hx' hv'=>?_) hsv
         obtain ⟨t,rfl,ht⟩:=ev_when hx'
         exact (condOf_ok (hstat t c' s w' v'' ht).1 (hrd s hlook)).1 hv'
        ·cases hx2:ev sl x with
         | when c2 s2 w2 v2 =>
          rw [hx2] at hx'
          simp only [unwrap] at hx'
          split at hx'
          ·obtain ⟨t,rfl,ht⟩:=ev_when hx2
           exact absurd hx' ((hstat t c2 s2 w2 v2 ht).2 c' s' w' v'')
          ·cases hx'
           exact hwh x c' s' w' v'' hs' hx2 hv'
         | _=>rw [hx2] at hx';cases hx'
        ·exact OptP_map.1 hneed hcc
        ·exact hK (E.idle E'.w) u (idle_ext hx hr hA rfl rfl rfl) (OptP_map.2 fun _=>hgiv) (.when _ _ _ _ _ (fun _=>asSl_ok hx hr rfl rfl (noW_ok hu) _ has) (fun hn=>absurd hcc hn))
       ·right
        refine ⟨by rw [Bool.eq_false_iff];exact fun h=>hcc (hcond.1 (hw.1 h)), ?_⟩
        exact hK E undef (Ext.idle (hready 0 (.inr (Nat.zero_le _))) rfl rfl rfl rfl) (OptP_map.2 fun h=>absurd h hcc) (.when _ _ _ _ _ (fun h=>absurd h hcc) (fun _=>rfl))
      ·cases h
    ·cases h
end
end Go.Sx
