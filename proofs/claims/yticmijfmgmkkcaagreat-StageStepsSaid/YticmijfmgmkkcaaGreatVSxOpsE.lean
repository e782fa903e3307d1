import Derived.Test.YticmijfmgmkkcaaGreatVSxOpsD
set_option linter.unusedSimpArgs false
set_option linter.unusedVariables false
set_option maxRecDepth 100000
namespace Go.Sx
open Go.RowKit
section
variable {P:Program} {cx:Ctx} {E:Env} {a:Act} {e:Operand→AV} {H:List Ob} {n:Nat} {r:Res}
 {wn:Nat→Prop} {K:Act→World→Prop} {Q:Exit→Act→World→Prop} {ro:Option Nat}
theorem PureRun.wp {o:Oper} (h:PureRun P E a o r) (hr:Ready E n r.news.length) (hK:∀ E' v,Ext E n r wn E'→OptP r.given→RdA E' v r.val→K (a.put o.dst v) E'.w):o.wpI ro P a E.w K Q:=by
 obtain ⟨v,h1,h2,h3⟩:=h.run
 exact wp_value h1 (hK E v (Ext.idle hr h.kill h.st h.frz h.news) h3 h2)
theorem run_callFunc_enter {g:FuncId} {fn:Func} (hf:P.funcs[g]?=some fn) (hb:fn.body.isSome=true) (hn:(fn.name == "runtime.NumGoroutine")=false) (vs:Array Value) (w:World) :
 (callFunc g vs).run P w=.ok (.enter g vs) w:=by
 have hn':¬ fn.name = "runtime.NumGoroutine":=by simpa using hn
 simp [callFunc,go_sem,hf,hn']
 intro h0
 rw [h0] at hb
 cases hb
theorem fn_inv {v:Value} {f:Fn} {xs ys:List AV} (h:RdA E v (.fn f xs ys)):∃ vs ws:Array Value,v=.func f vs ws∧vs.size=xs.length∧ws.size=ys.length ∧
 (∀ (i:Nat) u x,vs[i]?=some u→xs[i]?=some x→RdA E u x)∧∀ (i:Nat) u x,ws[i]?=some u→ys[i]?=some x→RdA E u x :=
 match h with | .fn _ vs ws _ _ h1 h2 h3 h4=>⟨vs,ws,rfl,h1,h2,h3,h4⟩
theorem call_args {f:Operand} {g:FuncId} {xs ys:List AV} {args:Array Operand} (hf:RdA E (a.eval f) (.fn (.func g) xs ys)) (hx:∀ x∈args.toList,RdA E (a.eval x) (e x)) :
 ∃ vs:Array Value,(∀ (dst:Option Tmp) (ts:Array TypeId) (ty:TypeId) (pos:String) (after:Array Go.Edge) (guard:Option (Nat × Bool)) (w:World),
  (execOp a.eval ⟨dst,.call ⟨.value f,args,ts⟩,ty,pos,after,guard⟩).run P w=(callFunc g vs).run P w) ∧
  vs.size=(xs++args.toList.map e++ys).length∧∀ (i:Nat) u x,vs[i]?=some u→(xs++args.toList.map e++ys)[i]?=some x→RdA E u x:=by
 obtain ⟨us,ws,h1,h2,h3,h4,h5⟩:=fn_inv hf
 refine ⟨us++args.map a.eval++ws,fun dst ts ty pos after guard w=>?_,by simp [h2,h3],fun i u x hu hx'=>?_⟩
 ·simp [execOp,Go.resolve,h1,Deferred.ofValue,invoke]
 ·have hm:=map_rd (a:=a) (E:=E) (e:=e) (l:=args) hx
  simp only [Array.getElem?_append,Array.size_append,Array.size_map] at hu
  simp only [List.getElem?_append,List.length_append,List.length_map,Array.length_toList] at hx'
  rw [h2] at hu
  split at hu
  ·rename_i hlt
   rw [if_pos hlt] at hx'
   split at hu
   ·rename_i hlt2
    rw [if_pos hlt2] at hx'
    exact h4 i u x hu hx'
   ·rename_i hlt2
    rw [if_neg hlt2] at hx'
    exact hm.2 _ u x hu hx'
  ·rename_i hlt
   rw [if_neg hlt] at hx'
   exact h5 _ u x hu hx'
structure OpPre (P:Program) (cx:Ctx) (E:Env) (a:Act) (o:Oper) (e:Operand→AV) (H:List Ob) (n:Nat) (r:Res):Prop where
 cx:GoodCtx P cx
 ready:Ready E n r.news.length
 fin:∃ N,∀ id,E.A id→id < N
 live:∀ id,E.A id→getOb H id≠.dead→E.L id
 ok:∀ id,E.L id→getOb H id≠.dead→OkOb E id (getOb H id)
 kill:∀ id,r.kill=some id→E.W id
 st:∀ q,r.st=some q→E.W q.1
 rd:∀ x∈o.op.operands.toList,RdA E (a.eval x) (e x)
 when:∀ x∈o.op.operands.toList,∀ c s w v,Operand.tmp s∈o.op.operands.toList→e x=.when c s w v→a.eval (.tmp s)=.bool w→c
 need:OptP r.need
theorem evOp_sound {o:Oper} (hp:OpPre P cx E a o e H n r) (h:evOp cx P e H n o=some r)
 (hK:∀ E' v,Ext E n r wn E'→OptP r.given→RdA E' v r.val→K (a.put o.dst v) E'.w):o.wpI ro P a E.w K Q:=by
 obtain ⟨hcx,hr,hA,hL,hH,hk,hst,hx,hwh,hn⟩:=hp
 obtain ⟨dst,op,ty,pos,after,guard⟩:=o
 cases op with
 | move x=>exact (s_move (hx x (by simp [Op.operands])) h).wp hr hK
 | assign x=>exact (s_assign (hx x (by simp [Op.operands])) h).wp hr hK
 | pick c x y =>
  refine (s_pick (hx c (by simp [Op.operands])) (hx x (by simp [Op.operands])) (hx y (by simp [Op.operands])) (fun s hs q w v=>?_) (fun s hs q w v=>?_) h).wp hr hK
  ·subst hs;exact hwh x (by simp [Op.operands]) q s w v (by simp [Op.operands])
  ·subst hs;exact hwh y (by simp [Op.operands]) q s w v (by simp [Op.operands])
 | extract x i=>exact (s_extract (hx x (by simp [Op.operands])) h).wp hr hK
 | makeFunc f xs ys=>exact (s_makeFunc (fun x hm=>hx x (by simp only [Op.operands,Array.toList_append,List.mem_append];exact .inl hm)) (fun x hm=>hx x (by simp only [Op.operands,Array.toList_append,List.mem_append];exact .inr hm)) h).wp hr hK
 | alloc t=>exact s_alloc hr hA h hK
 | box t x=>exact s_box hr hA (hx x (by simp [Op.operands])) h hK
 | build t parts=>exact (s_build (fun p hm=>hx p.2 (by simp only [Op.operands,List.mem_map];exact ⟨p,hm,rfl⟩)) h).wp hr hK
 | buildSlice t len parts=>exact s_buildSlice hr hA hL hH (fun p hm=>hx p.2 (by simp only [Op.operands,List.mem_map];exact ⟨p,hm,rfl⟩)) h hK
 | load t x=>exact (s_load hL hH (hx x (by simp [Op.operands])) hn h).wp hr hK
 | makeMap t hint =>
  cases hint with
  | none=>exact s_makeMap hr hA h hK
  | some x=>simp [evOp] at h
 | insert t m k x=>exact s_insert hr hA hL hH hst (hx m (by simp [Op.operands])) (hx k (by simp [Op.operands])) (hx x (by simp [Op.operands])) h hK
 | store t p x=>exact s_store hr hA hL hH hk hst (hx p (by simp [Op.operands])) (hx x (by simp [Op.operands])) hn h hK
 | nilCheck x=>exact (s_nilCheck (hx x (by simp [Op.operands])) h).wp hr hK
 | binOp op t x y u=>exact (s_binOp (hx x (by simp [Op.operands])) (hx y (by simp [Op.operands])) hn h).wp hr hK
 | unOp op t x=>exact (s_unOp (hx x (by simp [Op.operands])) hn h).wp hr hK
 | convert s d x=>exact (s_convert (hx x (by simp [Op.operands])) hn h).wp hr hK
 | fieldAddr t x f=>exact (s_fieldAddr (hx x (by simp [Op.operands])) h).wp hr hK
 | field t x f=>exact (s_field (hx x (by simp [Op.operands])) h).wp hr hK
 | lookup t m k ok=>exact (s_lookup (hx m (by simp [Op.operands])) (hx k (by simp [Op.operands])) h).wp hr hK
 | index t x ix=>exact (s_index (hx x (by simp [Op.operands])) (hx ix (by simp [Op.operands])) hn h).wp hr hK
 | indexAddr t x ix=>exact (s_indexAddr hL hH (hx x (by simp [Op.operands])) (hx ix (by simp [Op.operands])) hn h).wp hr hK
 | slice t x lo hi mx=>exact (s_slice hL hH (hx x (by simp [Op.operands])) (fun o ho=>hx o (by simp [Op.operands,ho])) (fun o ho=>hx o (by simp [Op.operands,ho])) (fun o ho=>hx o (by simp [Op.operands,ho])) hn h).wp hr hK
 | makeSlice t l c=>exact s_makeSlice hr hA (hx l (by simp [Op.operands])) (hx c (by simp [Op.operands])) hn h hK
 | call c =>
  obtain ⟨callee,args,ts⟩:=c
  cases callee with
  | value f =>
   simp only [evOp] at h
   split at h
   ·rename_i g xs ys hf
    have hfv:=hx f (by simp [Op.operands,Call.operands])
    rw [hf] at hfv
    obtain ⟨vs,h1,h2,h3⟩:=call_args (P:=P) (args:=args) hfv (fun x hm=>hx x (by simp only [Op.operands,Call.operands];simp [Array.mem_toList_iff.1 hm]))
    obtain ⟨⟨fn,g1,g2,g3⟩,hc⟩:=callC_ok (wn:=wn) hcx hr hA hL hH hn h2 h3 h
    refine wp_call (w':=E.w) (f:=g) (args:=vs) (by rw [h1,run_callFunc_enter g1 g2 g3]) (hc.mono fun en w' hpost=>?_)
    obtain ⟨hgiv,v,E',rfl,rfl,hext,hv⟩:=hpost
    exact ⟨v,rfl,hK E' v hext hgiv hv⟩
   ·cases h
  | invoke _ _=>simp [evOp] at h
  | builtin b =>
   cases b with
   | len=>exact (s_len rfl hL hH (fun x hm=>hx x (by simp only [Op.operands,Call.operands];simpa using hm)) hn h).wp hr hK
   | cap=>exact (s_cap rfl (fun x hm=>hx x (by simp only [Op.operands,Call.operands];simpa using hm)) h).wp hr hK
   | min=>exact (s_min rfl (fun x hm=>hx x (by simp only [Op.operands,Call.operands];simpa using hm)) h).wp hr hK
   | max=>exact (s_max rfl (fun x hm=>hx x (by simp only [Op.operands,Call.operands];simpa using hm)) h).wp hr hK
   | append =>
    simp only [evOp] at h
    split at h
    ·rename_i dv sv t t' hargs hts
     split at h
     ·rename_i hteq
      have:=Nat.eq_of_beq_eq_true hteq
      subst this
      split at h
      ·rename_i elem hu
       obtain ⟨x,y,rfl,rfl,rfl⟩:=toList_two hargs
       have ht2:=arr_two hts
       subst ht2
       obtain ⟨v,w',h1,h2⟩:=append_ok (dst:=dst) (ty:=ty) hn hr hA hL hH hk hst (hx x (by simp [Op.operands,Call.operands])) (hx y (by simp [Op.operands,Call.operands])) hu h hK
       exact wp_value (by simp [execOp,Go.resolve,invoke,builtin,h1]) h2
      ·cases h
     ·obtain ⟨x,y,rfl,rfl,rfl⟩:=toList_two hargs
      have ht2:=arr_two hts
      subst ht2
      obtain ⟨v,w',h1,h2⟩:=appendZ_ok (dst:=dst) (ty:=ty) hn hr hA (hx x (by simp [Op.operands,Call.operands])) (hx y (by simp [Op.operands,Call.operands])) h hK
      exact wp_value (by simp [execOp,Go.resolve,invoke,builtin,h1]) h2
    ·cases h
   | copy =>
    simp only [evOp] at h
    split at h
    ·rename_i id sv t t' hargs hts
     split at h
     ·rename_i hteq
      have:=Nat.eq_of_beq_eq_true hteq
      subst this
      split at h
      ·rename_i elem u xs t2 ys hu hob hcon
       split at h
       ·rename_i hk2
        split at h
        ·rename_i zs hcast
         obtain ⟨x,y,rfl,hxe,rfl⟩:=toList_two hargs
         have ht2:=arr_two hts
         subst ht2
         have hx1:=hx x (by simp [Op.operands,Call.operands])
         rw [hxe] at hx1
         obtain ⟨v,w',h1,h2⟩:=copy_ok (dst:=dst) (ty:=ty) hr hA hL hH hst hx1 (hx y (by simp [Op.operands,Call.operands])) hu hk2 hob hcon hcast (Option.some.inj h).symm hK
         exact wp_value (by simp [execOp,Go.resolve,invoke,builtin,h1]) h2
        ·cases h
       ·cases h
      ·cases h
     ·cases h
    ·cases h
   | clear =>
    simp only [evOp] at h
    split at h
    ·rename_i id k lo len t hargs hts
     split at h
     ·rename_i elem u xs hu hob
      split at h
      ·rename_i z hz
       split at h
       ·rename_i hcond
        simp only [Bool.and_eq_true] at hcond
        split at h
        ·rename_i ps ids hd
         split at h
         ·rename_i y hy
          obtain ⟨x,rfl,hxe⟩:=toList_one hargs
          have ht1:=arr_one hts
          subst ht1
          have hx1:=hx x (by simp [Op.operands,Call.operands])
          rw [hxe] at hx1
          have hk':k=u.size:=Nat.eq_of_beq_eq_true hcond.2.1
          subst hk'
          obtain ⟨v,w',h1,h2⟩:=clear_ok (dst:=dst) (ty:=ty) hr hA hL hH hst hx1 hu hcond.1 hob hz hcond.2.2 hd hy (Option.some.inj h).symm hK
          exact wp_value (by simp [execOp,Go.resolve,invoke,builtin,h1]) h2
         ·cases h
        ·cases h
       ·cases h
      ·cases h
     ·cases h
    ·cases h
   | _=>simp [evOp] at h
 | _=>simp [evOp] at h
end
end Go.Sx
