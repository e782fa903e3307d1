import Derived.Test.YticmijfmgmkkcaaGreatVSxOps7
set_option linter.unusedSimpArgs false
set_option linter.unusedVariables false
set_option maxRecDepth 100000
namespace Go.Sx
open Go.RowKit
section
variable {P:Program} {cx:Ctx} {E:Env} {a:Act} {e:Operand→AV} {H:List Ob} {n:Nat} {r:Res}
 {dst:Option Tmp} {ty:TypeId} {pos:String} {after:Array Go.Edge} {guard:Option (Nat × Bool)} {wn:Nat→Prop} {K:Act→World→Prop} {Q:Exit→Act→World→Prop} {ro:Option Nat}
theorem step_new {w':World} {hd:Hdr} (hm:r.news.length=1) (hk:r.kill=none) (hst:r.st=none) (hb:Below E.B E.w w') (hh:∀ b,b < E.w.heap.size→w'.heap[b]?=E.w.heap[b]?)
 (hsz:w'.heap.size=E.w.heap.size+1) (hblk:hd.blk=E.w.heap.size):Step E n r w' (fun _=>some hd):=by
 refine ⟨hb,fun b hb' _=>hh b hb', ?_, ?_, ?_, ?_⟩
 ·intro j h _ hj
  cases hj
  exact ⟨by omega,.inl (by omega)⟩
 ·intro j j' h h' hj hj' _ _ hne
  omega
 ·intro id hid;rw [hk] at hid;cases hid
 ·intro p hp;rw [hst] at hp;cases hp
theorem alloc_heap {w:World} {o:Obj}:∀ b,b < w.heap.size→(w.alloc o).heap[b]?=w.heap[b]?:=fun b hb=>Below.heap_alloc w o b hb
theorem new_cells {arr:Array Value} {el:TypeId} {cs:List AV} (hr:Ready E n 1) (hA:∃ N,∀ id,E.A id→id < N) (hc:CellL E arr.toList cs) (h0:r=⟨none,none,.ptr n 0,[.cells cs],none,none,[]⟩)
 (hK:∀ E' v,Ext E n r wn E'→OptP r.given→RdA E' v r.val→K (a.put dst v) E'.w):K (a.put dst (.pointer (some ⟨E.w.heap.size,0,none⟩))) (E.w.alloc (.cells arr el)):=by
 subst h0
 have hs:Step E n ⟨none,none,.ptr n 0,[.cells cs],none,none,[]⟩ (E.w.alloc (.cells arr el)) (fun _=>some ⟨E.w.heap.size,0,0,0⟩) :=
  step_new rfl rfl rfl ((Below.refl _ _).alloc hr.B _) alloc_heap (by simp) rfl
 obtain ⟨N,hN⟩:=hA
 have hx:=hs.ext (wn:=wn) hr ⟨N,hN⟩ (fun hevo j ob hj=>by
  match j,hj with
  | 0,hj =>
   cases hj
   refine ⟨⟨E.w.heap.size,0,0,0⟩,by simp [Env.ext],arr,el, ?_,by have:=hc.1;simpa using this,fun i v x hv hx=>?_⟩
   ·exact heap_alloc_new E.w _
   ·obtain ⟨h1,h2⟩:=hc.2 i v x (by simpa using hv) hx
    exact ⟨h1,h2.mono (hevo N) hN⟩) (fun _ id ob h=>by cases h)
 refine hK _ _ hx trivial (.ptr _ n 0 (.inr ⟨Nat.le_refl _,by simp⟩) ⟨_,_,rfl⟩ fun _=>⟨⟨E.w.heap.size,0,0,0⟩,by simp [Env.ext],rfl⟩)
theorem s_makeMap {t:TypeId} (hr:Ready E n r.news.length) (hA:∃ N,∀ id,E.A id→id < N)
 (h:evOp cx P e H n ⟨dst,.makeMap t none,ty,pos,after,guard⟩=some r)
 (hK:∀ E' v,Ext E n r wn E'→OptP r.given→RdA E' v r.val→K (a.put dst v) E'.w):(⟨dst,.makeMap t none,ty,pos,after,guard⟩ : Oper).wpI ro P a E.w K Q:=by
 simp only [evOp] at h
 have h0:=(Option.some.inj h).symm
 have hr':Ready E n 1:=by rw [h0] at hr;exact hr
 subst h0
 refine wp_value (w':=E.w.alloc (.map #[] 0)) (v:=.map (some E.w.heap.size)) (by simp [execOp,Instr.makeMap]) ?_
 have hs:Step E n ⟨none,none,.mp n,[.fmap []],none,none,[]⟩ (E.w.alloc (.map #[] 0)) (fun _=>some ⟨E.w.heap.size,0,0,0⟩) :=
  step_new rfl rfl rfl ((Below.refl _ _).alloc hr'.B _) alloc_heap (by simp) rfl
 have hx:=hs.ext (wn:=wn) hr' hA (fun hevo j ob hj=>by
  match j,hj with
  | 0,hj =>
   cases hj
   exact ⟨⟨E.w.heap.size,0,0,0⟩,by simp [Env.ext],#[],0,heap_alloc_new E.w _,rfl,fun i m p hm _=>by simp at hm⟩) (fun _ id ob h=>by cases h)
 exact hK _ _ hx trivial (.mp _ n (.inr ⟨Nat.le_refl _,by simp⟩) rfl fun _=>⟨⟨E.w.heap.size,0,0,0⟩,by simp [Env.ext],rfl⟩)
theorem s_box {el:TypeId} {x:Operand} (hr:Ready E n r.news.length) (hA:∃ N,∀ id,E.A id→id < N) (hx:RdA E (a.eval x) (e x))
 (h:evOp cx P e H n ⟨dst,.box el x,ty,pos,after,guard⟩=some r)
 (hK:∀ E' v,Ext E n r wn E'→OptP r.given→RdA E' v r.val→K (a.put dst v) E'.w):(⟨dst,.box el x,ty,pos,after,guard⟩ : Oper).wpI ro P a E.w K Q:=by
 simp only [evOp] at h
 split at h
 ·rename_i cs hcs
  have h0:=(Option.some.inj h).symm
  have hc:=cellsOf_ok hx hcs
  have hr':Ready E n 1:=by rw [h0] at hr;exact hr
  refine wp_value (w':=E.w.alloc (.cells (a.eval x).cells el)) (v:=.pointer (some ⟨E.w.heap.size,0,none⟩)) (by simp [execOp,Instr.box,newVar,newRow]) (new_cells hr' hA hc h0 hK)
 ·cases h
theorem zeroT_run {t:TypeId} {z:Value} (h:zeroT P t=some z) (w:World):(zeroValue t).run P w=.ok z w:=by
 unfold zeroT at h
 split at h
 ·rename_i i hi
  simp [zeroValue,typeInfo,hi,h]
 ·cases h
theorem zero_cells {z:List Value} (hz:z.all oneCellB=true):CellL E z (z.map ofCell):=by
 refine ⟨by simp,fun i v x hv hx=>?_⟩
 simp only [List.getElem?_map,Option.map_eq_some_iff] at hx
 obtain ⟨u,hu',rfl⟩:=hx
 rw [hv] at hu'
 cases hu'
 have:v.oneCell'=true:=by
  have:=List.all_eq_true.1 hz v (List.mem_of_getElem? hv)
  exact this
 exact ⟨this,ofCell_ok this⟩
theorem s_alloc {el:TypeId} (hr:Ready E n r.news.length) (hA:∃ N,∀ id,E.A id→id < N)
 (h:evOp cx P e H n ⟨dst,.alloc el,ty,pos,after,guard⟩=some r)
 (hK:∀ E' v,Ext E n r wn E'→OptP r.given→RdA E' v r.val→K (a.put dst v) E'.w):(⟨dst,.alloc el,ty,pos,after,guard⟩ : Oper).wpI ro P a E.w K Q:=by
 simp only [evOp] at h
 split at h
 ·rename_i z hz
  split at h
  ·rename_i hall
   have h0:=(Option.some.inj h).symm
   have hr':Ready E n 1:=by rw [h0] at hr;exact hr
   refine wp_value (w':=E.w.alloc (.cells z.cells el)) (v:=.pointer (some ⟨E.w.heap.size,0,none⟩)) (by simp [execOp,Instr.alloc,zeroT_run hz,newVar,newRow]) (new_cells hr' hA (zero_cells hall) h0 hK)
  ·cases h
 ·cases h
theorem new_rows {arr:Array Value} {el:TypeId} {t:Ty} {xs:List t.den} {cp:Nat} {q:Option Prop} {ids:List Nat} (hr:Ready E n 1) (hA:∃ N,∀ id,E.A id→id < N) (hlen:xs.length≤cp) (hlim:xs.length≤lim) (hcp:cp≤maxLen) (hsz:cp * t.size≤arr.size)
 (hc:∀ (j:Nat) p,(flat t xs)[j]?=some p→∃ v,arr[j]?=some v∧RdP E.w (FF E ids) v p) (h0:r=⟨q,none,.own n,[.rows t xs],none,none,ids⟩)
 (hK:∀ E' v,Ext E n r wn E'→OptP r.given→RdA E' v r.val→K (a.put dst v) E'.w):K (a.put dst (.slice (some ⟨E.w.heap.size,0,none⟩) xs.length cp)) (E.w.alloc (.cells arr el)):=by
 subst h0
 have hs:Step E n ⟨q,none,.own n,[.rows t xs],none,none,ids⟩ (E.w.alloc (.cells arr el)) (fun _=>some ⟨E.w.heap.size,0,xs.length,cp⟩) :=
  step_new rfl rfl rfl ((Below.refl _ _).alloc hr.B _) alloc_heap (by simp) rfl
 have hx:=hs.ext (wn:=wn) hr hA (fun hevo j ob hj=>by
  match j,hj with
  | 0,hj =>
   cases hj
   show RowsAt _ t xs _
   have hρ:(E.ext n 1 none ids wn (E.w.alloc (.cells arr el)) (fun _=>some ⟨E.w.heap.size,0,xs.length,cp⟩)).ρ (n+0)=some ⟨E.w.heap.size,0,xs.length,cp⟩:=by simp [Env.ext]
   rw [show (E.ext n (List.length [Ob.rows t xs]) none ids wn (E.w.alloc (.cells arr el)) (fun _=>some ⟨E.w.heap.size,0,xs.length,cp⟩)).ρ (n+0)=some ⟨E.w.heap.size,0,xs.length,cp⟩ from hρ]
   refine ⟨rfl,hlen,hlim,hcp,arr,el,heap_alloc_new E.w _,by simpa using hsz,fun j p hp=>?_⟩
   obtain ⟨v,h1,h2⟩:=hc j p hp
   exact ⟨v,by simpa using h1,h2.mono fun b o hb=>hs.ff hr rfl (fun p hp=>by cases hp) hb⟩) (fun _ id ob h=>by cases h)
 refine hK _ _ hx trivial (.own _ n (.inr ⟨Nat.le_refl _,by simp⟩) rfl fun _=>?_)
 have hρ:(E.ext n 1 none ids wn (E.w.alloc (.cells arr el)) (fun _=>some ⟨E.w.heap.size,0,xs.length,cp⟩)).ρ n=some ⟨E.w.heap.size,0,xs.length,cp⟩:=by simp [Env.ext]
 rw [show (E.ext n (List.length [Ob.rows t xs]) none ids wn (E.w.alloc (.cells arr el)) (fun _=>some ⟨E.w.heap.size,0,xs.length,cp⟩)).ρ n=some ⟨E.w.heap.size,0,xs.length,cp⟩ from hρ]
 rfl
theorem flat_replicate (t:Ty) (y:t.den):∀ (m j:Nat) p,(flat t (List.replicate m y))[j]?=some p→(enc t y)[j % t.size]?=some p
 | 0,j,p,h=>by simp [flat] at h
 | m+1,j,p,h=>by
  have h1:flat t (List.replicate (m+1) y)=enc t y++flat t (List.replicate m y):=by simp [flat,List.replicate_succ]
  rw [h1] at h
  by_cases hj:j < t.size
  ·rw [List.getElem?_append_left (by rw [enc_length];exact hj)] at h
   rw [Nat.mod_eq_of_lt hj];exact h
  ·rw [List.getElem?_append_right (by rw [enc_length];omega),enc_length] at h
   have:=flat_replicate t y m (j - t.size) p h
   rwa [← Nat.mod_eq_sub_mod (by omega)] at this
theorem down_nil:∀ (l:List AV) ps ids,downL [] l=some (ps,ids)→ids=[]
 | [],ps,ids,h=>by simp [downL] at h;exact h.2
 | x :: l,ps,ids,h=>by
  simp only [downL] at h
  split at h
  ·rename_i p ia qs ib h1 h2
   simp only [Option.some.injEq,Prod.mk.injEq] at h
   obtain ⟨_,rfl⟩:=h
   have hib:=down_nil l _ _ h2
   subst hib
   rw [down_nil1 h1];rfl
  ·cases h
theorem made_row {z:Value} {t':Ty} {ps:List PV} {ids:List Nat} {y:t'.den} {info:TypeInfo} (hk:z.cells.toList.all oneCellB=true) (hd:downL [] (z.cells.toList.map ofCell)=some (ps,ids)) (hy:dec t' ps=some y) (hs:info.size=t'.size) :
 ∀ (N cp:Nat),N≤cp→∀ (j:Nat) p,(flat t' (List.replicate N y))[j]?=some p→∃ v,(madeCells z.cells (cp * info.size))[j]?=some v∧RdP E.w (FF E []) v p:=by
 intro N cp hN j p hp
 have hzc:=zero_cells (E:=E) hk
 obtain ⟨g1,g2⟩:=downL_ok (ids':=[]) (H:=[]) (E:=E) (fun id _ hne=>absurd rfl hne) (fun id _ hne=>absurd rfl hne) hzc hd (fun id hid=>by
  have:=down_nil _ _ _ hd
  subst this;exact hid)
 have hle:=dec_le t' ps y hy
 have hlen:(List.replicate N y).length=N:=by simp
 have hz':z.cells.size=t'.size:=by
  have h1:=hle.get.1
  rw [enc_length] at h1
  simp at g1
  omega
 have hj:j < N * t'.size:=by
  have:=(List.getElem?_eq_some_iff.1 hp).1
  rw [flat_length,hlen] at this;exact this
 have hp':=flat_replicate t' y _ j p hp
 have hmod:j % t'.size < t'.size:=Nat.mod_lt _ (size_pos t')
 have hcp:j < cp * info.size:=by
  rw [hs]
  exact Nat.lt_of_lt_of_le hj (Nat.mul_le_mul_right _ hN)
 have hzl:z.cells.toList.length=t'.size:=by simpa using hz'
 have hu':z.cells.toList[j % t'.size]?=some (z.cells.toList[j % t'.size]'(by omega)):=List.getElem?_eq_getElem (by omega)
 refine ⟨z.cells.toList[j % t'.size]'(by omega), ?_, ?_⟩
 ·simp only [madeCells,Array.getElem?_map,Array.getElem?_range,hcp,hz']
  simp
  rw [getElem!_pos z.cells _ (by omega)]
 ·have hpl:ps[j % t'.size]?=some (ps[j % t'.size]'(by rw [← g1];omega)):=List.getElem?_eq_getElem (by rw [← g1];omega)
  exact (g2 _ _ _ hu' hpl).2.le (hle.get.2 _ _ _ hpl hp')
theorem new_rowsC {arr:Array Value} {el:TypeId} {t:Ty} {xs:List t.den} {k len:Nat} {q:Option Prop} (hr:Ready E n 1) (hA:∃ N,∀ id,E.A id→id < N) (hlen:len≤xs.length) (hlim:xs.length≤lim) (hcp:xs.length≤maxLen) (hsz:xs.length * t.size≤arr.size)
 (hc:∀ (j:Nat) p,(flat t xs)[j]?=some p→∃ v,arr[j]?=some v∧RdP E.w (FF E []) v p) (h0:r=⟨q,none,.ownc n k 0 len,[.rows t xs],none,none,[]⟩)
 (hK:∀ E' v,Ext E n r wn E'→OptP r.given→RdA E' v r.val→K (a.put dst v) E'.w):K (a.put dst (.slice (some ⟨E.w.heap.size,0,none⟩) len xs.length)) (E.w.alloc (.cells arr el)):=by
 subst h0
 have hs:Step E n ⟨q,none,.ownc n k 0 len,[.rows t xs],none,none,[]⟩ (E.w.alloc (.cells arr el)) (fun _=>some ⟨E.w.heap.size,0,xs.length,xs.length⟩) :=
  step_new rfl rfl rfl ((Below.refl _ _).alloc hr.B _) alloc_heap (by simp) rfl
 have hρ:(E.ext n (List.length [Ob.rows t xs]) none [] wn (E.w.alloc (.cells arr el)) (fun _=>some ⟨E.w.heap.size,0,xs.length,xs.length⟩)).ρ n=some ⟨E.w.heap.size,0,xs.length,xs.length⟩:=by simp [Env.ext]
 have hx:=hs.ext (wn:=wn) hr hA (fun hevo j ob hj=>by
  match j,hj with
  | 0,hj =>
   cases hj
   show RowsAt _ t xs _
   rw [Nat.add_zero,hρ]
   refine ⟨rfl,Nat.le_refl _,hlim,hcp,arr,el,heap_alloc_new E.w _,by simpa using hsz,fun j p hp=>?_⟩
   obtain ⟨v,h1,h2⟩:=hc j p hp
   exact ⟨v,by simpa using h1,h2.mono fun b o hb=>hs.ff hr rfl (fun p hp=>by cases hp) hb⟩) (fun _ id ob h=>by cases h)
 refine hK _ _ hx trivial (.ownc _ n k 0 len (.inr ⟨Nat.le_refl _,by simp⟩) rfl fun _=>⟨_,hρ,by simpa using hlen,by simp⟩)
theorem new_grid {arr:Array Value} {el:TypeId} {t:Ty} {len cp:Nat} {q:Option Prop} (hr:Ready E n 1) (hA:∃ N,∀ id,E.A id→id < N) (hlen:len≤cp) (hlim:len≤lim) (hcp:cp≤maxLen) (hsz:cp≤arr.size)
 (hc:∀ (j:Nat),j < cp→arr[j]?=some (.slice none 0 0)) (h0:r=⟨q,none,.own n,[.grid t len []],none,none,[]⟩)
 (hK:∀ E' v,Ext E n r wn E'→OptP r.given→RdA E' v r.val→K (a.put dst v) E'.w):K (a.put dst (.slice (some ⟨E.w.heap.size,0,none⟩) len cp)) (E.w.alloc (.cells arr el)):=by
 subst h0
 have hs:Step E n ⟨q,none,.own n,[.grid t len []],none,none,[]⟩ (E.w.alloc (.cells arr el)) (fun _=>some ⟨E.w.heap.size,0,len,cp⟩) :=
  step_new rfl rfl rfl ((Below.refl _ _).alloc hr.B _) alloc_heap (by simp) rfl
 have hρ:(E.ext n (List.length [Ob.grid t len []]) none [] wn (E.w.alloc (.cells arr el)) (fun _=>some ⟨E.w.heap.size,0,len,cp⟩)).ρ n=some ⟨E.w.heap.size,0,len,cp⟩:=by simp [Env.ext]
 have hKn:(E.ext n (List.length [Ob.grid t len []]) none [] wn (E.w.alloc (.cells arr el)) (fun _=>some ⟨E.w.heap.size,0,len,cp⟩)).K n=fun _=>none:=by simp [Env.ext]
 have hx:=hs.ext (wn:=wn) hr hA (fun hevo j ob hj=>by
  match j,hj with
  | 0,hj =>
   cases hj
   rw [Nat.add_zero]
   refine ⟨_,hρ, ?_⟩
   rw [hKn]
   refine ⟨by simp,hlen,hlim,hcp,⟨arr,el,heap_alloc_new E.w _,by simpa using hsz,fun i hi=>(by simp at hi),fun i _ hi=>⟨none, ?_⟩⟩,fun i xs hi=>(by simp at hi),fun _ _=>rfl,fun i h' hi=>(by cases hi),fun i j h1 h2 hi=>(by cases hi)⟩
   have:=hc i (by simp at hi;omega)
   simpa using this) (fun _ id ob h=>by cases h)
 refine hK _ _ hx trivial (.own _ n (.inr ⟨Nat.le_refl _,by simp⟩) rfl fun _=>?_)
 rw [hρ]
 rfl
theorem new_csl {arr:Array Value} {el:TypeId} {ct:Ty} {m:Nat} {q:Option Prop} (hr:Ready E n 1) (hA:∃ N,∀ id,E.A id→id < N) (hsz:arr.size=m)
 (hc:∀ (j:Nat),j < m→arr[j]?=some (.slice none 0 0)) (h0:r=⟨q,none,.csl ct n m,[.cells (List.replicate m .cap0)],none,none,[]⟩)
 (hK:∀ E' v,Ext E n r wn E'→OptP r.given→RdA E' v r.val→K (a.put dst v) E'.w):K (a.put dst (.slice (some ⟨E.w.heap.size,0,none⟩) m m)) (E.w.alloc (.cells arr el)):=by
 subst h0
 have hs:Step E n ⟨q,none,.csl ct n m,[.cells (List.replicate m .cap0)],none,none,[]⟩ (E.w.alloc (.cells arr el)) (fun _=>some ⟨E.w.heap.size,0,0,0⟩) :=
  step_new rfl rfl rfl ((Below.refl _ _).alloc hr.B _) alloc_heap (by simp) rfl
 have hx:=hs.ext (wn:=wn) hr hA (fun hevo j ob hj=>by
  match j,hj with
  | 0,hj =>
   cases hj
   refine ⟨⟨E.w.heap.size,0,0,0⟩,by simp [Env.ext],arr,el,heap_alloc_new E.w _,by simpa using hsz,fun i v x hv hx=>?_⟩
   have hi:i < m:=by
    have:=(List.getElem?_eq_some_iff.1 hx).1
    simpa using this
   rw [hc i hi] at hv
   cases hv
   have hx':x=.cap0:=by
    rw [List.getElem?_replicate,if_pos hi] at hx
    cases hx
    rfl
   subst hx'
   exact ⟨rfl,.cap0 _⟩) (fun _ id ob h=>by cases h)
 exact hK _ _ hx trivial (.csl _ ct n m (.inr ⟨Nat.le_refl _,by simp⟩) rfl fun _=>⟨⟨E.w.heap.size,0,0,0⟩,by simp [Env.ext],rfl⟩)
theorem s_makeSlice {t:TypeId} {l c:Operand} (hr:Ready E n r.news.length) (hA:∃ N,∀ id,E.A id→id < N)
 (hl:RdA E (a.eval l) (e l)) (hc:RdA E (a.eval c) (e c)) (hn:OptP r.need)
 (h:evOp cx P e H n ⟨dst,.makeSlice t l c,ty,pos,after,guard⟩=some r)
 (hK:∀ E' v,Ext E n r wn E'→OptP r.given→RdA E' v r.val→K (a.put dst v) E'.w):(⟨dst,.makeSlice t l c,ty,pos,after,guard⟩ : Oper).wpI ro P a E.w K Q:=by
 simp only [evOp] at h
 split at h
 ·rename_i elem k len k' cp hu hvl hvc
  rw [hvl] at hl;rw [hvc] at hc
  have hlimv:(lim:Int)=140737488355328:=rfl
  have run:∀ (info:TypeInfo) (z:Value),P.info? elem=some info→zeroT P elem=some z→0≤len→len≤cp→cp * (bytesT P elem:Int)≤(lim:Int)→cp≤(lim:Int) →
   (execOp a.eval ⟨dst,.makeSlice t l c,ty,pos,after,guard⟩).run P E.w=.ok (.value (.slice (some ⟨E.w.heap.size,0,none⟩) len.toNat cp.toNat)) (E.w.alloc (.cells (madeCells z.cells (cp.toNat * info.size)) elem)):=by
   intro info z hi hz n1 n2 n3 n4
   have hb:bytesT P elem=info.bytes:=by simp [bytesT,hi]
   have hiz:info.zero=some z:=by simpa [zeroT,hi] using hz
   have hrun:=run_make (P:=P) E.w t elem info z hu hi hiz k k' len cp n1 n2 (by rw [← hb,Int.mul_comm];omega) (by omega)
   simp [execOp,hl.int_inv,hc.int_inv,hrun]
  split at h
  ·rename_i ct hgl
   split at h
   ·rename_i bs hz hbs
    have hbs':=nlit_eq hbs
    subst hbs'
    split at h
    ·rename_i hk
     obtain ⟨info,hi,hs⟩:=sizeT_eq hk (by decide)
     have h0:=(Option.some.inj h).symm
     have hr':Ready E n 1:=by rw [h0] at hr;exact hr
     have hn':0≤len∧len=cp∧cp * (bytesT P elem:Int)≤(lim:Int)∧cp≤(lim:Int):=by rw [h0] at hn;exact hn
     obtain ⟨n1,n2,n3,n4⟩:=hn'
     refine wp_value (run info _ hi hz n1 (by omega) n3 n4) ?_
     subst n2
     refine new_csl (a:=a) (dst:=dst) (K:=K) (r:=r) (wn:=wn) hr' hA (by rw [size_madeCells,hs,Nat.mul_one]) (fun j hj=>?_) h0 hK
     simp [madeCells,hs,hj,Value.cells,Nat.mod_one]
    ·cases h
   ·cases h
  split at h
  ·rename_i gt hgl
   split at h
   ·rename_i bs hz hbs
    have hbs':=nlit_eq hbs
    subst hbs'
    split at h
    ·rename_i hk
     obtain ⟨info,hi,hs⟩:=sizeT_eq hk (by decide)
     have h0:=(Option.some.inj h).symm
     have hr':Ready E n 1:=by rw [h0] at hr;exact hr
     have hn':0≤len∧len≤cp∧cp * (bytesT P elem:Int)≤(lim:Int)∧cp≤(lim:Int):=by rw [h0] at hn;exact hn
     obtain ⟨n1,n2,n3,n4⟩:=hn'
     refine wp_value (run info _ hi hz n1 n2 n3 n4) ?_
     refine new_grid (a:=a) (dst:=dst) (K:=K) (r:=r) (wn:=wn) hr' hA (by omega) (by simp [lim];omega) (by simp only [maxLen];omega) (by rw [size_madeCells,hs];omega) (fun j hj=>?_) h0 hK
     simp [madeCells,hs,hj,Value.cells,Nat.mod_one]
    ·cases h
   ·cases h
  ·split at h
   ·rename_i t' z hlook hz
    split at h
    ·rename_i hk
     simp only [Bool.and_eq_true] at hk
     obtain ⟨info,hi,hs⟩:=sizeT_eq hk.1 (size_pos t')
     split at h
     ·rename_i ps ids hd
      split at h
      ·rename_i y bs hy hbs
       have hbs':=nlit_eq hbs
       subst hbs'
       have h0:=(Option.some.inj h).symm
       have hr':Ready E n 1:=by rw [h0] at hr;exact hr
       have hn':0≤len∧len≤cp∧cp * (bytesT P elem:Int)≤(lim:Int)∧cp≤(lim:Int):=by rw [h0] at hn;exact hn
       obtain ⟨n1,n2,n3,n4⟩:=hn'
       have hlen:(List.replicate cp.toNat y).length=cp.toNat:=by simp
       have hm:=made_row (E:=E) hk.2 hd hy hs
       refine wp_value (run info z hi hz n1 n2 n3 n4) ?_
       have:=new_rowsC (a:=a) (dst:=dst) (arr:=madeCells z.cells (cp.toNat * info.size)) (el:=elem) (t:=t') (xs:=List.replicate cp.toNat y) (k:=t'.size) (len:=len.toNat) (K:=K) (r:=r) (wn:=wn) hr' hA (by rw [hlen];omega) (by rw [hlen];simp [lim];omega) (by rw [hlen];simp only [maxLen];omega)
        (by rw [size_madeCells,hs,hlen];exact Nat.le_refl _) (fun j p hp=>hm _ _ (Nat.le_refl _) j p hp) h0 hK
       rw [hlen] at this;exact this
      ·cases h
     ·cases h
    ·cases h
   ·split at h
    ·rename_i t' z hlook hz
     split at h
     ·rename_i hk
      simp only [Bool.and_eq_true] at hk
      obtain ⟨info,hi,hs⟩:=sizeT_eq hk.1 (size_pos t')
      split at h
      ·rename_i ps ids hd
       split at h
       ·rename_i y bs hy hbs
        have hbs':=nlit_eq hbs
        subst hbs'
        have h0:=(Option.some.inj h).symm
        have hr':Ready E n 1:=by rw [h0] at hr;exact hr
        have hn':0≤len∧len≤cp∧cp * (bytesT P elem:Int)≤(lim:Int)∧cp≤(lim:Int):=by rw [h0] at hn;exact hn
        obtain ⟨n1,n2,n3,n4⟩:=hn'
        have hlen:(List.replicate len.toNat y).length=len.toNat:=by simp
        have hm:=made_row (E:=E) hk.2 hd hy hs
        refine wp_value (run info z hi hz n1 n2 n3 n4) ?_
        have:=new_rows (a:=a) (dst:=dst) (arr:=madeCells z.cells (cp.toNat * info.size)) (el:=elem) (t:=t') (xs:=List.replicate len.toNat y) (cp:=cp.toNat) (ids:=[]) (K:=K) (r:=r) (wn:=wn) hr' hA (by simp;omega) (by simp [lim];omega) (by simp only [maxLen];omega)
         (by rw [size_madeCells,hs];exact Nat.le_refl _) (fun j p hp=>hm _ _ (by omega) j p hp) h0 hK
        rw [hlen] at this;exact this
       ·cases h
      ·cases h
     ·cases h
    ·cases h
 ·cases h
end
end Go.Sx
