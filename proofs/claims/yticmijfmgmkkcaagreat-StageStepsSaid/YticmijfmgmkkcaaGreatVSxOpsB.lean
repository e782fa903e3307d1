import Derived.Test.YticmijfmgmkkcaaGreatVSxOpsA
set_option linter.unusedSimpArgs false
set_option linter.unusedVariables false
set_option maxRecDepth 100000
namespace Go.Sx
open Go.RowKit
section
variable {P:Program} {cx:Ctx} {E:Env} {a:Act} {e:Operand→AV} {H:List Ob} {n:Nat} {r:Res}
 {dst:Option Tmp} {ty:TypeId} {pos:String} {after:Array Go.Edge} {guard:Option (Nat × Bool)} {wn:Nat→Prop} {K:Act→World→Prop} {Q:Exit→Act→World→Prop} {ro:Option Nat}
inductive Src (E:Env) (t:Ty) (ys:List t.den) (v:Value):Prop
 | none (ba:Option Addr) (c:Nat) (h:ys=[]) (hv:v=.slice ba 0 c):Src E t ys v
 | some (b o c:Nat) (us:List Value) (hv:v=.slice (some ⟨b,o,none⟩) ys.length c) (hl:us.length=ys.length * t.size) (hcell:∀ (j:Nat) u,us[j]?=some u→E.w.cell? ⟨b,o+j,none⟩=some u)
  (h1:∀ u∈us,u.oneCell'=true) (hrd:∀ (j:Nat) p,(flat t ys)[j]?=some p→∃ u,us[j]?=some u∧RdP E.w E.Fz u p) (hlim:ys.length≤big):Src E t ys v
theorem src_range {b o m:Nat} {t:Ty} {ys:List t.den} {v:Value} {c:Nat} (hv:v=.slice (some ⟨b,o,none⟩) ys.length c) (hlim:ys.length≤big) (h:∀ j p,(flat t ys)[j]?=some p→∃ u,E.w.cell? ⟨b,o+j,none⟩=some u∧RdP E.w E.Fz u p) (_hm:m=0):Src E t ys v:=by
 let f:Nat→Value:=fun j=>(E.w.cell? ⟨b,o+j,none⟩).getD undef
 have key:∀ j,j < ys.length * t.size→∃ p,(flat t ys)[j]?=some p∧E.w.cell? ⟨b,o+j,none⟩=some (f j)∧RdP E.w E.Fz (f j) p:=by
  intro j hj
  have hp:(flat t ys)[j]?=some ((flat t ys)[j]'(by rw [flat_length];exact hj)):=List.getElem?_eq_getElem (by rw [flat_length];exact hj)
  obtain ⟨u,h1,h2⟩:=h j _ hp
  have hf:f j=u:=by simp [f,h1]
  exact ⟨_,hp,by rw [hf];exact h1,by rw [hf];exact h2⟩
 have get:∀ (j:Nat) u,((List.range (ys.length * t.size)).map f)[j]?=some u→j < ys.length * t.size∧u=f j:=by
  intro j u hu
  simp only [List.getElem?_map,Option.map_eq_some_iff] at hu
  obtain ⟨i,hi,rfl⟩:=hu
  have hlt:j < ys.length * t.size:=by have:=(List.getElem?_eq_some_iff.1 hi).1;simpa using this
  rw [List.getElem?_range hlt] at hi
  cases hi
  exact ⟨hlt,rfl⟩
 refine .some b o c ((List.range (ys.length * t.size)).map f) hv (by simp) (fun j u hu=>?_) (fun u hu=>?_) (fun j p hp=>?_) hlim
 ·obtain ⟨h1,rfl⟩:=get j u hu
  obtain ⟨p,_,h2,_⟩:=key j h1
  exact h2
 ·obtain ⟨j,hj⟩:=List.mem_iff_getElem?.1 hu
  obtain ⟨h1,rfl⟩:=get j u hj
  obtain ⟨p,_,_,h3⟩:=key j h1
  exact h3.one
 ·have hlt:j < ys.length * t.size:=by have:=(List.getElem?_eq_some_iff.1 hp).1;rwa [flat_length] at this
  obtain ⟨p',hp',_,h3⟩:=key j hlt
  rw [hp] at hp'
  cases hp'
  exact ⟨f j,by simp [List.getElem?_range hlt],h3⟩
theorem content_ok (hL:∀ id,E.A id→getOb H id≠.dead→E.L id) (hH:∀ id,E.L id→getOb H id≠.dead→OkOb E id (getOb H id)) {v:Value} {x:AV} {t:Ty} {ys:List t.den} (hx:RdA E v x) (h:content H x=some ⟨t,ys⟩):Src E t ys v:=by
 have own:∀ (id:Nat) (t:Ty) (ys:List t.den),RowsAt E t ys (E.ρ id)→ownV (E.ρ id) v→Src E t ys v:=by
  intro id t ys hrow hv
  cases hρ:E.ρ id with
  | none=>rw [hρ] at hrow hv;obtain ⟨ba,hv⟩:=hv;exact .none ba 0 hrow hv
  | some hd =>
   rw [hρ] at hrow hv
   obtain ⟨g1,g2,g3,g3',arr,el,g4,g5,g6⟩:=hrow
   have hv':v=.slice (some ⟨hd.blk,hd.off,none⟩) hd.len hd.cap:=hv
   rw [g1] at hv' g3
   refine src_range (m:=0) hv' (lim_big g3) (fun j p hp=>?_) rfl
   obtain ⟨u,hu,hr⟩:=g6 j p hp
   exact ⟨u,by simp [World.cell?,g4,hu],hr⟩
 have part:∀ (id k lo len:Nat) (t:Ty) (xs:List t.den),RowsAt E t xs (E.ρ id)→k=t.size→ownqV k lo len (E.ρ id) v→Src E t ((xs.drop lo).take len) v:=by
  intro id k lo len t xs hrow hk hv
  subst hk
  cases hρ:E.ρ id with
  | none =>
   rw [hρ] at hv hrow
   obtain ⟨h0,ba,hv⟩:=hv
   subst h0
   exact .none ba 0 (by simp) hv
  | some hd =>
   rw [hρ] at hv hrow
   obtain ⟨h1,o,c,hv,h2,_,h3⟩:=hv
   obtain ⟨g1,g2,g3,g3',arr,el,g4,g5,g6⟩:=hrow
   by_cases h0:len=0
   ·subst h0;exact .none _ c (by simp) hv
   ·have ho:o=hd.off+lo * t.size:=h3.resolve_right (by omega)
    subst ho
    have hlen:((xs.drop lo).take len).length=len:=by rw [List.length_take,List.length_drop];omega
    refine src_range (m:=0) (by rw [hlen];exact hv) (lim_big (by omega)) (fun j p hp=>?_) rfl
    rw [flat_take,flat_drop] at hp
    have hj:j < len * t.size:=by
     have:=(List.getElem?_eq_some_iff.1 hp).1
     rw [List.length_take] at this;omega
    rw [List.getElem?_take_of_lt hj,List.getElem?_drop] at hp
    obtain ⟨u,hu,hr⟩:=g6 _ p hp
    rw [← Nat.add_assoc] at hu
    exact ⟨u,by simp [World.cell?,g4,hu],hr⟩
 cases x with
 | sl t' xs =>
  simp only [content,Option.some.injEq] at h
  cases h
  rcases hx.sl_inv.sl_inv with ⟨hnil,ba,c,hv⟩ | ⟨b,o,c,g,hv,hc,hl,hcell,hrd⟩
  ·exact .none ba c hnil hv
  ·exact src_range (m:=0) hv hl (fun j p hp=>⟨g j,(hcell j (List.getElem?_eq_some_iff.1 hp).1).2,hrd j p hp⟩) rfl
 | own id =>
  simp only [content] at h
  have hA:=hx.own_inv.1
  split at h
  ·rename_i t' xs hob
   cases h
   have hne:getOb H id≠.dead:=by rw [hob];simp
   have hl:=hL id hA hne
   have hok:=hH id hl hne
   rw [hob] at hok
   exact own id _ _ hok (hx.own_inv.2.2 hl)
  ·rename_i t' xs hob
   cases h
   have hne:getOb H id≠.dead:=by rw [hob];simp
   have hl:=hL id hA hne
   have hok:=hH id hl hne
   rw [hob] at hok
   exact own id _ _ hok (hx.own_inv.2.2 hl)
  ·cases h
 | ownp id k lo len =>
  simp only [content] at h
  have hA:=hx.ownp_inv.1
  split at h
  ·rename_i t' xs hob
   split at h
   ·rename_i hk
    cases h
    have hne:getOb H id≠.dead:=by rw [hob];simp
    have hl:=hL id hA hne
    have hok:=hH id hl hne
    rw [hob] at hok
    exact part id k lo len _ _ hok (by simpa using hk) (hx.ownp_inv.2.2 hl).q
   ·cases h
  ·rename_i t' xs hob
   split at h
   ·rename_i hk
    cases h
    have hne:getOb H id≠.dead:=by rw [hob];simp
    have hl:=hL id hA hne
    have hok:=hH id hl hne
    rw [hob] at hok
    exact part id k lo len _ _ hok (by simpa using hk) (hx.ownp_inv.2.2 hl).q
   ·cases h
  ·cases h
 | ownc id k lo len =>
  simp only [content] at h
  have hA:=hx.ownc_inv.1
  have toP:∀ {t:Ty} {xs:List t.den},RowsAt E t xs (E.ρ id)→E.L id→ownqV k lo len (E.ρ id) v:=by
   intro t xs hrow hl
   obtain ⟨hd,hρ,h1,h2⟩:=hx.ownc_inv.2.2 hl
   rw [hρ] at hrow ⊢
   have:=hrow.2.1
   exact ⟨h1,_,_,h2,by omega,by omega,.inl rfl⟩
  split at h
  ·rename_i t' xs hob
   split at h
   ·rename_i hk
    cases h
    have hne:getOb H id≠.dead:=by rw [hob];simp
    have hl:=hL id hA hne
    have hok:=hH id hl hne
    rw [hob] at hok
    exact part id k lo len _ _ hok (by simpa using hk) (toP hok hl)
   ·cases h
  ·rename_i t' xs hob
   split at h
   ·rename_i hk
    cases h
    have hne:getOb H id≠.dead:=by rw [hob];simp
    have hl:=hL id hA hne
    have hok:=hH id hl hne
    rw [hob] at hok
    exact part id k lo len _ _ hok (by simpa using hk) (toP hok hl)
   ·cases h
  ·cases h
 | slf t' xs =>
  simp only [content,Option.some.injEq] at h
  cases h
  rcases hx.slf_inv.2.sl_inv with ⟨hnil,ba,c,hv⟩ | ⟨b,o,c,g,hv,hc,hl,hcell,hrd⟩
  ·exact .none ba c hnil hv
  ·exact src_range (m:=0) hv hl (fun j p hp=>⟨g j,(hcell j (List.getElem?_eq_some_iff.1 hp).1).2,hrd j p hp⟩) rfl
 | _=>simp [content] at h
theorem run_append_zero {t elem u:TypeId} {base ba:Option Addr} {len cp c:Nat} {info:TypeInfo} (hu:P.underlying t=some (.slice elem)) (hi:P.info? elem=some info) (hle:len≤cp) (w:World) :
 (Builtin.append_ #[t,t] u #[.slice base len cp,.slice ba 0 c]).run P w=.ok (.slice base len cp) w:=by
 cases ba <;> cases base <;> simp [Builtin.append_,run_underlying hu,sizeOf,typeInfo,hi,Builtin.lenOf,hle,Builtin.firstCells,loadCells,loadCellsFrom,storeCells]
theorem run_append_room' (w:World) (t ty e:TypeId) (i:TypeInfo) (ht:P.underlying t=some (.slice e)) (hi:P.info? e=some i)
 (g o sLen sCap:Nat) (cur:Array Value) (el:TypeId) (hg:w.heap[g]?=some (.cells cur el (0,0)))
 (a:Addr) (m c:Nat) (news:List Value) (hl:news.length=m * i.size) (hnews:∀ (j:Nat) u,news[j]?=some u→w.cell? (a.add j)=some u) (h1:∀ u∈news,u.oneCell'=true)
 (hroom:sLen+m≤sCap) (hfit:o+sLen * i.size+news.length≤cur.size) :
 (Builtin.append_ #[t,t] ty #[.slice (some ⟨g,o,none⟩) sLen sCap,.slice (some a) m c]).run P w =
   .ok (.slice (some ⟨g,o,none⟩) (sLen+m) sCap) (w.setRow g (cur.toList.take (o+sLen * i.size)++news++cur.toList.drop (o+sLen * i.size+news.length)).toArray):=by
 have hf:=run_firstCells_some (P:=P) w i.size m a m c news hl hnews
 have hst:=run_storeCells_at P g (o+sLen * i.size) el news 0 cur w hg (by simpa using hfit) h1
 simp only [Nat.add_zero] at hst
 simp [Builtin.append_,run_underlying ht,sizeOf,typeInfo,hi,Builtin.lenOf,hroom,hf,addr_add,hst]
theorem new_row_kill {w':World} {hd:Option Hdr} {t:Ty} {zs:List t.den} {v':Value} {kill:Option Nat} {q:Option Prop} (hr:Ready E n 1) (hA:∃ N,∀ id,E.A id→id < N) (h0:r=⟨q,none,.own n,[.rows t zs],kill,none,[]⟩) (hs:Step E n r w' (fun _=>hd))
 (hv:ownV hd v') (h1:v'.oneCell'=true) (hrow:∀ E':Env,E'.w=w'→(∀ b o,E.Fz b o→E'.Fz b o∧E'.w.cell? ⟨b,o,none⟩=E.w.cell? ⟨b,o,none⟩)→RowsAt E' t zs hd)
 (hK:∀ E' v,Ext E n r wn E'→OptP r.given→RdA E' v r.val→K (a.put dst v) E'.w):K (a.put dst v') w':=by
 subst h0
 have hρ:(E.ext n 1 kill [] wn w' (fun _=>hd)).ρ n=hd:=by simp [Env.ext]
 have hx:=hs.ext (wn:=wn) hr hA (fun hevo j ob hj=>by
  match j,hj with
  | 0,hj =>
   cases hj
   show RowsAt _ t zs _
   have:(E.ext n (List.length [Ob.rows t zs]) kill [] wn w' (fun _=>hd)).ρ (n+0)=hd:=hρ
   rw [this]
   exact hrow _ rfl (hevo 0).fz) (fun _ id ob h=>by cases h)
 refine hK _ _ hx trivial (.own _ n (.inr ⟨Nat.le_refl _,by simp⟩) h1 fun _=>?_)
 have:(E.ext n (List.length [Ob.rows t zs]) kill [] wn w' (fun _=>hd)).ρ n=hd:=hρ
 rw [this]
 exact hv
theorem src_cells {t:Ty} {ys:List t.den} {v:Value} (h:Src E t ys v) (hm:ys≠[]):∃ (b o c:Nat) (us:List Value),v=.slice (some ⟨b,o,none⟩) ys.length c∧us.length=ys.length * t.size∧(∀ (j:Nat) u,us[j]?=some u→E.w.cell? ⟨b,o+j,none⟩=some u) ∧
 (∀ u∈us,u.oneCell'=true)∧(∀ (j:Nat) p,(flat t ys)[j]?=some p→∃ u,us[j]?=some u∧RdP E.w E.Fz u p):=by
 cases h with
 | none ba c h hv=>exact absurd h hm
 | some b o c us hv hl hcell h1 hrd hlim=>exact ⟨b,o,c,us,hv,hl,hcell,h1,hrd⟩
theorem src_nil {t:Ty} {ys:List t.den} {v:Value} (h:Src E t ys v) (hm:ys=[]):∃ ba c,v=.slice ba 0 c:=by
 cases h with
 | none ba c h hv=>exact ⟨ba,c,hv⟩
 | some b o c us hv hl hcell h1 hrd hlim=>subst hm;exact ⟨_,c,hv⟩
theorem grow_ok {t elem:TypeId} {info:TypeInfo} {z:Value} {ty':Ty} {xs ys:List ty'.den} {base:Option Addr} {cp:Nat} {v:Value} {olds:List Value} {kill:Option Nat} {q:Option Prop}
 (hr:Ready E n 1) (hA:∃ N,∀ id,E.A id→id < N) (hW:∀ id,kill=some id→E.W id) (hu:P.underlying t=some (.slice elem)) (hi:P.info? elem=some info) (hs:info.size=ty'.size) (hz:info.zero=some z) (hzs:z.cells.size=ty'.size) (hby:1≤info.bytes)
 (hlo:olds.length=xs.length * ty'.size) (hold:∀ (j:Nat) p,(flat ty' xs)[j]?=some p→∃ u,olds[j]?=some u∧RdP E.w E.Fz u p) (hbase:(base=none∧xs=[]∧cp=0)∨∃ b,base=some b∧∀ (j:Nat) u,olds[j]?=some u→E.w.cell? (b.add j)=some u)
 (hsrc:Src E ty' ys v) (hm:ys≠[]) (hcap:cp < xs.length+ys.length) (hneed:(xs.length+ys.length) * info.bytes≤lim) (h0:r=⟨q,none,.own n,[.rows ty' (xs++ys)],kill,none,[]⟩)
 (hK:∀ E' v,Ext E n r wn E'→OptP r.given→RdA E' v r.val→K (a.put dst v) E'.w):∃ v' w',(Builtin.append_ #[t,t] ty #[.slice base xs.length cp,v]).run P E.w=.ok v' w'∧K (a.put dst v') w':=by
 obtain ⟨b,o,c,us,rfl,hul,hucell,hu1,hurd⟩:=src_cells hsrc hm
 have hlen1:1 * (xs.length+ys.length)≤(xs.length+ys.length) * info.bytes:=by rw [Nat.mul_comm];exact Nat.mul_le_mul_left _ hby
 have hlimv:lim=140737488355328:=rfl
 have hpos:0 < ys.length:=List.length_pos_iff.2 hm
 have hucell':∀ j u,us[j]?=some u→E.w.cell? ((⟨b,o,none⟩ : Addr).add j)=some u:=fun j u h=>by rw [addr_add];exact hucell j u h
 have hul':us.length=ys.length * info.size:=by rw [hs];exact hul
 have fin:∀ (arr:Array Value) (cap':Nat),xs.length+ys.length≤cap'→cap'≤maxLen→arr.toList=olds++us++(Builtin.zeroCells z.cells (cap' - (xs.length+ys.length))).toList →
  K (a.put dst (.slice (some ⟨E.w.heap.size,0,none⟩) (xs.length+ys.length) cap')) (E.w.drew.alloc (.cells arr elem)):=by
  intro arr cap' hc1 hc2 harr
  have hsz:arr.size=cap' * ty'.size:=by
   have:=congrArg List.length harr
   simp only [Array.length_toList,List.length_append,size_zeroCells,hlo,hul,hzs] at this
   rw [this,← Nat.add_mul,← Nat.add_mul]
   congr 1
   omega
  have hstep:Step E n r (E.w.drew.alloc (.cells arr elem)) (fun _=>some ⟨E.w.heap.size,0,xs.length+ys.length,cap'⟩):=by
   subst h0
   refine ⟨((Below.refl _ _).drew).alloc hr.B _,fun b hb _=>Below.heap_alloc _ _ _ hb, ?_, ?_,hW, ?_⟩
   ·intro j h _ hj;cases hj;exact ⟨by simp,.inl (Nat.le_refl _)⟩
   ·intro j j' h h' hj hj' _ _ hne;simp at hj hj';omega
   ·intro p hp;cases hp
  refine new_row_kill (wn:=wn) hr hA h0 hstep rfl rfl (fun E' hw hfz=>?_) hK
  refine ⟨by simp,hc1,by simp [lim];omega,hc2,arr,elem, ?_,by simp [hsz],fun j p hp=>?_⟩
  ·rw [hw];exact heap_alloc_new E.w.drew _
  ·have hget:arr[j]?=(olds++us++(Builtin.zeroCells z.cells (cap' - (xs.length+ys.length))).toList)[j]?:=by rw [← harr];simp
   rw [Nat.zero_add,hget]
   rw [flat_append] at hp
   by_cases hj:j < (flat ty' xs).length
   ·rw [List.getElem?_append_left hj] at hp
    obtain ⟨u,h1,h2⟩:=hold j p hp
    rw [flat_length,← hlo] at hj
    exact ⟨u,by rw [List.append_assoc,List.getElem?_append_left hj];exact h1,h2.mono hfz⟩
   ·rw [List.getElem?_append_right (by omega)] at hp
    obtain ⟨u,h1,h2⟩:=hurd _ p hp
    rw [flat_length,← hlo] at h1 hj
    have hlt:=(List.getElem?_eq_some_iff.1 h1).1
    exact ⟨u,by rw [List.append_assoc,List.getElem?_append_right (by omega),List.getElem?_append_left hlt];exact h1,h2.mono hfz⟩
 rcases hbase with ⟨rfl,hxs,hcp⟩ | ⟨b',rfl,hb'⟩
 ·subst hxs;subst hcp
  simp only [List.length_nil,Nat.zero_add] at hneed hcap fin hlen1 ⊢
  have hol:olds=[]:=List.eq_nil_of_length_eq_zero (by simpa using hlo)
  subst hol
  exact ⟨_,_,run_append_nil (P:=P) E.w t ty elem info z hu hi hz ⟨b,o,none⟩ ys.length c us hul' hucell' hpos (by omega) (by omega),fin _ _ (grownCap_ge _ _ _ _) (grownCap_le_maxLen _ _ _ _ (by simp only [maxLen];omega)) (by simp)⟩
 ·have hlo':olds.length=xs.length * info.size:=by rw [hs];exact hlo
  exact ⟨_,_,run_append_grow (P:=P) E.w t ty elem info z hu hi hz b' xs.length cp olds hlo' hb' ⟨b,o,none⟩ ys.length c us hul' hucell' hcap (by omega) (growslice_fits hcap (by omega)),
   fin _ _ (grownCap_ge _ _ _ _) (grownCap_le_maxLen _ _ _ _ (by simp only [maxLen];omega)) (by simp)⟩
theorem run_append_zeros {P:Program} (w:World) (t tn ty e:TypeId) (i:TypeInfo) (z:Value) (k kn:IntKind) (ht:P.underlying t=some (.slice e)) (htn:P.underlying tn=some (.int kn)) (hi:P.info? e=some i) (hz:i.zero=some z)
 (ba:Option Addr) (n:Nat) (h0:0 < n) (hs:0 < i.size) (h63:(n:Int)≤9223372036854775807) (h48:n * i.bytes≤281474976710656) :
 (Builtin.append_ #[t,tn] ty #[.slice ba 0 0,.int k n]).run P w =
   .ok (.slice (some ⟨w.heap.size,0,none⟩) n (grownCap w n 0 e)) (w.drew.alloc (.cells (Builtin.zeroCells z.cells n++Builtin.zeroCells z.cells (grownCap w n 0 e - n)) e)):=by
 have hn:n≠0:=by omega
 have hw:IntKind.i64.wrap (n:Int)=n:=by rw [IntKind.wrap_i64];omega
 have h63':¬ (9223372036854775807 < (n:Int)):=by omega
 have h48':¬ (281474976710656 < Builtin.nextslicecap n 0 * i.bytes):=by rw [nextslicecap_zero h0];omega
 have h48i:¬ (281474976710656 < (n:Int) * (i.bytes:Int)):=by
  rw [← Int.natCast_mul]
  omega
 have hneg:¬ ((n:Int) < 0):=by omega
 have hns:¬ (n * i.size=0):=Nat.mul_ne_zero hn (by omega)
 have hf:(Builtin.firstCells i.size 0 (.slice ba 0 0)).run P w.drew=.ok #[] w.drew:=by
  cases ba <;> simp [Builtin.firstCells,loadCells,loadCellsFrom]
 simp [Builtin.append_,run_underlying ht,run_underlying htn,sizeOf,typeInfo,zeroValue,hi,hz,asInt,asIntOf,hw,hn,hneg,hns,h63',h48',h48i,Question.forced,hf,newRow,grownCap]
theorem appendZ_ok {t tn:TypeId} {x y:Operand} (hn:OptP r.need) (hr:Ready E n r.news.length) (hA:∃ N,∀ id,E.A id→id < N)
 (hx:RdA E (a.eval x) (e x)) (hy:RdA E (a.eval y) (e y)) (h:appendZ cx P n t tn (e x) (e y)=some r)
 (hK:∀ E' v,Ext E n r wn E'→OptP r.given→RdA E' v r.val→K (a.put dst v) E'.w):∃ v w',(Builtin.append_ #[t,tn] ty #[a.eval x,a.eval y]).run P E.w=.ok v w'∧K (a.put dst v) w':=by
 unfold appendZ at h
 split at h
 ·rename_i elem kn k c hu htn hvx hvy
  split at h
  ·rename_i u z hlook hz
   split at h
   ·rename_i hk
    simp only [Bool.and_eq_true] at hk
    obtain ⟨info,hi,hs⟩:=sizeT_eq hk.1 (size_pos u)
    split at h
    ·rename_i ps ids hd
     split at h
     ·rename_i y' bs hy' hbs
      have hbs':=nlit_eq hbs
      subst hbs'
      have h0:=(Option.some.inj h).symm
      have hr':Ready E n 1:=by rw [h0] at hr;exact hr
      have hn':0 < c∧c * (bytesT P elem:Int)≤(lim:Int)∧c≤(lim:Int):=by rw [h0] at hn;exact hn
      obtain ⟨n1,n2,n3⟩:=hn'
      have hb:bytesT P elem=info.bytes:=by simp [bytesT,hi]
      have hiz:info.zero=some z:=by simpa [zeroT,hi] using hz
      have hlimv:lim=140737488355328:=rfl
      rw [hvx] at hx
      rw [hvy] at hy
      obtain ⟨ba,hvv⟩:=hx.cap0_inv
      have hc:((c.toNat:Nat):Int)=c:=Int.toNat_of_nonneg (by omega)
      have hcb:c.toNat * info.bytes≤lim:=by
       rw [hb,← hc] at n2
       exact Int.ofNat_le.1 (by rw [Int.natCast_mul];exact n2)
      have hpos:=size_pos u
      have hrun:=run_append_zeros (P:=P) E.w t tn ty elem info z k kn hu htn hi hiz ba c.toNat (by omega) (by omega) (by omega) (by omega)
      rw [hc] at hrun
      rw [hvv,hy.int_inv]
      refine ⟨_,_,hrun, ?_⟩
      have hzc:=zero_cells (E:=E) hk.2
      obtain ⟨g1,g2⟩:=downL_ok (ids':=[]) (H:=[]) (E:=E) (fun id _ hne=>absurd rfl hne) (fun id _ hne=>absurd rfl hne) hzc hd (fun id hid=>by
       have:ids=[]:=by
        have:∀ (l:List AV) ps ids,downL [] l=some (ps,ids)→ids=[]:=by
         intro l
         induction l with
         | nil=>intro ps ids h;simp [downL] at h;exact h.2
         | cons x l ih =>
          intro ps ids h
          simp only [downL] at h
          split at h
          ·rename_i p ia qs ib h1 h2
           simp only [Option.some.injEq,Prod.mk.injEq] at h
           obtain ⟨_,rfl⟩:=h
           have hib:=ih _ _ h2
           subst hib
           rw [down_nil1 h1];rfl
          ·cases h
        exact this _ _ _ hd
       subst this;exact hid)
      have hle:=dec_le u ps y' hy'
      have hz':z.cells.size=u.size:=by
       have h1:=hle.get.1
       rw [enc_length] at h1
       simp at g1
       omega
      have hc1:=grownCap_ge E.w c.toNat 0 elem
      have hc2:=grownCap_le_maxLen E.w c.toNat 0 elem (by simp only [maxLen];omega)
      generalize grownCap E.w c.toNat 0 elem=cap' at hc1 hc2 ⊢
      have hzl:z.cells.toList.length=u.size:=by simpa using hz'
      have hget0:∀ j,j < c.toNat * u.size→(Builtin.zeroCells z.cells c.toNat)[j]?=some (z.cells[j % u.size]!):=by
       intro j hj
       simp only [Builtin.zeroCells,hz',Array.getElem?_map,Array.getElem?_range,hj]
       rfl
      have hsz:(Builtin.zeroCells z.cells c.toNat++Builtin.zeroCells z.cells (cap' - c.toNat)).size=cap' * u.size:=by
       simp only [Builtin.zeroCells,hz',Array.size_append,Array.size_map,Array.size_range]
       rw [← Nat.add_mul]
       congr 1
       omega
      have hstep:Step E n r (E.w.drew.alloc (.cells (Builtin.zeroCells z.cells c.toNat++Builtin.zeroCells z.cells (cap' - c.toNat)) elem)) (fun _=>some ⟨E.w.heap.size,0,c.toNat,cap'⟩):=by
       subst h0
       refine ⟨((Below.refl _ _).drew).alloc hr.B _,fun b hb _=>Below.heap_alloc _ _ _ hb, ?_, ?_, ?_, ?_⟩
       ·intro j h _ hj;cases hj;exact ⟨by simp,.inl (Nat.le_refl _)⟩
       ·intro j j' h h' hj hj' _ _ hne;simp at hj hj';omega
       ·intro id hid;cases hid
       ·intro p hp;cases hp
      refine new_row_kill (wn:=wn) hr' hA h0 hstep rfl rfl (fun E' hw hfz=>?_) hK
      refine ⟨by simp,hc1,by simp [lim];omega,hc2,_,elem, ?_,by rw [hsz];simp,fun j p hp=>?_⟩
      ·rw [hw];exact heap_alloc_new E.w.drew _
      ·have hj:j < c.toNat * u.size:=by
        have:=(List.getElem?_eq_some_iff.1 hp).1
        rw [flat_length,List.length_replicate] at this;exact this
       have hp':=flat_replicate u y' _ j p hp
       have hmod:j % u.size < u.size:=Nat.mod_lt _ hpos
       have hu':z.cells.toList[j % u.size]?=some (z.cells.toList[j % u.size]'(by omega)):=List.getElem?_eq_getElem (by omega)
       refine ⟨z.cells.toList[j % u.size]'(by omega), ?_, ?_⟩
       ·rw [Nat.zero_add,Array.getElem?_append_left (by simp only [Builtin.zeroCells,hz',Array.size_map,Array.size_range];exact hj),hget0 j hj,getElem!_pos z.cells _ (by omega)]
        rfl
       ·have hpl:ps[j % u.size]?=some (ps[j % u.size]'(by rw [← g1];omega)):=List.getElem?_eq_getElem (by rw [← g1];omega)
        exact ((g2 _ _ _ hu' hpl).2.le (hle.get.2 _ _ _ hpl hp')).mono (fun b o hb=>by
         rcases hb with hb | ⟨id,hid,_⟩
         ·exact hfz b o hb
         ·cases hid)
     ·cases h
    ·cases h
   ·cases h
  ·cases h
 ·cases h
theorem castL_eq {t u:Ty} {ys:List t.den} {zs:List u.den} (h:castL t u ys=some zs) {v:Value} (hs:Src E t ys v):Src E u zs v:=by
 obtain ⟨e,h⟩:=castL_some h
 subst e
 cases h
 exact hs
theorem append_at {t elem:TypeId} {info:TypeInfo} {z:Value} {u:Ty} {xs zs:List u.den} {x y:Operand} {id:Nat} {hd? : Option Hdr} {q:Option Prop} (hr':Ready E n 1) (hA:∃ N,∀ id,E.A id→id < N) (hWid:∀ id',some id=some id'→E.W id') (hl:E.L id)
 (hu:P.underlying t=some (.slice elem)) (hi:P.info? elem=some info) (hs':info.size=u.size) (hz:info.zero=some z) (hzs':z.cells.size=u.size) (hby':1≤info.bytes)
 (hsrc':Src E u zs (a.eval y)) (hok:RowsAt E u xs hd?) (hown:ownV hd? (a.eval x)) (hblk:∀ hd,hd?=some hd→∃ hd0,E.ρ id=some hd0∧hd0.blk=hd.blk) (hn':(xs.length+zs.length) * info.bytes≤lim)
 (h0:r=⟨q,none,.own n,[.rows u (xs++zs)],some id,none,[]⟩)
 (hK:∀ E' v,Ext E n r wn E'→OptP r.given→RdA E' v r.val→K (a.put dst v) E'.w):∃ v w',(Builtin.append_ #[t,t] ty #[a.eval x,a.eval y]).run P E.w=.ok v w'∧K (a.put dst v) w':=by
 cases hd? with
 | none =>
  obtain ⟨ba,hvv⟩:=hown
  have hxs:xs=[]:=hok
  subst hxs
  rw [hvv]
  by_cases hm:zs=[]
  ·obtain ⟨ba',c,hvy⟩:=src_nil hsrc' hm
   rw [hvy]
   refine ⟨_,_,run_append_zero hu hi (Nat.le_refl _) _, ?_⟩
   have hstep:Step E n r E.w (fun _=>none):=by
    subst h0
    refine ⟨Below.refl _ _,fun b hb _=>rfl, ?_, ?_,hWid, ?_⟩
    ·intro j h _ hj;cases hj
    ·intro j j' h h' _ _ hj;cases hj
    ·intro p hp;cases hp
   exact new_row_kill (wn:=wn) hr' hA h0 hstep ⟨ba,rfl⟩ rfl (fun E' _ _=>by subst hm;rfl) hK
  ·exact grow_ok (xs:=[]) (olds:=[]) hr' hA hWid hu hi hs' hz hzs' hby' (by simp) (fun j p hp=>by simp [flat] at hp)
    (by cases ba with
      | none=>exact .inl ⟨rfl,rfl,rfl⟩
      | some b=>exact .inr ⟨b,rfl,fun j u hu=>by simp at hu⟩) hsrc' hm (by have:=List.length_pos_iff.2 hm;simpa using this) (by simpa using hn') h0 hK
 | some hd =>
  have hvv:a.eval x=.slice (some ⟨hd.blk,hd.off,none⟩) hd.len hd.cap:=hown
  obtain ⟨g1,g2,g3,g3',arr,el,g4,g5,g6⟩:=hok
  have hWi:E.W id:=hWid id rfl
  obtain ⟨hd0,hρ,hb0⟩:=hblk hd rfl
  have hlt:=hr'.lt id hd0 hl hρ
  rw [hb0] at hlt
  rw [hvv]
  by_cases hroom:hd.len+zs.length≤hd.cap
  ·
   by_cases hm:zs=[]
   ·obtain ⟨ba',c,hvy⟩:=src_nil hsrc' hm
    rw [hvy]
    refine ⟨_,_,run_append_zero hu hi g2 _, ?_⟩
    have hstep:Step E n r E.w (fun _=>some hd):=by
     subst h0
     refine ⟨Below.refl _ _,fun b hb _=>rfl, ?_, ?_,hWid, ?_⟩
     ·intro j h _ hj;cases hj;exact ⟨hlt.2,.inr ⟨id,hWi,rfl,.inl ⟨hd0,hρ,hb0⟩⟩⟩
     ·intro j j' h h' hj hj' _ _ hne;simp at hj hj';omega
     ·intro p hp;cases hp
    exact new_row_kill (wn:=wn) hr' hA h0 hstep rfl rfl (fun E' hw hfz=>by
     subst hm
     rw [List.append_nil]
     refine ⟨g1,g2,g3,g3',arr,el,by rw [hw];exact g4,g5,fun j p hp=>?_⟩
     obtain ⟨v,h1,h2⟩:=g6 j p hp
     exact ⟨v,h1,h2.mono hfz⟩) hK
   ·obtain ⟨b,o,c,us,hvy,hul,hucell,hu1,hurd⟩:=src_cells hsrc' hm
    rw [hvy]
    have hmul:(hd.len+zs.length) * u.size≤hd.cap * u.size:=Nat.mul_le_mul_right _ hroom
    rw [Nat.add_mul] at hmul
    have hfit:hd.off+hd.len * info.size+us.length≤arr.size:=by rw [hs',hul];omega
    have hrun:=run_append_room' (P:=P) E.w t ty elem info hu hi hd.blk hd.off hd.len hd.cap arr el g4 ⟨b,o,none⟩ zs.length c us (by rw [hs'];exact hul) (fun j u h=>by rw [addr_add];exact hucell j u h) hu1 hroom hfit
    obtain ⟨arr',harr,hasz,hget⟩ : ∃ arr':Array Value,(arr.toList.take (hd.off+hd.len * info.size)++us++arr.toList.drop (hd.off+hd.len * info.size+us.length)).toArray=arr'∧arr'.size=arr.size ∧
     ∀ j,arr'[j]?=if hd.off+hd.len * u.size≤j∧j < hd.off+hd.len * u.size+us.length then us[j - (hd.off+hd.len * u.size)]? else arr[j]?:=by
     refine ⟨_,rfl, ?_,fun j=>by rw [getElem?_spliced hfit,hs']⟩
     simp only [List.size_toArray,List.length_append,List.length_take,List.length_drop,Array.length_toList]
     omega
    rw [harr] at hrun
    refine ⟨_,_,hrun, ?_⟩
    have hstep:Step E n r (E.w.setRow hd.blk arr') (fun _=>some ⟨hd.blk,hd.off,hd.len+zs.length,hd.cap⟩):=by
     subst h0
     refine ⟨⟨rfl,rfl,rfl,by simp,fun b hb=>setRow_other _ _ _ _ (by omega)⟩,fun b hb hne=>setRow_other _ _ _ _ (fun e=>hne id hWi (.inl rfl) (.inl ⟨hd0,hρ,hb0.trans e.symm⟩)), ?_, ?_,hWid, ?_⟩
     ·intro j h _ hj;cases hj;exact ⟨by simpa using hlt.2,.inr ⟨id,hWi,rfl,.inl ⟨hd0,hρ,hb0⟩⟩⟩
     ·intro j j' h h' hj hj' _ _ hne;simp at hj hj';omega
     ·intro p hp;cases hp
    refine new_row_kill (wn:=wn) hr' hA h0 hstep rfl rfl (fun E' hw hfz=>?_) hK
    have hlen1:1 * (xs.length+zs.length)≤(xs.length+zs.length) * info.bytes:=by rw [Nat.mul_comm];exact Nat.mul_le_mul_left _ hby'
    refine ⟨by simp [g1],hroom,by simp only;omega,g3',arr',el,by rw [hw];exact setRow_heap _ _ arr _ el _ g4,by rw [hasz];exact g5,fun j p hp=>?_⟩
    simp only
    rw [hget]
    rw [flat_append] at hp
    have hfl:(flat u xs).length=hd.len * u.size:=by rw [flat_length,g1]
    by_cases hj:j < (flat u xs).length
    ·rw [List.getElem?_append_left hj] at hp
     rw [if_neg (by omega)]
     obtain ⟨v,h1,h2⟩:=g6 j p hp
     exact ⟨v,h1,h2.mono hfz⟩
    ·rw [List.getElem?_append_right (by omega)] at hp
     obtain ⟨v,h1,h2⟩:=hurd _ p hp
     have hlt:=(List.getElem?_eq_some_iff.1 h1).1
     rw [hfl] at h1 hlt hj
     rw [if_pos (by omega)]
     exact ⟨v,by rw [← h1];congr 1;omega,h2.mono hfz⟩
  ·have hm:zs≠[]:=by rintro rfl;simp at hroom;omega
   have hsrcx:Src E u xs (a.eval x):=by
    rw [hvv]
    refine src_range (m:=0) (by rw [g1]) (lim_big (by omega)) (fun j p hp=>?_) rfl
    obtain ⟨v,h1,h2⟩:=g6 j p hp
    exact ⟨v,by simp [World.cell?,g4,h1],h2⟩
   by_cases hxs:xs=[]
   ·subst hxs
    have h00:hd.len=0:=by simpa using g1
    rw [h00]
    exact grow_ok (xs:=[]) (olds:=[]) (cp:=hd.cap) hr' hA hWid hu hi hs' hz hzs' hby' (by simp) (fun j p hp=>by simp [flat] at hp)
     (.inr ⟨_,rfl,fun j u hu=>by simp at hu⟩) hsrc' hm (by simp;omega) (by simpa using hn') h0 hK
   ·obtain ⟨b,o,c,us,hvx2,hul,hucell,hu1,hurd⟩:=src_cells hsrcx hxs
    rw [hvv] at hvx2
    simp only [Value.slice.injEq,Option.some.injEq,Addr.mk.injEq,and_true] at hvx2
    obtain ⟨⟨hb1,hb2⟩,hb3,hb4⟩:=hvx2
    rw [g1]
    exact grow_ok (xs:=xs) (olds:=us) (cp:=hd.cap) hr' hA hWid hu hi hs' hz hzs' hby' hul hurd
     (.inr ⟨_,rfl,fun j w hw=>by rw [addr_add,hb1,hb2];exact hucell j w hw⟩) hsrc' hm (by omega) hn' h0 hK
theorem append0_ok {t elem:TypeId} {x y:Operand} (hn:OptP r.need) (hr:Ready E n r.news.length) (hA:∃ N,∀ id,E.A id→id < N) (hL:∀ id,E.A id→getOb H id≠.dead→E.L id) (hH:∀ id,E.L id→getOb H id≠.dead→OkOb E id (getOb H id))
 (hW:∀ id,r.kill=some id→E.W id) (hx:RdA E (a.eval x) (e x)) (hy:RdA E (a.eval y) (e y)) (hu:P.underlying t=some (.slice elem)) (h:appendV0 P H n elem (e x) (e y)=some r)
 (hK:∀ E' v,Ext E n r wn E'→OptP r.given→RdA E' v r.val→K (a.put dst v) E'.w):∃ v w',(Builtin.append_ #[t,t] ty #[a.eval x,a.eval y]).run P E.w=.ok v w'∧K (a.put dst v) w':=by
 unfold appendV0 at h
 split at h
 ·split at h
  ·cases h
  rename_i info hi
  have same:∀ (w:AV),r=Res.pure w→RdA E (a.eval x) w→(∃ ba len c,a.eval x=.slice ba len c∧len≤c)→(∃ ba c,a.eval y=.slice ba 0 c)→∃ v w',(Builtin.append_ #[t,t] ty #[a.eval x,a.eval y]).run P E.w=.ok v w'∧K (a.put dst v) w':=by
   rintro w rfl hxw ⟨ba,len,c,hvx,hle⟩ ⟨ba',c',hvy⟩
   refine ⟨_,_, ?_,hK E (a.eval x) (Ext.idle hr rfl rfl rfl rfl) trivial hxw⟩
   rw [hvx,hvy]
   exact run_append_zero hu hi hle _
  split at h
  ·rename_i hvy hvx
   rw [hvy] at hy;rw [hvx] at hx
   obtain ⟨ba,hb⟩:=hx.cap0_inv
   obtain ⟨ba',hb'⟩:=hy.cap0_inv
   exact same _ (Option.some.inj h).symm hx ⟨_,_,_,hb,Nat.le_refl _⟩ ⟨_,_,hb'⟩
  ·rename_i hvy hvx
   rw [hvy] at hy;rw [hvx] at hx
   obtain ⟨ba,hb⟩:=hx.cap0_inv
   obtain ⟨ba',c,hb'⟩:=hy.nils_inv
   exact same _ (Option.some.inj h).symm hx ⟨_,_,_,hb,Nat.le_refl _⟩ ⟨_,_,hb'⟩
  ·rename_i id hvy hvx
   rw [hvy] at hy;rw [hvx] at hx
   obtain ⟨ba',hb'⟩:=hy.cap0_inv
   split at h
   ·rename_i t' xs hob
    have hne:getOb H id≠.dead:=by rw [hob];simp
    have hl:=hL id hx.own_inv.1 hne
    have hok:=hH id hl hne
    rw [hob] at hok
    exact same _ (Option.some.inj h).symm hx (ownV_slice (hx.own_inv.2.2 hl) (rowsAt_le hok)) ⟨_,_,hb'⟩
   ·cases h
  ·rename_i id hvy hvx
   rw [hvy] at hy;rw [hvx] at hx
   obtain ⟨ba',c,hb'⟩:=hy.nils_inv
   split at h
   ·rename_i t' xs hob
    have hne:getOb H id≠.dead:=by rw [hob];simp
    have hl:=hL id hx.own_inv.1 hne
    have hok:=hH id hl hne
    rw [hob] at hok
    exact same _ (Option.some.inj h).symm hx (ownV_slice (hx.own_inv.2.2 hl) (rowsAt_le hok)) ⟨_,_,hb'⟩
   ·cases h
  ·cases h
 ·rename_i t' ys hcon
  have hsrc:=content_ok hL hH hy hcon
  split at h
  ·rename_i hcond
   simp only [Bool.and_eq_true] at hcond
   obtain ⟨⟨hk,hzz⟩,hby⟩:=hcond
   obtain ⟨info,hi,hs⟩:=sizeT_eq hk (size_pos t')
   have hb:bytesT P elem=info.bytes:=by simp [bytesT,hi]
   have hby':1≤info.bytes:=by rw [← hb];exact Nat.le_of_ble_eq_true hby
   obtain ⟨z,hz,hzs⟩ : ∃ z,info.zero=some z∧z.cells.size=t'.size:=by
    unfold zeroFits at hzz
    cases hzt:zeroT P elem with
    | none=>simp [hzt] at hzz
    | some z =>
     simp only [hzt] at hzz
     exact ⟨z,by simpa [zeroT,hi] using hzt,Nat.eq_of_beq_eq_true hzz⟩
   cases hbs:nlit (bytesT P elem) sizes with
   | none=>rw [hbs] at h;cases h
   | some bs =>
   rw [hbs] at h
   have hbs':=nlit_eq hbs
   subst hbs'
   simp only at h
   split at h
   ·rename_i hvx
    rw [hvx] at hx
    obtain ⟨ba,hvv⟩:=hx.cap0_inv
    have h0:=(Option.some.inj h).symm
    have hr':Ready E n 1:=by rw [h0] at hr;exact hr
    have hn':ys.length * info.bytes≤lim:=by rw [h0] at hn;rw [← hb];exact hn
    rw [hvv]
    by_cases hm:ys=[]
    ·obtain ⟨ba',c,hvy⟩:=src_nil hsrc hm
     rw [hvy]
     refine ⟨_,_,run_append_zero hu hi (Nat.le_refl _) _, ?_⟩
     have hstep:Step E n r E.w (fun _=>none):=by
      subst h0
      refine ⟨Below.refl _ _,fun b hb _=>rfl, ?_, ?_, ?_, ?_⟩
      ·intro j h _ hj;cases hj
      ·intro j j' h h' _ _ hj;cases hj
      ·intro id hid;cases hid
      ·intro p hp;cases hp
     exact new_row_kill (wn:=wn) hr' hA h0 hstep ⟨ba,rfl⟩ rfl (fun E' _ _=>hm) hK
    ·exact grow_ok (xs:=[]) (olds:=[]) hr' hA (fun id hid=>by cases hid) hu hi hs hz hzs hby' (by simp) (fun j p hp=>by simp [flat] at hp)
      (by cases ba with
        | none=>exact .inl ⟨rfl,rfl,rfl⟩
        | some b=>exact .inr ⟨b,rfl,fun j u hu=>by simp at hu⟩) hsrc hm (by have:=List.length_pos_iff.2 hm;simpa using this) (by simpa using hn') h0 hK
   ·rename_i id hvx
    rw [hvx] at hx
    split at h
    ·rename_i u xs hob
     split at h
     ·rename_i zs hcast
      have hsrc':=castL_eq hcast hsrc
      obtain ⟨hteq,_⟩:=castL_some hcast
      have h0:=(Option.some.inj h).symm
      have hr':Ready E n 1:=by rw [h0] at hr;exact hr
      have hn':(xs.length+zs.length) * info.bytes≤lim:=by rw [h0] at hn;rw [← hb];exact hn
      have hs':info.size=u.size:=by rw [hs,hteq]
      have hzs':z.cells.size=u.size:=by rw [hzs,hteq]
      have hne:getOb H id≠.dead:=by rw [hob];simp
      have hl:=hL id hx.own_inv.1 hne
      have hok:RowsAt E u xs (E.ρ id):=by
       have:=hH id hl hne
       rw [hob] at this
       exact this
      have hWid:∀ id',some id=some id'→E.W id':=by rw [h0] at hW;exact hW
      have hown:=hx.own_inv.2.2 hl
      exact append_at hr' hA hWid hl hu hi hs' hz hzs' hby' hsrc' hok hown (fun hd hhd=>⟨hd,hhd,rfl⟩) hn' h0 hK
     ·cases h
    ·cases h
   ·rename_i id k lo len hvx
    rw [hvx] at hx
    split at h
    ·rename_i u xs hob
     split at h
     ·rename_i hk
      split at h
      ·rename_i zs hcast
       have hk':=Nat.eq_of_beq_eq_true hk
       have hsrc':=castL_eq hcast hsrc
       obtain ⟨hteq,_⟩:=castL_some hcast
       have h0:=(Option.some.inj h).symm
       have hr':Ready E n 1:=by rw [h0] at hr;exact hr
       have hn':(((xs.drop lo).take len).length+zs.length) * info.bytes≤lim:=by rw [h0] at hn;rw [← hb];exact hn
       have hs':info.size=u.size:=by rw [hs,hteq]
       have hzs':z.cells.size=u.size:=by rw [hzs,hteq]
       have hne:getOb H id≠.dead:=by rw [hob];simp
       have hl:=hL id hx.ownp_inv.1 hne
       have hok:RowsAt E u xs (E.ρ id):=by
        have:=hH id hl hne
        rw [hob] at this
        exact this
       have hWid:∀ id',some id=some id'→E.W id':=by rw [h0] at hW;exact hW
       have hown:=hx.ownp_inv.2.2 hl
       cases hρ:E.ρ id with
       | none =>
        rw [hρ] at hown
        obtain ⟨h00,ba,hv⟩:=hown
        subst h00
        exact append_at (hd?:=none) hr' hA hWid hl hu hi hs' hz hzs' hby' hsrc' (by simp [RowsAt]) ⟨ba,hv⟩ (fun hd hhd=>by cases hhd) hn' h0 hK
       | some hd =>
        rw [hρ] at hown hok
        obtain ⟨h1,o,c,hv,h2,h3,h4⟩:=hown
        obtain ⟨g1,g2,g3,g3',arr,el,g4,g5,g6⟩:=hok
        have hlen:((xs.drop lo).take len).length=len:=by rw [List.length_take,List.length_drop];omega
        refine append_at (hd?:=some ⟨hd.blk,o,len,c⟩) hr' hA hWid hl hu hi hs' hz hzs' hby' hsrc' ⟨hlen.symm,h2,by simp only;omega,by simp only;omega,arr,el,g4, ?_,fun j p hp=>?_⟩ hv (fun hd' hhd=>by cases hhd;exact ⟨hd,hρ,rfl⟩) hn' h0 hK
        ·simp only
         rcases h4 with rfl | ⟨rfl,h4⟩
         ·have hcm:(lo+c) * u.size≤hd.cap * u.size:=Nat.mul_le_mul_right _ (by omega)
          rw [Nat.add_mul] at hcm
          rw [hk']
          omega
         ·rw [hk'] at h4
          rw [Nat.zero_mul];omega
        ·have hj:j < len * u.size:=by
          have:=(List.getElem?_eq_some_iff.1 hp).1
          rw [flat_length,hlen] at this;exact this
         have ho:o=hd.off+lo * k:=h4.resolve_right (fun hc=>by
          have:len=0:=by omega
          rw [this,Nat.zero_mul] at hj;omega)
         rw [flat_take,flat_drop,List.getElem?_take_of_lt hj,List.getElem?_drop] at hp
         obtain ⟨v,hv1,hv2⟩:=g6 _ p hp
         refine ⟨v, ?_,hv2⟩
         simp only
         rw [← hv1,ho,hk',Nat.add_assoc]
      ·cases h
     ·cases h
    ·cases h
   ·cases h
  ·cases h
theorem appendP_ok {t elem:TypeId} {x y:Operand} (hn:OptP r.need) (hr:Ready E n r.news.length) (hA:∃ N,∀ id,E.A id→id < N) (hL:∀ id,E.A id→getOb H id≠.dead→E.L id) (hH:∀ id,E.L id→getOb H id≠.dead→OkOb E id (getOb H id))
 (hWs:∀ q,r.st=some q→E.W q.1) (hx:RdA E (a.eval x) (e x)) (hy:RdA E (a.eval y) (e y)) (hu:P.underlying t=some (.slice elem)) (h:appendP P H elem (e x) (e y)=some r)
 (hK:∀ E' v,Ext E n r wn E'→OptP r.given→RdA E' v r.val→K (a.put dst v) E'.w):∃ v w',(Builtin.append_ #[t,t] ty #[a.eval x,a.eval y]).run P E.w=.ok v w'∧K (a.put dst v) w':=by
 unfold appendP at h
 split at h
 ·rename_i id k lo len t' ys hvx hcont
  rw [hvx] at hx
  have hsrc:=content_ok hL hH hy hcont
  split at h
  ·rename_i u xs hob
   split at h
   ·rename_i hk
    simp only [Bool.and_eq_true] at hk
    obtain ⟨info,hi,hs⟩:=sizeT_eq hk.1 (size_pos u)
    have hk2:=Nat.eq_of_beq_eq_true hk.2
    subst hk2
    split at h
    ·rename_i zs hz
     have h0:=(Option.some.inj h).symm
     have hsrc':=castL_eq hz hsrc
     have hroom:lo+len+zs.length≤xs.length:=by rw [h0] at hn;exact hn
     have hne:getOb H id≠.dead:=by rw [hob];simp
     have hl:=hL id hx.ownp_inv.1 hne
     have hok:RowsAt E u xs (E.ρ id):=by
      have:=hH id hl hne
      rw [hob] at this
      exact this
     have hown:=hx.ownp_inv.2.2 hl
     have hWi:E.W id:=hWs _ (by rw [h0])
     subst h0
     by_cases hm:zs=[]
     ·obtain ⟨ba',c',hvy⟩:=src_nil hsrc' hm
      obtain ⟨ba,c,hvv,hcc⟩ : ∃ ba c,a.eval x=.slice ba len c∧len≤c:=by
       cases hρ:E.ρ id with
       | none =>
        rw [hρ] at hown
        obtain ⟨h1,ba,h2⟩:=hown
        subst h1
        exact ⟨ba,0,h2,Nat.le_refl _⟩
       | some hd =>
        rw [hρ] at hown
        obtain ⟨h1,o,c,h2,h3,_⟩:=hown
        exact ⟨_,c,h2,h3⟩
      rw [hvv,hvy]
      refine ⟨_,_,run_append_zero hu hi hcc _, ?_⟩
      subst hm
      have hstep:Step E n ⟨some (lo+len+([]:List u.den).length≤xs.length),none,.ownp id u.size lo (len+([]:List u.den).length),[],none,some (id,.rows u (xs.take (lo+len)++([]++xs.drop (lo+len+([]:List u.den).length)))),[]⟩ E.w (fun _=>none):=by
       refine ⟨Below.refl _ _,fun b hb _=>rfl, ?_, ?_,fun i hi=>(by cases hi),fun p hp=>(by cases hp;exact hWi)⟩
       ·intro j h hj;simp at hj
       ·intro j j' h h' hj;simp at hj
      have hxx:=hstep.ext (wn:=wn) hr hA (fun _ j ob hj=>by simp at hj) (fun hevo i ob hi=>by
       cases hi
       show RowsAt _ u _ _
       have hρ2:(E.ext n (List.length ([]:List Ob)) none [] wn E.w (fun _=>none)).ρ id=E.ρ id:=by
        simp only [Env.ext];rw [if_neg (by simp)]
       rw [hρ2]
       have e1:xs.take (lo+len)++([]++xs.drop (lo+len+([]:List u.den).length))=xs:=by simp
       rw [e1]
       exact (RowsAt.mono (o:=E.ρ id) (hevo 0).fz (fun _ _=>rfl) hok))
      refine hK (E.ext n (List.length ([]:List Ob)) none [] wn E.w (fun _=>none)) _ hxx trivial ?_
      obtain ⟨N,hN⟩:=hA
      have hx2:=hx.mono (hxx.evo N) hN
      rw [hvv] at hx2
      simpa using hx2
     ·obtain ⟨b,o2,c2,us,hvy,hul,hucell,hu1,hurd⟩:=src_cells hsrc' hm
      have hzl:=List.length_pos_iff.2 hm
      cases hρ:E.ρ id with
      | none =>
       rw [hρ] at hok
       have:xs=[]:=hok
       subst this
       simp only [List.length_nil] at hroom
       omega
      | some hd =>
       rw [hρ] at hown hok
       obtain ⟨q1,o,c,hvv,q2,q3,q4⟩:=hown
       obtain ⟨g1,g2,g3,g3',arr,el,g4,g5,g6⟩:=hok
       have ho:o=hd.off+lo * u.size:=q4.resolve_right (fun hc=>by omega)
       subst ho
       rw [hvv,hvy]
       have hlen:hd.len=xs.length:=g1
       have hmul:(lo+len+zs.length) * u.size≤hd.cap * u.size:=Nat.mul_le_mul_right _ (by omega)
       rw [Nat.add_mul,Nat.add_mul] at hmul
       have hfit:hd.off+lo * u.size+len * info.size+us.length≤arr.size:=by rw [hs,hul];omega
       have hrun:=run_append_room' (P:=P) E.w t ty elem info hu hi hd.blk (hd.off+lo * u.size) len c arr el g4 ⟨b,o2,none⟩ zs.length c2 us (by rw [hs];exact hul) (fun j u h=>by rw [addr_add];exact hucell j u h) hu1 (by omega) hfit
       obtain ⟨arr',harr,hasz,hget⟩ : ∃ arr':Array Value,(arr.toList.take (hd.off+lo * u.size+len * info.size)++us++arr.toList.drop (hd.off+lo * u.size+len * info.size+us.length)).toArray=arr'∧arr'.size=arr.size ∧
        ∀ j,arr'[j]?=if hd.off+lo * u.size+len * u.size≤j∧j < hd.off+lo * u.size+len * u.size+us.length then us[j - (hd.off+lo * u.size+len * u.size)]? else arr[j]?:=by
        refine ⟨_,rfl, ?_,fun j=>by rw [getElem?_spliced hfit,hs]⟩
        simp only [List.size_toArray,List.length_append,List.length_take,List.length_drop,Array.length_toList]
        omega
       rw [harr] at hrun
       refine ⟨_,_,hrun, ?_⟩
       let r0:Res:=⟨some (lo+len+zs.length≤xs.length),none,.ownp id u.size lo (len+zs.length),[],none,some (id,.rows u (xs.take (lo+len)++(zs++xs.drop (lo+len+zs.length)))),[]⟩
       have hstep:Step E n r0 (E.w.setRow hd.blk arr') (fun _=>none):=step_set (by simpa using hr) rfl rfl rfl hWi hρ _
       have hρ2:(E.ext n r0.news.length r0.kill r0.frz wn (E.w.setRow hd.blk arr') (fun _=>none)).ρ id=some hd:=by
        simp only [Env.ext];rw [if_neg (by simp [r0])];exact hρ
       have hxx:=hstep.ext (wn:=wn) hr hA (fun _ j ob hj=>by simp [r0] at hj) (fun hevo i ob hi=>by
        cases hi
        show RowsAt _ u _ _
        rw [hρ2]
        have hln:(xs.take (lo+len)++(zs++xs.drop (lo+len+zs.length))).length=xs.length:=by
         simp only [List.length_append,List.length_take,List.length_drop];omega
        refine ⟨by rw [hln];exact g1,g2,g3,g3',arr',el,setRow_heap _ _ arr _ el _ g4,by rw [hasz];exact g5,fun j p hp=>?_⟩
        rw [hget]
        have f1:(flat u (xs.take (lo+len))).length=lo * u.size+len * u.size:=by
         rw [flat_length,List.length_take,Nat.min_eq_left (by omega),Nat.add_mul]
        have f2:(flat u zs).length=us.length:=by rw [flat_length,hul]
        rw [flat_append,flat_append] at hp
        by_cases hj:j < lo * u.size+len * u.size
        ·rw [List.getElem?_append_left (by omega)] at hp
         rw [if_neg (by omega)]
         rw [flat_take] at hp
         have hjj:j < (lo+len) * u.size:=by rw [Nat.add_mul];exact hj
         rw [List.getElem?_take_of_lt hjj] at hp
         obtain ⟨v,k1,k2⟩:=g6 j p hp
         exact ⟨v,k1,k2.mono (hevo 0).fz⟩
        ·rw [List.getElem?_append_right (by omega),f1] at hp
         by_cases hj2:j - (lo * u.size+len * u.size) < us.length
         ·rw [List.getElem?_append_left (by omega)] at hp
          obtain ⟨v,k1,k2⟩:=hurd _ p hp
          rw [if_pos (by omega)]
          exact ⟨v,by rw [← k1];congr 1;omega,k2.mono (hevo 0).fz⟩
         ·rw [List.getElem?_append_right (by omega),f2,flat_drop,List.getElem?_drop] at hp
          rw [if_neg (by omega)]
          have hidx:(lo+len+zs.length) * u.size+(j - (lo * u.size+len * u.size) - us.length)=j:=by
           rw [Nat.add_mul,Nat.add_mul,← hul];omega
          rw [hidx] at hp
          obtain ⟨v,k1,k2⟩:=g6 j p hp
          exact ⟨v,k1,k2.mono (hevo 0).fz⟩)
       refine hK _ _ hxx trivial (.ownp _ id u.size lo (len+zs.length) ((hxx.A id).2 (.inl hx.ownp_inv.1)) rfl fun _=>?_)
       rw [hρ2]
       exact ⟨by omega,hd.off+lo * u.size,c,rfl,by omega,q3,.inl rfl⟩
    ·cases h
   ·cases h
  ·cases h
 ·cases h
theorem append_ok {t elem:TypeId} {x y:Operand} (hn:OptP r.need) (hr:Ready E n r.news.length) (hA:∃ N,∀ id,E.A id→id < N) (hL:∀ id,E.A id→getOb H id≠.dead→E.L id) (hH:∀ id,E.L id→getOb H id≠.dead→OkOb E id (getOb H id))
 (hW:∀ id,r.kill=some id→E.W id) (hWs:∀ q,r.st=some q→E.W q.1) (hx:RdA E (a.eval x) (e x)) (hy:RdA E (a.eval y) (e y)) (hu:P.underlying t=some (.slice elem)) (h:appendV P H n elem (e x) (e y)=some r)
 (hK:∀ E' v,Ext E n r wn E'→OptP r.given→RdA E' v r.val→K (a.put dst v) E'.w):∃ v w',(Builtin.append_ #[t,t] ty #[a.eval x,a.eval y]).run P E.w=.ok v w'∧K (a.put dst v) w':=by
 unfold appendV at h
 split at h
 ·exact appendP_ok hn hr hA hL hH hWs hx hy hu h hK
 split at h
 ·rename_i id k lo len hvx
  rw [hvx] at hx
  unfold appendC at h
  split at h
  ·cases h
  ·rename_i t' ys hcont
   have hsrc:=content_ok hL hH hy hcont
   split at h
   ·rename_i u xs hob
    split at h
    ·rename_i hk
     simp only [Bool.and_eq_true] at hk
     obtain ⟨info,hi,hs⟩:=sizeT_eq hk.1 (size_pos u)
     have hk2:=Nat.eq_of_beq_eq_true hk.2
     subst hk2
     split at h
     ·rename_i zs hz
      have h0:=(Option.some.inj h).symm
      have hsrc':=castL_eq hz hsrc
      have hroom:lo+len+zs.length≤xs.length:=by rw [h0] at hn;exact hn
      have hne:getOb H id≠.dead:=by rw [hob];simp
      have hl:=hL id hx.ownc_inv.1 hne
      have hok:=hH id hl hne
      rw [hob] at hok
      obtain ⟨hd,hρ,h1,hvv⟩:=hx.ownc_inv.2.2 hl
      have hrow:RowsAt E u xs (some hd):=by rw [← hρ];exact hok
      obtain ⟨g1,g2,g3,g3',arr,el,g4,g5,g6⟩:=hrow
      have hWi:E.W id:=hWs _ (by rw [h0])
      have hlt:=hr.lt id hd hl hρ
      rw [hvv]
      subst h0
      by_cases hm:zs=[]
      ·obtain ⟨ba',c,hvy⟩:=src_nil hsrc' hm
       rw [hvy]
       refine ⟨_,_,run_append_zero hu hi (by omega) _, ?_⟩
       subst hm
       have hstep:Step E n ⟨some (lo+len+([]:List u.den).length≤xs.length),none,.ownc id u.size lo (len+([]:List u.den).length),[],none,some (id,.rows u (xs.take (lo+len)++([]++xs.drop (lo+len+([]:List u.den).length)))),[]⟩ E.w (fun _=>none):=by
        refine ⟨Below.refl _ _,fun b hb _=>rfl, ?_, ?_,fun i hi=>(by cases hi),fun p hp=>(by cases hp;exact hWi)⟩
        ·intro j h hj;simp at hj
        ·intro j j' h h' hj;simp at hj
       have hxx:=hstep.ext (wn:=wn) hr hA (fun _ j ob hj=>by simp at hj) (fun hevo i ob hi=>by
        cases hi
        show RowsAt _ u _ _
        have hρ2:(E.ext n (List.length ([]:List Ob)) none [] wn E.w (fun _=>none)).ρ id=some hd:=by
         simp only [Env.ext];rw [if_neg (by simp)];exact hρ
        rw [hρ2]
        have e1:xs.take (lo+len)++([]++xs.drop (lo+len+([]:List u.den).length))=xs:=by simp
        rw [e1]
        exact (RowsAt.mono (o:=some hd) (hevo 0).fz (fun _ _=>rfl) ⟨g1,g2,g3,g3',arr,el,g4,g5,g6⟩))
       refine hK (E.ext n (List.length ([]:List Ob)) none [] wn E.w (fun _=>none)) _ hxx trivial ?_
       obtain ⟨N,hN⟩:=hA
       have hx2:=hx.mono (hxx.evo N) hN
       rw [hvv] at hx2
       simpa using hx2
      ·obtain ⟨b,o,c,us,hvy,hul,hucell,hu1,hurd⟩:=src_cells hsrc' hm
       rw [hvy]
       have hlen:hd.len=xs.length:=g1
       have hmul:(lo+len+zs.length) * u.size≤hd.cap * u.size:=Nat.mul_le_mul_right _ (by omega)
       rw [Nat.add_mul,Nat.add_mul] at hmul
       have hfit:hd.off+lo * u.size+len * info.size+us.length≤arr.size:=by rw [hs,hul];omega
       have hrun:=run_append_room' (P:=P) E.w t ty elem info hu hi hd.blk (hd.off+lo * u.size) len (hd.len - lo) arr el g4 ⟨b,o,none⟩ zs.length c us (by rw [hs];exact hul) (fun j u h=>by rw [addr_add];exact hucell j u h) hu1 (by omega) hfit
       obtain ⟨arr',harr,hasz,hget⟩ : ∃ arr':Array Value,(arr.toList.take (hd.off+lo * u.size+len * info.size)++us++arr.toList.drop (hd.off+lo * u.size+len * info.size+us.length)).toArray=arr'∧arr'.size=arr.size ∧
        ∀ j,arr'[j]?=if hd.off+lo * u.size+len * u.size≤j∧j < hd.off+lo * u.size+len * u.size+us.length then us[j - (hd.off+lo * u.size+len * u.size)]? else arr[j]?:=by
        refine ⟨_,rfl, ?_,fun j=>by rw [getElem?_spliced hfit,hs]⟩
        simp only [List.size_toArray,List.length_append,List.length_take,List.length_drop,Array.length_toList]
        omega
       rw [harr] at hrun
       refine ⟨_,_,hrun, ?_⟩
       let r0:Res:=⟨some (lo+len+zs.length≤xs.length),none,.ownc id u.size lo (len+zs.length),[],none,some (id,.rows u (xs.take (lo+len)++(zs++xs.drop (lo+len+zs.length)))),[]⟩
       have hstep:Step E n r0 (E.w.setRow hd.blk arr') (fun _=>none):=step_set (by simpa using hr) rfl rfl rfl hWi hρ _
       have hρ2:(E.ext n r0.news.length r0.kill r0.frz wn (E.w.setRow hd.blk arr') (fun _=>none)).ρ id=some hd:=by
        simp only [Env.ext];rw [if_neg (by simp [r0])];exact hρ
       have hxx:=hstep.ext (wn:=wn) hr hA (fun _ j ob hj=>by simp [r0] at hj) (fun hevo i ob hi=>by
        cases hi
        show RowsAt _ u _ _
        rw [hρ2]
        have hln:(xs.take (lo+len)++(zs++xs.drop (lo+len+zs.length))).length=xs.length:=by
         simp only [List.length_append,List.length_take,List.length_drop];omega
        refine ⟨by rw [hln];exact g1,g2,g3,g3',arr',el,setRow_heap _ _ arr _ el _ g4,by rw [hasz];exact g5,fun j p hp=>?_⟩
        rw [hget]
        have f1:(flat u (xs.take (lo+len))).length=lo * u.size+len * u.size:=by
         rw [flat_length,List.length_take,Nat.min_eq_left (by omega),Nat.add_mul]
        have f2:(flat u zs).length=us.length:=by rw [flat_length,hul]
        rw [flat_append,flat_append] at hp
        by_cases hj:j < lo * u.size+len * u.size
        ·rw [List.getElem?_append_left (by omega)] at hp
         rw [if_neg (by omega)]
         rw [flat_take] at hp
         have hjj:j < (lo+len) * u.size:=by rw [Nat.add_mul];exact hj
         rw [List.getElem?_take_of_lt hjj] at hp
         obtain ⟨v,k1,k2⟩:=g6 j p hp
         exact ⟨v,k1,k2.mono (hevo 0).fz⟩
        ·rw [List.getElem?_append_right (by omega),f1] at hp
         by_cases hj2:j - (lo * u.size+len * u.size) < us.length
         ·rw [List.getElem?_append_left (by omega)] at hp
          obtain ⟨v,k1,k2⟩:=hurd _ p hp
          rw [if_pos (by omega)]
          exact ⟨v,by rw [← k1];congr 1;omega,k2.mono (hevo 0).fz⟩
         ·rw [List.getElem?_append_right (by omega),f2,flat_drop,List.getElem?_drop] at hp
          rw [if_neg (by omega)]
          have hidx:(lo+len+zs.length) * u.size+(j - (lo * u.size+len * u.size) - us.length)=j:=by
           rw [Nat.add_mul,Nat.add_mul,← hul];omega
          rw [hidx] at hp
          obtain ⟨v,k1,k2⟩:=g6 j p hp
          exact ⟨v,k1,k2.mono (hevo 0).fz⟩)
       refine hK _ _ hxx trivial (.ownc _ id u.size lo (len+zs.length) ((hxx.A id).2 (.inl hx.ownc_inv.1)) rfl fun _=>⟨hd,hρ2,by omega,rfl⟩)
     ·cases h
    ·cases h
   ·cases h
 ·rename_i u xs hvx
  rw [hvx] at hx
  unfold appendF at h
  split at h
  ·cases h
  ·rename_i t' ys hcont
   have hsrc:=content_ok hL hH hy hcont
   split at h
   ·rename_i hk
    simp only [Bool.and_eq_true] at hk
    obtain ⟨⟨hk1,hzf⟩,hby⟩:=hk
    obtain ⟨info,hi,hs⟩:=sizeT_eq hk1 (size_pos u)
    split at h
    ·rename_i bs zs hbs hz
     have hbs':=nlit_eq hbs
     subst hbs'
     have h0:=(Option.some.inj h).symm
     have hsrc':=castL_eq hz hsrc
     have hn':zs≠[]∧(xs.length+zs.length) * bytesT P elem≤lim:=by rw [h0] at hn;exact hn
     obtain ⟨hm,hlim⟩:=hn'
     obtain ⟨z,hzt,hzs⟩ : ∃ z,zeroT P elem=some z∧z.cells.size=u.size:=by
      unfold zeroFits at hzf
      split at hzf
      ·rename_i z hz;exact ⟨z,hz,Nat.eq_of_beq_eq_true hzf⟩
      ·cases hzf
     have hb:bytesT P elem=info.bytes:=by simp [bytesT,hi]
     have hiz:info.zero=some z:=by simpa [zeroT,hi] using hzt
     obtain ⟨⟨ba,hvv⟩,hp⟩:=hx.slf_inv
     rw [hvv] at hp
     rw [hvv]
     have hr':Ready E n 1:=by rw [h0] at hr;exact hr
     rcases hp.sl_inv with ⟨hnil,ba',c',hv'⟩ | ⟨b,o,c,g,hv',hc,hl,hcell,hrd⟩
     ·subst hnil
      exact grow_ok (xs:=[]) (olds:=[]) (kill:=none) hr' hA (fun _ h=>by cases h) hu hi hs hiz hzs (by rw [← hb];exact Nat.le_of_ble_eq_true hby) (by simp) (fun j p hp=>by simp [flat] at hp)
       (by cases ba with
         | none=>exact .inl ⟨rfl,rfl,rfl⟩
         | some b=>exact .inr ⟨b,rfl,fun j u hu=>by simp at hu⟩) hsrc' hm (by have:=List.length_pos_iff.2 hm;simpa using this) (by rw [← hb];exact hlim) h0 hK
     ·simp only [Value.slice.injEq] at hv'
      obtain ⟨hba,_,_⟩:=hv'
      subst hba
      refine grow_ok (xs:=xs) (olds:=(List.range (flat u xs).length).map g) (kill:=none) hr' hA (fun _ h=>by cases h) hu hi hs hiz hzs (by rw [← hb];exact Nat.le_of_ble_eq_true hby) (by simp [flat_length]) (fun j p hp=>?_)
       (.inr ⟨_,rfl,fun j w hw=>?_⟩) hsrc' hm (by have:=List.length_pos_iff.2 hm;omega) (by rw [← hb];exact hlim) h0 hK
      ·have hj:=(List.getElem?_eq_some_iff.1 hp).1
       exact ⟨g j,by simp [hj],hrd j p hp⟩
      ·have hj:j < (flat u xs).length:=by
        have:=(List.getElem?_eq_some_iff.1 hw).1
        simpa using this
       have:w=g j:=by simp [hj] at hw;exact hw.symm
       rw [this,addr_add]
       exact (hcell j hj).2
    ·cases h
   ·cases h
 ·exact append0_ok hn hr hA hL hH hW hx hy hu h hK
end
end Go.Sx
