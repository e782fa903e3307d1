import Derived.Test.YticmijfmgmkkcaaGreatVSxOpsB
set_option linter.unusedSimpArgs false
set_option linter.unusedVariables false
set_option maxRecDepth 100000
namespace Go.Sx
open Go.RowKit
section
variable {P:Program} {cx:Ctx} {E:Env} {a:Act} {e:Operand→AV} {H:List Ob} {n:Nat} {r:Res}
 {dst:Option Tmp} {ty:TypeId} {pos:String} {after:Array Go.Edge} {guard:Option (Nat × Bool)} {wn:Nat→Prop} {K:Act→World→Prop} {Q:Exit→Act→World→Prop} {ro:Option Nat}
theorem copy_ok {t elem:TypeId} {x y:Operand} {id:Nat} {u t':Ty} {xs zs:List u.den} {ys:List t'.den} (hr:Ready E n r.news.length) (hA:∃ N,∀ id,E.A id→id < N) (hL:∀ id,E.A id→getOb H id≠.dead→E.L id) (hH:∀ id,E.L id→getOb H id≠.dead→OkOb E id (getOb H id))
 (hW:∀ q,r.st=some q→E.W q.1) (hx:RdA E (a.eval x) (.own id)) (hy:RdA E (a.eval y) (e y)) (hu:P.underlying t=some (.slice elem)) (hk:Nat.beq (sizeT P elem) u.size=true) (hob:getOb H id=.rows u xs) (hcon:content H (e y)=some ⟨t',ys⟩) (hcast:castL t' u ys=some zs)
 (h0:r=⟨none,none,.int .i64 ((Nat.min zs.length xs.length:Nat):Int),[],none,some (id,.rows u (zs.take xs.length++xs.drop zs.length)),[]⟩)
 (hK:∀ E' v,Ext E n r wn E'→OptP r.given→RdA E' v r.val→K (a.put dst v) E'.w):∃ v w',(Builtin.copy_ #[t,t] ty #[a.eval x,a.eval y]).run P E.w=.ok v w'∧K (a.put dst v) w':=by
 obtain ⟨info,hi,hs⟩:=sizeT_eq hk (size_pos u)
 have hsrc:=castL_eq hcast (content_ok hL hH hy hcon)
 have hne:getOb H id≠.dead:=by rw [hob];simp
 have hl:=hL id hx.own_inv.1 hne
 have hok:RowsAt E u xs (E.ρ id):=by
  have:=hH id hl hne
  rw [hob] at this
  exact this
 have hWid:E.W id:=by rw [h0] at hW;exact hW _ rfl
 have hown:=hx.own_inv.2.2 hl
 have hsr:(sizeOf elem).run P E.w=.ok u.size E.w:=by simp [sizeOf,typeInfo,hi,hs]
 have idle:Nat.min zs.length xs.length=0→(∃ ba len c,a.eval x=.slice ba len c∧len=xs.length)→(∃ ba len c,a.eval y=.slice ba len c∧len=zs.length)→∃ v w',(Builtin.copy_ #[t,t] ty #[a.eval x,a.eval y]).run P E.w=.ok v w'∧K (a.put dst v) w':=by
  rintro hmin ⟨ba,len,c,hvx,hlx⟩ ⟨ba',len',c',hvy,hly⟩
  subst hlx;subst hly
  refine ⟨.int .i64 0,E.w, ?_, ?_⟩
  ·rw [hvx,hvy]
   cases ba <;> cases ba' <;> simp [Builtin.copy_,run_underlying hu,Builtin.lenOf,Builtin.firstCells,hsr,hmin,loadCells,loadCellsFrom,storeCells,goInt]
  ·have hnew:zs.take xs.length++xs.drop zs.length=xs:=by
    have h1:zs.length=0∨xs.length=0:=by
     rcases Nat.le_total zs.length xs.length with h | h
     ·left;rw [← hmin];exact (Nat.min_eq_left h).symm
     ·right;rw [← hmin];exact (Nat.min_eq_right h).symm
    rcases h1 with h1 | h1
    ·have:=List.eq_nil_of_length_eq_zero h1;subst this;simp
    ·have:=List.eq_nil_of_length_eq_zero h1;subst this;simp
   subst h0
   have hstep:Step E n ⟨none,none,.int .i64 ((Nat.min zs.length xs.length:Nat):Int),[],none,some (id,.rows u (zs.take xs.length++xs.drop zs.length)),[]⟩ E.w (fun _=>none):=by
    refine ⟨Below.refl _ _,fun b hb _=>rfl, ?_, ?_, ?_, ?_⟩
    ·intro j h hj;simp at hj
    ·intro j j' h h' hj;simp at hj
    ·intro id hid;cases hid
    ·intro p hp;cases hp;exact hWid
   have hx:=hstep.ext (wn:=wn) hr hA (fun _ j ob hj=>by simp at hj) (fun hevo i ob hi=>by
    cases hi
    show RowsAt _ u _ _
    rw [hnew]
    have hρ2:(E.ext n 0 none [] wn E.w (fun _=>none)).ρ id=E.ρ id:=by simp only [Env.ext];rw [if_neg (by omega)]
    rw [show (E.ext n (List.length ([]:List Ob)) none [] wn E.w (fun _=>none)).ρ id=E.ρ id from hρ2]
    exact hok.mono (hevo 0).fz (fun _ _=>rfl))
   have:=hK _ (.int .i64 0) hx trivial (by rw [hmin];exact .int _ _)
   exact this
 cases hρ:E.ρ id with
 | none =>
  rw [hρ] at hok hown
  obtain ⟨ba,hvx⟩:=hown
  have hxs:xs=[]:=hok
  subst hxs
  refine idle (Nat.min_eq_right (Nat.zero_le _)) ⟨_,_,_,hvx,rfl⟩ ?_
  cases hsrc with
  | none ba' c h hv=>subst h;exact ⟨_,_,_,hv,rfl⟩
  | some b o c us hv _ _ _ _ _=>exact ⟨_,_,_,hv,rfl⟩
 | some hd =>
  rw [hρ] at hok hown
  have hvx:a.eval x=.slice (some ⟨hd.blk,hd.off,none⟩) hd.len hd.cap:=hown
  obtain ⟨g1,g2,g3,g3',arr,el,g4,g5,g6⟩:=hok
  by_cases hmin:Nat.min zs.length xs.length=0
  ·refine idle hmin ⟨_,_,_,hvx,g1⟩ ?_
   cases hsrc with
   | none ba' c h hv=>subst h;exact ⟨_,_,_,hv,rfl⟩
   | some b o c us hv _ _ _ _ _=>exact ⟨_,_,_,hv,rfl⟩
  ·have hzs:zs≠[]:=by rintro rfl;exact hmin (Nat.min_eq_left (Nat.zero_le _))
   obtain ⟨b,o,c,us,hvy,hul,hucell,hu1,hurd⟩:=src_cells hsrc hzs
   rw [hvx,hvy]
   have hmle:Nat.min zs.length xs.length≤zs.length:=Nat.min_le_left _ _
   have hmle':Nat.min zs.length xs.length≤xs.length:=Nat.min_le_right _ _
   generalize hmm:Nat.min zs.length xs.length=m at *
   have hmz:m * u.size≤zs.length * u.size:=Nat.mul_le_mul_right _ hmle
   have hmx:m * u.size≤hd.cap * u.size:=Nat.mul_le_mul_right _ (by omega)
   have hcl:(us.take (m * u.size)).length=m * u.size:=by rw [List.length_take,hul];omega
   have hf:=run_firstCells_some (P:=P) E.w u.size m ⟨b,o,none⟩ zs.length c (us.take (m * u.size)) hcl (fun j v hv=>by
    rw [addr_add]
    have hj:j < m * u.size:=by have:=(List.getElem?_eq_some_iff.1 hv).1;omega
    rw [List.getElem?_take_of_lt hj] at hv
    exact hucell j v hv)
   have hfit:hd.off+(us.take (m * u.size)).length≤arr.size:=by rw [hcl];omega
   have hst:=run_storeCells_at P hd.blk hd.off el (us.take (m * u.size)) 0 arr E.w g4 (by simpa using hfit) (fun v hv=>hu1 v (List.mem_of_mem_take hv))
   simp only [Nat.add_zero] at hst
   obtain ⟨arr',harr,hasz,hget⟩ : ∃ arr':Array Value,(arr.toList.take hd.off++us.take (m * u.size)++arr.toList.drop (hd.off+(us.take (m * u.size)).length)).toArray=arr'∧arr'.size=arr.size ∧
    ∀ j,arr'[j]?=if hd.off≤j∧j < hd.off+m * u.size then us[j - hd.off]? else arr[j]?:=by
    refine ⟨_,rfl, ?_,fun j=>?_⟩
    ·simp only [List.size_toArray,List.length_append,List.length_drop,Array.length_toList]
     rw [hcl] at hfit ⊢
     simp only [List.length_take,Array.length_toList]
     omega
    ·rw [getElem?_spliced hfit,hcl]
     split
     ·rw [List.getElem?_take_of_lt (by omega)]
     ·rfl
   rw [harr] at hst
   refine ⟨.int .i64 (m:Int),E.w.setRow hd.blk arr', ?_, ?_⟩
   ·simp [Builtin.copy_,run_underlying hu,Builtin.lenOf,hsr,g1,hmm,hf,hst,goInt]
   ·subst h0
    have hs:Step E n ⟨none,none,.int .i64 (m:Int),[],none,some (id,.rows u (zs.take xs.length++xs.drop zs.length)),[]⟩ (E.w.setRow hd.blk arr') (fun _=>none):=step_set hr rfl rfl rfl hWid hρ _
    have hx:=hs.ext (wn:=wn) hr hA (fun _ j ob hj=>by simp at hj) (fun hevo i ob hi=>by
     cases hi
     show RowsAt _ u _ _
     have hρ2:(E.ext n 0 none [] wn (E.w.setRow hd.blk arr') (fun _=>none)).ρ id=some hd:=by simp only [Env.ext];rw [if_neg (by omega)];exact hρ
     rw [show (E.ext n (List.length ([]:List Ob)) none [] wn (E.w.setRow hd.blk arr') (fun _=>none)).ρ id=some hd from hρ2]
     have hevo0:=(hevo 0).fz
     have hnl:(zs.take xs.length++xs.drop zs.length).length=xs.length:=by
      rw [List.length_append,List.length_take,List.length_drop];omega
     refine ⟨by rw [hnl];exact g1,g2,g3,g3',arr',el,setRow_heap _ _ arr _ el _ g4,by rw [hasz];exact g5,fun j p hp=>?_⟩
     rw [hget]
     have htl:(zs.take xs.length).length=m:=by rw [List.length_take,Nat.min_comm];exact hmm
     rw [flat_append] at hp
     by_cases hj:j < m * u.size
     ·rw [List.getElem?_append_left (by rw [flat_length,htl];exact hj)] at hp
      rw [if_pos (by omega),Nat.add_sub_cancel_left]
      rw [flat_take] at hp
      have:j < xs.length * u.size:=Nat.lt_of_lt_of_le hj (Nat.mul_le_mul_right _ hmle')
      rw [List.getElem?_take_of_lt this] at hp
      obtain ⟨v,h1,h2⟩:=hurd j p hp
      exact ⟨v,h1,h2.mono hevo0⟩
     ·rw [List.getElem?_append_right (by rw [flat_length,htl];omega),flat_length,htl,flat_drop,List.getElem?_drop] at hp
      rw [if_neg (by omega)]
      have hlt:=(List.getElem?_eq_some_iff.1 hp).1
      rw [flat_length] at hlt
      have hzm:zs.length=m:=by
       rcases Nat.le_total zs.length xs.length with h | h
       ·rw [← hmm];exact (Nat.min_eq_left h).symm
       ·exfalso
        have:=Nat.mul_le_mul_right u.size h
        omega
      rw [hzm,show m * u.size+(j - m * u.size)=j by omega] at hp
      obtain ⟨v,h1,h2⟩:=g6 j p hp
      exact ⟨v,h1,h2.mono hevo0⟩)
    have:=hK _ (.int .i64 (m:Int)) hx trivial (.int _ _)
    exact this
theorem downL_nil:∀ (l:List AV) ps ids,downL [] l=some (ps,ids)→ids=[]:=by
 intro l
 induction l with
 | nil=>intro ps ids h;simp [downL] at h;exact h.2
 | cons x l ih =>
  intro ps ids h
  simp only [downL] at h
  split at h
  ·rename_i p ia qs ib h1 h2
   simp only [Option.some.injEq,Prod.mk.injEq] at h
   obtain ⟨_,rfl⟩:=h
   have hib:=ih _ _ h2
   subst hib
   rw [down_nil1 h1];rfl
  ·cases h
theorem clear_ok {t elem:TypeId} {x:Operand} {id lo len:Nat} {u:Ty} {xs:List u.den} {z:Value} {ps:List PV} {ids:List Nat} {y:u.den} (hr:Ready E n r.news.length) (hA:∃ N,∀ id,E.A id→id < N) (hL:∀ id,E.A id→getOb H id≠.dead→E.L id) (hH:∀ id,E.L id→getOb H id≠.dead→OkOb E id (getOb H id))
 (hW:∀ q,r.st=some q→E.W q.1) (hx:RdA E (a.eval x) (.ownp id u.size lo len)) (hu:P.underlying t=some (.slice elem)) (hk:Nat.beq (sizeT P elem) u.size=true) (hob:getOb H id=.rows u xs)
 (hz:zeroT P elem=some z) (hall:z.cells.toList.all oneCellB=true) (hd:downL [] (z.cells.toList.map ofCell)=some (ps,ids)) (hy:dec u ps=some y)
 (h0:r=⟨none,none,.any,[],none,some (id,.rows u (xs.take lo++(List.replicate len y++xs.drop (lo+len)))),[]⟩)
 (hK:∀ E' v,Ext E n r wn E'→OptP r.given→RdA E' v r.val→K (a.put dst v) E'.w):∃ v w',(Builtin.clear_ #[t] ty #[a.eval x]).run P E.w=.ok v w'∧K (a.put dst v) w':=by
 obtain ⟨info,hi,hs⟩:=sizeT_eq hk (size_pos u)
 have hne:getOb H id≠.dead:=by rw [hob];simp
 have hl:=hL id hx.ownp_inv.1 hne
 have hok:RowsAt E u xs (E.ρ id):=by
  have:=hH id hl hne
  rw [hob] at this
  exact this
 have hWid:E.W id:=by rw [h0] at hW;exact hW _ rfl
 have hown:=hx.ownp_inv.2.2 hl
 have hzc:=zero_cells (E:=E) hall
 obtain ⟨g1,g2⟩:=downL_ok (ids':=[]) (H:=[]) (E:=E) (fun id _ hne=>absurd rfl hne) (fun id _ hne=>absurd rfl hne) hzc hd (fun id hid=>by
  rw [downL_nil _ _ _ hd] at hid
  exact hid)
 have hle:=dec_le u ps y hy
 have hz':z.cells.size=u.size:=by
  have h1:=hle.get.1
  rw [enc_length] at h1
  simp at g1
  omega
 have idle:len=0→(∃ ba c,a.eval x=.slice ba 0 c)→∃ v w',(Builtin.clear_ #[t] ty #[a.eval x]).run P E.w=.ok v w'∧K (a.put dst v) w':=by
  rintro rfl ⟨ba,c,hvx⟩
  refine ⟨.tuple #[],E.w, ?_, ?_⟩
  ·rw [hvx]
   cases ba <;> simp [Builtin.clear_,run_underlying hu]
  ·have hnew:xs.take lo++(List.replicate 0 y++xs.drop (lo+0))=xs:=by simp
   rw [hnew] at h0
   subst h0
   have hstep:Step E n ⟨none,none,.any,[],none,some (id,.rows u xs),[]⟩ E.w (fun _=>none):=by
    refine ⟨Below.refl _ _,fun b hb _=>rfl, ?_, ?_, ?_, ?_⟩
    ·intro j h hj;simp at hj
    ·intro j j' h h' hj;simp at hj
    ·intro id hid;cases hid
    ·intro p hp;cases hp;exact hWid
   have hx:=hstep.ext (wn:=wn) hr hA (fun _ j ob hj=>by simp at hj) (fun hevo i ob hi=>by
    cases hi
    show RowsAt _ u _ _
    have hρ2:(E.ext n 0 none [] wn E.w (fun _=>none)).ρ id=E.ρ id:=by simp only [Env.ext];rw [if_neg (by omega)]
    rw [show (E.ext n (List.length ([]:List Ob)) none [] wn E.w (fun _=>none)).ρ id=E.ρ id from hρ2]
    exact hok.mono (hevo 0).fz (fun _ _=>rfl))
   have:=hK _ (.tuple #[]) hx trivial (.any _)
   exact this
 cases hρ:E.ρ id with
 | none =>
  rw [hρ] at hown
  obtain ⟨h1,ba,hvx⟩:=hown
  exact idle h1 ⟨_,_,hvx⟩
 | some hd =>
  rw [hρ] at hok hown
  obtain ⟨hlo,o,c,hvx,hlc,hcc,hoo⟩:=hown
  obtain ⟨k1,k2,k3,k3',arr,el,k4,k5,k6⟩:=hok
  by_cases hlen:len=0
  ·rw [hlen] at hvx
   exact idle hlen ⟨_,_,hvx⟩
  ·have ho:o=hd.off+lo * u.size:=by
    rcases hoo with h | ⟨h,_⟩
    ·exact h
    ·omega
   subst ho
   rw [hvx]
   have hcl:(Builtin.zeroCells z.cells len).toList.length=len * u.size:=by simp [Builtin.zeroCells,hz']
   have hget0:∀ j,j < len * u.size→(Builtin.zeroCells z.cells len).toList[j]?=some (z.cells[j % u.size]!):=by
    intro j hj
    simp only [Builtin.zeroCells,hz',Array.getElem?_toList,Array.getElem?_map,Array.getElem?_range,hj]
    simp
   have hzone:∀ v∈(Builtin.zeroCells z.cells len).toList,v.oneCell'=true:=by
    intro v hv
    obtain ⟨j,hj⟩:=List.mem_iff_getElem?.1 hv
    have hjl:j < len * u.size:=by rw [← hcl];exact (List.getElem?_eq_some_iff.1 hj).1
    rw [hget0 j hjl] at hj
    cases hj
    have hmod:j % u.size < z.cells.size:=by rw [hz'];exact Nat.mod_lt _ (size_pos u)
    rw [getElem!_pos z.cells _ hmod]
    exact List.all_eq_true.1 hall _ (by simp)
   have hroom:(lo+len) * u.size≤hd.cap * u.size:=Nat.mul_le_mul_right _ (by omega)
   rw [Nat.add_mul] at hroom
   have hfit:hd.off+lo * u.size+(Builtin.zeroCells z.cells len).toList.length≤arr.size:=by rw [hcl];omega
   have hst:=run_storeCells_at P hd.blk (hd.off+lo * u.size) el (Builtin.zeroCells z.cells len).toList 0 arr E.w k4 (by simpa using hfit) hzone
   simp only [Nat.add_zero] at hst
   obtain ⟨arr',harr,hasz,hget⟩ : ∃ arr':Array Value,(arr.toList.take (hd.off+lo * u.size)++(Builtin.zeroCells z.cells len).toList++arr.toList.drop (hd.off+lo * u.size+(Builtin.zeroCells z.cells len).toList.length)).toArray=arr'∧arr'.size=arr.size ∧
    ∀ j,arr'[j]?=if hd.off+lo * u.size≤j∧j < hd.off+lo * u.size+len * u.size then (Builtin.zeroCells z.cells len).toList[j - (hd.off+lo * u.size)]? else arr[j]?:=by
    refine ⟨_,rfl, ?_,fun j=>?_⟩
    ·rw [hcl] at hfit
     simp only [List.size_toArray,List.length_append,List.length_drop,List.length_take,hcl]
     simp only [Array.length_toList]
     omega
    ·rw [getElem?_spliced hfit,hcl]
   rw [harr] at hst
   refine ⟨.tuple #[],E.w.setRow hd.blk arr', ?_, ?_⟩
   ·cases hlen2:len with
    | zero=>exact absurd hlen2 hlen
    | succ m =>
     rw [hlen2] at hst
     simp [Builtin.clear_,run_underlying hu,zeroT_run hz,hst]
   ·subst h0
    have hs:Step E n ⟨none,none,.any,[],none,some (id,.rows u (xs.take lo++(List.replicate len y++xs.drop (lo+len)))),[]⟩ (E.w.setRow hd.blk arr') (fun _=>none):=step_set hr rfl rfl rfl hWid hρ _
    refine hK _ (.tuple #[]) (hs.ext (wn:=wn) hr hA (fun _ j ob hj=>by simp at hj) (fun hevo i ob hi=>?_)) trivial (.any _)
    cases hi
    show RowsAt _ u _ _
    have hρ2:(E.ext n 0 none [] wn (E.w.setRow hd.blk arr') (fun _=>none)).ρ id=some hd:=by simp only [Env.ext];rw [if_neg (by omega)];exact hρ
    rw [show (E.ext n (List.length ([]:List Ob)) none [] wn (E.w.setRow hd.blk arr') (fun _=>none)).ρ id=some hd from hρ2]
    have hevo0:=(hevo 0).fz
    have hnl:(xs.take lo++(List.replicate len y++xs.drop (lo+len))).length=xs.length:=by
     simp only [List.length_append,List.length_take,List.length_drop,List.length_replicate]
     omega
    refine ⟨by rw [hnl];exact k1,k2,k3,k3',arr',el,setRow_heap _ _ arr _ el _ k4,by rw [hasz];exact k5,fun j p hp=>?_⟩
    rw [hget]
    have htl:(xs.take lo).length=lo:=by rw [List.length_take];omega
    rw [flat_append] at hp
    by_cases hj:j < lo * u.size
    ·rw [List.getElem?_append_left (by rw [flat_length,htl];exact hj),flat_take,List.getElem?_take_of_lt hj] at hp
     rw [if_neg (by omega)]
     obtain ⟨v,h1,h2⟩:=k6 j p hp
     exact ⟨v,h1,h2.mono hevo0⟩
    ·rw [List.getElem?_append_right (by rw [flat_length,htl];omega),flat_length,htl,flat_append] at hp
     by_cases hj2:j - lo * u.size < len * u.size
     ·rw [List.getElem?_append_left (by rw [flat_length,List.length_replicate];exact hj2)] at hp
      rw [if_pos (by omega),show hd.off+j - (hd.off+lo * u.size)=j - lo * u.size by omega,hget0 _ hj2]
      have hp':=flat_replicate u y _ _ p hp
      have hmod:(j - lo * u.size) % u.size < z.cells.size:=by rw [hz'];exact Nat.mod_lt _ (size_pos u)
      refine ⟨_,rfl, ?_⟩
      rw [getElem!_pos z.cells _ hmod]
      have hzl:z.cells.toList[(j - lo * u.size) % u.size]?=some (z.cells[(j - lo * u.size) % u.size]'hmod):=by simp
      have hpl:ps[(j - lo * u.size) % u.size]?=some (ps[(j - lo * u.size) % u.size]'(by rw [← g1];simpa using hmod)):=List.getElem?_eq_getElem _
      have:=(g2 _ _ _ hzl hpl).2.le (hle.get.2 _ _ _ hpl hp')
      exact (this.monoF (fun b o hb=>by
       rcases hb with hb | ⟨i,hi,_⟩
       ·exact hb
       ·cases hi)).mono hevo0
     ·rw [List.getElem?_append_right (by rw [flat_length,List.length_replicate];omega),flat_length,List.length_replicate,flat_drop,List.getElem?_drop] at hp
      rw [if_neg (by omega)]
      rw [Nat.add_mul,show lo * u.size+len * u.size+(j - lo * u.size - len * u.size)=j by omega] at hp
      obtain ⟨v,h1,h2⟩:=k6 j p hp
      exact ⟨v,h1,h2.mono hevo0⟩
end
end Go.Sx
