import Derived.Test.YticmijfmgmkkcaaGreatVSxOps6
set_option linter.unusedSimpArgs false
set_option linter.unusedVariables false
set_option maxRecDepth 100000
namespace Go.Sx
open Go.RowKit
def FF (E:Env) (ids:List Nat) (b o:Nat):Prop:=E.Fz b o∨∃ id∈ids,E.L id∧E.Own id b
theorem FF.mono {E:Env} {ids ids':List Nat} (h:∀ id∈ids,id∈ids') {b o:Nat}:FF E ids b o→FF E ids' b o
 | .inl h1=>.inl h1
 | .inr ⟨id,h1,h2⟩=>.inr ⟨id,h id h1,h2⟩
theorem RdP.monoF {w:World} {F F':Nat→Nat→Prop} (hF:∀ b o,F b o→F' b o) {v:Value} {p:PV} (h:RdP w F v p):RdP w F' v p :=
 h.mono fun b o hb=>⟨hF b o hb,rfl⟩
theorem RdP.le {w:World} {F:Nat→Nat→Prop} {v:Value} {p q:PV} (h:RdP w F v p) (hle:PV.le p q):RdP w F v q:=by
 rcases hle with rfl | ⟨rfl,t,rfl⟩
 ·exact h
 ·cases h;exact .sl0 _ _ _
theorem LeL.get {l m:List PV} (h:LeL l m):l.length=m.length∧∀ (i:Nat) p q,l[i]?=some p→m[i]?=some q→PV.le p q:=by
 induction h with
 | nil=>exact ⟨rfl,fun i p q hp=>by simp at hp⟩
 | cons hle _ ih =>
  refine ⟨by simp [ih.1],fun i p q hp hq=>?_⟩
  match i,hp,hq with
  | 0,hp,hq=>cases hp;cases hq;exact hle
  | i+1,hp,hq=>exact ih.2 i p q (by simpa using hp) (by simpa using hq)
section
variable {P:Program} {cx:Ctx} {E:Env} {a:Act} {e:Operand→AV} {H:List Ob} {n:Nat} {r:Res}
 {dst:Option Tmp} {ty:TypeId} {pos:String} {after:Array Go.Edge} {guard:Option (Nat × Bool)}
theorem rows_down {id:Nat} {t:Ty} {xs:List t.den} {v:Value} {ids:List Nat} (hrow:RowsAt E t xs (E.ρ id)) (hl:E.L id) (hv:ownV (E.ρ id) v) (hid:id∈ids):RdP E.w (FF E ids) v (.sl t xs):=by
 cases hρ:E.ρ id with
 | none =>
  rw [hρ] at hrow hv
  have:xs=[]:=hrow
  subst this
  obtain ⟨ba,rfl⟩:=hv
  exact .sl0 _ _ _
 | some hd =>
  rw [hρ] at hrow hv
  obtain ⟨h1,h2,h3,h3',arr,el,h4,h5,h6⟩:=hrow
  have hv':v=.slice (some ⟨hd.blk,hd.off,none⟩) hd.len hd.cap:=hv
  subst hv'
  let g:Nat→Value:=fun j=>(arr[hd.off+j]?).getD undef
  refine .sl hd.blk hd.off hd.len hd.cap t xs g h1 h2 (lim_big h3) (fun j hj=>⟨.inr ⟨id,hid,hl,.inl ⟨hd,hρ,rfl⟩⟩, ?_⟩) (fun j p hp=>?_)
  ·obtain ⟨u,hu,_⟩:=h6 j _ (List.getElem?_eq_getElem hj)
   simp [World.cell?,h4,g,hu]
  ·obtain ⟨u,hu,hr⟩:=h6 j p hp
   have:g j=u:=by simp [g,hu]
   rw [this]
   exact hr.monoF fun b o hb=>.inl hb
theorem grid_down {id:Nat} {t:Ty} {m:Nat} {xss:List (List t.den)} {v:Value} {ids:List Nat} {hd:Hdr} (hρ:E.ρ id=some hd) (g:GridAt E t m xss hd (E.K id)) (hl:E.L id) (hv:ownV (E.ρ id) v) (hid:id∈ids) :
 RdP E.w (FF E ids) v (.sl (.sl t) (xss++List.replicate m [])):=by
 rw [hρ] at hv
 have hv':v=.slice (some ⟨hd.blk,hd.off,none⟩) hd.len hd.cap:=hv
 subst hv'
 obtain ⟨arr,el,h1,h2,h3,h4⟩:=g.head
 have hlen:(xss++List.replicate m ([]:List t.den)).length=hd.len:=by rw [List.length_append,List.length_replicate,g.len]
 have hsz:(flat (.sl t) (xss++List.replicate m [])).length=hd.len:=by rw [flat_length,hlen];simp [Ty.size]
 have cell:∀ (j:Nat) (p:PV),(flat (.sl t) (xss++List.replicate m []))[j]?=some p→∃ xs,(xss++List.replicate m ([]:List t.den))[j]?=some xs∧p=PV.sl t xs:=by
  intro j p hp
  have e:flat (.sl t) (xss++List.replicate m [])=(xss++List.replicate m ([]:List t.den)).map (fun xs=>PV.sl t xs):=by
   unfold flat
   rw [List.map_eq_flatMap]
   rfl
  rw [e,List.getElem?_map,Option.map_eq_some_iff] at hp
  obtain ⟨xs,h5,h6⟩:=hp
  exact ⟨xs,h5,h6.symm⟩
 refine .sl hd.blk hd.off hd.len hd.cap (.sl t) _ (fun j=>(arr[hd.off+j]?).getD undef) hlen.symm g.cap (lim_big g.lim) (fun j hj=>⟨.inr ⟨id,hid,hl,.inl ⟨hd,hρ,rfl⟩⟩, ?_⟩) (fun j p hp=>?_)
 ·rw [hsz] at hj
  have hj2:hd.off+j < arr.size:=by have:=g.cap;omega
  simp [World.cell?,h1,hj2]
 ·obtain ⟨xs,hx,rfl⟩:=cell j p hp
  rw [List.getElem?_append] at hx
  split at hx
  ·rename_i hj
   obtain ⟨o,u,k1,k2,k3⟩:=h3 j hj
   obtain ⟨o',k4,k5⟩:=g.rows j xs hx
   rw [k1] at k4
   cases k4
   show RdP E.w (FF E ids) ((arr[hd.off+j]?).getD undef) _
   rw [k2]
   cases o with
   | none =>
    obtain ⟨ba,rfl⟩:=k3
    have:xs=[]:=k5
    subst this
    exact .sl0 _ _ _
   | some h' =>
    have k3':u=.slice (some ⟨h'.blk,h'.off,none⟩) h'.len h'.cap:=k3
    subst k3'
    obtain ⟨g1,g2,g3,g3',arr',el',g4,g5,g6⟩:=k5
    let gg:Nat→Value:=fun j=>(arr'[h'.off+j]?).getD undef
    refine .sl h'.blk h'.off h'.len h'.cap t xs gg g1 g2 (lim_big g3) (fun j2 hj2=>⟨.inr ⟨id,hid,hl,.inr ⟨j,h',k1,rfl⟩⟩, ?_⟩) (fun j2 p hp=>?_)
    ·obtain ⟨u,hu,_⟩:=g6 j2 _ (List.getElem?_eq_getElem hj2)
     simp [World.cell?,g4,gg,hu]
    ·obtain ⟨u,hu,hr⟩:=g6 j2 p hp
     have:gg j2=u:=by simp [gg,hu]
     rw [this]
     exact hr.monoF fun b o hb=>.inl hb
  ·rename_i hj
   rw [List.getElem?_replicate] at hx
   split at hx
   ·rename_i hj2
    cases hx
    obtain ⟨ba,k⟩:=h4 j (by omega) (by omega)
    show RdP E.w (FF E ids) ((arr[hd.off+j]?).getD undef) _
    rw [k]
    exact .sl0 _ _ _
   ·cases hx
def RecOk (E:Env) (ids':List Nat) (rec:AV→Option (FnT × List Nat)):Prop :=
 ∀ (v:Value) (x:AV) (T:FnT) (l:List Nat),RdA E v x→rec x=some (T,l)→(∀ id∈l,id∈ids')→RdP E.w (FF E ids') v (.fn T)
theorem downFs_ok (hL:∀ id,E.A id→getOb H id≠.dead→E.L id) (hH:∀ id,E.L id→getOb H id≠.dead→OkOb E id (getOb H id)) {ids':List Nat} {rec:AV→Option (FnT × List Nat)} (hrec:RecOk E ids' rec) :
 ∀ (ys:List AV) (cs:List FnT) (ids:List Nat),downFs H rec ys=some (cs,ids)→(∀ id∈ids,id∈ids')→ys.length=cs.length ∧
  ∀ (i:Nat) c y (v:Value),cs[i]?=some c→ys[i]?=some y→RdA E v y→∃ b o u,v=.pointer (some ⟨b,o,none⟩)∧FF E ids' b o∧E.w.cell? ⟨b,o,none⟩=some u∧RdP E.w (FF E ids') u (.fn c)
 | [],cs,ids,h,_=>by
  cases h
  exact ⟨rfl,fun i c y v hc=>by simp at hc⟩
 | y :: ys,cs,ids,h,hsub=>by
  unfold downFs at h
  split at h
  ·rename_i heq;cases heq
  ·rename_i c0 l heq
   cases heq
   split at h
   ·rename_i cs' ids1 h1
    cases h
    obtain ⟨g1,g2⟩:=downFs_ok hL hH hrec _ _ _ h1 hsub
    refine ⟨by simp [g1],fun i c z v hc hy hv=>?_⟩
    cases i with
    | zero =>
     simp only [List.getElem?_cons_zero,Option.some.injEq] at hc hy
     subst hc;subst hy
     cases hv with
     | eptr b o _ g hcell hrd =>
      obtain ⟨k1,k2⟩:=hcell 0 (by simp)
      exact ⟨b,o,g 0,rfl,.inl k1,k2,(hrd 0 _ rfl).monoF fun b o hb=>.inl hb⟩
    | succ i=>exact g2 i c z v (by simpa using hc) (by simpa using hy) hv
   ·cases h
  ·rename_i id off l heq
   cases heq
   split at h
   ·rename_i xs hob
    split at h
    ·rename_i hlt
     have hlt':off < xs.length:=by
      have:=Nat.le_of_ble_eq_true hlt
      omega
     split at h
     ·rename_i c1 i1 cs' i2 h1 h2
      cases h
      obtain ⟨g1,g2⟩:=downFs_ok hL hH hrec _ _ _ h2 (fun id hid=>hsub id (by simp [hid]))
      refine ⟨by simp [g1],fun i c z v hc hy hv=>?_⟩
      cases i with
      | zero =>
       simp only [List.getElem?_cons_zero,Option.some.injEq] at hc hy
       subst hc;subst hy
       obtain ⟨hA,_,hp⟩:=hv.ptr_inv
       have hne:getOb H id≠.dead:=by rw [hob];simp
       have hl:=hL id hA hne
       have hok:=hH id hl hne
       rw [hob] at hok
       obtain ⟨hd,hρ,arr,el,k1,k2,k3⟩:=hok
       obtain ⟨hd',hρ',hv'⟩:=hp hl
       rw [hρ] at hρ'
       cases hρ'
       have hla:off < arr.size:=by omega
       have hx:getN .any xs off=xs[off]:=by
        have:=getN_of_lt (d:=AV.any) hlt'
        rw [List.getElem?_eq_getElem hlt'] at this
        exact (Option.some.inj this).symm
       refine ⟨hd.blk,off,arr[off],hv',.inr ⟨id,hsub id (by simp),hl,.inl ⟨hd,hρ,rfl⟩⟩,by simp [World.cell?,k1,hla], ?_⟩
       rw [hx] at h1
       exact hrec _ _ _ _ (k3 off _ _ (Array.getElem?_eq_getElem hla) (List.getElem?_eq_getElem hlt')).2 h1 (fun id hid=>hsub id (by simp [hid]))
      | succ i=>exact g2 i c z v (by simpa using hc) (by simpa using hy) hv
     ·cases h
    ·cases h
   ·cases h
  ·cases h
theorem downFw_ok (hL:∀ id,E.A id→getOb H id≠.dead→E.L id) (hH:∀ id,E.L id→getOb H id≠.dead→OkOb E id (getOb H id)) {ids':List Nat} {rec:AV→Option (FnT × List Nat)} (hrec:RecOk E ids' rec):RecOk E ids' (downFw H rec):=by
 intro v x T l hx h hsub
 unfold downFw at h
 split at h
 ·cases h
  cases hx
  exact .fnil
 ·rename_i f ys
  split at h
  ·rename_i cs ids hd
   cases h
   obtain ⟨g1,g2⟩:=downFs_ok hL hH hrec _ _ _ hd hsub
   cases hx with
   | fn _ vs ws _ _ hv hw h1 h2 =>
    have hvs:vs=#[]:=Array.eq_empty_of_size_eq_zero (by simpa using hv)
    subst hvs
    have key:∀ i,i < cs.length→∃ b o u,ws[i]?=some (.pointer (some ⟨b,o,none⟩))∧FF E ids' b o∧E.w.cell? ⟨b,o,none⟩=some u∧∀ c,cs[i]?=some c→RdP E.w (FF E ids') u (.fn c):=by
     intro i hi
     have hiw:i < ws.size:=by omega
     have hiy:i < ys.length:=by omega
     obtain ⟨b,o,u,k1,k2,k3,k4⟩:=g2 i _ _ _ (List.getElem?_eq_getElem hi) (List.getElem?_eq_getElem hiy) (h2 i _ _ (Array.getElem?_eq_getElem hiw) (List.getElem?_eq_getElem hiy))
     refine ⟨b,o,u,by rw [Array.getElem?_eq_getElem hiw,k1],k2,k3,fun c hc=>?_⟩
     rw [List.getElem?_eq_getElem hi] at hc
     cases hc
     exact k4
    have key':∀ i:Nat,∃ q:(Nat × Nat) × Value,i < cs.length→ws[i]?=some (.pointer (some ⟨q.1.1,q.1.2,none⟩))∧FF E ids' q.1.1 q.1.2∧E.w.cell? ⟨q.1.1,q.1.2,none⟩=some q.2∧∀ c,cs[i]?=some c→RdP E.w (FF E ids') q.2 (.fn c):=by
     intro i
     by_cases hi:i < cs.length
     ·obtain ⟨b,o,u,k⟩:=key i hi
      exact ⟨((b,o),u),fun _=>k⟩
     ·exact ⟨((0,0),undef),fun h=>absurd h hi⟩
    obtain ⟨q,hq⟩:=Classical.axiomOfChoice key'
    refine .fn f cs ws (fun i=>(q i).1) (fun i=>(q i).2) (by omega) (fun i hi=>?_) (fun i c hc=>?_)
    ·obtain ⟨k1,k2,k3,_⟩:=hq i hi
     exact ⟨k1,k2,k3⟩
    ·exact (hq i (List.getElem?_eq_some_iff.1 hc).1).2.2.2 c hc
  ·cases h
 ·cases h
theorem downF_ok (hL:∀ id,E.A id→getOb H id≠.dead→E.L id) (hH:∀ id,E.L id→getOb H id≠.dead→OkOb E id (getOb H id)) {ids':List Nat} {v:Value} {x:AV} {T:FnT} {l:List Nat} (hx:RdA E v x) (h:downF H x=some (T,l))
 (hsub:∀ id∈l,id∈ids'):RdP E.w (FF E ids') v (.fn T) :=
 downFw_ok hL hH (downFw_ok hL hH (downFw_ok hL hH (fun v x T l _ h=>by cases h))) v x T l hx h hsub
theorem down_ok (hL:∀ id,E.A id→getOb H id≠.dead→E.L id) (hH:∀ id,E.L id→getOb H id≠.dead→OkOb E id (getOb H id)) {v:Value} {x:AV} {p:PV} {ids ids':List Nat} (hx:RdA E v x) (h:down H x=some (p,ids)) (hsub:∀ id∈ids,id∈ids') :
 RdP E.w (FF E ids') v p:=by
 have part:∀ (id k lo len:Nat) (t:Ty) (xs:List t.den),RowsAt E t xs (E.ρ id)→E.L id→id∈ids'→k=t.size→ownqV k lo len (E.ρ id) v→RdP E.w (FF E ids') v (.sl t ((xs.drop lo).take len)):=by
  intro id k lo len t xs hrow hl hid hk hv
  subst hk
  cases hρ:E.ρ id with
  | none =>
   rw [hρ] at hv hrow
   obtain ⟨h0,ba,rfl⟩:=hv
   have:xs=[]:=hrow
   subst this
   subst h0
   simp only [List.drop_nil,List.take_nil]
   exact .sl0 _ _ _
  | some hd =>
   rw [hρ] at hv
   obtain ⟨h1,o,c,rfl,h2,_,h3⟩:=hv
   by_cases h0:len=0
   ·subst h0
    simp only [List.take_zero]
    exact .sl0 _ _ _
   ·have ho:o=hd.off+lo * t.size:=h3.resolve_right (by omega)
    subst ho
    rw [hρ] at hrow
    obtain ⟨hlen,g2,g3,g3',arr,el,g4,g5,g6⟩:=hrow
    let g:Nat→Value:=fun j=>(arr[hd.off+lo * t.size+j]?).getD undef
    have hfl:∀ j p,(flat t ((xs.drop lo).take len))[j]?=some p→(flat t xs)[lo * t.size+j]?=some p:=by
     intro j p hp
     rw [flat_take,flat_drop] at hp
     have hj:j < len * t.size:=by
      have:=(List.getElem?_eq_some_iff.1 hp).1
      rw [List.length_take] at this;omega
     rw [List.getElem?_take_of_lt hj,List.getElem?_drop] at hp
     exact hp
    refine .sl hd.blk _ len c t _ g ?_ h2 (lim_big (by omega)) (fun j hj=>⟨.inr ⟨id,hid,hl,.inl ⟨hd,hρ,rfl⟩⟩, ?_⟩) (fun j p hp=>?_)
    ·rw [List.length_take,List.length_drop];omega
    ·obtain ⟨u,hu,_⟩:=g6 _ _ (hfl j _ (List.getElem?_eq_getElem hj))
     rw [← Nat.add_assoc] at hu
     simp [World.cell?,g4,g,hu]
    ·obtain ⟨u,hu,hr⟩:=g6 _ p (hfl j p hp)
     rw [← Nat.add_assoc] at hu
     have:g j=u:=by simp [g,hu]
     rw [this]
     exact hr.monoF fun b o hb=>.inl hb
 cases x with
 | int k m=>simp only [down,Option.some.injEq,Prod.mk.injEq] at h;obtain ⟨rfl,rfl⟩:=h;cases hx;exact .int _ _
 | bool b=>simp only [down,Option.some.injEq,Prod.mk.injEq] at h;obtain ⟨rfl,rfl⟩:=h;cases hx;exact .bool _
 | str s=>simp only [down,Option.some.injEq,Prod.mk.injEq] at h;obtain ⟨rfl,rfl⟩:=h;cases hx;exact .str _
 | sl t xs=>simp only [down,Option.some.injEq,Prod.mk.injEq] at h;obtain ⟨rfl,rfl⟩:=h;exact hx.sl_inv.monoF fun b o hb=>.inl hb
 | nils=>simp only [down,Option.some.injEq,Prod.mk.injEq] at h;obtain ⟨rfl,rfl⟩:=h;cases hx;exact .nils _ _
 | cap0=>simp only [down,Option.some.injEq,Prod.mk.injEq] at h;obtain ⟨rfl,rfl⟩:=h;cases hx;exact .nils _ _
 | val u =>
  unfold down at h
  split at h
  case h_1 heq=>cases heq
  case h_2 heq=>cases heq;cases h;cases hx;exact .fnil
  all_goals first
   | (rename_i heq;cases heq;cases h;cases hx;exact .val _ ‹_›)
   | (rename_i heq;cases heq)
   | cases h
 | own id =>
  simp only [down] at h
  have hA:=hx.own_inv.1
  split at h
  ·rename_i t xs hob
   simp only [Option.some.injEq,Prod.mk.injEq] at h
   obtain ⟨rfl,rfl⟩:=h
   have hne:getOb H id≠.dead:=by rw [hob];simp
   have hl:=hL id hA hne
   have hok:=hH id hl hne
   rw [hob] at hok
   exact rows_down hok hl (hx.own_inv.2.2 hl) (hsub id (by simp))
  ·rename_i t xs hob
   simp only [Option.some.injEq,Prod.mk.injEq] at h
   obtain ⟨rfl,rfl⟩:=h
   have hne:getOb H id≠.dead:=by rw [hob];simp
   have hl:=hL id hA hne
   have hok:=hH id hl hne
   rw [hob] at hok
   exact rows_down hok hl (hx.own_inv.2.2 hl) (hsub id (by simp))
  ·rename_i t m xss hob
   simp only [Option.some.injEq,Prod.mk.injEq] at h
   obtain ⟨rfl,rfl⟩:=h
   have hne:getOb H id≠.dead:=by rw [hob];simp
   have hl:=hL id hA hne
   have hok:=hH id hl hne
   rw [hob] at hok
   obtain ⟨hd,hρ,hg⟩:=hok
   exact grid_down hρ hg hl (hx.own_inv.2.2 hl) (hsub id (by simp))
  ·cases h
 | ownp id k lo len =>
  simp only [down] at h
  have hA:=hx.ownp_inv.1
  split at h
  ·rename_i t xs hob
   split at h
   ·rename_i hk
    simp only [Option.some.injEq,Prod.mk.injEq] at h
    obtain ⟨rfl,rfl⟩:=h
    have hne:getOb H id≠.dead:=by rw [hob];simp
    have hl:=hL id hA hne
    have hok:=hH id hl hne
    rw [hob] at hok
    exact part id k lo len t xs hok hl (hsub id (by simp)) (by simpa using hk) (hx.ownp_inv.2.2 hl).q
   ·cases h
  ·rename_i t xs hob
   split at h
   ·rename_i hk
    simp only [Option.some.injEq,Prod.mk.injEq] at h
    obtain ⟨rfl,rfl⟩:=h
    have hne:getOb H id≠.dead:=by rw [hob];simp
    have hl:=hL id hA hne
    have hok:=hH id hl hne
    rw [hob] at hok
    exact part id k lo len t xs hok hl (hsub id (by simp)) (by simpa using hk) (hx.ownp_inv.2.2 hl).q
   ·cases h
  ·cases h
 | ownc id k lo len =>
  simp only [down] at h
  have hA:=hx.ownc_inv.1
  have toP:∀ {t:Ty} {xs:List t.den},RowsAt E t xs (E.ρ id)→E.L id→ownqV k lo len (E.ρ id) v:=by
   intro t xs hrow hl
   obtain ⟨hd,hρ,h1,h2⟩:=hx.ownc_inv.2.2 hl
   rw [hρ] at hrow ⊢
   have:=hrow.2.1
   exact ⟨h1,_,_,h2,by omega,by omega,.inl rfl⟩
  split at h
  ·rename_i t xs hob
   split at h
   ·rename_i hk
    simp only [Option.some.injEq,Prod.mk.injEq] at h
    obtain ⟨rfl,rfl⟩:=h
    have hne:getOb H id≠.dead:=by rw [hob];simp
    have hl:=hL id hA hne
    have hok:=hH id hl hne
    rw [hob] at hok
    exact part id k lo len t xs hok hl (hsub id (by simp)) (by simpa using hk) (toP hok hl)
   ·cases h
  ·rename_i t xs hob
   split at h
   ·rename_i hk
    simp only [Option.some.injEq,Prod.mk.injEq] at h
    obtain ⟨rfl,rfl⟩:=h
    have hne:getOb H id≠.dead:=by rw [hob];simp
    have hl:=hL id hA hne
    have hok:=hH id hl hne
    rw [hob] at hok
    exact part id k lo len t xs hok hl (hsub id (by simp)) (by simpa using hk) (toP hok hl)
   ·cases h
  ·cases h
 | slf t xs=>simp only [down,Option.some.injEq,Prod.mk.injEq] at h;obtain ⟨rfl,rfl⟩:=h;exact hx.slf_inv.2.monoF fun b o hb=>.inl hb
 | csl _ _ _=>simp [down] at h
 | dmp _=>simp [down] at h
 | yld _=>simp [down] at h
 | rnd _=>simp [down] at h
 | grow _ _=>simp [down] at h
 | gptr _ _ _=>simp [down] at h
 | any=>simp [down] at h
 | ptr _ _=>simp [down] at h
 | rptr _ _ _ _=>simp [down] at h
 | eptr _=>simp [down] at h
 | fn f x1 y1 =>
  simp only [down] at h
  split at h
  ·rename_i T l hT
   simp only [Option.some.injEq,Prod.mk.injEq] at h
   obtain ⟨rfl,rfl⟩:=h
   exact downF_ok hL hH hx hT hsub
  ·cases h
 | mp _=>simp [down] at h
 | agg _=>simp [down] at h
 | tup _=>simp [down] at h
 | when=>simp [down] at h
theorem downFs_nil {rec:AV→Option (FnT × List Nat)}:∀ (ys:List AV) (cs:List FnT) (ids:List Nat),downFs [] rec ys=some (cs,ids)→ids=[]
 | [],_,_,h=>by cases h;rfl
 | y :: ys,cs,ids,h=>by
  unfold downFs at h
  split at h
  ·rename_i heq;cases heq
  ·rename_i c0 l heq
   cases heq
   split at h
   ·rename_i cs' ids1 h1
    cases h
    exact downFs_nil _ _ _ h1
   ·cases h
  ·simp [getOb,getN] at h
  ·cases h
theorem downF_nil {x:AV} {T:FnT} {l:List Nat} (h:downF [] x=some (T,l)):l=[]:=by
 unfold downF downFw at h
 split at h
 ·cases h;rfl
 ·split at h
  ·rename_i cs ids hd
   cases h
   exact downFs_nil _ _ _ hd
  ·cases h
 ·cases h
theorem down_nil1 {x:AV} {p:PV} {l:List Nat} (h:down [] x=some (p,l)):l=[]:=by
 unfold down at h
 split at h
 ·split at h
  ·rename_i T l' hT
   cases h
   exact downF_nil hT
  ·cases h
 all_goals first
  | (cases h;rfl)
  | cases h
  | (simp [getOb,getN] at h;done)
theorem downL_ok (hL:∀ id,E.A id→getOb H id≠.dead→E.L id) (hH:∀ id,E.L id→getOb H id≠.dead→OkOb E id (getOb H id)) {ids':List Nat}:∀ {vs:List Value} {cs:List AV} {ps:List PV} {ids:List Nat},CellL E vs cs→downL H cs=some (ps,ids)→(∀ id∈ids,id∈ids') →
 vs.length=ps.length∧∀ (i:Nat) v p,vs[i]?=some v→ps[i]?=some p→v.oneCell'=true∧RdP E.w (FF E ids') v p
 | vs,[],ps,ids,hc,h,_=>by
  simp only [downL,Option.some.injEq,Prod.mk.injEq] at h
  obtain ⟨rfl,rfl⟩:=h
  have:=hc.1
  refine ⟨by simpa using this,fun i v p _ hp=>by simp at hp⟩
 | vs,c :: cs,ps,ids,hc,h,hsub=>by
  simp only [downL] at h
  split at h
  ·rename_i p ia qs ib h1 h2
   simp only [Option.some.injEq,Prod.mk.injEq] at h
   obtain ⟨rfl,rfl⟩:=h
   match vs,hc with
   | [],hc=>exact absurd hc.1 (by simp)
   | v :: vs,hc =>
    have hc':CellL E vs cs:=⟨by have:=hc.1;simpa using this,fun i u x hu hx=>hc.2 (i+1) u x (by simpa using hu) (by simpa using hx)⟩
    have ih:=downL_ok hL hH hc' h2 (fun id hid=>hsub id (by simp [hid]))
    refine ⟨by simp [ih.1],fun i u q hu hq=>?_⟩
    match i,hu,hq with
    | 0,hu,hq =>
     cases hu;cases hq
     have h3:=hc.2 0 v c rfl rfl
     exact ⟨h3.1,down_ok hL hH h3.2 h1 (fun id hid=>hsub id (by simp [hid]))⟩
    | i+1,hu,hq=>exact ih.2 i u q (by simpa using hu) (by simpa using hq)
  ·cases h
theorem Step.ff {w':World} {hd:Nat→Option Hdr} {wn:Nat→Prop} (hs:Step E n r w' hd) (hr:Ready E n r.news.length) (hk:r.kill=none) (hst:∀ p,r.st=some p→p.1 ∉ r.frz) {b o:Nat} (h:FF E r.frz b o) :
 (E.ext n r.news.length r.kill r.frz wn w' hd).Fz b o∧w'.cell? ⟨b,o,none⟩=E.w.cell? ⟨b,o,none⟩:=by
 rcases h with h | ⟨id,hid,hl,hown⟩
 ·exact (hs.evo hr 0).fz b o h
 ·obtain ⟨h1,h2⟩:=hr.ltO id b hl hown
  refine ⟨.inr ⟨h1,Nat.lt_of_lt_of_le h2 hs.below.size,fun id' hW ho=>?_,hr.hid id b hl hown⟩,cell_of_heap (hs.fr b h2 fun id' hW hor ho=>?_)⟩
  ·rcases Env.ext_own ho with ⟨hc,h',hρ',hb'⟩ | ⟨hc,ho⟩
   ·exact hs.apartO hr (by omega) hρ' hl (by rw [hk];simp) hown hb'
   ·rcases hW with ⟨hW,_,hnf⟩ | ⟨g1,g2,_⟩
    ·exact hnf ((hr.injO id' id b (hr.wl id' hW) hl ho hown) ▸ hid)
    ·exact absurd ⟨g1,g2⟩ hc
  ·have e:=hr.injO id' id b (hr.wl id' hW) hl ho hown
   rcases hor with g | g
   ·rw [hk] at g;cases g
   ·cases hst':r.st with
    | none=>rw [hst'] at g;cases g
    | some p =>
     rw [hst'] at g
     simp at g
     exact hst p hst' (by rw [g,e];exact hid)
end
end Go.Sx
