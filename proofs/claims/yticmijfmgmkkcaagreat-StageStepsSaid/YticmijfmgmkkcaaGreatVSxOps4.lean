import Derived.Test.YticmijfmgmkkcaaGreatVSxOps3
import Derived.Laws.StructEq
set_option linter.unusedSimpArgs false
set_option linter.unusedVariables false
set_option maxRecDepth 100000
namespace Go.Sx
open Go.RowKit
section
variable {P:Program} {cx:Ctx} {E:Env} {a:Act} {e:Operand→AV} {H:List Ob} {n:Nat} {r:Res}
 {dst:Option Tmp} {ty:TypeId} {pos:String} {after:Array Go.Edge} {guard:Option (Nat × Bool)}
theorem run_part {t:TypeId} {vs:Array Value} {cs:List AV} {off:Nat} {x:AV} (h:RdA E (.agg vs) (.agg cs)) (hr:readAt P t cs off=some x) :
 ∃ v,(part t vs off).run P E.w=.ok v E.w∧RdA E v x:=by
 obtain ⟨vs',hvs,hsz,h1,hrd⟩:=h.agg_inv
 cases hvs
 unfold readAt at hr
 have agg:∀ i,P.info? t=some i→(if Nat.ble (off+i.size) cs.length then some (AV.agg ((cs.drop off).take i.size)) else none)=some x →
  ((isAgg t).run P E.w=.ok true E.w)→∃ v,(part t vs off).run P E.w=.ok v E.w∧RdA E v x:=by
  intro i hi hx ha
  split at hx
  ·rename_i hle
   cases hx
   have hle':off+i.size≤cs.length:=Nat.le_of_ble_eq_true hle
   refine ⟨.agg (vs.extract off (off+i.size)),by simp [part,ha,sizeOf,typeInfo,hi],.agg _ _ ?_ ?_ ?_⟩
   ·simp;omega
   ·intro j v hv
    have hj:j < (vs.extract off (off+i.size)).size:=(Array.getElem?_eq_some_iff.1 hv).1
    simp at hj
    rw [Array.getElem?_extract,if_pos (by omega)] at hv
    exact h1 _ _ hv
   ·intro j v y hv hy
    have hj:j < (vs.extract off (off+i.size)).size:=(Array.getElem?_eq_some_iff.1 hv).1
    simp at hj
    rw [Array.getElem?_extract,if_pos (by omega)] at hv
    rw [List.getElem?_take_of_lt (by omega),List.getElem?_drop] at hy
    exact hrd _ _ _ hv hy
  ·cases hx
 cases hu:P.underlying t with
 | none=>simp [hu] at hr
 | some d =>
  cases hi:P.info? t with
  | none=>cases d <;> simp [hu,hi] at hr
  | some i =>
   have plain:(∀ fs,d≠.struct fs)→(∀ n e,d≠.array n e)→(if Nat.blt off cs.length then some (getN AV.any cs off) else none)=some x→∃ v,(part t vs off).run P E.w=.ok v E.w∧RdA E v x:=by
    intro h2 h3 hx
    split at hx
    ·rename_i hlt
     cases hx
     have hlt':off < cs.length:=Nat.le_of_ble_eq_true hlt
     have hv:vs[off]?=some (vs[off]'(by omega)):=Array.getElem?_eq_getElem (by omega)
     have ha:(isAgg t).run P E.w=.ok false E.w:=by
      simp only [isAgg,Sem.run_bind]
      rw [run_underlying hu]
      simp only [Result.andThen_ok]
      cases d <;> first | rfl | (exact absurd rfl (h2 _)) | (exact absurd rfl (h3 _ _))
     exact ⟨vs[off]'(by omega),by simp [part,ha,hv],hrd _ _ _ hv (getN_of_lt hlt')⟩
    ·cases hx
   cases d <;> simp only [hu,hi] at hr <;> first
    | exact plain (fun _=>by simp) (fun _ _=>by simp) hr
    | exact agg i hi hr (by simp [isAgg,run_underlying hu])
theorem s_field {t:TypeId} {x:Operand} {f:Nat} (hx:RdA E (a.eval x) (e x))
 (h:evOp cx P e H n ⟨dst,.field t x f,ty,pos,after,guard⟩=some r):PureRun P E a ⟨dst,.field t x f,ty,pos,after,guard⟩ r:=by
 simp only [evOp] at h
 split at h
 ·rename_i ft d cs hf hv
  obtain ⟨fs,fl,hu,hfl,h1,h2⟩:=fieldT_some hf
  simp only [Option.map_eq_some_iff] at h
  obtain ⟨y,hy,rfl⟩:=h
  rw [hv] at hx
  generalize hval:a.eval x=val at hx
  obtain ⟨vs,hvs,_⟩:=hx.agg_inv
  subst hvs
  obtain ⟨v,h3,h4⟩:=run_part hx hy
  refine ⟨rfl,rfl,rfl,rfl,v, ?_,h4,trivial⟩
  subst h1;subst h2
  simp [execOp,hval,Instr.field,run_underlying hu,hfl,asAgg,h3]
 ·cases h
theorem run_eqFields {vs us:Array Value} {xs ys:List AV} (hx:RdA E (.agg vs) (.agg xs)) (hy:RdA E (.agg us) (.agg ys)) (d:Nat) :
 ∀ (fs:List Field) (b:Bool),fs.any (fun f=>f.name == "_")=false→eqF P xs ys fs=some b→(Op.eqFields (d+1) vs us fs).run P E.w=.ok b E.w
 | [],b,_,h=>by
  cases h
  simp [Op.eqFields]
 | f :: fs,b,hn,h=>by
  simp only [List.any_cons,Bool.or_eq_false_iff,beq_eq_false_iff_ne,ne_eq] at hn
  obtain ⟨hn1,hn2⟩:=hn
  simp only [eqF] at h
  split at h
  ·rename_i k0 k a k' b' hu h1 h2
   split at h
   ·rename_i hk
    have:=kind_eq hk
    subst this
    simp only [Option.map_eq_some_iff] at h
    obtain ⟨r,hr,rfl⟩:=h
    obtain ⟨v1,e1,f1⟩:=run_part hx h1
    obtain ⟨v2,e2,f2⟩:=run_part hy h2
    cases f1;cases f2
    have ih:=run_eqFields hx hy d fs r hn2 hr
    by_cases hab:a=b'
    ·simp [Op.eqFields,hn1,e1,e2,run_equalIn_int _ d f.type _ _ _ _ hu,hab,ih]
    ·simp [Op.eqFields,hn1,e1,e2,run_equalIn_int _ d f.type _ _ _ _ hu,hab]
   ·cases h
  ·rename_i a b' hu h1 h2
   simp only [Option.map_eq_some_iff] at h
   obtain ⟨r,hr,rfl⟩:=h
   obtain ⟨v1,e1,f1⟩:=run_part hx h1
   obtain ⟨v2,e2,f2⟩:=run_part hy h2
   cases f1;cases f2
   have ih:=run_eqFields hx hy d fs r hn2 hr
   by_cases hab:a=b'
   ·simp [Op.eqFields,hn1,e1,e2,run_equalIn_bool _ d f.type _ _ hu,hab,ih]
   ·have hab':(a == b')=false:=by simpa using hab
    simp [Op.eqFields,hn1,e1,e2,run_equalIn_bool _ d f.type _ _ hu,hab']
  ·cases h
theorem toList_dec (x y:ByteArray):(x.toList == y.toList)=decide (x=y):=by
 rw [ByteArray.toList_eq,ByteArray.toList_eq]
 by_cases h:x=y
 ·subst h;simp
 ·have:¬ x.data.toList=y.data.toList:=fun e=>h (by cases x;cases y;simp only [ByteArray.mk.injEq];exact Array.toList_inj.1 e)
  rw [decide_eq_false h]
  exact beq_eq_false_iff_ne.2 this
theorem ltS_eq (x y:ByteArray):Op.bytesLess x.toList y.toList=ltS x y:=by rw [ByteArray.toList_eq,ByteArray.toList_eq];rfl
theorem strOp_ok {op:BinOp} {t:TypeId} {x y:ByteArray} (h:strOp op x y=some r) :
 ∃ v b,r=.pure b∧(binOp op t (.string x) (.string y)).run P E.w=.ok v E.w∧RdA E v b:=by
 unfold strOp at h
 split at h <;> first
  | (cases h;exact ⟨_,_,rfl,by simp [binOp,Op.stringOp,toList_dec,ltS_eq],.bool _⟩)
  | cases h
theorem s_binOp {op:BinOp} {t u:TypeId} {x y:Operand} (hx:RdA E (a.eval x) (e x)) (hy:RdA E (a.eval y) (e y)) (hn:OptP r.need)
 (h:evOp cx P e H n ⟨dst,.binOp op t x y u,ty,pos,after,guard⟩=some r):PureRun P E a ⟨dst,.binOp op t x y u,ty,pos,after,guard⟩ r:=by
 simp only [evOp] at h
 split at h
 ·rename_i k p k' q hvx hvy
  split at h
  ·rename_i hk
   have:=kind_eq hk
   subst this
   rw [hvx] at hx;rw [hvy] at hy
   generalize hval:a.eval x=val at hx
   generalize hval':a.eval y=val' at hy
   cases hx;cases hy
   obtain ⟨h1,h2,h3,h4,h5,v,h6,h7⟩:=arith_ok (P:=P) (E:=E) (t:=t) h hn
   refine ⟨h1,h2,h3,h4,v, ?_,h7,h5⟩
   have hg:(eqGuard op t x y (.int k p) (.int k q)).run P E.w=.ok () E.w:=by
    unfold eqGuard
    split <;> simp
   simp [execOp,hval,hval',hg,h6]
  ·cases h
 ·rename_i p q hvx hvy
  rw [hvx] at hx;rw [hvy] at hy
  generalize hval:a.eval x=val at hx
  generalize hval':a.eval y=val' at hy
  cases hx;cases hy
  have hg:(eqGuard op t x y (.bool p) (.bool q)).run P E.w=.ok () E.w:=by
   unfold eqGuard
   split <;> simp
  split at h
  ·rename_i hu
   cases h
   exact ⟨rfl,rfl,rfl,rfl,_,by simp [execOp,hval,hval',hg,run_eql_bool _ _ _ _ hu],.bool _,trivial⟩
  ·rename_i hu
   cases h
   exact ⟨rfl,rfl,rfl,rfl,_,by simp [execOp,hval,hval',hg,run_neq_bool _ _ _ _ hu],.bool _,trivial⟩
  ·cases h
 ·rename_i p q hvx hvy
  rw [hvx] at hx;rw [hvy] at hy
  generalize hval:a.eval x=val at hx
  generalize hval':a.eval y=val' at hy
  cases hx;cases hy
  obtain ⟨v,b,rfl,h6,h7⟩:=strOp_ok (P:=P) (E:=E) (t:=t) h
  have hg:(eqGuard op t x y (.string p) (.string q)).run P E.w=.ok () E.w:=by
   unfold eqGuard
   split <;> simp
  exact ⟨rfl,rfl,rfl,rfl,v,by simp [execOp,hval,hval',hg,h6],h7,trivial⟩
 ·rename_i xs ys hvx hvy
  rw [hvx] at hx;rw [hvy] at hy
  generalize hval:a.eval x=val at hx
  generalize hval':a.eval y=val' at hy
  obtain ⟨vs,hvs,_⟩:=hx.agg_inv
  obtain ⟨us,hus,_⟩:=hy.agg_inv
  subst hvs;subst hus
  split at h
  ·rename_i fs hu
   split at h
   ·rename_i b hb
    have fin:eqOdd P t fs.toList=false→(eqGuard op t x y (.agg vs) (.agg us)).run P E.w=.ok () E.w∧(Op.equalIn 10000 t (.agg vs) (.agg us)).run P E.w=.ok b E.w:=by
     intro ho
     simp only [eqOdd,Bool.or_eq_false_iff] at ho
     obtain ⟨o1,o2,o3⟩:=ho
     have hf:P.fieldsOf t=fs:=by unfold Program.fieldsOf;rw [hu]
     refine ⟨run_eqGuard_agg E.w op t x y vs us o2, ?_⟩
     rw [show (10000:Nat)=9999+1 from rfl,run_equalIn_struct E.w 9999 t vs us (by rw [hf];exact hu) o1,hf]
     exact run_eqFields hx hy 9998 fs.toList b o3 hb
    split at h
    ·cases h
     obtain ⟨h1,h2⟩:=fin hn
     exact ⟨rfl,rfl,rfl,rfl,_,by simp [execOp,hval,hval',h1,run_eql_struct,h2],.bool _,trivial⟩
    ·cases h
     obtain ⟨h1,h2⟩:=fin hn
     exact ⟨rfl,rfl,rfl,rfl,_,by simp [execOp,hval,hval',h1,run_neq_struct,h2],.bool _,trivial⟩
    ·cases h
   ·cases h
  ·cases h
 ·cases h
theorem sizeT_eq {t:TypeId} {m:Nat} (h:Nat.beq (sizeT P t) m=true) (hm:0 < m):∃ i,P.info? t=some i∧i.size=m:=by
 have h':=Nat.eq_of_beq_eq_true h
 unfold sizeT at h'
 split at h'
 ·rename_i i hi
  exact ⟨i,hi,h'⟩
 ·omega
theorem s_index {t:TypeId} {x ix:Operand} (hx:RdA E (a.eval x) (e x)) (hix:RdA E (a.eval ix) (e ix)) (hn:OptP r.need)
 (h:evOp cx P e H n ⟨dst,.index t x ix,ty,pos,after,guard⟩=some r):PureRun P E a ⟨dst,.index t x ix,ty,pos,after,guard⟩ r:=by
 simp only [evOp] at h
 split at h
 ·rename_i s k i hu hvx hvi
  rw [hvx] at hx;rw [hvi] at hix
  cases h
  simp only [OptP] at hn
  obtain ⟨h0,h1⟩:=hn
  have e1:a.eval x=.string s:=by generalize hval:a.eval x=val at hx;cases hx;rfl
  have e2:=hix.int_inv
  have hlt:i.toNat < s.size:=by omega
  have hgt:s[i.toNat]?=some (s.data.toList.getD i.toNat 0):=by
   rw [getElem?_pos s i.toNat hlt]
   have hl:i.toNat < s.data.toList.length:=by simpa using hlt
   simp [List.getD,List.getElem?_eq_getElem hl]
   rfl
  exact ⟨rfl,rfl,rfl,rfl,_,by simp [execOp,e1,e2,Instr.index,asIntOf,run_underlying hu,h0,hgt],.int _ _,trivial⟩
 ·cases h
theorem run_indexAddr {t elem:TypeId} {x ix:Operand} {b o len c sz:Nat} {k:IntKind} {i:Int} {info:TypeInfo} (hu:P.underlying t=some (.slice elem)) (hi:P.info? elem=some info) (hs:info.size=sz)
 (hx:a.eval x=.slice (some ⟨b,o,none⟩) len c) (hix:a.eval ix=.int k i) (h0:0≤i) (h1:i < (len:Int)) :
 (execOp a.eval ⟨dst,.indexAddr t x ix,ty,pos,after,guard⟩).run P E.w=.ok (.value (.pointer (some ⟨b,o+i.toNat * sz,none⟩))) E.w:=by
 have hs':(sizeOf elem).run P E.w=.ok sz E.w:=by simp [sizeOf,typeInfo,hi,hs]
 simp [execOp,hx,hix,Instr.indexAt,asIntOf,run_underlying hu,h0,h1,hs',addr_add]
theorem s_indexAddr {t:TypeId} {x ix:Operand} (hL:∀ id,E.A id→getOb H id≠.dead→E.L id) (hH:∀ id,E.L id→getOb H id≠.dead→OkOb E id (getOb H id))
 (hx:RdA E (a.eval x) (e x)) (hix:RdA E (a.eval ix) (e ix)) (hn:OptP r.need)
 (h:evOp cx P e H n ⟨dst,.indexAddr t x ix,ty,pos,after,guard⟩=some r):PureRun P E a ⟨dst,.indexAddr t x ix,ty,pos,after,guard⟩ r:=by
 have own:∀ (elem:TypeId) (k:IntKind) (i:Int) (id:Nat) (t':Ty) (xs:List t'.den),P.underlying t=some (.slice elem)→e ix=.int k i→e x=.own id→RowsAt E t' xs (E.ρ id)→E.L id →
  (if Nat.beq (sizeT P elem) t'.size then some (⟨some (0≤i∧i < (xs.length:Int)),none,.rptr id t'.size i.toNat 0,[],none,none,[]⟩ : Res) else none)=some r→PureRun P E a ⟨dst,.indexAddr t x ix,ty,pos,after,guard⟩ r:=by
  intro elem k i id t' xs hu hki hvx hrow hl h
  split at h
  ·rename_i hk
   cases h
   obtain ⟨info,hi,hs⟩:=sizeT_eq hk (size_pos t')
   simp only [OptP] at hn
   rw [hvx] at hx;rw [hki] at hix
   obtain ⟨hA,h1,hp⟩:=hx.own_inv
   have hp:=hp hl
   cases hρ:E.ρ id with
   | none =>
    rw [hρ] at hrow
    have:xs=[]:=hrow
    subst this
    simp at hn
    omega
   | some hd =>
    rw [hρ] at hrow hp
    have hlen:hd.len=xs.length:=hrow.1
    have hv:a.eval x=.slice (some ⟨hd.blk,hd.off,none⟩) hd.len hd.cap:=hp
    have hr:=run_indexAddr (dst:=dst) (ty:=ty) (pos:=pos) (after:=after) (guard:=guard) (E:=E) hu hi hs hv hix.int_inv hn.1 (by rw [hlen];exact hn.2)
    refine ⟨rfl,rfl,rfl,rfl,_,hr, ?_,trivial⟩
    exact .rptr _ id t'.size i.toNat 0 hA ⟨_,_,rfl⟩ fun _=>⟨hd,hρ,by omega,rfl⟩
  ·cases h
 simp only [evOp] at h
 split at h
 ·rename_i elem k i hu hki
  split at h
  ·rename_i t' xs hvx
   split at h
   ·rename_i hk
    cases h
    obtain ⟨info,hi,hs⟩:=sizeT_eq hk (size_pos t')
    simp only [OptP] at hn
    rw [hvx] at hx;rw [hki] at hix
    have hx:=hx.sl_inv
    rcases hx.sl_inv with ⟨hnil,_⟩ | ⟨b,o,c,g,hval,hc,hl,hcell,hrd⟩
    ·subst hnil;simp at hn;omega
    ·have hr:=run_indexAddr (dst:=dst) (ty:=ty) (pos:=pos) (after:=after) (guard:=guard) (E:=E) hu hi hs hval hix.int_inv hn.1 hn.2
     refine ⟨rfl,rfl,rfl,rfl,_,hr, ?_,trivial⟩
     have hlt:i.toNat < xs.length:=by omega
     refine .eptr _ _ _ (fun j=>g (i.toNat * t'.size+j)) (fun j hj=>?_) (fun j p hp=>hrd _ p (flat_get t' xs i.toNat hlt _ j p hp))
     rw [enc_length] at hj
     have h1:i.toNat * t'.size+j < (flat t' xs).length:=by
      rw [flat_length]
      calc i.toNat * t'.size+j < i.toNat * t'.size+t'.size:=by omega
       _=(i.toNat+1) * t'.size:=by rw [Nat.add_mul,Nat.one_mul]
       _≤xs.length * t'.size:=Nat.mul_le_mul_right _ hlt
     have:=hcell _ h1
     rw [Nat.add_assoc]
     exact this
   ·cases h
  ·rename_i id hvx
   have hA:E.A id:=by rw [hvx] at hx;exact hx.own_inv.1
   split at h
   ·rename_i t' xs hob
    have hne:getOb H id≠.dead:=by rw [hob];simp
    have hl:=hL id hA hne
    have hok:=hH id hl hne
    rw [hob] at hok
    exact own elem k i id t' xs hu hki hvx hok hl h
   ·rename_i t' xs hob
    have hne:getOb H id≠.dead:=by rw [hob];simp
    have hl:=hL id hA hne
    have hok:=hH id hl hne
    rw [hob] at hok
    exact own elem k i id t' xs hu hki hvx hok hl h
   ·rename_i gt m xss hob
    have hne:getOb H id≠.dead:=by rw [hob];simp
    have hl:=hL id hA hne
    have hok:=hH id hl hne
    rw [hob] at hok
    obtain ⟨hd,hρ,hg⟩:=hok
    split at h
    ·rename_i hk
     cases h
     obtain ⟨info,hi,hs⟩:=sizeT_eq hk (by decide)
     simp only [OptP] at hn
     rw [hvx] at hx;rw [hki] at hix
     obtain ⟨_,h1,hp⟩:=hx.own_inv
     have hp:=hp hl
     rw [hρ] at hp
     have hv:a.eval x=.slice (some ⟨hd.blk,hd.off,none⟩) hd.len hd.cap:=hp
     have hr:=run_indexAddr (dst:=dst) (ty:=ty) (pos:=pos) (after:=after) (guard:=guard) (E:=E) hu hi hs hv hix.int_inv hn.1 (by rw [hg.len];exact hn.2)
     refine ⟨rfl,rfl,rfl,rfl,_,hr, ?_,trivial⟩
     exact .rptr _ id 1 i.toNat 0 hA ⟨_,_,rfl⟩ fun _=>⟨hd,hρ,by rw [hg.len];omega,by simp⟩
    ·cases h
   ·cases h
  ·rename_i id gi hvx
   have hA:E.A id:=by rw [hvx] at hx;exact hx.grow_inv.1
   split at h
   ·rename_i gt m xss hob
    have hne:getOb H id≠.dead:=by rw [hob];simp
    have hl:=hL id hA hne
    have hok:=hH id hl hne
    rw [hob] at hok
    obtain ⟨hd,hρ,hg⟩:=hok
    split at h
    ·rename_i hk
     simp only [Bool.and_eq_true] at hk
     cases h
     obtain ⟨info,hi,hs⟩:=sizeT_eq hk.1 (by decide)
     simp only [OptP] at hn
     obtain ⟨n1,n2,n3⟩:=hn
     rw [hvx] at hx;rw [hki] at hix
     obtain ⟨o,k1,k2⟩:=hx.grow_inv.2.2 hl
     obtain ⟨o',k3,k4⟩:=hg.rows gi _ (List.getElem?_eq_getElem n1)
     rw [k1] at k3;cases k3
     have hgd:xss.getD gi []=xss[gi]:=by simp [List.getD,n1]
     rw [hgd] at n3
     cases o with
     | none =>
      have:xss[gi]=[]:=k4
      rw [this] at n3
      simp at n3
      omega
     | some h' =>
      have hv:a.eval x=.slice (some ⟨h'.blk,h'.off,none⟩) h'.len h'.cap:=k2
      have hlen:h'.len=xss[gi].length:=k4.1
      have hr:=run_indexAddr (dst:=dst) (ty:=ty) (pos:=pos) (after:=after) (guard:=guard) (E:=E) hu hi hs hv hix.int_inv n2 (by rw [hlen];exact n3)
      refine ⟨rfl,rfl,rfl,rfl,_,hr, ?_,trivial⟩
      exact .gptr _ id gi i.toNat hA ⟨_,_,rfl⟩ fun _=>⟨h',k1,by omega,by simp⟩
    ·cases h
   ·cases h
  ·rename_i ct id m hvx
   split at h
   ·rename_i cs hob
    split at h
    ·rename_i hk
     cases h
     obtain ⟨info,hi,hs⟩:=sizeT_eq hk (by decide)
     simp only [OptP] at hn
     rw [hvx] at hx;rw [hki] at hix
     obtain ⟨hA,h1,hp⟩:=hx.csl_inv
     have hl:=hL id hA (by rw [hob];simp)
     obtain ⟨hd,hρ,hv⟩:=hp hl
     have hr:=run_indexAddr (dst:=dst) (ty:=ty) (pos:=pos) (after:=after) (guard:=guard) (E:=E) hu hi hs hv hix.int_inv hn.1 hn.2
     refine ⟨rfl,rfl,rfl,rfl,_,hr, ?_,trivial⟩
     exact .ptr _ id _ hA ⟨_,_,rfl⟩ fun _=>⟨hd,hρ,by simp⟩
    ·cases h
   ·cases h
  ·rename_i id k' lo len hvx
   split at h
   ·cases h
   ·rename_i hne
    split at h
    ·rename_i hk
     cases h
     simp only [Bool.and_eq_true] at hk
     obtain ⟨info,hi,hs⟩:=sizeT_eq hk.1 (Nat.le_of_ble_eq_true hk.2)
     simp only [OptP] at hn
     rw [hvx] at hx;rw [hki] at hix
     obtain ⟨hA,h1,hp⟩:=hx.ownc_inv
     have hl:=hL id hA hne
     obtain ⟨hd,hρ,h2,hv⟩:=hp hl
     have hr:=run_indexAddr (dst:=dst) (ty:=ty) (pos:=pos) (after:=after) (guard:=guard) (E:=E) hu hi hs hv hix.int_inv hn.1 hn.2
     refine ⟨rfl,rfl,rfl,rfl,_,hr, ?_,trivial⟩
     refine .rptr _ id k' (lo+i.toNat) 0 hA ⟨_,_,rfl⟩ fun _=>⟨hd,hρ,by omega, ?_⟩
     simp [Nat.add_mul,Nat.add_assoc]
    ·cases h
  ·rename_i id k' lo len hvx
   split at h
   ·cases h
   ·rename_i hne
    split at h
    ·rename_i hk
     cases h
     simp only [Bool.and_eq_true] at hk
     obtain ⟨info,hi,hs⟩:=sizeT_eq hk.1 (Nat.le_of_ble_eq_true hk.2)
     simp only [OptP] at hn
     rw [hvx] at hx;rw [hki] at hix
     obtain ⟨hA,h1,hp⟩:=hx.ownp_inv
     have hl:=hL id hA hne
     have hp:=hp hl
     cases hρ:E.ρ id with
     | none =>
      rw [hρ] at hp
      have:=hp.1
      omega
     | some hd =>
      rw [hρ] at hp
      obtain ⟨h2,o,c,hv,h3,_,h4⟩:=hp
      have hr:=run_indexAddr (dst:=dst) (ty:=ty) (pos:=pos) (after:=after) (guard:=guard) (E:=E) hu hi hs hv hix.int_inv hn.1 hn.2
      refine ⟨rfl,rfl,rfl,rfl,_,hr, ?_,trivial⟩
      refine .rptr _ id k' (lo+i.toNat) 0 hA ⟨_,_,rfl⟩ fun _=>⟨hd,hρ,by omega, ?_⟩
      have:o=hd.off+lo * k':=h4.resolve_right (by omega)
      subst this
      simp [Nat.add_mul,Nat.add_assoc]
    ·cases h
  ·cases h
 ·rename_i len elem k i hu hki
  split at h
  ·cases h
  ·rename_i info hi
   split at h
   ·rename_i id off hvx
    cases h
    rw [hvx] at hx;rw [hki] at hix
    simp only [OptP] at hn
    have hix':=hix.int_inv
    obtain ⟨hA,⟨b,o,hval⟩,hp⟩:=hx.ptr_inv
    have hsize:(sizeOf elem).run P E.w=.ok (sizeT P elem) E.w:=by simp [sizeOf,typeInfo,hi,sizeT]
    refine ⟨rfl,rfl,rfl,rfl,.pointer (some ⟨b,o+i.toNat * sizeT P elem,none⟩), ?_, ?_,trivial⟩
    ·simp [execOp,hval,hix',Instr.indexAt,asIntOf,run_underlying hu,Instr.sureAddr,hn.1,hn.2,hsize,addr_add]
    ·rw [hval] at hp
     refine .ptr _ id _ hA ⟨_,_,rfl⟩ fun hl=>?_
     obtain ⟨hd,h3,h4⟩:=hp hl
     simp only [Value.pointer.injEq,Option.some.injEq,Addr.mk.injEq,and_true] at h4
     exact ⟨hd,h3,by rw [h4.1,h4.2]⟩
   ·cases h
 ·cases h
theorem run_slice' {t elem:TypeId} {x:Operand} {lo hi:Option Operand} {l h len c sz:Nat} {ba:Option Addr} {info:TypeInfo} (hu:P.underlying t=some (.slice elem)) (hi':P.info? elem=some info) (hs:info.size=sz)
 (hx:a.eval x=.slice ba len c) (hlo:(lo=none∧l=0)∨∃ o k,lo=some o∧a.eval o=.int k (l:Int)) (hhi:(hi=none∧h=len)∨∃ o k,hi=some o∧a.eval o=.int k (h:Int)) (h1:l≤h) (h2:h≤c) :
 (execOp a.eval ⟨dst,.slice t x lo hi none,ty,pos,after,guard⟩).run P E.w=.ok (.value (.slice (if c=l then ba else ba.map (·.add (l * sz))) (h - l) (c - l))) E.w:=by
 have hs':(sizeOf elem).run P E.w=.ok sz E.w:=by simp [sizeOf,typeInfo,hi',hs]
 have hb:(Instr.sliceBounds true len c (lo.map a.eval) (hi.map a.eval) none).run P E.w=.ok (l,h,c) E.w:=by
  rcases hlo with ⟨rfl,rfl⟩ | ⟨o,k,rfl,ho⟩ <;> rcases hhi with ⟨rfl,rfl⟩ | ⟨o',k',rfl,ho'⟩ <;>
   simp [Instr.sliceBounds,Instr.sliceBound,asIntOf, *] <;> omega
 simp [execOp,hx,Instr.sliceAt,Instr.slice,run_underlying hu,hb,hs']
theorem run_slice {t elem:TypeId} {x:Operand} {lo hi:Option Operand} {l h len c sz:Nat} {ba:Option Addr} {info:TypeInfo} (hu:P.underlying t=some (.slice elem)) (hi':P.info? elem=some info) (hs:info.size=sz)
 (hx:a.eval x=.slice ba len c) (hlo:(lo=none∧l=0)∨∃ o k,lo=some o∧a.eval o=.int k (l:Int)) (hhi:(hi=none∧h=len)∨∃ o k,hi=some o∧a.eval o=.int k (h:Int)) (h1:l≤h) (h2:h≤len) (h3:len≤c) :
 (execOp a.eval ⟨dst,.slice t x lo hi none,ty,pos,after,guard⟩).run P E.w=.ok (.value (.slice (if c=l then ba else ba.map (·.add (l * sz))) (h - l) (c - l))) E.w:=by
 have hs':(sizeOf elem).run P E.w=.ok sz E.w:=by simp [sizeOf,typeInfo,hi',hs]
 have hb:(Instr.sliceBounds true len c (lo.map a.eval) (hi.map a.eval) none).run P E.w=.ok (l,h,c) E.w:=by
  rcases hlo with ⟨rfl,rfl⟩ | ⟨o,k,rfl,ho⟩ <;> rcases hhi with ⟨rfl,rfl⟩ | ⟨o',k',rfl,ho'⟩ <;>
   simp [Instr.sliceBounds,Instr.sliceBound,asIntOf, *] <;> omega
 simp [execOp,hx,Instr.sliceAt,Instr.slice,run_underlying hu,hb,hs']
end
end Go.Sx
