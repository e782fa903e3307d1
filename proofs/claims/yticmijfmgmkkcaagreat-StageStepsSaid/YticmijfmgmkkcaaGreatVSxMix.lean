import Derived.Test.YticmijfmgmkkcaaGreatVSxDrawE
set_option linter.unusedSimpArgs false
set_option linter.unusedVariables false
set_option maxRecDepth 100000
namespace Go.Sx
open Go.RowKit
section
variable {P:Program} {cx:Ctx} {call:CallSem} {opsA:Array Oper} {Q:Exit→Act→World→Prop} {ro:Option Nat}
theorem any_inv {J:(Nat→Prop)→Act→World→Prop} (hon:∀ (j:Nat) o,opsA[j]?=some o→∀ e∈o.after.toList,edgeBinds e=true→e.on < j)
 (hstep:∀ (D:Nat→Prop) a w (k:Nat) o (K':Act→World→Prop),J D a w→opsA[k]?=some o→¬ D k→(∀ e∈o.after.toList,edgeBinds e=true→D e.on)→(∀ a' w',J (fun j=>D j∨j=k) a' w'→K' a' w') →
   (Region.wanted o (yielded opsA a.tmps)=true∧o.wpI ro P a w K' Q)∨(Region.wanted o (yielded opsA a.tmps)=false∧K' (a.put o.dst undef) w))
 (hQ:∀ (D:Nat→Prop) a w,J D a w→(∀ j,j < opsA.size→D j)→Q .normal a w):∀ (fuel:Nat) (listed:Array Bool) (a:Act) (w:World),listed.size=opsA.size→listed.toList.count false≤fuel →
 J (fun j=>listed.getD j false=true) a w→wpAnyIn (fen ro) 0 P .any opsA Q fuel listed a w:=by
 have done:∀ (listed:Array Bool) (a:Act) (w:World),listed.size=opsA.size→J (fun j=>listed.getD j false=true) a w→Region.ready .any opsA listed=[]→Q .normal a w:=by
  intro listed a w hsz hI hr
  refine hQ _ a w hI ?_
  intro j
  induction j using Nat.strongRecOn with
  | _ j ih =>
   intro hj
   cases hl:listed.getD j false with
   | true=>rfl
   | false =>
    exfalso
    have ho:opsA[j]?=some opsA[j]:=Array.getElem?_eq_getElem hj
    have hm:j∈Region.ready .any opsA listed:=by
     unfold Region.ready
     refine List.mem_filter.2 ⟨List.mem_range.2 hj, ?_⟩
     have h1:listed.getD j true=false:=by
      have hjs:j < listed.size:=by omega
      simp only [Array.getD_eq_getD_getElem?,Array.getElem?_eq_getElem hjs,Option.getD_some] at hl ⊢
      exact hl
     simp only [h1,Bool.not_false,Bool.true_and,ho,Option.map_some,Option.getD_some]
     rw [Array.all_eq_true']
     intro e he
     rw [binds_any]
     cases hb:edgeBinds e with
     | false=>rfl
     | true =>
      have hon:=hon j _ ho e (by simpa using he) hb
      simpa using ih e.on hon (by omega)
    rw [hr] at hm
    simp at hm
 have mem:∀ (listed:Array Bool) (i:Nat),listed.size=opsA.size→i∈Region.ready .any opsA listed→∃ o,opsA[i]?=some o∧i < listed.size∧listed.getD i false=false∧∀ e∈o.after.toList,edgeBinds e=true→listed.getD e.on false=true:=by
  intro listed i hsz hi
  unfold Region.ready at hi
  obtain ⟨h1,h2⟩:=List.mem_filter.1 hi
  have hlt:i < opsA.size:=List.mem_range.1 h1
  have ho:opsA[i]?=some opsA[i]:=Array.getElem?_eq_getElem hlt
  simp only [Bool.and_eq_true,ho,Option.map_some,Option.getD_some] at h2
  obtain ⟨h3,h4⟩:=h2
  have his:i < listed.size:=by omega
  refine ⟨_,ho,his, ?_,fun e he hb=>?_⟩
  ·simp only [Array.getD_eq_getD_getElem?,Array.getElem?_eq_getElem his,Option.getD_some,Bool.not_eq_true'] at h3 ⊢
   exact h3
  ·rw [Array.all_eq_true'] at h4
   have:=h4 e (by simpa using he)
   rw [binds_any,hb] at this
   simpa using this
 intro fuel
 induction fuel with
 | zero =>
  intro listed a w hsz hc hI
  have hr:Region.ready .any opsA listed=[]:=by
   cases hr:Region.ready .any opsA listed with
   | nil=>rfl
   | cons i l =>
    exfalso
    obtain ⟨o,_,his,hf',_⟩:=mem listed i hsz (by rw [hr];simp)
    have:false∈listed.toList:=by
     simp only [Array.getD_eq_getD_getElem?,Array.getElem?_eq_getElem his,Option.getD_some] at hf'
     rw [← hf']
     exact Array.getElem_mem_toList his
    have:=List.count_pos_iff.2 this
    omega
  exact ⟨hr,done listed a w hsz hI hr⟩
 | succ fuel ih =>
  intro listed a w hsz hc hI
  refine ⟨done listed a w hsz hI,fun i hi=>?_⟩
  obtain ⟨o,ho,his,hfalse,hed⟩:=mem listed i hsz hi
  have hset:(fun j=>(listed.setIfInBounds i true).getD j false=true)=fun j=>listed.getD j false=true∨j=i:=by
   funext j
   refine propext ?_
   simp only [Array.getD_eq_getD_getElem?,Array.getElem?_setIfInBounds]
   by_cases hij:i=j
   ·subst hij
    simp [his]
   ·rw [if_neg hij]
    constructor
    ·exact .inl
    ·rintro (h | h)
     ·exact h
     ·exact absurd h.symm hij
  have hcount:(listed.setIfInBounds i true).toList.count false≤fuel:=by
   have hl:listed.toList[i]'(by simpa using his)=false:=by
    simp only [Array.getD_eq_getD_getElem?,Array.getElem?_eq_getElem his,Option.getD_some] at hfalse
    simpa using hfalse
   rw [Array.toList_setIfInBounds,List.count_set (by simpa using his),hl]
   simp only [beq_self_eq_true,if_true,show (true == false)=false from rfl,Bool.false_eq_true,if_false]
   omega
  have:=hstep _ a w i o (wpAnyIn (fen ro) 0 P .any opsA Q fuel (listed.setIfInBounds i true)) hI ho (by simp [hfalse]) hed fun a' w' hI'=>ih _ a' w' (by simpa using hsz) hcount (by rw [hset];exact hI')
  unfold wpOpIn
  rw [ho]
  simp only
  rcases this with ⟨h1,h2⟩ | ⟨h1,h2⟩
  ·rw [if_pos h1];exact h2
  ·rw [if_neg (by rw [h1];simp)];exact ⟨fun _ _=>trivial,h2⟩
theorem ahead_get:∀ (l:List Oper) (j:Nat),ahead j l=true→∀ (i:Nat) o,l[i]?=some o→∀ e∈o.after.toList,edgeBinds e=true→e.on < j+i
 | [],_,_,i,o,h=>by simp at h
 | o0 :: l,j,h,0,o,ho=>by
  cases ho
  simp only [ahead,Bool.and_eq_true] at h
  intro e he hb
  have:=List.all_eq_true.1 h.1 e he
  rw [hb] at this
  have:e.on < j:=Nat.le_of_ble_eq_true (by simpa [Nat.blt] using this)
  omega
 | o0 :: l,j,h,i+1,o,ho=>by
  simp only [ahead,Bool.and_eq_true] at h
  intro e he hb
  have:=ahead_get l (j+1) h.2 i o (by simpa using ho) e he hb
  omega
theorem put_eval_ne {a:Act} {dst:Option Tmp} {v:Value} {t:Nat} (h:dst≠some t):(a.put dst v).eval (.tmp t)=a.eval (.tmp t) :=
 Act.eval_put fun d hd hx=>h (by rw [hd];cases hx;rfl)
theorem put_eval_eq {a b:Act} {t:Nat} {v:Value} (hs:a.tmps.size=b.tmps.size) (h:¬ t < a.tmps.size→a.eval (.tmp t)=b.eval (.tmp t)):(a.put (some t) v).eval (.tmp t)=(b.put (some t) v).eval (.tmp t):=by
 by_cases ht:t < a.tmps.size
 ·have ht':t < b.tmps.size:=by omega
  simp [Act.put,Act.eval,ht,ht']
 ·have ht':¬ t < b.tmps.size:=by omega
  simp [Act.put,Act.eval,ht,ht']
theorem put_size {a:Act} {dst:Option Tmp} {v:Value}:(a.put dst v).tmps.size=a.tmps.size:=by cases dst <;> simp [Act.put]
theorem put_defers' {a:Act} {dst:Option Tmp} {v:Value}:(a.put dst v).defers=a.defers:=by cases dst <;> rfl
theorem eval_out {a b:Act} {t:Nat} (hs:a.tmps.size=b.tmps.size) (h:¬ t < a.tmps.size):a.eval (.tmp t)=b.eval (.tmp t):=by
 have h':¬ t < b.tmps.size:=by omega
 simp [Act.eval,h,h']
theorem head_virt {E:Env} {H:List Ob} {n:Nat} (hE:EnvOk E H n):∀ (l:List Oper) {a:Act} {sl:List AV} {K:List AV→Prop},SlOk E a sl→runHead cx P l sl H n K →
 ∃ a' sl',K sl'∧SlOk E a' sl'∧a'.tmps.size=a.tmps.size∧∀ t,(∀ o∈l,o.dst≠some t)→a'.eval (.tmp t)=a.eval (.tmp t)
 | [],a,sl,K,hs,h=>⟨a,sl,h,hs,rfl,fun _ _=>rfl⟩
 | o :: l,a,sl,K,hs,h=>by
  simp only [runHead] at h
  split at h
  ·rename_i r hg hst hev
   rw [needP_iff,givenP_iff] at h
   obtain ⟨hn,h⟩:=h
   obtain ⟨v,h1,h2,h3⟩:=(evOp_still (fun id _=>hE.live id) hE.ok (fun x _=>ev_all hs x) hn hst hev).run
   have h:=h h3
   rw [forceA_eq] at h
   obtain ⟨sl',k1,k2,_⟩:=hs.put (noW_ok h2) (fun c s w x hw=>absurd hw (noW_ne _ _ _ _ _)) h
   obtain ⟨a',sl'',g1,g2,g3,g4⟩:=head_virt hE l k2 k1
   refine ⟨a',sl'',g1,g2,g3.trans put_size,fun t ht=>?_⟩
   rw [g4 t fun o ho=>ht o (by simp [ho]),put_eval_ne (ht o (by simp))]
  ·exact h.elim
theorem recheck_get {ops:List Oper} {sl:List AV} {H:List Ob} {n:Nat} {k:Prop}:∀ (l:List Nat),recheck cx P ops sl H n k l→k∧∀ i∈l,∃ o r,ops[i]?=some o∧evOp cx P (ev sl) H n o=some r∧OptP r.need∧∀ d,o.dst=some d→noW r.val=getN .any sl d
 | [],h=>⟨h,fun i hi=>by simp at hi⟩
 | i :: l,h=>by
  simp only [recheck] at h
  split at h
  ·rename_i o ho
   split at h
   ·rename_i r hr
    rw [needP_iff] at h
    obtain ⟨h1,h2,h3⟩:=h
    obtain ⟨g1,g2⟩:=recheck_get l h3
    refine ⟨g1,fun j hj=>?_⟩
    rcases List.mem_cons.1 hj with rfl | hj
    ·exact ⟨o,r,ho,hr,h1,fun d hd=>by rw [hd] at h2;exact h2⟩
    ·exact g2 j hj
   ·exact h.elim
  ·exact h.elim
structure MixAt (P:Program) (cx:Ctx) (call:CallSem) (ops:List Oper) (K:Kont) (n0:Nat) (E0:Env) (D:Nat→Prop) (a:Act) (w:World) (E:Env) (as:Act) (sl:List AV) (H:List Ob) (n:Nat) (S pd:List Nat) (main:Option Nat) (rest:List Lev):Prop where
 w:E.w=w
 env:EnvOk E H n
 slok:SlOk E as sl
 evo:Evo n0 E0 E
 le:n0≤n
 sub:∀ i,D i→i∈S
 undone:∀ i,i∈S→D i∨i∈pd
 closed:∀ (i:Nat) o,ops[i]?=some o→D i→∀ e∈o.after.toList,edgeBinds e=true→D e.on
 size:a.tmps.size=as.tmps.size
 defers:Marks E a.defers
 agree:∀ t,(∀ (i:Nat) o,i∈pd→ops[i]?=some o→¬ D i→o.dst≠some t)→a.eval (.tmp t)=as.eval (.tmp t)
 facts:∀ i∈pd,∃ o r,ops[i]?=some o∧evOp cx P (ev sl) H n o=some r∧OptP r.need∧∀ d,o.dst=some d→noW r.val=getN .any sl d
 float:∀ i∈pd,isFloat ops i=true∧i∈S
 shut:∀ (i:Nat) o,ops[i]?=some o→edgesIn S o=true→i∈S∨main=some i
 clear:∀ i∈pd,∀ j∈pd,clearOf ops (befL [] ops) i j=true
 next:match main with
  | none=>K sl H n
  | some m=>∃ o,ops[m]?=some o∧o.guard=none∧m ∉ S∧(∀ i∈pd,clearOf ops (befL [] ops) i m=true)∧planOk ops (befL [] ops) (m :: S) (pd.filter (fun i=>!hasB (getN 0 (befL [] ops) m) i)) rest=true ∧
   runOp cx P call ops o sl H n (fun sl' H' n'=>runMix cx P call ops rest sl' H' n' K)
def MixSt (P:Program) (cx:Ctx) (call:CallSem) (ops:List Oper) (K:Kont) (n0:Nat) (E0:Env) (D:Nat→Prop) (a:Act) (w:World):Prop :=
 ∃ E as sl H n S pd main rest,MixAt P cx call ops K n0 E0 D a w E as sl H n S pd main rest
theorem mix_enter {ops:List Oper} {K:Kont} {n0:Nat} {E0 E:Env} {D:Nat→Prop} {a as:Act} {sl:List AV} {H:List Ob} {n:Nat} {S pend:List Nat} {levs:List Lev} (hE:EnvOk E H n) (hs:SlOk E as sl) (hevo:Evo n0 E0 E) (hle:n0≤n)
 (hsub:∀ i,D i→i∈S) (hund:∀ i,i∈S→D i∨i∈pend) (hcl:∀ (i:Nat) o,ops[i]?=some o→D i→∀ e∈o.after.toList,edgeBinds e=true→D e.on) (hsize:a.tmps.size=as.tmps.size) (hdef:Marks E a.defers)
 (hag:∀ t,(∀ (i:Nat) o,i∈pend→ops[i]?=some o→¬ D i→o.dst≠some t)→a.eval (.tmp t)=as.eval (.tmp t))
 (hp:planOk ops (befL [] ops) S pend levs=true) (h:runMix cx P call ops levs sl H n K):MixSt P cx call ops K n0 E0 D a E.w:=by
 match levs,hp,h with
 | [],hp,_=>simp [planOk] at hp
 | ⟨nw,pd,main⟩ :: rest,hp,h =>
  simp only [planOk,Bool.and_eq_true] at hp
  obtain ⟨⟨hnw,hpend,hfl⟩,⟨hshut,hclear⟩,hmain⟩:=hp
  simp only [runMix] at h
  obtain ⟨as',sl',h1,h2,h3,h4⟩:=head_virt hE _ hs h
  obtain ⟨h5,h6⟩:=recheck_get pd h1
  have hnw':∀ i∈nw,i∈pd∧i ∉ S:=fun i hi=>by
   have:=List.all_eq_true.1 hnw i hi
   simpa using this
  refine ⟨E,as',sl',H,n,nw++S,pd,main,rest,rfl,hE,h2,hevo,hle,fun i hi=>List.mem_append_right _ (hsub i hi),fun i hi=>?_,hcl,hsize.trans h3.symm,hdef,fun t ht=>?_,h6,fun i hi=>by simpa using List.all_eq_true.1 hfl i hi,fun i o ho he=>?_,fun i hi j hj=>List.all_eq_true.1 (List.all_eq_true.1 hclear i hi) j hj, ?_⟩
  ·rcases List.mem_append.1 hi with hi | hi
   ·exact .inr (hnw' i hi).1
   ·exact (hund i hi).imp id fun h=>by simpa using List.all_eq_true.1 hpend i h
  ·rw [h4 t fun o ho=>?_]
   ·exact hag t fun i o hi ho hd=>ht i o (by simpa using List.all_eq_true.1 hpend i hi) ho hd
   ·obtain ⟨i,hi,hio⟩:=List.mem_filterMap.1 ho
    exact ht i o (hnw' i hi).1 hio fun hd=>(hnw' i hi).2 (hsub i hd)
  ·have:=List.all_eq_true.1 hshut (o,i) (by
    rw [List.mem_zipIdx_iff_getElem?]
    exact ho)
   simp only [Bool.or_eq_true,he,Bool.not_true,Bool.false_eq_true,false_or] at this
   exact this.imp (fun h=>by simpa using h) (fun h=>by simpa using h)
  ·cases main with
   | none=>exact h5
   | some m =>
    simp only [Bool.and_eq_true] at hmain
    obtain ⟨g1,g2,g3,g4⟩:=hmain
    simp only at h5
    cases ho:ops[m]? with
    | none=>rw [ho] at g2;cases g2
    | some o =>
     rw [ho] at g2 h5
     exact ⟨o,ho,by simpa using g2,by simpa using g1,fun i hi=>List.all_eq_true.1 g3 i hi,g4,h5⟩
theorem mix_ok (hcx:GoodCtx P cx):DrawnOk2 P cx:=by
 intro call hcall ro opsA id E a sl H n K Q hE hs hord h hK
 simp only [Bool.and_eq_true,mixB] at hord
 obtain ⟨hmo,hah,hpl⟩:=hord
 have hE1:=hE.drew
 have hs1:SlOk { E with w:={ E.w with drawn:=E.w.drawn+1 } } a sl:=hs.mono (drew_evo n E) hE.ns
 have hon:∀ (j:Nat) o,opsA[j]?=some o→∀ e∈o.after.toList,edgeBinds e=true→e.on < j:=fun j o ho e he hb=>by
  have:=ahead_get opsA.toList 0 hah j o (by rw [Array.getElem?_toList];exact ho) e he hb
  omega
 have hbef:∀ (D:Nat→Prop),(∀ (i:Nat) o,opsA.toList[i]?=some o→D i→∀ e∈o.after.toList,edgeBinds e=true→D e.on)→∀ (k:Nat) o,opsA.toList[k]?=some o→(∀ e∈o.after.toList,edgeBinds e=true→D e.on)→∀ j,hasB (getN 0 (befL [] opsA.toList) k) j=true→D j:=by
  intro D hD k o ho he j hj
  exact befL_closed opsA.toList [] opsA.toList rfl (by simp) hD (fun i j hi=>by simp at hi) k j (fun o' ho'=>by rw [ho] at ho';cases ho';exact he) (hasB_iff.1 hj)
 refine wpIn_region_any hmo ?_
 refine any_inv (J:=MixSt P cx call opsA.toList K n E) hon ?_ ?_ opsA.size (Array.replicate opsA.size false) a _ (by simp) (by simp) ?_
 ·rintro D a w k o K' ⟨E1,as,sl1,H1,n1,S,pd,main,rest,hM⟩ hok hDk hed hK'
  have ho:opsA.toList[k]?=some o:=by rw [Array.getElem?_toList];exact hok
  have hbk:=hbef D hM.closed k o ho hed
  have hcl':∀ (i:Nat) o',opsA.toList[i]?=some o'→(D i∨i=k)→∀ e∈o'.after.toList,edgeBinds e=true→D e.on∨e.on=k:=by
   intro i o' ho' hi e he hb
   rcases hi with hi | rfl
   ·exact .inl (hM.closed i o' ho' hi e he hb)
   ·rw [ho] at ho';cases ho';exact .inl (hed e he hb)
  have hlooks:(∀ i∈pd,clearOf opsA.toList (befL [] opsA.toList) i k=true)→∀ t∈opLooks opsA.toList o,a.eval (.tmp t)=as.eval (.tmp t):=by
   intro hc t ht
   refine hM.agree t fun i oi hi hoi hnd hdst=>?_
   have:=hc i hi
   unfold clearOf at this
   rw [hoi,ho] at this
   simp only [hdst,Bool.or_eq_true] at this
   rcases this with h | h
   ·exact hnd (hbk i h)
   ·have h:¬ t∈opLooks opsA.toList o:=by simpa using h
    exact h ht
  by_cases hkS:k∈S
  ·
   have hkp:k∈pd:=(hM.undone k hkS).resolve_left hDk
   obtain ⟨o',r,ho',hev,hneed,hval⟩:=hM.facts k hkp
   rw [ho] at ho';cases ho'
   have hfl:=(hM.float k hkp).1
   unfold isFloat at hfl
   rw [ho] at hfl
   simp only [floatOp,Bool.and_eq_true] at hfl
   obtain ⟨hst,hg,_⟩:=hfl
   have hg:o.guard=none:=by simpa using hg
   have hag:=hlooks fun i hi=>hM.clear i hi k hkp
   obtain ⟨v,h1,h2,h3⟩:=(evOp_still (a:=as) (fun id _=>hM.env.live id) hM.env.ok (fun x _=>ev_all hM.slok x) hneed hst hev).run
   have hex:execOp a.eval o=execOp as.eval o:=execOp_congr o (fun cs b hc=>by rw [hc] at hst;cases hst) fun x hx=>by
    cases x with
    | tmp t=>exact hag t (looks_mem (by simpa using hx))
    | _=>rfl
   left
   refine ⟨by simp [Region.wanted,hg], ?_⟩
   rw [← hM.w]
   refine wp_value (v:=v) (w':=E1.w) (by rw [hex];exact h1) (hK' _ _ ?_)
   have hsz:a.tmps.size=as.tmps.size:=hM.size
   refine ⟨E1,as.put o.dst v,sl1,H1,n1,S,pd,main,rest,rfl,hM.env, ?_,hM.evo,hM.le,fun i hi=>?_,fun i hi=>(hM.undone i hi).imp .inl fun h=>h,hcl',by rw [put_size,put_size];exact hsz,by rw [put_defers'];exact hM.defers,fun t ht=>?_,hM.facts,hM.float,hM.shut,hM.clear,hM.next⟩
   ·refine ⟨by rw [put_size];exact hM.slok.size,fun t=>?_,hM.slok.stat,by rw [put_defers'];exact hM.slok.defers⟩
    by_cases hd:o.dst=some t
    ·by_cases hlt:t < as.tmps.size
     ·have e:(as.put o.dst v).eval (.tmp t)=v:=by rw [hd];simp [Act.put,Act.eval,hlt]
      rw [e,← hval t hd]
      exact noW_ok h2
     ·rw [eval_out (b:=as) put_size (by rw [put_size];exact hlt)]
      exact hM.slok.rd t
    ·rw [put_eval_ne hd];exact hM.slok.rd t
   ·rcases hi with hi | rfl
    ·exact hM.sub i hi
    ·exact hkS
   ·by_cases hd:o.dst=some t
    ·rw [hd]
     exact put_eval_eq hsz fun h=>eval_out hsz h
    ·rw [put_eval_ne hd,put_eval_ne hd]
     refine hM.agree t fun i oi hi hoi hnd=>?_
     by_cases hik:i=k
     ·subst hik
      rw [ho] at hoi;cases hoi
      exact hd
     ·exact ht i oi hi hoi fun h=>h.elim hnd hik
  ·
   have hmain:main=some k:=(hM.shut k o ho (List.all_eq_true.2 fun e he=>by
    cases hb:edgeBinds e with
    | false=>rfl
    | true=>simpa using hM.sub _ (hed e he hb))).resolve_left hkS
   subst hmain
   have hnext:=hM.next
   obtain ⟨o',ho',hg,hnS,hcm,hplan,hrun⟩:=hnext
   rw [ho] at ho';cases ho'
   have hag:=hlooks hcm
   rw [← hM.w]
   refine runOp_at (Q:=Q) hcx hcall hM.env hM.slok hag hrun fun E' v sl' H' n' hk hE' hs' hevo hn'=>hK' _ _ ?_
   refine mix_enter (S:=k :: S) (pend:=pd.filter (fun i=>!hasB (getN 0 (befL [] opsA.toList) k) i)) hE' hs' (hM.evo.trans (hevo.mono hM.le)) (Nat.le_trans hM.le hn') (fun i hi=>?_) (fun i hi=>?_) hcl' (by rw [put_size,put_size];exact hM.size) (by rw [put_defers'];exact hM.defers.mono hevo) (fun t ht=>?_) hplan hk
   ·rcases hi with hi | rfl
    ·exact List.mem_cons_of_mem _ (hM.sub i hi)
    ·simp
   ·rcases List.mem_cons.1 hi with rfl | hi
    ·exact .inl (.inr rfl)
    ·rcases hM.undone i hi with h | h
     ·exact .inl (.inl h)
     ·cases hb:hasB (getN 0 (befL [] opsA.toList) k) i with
      | true=>exact .inl (.inl (hbk i hb))
      | false=>exact .inr (List.mem_filter.2 ⟨h,by rw [hb];rfl⟩)
   ·by_cases hd:o.dst=some t
    ·rw [hd]
     exact put_eval_eq hM.size fun h=>eval_out hM.size h
    ·rw [put_eval_ne hd,put_eval_ne hd]
     refine hM.agree t fun i oi hi hoi hnd=>ht i oi ?_ hoi ?_
     ·refine List.mem_filter.2 ⟨hi, ?_⟩
      cases hb:hasB (getN 0 (befL [] opsA.toList) k) i with
      | true=>exact absurd (hbk i hb) hnd
      | false=>rfl
     ·rintro (h | rfl)
      ·exact hnd h
      ·exact hnS (hM.float i hi).2
 ·rintro D a w ⟨E1,as,sl1,H1,n1,S,pd,main,rest,hM⟩ hall
  have agree:∀ t,a.eval (.tmp t)=as.eval (.tmp t):=fun t=>hM.agree t fun i o hi ho hnd=>absurd (hall i (by
   have:=(List.getElem?_eq_some_iff.1 ho).1
   simpa using this)) hnd
  cases main with
  | some m =>
   have hnext:=hM.next
   obtain ⟨o',ho',_,hnS,_⟩:=hnext
   exact absurd (hM.sub m (hall m (by have:=(List.getElem?_eq_some_iff.1 ho').1;simpa using this))) hnS
  | none =>
   rw [← hM.w]
   exact hK E1 a sl1 H1 n1 hM.next hM.env ⟨hM.size.trans hM.slok.size,fun t=>(by rw [agree t];exact hM.slok.rd t),hM.slok.stat,hM.defers⟩ hM.evo hM.le
 ·have:(fun j=>(Array.replicate opsA.size false).getD j false=true)=fun _=>False:=by
   funext j
   simp only [Array.getD_eq_getD_getElem?,Array.getElem?_replicate]
   split <;> simp
  rw [this]
  exact mix_enter (E:={ E with w:={ E.w with drawn:=E.w.drawn+1 } }) (S:=[]) (pend:=[]) (as:=a) hE1 hs1 (drew_evo n E) (Nat.le_refl _) (fun _ h=>h.elim) (fun i hi=>by simp at hi) (fun _ _ _ h=>h.elim) rfl hs1.defers (fun _ _=>rfl) hpl h
theorem drawnOk (hcx:GoodCtx P cx):DrawnOk P cx:=⟨drawnOk1 hcx,mix_ok hcx⟩
end
end Go.Sx
