import Derived.Test.YticmijfmgmkkcaaGreatVSxState
import Derived.Tactics
import Derived.WalkSpells
set_option linter.unusedSimpArgs false
set_option linter.unusedVariables false
set_option maxRecDepth 100000
namespace Go.Sx
open Go.RowKit
theorem asSl_ne {n:Nat} {news:List Ob} {x y:AV} (h:asSl n news x=some y):∀ c s w v,y≠.when c s w v:=by
 intro c s w v hy
 subst hy
 cases x with
 | fn f xs ys =>
  simp only [asSl] at h
  split at h <;> cases h
 | _ =>
  simp only [asSl] at h
  repeat' split at h
  all_goals first
   | cases h;done
   | (simp only [Option.map_eq_some_iff] at h;obtain ⟨_,_,h⟩:=h;cases h)
def CallOk1 (P:Program) (call:CallSem):Prop :=
 ∀ g args H n K,call g args H n K→∀ (E:Env) (vs:Array Value),EnvOk E H n→vs.size=args.length→(∀ (i:Nat) v x,vs[i]?=some v→args[i]?=some x→RdA E v x) →
  (∃ fn,P.funcs[g]?=some fn∧fn.body.isSome=true∧(fn.name == "runtime.NumGoroutine")=false) ∧
  Calls P g vs E.w (fun en w'=>∃ v E' x H' n',en=.returned v∧E'.w=w'∧n≤n'∧EnvOk E' H' n'∧RdA E' v x∧Evo n E E'∧K x H' n')
def CallOk2 (P:Program) (call:CallSem):Prop :=
 ∀ id args H n K,call 0 (.rnd id :: args) H n K→∀ (E:Env) (vs:Array Value),EnvOk E H n→vs.size=args.length→(∀ (i:Nat) v x,vs[i]?=some v→args[i]?=some x→RdA E v x) →
  getOb H id≠.dead∧∀ hd,E.ρ id=some hd→∃ fn tmps x y,(Instr.yield hd.blk vs).run P E.w=.ok (.round hd.blk fn tmps x y) E.w ∧
   RoundIn (fen none) 0 P hd.blk fn tmps x y E.w (fun en w'=>∃ v E' z H' n',en=.returned v∧E'.w=w'∧n≤n'∧EnvOk E' H' n'∧RdA E' v z∧Evo n E E'∧K z H' n')
def CallOk (P:Program) (call:CallSem):Prop:=CallOk1 P call∧CallOk2 P call
section
variable {P:Program} {cx:Ctx} {call:CallSem} {E:Env} {a:Act} {dr:Bool} {ops:List Oper} {opsA:Array Oper} {o:Oper} {sl:List AV} {H:List Ob} {n:Nat} {r:Res}
 {K:Kont} {K':Act→World→Prop} {Q:Exit→Act→World→Prop} {ro:Option Nat}
theorem opRes_when (h:opRes cx P dr ops o sl H n=some r) {c:Prop} {s:Nat} {w:Bool} {x:AV} (hv:r.val=.when c s w x):condOf sl s w=some c∧∀ c' s' w' v',x≠.when c' s' w' v':=by
 unfold opRes at h
 split at h
 ·split at h
  ·cases h
   exact absurd hv (noW_ne _ _ _ _ _)
  ·cases h
 ·repeat' split at h
  all_goals first
   | cases h;done
   | (cases h;cases hv;exact ⟨‹_›,asSl_ne ‹_›⟩)
theorem opRes_turn (hrd:∀ t∈opLooks ops o,RdA E (a.eval (.tmp t)) (getN .any sl t)) (h:opRes cx P dr ops o sl H n=some r):TurnOk E H r:=by
 unfold opRes at h
 split at h
 ·split at h
  ·rename_i q g v news kill st frz hev
   cases h
   have hrd':∀ x∈o.op.operands.toList,RdA E (a.eval x) (ev sl x):=ev_rd fun t ht=>hrd t (looks_mem ht)
   obtain ⟨h1,h2⟩:=evOp_turns hev
   refine ⟨fun id hid=>?_,fun p hp=>?_⟩
   ·obtain ⟨⟨x,hx,hn⟩,t,xs,hob⟩:=h1 id hid
    exact ⟨names_A (hrd' x hx) hn,by rw [hob];trivial⟩
   ·obtain ⟨⟨x,hx,hn⟩,hob⟩:=h2 p hp
    exact ⟨names_A (hrd' x hx) hn,hob⟩
  ·cases h
 ·repeat' split at h
  all_goals first
   | cases h;done
   | (cases h;exact ⟨fun id hid=>(by cases hid),fun p hp=>(by cases hp)⟩)
theorem StPre.of (hcx:GoodCtx P cx) (hE:EnvOk E H n) (hs:SlOk E a sl) (hn:OptP r.need):StPre P cx E a dr ops o sl H n r :=
 ⟨hcx,fun m _=>hE.ready m,hE.fin,fun id _=>hE.live id,hE.ok,fun id _ _=>hE.wr id,fun t _=>hs.rd t,hs.stat,hn⟩
theorem nilF_ok {x:AV} {q:Prop} {v:Value} (hE:EnvOk E H n) (hx:RdA E v x) (h:nilQ.nilF H x=some q):∃ a m c,v=.slice a m c∧(a=none→q):=by
 unfold nilQ.nilF at h
 split at h
 ·cases h
  rcases hx.sl_inv.sl_inv with ⟨rfl,b,c,rfl⟩ | ⟨b,o,c,g,rfl,_⟩
  ·exact ⟨_,_,_,rfl,fun _=>rfl⟩
  ·exact ⟨_,_,_,rfl,fun h=>by cases h⟩
 ·cases h
  obtain ⟨b,rfl⟩:=hx.cap0_inv
  exact ⟨_,_,_,rfl,fun _=>trivial⟩
 ·cases h
  obtain ⟨b,c,rfl⟩:=hx.nils_inv
  exact ⟨_,_,_,rfl,fun _=>trivial⟩
 ·rename_i id
  have key:∀ (t:Ty) (xs:List t.den),getOb H id≠.dead→RowsAt E t xs (E.ρ id)→∃ a m c,v=.slice a m c∧(a=none→xs=[]):=by
   intro t xs hne hrow
   have hv:=hx.own_inv.2.2 (hE.live id hne)
   cases hρ:E.ρ id with
   | none =>
    rw [hρ] at hv hrow
    obtain ⟨b,rfl⟩:=hv
    exact ⟨_,_,_,rfl,fun _=>hrow⟩
   | some hd =>
    rw [hρ] at hv
    exact ⟨_,_,_,hv,fun h=>by cases h⟩
  split at h
  ·rename_i t xs hob
   cases h
   have hne:getOb H id≠.dead:=by rw [hob];simp
   have hok:=hE.ok id (hE.live id hne) hne
   rw [hob] at hok
   exact key t xs hne hok
  ·rename_i t xs hob
   cases h
   have hne:getOb H id≠.dead:=by rw [hob];simp
   have hok:=hE.ok id (hE.live id hne) hne
   rw [hob] at hok
   exact key t xs hne hok
  ·cases h
 ·cases h
theorem nilQ_ok {op:BinOp} {t:TypeId} {x:AV} {eq:Bool} {q:Prop} {v:Value} (hE:EnvOk E H n) (hx:RdA E v x) (h:nilQ P H op t x=some (eq,q)) (w:World) :
 ∃ b,(binOp op t v (.slice none 0 0)).run P w=.ok (.bool b) w∧(b=eq→q):=by
 unfold nilQ at h
 cases ht:P.underlying t with
 | none=>rw [ht] at h;cases h
 | some u =>
  rw [ht] at h
  cases u with
  | slice e =>
   cases op with
   | eql =>
    simp only [Option.map_eq_some_iff,Prod.mk.injEq] at h
    obtain ⟨q',hq,rfl,rfl⟩:=h
    obtain ⟨a,m,c,rfl,hn⟩:=nilF_ok hE hx hq
    exact ⟨_,Lib.run_eql_slice_nil w t e a m c 0 0 ht,fun h=>hn (by simpa using h)⟩
   | neq =>
    simp only [Option.map_eq_some_iff,Prod.mk.injEq] at h
    obtain ⟨q',hq,rfl,rfl⟩:=h
    obtain ⟨a,m,c,rfl,hn⟩:=nilF_ok hE hx hq
    exact ⟨_,run_neq_slice_nil_any w t e a m c 0 0 ht,fun h=>hn (by simpa using h)⟩
   | _=>cases h
  | _=>cases h
theorem genK_ok (hcx:GoodCtx P cx) (h:opRes cx P dr ops o sl H n=some r) {k:AV→Prop} (hk:genK cx H n o sl r.val k):k r.val:=by
 unfold genK at hk
 split at hk
 ·rename_i c hg hop
  split at hk
  ·rename_i f hcal
   split at hk
   ·rename_i g xs ys hf
    split at hk
    ·rename_i shs C hC
     split at hk
     ·rename_i args' ids hlow
      split at hk
      ·rename_i cr gen hcr
       have hgood:=(hcx g shs C hC).gen _ _ hcr _ hk
       have hval:r.val=noW (shift n cr.res):=by
        obtain ⟨dst,op',ty,pos,after,guard⟩:=o
        obtain ⟨callee,args,ts⟩:=c
        simp only at hop hcal hg
        subst hop;subst hcal;subst hg
        simp only [opRes,evOp] at h
        rw [hf] at h
        simp only [callC,hC,hlow,hcr] at h
        repeat' split at h
        all_goals first
         | cases h;done
         | (rename_i heq;repeat' split at heq
            all_goals first
             | cases heq;done
             | (cases heq;cases h;rfl))
       rw [hval]
       exact hgood
      ·exact hk
     ·exact hk
    ·exact hk
   ·exact hk
  ·exact hk
 ·exact hk
theorem find_ok {kk:IntKind} {ok:Bool} {q:Int} {zr:AV} {k:AV→Prop}:∀ (l:List MapEntry) (es:List (Int × AV)) (i:Nat),l.length=es.length →
 (∀ (i:Nat) m p,l[i]?=some m→es[i]?=some p→m.key=.int .i64 p.1∧RdA E m.val p.2)→lookK ok q zr k es →
 (∃ j u x,Instr.findNow (.int kk) (.int .i64 q) l i=some (some (j,u))∧RdA E u x∧k (match ok with | true=>.tup [x,.bool true] | false=>x)) ∨
 (Instr.findNow (.int kk) (.int .i64 q) l i=some none∧k (match ok with | true=>.tup [zr,.bool false] | false=>zr))
 | [],[],_,_,_,h=>.inr ⟨rfl,h⟩
 | [],_ :: _,_,hl,_,_=>by simp at hl
 | _ :: _,[],_,hl,_,_=>by simp at hl
 | m :: l,p :: es,i,hl,hk,h=>by
  obtain ⟨h1,h2⟩:=hk 0 m p rfl rfl
  simp only [lookK,decide_eq_true_eq,decide_eq_false_iff_not] at h
  by_cases hq:q=p.1
  ·refine .inl ⟨i,m.val,p.2, ?_,h2,h.1 hq⟩
   simp [Instr.findNow,h1,Instr.sameNow,hq]
  ·have h3:(q == p.1)=false:=by simpa using hq
   simp only [Instr.findNow,h1,Instr.sameNow,if_true,h3]
   exact find_ok l es (i+1) (by simpa using hl) (fun i m p hm hp=>hk (i+1) m p (by simpa using hm) (by simpa using hp)) (h.2 hq)
theorem lookup_ok {t:TypeId} {m x:AV} {ok:Bool} {vm vx:Value} {es:List (Int × AV)} {q:Int} {k:AV→Prop} (hE:EnvOk E H n) (hm:RdA E vm m) (hx:RdA E vx x) (h:mapQ P H t m x=some (es,q))
 (hk:lookK ok q (lookZ P t) k es∨∃ v,mergeV q (lookZ P t) es=some v∧k (lookR ok v (memD q es))) :
 ∃ v y,(Instr.lookup t vm vx ok).run P E.w=.ok v E.w∧RdA E v y∧k y:=by
 unfold mapQ at h
 split at h
 ·rename_i kt et hu
  split at h
  ·rename_i kk z id q' hkt hz
   split at h
   ·rename_i es' hob
    cases h
    have hA:=hm.mp_inv.1
    have hne:getOb H id≠.dead:=by rw [hob];simp
    have hl:=hE.live id hne
    have hok:=hE.ok id hl hne
    rw [hob] at hok
    obtain ⟨hd,hρ,ms,clock,hb,hsz,hes⟩:=hok
    obtain ⟨hd',hρ',hval⟩:=hm.mp_inv.2.2 hl
    rw [hρ] at hρ'
    cases hρ'
    have hxv:=hx.int_inv
    subst hval
    subst hxv
    have hck:=fun b=>run_checkKey (P:=P) hkt b q E.w
    have hzr:=zeroT_run hz E.w
    have hZ:RdA E z (lookZ P t):=by
     unfold lookZ
     rw [hu]
     simp only [hz]
     exact ofConst_ok z
    rcases hk with hk | ⟨y,hy,hk⟩
    ·rcases find_ok (kk:=kk) ms.toList es 0 (by simpa using hsz) (fun i m p hm hp=>hes i m p (by simpa using hm) hp) hk with ⟨j,u,y,h1,h2,h3⟩ | ⟨h1,h2⟩
     ·cases ok
      ·exact ⟨u,y,by simp [Instr.lookup,run_underlying hu,run_underlying hkt,Instr.findKey,h1,hck,getObj,Sem.run,hb],h2,h3⟩
      ·exact ⟨_,_,by simp [Instr.lookup,run_underlying hu,run_underlying hkt,Instr.findKey,h1,hck,getObj,Sem.run,hb],rd_pair true h2,h3⟩
     ·cases ok
      ·exact ⟨z,_,by simp [Instr.lookup,run_underlying hu,run_underlying hkt,Instr.findKey,h1,hck,getObj,Sem.run,hb,hzr],hZ,h2⟩
      ·exact ⟨_,_,by simp [Instr.lookup,run_underlying hu,run_underlying hkt,Instr.findKey,h1,hck,getObj,Sem.run,hb,hzr],rd_pair false hZ,h2⟩
    ·rcases find_D (kk:=kk) (q:=q) (zr:=lookZ P t) ms.toList es 0 (by simpa using hsz) (fun i m p hm hp=>hes i m p (by simpa using hm) hp) with ⟨j,u,h1,h2,h3⟩ | ⟨h1,h2,h3⟩
     ·rw [h3] at hk
      cases ok
      ·exact ⟨u,y,by simp [Instr.lookup,run_underlying hu,run_underlying hkt,Instr.findKey,h1,hck,getObj,Sem.run,hb],mergeV_ok hy h2,hk⟩
      ·exact ⟨_,_,by simp [Instr.lookup,run_underlying hu,run_underlying hkt,Instr.findKey,h1,hck,getObj,Sem.run,hb],rd_pair true (mergeV_ok hy h2),hk⟩
     ·rw [h3] at hk
      have hZ':=mergeV_ok hy (by rw [h2];exact hZ)
      cases ok
      ·exact ⟨z,_,by simp [Instr.lookup,run_underlying hu,run_underlying hkt,Instr.findKey,h1,hck,getObj,Sem.run,hb,hzr],hZ',hk⟩
      ·exact ⟨_,_,by simp [Instr.lookup,run_underlying hu,run_underlying hkt,Instr.findKey,h1,hck,getObj,Sem.run,hb,hzr],rd_pair false hZ',hk⟩
   ·cases h
  ·cases h
 ·cases h
theorem rd_of_looks {as:Act} (hs:SlOk E as sl) (hag:∀ t∈opLooks ops o,a.eval (.tmp t)=as.eval (.tmp t)):∀ x∈o.op.operands.toList,RdA E (a.eval x) (ev sl x):=fun x hx=>by
 cases x with
 | tmp t=>rw [hag t (looks_mem hx)];exact hs.rd t
 | const v=>exact ofConst_ok v
 | global g=>exact .any _
 | func f=>exact .fn _ _ _ _ _ rfl rfl (fun i v x hv _=>by simp at hv) (fun i v x hv _=>by simp at hv)
theorem callA_ok (hcall:CallOk P call) (hE:EnvOk E H n) {dst:Option Tmp} {f:Operand} {args:Array Operand} {ts:Array TypeId} {ty:TypeId} {pos:String} {after:Array Go.Edge} {guard:Option (Nat × Bool)} {x:AV} {e:Operand→AV} {k:AV→List Ob→Nat→Prop}
 (hf:RdA E (a.eval f) x) (hx:∀ y∈args.toList,RdA E (a.eval y) (e y)) (h:callA call x (args.toList.map e) H n k)
 (hK:∀ E' v z H' n',RdA E' v z→k z H' n'→EnvOk E' H' n'→Evo n E E'→n≤n'→K' (a.put dst v) E'.w) :
 (⟨dst,.call ⟨.value f,args,ts⟩,ty,pos,after,guard⟩ : Oper).wpI ro P a E.w K' Q:=by
 unfold callA at h
 split at h
 ·rename_i g xs ys
  obtain ⟨vs,h1,h2,h3⟩:=call_args (P:=P) (args:=args) (e:=e) hf hx
  obtain ⟨⟨fn,g1,g2,g3⟩,hc⟩:=hcall.1 g _ H n _ h E vs hE h2 h3
  refine wp_call (w':=E.w) (f:=g) (args:=vs) (by rw [h1,run_callFunc_enter g1 g2 g3]) (hc.mono fun en w' hpost=>?_)
  obtain ⟨v,E',z,H',n',rfl,rfl,hn',hE',hv,hevo,hk⟩:=hpost
  exact ⟨v,rfl,hK E' v z H' n' hv hk hE' hevo hn'⟩
 ·rename_i id
  have hm:=map_rd (a:=a) (E:=E) (e:=e) (l:=args) hx
  obtain ⟨hne,hr⟩:=hcall.2 id _ H n _ h E (args.map a.eval) hE (by simp) (fun i v y hv hy=>hm.2 i v y hv hy)
  have hl:=hE.live id hne
  obtain ⟨hd,hρ,hval⟩:=hf.yld_inv.2.2 hl
  obtain ⟨fn,tmps,x,y,h1,h2⟩:=hr hd hρ
  refine wp_round (w':=E.w) (l:=hd.blk) (f:=fn) (tmps:=tmps) (x:=x) (y:=y) ?_ (h2.mono fun en w' hpost=>?_)
  ·have:(execOp a.eval ⟨dst,.call ⟨.value f,args,ts⟩,ty,pos,after,guard⟩).run P E.w=(Instr.yield hd.blk (args.map a.eval)).run P E.w:=by
    simp [execOp,Go.resolve,hval,Deferred.ofValue,invoke]
   rw [this];exact h1
  ·obtain ⟨v,E',z,H',n',rfl,rfl,hn',hE',hv,hevo,hk⟩:=hpost
   exact ⟨v,rfl,hK E' v z H' n' hv hk hE' hevo hn'⟩
 ·exact h.elim
theorem runOp_at {as:Act} (hcx:GoodCtx P cx) (hcall:CallOk P call) (hE:EnvOk E H n) (hs:SlOk E as sl) (hag:∀ t∈opLooks opsA.toList o,a.eval (.tmp t)=as.eval (.tmp t)) (h:runOp cx P call opsA.toList o sl H n K)
 (hK:∀ E' v sl' H' n',K sl' H' n'→EnvOk E' H' n'→SlOk E' (as.put o.dst v) sl'→Evo n E E'→n≤n'→K' (a.put o.dst v) E'.w) :
 (Region.wanted o (yielded opsA a.tmps)=true∧o.wpI ro P a E.w K' Q)∨(Region.wanted o (yielded opsA a.tmps)=false∧K' (a.put o.dst undef) E.w):=by
 unfold runOp at h
 split at h
 ·rename_i r hr
  rw [needP_iff,givenP_iff] at h
  obtain ⟨hn,h⟩:=h
  refine opRes_ok (wn:=newW n r) ⟨hcx,fun m _=>hE.ready m,hE.fin,fun id _=>hE.live id,hE.ok,fun id _ _=>hE.wr id,fun t ht=>(by rw [hag t ht];exact hs.rd t),hs.stat,hn⟩ hr fun E' v hx hgiv hv=>?_
  have h:=h hgiv
  rw [applyK_eq] at h
  have h:=genK_ok hcx hr h
  rw [forceA_eq] at h
  obtain ⟨sl',h1,h2,_⟩:=(hs.mono (hx.evo n) hE.ns).put hv (fun c s w x hw=>opRes_when hr hw) h
  exact hK E' _ sl' _ _ h1 (hE.step hx (opRes_turn (E:=E) (a:=as) (fun t _=>hs.rd t) hr)) h2 (hx.evo n) (Nat.le_add_right _ _)
 ·split at h
  ·rename_i c hg hop
   left
   refine ⟨by simp [Region.wanted,hg], ?_⟩
   split at h
   ·rename_i f hcal
    obtain ⟨dst,op,ty,pos,after,guard⟩:=o
    obtain ⟨callee,args,ts⟩:=c
    simp only at hop hcal hg
    subst hop;subst hcal;subst hg
    have rd:=rd_of_looks (a:=a) hs hag
    refine callA_ok hcall hE (rd f (by simp [Op.operands,Call.operands])) (fun x hm=>rd x (by simp only [Op.operands,Call.operands];simp;exact .inr (by simpa using hm))) h fun E' v z H' n' hv hk hE' hevo hn'=>?_
    obtain ⟨sl',k1,k2,_⟩:=(hs.mono hevo hE.ns).put (noW_ok hv) (fun c s w x hw=>absurd hw (noW_ne _ _ _ _ _)) hk
    exact hK E' _ sl' H' n' k1 hE' k2 hevo hn'
   ·exact h.elim
  ·rename_i j w c hg hop
   split at h
   ·rename_i f hcal
    split at h
    ·exact h.elim
    ·rename_i s hs0
     split at h
     ·rename_i e hev
      obtain ⟨dst,op,ty,pos,after,guard⟩:=o
      obtain ⟨callee,args,ts⟩:=c
      simp only at hop hcal hg
      subst hop;subst hcal;subst hg
      have rd:=rd_of_looks (a:=a) hs hag
      have hlook:s∈opLooks opsA.toList ⟨dst,.call ⟨.value f,args,ts⟩,ty,pos,after,some (j,w)⟩:=by
       unfold opLooks
       refine List.mem_append_right _ ?_
       simp [hs0]
      have hsv:a.eval (.tmp s)=.bool e:=by
       have:=hs.rd s
       rw [hev] at this
       rw [hag s hlook]
       exact this.bool_inv
      have hc:condOf sl s w=some (e=w):=by unfold condOf;rw [hev]
      have hwt:=wanted_iff (a:=a) (o:=⟨dst,.call ⟨.value f,args,ts⟩,ty,pos,after,some (j,w)⟩) (opsA:=opsA) rfl hs0
      by_cases hew:e=w
      ·left
       have hsw:a.eval (.tmp s)=.bool w:=by rw [hsv,hew]
       refine ⟨hwt.2 hsw, ?_⟩
       have un:∀ x∈(Op.call ⟨.value f,args,ts⟩).operands.toList,RdA E (a.eval x) (unwrap s w (ev sl x)):=fun x hx=>by
        refine unwrap_ok (rd x hx) (fun c' w' v'' hx' hv'=>?_) hsw
        obtain ⟨t,rfl,ht⟩:=ev_when hx'
        have hrs:RdA E (a.eval (.tmp s)) (getN .any sl s):=by rw [hsv,hev];exact .bool _
        exact (condOf_ok (hs.stat t c' s w' v'' ht).1 hrs).1 hv'
       refine callA_ok hcall hE (un f (by simp [Op.operands,Call.operands])) (fun x hm=>un x (by simp only [Op.operands,Call.operands];simp;exact .inr (by simpa using hm))) (h.1 hew) fun E' v z H' n' hv hk hE' hevo hn'=>?_
       obtain ⟨sl',k1,k2,_⟩:=(hs.mono hevo hE.ns).put (RdA.when v (e=w) s w (noW z) (fun _=>noW_ok hv) (fun hn=>absurd hew hn)) (fun c s' w' x hw=>by
        cases hw
        exact ⟨hc,fun _ _ _ _=>noW_ne _ _ _ _ _⟩) hk
       exact hK E' _ sl' H' n' k1 hE' k2 hevo hn'
      ·right
       have hnw:Region.wanted ⟨dst,.call ⟨.value f,args,ts⟩,ty,pos,after,some (j,w)⟩ (yielded opsA a.tmps)=false:=by
        rw [Bool.eq_false_iff]
        intro h2
        have:=hwt.1 h2
        rw [hsv] at this
        cases this
        exact hew rfl
       refine ⟨hnw, ?_⟩
       have he2:e=!w:=by cases e <;> cases w <;> simp_all
       obtain ⟨sl',k1,k2,_⟩:=hs.put (RdA.when undef (e=w) s w (shapeT P ty) (fun h=>absurd h hew) (fun _=>rfl)) (fun c s' w' x hw=>by
        cases hw
        refine ⟨hc,fun c' s'' w'' v' hv'=>?_⟩
        unfold shapeT at hv'
        split at hv' <;> cases hv') (h.2 he2)
       exact hK E undef sl' H n k1 hE k2 (Evo.refl _ _) (Nat.le_refl _)
     ·exact h.elim
   ·exact h.elim
  ·rename_i op t x u hg hop
   left
   refine ⟨by simp [Region.wanted,hg], ?_⟩
   split at h
   ·rename_i eq q hq
    obtain ⟨dst,op',ty,pos,after,guard⟩:=o
    simp only at hop hg
    subst hop;subst hg
    have rd:=rd_of_looks (a:=a) hs hag x (by simp [Op.operands])
    obtain ⟨b,hb,hbq⟩:=nilQ_ok (P:=P) hE rd hq E.w
    have hgd:(eqGuard op t x (.const (.slice none 0 0)) (a.eval x) (.slice none 0 0)).run P E.w=.ok () E.w:=by
     unfold eqGuard
     split <;> simp
    generalize hval:a.eval x=val at hb hgd
    have hcn:a.eval (.const (.slice none 0 0))=.slice none 0 0:=rfl
    refine wp_value (v:=.bool b) (w':=E.w) (by simp [execOp,hval,hcn,hgd,hb]) ?_
    obtain ⟨sl',k1,k2,_⟩:=hs.put (RdA.bool b) (fun c s w x hw=>by cases hw) (h b hbq)
    exact hK E _ sl' H n k1 hE k2 (Evo.refl _ _) (Nat.le_refl _)
   ·exact h.elim
  ·rename_i t m k ok hg hop
   left
   refine ⟨by simp [Region.wanted,hg], ?_⟩
   split at h
   ·rename_i es q hq
    obtain ⟨dst,op',ty,pos,after,guard⟩:=o
    simp only at hop hg
    subst hop;subst hg
    have rd:=rd_of_looks (a:=a) hs hag
    have h':=Or.imp_right (a:=lookK ok q (lookZ P t) (fun v=>forceA (noW v) (fun v'=>putK dst v' sl (fun sl'=>K sl' H n))) es) (c:=∃ v,mergeV q (lookZ P t) es=some v∧(fun v=>forceA (noW v) (fun v'=>putK dst v' sl (fun sl'=>K sl' H n))) (lookR ok v (memD q es))) (fun ⟨v,h1,h2⟩=>by
     refine ⟨v,h1, ?_⟩
     have:noW (lookR ok v (memD q es))=lookR ok v (memD q es):=by
      cases ok
      ·unfold mergeV at h1
       repeat' split at h1
       all_goals first
        | cases h1;done
        | (cases h1;rfl)
      ·rfl
     show forceA (noW (lookR ok v (memD q es))) _
     rw [this]
     exact h2) h
    clear h
    have h:=h'
    obtain ⟨v,y,h1,h2,h3⟩:=lookup_ok hE (rd m (by simp [Op.operands])) (rd k (by simp [Op.operands])) hq h
    rw [forceA_eq] at h3
    refine wp_value (v:=v) (w':=E.w) (by simp [execOp,h1]) ?_
    obtain ⟨sl',k1,k2,_⟩:=hs.put (noW_ok h2) (fun c s w x hw=>absurd hw (noW_ne _ _ _ _ _)) h3
    exact hK E _ sl' H n k1 hE k2 (Evo.refl _ _) (Nat.le_refl _)
   ·exact h.elim
  ·exact h.elim
theorem runOp_ok (hcx:GoodCtx P cx) (hcall:CallOk P call) (hE:EnvOk E H n) (hs:SlOk E a sl) (h:runOp cx P call opsA.toList o sl H n K)
 (hK:∀ E' a' sl' H' n',K sl' H' n'→EnvOk E' H' n'→SlOk E' a' sl'→Evo n E E'→n≤n'→K' a' E'.w) :
 (Region.wanted o (yielded opsA a.tmps)=true∧o.wpI ro P a E.w K' Q)∨(Region.wanted o (yielded opsA a.tmps)=false∧K' (a.put o.dst undef) E.w) :=
 runOp_at hcx hcall hE hs (fun _ _=>rfl) h fun E' v sl' H' n'=>hK E' _ sl' H' n'
theorem runOps_ok (hcx:GoodCtx P cx) (hcall:CallOk P call):∀ (rest:List Oper) {E:Env} {a:Act} {sl:List AV} {H:List Ob} {n:Nat} {K:Kont},EnvOk E H n→SlOk E a sl→runOps cx P call opsA.toList rest sl H n K →
 (∀ E' a' sl' H' n',K sl' H' n'→EnvOk E' H' n'→SlOk E' a' sl'→Evo n E E'→n≤n'→Q .normal a' E'.w)→wpListIn (fen ro) 0 P opsA Q rest a E.w
 | [],E,a,sl,H,n,K,hE,hs,h,hK=>hK E a sl H n h hE hs (Evo.refl _ _) (Nat.le_refl _)
 | o :: rest,E,a,sl,H,n,K,hE,hs,h,hK=>by
  have:=runOp_ok (ro:=ro) (K':=wpListIn (fen ro) 0 P opsA Q rest) (Q:=Q) hcx hcall hE hs h fun E' a' sl' H' n' hk hE' hs' hevo hn=>by
   exact runOps_ok hcx hcall rest hE' hs' hk fun E'' a'' sl'' H'' n'' hk' hE'' hs'' hevo' hn' =>
    hK E'' a'' sl'' H'' n'' hk' hE'' hs'' (hevo.trans (hevo'.mono hn)) (Nat.le_trans hn hn')
  simp only [wpListIn]
  rcases this with ⟨h1,h2⟩ | ⟨h1,h2⟩
  ·rw [if_pos h1];exact h2
  ·rw [if_neg (by rw [h1];simp)];exact ⟨fun _ _=>trivial,h2⟩
end
end Go.Sx
