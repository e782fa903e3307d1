import Derived.Test.YticmijfmgmkkcaaGreatVSxStill
import Derived.Test.YticmijfmgmkkcaaGreatVSxWeak
import Derived.Sort.LoopGhostIn
import Derived.RangeFuncLeaves
set_option linter.unusedSimpArgs false
set_option linter.unusedVariables false
set_option maxRecDepth 100000
namespace Go.Sx
open Go.RowKit
def DrawnOk1 (P:Program) (cx:Ctx):Prop :=
 ∀ (ro:Option Nat) (opsA:Array Oper) (id:Nat) (E:Env) (a:Act) (sl:List AV) (H:List Ob) (n:Nat) (K:Kont) (Q:Exit→Act→World→Prop),EnvOk E H n→SlOk E a sl →
  (P.follows .mixedOrders && ordOk opsA.toList 0 (flags opsA.toList))=true→runDraw cx P opsA.toList (flags opsA.toList) 0 [] [] sl H n K →
  (∀ E' a' sl' H' n',K sl' H' n'→EnvOk E' H' n'→SlOk E' a' sl'→Evo n E E'→n≤n'→Q .normal a' E'.w)→(Code.region id opsA true).wpI ro P Q a E.w
def DrawnOk2 (P:Program) (cx:Ctx):Prop :=
 ∀ (call:CallSem),CallOk P call→∀ (ro:Option Nat) (opsA:Array Oper) (id:Nat) (E:Env) (a:Act) (sl:List AV) (H:List Ob) (n:Nat) (K:Kont) (Q:Exit→Act→World→Prop),EnvOk E H n→SlOk E a sl →
  (P.follows .mixedOrders && mixB opsA.toList)=true→runMix cx P call opsA.toList (planOf opsA.toList) sl H n K →
  (∀ E' a' sl' H' n',K sl' H' n'→EnvOk E' H' n'→SlOk E' a' sl'→Evo n E E'→n≤n'→Q .normal a' E'.w)→(Code.region id opsA true).wpI ro P Q a E.w
def DrawnOk (P:Program) (cx:Ctx):Prop:=DrawnOk1 P cx∧DrawnOk2 P cx
def exOf:Ex→Exit
 | .normal=>.normal
 | .ret=>.ret
 | .exit n=>.exit n
theorem getN_map_noW (sl:List AV) (t:Nat):getN .any (sl.map noW) t=noW (getN .any sl t):=by
 rw [getN_eq,getN_eq,List.getElem?_map]
 cases sl[t]? <;> rfl
theorem SlOk.noW {E:Env} {a:Act} {sl:List AV} (h:SlOk E a sl):SlOk E a (sl.map Sx.noW):=by
 refine ⟨by rw [List.length_map];exact h.size,fun t=>?_,fun t c s w v ht=>?_,h.defers⟩
 ·rw [getN_map_noW];exact noW_ok (h.rd t)
 ·rw [List.getElem?_map,Option.map_eq_some_iff] at ht
  obtain ⟨x,_,hx⟩:=ht
  exact absurd hx (noW_ne _ _ _ _ _)
theorem ev_all {E:Env} {a:Act} {sl:List AV} (hs:SlOk E a sl) (x:Operand):RdA E (a.eval x) (ev sl x):=by
 cases x with
 | tmp t=>exact hs.rd t
 | const v=>exact ofConst_ok v
 | global g=>exact .any _
 | func f=>exact .fn _ _ _ _ _ rfl rfl (fun i v x hv _=>by simp at hv) (fun i v x hv _=>by simp at hv)
section
variable {P:Program} {E:Env} {H:List Ob} {n:Nat}
theorem putObj_below {B l:Nat} {w:World} {o:Obj} (h:B≤l):Below B w (w.putObj l o) :=
 ⟨rfl,rfl,rfl,by simp,fun k hk=>World.putObj_heap_other (by omega)⟩
theorem setLoop_ok {id:Nat} {st st':LoopState} {pe pe':Jump} {ps:List Nat} {x y:Code} {sl:List AV} {hd:Hdr} {r r':Loop} (hE:EnvOk E H n) (hob:getOb H id=.loop st pe ps x y sl) (hρ:E.ρ id=some hd) (hr:E.w.heap[hd.blk]?=some (.loop r))
 (h1:r'.state=st') (h2:r'.pending=jumpCode pe') (h3:r'.params=r.params) (h4:r'.assign=r.assign) (h5:r'.body=r.body) (h6:r'.tmps=r.tmps) :
 ∃ E',E'.w=E.w.putObj hd.blk (.loop r')∧EnvOk E' (setN (.loop st' pe' ps x y sl) H id) n∧∀ k,Evo k E E':=by
 have hne:getOb H id≠.dead:=by rw [hob];simp
 have hW:E.W id:=hE.wr id (by rw [hob];trivial)
 have hl:=hE.live id hne
 have hlt:=hE.lt id hd hl hρ
 let res:Res:=⟨none,none,.any,[],none,some (id,.loop st' pe' ps x y sl),[]⟩
 have hs:Step E n res (E.w.putObj hd.blk (.loop r')) (fun _=>none):=by
  refine ⟨putObj_below hlt.1,fun b hb hno=>World.putObj_heap_other fun e=>hno id hW (.inr rfl) (.inl ⟨hd,hρ,e.symm⟩), ?_, ?_,fun i hi=>(by cases hi),fun p hp=>(by cases hp;exact hW)⟩
  ·intro j h hj;simp [res] at hj
  ·intro j j' h h' hj;simp [res] at hj
 have hready:Ready E n res.news.length:=hE.ready _
 obtain ⟨N,hN⟩:=hE.fin
 have hx:=hs.ext (wn:=newW n res) hready ⟨N,hN⟩ (fun _ j ob hj=>by simp [res] at hj) (fun hevo i ob hi=>by
  cases hi
  have hok:=hE.ok id hl hne
  rw [hob] at hok
  obtain ⟨hd',k1,r0,k2,k3,k4,k5,k6,k7,k8,k9⟩:=hok
  rw [hρ] at k1;cases k1
  rw [hr] at k2;cases k2
  refine ⟨hd, ?_,r',World.putObj_heap_same hlt.2,h1,h2,by rw [h3];exact k5,h4.trans k6,h5.trans k7,by rw [h6];exact k8,fun i v s hv hs=>?_⟩
  ·simp only [Env.ext];rw [if_neg (by simp [res])];exact hρ
  ·rw [h6] at hv
   exact (k9 i v s hv hs).mono (hevo N) hN)
 have ht:TurnOk E H res:=⟨fun i hi=>(by cases hi),fun p hp=>(by cases hp;exact ⟨hE.sub id hl,by rw [hob];trivial⟩)⟩
 have:=hE.step hx ht
 refine ⟨_,rfl, ?_,hx.evo⟩
 simpa [Res.heap,res,stH,killH,frzAll] using this
theorem leave_ok {id:Nat} {st:LoopState} {pe:Jump} {ps:List Nat} {x y:Code} {sl:List AV} {hd:Hdr} (hE:EnvOk E H n) (hob:getOb H id=.loop st pe ps x y sl) (hst:st≠.busy) (hρ:E.ρ id=some hd) :
 ∃ E',(Instr.endLoop hd.blk).run P E.w=.ok (jumpCode pe) E'.w∧EnvOk E' (setN .dead H id) n∧∀ k,Evo k E E':=by
 have hne:getOb H id≠.dead:=by rw [hob];simp
 have hW:E.W id:=hE.wr id (by rw [hob];trivial)
 have hl:=hE.live id hne
 have hlt:=hE.lt id hd hl hρ
 have hok:=hE.ok id hl hne
 rw [hob] at hok
 obtain ⟨hd',k1,r,k2,k3,k4,_⟩:=hok
 rw [hρ] at k1;cases k1
 let res:Res:=⟨none,none,.any,[],some id,none,[]⟩
 have hs:Step E n res (E.w.putObj hd.blk (.loop { r with state:=.exhausted })) (fun _=>none):=by
  refine ⟨putObj_below hlt.1,fun b hb hno=>World.putObj_heap_other fun e=>hno id hW (.inl rfl) (.inl ⟨hd,hρ,e.symm⟩), ?_, ?_,fun i hi=>(by cases hi;exact hW),fun p hp=>(by cases hp)⟩
  ·intro j h hj;simp [res] at hj
  ·intro j j' h h' hj;simp [res] at hj
 have hready:Ready E n res.news.length:=hE.ready _
 have hx:=hs.ext (wn:=newW n res) hready hE.fin (fun _ j ob hj=>by simp [res] at hj) (fun hevo i ob hi=>by cases hi)
 have ht:TurnOk E H res:=⟨fun i hi=>(by cases hi;exact ⟨hE.sub id hl,by rw [hob];trivial⟩),fun p hp=>(by cases hp)⟩
 have:=hE.step hx ht
 refine ⟨_, ?_, ?_,hx.evo⟩
 ·rw [← k4]
  exact run_endLoop (P:=P) k2 (by rw [k3];exact hst)
 ·simpa [Res.heap,res,stH,killH,frzAll] using this
theorem enter_ok {a:Act} {sl:List AV} {ps:Array Tmp} {x y:Code} (hE:EnvOk E H n) (hs:SlOk E a sl) (fn:FuncId) :
 ∃ E',E'.w=(E.w.alloc (.deferred (some []))).alloc (.loop { state:=.ready,pending:=none,fn,tmps:=a.tmps,params:=ps,assign:=x,body:=y,defers:=E.w.heap.size }) ∧
  EnvOk E' (H++[.loop .ready .no ps.toList x y sl]) (n+1)∧(∀ k,Evo k E E')∧E'.L n∧E'.A n∧E'.ρ n=some ⟨E.w.heap.size+1,0,0,0⟩∧(E.M≤E.w.heap.size→Marks E' ({ target:=.collected E.w.heap.size,args:=#[] } :: a.defers)):=by
 obtain ⟨rec,hrec⟩ : ∃ rec:Loop,rec={ state:=.ready,pending:=none,fn,tmps:=a.tmps,params:=ps,assign:=x,body:=y,defers:=E.w.heap.size }:=⟨_,rfl⟩
 rw [← hrec]
 obtain ⟨w1,hw1⟩ : ∃ w1,(E.w.alloc (.deferred (some []))).alloc (.loop rec)=w1:=⟨_,rfl⟩
 rw [hw1]
 have hB0:Below E.w.heap.size E.w w1:=by
  rw [← hw1]
  exact ((Below.refl _ E.w).alloc (Nat.le_refl _) _).alloc (by simp) _
 have hsz:w1.heap.size=E.w.heap.size+2:=by rw [← hw1];simp
 have hat:w1.heap[E.w.heap.size+1]?=some (.loop rec):=by
  rw [← hw1];have:=World.alloc_heap_new (E.w.alloc (.deferred (some []))) (.loop rec);rwa [World.size_alloc] at this
 have hdf:w1.heap[E.w.heap.size]?=some (.deferred (some [])):=by
  rw [← hw1];exact (Below.heap_alloc _ _ _ (by simp)).trans (World.alloc_heap_new E.w _)
 let res:Res:=⟨none,none,.any,[.loop .ready .no ps.toList x y sl],none,none,[]⟩
 have hst:Step E n res w1 (fun _=>some ⟨E.w.heap.size+1,0,0,0⟩):=by
  refine ⟨hB0.mono hE.B,fun b hb _=>hB0.block b hb, ?_, ?_,fun i hi=>(by cases hi),fun p hp=>(by cases hp)⟩
  ·intro j h _ hj;cases hj;exact ⟨by show E.w.heap.size+1 < _;omega,.inl (by show E.w.heap.size≤E.w.heap.size+1;omega)⟩
  ·intro j j' h h' hj hj' _ _ hne
   simp [res] at hj hj'
   omega
 have hready:Ready E n res.news.length:=hE.ready _
 obtain ⟨N,hN⟩:=hE.fin
 have hx:=hst.ext (wn:=newW n res) hready ⟨N,hN⟩ (fun hevo j ob hj=>by
  match j,hj with
  | 0,hj =>
   cases hj
   refine ⟨⟨E.w.heap.size+1,0,0,0⟩,by simp [Env.ext,res],rec,hat,by rw [hrec],by rw [hrec];rfl,by rw [hrec],by rw [hrec],by rw [hrec],by rw [hrec];exact hs.size,fun i v s hv hsl=>?_⟩
   refine RdA.mono (hevo N) hN ?_
   have:=hs.rd i
   rw [hrec] at hv
   have e1:a.eval (.tmp i)=v:=by
    have hv':a.tmps[i]?=some v:=hv
    simp [Act.eval,Array.getD_eq_getD_getElem?,hv']
   rw [e1,getN_eq,hsl] at this
   exact this) (fun hevo i ob hi=>by cases hi)
 have ht:TurnOk E H res:=⟨fun i hi=>(by cases hi),fun p hp=>(by cases hp)⟩
 have hE1:=hE.step hx ht
 refine ⟨_,rfl, ?_,hx.evo,(hx.L n).2 (.inr ⟨Nat.le_refl _,by simp [res]⟩),(hx.A n).2 (.inr ⟨Nat.le_refl _,by simp [res]⟩),by simp [Env.ext,res],fun hM=>?_⟩
 ·simpa [Res.heap,res,stH,killH,frzAll] using hE1
 ·have hm:=hs.defers.mono (hx.evo 0)
  refine ⟨fun d hd=>?_, ?_⟩
  ·rcases List.mem_cons.1 hd with rfl | hd
   ·refine ⟨E.w.heap.size,rfl,hM,⟨by show E.w.heap.size < w1.heap.size;omega,fun id hW ho=>?_,fun hh=>Nat.lt_irrefl _ (hE.hlt _ hh)⟩,hdf⟩
    rcases Env.ext_own ho with ⟨_,h,hh,hb⟩ | ⟨hid,ho⟩
    ·cases hh
     have:E.w.heap.size+1=E.w.heap.size:=hb
     omega
    ·rcases hW with ⟨hW,_⟩ | ⟨g1,g2,_⟩
     ·have:=(hE.ltO id _ (hE.wl id hW) ho).2
      omega
     ·exact hid ⟨g1,g2⟩
   ·exact hm.each d hd
  ·refine List.pairwise_cons.2 ⟨fun d hd=>?_,hs.defers.two⟩
   obtain ⟨b,h1,h2,h3,h4⟩:=hs.defers.each d hd
   rw [h1]
   intro e
   cases e
   have:=h3.1
   omega
end
section
variable {P:Program} {cx:Ctx} {call:CallSem} {n0:Nat}
theorem exec_ok (hcx:GoodCtx P cx) (hdraw:DrawnOk P cx) (hcall:CallOk P call) (ro:Option Nat):∀ (c:Code) {sl:List AV} {H:List Ob} {n:Nat} {K:Ex→Kont} {E:Env} {a:Act} {Q:Exit→Act→World→Prop},EnvOk E H n→SlOk E a sl→n0≤n→(ro=none→E.M≤E.w.heap.size) →
 (ro=none∨okRound cx c=true)→exec cx P call n0 c sl H n K→(∀ e E' a' sl' H' n',K e sl' H' n'→EnvOk E' H' n'→SlOk E' a' sl'→Evo n0 E E'→n0≤n'→Q (exOf e) a' E'.w)→c.wpI ro P Q a E.w
 | .skip,sl,H,n,K,E,a,Q,hE,hs,hn,hM,hro,h,hK=>wpIn_skip (hK .normal E a sl H n h hE hs (Evo.refl _ _) hn)
 | .ret,sl,H,n,K,E,a,Q,hE,hs,hn,hM,hro,h,hK=>wpIn_ret (hK .ret E a sl H n h hE hs (Evo.refl _ _) hn)
 | .exit m,sl,H,n,K,E,a,Q,hE,hs,hn,hM,hro,h,hK=>wpIn_exit (hK (.exit m) E a sl H n h hE hs (Evo.refl _ _) hn)
 | .region id ops false,sl,H,n,K,E,a,Q,hE,hs,hn,hM,hro,h,hK=>by
  simp only [exec] at h
  refine wpIn_region_list (runOps_ok hcx hcall ops.toList hE hs h fun E' a' sl' H' n' hk hE' hs' hevo hn'=>?_)
  rw [dropWhen_eq] at hk
  exact hK .normal E' a' _ H' n' hk hE' hs'.noW (hevo.mono hn) (Nat.le_trans hn hn')
 | .region id ops true,sl,H,n,K,E,a,Q,hE,hs,hn,hM,hro,h,hK=>by
  simp only [exec,execDraw] at h
  split at h
  ·refine hdraw.2 call hcall ro ops id E a sl H n _ Q hE hs h.1 h.2 fun E' a' sl' H' n' hk hE' hs' hevo hn'=>?_
   rw [dropWhen_eq] at hk
   exact hK .normal E' a' _ H' n' hk hE' hs'.noW (hevo.mono hn) (Nat.le_trans hn hn')
  ·refine hdraw.1 ro ops id E a sl H n _ Q hE hs h.1 h.2 fun E' a' sl' H' n' hk hE' hs' hevo hn'=>?_
   rw [dropWhen_eq] at hk
   exact hK .normal E' a' _ H' n' hk hE' hs'.noW (hevo.mono hn) (Nat.le_trans hn hn')
 | .seq x y,sl,H,n,K,E,a,Q,hE,hs,hn,hM,hro,h,hK=>by
  simp only [exec] at h
  have hro1:ro=none∨okRound cx x=true:=hro.imp id fun h=>by simp only [okRound,Bool.and_eq_true] at h;exact h.1
  have hro2:ro=none∨okRound cx y=true:=hro.imp id fun h=>by simp only [okRound,Bool.and_eq_true] at h;exact h.2
  refine wpIn_seq (exec_ok hcx hdraw hcall ro x hE hs hn hM hro1 h fun e E' a' sl' H' n' hk hE' hs' hevo hn'=>?_)
  cases e with
  | normal =>
   exact exec_ok hcx hdraw hcall ro y hE' hs' hn' (fun hr=>by rw [hevo.M];exact Nat.le_trans (hM hr) hevo.below.size) hro2 hk fun e E'' a'' sl'' H'' n'' hk' hE'' hs'' hevo' hn''=>hK e E'' a'' sl'' H'' n'' hk' hE'' hs'' (hevo.trans hevo') hn''
  | ret=>exact hK .ret E' a' sl' H' n' hk hE' hs' hevo hn'
  | exit m=>exact hK (.exit m) E' a' sl' H' n' hk hE' hs' hevo hn'
 | .cond c x y,sl,H,n,K,E,a,Q,hE,hs,hn,hM,hro,h,hK=>by
  simp only [exec] at h
  have hro1:ro=none∨okRound cx x=true:=hro.imp id fun h=>by simp only [okRound,Bool.and_eq_true] at h;exact h.1
  have hro2:ro=none∨okRound cx y=true:=hro.imp id fun h=>by simp only [okRound,Bool.and_eq_true] at h;exact h.2
  have hv:=ev_all hs c
  split at h
  ·rename_i q hq
   rw [hq] at hv
   refine wpIn_cond_split hv.bool_inv (fun ht=>exec_ok hcx hdraw hcall ro x hE hs hn hM hro1 (h.1 ht) hK) (fun hf=>exec_ok hcx hdraw hcall ro y hE hs hn hM hro2 (h.2 hf) hK)
  ·exact h.elim
 | .block id x,sl,H,n,K,E,a,Q,hE,hs,hn,hM,hro,h,hK=>by
  simp only [exec] at h
  refine wpIn_block (exec_ok hcx hdraw hcall ro x hE hs hn hM (hro.imp (fun h=>h) fun h=>by simpa only [okRound] using h) h fun e E' a' sl' H' n' hk hE' hs' hevo hn'=>?_)
  cases e with
  | normal=>exact hK .normal E' a' sl' H' n' hk hE' hs' hevo hn'
  | ret=>exact hK .ret E' a' sl' H' n' hk hE' hs' hevo hn'
  | exit m =>
   simp only at hk
   show (if m=id then Q .normal a' E'.w else Q (.exit m) a' E'.w)
   split at hk
   ·rename_i hm
    rw [if_pos (Nat.eq_of_beq_eq_true hm)]
    exact hK .normal E' a' sl' H' n' hk hE' hs' hevo hn'
   ·rename_i hm
    rw [if_neg (fun e=>hm (by rw [e];exact Nat.beq_refl id))]
    exact hK (.exit m) E' a' sl' H' n' hk hE' hs' hevo hn'
 | .loop x,sl,H,n,K,E,a,Q,hE,hs,hn,hM,hro,h,hK=>by
  simp only [exec] at h
  obtain ⟨ι,S,I,μ,⟨i0,σ0,hi0,hw0⟩,hround⟩:=h
  obtain ⟨E0,hw,hE0,hs0,hevo0,hn0,_⟩:=weaken hE hs hw0
  refine wpIn_loop_ghost (fun m a w=>∃ i E',μ i=m∧I i∧E'.w=w∧EnvOk E' (S i).H (S i).n∧SlOk E' a (S i).sl∧Evo n0 E E'∧n0≤(S i).n) (μ i0) ⟨i0,E0,rfl,hi0,hw,hE0,hs0,hevo0,hn0⟩ ?_
  rintro m a1 w1 ⟨i,E1,rfl,hi,rfl,hE1,hs1,hevo1,hn1⟩
  refine exec_ok hcx hdraw hcall ro x hE1 hs1 hn1 (fun hr=>by rw [hevo1.M];exact Nat.le_trans (hM hr) hevo1.below.size) (hro.imp (fun h=>h) fun h=>by simpa only [okRound] using h) (hround i hi) fun e E' a' sl' H' n' hk hE' hs' hevo hn'=>?_
  cases e with
  | normal =>
   obtain ⟨j,σ,hj,hμ,hwk⟩:=hk
   obtain ⟨E2,hw2,hE2,hs2,hevo2,hn2,_⟩:=weaken hE' hs' hwk
   exact ⟨μ j,hμ,j,E2,rfl,hj,hw2,hE2,hs2,(hevo1.trans hevo).trans hevo2,hn2⟩
  | ret=>exact hK .ret E' a' sl' H' n' hk hE' hs' (hevo1.trans hevo) hn'
  | exit m=>exact hK (.exit m) E' a' sl' H' n' hk hE' hs' (hevo1.trans hevo) hn'
 | .label _,_,_,_,_,_,_,_,_,_,_,_,_,h,_=>(by simp [exec] at h)
 | .goto _,_,_,_,_,_,_,_,_,_,_,_,_,h,_=>(by simp [exec] at h)
 | .scope _,_,_,_,_,_,_,_,_,_,_,_,_,h,_=>(by simp [exec] at h)
 | .refuse _,_,_,_,_,_,_,_,_,_,_,_,_,h,_=>(by simp [exec] at h)
 | .rangeFunc f ps x y,sl,H,n,K,E,a,Q,hE,hs,hn,hM,hro,h,hK=>by
  have hro:ro=none:=hro.elim (fun h=>h) fun h=>by simp [okRound] at h
  subst hro
  simp only [exec] at h
  have hv:=ev_all hs f
  split at h
  ·rename_i g us ys hf
   rw [hf] at hv
   obtain ⟨hok,h⟩:=h
   rw [forceH_eq,forceN_eq] at h
   obtain ⟨vs,ws,h1,h2,h3,h4,h5⟩:=fn_inv hv
   refine wpIn_rangeFunc fun fn _=>?_
   obtain ⟨E1,hw1,hE1,hevo1,hL1,hA1,hρ1,hmk⟩:=enter_ok (ps:=ps) (x:=x) (y:=y) hE hs fn
   have hmk:=hmk (hM rfl)
   obtain ⟨⟨fn',g1,g2,g3⟩,hc⟩:=hcall.1 g _ _ _ _ h E1 (vs++#[.func (.yield (E.w.heap.size+1)) #[] #[]]++ws) hE1 (by simp [h2,h3];omega) (fun i v z hv hz=>by
    simp only [Array.getElem?_append,Array.size_append,List.size_toArray,List.length_cons,List.length_nil] at hv
    simp only [List.getElem?_append,List.length_append,List.length_cons,List.length_nil] at hz
    rw [h2] at hv
    by_cases c1:i < us.length
    ·rw [if_pos (by omega),if_pos c1] at hv
     rw [if_pos (by omega),if_pos c1] at hz
     exact (h4 i v z hv hz).mono (hevo1 n) hE.ns
    ·by_cases c2:i < us.length+(0+1)
     ·rw [if_pos c2,if_neg c1] at hv
      rw [if_pos c2,if_neg c1] at hz
      have hi:i - us.length=0:=by omega
      rw [hi] at hv hz
      cases hv;cases hz
      exact .yld _ n hA1 ⟨_,rfl⟩ fun _=>⟨_,hρ1,rfl⟩
     ·rw [if_neg c2] at hv hz
      exact (h5 _ v z hv hz).mono (hevo1 n) hE.ns)
   obtain ⟨yv,hyv⟩ : ∃ yv:Value,yv=.func (.yield (E.w.heap.size+1)) #[] #[]:=⟨_,rfl⟩
   rw [← hyv] at hc
   have hen:(Instr.enterLoop fn a.tmps ps x y (fen none).round).run P E.w=.ok (E.w.heap.size+1,[{ target:=.collected E.w.heap.size,args:=#[] }]) E1.w:=by
    rw [hw1];exact run_enterLoop_outer _ _ _ _ _
   have hres:(Go.resolve a.eval (rangeCall f (E.w.heap.size+1)) 0).run P E1.w=.ok { target:=.fn (.func g) ws,args:=vs++#[yv] } E1.w:=by
    rw [hyv]
    simp only [Go.resolve,rangeCall,h1]
    simp [Deferred.ofValue,Act.eval]
   have hinv:(invoke (.fn (.func g) ws) (vs++#[yv])).run P E1.w=.ok (.enter g (vs++#[yv]++ws)) E1.w:=run_callFunc_enter g1 g2 g3 _ _
   refine ⟨E.w.heap.size+1,_,E1.w,_,E1.w,g,_,E1.w,hen,hres,fun f' _=>fen_fn none f',hinv,fen_depth none _,callsIn_fen.2 (hc.mono fun en w' hpost=>?_)⟩
   ·obtain ⟨v,E2,z,H',n',rfl,rfl,hn',hE2,hvz,hevo2,hk⟩:=hpost
    have fin:∀ (pe:Jump) (st:LoopState) (ps':List Nat) (x' y':Code) (sl':List AV),st≠.busy→getOb H' n=.loop st pe ps' x' y' sl' →
     ∃ E3,(Instr.endLoop (E.w.heap.size+1)).run P E2.w=.ok (jumpCode pe) E3.w∧EnvOk E3 (setN .dead H' n) n'∧SlOk E3 { a with defers:=[{ target:=.collected E.w.heap.size,args:=#[] }]++a.defers } sl∧Evo n0 E E3:=by
     intro pe st ps' x' y' sl' hst hob
     have hl2:=hE2.live n (by rw [hob];simp)
     have hρ2:=(hevo2.ids n (Nat.lt_succ_self n) hA1 hl2).2.trans hρ1
     obtain ⟨E3,k1,k2,k3⟩:=leave_ok (P:=P) hE2 hob hst hρ2
     have hevo:Evo n E E3:=(hevo1 n).trans ((hevo2.mono (Nat.le_succ n)).trans (k3 n))
     exact ⟨E3,k1,k2,⟨hs.size,fun t=>(hs.rd t).mono hevo hE.ns,hs.stat,hmk.mono ((hevo2.mono (Nat.le_succ n)).trans (k3 n))⟩,hevo.mono hn⟩
    split at hk
    ·rename_i hob
     rw [forceH_eq] at hk
     obtain ⟨E3,k1,k2,k3,k4⟩:=fin .no .ready _ _ _ _ (by simp) hob
     exact ⟨none,E3.w,k1,hK .normal E3 _ sl _ n' hk k2 k3 k4 (by omega)⟩
    ·rename_i hob
     rw [forceH_eq] at hk
     obtain ⟨E3,k1,k2,k3,k4⟩:=fin .ret .done _ _ _ _ (by simp) hob
     exact ⟨some .ret,E3.w,k1,wpIn_ret (hK .ret E3 _ sl _ n' hk k2 k3 k4 (by omega))⟩
    ·rename_i m _ _ _ _ hob
     rw [forceH_eq] at hk
     obtain ⟨E3,k1,k2,k3,k4⟩:=fin (.exit m) .done _ _ _ _ (by simp) hob
     exact ⟨some (.exit m),E3.w,k1,wpIn_exit (hK (.exit m) E3 _ sl _ n' hk k2 k3 k4 (by omega))⟩
    ·exact hk.elim
  ·exact h.elim
theorem padTo_get:∀ (m:Nat) (l:List AV),l.length≤m→(padTo m l).length=m∧∀ t,getN .any (padTo m l) t=getN .any l t
 | 0,l,h=>by
  have:l=[]:=List.length_eq_zero_iff.1 (by omega)
  subst this
  exact ⟨rfl,fun _=>rfl⟩
 | m+1,[],_=>by
  obtain ⟨h1,h2⟩:=padTo_get m [] (by simp)
  refine ⟨by simp [padTo,h1],fun t=>?_⟩
  cases t with
  | zero=>rfl
  | succ t=>simp only [padTo,getN];rw [h2 t];rfl
 | m+1,x :: l,h=>by
  obtain ⟨h1,h2⟩:=padTo_get m l (by simpa using h)
  refine ⟨by simp [padTo,h1],fun t=>?_⟩
  cases t with
  | zero=>rfl
  | succ t=>simp only [padTo,getN];exact h2 t
def resRun (tmps:Array Value):ResultVar→Sem Value
 | .tmp t=>pure (tmps.getD t undef)
 | .cell b t=>do loadVar t (← asAddr (tmps.getD b undef))
theorem mapM_cons_run {α β:Type} {f:α→Sem β} {x:α} {l:List α} {y:β} {ys:List β} {w:World} (h:(f x).run P w=.ok y w) (h':(l.mapM f).run P w=.ok ys w):((x :: l).mapM f).run P w=.ok (y :: ys) w:=by
 rw [List.mapM_cons]
 simp only [Sem.run_bind,h,h',Result.andThen_ok,Sem.run_pure]
theorem resultsK_ok {E:Env} {a:Act} {sl:List AV} {H:List Ob} {n:Nat} (hE:EnvOk E H n) (hs:∀ t,RdA E (a.eval (.tmp t)) (getN .any sl t)):∀ (l:List ResultVar) (k:List AV→Prop),resultsK P sl H l k →
 ∃ (us:List Value) (vs:List AV),k vs∧us.length=vs.length∧us.length=l.length∧(∀ (i:Nat) u x,us[i]?=some u→vs[i]?=some x→RdA E u x) ∧
  (l.mapM (resRun a.tmps)).run P E.w=.ok us E.w
 | [],k,h=>⟨[],[],h,rfl,rfl,fun i u x hu=>by simp at hu,rfl⟩
 | .tmp t :: l,k,h=>by
  simp only [resultsK,forceA_eq] at h
  obtain ⟨us,vs,h1,h2,h3,h4,h5⟩:=resultsK_ok hE hs l _ h
  refine ⟨a.tmps.getD t undef :: us,_,h1,by simp [h2],by simp [h3],fun i u x hu hx=>?_, ?_⟩
  ·cases i with
   | zero=>cases hu;cases hx;exact noW_ok (hs t)
   | succ i=>exact h4 i u x (by simpa using hu) (by simpa using hx)
  ·exact mapM_cons_run rfl h5
 | .cell b t :: l,k,h=>by
  simp only [resultsK] at h
  split at h
  ·rename_i id off hv
   split at h
   ·rename_i cs hob
    split at h
    ·rename_i v hr
     rw [forceA_eq] at h
     obtain ⟨us,vs,h1,h2,h3,h4,h5⟩:=resultsK_ok hE hs l _ h
     have hne:getOb H id≠.dead:=by rw [hob];simp
     have hl:=hE.live id hne
     have hok:=hE.ok id hl hne
     rw [hob] at hok
     obtain ⟨hd,hρ,hcells⟩:=CellsAt.of_box hok
     have hrd:=hs b
     rw [hv] at hrd
     obtain ⟨hd',hρ',hval⟩:=hrd.ptr_inv.2.2 hl
     rw [hρ] at hρ'
     cases hρ'
     obtain ⟨u,hu1,hu2⟩:=run_readAt (P:=P) (t:=t) hcells hr
     refine ⟨u :: us,_,h1,by simp [h2],by simp [h3],fun i u' x hu hx=>?_, ?_⟩
     ·cases i with
      | zero=>cases hu;cases hx;exact hu2
      | succ i=>exact h4 i u' x (by simpa using hu) (by simpa using hx)
     ·have hval':a.tmps.getD b undef=.pointer (some ⟨hd.blk,off,none⟩):=hval
      refine mapM_cons_run ?_ h5
      simp only [resRun,hval',asAddr,Sem.run_bind]
      rw [Nat.zero_add] at hu1
      simpa using hu1
    ·exact h.elim
   ·exact h.elim
  ·exact h.elim
theorem run_results {fn:Func} {a:Act} {us:List Value} {w:World} (h:(fn.results.toList.mapM (resRun a.tmps)).run P w=.ok us w) :
 (results fn a.tmps).run P w=.ok (match us with | [v]=>v | us=>.tuple us.toArray) w:=by
 have hm:(fn.results.mapM (resRun a.tmps)).run P w=.ok us.toArray w:=by
  rw [Array.mapM_eq_mapM_toList]
  simp only [Sem.run_map,h]
  rfl
 have he:results fn a.tmps=(do let vs ← fn.results.mapM (resRun a.tmps);pure (if h:vs.size=1 then vs[0] else .tuple vs)):=by
  unfold results
  congr 1
 rw [he]
 simp only [Sem.run_bind,hm,Result.andThen_ok,Sem.run_pure]
 match us with
 | []=>rfl
 | [v]=>rfl
 | _ :: _ :: _=>simp
theorem setMany_ok {E:Env}:∀ (ps:List Nat) (vs:List Value) (args:List AV) (tmps:Array Value) (sl:List AV),vs.length=args.length→tmps.size=sl.length→(∀ p∈ps,p < sl.length) →
 (∀ (i:Nat) v x,vs[i]?=some v→args[i]?=some x→RdA E v x)→(∀ t,RdA E (tmps.getD t undef) (getN .any sl t))→(∀ (t:Nat) c s w v,sl[t]?≠some (.when c s w v)) →
 ∃ tmps',(ps.zip vs).foldl (fun tmps (p:Nat × Value)=>tmps.setIfInBounds p.1 p.2) tmps=tmps'∧tmps'.size=(setMany ps args sl).length∧(∀ t,RdA E (tmps'.getD t undef) (getN .any (setMany ps args sl) t)) ∧
  ∀ (t:Nat) c s w v,(setMany ps args sl)[t]?≠some (.when c s w v)
 | [],vs,args,tmps,sl,_,hsz,_,_,hrd,hnw=>⟨_,rfl,by simpa [setMany] using hsz,by simpa [setMany] using hrd,by simpa [setMany] using hnw⟩
 | p :: ps,[],[],tmps,sl,_,hsz,_,_,hrd,hnw=>⟨_,rfl,by simpa [setMany] using hsz,by simpa [setMany] using hrd,by simpa [setMany] using hnw⟩
 | p :: ps,[],_ :: _,_,_,h,_,_,_,_,_=>by simp at h
 | p :: ps,_ :: _,[],_,_,h,_,_,_,_,_=>by simp at h
 | p :: ps,v :: vs,x :: args,tmps,sl,hl,hsz,hps,ha,hrd,hnw=>by
  have hp:p < sl.length:=hps p (by simp)
  obtain ⟨tmps',h1,h2,h3,h4⟩:=setMany_ok ps vs args (tmps.setIfInBounds p v) (setN (noW x) sl p) (by simpa using hl) (by simp [setN_length,hsz]) (fun q hq=>by rw [setN_length];exact hps q (by simp [hq]))
   (fun i v x hv hx=>ha (i+1) v x (by simpa using hv) (by simpa using hx)) (fun t=>by
     rw [getN_setN]
     by_cases ht:p=t
     ·subst ht
      rw [if_pos ⟨rfl,hp⟩]
      have:(tmps.setIfInBounds p v).getD p undef=v:=by
       have:p < tmps.size:=by omega
       simp [Array.getD_eq_getD_getElem?,this]
      rw [this]
      exact noW_ok (ha 0 v x rfl rfl)
     ·rw [if_neg (fun h=>ht h.1)]
      have:(tmps.setIfInBounds p v).getD t undef=tmps.getD t undef:=by
       simp only [Array.getD_eq_getD_getElem?,Array.getElem?_setIfInBounds]
       rw [if_neg ht]
      rw [this]
      exact hrd t) (fun t c s w u ht=>by
     have hg:getN .any (setN (noW x) sl p) t=.when c s w u:=by rw [getN_eq,ht];rfl
     rw [getN_setN] at hg
     by_cases htp:p=t∧p < sl.length
     ·rw [if_pos htp] at hg
      exact absurd hg (noW_ne _ _ _ _ _)
     ·rw [if_neg htp] at hg
      refine hnw t c s w u ?_
      rw [getN_eq] at hg
      cases hs:sl[t]? with
      | none=>rw [hs] at hg;cases hg
      | some y=>rw [hs] at hg;simp only [Option.getD_some] at hg;rw [hg])
  exact ⟨tmps',h1,h2,h3,h4⟩
theorem shut_ok {E0:Env} {n:Nat} {fn:Func} {R:Ending→World→Prop} {a:Act} {sl:List AV} {H:List Ob} {n':Nat} (hM0:E0.M=E0.w.heap.size) (hB0:E0.B≤E0.M)
 (fin:∀ E',EnvOk E' H n'→(∀ t,RdA E' (a.eval (.tmp t)) (getN .any sl t))→Evo n E0 E'→∃ v,(results fn a.tmps).run P E'.w=.ok v E'.w∧R (.returned v) E'.w) :
 ∀ (ds:List Deferred) (E:Env),EnvOk E H n'→(∀ t,RdA E (a.eval (.tmp t)) (getN .any sl t))→Evo n E0 E→Marks E ds→LeavesInM (fen none) 0 P fn a.tmps R ds .returning E.w
 | [],E,hE,hs,hevo,_=>fin E hE hs hevo
 | d :: ds,E,hE,hs,hevo,hm=>by
  obtain ⟨b,rfl,hb1,hb2,hb3⟩:=hm.each d (by simp)
  refine ⟨by simp,.inl ⟨b,E.w.putObj b (.deferred none),rfl,run_takeDeferred hb3, ?_⟩⟩
  let E':Env:={ E with w:=E.w.putObj b (.deferred none) }
  have heap:∀ k,k≠b→E'.w.heap[k]?=E.w.heap[k]?:=fun k hk=>World.putObj_heap_other hk
  have hsz:E'.w.heap.size=E.w.heap.size:=World.putObj_size
  have hBb:E.B≤b:=by
   have h1:=hevo.B
   have h2:=hevo.M
   omega
  have nb:∀ k,E.Nb k→E'.Nb k:=fun k hk=>⟨by rw [hsz];exact hk.1,hk.2⟩
  have hq:∀ k,Evq k E E':=by
   intro k
   refine ⟨fun _ _ h=>h,fun _ _ _ h=>⟨h,rfl⟩,fun _ _ _ _ _ _ h=>h,fun b' o hf=>?_,fun b' ms clock hB hn hm=>⟨hB,nb b' hn,(heap b' fun e=>by rw [e,hb3] at hm;cases hm).trans hm⟩⟩
   have hcell:E'.w.cell? ⟨b',o,none⟩=E.w.cell? ⟨b',o,none⟩:=by
    by_cases hbb:b'=b
    ·subst hbb
     have h2:E'.w.heap[b']?=some (.deferred none):=World.putObj_heap_same hb2.1
     simp [World.cell?,h2,hb3]
    ·exact cell_of_heap (heap b' hbb)
   rcases hf with ⟨h1,h2⟩ | ⟨h1,h2⟩
   ·exact ⟨.inl ⟨h1,h2⟩,hcell⟩
   ·exact ⟨.inr ⟨h1,nb b' h2⟩,hcell⟩
  have okk:∀ id,E.L id→getOb H id≠.dead→OkOb E' id (getOb H id):=by
   intro id hl hne
   have hok:=hE.ok id hl hne
   by_cases hw:(getOb H id).wr
   ·exact OkOb.monoq (hq n') hE.ns (hE.sub id hl) hl rfl (fun k ho=>heap k fun e=>hb2.2.1 id (hE.wr id hw) (e ▸ ho)) hok
   ·cases hob:getOb H id with
    | dead=>exact absurd hob hne
    | cells cs=>rw [hob] at hw;exact absurd trivial hw
    | rows t xs=>rw [hob] at hw;exact absurd trivial hw
    | fmap es=>rw [hob] at hw;exact absurd trivial hw
    | grid t m xss=>rw [hob] at hw;exact absurd trivial hw
    | loop a1 a2 a3 a4 a5 a6=>rw [hob] at hw;exact absurd trivial hw
    | froz t xs =>
     rw [hob] at hok
     refine RowsAt.mono (E:=E) (hq 0).fz (fun h hρ=>heap _ fun e=>?_) hok
     have hok':RowsAt E t xs (E.ρ id):=hok
     have hρ':E.ρ id=some h:=hρ
     rw [hρ'] at hok'
     obtain ⟨_,_,_,_,arr,el,h4,_⟩:=hok'
     rw [e,hb3] at h4
     cases h4
  have hE':EnvOk E' H n':=by
   refine ⟨hE.len,hE.ns,hE.live,hE.wr,okk,hE.sub,hE.wl,hE.injO,fun id k hl ho=>?_,hE.f0,by rw [hsz];exact hE.B,hE.hid,fun b hb=>by rw [hsz];exact hE.hlt b hb⟩
   rw [hsz];exact hE.ltO id k hl ho
  refine shut_ok hM0 hB0 fin ds E' hE' (fun t=>(hs t).monoq (hq n') hE.ns) ?_ ⟨fun d hd=>?_,(List.pairwise_cons.1 hm.two).2⟩
  ·refine ⟨hevo.B,hevo.F0,hevo.M,hevo.below.trans (by rw [← hevo.B];exact putObj_below hBb),hevo.A,hevo.ids,hevo.kds,fun k hk=>?_,hevo.Hd,fun k hk=>(heap k fun e=>hb2.2.2 (by rw [hevo.Hd,← e];exact hk)).trans (hevo.hh k hk)⟩
   obtain ⟨h1,h2⟩:=hevo.hp k hk
   refine ⟨nb k h1,(heap k fun e=>?_).trans h2⟩
   have:=hk.1
   have:=hevo.M
   omega
  ·obtain ⟨b',h1,h2,h3,h4⟩:=hm.each d (by simp [hd])
   have hne:b'≠b:=by
    have:=(List.pairwise_cons.1 hm.two).1 d hd
    rw [h1] at this
    intro e
    exact this (by rw [e])
   exact ⟨b',h1,h2,nb b' h3,(heap b' hne).trans h4⟩
theorem round_ok (hcx:GoodCtx P cx) (hdraw:DrawnOk P cx) {sem:CallSem} (hsem:CallOk P sem) {id:Nat} {args:List AV} {H:List Ob} {n:Nat} {K:AV→List Ob→Nat→Prop} (h:callS cx P sem 0 (.rnd id :: args) H n K) (E:Env) (vs:Array Value)
 (hE:EnvOk E H n) (hsz:vs.size=args.length) (hrd:∀ (i:Nat) v x,vs[i]?=some v→args[i]?=some x→RdA E v x) :
 getOb H id≠.dead∧∀ hd,E.ρ id=some hd→∃ fn tmps x y,(Instr.yield hd.blk vs).run P E.w=.ok (.round hd.blk fn tmps x y) E.w ∧
  RoundIn (fen none) 0 P hd.blk fn tmps x y E.w (fun en w'=>∃ v E' z H' n',en=.returned v∧E'.w=w'∧n≤n'∧EnvOk E' H' n'∧RdA E' v z∧Evo n E E'∧K z H' n'):=by
 have h:roundS cx P sem id args H n K:=h
 unfold roundS at h
 split at h
 ·rename_i ps x y sl hob
  split at h
  ·rename_i hc
   simp only [Bool.and_eq_true] at hc
   obtain ⟨⟨hlen,hps⟩,hx,hy⟩:=hc
   rw [forceL_eq] at h
   have hne:getOb H id≠.dead:=by rw [hob];simp
   have hl:=hE.live id hne
   have ha:=hE.sub id hl
   have hidn:=hE.ns id ha
   refine ⟨hne,fun hd hρ=>?_⟩
   have hok:=hE.ok id hl hne
   rw [hob] at hok
   obtain ⟨hd',k1,r,k2,k3,k4,k5,k6,k7,k8,k9⟩:=hok
   rw [hρ] at k1;cases k1
   have hpsz:r.params.size=ps.length:=by rw [← k5];simp
   have hvsz:vs.size=r.params.size:=by rw [hsz,hpsz];exact (Nat.eq_of_beq_eq_true hlen).symm
   obtain ⟨tmps',m1,m2,m3,m4⟩:=setMany_ok (E:=E) ps vs.toList args r.tmps (sl.map noW) (by simpa using hsz) (by simpa using k8)
    (fun p hp=>by rw [List.length_map];exact Nat.le_of_ble_eq_true (List.all_eq_true.1 hps p hp)) (fun i v x hv hx=>hrd i v x (by simpa using hv) hx) (fun t=>by
      rw [getN_map_noW]
      refine noW_ok ?_
      cases hv:r.tmps[t]? with
      | none =>
       have:sl.length≤t:=by rw [← k8];exact Array.getElem?_eq_none_iff.1 hv
       rw [getN_ge _ this];exact .any _
      | some v =>
       have hlt:t < sl.length:=by rw [← k8];exact (Array.getElem?_eq_some_iff.1 hv).1
       have:r.tmps.getD t undef=v:=by simp [Array.getD_eq_getD_getElem?,hv]
       rw [this]
       exact k9 t v _ hv (getN_of_lt hlt)) (fun t c s w v ht=>by
      rw [List.getElem?_map,Option.map_eq_some_iff] at ht
      obtain ⟨z,_,hz⟩:=ht
      exact noW_ne _ _ _ _ _ hz)
   refine ⟨r.fn,tmps',r.assign,r.body, ?_,roundIn_of_wpIn trivial ?_⟩
   ·rw [run_yield k2 hvsz,← m1,← k5,← Array.toList_zip,Array.foldl_toList]
   ·rw [k6,k7]
    have hs0:SlOk E ⟨tmps',[]⟩ (setMany ps args (sl.map noW)):=⟨m2,m3,fun t c s w v ht=>absurd ht (m4 t c s w v),Marks.nil E⟩
    refine exec_ok (n0:=n) hcx hdraw hsem (some hd.blk) x hE hs0 (Nat.le_refl _) (fun h=>by cases h) (.inr hx) h fun e E1 a1 sl1 H1 n1 hk hE1 hs1 hevo1 hn1=>?_
    cases e with
    | ret=>exact hk.elim
    | exit m=>exact hk.elim
    | normal =>
     simp only at hk
     split at hk
     ·rename_i ps1 x1 y1 sl1' hob1
      rw [forceH_eq] at hk
      have hl1:=hE1.live id (by rw [hob1];simp)
      have hρ1:=(hevo1.ids id hidn ha hl1).2.trans hρ
      have hok1:=hE1.ok id hl1 (by rw [hob1];simp)
      rw [hob1] at hok1
      obtain ⟨hd1,q1,r1,q2,q3,_⟩:=hok1
      rw [hρ1] at q1;cases q1
      obtain ⟨E2,e1,hE2,hevo2⟩:=setLoop_ok (st':=.busy) (pe':=.no) (r':={ r1 with state:=.busy }) hE1 hob1 hρ1 q2 rfl (by
       have hok1:=hE1.ok id hl1 (by rw [hob1];simp)
       rw [hob1] at hok1
       obtain ⟨hd1,z1,r1',z2,z3,z4,_⟩:=hok1
       rw [hρ1] at z1;cases z1
       rw [q2] at z2;cases z2
       exact z4) rfl rfl rfl rfl
      refine ⟨E2.w,by rw [e1];exact run_beginRound q2 q3, ?_⟩
      have hs2:=hs1.mono (hevo2 n1) hE1.ns
      refine exec_ok (n0:=n) hcx hdraw hsem (some hd.blk) y hE2 hs2 hn1 (fun h=>by cases h) (.inr hy) hk fun e E3 a3 sl3 H3 n3 hk3 hE3 hs3 hevo3 hn3=>?_
      split at hk3
      ·rename_i ps3 x3 y3 sl3' hob3
       have hl3:=hE3.live id (by rw [hob3];simp)
       have hevo13:Evo n E E3:=hevo1.trans ((hevo2 n).trans hevo3)
       have hρ3:=(hevo13.ids id hidn ha hl3).2.trans hρ
       have hok3:=hE3.ok id hl3 (by rw [hob3];simp)
       rw [hob3] at hok3
       obtain ⟨hd3,q4,r3,q5,_⟩:=hok3
       rw [hρ3] at q4;cases q4
       have fin:∀ (pe:Jump) (b:Bool),(jumpCode pe).isNone=b→∃ v w4,(Instr.endRound hd.blk (jumpCode pe)).run P E3.w=.ok v w4∧∃ E4,v=.bool b∧E4.w=w4∧EnvOk E4 (setN (.loop (if b then .ready else .done) pe ps3 x3 y3 sl3') H3 id) n3∧Evo n E E4:=by
        intro pe b hb
        obtain ⟨E4,e4,hE4,hevo4⟩:=setLoop_ok (st':=if b then .ready else .done) (pe':=pe) (r':={ r3 with state:=if (jumpCode pe).isNone then .ready else .done,pending:=jumpCode pe }) hE3 hob3 hρ3 q5 (by rw [hb]) rfl rfl rfl rfl rfl
        exact ⟨_,_,run_endRound (P:=P) (jumpCode pe) q5,E4,by rw [hb],e4,hE4,hevo13.trans (hevo4 n)⟩
       cases e with
       | normal =>
        simp only [forceH_eq] at hk3
        obtain ⟨v,w4,f1,E4,rfl,f3,f4,f5⟩:=fin .no true rfl
        exact ⟨_,w4,f1,_,E4,.bool true,_,n3,rfl,f3,hn3,f4,.bool _,f5,hk3⟩
       | ret =>
        simp only [forceH_eq] at hk3
        obtain ⟨v,w4,f1,E4,rfl,f3,f4,f5⟩:=fin .ret false rfl
        exact ⟨_,w4,f1,_,E4,.bool false,_,n3,rfl,f3,hn3,f4,.bool _,f5,hk3⟩
       | exit m =>
        simp only [forceH_eq] at hk3
        obtain ⟨v,w4,f1,E4,rfl,f3,f4,f5⟩:=fin (.exit m) false rfl
        exact ⟨_,w4,f1,_,E4,.bool false,_,n3,rfl,f3,hn3,f4,.bool _,f5,hk3⟩
      ·exact hk3.elim
     ·exact hk.elim
  ·exact h.elim
 ·exact h.elim
theorem callS_ok (hcx:GoodCtx P cx) (hdraw:DrawnOk P cx) {sem:CallSem} (hsem:CallOk P sem):CallOk P (callS cx P sem):=by
 refine ⟨fun g args H n K h E vs hE hsz hrd=>?_,fun id args H n K h=>round_ok hcx hdraw hsem h⟩
 have h:(match P.funcs[g]? with
  | some fn=>(match fn.body with
   | some c=>if Nat.ble args.length fn.ntmps then (fn.name == "runtime.NumGoroutine")=false∧forceL (padTo fn.ntmps (args.map noW)) (fun sl=>exec cx P sem n c sl H n (endK P fn K)) else False
   | none=>False)
  | none=>False):=by
  unfold callS at h
  split at h
  ·rename_i id args'
   have hv:∃ v,vs[0]?=some v:=by
    have:0 < vs.size:=by rw [hsz];simp
    exact ⟨_,Array.getElem?_eq_getElem this⟩
   obtain ⟨v,hv⟩:=hv
   exact absurd (hrd 0 v _ hv rfl) (fun h=>by cases h)
  ·exact h
 split at h
 ·rename_i fn hfn
  split at h
  ·rename_i c hc
   split at h
   ·rename_i hle
    obtain ⟨hname,h⟩:=h
    rw [forceL_eq] at h
    let E1:Env:={ E with M:=E.w.heap.size }
    have hq:Evq n E E1:=⟨fun _ _ h=>h,fun _ _ _ h=>⟨h,rfl⟩,fun _ _ _ _ _ _ h=>h,fun _ _ h=>⟨h,rfl⟩,fun _ _ _ hB h hm=>⟨hB,h,hm⟩⟩
    have hE1:EnvOk E1 H n:=⟨hE.len,hE.ns,hE.live,hE.wr,fun id hl hne=>OkOb.monoq hq hE.ns (hE.sub id hl) hl rfl (fun _ _=>rfl) (hE.ok id hl hne),hE.sub,hE.wl,hE.injO,hE.ltO,hE.f0,hE.B,hE.hid,hE.hlt⟩
    refine ⟨⟨fn,hfn,by rw [hc];rfl,hname⟩,callsIn_fen.1 (callsIn_of_wp_marks (F:=fen none) (n:=0) hfn hc trivial ?_ rfl)⟩
    have hle':(args.map noW).length≤fn.ntmps:=by rw [List.length_map];exact Nat.le_of_ble_eq_true hle
    obtain ⟨p1,p2⟩:=padTo_get fn.ntmps (args.map noW) hle'
    rw [List.length_map] at hle'
    refine exec_ok (n0:=n) (E:=E1) hcx hdraw hsem none c hE1 ?_ (Nat.le_refl _) (fun _=>Nat.le_refl _) (.inl rfl) h fun e E' a' sl' H' n' hk hE' hs' hevo hn'=>?_
    ·refine ⟨?_,fun t=>?_,fun t c s w v ht=>?_,Marks.nil _⟩
     ·rw [p1];simp;omega
     ·rw [p2,getN_map_noW]
      rcases Nat.lt_or_ge t args.length with hlt | hge
      ·have hx:=getN_of_lt (d:=AV.any) hlt
       have hv:vs[t]?=some (vs[t]'(by omega)):=Array.getElem?_eq_getElem (by omega)
       have:(Act.mk (vs++Array.replicate (fn.ntmps - vs.size) undef) []).eval (.tmp t)=vs[t]'(by omega):=by
        simp only [Act.eval,Array.getD_eq_getD_getElem?,Array.getElem?_append]
        rw [if_pos (by omega),hv]
        rfl
       rw [this]
       exact (noW_ok (hrd t _ _ hv hx)).monoq hq hE.ns
      ·rw [getN_ge _ hge];exact .any _
     ·have hg:getN .any (padTo fn.ntmps (args.map noW)) t=.when c s w v:=by rw [getN_eq,ht];rfl
      rw [p2,getN_map_noW] at hg
      exact absurd hg (noW_ne _ _ _ _ _)
    ·have fin:resultsK P sl' H' fn.results.toList (fun vs=>oneK vs (fun v=>K v H' n'))→LeavesInM (fen none) 0 P fn a'.tmps (fun en w'=>∃ v E' x H' n',en=.returned v∧E'.w=w'∧n≤n'∧EnvOk E' H' n'∧RdA E' v x∧Evo n E E'∧K x H' n') a'.defers .returning E'.w:=by
      intro hk
      refine shut_ok (E0:=E1) (sl:=sl') rfl hE.B (fun E2 hE2 hs2 hevo2=>?_) a'.defers E' hE' hs'.rd hevo hs'.defers
      obtain ⟨us,ws,k1,k2,k3,k4,k5⟩:=resultsK_ok (P:=P) hE2 hs2 _ _ hk
      refine ⟨_,run_results k5, ?_⟩
      let E3:Env:={ E2 with M:=E.M }
      have hq3:Evq n' E2 E3:=⟨fun _ _ h=>h,fun _ _ _ h=>⟨h,rfl⟩,fun _ _ _ _ _ _ h=>h,fun _ _ h=>⟨h,rfl⟩,fun _ _ _ hB h hm=>⟨hB,h,hm⟩⟩
      have hE3:EnvOk E3 H' n':=⟨hE2.len,hE2.ns,hE2.live,hE2.wr,fun id hl hne=>OkOb.monoq hq3 hE2.ns (hE2.sub id hl) hl rfl (fun _ _=>rfl) (hE2.ok id hl hne),hE2.sub,hE2.wl,hE2.injO,hE2.ltO,hE2.f0,hE2.B,hE2.hid,hE2.hlt⟩
      have hevo3:Evo n E E3:=⟨hevo2.B,hevo2.F0,rfl,hevo2.below,hevo2.A,hevo2.ids,hevo2.kds,hevo2.hp,hevo2.Hd,hevo2.hh⟩
      have k4:∀ (i:Nat) u x,us[i]?=some u→ws[i]?=some x→RdA E3 u x:=fun i u x hu hx=>(k4 i u x hu hx).monoq hq3 hE2.ns
      match us,ws,k1,k2,k4 with
      | [],[],k1,_,_=>exact ⟨_,E3,.tup [],H',n',rfl,rfl,hn',hE3,.tup _ _ rfl (fun i u x hu=>by simp at hu),hevo3,k1⟩
      | [u],[x],k1,_,k4=>exact ⟨_,E3,x,H',n',rfl,rfl,hn',hE3,k4 0 u x rfl rfl,hevo3,k1⟩
      | u :: u' :: us,x :: x' :: xs,k1,k2,k4 =>
       exact ⟨_,E3,.tup (x :: x' :: xs),H',n',rfl,rfl,hn',hE3,.tup _ _ (by simpa using k2) (fun i v y hv hy=>k4 i v y (by simpa using hv) hy),hevo3,k1⟩
      | [],_ :: _,_,k2,_=>exact absurd k2 (by simp)
      | _ :: _,[],_,k2,_=>exact absurd k2 (by simp)
      | [_],_ :: _ :: _,_,k2,_=>exact absurd k2 (by simp)
      | _ :: _ :: _,[_],_,k2,_=>exact absurd k2 (by simp)
     cases e with
     | normal=>exact fin hk
     | ret=>exact fin hk
     | exit m=>exact hk.elim
   ·exact h.elim
  ·exact h.elim
 ·exact h.elim
theorem callN_ok (hcx:GoodCtx P cx) (hdraw:DrawnOk P cx):∀ d,CallOk P (callN cx P d)
 | 0=>⟨fun g args H n K h=>h.elim,fun id args H n K h=>h.elim⟩
 | d+1=>callS_ok hcx hdraw (callN_ok hcx hdraw d)
end
end Go.Sx
