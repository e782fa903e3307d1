import Derived.Test.YticmijfmgmkkcaaGreatVSxExt
import Derived.TacticsIn
import Derived.OrdersIn
import Derived.RangeFuncIn
import Derived.RangeFuncRecord
set_option linter.unusedSimpArgs false
set_option linter.unusedVariables false
set_option maxRecDepth 100000
namespace Go.Sx
open Go.RowKit
def OptP:Option Prop→Prop
 | none=>True
 | some q=>q
def fen (ro:Option Nat):Fence:={ Fence.wide with round:=ro }
theorem fen_fn (ro:Option Nat) (f:FuncId):(fen ro).fn f:=trivial
theorem fen_room (ro:Option Nat) (n:Nat):(fen ro).room n:=fun _ h=>by cases h
theorem fen_depth (ro:Option Nat) (q:Prop):(fen ro).depth.isSome=true→q:=fun h=>by cases h
@[reducible] def _root_.Go.Oper.wpI (ro:Option Nat) (P:Program) (o:Oper) (a:Act) (w:World) (next:Act→World→Prop) (Q:Exit→Act→World→Prop):Prop:=o.wpIn (fen ro) 0 P a w next Q
@[reducible] def _root_.Go.Code.wpI (ro:Option Nat) (P:Program) (c:Code) (Q:Exit→Act→World→Prop) (a:Act) (w:World):Prop:=c.wpIn (fen ro) 0 P Q a w
theorem semAt_run {ro:Option Nat} {P:Program} {o:Oper} {ρ:Operand→Value} {w w':World} {x:Next} (h:(execOp ρ o).run P w=.ok x w') (hx:∀ d,x≠.defer d):(o.semAt ro ρ).run P w=.ok x w':=by
 cases ro with
 | none=>exact h
 | some l =>
  rw [Oper.semAt_some]
  ·exact h
  ·intro c hc
   obtain ⟨dst,op,ty,pos,after,guard⟩:=o
   simp only at hc
   subst hc
   simp only [execOp,Sem.run_bind] at h
   cases hr:(resolve ρ c ty).run P w with
   | ok d w2 =>
    rw [hr] at h
    simp only [Result.andThen_ok,Sem.run_pure,Result.ok.injEq] at h
    exact hx _ h.1.symm
   | halt x w2=>rw [hr] at h;cases h
theorem wp_value {ro:Option Nat} {P:Program} {o:Oper} {a:Act} {w w':World} {v:Value} {K:Act→World→Prop} {Q:Exit→Act→World→Prop}
 (h:(execOp a.eval o).run P w=.ok (.value v) w') (hK:K (a.put o.dst v) w'):o.wpI ro P a w K Q:=by
 refine ⟨fun _ _=>trivial, ?_⟩
 rw [show (fen ro).round=ro from rfl,semAt_run h (fun d hd=>by cases hd)]
 exact hK
theorem wp_skip' {ro:Option Nat} {P:Program} {o:Oper} {a:Act} {w w':World} {K:Act→World→Prop} {Q:Exit→Act→World→Prop}
 (h:(execOp a.eval o).run P w=.ok .skip w') (hK:K (a.put o.dst undef) w'):o.wpI ro P a w K Q:=by
 refine ⟨fun _ _=>trivial, ?_⟩
 rw [show (fen ro).round=ro from rfl,semAt_run h (fun d hd=>by cases hd)]
 exact hK
theorem callsIn_fen {ro:Option Nat} {n:Nat} {P:Program} {f:FuncId} {args:Array Value} {w:World} {R:Ending→World→Prop}:CallsIn (fen ro) n P f args w R↔Calls P f args w R:=by
 constructor
 ·intro h
  exact CallsIn.calls h (fen_room ro)
 ·intro h
  have:=(callsIn_wide (n:=n)).2 h
  exact ⟨trivial,fun cs _=>this.2 cs (room_wide _)⟩
theorem wp_call {ro:Option Nat} {P:Program} {o:Oper} {a:Act} {w w':World} {f:FuncId} {args:Array Value} {K:Act→World→Prop} {Q:Exit→Act→World→Prop}
 (h:(execOp a.eval o).run P w=.ok (.enter f args) w') (hK:Calls P f args w' (fun e w''=>∃ v,e=.returned v∧K (a.put o.dst v) w'')):o.wpI ro P a w K Q:=by
 refine ⟨fun _ _=>trivial, ?_⟩
 rw [show (fen ro).round=ro from rfl,semAt_run h (fun d hd=>by cases hd)]
 refine ⟨fen_depth ro _,callsIn_fen.2 (hK.mono fun e w'' he=>?_)⟩
 obtain ⟨v,rfl,hk⟩:=he
 exact hk
theorem wp_round {ro:Option Nat} {P:Program} {o:Oper} {a:Act} {w w':World} {l:Nat} {f:FuncId} {tmps:Array Value} {x y:Code} {K:Act→World→Prop} {Q:Exit→Act→World→Prop}
 (h:(execOp a.eval o).run P w=.ok (.round l f tmps x y) w') (hK:RoundIn (fen none) 0 P l f tmps x y w' (fun e w''=>∃ v,e=.returned v∧K (a.put o.dst v) w'')):o.wpI ro P a w K Q:=by
 refine ⟨fun _ _=>trivial, ?_⟩
 rw [show (fen ro).round=ro from rfl,semAt_run h (fun d hd=>by cases hd)]
 refine ⟨fen_depth ro _,trivial,fun c cs hroom=>?_⟩
 obtain ⟨e,w'',h1,h2⟩:=hK.2 c cs (fen_room none _)
 obtain ⟨v,rfl,hk⟩:=h1
 exact ⟨.returned v,w'',hk,h2⟩
theorem getN_eq {α:Type} (d:α):∀ (l:List α) (n:Nat),getN d l n=(l[n]?).getD d
 | [],_=>by simp [getN]
 | a :: l,0=>by simp [getN]
 | a :: l,n+1=>by simp [getN,getN_eq d l n]
theorem getN_of_lt {α:Type} {d:α} {l:List α} {n:Nat} (h:n < l.length):l[n]?=some (getN d l n):=by
 rw [getN_eq,List.getElem?_eq_getElem h];rfl
theorem RdA.one_of {E:Env} {v:Value} {x:AV} (h:RdA E v x) (hx:cellsOf x=some [x]):v.oneCell'=true:=by
 cases h with
 | sl=>rename_i h;exact h.one
 | agg vs xs hv h1 h =>
  simp only [cellsOf,Option.some.injEq] at hx
  have:=congrArg (fun l:List AV=>SizeOf.sizeOf l) hx
  simp at this
  omega
 | any=>simp [cellsOf] at hx
 | tup=>simp [cellsOf] at hx
 | when=>simp [cellsOf] at hx
 | yld=>simp [cellsOf] at hx
 | grow=>simp [cellsOf] at hx
 | gptr=>simp [cellsOf] at hx
 | dmp=>simp [cellsOf] at hx
 | ownc=>assumption
 | csl=>assumption
 | slf=>rfl
 | int=>rfl
 | bool=>rfl
 | str=>rfl
 | val h=>assumption
 | nils=>rfl
 | cap0=>rfl
 | ptr=>rename_i h1 _;obtain ⟨_,_,rfl⟩:=h1;rfl
 | rptr=>rename_i h1 _;obtain ⟨_,_,rfl⟩:=h1;rfl
 | eptr=>rfl
 | own=>assumption
 | ownp=>assumption
 | mp=>assumption
 | fn=>rfl
theorem upFs_get:∀ caps:List FnT,(upFs caps).length=caps.length∧∀ (i:Nat) x,(upFs caps)[i]?=some x→∃ c,caps[i]?=some c∧x=.eptr [.fn c]
 | []=>⟨rfl,fun i x h=>by simp [upFs] at h⟩
 | c :: l=>by
  obtain ⟨g1,g2⟩:=upFs_get l
  refine ⟨by simp [upFs,g1],fun i x h=>?_⟩
  cases i with
  | zero=>simp only [upFs,List.getElem?_cons_zero,Option.some.injEq] at h;exact ⟨c,rfl,h.symm⟩
  | succ i=>simpa [upFs] using g2 i x (by simpa [upFs] using h)
theorem RdA.up {E:Env} {v:Value} {p:PV} (h:RdP E.w E.Fz v p):RdA E v (up p):=by
 cases p with
 | int k n=>cases h;exact .int k n
 | bool b=>cases h;exact .bool b
 | str s=>cases h;exact .str s
 | sl t xs=>exact .sl v t xs h
 | nils=>cases h;exact .nils _ _
 | val u=>cases h;exact .val v ‹_›
 | fn T =>
  cases h with
  | fnil=>exact .val _ rfl
  | fn f caps ws g u hw hc hr =>
   obtain ⟨g1,g2⟩:=upFs_get caps
   refine .fn (.func f) #[] ws [] (upFs caps) rfl (by rw [hw,g1]) (fun i v x _ hx=>by simp at hx) (fun i v x hv hx=>?_)
   have hi:i < caps.length:=by
    have:=(List.getElem?_eq_some_iff.1 hx).1
    omega
   obtain ⟨c,hcc,rfl⟩:=g2 i x hx
   obtain ⟨h0,h1,h2⟩:=hc i hi
   rw [h0] at hv
   cases hv
   refine .eptr (g i).1 (g i).2 [.fn c] (fun _=>u i) (fun j hj=>?_) (fun j p hp=>?_)
   ·have:j=0:=by simp at hj;exact hj
    subst this
    exact ⟨h1,h2⟩
   ·match j,hp with
    | 0,hp=>cases hp;exact hr i c hcc
def CellsAt (E:Env) (b o:Nat) (cs:List AV):Prop :=
 ∀ j x,cs[j]?=some x→∃ v,E.w.cell? ⟨b,o+j,none⟩=some v∧v.oneCell'=true∧RdA E v x
theorem addr_add (b o n:Nat):(⟨b,o,none⟩ : Addr).add n=⟨b,o+n,none⟩:=by
 unfold Addr.add;split
 ·subst_vars;rfl
 ·rfl
theorem CellsAt.drop {E:Env} {b o:Nat} {cs:List AV} (h:CellsAt E b o cs) (n:Nat):CellsAt E b (o+n) (cs.drop n):=by
 intro j x hx
 rw [List.getElem?_drop] at hx
 obtain ⟨v,h1,h2⟩:=h _ _ hx
 exact ⟨v,by rw [Nat.add_assoc];exact h1,h2⟩
theorem run_loadRun {P:Program} {E:Env} {b o:Nat} {cs:List AV} (h:CellsAt E b o cs) (n:Nat) (hn:n≤cs.length) :
 ∃ vs:Array Value,(loadCells ⟨b,o,none⟩ n).run P E.w=.ok vs E.w∧RdA E (.agg vs) (.agg (cs.take n)):=by
 have hv:∀ j,j < n→∃ v,E.w.cell? ⟨b,o+j,none⟩=some v∧v.oneCell'=true∧RdA E v (getN .any cs j):=fun j hj =>
  h j _ (getN_of_lt (by omega))
 let f:Nat→Value:=fun j=>if hj:j < n then (hv j hj).choose else undef
 have hf:∀ j (hj:j < n),E.w.cell? ⟨b,o+j,none⟩=some (f j)∧(f j).oneCell'=true∧RdA E (f j) (getN .any cs j):=fun j hj=>by
  simp only [f,dif_pos hj];exact (hv j hj).choose_spec
 refine ⟨((List.range n).map f).toArray, ?_, ?_⟩
 ·have hl:=run_loadCells_list (P:=P) (w:=E.w) ⟨b,o,none⟩ ((List.range n).map f) (fun j v hjv=>by
   rw [addr_add]
   simp only [List.getElem?_map,Option.map_eq_some_iff] at hjv
   obtain ⟨i,hi,rfl⟩:=hjv
   have hlt:j < n:=by
    have:=(List.getElem?_eq_some_iff.1 hi).1;simpa using this
   have:i=j:=by
    have:=List.getElem?_range hlt
    rw [this] at hi;exact (Option.some.inj hi).symm
   subst this
   exact (hf i hlt).1)
  simpa using hl
 ·refine .agg _ _ (by simp;omega) ?_ ?_
  ·intro i v hv'
   simp only [List.getElem?_toArray,List.getElem?_map,Option.map_eq_some_iff] at hv'
   obtain ⟨k,hk,rfl⟩:=hv'
   have hlt:i < n:=by have:=(List.getElem?_eq_some_iff.1 hk).1;simpa using this
   have:k=i:=by
    have:=List.getElem?_range hlt
    rw [this] at hk;exact (Option.some.inj hk).symm
   subst this
   exact (hf k hlt).2.1
  ·intro i v x hv' hx
   simp only [List.getElem?_toArray,List.getElem?_map,Option.map_eq_some_iff] at hv'
   obtain ⟨k,hk,rfl⟩:=hv'
   have hlt:i < n:=by have:=(List.getElem?_eq_some_iff.1 hk).1;simpa using this
   have:k=i:=by
    have:=List.getElem?_range hlt
    rw [this] at hk;exact (Option.some.inj hk).symm
   subst this
   rw [List.getElem?_take_of_lt hlt,getN_of_lt (d:=AV.any) (by omega)] at hx
   cases hx
   exact (hf k hlt).2.2
theorem run_readAt {P:Program} {E:Env} {b o off:Nat} {cs:List AV} {t:TypeId} {x:AV} (h:CellsAt E b o cs) (hr:readAt P t cs off=some x) :
 ∃ v,(loadVar t ⟨b,o+off,none⟩).run P E.w=.ok v E.w∧RdA E v x:=by
 unfold readAt at hr
 have agg:∀ i,P.info? t=some i→(if Nat.ble (off+i.size) cs.length then some (AV.agg ((cs.drop off).take i.size)) else none)=some x →
  ((isAgg t).run P E.w=.ok true E.w)→∃ v,(loadVar t ⟨b,o+off,none⟩).run P E.w=.ok v E.w∧RdA E v x:=by
  intro i hi hx ha
  split at hx
  ·rename_i hle
   cases hx
   have hle':off+i.size≤cs.length:=Nat.le_of_ble_eq_true hle
   obtain ⟨vs,h1,h2⟩:=run_loadRun (P:=P) (h.drop off) i.size (by rw [List.length_drop];omega)
   exact ⟨_,by simp [loadVar,ha,sizeOf,typeInfo,hi,h1],h2⟩
  ·cases hx
 cases hu:P.underlying t with
 | none=>simp [hu] at hr
 | some d =>
  cases hi:P.info? t with
  | none=>cases d <;> simp [hu,hi] at hr
  | some i =>
   have plain:(∀ fs,d≠.struct fs)→(∀ n e,d≠.array n e)→(if Nat.blt off cs.length then some (getN AV.any cs off) else none)=some x→∃ v,(loadVar t ⟨b,o+off,none⟩).run P E.w=.ok v E.w∧RdA E v x:=by
    intro h1 h2 hx
    split at hx
    ·rename_i hlt
     cases hx
     have hlt':off < cs.length:=Nat.le_of_ble_eq_true hlt
     obtain ⟨v,h3,h4,h5⟩:=h off _ (getN_of_lt hlt')
     have ha:(isAgg t).run P E.w=.ok false E.w:=by
      simp only [isAgg,Sem.run_bind]
      rw [run_underlying hu]
      simp only [Result.andThen_ok]
      cases d <;> first | rfl | (exact absurd rfl (h1 _)) | (exact absurd rfl (h2 _ _))
     exact ⟨v,by simp [loadVar,ha,h3],h5⟩
    ·cases hx
   cases d <;> simp only [hu,hi] at hr <;> first
    | exact plain (fun _=>by simp) (fun _ _=>by simp) hr
    | exact agg i hi hr (by simp [isAgg,run_underlying hu])
end Go.Sx
