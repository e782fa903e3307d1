import Derived.Test.YticmijfmgmkkcaaGreatVSxExec
import Derived.WalkKit
set_option linter.unusedSimpArgs false
set_option linter.unusedVariables false
set_option maxRecDepth 100000
namespace Go.Sx
open Go.RowKit
theorem lim_big {n:Nat} (h:n≤lim):n≤big:=Nat.le_trans h (by decide)
def flat (t:Ty) (xs:List t.den):List PV:=xs.flatMap (enc t)
inductive RdP (w:World) (F:Nat→Nat→Prop):Value→PV→Prop
 | int (k:IntKind) (n:Int):RdP w F (.int k n) (.int k n)
 | bool (b:Bool):RdP w F (.bool b) (.bool b)
 | str (s:ByteArray):RdP w F (.string s) (.str s)
 | val (v:Value) (h:v.oneCell'=true):RdP w F v (.val v)
 | nils (a:Option Addr) (c:Nat):RdP w F (.slice a 0 c) .nils
 | sl0 (a:Option Addr) (c:Nat) (t:Ty):RdP w F (.slice a 0 c) (.sl t [])
 | sl (b o n c:Nat) (t:Ty) (xs:List t.den) (g:Nat→Value) (hn:n=xs.length) (hc:n≤c) (hl:n≤big)
  (hcell:∀ j,j < (flat t xs).length→F b (o+j)∧w.cell? ⟨b,o+j,none⟩=some (g j))
  (hrd:∀ j p,(flat t xs)[j]?=some p→RdP w F (g j) p):RdP w F (.slice (some ⟨b,o,none⟩) n c) (.sl t xs)
 | fnil:RdP w F .nilFunc (.fn .nil)
 | fn (f:FuncId) (caps:List FnT) (ws:Array Value) (g:Nat→Nat × Nat) (u:Nat→Value) (hw:ws.size=caps.length)
  (hc:∀ i,i < caps.length→ws[i]?=some (.pointer (some ⟨(g i).1,(g i).2,none⟩))∧F (g i).1 (g i).2∧w.cell? ⟨(g i).1,(g i).2,none⟩=some (u i))
  (hr:∀ i c,caps[i]?=some c→RdP w F (u i) (.fn c)):RdP w F (.func (.func f) #[] ws) (.fn (.mk f caps))
structure Hdr where
 blk:Nat
 off:Nat
 len:Nat
 cap:Nat
structure Env where
 w:World
 B:Nat
 F0:Nat→Nat→Prop
 ρ:Nat→Option Hdr
 L:Nat→Prop
 W:Nat→Prop
 A:Nat→Prop
 K:Nat→Nat→Option (Option Hdr)
 M:Nat
 Hd:Nat→Prop
def Env.Own (E:Env) (id b:Nat):Prop:=(∃ h,E.ρ id=some h∧h.blk=b)∨∃ i h,E.K id i=some (some h)∧h.blk=b
@[reducible] def Env.Nb (E:Env) (b:Nat):Prop:=b < E.w.heap.size∧(∀ id,E.W id→¬ E.Own id b)∧¬ E.Hd b
@[reducible] def Env.Fz (E:Env) (b o:Nat):Prop :=
 (b < E.B∧E.F0 b o)∨(E.B≤b∧E.Nb b)
def ownV:Option Hdr→Value→Prop
 | none,v=>∃ a,v=.slice a 0 0
 | some h,v=>v=.slice (some ⟨h.blk,h.off,none⟩) h.len h.cap
def ownpV (k lo n:Nat):Option Hdr→Value→Prop
 | none,v=>n=0∧∃ a,v=.slice a 0 0
 | some h,v=>lo+n≤h.len∧∃ o c,v=.slice (some ⟨h.blk,o,none⟩) n c∧n≤c∧c=h.cap - lo∧(o=h.off+lo * k∨(c=0∧o≤h.off+h.cap * k))
def ownqV (k lo n:Nat):Option Hdr→Value→Prop
 | none,v=>n=0∧∃ a,v=.slice a 0 0
 | some h,v=>lo+n≤h.len∧∃ o c,v=.slice (some ⟨h.blk,o,none⟩) n c∧n≤c∧c≤h.cap - lo∧(o=h.off+lo * k∨(c=0∧o≤h.off+h.cap * k))
theorem ownpV.q {k lo n:Nat} {o:Option Hdr} {v:Value} (h:ownpV k lo n o v):ownqV k lo n o v:=by
 cases o with
 | none=>exact h
 | some hd =>
  obtain ⟨h1,o,c,h2,h3,h4,h5⟩:=h
  exact ⟨h1,o,c,h2,h3,by omega,h5⟩
def PV.rdS:PV→Value→Prop
 | .int k n,v=>v=.int k n
 | .bool b,v=>v=.bool b
 | .str s,v=>v=.string s
 | _,_=>False
def FlatRd (v:Value) (cs:List (Option PV)):Prop:=∃ vs:Array Value,v=.agg vs∧vs.size=cs.length∧(∀ (i:Nat) u,vs[i]?=some u→u.oneCell'=true)∧∀ (i:Nat) u p,vs[i]?=some u→cs[i]?=some (some p)→p.rdS u
inductive RdA (E:Env):Value→AV→Prop
 | any (v:Value):RdA E v .any
 | int (k:IntKind) (n:Int):RdA E (.int k n) (.int k n)
 | bool (b:Bool):RdA E (.bool b) (.bool b)
 | str (s:ByteArray):RdA E (.string s) (.str s)
 | val (v:Value) (h:v.oneCell'=true):RdA E v (.val v)
 | nils (a:Option Addr) (c:Nat):RdA E (.slice a 0 c) .nils
 | cap0 (a:Option Addr):RdA E (.slice a 0 0) .cap0
 | sl (v:Value) (t:Ty) (xs:List t.den) (h:RdP E.w E.Fz v (.sl t xs)):RdA E v (.sl t xs)
 | ptr (v:Value) (id off:Nat) (hA:E.A id) (h1:∃ b o,v=.pointer (some ⟨b,o,none⟩)) (h:E.L id→∃ h,E.ρ id=some h∧v=.pointer (some ⟨h.blk,off,none⟩)):RdA E v (.ptr id off)
 | rptr (v:Value) (id k row off:Nat) (hA:E.A id) (h1:∃ b o,v=.pointer (some ⟨b,o,none⟩))
  (h:E.L id→∃ h,E.ρ id=some h∧row < h.len∧v=.pointer (some ⟨h.blk,h.off+row * k+off,none⟩)):RdA E v (.rptr id k row off)
 | eptr (b o:Nat) (cs:List PV) (g:Nat→Value) (hcell:∀ j,j < cs.length→E.Fz b (o+j)∧E.w.cell? ⟨b,o+j,none⟩=some (g j))
  (hrd:∀ j p,cs[j]?=some p→RdP E.w E.Fz (g j) p):RdA E (.pointer (some ⟨b,o,none⟩)) (.eptr cs)
 | own (v:Value) (id:Nat) (hA:E.A id) (h1:v.oneCell'=true) (h:E.L id→ownV (E.ρ id) v):RdA E v (.own id)
 | ownp (v:Value) (id k lo n:Nat) (hA:E.A id) (h1:v.oneCell'=true) (h:E.L id→ownpV k lo n (E.ρ id) v):RdA E v (.ownp id k lo n)
 | mp (v:Value) (id:Nat) (hA:E.A id) (h1:v.oneCell'=true) (h:E.L id→∃ h,E.ρ id=some h∧v=.map (some h.blk)):RdA E v (.mp id)
 | fn (f:Fn) (vs ws:Array Value) (xs ys:List AV) (hv:vs.size=xs.length) (hw:ws.size=ys.length)
  (h1:∀ (i:Nat) v x,vs[i]?=some v→xs[i]?=some x→RdA E v x) (h2:∀ (i:Nat) v x,ws[i]?=some v→ys[i]?=some x→RdA E v x):RdA E (.func f vs ws) (.fn f xs ys)
 | agg (vs:Array Value) (xs:List AV) (hv:vs.size=xs.length) (h1:∀ (i:Nat) v,vs[i]?=some v→v.oneCell'=true)
  (h:∀ (i:Nat) v x,vs[i]?=some v→xs[i]?=some x→RdA E v x):RdA E (.agg vs) (.agg xs)
 | tup (vs:Array Value) (xs:List AV) (hv:vs.size=xs.length) (h:∀ (i:Nat) v x,vs[i]?=some v→xs[i]?=some x→RdA E v x):RdA E (.tuple vs) (.tup xs)
 | when (v:Value) (c:Prop) (s:Nat) (w:Bool) (x:AV) (h1:c→RdA E v x) (h2:¬ c→v=undef):RdA E v (.when c s w x)
 | yld (v:Value) (id:Nat) (hA:E.A id) (h1:∃ l,v=.func (.yield l) #[] #[]) (h:E.L id→∃ h,E.ρ id=some h∧v=.func (.yield h.blk) #[] #[]):RdA E v (.yld id)
 | grow (v:Value) (id i:Nat) (hA:E.A id) (h1:v.oneCell'=true) (h:E.L id→∃ o,E.K id i=some o∧ownV o v):RdA E v (.grow id i)
 | gptr (v:Value) (id i j:Nat) (hA:E.A id) (h1:∃ b o,v=.pointer (some ⟨b,o,none⟩))
  (h:E.L id→∃ h,E.K id i=some (some h)∧j < h.len∧v=.pointer (some ⟨h.blk,h.off+j,none⟩)):RdA E v (.gptr id i j)
 | ownc (v:Value) (id k lo n:Nat) (hA:E.A id) (h1:v.oneCell'=true)
  (h:E.L id→∃ h,E.ρ id=some h∧lo+n≤h.len∧v=.slice (some ⟨h.blk,h.off+lo * k,none⟩) n (h.len - lo)):RdA E v (.ownc id k lo n)
 | csl (v:Value) (t:Ty) (id n:Nat) (hA:E.A id) (h1:v.oneCell'=true)
  (h:E.L id→∃ h,E.ρ id=some h∧v=.slice (some ⟨h.blk,0,none⟩) n n):RdA E v (.csl t id n)
 | dmp (b:Nat) (es:List (Int × List (Option PV))) (ms:Array MapEntry) (clock:Nat) (hB:E.B≤b) (hb:E.Nb b) (hh:E.w.heap[b]?=some (.map ms clock)) (hsz:ms.size=es.length)
  (hes:∀ (i:Nat) m p,ms[i]?=some m→es[i]?=some p→m.key=.int .i64 p.1∧FlatRd m.val p.2):RdA E (.map (some b)) (.dmp es)
 | slf (t:Ty) (xs:List t.den) (a:Option Addr) (h:RdP E.w E.Fz (.slice a xs.length xs.length) (.sl t xs)):RdA E (.slice a xs.length xs.length) (.slf t xs)
theorem cell_of_heap {w w':World} {b o:Nat} (h:w'.heap[b]?=w.heap[b]?):w'.cell? ⟨b,o,none⟩=w.cell? ⟨b,o,none⟩:=by simp [World.cell?,h]
structure Evo (n0:Nat) (E E':Env):Prop where
 B:E'.B=E.B
 F0:E'.F0=E.F0
 M:E'.M=E.M
 below:Below E.B E.w E'.w
 A:∀ id,id < n0→E.A id→E'.A id
 ids:∀ id,id < n0→E.A id→E'.L id→E.L id∧E'.ρ id=E.ρ id
 kds:∀ id,id < n0→E.A id→E'.L id→∀ i o,E.K id i=some o→E'.K id i=some o
 hp:∀ b,E.Nb b→E'.Nb b∧E'.w.heap[b]?=E.w.heap[b]?
 Hd:E'.Hd=E.Hd
 hh:∀ b,E.Hd b→E'.w.heap[b]?=E.w.heap[b]?
theorem Evo.fz {n0:Nat} {E E':Env} (h:Evo n0 E E') (b o:Nat) (hf:E.Fz b o):E'.Fz b o∧E'.w.cell? ⟨b,o,none⟩=E.w.cell? ⟨b,o,none⟩:=by
 rcases hf with ⟨h1,h2⟩ | ⟨h1,h2⟩
 ·exact ⟨.inl ⟨by rw [h.B];exact h1,by rw [h.F0];exact h2⟩,cell_of_heap (h.below.block b h1)⟩
 ·obtain ⟨h3,h4⟩:=h.hp b h2
  exact ⟨.inr ⟨by rw [h.B];exact h1,h3⟩,cell_of_heap h4⟩
structure Evq (n0:Nat) (E E':Env):Prop where
 A:∀ id,id < n0→E.A id→E'.A id
 ids:∀ id,id < n0→E.A id→E'.L id→E.L id∧E'.ρ id=E.ρ id
 kds:∀ id,id < n0→E.A id→E'.L id→∀ i o,E.K id i=some o→E'.K id i=some o
 fz:∀ b o,E.Fz b o→E'.Fz b o∧E'.w.cell? ⟨b,o,none⟩=E.w.cell? ⟨b,o,none⟩
 mp:∀ b ms clock,E.B≤b→E.Nb b→E.w.heap[b]?=some (.map ms clock)→E'.B≤b∧E'.Nb b∧E'.w.heap[b]?=some (.map ms clock)
theorem Evo.q {n0:Nat} {E E':Env} (h:Evo n0 E E'):Evq n0 E E':=⟨h.A,h.ids,h.kds,h.fz,fun b ms clock hB hb hm=>by
 obtain ⟨h1,h2⟩:=h.hp b hb
 exact ⟨by rw [h.B];exact hB,h1,h2.trans hm⟩⟩
theorem Evo.own {n0:Nat} {E E':Env} (h:Evo n0 E E') {id b:Nat} (hid:id < n0) (ha:E.A id) (hl:E'.L id) (ho:E.Own id b):E'.Own id b:=by
 rcases ho with ⟨hd,hρ,hb⟩ | ⟨i,hd,hk,hb⟩
 ·exact .inl ⟨hd,(h.ids id hid ha hl).2.trans hρ,hb⟩
 ·exact .inr ⟨i,hd,h.kds id hid ha hl i _ hk,hb⟩
theorem Evo.refl (n0:Nat) (E:Env):Evo n0 E E:=⟨rfl,rfl,rfl,Below.refl _ _,fun _ _ h=>h,fun _ _ _ h=>⟨h,rfl⟩,fun _ _ _ _ _ _ h=>h,fun _ h=>⟨h,rfl⟩,rfl,fun _ _=>rfl⟩
theorem Evo.trans {n0:Nat} {E E' E'':Env} (h:Evo n0 E E') (k:Evo n0 E' E''):Evo n0 E E'':=by
 refine ⟨k.B.trans h.B,k.F0.trans h.F0,k.M.trans h.M,h.below.trans (h.B ▸ k.below),fun id hi ha=>k.A id hi (h.A id hi ha), ?_, ?_, ?_,k.Hd.trans h.Hd,fun b hb=>(k.hh b (by rw [h.Hd];exact hb)).trans (h.hh b hb)⟩
 ·intro id hi ha hl
  obtain ⟨h1,h2⟩:=k.ids id hi (h.A id hi ha) hl
  obtain ⟨h3,h4⟩:=h.ids id hi ha h1
  exact ⟨h3,h2.trans h4⟩
 ·intro id hi ha hl i o ho
  have h1:=(k.ids id hi (h.A id hi ha) hl).1
  exact k.kds id hi (h.A id hi ha) hl i o (h.kds id hi ha h1 i o ho)
 ·intro b hf
  obtain ⟨h1,h2⟩:=h.hp b hf
  obtain ⟨h3,h4⟩:=k.hp b h1
  exact ⟨h3,h4.trans h2⟩
theorem Evo.mono {n0 n1:Nat} {E E':Env} (h:Evo n0 E E') (hn:n1≤n0):Evo n1 E E' :=
 ⟨h.B,h.F0,h.M,h.below,fun id hi=>h.A id (Nat.lt_of_lt_of_le hi hn),fun id hi=>h.ids id (Nat.lt_of_lt_of_le hi hn),fun id hi=>h.kds id (Nat.lt_of_lt_of_le hi hn),h.hp,h.Hd,h.hh⟩
theorem RdP.mono {w w':World} {F F':Nat→Nat→Prop} (hF:∀ b o,F b o→F' b o∧w'.cell? ⟨b,o,none⟩=w.cell? ⟨b,o,none⟩) {v:Value} {p:PV} (h:RdP w F v p):RdP w' F' v p:=by
 induction h with
 | int k n=>exact .int k n
 | bool b=>exact .bool b
 | str s=>exact .str s
 | val v h=>exact .val v h
 | nils a c=>exact .nils a c
 | sl0 a c t=>exact .sl0 a c t
 | sl b o n c t xs g hn hc hl hcell _ ih =>
  refine .sl b o n c t xs g hn hc hl (fun j hj=>?_) ih
  obtain ⟨h1,h2⟩:=hcell j hj
  obtain ⟨h3,h4⟩:=hF _ _ h1
  exact ⟨h3,h4.trans h2⟩
 | fnil=>exact .fnil
 | fn f caps ws g u hw hc _ ih =>
  refine .fn f caps ws g u hw (fun i hi=>?_) ih
  obtain ⟨h0,h1,h2⟩:=hc i hi
  obtain ⟨h3,h4⟩:=hF _ _ h1
  exact ⟨h0,h3,h4.trans h2⟩
theorem RdA.monoq {n0:Nat} {E E':Env} (hE:Evq n0 E E') (hA:∀ id,E.A id→id < n0) {v:Value} {x:AV} (h:RdA E v x):RdA E' v x:=by
 induction h with
 | any v=>exact .any v
 | int k n=>exact .int k n
 | bool b=>exact .bool b
 | str s=>exact .str s
 | val v h=>exact .val v h
 | nils a c=>exact .nils a c
 | cap0 a=>exact .cap0 a
 | sl v t xs h=>exact .sl v t xs (h.mono hE.fz)
 | ptr v id off ha h1 h =>
  refine .ptr v id off (hE.A id (hA id ha) ha) h1 fun hl=>?_
  obtain ⟨h2,h3⟩:=hE.ids id (hA id ha) ha hl
  rw [h3];exact h h2
 | rptr v id k row off ha h1 h =>
  refine .rptr v id k row off (hE.A id (hA id ha) ha) h1 fun hl=>?_
  obtain ⟨h2,h3⟩:=hE.ids id (hA id ha) ha hl
  rw [h3];exact h h2
 | eptr b o cs g hcell hrd =>
  refine .eptr b o cs g (fun j hj=>?_) (fun j p hp=>(hrd j p hp).mono hE.fz)
  obtain ⟨h1,h2⟩:=hcell j hj
  obtain ⟨h3,h4⟩:=hE.fz _ _ h1
  exact ⟨h3,h4.trans h2⟩
 | own v id ha h1 h =>
  refine .own v id (hE.A id (hA id ha) ha) h1 fun hl=>?_
  obtain ⟨h2,h3⟩:=hE.ids id (hA id ha) ha hl
  rw [h3];exact h h2
 | ownp v id k lo n ha h1 h =>
  refine .ownp v id k lo n (hE.A id (hA id ha) ha) h1 fun hl=>?_
  obtain ⟨h2,h3⟩:=hE.ids id (hA id ha) ha hl
  rw [h3];exact h h2
 | mp v id ha h1 h =>
  refine .mp v id (hE.A id (hA id ha) ha) h1 fun hl=>?_
  obtain ⟨h2,h3⟩:=hE.ids id (hA id ha) ha hl
  rw [h3];exact h h2
 | fn f vs ws xs ys hv hw _ _ ih1 ih2=>exact .fn f vs ws xs ys hv hw ih1 ih2
 | agg vs xs hv h1 _ ih=>exact .agg vs xs hv h1 ih
 | tup vs xs hv _ ih=>exact .tup vs xs hv ih
 | when v c s w x _ h2 ih=>exact .when v c s w x ih h2
 | yld v id ha h1 h =>
  refine .yld v id (hE.A id (hA id ha) ha) h1 fun hl=>?_
  obtain ⟨h2,h3⟩:=hE.ids id (hA id ha) ha hl
  rw [h3];exact h h2
 | grow v id i ha h1 h =>
  refine .grow v id i (hE.A id (hA id ha) ha) h1 fun hl=>?_
  obtain ⟨h2,h3⟩:=hE.ids id (hA id ha) ha hl
  obtain ⟨o,h4,h5⟩:=h h2
  exact ⟨o,hE.kds id (hA id ha) ha hl i o h4,h5⟩
 | gptr v id i j ha h1 h =>
  refine .gptr v id i j (hE.A id (hA id ha) ha) h1 fun hl=>?_
  obtain ⟨h2,h3⟩:=hE.ids id (hA id ha) ha hl
  obtain ⟨o,h4,h5⟩:=h h2
  exact ⟨o,hE.kds id (hA id ha) ha hl i _ h4,h5⟩
 | ownc v id k lo n ha h1 h =>
  refine .ownc v id k lo n (hE.A id (hA id ha) ha) h1 fun hl=>?_
  obtain ⟨h2,h3⟩:=hE.ids id (hA id ha) ha hl
  rw [h3];exact h h2
 | csl v t id n ha h1 h =>
  refine .csl v t id n (hE.A id (hA id ha) ha) h1 fun hl=>?_
  obtain ⟨h2,h3⟩:=hE.ids id (hA id ha) ha hl
  rw [h3];exact h h2
 | slf t xs a h=>exact .slf t xs a (h.mono hE.fz)
 | dmp b es ms clock hB hb hh hsz hes =>
  obtain ⟨h0,h1,h2⟩:=hE.mp b ms clock hB hb hh
  exact .dmp b es ms clock h0 h1 h2 hsz hes
theorem RdA.mono {n0:Nat} {E E':Env} (hE:Evo n0 E E') (hA:∀ id,E.A id→id < n0) {v:Value} {x:AV} (h:RdA E v x):RdA E' v x:=h.monoq hE.q hA
theorem RdA.ptr_inv {E:Env} {v:Value} {id off:Nat} (h:RdA E v (.ptr id off)):E.A id∧(∃ b o,v=.pointer (some ⟨b,o,none⟩))∧(E.L id→∃ h,E.ρ id=some h∧v=.pointer (some ⟨h.blk,off,none⟩)) :=
 match h with | .ptr _ _ _ hA h1 h=>⟨hA,h1,h⟩
theorem RdA.rptr_inv {E:Env} {v:Value} {id k row off:Nat} (h:RdA E v (.rptr id k row off)) :
 E.A id∧(∃ b o,v=.pointer (some ⟨b,o,none⟩))∧(E.L id→∃ h,E.ρ id=some h∧row < h.len∧v=.pointer (some ⟨h.blk,h.off+row * k+off,none⟩)) :=
 match h with | .rptr _ _ _ _ _ hA h1 h=>⟨hA,h1,h⟩
theorem RdA.own_inv {E:Env} {v:Value} {id:Nat} (h:RdA E v (.own id)):E.A id∧v.oneCell'=true∧(E.L id→ownV (E.ρ id) v) :=
 match h with | .own _ _ hA h1 h=>⟨hA,h1,h⟩
theorem RdA.ownp_inv {E:Env} {v:Value} {id k lo n:Nat} (h:RdA E v (.ownp id k lo n)):E.A id∧v.oneCell'=true∧(E.L id→ownpV k lo n (E.ρ id) v) :=
 match h with | .ownp _ _ _ _ _ hA h1 h=>⟨hA,h1,h⟩
theorem RdA.mp_inv {E:Env} {v:Value} {id:Nat} (h:RdA E v (.mp id)):E.A id∧v.oneCell'=true∧(E.L id→∃ h,E.ρ id=some h∧v=.map (some h.blk)) :=
 match h with | .mp _ _ hA h1 h=>⟨hA,h1,h⟩
theorem RdA.yld_inv {E:Env} {v:Value} {id:Nat} (h:RdA E v (.yld id)):E.A id∧(∃ l,v=.func (.yield l) #[] #[])∧(E.L id→∃ h,E.ρ id=some h∧v=.func (.yield h.blk) #[] #[]) :=
 match h with | .yld _ _ hA h1 h=>⟨hA,h1,h⟩
theorem RdA.grow_inv {E:Env} {v:Value} {id i:Nat} (h:RdA E v (.grow id i)):E.A id∧v.oneCell'=true∧(E.L id→∃ o,E.K id i=some o∧ownV o v) :=
 match h with | .grow _ _ _ hA h1 h=>⟨hA,h1,h⟩
theorem RdA.gptr_inv {E:Env} {v:Value} {id i j:Nat} (h:RdA E v (.gptr id i j)):E.A id∧(∃ b o,v=.pointer (some ⟨b,o,none⟩))∧(E.L id→∃ h,E.K id i=some (some h)∧j < h.len∧v=.pointer (some ⟨h.blk,h.off+j,none⟩)) :=
 match h with | .gptr _ _ _ _ hA h1 h=>⟨hA,h1,h⟩
theorem RdA.ownc_inv {E:Env} {v:Value} {id k lo n:Nat} (h:RdA E v (.ownc id k lo n)):E.A id∧v.oneCell'=true∧(E.L id→∃ h,E.ρ id=some h∧lo+n≤h.len∧v=.slice (some ⟨h.blk,h.off+lo * k,none⟩) n (h.len - lo)) :=
 match h with | .ownc _ _ _ _ _ hA h1 h=>⟨hA,h1,h⟩
theorem RdA.csl_inv {E:Env} {v:Value} {t:Ty} {id n:Nat} (h:RdA E v (.csl t id n)):E.A id∧v.oneCell'=true∧(E.L id→∃ h,E.ρ id=some h∧v=.slice (some ⟨h.blk,0,none⟩) n n) :=
 match h with | .csl _ _ _ _ hA h1 h=>⟨hA,h1,h⟩
theorem RdA.slf_inv {E:Env} {v:Value} {t:Ty} {xs:List t.den} (h:RdA E v (.slf t xs)):(∃ a,v=.slice a xs.length xs.length)∧RdP E.w E.Fz v (.sl t xs):=by
 cases h;exact ⟨⟨_,rfl⟩,by assumption⟩
theorem RdA.int_inv {E:Env} {v:Value} {k:IntKind} {n:Int} (h:RdA E v (.int k n)):v=.int k n:=by cases h;rfl
theorem RdA.bool_inv {E:Env} {v:Value} {b:Bool} (h:RdA E v (.bool b)):v=.bool b:=by cases h;rfl
theorem RdA.sl_inv {E:Env} {v:Value} {t:Ty} {xs:List t.den} (h:RdA E v (.sl t xs)):RdP E.w E.Fz v (.sl t xs):=by cases h;assumption
theorem RdA.cap0_inv {E:Env} {v:Value} (h:RdA E v .cap0):∃ a,v=.slice a 0 0:=by cases h;exact ⟨_,rfl⟩
theorem RdA.nils_inv {E:Env} {v:Value} (h:RdA E v .nils):∃ a c,v=.slice a 0 c:=by cases h;exact ⟨_,_,rfl⟩
theorem RdA.when_inv {E:Env} {v:Value} {c:Prop} {s:Nat} {w:Bool} {x:AV} (h:RdA E v (.when c s w x)):(c→RdA E v x)∧(¬ c→v=undef) :=
 match h with | .when _ _ _ _ _ h1 h2=>⟨h1,h2⟩
theorem RdA.agg_inv {E:Env} {v:Value} {xs:List AV} (h:RdA E v (.agg xs)):∃ vs:Array Value,v=.agg vs∧vs.size=xs.length∧(∀ (i:Nat) u,vs[i]?=some u→u.oneCell'=true)∧∀ (i:Nat) u x,vs[i]?=some u→xs[i]?=some x→RdA E u x :=
 match h with | .agg vs _ h1 h2 h3=>⟨vs,rfl,h1,h2,h3⟩
theorem RdP.sl_inv {w:World} {F:Nat→Nat→Prop} {v:Value} {t:Ty} {xs:List t.den} (h:RdP w F v (.sl t xs)):(xs=[]∧∃ a c,v=.slice a 0 c) ∨
 ∃ (b o c:Nat) (g:Nat→Value),v=.slice (some ⟨b,o,none⟩) xs.length c∧xs.length≤c∧xs.length≤big∧(∀ j,j < (flat t xs).length→F b (o+j)∧w.cell? ⟨b,o+j,none⟩=some (g j)) ∧
  ∀ j p,(flat t xs)[j]?=some p→RdP w F (g j) p:=by
 cases h with
 | sl0 a c=>exact .inl ⟨rfl,a,c,rfl⟩
 | sl b o n c _ _ g hn hc hl hcell hrd=>subst hn;exact .inr ⟨b,o,c,g,rfl,hc,hl,hcell,hrd⟩
theorem RdP.one {w:World} {F:Nat→Nat→Prop} {v:Value} {p:PV} (h:RdP w F v p):v.oneCell'=true:=by
 cases h <;> first | rfl | assumption
def RowsAt (E:Env) (t:Ty) (xs:List t.den):Option Hdr→Prop
 | none=>xs=[]
 | some h=>h.len=xs.length∧h.len≤h.cap∧h.len≤lim∧h.cap≤maxLen ∧
  ∃ arr el,E.w.heap[h.blk]?=some (.cells arr el (0,0))∧h.off+h.cap * t.size≤arr.size ∧
   ∀ j p,(flat t xs)[j]?=some p→∃ v,arr[h.off+j]?=some v∧RdP E.w E.Fz v p
structure GridAt (E:Env) (t:Ty) (more:Nat) (xss:List (List t.den)) (h:Hdr) (k:Nat→Option (Option Hdr)):Prop where
 len:h.len=xss.length+more
 cap:h.len≤h.cap
 lim:h.len≤lim
 max:h.cap≤maxLen
 head:∃ arr el,E.w.heap[h.blk]?=some (.cells arr el (0,0))∧h.off+h.cap≤arr.size ∧
  (∀ i,i < xss.length→∃ o v,k i=some o∧arr[h.off+i]?=some v∧ownV o v) ∧
  (∀ i,xss.length≤i→i < xss.length+more→∃ a,arr[h.off+i]?=some (.slice a 0 0))
 rows:∀ (i:Nat) xs,xss[i]?=some xs→∃ o,k i=some o∧RowsAt E t xs o
 past:∀ i,xss.length≤i→k i=none
 apart:∀ i h',k i=some (some h')→h'.blk≠h.blk
 two:∀ i j h1 h2,k i=some (some h1)→k j=some (some h2)→i≠j→h1.blk≠h2.blk
def jumpCode:Jump→Option Code
 | .no=>none
 | .ret=>some .ret
 | .exit m=>some (.exit m)
def OkOb (E:Env) (id:Nat):Ob→Prop
 | .dead=>False
 | .cells cs=>∃ h,E.ρ id=some h∧∃ arr el,E.w.heap[h.blk]?=some (.cells arr el (0,0))∧arr.size=cs.length ∧
  ∀ (i:Nat) v x,arr[i]?=some v→cs[i]?=some x→v.oneCell'=true∧RdA E v x
 | .rows t xs=>RowsAt E t xs (E.ρ id)
 | .froz t xs=>RowsAt E t xs (E.ρ id)
 | .fmap es=>∃ h,E.ρ id=some h∧∃ (ms:Array MapEntry) (clock:Nat),E.w.heap[h.blk]?=some (.map ms clock)∧ms.size=es.length ∧
  ∀ (i:Nat) m p,ms[i]?=some m→es[i]?=some p→m.key=.int .i64 p.1∧RdA E m.val p.2
 | .grid t more xss=>∃ h,E.ρ id=some h∧GridAt E t more xss h (E.K id)
 | .loop st pend ps x y sl=>∃ h,E.ρ id=some h∧∃ r:Loop,E.w.heap[h.blk]?=some (.loop r)∧r.state=st∧r.pending=jumpCode pend∧r.params.toList=ps∧r.assign=x∧r.body=y∧r.tmps.size=sl.length ∧
  ∀ (i:Nat) v s,r.tmps[i]?=some v→sl[i]?=some s→RdA E v s
theorem RowsAt.mono {E E':Env} {t:Ty} {xs:List t.den} {o:Option Hdr} (hF:∀ b o,E.Fz b o→E'.Fz b o∧E'.w.cell? ⟨b,o,none⟩=E.w.cell? ⟨b,o,none⟩)
 (hb:∀ h,o=some h→E'.w.heap[h.blk]?=E.w.heap[h.blk]?) (h:RowsAt E t xs o):RowsAt E' t xs o:=by
 cases o with
 | none=>exact h
 | some hd =>
  obtain ⟨h1,h2,h3,h3',arr,el,h4,h5,h6⟩:=h
  refine ⟨h1,h2,h3,h3',arr,el,(hb hd rfl).trans h4,h5,fun j p hp=>?_⟩
  obtain ⟨v,hv,hr⟩:=h6 j p hp
  exact ⟨v,hv,hr.mono hF⟩
theorem GridAt.mono {E E':Env} {t:Ty} {more:Nat} {xss:List (List t.den)} {h:Hdr} {k:Nat→Option (Option Hdr)} (hF:∀ b o,E.Fz b o→E'.Fz b o∧E'.w.cell? ⟨b,o,none⟩=E.w.cell? ⟨b,o,none⟩)
 (hb:E'.w.heap[h.blk]?=E.w.heap[h.blk]?) (hk:∀ i h',k i=some (some h')→E'.w.heap[h'.blk]?=E.w.heap[h'.blk]?) (g:GridAt E t more xss h k):GridAt E' t more xss h k:=by
 obtain ⟨arr,el,h1,h2,h3,h4⟩:=g.head
 refine ⟨g.len,g.cap,g.lim,g.max,⟨arr,el,hb.trans h1,h2,h3,h4⟩,fun i xs hi=>?_,g.past,g.apart,g.two⟩
 obtain ⟨o,h5,h6⟩:=g.rows i xs hi
 exact ⟨o,h5,h6.mono hF fun h' ho=>hk i h' (by rw [h5,ho])⟩
theorem OkOb.monoq {n0:Nat} {E E':Env} {id:Nat} {ob:Ob} (hE:Evq n0 E E') (hA:∀ id,E.A id→id < n0) (hid:E.A id) (hl:E'.L id)
 (hK:E'.K id=E.K id) (hb:∀ b,E.Own id b→E'.w.heap[b]?=E.w.heap[b]?) (h:OkOb E id ob):OkOb E' id ob:=by
 have hb0:=hb
 replace hb:∀ h,E.ρ id=some h→E'.w.heap[h.blk]?=E.w.heap[h.blk]?:=fun h hρ=>hb0 h.blk (.inl ⟨h,hρ,rfl⟩)
 have hρ:E'.ρ id=E.ρ id:=(hE.ids id (hA id hid) hid hl).2
 cases ob with
 | dead=>exact h
 | cells cs =>
  obtain ⟨hd,h1,arr,el,h2,h3,h4⟩:=h
  refine ⟨hd,hρ.trans h1,arr,el,(hb hd h1).trans h2,h3,fun i v x hv hx=>?_⟩
  obtain ⟨h5,h6⟩:=h4 i v x hv hx
  exact ⟨h5,h6.monoq hE hA⟩
 | rows t xs =>
  show RowsAt E' t xs (E'.ρ id)
  rw [hρ]
  exact RowsAt.mono hE.fz hb h
 | froz t xs =>
  show RowsAt E' t xs (E'.ρ id)
  rw [hρ]
  exact RowsAt.mono hE.fz hb h
 | fmap es =>
  obtain ⟨hd,h1,ms,clock,h2,h3,h4⟩:=h
  refine ⟨hd,hρ.trans h1,ms,clock,(hb hd h1).trans h2,h3,fun i m p hm hp=>?_⟩
  obtain ⟨h5,h6⟩:=h4 i m p hm hp
  exact ⟨h5,h6.monoq hE hA⟩
 | grid t more xss =>
  obtain ⟨hd,h1,h2⟩:=h
  refine ⟨hd,hρ.trans h1, ?_⟩
  rw [hK]
  exact h2.mono hE.fz (hb hd h1) fun i h' hi=>hb0 _ (.inr ⟨i,h',hi,rfl⟩)
 | loop st pe ps x y sl =>
  obtain ⟨hd,h1,r,h2,h3,h4,h5,h6,h7,h8,h9⟩:=h
  exact ⟨hd,hρ.trans h1,r,(hb hd h1).trans h2,h3,h4,h5,h6,h7,h8,fun i v s hv hs=>(h9 i v s hv hs).monoq hE hA⟩
theorem OkOb.mono {n0:Nat} {E E':Env} {id:Nat} {ob:Ob} (hE:Evo n0 E E') (hA:∀ id,E.A id→id < n0) (hid:E.A id) (hl:E'.L id)
 (hK:E'.K id=E.K id) (hb:∀ b,E.Own id b→E'.w.heap[b]?=E.w.heap[b]?) (h:OkOb E id ob):OkOb E' id ob:=OkOb.monoq hE.q hA hid hl hK hb h
end Go.Sx
