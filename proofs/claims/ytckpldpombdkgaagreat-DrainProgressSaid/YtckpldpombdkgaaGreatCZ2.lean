/- Pipelines. -/
import Derived.Test.YtckpldpombdkgaaGreatCZ1
import Derived.Test.YtckpldpombdkgaaGreatCB6
import Derived.Shelf.SlGeneric
import Derived.Shelf.SortM.Plain
import Derived.Shelf.SortM.SortNone
import Derived.Ground.SlgmProg
set_option linter.unusedSimpArgs false
set_option linter.unusedVariables false
set_option maxRecDepth 100000
namespace Go.Proofs.YtckpldpombdkgaaGreat
open Go.Sx
mutual
def msF:ExprT→Int→Int→Int × Int
 | .mk _ _ _ _ args,d,n=>if (bif decide (100 < n+1) then true else decide (100 < d))=true then (d,n+1) else msL args d d (n+1)
def msL:List ExprT→Int→Int→Int→Int × Int
 | [],_,dp,n=>(dp,n)
 | e :: l,d,dp,n=>if 100 < n then (dp,n) else msL l d (if (msF e (d+1) n).1 > dp then (msF e (d+1) n).1 else dp) (msF e (d+1) n).2
end
theorem Afs (e:ExprT) (d n:Int):msF e d n=if (bif decide (100 < n+1) then true else decide (100 < d))=true then (d,n+1) else msL e.args d d (n+1):=by
 obtain ⟨k,o,nm,v,args⟩:=e
 rfl
mutual
theorem Ts:∀ (e:ExprT) (d n:Int),0≤n→n≤100→1≤d→d≤101→(n < (msF e d n).2∧(msF e d n).2≤101)∧d≤(msF e d n).1∧(msF e d n).1≤101
 | .mk _ _ _ _ args,d,n,h0,h1,h2,h3=>by
  simp only [msF]
  split
  ·exact ⟨⟨by show n < n+1;omega,by show n+1≤101;omega⟩,Int.le_refl _,h3⟩
  ·rename_i hc
   have hd:¬ 100 < d:=fun h=>hc (by rw [decide_eq_true h];cases decide (100 < n+1) <;> rfl)
   have:=Tt args d d (n+1) (by omega) (by omega) h2 (by omega) (Int.le_refl _) h3
   omega
theorem Tt:∀ (l:List ExprT) (d dp n:Int),0≤n→n≤101→1≤d→d≤100→d≤dp→dp≤101→(n≤(msL l d dp n).2∧(msL l d dp n).2≤101)∧d≤(msL l d dp n).1∧(msL l d dp n).1≤101
 | [],d,dp,n,h0,h1,h2,h3,h4,h5=>⟨⟨Int.le_refl _,h1⟩,h4,h5⟩
 | e :: l,d,dp,n,h0,h1,h2,h3,h4,h5=>by
  simp only [msL]
  split
  ·exact ⟨⟨Int.le_refl _,h1⟩,h4,h5⟩
  ·have hr:=Ts e (d+1) n h0 (by omega) (by omega) (by omega)
   have:=Tt l d (if (msF e (d+1) n).1 > dp then (msF e (d+1) n).1 else dp) (msF e (d+1) n).2 (by omega) (by omega) h2 h3 (by split <;> omega) (by split <;> omega)
   omega
end
theorem Xk {args:List ExprT} {i:Nat} {d dp n:Int} {e0:ExprT} (h:i < args.length):msL (args.drop i) d dp n=if 100 < n then (dp,n) else
 msL (args.drop (i+1)) d (if (msF (args.getD i e0) (d+1) n).1 > dp then (msF (args.getD i e0) (d+1) n).1 else dp) (msF (args.getD i e0) (d+1) n).2:=by
 rw [List.drop_eq_getElem_cons h]
 simp [msL,List.getD,h]
def exA (e:ExprT):AV:=.agg [.int .i64 e.kind,.int .i64 e.op,.str e.name,.int .i64 e.value,.sl .expr e.args]
def Ai4 (N:Nat):FuncId→List AV→List Ob→AV→List Ob→Prop:=fun g args T x1 T1 =>
 ∃ (e:ExprT) (d n:Int),exW e < N∧(0≤n∧n≤100)∧(1≤d∧d≤101)∧g=218∧args=[exA e,.int .i64 d,.ptr 0 0]∧T=[.cells [.int .i64 n]] ∧
  x1=.int .i64 (msF e d n).1∧T1=[.cells [.int .i64 (msF e d n).2]]
theorem Ai5 (base:CallSem) (N:Nat) (e:ExprT) (d n:Int) (he:exW e < N) (hn:0≤n∧n≤100) (hd:1≤d∧d≤101)
 (hbase:∀ k args H m K,k+1=N→Fy (Ai4 k) 218 args H m K→base 218 args H m K) :
 A6 cx0 Tryz.prog base 218 [exA e,.int .i64 d,.ptr 0 0] [.cells [.int .i64 n]] 1
  (fun x T' n'=>∃ σ,Iy 1 σ [noW x] T' n' ⟨[.int .i64 (msF e d n).1],[.cells [.int .i64 (msF e d n).2]],1⟩):=by
 have hc:∀ c:Int,(bif decide (100 < c) then true else decide (100 < d))=false→c≤100∧d≤100:=fun c h=>by
  by_cases h1:100 < c
  ·rw [decide_eq_true h1] at h;cases h
  ·by_cases h2:100 < d
   ·rw [decide_eq_true h2] at h;cases hh:decide (100 < c) <;> rw [hh] at h <;> cases h
   ·omega
 refine (aF (aO (aI (fun h0=>?_) (fun h0=>(fun h1=>?_)))))
 ·rw [Afs,if_pos h0]
  exact ⟨[some 0],by rfl,by rfl,⟨⟨by rfl,by rfl⟩,trivial⟩,by rfl⟩
 obtain ⟨hc1,hc2⟩:=hc _ h0
 have h0':¬ (bif decide (100 < n+1) then true else decide (100 < d))=true:=by rw [show (bif decide (100 < n+1) then true else decide (100 < d))=false from h0];simp
 refine ex4 _ (fun p:Nat × Int × Int=>⟨[.any,.int .i64 d,.ptr 0 0,.ptr 1 0,.any,.any,.any,.int .i64 p.2.1,.any,.any,.any,.any,.any,.any,.any,.any,.any,.any,.any,.any,.any,.any,.any,.any,.any,.ptr 1 4,.sl .expr e.args,.int .i64 (↑e.args.length:Int),.int .i64 (p.1:Int)]++nA 16,[.cells [.int .i64 p.2.2],.cells   [.int .i64 e.kind,.int .i64 e.op,.str e.name,.int .i64 e.value,.sl .expr e.args]],2⟩) (fun p=>p.1≤e.args.length∧(0≤p.2.2∧p.2.2≤101)∧(d≤p.2.1∧p.2.1≤101)∧msF e d n=msL (e.args.drop p.1) d p.2.1 p.2.2) (fun p=>e.args.length - p.1) (aI (eI ((0,d,n+1)) (eI ([some 0,some 1]) (aI ?_ (aB (aI (aI (aA (by rfl)) (aI (aA (by rfl)) tT)) (by rfl)))))) ?_)
 ·refine ⟨Nat.zero_le _,⟨by show 0≤n+1;omega,by show n+1≤101;omega⟩,⟨Int.le_refl _,hd.2⟩, ?_⟩
  rw [Afs,if_neg h0'];rfl
 rintro ⟨i,dp,m⟩ ⟨hi,hm,hp,ht⟩
 replace hm:0≤m∧m≤101:=hm
 replace hp:d≤dp∧dp≤101:=hp
 refine (aI (fun k0=>(aO (aI (fun k1=>?_) (fun k1=>(aO ?_))))) (fun k0=>?_))
 ·have hi':i < e.args.length:=by simpa using k0
  have hk:100 < m:=by simpa using k1
  rw [ht,Xk (e0:=Ab .expr) hi',if_pos hk]
  exact ⟨[some 0],by rfl,by rfl,⟨⟨by rfl,by rfl⟩,trivial⟩,by rfl⟩
 ·have hi':i < e.args.length:=by simpa using k0
  have hk:¬ 100 < m:=by simpa using k1
  have hlt:exW (e.args.getD i (Ab .expr)) < exW e:=Jw hi'
  obtain ⟨hr1,hr2⟩:=Ts (e.args.getD i (Ab .expr)) (d+1) m hm.1 (by omega) (by omega) (by omega)
  have hq:=Xk (d:=d) (dp:=dp) (n:=m) (e0:=Ab .expr) hi'
  rw [if_neg hk] at hq
  obtain ⟨x,hx⟩ : ∃ x,e.args.getD i (Ab .expr)=x:=⟨_,rfl⟩
  obtain ⟨r,hr⟩ : ∃ r,msF x (d+1) m=r:=⟨_,rfl⟩
  rw [hx] at hlt hr1 hr2 hq
  rw [hr] at hr1 hr2 hq
  refine hbase (N - 1) _ _ _ _ (by omega) ⟨tT,[exA x,.int .i64 (d+1),.ptr 0 0],[.cells [.int .i64 m]],.int .i64 (msF x (d+1) m).1,[.cells [.int .i64 (msF x (d+1) m).2]],[some 0],
   ⟨x,d+1,m,by omega,⟨hm.1,by omega⟩,⟨by omega,by omega⟩,rfl,rfl,rfl,rfl,rfl⟩,⟨by rw [← hx];rfl,by rfl,⟨⟨by rfl,by rfl⟩,trivial⟩,by rfl⟩,by rfl, ?_⟩
  rw [hr]
  obtain ⟨dp1,m1⟩:=r
  dsimp only [Ep,Ce,D5,Cx,Ev,Bo,Am,G8,List.length_cons,List.length_nil,List.cons_append,List.nil_append,Nat.reduceAdd,Nat.reduceSub]
  refine (aO ?_)
  refine eI ((i+1,if dp1 > dp then dp1 else dp,m1)) (eI ([some 0,some 1]) (aI ?_ (aI ?_ (aB (aI (aI (aA (by rfl)) (aI (aA (by rfl)) tT)) (by rfl))))))
  ·refine ⟨hi',⟨?_,hr1.2⟩,⟨?_, ?_⟩, ?_⟩
   ·show 0≤m1
    have:m < m1:=hr1.1
    omega
   ·show d≤if dp1 > dp then dp1 else dp
    split <;> omega
   ·show (if dp1 > dp then dp1 else dp)≤101
    have:dp1≤101:=hr2.2
    split <;> omega
   ·rw [ht];exact hq
  ·show e.args.length - (i+1) < e.args.length - i
   omega
 ·have hi':¬ i < e.args.length:=by simpa using k0
  rw [ht,List.drop_of_length_le (by omega)]
  exact ⟨[some 0],by rfl,by rfl,⟨⟨by rfl,by rfl⟩,trivial⟩,by rfl⟩
def Alt:Nat→CallSem
 | 0=>A6 cx0 Tryz.prog fun _ _ _ _ _=>False
 | N+1=>A6 cx0 Tryz.prog (Fy (Ai4 N))
theorem Xl (N:Nat):∀ g args T x1 T1,Ai4 N g args T x1 T1→Alt N g args T T.length (fun x T' n'=>∃ σ,Iy T.length σ [noW x] T' n' ⟨[x1],T1,T1.length⟩):=by
 rintro g args T x1 T1 ⟨e,d,n,he,hn,hd,rfl,rfl,rfl,rfl,rfl⟩
 cases N with
 | zero=>omega
 | succ N=>exact Ai5 _ (N+1) e d n he hn hd (fun k args H m K h h'=>by
  have:k=N:=by omega
  exact this ▸ h')
theorem Vg:∀ N,A7 Tryz.prog (Alt N)
 | 0=>Af Ag Bf
 | N+1=>Af Ag (F1 (Vg N) (Xl N))
def Anh:FuncId→List AV→List Ob→AV→List Ob→Prop:=fun g a T x T1=>∃ k,Ai4 k g a T x T1
theorem Ac2:A7 Tryz.prog (Fy Anh) :=
 F1 (sem:=fun g a H n K=>∃ d,Alt d g a H n K) ⟨fun g a H n K ⟨d,h⟩=>(Vg d).1 g a H n K h,fun id a H n K ⟨d,h⟩=>(Vg d).2 id a H n K h⟩ fun g a T x T1 ⟨k,h⟩=>⟨k,Xl k g a T x T1 h⟩
def Mq:Code→Option (Code × Code)
 | .rangeFunc _ _ x y=>some (x,y)
 | .seq a b=>(match Mq a with | some r=>some r | none=>Mq b)
 | .cond _ a b=>(match Mq a with | some r=>some r | none=>Mq b)
 | .block _ a=>Mq a
 | .loop a=>Mq a
 | _=>none
noncomputable def Xm (g:Nat):Code × Code:=match Tryz.prog.funcs[g]? with
 | some fn=>(match fn.body with
  | some c=>(Mq c).getD (.skip,.skip)
  | none=>(.skip,.skip))
 | none=>(.skip,.skip)
mutual
def Ed:ExprT→Int
 | .mk k o nm v args=>if Ec (.mk k o nm v args)=0 then P5 args else Ec (.mk k o nm v args)
def P5:List ExprT→Int
 | []=>0
 | e :: l=>if Ed e=0 then P5 l else Ed e
end
theorem Vh (e:ExprT):Ed e=if Ec e=0 then P5 e.args else Ec e:=by
 obtain ⟨k,o,nm,v,args⟩:=e
 rfl
theorem Ac3 {args:List ExprT} {i:Nat} {e0:ExprT} (h:i < args.length):P5 (args.drop i)=if Ed (args.getD i e0)=0 then P5 (args.drop (i+1)) else Ed (args.getD i e0):=by
 rw [List.drop_eq_getElem_cons h]
 simp [P5,List.getD,h]
def slC:List AV:=[.any,.any,.ptr 0 0,.any,.any,.any,.any,.any,.any,.any,.any,.any,.any,.any,.any,.any,.any,.any,.any,.any,.any]
noncomputable def vcT:List Ob:=[.cells [.int .i64 0],.loop .ready .no [15] (Xm 173).1 (Xm 173).2 slC]
noncomputable def Zb (r:Int):List Ob:=[.cells [.int .i64 r],.loop .done .ret [15] (Xm 173).1 (Xm 173).2 slC]
def Ai6 (N:Nat):FuncId→List AV→List Ob→AV→List Ob→Prop:=fun g args T x1 T1 =>
 ∃ e:ExprT,exW e < N∧g=247∧args=[exA e,.yld 1]∧T=vcT ∧
  ((Ed e=0∧x1=.bool true∧T1=vcT)∨(Ed e≠0∧x1=.bool false∧T1=Zb (Ed e)))
def cxV:Ctx:=⟨C5,[(220,([],c112))]⟩
theorem Ns:Ah Tryz.prog cxV:=Ae Aiz Ag
def noS:CallSem:=fun _ _ _ _ _=>False
theorem Ai7 (base:CallSem) (N:Nat) (e:ExprT) (he:exW e < N)
 (hbase:∀ k args H m K,k+1=N→Fy (Ai6 k) 247 args H m K→base 247 args H m K) (x1:AV) (T1:List Ob)
 (hx:(Ed e=0∧x1=.bool true∧T1=vcT)∨(Ed e≠0∧x1=.bool false∧T1=Zb (Ed e))) :
 A6 cxV Tryz.prog (Ja 247 base (A6 cxV Tryz.prog noS)) 247 [exA e,.yld 1] vcT 2
  (fun x T' n'=>∃ σ,Iy 2 σ [noW x] T' n' ⟨[x1],T1,T1.length⟩):=by
 refine (aF (aI tT (aI (fun h0=>(aI (fun h1=>?_) (fun h1=>False.elim (Bool.false_ne_true (Eq.symm (Eq.trans (by kernel_rfl) h1)))))) (fun h0=>(aI (fun h2=>nG h2) (fun h2=>(fun h3=>?_)))))))
 ·have hk:Ec e≠0:=by have h:=h0;simp only [eta] at h;simpa using h
  have ht:Ed e=Ec e:=by rw [Vh,if_neg hk]
  rcases hx with ⟨h,-⟩ | ⟨-,rfl,rfl⟩
  ·rw [ht] at h;exact absurd h hk
  ·rw [ht]
   exact ⟨[some 0,some 1],by rfl,by rfl,⟨⟨by simp only [eta];rfl,by rfl⟩,⟨⟨rfl,rfl,rfl,rfl,rfl⟩,by rfl,by rfl⟩,trivial⟩,by rfl⟩
 have hk:Ec e=0:=by have h:=h0;simp only [eta] at h;simpa using h
 have ht:Ed e=P5 e.args:=by rw [Vh,if_pos hk]
 refine ex4 _ (fun i:Nat=>⟨[.any,.yld 1,.ptr 2 0,.any,.any,.any,.any,.any,.any,.any,.any,.ptr 2 4,.sl .expr e.args,.int .i64 (↑e.args.length:Int),.int .i64 (i:Int),.any,.any,.any,.any,.any,.any,.any,.any],[.cells [.int .i64 0],.loop .ready .no ([15]) _ _ [.any,.any,.ptr 0 0,.any,.any,.any,.any,.any,.any,.any,.any,.any,.any,.any,.any,.any,.any,.any,.any,.any,.any],.cells   [.int .i64 e.kind,.int .i64 e.op,.str e.name,.int .i64 e.value,.sl .expr e.args],.cells   [.int .i64 e.kind,.int .i64 e.op,.str e.name,.int .i64 e.value,.sl .expr e.args]],4⟩) (fun i=>i≤e.args.length∧Ed e=P5 (e.args.drop i)) (fun i=>e.args.length - i) (aI (eI (0) (eI ([some 0,some 1,some 2,some 3]) (aI ?_ (aB (aI (aI (aA (by rfl)) (aI (aI (aI rfl (aI rfl (aI rfl (aI rfl rfl)))) (aA (by rfl))) (aI (aA (by rfl)) (aI (aA (by rfl)) tT)))) (by rfl)))))) ?_)
 ·exact ⟨Nat.zero_le _,ht⟩
 clear ht
 rintro i ⟨hi,ht⟩
 refine (aI (fun k0=>(aO ?_)) (fun k0=>?_))
 ·have hi':i < e.args.length:=by simpa using k0
  have hlt:exW (e.args.getD i (Ab .expr)) < exW e:=Jw hi'
  have hq:=Ac3 (e0:=Ab .expr) hi'
  obtain ⟨x,hxx⟩ : ∃ x,e.args.getD i (Ab .expr)=x:=⟨_,rfl⟩
  rw [hxx] at hlt hq
  by_cases hz:Ed x=0
  ·rw [if_pos hz] at hq
   refine hbase (N - 1) _ _ _ _ (by omega) ⟨tT,[exA x,.yld 1],vcT,.bool true,vcT,[some 0,some 1],
    ⟨x,by omega,rfl,rfl,rfl,.inl ⟨hz,rfl,rfl⟩⟩,⟨by rw [← hxx];rfl,by rfl,⟨⟨by rfl,by rfl⟩,⟨⟨rfl,rfl,rfl,rfl,rfl⟩,by rfl,by rfl⟩,trivial⟩,by rfl⟩,by rfl, ?_⟩
   dsimp only [vcT,Ep,Ce,D5,Cx,Ev,Bo,Am,G8,List.length_cons,List.length_nil,List.cons_append,List.nil_append,Nat.reduceAdd,Nat.reduceSub]
   refine (aI (fun w0=>nG w0) (fun w0=>(aO ?_)))
   refine eI (i+1) (eI ([some 0,some 1,some 2,some 3]) (aI ?_ (aI ?_ (aB (aI (aI (aA (by rfl)) (aI (aI (aI rfl (aI rfl (aI rfl (aI rfl rfl)))) (aA (by rfl))) (aI (aA (by rfl)) (aI (aA (by rfl)) tT)))) (by rfl))))))
   ·exact ⟨hi',ht.trans hq⟩
   ·show e.args.length - (i+1) < e.args.length - i
    omega
  ·rw [if_neg hz] at hq
   have ht':Ed e=Ed x:=ht.trans hq
   refine hbase (N - 1) _ _ _ _ (by omega) ⟨tT,[exA x,.yld 1],vcT,.bool false,Zb (Ed x),[some 0,some 1],
    ⟨x,by omega,rfl,rfl,rfl,.inr ⟨hz,rfl,rfl⟩⟩,⟨by rw [← hxx];rfl,by rfl,⟨⟨by rfl,by rfl⟩,⟨⟨rfl,rfl,rfl,rfl,rfl⟩,by rfl,by rfl⟩,trivial⟩,by rfl⟩,by rfl, ?_⟩
   dsimp only [vcT,Zb,slC,Ep,Ce,D5,Cx,Ev,Bo,Am,G8,List.length_cons,List.length_nil,List.cons_append,List.nil_append,Nat.reduceAdd,Nat.reduceSub]
   refine (aI (fun w0=>?_) (fun w0=>False.elim (Bool.false_ne_true (Eq.symm (Eq.trans (by kernel_rfl) w0)))))
   rcases hx with ⟨h,-⟩ | ⟨-,rfl,rfl⟩
   ·rw [ht'] at h;exact absurd h hz
   ·rw [ht']
    exact ⟨[some 0,some 1],by rfl,by rfl,⟨⟨by rfl,by rfl⟩,⟨⟨rfl,rfl,rfl,rfl,rfl⟩,by rfl,by rfl⟩,trivial⟩,by rfl⟩
 ·have hi':¬ i < e.args.length:=by simpa using k0
  have ht':Ed e=0:=by rw [ht,List.drop_of_length_le (by omega)];rfl
  rcases hx with ⟨-,rfl,rfl⟩ | ⟨h,-⟩
  ·exact ⟨[some 0,some 1],by rfl,by rfl,⟨⟨by rfl,by rfl⟩,⟨⟨rfl,rfl,rfl,rfl,rfl⟩,by rfl,by rfl⟩,trivial⟩,by rfl⟩
  ·exact absurd ht' h
def Alu:Nat→CallSem
 | 0=>A6 cxV Tryz.prog (Ja 247 noS (A6 cxV Tryz.prog noS))
 | N+1=>A6 cxV Tryz.prog (Ja 247 (Fy (Ai6 N)) (A6 cxV Tryz.prog noS))
theorem Xn (N:Nat):∀ g args T x1 T1,Ai6 N g args T x1 T1→Alu N g args T T.length (fun x T' n'=>∃ σ,Iy T.length σ [noW x] T' n' ⟨[x1],T1,T1.length⟩):=by
 rintro g args T x1 T1 ⟨e,he,rfl,rfl,rfl,hx⟩
 cases N with
 | zero=>omega
 | succ N=>exact Ai7 _ (N+1) e he (fun k args H m K h h'=>by
  have:k=N:=by omega
  exact this ▸ h') x1 T1 hx
theorem Vi:∀ N,A7 Tryz.prog (Alu N)
 | 0=>Af Ns (Cs Bf (Af Ns Bf))
 | N+1=>Af Ns (Cs (F1 (Vi N) (Xn N)) (Af Ns Bf))
def Ani:FuncId→List AV→List Ob→AV→List Ob→Prop:=fun g a T x T1=>∃ k,Ai6 k g a T x T1
theorem Ac4:A7 Tryz.prog (Fy Ani) :=
 F1 (sem:=fun g a H n K=>∃ d,Alu d g a H n K) ⟨fun g a H n K ⟨d,h⟩=>(Vi d).1 g a H n K h,fun id a H n K ⟨d,h⟩=>(Vi d).2 id a H n K h⟩ fun g a T x T1 ⟨k,h⟩=>⟨k,Xn k g a T x T1 h⟩
def Bl (e:ExprT):Int:=if decide (100 < (msF e 1 0).2)=true then 4 else if decide (12 < (msF e 1 0).1)=true then 22 else Ed e
theorem Ai8 {e:ExprT} (h:decide (100 < (msF e 1 0).2)=true):Bl e=4:=by rw [Bl,if_pos h]
theorem Aft {e:ExprT} (h:decide (100 < (msF e 1 0).2)=false) (h':decide (12 < (msF e 1 0).1)=true):Bl e=22:=by rw [Bl,if_neg (by rw [h];simp),if_pos h']
theorem Ai9 {e:ExprT} (h:decide (100 < (msF e 1 0).2)=false) (h':decide (12 < (msF e 1 0).1)=false):Bl e=Ed e:=by rw [Bl,if_neg (by rw [h];simp),if_neg (by rw [h'];simp)]
def c79:Ctr:=fnC [dX] rI (fun _=>True) (fun y=>(Bl y.1,()))
theorem Zc:GoodC Tryz.prog 173 c79:=by
 refine Vb (Af Ag (Cs (g0:=218) Ac2 (Af Ag (Cs (g0:=247) Ac4 (Af Ag Bf))))) _ _ _ _ ⟨_,Tryz.func173,rfl,rfl⟩ fun (⟨e,_⟩ : ExprT × Unit) _=>?_
 refine (aF (aI tT ?_))
 refine eI [exA e,.int .i64 1,.ptr 0 0] (eI [.cells [.int .i64 0]] (eI (.int .i64 (msF e 1 0).1) (eI [.cells [.int .i64 (msF e 1 0).2]] (eI [some 2]
  ⟨⟨_,e,1,0,Nat.lt_succ_self _,⟨by decide,by decide⟩,⟨by decide,by decide⟩,rfl,rfl,rfl,rfl,rfl⟩,⟨by rfl,by rfl,⟨⟨by rfl,by rfl⟩,trivial⟩,by rfl⟩,by rfl, ?_⟩))))
 dsimp only [Ep,Ce,D5,Cx,Ev,Bo,Am,G8,List.length_cons,List.length_nil,List.cons_append,List.nil_append,Nat.reduceAdd,Nat.reduceSub]
 refine (aI (fun w0=>(Aa rfl ?_)) (fun w0=>(aI (fun w1=>(Aa rfl ?_)) (fun w1=>(aF (aF (aF (aI tT ?_))))))))
 ·show (Bl e,())=_
  rw [Ai8 w0]
 ·show (Bl e,())=_
  rw [Aft w0 w1]
 have hck:=Ai9 w0 w1
 by_cases hz:Ed e=0
 ·refine eI [exA e,.yld 1] (eI vcT (eI (.bool true) (eI vcT (eI [some 1,some 4]
   ⟨⟨_,e,Nat.lt_succ_self _,rfl,rfl,rfl,.inl ⟨hz,rfl,rfl⟩⟩,⟨by rfl,by rfl,⟨⟨by rfl,by rfl⟩,⟨⟨rfl,rfl,rfl,by kernel_rfl,by kernel_rfl⟩,by rfl,by rfl⟩,trivial⟩,by rfl⟩,by rfl, ?_⟩))))
  dsimp only [vcT,Zb,slC,Ep,Ce,D5,Cx,Ev,Bo,Am,G8,List.length_cons,List.length_nil,List.cons_append,List.nil_append,Nat.reduceAdd,Nat.reduceSub]
  refine (Aa rfl ?_)
  show (Bl e,())=(0,())
  rw [hck,hz]
 ·refine eI [exA e,.yld 1] (eI vcT (eI (.bool false) (eI (Zb (Ed e)) (eI [some 1,some 4]
   ⟨⟨_,e,Nat.lt_succ_self _,rfl,rfl,rfl,.inr ⟨hz,rfl,rfl⟩⟩,⟨by rfl,by rfl,⟨⟨by rfl,by rfl⟩,⟨⟨rfl,rfl,rfl,by kernel_rfl,by kernel_rfl⟩,by rfl,by rfl⟩,trivial⟩,by rfl⟩,by rfl, ?_⟩))))
  dsimp only [vcT,Zb,slC,Ep,Ce,D5,Cx,Ev,Bo,Am,G8,List.length_cons,List.length_nil,List.cons_append,List.nil_append,Nat.reduceAdd,Nat.reduceSub]
  refine (Aa rfl ?_)
  show (Bl e,())=(Ed e,())
  rw [hck]
mutual
def Gi:ExprT→List ByteArray
 | .mk k _ nm _ args=>(if k=2 then [nm] else [])++Hx args
def Hx:List ExprT→List ByteArray
 | []=>[]
 | e :: l=>Gi e++Hx l
end
theorem Aa9 (e:ExprT):Gi e=(if e.kind=2 then [e.name] else [])++Hx e.args:=by
 obtain ⟨k,o,nm,v,args⟩:=e
 rfl
theorem Tu {args:List ExprT} {i:Nat} {e0:ExprT} (h:i < args.length):Hx (args.take (i+1))=Hx (args.take i)++Gi (args.getD i e0):=by
 induction args generalizing i with
 | nil=>exact absurd h (Nat.not_lt_zero _)
 | cons a l ih =>
  cases i with
  | zero=>simp [Hx]
  | succ i =>
   have:=ih (i:=i) (by simpa using h)
   simp only [List.take_succ_cons,Hx,List.append_assoc,this]
   rfl
theorem Xo {args:List ExprT} (i:Nat):(Hx (args.take i)).length≤(Hx args).length:=by
 induction args generalizing i with
 | nil=>simp
 | cons a l ih =>
  cases i with
  | zero=>simp [Hx]
  | succ i =>
   have:=ih i
   simp only [List.take_succ_cons,Hx,List.length_append]
   omega
mutual
def Ac5:ExprT→Nat
 | .mk _ _ _ _ args=>1+Zd args
def Zd:List ExprT→Nat
 | []=>0
 | e :: l=>Ac5 e+Zd l
end
mutual
theorem Aba:∀ e:ExprT,(Gi e).length≤Ac5 e
 | .mk k _ nm _ args=>by
  have:=Xp args
  simp only [Gi,Ac5,List.length_append]
  split <;> simp only [List.length_cons,List.length_nil] <;> omega
theorem Xp:∀ l:List ExprT,(Hx l).length≤Zd l
 | []=>Nat.le_refl _
 | e :: l=>by
  have h1:=Aba e
  have h2:=Xp l
  simp only [Hx,Zd,List.length_append]
  omega
end
mutual
theorem Afu:∀ (e:ExprT) (d n:Int),(msF e d n).2≤100→(msF e d n).1≤100→(msF e d n).2=n+Ac5 e∧d≤(msF e d n).1
 | .mk _ _ _ _ args,d,n,h1,h2=>by
  simp only [msF] at h1 h2 ⊢
  split at h1
  ·rename_i hc
   rw [if_pos hc] at h2
   exfalso
   by_cases h3:100 < n+1
   ·exact absurd h1 (by omega)
   ·rw [decide_eq_false h3] at hc
    exact absurd h2 (by have:=of_decide_eq_true hc;omega)
  ·rename_i hc
   rw [if_neg hc] at h2
   rw [if_neg hc]
   have:=Abb args d d (n+1) h1 h2
   rw [this.1]
   simp only [Ac5]
   omega
theorem Abb:∀ (l:List ExprT) (d dp n:Int),(msL l d dp n).2≤100→(msL l d dp n).1≤100→(msL l d dp n).2=n+Zd l∧dp≤(msL l d dp n).1
 | [],d,dp,n,h1,h2=>⟨by simp only [msL,Zd];omega,Int.le_refl _⟩
 | e :: l,d,dp,n,h1,h2=>by
  simp only [msL] at h1 h2 ⊢
  split at h1
  ·rename_i hc
   exact absurd h1 (by omega)
  ·rename_i hc
   rw [if_neg hc] at h2
   rw [if_neg hc]
   have hl:=Abb l d (if (msF e (d+1) n).1 > dp then (msF e (d+1) n).1 else dp) (msF e (d+1) n).2 h1 h2
   have hd:(msF e (d+1) n).1≤100:=by
    have:=hl.2
    split at this <;> omega
   have hn:(msF e (d+1) n).2≤100:=by rw [hl.1] at h1;omega
   have he:=Afu e (d+1) n hn hd
   have h3:=hl.2
   refine ⟨by rw [hl.1,he.1];simp only [Zd];omega, ?_⟩
   split at h3
   ·rename_i hg;rw [if_pos hg];omega
   ·rename_i hg;rw [if_neg hg];exact h3
end
theorem Aja {e:ExprT} (h:Bl e=0):Ac5 e≤100:=by
 unfold Bl at h
 split at h
 ·exact absurd h (by decide)
 ·rename_i h1
  split at h
  ·exact absurd h (by decide)
  ·rename_i h2
   simp only [decide_eq_true_eq] at h1 h2
   have:=(Afu e 1 0 (by omega) (by omega)).1
   omega
def slN:List AV:=[.any,.any,.any,.ptr 0 0,.any,.any,.any,.any,.any,.any,.any,.any,.any,.any,.any,.any,.any,.any,.any,.any,.any,.any,.any]
noncomputable def vnT (xs:List ByteArray):List Ob:=[.cells [.own 1],.rows .str xs,.loop .ready .no [10] (Xm 174).1 (Xm 174).2 slN]
noncomputable def Xq (xs:List ByteArray):List Ob:=[.cells [.own 3],.dead,.loop .ready .no [10] (Xm 174).1 (Xm 174).2 slN,.rows .str xs]
def Ajb (N:Nat):FuncId→List AV→List Ob→AV→List Ob→Prop:=fun g args T x1 T1 =>
 ∃ (e:ExprT) (xs:List ByteArray),exW e < N∧xs.length+(Gi e).length≤100∧g=247∧args=[exA e,.yld 2]∧T=vnT xs∧x1=.bool true∧T1=Xq (xs++Gi e)
theorem Afv (base:CallSem) (N:Nat) (e:ExprT) (xs:List ByteArray) (he:exW e < N) (hn:xs.length+(Gi e).length≤100)
 (hbase:∀ k args H m K,k+1=N→Fy (Ajb k) 247 args H m K→base 247 args H m K) :
 A6 cx0 Tryz.prog (Ja 247 base (A6 cx0 Tryz.prog noS)) 247 [exA e,.yld 2] (vnT xs) 3
  (fun x T' n'=>∃ σ,Iy 3 σ [noW x] T' n' ⟨[.bool true],Xq (xs++Gi e),4⟩):=by
 have room:∀ k:Nat,k≤101→(xs.length+k) * 16≤lim:=fun k hk=>by simp only [lim];omega
 refine (aF (aI (fun h0=>(aI (by first | exact room 1 (by omega) | (intros;(try subst_vars);(try simp only [nB] at *);(try simp only [inK,big,lim,nL] at *);omega)) (aI (fun h1=>nG h1) (fun h1=>(fun h2=>?_))))) (fun h0=>(aI (fun h3=>nG h3) (fun h3=>(fun h4=>?_))))))
 ·have e0:Gi e=[e.name]++Hx e.args:=by rw [Aa9];have h:=h0;simp at h;rw [if_pos h]
  have hl:=e0 ▸ hn
  rw [List.length_append] at hl
  refine ex4 _ (fun p:Nat × List ByteArray=>⟨[.any,.yld 2,.ptr 3 0,.any,.any,.any,.any,.any,.any,.any,.any,.ptr 3 4,.sl .expr e.args,.int .i64 (↑e.args.length:Int),.int .i64 (p.1:Int),.any,.any,.any,.any,.any,.any,.any,.any],[.cells [.own 6],.dead,.loop .ready .no ([10]) _ _ [.any,.any,.any,.ptr 0 0,.any,.any,.any,.any,.any,.any,.any,.any,.any,.any,.any,.any,.any,.any,.any,.any,.any,.any,.any],.cells   [.int .i64 e.kind,.int .i64 e.op,.str e.name,.int .i64 e.value,.sl .expr e.args],.cells   [.int .i64 e.kind,.int .i64 e.op,.str e.name,.int .i64 e.value,.sl .expr e.args],.dead,.rows .str p.2],7⟩) (fun p=>p.1≤e.args.length∧p.2=xs++([e.name]++Hx (e.args.take p.1))) (fun p=>e.args.length - p.1) (aI (eI ((0,xs++[e.name])) (eI ([some 0,some 1,some 2,some 3,some 4,some 5,some 6]) (aI ?_ (aB (aI (aI (aA (by rfl)) (aI (aI (aI rfl (aI rfl (aI rfl (aI rfl rfl)))) (aA (by rfl))) (aI (aA (by rfl)) (aI (aA (by rfl)) (aA tT))))) (by rfl)))))) ?_)
  ·exact ⟨Nat.zero_le _,by simp [Hx]⟩
  rintro ⟨i,ys⟩ ⟨hi,hy⟩
  replace hy:ys=xs++([e.name]++Hx (e.args.take i)):=hy
  refine (aI (fun k0=>(aO ?_)) (fun k0=>?_))
  ·have hi':i < e.args.length:=by simpa using k0
   have hlt:exW (e.args.getD i (Ab .expr)) < exW e:=Jw hi'
   have hq:=Tu (e0:=Ab .expr) hi'
   have hq2:=Xo (args:=e.args) (i+1)
   obtain ⟨x,hxx⟩ : ∃ x,e.args.getD i (Ab .expr)=x:=⟨_,rfl⟩
   rw [hxx] at hlt hq
   have hy2:ys++Gi x=xs++([e.name]++Hx (e.args.take (i+1))):=by rw [hy,hq];simp only [List.append_assoc]
   have hy3:ys.length+(Gi x).length≤100:=by
    have h4:=congrArg List.length hy2
    simp only [List.length_append,List.length_cons,List.length_nil] at h4 hl
    omega
   refine hbase (N - 1) _ _ _ _ (by omega) ⟨tT,[exA x,.yld 2],vnT ys,.bool true,Xq (ys++Gi x),[some 0,some 6,some 2],
    ⟨x,ys,by omega,hy3,rfl,rfl,rfl,rfl,rfl⟩,⟨by rw [← hxx];rfl,by rfl,⟨⟨by rfl,by rfl⟩,by rfl,⟨⟨rfl,rfl,rfl,rfl,rfl⟩,by rfl,by rfl⟩,trivial⟩,by rfl⟩,by rfl, ?_⟩
   obtain ⟨zs,hz⟩ : ∃ zs,ys++Gi x=zs:=⟨_,rfl⟩
   rw [hz] at hy2
   rw [hz]
   dsimp only [vnT,Xq,slN,Ep,Ce,D5,Cx,Ev,Bo,Am,G8,List.length_cons,List.length_nil,List.cons_append,List.nil_append,Nat.reduceAdd,Nat.reduceSub]
   refine (aI (fun w0=>nG w0) (fun w0=>(aO ?_)))
   refine eI ((i+1,zs)) (eI ([some 0,some 1,some 2,some 3,some 4,some 5,some 8]) (aI ?_ (aI ?_ (aB (aI (aI (aA (by rfl)) (aI (aI (aI rfl (aI rfl (aI rfl (aI rfl rfl)))) (aA (by rfl))) (aI (aA (by rfl)) (aI (aA (by rfl)) (aA tT))))) (by rfl))))))
   ·exact ⟨hi',hy2⟩
   ·show e.args.length - (i+1) < e.args.length - i
    omega
  ·have hi':¬ i < e.args.length:=by simpa using k0
   have hy2:ys=xs++Gi e:=by rw [hy,List.take_of_length_le (by omega),e0]
   rw [← hy2]
   exact ⟨[some 0,none,some 2,some 6],by rfl,by rfl,⟨⟨by rfl,by rfl⟩,⟨⟨rfl,rfl,rfl,rfl,rfl⟩,by rfl,by rfl⟩,by rfl,trivial⟩,by rfl⟩
 ·have e0:Gi e=[]++Hx e.args:=by rw [Aa9];have h:=h0;simp at h;rw [if_neg h]
  have hl:=e0 ▸ hn
  rw [List.length_append] at hl
  refine ex4 _ (fun p:Nat × List ByteArray=>⟨[.any,.yld 2,.ptr 3 0,.any,.any,.any,.any,.any,.any,.any,.any,.ptr 3 4,.sl .expr e.args,.int .i64 (↑e.args.length:Int),.int .i64 (p.1:Int),.any,.any,.any,.any,.any,.any,.any,.any],[.cells [.own 5],.dead,.loop .ready .no ([10]) _ _ [.any,.any,.any,.ptr 0 0,.any,.any,.any,.any,.any,.any,.any,.any,.any,.any,.any,.any,.any,.any,.any,.any,.any,.any,.any],.cells   [.int .i64 e.kind,.int .i64 e.op,.str e.name,.int .i64 e.value,.sl .expr e.args],.cells   [.int .i64 e.kind,.int .i64 e.op,.str e.name,.int .i64 e.value,.sl .expr e.args],.rows .str p.2],6⟩) (fun p=>p.1≤e.args.length∧p.2=xs++([]++Hx (e.args.take p.1))) (fun p=>e.args.length - p.1) (aI (eI ((0,xs)) (eI ([some 0,some 1,some 2,some 3,some 4,some 1]) (aI ?_ (aB (aI (aI (aA (by rfl)) (aI (aI (aI rfl (aI rfl (aI rfl (aI rfl rfl)))) (aA (by rfl))) (aI (aA (by rfl)) (aI (aA (by rfl)) (aA tT))))) (by rfl)))))) ?_)
  ·exact ⟨Nat.zero_le _,by simp [Hx]⟩
  rintro ⟨i,ys⟩ ⟨hi,hy⟩
  replace hy:ys=xs++([]++Hx (e.args.take i)):=hy
  refine (aI (fun k0=>(aO ?_)) (fun k0=>?_))
  ·have hi':i < e.args.length:=by simpa using k0
   have hlt:exW (e.args.getD i (Ab .expr)) < exW e:=Jw hi'
   have hq:=Tu (e0:=Ab .expr) hi'
   have hq2:=Xo (args:=e.args) (i+1)
   obtain ⟨x,hxx⟩ : ∃ x,e.args.getD i (Ab .expr)=x:=⟨_,rfl⟩
   rw [hxx] at hlt hq
   have hy2:ys++Gi x=xs++([]++Hx (e.args.take (i+1))):=by rw [hy,hq];simp only [List.append_assoc]
   have hy3:ys.length+(Gi x).length≤100:=by
    have h4:=congrArg List.length hy2
    simp only [List.length_append,List.length_cons,List.length_nil] at h4 hl
    omega
   refine hbase (N - 1) _ _ _ _ (by omega) ⟨tT,[exA x,.yld 2],vnT ys,.bool true,Xq (ys++Gi x),[some 0,some 5,some 2],
    ⟨x,ys,by omega,hy3,rfl,rfl,rfl,rfl,rfl⟩,⟨by rw [← hxx];rfl,by rfl,⟨⟨by rfl,by rfl⟩,by rfl,⟨⟨rfl,rfl,rfl,rfl,rfl⟩,by rfl,by rfl⟩,trivial⟩,by rfl⟩,by rfl, ?_⟩
   obtain ⟨zs,hz⟩ : ∃ zs,ys++Gi x=zs:=⟨_,rfl⟩
   rw [hz] at hy2
   rw [hz]
   dsimp only [vnT,Xq,slN,Ep,Ce,D5,Cx,Ev,Bo,Am,G8,List.length_cons,List.length_nil,List.cons_append,List.nil_append,Nat.reduceAdd,Nat.reduceSub]
   refine (aI (fun w0=>nG w0) (fun w0=>(aO ?_)))
   refine eI ((i+1,zs)) (eI ([some 0,some 1,some 2,some 3,some 4,some 7]) (aI ?_ (aI ?_ (aB (aI (aI (aA (by rfl)) (aI (aI (aI rfl (aI rfl (aI rfl (aI rfl rfl)))) (aA (by rfl))) (aI (aA (by rfl)) (aI (aA (by rfl)) (aA tT))))) (by rfl))))))
   ·exact ⟨hi',hy2⟩
   ·show e.args.length - (i+1) < e.args.length - i
    omega
  ·have hi':¬ i < e.args.length:=by simpa using k0
   have hy2:ys=xs++Gi e:=by rw [hy,List.take_of_length_le (by omega),e0]
   rw [← hy2]
   exact ⟨[some 0,none,some 2,some 5],by rfl,by rfl,⟨⟨by rfl,by rfl⟩,⟨⟨rfl,rfl,rfl,rfl,rfl⟩,by rfl,by rfl⟩,by rfl,trivial⟩,by rfl⟩
def Alv:Nat→CallSem
 | 0=>A6 cx0 Tryz.prog (Ja 247 noS (A6 cx0 Tryz.prog noS))
 | N+1=>A6 cx0 Tryz.prog (Ja 247 (Fy (Ajb N)) (A6 cx0 Tryz.prog noS))
theorem Xr (N:Nat):∀ g args T x1 T1,Ajb N g args T x1 T1→Alv N g args T T.length (fun x T' n'=>∃ σ,Iy T.length σ [noW x] T' n' ⟨[x1],T1,T1.length⟩):=by
 rintro g args T x1 T1 ⟨e,xs,he,hn,rfl,rfl,rfl,rfl,rfl⟩
 cases N with
 | zero=>omega
 | succ N=>exact Afv _ (N+1) e xs he hn (fun k args H m K h h'=>by
  have:k=N:=by omega
  exact this ▸ h')
theorem Vj:∀ N,A7 Tryz.prog (Alv N)
 | 0=>Af Ag (Cs Bf (Af Ag Bf))
 | N+1=>Af Ag (Cs (F1 (Vj N) (Xr N)) (Af Ag Bf))
def Anj:FuncId→List AV→List Ob→AV→List Ob→Prop:=fun g a T x T1=>∃ k,Ajb k g a T x T1
theorem Ac6:A7 Tryz.prog (Fy Anj) :=
 F1 (sem:=fun g a H n K=>∃ d,Alv d g a H n K) ⟨fun g a H n K ⟨d,h⟩=>(Vj d).1 g a H n K h,fun id a H n K ⟨d,h⟩=>(Vj d).2 id a H n K h⟩ fun g a T x T1 ⟨k,h⟩=>⟨k,Xr k g a T x T1 h⟩
end Go.Proofs.YtckpldpombdkgaaGreat
namespace Go.Proofs.YtckpldpombdkgaaGreat
open Go.Shelf Go.Sx Go.RowKit
def Tryz.sortA_ren:Go.Shelf.Ren:=⟨fun | 5=>245 | 8=>179 | 7=>264 | 19=>234 | 20=>235 | 10=>297 | 11=>298 | 12=>299 | 13=>300 | 14=>301 | 15=>302 | 16=>303 | 17=>304 | 18=>305 | 30=>313 | 31=>253 | 32=>254 | 33=>314 | 34=>315 | 35=>180 | 40=>317 | n=>n,fun | 23=>31 | 25=>3 | 3=>3 | 32=>189 | 22=>31 | 0=>0 | 44=>226 | 46=>228 | 4=>4 | 36=>219 | 35=>218 | 41=>223 | 5=>5 | 9=>9 | 53=>243 | 57=>207 | 63=>263 | 64=>199 | n=>n,fun | n=>n⟩
theorem Tryz.sortA:Go.Proofs.SlLaysM.n5 Tryz.prog Tryz.sortA_ren:={
 mixed:=by kernel_rfl
 f5:=⟨Tryz.f245.name,by decide,Tryz.func245.trans (congrArg some (by kernel_rfl))⟩
 f7:=⟨Tryz.f264.name,by decide,Tryz.func264.trans (congrArg some (by kernel_rfl))⟩
 f8:=Tryz.func179.trans (congrArg some (by kernel_rfl))
 f10:=⟨Tryz.f297.name,by decide,Tryz.func297.trans (congrArg some (by kernel_rfl))⟩
 f11:=⟨Tryz.f298.name,by decide,Tryz.func298.trans (congrArg some (by kernel_rfl))⟩
 f12:=⟨Tryz.f299.name,by decide,Tryz.func299.trans (congrArg some (by kernel_rfl))⟩
 f13:=⟨Tryz.f300.name,by decide,Tryz.func300.trans (congrArg some (by kernel_rfl))⟩
 f14:=⟨Tryz.f301.name,by decide,Tryz.func301.trans (congrArg some (by kernel_rfl))⟩
 f15:=⟨Tryz.f302.name,by decide,Tryz.func302.trans (congrArg some (by kernel_rfl))⟩
 f16:=⟨Tryz.f303.name,by decide,Tryz.func303.trans (congrArg some (by kernel_rfl))⟩
 f17:=⟨Tryz.f304.name,by decide,Tryz.func304.trans (congrArg some (by kernel_rfl))⟩
 f18:=⟨Tryz.f305.name,by decide,Tryz.func305.trans (congrArg some (by kernel_rfl))⟩
 f19:=Tryz.func234.trans (congrArg some (by kernel_rfl))
 f20:=Tryz.func235.trans (congrArg some (by kernel_rfl))
 f30:=⟨Tryz.f313.name,by decide,Tryz.func313.trans (congrArg some (by kernel_rfl))⟩
 f31:=Tryz.func253.trans (congrArg some (by kernel_rfl))
 f32:=Tryz.func254.trans (congrArg some (by kernel_rfl))
 f33:=⟨Tryz.f314.name,by decide,Tryz.func314.trans (congrArg some (by kernel_rfl))⟩
 f34:=⟨Tryz.f315.name,by decide,Tryz.func315.trans (congrArg some (by kernel_rfl))⟩
 f35:=⟨Tryz.f180.name,by decide,Tryz.func180.trans (congrArg some (by kernel_rfl))⟩
 f40:=⟨Tryz.f317.name,by decide,Tryz.func317.trans (congrArg some (by kernel_rfl))⟩
 t0:=Tryz.underlying0
 a0:=Tryz.isAgg0
 z0:=Tryz.sizeOf0
 v0:=Tryz.zeroValue0
 t3:=Tryz.underlying3
 a3:=Tryz.isAgg3
 z3:=Tryz.sizeOf3
 v3:=Tryz.zeroValue3
 t4:=Tryz.underlying4
 a4:=Tryz.isAgg4
 z4:=Tryz.sizeOf4
 v4:=Tryz.zeroValue4
 t5:=Tryz.underlying5
 a5:=Tryz.isAgg5
 z5:=Tryz.sizeOf5
 v5:=Tryz.zeroValue5
 t9:=Tryz.underlying9
 a9:=Tryz.isAgg9
 z9:=Tryz.sizeOf9
 v9:=Tryz.zeroValue9
 t22:=Tryz.underlying31
 a22:=Tryz.isAgg31
 z22:=Tryz.sizeOf31
 v22:=Tryz.zeroValue31
 t23:=Tryz.underlying31
 a23:=Tryz.isAgg31
 z23:=Tryz.sizeOf31
 v23:=Tryz.zeroValue31
 t25:=Tryz.underlying3
 a25:=Tryz.isAgg3
 z25:=Tryz.sizeOf3
 v25:=Tryz.zeroValue3
 t32:=Tryz.underlying189
 a32:=Tryz.isAgg189
 z32:=Tryz.sizeOf189
 v32:=Tryz.zeroValue189
 t35:=Tryz.underlying218
 a35:=Tryz.isAgg218
 z35:=Tryz.sizeOf218
 v35:=Tryz.zeroValue218
 t36:=Tryz.underlying219
 a36:=Tryz.isAgg219
 z36:=Tryz.sizeOf219
 v36:=Tryz.zeroValue219
 t41:=Tryz.underlying223
 a41:=Tryz.isAgg223
 z41:=Tryz.sizeOf223
 v41:=Tryz.zeroValue223
 t44:=Tryz.underlying226
 a44:=Tryz.isAgg226
 z44:=Tryz.sizeOf226
 v44:=Tryz.zeroValue226
 t46:=Tryz.underlying228
 a46:=Tryz.isAgg228
 z46:=Tryz.sizeOf228
 v46:=Tryz.zeroValue228
 t53:=Tryz.underlying243
 a53:=Tryz.isAgg243
 z53:=Tryz.sizeOf243
 v53:=Tryz.zeroValue243
 t57:=Tryz.underlying207
 a57:=Tryz.isAgg207
 z57:=Tryz.sizeOf207
 v57:=Tryz.zeroValue207
 t63:=Tryz.underlying263
 a63:=Tryz.isAgg263
 z63:=Tryz.sizeOf263
 v63:=Tryz.zeroValue263
 t64:=Tryz.underlying199
 a64:=Tryz.isAgg199
 z64:=Tryz.sizeOf199
 v64:=Tryz.zeroValue199 }
def Tryz.sortB_ren:Go.Shelf.Ren:=⟨fun | 6=>221 | 8=>179 | 9=>250 | 19=>234 | 20=>235 | 21=>282 | 22=>283 | 23=>284 | 24=>285 | 25=>286 | 26=>287 | 27=>288 | 28=>289 | 29=>290 | 36=>309 | 31=>253 | 32=>254 | 37=>310 | 38=>311 | 39=>312 | 41=>316 | n=>n,fun | 27=>145 | 29=>9 | 3=>3 | 32=>189 | 26=>145 | 0=>0 | 44=>226 | 46=>228 | 4=>4 | 36=>219 | 35=>218 | 41=>223 | 5=>5 | 9=>9 | 53=>243 | 57=>207 | 63=>263 | 64=>199 | n=>n,fun | n=>n⟩
theorem Tryz.sortB:Go.Proofs.SlLaysM.n6 Tryz.prog Tryz.sortB_ren:={
 mixed:=by kernel_rfl
 f6:=⟨Tryz.f221.name,by decide,Tryz.func221.trans (congrArg some (by kernel_rfl))⟩
 f8:=Tryz.func179.trans (congrArg some (by kernel_rfl))
 f9:=⟨Tryz.f250.name,by decide,Tryz.func250.trans (congrArg some (by kernel_rfl))⟩
 f19:=Tryz.func234.trans (congrArg some (by kernel_rfl))
 f20:=Tryz.func235.trans (congrArg some (by kernel_rfl))
 f21:=⟨Tryz.f282.name,by decide,Tryz.func282.trans (congrArg some (by kernel_rfl))⟩
 f22:=⟨Tryz.f283.name,by decide,Tryz.func283.trans (congrArg some (by kernel_rfl))⟩
 f23:=⟨Tryz.f284.name,by decide,Tryz.func284.trans (congrArg some (by kernel_rfl))⟩
 f24:=⟨Tryz.f285.name,by decide,Tryz.func285.trans (congrArg some (by kernel_rfl))⟩
 f25:=⟨Tryz.f286.name,by decide,Tryz.func286.trans (congrArg some (by kernel_rfl))⟩
 f26:=⟨Tryz.f287.name,by decide,Tryz.func287.trans (congrArg some (by kernel_rfl))⟩
 f27:=⟨Tryz.f288.name,by decide,Tryz.func288.trans (congrArg some (by kernel_rfl))⟩
 f28:=⟨Tryz.f289.name,by decide,Tryz.func289.trans (congrArg some (by kernel_rfl))⟩
 f29:=⟨Tryz.f290.name,by decide,Tryz.func290.trans (congrArg some (by kernel_rfl))⟩
 f31:=Tryz.func253.trans (congrArg some (by kernel_rfl))
 f32:=Tryz.func254.trans (congrArg some (by kernel_rfl))
 f36:=⟨Tryz.f309.name,by decide,Tryz.func309.trans (congrArg some (by kernel_rfl))⟩
 f37:=⟨Tryz.f310.name,by decide,Tryz.func310.trans (congrArg some (by kernel_rfl))⟩
 f38:=⟨Tryz.f311.name,by decide,Tryz.func311.trans (congrArg some (by kernel_rfl))⟩
 f39:=⟨Tryz.f312.name,by decide,Tryz.func312.trans (congrArg some (by kernel_rfl))⟩
 f41:=⟨Tryz.f316.name,by decide,Tryz.func316.trans (congrArg some (by kernel_rfl))⟩
 t0:=Tryz.underlying0
 a0:=Tryz.isAgg0
 z0:=Tryz.sizeOf0
 v0:=Tryz.zeroValue0
 t3:=Tryz.underlying3
 a3:=Tryz.isAgg3
 z3:=Tryz.sizeOf3
 v3:=Tryz.zeroValue3
 t4:=Tryz.underlying4
 a4:=Tryz.isAgg4
 z4:=Tryz.sizeOf4
 v4:=Tryz.zeroValue4
 t5:=Tryz.underlying5
 a5:=Tryz.isAgg5
 z5:=Tryz.sizeOf5
 v5:=Tryz.zeroValue5
 t9:=Tryz.underlying9
 a9:=Tryz.isAgg9
 z9:=Tryz.sizeOf9
 v9:=Tryz.zeroValue9
 t26:=Tryz.underlying145
 a26:=Tryz.isAgg145
 z26:=Tryz.sizeOf145
 v26:=Tryz.zeroValue145
 t27:=Tryz.underlying145
 a27:=Tryz.isAgg145
 z27:=Tryz.sizeOf145
 v27:=Tryz.zeroValue145
 t29:=Tryz.underlying9
 a29:=Tryz.isAgg9
 z29:=Tryz.sizeOf9
 v29:=Tryz.zeroValue9
 t32:=Tryz.underlying189
 a32:=Tryz.isAgg189
 z32:=Tryz.sizeOf189
 v32:=Tryz.zeroValue189
 t35:=Tryz.underlying218
 a35:=Tryz.isAgg218
 z35:=Tryz.sizeOf218
 v35:=Tryz.zeroValue218
 t36:=Tryz.underlying219
 a36:=Tryz.isAgg219
 z36:=Tryz.sizeOf219
 v36:=Tryz.zeroValue219
 t41:=Tryz.underlying223
 a41:=Tryz.isAgg223
 z41:=Tryz.sizeOf223
 v41:=Tryz.zeroValue223
 t44:=Tryz.underlying226
 a44:=Tryz.isAgg226
 z44:=Tryz.sizeOf226
 v44:=Tryz.zeroValue226
 t46:=Tryz.underlying228
 a46:=Tryz.isAgg228
 z46:=Tryz.sizeOf228
 v46:=Tryz.zeroValue228
 t53:=Tryz.underlying243
 a53:=Tryz.isAgg243
 z53:=Tryz.sizeOf243
 v53:=Tryz.zeroValue243
 t57:=Tryz.underlying207
 a57:=Tryz.isAgg207
 z57:=Tryz.sizeOf207
 v57:=Tryz.zeroValue207
 t63:=Tryz.underlying263
 a63:=Tryz.isAgg263
 z63:=Tryz.sizeOf263
 v63:=Tryz.zeroValue263
 t64:=Tryz.underlying199
 a64:=Tryz.isAgg199
 z64:=Tryz.sizeOf199
 v64:=Tryz.zeroValue199 }
def Qm (t:Ty) (srt:List t.den→List t.den) (g0:FuncId):CallSem:=fun g args H n K=>g=g0∧((args=[.cap0]∧K (.tup []) H n)∨∃ (id:Nat) (xs:List t.den),args=[.own id]∧Ac H id=.rows t xs∧xs.length≤1000000∧K (.tup []) (Bo (.rows t (srt xs)) H id) n)
theorem R0 {t:Ty} {Pv:t.den→PV} (hE:∀ x,enc t x=[Pv x]):∀ (xs:List t.den),flat t xs=xs.map Pv
 | []=>rfl
 | x :: xs=>by
  have h:=R0 hE xs
  unfold flat at h ⊢
  rw [List.flatMap_cons,h,hE]
  rfl
theorem Tv {α:Type} (v:α):∀ (l:List α) (i:Nat),(∀ h:i < l.length,l[i]=v)→Bo v l i=l
 | [],_,_=>rfl
 | a :: l,0,h=>by
  have:=h (Nat.succ_pos _)
  simp only [List.getElem_cons_zero] at this
  rw [Bo,this]
 | a :: l,i+1,h=>by
  rw [Bo,Tv v l i fun hi=>?_]
  have:=h (Nat.succ_lt_succ hi)
  simpa using this
theorem Vk {w:World} {blk b:Nat} {f:Array Value→Array Value} (h:b≠blk):(Sort.mapBlock w blk f).heap[b]?=w.heap[b]?:=by
 unfold Sort.mapBlock
 simp only [Array.getElem?_modify]
 rw [if_neg (Ne.symm h)]
theorem R1 {P:Program} {t:Ty} [Inhabited t.den] {V:t.den→Value} {Pv:t.den→PV} (hEn:∀ x,enc t x=[Pv x]) (hV:∀ (w:World) (Fz:Nat→Nat→Prop) v x,RdP w Fz v (Pv x)↔v=V x) {srt:List t.den→List t.den} (srt_len:∀ xs,(srt xs).length=xs.length) {g0:FuncId} (hf:∃ fn,P.funcs[g0]?=some fn∧fn.body.isSome=true∧(fn.name == "runtime.NumGoroutine")=false)
 (hs:∀ (blk off cap:Nat) (zs:List t.den) (w:World),Sort.Holds V w blk off zs.toArray→blk < w.heap.size→zs.length < 4611686018427387904 →
   Calls P g0 #[.slice (some ⟨blk,off,none⟩) zs.length cap] w fun e w'=>e=.returned (.tuple #[])∧∃ n os,w'=Sort.grow (Sort.putRow V (Sort.ahead w n) blk off (srt zs).toArray) os)
 (h0:∀ (p:Option Addr) (cap:Nat) (w:World),Calls P g0 #[.slice p 0 cap] w fun e w'=>e=.returned (.tuple #[])∧w'=w):A7 P (Qm t srt g0):=by
 refine ⟨?_,fun id args H n K h=>by rcases h with ⟨_,⟨h,_⟩ | ⟨_,_,h,_⟩⟩ <;> cases h⟩
 rintro g args H n K ⟨rfl,⟨rfl,hk⟩ | ⟨id,xs,rfl,hob,hlen,hk⟩⟩ E vs hE hsz hrd
 ·refine ⟨hf, ?_⟩
  obtain ⟨vs⟩:=vs
  match vs,hsz with
  | [v],_ =>
  have hv:RdA E v .cap0:=hrd 0 v _ rfl rfl
  cases hv with
  | cap0 a =>
  refine (h0 a 0 E.w).mono ?_
  rintro e w' ⟨rfl,rfl⟩
  exact ⟨_,E,.tup [],_,n,rfl,rfl,Nat.le_refl _,hE,.tup _ _ rfl (fun i u x hu=>by simp at hu),Evo.refl _ _,hk⟩
 refine ⟨hf, ?_⟩
 obtain ⟨vs⟩:=vs
 match vs,hsz with
 | [v],_ =>
 have hv:RdA E v (.own id):=hrd 0 v _ rfl rfl
 have hA:=hv.own_inv.1
 have hne:Ac H id≠.dead:=by rw [hob];simp
 have hl:=hE.live id hne
 have hok:RowsAt E t xs (E.ρ id):=by
  have:=hE.ok id hl hne
  rw [hob] at this
  exact this
 have hW:E.W id:=hE.wr id (by rw [hob];trivial)
 have hown:=hv.own_inv.2.2 hl
 cases hρ:E.ρ id with
 | none =>
  rw [hρ] at hok hown
  obtain ⟨ba,rfl⟩:=hown
  have hxs:xs=[]:=hok
  subst hxs
  refine (h0 ba 0 E.w).mono ?_
  rintro e w' ⟨rfl,rfl⟩
  refine ⟨_,E,.tup [],_,n,rfl,rfl,Nat.le_refl _, ?_,.tup _ _ rfl (fun i u x hu=>by simp at hu),Evo.refl _ _,hk⟩
  rw [Tv]
  ·exact hE
  ·intro hi
   have:Ac H id=H[id]:=by
    unfold Ac
    rw [Bg,List.getElem?_eq_getElem hi]
    rfl
   rw [← this,hob,List.eq_nil_of_length_eq_zero (srt_len [])]
 | some hd =>
  rw [hρ] at hok hown
  obtain ⟨g1,g2,g3,g3',arr,el,g4,g5,g6⟩:=hok
  have hown:v=.slice (some ⟨hd.blk,hd.off,none⟩) hd.len hd.cap:=hown
  subst hown
  have hsz1:Ty.size t=1:=by rw [← Aq t (default:t.den),hEn];rfl
  rw [hsz1,Nat.mul_one] at g5
  have hcell:∀ j (hj:j < xs.length),arr[hd.off+j]?=some (V xs[j]):=by
   intro j hj
   obtain ⟨u,u1,u2⟩:=g6 j (Pv xs[j]) (by rw [R0 hEn,List.getElem?_map,List.getElem?_eq_getElem hj];rfl)
   rw [← (hV _ _ _ _).1 u2]
   exact u1
  have hH:Sort.Holds V E.w hd.blk hd.off xs.toArray:=by
   intro j hj
   have hj':j < xs.length:=by simpa using hj
   refine ⟨?_, ?_⟩
   ·have:=hcell j hj'
    simp only [World.cell?,g4]
    rw [this]
    simp [hj']
   ·simp [World.frozen?,g4]
  have hblk:=(hE.lt id hd hl hρ).2
  have:=hs hd.blk hd.off hd.cap xs E.w hH hblk (by omega)
  rw [← g1] at this
  refine this.mono ?_
  rintro e w' ⟨rfl,m,os,rfl⟩
  have hsl:=srt_len xs
  have hnew:(Sort.grow (Sort.putRow V (Sort.ahead E.w m) hd.blk hd.off (srt xs).toArray) os).heap[hd.blk]?=some (.cells (Sort.putCells V hd.off (srt xs).toArray arr) el (0,0)):=by
   unfold Sort.grow Sort.putRow Sort.mapBlock
   simp only [Sort.heap_ahead]
   rw [Array.getElem?_append_left (by simpa using hblk),Array.getElem?_modify,if_pos rfl,g4]
   rfl
  have hold:∀ b,b < E.w.heap.size→b≠hd.blk→(Sort.grow (Sort.putRow V (Sort.ahead E.w m) hd.blk hd.off (srt xs).toArray) os).heap[b]?=E.w.heap[b]?:=by
   intro b hb hne
   show ((Sort.putRow V (Sort.ahead E.w m) hd.blk hd.off (srt xs).toArray).heap++os)[b]?=_
   rw [Array.getElem?_append_left (by simpa using hb)]
   exact Vk hne
  have hsize:E.w.heap.size≤(Sort.grow (Sort.putRow V (Sort.ahead E.w m) hd.blk hd.off (srt xs).toArray) os).heap.size:=by
   show _≤((Sort.putRow V (Sort.ahead E.w m) hd.blk hd.off (srt xs).toArray).heap++os).size
   rw [Array.size_append,Sort.size_putRow]
   exact Nat.le_add_right _ _
  have hbd:Below E.B E.w (Sort.grow (Sort.putRow V (Sort.ahead E.w m) hd.blk hd.off (srt xs).toArray) os):=by
   refine ⟨rfl,rfl,rfl,hsize,fun k hk=>hold k (Nat.lt_of_lt_of_le hk hE.B) ?_⟩
   have:=(hE.lt id hd hl hρ).1
   omega
  generalize Sort.grow (Sort.putRow V (Sort.ahead E.w m) hd.blk hd.off (srt xs).toArray) os=w' at hnew hold hsize hbd
  have hstep:Step E n ⟨none,none,.tup [],[],none,some (id,.rows t (srt xs)),[]⟩ w' (fun _=>none):=by
   refine ⟨hbd,fun b hb hne=>hold b hb fun e=>hne id hW (.inr rfl) (.inl ⟨hd,hρ,e.symm⟩), ?_, ?_, ?_, ?_⟩
   ·intro j h hj;simp at hj
   ·intro j j' h h' hj;simp at hj
   ·intro id hid;cases hid
   ·intro p hp;cases hp;exact hW
  have hρ2:∀ wn,(E.ext n 0 none [] wn w' (fun _=>none)).ρ id=some hd:=fun wn=>by
   simp only [Env.ext]
   rw [if_neg (by omega),hρ]
  have hx:=hstep.ext (wn:=U2 n ⟨none,none,.tup [],[],none,some (id,.rows t (srt xs)),[]⟩) (hE.ready _) ⟨n,hE.ns⟩ (fun _ j ob hj=>by simp at hj) (fun hevo i ob hi=>by
   cases hi
   show RowsAt _ t _ _
   rw [show (E.ext n (List.length ([]:List Ob)) none [] _ w' (fun _=>none)).ρ id=some hd from hρ2 _]
   refine ⟨by rw [hsl];exact g1,g2,g3,g3',_,el,hnew, ?_,fun j p hp=>?_⟩
   ·rw [hsz1,Nat.mul_one]
    simp [Sort.putCells]
    omega
   ·rw [R0 hEn,List.getElem?_map] at hp
    obtain ⟨x,hx,rfl⟩:=Option.map_eq_some_iff.1 hp
    have hj:=(List.getElem?_eq_some_iff.1 hx).1
    refine ⟨V x, ?_,(hV _ _ _ _).2 rfl⟩
    have hlt:hd.off+j < arr.size:=by omega
    unfold Sort.putCells
    rw [Array.getElem?_mapIdx,Array.getElem?_eq_getElem hlt]
    simp only [Option.map_some,Option.some.injEq]
    rw [if_pos ⟨by omega,by simp;omega⟩,show hd.off+j - hd.off=j by omega]
    obtain ⟨_,he⟩:=List.getElem?_eq_some_iff.1 hx
    simp [hj,he])
  have hE':=hE.step hx ⟨fun id hid=>(by cases hid),fun p hp=>(by cases hp;exact ⟨hA,by rw [hob];trivial⟩)⟩
  have hheap:Res.heap ⟨none,none,.tup [],[],none,some (id,.rows t (srt xs)),[]⟩ H=Bo (.rows t (srt xs)) H id:=by
   unfold Res.heap
   rw [List.append_nil]
   rfl
  rw [hheap] at hE'
  exact ⟨_,_,.tup [],_,n,rfl,rfl,Nat.le_refl _,hE',.tup _ _ rfl (fun i u x hu=>by simp at hu),hx.evo n,hk⟩
def F9 (xs:List Int):List Int:=xs.mergeSort fun x y=>decide (x≤y)
def sortB (xs:List ByteArray):List ByteArray:=((xs.map fun s=>s.data.toList).mergeSort fun x y=>decide (x≤y)).map fun l=>⟨l.toArray⟩
theorem Ajc:A7 Tryz.prog (Qm tI F9 245) :=
 R1 (t:=tI) (srt:=F9) (V:=Value.int .i64) (Pv:=PV.int .i64) (fun _=>rfl) (fun _ _ _ _=>⟨fun h=>by cases h;rfl,fun h=>by rw [h];exact .int _ _⟩) (fun xs=>List.length_mergeSort xs) ⟨_,Tryz.func245,rfl,rfl⟩
  (fun blk off cap zs w hH hb hz=>AnyM.slices_Sort_int Tryz.sortA blk off cap zs w hH hb hz) (fun p cap w=>AnyM.slices_Sort_int_none Tryz.sortA p cap w)
theorem Ajd:A7 Tryz.prog (Qm .str sortB 221):=by
 refine R1 (t:=.str) (srt:=sortB) (V:=Value.string) (Pv:=PV.str) (fun _=>rfl) (fun _ _ _ _=>⟨fun h=>by cases h;rfl,fun h=>by rw [h];exact .str _⟩) (fun xs=>by simp [sortB,List.length_mergeSort]) ⟨_,Tryz.func221,rfl,rfl⟩
  (fun blk off cap zs w hH hb hz=>?_) (fun p cap w=>AnyM.slices_Sort_string_none Tryz.sortB p cap w)
 have h1:Sort.Holds encStr w blk off (zs.map fun s=>s.data.toList).toArray:=by
  intro j hj
  have hj':j < zs.length:=by simpa using hj
  obtain ⟨h2,h3⟩:=hH j (by simpa using hj')
  refine ⟨h2.trans ?_,h3⟩
  simp [hj',encStr]
 have h4:=AnyM.slices_Sort_string Tryz.sortB blk off cap (zs.map fun s=>s.data.toList) w h1 hb (by simpa using hz)
 rw [List.length_map] at h4
 refine h4.mono ?_
 rintro e w' ⟨rfl,n,os,rfl⟩
 refine ⟨rfl,n,os, ?_⟩
 have h5:∀ c:Array Value,Sort.putCells encStr off ((zs.map fun s=>s.data.toList).mergeSort fun x y=>decide (x≤y)).toArray c=Sort.putCells Value.string off (sortB zs).toArray c:=by
  intro c
  unfold Sort.putCells
  congr 1
  funext k x
  simp only [List.size_toArray,sortB,List.length_map]
  split
  ·rename_i hk
   have:k - off < ((zs.map fun s=>s.data.toList).mergeSort fun x y=>decide (x≤y)).length:=by omega
   simp [this,encStr,List.getElem?_eq_getElem this]
  ·rfl
 unfold Sort.putRow
 congr 2
 funext c
 exact h5 c
def G4 (xs:List ByteArray):Nat→List ByteArray
 | 0=>[]
 | n+1=>G4 xs n++(if n=0∨xs.getD n (Ab .str)≠xs.getD (n - 1) (Ab .str) then [xs.getD n (Ab .str)] else [])
def Xs (xs:List ByteArray):List ByteArray:=G4 xs xs.length
theorem Lt {α:Type} {xs:List α} {n:Nat} {d:α} (h:n < xs.length):xs.take (n+1)=xs.take n++[xs.getD n d]:=by
 rw [List.take_succ_eq_append_getElem h]
 simp [List.getD_eq_getElem?_getD,List.getElem?_eq_getElem h]
theorem Tw {xs:List ByteArray} {n:Nat} (h0:n≠0) (h:xs.getD n (Ab .str)=xs.getD (n - 1) (Ab .str)):G4 xs (n+1)=G4 xs n:=by
 rw [G4,if_neg (by rintro (h1 | h1);exact h0 h1;exact h1 h),List.append_nil]
theorem R2 {xs:List ByteArray} {n:Nat} (h:xs.getD n (Ab .str)≠xs.getD (n - 1) (Ab .str)):G4 xs (n+1)=G4 xs n++[xs.getD n (Ab .str)]:=by
 rw [G4,if_pos (.inr h)]
theorem Alw {xs:List ByteArray} (h:1≤xs.length):G4 xs 1=xs.take 1:=by
 rw [Lt (n:=0) (d:=Ab .str) h];simp [G4]
theorem Afw {xs:List ByteArray} (h:xs.length < 2):Xs xs=xs:=by
 match xs,h with
 | [],_=>rfl
 | [a],_=>rfl
theorem Tx {α:Type} {xs ys:List α} {n m:Nat} {d:α} (h:ys.drop n=xs.drop n) (hm:n≤m):ys.getD m d=xs.getD m d:=by
 have h1:(ys.drop n)[m - n]?=(xs.drop n)[m - n]?:=by rw [h]
 rw [List.getElem?_drop,List.getElem?_drop,show n+(m - n)=m by omega] at h1
 simp [List.getD_eq_getElem?_getD,h1]
theorem Afx {α:Type} {ys:List α} {m:Nat} {v:α} (h:m < ys.length):(ys.set m v).take (m+1)=ys.take m++[v]:=by
 rw [Lt (n:=m) (d:=v) (by rw [List.length_set];exact h),List.take_set_of_le (Nat.le_refl _)]
 simp [List.getD_eq_getElem?_getD,h]
theorem Ac7 {α:Type} {xs ys:List α} {n:Nat} (h:ys.drop n=xs.drop n):ys.drop (n+1)=xs.drop (n+1):=by
 rw [← List.drop_drop,← List.drop_drop,h]
def Ee (e:ExprT):List ByteArray:=if Bl e=0 then Xs (sortB (Gi e)) else []
def cxX:Ctx:=⟨C5,[(173,([],c79))]⟩
theorem R3:Ah Tryz.prog cxX:=Ae Zc Ag
def c80:Ctr:=fnC [dX] [(false,tSs)] (fun _=>True) (fun y=>(Ee y.1,()))
theorem Alx:GoodC Tryz.prog 174 c80:=by
 refine Vb (Af R3 (Cs (g0:=221) Ajd (Af R3 (Cs (g0:=247) Ac6 (Af R3 Bf))))) _ _ _ _ ⟨_,Tryz.func174,rfl,rfl⟩ fun (⟨e,_⟩ : ExprT × Unit) _=>?_
 refine (aF (aI tT (aI (fun h0=>(Aa rfl ?_)) (fun h0=>(aF (aF (aF (aI tT ?_))))))))
 ·have hk:Bl e≠0:=by have h:=h0;simp only [eta] at h;simpa using h
  show (Ee e,())=([],())
  rw [Ee,if_neg hk]
 have hk:Bl e=0:=by have h:=h0;simp only [eta] at h;simpa using h
 have hN:(Gi e).length≤100:=Nat.le_trans (Aba e) (Aja hk)
 have hnm:Ee e=Xs (sortB (Gi e)):=by rw [Ee,if_pos hk]
 refine eI [exA e,.yld 2] (eI (vnT []) (eI (.bool true) (eI (Xq ([]++Gi e)) (eI [some 1,none,some 3]
  ⟨⟨_,e,[],Nat.lt_succ_self _,by simpa using hN,rfl,rfl,rfl,rfl,rfl⟩,⟨by rfl,by rfl,⟨⟨by rfl,by rfl⟩,by rfl,⟨⟨rfl,rfl,rfl,by kernel_rfl,by kernel_rfl⟩,by rfl,by rfl⟩,trivial⟩,by rfl⟩,by rfl, ?_⟩))))
 rw [List.nil_append]
 dsimp only [vnT,Xq,slN,Ep,Ce,D5,Cx,Ev,Bo,Am,G8,List.length_cons,List.length_nil,List.cons_append,List.nil_append,Nat.reduceAdd,Nat.reduceSub]
 refine (aA ?_)
 refine .inr ⟨4,Gi e,rfl,rfl,by omega, ?_⟩
 obtain ⟨xs,hx⟩ : ∃ xs,sortB (Gi e)=xs:=⟨_,rfl⟩
 have hxl:xs.length≤100:=by rw [← hx];simpa [sortB,List.length_mergeSort] using hN
 rw [hx] at hnm
 rw [hx]
 refine (aF (fun w0=>(aI (fun w1=>(Aa rfl ?_)) (fun w1=>?_))))
 ·have h2:xs.length < 2:=by have:=of_decide_eq_true w1;omega
  show (Ee e,())=(xs,())
  rw [hnm,Afw h2]
 have hx2:2≤xs.length:=by have:=of_decide_eq_false w1;omega
 refine ex4 _ (fun k:Nat=>⟨[.own 4,.any,.any,.int .i64 (k:Int)]++nA 57,[.cells   [.int .i64 e.kind,.int .i64 e.op,.str e.name,.int .i64 e.value,.sl .expr e.args],.cells [.own 4],.cells   [.int .i64 e.kind,.int .i64 e.op,.str e.name,.int .i64 e.value,.sl .expr e.args],.dead,.rows .str xs],5⟩) (fun k=>1≤k∧k≤xs.length∧G4 xs k=xs.take k) (fun k=>xs.length - k) (aI (eI (1) (eI ([some 0,some 1,some 2,some 3,some 4]) (aI ?_ (aB (aI (aI (aA (by rfl)) (aI (aA (by rfl)) (aI (aA (by rfl)) (aA tT)))) (by rfl)))))) ?_)
 ·exact ⟨Nat.le_refl _,by omega,Alw (by omega)⟩
 rintro k ⟨hk1,hk2,hku⟩
 refine (fun k0=>(aI (fun k1=>(aF (aO (aO (aO (aI (fun k2=>(aO ?_)) (fun k2=>(aO ?_)))))))) (fun k1=>(Aa rfl ?_))))
 ·have hlt:k < xs.length:=by have:=of_decide_eq_true k1;omega
  have heq:xs.getD k (Ab .str)=xs.getD (k - 1) (Ab .str):=by
   have h:=of_decide_eq_true k2
   rw [Int.toNat_natCast,show ((k:Int) - 1).toNat=k - 1 by omega] at h
   exact h
  refine ex4 _ (fun p:Nat × Nat × List ByteArray=>⟨[.own 4,.any,.any,.int .i64 (p.2.1:Int),.ownp 4 1 k (xs.length - k),.int .i64 (p.1:Int),.any,.any,.any,.any,.int .i64 (↑k:Int),.own 4,.int .i64 (↑xs.length:Int),.bool (decide ((↑k:Int) < (↑xs.length:Int))),.any,.any,.own 4,.int .i64 (↑k:Int),.any,.any,.own 4,.int .i64 (↑k:Int),.int .i64 ((↑k:Int) - 1),.any,.any,.any,.own 4,.int .i64 (↑k:Int)]++nA 33,[.cells   [.int .i64 e.kind,.int .i64 e.op,.str e.name,.int .i64 e.value,.sl .expr e.args],.cells [.own 4],.cells   [.int .i64 e.kind,.int .i64 e.op,.str e.name,.int .i64 e.value,.sl .expr e.args],.dead,.rows .str p.2.2],5⟩) (fun p=>(1≤p.1∧p.1≤xs.length - k)∧(p.2.1 < k+p.1∧p.2.2.length=xs.length)∧p.2.2.take p.2.1=G4 xs (k+p.1)∧p.2.2.drop (k+p.1 - 1)=xs.drop (k+p.1 - 1)) (fun p=>xs.length - p.1) (aI (eI ((1,k,xs)) (eI ([some 0,some 1,some 2,some 3,some 4]) (aI ?_ (aB (aI (aI (aA (by rfl)) (aI (aA (by rfl)) (aI (aA (by rfl)) (aA tT)))) (by rfl)))))) ?_)
  ·refine ⟨⟨Nat.le_refl _,by show 1≤xs.length - k;omega⟩,⟨by show k < k+1;omega,rfl⟩, ?_,rfl⟩
   show xs.take k=G4 xs (k+1)
   rw [Tw (by omega) heq,hku]
  rintro ⟨j,m,ys⟩ ⟨⟨hj1,hj2⟩,⟨hm,hy⟩,ht,hd⟩
  replace hj1:1≤j:=hj1
  replace hj2:j≤xs.length - k:=hj2
  replace hm:m < k+j:=hm
  replace hy:ys.length=xs.length:=hy
  replace ht:ys.take m=G4 xs (k+j):=ht
  replace hd:ys.drop (k+j - 1)=xs.drop (k+j - 1):=hd
  have jn:(j:Int).toNat=j:=Int.toNat_natCast j
  have jp:((j:Int) - 1).toNat=j - 1:=by omega
  have mn:(m:Int).toNat=m:=Int.toNat_natCast m
  have ha:ys.getD (k+j) (Ab .str)=xs.getD (k+j) (Ab .str):=Tx hd (by omega)
  have hb:ys.getD (k+(j - 1)) (Ab .str)=xs.getD (k+j - 1) (Ab .str):=by
   rw [Tx hd (by omega),show k+(j - 1)=k+j - 1 by omega]
  have hdn:ys.drop (k+(j+1) - 1)=xs.drop (k+(j+1) - 1):=by
   have:=Ac7 hd
   rw [show k+j - 1+1=k+(j+1) - 1 by omega] at this
   exact this
  refine (aI (fun j0=>(aF (aO (aO (aO (aI (fun j1=>(aO (aO (aO (aO ?_))))) (fun j1=>(aO ?_)))))))) (fun j0=>(aO (aO (Aa rfl ?_)))))
  ·have hl:j < xs.length - k:=by have:=of_decide_eq_true j0;omega
   have hne:xs.getD (k+j) (Ab .str)≠xs.getD (k+j - 1) (Ab .str):=by
    intro h
    rw [← ha,← hb] at h
    have h2:=j1
    simp only [jn,jp] at h2
    rw [decide_eq_true h] at h2
    cases h2
   refine eI ((j+1,m+1,ys.set m (ys.getD (k+j) (Ab .str)))) (eI ([some 0,some 1,some 2,some 3,some 4]) (aI ?_ (aI ?_ (aB (aI (aI (aA (by rfl)) (aI (aA (by rfl)) (aI (aA (by rfl)) (aA tT)))) (by rfl))))))
   ·refine ⟨⟨by show 1≤j+1;omega,by show j+1≤_;omega⟩,⟨by show m+1 < k+(j+1);omega,by show (ys.set m _).length=_;rw [List.length_set];exact hy⟩, ?_, ?_⟩
    ·show (ys.set m _).take (m+1)=G4 xs (k+j+1)
     rw [Afx (by omega),ht,ha,R2 hne]
    ·show (ys.set m _).drop (k+(j+1) - 1)=_
     rw [List.drop_set_of_lt (by omega)]
     exact hdn
   ·show xs.length - (j+1) < xs.length - j
    omega
  ·have hl:j < xs.length - k:=by have:=of_decide_eq_true j0;omega
   have he:xs.getD (k+j) (Ab .str)=xs.getD (k+j - 1) (Ab .str):=by
    rw [← ha,← hb]
    have h2:=j1
    simp only [jn,jp] at h2
    by_cases h:ys.getD (k+j) (Ab .str)=ys.getD (k+(j - 1)) (Ab .str)
    ·exact h
    ·rw [decide_eq_false h] at h2
     cases h2
   refine eI ((j+1,m,ys)) (eI ([some 0,some 1,some 2,some 3,some 4]) (aI ?_ (aI ?_ (aB (aI (aI (aA (by rfl)) (aI (aA (by rfl)) (aI (aA (by rfl)) (aA tT)))) (by rfl))))))
   ·refine ⟨⟨by show 1≤j+1;omega,by show j+1≤_;omega⟩,⟨by show m < k+(j+1);omega,hy⟩, ?_,hdn⟩
    show ys.take m=G4 xs (k+j+1)
    rw [ht,Tw (by omega) he]
   ·show xs.length - (j+1) < xs.length - j
    omega
  ·have hl:j=xs.length - k:=by have:=of_decide_eq_false j0;omega
   have hm2:m≤ys.length:=by omega
   rw [show k+j=xs.length by omega] at ht
   show (Ee e,())=_
   rw [hnm,Xs,← ht]
   simp only [mn]
   simp [hm2,List.take_append_of_le_length]
 ·have hlt:k < xs.length:=by have:=of_decide_eq_true k1;omega
  have hne:xs.getD k (Ab .str)≠xs.getD (k - 1) (Ab .str):=by
   have h:=of_decide_eq_false k2
   rw [Int.toNat_natCast,show ((k:Int) - 1).toNat=k - 1 by omega] at h
   exact h
  refine eI (k+1) (eI ([some 0,some 1,some 2,some 3,some 4]) (aI ?_ (aI ?_ (aB (aI (aI (aA (by rfl)) (aI (aA (by rfl)) (aI (aA (by rfl)) (aA tT)))) (by rfl))))))
  ·refine ⟨by omega,hlt, ?_⟩
   rw [R2 hne,hku,Lt hlt]
  ·show xs.length - (k+1) < xs.length - k
   omega
 ·have e1:k=xs.length:=by have:=of_decide_eq_false k1;omega
  subst e1
  show (Ee e,())=(xs,())
  rw [hnm,Xs,hku,List.take_length]
def J7 (o:Int):Int:=C6 o 0 [(3,1),(4,1),(5,1),(6,1),(7,1),(8,0),(9,0),(10,1),(11,1),(12,1),(13,1),(14,2),(15,2)]
def D2 (o:Int):Int:=C6 o 0 [(3,1),(4,1),(5,1),(6,1),(7,1),(8,2),(9,2),(10,2),(11,2),(12,2),(13,2),(14,2),(15,2)]
def L1 (l:List Bd) (e:ExprT) (ts:List Int):Int × Int :=
 if e.kind=1 then (1,0)
 else if e.kind=2 then (if (Cl l e.name).2=true then ((Cl l e.name).1.2.1,0) else (0,7))
 else if e.kind=3 then (if ts.getD 0 0=(if e.op=2 then 2 else 1) then ((if e.op=2 then 2 else 1),0) else (0,15))
 else if ts.getD 0 0≠ts.getD 1 0∨(J7 e.op≠0∧ts.getD 0 0≠J7 e.op) then (0,15) else (D2 e.op,0)
mutual
def Cn (l:List Bd):ExprT→Int × Int
 | .mk k o nm v args=>if (Dk l args).2=0 then L1 l (.mk k o nm v args) (Dk l args).1 else (0,(Dk l args).2)
def Dk (l:List Bd):List ExprT→List Int × Int
 | []=>([],0)
 | e :: r=>if (Cn l e).2=0 then ((Cn l e).1 :: (Dk l r).1,(Dk l r).2) else ([],(Cn l e).2)
end
theorem Vl (l:List Bd) (e:ExprT):Cn l e=if (Dk l e.args).2=0 then L1 l e (Dk l e.args).1 else (0,(Dk l e.args).2):=by
 obtain ⟨k,o,nm,v,args⟩:=e
 rfl
theorem Tz (l:List Bd) {args:List ExprT} {i:Nat} {e0:ExprT} (h:i < args.length):Dk l (args.drop i) =
 if (Cn l (args.getD i e0)).2=0 then ((Cn l (args.getD i e0)).1 :: (Dk l (args.drop (i+1))).1,(Dk l (args.drop (i+1))).2) else ([],(Cn l (args.getD i e0)).2):=by
 rw [List.drop_eq_getElem_cons h]
 simp [Dk,List.getD,h]
theorem Nt:∀ (args:List ExprT) (i:Nat) (e0:ExprT),i < args.length→P5 args=0→Ed (args.getD i e0)=0
 | [],i,e0,h,_=>absurd h (Nat.not_lt_zero _)
 | e :: r,0,e0,_,h=>by
  simp only [P5] at h
  split at h
  ·assumption
  ·rename_i h1;exact absurd h h1
 | e :: r,i+1,e0,hi,h=>by
  simp only [P5] at h
  split at h
  ·have:=Nt r i e0 (by simpa using hi) h
   simpa using this
  ·rename_i h1;exact absurd h h1
theorem R4 {e:ExprT} (h:Ed e=0):Ec e=0∧P5 e.args=0:=by
 rw [Vh] at h
 split at h
 ·exact ⟨by assumption,h⟩
 ·rename_i h1;exact absurd h h1
theorem R5 {p:Prop} [Decidable p] {a b:Int} (h:(if p then a else b)=0) (ha:a≠0):¬ p∧b=0:=by
 by_cases hp:p
 ·rw [if_pos hp] at h;exact absurd h ha
 ·rw [if_neg hp] at h;exact ⟨hp,h⟩
theorem Vm {e:ExprT} (h:Ec e=0):(1≤e.kind∧e.kind≤4)∧(e.args.length:Int)=[0,0,0,1,2].getD e.kind.toNat 0∧(e.kind=1→0≤e.value∧e.value≤1099511627776) ∧
 (e.kind=2→Nr e.name=true)∧(e.kind=3→e.op=1∨e.op=2)∧(e.kind=4→Ls e.op=true):=by
 simp only [Ec,Vf,Bool.cond_eq_ite] at h
 generalize Ls e.op=b at *
 generalize Nr e.name=c at *
 generalize List.getD [0,0,0,1,2] e.kind.toNat (0:Int)=w at *
 generalize e.kind=k at *
 generalize e.op=o at *
 generalize e.value=v at *
 generalize (e.args.length:Int)=m at *
 generalize e.name=s at *
 obtain ⟨h1,h⟩:=R5 h (by decide)
 obtain ⟨h2,h⟩:=R5 h (by decide)
 obtain ⟨h3,h⟩:=R5 h (by decide)
 obtain ⟨h4,h⟩:=R5 h (by decide)
 obtain ⟨h5,h⟩:=R5 h (by decide)
 refine ⟨?_, ?_, ?_, ?_, ?_, ?_⟩ <;> grind
theorem Abc {e:ExprT} (h:(e.args.length:Int)=[0,0,0,1,2].getD e.kind.toNat 0):e.args.length≤2:=by
 have:∀ n:Nat,([0,0,0,1,2]:List Int).getD n 0≤2:=fun n=>by
  match n with
  | 0=>decide
  | 1=>decide
  | 2=>decide
  | 3=>decide
  | 4=>decide
  | n+5=>simp
 have:=this e.kind.toNat
 omega
def Ank (N:Nat):Ctr:=fnC [dX,Vc] rII (fun y=>Ed y.1=0∧exW y.1 < N) (fun y=>((Cn y.2.1 y.1).1,(Cn y.2.1 y.1).2,()))
def cxT (N:Nat):Ctx:=⟨C5,[(225,([],Ank N)),(251,([],c134)),(248,([],c130))]⟩
set_option maxHeartbeats 4000000 in
theorem Xt:∀ N,GoodC Tryz.prog 225 (Ank N)
 | 0=>by
  refine Ap Ag 3 _ _ _ _ ⟨_,Tryz.func225,rfl,rfl⟩ fun y hn=>?_
  exact absurd hn.2 (Nat.not_lt_zero _)
 | N+1=>by
  refine Ap (cx:=cxT N) (Ae (Xt N) (Ae Aa8 (Ae Aa6 Ag))) 3 _ _ _ _ ⟨_,Tryz.func225,rfl,rfl⟩ fun (⟨e,l,_⟩ : ExprT × List Bd × Unit) hn=>?_
  have hN:exW e < N+1:=hn.2
  have hc:Ed e=0:=hn.1
  clear hn
  obtain ⟨hc1,hc2⟩:=R4 hc
  obtain ⟨hk,ha,-,-,-,ho⟩:=Vm hc1
  refine (aF (fun h0=>?_))
  refine ex4 _ (fun p:Nat × List Int=>⟨[.any,.sl tBd l,.ptr 0 0,.any,.any,.any,.own 1,.any,.any,.any,.any,.any,.any,.any,.any,.ptr 0 4,.sl .expr e.args,.int .i64 (↑e.args.length:Int),.int .i64 (p.1:Int)]++nA 71,[.cells   [.int .i64 e.kind,.int .i64 e.op,.str e.name,.int .i64 e.value,.sl .expr e.args],.rows tI p.2],2⟩) (fun p=>p.1≤e.args.length∧p.2.length=p.1∧(Dk l (e.args.drop p.1)).2=(Dk l e.args).2∧((Dk l e.args).2=0→(Dk l e.args).1=p.2++(Dk l (e.args.drop p.1)).1)) (fun p=>e.args.length - p.1) (aI (eI ((0,[])) (eI ([some 0,none]) (aI ?_ (aB (aI (aI (aA (by rfl)) (aA tT)) (by rfl)))))) ?_)
  ·exact ⟨Nat.zero_le _,rfl,rfl,fun _=>rfl⟩
  rintro ⟨i,ts⟩ ⟨hi,hts,h2,h3⟩
  replace hts:ts.length=i:=hts
  have hl2:=Abc ha
  have room:(ts.length+1) * 8≤lim:=by
   have:i≤e.args.length:=hi
   simp only [lim];omega
  have hend:decide ((i:Int) < (e.args.length:Int))=false→ts.length=e.args.length∧Cn l e=L1 l e ts:=fun h=>by
   have hi':¬ i < e.args.length:=by simpa using h
   have hle:i≤e.args.length:=hi
   have hnil:e.args.drop i=[]:=List.drop_of_length_le (by omega)
   have h2':(Dk l e.args).2=0:=by rw [← h2];show (Dk l (e.args.drop i)).2=0;rw [hnil];rfl
   have h3':=h3 h2'
   have h4:(Dk l e.args).1=ts:=by rw [h3'];show ts++(Dk l (e.args.drop i)).1=ts;rw [hnil];simp [Dk]
   refine ⟨by omega, ?_⟩
   rw [Vl,if_pos h2',h4]
  have hargs:∀ k:Int,e.kind=k→(e.args.length:Int)=[0,0,0,1,2].getD k.toNat 0:=fun k h=>by rw [← h];exact ha
  refine (aI (fun k0=>(aI (by first | exact room | (intros;(try subst_vars);(try simp only [nB] at *);(try simp only [inK,big,lim,nL] at *);omega)) (aI ?_ (aI (fun k1=>(Aa rfl ?_)) (fun k1=>(aI (by first | exact room | (intros;(try subst_vars);(try simp only [nB] at *);(try simp only [inK,big,lim,nL] at *);omega)) (aI (by first | exact room | (intros;(try subst_vars);(try simp only [nB] at *);(try simp only [inK,big,lim,nL] at *);omega)) ?_))))))) (fun k0=>(aI (fun k2=>(Aa rfl ?_)) (fun k2=>(aI (fun k3=>(aI tT (fun (k4:(ByteArray × Int × Int) × Bool × PUnit)=>(fun k5=>(aI (fun k6=>(Aa rfl ?_)) (fun k6=>(Aa rfl ?_))))))) (fun k3=>(aI (fun k7=>(aI (fun k8=>(aI ?_ (aI (fun k9=>(Aa rfl ?_)) (fun k9=>(Aa rfl ?_))))) (fun k8=>(aI ?_ (aI (fun k10=>(Aa rfl ?_)) (fun k10=>(Aa rfl ?_))))))) (fun k7=>(aF (aF (aI ?_ (aI ?_ (aI (fun k11=>?_) (aI (fun k12=>(Aa rfl ?_)) (fun k12=>(Aa rfl ?_))))))))))))))))
  ·have hi':i < e.args.length:=by simpa using k0
   rw [eta]
   exact ⟨Nt _ _ _ hi' hc2,Nat.lt_of_lt_of_le (Jw hi') (by omega)⟩
  ·have hi':i < e.args.length:=by simpa using k0
   have hk:(Cn l (e.args.getD i (Ab .expr))).2≠0:=by have h:=k1;simp only [eta] at h;simpa using h
   have hd:=Tz l (e0:=Ab .expr) hi'
   rw [if_neg hk] at hd
   have h4:(Dk l e.args).2=(Cn l (e.args.getD i (Ab .expr))).2:=by rw [← h2];show (Dk l (e.args.drop i)).2=_;rw [hd]
   simp only [eta]
   show ((Cn l e).1,(Cn l e).2,())=(0,(Cn l (e.args.getD i (Ab .expr))).2,())
   rw [Vl,if_neg (by rw [h4];exact hk),h4]
  ·have hi':i < e.args.length:=by simpa using k0
   have hk:(Cn l (e.args.getD i (Ab .expr))).2=0:=by have h:=k1;simp only [eta] at h;simpa using h
   have hd:=Tz l (e0:=Ab .expr) hi'
   rw [if_pos hk] at hd
   refine eI ((i+1,ts++[(Cn l (ExprT.mk (e.args.getD i (Ab .expr)).kind (e.args.getD i (Ab .expr)).op (e.args.getD i (Ab .expr)).name (e.args.getD i (Ab .expr)).value (e.args.getD i (Ab .expr)).args)).1])) (eI ([some 0,some 4]) (aI ?_ (aI ?_ (aB (aI (aI (aA (by rfl)) (aA tT)) (by rfl))))))
   ·rw [eta]
    refine ⟨hi',by show (ts++[_]).length=i+1;simp [hts], ?_,fun h=>?_⟩
    ·rw [← h2];show (Dk l (e.args.drop (i+1))).2=(Dk l (e.args.drop i)).2;rw [hd]
    ·rw [h3 h];show ts++(Dk l (e.args.drop i)).1=(ts++[_])++(Dk l (e.args.drop (i+1))).1;rw [hd];simp
   ·show e.args.length - (i+1) < e.args.length - i
    omega
  ·obtain ⟨-,he⟩:=hend k0
   have h1:e.kind=1:=of_decide_eq_true k2
   show ((Cn l e).1,(Cn l e).2,())=(1,0,())
   rw [he,L1,if_pos h1]
  ·obtain ⟨-,he⟩:=hend k0
   have h1:e.kind≠1:=of_decide_eq_false k2
   have h2:e.kind=2:=of_decide_eq_true k3
   have h6:¬ (Cl l e.name).2=true:=by have h:=k6;rw [k5] at h;simpa using h
   show ((Cn l e).1,(Cn l e).2,())=(0,7,())
   rw [he,L1,if_neg h1,if_pos h2,if_neg h6]
  ·obtain ⟨-,he⟩:=hend k0
   have h1:e.kind≠1:=of_decide_eq_false k2
   have h2:e.kind=2:=of_decide_eq_true k3
   have h6:(Cl l e.name).2=true:=by have h:=k6;rw [k5] at h;simpa using h
   show ((Cn l e).1,(Cn l e).2,())=(k4.1.2.1,0,())
   rw [k5,he,L1,if_neg h1,if_pos h2,if_pos h6]
  ·obtain ⟨hl,he⟩:=hend k0
   have:=hargs _ (of_decide_eq_true k7)
   simp at this
   exact ⟨Int.le_refl _,by rw [hl];omega⟩
  ·obtain ⟨-,he⟩:=hend k0
   have h1:e.kind≠1:=of_decide_eq_false k2
   have h2:e.kind≠2:=of_decide_eq_false k3
   have h3:e.kind=3:=of_decide_eq_true k7
   have h4:e.op=2:=of_decide_eq_true k8
   have h5:¬ ts.getD 0 0=2:=by have h:=k9;simpa using h
   show ((Cn l e).1,(Cn l e).2,())=(0,15,())
   rw [he,L1,if_neg h1,if_neg h2,if_pos h3,if_pos h4,if_neg h5]
  ·obtain ⟨-,he⟩:=hend k0
   have h1:e.kind≠1:=of_decide_eq_false k2
   have h2:e.kind≠2:=of_decide_eq_false k3
   have h3:e.kind=3:=of_decide_eq_true k7
   have h4:e.op=2:=of_decide_eq_true k8
   have h5:ts.getD 0 0=2:=by have h:=k9;simpa using h
   show ((Cn l e).1,(Cn l e).2,())=(2,0,())
   rw [he,L1,if_neg h1,if_neg h2,if_pos h3,if_pos h4,if_pos h5]
  ·obtain ⟨hl,he⟩:=hend k0
   have:=hargs _ (of_decide_eq_true k7)
   simp at this
   exact ⟨Int.le_refl _,by rw [hl];omega⟩
  ·obtain ⟨-,he⟩:=hend k0
   have h1:e.kind≠1:=of_decide_eq_false k2
   have h2:e.kind≠2:=of_decide_eq_false k3
   have h3:e.kind=3:=of_decide_eq_true k7
   have h4:e.op≠2:=of_decide_eq_false k8
   have h5:¬ ts.getD 0 0=1:=by have h:=k10;simpa using h
   show ((Cn l e).1,(Cn l e).2,())=(0,15,())
   rw [he,L1,if_neg h1,if_neg h2,if_pos h3,if_neg h4,if_neg h5]
  ·obtain ⟨-,he⟩:=hend k0
   have h1:e.kind≠1:=of_decide_eq_false k2
   have h2:e.kind≠2:=of_decide_eq_false k3
   have h3:e.kind=3:=of_decide_eq_true k7
   have h4:e.op≠2:=of_decide_eq_false k8
   have h5:ts.getD 0 0=1:=by have h:=k10;simpa using h
   show ((Cn l e).1,(Cn l e).2,())=(1,0,())
   rw [he,L1,if_neg h1,if_neg h2,if_pos h3,if_neg h4,if_pos h5]
  iterate 3
   ·obtain ⟨hl,he⟩:=hend k0
    have h1:e.kind≠1:=of_decide_eq_false k2
    have h2:e.kind≠2:=of_decide_eq_false k3
    have h3:e.kind≠3:=of_decide_eq_false k7
    have:=hargs 4 (by omega)
    simp at this
    exact ⟨by decide,by rw [hl];omega⟩
  ·obtain ⟨-,he⟩:=hend k0
   have h1:e.kind≠1:=of_decide_eq_false k2
   have h2:e.kind≠2:=of_decide_eq_false k3
   have h3:e.kind≠3:=of_decide_eq_false k7
   have h4:ts.getD 0 0≠ts.getD 1 0∨(J7 e.op≠0∧ts.getD 0 0≠J7 e.op):=by
    have h:(bif !decide (ts.getD 0 0=ts.getD 1 0) then true else bif !decide (J7 e.op=0) then !decide (ts.getD 0 0=J7 e.op) else false)=true:=k12
    simp only [Bool.cond_eq_ite] at h
    grind
   show ((Cn l e).1,(Cn l e).2,())=(0,15,())
   rw [he,L1,if_neg h1,if_neg h2,if_neg h3,if_pos h4]
  ·obtain ⟨-,he⟩:=hend k0
   have h1:e.kind≠1:=of_decide_eq_false k2
   have h2:e.kind≠2:=of_decide_eq_false k3
   have h3:e.kind≠3:=of_decide_eq_false k7
   have h4:¬ (ts.getD 0 0≠ts.getD 1 0∨(J7 e.op≠0∧ts.getD 0 0≠J7 e.op)):=by
    have h:(bif !decide (ts.getD 0 0=ts.getD 1 0) then true else bif !decide (J7 e.op=0) then !decide (ts.getD 0 0=J7 e.op) else false)=false:=k12
    simp only [Bool.cond_eq_ite] at h
    grind
   show ((Cn l e).1,(Cn l e).2,())=(D2 e.op,0,())
   rw [he,L1,if_neg h1,if_neg h2,if_neg h3,if_neg h4]
def c117A:Ctr:=fnC [dX,Vc] rII (fun y=>Ed y.1=0) (fun y=>((Cn y.2.1 y.1).1,(Cn y.2.1 y.1).2,()))
theorem Aje:GoodC Tryz.prog 225 c117A:=Nl (fun y=>exW y.1) Xt
def Bb (e:ExprT) (l:List Bd):Int × Int:=if Bl e≠0 then (0,Bl e) else if Gh l=true then Cn l e else (0,1)
theorem Afy {e:ExprT} (h:Bl e=0):Ed e=0:=by
 unfold Bl at h
 split at h
 ·exact absurd h (by decide)
 ·split at h
  ·exact absurd h (by decide)
  ·exact h
def cxU:Ctx:=⟨C5,[(173,([],c79)),(224,([],c116)),(225,([],c117A))]⟩
theorem Afz:Ah Tryz.prog cxU:=Ae Zc (Ae Ai3 (Ae Aje Ag))
def c82:Ctr:=fnC [dX,Vc] rII (fun _=>True) (fun y=>((Bb y.1 y.2.1).1,(Bb y.1 y.2.1).2,()))
theorem Af0:GoodC Tryz.prog 176 c82:=by
 refine Ap Afz 3 _ _ _ _ ⟨_,Tryz.func176,rfl,rfl⟩ fun (⟨e,l,_⟩ : ExprT × List Bd × Unit) _=>?_
 refine (aF (aI tT (aI (fun h0=>(Aa rfl ?_)) (fun h0=>(aI tT (aI (fun h1=>(Aa rfl ?_)) (fun h1=>(aI ?_ (Aa rfl ?_)))))))))
 ·have hk:Bl e≠0:=by have h:=h0;simp only [eta] at h;simpa using h
  simp only [eta]
  show ((Bb e l).1,(Bb e l).2,())=(0,Bl e,())
  rw [Bb,if_pos hk]
 ·have hk:¬ Bl e≠0:=by have h:=h0;simp only [eta] at h;simpa using h
  have hb:¬ Gh l=true:=by have h:=h1;simpa using h
  show ((Bb e l).1,(Bb e l).2,())=(0,1,())
  rw [Bb,if_neg hk,if_neg hb]
 ·have hk:Bl e=0:=by have h:=h0;simp only [eta] at h;simpa using h
  simp only [eta]
  exact Afy hk
 ·have hk:¬ Bl e≠0:=by have h:=h0;simp only [eta] at h;simpa using h
  have hb:Gh l=true:=by have h:=h1;simpa using h
  simp only [eta]
  show ((Bb e l).1,(Bb e l).2,())=((Cn l e).1,(Cn l e).2,())
  rw [Bb,if_neg hk,if_pos hb]
end Go.Proofs.YtckpldpombdkgaaGreat
