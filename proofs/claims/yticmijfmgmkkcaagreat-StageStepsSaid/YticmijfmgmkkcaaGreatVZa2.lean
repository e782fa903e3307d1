import Derived.Test.YticmijfmgmkkcaaGreatVZa1
import Derived.Test.YticmijfmgmkkcaaGreatVSxFrame
import Derived.Test.YticmijfmgmkkcaaGreatVSxFreeze
import Derived.Shelf.SlGeneric
import Derived.Shelf.SortM.Plain
import Derived.Shelf.SortM.SortNone
import Derived.Ground.SlgmProg
set_option linter.unusedSimpArgs false
set_option linter.unusedVariables false
set_option maxRecDepth 100000
namespace Go.Proofs.YticmijfmgmkkcaaGreat
open Go.Sx
mutual
def msF:ExprT→Int→Int→Int × Int
 | .mk _ _ _ _ args,d,n=>if (bif decide (100 < n+1) then true else decide (100 < d))=true then (d,n+1) else msL args d d (n+1)
def msL:List ExprT→Int→Int→Int→Int × Int
 | [],_,dp,n=>(dp,n)
 | e :: l,d,dp,n=>if 100 < n then (dp,n) else msL l d (if (msF e (d+1) n).1 > dp then (msF e (d+1) n).1 else dp) (msF e (d+1) n).2
end
theorem msF_eq (e:ExprT) (d n:Int):msF e d n=if (bif decide (100 < n+1) then true else decide (100 < d))=true then (d,n+1) else msL e.args d d (n+1):=by
 obtain ⟨k,o,nm,v,args⟩:=e
 rfl
mutual
theorem msF_range:∀ (e:ExprT) (d n:Int),0≤n→n≤100→1≤d→d≤101→(n < (msF e d n).2∧(msF e d n).2≤101)∧d≤(msF e d n).1∧(msF e d n).1≤101
 | .mk _ _ _ _ args,d,n,h0,h1,h2,h3=>by
  simp only [msF]
  split
  ·exact ⟨⟨by show n < n+1;omega,by show n+1≤101;omega⟩,Int.le_refl _,h3⟩
  ·rename_i hc
   have hd:¬ 100 < d:=fun h=>hc (by rw [decide_eq_true h];cases decide (100 < n+1) <;> rfl)
   have:=msL_range args d d (n+1) (by omega) (by omega) h2 (by omega) (Int.le_refl _) h3
   omega
theorem msL_range:∀ (l:List ExprT) (d dp n:Int),0≤n→n≤101→1≤d→d≤100→d≤dp→dp≤101→(n≤(msL l d dp n).2∧(msL l d dp n).2≤101)∧d≤(msL l d dp n).1∧(msL l d dp n).1≤101
 | [],d,dp,n,h0,h1,h2,h3,h4,h5=>⟨⟨Int.le_refl _,h1⟩,h4,h5⟩
 | e :: l,d,dp,n,h0,h1,h2,h3,h4,h5=>by
  simp only [msL]
  split
  ·exact ⟨⟨Int.le_refl _,h1⟩,h4,h5⟩
  ·have hr:=msF_range e (d+1) n h0 (by omega) (by omega) (by omega)
   have:=msL_range l d (if (msF e (d+1) n).1 > dp then (msF e (d+1) n).1 else dp) (msF e (d+1) n).2 (by omega) (by omega) h2 h3 (by split <;> omega) (by split <;> omega)
   omega
end
theorem msL_drop {args:List ExprT} {i:Nat} {d dp n:Int} {e0:ExprT} (h:i < args.length):msL (args.drop i) d dp n=if 100 < n then (dp,n) else
 msL (args.drop (i+1)) d (if (msF (args.getD i e0) (d+1) n).1 > dp then (msF (args.getD i e0) (d+1) n).1 else dp) (msF (args.getD i e0) (d+1) n).2:=by
 rw [List.drop_eq_getElem_cons h]
 simp [msL,List.getD,h]
def exA (e:ExprT):AV:=.agg [.int .i64 e.kind,.int .i64 e.op,.str e.name,.int .i64 e.value,.sl .expr e.args]
def RelM (N:Nat):FuncId→List AV→List Ob→AV→List Ob→Prop:=fun g args T x1 T1 =>
 ∃ (e:ExprT) (d n:Int),exW e < N∧(0≤n∧n≤100)∧(1≤d∧d≤101)∧g=110∧args=[exA e,.int .i64 d,.ptr 0 0]∧T=[.cells [.int .i64 n]] ∧
  x1=.int .i64 (msF e d n).1∧T1=[.cells [.int .i64 (msF e d n).2]]
theorem walk110 (base:CallSem) (N:Nat) (e:ExprT) (d n:Int) (he:exW e < N) (hn:0≤n∧n≤100) (hd:1≤d∧d≤101)
 (hbase:∀ k args H m K,k+1=N→frameS (RelM k) 110 args H m K→base 110 args H m K) :
 callS cx0 Tryz.prog base 110 [exA e,.int .i64 d,.ptr 0 0] [.cells [.int .i64 n]] 1
  (fun x T' n'=>∃ σ,weak 1 σ [noW x] T' n' ⟨[.int .i64 (msF e d n).1],[.cells [.int .i64 (msF e d n).2]],1⟩):=by
 have hc:∀ c:Int,(bif decide (100 < c) then true else decide (100 < d))=false→c≤100∧d≤100:=fun c h=>by
  by_cases h1:100 < c
  ·rw [decide_eq_true h1] at h;cases h
  ·by_cases h2:100 < d
   ·rw [decide_eq_true h2] at h;cases hh:decide (100 < c) <;> rw [hh] at h <;> cases h
   ·omega
 refine (aI (by first | kernel_rfl | rfl) (aI (by intros;(try subst_vars);(try simp only [nB] at *);(try simp only [inK,big,lim,nL] at *);omega) (aI (fun h0=>?_) (fun h0=>(fun h1=>?_)))))
 ·rw [msF_eq,if_pos h0]
  exact ⟨[some 0],by rfl,by rfl,⟨⟨by rfl,by rfl⟩,trivial⟩,by rfl⟩
 obtain ⟨hc1,hc2⟩:=hc _ h0
 have h0':¬ (bif decide (100 < n+1) then true else decide (100 < d))=true:=by rw [show (bif decide (100 < n+1) then true else decide (100 < d))=false from h0];simp
 refine ex4 _ (fun p:Nat × Int × Int=>⟨[.any,.int .i64 d,.ptr 0 0,.ptr 1 0,.any,.any,.any,.int .i64 p.2.1,.any,.any,.any,.any,.any,.any,.any,.any,.any,.any,.any,.any,.any,.any,.any,.any,.any,.ptr 1 4,.sl .expr e.args,.int .i64 (↑e.args.length:Int),.int .i64 (p.1:Int)]++nA 16,[.cells [.int .i64 p.2.2],.cells   [.int .i64 e.kind,.int .i64 e.op,.str e.name,.int .i64 e.value,.sl .expr e.args]],2⟩) (fun p=>p.1≤e.args.length∧(0≤p.2.2∧p.2.2≤101)∧(d≤p.2.1∧p.2.1≤101)∧msF e d n=msL (e.args.drop p.1) d p.2.1 p.2.2) (fun p=>e.args.length - p.1) (aI (Exists.intro ((0,d,n+1)) (Exists.intro ([some 0,some 1]) (aI ?_ (aI (by rfl) (aI (by rfl) (aI (aI (aI (by rfl) (by rfl)) (aI (aI (by rfl) (by rfl)) True.intro)) (by rfl))))))) ?_)
 ·refine ⟨Nat.zero_le _,⟨by show 0≤n+1;omega,by show n+1≤101;omega⟩,⟨Int.le_refl _,hd.2⟩, ?_⟩
  rw [msF_eq,if_neg h0'];rfl
 rintro ⟨i,dp,m⟩ ⟨hi,hm,hp,ht⟩
 replace hm:0≤m∧m≤101:=hm
 replace hp:d≤dp∧dp≤101:=hp
 refine (aI (fun k0=>(aI (by intros;(try subst_vars);(try simp only [nB] at *);(try simp only [inK,big,lim,nL] at *);omega) (aI (fun k1=>?_) (fun k1=>(aI (by intros;(try subst_vars);(try simp only [nB] at *);(try simp only [inK,big,lim,nL] at *);omega) ?_))))) (fun k0=>?_))
 ·have hi':i < e.args.length:=by simpa using k0
  have hk:100 < m:=by simpa using k1
  rw [ht,msL_drop (e0:=dflt .expr) hi',if_pos hk]
  exact ⟨[some 0],by rfl,by rfl,⟨⟨by rfl,by rfl⟩,trivial⟩,by rfl⟩
 ·have hi':i < e.args.length:=by simpa using k0
  have hk:¬ 100 < m:=by simpa using k1
  have hlt:exW (e.args.getD i (dflt .expr)) < exW e:=arg_lt hi'
  obtain ⟨hr1,hr2⟩:=msF_range (e.args.getD i (dflt .expr)) (d+1) m hm.1 (by omega) (by omega) (by omega)
  have hq:=msL_drop (d:=d) (dp:=dp) (n:=m) (e0:=dflt .expr) hi'
  rw [if_neg hk] at hq
  obtain ⟨x,hx⟩ : ∃ x,e.args.getD i (dflt .expr)=x:=⟨_,rfl⟩
  obtain ⟨r,hr⟩ : ∃ r,msF x (d+1) m=r:=⟨_,rfl⟩
  rw [hx] at hlt hr1 hr2 hq
  rw [hr] at hr1 hr2 hq
  refine hbase (N - 1) _ _ _ _ (by omega) ⟨True.intro,[exA x,.int .i64 (d+1),.ptr 0 0],[.cells [.int .i64 m]],.int .i64 (msF x (d+1) m).1,[.cells [.int .i64 (msF x (d+1) m).2]],[some 0],
   ⟨x,d+1,m,by omega,⟨hm.1,by omega⟩,⟨by omega,by omega⟩,rfl,rfl,rfl,rfl,rfl⟩,⟨by rw [← hx];rfl,by rfl,⟨⟨by rfl,by rfl⟩,trivial⟩,by rfl⟩,by rfl, ?_⟩
  rw [hr]
  obtain ⟨dp1,m1⟩:=r
  dsimp only [putL,renObs,renOb,renAL,renA,setN,getN,newN,List.length_cons,List.length_nil,List.cons_append,List.nil_append,Nat.reduceAdd,Nat.reduceSub]
  refine (aI (by intros;(try subst_vars);(try simp only [nB] at *);(try simp only [inK,big,lim,nL] at *);omega) ?_)
  refine Exists.intro ((i+1,if dp1 > dp then dp1 else dp,m1)) (Exists.intro ([some 0,some 1]) (aI ?_ (aI ?_ (aI (by rfl) (aI (by rfl) (aI (aI (aI (by rfl) (by rfl)) (aI (aI (by rfl) (by rfl)) True.intro)) (by rfl)))))))
  ·refine ⟨hi',⟨?_,hr1.2⟩,⟨?_, ?_⟩, ?_⟩
   ·show 0≤m1
    have:m < m1:=hr1.1
    omega
   ·show d≤if dp1 > dp then dp1 else dp
    split <;> omega
   ·show (if dp1 > dp then dp1 else dp)≤101
    have:dp1≤101:=hr2.2
    split <;> omega
   ·rw [ht];exact hq
  ·show e.args.length - (i+1) < e.args.length - i
   omega
 ·have hi':¬ i < e.args.length:=by simpa using k0
  rw [ht,List.drop_of_length_le (by omega)]
  exact ⟨[some 0],by rfl,by rfl,⟨⟨by rfl,by rfl⟩,trivial⟩,by rfl⟩
def semM:Nat→CallSem
 | 0=>callS cx0 Tryz.prog fun _ _ _ _ _=>False
 | N+1=>callS cx0 Tryz.prog (frameS (RelM N))
theorem semM_rel (N:Nat):∀ g args T x1 T1,RelM N g args T x1 T1→semM N g args T T.length (fun x T' n'=>∃ σ,weak T.length σ [noW x] T' n' ⟨[x1],T1,T1.length⟩):=by
 rintro g args T x1 T1 ⟨e,d,n,he,hn,hd,rfl,rfl,rfl,rfl,rfl⟩
 cases N with
 | zero=>omega
 | succ N=>exact walk110 _ (N+1) e d n he hn hd (fun k args H m K h h'=>by
  have:k=N:=by omega
  exact this ▸ h')
theorem semM_ok:∀ N,CallOk Tryz.prog (semM N)
 | 0=>callS_good cx0_good no_call
 | N+1=>callS_good cx0_good (frame_ok (semM_ok N) (semM_rel N))
def RelMU:FuncId→List AV→List Ob→AV→List Ob→Prop:=fun g a T x T1=>∃ k,RelM k g a T x T1
theorem frameM_ok:CallOk Tryz.prog (frameS RelMU) :=
 frame_ok (sem:=fun g a H n K=>∃ d,semM d g a H n K) ⟨fun g a H n K ⟨d,h⟩=>(semM_ok d).1 g a H n K h,fun id a H n K ⟨d,h⟩=>(semM_ok d).2 id a H n K h⟩ fun g a T x T1 ⟨k,h⟩=>⟨k,semM_rel k g a T x T1 h⟩
end Go.Proofs.YticmijfmgmkkcaaGreat
namespace Go.Proofs.YticmijfmgmkkcaaGreat
open Go.Sx
def findRF:Code→Option (Code × Code)
 | .rangeFunc _ _ x y=>some (x,y)
 | .seq a b=>(match findRF a with | some r=>some r | none=>findRF b)
 | .cond _ a b=>(match findRF a with | some r=>some r | none=>findRF b)
 | .block _ a=>findRF a
 | .loop a=>findRF a
 | _=>none
noncomputable def rfOf (g:Nat):Code × Code:=match Tryz.prog.funcs[g]? with
 | some fn=>(match fn.body with
  | some c=>(findRF c).getD (.skip,.skip)
  | none=>(.skip,.skip))
 | none=>(.skip,.skip)
mutual
def chkT:ExprT→Int
 | .mk k o nm v args=>if chkNode (.mk k o nm v args)=0 then chkL args else chkNode (.mk k o nm v args)
def chkL:List ExprT→Int
 | []=>0
 | e :: l=>if chkT e=0 then chkL l else chkT e
end
theorem chkT_eq (e:ExprT):chkT e=if chkNode e=0 then chkL e.args else chkNode e:=by
 obtain ⟨k,o,nm,v,args⟩:=e
 rfl
theorem chkL_drop {args:List ExprT} {i:Nat} {e0:ExprT} (h:i < args.length):chkL (args.drop i)=if chkT (args.getD i e0)=0 then chkL (args.drop (i+1)) else chkT (args.getD i e0):=by
 rw [List.drop_eq_getElem_cons h]
 simp [chkL,List.getD,h]
def slC:List AV:=[.any,.any,.ptr 0 0,.any,.any,.any,.any,.any,.any,.any,.any,.any,.any,.any,.any,.any,.any,.any,.any,.any,.any]
noncomputable def vcT:List Ob:=[.cells [.int .i64 0],.loop .ready .no [15] (rfOf 79).1 (rfOf 79).2 slC]
noncomputable def vcT1 (r:Int):List Ob:=[.cells [.int .i64 r],.loop .done .ret [15] (rfOf 79).1 (rfOf 79).2 slC]
def RelV (N:Nat):FuncId→List AV→List Ob→AV→List Ob→Prop:=fun g args T x1 T1 =>
 ∃ e:ExprT,exW e < N∧g=129∧args=[exA e,.yld 1]∧T=vcT ∧
  ((chkT e=0∧x1=.bool true∧T1=vcT)∨(chkT e≠0∧x1=.bool false∧T1=vcT1 (chkT e)))
def cxV:Ctx:=⟨tys0,[(112,([],c112))]⟩
theorem cxV_good:GoodCtx Tryz.prog cxV:=cx_cons good112 cx0_good
def noS:CallSem:=fun _ _ _ _ _=>False
theorem walk129 (base:CallSem) (N:Nat) (e:ExprT) (he:exW e < N)
 (hbase:∀ k args H m K,k+1=N→frameS (RelV k) 129 args H m K→base 129 args H m K) (x1:AV) (T1:List Ob)
 (hx:(chkT e=0∧x1=.bool true∧T1=vcT)∨(chkT e≠0∧x1=.bool false∧T1=vcT1 (chkT e))) :
 callS cxV Tryz.prog (condS 129 base (callS cxV Tryz.prog noS)) 129 [exA e,.yld 1] vcT 2
  (fun x T' n'=>∃ σ,weak 2 σ [noW x] T' n' ⟨[x1],T1,T1.length⟩):=by
 refine (aI (by first | kernel_rfl | rfl) (aI True.intro (aI (fun h0=>(aI (fun h1=>?_) (fun h1=>False.elim (Bool.false_ne_true (Eq.symm (Eq.trans (by kernel_rfl) h1)))))) (fun h0=>(aI (fun h2=>nF (by kernel_rfl) h2) (fun h2=>(fun h3=>?_)))))))
 ·have hk:chkNode e≠0:=by have h:=h0;simp only [eta] at h;simpa using h
  have ht:chkT e=chkNode e:=by rw [chkT_eq,if_neg hk]
  rcases hx with ⟨h,-⟩ | ⟨-,rfl,rfl⟩
  ·rw [ht] at h;exact absurd h hk
  ·rw [ht]
   exact ⟨[some 0,some 1],by rfl,by rfl,⟨⟨by simp only [eta];rfl,by rfl⟩,⟨⟨rfl,rfl,rfl,rfl,rfl⟩,by rfl,by rfl⟩,trivial⟩,by rfl⟩
 have hk:chkNode e=0:=by have h:=h0;simp only [eta] at h;simpa using h
 have ht:chkT e=chkL e.args:=by rw [chkT_eq,if_pos hk]
 refine ex4 _ (fun i:Nat=>⟨[.any,.yld 1,.ptr 2 0,.any,.any,.any,.any,.any,.any,.any,.any,.ptr 2 4,.sl .expr e.args,.int .i64 (↑e.args.length:Int),.int .i64 (i:Int),.any,.any,.any,.any,.any,.any,.any,.any],[.cells [.int .i64 0],.loop .ready .no ([15]) _ _ [.any,.any,.ptr 0 0,.any,.any,.any,.any,.any,.any,.any,.any,.any,.any,.any,.any,.any,.any,.any,.any,.any,.any],.cells   [.int .i64 e.kind,.int .i64 e.op,.str e.name,.int .i64 e.value,.sl .expr e.args],.cells   [.int .i64 e.kind,.int .i64 e.op,.str e.name,.int .i64 e.value,.sl .expr e.args]],4⟩) (fun i=>i≤e.args.length∧chkT e=chkL (e.args.drop i)) (fun i=>e.args.length - i) (aI (Exists.intro (0) (Exists.intro ([some 0,some 1,some 2,some 3]) (aI ?_ (aI (by rfl) (aI (by rfl) (aI (aI (aI (by rfl) (by rfl)) (aI (aI (aI rfl (aI rfl (aI rfl (aI rfl rfl)))) (aI (by rfl) (by rfl))) (aI (aI (by rfl) (by rfl)) (aI (aI (by rfl) (by rfl)) True.intro)))) (by rfl))))))) ?_)
 ·exact ⟨Nat.zero_le _,ht⟩
 clear ht
 rintro i ⟨hi,ht⟩
 refine (aI (fun k0=>(aI (by intros;(try subst_vars);(try simp only [nB] at *);(try simp only [inK,big,lim,nL] at *);omega) ?_)) (fun k0=>?_))
 ·have hi':i < e.args.length:=by simpa using k0
  have hlt:exW (e.args.getD i (dflt .expr)) < exW e:=arg_lt hi'
  have hq:=chkL_drop (e0:=dflt .expr) hi'
  obtain ⟨x,hxx⟩ : ∃ x,e.args.getD i (dflt .expr)=x:=⟨_,rfl⟩
  rw [hxx] at hlt hq
  by_cases hz:chkT x=0
  ·rw [if_pos hz] at hq
   refine hbase (N - 1) _ _ _ _ (by omega) ⟨True.intro,[exA x,.yld 1],vcT,.bool true,vcT,[some 0,some 1],
    ⟨x,by omega,rfl,rfl,rfl,.inl ⟨hz,rfl,rfl⟩⟩,⟨by rw [← hxx];rfl,by rfl,⟨⟨by rfl,by rfl⟩,⟨⟨rfl,rfl,rfl,rfl,rfl⟩,by rfl,by rfl⟩,trivial⟩,by rfl⟩,by rfl, ?_⟩
   dsimp only [vcT,putL,renObs,renOb,renAL,renA,setN,getN,newN,List.length_cons,List.length_nil,List.cons_append,List.nil_append,Nat.reduceAdd,Nat.reduceSub]
   refine (aI (fun w0=>nF (by kernel_rfl) w0) (fun w0=>(aI (by intros;(try subst_vars);(try simp only [nB] at *);(try simp only [inK,big,lim,nL] at *);omega) ?_)))
   refine Exists.intro (i+1) (Exists.intro ([some 0,some 1,some 2,some 3]) (aI ?_ (aI ?_ (aI (by rfl) (aI (by rfl) (aI (aI (aI (by rfl) (by rfl)) (aI (aI (aI rfl (aI rfl (aI rfl (aI rfl rfl)))) (aI (by rfl) (by rfl))) (aI (aI (by rfl) (by rfl)) (aI (aI (by rfl) (by rfl)) True.intro)))) (by rfl)))))))
   ·exact ⟨hi',ht.trans hq⟩
   ·show e.args.length - (i+1) < e.args.length - i
    omega
  ·rw [if_neg hz] at hq
   have ht':chkT e=chkT x:=ht.trans hq
   refine hbase (N - 1) _ _ _ _ (by omega) ⟨True.intro,[exA x,.yld 1],vcT,.bool false,vcT1 (chkT x),[some 0,some 1],
    ⟨x,by omega,rfl,rfl,rfl,.inr ⟨hz,rfl,rfl⟩⟩,⟨by rw [← hxx];rfl,by rfl,⟨⟨by rfl,by rfl⟩,⟨⟨rfl,rfl,rfl,rfl,rfl⟩,by rfl,by rfl⟩,trivial⟩,by rfl⟩,by rfl, ?_⟩
   dsimp only [vcT,vcT1,slC,putL,renObs,renOb,renAL,renA,setN,getN,newN,List.length_cons,List.length_nil,List.cons_append,List.nil_append,Nat.reduceAdd,Nat.reduceSub]
   refine (aI (fun w0=>?_) (fun w0=>False.elim (Bool.false_ne_true (Eq.symm (Eq.trans (by kernel_rfl) w0)))))
   rcases hx with ⟨h,-⟩ | ⟨-,rfl,rfl⟩
   ·rw [ht'] at h;exact absurd h hz
   ·rw [ht']
    exact ⟨[some 0,some 1],by rfl,by rfl,⟨⟨by rfl,by rfl⟩,⟨⟨rfl,rfl,rfl,rfl,rfl⟩,by rfl,by rfl⟩,trivial⟩,by rfl⟩
 ·have hi':¬ i < e.args.length:=by simpa using k0
  have ht':chkT e=0:=by rw [ht,List.drop_of_length_le (by omega)];rfl
  rcases hx with ⟨-,rfl,rfl⟩ | ⟨h,-⟩
  ·exact ⟨[some 0,some 1],by rfl,by rfl,⟨⟨by rfl,by rfl⟩,⟨⟨rfl,rfl,rfl,rfl,rfl⟩,by rfl,by rfl⟩,trivial⟩,by rfl⟩
  ·exact absurd ht' h
def semV:Nat→CallSem
 | 0=>callS cxV Tryz.prog (condS 129 noS (callS cxV Tryz.prog noS))
 | N+1=>callS cxV Tryz.prog (condS 129 (frameS (RelV N)) (callS cxV Tryz.prog noS))
theorem semV_rel (N:Nat):∀ g args T x1 T1,RelV N g args T x1 T1→semV N g args T T.length (fun x T' n'=>∃ σ,weak T.length σ [noW x] T' n' ⟨[x1],T1,T1.length⟩):=by
 rintro g args T x1 T1 ⟨e,he,rfl,rfl,rfl,hx⟩
 cases N with
 | zero=>omega
 | succ N=>exact walk129 _ (N+1) e he (fun k args H m K h h'=>by
  have:k=N:=by omega
  exact this ▸ h') x1 T1 hx
theorem semV_ok:∀ N,CallOk Tryz.prog (semV N)
 | 0=>callS_good cxV_good (condS_ok no_call (callS_good cxV_good no_call))
 | N+1=>callS_good cxV_good (condS_ok (frame_ok (semV_ok N) (semV_rel N)) (callS_good cxV_good no_call))
def RelVU:FuncId→List AV→List Ob→AV→List Ob→Prop:=fun g a T x T1=>∃ k,RelV k g a T x T1
theorem frameV_ok:CallOk Tryz.prog (frameS RelVU) :=
 frame_ok (sem:=fun g a H n K=>∃ d,semV d g a H n K) ⟨fun g a H n K ⟨d,h⟩=>(semV_ok d).1 g a H n K h,fun id a H n K ⟨d,h⟩=>(semV_ok d).2 id a H n K h⟩ fun g a T x T1 ⟨k,h⟩=>⟨k,semV_rel k g a T x T1 h⟩
def exChk (e:ExprT):Int:=if decide (100 < (msF e 1 0).2)=true then 4 else if decide (12 < (msF e 1 0).1)=true then 22 else chkT e
theorem exChk_4 {e:ExprT} (h:decide (100 < (msF e 1 0).2)=true):exChk e=4:=by rw [exChk,if_pos h]
theorem exChk_22 {e:ExprT} (h:decide (100 < (msF e 1 0).2)=false) (h':decide (12 < (msF e 1 0).1)=true):exChk e=22:=by rw [exChk,if_neg (by rw [h];simp),if_pos h']
theorem exChk_T {e:ExprT} (h:decide (100 < (msF e 1 0).2)=false) (h':decide (12 < (msF e 1 0).1)=false):exChk e=chkT e:=by rw [exChk,if_neg (by rw [h];simp),if_neg (by rw [h'];simp)]
def c79:Ctr:=fnC [dX] rI (fun _=>True) (fun y=>(exChk y.1,()))
theorem good79:GoodC Tryz.prog 79 c79:=by
 refine goodFS (callS_good cx0_good (condS_ok (g0:=110) frameM_ok (callS_good cx0_good (condS_ok (g0:=129) frameV_ok (callS_good cx0_good no_call))))) _ _ _ _ ⟨_,Tryz.func79,rfl,rfl⟩ fun (⟨e,_⟩ : ExprT × Unit) _=>?_
 refine (aI (by first | kernel_rfl | rfl) (aI True.intro ?_))
 refine Exists.intro [exA e,.int .i64 1,.ptr 0 0] (Exists.intro [.cells [.int .i64 0]] (Exists.intro (.int .i64 (msF e 1 0).1) (Exists.intro [.cells [.int .i64 (msF e 1 0).2]] (Exists.intro [some 2]
  ⟨⟨_,e,1,0,Nat.lt_succ_self _,⟨by decide,by decide⟩,⟨by decide,by decide⟩,rfl,rfl,rfl,rfl,rfl⟩,⟨by rfl,by rfl,⟨⟨by rfl,by rfl⟩,trivial⟩,by rfl⟩,by rfl, ?_⟩))))
 dsimp only [putL,renObs,renOb,renAL,renA,setN,getN,newN,List.length_cons,List.length_nil,List.cons_append,List.nil_append,Nat.reduceAdd,Nat.reduceSub]
 refine (aI (fun w0=>(fin_of rfl ?_)) (fun w0=>(aI (fun w1=>(fin_of rfl ?_)) (fun w1=>(aI (by first | kernel_rfl | rfl) (aI (by first | kernel_rfl | rfl) (aI (by first | kernel_rfl | rfl) (aI True.intro ?_))))))))
 ·show (exChk e,())=_
  rw [exChk_4 w0]
 ·show (exChk e,())=_
  rw [exChk_22 w0 w1]
 have hck:=exChk_T w0 w1
 by_cases hz:chkT e=0
 ·refine Exists.intro [exA e,.yld 1] (Exists.intro vcT (Exists.intro (.bool true) (Exists.intro vcT (Exists.intro [some 1,some 4]
   ⟨⟨_,e,Nat.lt_succ_self _,rfl,rfl,rfl,.inl ⟨hz,rfl,rfl⟩⟩,⟨by rfl,by rfl,⟨⟨by rfl,by rfl⟩,⟨⟨rfl,rfl,rfl,by kernel_rfl,by kernel_rfl⟩,by rfl,by rfl⟩,trivial⟩,by rfl⟩,by rfl, ?_⟩))))
  dsimp only [vcT,vcT1,slC,putL,renObs,renOb,renAL,renA,setN,getN,newN,List.length_cons,List.length_nil,List.cons_append,List.nil_append,Nat.reduceAdd,Nat.reduceSub]
  refine (fin_of rfl ?_)
  show (exChk e,())=(0,())
  rw [hck,hz]
 ·refine Exists.intro [exA e,.yld 1] (Exists.intro vcT (Exists.intro (.bool false) (Exists.intro (vcT1 (chkT e)) (Exists.intro [some 1,some 4]
   ⟨⟨_,e,Nat.lt_succ_self _,rfl,rfl,rfl,.inr ⟨hz,rfl,rfl⟩⟩,⟨by rfl,by rfl,⟨⟨by rfl,by rfl⟩,⟨⟨rfl,rfl,rfl,by kernel_rfl,by kernel_rfl⟩,by rfl,by rfl⟩,trivial⟩,by rfl⟩,by rfl, ?_⟩))))
  dsimp only [vcT,vcT1,slC,putL,renObs,renOb,renAL,renA,setN,getN,newN,List.length_cons,List.length_nil,List.cons_append,List.nil_append,Nat.reduceAdd,Nat.reduceSub]
  refine (fin_of rfl ?_)
  show (exChk e,())=(chkT e,())
  rw [hck]
end Go.Proofs.YticmijfmgmkkcaaGreat
namespace Go.Proofs.YticmijfmgmkkcaaGreat
open Go.Sx
mutual
def namT:ExprT→List ByteArray
 | .mk k _ nm _ args=>(if k=2 then [nm] else [])++namL args
def namL:List ExprT→List ByteArray
 | []=>[]
 | e :: l=>namT e++namL l
end
theorem namT_eq (e:ExprT):namT e=(if e.kind=2 then [e.name] else [])++namL e.args:=by
 obtain ⟨k,o,nm,v,args⟩:=e
 rfl
theorem namL_take {args:List ExprT} {i:Nat} {e0:ExprT} (h:i < args.length):namL (args.take (i+1))=namL (args.take i)++namT (args.getD i e0):=by
 induction args generalizing i with
 | nil=>exact absurd h (Nat.not_lt_zero _)
 | cons a l ih =>
  cases i with
  | zero=>simp [namL]
  | succ i =>
   have:=ih (i:=i) (by simpa using h)
   simp only [List.take_succ_cons,namL,List.append_assoc,this]
   rfl
theorem namL_len {args:List ExprT} (i:Nat):(namL (args.take i)).length≤(namL args).length:=by
 induction args generalizing i with
 | nil=>simp
 | cons a l ih =>
  cases i with
  | zero=>simp [namL]
  | succ i =>
   have:=ih i
   simp only [List.take_succ_cons,namL,List.length_append]
   omega
mutual
def prtT:ExprT→Nat
 | .mk _ _ _ _ args=>1+prtL args
def prtL:List ExprT→Nat
 | []=>0
 | e :: l=>prtT e+prtL l
end
mutual
theorem nam_prt:∀ e:ExprT,(namT e).length≤prtT e
 | .mk k _ nm _ args=>by
  have:=nam_prtL args
  simp only [namT,prtT,List.length_append]
  split <;> simp only [List.length_cons,List.length_nil] <;> omega
theorem nam_prtL:∀ l:List ExprT,(namL l).length≤prtL l
 | []=>Nat.le_refl _
 | e :: l=>by
  have h1:=nam_prt e
  have h2:=nam_prtL l
  simp only [namL,prtL,List.length_append]
  omega
end
mutual
theorem ms_prt:∀ (e:ExprT) (d n:Int),(msF e d n).2≤100→(msF e d n).1≤100→(msF e d n).2=n+prtT e∧d≤(msF e d n).1
 | .mk _ _ _ _ args,d,n,h1,h2=>by
  simp only [msF] at h1 h2 ⊢
  split at h1
  ·rename_i hc
   rw [if_pos hc] at h2
   exfalso
   by_cases h3:100 < n+1
   ·exact absurd h1 (by omega)
   ·rw [decide_eq_false h3] at hc
    exact absurd h2 (by have:=of_decide_eq_true hc;omega)
  ·rename_i hc
   rw [if_neg hc] at h2
   rw [if_neg hc]
   have:=msL_prt args d d (n+1) h1 h2
   rw [this.1]
   simp only [prtT]
   omega
theorem msL_prt:∀ (l:List ExprT) (d dp n:Int),(msL l d dp n).2≤100→(msL l d dp n).1≤100→(msL l d dp n).2=n+prtL l∧dp≤(msL l d dp n).1
 | [],d,dp,n,h1,h2=>⟨by simp only [msL,prtL];omega,Int.le_refl _⟩
 | e :: l,d,dp,n,h1,h2=>by
  simp only [msL] at h1 h2 ⊢
  split at h1
  ·rename_i hc
   exact absurd h1 (by omega)
  ·rename_i hc
   rw [if_neg hc] at h2
   rw [if_neg hc]
   have hl:=msL_prt l d (if (msF e (d+1) n).1 > dp then (msF e (d+1) n).1 else dp) (msF e (d+1) n).2 h1 h2
   have hd:(msF e (d+1) n).1≤100:=by
    have:=hl.2
    split at this <;> omega
   have hn:(msF e (d+1) n).2≤100:=by rw [hl.1] at h1;omega
   have he:=ms_prt e (d+1) n hn hd
   have h3:=hl.2
   refine ⟨by rw [hl.1,he.1];simp only [prtL];omega, ?_⟩
   split at h3
   ·rename_i hg;rw [if_pos hg];omega
   ·rename_i hg;rw [if_neg hg];exact h3
end
theorem chk_prt {e:ExprT} (h:exChk e=0):prtT e≤100:=by
 unfold exChk at h
 split at h
 ·exact absurd h (by decide)
 ·rename_i h1
  split at h
  ·exact absurd h (by decide)
  ·rename_i h2
   simp only [decide_eq_true_eq] at h1 h2
   have:=(ms_prt e 1 0 (by omega) (by omega)).1
   omega
def slN:List AV:=[.any,.any,.any,.ptr 0 0,.any,.any,.any,.any,.any,.any,.any,.any,.any,.any,.any,.any,.any,.any,.any,.any,.any,.any,.any]
noncomputable def vnT (xs:List ByteArray):List Ob:=[.cells [.own 1],.rows .str xs,.loop .ready .no [10] (rfOf 80).1 (rfOf 80).2 slN]
noncomputable def vnT1 (xs:List ByteArray):List Ob:=[.cells [.own 3],.dead,.loop .ready .no [10] (rfOf 80).1 (rfOf 80).2 slN,.rows .str xs]
def RelN (N:Nat):FuncId→List AV→List Ob→AV→List Ob→Prop:=fun g args T x1 T1 =>
 ∃ (e:ExprT) (xs:List ByteArray),exW e < N∧xs.length+(namT e).length≤100∧g=129∧args=[exA e,.yld 2]∧T=vnT xs∧x1=.bool true∧T1=vnT1 (xs++namT e)
theorem walk129n (base:CallSem) (N:Nat) (e:ExprT) (xs:List ByteArray) (he:exW e < N) (hn:xs.length+(namT e).length≤100)
 (hbase:∀ k args H m K,k+1=N→frameS (RelN k) 129 args H m K→base 129 args H m K) :
 callS cx0 Tryz.prog (condS 129 base (callS cx0 Tryz.prog noS)) 129 [exA e,.yld 2] (vnT xs) 3
  (fun x T' n'=>∃ σ,weak 3 σ [noW x] T' n' ⟨[.bool true],vnT1 (xs++namT e),4⟩):=by
 have room:∀ k:Nat,k≤101→(xs.length+k) * 16≤lim:=fun k hk=>by simp only [lim];omega
 refine (aI (by first | kernel_rfl | rfl) (aI (fun h0=>(aI (by first | exact room 1 (by omega) | (intros;(try subst_vars);(try simp only [nB] at *);(try simp only [inK,big,lim,nL] at *);omega)) (aI (fun h1=>nF (by kernel_rfl) h1) (fun h1=>(fun h2=>?_))))) (fun h0=>(aI (fun h3=>nF (by kernel_rfl) h3) (fun h3=>(fun h4=>?_))))))
 ·have e0:namT e=[e.name]++namL e.args:=by rw [namT_eq];have h:=h0;simp at h;rw [if_pos h]
  have hl:=e0 ▸ hn
  rw [List.length_append] at hl
  refine ex4 _ (fun p:Nat × List ByteArray=>⟨[.any,.yld 2,.ptr 3 0,.any,.any,.any,.any,.any,.any,.any,.any,.ptr 3 4,.sl .expr e.args,.int .i64 (↑e.args.length:Int),.int .i64 (p.1:Int),.any,.any,.any,.any,.any,.any,.any,.any],[.cells [.own 6],.dead,.loop .ready .no ([10]) _ _ [.any,.any,.any,.ptr 0 0,.any,.any,.any,.any,.any,.any,.any,.any,.any,.any,.any,.any,.any,.any,.any,.any,.any,.any,.any],.cells   [.int .i64 e.kind,.int .i64 e.op,.str e.name,.int .i64 e.value,.sl .expr e.args],.cells   [.int .i64 e.kind,.int .i64 e.op,.str e.name,.int .i64 e.value,.sl .expr e.args],.dead,.rows .str p.2],7⟩) (fun p=>p.1≤e.args.length∧p.2=xs++([e.name]++namL (e.args.take p.1))) (fun p=>e.args.length - p.1) (aI (Exists.intro ((0,xs++[e.name])) (Exists.intro ([some 0,some 1,some 2,some 3,some 4,some 5,some 6]) (aI ?_ (aI (by rfl) (aI (by rfl) (aI (aI (aI (by rfl) (by rfl)) (aI (aI (aI rfl (aI rfl (aI rfl (aI rfl rfl)))) (aI (by rfl) (by rfl))) (aI (aI (by rfl) (by rfl)) (aI (aI (by rfl) (by rfl)) (aI (by rfl) True.intro))))) (by rfl))))))) ?_)
  ·exact ⟨Nat.zero_le _,by simp [namL]⟩
  rintro ⟨i,ys⟩ ⟨hi,hy⟩
  replace hy:ys=xs++([e.name]++namL (e.args.take i)):=hy
  refine (aI (fun k0=>(aI (by intros;(try subst_vars);(try simp only [nB] at *);(try simp only [inK,big,lim,nL] at *);omega) ?_)) (fun k0=>?_))
  ·have hi':i < e.args.length:=by simpa using k0
   have hlt:exW (e.args.getD i (dflt .expr)) < exW e:=arg_lt hi'
   have hq:=namL_take (e0:=dflt .expr) hi'
   have hq2:=namL_len (args:=e.args) (i+1)
   obtain ⟨x,hxx⟩ : ∃ x,e.args.getD i (dflt .expr)=x:=⟨_,rfl⟩
   rw [hxx] at hlt hq
   have hy2:ys++namT x=xs++([e.name]++namL (e.args.take (i+1))):=by rw [hy,hq];simp only [List.append_assoc]
   have hy3:ys.length+(namT x).length≤100:=by
    have h4:=congrArg List.length hy2
    simp only [List.length_append,List.length_cons,List.length_nil] at h4 hl
    omega
   refine hbase (N - 1) _ _ _ _ (by omega) ⟨True.intro,[exA x,.yld 2],vnT ys,.bool true,vnT1 (ys++namT x),[some 0,some 6,some 2],
    ⟨x,ys,by omega,hy3,rfl,rfl,rfl,rfl,rfl⟩,⟨by rw [← hxx];rfl,by rfl,⟨⟨by rfl,by rfl⟩,by rfl,⟨⟨rfl,rfl,rfl,rfl,rfl⟩,by rfl,by rfl⟩,trivial⟩,by rfl⟩,by rfl, ?_⟩
   obtain ⟨zs,hz⟩ : ∃ zs,ys++namT x=zs:=⟨_,rfl⟩
   rw [hz] at hy2
   rw [hz]
   dsimp only [vnT,vnT1,slN,putL,renObs,renOb,renAL,renA,setN,getN,newN,List.length_cons,List.length_nil,List.cons_append,List.nil_append,Nat.reduceAdd,Nat.reduceSub]
   refine (aI (fun w0=>nF (by kernel_rfl) w0) (fun w0=>(aI (by intros;(try subst_vars);(try simp only [nB] at *);(try simp only [inK,big,lim,nL] at *);omega) ?_)))
   refine Exists.intro ((i+1,zs)) (Exists.intro ([some 0,some 1,some 2,some 3,some 4,some 5,some 8]) (aI ?_ (aI ?_ (aI (by rfl) (aI (by rfl) (aI (aI (aI (by rfl) (by rfl)) (aI (aI (aI rfl (aI rfl (aI rfl (aI rfl rfl)))) (aI (by rfl) (by rfl))) (aI (aI (by rfl) (by rfl)) (aI (aI (by rfl) (by rfl)) (aI (by rfl) True.intro))))) (by rfl)))))))
   ·exact ⟨hi',hy2⟩
   ·show e.args.length - (i+1) < e.args.length - i
    omega
  ·have hi':¬ i < e.args.length:=by simpa using k0
   have hy2:ys=xs++namT e:=by rw [hy,List.take_of_length_le (by omega),e0]
   rw [← hy2]
   exact ⟨[some 0,none,some 2,some 6],by rfl,by rfl,⟨⟨by rfl,by rfl⟩,⟨⟨rfl,rfl,rfl,rfl,rfl⟩,by rfl,by rfl⟩,by rfl,trivial⟩,by rfl⟩
 ·have e0:namT e=[]++namL e.args:=by rw [namT_eq];have h:=h0;simp at h;rw [if_neg h]
  have hl:=e0 ▸ hn
  rw [List.length_append] at hl
  refine ex4 _ (fun p:Nat × List ByteArray=>⟨[.any,.yld 2,.ptr 3 0,.any,.any,.any,.any,.any,.any,.any,.any,.ptr 3 4,.sl .expr e.args,.int .i64 (↑e.args.length:Int),.int .i64 (p.1:Int),.any,.any,.any,.any,.any,.any,.any,.any],[.cells [.own 5],.dead,.loop .ready .no ([10]) _ _ [.any,.any,.any,.ptr 0 0,.any,.any,.any,.any,.any,.any,.any,.any,.any,.any,.any,.any,.any,.any,.any,.any,.any,.any,.any],.cells   [.int .i64 e.kind,.int .i64 e.op,.str e.name,.int .i64 e.value,.sl .expr e.args],.cells   [.int .i64 e.kind,.int .i64 e.op,.str e.name,.int .i64 e.value,.sl .expr e.args],.rows .str p.2],6⟩) (fun p=>p.1≤e.args.length∧p.2=xs++([]++namL (e.args.take p.1))) (fun p=>e.args.length - p.1) (aI (Exists.intro ((0,xs)) (Exists.intro ([some 0,some 1,some 2,some 3,some 4,some 1]) (aI ?_ (aI (by rfl) (aI (by rfl) (aI (aI (aI (by rfl) (by rfl)) (aI (aI (aI rfl (aI rfl (aI rfl (aI rfl rfl)))) (aI (by rfl) (by rfl))) (aI (aI (by rfl) (by rfl)) (aI (aI (by rfl) (by rfl)) (aI (by rfl) True.intro))))) (by rfl))))))) ?_)
  ·exact ⟨Nat.zero_le _,by simp [namL]⟩
  rintro ⟨i,ys⟩ ⟨hi,hy⟩
  replace hy:ys=xs++([]++namL (e.args.take i)):=hy
  refine (aI (fun k0=>(aI (by intros;(try subst_vars);(try simp only [nB] at *);(try simp only [inK,big,lim,nL] at *);omega) ?_)) (fun k0=>?_))
  ·have hi':i < e.args.length:=by simpa using k0
   have hlt:exW (e.args.getD i (dflt .expr)) < exW e:=arg_lt hi'
   have hq:=namL_take (e0:=dflt .expr) hi'
   have hq2:=namL_len (args:=e.args) (i+1)
   obtain ⟨x,hxx⟩ : ∃ x,e.args.getD i (dflt .expr)=x:=⟨_,rfl⟩
   rw [hxx] at hlt hq
   have hy2:ys++namT x=xs++([]++namL (e.args.take (i+1))):=by rw [hy,hq];simp only [List.append_assoc]
   have hy3:ys.length+(namT x).length≤100:=by
    have h4:=congrArg List.length hy2
    simp only [List.length_append,List.length_cons,List.length_nil] at h4 hl
    omega
   refine hbase (N - 1) _ _ _ _ (by omega) ⟨True.intro,[exA x,.yld 2],vnT ys,.bool true,vnT1 (ys++namT x),[some 0,some 5,some 2],
    ⟨x,ys,by omega,hy3,rfl,rfl,rfl,rfl,rfl⟩,⟨by rw [← hxx];rfl,by rfl,⟨⟨by rfl,by rfl⟩,by rfl,⟨⟨rfl,rfl,rfl,rfl,rfl⟩,by rfl,by rfl⟩,trivial⟩,by rfl⟩,by rfl, ?_⟩
   obtain ⟨zs,hz⟩ : ∃ zs,ys++namT x=zs:=⟨_,rfl⟩
   rw [hz] at hy2
   rw [hz]
   dsimp only [vnT,vnT1,slN,putL,renObs,renOb,renAL,renA,setN,getN,newN,List.length_cons,List.length_nil,List.cons_append,List.nil_append,Nat.reduceAdd,Nat.reduceSub]
   refine (aI (fun w0=>nF (by kernel_rfl) w0) (fun w0=>(aI (by intros;(try subst_vars);(try simp only [nB] at *);(try simp only [inK,big,lim,nL] at *);omega) ?_)))
   refine Exists.intro ((i+1,zs)) (Exists.intro ([some 0,some 1,some 2,some 3,some 4,some 7]) (aI ?_ (aI ?_ (aI (by rfl) (aI (by rfl) (aI (aI (aI (by rfl) (by rfl)) (aI (aI (aI rfl (aI rfl (aI rfl (aI rfl rfl)))) (aI (by rfl) (by rfl))) (aI (aI (by rfl) (by rfl)) (aI (aI (by rfl) (by rfl)) (aI (by rfl) True.intro))))) (by rfl)))))))
   ·exact ⟨hi',hy2⟩
   ·show e.args.length - (i+1) < e.args.length - i
    omega
  ·have hi':¬ i < e.args.length:=by simpa using k0
   have hy2:ys=xs++namT e:=by rw [hy,List.take_of_length_le (by omega),e0]
   rw [← hy2]
   exact ⟨[some 0,none,some 2,some 5],by rfl,by rfl,⟨⟨by rfl,by rfl⟩,⟨⟨rfl,rfl,rfl,rfl,rfl⟩,by rfl,by rfl⟩,by rfl,trivial⟩,by rfl⟩
def semN:Nat→CallSem
 | 0=>callS cx0 Tryz.prog (condS 129 noS (callS cx0 Tryz.prog noS))
 | N+1=>callS cx0 Tryz.prog (condS 129 (frameS (RelN N)) (callS cx0 Tryz.prog noS))
theorem semN_rel (N:Nat):∀ g args T x1 T1,RelN N g args T x1 T1→semN N g args T T.length (fun x T' n'=>∃ σ,weak T.length σ [noW x] T' n' ⟨[x1],T1,T1.length⟩):=by
 rintro g args T x1 T1 ⟨e,xs,he,hn,rfl,rfl,rfl,rfl,rfl⟩
 cases N with
 | zero=>omega
 | succ N=>exact walk129n _ (N+1) e xs he hn (fun k args H m K h h'=>by
  have:k=N:=by omega
  exact this ▸ h')
theorem semN_ok:∀ N,CallOk Tryz.prog (semN N)
 | 0=>callS_good cx0_good (condS_ok no_call (callS_good cx0_good no_call))
 | N+1=>callS_good cx0_good (condS_ok (frame_ok (semN_ok N) (semN_rel N)) (callS_good cx0_good no_call))
def RelNU:FuncId→List AV→List Ob→AV→List Ob→Prop:=fun g a T x T1=>∃ k,RelN k g a T x T1
theorem frameN_ok:CallOk Tryz.prog (frameS RelNU) :=
 frame_ok (sem:=fun g a H n K=>∃ d,semN d g a H n K) ⟨fun g a H n K ⟨d,h⟩=>(semN_ok d).1 g a H n K h,fun id a H n K ⟨d,h⟩=>(semN_ok d).2 id a H n K h⟩ fun g a T x T1 ⟨k,h⟩=>⟨k,semN_rel k g a T x T1 h⟩
end Go.Proofs.YticmijfmgmkkcaaGreat
namespace Go.Proofs.YticmijfmgmkkcaaGreat
open Go.Shelf Go.Sx Go.RowKit
def Tryz.sortA_ren:Go.Shelf.Ren:=⟨fun | 5=>124 | 8=>133 | 7=>138 | 19=>168 | 20=>169 | 10=>172 | 11=>173 | 12=>174 | 13=>175 | 14=>176 | 15=>177 | 16=>178 | 17=>179 | 18=>180 | 30=>190 | 31=>185 | 32=>186 | 33=>191 | 34=>192 | 35=>193 | 40=>195 | n=>n,fun | 23=>25 | 25=>3 | 3=>3 | 32=>136 | 22=>25 | 0=>0 | 44=>154 | 46=>156 | 4=>4 | 36=>146 | 35=>145 | 41=>151 | 5=>5 | 9=>9 | 53=>164 | 57=>111 | 63=>171 | 64=>105 | n=>n,fun | n=>n⟩
theorem Tryz.sortA:Go.Proofs.SlLaysM.n5 Tryz.prog Tryz.sortA_ren:={
 mixed:=by kernel_rfl
 f5:=⟨Tryz.f124.name,by decide,Tryz.func124.trans (congrArg some (by kernel_rfl))⟩
 f7:=⟨Tryz.f138.name,by decide,Tryz.func138.trans (congrArg some (by kernel_rfl))⟩
 f8:=Tryz.func133.trans (congrArg some (by kernel_rfl))
 f10:=⟨Tryz.f172.name,by decide,Tryz.func172.trans (congrArg some (by kernel_rfl))⟩
 f11:=⟨Tryz.f173.name,by decide,Tryz.func173.trans (congrArg some (by kernel_rfl))⟩
 f12:=⟨Tryz.f174.name,by decide,Tryz.func174.trans (congrArg some (by kernel_rfl))⟩
 f13:=⟨Tryz.f175.name,by decide,Tryz.func175.trans (congrArg some (by kernel_rfl))⟩
 f14:=⟨Tryz.f176.name,by decide,Tryz.func176.trans (congrArg some (by kernel_rfl))⟩
 f15:=⟨Tryz.f177.name,by decide,Tryz.func177.trans (congrArg some (by kernel_rfl))⟩
 f16:=⟨Tryz.f178.name,by decide,Tryz.func178.trans (congrArg some (by kernel_rfl))⟩
 f17:=⟨Tryz.f179.name,by decide,Tryz.func179.trans (congrArg some (by kernel_rfl))⟩
 f18:=⟨Tryz.f180.name,by decide,Tryz.func180.trans (congrArg some (by kernel_rfl))⟩
 f19:=Tryz.func168.trans (congrArg some (by kernel_rfl))
 f20:=Tryz.func169.trans (congrArg some (by kernel_rfl))
 f30:=⟨Tryz.f190.name,by decide,Tryz.func190.trans (congrArg some (by kernel_rfl))⟩
 f31:=Tryz.func185.trans (congrArg some (by kernel_rfl))
 f32:=Tryz.func186.trans (congrArg some (by kernel_rfl))
 f33:=⟨Tryz.f191.name,by decide,Tryz.func191.trans (congrArg some (by kernel_rfl))⟩
 f34:=⟨Tryz.f192.name,by decide,Tryz.func192.trans (congrArg some (by kernel_rfl))⟩
 f35:=⟨Tryz.f193.name,by decide,Tryz.func193.trans (congrArg some (by kernel_rfl))⟩
 f40:=⟨Tryz.f195.name,by decide,Tryz.func195.trans (congrArg some (by kernel_rfl))⟩
 t0:=Tryz.underlying0
 a0:=Tryz.isAgg0
 z0:=Tryz.sizeOf0
 v0:=Tryz.zeroValue0
 t3:=Tryz.underlying3
 a3:=Tryz.isAgg3
 z3:=Tryz.sizeOf3
 v3:=Tryz.zeroValue3
 t4:=Tryz.underlying4
 a4:=Tryz.isAgg4
 z4:=Tryz.sizeOf4
 v4:=Tryz.zeroValue4
 t5:=Tryz.underlying5
 a5:=Tryz.isAgg5
 z5:=Tryz.sizeOf5
 v5:=Tryz.zeroValue5
 t9:=Tryz.underlying9
 a9:=Tryz.isAgg9
 z9:=Tryz.sizeOf9
 v9:=Tryz.zeroValue9
 t22:=Tryz.underlying25
 a22:=Tryz.isAgg25
 z22:=Tryz.sizeOf25
 v22:=Tryz.zeroValue25
 t23:=Tryz.underlying25
 a23:=Tryz.isAgg25
 z23:=Tryz.sizeOf25
 v23:=Tryz.zeroValue25
 t25:=Tryz.underlying3
 a25:=Tryz.isAgg3
 z25:=Tryz.sizeOf3
 v25:=Tryz.zeroValue3
 t32:=Tryz.underlying136
 a32:=Tryz.isAgg136
 z32:=Tryz.sizeOf136
 v32:=Tryz.zeroValue136
 t35:=Tryz.underlying145
 a35:=Tryz.isAgg145
 z35:=Tryz.sizeOf145
 v35:=Tryz.zeroValue145
 t36:=Tryz.underlying146
 a36:=Tryz.isAgg146
 z36:=Tryz.sizeOf146
 v36:=Tryz.zeroValue146
 t41:=Tryz.underlying151
 a41:=Tryz.isAgg151
 z41:=Tryz.sizeOf151
 v41:=Tryz.zeroValue151
 t44:=Tryz.underlying154
 a44:=Tryz.isAgg154
 z44:=Tryz.sizeOf154
 v44:=Tryz.zeroValue154
 t46:=Tryz.underlying156
 a46:=Tryz.isAgg156
 z46:=Tryz.sizeOf156
 v46:=Tryz.zeroValue156
 t53:=Tryz.underlying164
 a53:=Tryz.isAgg164
 z53:=Tryz.sizeOf164
 v53:=Tryz.zeroValue164
 t57:=Tryz.underlying111
 a57:=Tryz.isAgg111
 z57:=Tryz.sizeOf111
 v57:=Tryz.zeroValue111
 t63:=Tryz.underlying171
 a63:=Tryz.isAgg171
 z63:=Tryz.sizeOf171
 v63:=Tryz.zeroValue171
 t64:=Tryz.underlying105
 a64:=Tryz.isAgg105
 z64:=Tryz.sizeOf105
 v64:=Tryz.zeroValue105 }
def Tryz.sortB_ren:Go.Shelf.Ren:=⟨fun | 6=>113 | 8=>133 | 9=>132 | 19=>168 | 20=>169 | 21=>159 | 22=>160 | 23=>161 | 24=>162 | 25=>163 | 26=>164 | 27=>165 | 28=>166 | 29=>167 | 36=>184 | 31=>185 | 32=>186 | 37=>187 | 38=>188 | 39=>189 | 41=>194 | n=>n,fun | 27=>62 | 29=>9 | 3=>3 | 32=>136 | 26=>62 | 0=>0 | 44=>154 | 46=>156 | 4=>4 | 36=>146 | 35=>145 | 41=>151 | 5=>5 | 9=>9 | 53=>164 | 57=>111 | 63=>171 | 64=>105 | n=>n,fun | n=>n⟩
theorem Tryz.sortB:Go.Proofs.SlLaysM.n6 Tryz.prog Tryz.sortB_ren:={
 mixed:=by kernel_rfl
 f6:=⟨Tryz.f113.name,by decide,Tryz.func113.trans (congrArg some (by kernel_rfl))⟩
 f8:=Tryz.func133.trans (congrArg some (by kernel_rfl))
 f9:=⟨Tryz.f132.name,by decide,Tryz.func132.trans (congrArg some (by kernel_rfl))⟩
 f19:=Tryz.func168.trans (congrArg some (by kernel_rfl))
 f20:=Tryz.func169.trans (congrArg some (by kernel_rfl))
 f21:=⟨Tryz.f159.name,by decide,Tryz.func159.trans (congrArg some (by kernel_rfl))⟩
 f22:=⟨Tryz.f160.name,by decide,Tryz.func160.trans (congrArg some (by kernel_rfl))⟩
 f23:=⟨Tryz.f161.name,by decide,Tryz.func161.trans (congrArg some (by kernel_rfl))⟩
 f24:=⟨Tryz.f162.name,by decide,Tryz.func162.trans (congrArg some (by kernel_rfl))⟩
 f25:=⟨Tryz.f163.name,by decide,Tryz.func163.trans (congrArg some (by kernel_rfl))⟩
 f26:=⟨Tryz.f164.name,by decide,Tryz.func164.trans (congrArg some (by kernel_rfl))⟩
 f27:=⟨Tryz.f165.name,by decide,Tryz.func165.trans (congrArg some (by kernel_rfl))⟩
 f28:=⟨Tryz.f166.name,by decide,Tryz.func166.trans (congrArg some (by kernel_rfl))⟩
 f29:=⟨Tryz.f167.name,by decide,Tryz.func167.trans (congrArg some (by kernel_rfl))⟩
 f31:=Tryz.func185.trans (congrArg some (by kernel_rfl))
 f32:=Tryz.func186.trans (congrArg some (by kernel_rfl))
 f36:=⟨Tryz.f184.name,by decide,Tryz.func184.trans (congrArg some (by kernel_rfl))⟩
 f37:=⟨Tryz.f187.name,by decide,Tryz.func187.trans (congrArg some (by kernel_rfl))⟩
 f38:=⟨Tryz.f188.name,by decide,Tryz.func188.trans (congrArg some (by kernel_rfl))⟩
 f39:=⟨Tryz.f189.name,by decide,Tryz.func189.trans (congrArg some (by kernel_rfl))⟩
 f41:=⟨Tryz.f194.name,by decide,Tryz.func194.trans (congrArg some (by kernel_rfl))⟩
 t0:=Tryz.underlying0
 a0:=Tryz.isAgg0
 z0:=Tryz.sizeOf0
 v0:=Tryz.zeroValue0
 t3:=Tryz.underlying3
 a3:=Tryz.isAgg3
 z3:=Tryz.sizeOf3
 v3:=Tryz.zeroValue3
 t4:=Tryz.underlying4
 a4:=Tryz.isAgg4
 z4:=Tryz.sizeOf4
 v4:=Tryz.zeroValue4
 t5:=Tryz.underlying5
 a5:=Tryz.isAgg5
 z5:=Tryz.sizeOf5
 v5:=Tryz.zeroValue5
 t9:=Tryz.underlying9
 a9:=Tryz.isAgg9
 z9:=Tryz.sizeOf9
 v9:=Tryz.zeroValue9
 t26:=Tryz.underlying62
 a26:=Tryz.isAgg62
 z26:=Tryz.sizeOf62
 v26:=Tryz.zeroValue62
 t27:=Tryz.underlying62
 a27:=Tryz.isAgg62
 z27:=Tryz.sizeOf62
 v27:=Tryz.zeroValue62
 t29:=Tryz.underlying9
 a29:=Tryz.isAgg9
 z29:=Tryz.sizeOf9
 v29:=Tryz.zeroValue9
 t32:=Tryz.underlying136
 a32:=Tryz.isAgg136
 z32:=Tryz.sizeOf136
 v32:=Tryz.zeroValue136
 t35:=Tryz.underlying145
 a35:=Tryz.isAgg145
 z35:=Tryz.sizeOf145
 v35:=Tryz.zeroValue145
 t36:=Tryz.underlying146
 a36:=Tryz.isAgg146
 z36:=Tryz.sizeOf146
 v36:=Tryz.zeroValue146
 t41:=Tryz.underlying151
 a41:=Tryz.isAgg151
 z41:=Tryz.sizeOf151
 v41:=Tryz.zeroValue151
 t44:=Tryz.underlying154
 a44:=Tryz.isAgg154
 z44:=Tryz.sizeOf154
 v44:=Tryz.zeroValue154
 t46:=Tryz.underlying156
 a46:=Tryz.isAgg156
 z46:=Tryz.sizeOf156
 v46:=Tryz.zeroValue156
 t53:=Tryz.underlying164
 a53:=Tryz.isAgg164
 z53:=Tryz.sizeOf164
 v53:=Tryz.zeroValue164
 t57:=Tryz.underlying111
 a57:=Tryz.isAgg111
 z57:=Tryz.sizeOf111
 v57:=Tryz.zeroValue111
 t63:=Tryz.underlying171
 a63:=Tryz.isAgg171
 z63:=Tryz.sizeOf171
 v63:=Tryz.zeroValue171
 t64:=Tryz.underlying105
 a64:=Tryz.isAgg105
 z64:=Tryz.sizeOf105
 v64:=Tryz.zeroValue105 }
def sortSem (t:Ty) (srt:List t.den→List t.den) (g0:FuncId):CallSem:=fun g args H n K=>g=g0∧((args=[.cap0]∧K (.tup []) H n)∨∃ (id:Nat) (xs:List t.den),args=[.own id]∧getOb H id=.rows t xs∧xs.length≤1000000∧K (.tup []) (setN (.rows t (srt xs)) H id) n)
theorem flat_one {t:Ty} {Pv:t.den→PV} (hE:∀ x,enc t x=[Pv x]):∀ (xs:List t.den),flat t xs=xs.map Pv
 | []=>rfl
 | x :: xs=>by
  have h:=flat_one hE xs
  unfold flat at h ⊢
  rw [List.flatMap_cons,h,hE]
  rfl
theorem setN_same {α:Type} (v:α):∀ (l:List α) (i:Nat),(∀ h:i < l.length,l[i]=v)→setN v l i=l
 | [],_,_=>rfl
 | a :: l,0,h=>by
  have:=h (Nat.succ_pos _)
  simp only [List.getElem_cons_zero] at this
  rw [setN,this]
 | a :: l,i+1,h=>by
  rw [setN,setN_same v l i fun hi=>?_]
  have:=h (Nat.succ_lt_succ hi)
  simpa using this
theorem modify_block {w:World} {blk b:Nat} {f:Array Value→Array Value} (h:b≠blk):(Sort.mapBlock w blk f).heap[b]?=w.heap[b]?:=by
 unfold Sort.mapBlock
 simp only [Array.getElem?_modify]
 rw [if_neg (Ne.symm h)]
theorem sortSem_ok {P:Program} {t:Ty} [Inhabited t.den] {V:t.den→Value} {Pv:t.den→PV} (hEn:∀ x,enc t x=[Pv x]) (hV:∀ (w:World) (Fz:Nat→Nat→Prop) v x,RdP w Fz v (Pv x)↔v=V x) {srt:List t.den→List t.den} (srt_len:∀ xs,(srt xs).length=xs.length) {g0:FuncId} (hf:∃ fn,P.funcs[g0]?=some fn∧fn.body.isSome=true∧(fn.name == "runtime.NumGoroutine")=false)
 (hs:∀ (blk off cap:Nat) (zs:List t.den) (w:World),Sort.Holds V w blk off zs.toArray→blk < w.heap.size→zs.length < 4611686018427387904 →
   Calls P g0 #[.slice (some ⟨blk,off,none⟩) zs.length cap] w fun e w'=>e=.returned (.tuple #[])∧∃ n os,w'=Sort.grow (Sort.putRow V (Sort.ahead w n) blk off (srt zs).toArray) os)
 (h0:∀ (p:Option Addr) (cap:Nat) (w:World),Calls P g0 #[.slice p 0 cap] w fun e w'=>e=.returned (.tuple #[])∧w'=w):CallOk P (sortSem t srt g0):=by
 refine ⟨?_,fun id args H n K h=>by rcases h with ⟨_,⟨h,_⟩ | ⟨_,_,h,_⟩⟩ <;> cases h⟩
 rintro g args H n K ⟨rfl,⟨rfl,hk⟩ | ⟨id,xs,rfl,hob,hlen,hk⟩⟩ E vs hE hsz hrd
 ·refine ⟨hf, ?_⟩
  obtain ⟨vs⟩:=vs
  match vs,hsz with
  | [v],_ =>
  have hv:RdA E v .cap0:=hrd 0 v _ rfl rfl
  cases hv with
  | cap0 a =>
  refine (h0 a 0 E.w).mono ?_
  rintro e w' ⟨rfl,rfl⟩
  exact ⟨_,E,.tup [],_,n,rfl,rfl,Nat.le_refl _,hE,.tup _ _ rfl (fun i u x hu=>by simp at hu),Evo.refl _ _,hk⟩
 refine ⟨hf, ?_⟩
 obtain ⟨vs⟩:=vs
 match vs,hsz with
 | [v],_ =>
 have hv:RdA E v (.own id):=hrd 0 v _ rfl rfl
 have hA:=hv.own_inv.1
 have hne:getOb H id≠.dead:=by rw [hob];simp
 have hl:=hE.live id hne
 have hok:RowsAt E t xs (E.ρ id):=by
  have:=hE.ok id hl hne
  rw [hob] at this
  exact this
 have hW:E.W id:=hE.wr id (by rw [hob];trivial)
 have hown:=hv.own_inv.2.2 hl
 cases hρ:E.ρ id with
 | none =>
  rw [hρ] at hok hown
  obtain ⟨ba,rfl⟩:=hown
  have hxs:xs=[]:=hok
  subst hxs
  refine (h0 ba 0 E.w).mono ?_
  rintro e w' ⟨rfl,rfl⟩
  refine ⟨_,E,.tup [],_,n,rfl,rfl,Nat.le_refl _, ?_,.tup _ _ rfl (fun i u x hu=>by simp at hu),Evo.refl _ _,hk⟩
  rw [setN_same]
  ·exact hE
  ·intro hi
   have:getOb H id=H[id]:=by
    unfold getOb
    rw [getN_eq,List.getElem?_eq_getElem hi]
    rfl
   rw [← this,hob,List.eq_nil_of_length_eq_zero (srt_len [])]
 | some hd =>
  rw [hρ] at hok hown
  obtain ⟨g1,g2,g3,g3',arr,el,g4,g5,g6⟩:=hok
  have hown:v=.slice (some ⟨hd.blk,hd.off,none⟩) hd.len hd.cap:=hown
  subst hown
  have hsz1:Ty.size t=1:=by rw [← enc_length t (default:t.den),hEn];rfl
  rw [hsz1,Nat.mul_one] at g5
  have hcell:∀ j (hj:j < xs.length),arr[hd.off+j]?=some (V xs[j]):=by
   intro j hj
   obtain ⟨u,u1,u2⟩:=g6 j (Pv xs[j]) (by rw [flat_one hEn,List.getElem?_map,List.getElem?_eq_getElem hj];rfl)
   rw [← (hV _ _ _ _).1 u2]
   exact u1
  have hH:Sort.Holds V E.w hd.blk hd.off xs.toArray:=by
   intro j hj
   have hj':j < xs.length:=by simpa using hj
   refine ⟨?_, ?_⟩
   ·have:=hcell j hj'
    simp only [World.cell?,g4]
    rw [this]
    simp [hj']
   ·simp [World.frozen?,g4]
  have hblk:=(hE.lt id hd hl hρ).2
  have:=hs hd.blk hd.off hd.cap xs E.w hH hblk (by omega)
  rw [← g1] at this
  refine this.mono ?_
  rintro e w' ⟨rfl,m,os,rfl⟩
  have hsl:=srt_len xs
  have hnew:(Sort.grow (Sort.putRow V (Sort.ahead E.w m) hd.blk hd.off (srt xs).toArray) os).heap[hd.blk]?=some (.cells (Sort.putCells V hd.off (srt xs).toArray arr) el (0,0)):=by
   unfold Sort.grow Sort.putRow Sort.mapBlock
   simp only [Sort.heap_ahead]
   rw [Array.getElem?_append_left (by simpa using hblk),Array.getElem?_modify,if_pos rfl,g4]
   rfl
  have hold:∀ b,b < E.w.heap.size→b≠hd.blk→(Sort.grow (Sort.putRow V (Sort.ahead E.w m) hd.blk hd.off (srt xs).toArray) os).heap[b]?=E.w.heap[b]?:=by
   intro b hb hne
   show ((Sort.putRow V (Sort.ahead E.w m) hd.blk hd.off (srt xs).toArray).heap++os)[b]?=_
   rw [Array.getElem?_append_left (by simpa using hb)]
   exact modify_block hne
  have hsize:E.w.heap.size≤(Sort.grow (Sort.putRow V (Sort.ahead E.w m) hd.blk hd.off (srt xs).toArray) os).heap.size:=by
   show _≤((Sort.putRow V (Sort.ahead E.w m) hd.blk hd.off (srt xs).toArray).heap++os).size
   rw [Array.size_append,Sort.size_putRow]
   exact Nat.le_add_right _ _
  have hbd:Below E.B E.w (Sort.grow (Sort.putRow V (Sort.ahead E.w m) hd.blk hd.off (srt xs).toArray) os):=by
   refine ⟨rfl,rfl,rfl,hsize,fun k hk=>hold k (Nat.lt_of_lt_of_le hk hE.B) ?_⟩
   have:=(hE.lt id hd hl hρ).1
   omega
  generalize Sort.grow (Sort.putRow V (Sort.ahead E.w m) hd.blk hd.off (srt xs).toArray) os=w' at hnew hold hsize hbd
  have hstep:Step E n ⟨none,none,.tup [],[],none,some (id,.rows t (srt xs)),[]⟩ w' (fun _=>none):=by
   refine ⟨hbd,fun b hb hne=>hold b hb fun e=>hne id hW (.inr rfl) (.inl ⟨hd,hρ,e.symm⟩), ?_, ?_, ?_, ?_⟩
   ·intro j h hj;simp at hj
   ·intro j j' h h' hj;simp at hj
   ·intro id hid;cases hid
   ·intro p hp;cases hp;exact hW
  have hρ2:∀ wn,(E.ext n 0 none [] wn w' (fun _=>none)).ρ id=some hd:=fun wn=>by
   simp only [Env.ext]
   rw [if_neg (by omega),hρ]
  have hx:=hstep.ext (wn:=newW n ⟨none,none,.tup [],[],none,some (id,.rows t (srt xs)),[]⟩) (hE.ready _) ⟨n,hE.ns⟩ (fun _ j ob hj=>by simp at hj) (fun hevo i ob hi=>by
   cases hi
   show RowsAt _ t _ _
   rw [show (E.ext n (List.length ([]:List Ob)) none [] _ w' (fun _=>none)).ρ id=some hd from hρ2 _]
   refine ⟨by rw [hsl];exact g1,g2,g3,g3',_,el,hnew, ?_,fun j p hp=>?_⟩
   ·rw [hsz1,Nat.mul_one]
    simp [Sort.putCells]
    omega
   ·rw [flat_one hEn,List.getElem?_map] at hp
    obtain ⟨x,hx,rfl⟩:=Option.map_eq_some_iff.1 hp
    have hj:=(List.getElem?_eq_some_iff.1 hx).1
    refine ⟨V x, ?_,(hV _ _ _ _).2 rfl⟩
    have hlt:hd.off+j < arr.size:=by omega
    unfold Sort.putCells
    rw [Array.getElem?_mapIdx,Array.getElem?_eq_getElem hlt]
    simp only [Option.map_some,Option.some.injEq]
    rw [if_pos ⟨by omega,by simp;omega⟩,show hd.off+j - hd.off=j by omega]
    obtain ⟨_,he⟩:=List.getElem?_eq_some_iff.1 hx
    simp [hj,he])
  have hE':=hE.step hx ⟨fun id hid=>(by cases hid),fun p hp=>(by cases hp;exact ⟨hA,by rw [hob];trivial⟩)⟩
  have hheap:Res.heap ⟨none,none,.tup [],[],none,some (id,.rows t (srt xs)),[]⟩ H=setN (.rows t (srt xs)) H id:=by
   unfold Res.heap
   rw [List.append_nil]
   rfl
  rw [hheap] at hE'
  exact ⟨_,_,.tup [],_,n,rfl,rfl,Nat.le_refl _,hE',.tup _ _ rfl (fun i u x hu=>by simp at hu),hx.evo n,hk⟩
def sortI (xs:List Int):List Int:=xs.mergeSort fun x y=>decide (x≤y)
def sortB (xs:List ByteArray):List ByteArray:=((xs.map fun s=>s.data.toList).mergeSort fun x y=>decide (x≤y)).map fun l=>⟨l.toArray⟩
theorem sort124:CallOk Tryz.prog (sortSem tI sortI 124) :=
 sortSem_ok (t:=tI) (srt:=sortI) (V:=Value.int .i64) (Pv:=PV.int .i64) (fun _=>rfl) (fun _ _ _ _=>⟨fun h=>by cases h;rfl,fun h=>by rw [h];exact .int _ _⟩) (fun xs=>List.length_mergeSort xs) ⟨_,Tryz.func124,rfl,rfl⟩
  (fun blk off cap zs w hH hb hz=>AnyM.slices_Sort_int Tryz.sortA blk off cap zs w hH hb hz) (fun p cap w=>AnyM.slices_Sort_int_none Tryz.sortA p cap w)
theorem sort113:CallOk Tryz.prog (sortSem .str sortB 113):=by
 refine sortSem_ok (t:=.str) (srt:=sortB) (V:=Value.string) (Pv:=PV.str) (fun _=>rfl) (fun _ _ _ _=>⟨fun h=>by cases h;rfl,fun h=>by rw [h];exact .str _⟩) (fun xs=>by simp [sortB,List.length_mergeSort]) ⟨_,Tryz.func113,rfl,rfl⟩
  (fun blk off cap zs w hH hb hz=>?_) (fun p cap w=>AnyM.slices_Sort_string_none Tryz.sortB p cap w)
 have h1:Sort.Holds encStr w blk off (zs.map fun s=>s.data.toList).toArray:=by
  intro j hj
  have hj':j < zs.length:=by simpa using hj
  obtain ⟨h2,h3⟩:=hH j (by simpa using hj')
  refine ⟨h2.trans ?_,h3⟩
  simp [hj',encStr]
 have h4:=AnyM.slices_Sort_string Tryz.sortB blk off cap (zs.map fun s=>s.data.toList) w h1 hb (by simpa using hz)
 rw [List.length_map] at h4
 refine h4.mono ?_
 rintro e w' ⟨rfl,n,os,rfl⟩
 refine ⟨rfl,n,os, ?_⟩
 have h5:∀ c:Array Value,Sort.putCells encStr off ((zs.map fun s=>s.data.toList).mergeSort fun x y=>decide (x≤y)).toArray c=Sort.putCells Value.string off (sortB zs).toArray c:=by
  intro c
  unfold Sort.putCells
  congr 1
  funext k x
  simp only [List.size_toArray,sortB,List.length_map]
  split
  ·rename_i hk
   have:k - off < ((zs.map fun s=>s.data.toList).mergeSort fun x y=>decide (x≤y)).length:=by omega
   simp [this,encStr,List.getElem?_eq_getElem this]
  ·rfl
 unfold Sort.putRow
 congr 2
 funext c
 exact h5 c
end Go.Proofs.YticmijfmgmkkcaaGreat
namespace Go.Proofs.YticmijfmgmkkcaaGreat
open Go.Sx
def uniqP (xs:List ByteArray):Nat→List ByteArray
 | 0=>[]
 | n+1=>uniqP xs n++(if n=0∨xs.getD n (dflt .str)≠xs.getD (n - 1) (dflt .str) then [xs.getD n (dflt .str)] else [])
def uniqB (xs:List ByteArray):List ByteArray:=uniqP xs xs.length
theorem take_getD {α:Type} {xs:List α} {n:Nat} {d:α} (h:n < xs.length):xs.take (n+1)=xs.take n++[xs.getD n d]:=by
 rw [List.take_succ_eq_append_getElem h]
 simp [List.getD_eq_getElem?_getD,List.getElem?_eq_getElem h]
theorem uniq_same {xs:List ByteArray} {n:Nat} (h0:n≠0) (h:xs.getD n (dflt .str)=xs.getD (n - 1) (dflt .str)):uniqP xs (n+1)=uniqP xs n:=by
 rw [uniqP,if_neg (by rintro (h1 | h1);exact h0 h1;exact h1 h),List.append_nil]
theorem uniq_other {xs:List ByteArray} {n:Nat} (h:xs.getD n (dflt .str)≠xs.getD (n - 1) (dflt .str)):uniqP xs (n+1)=uniqP xs n++[xs.getD n (dflt .str)]:=by
 rw [uniqP,if_pos (.inr h)]
theorem uniq_1 {xs:List ByteArray} (h:1≤xs.length):uniqP xs 1=xs.take 1:=by
 rw [take_getD (n:=0) (d:=dflt .str) h];simp [uniqP]
theorem uniq_few {xs:List ByteArray} (h:xs.length < 2):uniqB xs=xs:=by
 match xs,h with
 | [],_=>rfl
 | [a],_=>rfl
theorem drop_getD {α:Type} {xs ys:List α} {n m:Nat} {d:α} (h:ys.drop n=xs.drop n) (hm:n≤m):ys.getD m d=xs.getD m d:=by
 have h1:(ys.drop n)[m - n]?=(xs.drop n)[m - n]?:=by rw [h]
 rw [List.getElem?_drop,List.getElem?_drop,show n+(m - n)=m by omega] at h1
 simp [List.getD_eq_getElem?_getD,h1]
theorem set_take {α:Type} {ys:List α} {m:Nat} {v:α} (h:m < ys.length):(ys.set m v).take (m+1)=ys.take m++[v]:=by
 rw [take_getD (n:=m) (d:=v) (by rw [List.length_set];exact h),List.take_set_of_le (Nat.le_refl _)]
 simp [List.getD_eq_getElem?_getD,h]
theorem drop_next {α:Type} {xs ys:List α} {n:Nat} (h:ys.drop n=xs.drop n):ys.drop (n+1)=xs.drop (n+1):=by
 rw [← List.drop_drop,← List.drop_drop,h]
def exNames (e:ExprT):List ByteArray:=if exChk e=0 then uniqB (sortB (namT e)) else []
def cxX:Ctx:=⟨tys0,[(79,([],c79))]⟩
theorem cxX_good:GoodCtx Tryz.prog cxX:=cx_cons good79 cx0_good
def c80:Ctr:=fnC [dX] [(false,tSs)] (fun _=>True) (fun y=>(exNames y.1,()))
theorem good80:GoodC Tryz.prog 80 c80:=by
 refine goodFS (callS_good cxX_good (condS_ok (g0:=113) sort113 (callS_good cxX_good (condS_ok (g0:=129) frameN_ok (callS_good cxX_good no_call))))) _ _ _ _ ⟨_,Tryz.func80,rfl,rfl⟩ fun (⟨e,_⟩ : ExprT × Unit) _=>?_
 refine (aI (by first | kernel_rfl | rfl) (aI True.intro (aI (fun h0=>(fin_of rfl ?_)) (fun h0=>(aI (by first | kernel_rfl | rfl) (aI (by first | kernel_rfl | rfl) (aI (by first | kernel_rfl | rfl) (aI True.intro ?_))))))))
 ·have hk:exChk e≠0:=by have h:=h0;simp only [eta] at h;simpa using h
  show (exNames e,())=([],())
  rw [exNames,if_neg hk]
 have hk:exChk e=0:=by have h:=h0;simp only [eta] at h;simpa using h
 have hN:(namT e).length≤100:=Nat.le_trans (nam_prt e) (chk_prt hk)
 have hnm:exNames e=uniqB (sortB (namT e)):=by rw [exNames,if_pos hk]
 refine Exists.intro [exA e,.yld 2] (Exists.intro (vnT []) (Exists.intro (.bool true) (Exists.intro (vnT1 ([]++namT e)) (Exists.intro [some 1,none,some 3]
  ⟨⟨_,e,[],Nat.lt_succ_self _,by simpa using hN,rfl,rfl,rfl,rfl,rfl⟩,⟨by rfl,by rfl,⟨⟨by rfl,by rfl⟩,by rfl,⟨⟨rfl,rfl,rfl,by kernel_rfl,by kernel_rfl⟩,by rfl,by rfl⟩,trivial⟩,by rfl⟩,by rfl, ?_⟩))))
 rw [List.nil_append]
 dsimp only [vnT,vnT1,slN,putL,renObs,renOb,renAL,renA,setN,getN,newN,List.length_cons,List.length_nil,List.cons_append,List.nil_append,Nat.reduceAdd,Nat.reduceSub]
 refine (aI (by rfl) ?_)
 refine .inr ⟨4,namT e,rfl,rfl,by omega, ?_⟩
 obtain ⟨xs,hx⟩ : ∃ xs,sortB (namT e)=xs:=⟨_,rfl⟩
 have hxl:xs.length≤100:=by rw [← hx];simpa [sortB,List.length_mergeSort] using hN
 rw [hx] at hnm
 rw [hx]
 refine (aI (by first | kernel_rfl | rfl) (fun w0=>(aI (fun w1=>(fin_of rfl ?_)) (fun w1=>?_))))
 ·have h2:xs.length < 2:=by have:=of_decide_eq_true w1;omega
  show (exNames e,())=(xs,())
  rw [hnm,uniq_few h2]
 have hx2:2≤xs.length:=by have:=of_decide_eq_false w1;omega
 refine ex4 _ (fun k:Nat=>⟨[.own 4,.any,.any,.int .i64 (k:Int)]++nA 57,[.cells   [.int .i64 e.kind,.int .i64 e.op,.str e.name,.int .i64 e.value,.sl .expr e.args],.cells [.own 4],.cells   [.int .i64 e.kind,.int .i64 e.op,.str e.name,.int .i64 e.value,.sl .expr e.args],.dead,.rows .str xs],5⟩) (fun k=>1≤k∧k≤xs.length∧uniqP xs k=xs.take k) (fun k=>xs.length - k) (aI (Exists.intro (1) (Exists.intro ([some 0,some 1,some 2,some 3,some 4]) (aI ?_ (aI (by rfl) (aI (by rfl) (aI (aI (aI (by rfl) (by rfl)) (aI (aI (by rfl) (by rfl)) (aI (aI (by rfl) (by rfl)) (aI (by rfl) True.intro)))) (by rfl))))))) ?_)
 ·exact ⟨Nat.le_refl _,by omega,uniq_1 (by omega)⟩
 rintro k ⟨hk1,hk2,hku⟩
 refine (fun k0=>(aI (fun k1=>(aI (by first | kernel_rfl | rfl) (aI (by intros;(try subst_vars);(try simp only [nB] at *);(try simp only [inK,big,lim,nL] at *);omega) (aI (by intros;(try subst_vars);(try simp only [nB] at *);(try simp only [inK,big,lim,nL] at *);omega) (aI (by intros;(try subst_vars);(try simp only [nB] at *);(try simp only [inK,big,lim,nL] at *);omega) (aI (fun k2=>(aI (by intros;(try subst_vars);(try simp only [nB] at *);(try simp only [inK,big,lim,nL] at *);omega) ?_)) (fun k2=>(aI (by intros;(try subst_vars);(try simp only [nB] at *);(try simp only [inK,big,lim,nL] at *);omega) ?_)))))))) (fun k1=>(fin_of rfl ?_))))
 ·have hlt:k < xs.length:=by have:=of_decide_eq_true k1;omega
  have heq:xs.getD k (dflt .str)=xs.getD (k - 1) (dflt .str):=by
   have h:=of_decide_eq_true k2
   rw [Int.toNat_natCast,show ((k:Int) - 1).toNat=k - 1 by omega] at h
   exact h
  refine ex4 _ (fun p:Nat × Nat × List ByteArray=>⟨[.own 4,.any,.any,.int .i64 (p.2.1:Int),.ownp 4 1 k (xs.length - k),.int .i64 (p.1:Int),.any,.any,.any,.any,.int .i64 (↑k:Int),.own 4,.int .i64 (↑xs.length:Int),.bool (decide ((↑k:Int) < (↑xs.length:Int))),.any,.any,.own 4,.int .i64 (↑k:Int),.any,.any,.own 4,.int .i64 (↑k:Int),.int .i64 ((↑k:Int) - 1),.any,.any,.any,.own 4,.int .i64 (↑k:Int)]++nA 33,[.cells   [.int .i64 e.kind,.int .i64 e.op,.str e.name,.int .i64 e.value,.sl .expr e.args],.cells [.own 4],.cells   [.int .i64 e.kind,.int .i64 e.op,.str e.name,.int .i64 e.value,.sl .expr e.args],.dead,.rows .str p.2.2],5⟩) (fun p=>(1≤p.1∧p.1≤xs.length - k)∧(p.2.1 < k+p.1∧p.2.2.length=xs.length)∧p.2.2.take p.2.1=uniqP xs (k+p.1)∧p.2.2.drop (k+p.1 - 1)=xs.drop (k+p.1 - 1)) (fun p=>xs.length - p.1) (aI (Exists.intro ((1,k,xs)) (Exists.intro ([some 0,some 1,some 2,some 3,some 4]) (aI ?_ (aI (by rfl) (aI (by rfl) (aI (aI (aI (by rfl) (by rfl)) (aI (aI (by rfl) (by rfl)) (aI (aI (by rfl) (by rfl)) (aI (by rfl) True.intro)))) (by rfl))))))) ?_)
  ·refine ⟨⟨Nat.le_refl _,by show 1≤xs.length - k;omega⟩,⟨by show k < k+1;omega,rfl⟩, ?_,rfl⟩
   show xs.take k=uniqP xs (k+1)
   rw [uniq_same (by omega) heq,hku]
  rintro ⟨j,m,ys⟩ ⟨⟨hj1,hj2⟩,⟨hm,hy⟩,ht,hd⟩
  replace hj1:1≤j:=hj1
  replace hj2:j≤xs.length - k:=hj2
  replace hm:m < k+j:=hm
  replace hy:ys.length=xs.length:=hy
  replace ht:ys.take m=uniqP xs (k+j):=ht
  replace hd:ys.drop (k+j - 1)=xs.drop (k+j - 1):=hd
  have jn:(j:Int).toNat=j:=Int.toNat_natCast j
  have jp:((j:Int) - 1).toNat=j - 1:=by omega
  have mn:(m:Int).toNat=m:=Int.toNat_natCast m
  have ha:ys.getD (k+j) (dflt .str)=xs.getD (k+j) (dflt .str):=drop_getD hd (by omega)
  have hb:ys.getD (k+(j - 1)) (dflt .str)=xs.getD (k+j - 1) (dflt .str):=by
   rw [drop_getD hd (by omega),show k+(j - 1)=k+j - 1 by omega]
  have hdn:ys.drop (k+(j+1) - 1)=xs.drop (k+(j+1) - 1):=by
   have:=drop_next hd
   rw [show k+j - 1+1=k+(j+1) - 1 by omega] at this
   exact this
  refine (aI (fun j0=>(aI (by first | kernel_rfl | rfl) (aI (by intros;(try subst_vars);(try simp only [nB] at *);(try simp only [inK,big,lim,nL] at *);omega) (aI (by intros;(try subst_vars);(try simp only [nB] at *);(try simp only [inK,big,lim,nL] at *);omega) (aI (by intros;(try subst_vars);(try simp only [nB] at *);(try simp only [inK,big,lim,nL] at *);omega) (aI (fun j1=>(aI (by intros;(try subst_vars);(try simp only [nB] at *);(try simp only [inK,big,lim,nL] at *);omega) (aI (by intros;(try subst_vars);(try simp only [nB] at *);(try simp only [inK,big,lim,nL] at *);omega) (aI (by intros;(try subst_vars);(try simp only [nB] at *);(try simp only [inK,big,lim,nL] at *);omega) (aI (by intros;(try subst_vars);(try simp only [nB] at *);(try simp only [inK,big,lim,nL] at *);omega) ?_))))) (fun j1=>(aI (by intros;(try subst_vars);(try simp only [nB] at *);(try simp only [inK,big,lim,nL] at *);omega) ?_)))))))) (fun j0=>(aI (by intros;(try subst_vars);(try simp only [nB] at *);(try simp only [inK,big,lim,nL] at *);omega) (aI (by intros;(try subst_vars);(try simp only [nB] at *);(try simp only [inK,big,lim,nL] at *);omega) (fin_of rfl ?_)))))
  ·have hl:j < xs.length - k:=by have:=of_decide_eq_true j0;omega
   have hne:xs.getD (k+j) (dflt .str)≠xs.getD (k+j - 1) (dflt .str):=by
    intro h
    rw [← ha,← hb] at h
    have h2:=j1
    simp only [jn,jp] at h2
    rw [decide_eq_true h] at h2
    cases h2
   refine Exists.intro ((j+1,m+1,ys.set m (ys.getD (k+j) (dflt .str)))) (Exists.intro ([some 0,some 1,some 2,some 3,some 4]) (aI ?_ (aI ?_ (aI (by rfl) (aI (by rfl) (aI (aI (aI (by rfl) (by rfl)) (aI (aI (by rfl) (by rfl)) (aI (aI (by rfl) (by rfl)) (aI (by rfl) True.intro)))) (by rfl)))))))
   ·refine ⟨⟨by show 1≤j+1;omega,by show j+1≤_;omega⟩,⟨by show m+1 < k+(j+1);omega,by show (ys.set m _).length=_;rw [List.length_set];exact hy⟩, ?_, ?_⟩
    ·show (ys.set m _).take (m+1)=uniqP xs (k+j+1)
     rw [set_take (by omega),ht,ha,uniq_other hne]
    ·show (ys.set m _).drop (k+(j+1) - 1)=_
     rw [List.drop_set_of_lt (by omega)]
     exact hdn
   ·show xs.length - (j+1) < xs.length - j
    omega
  ·have hl:j < xs.length - k:=by have:=of_decide_eq_true j0;omega
   have he:xs.getD (k+j) (dflt .str)=xs.getD (k+j - 1) (dflt .str):=by
    rw [← ha,← hb]
    have h2:=j1
    simp only [jn,jp] at h2
    by_cases h:ys.getD (k+j) (dflt .str)=ys.getD (k+(j - 1)) (dflt .str)
    ·exact h
    ·rw [decide_eq_false h] at h2
     cases h2
   refine Exists.intro ((j+1,m,ys)) (Exists.intro ([some 0,some 1,some 2,some 3,some 4]) (aI ?_ (aI ?_ (aI (by rfl) (aI (by rfl) (aI (aI (aI (by rfl) (by rfl)) (aI (aI (by rfl) (by rfl)) (aI (aI (by rfl) (by rfl)) (aI (by rfl) True.intro)))) (by rfl)))))))
   ·refine ⟨⟨by show 1≤j+1;omega,by show j+1≤_;omega⟩,⟨by show m < k+(j+1);omega,hy⟩, ?_,hdn⟩
    show ys.take m=uniqP xs (k+j+1)
    rw [ht,uniq_same (by omega) he]
   ·show xs.length - (j+1) < xs.length - j
    omega
  ·have hl:j=xs.length - k:=by have:=of_decide_eq_false j0;omega
   have hm2:m≤ys.length:=by omega
   rw [show k+j=xs.length by omega] at ht
   show (exNames e,())=_
   rw [hnm,uniqB,← ht]
   simp only [mn]
   simp [hm2,List.take_append_of_le_length]
 ·have hlt:k < xs.length:=by have:=of_decide_eq_true k1;omega
  have hne:xs.getD k (dflt .str)≠xs.getD (k - 1) (dflt .str):=by
   have h:=of_decide_eq_false k2
   rw [Int.toNat_natCast,show ((k:Int) - 1).toNat=k - 1 by omega] at h
   exact h
  refine Exists.intro (k+1) (Exists.intro ([some 0,some 1,some 2,some 3,some 4]) (aI ?_ (aI ?_ (aI (by rfl) (aI (by rfl) (aI (aI (aI (by rfl) (by rfl)) (aI (aI (by rfl) (by rfl)) (aI (aI (by rfl) (by rfl)) (aI (by rfl) True.intro)))) (by rfl)))))))
  ·refine ⟨by omega,hlt, ?_⟩
   rw [uniq_other hne,hku,take_getD hlt]
  ·show xs.length - (k+1) < xs.length - k
   omega
 ·have e1:k=xs.length:=by have:=of_decide_eq_false k1;omega
  subst e1
  show (exNames e,())=(xs,())
  rw [hnm,uniqB,hku,List.take_length]
end Go.Proofs.YticmijfmgmkkcaaGreat
namespace Go.Proofs.YticmijfmgmkkcaaGreat
open Go.Sx
def opArg (o:Int):Int:=lookD o 0 [(3,1),(4,1),(5,1),(6,1),(7,1),(8,0),(9,0),(10,1),(11,1),(12,1),(13,1),(14,2),(15,2)]
def opRes (o:Int):Int:=lookD o 0 [(3,1),(4,1),(5,1),(6,1),(7,1),(8,2),(9,2),(10,2),(11,2),(12,2),(13,2),(14,2),(15,2)]
def typN (l:List Bd) (e:ExprT) (ts:List Int):Int × Int :=
 if e.kind=1 then (1,0)
 else if e.kind=2 then (if (findB l e.name).2=true then ((findB l e.name).1.2.1,0) else (0,7))
 else if e.kind=3 then (if ts.getD 0 0=(if e.op=2 then 2 else 1) then ((if e.op=2 then 2 else 1),0) else (0,15))
 else if ts.getD 0 0≠ts.getD 1 0∨(opArg e.op≠0∧ts.getD 0 0≠opArg e.op) then (0,15) else (opRes e.op,0)
mutual
def typF (l:List Bd):ExprT→Int × Int
 | .mk k o nm v args=>if (typL l args).2=0 then typN l (.mk k o nm v args) (typL l args).1 else (0,(typL l args).2)
def typL (l:List Bd):List ExprT→List Int × Int
 | []=>([],0)
 | e :: r=>if (typF l e).2=0 then ((typF l e).1 :: (typL l r).1,(typL l r).2) else ([],(typF l e).2)
end
theorem typF_eq (l:List Bd) (e:ExprT):typF l e=if (typL l e.args).2=0 then typN l e (typL l e.args).1 else (0,(typL l e.args).2):=by
 obtain ⟨k,o,nm,v,args⟩:=e
 rfl
theorem typL_drop (l:List Bd) {args:List ExprT} {i:Nat} {e0:ExprT} (h:i < args.length):typL l (args.drop i) =
 if (typF l (args.getD i e0)).2=0 then ((typF l (args.getD i e0)).1 :: (typL l (args.drop (i+1))).1,(typL l (args.drop (i+1))).2) else ([],(typF l (args.getD i e0)).2):=by
 rw [List.drop_eq_getElem_cons h]
 simp [typL,List.getD,h]
theorem chk_args:∀ (args:List ExprT) (i:Nat) (e0:ExprT),i < args.length→chkL args=0→chkT (args.getD i e0)=0
 | [],i,e0,h,_=>absurd h (Nat.not_lt_zero _)
 | e :: r,0,e0,_,h=>by
  simp only [chkL] at h
  split at h
  ·assumption
  ·rename_i h1;exact absurd h h1
 | e :: r,i+1,e0,hi,h=>by
  simp only [chkL] at h
  split at h
  ·have:=chk_args r i e0 (by simpa using hi) h
   simpa using this
  ·rename_i h1;exact absurd h h1
theorem chk_node {e:ExprT} (h:chkT e=0):chkNode e=0∧chkL e.args=0:=by
 rw [chkT_eq] at h
 split at h
 ·exact ⟨by assumption,h⟩
 ·rename_i h1;exact absurd h h1
theorem ite_ne {p:Prop} [Decidable p] {a b:Int} (h:(if p then a else b)=0) (ha:a≠0):¬ p∧b=0:=by
 by_cases hp:p
 ·rw [if_pos hp] at h;exact absurd h ha
 ·rw [if_neg hp] at h;exact ⟨hp,h⟩
theorem node_ok {e:ExprT} (h:chkNode e=0):(1≤e.kind∧e.kind≤4)∧(e.args.length:Int)=[0,0,0,1,2].getD e.kind.toNat 0∧(e.kind=1→0≤e.value∧e.value≤1099511627776) ∧
 (e.kind=2→nameB e.name=true)∧(e.kind=3→e.op=1∨e.op=2)∧(e.kind=4→opKnown e.op=true):=by
 simp only [chkNode,oddNode,Bool.cond_eq_ite] at h
 generalize opKnown e.op=b at *
 generalize nameB e.name=c at *
 generalize List.getD [0,0,0,1,2] e.kind.toNat (0:Int)=w at *
 generalize e.kind=k at *
 generalize e.op=o at *
 generalize e.value=v at *
 generalize (e.args.length:Int)=m at *
 generalize e.name=s at *
 obtain ⟨h1,h⟩:=ite_ne h (by decide)
 obtain ⟨h2,h⟩:=ite_ne h (by decide)
 obtain ⟨h3,h⟩:=ite_ne h (by decide)
 obtain ⟨h4,h⟩:=ite_ne h (by decide)
 obtain ⟨h5,h⟩:=ite_ne h (by decide)
 refine ⟨?_, ?_, ?_, ?_, ?_, ?_⟩ <;> grind
theorem len_two {e:ExprT} (h:(e.args.length:Int)=[0,0,0,1,2].getD e.kind.toNat 0):e.args.length≤2:=by
 have:∀ n:Nat,([0,0,0,1,2]:List Int).getD n 0≤2:=fun n=>by
  match n with
  | 0=>decide
  | 1=>decide
  | 2=>decide
  | 3=>decide
  | 4=>decide
  | n+5=>simp
 have:=this e.kind.toNat
 omega
def c117 (N:Nat):Ctr:=fnC [dX,dBds] rII (fun y=>chkT y.1=0∧exW y.1 < N) (fun y=>((typF y.2.1 y.1).1,(typF y.2.1 y.1).2,()))
def cxT (N:Nat):Ctx:=⟨tys0,[(117,([],c117 N)),(134,([],c134)),(130,([],c130))]⟩
set_option maxHeartbeats 4000000 in
theorem good117':∀ N,GoodC Tryz.prog 117 (c117 N)
 | 0=>by
  refine goodF cx0_good 3 _ _ _ _ ⟨_,Tryz.func117,rfl,rfl⟩ fun y hn=>?_
  exact absurd hn.2 (Nat.not_lt_zero _)
 | N+1=>by
  refine goodF (cx:=cxT N) (cx_cons (good117' N) (cx_cons good134 (cx_cons good130 cx0_good))) 3 _ _ _ _ ⟨_,Tryz.func117,rfl,rfl⟩ fun (⟨e,l,_⟩ : ExprT × List Bd × Unit) hn=>?_
  have hN:exW e < N+1:=hn.2
  have hc:chkT e=0:=hn.1
  clear hn
  obtain ⟨hc1,hc2⟩:=chk_node hc
  obtain ⟨hk,ha,-,-,-,ho⟩:=node_ok hc1
  refine (aI (by first | kernel_rfl | rfl) (fun h0=>?_))
  refine ex4 _ (fun p:Nat × List Int=>⟨[.any,.sl tBd l,.ptr 0 0,.any,.any,.any,.own 1,.any,.any,.any,.any,.any,.any,.any,.any,.ptr 0 4,.sl .expr e.args,.int .i64 (↑e.args.length:Int),.int .i64 (p.1:Int)]++nA 71,[.cells   [.int .i64 e.kind,.int .i64 e.op,.str e.name,.int .i64 e.value,.sl .expr e.args],.rows tI p.2],2⟩) (fun p=>p.1≤e.args.length∧p.2.length=p.1∧(typL l (e.args.drop p.1)).2=(typL l e.args).2∧((typL l e.args).2=0→(typL l e.args).1=p.2++(typL l (e.args.drop p.1)).1)) (fun p=>e.args.length - p.1) (aI (Exists.intro ((0,[])) (Exists.intro ([some 0,none]) (aI ?_ (aI (by rfl) (aI (by rfl) (aI (aI (aI (by rfl) (by rfl)) (aI (by rfl) True.intro)) (by rfl))))))) ?_)
  ·exact ⟨Nat.zero_le _,rfl,rfl,fun _=>rfl⟩
  rintro ⟨i,ts⟩ ⟨hi,hts,h2,h3⟩
  replace hts:ts.length=i:=hts
  have hl2:=len_two ha
  have room:(ts.length+1) * 8≤lim:=by
   have:i≤e.args.length:=hi
   simp only [lim];omega
  have hend:decide ((i:Int) < (e.args.length:Int))=false→ts.length=e.args.length∧typF l e=typN l e ts:=fun h=>by
   have hi':¬ i < e.args.length:=by simpa using h
   have hle:i≤e.args.length:=hi
   have hnil:e.args.drop i=[]:=List.drop_of_length_le (by omega)
   have h2':(typL l e.args).2=0:=by rw [← h2];show (typL l (e.args.drop i)).2=0;rw [hnil];rfl
   have h3':=h3 h2'
   have h4:(typL l e.args).1=ts:=by rw [h3'];show ts++(typL l (e.args.drop i)).1=ts;rw [hnil];simp [typL]
   refine ⟨by omega, ?_⟩
   rw [typF_eq,if_pos h2',h4]
  have hargs:∀ k:Int,e.kind=k→(e.args.length:Int)=[0,0,0,1,2].getD k.toNat 0:=fun k h=>by rw [← h];exact ha
  refine (aI (fun k0=>(aI (by first | exact room | (intros;(try subst_vars);(try simp only [nB] at *);(try simp only [inK,big,lim,nL] at *);omega)) (aI ?_ (aI (fun k1=>(fin_of rfl ?_)) (fun k1=>(aI (by first | exact room | (intros;(try subst_vars);(try simp only [nB] at *);(try simp only [inK,big,lim,nL] at *);omega)) (aI (by first | exact room | (intros;(try subst_vars);(try simp only [nB] at *);(try simp only [inK,big,lim,nL] at *);omega)) ?_))))))) (fun k0=>(aI (fun k2=>(fin_of rfl ?_)) (fun k2=>(aI (fun k3=>(aI True.intro (fun (k4:(ByteArray × Int × Int) × Bool × PUnit)=>(fun k5=>(aI (fun k6=>(fin_of rfl ?_)) (fun k6=>(fin_of rfl ?_))))))) (fun k3=>(aI (fun k7=>(aI (fun k8=>(aI ?_ (aI (fun k9=>(fin_of rfl ?_)) (fun k9=>(fin_of rfl ?_))))) (fun k8=>(aI ?_ (aI (fun k10=>(fin_of rfl ?_)) (fun k10=>(fin_of rfl ?_))))))) (fun k7=>(aI (by first | kernel_rfl | rfl) (aI (by first | kernel_rfl | rfl) (aI ?_ (aI ?_ (aI (fun k11=>?_) (aI (fun k12=>(fin_of rfl ?_)) (fun k12=>(fin_of rfl ?_))))))))))))))))
  ·have hi':i < e.args.length:=by simpa using k0
   rw [eta]
   exact ⟨chk_args _ _ _ hi' hc2,Nat.lt_of_lt_of_le (arg_lt hi') (by omega)⟩
  ·have hi':i < e.args.length:=by simpa using k0
   have hk:(typF l (e.args.getD i (dflt .expr))).2≠0:=by have h:=k1;simp only [eta] at h;simpa using h
   have hd:=typL_drop l (e0:=dflt .expr) hi'
   rw [if_neg hk] at hd
   have h4:(typL l e.args).2=(typF l (e.args.getD i (dflt .expr))).2:=by rw [← h2];show (typL l (e.args.drop i)).2=_;rw [hd]
   simp only [eta]
   show ((typF l e).1,(typF l e).2,())=(0,(typF l (e.args.getD i (dflt .expr))).2,())
   rw [typF_eq,if_neg (by rw [h4];exact hk),h4]
  ·have hi':i < e.args.length:=by simpa using k0
   have hk:(typF l (e.args.getD i (dflt .expr))).2=0:=by have h:=k1;simp only [eta] at h;simpa using h
   have hd:=typL_drop l (e0:=dflt .expr) hi'
   rw [if_pos hk] at hd
   refine Exists.intro ((i+1,ts++[(typF l (ExprT.mk (e.args.getD i (dflt .expr)).kind (e.args.getD i (dflt .expr)).op (e.args.getD i (dflt .expr)).name (e.args.getD i (dflt .expr)).value (e.args.getD i (dflt .expr)).args)).1])) (Exists.intro ([some 0,some 4]) (aI ?_ (aI ?_ (aI (by rfl) (aI (by rfl) (aI (aI (aI (by rfl) (by rfl)) (aI (by rfl) True.intro)) (by rfl)))))))
   ·rw [eta]
    refine ⟨hi',by show (ts++[_]).length=i+1;simp [hts], ?_,fun h=>?_⟩
    ·rw [← h2];show (typL l (e.args.drop (i+1))).2=(typL l (e.args.drop i)).2;rw [hd]
    ·rw [h3 h];show ts++(typL l (e.args.drop i)).1=(ts++[_])++(typL l (e.args.drop (i+1))).1;rw [hd];simp
   ·show e.args.length - (i+1) < e.args.length - i
    omega
  ·obtain ⟨-,he⟩:=hend k0
   have h1:e.kind=1:=of_decide_eq_true k2
   show ((typF l e).1,(typF l e).2,())=(1,0,())
   rw [he,typN,if_pos h1]
  ·obtain ⟨-,he⟩:=hend k0
   have h1:e.kind≠1:=of_decide_eq_false k2
   have h2:e.kind=2:=of_decide_eq_true k3
   have h6:¬ (findB l e.name).2=true:=by have h:=k6;rw [k5] at h;simpa using h
   show ((typF l e).1,(typF l e).2,())=(0,7,())
   rw [he,typN,if_neg h1,if_pos h2,if_neg h6]
  ·obtain ⟨-,he⟩:=hend k0
   have h1:e.kind≠1:=of_decide_eq_false k2
   have h2:e.kind=2:=of_decide_eq_true k3
   have h6:(findB l e.name).2=true:=by have h:=k6;rw [k5] at h;simpa using h
   show ((typF l e).1,(typF l e).2,())=(k4.1.2.1,0,())
   rw [k5,he,typN,if_neg h1,if_pos h2,if_pos h6]
  ·obtain ⟨hl,he⟩:=hend k0
   have:=hargs _ (of_decide_eq_true k7)
   simp at this
   exact ⟨Int.le_refl _,by rw [hl];omega⟩
  ·obtain ⟨-,he⟩:=hend k0
   have h1:e.kind≠1:=of_decide_eq_false k2
   have h2:e.kind≠2:=of_decide_eq_false k3
   have h3:e.kind=3:=of_decide_eq_true k7
   have h4:e.op=2:=of_decide_eq_true k8
   have h5:¬ ts.getD 0 0=2:=by have h:=k9;simpa using h
   show ((typF l e).1,(typF l e).2,())=(0,15,())
   rw [he,typN,if_neg h1,if_neg h2,if_pos h3,if_pos h4,if_neg h5]
  ·obtain ⟨-,he⟩:=hend k0
   have h1:e.kind≠1:=of_decide_eq_false k2
   have h2:e.kind≠2:=of_decide_eq_false k3
   have h3:e.kind=3:=of_decide_eq_true k7
   have h4:e.op=2:=of_decide_eq_true k8
   have h5:ts.getD 0 0=2:=by have h:=k9;simpa using h
   show ((typF l e).1,(typF l e).2,())=(2,0,())
   rw [he,typN,if_neg h1,if_neg h2,if_pos h3,if_pos h4,if_pos h5]
  ·obtain ⟨hl,he⟩:=hend k0
   have:=hargs _ (of_decide_eq_true k7)
   simp at this
   exact ⟨Int.le_refl _,by rw [hl];omega⟩
  ·obtain ⟨-,he⟩:=hend k0
   have h1:e.kind≠1:=of_decide_eq_false k2
   have h2:e.kind≠2:=of_decide_eq_false k3
   have h3:e.kind=3:=of_decide_eq_true k7
   have h4:e.op≠2:=of_decide_eq_false k8
   have h5:¬ ts.getD 0 0=1:=by have h:=k10;simpa using h
   show ((typF l e).1,(typF l e).2,())=(0,15,())
   rw [he,typN,if_neg h1,if_neg h2,if_pos h3,if_neg h4,if_neg h5]
  ·obtain ⟨-,he⟩:=hend k0
   have h1:e.kind≠1:=of_decide_eq_false k2
   have h2:e.kind≠2:=of_decide_eq_false k3
   have h3:e.kind=3:=of_decide_eq_true k7
   have h4:e.op≠2:=of_decide_eq_false k8
   have h5:ts.getD 0 0=1:=by have h:=k10;simpa using h
   show ((typF l e).1,(typF l e).2,())=(1,0,())
   rw [he,typN,if_neg h1,if_neg h2,if_pos h3,if_neg h4,if_pos h5]
  iterate 3
   ·obtain ⟨hl,he⟩:=hend k0
    have h1:e.kind≠1:=of_decide_eq_false k2
    have h2:e.kind≠2:=of_decide_eq_false k3
    have h3:e.kind≠3:=of_decide_eq_false k7
    have:=hargs 4 (by omega)
    simp at this
    exact ⟨by decide,by rw [hl];omega⟩
  ·obtain ⟨-,he⟩:=hend k0
   have h1:e.kind≠1:=of_decide_eq_false k2
   have h2:e.kind≠2:=of_decide_eq_false k3
   have h3:e.kind≠3:=of_decide_eq_false k7
   have h4:ts.getD 0 0≠ts.getD 1 0∨(opArg e.op≠0∧ts.getD 0 0≠opArg e.op):=by
    have h:(bif !decide (ts.getD 0 0=ts.getD 1 0) then true else bif !decide (opArg e.op=0) then !decide (ts.getD 0 0=opArg e.op) else false)=true:=k12
    simp only [Bool.cond_eq_ite] at h
    grind
   show ((typF l e).1,(typF l e).2,())=(0,15,())
   rw [he,typN,if_neg h1,if_neg h2,if_neg h3,if_pos h4]
  ·obtain ⟨-,he⟩:=hend k0
   have h1:e.kind≠1:=of_decide_eq_false k2
   have h2:e.kind≠2:=of_decide_eq_false k3
   have h3:e.kind≠3:=of_decide_eq_false k7
   have h4:¬ (ts.getD 0 0≠ts.getD 1 0∨(opArg e.op≠0∧ts.getD 0 0≠opArg e.op)):=by
    have h:(bif !decide (ts.getD 0 0=ts.getD 1 0) then true else bif !decide (opArg e.op=0) then !decide (ts.getD 0 0=opArg e.op) else false)=false:=k12
    simp only [Bool.cond_eq_ite] at h
    grind
   show ((typF l e).1,(typF l e).2,())=(opRes e.op,0,())
   rw [he,typN,if_neg h1,if_neg h2,if_neg h3,if_neg h4]
def c117A:Ctr:=fnC [dX,dBds] rII (fun y=>chkT y.1=0) (fun y=>((typF y.2.1 y.1).1,(typF y.2.1 y.1).2,()))
theorem good117:GoodC Tryz.prog 117 c117A:=good_rec (fun y=>exW y.1) good117'
def exType (e:ExprT) (l:List Bd):Int × Int:=if exChk e≠0 then (0,exChk e) else if boundB l=true then typF l e else (0,1)
theorem chk_T {e:ExprT} (h:exChk e=0):chkT e=0:=by
 unfold exChk at h
 split at h
 ·exact absurd h (by decide)
 ·split at h
  ·exact absurd h (by decide)
  ·exact h
def cxU:Ctx:=⟨tys0,[(79,([],c79)),(116,([],c116)),(117,([],c117A))]⟩
theorem cxU_good:GoodCtx Tryz.prog cxU:=cx_cons good79 (cx_cons good116 (cx_cons good117 cx0_good))
def c82:Ctr:=fnC [dX,dBds] rII (fun _=>True) (fun y=>((exType y.1 y.2.1).1,(exType y.1 y.2.1).2,()))
theorem good82:GoodC Tryz.prog 82 c82:=by
 refine goodF cxU_good 3 _ _ _ _ ⟨_,Tryz.func82,rfl,rfl⟩ fun (⟨e,l,_⟩ : ExprT × List Bd × Unit) _=>?_
 refine (aI (by first | kernel_rfl | rfl) (aI True.intro (aI (fun h0=>(fin_of rfl ?_)) (fun h0=>(aI True.intro (aI (fun h1=>(fin_of rfl ?_)) (fun h1=>(aI ?_ (fin_of rfl ?_)))))))))
 ·have hk:exChk e≠0:=by have h:=h0;simp only [eta] at h;simpa using h
  simp only [eta]
  show ((exType e l).1,(exType e l).2,())=(0,exChk e,())
  rw [exType,if_pos hk]
 ·have hk:¬ exChk e≠0:=by have h:=h0;simp only [eta] at h;simpa using h
  have hb:¬ boundB l=true:=by have h:=h1;simpa using h
  show ((exType e l).1,(exType e l).2,())=(0,1,())
  rw [exType,if_neg hk,if_neg hb]
 ·have hk:exChk e=0:=by have h:=h0;simp only [eta] at h;simpa using h
  simp only [eta]
  exact chk_T hk
 ·have hk:¬ exChk e≠0:=by have h:=h0;simp only [eta] at h;simpa using h
  have hb:boundB l=true:=by have h:=h1;simpa using h
  simp only [eta]
  show ((exType e l).1,(exType e l).2,())=((typF l e).1,(typF l e).2,())
  rw [exType,if_neg hk,if_pos hb]
end Go.Proofs.YticmijfmgmkkcaaGreat
