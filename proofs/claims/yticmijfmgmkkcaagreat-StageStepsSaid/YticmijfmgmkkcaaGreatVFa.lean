import Derived.Test.YticmijfmgmkkcaaGreatVZa1
import Derived.Test.YticmijfmgmkkcaaGreatVZa3
set_option linter.unusedSimpArgs false
set_option linter.unusedVariables false
set_option maxRecDepth 100000
namespace Go.Proofs.YticmijfmgmkkcaaGreat
open Go.Sx
mutual
def exDep:ExprT→Int
 | .mk _ _ _ _ args=>exDepL args 0+1
def exDepL:List ExprT→Int→Int
 | [],n=>n
 | e :: l,n=>exDepL l (if exDep e > n then exDep e else n)
end
theorem exDep_eq (e:ExprT):exDep e=exDepL e.args 0+1:=by
 obtain ⟨k,o,nm,v,args⟩:=e
 rfl
theorem exDepL_ge:∀ (l:List ExprT) (n:Int),n≤exDepL l n
 | [],n=>Int.le_refl _
 | e :: l,n=>by
  simp only [exDepL]
  have h:=exDepL_ge l (if exDep e > n then exDep e else n)
  have h2:n≤(if exDep e > n then exDep e else n):=by split <;> omega
  omega
theorem exDepL_drop {args:List ExprT} {i:Nat} {n:Int} {d:ExprT} (h:i < args.length):exDepL (args.drop i) n=exDepL (args.drop (i+1)) (if exDep (args.getD i d) > n then exDep (args.getD i d) else n):=by
 rw [List.drop_eq_getElem_cons h]
 simp [exDepL,List.getD,h]
theorem exDepL_mem:∀ (l:List ExprT) (n:Int) (i:Nat) (d:ExprT),i < l.length→exDep (l.getD i d)≤exDepL l n
 | [],n,i,d,h=>absurd h (Nat.not_lt_zero _)
 | e :: l,n,0,d,_=>by
  simp only [exDepL]
  have h:=exDepL_ge l (if exDep e > n then exDep e else n)
  have h2:exDep e≤(if exDep e > n then exDep e else n):=by split <;> omega
  exact Int.le_trans h2 h
 | e :: l,n,i+1,d,h=>by
  simp only [exDepL]
  exact exDepL_mem l _ i d (by simpa using h)
def c118 (N:Nat):Ctr:=fnC [dX] rI (fun y=>(exDep y.1≤1000)∧exW y.1 < N) (fun y=>(exDep y.1,()))
def cxF118 (N:Nat):Ctx:=⟨tys0,[(118,([],c118 N))]⟩
theorem good118':∀ N,GoodC Tryz.prog 118 (c118 N)
 | 0=>by
  refine goodF cx0_good 3 _ _ _ _ ⟨_,Tryz.func118,rfl,rfl⟩ fun y hn=>?_
  exact absurd hn.2 (Nat.not_lt_zero _)
 | N+1=>by
  refine goodF (cx:=cxF118 N) (cx_cons (good118' N) cx0_good) 3 _ _ _ _ ⟨_,Tryz.func118,rfl,rfl⟩ fun (⟨e,_⟩ : ExprT × Unit) hn=>?_
  have hN:exW e < N+1:=hn.2
  have hd:exDep e≤1000:=hn.1
  clear hn
  have hdl:exDepL e.args 0≤999:=by rw [exDep_eq] at hd;omega
  refine (aI (by first | kernel_rfl | rfl) ?_)
  refine ex4 _ (fun p:Nat × Int=>⟨[.any,.ptr 0 0,.any,.int .i64 p.2,.int .i64 (p.1:Int)]++nA 20,[.cells   [.int .i64 e.kind,.int .i64 e.op,.str e.name,.int .i64 e.value,.sl .expr e.args]],1⟩) (fun p=>p.1≤e.args.length∧0≤p.2∧exDepL e.args 0=exDepL (e.args.drop p.1) p.2) (fun p=>e.args.length - p.1) (aI (Exists.intro ((0,0)) (Exists.intro ([some 0]) (aI ?_ (aI (by rfl) (aI (by rfl) (aI (aI (aI (by rfl) (by rfl)) True.intro) (by rfl))))))) ?_)
  ·exact ⟨Nat.zero_le _,Int.le_refl 0,rfl⟩
  rintro ⟨i,m⟩ ⟨hi,hm0,ht⟩
  replace hm0:0≤m:=hm0
  replace ht:exDepL e.args 0=exDepL (e.args.drop i) m:=ht
  have hm1:m≤999:=by have:=exDepL_ge (e.args.drop i) m;omega
  refine (fun k0=>(aI (fun k1=>(aI (by intros;(try subst_vars);(try simp only [nB] at *);(try simp only [inK,big,lim,nL] at *);omega) (aI ?_ (aI (fun k2=>(aI (by intros;(try subst_vars);(try simp only [nB] at *);(try simp only [inK,big,lim,nL] at *);omega) ?_)) (fun k2=>(aI (by intros;(try subst_vars);(try simp only [nB] at *);(try simp only [inK,big,lim,nL] at *);omega) ?_)))))) (fun k1=>(aI (by intros;(try subst_vars);(try simp only [nB] at *);(try simp only [inK,big,lim,nL] at *);omega) (fin_of rfl ?_)))))
  ·have hi':i < e.args.length:=by simpa using k1
   have hm:=exDepL_mem e.args 0 i (dflt .expr) hi'
   refine ⟨?_, ?_⟩
   ·show exDep (ExprT.mk _ _ _ _ _)≤1000
    rw [eta]
    show exDep (e.args.getD i (dflt .expr))≤1000
    omega
   ·show exW (ExprT.mk _ _ _ _ _) < N
    rw [eta]
    exact Nat.lt_of_lt_of_le (arg_lt hi') (by omega)
  ·have hi':i < e.args.length:=by simpa using k1
   have hk:exDep (e.args.getD i (dflt .expr)) > m:=by have h:=of_decide_eq_true k2;simp only [eta] at h;exact h
   refine Exists.intro ((i+1,exDep (ExprT.mk (e.args.getD i (dflt .expr)).kind (e.args.getD i (dflt .expr)).op (e.args.getD i (dflt .expr)).name (e.args.getD i (dflt .expr)).value (e.args.getD i (dflt .expr)).args))) (Exists.intro ([some 0]) (aI ?_ (aI ?_ (aI (by rfl) (aI (by rfl) (aI (aI (aI (by rfl) (by rfl)) True.intro) (by rfl)))))))
   ·rw [eta]
    refine ⟨hi',by show 0≤exDep _;omega, ?_⟩
    rw [ht,exDepL_drop (d:=dflt .expr) hi',if_pos hk]
   ·show e.args.length - (i+1) < e.args.length - i
    omega
  ·have hi':i < e.args.length:=by simpa using k1
   have hk:¬ exDep (e.args.getD i (dflt .expr)) > m:=by have h:=of_decide_eq_false k2;simp only [eta] at h;exact h
   refine Exists.intro ((i+1,m)) (Exists.intro ([some 0]) (aI ?_ (aI ?_ (aI (by rfl) (aI (by rfl) (aI (aI (aI (by rfl) (by rfl)) True.intro) (by rfl)))))))
   ·refine ⟨hi',hm0, ?_⟩
    rw [ht,exDepL_drop (d:=dflt .expr) hi',if_neg hk]
   ·show e.args.length - (i+1) < e.args.length - i
    omega
  ·have hi':¬ i < e.args.length:=by simpa using k1
   show (exDep e,())=(m+1,())
   rw [exDep_eq,ht,List.drop_of_length_le (by omega)];rfl
def c118A:Ctr:=fnC [dX] rI (fun y=>exDep y.1≤1000) (fun y=>(exDep y.1,()))
theorem good118:GoodC Tryz.prog 118 c118A:=good_rec (fun y=>exW y.1) good118'
end Go.Proofs.YticmijfmgmkkcaaGreat
namespace Go.Proofs.YticmijfmgmkkcaaGreat
open Go.Sx
theorem opKnown_iff (o:Int):opKnown o=!(bif decide (o < 3) then true else decide (15 < o)):=by
 by_cases h:3≤o∧o≤15
 ·have h2:o=3∨o=4∨o=5∨o=6∨o=7∨o=8∨o=9∨o=10∨o=11∨o=12∨o=13∨o=14∨o=15:=by omega
  rcases h2 with rfl | rfl | rfl | rfl | rfl | rfl | rfl | rfl | rfl | rfl | rfl | rfl | rfl <;> decide
 ·have h1:(bif decide (o < 3) then true else decide (15 < o))=true:=by
   by_cases h3:o < 3
   ·rw [decide_eq_true h3];rfl
   ·rw [decide_eq_false h3,decide_eq_true (by omega)];rfl
  rw [h1]
  have e3:o≠3:=by omega
  have e4:o≠4:=by omega
  have e5:o≠5:=by omega
  have e6:o≠6:=by omega
  have e7:o≠7:=by omega
  have e8:o≠8:=by omega
  have e9:o≠9:=by omega
  have e10:o≠10:=by omega
  have e11:o≠11:=by omega
  have e12:o≠12:=by omega
  have e13:o≠13:=by omega
  have e14:o≠14:=by omega
  have e15:o≠15:=by omega
  simp [opKnown,opTab,dmpE,memD,e3,e4,e5,e6,e7,e8,e9,e10,e11,e12,e13,e14,e15]
def byteI (s:ByteArray) (i:Nat):Int:=((s.data.toList.getD i 0).toNat:Int)
theorem byteI_eq {s:ByteArray} {i:Nat} (h:i < s.size):byteI s i=((s[i]'h).toNat:Int):=by
 unfold byteI
 have h':i < s.data.toList.length:=by simpa using h
 rw [List.getD_eq_getElem?_getD,List.getElem?_eq_getElem h']
 rfl
def badByte (c:Int) (i:Nat):Bool :=
 bif !bif decide (97≤c) then decide (c≤122) else false then (bif decide ((i:Int)=0) then true else !bif bif decide (48≤c) then decide (c≤57) else false then true else decide (c=95)) else false
theorem bad_eq (c:Int) (i:Nat):badByte c i=badRune c i:=by
 unfold badByte badRune
 simp only [Bool.cond_eq_ite]
 grind
theorem bad_high {c:Int} (h:128≤c) (i:Nat):badRune c i=true:=by
 unfold badRune
 simp only [Bool.cond_eq_ite]
 grind
theorem runes_bad {s:ByteArray} {n i:Nat} (h:i < s.size) (hb:badByte (byteI s i) i=true):runesOk s (n+1) i=false:=by
 have hr:badRune (Utf8.decode s i).1 i=true:=by
  by_cases ha:(s[i]'h).toNat < 128
  ·rw [decode_ascii s i h ha]
   rw [bad_eq,byteI_eq h] at hb
   exact hb
  ·refine bad_high ?_ i
   have h9:=(decode_high s i h (by omega)).1
   omega
 simp only [runesOk]
 rw [if_pos h,if_pos hr]
theorem runes_good {s:ByteArray} {n i:Nat} (h:i < s.size) (hb:badByte (byteI s i) i=false):runesOk s (n+1) i=runesOk s n (i+1):=by
 have ha:(s[i]'h).toNat < 128:=by
  by_cases ha:(s[i]'h).toNat < 128
  ·exact ha
  ·rw [bad_eq,byteI_eq h,bad_high (by omega)] at hb
   cases hb
 have hr:¬ badRune (Utf8.decode s i).1 i=true:=by
  rw [decode_ascii s i h ha]
  rw [bad_eq,byteI_eq h] at hb
  intro h9
  rw [show badRune _ i=false from hb] at h9
  cases h9
 simp only [runesOk]
 rw [if_pos h,if_neg hr,decode_ascii s i h ha]
def c137:Ctr:=fnC [dS] rB (fun _=>True) (fun y=>(nameB y.1,()))
theorem good137:GoodC Tryz.prog 137 c137:=by
 refine goodF cx0_good 3 _ _ _ _ ⟨_,Tryz.func137,rfl,rfl⟩ fun (⟨s,_⟩ : ByteArray × Unit) _=>?_
 refine (aI (by first | kernel_rfl | rfl) (aI (fun h0=>(fin_of rfl ?_)) (fun h0=>?_)))
 ·have h':(bif decide (s=⟨#[]⟩) then true else decide (30 < (s.size:Int)))=true:=h0
  show (nameB s,())=(false,())
  unfold nameB
  by_cases he:s=⟨#[]⟩
  ·subst he;rfl
  ·rw [decide_eq_false he] at h'
   have h9:30 < (s.size:Int):=of_decide_eq_true h'
   rw [decide_eq_false (show ¬ (s.size:Int)≤30 by omega)]
   cases runesOk s s.size 0 <;> cases decide (1≤(s.size:Int)) <;> rfl
 have hsz:s≠⟨#[]⟩∧¬ 30 < (s.size:Int):=by
  have h':(bif decide (s=⟨#[]⟩) then true else decide (30 < (s.size:Int)))=false:=h0
  by_cases he:s=⟨#[]⟩
  ·rw [decide_eq_true he] at h';cases h'
  ·rw [decide_eq_false he] at h'
   exact ⟨he,of_decide_eq_false h'⟩
 have hpos:1≤s.size:=by
  rcases Nat.eq_zero_or_pos s.size with h9 | h9
  ·refine absurd ?_ hsz.1
   rcases s with ⟨d⟩
   have h8:d.size=0:=h9
   rw [Array.eq_empty_of_size_eq_zero h8]
  ·exact h9
 refine ex4 _ (fun i:Nat=>⟨[.str s,.any,.any,.int .i64 (i:Int)]++nA 51,[],0⟩) (fun i=>i≤s.size∧runesOk s s.size 0=runesOk s (s.size - i) i) (fun i=>s.size - i) (aI (Exists.intro (0) (Exists.intro ([]) (aI ?_ (aI (by rfl) (aI (by rfl) (aI True.intro (by rfl))))))) ?_)
 ·exact ⟨Nat.zero_le _,rfl⟩
 rintro i ⟨hi,ht⟩
 refine (aI (fun k0=>(aI (by intros;(try subst_vars);(try simp only [nB] at *);(try simp only [inK,big,lim,nL] at *);omega) (aI (fun k1=>(by intros;(try subst_vars);(try simp only [nB] at *);(try simp only [inK,big,lim,nL] at *);omega)) (aI (by intros;(try subst_vars);(try simp only [nB] at *);(try simp only [inK,big,lim,nL] at *);omega) (aI (fun k2=>(by intros;(try subst_vars);(try simp only [nB] at *);(try simp only [inK,big,lim,nL] at *);omega)) (aI (fun k3=>(by intros;(try subst_vars);(try simp only [nB] at *);(try simp only [inK,big,lim,nL] at *);omega)) (aI (fun k4=>(fin_of rfl ?_)) (fun k4=>(aI (by intros;(try subst_vars);(try simp only [nB] at *);(try simp only [inK,big,lim,nL] at *);omega) ?_))))))))) (fun k0=>(fin_of rfl ?_)))
 ·have hi':i < s.size:=by simpa using k0
  have hk:badByte (byteI s i) i=true:=k4
  show (nameB s,())=(false,())
  unfold nameB
  rw [ht,show s.size - i=(s.size - (i+1))+1 by omega,runes_bad hi' hk];rfl
 ·have hi':i < s.size:=by simpa using k0
  have hk:badByte (byteI s i) i=false:=k4
  refine Exists.intro (i+1) (Exists.intro ([]) (aI ?_ (aI ?_ (aI (by rfl) (aI (by rfl) (aI True.intro (by rfl)))))))
  ·refine ⟨hi', ?_⟩
   rw [ht,show s.size - i=(s.size - (i+1))+1 by omega,runes_good hi' hk]
  ·show s.size - (i+1) < s.size - i
   omega
 ·have hi':¬ i < s.size:=by simpa using k0
  show (nameB s,())=(true,())
  unfold nameB
  rw [ht,runesOk_end s _ _ hi',decide_eq_true (show 1≤(s.size:Int) by omega),decide_eq_true (show (s.size:Int)≤30 by omega)];rfl
def cxF135:Ctx:=⟨tys0,[(137,([],c137))]⟩
theorem cxF135_good:GoodCtx Tryz.prog cxF135:=cx_cons good137 cx0_good
def c135:Ctr:=fnC [dX] rI (fun _=>True) (fun y=>(chkNode y.1,()))
set_option maxHeartbeats 4000000 in
theorem good135:GoodC Tryz.prog 135 c135:=by
 refine goodF cxF135_good 3 _ _ _ _ ⟨_,Tryz.func135,rfl,rfl⟩ fun (⟨⟨ek,eo,em,ev,ea⟩,_⟩ : ExprT × Unit) _=>?_
 refine (aI (by first | kernel_rfl | rfl) (aI (fun h0=>(fin_of rfl ?_)) (fun h0=>(aI (by first | kernel_rfl | rfl) (aI (fun h1=>(aI (fun h2=>(fun h3=>(aI (fun h4=>(fin_of rfl ?_)) (fun h4=>(aI (fun h5=>(fin_of rfl ?_)) (fun h5=>(aI (fun h6=>True.intro) (aI (fun h7=>(fin_of rfl ?_)) (fun h7=>(aI (fun h8=>(fin_of rfl ?_)) (fun h8=>(fin_of rfl ?_)))))))))))) (fun h2=>(fun h9=>(aI (fun h10=>(fin_of rfl ?_)) (fun h10=>(aI (fun h11=>(fin_of rfl ?_)) (fun h11=>(aI (fun h12=>True.intro) (aI (fun h13=>(fin_of rfl ?_)) (fun h13=>(aI (fun h14=>(fin_of rfl ?_)) (fun h14=>(fin_of rfl ?_)))))))))))))) (fun h1=>(aI (fun h15=>(fun h16=>(aI (fun h17=>(fin_of rfl ?_)) (fun h17=>(aI (fun h18=>(fin_of rfl ?_)) (fun h18=>(aI (fun h19=>True.intro) (aI (fun h20=>(fin_of rfl ?_)) (fun h20=>(aI (fun h21=>(fin_of rfl ?_)) (fun h21=>(fin_of rfl ?_)))))))))))) (fun h15=>(fun h22=>(aI (fun h23=>(fin_of rfl ?_)) (fun h23=>(aI (fun h24=>(fin_of rfl ?_)) (fun h24=>(aI (fun h25=>True.intro) (aI (fun h26=>(fin_of rfl ?_)) (fun h26=>(aI (fun h27=>(fin_of rfl ?_)) (fun h27=>(fin_of rfl ?_)))))))))))))))))))
 all_goals
  show (chkNode _,())=_
  simp only [chkNode,oddNode,opKnown_iff,dflt,Bool.cond_eq_ite] at *
  generalize nameB em=c at *
  grind
end Go.Proofs.YticmijfmgmkkcaaGreat
namespace Go.Proofs.YticmijfmgmkkcaaGreat
open Go.Sx
def c119 (N:Nat):Ctr:=fnC [dX] rI (fun y=>True∧exW y.1 < N) (fun y=>(chkT y.1,()))
def cxF119 (N:Nat):Ctx:=⟨tys0,[(119,([],c119 N)),(135,([],c135))]⟩
theorem good119':∀ N,GoodC Tryz.prog 119 (c119 N)
 | 0=>by
  refine goodF cx0_good 3 _ _ _ _ ⟨_,Tryz.func119,rfl,rfl⟩ fun y hn=>?_
  exact absurd hn.2 (Nat.not_lt_zero _)
 | N+1=>by
  refine goodF (cx:=cxF119 N) (cx_cons (good119' N) (cx_cons good135 cx0_good)) 3 _ _ _ _ ⟨_,Tryz.func119,rfl,rfl⟩ fun (⟨e,_⟩ : ExprT × Unit) hn=>?_
  have hN:exW e < N+1:=hn.2
  clear hn
  refine (aI (by first | kernel_rfl | rfl) (aI True.intro (aI (fun h0=>(fin_of rfl ?_)) (fun h0=>?_))))
  ·have hc:¬ chkNode e=0:=by have h:=h0;simp only [eta] at h;simpa using h
   show (chkT e,())=(chkNode (ExprT.mk _ _ _ _ _),())
   rw [eta,chkT_eq,if_neg hc]
  have hc:chkNode e=0:=by have h:=h0;simp only [eta] at h;simpa using h
  refine ex4 _ (fun i:Nat=>⟨[.any,.ptr 0 0,.any,.any,.int .i64 (i:Int)]++nA 22,[.cells   [.int .i64 e.kind,.int .i64 e.op,.str e.name,.int .i64 e.value,.sl .expr e.args]],1⟩) (fun i=>i≤e.args.length∧chkL e.args=chkL (e.args.drop i)) (fun i=>e.args.length - i) (aI (Exists.intro (0) (Exists.intro ([some 0]) (aI ?_ (aI (by rfl) (aI (by rfl) (aI (aI (aI (by rfl) (by rfl)) True.intro) (by rfl))))))) ?_)
  ·exact ⟨Nat.zero_le _,rfl⟩
  rintro i ⟨hi,ht⟩
  refine (fun k0=>(aI (fun k1=>(aI (by intros;(try subst_vars);(try simp only [nB] at *);(try simp only [inK,big,lim,nL] at *);omega) (aI ?_ (aI (fun k2=>(fin_of rfl ?_)) (fun k2=>(aI (by intros;(try subst_vars);(try simp only [nB] at *);(try simp only [inK,big,lim,nL] at *);omega) ?_)))))) (fun k1=>(fin_of rfl ?_))))
  ·have hi':i < e.args.length:=by simpa using k1
   refine ⟨trivial, ?_⟩
   show exW (ExprT.mk _ _ _ _ _) < N
   rw [eta]
   exact Nat.lt_of_lt_of_le (arg_lt hi') (by omega)
  ·have hi':i < e.args.length:=by simpa using k1
   have hk:¬ chkT (e.args.getD i (dflt .expr))=0:=by have h:=k2;simp only [eta] at h;simpa using h
   show (chkT e,())=(chkT (ExprT.mk _ _ _ _ _),())
   rw [eta,chkT_eq,if_pos hc,ht,chkL_drop (e0:=dflt .expr) hi',if_neg hk];rfl
  ·have hi':i < e.args.length:=by simpa using k1
   have hk:chkT (e.args.getD i (dflt .expr))=0:=by have h:=k2;simp only [eta] at h;simpa using h
   refine Exists.intro (i+1) (Exists.intro ([some 0]) (aI ?_ (aI ?_ (aI (by rfl) (aI (by rfl) (aI (aI (aI (by rfl) (by rfl)) True.intro) (by rfl)))))))
   ·refine ⟨hi', ?_⟩
    rw [ht,chkL_drop (e0:=dflt .expr) hi',if_pos hk]
   ·show e.args.length - (i+1) < e.args.length - i
    omega
  ·have hi':¬ i < e.args.length:=by simpa using k1
   show (chkT e,())=(0,())
   rw [chkT_eq,if_pos hc,ht,List.drop_of_length_le (by omega)];rfl
def c119A:Ctr:=fnC [dX] rI (fun _=>True) (fun y=>(chkT y.1,()))
theorem good119:GoodC Tryz.prog 119 c119A:=good_rec (fun y=>exW y.1) good119'
theorem prtT_eq (e:ExprT):prtT e=1+prtL e.args:=by
 obtain ⟨k,o,nm,v,args⟩:=e
 rfl
mutual
theorem dep_prt:∀ e:ExprT,exDep e≤(prtT e:Int)
 | .mk _ _ _ _ args=>by
  simp only [exDep,prtT]
  have:=dep_prtL args 0 (Int.le_refl 0)
  omega
theorem dep_prtL:∀ (l:List ExprT) (n:Int),0≤n→exDepL l n≤n+(prtL l:Int)
 | [],n,_=>by simp [exDepL,prtL]
 | e :: l,n,h=>by
  simp only [exDepL,prtL]
  have h1:=dep_prt e
  split
  ·have:=dep_prtL l (exDep e) (by omega);omega
  ·have:=dep_prtL l n h;omega
end
mutual
theorem size_prt:∀ (e:ExprT) (n:Int),0≤n→n≤100→exSize e n=min (n+(prtT e:Int)) 101
 | .mk _ _ _ _ args,n,h0,h1=>by
  simp only [exSize,prtT]
  rw [size_prtL args (n+1) (by omega) (by omega)]
  omega
theorem size_prtL:∀ (l:List ExprT) (n:Int),0≤n→n≤101→exSizeL l n=min (n+(prtL l:Int)) 101
 | [],n,h0,h1=>by simp only [exSizeL,prtL];omega
 | e :: l,n,h0,h1=>by
  simp only [exSizeL,prtL]
  split
  ·omega
  ·rw [size_prt e n h0 (by omega),size_prtL l _ (by omega) (by omega)]
   omega
end
mutual
theorem ms_is:∀ (e:ExprT) (d n:Int),0≤n→n≤100→1≤d→d≤n+1→(msF e d n).2=min (n+(prtT e:Int)) 101∧(msF e d n).1≤(msF e d n).2∧(n+(prtT e:Int)≤100→(msF e d n).1=d+exDep e - 1)
 | .mk k o nm v args,d,n,h0,h1,h2,h3=>by
  rw [prtT_eq,exDep_eq,msF_eq]
  simp only [ExprT.args]
  split
  ·rename_i h
   have h9:100 < n+1:=by
    rcases Int.lt_or_le 100 (n+1) with h8 | h8
    ·exact h8
    ·rw [decide_eq_false (by omega),decide_eq_false (by omega)] at h;cases h
   refine ⟨by show n+1=_;omega,by show d≤n+1;omega,fun h7=>by omega⟩
  ·have h9:n+1≤100:=by
    rename_i h
    rcases Int.lt_or_le 100 (n+1) with h8 | h8
    ·rw [decide_eq_true h8] at h;exact absurd rfl h
    ·exact h8
   obtain ⟨a1,a2,a3⟩:=ms_isL args d d (n+1) (by omega) (by omega) h2 h3 (Int.le_refl _) h3
   refine ⟨by omega,a2,fun h7=>?_⟩
   rw [a3 (by omega),Int.sub_self]
   omega
theorem ms_isL:∀ (l:List ExprT) (d dp n:Int),0≤n→n≤101→1≤d→d≤n→d≤dp→dp≤n→(msL l d dp n).2=min (n+(prtL l:Int)) 101∧(msL l d dp n).1≤(msL l d dp n).2∧(n+(prtL l:Int)≤100→(msL l d dp n).1=d+exDepL l (dp - d))
 | [],d,dp,n,h0,h1,h2,h3,h4,h5=>by
  refine ⟨?_,h5,fun _=>?_⟩
  ·simp only [msL,prtL];omega
  ·simp only [msL,exDepL];omega
 | e :: l,d,dp,n,h0,h1,h2,h3,h4,h5=>by
  simp only [msL,prtL,exDepL]
  split
  ·exact ⟨by show n=_;omega,h5,fun h=>by omega⟩
  ·obtain ⟨a1,a2,a3⟩:=ms_is e (d+1) n h0 (by omega) (by omega) (by omega)
   have hb:d≤(if (msF e (d+1) n).1 > dp then (msF e (d+1) n).1 else dp)∧(if (msF e (d+1) n).1 > dp then (msF e (d+1) n).1 else dp)≤(msF e (d+1) n).2:=by
    split <;> omega
   obtain ⟨b1,b2,b3⟩:=ms_isL l d (if (msF e (d+1) n).1 > dp then (msF e (d+1) n).1 else dp) (msF e (d+1) n).2 (by omega) (by omega) h2 (by omega) hb.1 hb.2
   refine ⟨by omega,b2,fun h=>?_⟩
   rw [b3 (by omega),a3 (by omega)]
   congr 2
   split <;> split <;> omega
end
theorem count_prt (e:ExprT):exCount e=min (prtT e:Int) 101:=by
 unfold exCount
 rw [size_prt e 0 (Int.le_refl 0) (by decide)]
 split <;> omega
theorem chk_sizeR {e:ExprT}:100 < exCount e↔100 < (msF e 1 0).2:=by
 rw [count_prt,(ms_is e 1 0 (Int.le_refl 0) (by decide) (by decide) (by decide)).1,Int.zero_add]
theorem chk_dep {e:ExprT} (h:¬ 100 < exCount e):exDep e=(msF e 1 0).1:=by
 rw [count_prt] at h
 rw [(ms_is e 1 0 (Int.le_refl 0) (by decide) (by decide) (by decide)).2.2 (by omega)]
 omega
def cxF84:Ctx:=⟨tys0,[(87,([],c87)),(118,([],c118A)),(119,([],c119A))]⟩
theorem cxF84_good:GoodCtx Tryz.prog cxF84:=cx_cons good87 (cx_cons good118 (cx_cons good119 cx0_good))
def c84:Ctr:=fnC [dX] rI (fun _=>True) (fun y=>(exChk y.1,()))
theorem good84:GoodC Tryz.prog 84 c84:=by
 refine goodF cxF84_good 3 _ _ _ _ ⟨_,Tryz.func84,rfl,rfl⟩ fun (⟨e,_⟩ : ExprT × Unit) _=>?_
 refine (aI (by first | kernel_rfl | rfl) (aI True.intro (aI (fun h0=>(fin_of rfl ?_)) (fun h0=>(aI ?_ (aI (fun h1=>(fin_of rfl ?_)) (fun h1=>(aI True.intro (fin_of rfl ?_)))))))))
 ·have hk:100 < exCount e:=by have h:=of_decide_eq_true h0;simp only [eta] at h;exact h
  show (exChk e,())=(4,())
  rw [exChk_4 (decide_eq_true (chk_sizeR.1 hk))]
 ·have hk:¬ 100 < exCount e:=by have h:=of_decide_eq_false h0;simp only [eta] at h;exact h
  show exDep (ExprT.mk _ _ _ _ _)≤1000
  rw [eta]
  show exDep e≤1000
  rw [count_prt] at hk
  have:=dep_prt e
  omega
 ·have hk:¬ 100 < exCount e:=by have h:=of_decide_eq_false h0;simp only [eta] at h;exact h
  have hd:12 < exDep e:=by have h:=of_decide_eq_true h1;simp only [eta] at h;exact h
  show (exChk e,())=(22,())
  rw [exChk_22 (decide_eq_false fun h=>hk (chk_sizeR.2 h)) (decide_eq_true (by rw [← chk_dep hk];exact hd))]
 ·have hk:¬ 100 < exCount e:=by have h:=of_decide_eq_false h0;simp only [eta] at h;exact h
  have hd:¬ 12 < exDep e:=by have h:=of_decide_eq_false h1;simp only [eta] at h;exact h
  show (exChk e,())=(chkT (ExprT.mk _ _ _ _ _),())
  rw [eta,exChk_T (decide_eq_false fun h=>hk (chk_sizeR.2 h)) (decide_eq_false (by rw [← chk_dep hk];exact hd))]
end Go.Proofs.YticmijfmgmkkcaaGreat
namespace Go.Proofs.YticmijfmgmkkcaaGreat
open Go.Sx
def insW (s:ByteArray):List ByteArray→Bool→List ByteArray
 | [],d=>if d=true then [] else [s]
 | x :: l,d=>if (bif !d then ltS s x else false)=true then s :: x :: insW s l true else x :: insW s l d
def insF (l:List ByteArray) (s:ByteArray):List ByteArray:=if l.any (isS s)=true then l else insW s l false
def c136:Ctr:=fnC [dSs,dS] [(false,tSs)] (fun y=>y.1.length≤1000) (fun y=>(insF y.1 y.2.1,()))
theorem good136:GoodC Tryz.prog 136 c136:=by
 refine goodF cx0_good 3 _ _ _ _ ⟨_,Tryz.func136,rfl,rfl⟩ fun (⟨l,s,_⟩ : List ByteArray × ByteArray × Unit) hn=>?_
 have hl:l.length≤1000:=hn
 clear hn
 have dn:∀ i:Nat,i < l.length→l.drop i=l.getD i (dflt .str) :: l.drop (i+1):=fun i h=>by
  rw [List.drop_eq_getElem_cons h]
  simp [List.getD_eq_getElem?_getD,List.getElem?_eq_getElem h]
 have an:∀ i:Nat,i < l.length→decide (l.getD i (dflt .str)=s)=false→isS s (l.getD i (dflt .str))=false:=fun i _ h=>by
  unfold isS
  exact decide_eq_false fun h8=>of_decide_eq_false h h8.symm
 refine (aI (by first | kernel_rfl | rfl) ?_)
 refine ex4 _ (fun p:Nat × Bool × List ByteArray=>⟨[.sl .str l,.str s,.any,.any,.any,.own 0,.bool p.2.1,.int .i64 (p.1:Int)]++nA 42,[.rows .str p.2.2],1⟩) (fun p=>(p.1≤l.length∧p.2.2.length≤2 * p.1)∧(l.take p.1).any (isS s)=false∧p.2.2++insW s (l.drop p.1) p.2.1=insW s l false) (fun p=>l.length - p.1) (aI (Exists.intro ((0,false,[])) (Exists.intro ([none]) (aI ?_ (aI (by rfl) (aI (by rfl) (aI (aI (by rfl) True.intro) (by rfl))))))) ?_)
 ·exact ⟨⟨Nat.zero_le _,Nat.zero_le _⟩,by simp,rfl⟩
 rintro ⟨i,d,o⟩ ⟨⟨hi,ho⟩,ha,ht⟩
 replace hi:i≤l.length:=hi
 replace ho:o.length≤2 * i:=ho
 replace ha:(l.take i).any (isS s)=false:=ha
 replace ht:o++insW s (l.drop i) d=insW s l false:=ht
 refine (fun k0=>(aI (fun k1=>(aI (by intros;(try subst_vars);(try simp only [nB] at *);(try simp only [inK,big,lim,nL] at *);omega) (aI (fun k2=>(fin_of rfl ?_)) (fun k2=>(aI (fun k3=>(by intros;(try subst_vars);(try simp only [nB] at *);(try simp only [inK,big,lim,nL] at *);omega)) (aI (fun k4=>(aI (by intros;(try subst_vars);(try simp only [nB] at *);(try simp only [inK,big,lim,nL] at *);omega) (aI (by intros;(try subst_vars);(try simp only [nB] at *);(try simp only [inK,big,lim,nL] at *);omega) (aI (by intros;(try subst_vars);(try simp only [nB] at *);(try simp only [inK,big,lim,nL] at *);omega) (aI (by intros;(try subst_vars);(try simp only [nB] at *);(try simp only [inK,big,lim,nL] at *);omega) ?_))))) (fun k4=>(aI (by intros;(try subst_vars);(try simp only [nB] at *);(try simp only [inK,big,lim,nL] at *);omega) (aI (by intros;(try subst_vars);(try simp only [nB] at *);(try simp only [inK,big,lim,nL] at *);omega) (aI (by intros;(try subst_vars);(try simp only [nB] at *);(try simp only [inK,big,lim,nL] at *);omega) ?_)))))))))) (fun k1=>(aI (fun k5=>(aI (by intros;(try subst_vars);(try simp only [nB] at *);(try simp only [inK,big,lim,nL] at *);omega) (fin_of rfl ?_))) (fun k5=>(fin_of rfl ?_))))))
 ·have hi':i < l.length:=by simpa using k1
  have he:l.getD i (dflt .str)=s:=of_decide_eq_true k2
  show (insF l s,())=(l,())
  rw [insF,if_pos (any_hit (d:=dflt .str) hi' (by unfold isS;exact decide_eq_true he.symm))]
 ·have hi':i < l.length:=by simpa using k1
  have k4':(bif !d then ltS s (l.getD i (dflt .str)) else false)=true:=k4
  refine Exists.intro ((i+1,true,o++[s]++[l.getD (i:Int).toNat (dflt .str)])) (Exists.intro ([some 4]) (aI ?_ (aI ?_ (aI (by rfl) (aI (by rfl) (aI (aI (by rfl) True.intro) (by rfl)))))))
  ·refine ⟨⟨hi', ?_⟩,any_next hi' ha (an i hi' k2), ?_⟩
   ·simp only [List.length_append,List.length_cons,List.length_nil]
    omega
   ·rw [← ht,dn i hi',insW,if_pos k4',Int.toNat_natCast]
    simp
  ·show l.length - (i+1) < l.length - i
   omega
 ·have hi':i < l.length:=by simpa using k1
  have k4':(bif !d then ltS s (l.getD i (dflt .str)) else false)=false:=k4
  refine Exists.intro ((i+1,d,o++[l.getD (i:Int).toNat (dflt .str)])) (Exists.intro ([some 2]) (aI ?_ (aI ?_ (aI (by rfl) (aI (by rfl) (aI (aI (by rfl) True.intro) (by rfl)))))))
  ·refine ⟨⟨hi', ?_⟩,any_next hi' ha (an i hi' k2), ?_⟩
   ·simp only [List.length_append,List.length_cons,List.length_nil]
    omega
   ·rw [← ht,dn i hi',insW,if_neg (by rw [k4'];simp),Int.toNat_natCast]
    simp
  ·show l.length - (i+1) < l.length - i
   omega
 ·have hi':¬ i < l.length:=by simpa using k1
  have hd:d=false:=by simpa using k5
  show (insF l s,())=(o++[s],())
  rw [insF,any_end hi' ha,if_neg (by simp),← ht,List.drop_of_length_le (by omega),insW,hd];rfl
 ·have hi':¬ i < l.length:=by simpa using k1
  have hd:d=true:=by simpa using k5
  show (insF l s,())=(o,())
  rw [insF,any_end hi' ha,if_neg (by simp),← ht,List.drop_of_length_le (by omega),insW,hd];simp
theorem insW_mem {s t:ByteArray}:∀ (l:List ByteArray) (d:Bool),t∈insW s l d↔(d=false∧t=s)∨t∈l
 | [],d=>by cases d <;> simp [insW]
 | x :: l,d=>by
  simp only [insW]
  split
  ·rename_i h
   have hd:d=false:=by cases d;rfl;cases h
   subst hd
   simp only [List.mem_cons,insW_mem l true]
   simp
  ·simp only [List.mem_cons,insW_mem l d]
   constructor
   ·rintro (h | h | h)
    ·exact .inr (.inl h)
    ·exact .inl h
    ·exact .inr (.inr h)
   ·rintro (h | h | h)
    ·exact .inr (.inl h)
    ·exact .inl h
    ·exact .inr (.inr h)
theorem insF_mem {s t:ByteArray} {l:List ByteArray}:t∈insF l s↔t=s∨t∈l:=by
 unfold insF
 split
 ·rename_i h
  obtain ⟨x,hx,h9⟩:=List.any_eq_true.1 h
  have hs:s=x:=of_decide_eq_true h9
  subst hs
  exact ⟨fun h=>.inr h,fun h=>h.elim (fun h=>h ▸ hx) id⟩
 ·rw [insW_mem];simp
theorem insW_len {s:ByteArray}:∀ (l:List ByteArray) (d:Bool),(insW s l d).length≤l.length+1
 | [],d=>by cases d <;> simp [insW]
 | x :: l,d=>by
  simp only [insW]
  split
  ·rename_i h
   have hd:d=false:=by cases d;rfl;cases h
   have h9:∀ l:List ByteArray,insW s l true=l:=fun l=>by
    induction l with
    | nil=>rfl
    | cons y l ih =>
     rw [insW,if_neg (by simp),ih]
   simp [h9]
  ·simp only [List.length_cons]
   have:=insW_len (s:=s) l d
   omega
theorem insF_len {s:ByteArray} {l:List ByteArray}:(insF l s).length≤l.length+1:=by
 unfold insF
 split
 ·omega
 ·exact insW_len l false
mutual
def refN:ExprT→List ByteArray→List ByteArray
 | .mk k _ nm _ args,l=>if k=2 then insF l nm else refNL args l
def refNL:List ExprT→List ByteArray→List ByteArray
 | [],l=>l
 | e :: r,l=>refNL r (refN e l)
end
theorem refN_eq (e:ExprT) (l:List ByteArray):refN e l=if e.kind=2 then insF l e.name else refNL e.args l:=by
 obtain ⟨k,o,nm,v,args⟩:=e
 rfl
theorem refNL_drop {args:List ExprT} {i:Nat} {l:List ByteArray} {d:ExprT} (h:i < args.length):refNL (args.drop i) l=refNL (args.drop (i+1)) (refN (args.getD i d) l):=by
 rw [List.drop_eq_getElem_cons h]
 simp [refNL,List.getD,h]
mutual
theorem refN_len:∀ (e:ExprT) (l:List ByteArray),(refN e l).length≤l.length+prtT e
 | .mk k o nm v args,l=>by
  simp only [refN,prtT]
  split
  ·have:=insF_len (s:=nm) (l:=l);omega
  ·have:=refNL_len args l;omega
theorem refNL_len:∀ (r:List ExprT) (l:List ByteArray),(refNL r l).length≤l.length+prtL r
 | [],l=>by simp [refNL]
 | e :: r,l=>by
  simp only [refNL,prtL]
  have h1:=refN_len e l
  have h2:=refNL_len r (refN e l)
  omega
end
mutual
theorem refN_mem {t:ByteArray}:∀ (e:ExprT) (l:List ByteArray),chkT e=0→(t∈refN e l↔t∈namT e∨t∈l)
 | .mk k o nm v args,l,h=>by
  obtain ⟨h1,h2⟩:=chk_node h
  replace h2:chkL args=0:=h2
  simp only [refN,namT]
  split
  ·rename_i hk
   have hn:=(node_ok h1).2.1
   replace hn:(args.length:Int)=[0,0,0,1,2].getD k.toNat 0:=hn
   rw [hk] at hn
   have h0:args=[]:=List.length_eq_zero_iff.1 (by have:(args.length:Int)=0:=hn;omega)
   subst h0
   rw [insF_mem]
   simp [namL]
  ·rw [refNL_mem args l h2]
   simp
theorem refNL_mem {t:ByteArray}:∀ (r:List ExprT) (l:List ByteArray),chkL r=0→(t∈refNL r l↔t∈namL r∨t∈l)
 | [],l,_=>by simp [refNL,namL]
 | e :: r,l,h=>by
  simp only [chkL] at h
  split at h
  ·rename_i he
   simp only [refNL,namL]
   rw [refNL_mem r _ h,refN_mem e l he,List.mem_append]
   constructor
   ·rintro (h | h | h)
    ·exact .inl (.inr h)
    ·exact .inl (.inl h)
    ·exact .inr h
   ·rintro ((h | h) | h)
    ·exact .inr (.inl h)
    ·exact .inl h
    ·exact .inr (.inr h)
  ·rename_i he
   exact absurd h he
end
theorem uniqP_mem {t:ByteArray} (xs:List ByteArray):∀ n,n≤xs.length→(t∈uniqP xs n↔t∈xs.take n)
 | 0,_=>by simp [uniqP]
 | n+1,h=>by
  rw [take_getD (d:=dflt .str) h,uniqP,List.mem_append,List.mem_append,uniqP_mem xs n (by omega)]
  split
  ·rfl
  ·rename_i h9
   have hn:n≠0:=fun h8=>h9 (.inl h8)
   have he:xs.getD n (dflt .str)=xs.getD (n - 1) (dflt .str):=Classical.byContradiction fun h8=>h9 (.inr h8)
   constructor
   ·rintro (h | h)
    ·exact .inl h
    ·cases h
   ·rintro (h | h)
    ·exact .inl h
    ·left
     rw [List.mem_singleton.1 h,he,List.getD_eq_getElem?_getD,List.getElem?_eq_getElem (show n - 1 < xs.length by omega),Option.getD_some]
     refine List.mem_iff_getElem.2 ⟨n - 1,by rw [List.length_take];omega, ?_⟩
     rw [List.getElem_take]
theorem sortB_mem {t:ByteArray} (xs:List ByteArray):t∈sortB xs↔t∈xs:=by
 unfold sortB
 simp only [List.mem_map,List.mem_mergeSort]
 constructor
 ·rintro ⟨l,⟨s,hs,rfl⟩,rfl⟩
  exact hs
 ·intro h
  exact ⟨_,⟨t,h,rfl⟩,rfl⟩
theorem exNames_mem {t:ByteArray} {e:ExprT} (h:exChk e=0):t∈exNames e↔t∈namT e:=by
 rw [exNames,if_pos h,uniqB,uniqP_mem _ _ (Nat.le_refl _),List.take_length,sortB_mem]
def c120 (N:Nat):Ctr:=fnC [dX,dSs] [(false,tSs)] (fun y=>y.2.1.length+prtT y.1≤1000∧exW y.1 < N) (fun y=>(refN y.1 y.2.1,()))
def cxF120 (N:Nat):Ctx:=⟨tys0,[(120,([],c120 N)),(136,([],c136))]⟩
theorem good120':∀ N,GoodC Tryz.prog 120 (c120 N)
 | 0=>by
  refine goodF cx0_good 3 _ _ _ _ ⟨_,Tryz.func120,rfl,rfl⟩ fun y hn=>?_
  exact absurd hn.2 (Nat.not_lt_zero _)
 | N+1=>by
  refine goodF (cx:=cxF120 N) (cx_cons (good120' N) (cx_cons good136 cx0_good)) 3 _ _ _ _ ⟨_,Tryz.func120,rfl,rfl⟩ fun (⟨e,l,_⟩ : ExprT × List ByteArray × Unit) hn=>?_
  have hN:exW e < N+1:=hn.2
  have hl:l.length+prtT e≤1000:=hn.1
  clear hn
  have hl1:l.length≤1000:=by omega
  have hl2:l.length+prtL e.args≤1000:=by rw [prtT_eq] at hl;omega
  have pd:∀ i:Nat,i < e.args.length→prtL (e.args.drop i)=prtT (e.args.getD i (dflt .expr))+prtL (e.args.drop (i+1)):=fun i h=>by
   rw [List.drop_eq_getElem_cons h]
   simp [prtL,List.getD,h]
  refine (aI (by first | kernel_rfl | rfl) (aI (fun h0=>(aI (by omega) (fun (h1:List ByteArray × PUnit)=>(fun h2=>(fin_of rfl ?_))))) (fun h0=>?_)))
  ·have hk:e.kind=2:=of_decide_eq_true h0
   have h2':h1=(insF l e.name,()):=h2
   show (refN e l,())=(h1.1,())
   rw [h2',refN_eq,if_pos hk]
  have hk:¬ e.kind=2:=of_decide_eq_false h0
  refine ex4 _ (fun p:Nat × List ByteArray=>⟨[.any,.sl .str p.2,.ptr 0 0,.any,.any,.int .i64 (p.1:Int)]++nA 22,[.cells   [.int .i64 e.kind,.int .i64 e.op,.str e.name,.int .i64 e.value,.sl .expr e.args]],1⟩) (fun p=>p.1≤e.args.length∧p.2.length+prtL (e.args.drop p.1)≤1000∧refNL e.args l=refNL (e.args.drop p.1) p.2) (fun p=>e.args.length - p.1) (aI (Exists.intro ((0,l)) (Exists.intro ([some 0]) (aI ?_ (aI (by rfl) (aI (by rfl) (aI (aI (aI (by rfl) (by rfl)) True.intro) (by rfl))))))) ?_)
  ·exact ⟨Nat.zero_le _,hl2,rfl⟩
  rintro ⟨i,m⟩ ⟨hi,hm,ht⟩
  replace hi:i≤e.args.length:=hi
  replace hm:m.length+prtL (e.args.drop i)≤1000:=hm
  replace ht:refNL e.args l=refNL (e.args.drop i) m:=ht
  refine (fun k0=>(aI (fun k1=>(aI (by intros;(try subst_vars);(try simp only [nB] at *);(try simp only [inK,big,lim,nL] at *);omega) (aI ?_ (fun (k2:List ByteArray × PUnit)=>(fun k3=>(aI (by intros;(try subst_vars);(try simp only [nB] at *);(try simp only [inK,big,lim,nL] at *);omega) ?_)))))) (fun k1=>(fin_of rfl ?_))))
  ·have hi':i < e.args.length:=by simpa using k1
   refine ⟨?_, ?_⟩
   ·show m.length+prtT (ExprT.mk _ _ _ _ _)≤1000
    rw [eta]
    show m.length+prtT (e.args.getD i (dflt .expr))≤1000
    rw [pd i hi'] at hm
    omega
   ·show exW (ExprT.mk _ _ _ _ _) < N
    rw [eta]
    exact Nat.lt_of_lt_of_le (arg_lt hi') (by omega)
  ·have hi':i < e.args.length:=by simpa using k1
   have k3':k2=(refN (e.args.getD i (dflt .expr)) m,()):=by
    rw [k3]
    show (refN (ExprT.mk _ _ _ _ _) m,())=_
    rw [eta];rfl
   subst k3'
   refine Exists.intro ((i+1,refN (e.args.getD i (dflt .expr)) m)) (Exists.intro ([some 0]) (aI ?_ (aI ?_ (aI (by rfl) (aI (by rfl) (aI (aI (aI (by rfl) (by rfl)) True.intro) (by rfl)))))))
   ·refine ⟨hi', ?_, ?_⟩
    ·rw [pd i hi'] at hm
     have h9:=refN_len (e.args.getD i (dflt .expr)) m
     show (refN _ m).length+prtL (e.args.drop (i+1))≤1000
     omega
    ·show _=refNL (e.args.drop (i+1)) (refN _ m)
     rw [ht,refNL_drop (d:=dflt .expr) hi']
   ·show e.args.length - (i+1) < e.args.length - i
    omega
  ·have hi':¬ i < e.args.length:=by simpa using k1
   show (refN e l,())=(m,())
   rw [refN_eq,if_neg hk,ht,List.drop_of_length_le (by omega)];rfl
def c120A:Ctr:=fnC [dX,dSs] [(false,tSs)] (fun y=>y.2.1.length+prtT y.1≤1000) (fun y=>(refN y.1 y.2.1,()))
theorem good120:GoodC Tryz.prog 120 c120A:=good_rec (fun y=>exW y.1) good120'
def refNames (e:ExprT):List ByteArray:=if exChk e=0 then refN e [] else []
theorem refNames_mem {t:ByteArray} {e:ExprT} (h:exChk e=0):t∈refNames e↔t∈exNames e:=by
 rw [refNames,if_pos h,exNames_mem h,refN_mem e [] (chk_T h)]
 simp
def cxF85:Ctx:=⟨tys0,[(84,([],c84)),(120,([],c120A))]⟩
theorem cxF85_good:GoodCtx Tryz.prog cxF85:=cx_cons good84 (cx_cons good120 cx0_good)
def c85:Ctr:=fnC [dX] [(false,tSs)] (fun _=>True) (fun y=>(refNames y.1,()))
theorem good85:GoodC Tryz.prog 85 c85:=by
 refine goodF cxF85_good 3 _ _ _ _ ⟨_,Tryz.func85,rfl,rfl⟩ fun (⟨e,_⟩ : ExprT × Unit) _=>?_
 refine (aI (by first | kernel_rfl | rfl) (aI True.intro (aI (fun h0=>(fin_of rfl ?_)) (fun h0=>(aI ?_ (fun (h1:List ByteArray × PUnit)=>(fun h2=>(fin_of rfl ?_))))))))
 ·have hk:exChk e≠0:=by have h:=h0;simp only [eta] at h;simpa using h
  show (refNames e,())=([],())
  rw [refNames,if_neg hk]
 ·have hk:exChk e=0:=by have h:=h0;simp only [eta] at h;simpa using h
  have:=chk_prt hk
  show (0:Nat)+prtT (ExprT.mk _ _ _ _ _)≤1000
  rw [eta]
  show 0+prtT e≤1000
  omega
 ·have hk:exChk e=0:=by have h:=h0;simp only [eta] at h;simpa using h
  have h2':h1=(refN e [],()):=by
   rw [h2]
   show (refN (ExprT.mk _ _ _ _ _) [],())=_
   rw [eta]
  show (refNames e,())=(h1.1,())
  rw [h2',refNames,if_pos hk]
end Go.Proofs.YticmijfmgmkkcaaGreat
namespace Go.Proofs.YticmijfmgmkkcaaGreat
open Go.Sx
def badR1 (xs:List Bd) (i:Nat):Bool :=
 bif bif !nameB (xs.getD (i:Int).toNat (dflt tBd)).1 then true else (bif decide (0 < (i:Int)) then !ltS (xs.getD ((i:Int) - 1).toNat (dflt tBd)).1 (xs.getD (i:Int).toNat (dflt tBd)).1 else false) then true
  else (bif !decide ((xs.getD (i:Int).toNat (dflt tBd)).2.1=1) then !decide ((xs.getD (i:Int).toNat (dflt tBd)).2.1=2) else false)
def badR2 (xs:List Bd) (i:Nat):Bool :=
 bif bif decide ((xs.getD (i:Int).toNat (dflt tBd)).2.2 < -1099511627776) then true else decide (1099511627776 < (xs.getD (i:Int).toNat (dflt tBd)).2.2) then true
  else (bif bif decide ((xs.getD (i:Int).toNat (dflt tBd)).2.1=2) then !decide ((xs.getD (i:Int).toNat (dflt tBd)).2.2=0) else false then !decide ((xs.getD (i:Int).toNat (dflt tBd)).2.2=1) else false)
theorem badR_eq (xs:List Bd) (i:Nat):badBd xs i=bif badR1 xs i then true else badR2 xs i:=by
 unfold badBd badIn badR1 badR2
 generalize nameB (xs.getD (i:Int).toNat (dflt tBd)).1=a
 generalize ltS (xs.getD ((i:Int) - 1).toNat (dflt tBd)).1 (xs.getD (i:Int).toNat (dflt tBd)).1=b
 generalize (xs.getD (i:Int).toNat (dflt tBd)).2.1=k
 generalize (xs.getD (i:Int).toNat (dflt tBd)).2.2=v
 generalize decide (0 < (i:Int))=c
 rw [Bool.eq_iff_iff]
 by_cases hk:k=2
 ·subst hk
  cases a <;> cases b <;> cases c <;> simp <;> omega
 ·cases a <;> cases b <;> cases c <;> simp [hk] <;> omega
def cxF121:Ctx:=⟨tys0,[(137,([],c137))]⟩
theorem cxF121_good:GoodCtx Tryz.prog cxF121:=cx_cons good137 cx0_good
def c121:Ctr:=fnC [dBds] rI (fun _=>True) (fun y=>(if boundB y.1=true then 0 else 1,()))
theorem good121:GoodC Tryz.prog 121 c121:=by
 refine goodF cxF121_good 3 _ _ _ _ ⟨_,Tryz.func121,rfl,rfl⟩ fun (⟨xs,_⟩ : List Bd × Unit) _=>?_
 refine (aI (by first | kernel_rfl | rfl) (fun h0=>(aI (fun h1=>(fin_of rfl ?_)) (fun h1=>?_))))
 ·have hl:¬ (xs.length:Int)≤64:=by simpa using h1
  show ((if boundB xs=true then (0:Int) else 1),())=(1,())
  unfold boundB
  rw [decide_eq_false hl]
  cases (List.range xs.length).any (badBd xs) <;> rfl
 have hl:(xs.length:Int)≤64:=by simpa using h1
 refine ex4 _ (fun i:Nat=>⟨[.sl tBd xs,.any,.any,.int .i64 (i:Int)]++nA 66,[],0⟩) (fun i=>i≤xs.length∧(List.range i).any (badBd xs)=false) (fun i=>xs.length - i) (aI (Exists.intro (0) (Exists.intro ([]) (aI ?_ (aI (by rfl) (aI (by rfl) (aI True.intro (by rfl))))))) ?_)
 ·simp
 rintro i ⟨hi,ht⟩
 refine (fun k0=>(aI (fun k1=>(aI (by intros;(try subst_vars);(try simp only [nB] at *);(try simp only [inK,big,lim,nL] at *);omega) (aI (by first | kernel_rfl | rfl) (aI True.intro (aI (fun k2=>(by intros;(try subst_vars);(try simp only [nB] at *);(try simp only [inK,big,lim,nL] at *);omega)) (aI (fun k3=>(by intros;(try subst_vars);(try simp only [nB] at *);(try simp only [inK,big,lim,nL] at *);omega)) (aI (fun k4=>(fin_of rfl ?_)) (fun k4=>(aI (fun k5=>(fin_of rfl ?_)) (fun k5=>(aI (by intros;(try subst_vars);(try simp only [nB] at *);(try simp only [inK,big,lim,nL] at *);omega) ?_))))))))))) (fun k1=>(fin_of rfl ?_))))
 ·have hi':i < xs.length:=by simpa using k1
  have hk:badBd xs i=true:=by rw [badR_eq,show badR1 xs i=true from k4];rfl
  show ((if boundB xs=true then (0:Int) else 1),())=(1,())
  unfold boundB
  rw [range_hit hi' hk];rfl
 ·have hi':i < xs.length:=by simpa using k1
  have hk:badBd xs i=true:=by rw [badR_eq,show badR1 xs i=false from k4,show badR2 xs i=true from k5];rfl
  show ((if boundB xs=true then (0:Int) else 1),())=(1,())
  unfold boundB
  rw [range_hit hi' hk];rfl
 ·have hi':i < xs.length:=by simpa using k1
  have hk:badBd xs i=false:=by rw [badR_eq,show badR1 xs i=false from k4,show badR2 xs i=false from k5];rfl
  refine Exists.intro (i+1) (Exists.intro ([]) (aI ?_ (aI ?_ (aI (by rfl) (aI (by rfl) (aI True.intro (by rfl)))))))
  ·exact ⟨hi',range_next ht hk⟩
  ·show xs.length - (i+1) < xs.length - i
   omega
 ·have hi':¬ i < xs.length:=by simpa using k1
  have e1:i=xs.length:=by omega
  subst e1
  show ((if boundB xs=true then (0:Int) else 1),())=(0,())
  unfold boundB
  rw [ht,decide_eq_true hl];rfl
def c126:Ctr:=fnC [dBds,dS] rBdB (fun _=>True) (fun y=>((findB y.1 y.2.1).1,(findB y.1 y.2.1).2,()))
theorem good126:GoodC Tryz.prog 126 c126:=by
 refine goodF cx0_good 3 _ _ _ _ ⟨_,Tryz.func126,rfl,rfl⟩ fun (⟨xs,s,_⟩ : List Bd × ByteArray × Unit) _=>?_
 refine (aI (by first | kernel_rfl | rfl) ?_)
 refine ex4 _ (fun i:Nat=>⟨[.sl tBd xs,.str s,.any,.any,.ptr 0 0,.any,.int .i64 (i:Int)]++nA 18,[.cells [.str { data:=#[] },.int .i64 0,.int .i64 0]],1⟩) (fun i=>i≤xs.length∧firstAt (isNm s) xs 0=firstAt (isNm s) (xs.drop i) i) (fun i=>xs.length - i) (aI (Exists.intro (0) (Exists.intro ([some 0]) (aI ?_ (aI (by rfl) (aI (by rfl) (aI (aI (aI (by rfl) (by rfl)) True.intro) (by rfl))))))) ?_)
 ·simp
 rintro i ⟨hi,ht⟩
 refine (fun k0=>(aI (fun k1=>(aI (by intros;(try subst_vars);(try simp only [nB] at *);(try simp only [inK,big,lim,nL] at *);omega) (aI (fun k2=>(aI (by intros;(try subst_vars);(try simp only [nB] at *);(try simp only [inK,big,lim,nL] at *);omega) (fin_of rfl ?_))) (fun k2=>(aI (by intros;(try subst_vars);(try simp only [nB] at *);(try simp only [inK,big,lim,nL] at *);omega) ?_))))) (fun k1=>(fin_of rfl ?_))))
 ·have hi':i < xs.length:=by simpa using k1
  have hk:isNm s (xs.getD i (dflt tBd))=true:=k2
  have e1:firstAt (isNm s) xs 0=(i:Int):=by rw [ht,firstAt_drop (isNm s) (dflt tBd) xs i hi',if_pos hk]
  show ((findB xs s).1,(findB xs s).2,())=_
  unfold findB
  rw [e1,decide_eq_false (show ¬ (i:Int) < 0 by omega)]
  rfl
 ·have hi':i < xs.length:=by simpa using k1
  have hk:isNm s (xs.getD i (dflt tBd))=false:=k2
  refine Exists.intro (i+1) (Exists.intro ([some 0]) (aI ?_ (aI ?_ (aI (by rfl) (aI (by rfl) (aI (aI (aI (by rfl) (by rfl)) True.intro) (by rfl)))))))
  ·refine ⟨hi', ?_⟩
   rw [ht,firstAt_drop (isNm s) (dflt tBd) xs i hi',if_neg (by rw [hk];simp)]
  ·show xs.length - (i+1) < xs.length - i
   omega
 ·have hi':¬ i < xs.length:=by simpa using k1
  have e1:firstAt (isNm s) xs 0=-1:=by rw [ht,List.drop_of_length_le (by omega)];rfl
  show ((findB xs s).1,(findB xs s).2,())=_
  unfold findB
  rw [e1]
  rfl
end Go.Proofs.YticmijfmgmkkcaaGreat
namespace Go.Proofs.YticmijfmgmkkcaaGreat
open Go.Sx
def wantT (o a:Int):Int:=if o=2∨o=14∨o=15 then 2 else if o=8∨o=9 then a else 1
def resTy (o:Int):Int:=if o=2∨o=14∨o=15∨8≤o then 2 else 1
theorem all_1 {a w:Int}:(∀ j,j < [a].length→[a].getD j 0=w)↔a=w:=by
 constructor
 ·intro h;exact h 0 (by simp)
 ·intro h j hj
  have:j=0:=by simpa using hj
  subst this;exact h
theorem all_2 {a b w:Int}:(∀ j,j < [a,b].length→[a,b].getD j 0=w)↔a=w∧b=w:=by
 constructor
 ·intro h;exact ⟨h 0 (by simp),h 1 (by simp)⟩
 ·intro h j hj
  have:j=0∨j=1:=by simp at hj;omega
  rcases this with rfl | rfl
  ·exact h.1
  ·exact h.2
theorem typN_is {l:List Bd} {e:ExprT} {ts:List Int} (hc:chkNode e=0) (h1:¬ e.kind=1) (h2:¬ e.kind=2) (hl:ts.length=e.args.length) :
 typN l e ts=if ∀ j,j < ts.length→ts.getD j 0=wantT e.op (ts.getD 0 0) then (resTy e.op,0) else (0,15):=by
 obtain ⟨hk,ha,-,-,h3,h4⟩:=node_ok hc
 rw [← hl] at ha
 have hk2:e.kind=3∨e.kind=4:=by omega
 unfold typN
 rw [if_neg h1,if_neg h2]
 rcases hk2 with hk3 | hk4
 ·rw [if_pos hk3]
  rw [hk3] at ha
  obtain ⟨a,rfl⟩ : ∃ a,ts=[a]:=by
   have:ts.length=1:=by have h9:(ts.length:Int)=1:=ha;omega
   exact List.length_eq_one_iff.1 this
  simp only [all_1]
  show (if a=_ then _ else _)=if a=wantT e.op a then _ else _
  rcases h3 hk3 with h | h <;> rw [h] <;> rfl
 ·rw [if_neg (by omega)]
  rw [hk4] at ha
  obtain ⟨a,b,rfl⟩ : ∃ a b,ts=[a,b]:=by
   have:ts.length=2:=by have h9:(ts.length:Int)=2:=ha;omega
   match ts,this with
   | [a,b],_=>exact ⟨a,b,rfl⟩
  simp only [all_2]
  show (if a≠b∨_ then _ else _)=if a=wantT e.op a∧b=wantT e.op a then _ else _
  have ho:=h4 hk4
  rw [opKnown_iff] at ho
  have ho2:3≤e.op∧e.op≤15:=by
   by_cases h:e.op < 3
   ·rw [decide_eq_true h] at ho;cases ho
   ·by_cases h':15 < e.op
    ·rw [decide_eq_false h,decide_eq_true h'] at ho;cases ho
    ·omega
  have cs:e.op=3∨e.op=4∨e.op=5∨e.op=6∨e.op=7∨e.op=8∨e.op=9∨e.op=10∨e.op=11∨e.op=12∨e.op=13∨e.op=14∨e.op=15:=by omega
  have one:∀ {w r:Int},w≠0→(if a≠b∨w≠0∧a≠w then ((0:Int),(15:Int)) else (r,0))=if a=w∧b=w then (r,0) else (0,15):=fun {w r} hw=>by
   by_cases h:a=w∧b=w
   ·rw [if_pos h,if_neg (by rintro (h9 | h9);exact h9 (h.1.trans h.2.symm);exact h9.2 h.1)]
   ·rw [if_neg h,if_pos]
    by_cases h9:a=b
    ·exact .inr ⟨hw,fun h8=>h ⟨h8,h9 ▸ h8⟩⟩
    ·exact .inl h9
  have two:(if a≠b∨(0:Int)≠0∧a≠0 then ((0:Int),(15:Int)) else (2,0))=if a=a∧b=a then (2,0) else (0,15):=by
   by_cases h:a=b
   ·rw [if_neg (by rintro (h9 | h9);exact h9 h;exact h9.1 rfl),if_pos ⟨rfl,h.symm⟩]
   ·rw [if_pos (.inl h),if_neg fun h9=>h h9.2.symm]
  rcases cs with h | h | h | h | h | h | h | h | h | h | h | h | h <;> rw [h] <;> first | exact one (by decide) | exact two
theorem typN_bad {l:List Bd} {e:ExprT} {ts:List Int} (hc:chkNode e=0) (h1:¬ e.kind=1) (h2:¬ e.kind=2) (hl:ts.length=e.args.length) {j:Nat} (hj:j < ts.length) (hn:¬ ts.getD j 0=wantT e.op (ts.getD 0 0)):typN l e ts=(0,15):=by
 rw [typN_is hc h1 h2 hl,if_neg fun h=>hn (h j hj)]
theorem typN_good {l:List Bd} {e:ExprT} {ts:List Int} (hc:chkNode e=0) (h1:¬ e.kind=1) (h2:¬ e.kind=2) (hl:ts.length=e.args.length) (hn:∀ j,j < ts.length→ts.getD j 0=wantT e.op (ts.getD 0 0)):typN l e ts=(resTy e.op,0):=by
 rw [typN_is hc h1 h2 hl,if_pos hn]
def tB (o:Int):Bool:=bif bif decide (o=2) then true else decide (o=14) then true else decide (o=15)
def tE8 (o:Int):Bool:=bif decide (o=8) then true else decide (o=9)
theorem tB_iff {o:Int}:tB o=true↔o=2∨o=14∨o=15:=by
 unfold tB;simp;omega
theorem tE8_iff {o:Int}:tE8 o=true↔o=8∨o=9:=by
 unfold tE8;simp
theorem want_b {o a:Int} (h:tB o=true):wantT o a=2:=by
 rw [wantT,if_pos (tB_iff.1 h)]
theorem want_e {o a:Int} (h:tB o=false) (h':tE8 o=true):wantT o a=a:=by
 rw [wantT,if_neg (fun h9=>by rw [tB_iff.2 h9] at h;cases h),if_pos (tE8_iff.1 h')]
theorem want_i {o a:Int} (h:tB o=false) (h':tE8 o=false):wantT o a=1:=by
 rw [wantT,if_neg (fun h9=>by rw [tB_iff.2 h9] at h;cases h),if_neg (fun h9=>by rw [tE8_iff.2 h9] at h';cases h')]
theorem res_2 {o:Int} (h:(bif tB o then true else decide (8≤o))=true):resTy o=2:=by
 rw [resTy,if_pos]
 by_cases h9:tB o=true
 ·have:=tB_iff.1 h9;omega
 ·rw [show tB o=false by simpa using h9] at h
  exact .inr (.inr (.inr (of_decide_eq_true h)))
theorem res_1 {o:Int} (h:(bif tB o then true else decide (8≤o))=false):resTy o=1:=by
 rw [resTy,if_neg]
 rintro (h9 | h9 | h9 | h9)
 ·rw [tB_iff.2 (.inl h9)] at h;cases h
 ·rw [tB_iff.2 (.inr (.inl h9))] at h;cases h
 ·rw [tB_iff.2 (.inr (.inr h9))] at h;cases h
 ·rw [decide_eq_true h9] at h;revert h;cases tB o <;> intro h <;> cases h
def c122 (N:Nat):Ctr:=fnC [dX,dBds] rII (fun y=>chkT y.1=0∧exW y.1 < N) (fun y=>((typF y.2.1 y.1).1,(typF y.2.1 y.1).2,()))
def cxF122 (N:Nat):Ctx:=⟨tys0,[(122,([],c122 N)),(126,([],c126))]⟩
set_option maxHeartbeats 4000000 in
theorem good122':∀ N,GoodC Tryz.prog 122 (c122 N)
 | 0=>by
  refine goodF cx0_good 3 _ _ _ _ ⟨_,Tryz.func122,rfl,rfl⟩ fun y hn=>?_
  exact absurd hn.2 (Nat.not_lt_zero _)
 | N+1=>by
  refine goodF (cx:=cxF122 N) (cx_cons (good122' N) (cx_cons good126 cx0_good)) 3 _ _ _ _ ⟨_,Tryz.func122,rfl,rfl⟩ fun (⟨e,l,_⟩ : ExprT × List Bd × Unit) hn=>?_
  have hN:exW e < N+1:=hn.2
  have hc:chkT e=0:=hn.1
  clear hn
  obtain ⟨hc1,hc2⟩:=chk_node hc
  obtain ⟨hk,ha,-,-,-,ho⟩:=node_ok hc1
  refine (aI (by first | kernel_rfl | rfl) ?_)
  refine ex4 _ (fun p:Nat × List Int=>⟨[.any,.sl tBd l,.ptr 0 0,.any,.any,.any,.own 1,.int .i64 (p.1:Int)]++nA 92,[.cells   [.int .i64 e.kind,.int .i64 e.op,.str e.name,.int .i64 e.value,.sl .expr e.args],.rows tI p.2],2⟩) (fun p=>p.1≤e.args.length∧p.2.length=p.1∧(typL l (e.args.drop p.1)).2=(typL l e.args).2∧((typL l e.args).2=0→(typL l e.args).1=p.2++(typL l (e.args.drop p.1)).1)) (fun p=>e.args.length - p.1) (aI (Exists.intro ((0,[])) (Exists.intro ([some 0,none]) (aI ?_ (aI (by rfl) (aI (by rfl) (aI (aI (aI (by rfl) (by rfl)) (aI (by rfl) True.intro)) (by rfl))))))) ?_)
  ·exact ⟨Nat.zero_le _,rfl,rfl,fun _=>rfl⟩
  rintro ⟨i,ts⟩ ⟨hi,hts,h2,h3⟩
  replace hts:ts.length=i:=hts
  have hl2:=len_two ha
  have room:(ts.length+1) * 8≤lim:=by
   have:i≤e.args.length:=hi
   simp only [lim];omega
  have hend:decide ((i:Int) < (e.args.length:Int))=false→ts.length=e.args.length∧typF l e=typN l e ts:=fun h=>by
   have hi':¬ i < e.args.length:=by simpa using h
   have hle:i≤e.args.length:=hi
   have hnil:e.args.drop i=[]:=List.drop_of_length_le (by omega)
   have h2':(typL l e.args).2=0:=by rw [← h2];show (typL l (e.args.drop i)).2=0;rw [hnil];rfl
   have h3':=h3 h2'
   have h4:(typL l e.args).1=ts:=by rw [h3'];show ts++(typL l (e.args.drop i)).1=ts;rw [hnil];simp [typL]
   refine ⟨by omega, ?_⟩
   rw [typF_eq,if_pos h2',h4]
  refine (fun k0=>(aI (fun k1=>(aI (by (intros;(try subst_vars);(try simp only [nB] at *);(try simp only [inK,big,lim,nL] at *);omega)) (aI ?_ (aI (fun k2=>(fin_of rfl ?_)) (fun k2=>(aI (by omega) (aI (by (intros;(try subst_vars);(try simp only [nB] at *);(try simp only [inK,big,lim,nL] at *);omega)) ?_))))))) (fun k1=>(aI (fun k3=>(fin_of rfl ?_)) (fun k3=>(aI (fun k4=>(aI True.intro (fun (k5:(ByteArray × Int × Int) × Bool × PUnit)=>(fun k6=>(aI (fun k7=>(fin_of rfl ?_)) (fun k7=>(fin_of rfl ?_))))))) (fun k4=>(aI (fun k8=>(aI (fun k9=>(aI (by (intros;(try subst_vars);(try simp only [nB] at *);(try simp only [inK,big,lim,nL] at *);omega)) ?_)) (fun k9=>?_))) (fun k8=>(aI (fun k10=>(aI ?_ ?_)) (fun k10=>?_)))))))))))
  ·have hi':i < e.args.length:=by simpa using k1
   rw [eta]
   exact ⟨chk_args _ _ _ hi' hc2,Nat.lt_of_lt_of_le (arg_lt hi') (by omega)⟩
  ·have hi':i < e.args.length:=by simpa using k1
   have hk:(typF l (e.args.getD i (dflt .expr))).2≠0:=by have h:=k2;simp only [eta] at h;simpa using h
   have hd:=typL_drop l (e0:=dflt .expr) hi'
   rw [if_neg hk] at hd
   have h4:(typL l e.args).2=(typF l (e.args.getD i (dflt .expr))).2:=by rw [← h2];show (typL l (e.args.drop i)).2=_;rw [hd]
   show ((typF l e).1,(typF l e).2,())=_
   rw [eta,typF_eq,if_neg (by rw [h4];exact hk),h4];rfl
  ·have hi':i < e.args.length:=by simpa using k1
   have hk:(typF l (e.args.getD i (dflt .expr))).2=0:=by have h:=k2;simp only [eta] at h;simpa using h
   have hd:=typL_drop l (e0:=dflt .expr) hi'
   rw [if_pos hk] at hd
   refine Exists.intro ((i+1,ts++[(typF l (ExprT.mk (e.args.getD i (dflt .expr)).kind (e.args.getD i (dflt .expr)).op (e.args.getD i (dflt .expr)).name (e.args.getD i (dflt .expr)).value (e.args.getD i (dflt .expr)).args)).1])) (Exists.intro ([some 0,some 3]) (aI ?_ (aI ?_ (aI (by rfl) (aI (by rfl) (aI (aI (aI (by rfl) (by rfl)) (aI (by rfl) True.intro)) (by rfl)))))))
   ·rw [eta]
    refine ⟨hi',by show (ts++[_]).length=i+1;simp [hts], ?_, ?_⟩
    ·rw [← h2];show _=(typL l (e.args.drop i)).2;rw [hd]
    ·intro h
     rw [h3 h]
     show ts++(typL l (e.args.drop i)).1=(ts++[_])++(typL l (e.args.drop (i+1))).1
     rw [hd];simp
   ·show e.args.length - (i+1) < e.args.length - i
    omega
  ·have hk:e.kind=1:=of_decide_eq_true k3
   show ((typF l e).1,(typF l e).2,())=_
   rw [(hend k1).2,typN,if_pos hk]
  ·have hk:e.kind=2:=of_decide_eq_true k4
   have h9:(findB l e.name).2=false:=by
    have:k5=((findB l e.name).1,(findB l e.name).2,()):=k6
    rw [this] at k7;simpa using k7
   show ((typF l e).1,(typF l e).2,())=_
   rw [(hend k1).2,typN,if_neg (of_decide_eq_false k3),if_pos hk,h9];rfl
  ·have hk:e.kind=2:=of_decide_eq_true k4
   have h8:k5=((findB l e.name).1,(findB l e.name).2,()):=k6
   have h9:(findB l e.name).2=true:=by rw [h8] at k7;simpa using k7
   show ((typF l e).1,(typF l e).2,())=_
   rw [(hend k1).2,typN,if_neg (of_decide_eq_false k3),if_pos hk,h9,h8];rfl
  ·exfalso
   have h9:tB e.op=true:=by assumption
   have h8:tE8 e.op=true:=by assumption
   have:=tB_iff.1 h9
   have:=tE8_iff.1 h8
   omega
  ·have hw:wantT e.op (ts.getD 0 0)=2:=want_b (by assumption)
   refine ex4 _ (fun j:Nat=>⟨[.any,.any,.ptr 0 0,.any,.any,.any,.own 1,.any,.any,.any,.any,.any,.bool (bif bif decide (e.op=2) then true else decide (e.op=14) then true else decide (e.op=15)),.int .i64 2,.int .i64 (j:Int)]++nA 85,[.cells   [.int .i64 e.kind,.int .i64 e.op,.str e.name,.int .i64 e.value,.sl .expr e.args],.rows tI ts],2⟩) (fun j=>j≤ts.length∧∀ k,k < j→ts.getD k 0=2) (fun j=>ts.length - j) (aI (Exists.intro (0) (Exists.intro ([some 0,some 1]) (aI ?_ (aI (by rfl) (aI (by rfl) (aI (aI (aI (by rfl) (by rfl)) (aI (by rfl) True.intro)) (by rfl))))))) ?_)
   ·exact ⟨Nat.zero_le _,fun _ h=>absurd h (Nat.not_lt_zero _)⟩
   rintro j ⟨hj,hall⟩
   refine (fun m0=>(aI (fun m1=>(aI (by intros;(try subst_vars);(try simp only [nB] at *);(try simp only [inK,big,lim,nL] at *);omega) (aI (fun m2=>(fin_of rfl ?_)) (fun m2=>(aI (by intros;(try subst_vars);(try simp only [nB] at *);(try simp only [inK,big,lim,nL] at *);omega) ?_))))) (fun m1=>(aI (fun m3=>(fin_of rfl ?_)) (fun m3=>(fin_of rfl ?_))))))
   ·have hj':j < ts.length:=by simpa using m1
    have hn:¬ ts.getD j 0=2:=fun h=>by
     have m9:(!decide (ts.getD j 0=2))=true:=m2
     rw [decide_eq_true h] at m9
     cases m9
    show ((typF l e).1,(typF l e).2,())=_
    rw [(hend k1).2,typN_bad hc1 (of_decide_eq_false k3) (of_decide_eq_false k4) (hend k1).1 hj' (by rw [hw];exact hn)]
   ·have hj':j < ts.length:=by simpa using m1
    have hn:ts.getD j 0=2:=by
     have m9:(!decide (ts.getD j 0=2))=false:=m2
     simpa using m9
    refine Exists.intro (j+1) (Exists.intro ([some 0,some 1]) (aI ?_ (aI ?_ (aI (by rfl) (aI (by rfl) (aI (aI (aI (by rfl) (by rfl)) (aI (by rfl) True.intro)) (by rfl)))))))
    ·refine ⟨hj',fun k hk=>?_⟩
     rcases Nat.lt_succ_iff_lt_or_eq.1 hk with h | h
     ·exact hall k h
     ·rw [h];exact hn
    ·show ts.length - (j+1) < ts.length - j
     omega
   ·have hj':¬ j < ts.length:=by simpa using m1
    show ((typF l e).1,(typF l e).2,())=_
    rw [(hend k1).2,typN_good hc1 (of_decide_eq_false k3) (of_decide_eq_false k4) (hend k1).1 (fun k hk=>by rw [hw];exact hall k (by omega)),res_2 m3]
   ·have hj':¬ j < ts.length:=by simpa using m1
    show ((typF l e).1,(typF l e).2,())=_
    rw [(hend k1).2,typN_good hc1 (of_decide_eq_false k3) (of_decide_eq_false k4) (hend k1).1 (fun k hk=>by rw [hw];exact hall k (by omega)),res_1 m3]
  ·have h9:=(hend k1).1
   have hk2:e.kind=3∨e.kind=4:=by
    have h8:¬ e.kind=1:=of_decide_eq_false k3
    have h7:¬ e.kind=2:=of_decide_eq_false k4
    omega
   rw [← h9] at ha
   rcases hk2 with h | h <;> rw [h] at ha
   ·have h9:(ts.length:Int)=1:=ha
    show (0:Int)≤0∧(0:Int) < (ts.length:Int)
    omega
   ·have h9:(ts.length:Int)=2:=ha
    show (0:Int)≤0∧(0:Int) < (ts.length:Int)
    omega
  ·have hw:wantT e.op (ts.getD 0 0)=ts.getD 0 0:=want_e (by assumption) (by assumption)
   refine ex4 _ (fun j:Nat=>⟨[.any,.any,.ptr 0 0,.any,.any,.any,.own 1,.any,.any,.any,.any,.any,.bool (bif bif decide (e.op=2) then true else decide (e.op=14) then true else decide (e.op=15)),.int .i64 (ts.getD (Int.toNat 0) (dflt tI)),.int .i64 (j:Int)]++nA 85,[.cells   [.int .i64 e.kind,.int .i64 e.op,.str e.name,.int .i64 e.value,.sl .expr e.args],.rows tI ts],2⟩) (fun j=>j≤ts.length∧∀ k,k < j→ts.getD k 0=ts.getD 0 0) (fun j=>ts.length - j) (aI (Exists.intro (0) (Exists.intro ([some 0,some 1]) (aI ?_ (aI (by rfl) (aI (by rfl) (aI (aI (aI (by rfl) (by rfl)) (aI (by rfl) True.intro)) (by rfl))))))) ?_)
   ·exact ⟨Nat.zero_le _,fun _ h=>absurd h (Nat.not_lt_zero _)⟩
   rintro j ⟨hj,hall⟩
   refine (fun m0=>(aI (fun m1=>(aI (by intros;(try subst_vars);(try simp only [nB] at *);(try simp only [inK,big,lim,nL] at *);omega) (aI (fun m2=>(fin_of rfl ?_)) (fun m2=>(aI (by intros;(try subst_vars);(try simp only [nB] at *);(try simp only [inK,big,lim,nL] at *);omega) ?_))))) (fun m1=>(aI (fun m3=>(fin_of rfl ?_)) (fun m3=>(fin_of rfl ?_))))))
   ·have hj':j < ts.length:=by simpa using m1
    have hn:¬ ts.getD j 0=ts.getD 0 0:=fun h=>by
     have m9:(!decide (ts.getD j 0=ts.getD 0 0))=true:=m2
     rw [decide_eq_true h] at m9
     cases m9
    show ((typF l e).1,(typF l e).2,())=_
    rw [(hend k1).2,typN_bad hc1 (of_decide_eq_false k3) (of_decide_eq_false k4) (hend k1).1 hj' (by rw [hw];exact hn)]
   ·have hj':j < ts.length:=by simpa using m1
    have hn:ts.getD j 0=ts.getD 0 0:=by
     have m9:(!decide (ts.getD j 0=ts.getD 0 0))=false:=m2
     simpa using m9
    refine Exists.intro (j+1) (Exists.intro ([some 0,some 1]) (aI ?_ (aI ?_ (aI (by rfl) (aI (by rfl) (aI (aI (aI (by rfl) (by rfl)) (aI (by rfl) True.intro)) (by rfl)))))))
    ·refine ⟨hj',fun k hk=>?_⟩
     rcases Nat.lt_succ_iff_lt_or_eq.1 hk with h | h
     ·exact hall k h
     ·rw [h];exact hn
    ·show ts.length - (j+1) < ts.length - j
     omega
   ·have hj':¬ j < ts.length:=by simpa using m1
    show ((typF l e).1,(typF l e).2,())=_
    rw [(hend k1).2,typN_good hc1 (of_decide_eq_false k3) (of_decide_eq_false k4) (hend k1).1 (fun k hk=>by rw [hw];exact hall k (by omega)),res_2 m3]
   ·have hj':¬ j < ts.length:=by simpa using m1
    show ((typF l e).1,(typF l e).2,())=_
    rw [(hend k1).2,typN_good hc1 (of_decide_eq_false k3) (of_decide_eq_false k4) (hend k1).1 (fun k hk=>by rw [hw];exact hall k (by omega)),res_1 m3]
  ·have hw:wantT e.op (ts.getD 0 0)=1:=want_i (by assumption) (by assumption)
   refine ex4 _ (fun j:Nat=>⟨[.any,.any,.ptr 0 0,.any,.any,.any,.own 1,.any,.any,.any,.any,.any,.bool (bif bif decide (e.op=2) then true else decide (e.op=14) then true else decide (e.op=15)),.int .i64 1,.int .i64 (j:Int)]++nA 85,[.cells   [.int .i64 e.kind,.int .i64 e.op,.str e.name,.int .i64 e.value,.sl .expr e.args],.rows tI ts],2⟩) (fun j=>j≤ts.length∧∀ k,k < j→ts.getD k 0=1) (fun j=>ts.length - j) (aI (Exists.intro (0) (Exists.intro ([some 0,some 1]) (aI ?_ (aI (by rfl) (aI (by rfl) (aI (aI (aI (by rfl) (by rfl)) (aI (by rfl) True.intro)) (by rfl))))))) ?_)
   ·exact ⟨Nat.zero_le _,fun _ h=>absurd h (Nat.not_lt_zero _)⟩
   rintro j ⟨hj,hall⟩
   refine (fun m0=>(aI (fun m1=>(aI (by intros;(try subst_vars);(try simp only [nB] at *);(try simp only [inK,big,lim,nL] at *);omega) (aI (fun m2=>(fin_of rfl ?_)) (fun m2=>(aI (by intros;(try subst_vars);(try simp only [nB] at *);(try simp only [inK,big,lim,nL] at *);omega) ?_))))) (fun m1=>(aI (fun m3=>(fin_of rfl ?_)) (fun m3=>(fin_of rfl ?_))))))
   ·have hj':j < ts.length:=by simpa using m1
    have hn:¬ ts.getD j 0=1:=fun h=>by
     have m9:(!decide (ts.getD j 0=1))=true:=m2
     rw [decide_eq_true h] at m9
     cases m9
    show ((typF l e).1,(typF l e).2,())=_
    rw [(hend k1).2,typN_bad hc1 (of_decide_eq_false k3) (of_decide_eq_false k4) (hend k1).1 hj' (by rw [hw];exact hn)]
   ·have hj':j < ts.length:=by simpa using m1
    have hn:ts.getD j 0=1:=by
     have m9:(!decide (ts.getD j 0=1))=false:=m2
     simpa using m9
    refine Exists.intro (j+1) (Exists.intro ([some 0,some 1]) (aI ?_ (aI ?_ (aI (by rfl) (aI (by rfl) (aI (aI (aI (by rfl) (by rfl)) (aI (by rfl) True.intro)) (by rfl)))))))
    ·refine ⟨hj',fun k hk=>?_⟩
     rcases Nat.lt_succ_iff_lt_or_eq.1 hk with h | h
     ·exact hall k h
     ·rw [h];exact hn
    ·show ts.length - (j+1) < ts.length - j
     omega
   ·have hj':¬ j < ts.length:=by simpa using m1
    show ((typF l e).1,(typF l e).2,())=_
    rw [(hend k1).2,typN_good hc1 (of_decide_eq_false k3) (of_decide_eq_false k4) (hend k1).1 (fun k hk=>by rw [hw];exact hall k (by omega)),res_2 m3]
   ·have hj':¬ j < ts.length:=by simpa using m1
    show ((typF l e).1,(typF l e).2,())=_
    rw [(hend k1).2,typN_good hc1 (of_decide_eq_false k3) (of_decide_eq_false k4) (hend k1).1 (fun k hk=>by rw [hw];exact hall k (by omega)),res_1 m3]
def c122A:Ctr:=fnC [dX,dBds] rII (fun y=>chkT y.1=0) (fun y=>((typF y.2.1 y.1).1,(typF y.2.1 y.1).2,()))
theorem good122:GoodC Tryz.prog 122 c122A:=good_rec (fun y=>exW y.1) good122'
def cxF86:Ctx:=⟨tys0,[(84,([],c84)),(121,([],c121)),(122,([],c122A))]⟩
theorem cxF86_good:GoodCtx Tryz.prog cxF86:=cx_cons good84 (cx_cons good121 (cx_cons good122 cx0_good))
def c86:Ctr:=fnC [dX,dBds] rII (fun _=>True) (fun y=>((exType y.1 y.2.1).1,(exType y.1 y.2.1).2,()))
theorem good86:GoodC Tryz.prog 86 c86:=by
 refine goodF cxF86_good 3 _ _ _ _ ⟨_,Tryz.func86,rfl,rfl⟩ fun (⟨e,l,_⟩ : ExprT × List Bd × Unit) _=>?_
 refine (aI (by first | kernel_rfl | rfl) (aI True.intro (aI (fun h0=>(fin_of rfl ?_)) (fun h0=>(aI True.intro (aI (fun h1=>(fin_of rfl ?_)) (fun h1=>(aI ?_ (fin_of rfl ?_)))))))))
 ·have hk:exChk e≠0:=by have h:=h0;simp only [eta] at h;simpa using h
  show ((exType e l).1,(exType e l).2,())=(0,exChk (ExprT.mk _ _ _ _ _),())
  rw [eta,exType,if_pos hk]
 ·have hk:exChk e=0:=by have h:=h0;simp only [eta] at h;simpa using h
  have hb:¬ boundB l=true:=fun h=>by
   have h9:(!decide ((if boundB l=true then (0:Int) else 1)=0))=true:=h1
   rw [if_pos h] at h9;cases h9
  show ((exType e l).1,(exType e l).2,())=(0,(if boundB l=true then (0:Int) else 1),())
  rw [exType,if_neg (by rw [hk];simp),if_neg hb,if_neg hb]
 ·have hk:exChk e=0:=by have h:=h0;simp only [eta] at h;simpa using h
  show chkT (ExprT.mk _ _ _ _ _)=0
  rw [eta]
  exact chk_T hk
 ·have hk:exChk e=0:=by have h:=h0;simp only [eta] at h;simpa using h
  have hb:boundB l=true:=Classical.byContradiction fun h=>by
   have h9:(!decide ((if boundB l=true then (0:Int) else 1)=0))=false:=h1
   rw [if_neg h] at h9;cases h9
  show ((exType e l).1,(exType e l).2,())=((typF l (ExprT.mk _ _ _ _ _)).1,(typF l (ExprT.mk _ _ _ _ _)).2,())
  rw [eta,exType,if_neg (by rw [hk];simp),if_pos hb]
end Go.Proofs.YticmijfmgmkkcaaGreat
namespace Go.Proofs.YticmijfmgmkkcaaGreat
open Go.Sx
theorem over_iff {x y:Int} (hx:0≤x):(bif !decide (x=0) then decide ((1099511627776:Int).tdiv x < y) else false)=decide (1099511627776 < x * y):=by
 by_cases h:x=0
 ·subst h
  rw [Int.zero_mul];rfl
 ·rw [decide_eq_false h,Int.tdiv_eq_ediv_of_nonneg (by decide)]
  show decide ((1099511627776:Int) / x < y)=_
  congr 1
  rw [Int.ediv_lt_iff_lt_mul (by omega),Int.mul_comm]
theorem absI_nn (a:Int):0≤absI a:=by rcases absI_cases a with h | h <;> omega
theorem times_is (a b:Int):timesF a b=if (bif !decide (absI a=0) then decide ((1099511627776:Int).tdiv (absI a) < absI b) else false)=true then (0,14) else (a * b,0):=by
 unfold timesF
 rw [over_iff (absI_nn a)]
 have h:(bif !decide (b=0) then decide ((1099511627776:Int).tdiv (absI b) < absI a) else false)=decide (1099511627776 < absI a * absI b):=by
  rw [Int.mul_comm,← over_iff (absI_nn b)]
  have:decide (b=0)=decide (absI b=0):=by
   rw [decide_eq_decide]
   rcases absI_cases b with h | h <;> omega
  rw [this]
 rw [h]
theorem absI_neg {a:Int} (h:decide (a < 0)=true):absI a=0 - a:=by
 have:=of_decide_eq_true h
 rcases absI_cases a with h | h <;> omega
theorem absI_pos {a:Int} (h:decide (a < 0)=false):absI a=a:=by
 have:=of_decide_eq_false h
 rcases absI_cases a with h | h <;> omega
def c140:Ctr:=fnC [dI,dI] rII (fun y=>(-1099511627776≤y.1∧y.1≤1099511627776)∧(-1099511627776≤y.2.1∧y.2.1≤1099511627776)) (fun y=>((timesF y.1 y.2.1).1,(timesF y.1 y.2.1).2,()))
theorem good140:GoodC Tryz.prog 140 c140:=by
 refine goodF cx0_good 3 _ _ _ _ ⟨_,Tryz.func140,rfl,rfl⟩ fun (⟨a,b,_⟩ : Int × Int × Unit) hn=>?_
 have hn1:-1099511627776≤a∧a≤1099511627776:=hn.1
 have hn2:-1099511627776≤b∧b≤1099511627776:=hn.2
 clear hn
 have td:∀ x:Int,0≤x→x≠0→x≠0∧inK .i64 ((1099511627776:Int).tdiv x):=fun x h h'=>by
  refine ⟨h', ?_⟩
  rw [Int.tdiv_eq_ediv_of_nonneg (by decide)]
  have k1:=Int.ediv_nonneg (a:=1099511627776) (b:=x) (by decide) (by omega)
  have k2:=Int.ediv_le_self (a:=1099511627776) x (by decide)
  simp only [inK]
  omega
 have LA:∀ A B:Int,absI a=A→absI b=B→(bif !decide (A=0) then decide ((1099511627776:Int).tdiv A < B) else false)=true→((timesF a b).1,(timesF a b).2,())=((0:Int),(14:Int),()):=fun A B hA hB h=>by
  subst hA;subst hB
  rw [times_is,if_pos h]
 have LB:∀ A B:Int,absI a=A→absI b=B→(bif !decide (A=0) then decide ((1099511627776:Int).tdiv A < B) else false)=false→timesF a b=(a * b,0):=fun A B hA hB h=>by
  subst hA;subst hB
  rw [times_is,if_neg (by rw [h];simp)]
 have LC:timesF a b=(a * b,0)→-9223372036854775808≤a * b∧a * b≤9223372036854775807:=fun h=>by
  have:=times_in a b
  rw [h] at this
  replace this:-1099511627776≤a * b∧a * b≤1099511627776:=this
  omega
 have LD:timesF a b=(a * b,0)→((timesF a b).1,(timesF a b).2,())=(a * b,(0:Int),()):=fun h=>by rw [h]
 have nz:∀ A:Int,(!decide (A=0))=true→A≠0:=fun A h=>by simpa using h
 refine (aI (by first | kernel_rfl | rfl) (aI (fun h0=>(aI (by intros;(try subst_vars);(try simp only [nB] at *);(try simp only [inK,big,lim,nL] at *);omega) (aI (fun h1=>(aI (by intros;(try subst_vars);(try simp only [nB] at *);(try simp only [inK,big,lim,nL] at *);omega) (aI (fun h2=>?_) (aI (fun h3=>(fin_of rfl ?_)) (fun h3=>(aI ?_ (fin_of rfl ?_))))))) (fun h1=>(aI (fun h4=>?_) (aI (fun h5=>(fin_of rfl ?_)) (fun h5=>(aI ?_ (fin_of rfl ?_))))))))) (fun h0=>(aI (fun h6=>(aI (by intros;(try subst_vars);(try simp only [nB] at *);(try simp only [inK,big,lim,nL] at *);omega) (aI (fun h7=>?_) (aI (fun h8=>(fin_of rfl ?_)) (fun h8=>(aI ?_ (fin_of rfl ?_))))))) (fun h6=>(aI (fun h9=>?_) (aI (fun h10=>(fin_of rfl ?_)) (fun h10=>(aI ?_ (fin_of rfl ?_))))))))))
 ·exact td _ (by have:=of_decide_eq_true h0;show (0:Int)≤0 - a;omega) (nz _ h2)
 ·exact LA _ _ (absI_neg h0) (absI_neg h1) h3
 ·exact LC (LB _ _ (absI_neg h0) (absI_neg h1) h3)
 ·exact LD (LB _ _ (absI_neg h0) (absI_neg h1) h3)
 ·exact td _ (by have:=of_decide_eq_true h0;show (0:Int)≤0 - a;omega) (nz _ h4)
 ·exact LA _ _ (absI_neg h0) (absI_pos h1) h5
 ·exact LC (LB _ _ (absI_neg h0) (absI_pos h1) h5)
 ·exact LD (LB _ _ (absI_neg h0) (absI_pos h1) h5)
 ·exact td _ (by have:=of_decide_eq_false h0;show (0:Int)≤a;omega) (nz _ h7)
 ·exact LA _ _ (absI_pos h0) (absI_neg h6) h8
 ·exact LC (LB _ _ (absI_pos h0) (absI_neg h6) h8)
 ·exact LD (LB _ _ (absI_pos h0) (absI_neg h6) h8)
 ·exact td _ (by have:=of_decide_eq_false h0;show (0:Int)≤a;omega) (nz _ h9)
 ·exact LA _ _ (absI_pos h0) (absI_pos h6) h10
 ·exact LC (LB _ _ (absI_pos h0) (absI_pos h6) h10)
 ·exact LD (LB _ _ (absI_pos h0) (absI_pos h6) h10)
def cxF127:Ctx:=⟨tys0,[(140,([],c140))]⟩
theorem cxF127_good:GoodCtx Tryz.prog cxF127:=cx_cons good140 cx0_good
theorem clip_ov {n:Int} (h:(bif decide (n < -1099511627776) then true else decide (1099511627776 < n))=true):clip (n,0)=(0,14):=by
 refine clip_hi (decide_eq_true ?_)
 rcases absI_cases n with ⟨h1,h2⟩ | ⟨h1,h2⟩
 all_goals
  cases h3:decide (n < -1099511627776) with
  | true=>have:=of_decide_eq_true h3;omega
  | false =>
   rw [h3] at h
   have:=of_decide_eq_true (show decide (1099511627776 < n)=true from h)
   omega
theorem clip_in2 {n:Int} (h:(bif decide (n < -1099511627776) then true else decide (1099511627776 < n))=false):clip (n,0)=(n,0):=by
 refine clip_lo (decide_eq_false ?_)
 cases h3:decide (n < -1099511627776) with
 | true=>rw [h3] at h;cases h
 | false =>
  rw [h3] at h
  have h4:=of_decide_eq_false (show decide (1099511627776 < n)=false from h)
  have h5:=of_decide_eq_false h3
  rcases absI_cases n with ⟨h1,h2⟩ | ⟨h1,h2⟩ <;> omega
def c127:Ctr:=fnC [dI,dI,dI] rII (fun y=>(3≤y.1∧y.1≤15)∧inM y.2.1∧inM y.2.2.1) (fun y=>((clip (opF y.1 y.2.1 y.2.2.1)).1,(clip (opF y.1 y.2.1 y.2.2.1)).2,()))
set_option maxHeartbeats 4000000 in
theorem good127:GoodC Tryz.prog 127 c127:=by
 refine goodF cxF127_good 4 _ _ _ _ ⟨_,Tryz.func127,rfl,rfl⟩ fun (⟨o,a,b,_⟩ : Int × Int × Int × Unit) hn=>?_
 have ho:3≤o∧o≤15:=hn.1
 have ha:-1099511627776≤a∧a≤1099511627776:=hn.2.1
 have hb:-1099511627776≤b∧b≤1099511627776:=hn.2.2
 clear hn
 have cs:o=3∨o=4∨o=5∨o=6∨o=7∨o=8∨o=9∨o=10∨o=11∨o=12∨o=13∨o=14∨o=15:=by omega
 have L:∀ {o r s:Int} {q:Int × Int},opF o a b=q→clip q=(r,s)→((clip (opF o a b)).1,(clip (opF o a b)).2,())=(r,s,()):=fun h h'=>by rw [h,h']
 have dv:(bif bif decide ((6:Int)=6) then true else decide ((6:Int)=7) then decide (b=0) else false)=false→b≠0:=fun h=>of_decide_eq_false (show decide (b=0)=false from h)
 have dv0:(bif bif decide ((6:Int)=6) then true else decide ((6:Int)=7) then decide (b=0) else false)=true→b=0:=fun h=>of_decide_eq_true (show decide (b=0)=true from h)
 have mv:(bif bif decide ((7:Int)=6) then true else decide ((7:Int)=7) then decide (b=0) else false)=false→b≠0:=fun h=>of_decide_eq_false (show decide (b=0)=false from h)
 have mv0:(bif bif decide ((7:Int)=6) then true else decide ((7:Int)=7) then decide (b=0) else false)=true→b=0:=fun h=>of_decide_eq_true (show decide (b=0)=true from h)
 have e1:clip ((1:Int),0)=(1,0):=by decide
 have e0:clip ((0:Int),0)=(0,0):=by decide
 have q1:∀ {c:Bool},c=true→((one c,0):Int × Int)=(1,0):=fun h=>by rw [h];rfl
 have q0:∀ {c:Bool},c=false→((one c,0):Int × Int)=(0,0):=fun h=>by rw [h];rfl
 have o1:∀ {o:Int} {c:Bool},opF o a b=(one c,0)→c=true→((clip (opF o a b)).1,(clip (opF o a b)).2,())=(1,0,()):=fun h h'=>L (h.trans (q1 h')) e1
 have o0:∀ {o:Int} {c:Bool},opF o a b=(one c,0)→c=false→((clip (opF o a b)).1,(clip (opF o a b)).2,())=(0,0,()):=fun h h'=>L (h.trans (q0 h')) e0
 rcases cs with rfl | rfl | rfl | rfl | rfl | rfl | rfl | rfl | rfl | rfl | rfl | rfl | rfl
 ·refine (aI (by first | kernel_rfl | rfl) (aI (fun hc0=>nF (by kernel_rfl) hc0) (fun hc0=>(aI (fun hc1=>(aI (by intros;(try subst_vars);(try simp only [nB] at *);(try simp only [inK,big,lim,nL] at *);omega) (aI (fun hc2=>(fin_of rfl ?_)) (fun hc2=>(fin_of rfl ?_))))) (fun hc1=>False.elim (Bool.false_ne_true (Eq.symm (Eq.trans (by kernel_rfl) hc1))))))))
  ·exact L rfl (clip_ov hc2)
  ·exact L rfl (clip_in2 hc2)
 ·refine (aI (by first | kernel_rfl | rfl) (aI (fun hd0=>nF (by kernel_rfl) hd0) (fun hd0=>(aI (fun hd1=>nF (by kernel_rfl) hd1) (fun hd1=>(aI (fun hd2=>(aI (by intros;(try subst_vars);(try simp only [nB] at *);(try simp only [inK,big,lim,nL] at *);omega) (aI (fun hd3=>(fin_of rfl ?_)) (fun hd3=>(fin_of rfl ?_))))) (fun hd2=>False.elim (Bool.false_ne_true (Eq.symm (Eq.trans (by kernel_rfl) hd2))))))))))
  ·exact L rfl (clip_ov hd3)
  ·exact L rfl (clip_in2 hd3)
 ·refine (aI (by first | kernel_rfl | rfl) (aI (fun he0=>nF (by kernel_rfl) he0) (fun he0=>(aI (fun he1=>nF (by kernel_rfl) he1) (fun he1=>(aI (fun he2=>nF (by kernel_rfl) he2) (fun he2=>(aI (fun he3=>(aI ?_ (fin_of rfl ?_))) (fun he3=>False.elim (Bool.false_ne_true (Eq.symm (Eq.trans (by kernel_rfl) he3))))))))))))
  ·exact ⟨ha,hb⟩
  ·have e5:opF 5 a b=timesF a b:=rfl
   have h9:clip (timesF a b)=timesF a b:=by
    by_cases h8:(timesF a b).2=0
    ·have h7:=times_in a b
     have h6:timesF a b=((timesF a b).1,0):=by rw [← h8]
     rw [h6]
     refine clip_lo (decide_eq_false ?_)
     rcases absI_cases (timesF a b).1 with ⟨h1,h2⟩ | ⟨h1,h2⟩ <;> omega
    ·have h6:timesF a b=(0,(timesF a b).2):=by rw [← times_er a b h8]
     rw [h6]
     exact clip_er h8
   exact L e5 h9
 ·refine (aI (by first | kernel_rfl | rfl) (aI (fun hf0=>(fin_of rfl ?_)) (fun hf0=>(aI (fun hf1=>nF (by kernel_rfl) hf1) (fun hf1=>(aI (fun hf2=>nF (by kernel_rfl) hf2) (fun hf2=>(aI (fun hf3=>nF (by kernel_rfl) hf3) (fun hf3=>(aI (fun hf4=>(aI ?_ (aI (fun hf5=>(fin_of rfl ?_)) (fun hf5=>(fin_of rfl ?_))))) (fun hf4=>False.elim (Bool.false_ne_true (Eq.symm (Eq.trans (by kernel_rfl) hf4))))))))))))))
  ·have h9:=dv0 hf0
   exact L (show opF 6 a b=((0:Int),24) by subst h9;rfl) (by decide)
  ·refine ⟨dv hf0, ?_⟩
   have:=tdiv_in a b
   show -9223372036854775808≤a.tdiv b∧a.tdiv b≤9223372036854775807
   omega
  ·exact L (show opF 6 a b=(a.tdiv b,0) from if_neg (dv hf0)) (clip_ov hf5)
  ·exact L (show opF 6 a b=(a.tdiv b,0) from if_neg (dv hf0)) (clip_in2 hf5)
 ·refine (aI (by first | kernel_rfl | rfl) (aI (fun hg0=>(fin_of rfl ?_)) (fun hg0=>(aI (fun hg1=>nF (by kernel_rfl) hg1) (fun hg1=>(aI (fun hg2=>nF (by kernel_rfl) hg2) (fun hg2=>(aI (fun hg3=>nF (by kernel_rfl) hg3) (fun hg3=>(aI (fun hg4=>nF (by kernel_rfl) hg4) (fun hg4=>(aI (fun hg5=>(aI ?_ (aI (fun hg6=>(fin_of rfl ?_)) (fun hg6=>(fin_of rfl ?_))))) (fun hg5=>False.elim (Bool.false_ne_true (Eq.symm (Eq.trans (by kernel_rfl) hg5))))))))))))))))
  ·have h9:=mv0 hg0
   exact L (show opF 7 a b=((0:Int),24) by subst h9;rfl) (by decide)
  ·exact mv hg0
  ·exact L (show opF 7 a b=(a.tmod b,0) from if_neg (mv hg0)) (clip_ov hg6)
  ·exact L (show opF 7 a b=(a.tmod b,0) from if_neg (mv hg0)) (clip_in2 hg6)
 ·refine (aI (by first | kernel_rfl | rfl) (aI (fun hh0=>nF (by kernel_rfl) hh0) (fun hh0=>(aI (fun hh1=>nF (by kernel_rfl) hh1) (fun hh1=>(aI (fun hh2=>nF (by kernel_rfl) hh2) (fun hh2=>(aI (fun hh3=>nF (by kernel_rfl) hh3) (fun hh3=>(aI (fun hh4=>nF (by kernel_rfl) hh4) (fun hh4=>(aI (fun hh5=>nF (by kernel_rfl) hh5) (fun hh5=>(aI (fun hh6=>(aI (by first | kernel_rfl | rfl) (aI (fun hh7=>(aI (fun hh8=>nF (by kernel_rfl) hh8) (fun hh8=>(fin_of rfl ?_)))) (fun hh7=>(aI (fun hh9=>nF (by kernel_rfl) hh9) (fun hh9=>(fin_of rfl ?_))))))) (fun hh6=>False.elim (Bool.false_ne_true (Eq.symm (Eq.trans (by kernel_rfl) hh6))))))))))))))))))
  ·exact o1 rfl (by assumption)
  ·exact o0 rfl (by assumption)
 ·refine (aI (by first | kernel_rfl | rfl) (aI (fun hi0=>nF (by kernel_rfl) hi0) (fun hi0=>(aI (fun hi1=>nF (by kernel_rfl) hi1) (fun hi1=>(aI (fun hi2=>nF (by kernel_rfl) hi2) (fun hi2=>(aI (fun hi3=>nF (by kernel_rfl) hi3) (fun hi3=>(aI (fun hi4=>nF (by kernel_rfl) hi4) (fun hi4=>(aI (fun hi5=>nF (by kernel_rfl) hi5) (fun hi5=>(aI (fun hi6=>nF (by kernel_rfl) hi6) (fun hi6=>(aI (fun hi7=>(aI (by first | kernel_rfl | rfl) (aI (fun hi8=>(aI (fun hi9=>nF (by kernel_rfl) hi9) (fun hi9=>(fin_of rfl ?_)))) (fun hi8=>(aI (fun hi10=>nF (by kernel_rfl) hi10) (fun hi10=>(fin_of rfl ?_))))))) (fun hi7=>False.elim (Bool.false_ne_true (Eq.symm (Eq.trans (by kernel_rfl) hi7))))))))))))))))))))
  ·exact o1 rfl (by assumption)
  ·exact o0 rfl (by assumption)
 ·refine (aI (by first | kernel_rfl | rfl) (aI (fun hj0=>nF (by kernel_rfl) hj0) (fun hj0=>(aI (fun hj1=>nF (by kernel_rfl) hj1) (fun hj1=>(aI (fun hj2=>nF (by kernel_rfl) hj2) (fun hj2=>(aI (fun hj3=>nF (by kernel_rfl) hj3) (fun hj3=>(aI (fun hj4=>nF (by kernel_rfl) hj4) (fun hj4=>(aI (fun hj5=>nF (by kernel_rfl) hj5) (fun hj5=>(aI (fun hj6=>nF (by kernel_rfl) hj6) (fun hj6=>(aI (fun hj7=>nF (by kernel_rfl) hj7) (fun hj7=>(aI (fun hj8=>(aI (by first | kernel_rfl | rfl) (aI (fun hj9=>(aI (fun hj10=>nF (by kernel_rfl) hj10) (fun hj10=>(fin_of rfl ?_)))) (fun hj9=>(aI (fun hj11=>nF (by kernel_rfl) hj11) (fun hj11=>(fin_of rfl ?_))))))) (fun hj8=>False.elim (Bool.false_ne_true (Eq.symm (Eq.trans (by kernel_rfl) hj8))))))))))))))))))))))
  ·exact o1 rfl (by assumption)
  ·exact o0 rfl (by assumption)
 ·refine (aI (by first | kernel_rfl | rfl) (aI (fun hk0=>nF (by kernel_rfl) hk0) (fun hk0=>(aI (fun hk1=>nF (by kernel_rfl) hk1) (fun hk1=>(aI (fun hk2=>nF (by kernel_rfl) hk2) (fun hk2=>(aI (fun hk3=>nF (by kernel_rfl) hk3) (fun hk3=>(aI (fun hk4=>nF (by kernel_rfl) hk4) (fun hk4=>(aI (fun hk5=>nF (by kernel_rfl) hk5) (fun hk5=>(aI (fun hk6=>nF (by kernel_rfl) hk6) (fun hk6=>(aI (fun hk7=>nF (by kernel_rfl) hk7) (fun hk7=>(aI (fun hk8=>nF (by kernel_rfl) hk8) (fun hk8=>(aI (fun hk9=>(aI (by first | kernel_rfl | rfl) (aI (fun hk10=>(aI (fun hk11=>nF (by kernel_rfl) hk11) (fun hk11=>(fin_of rfl ?_)))) (fun hk10=>(aI (fun hk12=>nF (by kernel_rfl) hk12) (fun hk12=>(fin_of rfl ?_))))))) (fun hk9=>False.elim (Bool.false_ne_true (Eq.symm (Eq.trans (by kernel_rfl) hk9))))))))))))))))))))))))
  ·exact o1 rfl (by assumption)
  ·exact o0 rfl (by assumption)
 ·refine (aI (by first | kernel_rfl | rfl) (aI (fun hl0=>nF (by kernel_rfl) hl0) (fun hl0=>(aI (fun hl1=>nF (by kernel_rfl) hl1) (fun hl1=>(aI (fun hl2=>nF (by kernel_rfl) hl2) (fun hl2=>(aI (fun hl3=>nF (by kernel_rfl) hl3) (fun hl3=>(aI (fun hl4=>nF (by kernel_rfl) hl4) (fun hl4=>(aI (fun hl5=>nF (by kernel_rfl) hl5) (fun hl5=>(aI (fun hl6=>nF (by kernel_rfl) hl6) (fun hl6=>(aI (fun hl7=>nF (by kernel_rfl) hl7) (fun hl7=>(aI (fun hl8=>nF (by kernel_rfl) hl8) (fun hl8=>(aI (fun hl9=>nF (by kernel_rfl) hl9) (fun hl9=>(aI (fun hl10=>(aI (by first | kernel_rfl | rfl) (aI (fun hl11=>(aI (fun hl12=>nF (by kernel_rfl) hl12) (fun hl12=>(fin_of rfl ?_)))) (fun hl11=>(aI (fun hl13=>nF (by kernel_rfl) hl13) (fun hl13=>(fin_of rfl ?_))))))) (fun hl10=>False.elim (Bool.false_ne_true (Eq.symm (Eq.trans (by kernel_rfl) hl10))))))))))))))))))))))))))
  ·exact o1 rfl (by assumption)
  ·exact o0 rfl (by assumption)
 ·refine (aI (by first | kernel_rfl | rfl) (aI (fun hm0=>nF (by kernel_rfl) hm0) (fun hm0=>(aI (fun hm1=>nF (by kernel_rfl) hm1) (fun hm1=>(aI (fun hm2=>nF (by kernel_rfl) hm2) (fun hm2=>(aI (fun hm3=>nF (by kernel_rfl) hm3) (fun hm3=>(aI (fun hm4=>nF (by kernel_rfl) hm4) (fun hm4=>(aI (fun hm5=>nF (by kernel_rfl) hm5) (fun hm5=>(aI (fun hm6=>nF (by kernel_rfl) hm6) (fun hm6=>(aI (fun hm7=>nF (by kernel_rfl) hm7) (fun hm7=>(aI (fun hm8=>nF (by kernel_rfl) hm8) (fun hm8=>(aI (fun hm9=>nF (by kernel_rfl) hm9) (fun hm9=>(aI (fun hm10=>nF (by kernel_rfl) hm10) (fun hm10=>(aI (fun hm11=>(aI (by first | kernel_rfl | rfl) (aI (fun hm12=>(aI (fun hm13=>nF (by kernel_rfl) hm13) (fun hm13=>(fin_of rfl ?_)))) (fun hm12=>(aI (fun hm14=>nF (by kernel_rfl) hm14) (fun hm14=>(fin_of rfl ?_))))))) (fun hm11=>False.elim (Bool.false_ne_true (Eq.symm (Eq.trans (by kernel_rfl) hm11))))))))))))))))))))))))))))
  ·exact o1 rfl (by assumption)
  ·exact o0 rfl (by assumption)
 ·refine (aI (by first | kernel_rfl | rfl) (aI (fun hn0=>nF (by kernel_rfl) hn0) (fun hn0=>(aI (fun hn1=>nF (by kernel_rfl) hn1) (fun hn1=>(aI (fun hn2=>nF (by kernel_rfl) hn2) (fun hn2=>(aI (fun hn3=>nF (by kernel_rfl) hn3) (fun hn3=>(aI (fun hn4=>nF (by kernel_rfl) hn4) (fun hn4=>(aI (fun hn5=>nF (by kernel_rfl) hn5) (fun hn5=>(aI (fun hn6=>nF (by kernel_rfl) hn6) (fun hn6=>(aI (fun hn7=>nF (by kernel_rfl) hn7) (fun hn7=>(aI (fun hn8=>nF (by kernel_rfl) hn8) (fun hn8=>(aI (fun hn9=>nF (by kernel_rfl) hn9) (fun hn9=>(aI (fun hn10=>nF (by kernel_rfl) hn10) (fun hn10=>(aI (fun hn11=>nF (by kernel_rfl) hn11) (fun hn11=>(aI (fun hn12=>(aI (by first | kernel_rfl | rfl) (aI (fun hn13=>(aI (fun hn14=>nF (by kernel_rfl) hn14) (fun hn14=>(fin_of rfl ?_)))) (fun hn13=>(aI (fun hn15=>nF (by kernel_rfl) hn15) (fun hn15=>(fin_of rfl ?_))))))) (fun hn12=>False.elim (Bool.false_ne_true (Eq.symm (Eq.trans (by kernel_rfl) hn12))))))))))))))))))))))))))))))
  ·exact o1 rfl (by assumption)
  ·exact o0 rfl (by assumption)
 ·refine (aI (by first | kernel_rfl | rfl) (aI (fun ho0=>nF (by kernel_rfl) ho0) (fun ho0=>(aI (fun ho1=>nF (by kernel_rfl) ho1) (fun ho1=>(aI (fun ho2=>nF (by kernel_rfl) ho2) (fun ho2=>(aI (fun ho3=>nF (by kernel_rfl) ho3) (fun ho3=>(aI (fun ho4=>nF (by kernel_rfl) ho4) (fun ho4=>(aI (fun ho5=>nF (by kernel_rfl) ho5) (fun ho5=>(aI (fun ho6=>nF (by kernel_rfl) ho6) (fun ho6=>(aI (fun ho7=>nF (by kernel_rfl) ho7) (fun ho7=>(aI (fun ho8=>nF (by kernel_rfl) ho8) (fun ho8=>(aI (fun ho9=>nF (by kernel_rfl) ho9) (fun ho9=>(aI (fun ho10=>nF (by kernel_rfl) ho10) (fun ho10=>(aI (fun ho11=>nF (by kernel_rfl) ho11) (fun ho11=>(aI (fun ho12=>nF (by kernel_rfl) ho12) (fun ho12=>(aI (fun ho13=>(aI (by first | kernel_rfl | rfl) (aI (fun ho14=>(aI (fun ho15=>nF (by kernel_rfl) ho15) (fun ho15=>(fin_of rfl ?_)))) (fun ho14=>(aI (fun ho16=>nF (by kernel_rfl) ho16) (fun ho16=>(fin_of rfl ?_))))))) (fun ho13=>False.elim (Bool.false_ne_true (Eq.symm (Eq.trans (by kernel_rfl) ho13))))))))))))))))))))))))))))))))
  ·exact o1 rfl (by assumption)
  ·exact o0 rfl (by assumption)
end Go.Proofs.YticmijfmgmkkcaaGreat
