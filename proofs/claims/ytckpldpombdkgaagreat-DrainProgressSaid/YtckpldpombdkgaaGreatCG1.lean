/- Pipelines. -/
import Derived.Test.YtckpldpombdkgaaGreatCZ2
set_option linter.unusedSimpArgs false
set_option linter.unusedVariables false
set_option maxRecDepth 100000
namespace Go.Proofs.YtckpldpombdkgaaGreat
open Go.Sx
@[reducible] def EdgT:Type:=Int × Int
@[reducible] def tE:Ty:=.pair tI tI
@[reducible] def dE:AK:=.dat true tE
def Ad0:List (TypeId × Ty):=(155,tE) :: C5
def cxE0:Ctx:=⟨Ad0,[]⟩
theorem Dw:Ah Tryz.prog cxE0:=fun _ _ _ h=>by simp [cxE0,Gp] at h
def Ams (a b:Int):Int:=if a < b then -1 else if a > b then 1 else 0
def cCmp:Ctr:=fnC [dI,dI] rI (fun _=>True) (fun y=>(Ams y.1 y.2.1,()))
theorem Apt:GoodC Tryz.prog 134 cCmp:=by
 refine Ap Dw 3 _ _ _ _ ⟨_,Tryz.func134,rfl,rfl⟩ fun (⟨a,b,_⟩ : Int × Int × Unit) _=>?_
 refine (aF (aF (aF (aI (fun h0=>(aI (fun h1=>(Aa rfl ?_)) (fun h1=>(Aa rfl ?_)))) (fun h0=>(aI (fun h2=>(Aa rfl ?_)) (fun h2=>(aI (fun h3=>(Aa rfl ?_)) (fun h3=>(aI (fun h4=>(Aa rfl ?_)) (fun h4=>(Aa rfl ?_))))))))))))
 ·simp at h0
 ·simp at h0
 ·simp at h2
 ·exact congrArg (fun b=>(b,())) (if_pos (of_decide_eq_true h3))
 ·exact congrArg (fun b=>(b,())) ((if_neg (of_decide_eq_false h3)).trans (if_pos (of_decide_eq_true h4)))
 ·exact congrArg (fun b=>(b,())) ((if_neg (of_decide_eq_false h3)).trans (if_neg (of_decide_eq_false h4)))
def J9:List Int→Int
 | []=>0
 | a :: l=>if a≠0 then a else J9 l
theorem Aj2 {l:List Int} {i:Nat} (h:i < l.length):J9 (l.drop i)=if l.getD i 0≠0 then l.getD i 0 else J9 (l.drop (i+1)):=by
 rw [List.drop_eq_getElem_cons h,J9]
 simp [List.getD_eq_getElem?_getD,List.getElem?_eq_getElem h]
def cOr:Ctr:=fnC [dIs] rI (fun _=>True) (fun y=>(J9 y.1,()))
theorem gOr:GoodC Tryz.prog 133 cOr:=by
 refine Ap Dw 3 _ _ _ _ ⟨_,Tryz.func133,rfl,rfl⟩ fun (⟨l,_⟩ : List Int × Unit) _=>?_
 refine (aF (fun h0=>?_))
 refine ex4 _ (fun i:Nat=>⟨[.sl (.int .i64) l,.any,.any,.int .i64 0,.any,.any,.sl (.int .i64) l,.int .i64 (↑l.length:Int),.int .i64 (i:Int),.any,.any,.any,.any,.any,.any,.any,.any,.any],[],0⟩) (fun i=>i≤l.length∧J9 l=J9 (l.drop i)) (fun i=>l.length - i) (aI (eI (0) (eI ([]) (aI ?_ (aB (aI tT (by rfl)))))) ?_)
 ·exact ⟨Nat.zero_le _,rfl⟩
 rintro i ⟨hi,hd⟩
 replace hi:i≤l.length:=hi
 replace hd:J9 l=J9 (l.drop i):=hd
 have hs:decide ((i:Int) < (l.length:Int))=true→J9 l=if l.getD (i:Int).toNat (Ab (.int .i64))≠0 then l.getD (i:Int).toNat (Ab (.int .i64)) else J9 (l.drop (i+1)):=fun h=>hd.trans (Aj2 (by have:=of_decide_eq_true h;omega))
 refine (aI (fun k0=>(aO (aI (fun k1=>(Aa rfl ?_)) (fun k1=>(aO ?_))))) (fun k0=>(Aa rfl ?_)))
 ·exact congrArg (fun b=>(b,())) ((hs k0).trans (if_pos (of_decide_eq_false (by simpa using k1))))
 ·have hs':=(hs k0).trans (if_neg (fun h=>h (of_decide_eq_true (by simpa using k1))))
  have hi':i < l.length:=by have:=of_decide_eq_true k0;omega
  clear k0 k1
  refine eI (i+1) (eI ([]) (aI ?_ (aI ?_ (aB (aI tT (by rfl))))))
  ·exact ⟨hi',hs'⟩
  ·show l.length - (i+1) < l.length - i
   omega
 ·have hi':i=l.length:=by have:=of_decide_eq_false k0;omega
  rw [hd,hi',List.drop_length];rfl
def X9 (a b:EdgT):Int:=J9 [Ams a.1 b.1,Ams a.2 b.2]
def cxE1:Ctx:=⟨Ad0,[(134,([],cCmp)),(133,([],cOr))]⟩
theorem Ad1:Ah Tryz.prog cxE1:=Ae Apt (Ae gOr Dw)
def cOrd1:Ctr:=fnC [dE,dE] rI (fun _=>True) (fun y=>(X9 y.1 y.2.1,()))
theorem An9:GoodC Tryz.prog 132 cOrd1:=by
 refine Ap Ad1 3 _ _ _ _ ⟨_,Tryz.func132,rfl,rfl⟩ fun (⟨⟨a1,a2⟩,⟨b1,b2⟩,_⟩ : EdgT × EdgT × Unit) _=>?_
 refine (aF (aF (aI tT (aI tT (aI tT (Aa rfl ?_))))))
 rfl
def Mw:Nat→List EdgT→List EdgT
 | 0,d=>d
 | j+1,d=>if X9 (d.getD (j+1) (0,0)) (d.getD j (0,0)) < 0 then Mw j ((d.set (j+1) (d.getD j (0,0))).set j (d.getD (j+1) (0,0))) else d
def Sy:Nat→Nat→List EdgT→List EdgT
 | 0,_,d=>d
 | k+1,i,d=>Sy k (i+1) (Mw i d)
def B4 (d:List EdgT):List EdgT:=Sy (d.length - 1) 1 d
def cLen:Ctr:=fnC [.dat false (.int .u64)] rI (fun y=>0≤y.1∧y.1≤12) (fun y=>(if y.1=0 then 0 else if y.1 < 2 then 1 else if y.1 < 4 then 2 else if y.1 < 8 then 3 else if y.1 < 16 then 4 else 5,()))
theorem Apu:GoodC Tryz.prog 179 cLen:=by
 refine Ap Dw 3 _ _ _ _ ⟨_,Tryz.func179,rfl,rfl⟩ fun (⟨n,()⟩ : Int × Unit) hn=>?_
 replace hn:0≤n∧n≤12:=hn
 refine (aF (aI (fun h0=>nG h0) (fun h0=>(aF (aI (fun (h1:decide ((4294967296:Int)≤n)=true)=>absurd (of_decide_eq_true h1) (by omega)) (fun h1=>(aI (fun (h2:decide ((65536:Int)≤n)=true)=>absurd (of_decide_eq_true h2) (by omega)) (fun h2=>(aI (fun (h3:decide ((256:Int)≤n)=true)=>absurd (of_decide_eq_true h3) (by omega)) (fun h3=>(aO (aI ?_ (aI ?_ (aI ?_ (Aa rfl ?_)))))))))))))))
 all_goals first | (exact absurd (of_decide_eq_true h1) (by omega)) | (exact absurd (of_decide_eq_true h2) (by omega)) | (exact absurd (of_decide_eq_true h3) (by omega)) | skip
 all_goals
  clear h1 h2 h3
  have h:n=0∨n=1∨n=2∨n=3∨n=4∨n=5∨n=6∨n=7∨n=8∨n=9∨n=10∨n=11∨n=12:=by omega
  clear hn
  rcases h with rfl | rfl | rfl | rfl | rfl | rfl | rfl | rfl | rfl | rfl | rfl | rfl | rfl
 all_goals (try dsimp only);first | rfl | decide +kernel | (constructor <;> decide +kernel)
def cxE2:Ctx:=⟨Ad0,[(179,([],cLen)),(132,([],cOrd1))]⟩
theorem Ly:Ah Tryz.prog cxE2:=Ae Apu (Ae An9 Dw)
theorem Amt {z:Int} {a b:EdgT} (h:(bif decide (0 < z) then decide (X9 a b < 0) else false)=true):0 < z∧X9 a b < 0:=by
 by_cases h1:0 < z
 ·rw [decide_eq_true h1] at h
  exact ⟨h1,of_decide_eq_true h⟩
 ·rw [decide_eq_false h1] at h
  cases h
theorem Amu {z:Int} {a b:EdgT} (h:(bif decide (0 < z) then decide (X9 a b < 0) else false)=false) (h1:0 < z):¬ X9 a b < 0:=by
 rw [decide_eq_true h1] at h
 exact of_decide_eq_false h
theorem Ahy (d:List EdgT) (h:d.length≤12):L7 cxE2 Tryz.prog 4 131 [.own 0,.fn (.func 132) [] []] [.rows tE d] 1 (fun x T' n'=>∃ σ,Iy 1 σ [noW x] T' n' ⟨[.tup []],[.rows tE (B4 d)],1⟩):=by
 refine (aF (fun h0=>(aO (aI ?_ (aF ?_)))))
 ·exact ⟨Int.natCast_nonneg _,by show (d.length:Int)≤12;omega⟩
 refine ex4 _ (fun u:Nat=>⟨[.own 0,.int .i64 0,.int .i64 (↑d.length:Int),.any,.fn (Fn.func 132) [] [],.any,.any,.any,.any,.any,.bool true,.bool true]++nA 136,[.rows tE d],1⟩) (fun u=>True) (fun u=>0) (aI (eI (0) (eI ([some 0]) (aI ?_ (aB (aI (aA tT) (by rfl)))))) ?_)
 ·trivial
 rintro u hu0
 refine (aO (aI (fun k0=>(aF (aO ?_))) (fun (k0:decide ((↑d.length:Int) - (0:Int)≤(12:Int))=false)=>absurd (by omega) (of_decide_eq_false k0))))
 clear h0 k0
 refine ex4 _ (fun p:Nat × List EdgT=>⟨[.own 0,.int .i64 0,.int .i64 (↑d.length:Int),.fn (Fn.func 132) [] [],.any,.any,.any,.any,.int .i64 (p.1:Int),.any,.int .i64 0]++nA 42,[.rows tE p.2],1⟩) (fun p=>1≤p.1∧p.2.length=d.length∧Sy (d.length - p.1) p.1 p.2=B4 d) (fun p=>d.length - p.1) (aI (eI ((1,d)) (eI ([some 0]) (aI ?_ (aB (aI (aA tT) (by rfl)))))) ?_)
 ·exact ⟨Nat.le_refl _,rfl,rfl⟩
 rintro ⟨i,e⟩ ⟨h1,he,hs⟩
 replace h1:1≤i:=h1
 replace he:e.length=d.length:=he
 replace hs:Sy (d.length - i) i e=B4 d:=hs
 refine (aI (fun m0=>?_) (fun m0=>?_))
 ·have hi:i < d.length:=by have:=of_decide_eq_true m0;omega
  clear m0
  refine ex4 _ (fun q:Int × Nat × List EdgT=>⟨[.own 0,.int .i64 0,.int .i64 (↑d.length:Int),.fn (Fn.func 132) [] [],.any,.any,.any,.any,.int .i64 (↑i:Int),.int .i64 q.1,.int .i64 0,.any,.int .i64 (↑i:Int),.int .i64 (↑d.length:Int),.bool (decide ((↑i:Int) < (↑d.length:Int)))]++nA 38,[.rows tE q.2.2],1⟩) (fun q=>q.1=(q.2.1:Int)∧q.2.1≤i∧q.2.2.length=d.length∧Mw q.2.1 q.2.2=Mw i e) (fun q=>q.2.1) (aI (eI (((i:Int),i,e)) (eI ([some 0]) (aI ?_ (aB (aI (aA tT) (by rfl)))))) ?_)
  ·exact ⟨rfl,Nat.le_refl _,he,rfl⟩
  rintro ⟨z,j,f⟩ ⟨hz,hj,hf,hq⟩
  replace hz:z=(j:Int):=hz
  replace hj:j≤i:=hj
  replace hf:f.length=d.length:=hf
  replace hq:Mw j f=Mw i e:=hq
  have hb:(bif decide (0 < z) then decide (X9 (f.getD z.toNat (Ab tE)) (f.getD (z - 1).toNat (Ab tE)) < 0) else false)=true→∃ k,j=k+1∧z - 1=(k:Int)∧k+1≤i∧Mw k ((f.set z.toNat (f.getD (z - 1).toNat (Ab tE))).set (z - 1).toNat (f.getD z.toNat (Ab tE)))=Mw i e:=fun h=>by
   obtain ⟨h3,h4⟩:=Amt h
   obtain ⟨k,rfl⟩ : ∃ k,j=k+1:=⟨j - 1,by omega⟩
   have e1:z.toNat=k+1:=by omega
   have e2:(z - 1).toNat=k:=by omega
   rw [e1,e2] at h4 ⊢
   exact ⟨k,rfl,by omega,hj,by rw [← hq,Mw,if_pos h4]⟩
  have hc:(bif decide (0 < z) then decide (X9 (f.getD z.toNat (Ab tE)) (f.getD (z - 1).toNat (Ab tE)) < 0) else false)=false→Mw i e=f:=fun h=>by
   rw [← hq]
   cases j with
   | zero=>rfl
   | succ k =>
    have e1:z.toNat=k+1:=by omega
    have e2:(z - 1).toNat=k:=by omega
    have h4:=Amu h (by omega)
    rw [e1,e2] at h4
    rw [Mw,if_neg h4]
  have hi1:Sy (d.length - i) i e=Sy (d.length - (i+1)) (i+1) (Mw i e):=by
   rw [show d.length - i=(d.length - (i+1))+1 by omega,Sy]
  refine (aF (aI (fun n0=>(by intros;(try subst_vars);(try simp only [nB] at *);(try simp only [inK,big,lim,nL] at *);omega)) (aI (fun n1=>(by intros;(try subst_vars);(try simp only [nB] at *);(try simp only [inK,big,lim,nL] at *);omega)) (aI (fun n2=>(by intros;(try subst_vars);(try simp only [nB] at *);(try simp only [inK,big,lim,nL] at *);omega)) (aI (fun n3=>tT) (aI (fun n4=>(aF (aO (aO (aO (aO (aO (aI ?_ (aO ?_))))))))) (fun n4=>(aO ?_))))))))
  ·obtain ⟨k,k1,k2,k3,k4⟩:=hb n4
   have hl:(f.set z.toNat (f.getD (z - 1).toNat (Ab tE))).length=d.length:=by rw [List.length_set];exact hf
   exact ⟨by show 0≤z - 1;omega,by show z - 1 < ((f.set z.toNat (f.getD (z - 1).toNat (Ab tE))).length:Int);omega⟩
  ·obtain ⟨k,k1,k2,k3,k4⟩:=hb n4
   clear n4
   refine eI ((z - 1,k,(f.set z.toNat (f.getD (z - 1).toNat (Ab tE))).set (z - 1).toNat (f.getD z.toNat (Ab tE)))) (eI ([some 0]) (aI ?_ (aI ?_ (aB (aI (aA tT) (by rfl))))))
   ·exact ⟨k2,by show k≤i;omega,by rw [List.length_set,List.length_set];exact hf,k4⟩
   ·show k < j
    omega
  ·have hc:=hc n4
   clear n4
   refine eI ((i+1,f)) (eI ([some 0]) (aI ?_ (aI ?_ (aB (aI (aA tT) (by rfl))))))
   ·exact ⟨by show 1≤i+1;omega,hf,by rw [← hs,hi1,hc]⟩
   ·show d.length - (i+1) < d.length - i
    omega
 ·have:d.length - i=0:=by have:¬ (i:Int) < d.length:=of_decide_eq_false m0;omega
  rw [← hs,this,Sy]
  exact ⟨[some 0],by rfl,by rfl,⟨by rfl,trivial⟩,by rfl⟩
theorem Apv {b:Bool} (h:(!b)=true):b=false:=by cases b <;> trivial
theorem Apw {b:Bool} (h:(!b)=false):b=true:=by cases b <;> trivial
theorem orT {a b:Prop} [Decidable a] [Decidable b] (h:(bif decide a then true else decide b)=true):a∨b:=by
 by_cases h1:a
 ·exact .inl h1
 ·rw [decide_eq_false h1] at h
  exact .inr (of_decide_eq_true h)
def Ui (n:Int) (l:List EdgT):Prop:=(0≤n∧n≤16∧l.length≤16)∧(∀ k:Nat,k < l.length→(0≤(l.getD k (0,0)).1∧(l.getD k (0,0)).1 < n)∧0≤(l.getD k (0,0)).2∧(l.getD k (0,0)).2 < n) ∧
 ∀ k:Nat,k+1 < l.length→(l.getD k (0,0)).1 < (l.getD (k+1) (0,0)).1∨(l.getD k (0,0)).1=(l.getD (k+1) (0,0)).1∧(l.getD k (0,0)).2 < (l.getD (k+1) (0,0)).2
def Uj (a b:EdgT):Int:=if a.1≠b.1 then a.1 - b.1 else a.2 - b.2
def cLess:Ctr:=fnC [dE,dE] rI (fun y=>(0≤y.1.1∧y.1.1≤16)∧(0≤y.1.2∧y.1.2≤16)∧(0≤y.2.1.1∧y.2.1.1≤16)∧0≤y.2.1.2∧y.2.1.2≤16) (fun y=>(Uj y.1 y.2.1,()))
theorem Aoa:GoodC Tryz.prog 257 cLess:=by
 refine Ap Dw 3 _ _ _ _ ⟨_,Tryz.func257,rfl,rfl⟩ fun (⟨⟨a1,a2⟩,⟨b1,b2⟩,_⟩ : EdgT × EdgT × Unit) hn=>?_
 replace hn:(0≤a1∧a1≤16)∧(0≤a2∧a2≤16)∧(0≤b1∧b1≤16)∧0≤b2∧b2≤16:=hn
 refine (aF (aI (fun h0=>(aO (Aa rfl ?_))) (fun h0=>(aO (Aa rfl ?_)))))
 ·have h:Uj (a1,a2) (b1,b2)=a1 - b1:=if_pos (of_decide_eq_false (Apv h0))
  exact congrArg (fun b=>(b,())) h
 ·have h:Uj (a1,a2) (b1,b2)=a2 - b2:=if_neg (fun h=>h (of_decide_eq_true (Apw h0)))
  exact congrArg (fun b=>(b,())) h
def cxE3:Ctx:=⟨Ad0,[(257,([],cLess))]⟩
theorem Ad2:Ah Tryz.prog cxE3:=Ae Aoa Dw
def cDgC:Ctr:=fnC [dI,.dat false (.sl tE)] rI (fun y=>Ui y.1 y.2.1) (fun _=>(0,()))
theorem Apx:GoodC Tryz.prog 236 cDgC:=by
 refine Ap Ad2 3 _ _ _ _ ⟨_,Tryz.func236,rfl,rfl⟩ fun (⟨n,l,_⟩ : Int × List EdgT × Unit) hg=>?_
 replace hg:Ui n l:=hg
 have hb:=hg.1
 refine (aF (aI (fun h0=>(Aa rfl ?_)) (fun h0=>(fun h1=>(aI (fun (h2:decide ((2000:Int) < (↑l.length:Int))=true)=>absurd (of_decide_eq_true h2) (by omega)) (fun h2=>(fun h3=>?_)))))))
 ·have:=orT h0
  omega
 clear h0
 refine ex4 _ (fun i:Nat=>⟨[.int .i64 n,.sl tE l,.any,.any,.any,.any,.any,.any,.any,.any,.any,.any,.any,.any,.any,.any,.sl tE l,.int .i64 (↑l.length:Int),.int .i64 (i:Int)]++nA 37,[],0⟩) (fun i=>i≤l.length) (fun i=>l.length - i) (aI (eI (0) (eI ([]) (aI ?_ (aB (aI tT (by rfl)))))) ?_)
 ·exact Nat.zero_le _
 rintro i hi
 replace hi:i≤l.length:=hi
 have hr:decide ((i:Int) < (l.length:Int))=true→i < l.length∧(0≤(l.getD (i:Int).toNat (Ab tE)).1∧(l.getD (i:Int).toNat (Ab tE)).1 < n)∧0≤(l.getD (i:Int).toNat (Ab tE)).2∧(l.getD (i:Int).toNat (Ab tE)).2 < n:=fun h=>by
  have hi':i < l.length:=by have:=of_decide_eq_true h;omega
  exact ⟨hi',hg.2.1 i hi'⟩
 have hp:decide ((i:Int) < (l.length:Int))=true→0 < (i:Int)→((0≤(l.getD ((i:Int) - 1).toNat (Ab tE)).1∧(l.getD ((i:Int) - 1).toNat (Ab tE)).1≤16)∧(0≤(l.getD ((i:Int) - 1).toNat (Ab tE)).2∧(l.getD ((i:Int) - 1).toNat (Ab tE)).2≤16)∧(0≤(l.getD (i:Int).toNat (Ab tE)).1∧(l.getD (i:Int).toNat (Ab tE)).1≤16)∧0≤(l.getD (i:Int).toNat (Ab tE)).2∧(l.getD (i:Int).toNat (Ab tE)).2≤16) ∧
  Uj (l.getD ((i:Int) - 1).toNat (Ab tE)) (l.getD (i:Int).toNat (Ab tE)) < 0:=fun h h1=>by
  obtain ⟨hi',hx⟩:=hr h
  obtain ⟨j,rfl⟩ : ∃ j,i=j+1:=⟨i - 1,by omega⟩
  have e1:(((j+1:Nat):Int) - 1).toNat=j:=by omega
  rw [e1]
  have hy:=hg.2.1 j (by omega)
  have ho:(l.getD j (Ab tE)).1 < (l.getD ((j+1:Nat):Int).toNat (Ab tE)).1∨(l.getD j (Ab tE)).1=(l.getD ((j+1:Nat):Int).toNat (Ab tE)).1∧(l.getD j (Ab tE)).2 < (l.getD ((j+1:Nat):Int).toNat (Ab tE)).2:=hg.2.2 j hi'
  replace hy:(0≤(l.getD j (Ab tE)).1∧(l.getD j (Ab tE)).1 < n)∧0≤(l.getD j (Ab tE)).2∧(l.getD j (Ab tE)).2 < n:=hy
  refine ⟨by omega, ?_⟩
  unfold Uj
  split <;> omega
 refine (aI (fun k0=>(aO (aI (fun k1=>(Aa rfl ?_)) (fun k1=>(aF (aI (fun k2=>(by intros;(try subst_vars);(try simp only [nB] at *);(try simp only [inK,big,lim,nL] at *);omega)) (aI (fun k3=>(by intros;(try subst_vars);(try simp only [nB] at *);(try simp only [inK,big,lim,nL] at *);omega)) (aI (fun k4=>?_) (aI (fun k5=>(Aa rfl ?_)) (fun k5=>(aO ?_))))))))))) (fun k0=>(Aa rfl ?_)))
 ·obtain ⟨-,q1,q2⟩:=hr k0
  rw [decide_eq_false (Int.not_lt.2 q1.1),decide_eq_false (Int.not_le.2 q1.2),decide_eq_false (Int.not_lt.2 q2.1),decide_eq_false (Int.not_le.2 q2.2)] at k1
  cases k1
 ·exact (hp k0 (of_decide_eq_true k4)).1
 ·by_cases hi0:0 < (i:Int)
  ·have:=(hp k0 hi0).2
   rw [decide_eq_true hi0] at k5
   have k5:0≤Uj (l.getD ((i:Int) - 1).toNat (Ab tE)) (l.getD (i:Int).toNat (Ab tE)):=of_decide_eq_true k5
   omega
  ·rw [decide_eq_false hi0] at k5
   cases k5
 ·have hi':=(hr k0).1
  clear k0 k1 k5
  refine eI (i+1) (eI ([]) (aI ?_ (aI ?_ (aB (aI tT (by rfl))))))
  ·exact hi'
  ·show l.length - (i+1) < l.length - i
   omega
 rfl
def B0:List Int→Int→Nat→Int
 | [],_,_=>-1
 | a :: l,v,k=>if v=a then k else B0 l v (k+1)
def cIndex:Ctr:=fnC [dIs,dI] rI (fun _=>True) (fun y=>(B0 y.1 y.2.1 0,()))
theorem Ahz {l:List Int} {i:Nat} (v:Int) (h:i < l.length):B0 (l.drop i) v i=if v=l.getD i 0 then (i:Int) else B0 (l.drop (i+1)) v (i+1):=by
 rw [List.drop_eq_getElem_cons h,B0]
 simp [List.getD_eq_getElem?_getD,List.getElem?_eq_getElem h]
theorem Amv:GoodC Tryz.prog 182 cIndex:=by
 refine Ap Dw 3 _ _ _ _ ⟨_,Tryz.func182,rfl,rfl⟩ fun (⟨l,v,_⟩ : List Int × Int × Unit) _=>?_
 refine (aF (fun h0=>?_))
 refine ex4 _ (fun i:Nat=>⟨[.sl (.int .i64) l,.int .i64 v,.any,.any,.any,.any,.sl (.int .i64) l,.int .i64 (↑l.length:Int),.int .i64 (i:Int),.any,.any,.any,.any,.any,.any,.any,.any,.any,.any],[],0⟩) (fun i=>i≤l.length∧B0 l v 0=B0 (l.drop i) v i) (fun i=>l.length - i) (aI (eI (0) (eI ([]) (aI ?_ (aB (aI tT (by rfl)))))) ?_)
 ·exact ⟨Nat.zero_le _,rfl⟩
 rintro i ⟨hi,hd⟩
 replace hi:i≤l.length:=hi
 replace hd:B0 l v 0=B0 (l.drop i) v i:=hd
 have hs:decide ((i:Int) < (l.length:Int))=true→B0 l v 0=if v=l.getD (i:Int).toNat (Ab (.int .i64)) then (i:Int) else B0 (l.drop (i+1)) v (i+1):=fun h=>hd.trans (Ahz v (by have:=of_decide_eq_true h;omega))
 refine (aI (fun k0=>(aO (aI (fun k1=>(Aa rfl ?_)) (fun k1=>(aO ?_))))) (fun k0=>(Aa rfl ?_)))
 ·exact congrArg (fun b=>(b,())) ((hs k0).trans (if_pos (of_decide_eq_true k1)))
 ·have hs':=(hs k0).trans (if_neg (of_decide_eq_false k1))
  have hi':i < l.length:=by have:=of_decide_eq_true k0;omega
  clear k0 k1
  refine eI (i+1) (eI ([]) (aI ?_ (aI ?_ (aB (aI tT (by rfl))))))
  ·exact ⟨hi',hs'⟩
  ·show l.length - (i+1) < l.length - i
   omega
 ·have hi':i=l.length:=by have:=of_decide_eq_false k0;omega
  rw [hd,hi',List.drop_length];rfl
def Bm (l:List EdgT) (u:Nat):List Int:=(l.filter fun e=>e.1 == (u:Int)).map Prod.snd
def J3 (o:List Int) (v:Int):List Int:=o.set v.toNat (o.getD v.toNat 0 - 1)
def L3 (o:List Int) (e:EdgT):List Int:=o.set e.2.toNat (o.getD e.2.toNat 0+1)
def L4 (l:List EdgT):Nat→List Int→List Int→List Int × Int
 | 0,_,out=>(out,0)
 | k+1,o,out=>if B0 o 0 0 < 0 then ([],21) else L4 l k ((Bm l (B0 o 0 0).toNat).foldl J3 (o.set (B0 o 0 0).toNat (-1))) (out++[B0 o 0 0])
def Uk (n:Nat) (l:List EdgT):List Int × Int:=L4 l n (l.foldl L3 (List.replicate n 0)) []
def Apy:List (TypeId × Ty):=(3000031,tI) :: Ad0
end Go.Proofs.YtckpldpombdkgaaGreat
