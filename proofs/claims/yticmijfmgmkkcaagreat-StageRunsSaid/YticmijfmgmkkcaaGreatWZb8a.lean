import Derived.Test.YticmijfmgmkkcaaGreatWZc11
set_option linter.unusedSimpArgs false
set_option linter.unusedVariables false
set_option maxRecDepth 100000
namespace Go.Proofs.YticmijfmgmkkcaaGreat
open Go.Sx
def AddS0 (sem:CallSem):Prop:=∀ (k z ek eo ev c:Int) (em:ByteArray) (ea:List ExprT) (l h A:List Int) (b:Bool) (L:List (List Int)) (K:AV→List Ob→Nat→Prop),L.length=0→(True) →
 K (.bool true) [.cells [.int .i64 k,.int .i64 z,.int .i64 ek,.int .i64 eo,.str em,.int .i64 ev,.sl .expr ea,.sl tI l],.cells [.int .i64 k,.int .i64 z,.int .i64 ek,.int .i64 eo,.str em,.int .i64 ev,.sl .expr ea,.sl tI l],.cells [.cap0,.int .i64 0,.bool false],.cells [.sl tI h,.int .i64 c,.bool b],.cells [],.cells [.csl tI 4 0],.rows tI A] 7 →
 sem 62 [.sl (.sl tI) L,.ptr 5 0] [.cells [.int .i64 k,.int .i64 z,.int .i64 ek,.int .i64 eo,.str em,.int .i64 ev,.sl .expr ea,.sl tI l],.cells [.int .i64 k,.int .i64 z,.int .i64 ek,.int .i64 eo,.str em,.int .i64 ev,.sl .expr ea,.sl tI l],.cells [.cap0,.int .i64 0,.bool false],.cells [.sl tI h,.int .i64 c,.bool b],.cells [],.cells [.csl tI 4 0],.rows tI A] 7 K
theorem add0:AddS0 (callN cxQ8 Tryz.prog 1):=by
 intro k z ek eo ev c em ea l h A b L K hL hr hK
 refine (aI (by first | kernel_rfl | rfl) (fun h0=>(aI (fun h1=>?_) (fun h1=>(fun h2=>?_)))))
 ·exact absurd h1 (by rw [hL];decide)
 refine ex4 _ (fun i:Nat=>⟨[.sl tI.sl L,.ptr 5 0,.any,.any,.any,.any,.any,.any,.any,.any,.sl tI.sl L,.int .i64 (↑L.length:Int),.int .i64 (i:Int),.any,.any,.any,.any,.any,.any,.any,.any,.any,.any,.any,.any,.any,.any,.any],[.cells   [.int .i64 k,.int .i64 z,.int .i64 ek,.int .i64 eo,.str em,     .int .i64 ev,.sl .expr ea,.sl tI l],.cells   [.int .i64 k,.int .i64 z,.int .i64 ek,.int .i64 eo,.str em,     .int .i64 ev,.sl .expr ea,.sl tI l],.cells [.cap0,.int .i64 0,.bool false],.cells [.sl tI h,.int .i64 c,.bool b],.cells [],.cells [.csl tI 4 0],.rows tI A],7⟩) (fun i=>i=0) (fun i=>0) (aI (Exists.intro (0) (Exists.intro ([some 0,some 1,some 2,some 3,some 4,some 5,some 6]) (aI ?_ (aI (by rfl) (aI (by rfl) (aI (aI (aI (by rfl) (by rfl)) (aI (aI (by rfl) (by rfl)) (aI (aI (by rfl) (by rfl)) (aI (aI (by rfl) (by rfl)) (aI (aI (by rfl) (by rfl)) (aI (aI (by rfl) (by rfl)) (aI (by rfl) True.intro))))))) (by rfl))))))) ?_)
 ·rfl
 intro i hi
 subst hi
 refine (aI (fun (w0:decide ((↑(0:Nat):Int) < (↑L.length:Int))=true)=>absurd (of_decide_eq_true w0) (by omega)) (fun w0=>?_))
 exact hK
def AddS1 (sem:CallSem):Prop:=∀ (k z ek eo ev c:Int) (em:ByteArray) (ea:List ExprT) (l h A o:List Int) (b:Bool) (L:List (List Int)) (K:AV→List Ob→Nat→Prop),L.length=1→(o.length+(L.getD 0 []).length≤1000) →
 K (.bool true) [.cells [.int .i64 k,.int .i64 z,.int .i64 ek,.int .i64 eo,.str em,.int .i64 ev,.sl .expr ea,.sl tI l],.cells [.int .i64 k,.int .i64 z,.int .i64 ek,.int .i64 eo,.str em,.int .i64 ev,.sl .expr ea,.sl tI l],.cells [.cap0,.int .i64 0,.bool false],.cells [.sl tI h,.int .i64 c,.bool b],.cells [.own 8],.cells [.csl tI 4 1],.rows tI A,.dead,.rows tI (o++L.getD 0 [])] 9 →
 sem 62 [.sl (.sl tI) L,.ptr 5 0] [.cells [.int .i64 k,.int .i64 z,.int .i64 ek,.int .i64 eo,.str em,.int .i64 ev,.sl .expr ea,.sl tI l],.cells [.int .i64 k,.int .i64 z,.int .i64 ek,.int .i64 eo,.str em,.int .i64 ev,.sl .expr ea,.sl tI l],.cells [.cap0,.int .i64 0,.bool false],.cells [.sl tI h,.int .i64 c,.bool b],.cells [.own 7],.cells [.csl tI 4 1],.rows tI A,.rows tI o] 8 K
theorem add1:AddS1 (callN cxQ8 Tryz.prog 1):=by
 intro k z ek eo ev c em ea l h A o b L K hL hr hK
 refine (aI (by first | kernel_rfl | rfl) (fun h0=>(aI (fun h1=>?_) (fun h1=>(fun h2=>?_)))))
 ·exact absurd h1 (by rw [hL];decide)
 refine ex4 _ (fun p:Nat × List Int=>⟨[.sl tI.sl L,.ptr 5 0,.any,.any,.any,.any,.any,.any,.any,.any,.sl tI.sl L,.int .i64 (↑L.length:Int),.int .i64 (p.1:Int),.any,.any,.any,.any,.any,.any,.any,.any,.any,.any,.any,.any,.any,.any,.any],[.cells   [.int .i64 k,.int .i64 z,.int .i64 ek,.int .i64 eo,.str em,     .int .i64 ev,.sl .expr ea,.sl tI l],.cells   [.int .i64 k,.int .i64 z,.int .i64 ek,.int .i64 eo,.str em,     .int .i64 ev,.sl .expr ea,.sl tI l],.cells [.cap0,.int .i64 0,.bool false],.cells [.sl tI h,.int .i64 c,.bool b],.cells [.own 8],.cells [.csl tI 4 1],.rows tI A,.dead,.rows tI p.2],9⟩) (fun p=>(p.1=0∧p.2=o)∨(p.1=1∧p.2=o++L.getD 0 [])) (fun p=>1 - p.1) (aI (Exists.intro ((0,o)) (Exists.intro ([some 0,some 1,some 2,some 3,some 4,some 5,some 6,some 7,some 7]) (aI ?_ (aI (by rfl) (aI (by rfl) (aI (aI (aI (by rfl) (by rfl)) (aI (aI (by rfl) (by rfl)) (aI (aI (by rfl) (by rfl)) (aI (aI (by rfl) (by rfl)) (aI (aI (by rfl) (by rfl)) (aI (aI (by rfl) (by rfl)) (aI (by rfl) (aI (by rfl) True.intro)))))))) (by rfl))))))) ?_)
 ·exact .inl ⟨rfl,rfl⟩
 rintro ⟨i,u⟩ (⟨hi,hu⟩ | ⟨hi,hu⟩)
 ·replace hi:i=0:=hi
  replace hu:u=o:=hu
  subst hi
  subst hu
  have room:(u.length+(L.getD 0 []).length) * 8≤lim:=by simp only [lim];omega
  refine (aI (fun w0=>(aI (by kernel_rfl) (aI (by omega) (aI (by omega) (aI (by rfl) (aI (by rfl) (aI (by rfl) (aI (by rfl) (aI (by omega) (aI (by rfl) (aI (by rfl) (aI (by rfl) (aI (by rfl) (aI (by omega) (aI (by rfl) (aI (by rfl) (aI (room) (aI (by omega) (aI (by omega) (aI (by rfl) (aI (by rfl) (aI (by rfl) (aI (by (intros;(try subst_vars);(try simp only [nB] at *);(try simp only [inK,big,lim,nL] at *);omega)) ?_))))))))))))))))))))))) (fun (w0:decide ((↑(0:Nat):Int) < (↑L.length:Int))=false)=>absurd (by omega) (of_decide_eq_false w0)))
  ·refine Exists.intro ((1,u++L.getD 0 [])) (Exists.intro ([some 0,some 1,some 2,some 3,some 4,some 5,some 6,some 7,some 9]) (aI ?_ (aI ?_ (aI (by rfl) (aI (by rfl) (aI (aI (aI (by rfl) (by rfl)) (aI (aI (by rfl) (by rfl)) (aI (aI (by rfl) (by rfl)) (aI (aI (by rfl) (by rfl)) (aI (aI (by rfl) (by rfl)) (aI (aI (by rfl) (by rfl)) (aI (by rfl) (aI (by rfl) True.intro)))))))) (by rfl)))))))
   ·exact .inr ⟨rfl,rfl⟩
   ·show 1 - 1 < 1 - 0
    decide
 ·replace hi:i=1:=hi
  replace hu:u=o++L.getD 0 []:=hu
  subst hi
  subst hu
  refine (aI (fun (w0:decide ((↑(1:Nat):Int) < (↑L.length:Int))=true)=>absurd (of_decide_eq_true w0) (by omega)) (fun w0=>?_))
  exact hK
def AddS2 (sem:CallSem):Prop:=∀ (k z ek eo ev c:Int) (em:ByteArray) (ea:List ExprT) (l h A o q:List Int) (b:Bool) (L:List (List Int)) (K:AV→List Ob→Nat→Prop),L.length=2→(o.length+(L.getD 0 []).length≤1000∧q.length+(L.getD 1 []).length≤1000) →
 K (.bool true) [.cells [.int .i64 k,.int .i64 z,.int .i64 ek,.int .i64 eo,.str em,.int .i64 ev,.sl .expr ea,.sl tI l],.cells [.int .i64 k,.int .i64 z,.int .i64 ek,.int .i64 eo,.str em,.int .i64 ev,.sl .expr ea,.sl tI l],.cells [.cap0,.int .i64 0,.bool false],.cells [.sl tI h,.int .i64 c,.bool b],.cells [.own 9,.own 10],.cells [.csl tI 4 2],.rows tI A,.dead,.dead,.rows tI (o++L.getD 0 []),.rows tI (q++L.getD 1 [])] 11 →
 sem 62 [.sl (.sl tI) L,.ptr 5 0] [.cells [.int .i64 k,.int .i64 z,.int .i64 ek,.int .i64 eo,.str em,.int .i64 ev,.sl .expr ea,.sl tI l],.cells [.int .i64 k,.int .i64 z,.int .i64 ek,.int .i64 eo,.str em,.int .i64 ev,.sl .expr ea,.sl tI l],.cells [.cap0,.int .i64 0,.bool false],.cells [.sl tI h,.int .i64 c,.bool b],.cells [.own 7,.own 8],.cells [.csl tI 4 2],.rows tI A,.rows tI o,.rows tI q] 9 K
theorem add2:AddS2 (callN cxQ8 Tryz.prog 1):=by
 intro k z ek eo ev c em ea l h A o q b L K hL hr hK
 refine (aI (by first | kernel_rfl | rfl) (fun h0=>(aI (fun h1=>?_) (fun h1=>(fun h2=>?_)))))
 ·exact absurd h1 (by rw [hL];decide)
 refine ex4 _ (fun p:Nat × List Int × List Int=>⟨[.sl tI.sl L,.ptr 5 0,.any,.any,.any,.any,.any,.any,.any,.any,.sl tI.sl L,.int .i64 (↑L.length:Int),.int .i64 (p.1:Int),.any,.any,.any,.any,.any,.any,.any,.any,.any,.any,.any,.any,.any,.any,.any],[.cells   [.int .i64 k,.int .i64 z,.int .i64 ek,.int .i64 eo,.str em,     .int .i64 ev,.sl .expr ea,.sl tI l],.cells   [.int .i64 k,.int .i64 z,.int .i64 ek,.int .i64 eo,.str em,     .int .i64 ev,.sl .expr ea,.sl tI l],.cells [.cap0,.int .i64 0,.bool false],.cells [.sl tI h,.int .i64 c,.bool b],.cells [.own 9,.own 10],.cells [.csl tI 4 2],.rows tI A,.dead,.dead,.rows tI p.2.1,.rows tI p.2.2],11⟩) (fun p=>(p.1=0∧p.2.1=o∧p.2.2=q)∨(p.1=1∧p.2.1=o++L.getD 0 []∧p.2.2=q)∨(p.1=2∧p.2.1=o++L.getD 0 []∧p.2.2=q++L.getD 1 [])) (fun p=>2 - p.1) (aI (Exists.intro ((0,o,q)) (Exists.intro ([some 0,some 1,some 2,some 3,some 4,some 5,some 6,some 7,some 8,some 7,some 8]) (aI ?_ (aI (by rfl) (aI (by rfl) (aI (aI (aI (by rfl) (by rfl)) (aI (aI (by rfl) (by rfl)) (aI (aI (by rfl) (by rfl)) (aI (aI (by rfl) (by rfl)) (aI (aI (by rfl) (by rfl)) (aI (aI (by rfl) (by rfl)) (aI (by rfl) (aI (by rfl) (aI (by rfl) True.intro))))))))) (by rfl))))))) ?_)
 ·exact .inl ⟨rfl,rfl,rfl⟩
 rintro ⟨i,u,v⟩ (⟨hi,hu,hv⟩ | ⟨hi,hu,hv⟩ | ⟨hi,hu,hv⟩)
 ·replace hi:i=0:=hi
  replace hu:u=o:=hu
  replace hv:v=q:=hv
  subst hi
  subst hu
  subst hv
  have room:(u.length+(L.getD 0 []).length) * 8≤lim:=by simp only [lim];omega
  refine (aI (fun w0=>(aI (by kernel_rfl) (aI (by omega) (aI (by omega) (aI (by rfl) (aI (by rfl) (aI (by rfl) (aI (by rfl) (aI (by omega) (aI (by rfl) (aI (by rfl) (aI (by rfl) (aI (by rfl) (aI (by omega) (aI (by rfl) (aI (by rfl) (aI (room) (aI (by omega) (aI (by omega) (aI (by rfl) (aI (by rfl) (aI (by rfl) (aI (by (intros;(try subst_vars);(try simp only [nB] at *);(try simp only [inK,big,lim,nL] at *);omega)) ?_))))))))))))))))))))))) (fun (w0:decide ((↑(0:Nat):Int) < (↑L.length:Int))=false)=>absurd (by omega) (of_decide_eq_false w0)))
  ·refine Exists.intro ((1,u++L.getD 0 [],v)) (Exists.intro ([some 0,some 1,some 2,some 3,some 4,some 5,some 6,some 7,some 8,some 11,some 10]) (aI ?_ (aI ?_ (aI (by rfl) (aI (by rfl) (aI (aI (aI (by rfl) (by rfl)) (aI (aI (by rfl) (by rfl)) (aI (aI (by rfl) (by rfl)) (aI (aI (by rfl) (by rfl)) (aI (aI (by rfl) (by rfl)) (aI (aI (by rfl) (by rfl)) (aI (by rfl) (aI (by rfl) (aI (by rfl) True.intro))))))))) (by rfl)))))))
   ·exact .inr (.inl ⟨rfl,rfl,rfl⟩)
   ·show 2 - 1 < 2 - 0
    decide
 ·replace hi:i=1:=hi
  replace hu:u=o++L.getD 0 []:=hu
  replace hv:v=q:=hv
  subst hi
  subst hu
  subst hv
  have room:(v.length+(L.getD 1 []).length) * 8≤lim:=by simp only [lim];omega
  refine (aI (fun w0=>(aI (by kernel_rfl) (aI (by omega) (aI (by omega) (aI (by rfl) (aI (by rfl) (aI (by rfl) (aI (by rfl) (aI (by omega) (aI (by rfl) (aI (by rfl) (aI (by rfl) (aI (by rfl) (aI (by omega) (aI (by rfl) (aI (by rfl) (aI (room) (aI (by omega) (aI (by omega) (aI (by rfl) (aI (by rfl) (aI (by rfl) (aI (by (intros;(try subst_vars);(try simp only [nB] at *);(try simp only [inK,big,lim,nL] at *);omega)) ?_))))))))))))))))))))))) (fun (w0:decide ((↑(1:Nat):Int) < (↑L.length:Int))=false)=>absurd (by omega) (of_decide_eq_false w0)))
  ·refine Exists.intro ((2,o++L.getD 0 [],v++L.getD 1 [])) (Exists.intro ([some 0,some 1,some 2,some 3,some 4,some 5,some 6,some 7,some 8,some 9,some 11]) (aI ?_ (aI ?_ (aI (by rfl) (aI (by rfl) (aI (aI (aI (by rfl) (by rfl)) (aI (aI (by rfl) (by rfl)) (aI (aI (by rfl) (by rfl)) (aI (aI (by rfl) (by rfl)) (aI (aI (by rfl) (by rfl)) (aI (aI (by rfl) (by rfl)) (aI (by rfl) (aI (by rfl) (aI (by rfl) True.intro))))))))) (by rfl)))))))
   ·exact .inr (.inr ⟨rfl,rfl,rfl⟩)
   ·show 2 - 2 < 2 - 1
    decide
 ·replace hi:i=2:=hi
  replace hu:u=o++L.getD 0 []:=hu
  replace hv:v=q++L.getD 1 []:=hv
  subst hi
  subst hu
  subst hv
  refine (aI (fun (w0:decide ((↑(2:Nat):Int) < (↑L.length:Int))=true)=>absurd (of_decide_eq_true w0) (by omega)) (fun w0=>?_))
  exact hK
end Go.Proofs.YticmijfmgmkkcaaGreat
