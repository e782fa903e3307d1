import Derived.Test.YticmijfmgmkkcaaGreatVZa5
set_option linter.unusedSimpArgs false
set_option linter.unusedVariables false
set_option maxRecDepth 100000
namespace Go.Proofs.YticmijfmgmkkcaaGreat
open Go.Sx
theorem one_01 (b:Bool):one b=0∨one b=1:=by cases b <;> simp [one]
theorem opF_bool {o a b:Int} (hk:opKnown o=true) (h:opRes o=2):(opF o a b).1=0∨(opF o a b).1=1:=by
 by_cases h8:o=8
 ·subst h8;exact one_01 _
 by_cases h9:o=9
 ·subst h9;exact one_01 _
 by_cases h10:o=10
 ·subst h10;exact one_01 _
 by_cases h11:o=11
 ·subst h11;exact one_01 _
 by_cases h12:o=12
 ·subst h12;exact one_01 _
 by_cases h13:o=13
 ·subst h13;exact one_01 _
 by_cases h14:o=14
 ·subst h14;exact one_01 _
 by_cases h15:o=15
 ·subst h15;exact one_01 _
 exfalso
 have hq:∀ q:Int,lookD o 0 [(3,1),(4,1),(5,1),(6,1),(7,1),(8,2),(9,2),(10,2),(11,2),(12,2),(13,2),(14,2),(15,2)]=q→q=0∨q=1:=by
  intro q hq
  simp only [lookD,if_neg h8,if_neg h9,if_neg h10,if_neg h11,if_neg h12,if_neg h13,if_neg h14,if_neg h15] at hq
  rw [← hq]
  repeat' split
  all_goals first | exact .inl rfl | exact .inr rfl
 rcases hq 2 h with h | h <;> exact absurd h (by decide)
theorem clip_01 {r:Int × Int} (h:r.1=0∨r.1=1):(clip r).1=0∨(clip r).1=1:=by
 unfold clip
 split
 ·exact .inl rfl
 ·split
  ·exact .inl rfl
  ·exact h
theorem typL_get (l:List Bd):∀ (args:List ExprT) (i:Nat) (e0:ExprT),(typL l args).2=0→i < args.length→(typF l (args.getD i e0)).2=0∧(typL l args).1.getD i 0=(typF l (args.getD i e0)).1
 | [],i,e0,_,h=>absurd h (Nat.not_lt_zero _)
 | e :: r,0,e0,h,_=>by
  simp only [typL] at h ⊢
  split at h
  ·rename_i hc;rw [if_pos hc];exact ⟨hc,rfl⟩
  ·rename_i hc;exact absurd h hc
 | e :: r,i+1,e0,h,hi=>by
  simp only [typL] at h ⊢
  split at h
  ·rename_i hc
   rw [if_pos hc]
   have:=typL_get l r i e0 h (by simpa using hi)
   simpa using this
  ·rename_i hc;exact absurd h hc
theorem valL_get (l:List Bd):∀ (args:List ExprT) (i:Nat) (e0:ExprT),(valL l args).2=0→i < args.length→(valL l args).1.getD i 0=(valF l (args.getD i e0)).1
 | [],i,e0,_,h=>absurd h (Nat.not_lt_zero _)
 | e :: r,0,e0,h,_=>by
  simp only [valL] at h ⊢
  split at h
  ·rename_i hc;rw [if_pos hc];rfl
  ·rename_i hc;exact absurd h hc
 | e :: r,i+1,e0,h,hi=>by
  simp only [valL] at h ⊢
  split at h
  ·rename_i hc
   rw [if_pos hc]
   have:=valL_get l r i e0 h (by simpa using hi)
   simpa using this
  ·rename_i hc;exact absurd h hc
theorem val_bool {l:List Bd} (hl:∀ s,(findB l s).2=true→(findB l s).1.2.1=1):∀ (n:Nat) (e:ExprT),exW e < n→chkT e=0→(typF l e).2=0→(typF l e).1=2→(valF l e).1=0∨(valF l e).1=1
 | 0,e,h,_,_,_=>absurd h (Nat.not_lt_zero _)
 | n+1,e,hn,hc,h0,h2=>by
  obtain ⟨hc1,hc2⟩:=chk_node hc
  obtain ⟨hk,ha,-,-,h3,ho⟩:=node_ok hc1
  rw [typF_eq] at h0 h2
  rw [valF_eq]
  split at h0
  ·rename_i ht
   rw [if_pos ht] at h2
   split
   ·rename_i hv
    refine clip_01 ?_
    unfold typN at h0 h2
    unfold valR
    by_cases k1:e.kind=1
    ·rw [if_pos k1] at h2;exact absurd h2 (by decide)
    ·rw [if_neg k1] at h0 h2
     rw [if_neg k1]
     by_cases k2:e.kind=2
     ·rw [if_pos k2] at h0 h2
      by_cases hf:(findB l e.name).2=true
      ·rw [if_pos hf] at h2
       have:=hl _ hf
       rw [this] at h2;exact absurd h2 (by decide)
      ·rw [if_neg hf] at h0;exact absurd h0 (by decide)
     ·rw [if_neg k2] at h0 h2
      rw [if_neg k2]
      by_cases k3:e.kind=3
      ·rw [if_pos k3] at h0 h2
       rw [if_pos k3]
       rw [k3] at ha
       simp at ha
       have hlen:0 < e.args.length:=by omega
       by_cases o2:e.op=2
       ·rw [if_pos o2] at h0 h2
        rw [if_pos o2]
        by_cases t2:(typL l e.args).1.getD 0 0=2
        ·obtain ⟨g1,g2⟩:=typL_get l e.args 0 (dflt .expr) ht hlen
         have g3:=valL_get l e.args 0 (dflt .expr) hv hlen
         have ih:=val_bool hl n (e.args.getD 0 (dflt .expr)) (Nat.lt_of_lt_of_le (arg_lt hlen) (by omega)) (chk_args _ _ _ hlen hc2) g1 (by rw [← g2];exact t2)
         rw [← g3] at ih
         show 1 - _=(0:Int)∨1 - _=(1:Int)
         omega
        ·rw [if_neg t2] at h0;exact absurd h0 (by decide)
       ·rw [if_neg o2] at h2
        by_cases t1:(typL l e.args).1.getD 0 0=1
        ·rw [if_pos t1] at h2;exact absurd h2 (by decide)
        ·rw [if_neg t1] at h2;exact absurd h2 (by decide)
      ·rw [if_neg k3] at h0 h2
       rw [if_neg k3]
       by_cases hb:(typL l e.args).1.getD 0 0≠(typL l e.args).1.getD 1 0∨(opArg e.op≠0∧(typL l e.args).1.getD 0 0≠opArg e.op)
       ·rw [if_pos hb] at h0;exact absurd h0 (by decide)
       ·rw [if_neg hb] at h2
        exact opF_bool (ho (by omega)) h2
   ·exact .inl rfl
  ·rename_i ht;exact absurd h0 ht
theorem find_x (a b:Int) (s:ByteArray):findB (bindF nmX [a,b]) s=if (⟨#[120]⟩ : ByteArray)=s then ((⟨#[120]⟩,1,a),true) else ((⟨#[]⟩,0,0),false):=by
 unfold findB bindF nmX
 by_cases h:(⟨#[120]⟩ : ByteArray)=s
 ·simp [firstAt,isNm,h,bindF]
 ·simp [firstAt,isNm,h,bindF]
theorem find_xy (a b:Int) (s:ByteArray):findB (bindF nmXY [a,b]) s=if (⟨#[120]⟩ : ByteArray)=s then ((⟨#[120]⟩,1,a),true) else if (⟨#[121]⟩ : ByteArray)=s then ((⟨#[121]⟩,1,b),true) else ((⟨#[]⟩,0,0),false):=by
 unfold findB bindF nmXY
 by_cases h:(⟨#[120]⟩ : ByteArray)=s
 ·simp [firstAt,isNm,h,bindF]
 ·by_cases h':(⟨#[121]⟩ : ByteArray)=s
  ·simp [firstAt,isNm,h,h',bindF]
  ·simp [firstAt,isNm,h,h',bindF]
def sameT (l m:List Bd):Prop:=∀ s,(findB l s).2=(findB m s).2∧(findB l s).1.2.1=(findB m s).1.2.1
theorem typN_cg {l m:List Bd} (h:sameT l m) (e:ExprT) (ts:List Int):typN l e ts=typN m e ts:=by
 unfold typN
 rw [(h e.name).1,(h e.name).2]
mutual
theorem typF_cg {l m:List Bd} (h:sameT l m):∀ e,typF l e=typF m e
 | .mk k o nm v args=>by
  simp only [typF]
  rw [typL_cg h args,typN_cg h]
theorem typL_cg {l m:List Bd} (h:sameT l m):∀ args,typL l args=typL m args
 | []=>rfl
 | e :: r=>by
  simp only [typL]
  rw [typF_cg h e,typL_cg h r]
end
theorem same_x (a b c d:Int):sameT (bindF nmX [a,b]) (bindF nmX [c,d]):=fun s=>by
 rw [find_x,find_x];split <;> exact ⟨rfl,rfl⟩
theorem chk_expr {x:StT} (h:stChk x=0) (hk:(knownF x.1).2.2.2.2.1≠0):exType x.2.2.1 (bindF (knownF x.1).2.2.2.2.2.1 [0,0])=((knownF x.1).2.2.2.2.1,0):=by
 have hk1:=chk_kind h
 rw [stChk_in hk1.1 hk1.2] at h
 unfold chkH at h
 split at h
 ·exact absurd h (by decide)
 ·split at h
  ·exact absurd h (by decide)
  ·split at h
   ·exact absurd h (by decide)
   ·split at h
    ·exact absurd h (by decide)
    ·unfold chkX at h
     split at h
     ·rename_i h1;exact absurd h h1
     ·split at h
      ·exact absurd h (by decide)
      ·split at h
       ·exact absurd h (by decide)
       ·rename_i h1
        refine Prod.ext ?_ ?_
        ·exact Classical.byContradiction fun h2=>h1 (.inr h2)
        ·exact Classical.byContradiction fun h2=>h1 (.inl h2)
theorem evB {e:ExprT} (h:exType e (bindF nmX [0,0])=(2,0)) (a b:Int):(evX e nmX a b).1=0∨(evX e nmX a b).1=1:=by
 unfold evX exEval
 split
 ·exact .inl rfl
 ·rename_i h1
  have h1':(exType e (bindF nmX [a,b])).2=0:=Classical.byContradiction h1
  obtain ⟨hc,hb⟩:=typ_ok h1'
  have h2:typF (bindF nmX [0,0]) e=(2,0):=by
   have h3:=h
   unfold exType at h3
   rw [if_neg (by rw [hc];simp)] at h3
   split at h3
   ·exact h3
   ·cases h3
  have h4:typF (bindF nmX [a,b]) e=(2,0):=by rw [typF_cg (same_x a b 0 0)];exact h2
  refine val_bool (fun s hs=>?_) _ e (Nat.lt_succ_self _) (chk_T hc) (by rw [h4]) (by rw [h4])
  rw [find_x] at hs ⊢
  split at hs
  ·rename_i h5;rw [if_pos h5]
  ·cases hs
end Go.Proofs.YticmijfmgmkkcaaGreat
namespace Go.Proofs.YticmijfmgmkkcaaGreat
open Go.Sx
set_option maxHeartbeats 8000000 in
theorem walk13x7:Walk13 7:=by
 intro z e l ins hc hlk
 have hl:ins.length=1:=by have h:(ins.length:Int)=1:=hlk;omega
 have hs:=chk_size hc
 have hty:exType e (bindF nmX [0,0])=(2,0):=chk_expr hc (by show (2:Int)≠0;decide)
 obtain ⟨ek,eo,em,ev,ea⟩:=e
 refine ⟨_,callM7_ok, ?_⟩
 refine (aI (by first | kernel_rfl | rfl) (aI True.intro (aI (fun h0=>(fin_of rfl (by first | exact MN0' (by assumption) | exact MN1' (by assumption) (by assumption)))) (fun h0=>(aI (by rfl) (fun h1=>(aI (fun h2=>(fin_of rfl (by first | exact MN0' (by assumption) | exact MN1' (by assumption) (by assumption)))) (fun h2=>(fun h3=>?_)))))))))
 refine ex4 _ (fun i:Nat=>⟨[.any,.sl (.sl (.int .i64)) ins,.ptr 0 0,.any,.any,.any,.any,.ptr 1 0,.any,.any,.any,.any,.any,.any,.any,.any,.any,.any,.any,.any,.any,.any,.any,.any,.any,.any,.any,.any,.sl (.sl (.int .i64)) ins,.int .i64 (↑ins.length:Int),.int .i64 (i:Int)]++nA 34,[.cells   [.int .i64 7,.int .i64 z,.int .i64 (ExprT.mk ek eo em ev ea).kind,     .int .i64 (ExprT.mk ek eo em ev ea).op,.str (ExprT.mk ek eo em ev ea).name,     .int .i64 (ExprT.mk ek eo em ev ea).value,.sl .expr (ExprT.mk ek eo em ev ea).args,     .sl (.int .i64) l],.cells   [.int .i64 1,.int .i64 2,.int .i64 0,.int .i64 0,.int .i64 2,     .sl .str [{ data:=#[120] }],.fn (Fn.func 102) [] [],.fn (Fn.func 93) [] []]],2⟩) (fun i=>i≤ins.length∧strF ins=strF (ins.drop i)) (fun i=>ins.length - i) (aI (Exists.intro (0) (Exists.intro ([some 0,some 1]) (aI ?_ (aI (by rfl) (aI (by rfl) (aI (aI (aI (by rfl) (by rfl)) (aI (aI (by rfl) (by rfl)) True.intro)) (by rfl))))))) ?_)
 ·exact ⟨Nat.zero_le _,rfl⟩
 rintro i ⟨hi,ht⟩
 have hin:decide ((i:Int) < (ins.length:Int))=false→(!decide (strF ins=0))=false:=fun h=>by
  have hi':¬ i < ins.length:=by simpa using h
  rw [ht,List.drop_of_length_le (by omega)];rfl
 have ix:0 < 1→0≤(0:Int)∧(0:Int) < (ins.length:Int):=fun h=>by rw [hl];omega
 have iy:1 < 1→0≤(1:Int)∧(1:Int) < (ins.length:Int):=fun h=>by rw [hl];omega
 have hst:strF ins=0→∀ j,j < ins.length→(ins.getD j (dflt tIs)).length≤200∧(ins.getD j (dflt tIs)).any notNum=false:=fun h j hj=>strF_get h hj
 refine (aI (fun k0=>(aI (by first | exact ⟨by decide,rfl,by decide,by decide⟩ | exact ix (by decide) | exact iy (by decide) | (intros;(try subst_vars);(try simp only [nB] at *);(try simp only [inK,big,lim,nL] at *);omega)) (fun k1=>(aI (fun k2=>(fin_of rfl ?_)) (fun k2=>(aI True.intro (aI (fun k3=>(fin_of rfl ?_)) (fun k3=>(aI (by first | exact ⟨by decide,rfl,by decide,by decide⟩ | exact ix (by decide) | exact iy (by decide) | (intros;(try subst_vars);(try simp only [nB] at *);(try simp only [inK,big,lim,nL] at *);omega)) ?_))))))))) (fun k0=>(aI (by first | kernel_rfl | rfl) (aI (by rfl) (aI (by first | kernel_rfl | rfl) (aI (by first | exact ⟨by decide,rfl,by decide,by decide⟩ | exact ix (by decide) | exact iy (by decide) | (intros;(try subst_vars);(try simp only [nB] at *);(try simp only [inK,big,lim,nL] at *);omega)) (aI (by first | kernel_rfl | rfl) (aI (fun k4=>nF (by kernel_rfl) k4) (fun k4=>(aI (fun k5=>nF (by kernel_rfl) k5) (fun k5=>(aI (fun k6=>nF (by kernel_rfl) k6) (fun k6=>(aI (by first | exact ⟨by decide,rfl,by decide,by decide⟩ | exact ix (by decide) | exact iy (by decide) | (intros;(try subst_vars);(try simp only [nB] at *);(try simp only [inK,big,lim,nL] at *);omega)) (fun k7=>?_)))))))))))))))
 ·have hi':i < ins.length:=by simpa using k0
  have hk:longB (ins.getD i (dflt tIs))=true:=k2
  have e4:strF ins=4:=by rw [ht,strF_drop hi',if_pos hk]
  exact (MN2' (by assumption) (by assumption) (by rw [e4];rfl)).trans (by rw [e4])
 ·have hi':i < ins.length:=by simpa using k0
  have hk:¬ longB (ins.getD i (dflt tIs))=true:=by have h:longB (ins.getD i (dflt tIs))=false:=k2;rw [h];simp
  have hk2:(ins.getD i (dflt tIs)).any notNum=true:=k3
  have e4:strF ins=2:=by rw [ht,strF_drop hi',if_neg hk,if_pos hk2]
  exact (MN2' (by assumption) (by assumption) (by rw [e4];rfl)).trans (by rw [e4])
 ·have hi':i < ins.length:=by simpa using k0
  have hk:¬ longB (ins.getD i (dflt tIs))=true:=by have h:longB (ins.getD i (dflt tIs))=false:=k2;rw [h];simp
  have hk2:¬ (ins.getD i (dflt tIs)).any notNum=true:=by have h:(ins.getD i (dflt tIs)).any notNum=false:=k3;rw [h];simp
  refine Exists.intro (i+1) (Exists.intro ([some 0,some 1]) (aI ?_ (aI ?_ (aI (by rfl) (aI (by rfl) (aI (aI (aI (by rfl) (by rfl)) (aI (aI (by rfl) (by rfl)) True.intro)) (by rfl)))))))
  ·refine ⟨hi', ?_⟩
   rw [ht,strF_drop hi',if_neg hk,if_neg hk2]
  ·show ins.length - (i+1) < ins.length - i
   omega
 have hs0:=hin k0
 have hstr:strF ins=0:=by simpa using hs0
 obtain ⟨hal,han⟩:=strF_get hstr (show 0 < ins.length by omega)
 replace hal:(ins.getD 0 []).length≤200:=hal
 replace han:(ins.getD 0 []).any notNum=false:=han
 clear ht hi hin
 refine ex4 _ (fun p:Nat × List Int × List Int × Int=>⟨[.ptr 6 0,.agg   [.int .i64 1,.int .i64 2,.int .i64 0,.int .i64 0,.int .i64 2,     .sl .str [{ data:=#[120] }],.fn (Fn.func 102) [] [],.fn (Fn.func 93) [] []],.sl (.sl (.int .i64)) ins,.any,.ptr 7 0,.any,.any,.any,.any,.any,.any,.ptr 6 0,.any,.any,.sl (.sl (.int .i64)) ins,.eptr [PV.sl (.int .i64) (ins.getD (Int.toNat 0) (dflt (.sl (.int .i64))))],.sl (.int .i64) (ins.getD (Int.toNat 0) (dflt (.sl (.int .i64)))),.int .i64 (↑(List.length (ins.getD (Int.toNat 0) (dflt (.sl (.int .i64))))):Int),.int .i64 (p.1:Int),.any,.any,.any,.any,.any,.any,.any,.any,.any,.any,.any,.any,.any,.any,.any,.any,.any,.any,.any,.any,.any,.any,.any,.any,.any,.any,.bool (decide (7=8)),.any,.any,.any,.any,.any,.any,.any,.any,.any,.any,.any,.any,.any,.bool (decide (7=9)),.bool (decide (7=9))]++nA 29,[.cells   [.int .i64 7,.int .i64 z,.int .i64 (ExprT.mk ek eo em ev ea).kind,     .int .i64 (ExprT.mk ek eo em ev ea).op,.str (ExprT.mk ek eo em ev ea).name,     .int .i64 (ExprT.mk ek eo em ev ea).value,.sl .expr (ExprT.mk ek eo em ev ea).args,     .sl (.int .i64) l],.cells   [.int .i64 1,.int .i64 2,.int .i64 0,.int .i64 0,.int .i64 2,     .sl .str [{ data:=#[120] }],.fn (Fn.func 102) [] [],.fn (Fn.func 93) [] []],.cells   [.int .i64 7,.int .i64 z,.int .i64 (ExprT.mk ek eo em ev ea).kind,     .int .i64 (ExprT.mk ek eo em ev ea).op,.str (ExprT.mk ek eo em ev ea).name,     .int .i64 (ExprT.mk ek eo em ev ea).value,.sl .expr (ExprT.mk ek eo em ev ea).args,     .sl (.int .i64) l],.cells [.cap0,.int .i64 0,.bool false],.cells   [.int .i64 1,.int .i64 2,.int .i64 0,.int .i64 0,.int .i64 2,     .sl .str [{ data:=#[120] }],.fn (Fn.func 102) [] [],.fn (Fn.func 93) [] []],.cells [.own 8,.own 9],.cells [.int .i64 7,.int .i64 z,.int .i64 ek,.int .i64 eo,.str em,.int .i64 ev,.sl .expr ea,.sl tI l,.cap0,.int .i64 0,.bool false,.csl tI 5 2,.int .i64 p.2.2.2,.int .i64 0],.cells   [.int .i64 1,.int .i64 2,.int .i64 0,.int .i64 0,.int .i64 2,     .sl .str [{ data:=#[120] }],.fn (Fn.func 102) [] [],.fn (Fn.func 93) [] []],.rows tI p.2.1,.rows tI p.2.2.1],10⟩) (fun p=>p.1≤(ins.getD 0 []).length∧p.2=(((ins.getD 0 []).take p.1).foldl (splS (ExprT.mk ek eo em ev ea)) ([],[],0))∧p.2.1.length≤p.1∧p.2.2.1.length≤p.1) (fun p=>(ins.getD 0 []).length - p.1) (aI (Exists.intro ((0,([],[],0))) (Exists.intro ([some 0,some 1,some 2,some 3,some 4,some 5,some 6,some 7,none,none]) (aI ?_ (aI (by rfl) (aI (by rfl) (aI (aI (aI (by rfl) (by rfl)) (aI (aI (by rfl) (by rfl)) (aI (aI (by rfl) (by rfl)) (aI (aI (by rfl) (by rfl)) (aI (aI (by rfl) (by rfl)) (aI (aI (by rfl) (by rfl)) (aI (aI (by rfl) (by rfl)) (aI (aI (by rfl) (by rfl)) (aI (by rfl) (aI (by rfl) True.intro)))))))))) (by rfl))))))) ?_)
 ·exact ⟨Nat.zero_le _,rfl,Nat.le_refl _,Nat.le_refl _⟩
 rintro ⟨j,o,q,f⟩ ⟨hj,hp,ho,hq⟩
 replace hj:j≤(ins.getD 0 []).length:=hj
 replace hp:(o,q,f)=(((ins.getD 0 []).take j).foldl (splS (ExprT.mk ek eo em ev ea)) ([],[],0)):=hp
 have hnx:j < (ins.getD 0 []).length→((ins.getD 0 []).take (j+1)).foldl (splS (ExprT.mk ek eo em ev ea)) ([],[],0)=splS (ExprT.mk ek eo em ev ea) (o,q,f) ((ins.getD 0 []).getD j 0):=fun h=>by
  rw [fold_take _ _ 0 h,← hp]
 have hen:decide ((j:Int) < ((ins.getD 0 []).length:Int))=false→(ins.getD 0 []).foldl (splS (ExprT.mk ek eo em ev ea)) ([],[],0)=(o,q,f):=fun h=>by
  have h':¬ j < (ins.getD 0 []).length:=by simpa using h
  rw [hp,List.take_of_length_le (by omega)]
 replace ho:o.length≤j:=ho
 have room:(o.length+1) * 8≤lim:=by simp only [lim];omega
 replace hq:q.length≤j:=hq
 have room2:(q.length+1) * 8≤lim:=by simp only [lim];omega
 have wr:∀ w:Int,w=(evX (ExprT.mk ek eo em ev ea) nmX ((ins.getD 0 []).getD j 0) 0).1→-9223372036854775808≤1 - w∧1 - w≤9223372036854775807:=fun w h=>by
  have:=evB hty ((ins.getD 0 []).getD j 0) 0
  omega
 have wi:∀ w:Int,w=(evX (ExprT.mk ek eo em ev ea) nmX ((ins.getD 0 []).getD j 0) 0).1→0≤1 - w∧1 - w < ((2:Nat):Int):=fun w h=>by
  have:=evB hty ((ins.getD 0 []).getD j 0) 0
  omega
 refine (aI (fun m0=>(aI (by first | exact room | exact room2 | exact wr m2 m3 | exact wr m4 m5 | exact wr m5 m6 | exact wi m2 m3 | (intros;(try subst_vars);(try simp only [nB] at *);(try simp only [inK,big,lim,nL] at *);omega)) (aI (by first | kernel_rfl | rfl) (aI (by first | kernel_rfl | rfl) (aI (by rfl) (aI (by first | kernel_rfl | rfl) (aI (by first | exact room | exact room2 | exact wr m2 m3 | exact wr m4 m5 | exact wr m5 m6 | exact wi m2 m3 | (intros;(try subst_vars);(try simp only [nB] at *);(try simp only [inK,big,lim,nL] at *);omega)) (aI True.intro (aI (fun m1=>(fun m2=>(fun m3=>(aI (by first | exact room | exact room2 | exact wr m2 m3 | exact wr m4 m5 | exact wr m5 m6 | exact wi m2 m3 | (intros;(try subst_vars);(try simp only [nB] at *);(try simp only [inK,big,lim,nL] at *);omega)) (aI (by first | kernel_rfl | rfl) (aI (fun m4=>(aI (by kernel_rfl) (aI (by first | exact room | exact room2 | exact wr m2 m3 | exact wr m4 m5 | exact wr m5 m6 | exact wi m2 m3 | (intros;(try subst_vars);(try simp only [nB] at *);(try simp only [inK,big,lim,nL] at *);omega)) ?_))) (fun m4=>(aI (by first | exact room | exact room2 | exact wr m2 m3 | exact wr m4 m5 | exact wr m5 m6 | exact wi m2 m3 | (intros;(try subst_vars);(try simp only [nB] at *);(try simp only [inK,big,lim,nL] at *);omega)) ?_)))))))) (fun m1=>(fun m5=>(fun m6=>(aI (by first | exact room | exact room2 | exact wr m2 m3 | exact wr m4 m5 | exact wr m5 m6 | exact wi m2 m3 | (intros;(try subst_vars);(try simp only [nB] at *);(try simp only [inK,big,lim,nL] at *);omega)) (aI (by first | kernel_rfl | rfl) (aI (fun m7=>absurd (Eq.trans (Eq.symm m1) m7) (by decide)) (fun m7=>(aI (by first | exact room | exact room2 | exact wr m2 m3 | exact wr m4 m5 | exact wr m5 m6 | exact wi m2 m3 | (intros;(try subst_vars);(try simp only [nB] at *);(try simp only [inK,big,lim,nL] at *);omega)) ?_))))))))))))))))) (fun m0=>(aI (by first | kernel_rfl | rfl) (aI (fun m8=>(aI (by first | kernel_rfl | rfl) (fin_of rfl ?_))) (fun m8=>(aI True.intro (aI (fun m9=>(fin_of rfl ?_)) (fun m9=>(fin_of rfl ?_)))))))))
 ·rcases evB hty ((ins.getD 0 []).getD j 0) 0 with hv | hv
  ·have hm:m2=0:=m3.trans hv
   subst hm
   refine (aI (by rfl) (aI (by rfl) (aI (by rfl) (aI (by rfl) (aI (by rfl) (aI (by rfl) (aI (by rfl) (aI (by rfl) (aI (by rfl) (aI (by rfl) (aI (by first | exact room | exact room2 | (intros;(try subst_vars);(try simp only [nB] at *);(try simp only [inK,big,lim,nL] at *);omega)) (aI (by rfl) (aI (by rfl) (aI (by rfl) (aI (by rfl) (aI (by rfl) (aI (by rfl) (aI (by rfl) (aI (by rfl) (aI (by rfl) (aI (by rfl) (aI (by rfl) (aI (by rfl) (aI (by rfl) (aI (by first | exact room | exact room2 | (intros;(try subst_vars);(try simp only [nB] at *);(try simp only [inK,big,lim,nL] at *);omega)) (aI (by rfl) (aI (by rfl) (aI (by first | exact room | exact room2 | (intros;(try subst_vars);(try simp only [nB] at *);(try simp only [inK,big,lim,nL] at *);omega)) (aI (by first | exact room | exact room2 | (intros;(try subst_vars);(try simp only [nB] at *);(try simp only [inK,big,lim,nL] at *);omega)) (aI (by first | exact room | exact room2 | (intros;(try subst_vars);(try simp only [nB] at *);(try simp only [inK,big,lim,nL] at *);omega)) (aI (by rfl) (aI (by rfl) (aI (by rfl) (aI (by rfl) (aI (by rfl) (aI (by rfl) (aI (by first | exact room | exact room2 | (intros;(try subst_vars);(try simp only [nB] at *);(try simp only [inK,big,lim,nL] at *);omega)) ?_)))))))))))))))))))))))))))))))))))))
   ·have hj':j < (ins.getD 0 []).length:=by simpa using m0
    refine Exists.intro ((j+1,o,q++[(ins.getD 0 []).getD j 0],(evX (ExprT.mk ek eo em ev ea) nmX ((ins.getD 0 []).getD j 0) 0).2)) (Exists.intro ([some 0,some 1,some 2,some 3,some 4,some 5,some 6,some 7,some 8,some 13]) (aI ?_ (aI ?_ (aI (by rfl) (aI (by rfl) (aI (aI (aI (by rfl) (by rfl)) (aI (aI (by rfl) (by rfl)) (aI (aI (by rfl) (by rfl)) (aI (aI (by rfl) (by rfl)) (aI (aI (by rfl) (by rfl)) (aI (aI (by rfl) (by rfl)) (aI (aI (by rfl) (by rfl)) (aI (aI (by rfl) (by rfl)) (aI (by rfl) (aI (by rfl) True.intro)))))))))) (by rfl)))))))
    ·refine ⟨hj', ?_,by show o.length≤j+1;omega,by show (_++[_]).length≤j+1;simp;omega⟩
     show _=((ins.getD 0 []).take (j+1)).foldl _ _
     rw [hnx hj']
     dsimp only [splS]
     rw [errN_0 m1,if_neg (by rw [show (evX (ExprT.mk ek eo em ev ea) nmX ((ins.getD 0 []).getD j 0) 0).1=0 from hv];decide),if_neg (by rw [show (evX (ExprT.mk ek eo em ev ea) nmX ((ins.getD 0 []).getD j 0) 0).1=0 from hv];decide),sndI_0 (f:=(evX (ExprT.mk ek eo em ev ea) nmX ((ins.getD 0 []).getD j 0) 0).2) (show decide ((evX (ExprT.mk ek eo em ev ea) nmX ((ins.getD 0 []).getD j 0) 0).2=0)=true from m4)]
    ·show (ins.getD 0 []).length - (j+1) < (ins.getD 0 []).length - j
     omega
  ·have hm:m2=1:=m3.trans hv
   subst hm
   refine (aI (by rfl) (aI (by rfl) (aI (by rfl) (aI (by rfl) (aI (by rfl) (aI (by rfl) (aI (by rfl) (aI (by rfl) (aI (by rfl) (aI (by rfl) (aI (by first | exact room | exact room2 | (intros;(try subst_vars);(try simp only [nB] at *);(try simp only [inK,big,lim,nL] at *);omega)) (aI (by rfl) (aI (by rfl) (aI (by rfl) (aI (by rfl) (aI (by rfl) (aI (by rfl) (aI (by rfl) (aI (by rfl) (aI (by rfl) (aI (by rfl) (aI (by rfl) (aI (by rfl) (aI (by rfl) (aI (by first | exact room | exact room2 | (intros;(try subst_vars);(try simp only [nB] at *);(try simp only [inK,big,lim,nL] at *);omega)) (aI (by rfl) (aI (by rfl) (aI (by first | exact room | exact room2 | (intros;(try subst_vars);(try simp only [nB] at *);(try simp only [inK,big,lim,nL] at *);omega)) (aI (by first | exact room | exact room2 | (intros;(try subst_vars);(try simp only [nB] at *);(try simp only [inK,big,lim,nL] at *);omega)) (aI (by first | exact room | exact room2 | (intros;(try subst_vars);(try simp only [nB] at *);(try simp only [inK,big,lim,nL] at *);omega)) (aI (by rfl) (aI (by rfl) (aI (by rfl) (aI (by rfl) (aI (by rfl) (aI (by rfl) (aI (by first | exact room | exact room2 | (intros;(try subst_vars);(try simp only [nB] at *);(try simp only [inK,big,lim,nL] at *);omega)) ?_)))))))))))))))))))))))))))))))))))))
   ·have hj':j < (ins.getD 0 []).length:=by simpa using m0
    refine Exists.intro ((j+1,o++[(ins.getD 0 []).getD j 0],q,(evX (ExprT.mk ek eo em ev ea) nmX ((ins.getD 0 []).getD j 0) 0).2)) (Exists.intro ([some 0,some 1,some 2,some 3,some 4,some 5,some 6,some 7,some 13,some 9]) (aI ?_ (aI ?_ (aI (by rfl) (aI (by rfl) (aI (aI (aI (by rfl) (by rfl)) (aI (aI (by rfl) (by rfl)) (aI (aI (by rfl) (by rfl)) (aI (aI (by rfl) (by rfl)) (aI (aI (by rfl) (by rfl)) (aI (aI (by rfl) (by rfl)) (aI (aI (by rfl) (by rfl)) (aI (aI (by rfl) (by rfl)) (aI (by rfl) (aI (by rfl) True.intro)))))))))) (by rfl)))))))
    ·refine ⟨hj', ?_,by show (_++[_]).length≤j+1;simp;omega,by show q.length≤j+1;omega⟩
     show _=((ins.getD 0 []).take (j+1)).foldl _ _
     rw [hnx hj']
     dsimp only [splS]
     rw [errN_0 m1,if_pos (by rw [show (evX (ExprT.mk ek eo em ev ea) nmX ((ins.getD 0 []).getD j 0) 0).1=1 from hv];decide),if_pos (by rw [show (evX (ExprT.mk ek eo em ev ea) nmX ((ins.getD 0 []).getD j 0) 0).1=1 from hv];decide),sndI_0 (f:=(evX (ExprT.mk ek eo em ev ea) nmX ((ins.getD 0 []).getD j 0) 0).2) (show decide ((evX (ExprT.mk ek eo em ev ea) nmX ((ins.getD 0 []).getD j 0) 0).2=0)=true from m4)]
    ·show (ins.getD 0 []).length - (j+1) < (ins.getD 0 []).length - j
     omega
 ·have hj':j < (ins.getD 0 []).length:=by simpa using m0
  refine Exists.intro ((j+1,o,q,(evX (ExprT.mk ek eo em ev ea) nmX ((ins.getD 0 []).getD j 0) 0).2)) (Exists.intro ([some 0,some 1,some 2,some 3,some 4,some 5,some 6,some 7,some 8,some 9]) (aI ?_ (aI ?_ (aI (by rfl) (aI (by rfl) (aI (aI (aI (by rfl) (by rfl)) (aI (aI (by rfl) (by rfl)) (aI (aI (by rfl) (by rfl)) (aI (aI (by rfl) (by rfl)) (aI (aI (by rfl) (by rfl)) (aI (aI (by rfl) (by rfl)) (aI (aI (by rfl) (by rfl)) (aI (aI (by rfl) (by rfl)) (aI (by rfl) (aI (by rfl) True.intro)))))))))) (by rfl)))))))
  ·refine ⟨hj', ?_,by show o.length≤j+1;omega,by show q.length≤j+1;omega⟩
   show _=((ins.getD 0 []).take (j+1)).foldl _ _
   rw [hnx hj']
   dsimp only [splS]
   rw [errN_0 m1]
   simp only [sndI_1 (f:=(evX (ExprT.mk ek eo em ev ea) nmX ((ins.getD 0 []).getD j 0) 0).2) (show decide ((evX (ExprT.mk ek eo em ev ea) nmX ((ins.getD 0 []).getD j 0) 0).2=0)=false from m4),ite_self]
  ·show (ins.getD 0 []).length - (j+1) < (ins.getD 0 []).length - j
   omega
 ·have hj':j < (ins.getD 0 []).length:=by simpa using m0
  refine Exists.intro ((j+1,o,q,f)) (Exists.intro ([some 0,some 1,some 2,some 3,some 4,some 5,some 6,some 7,some 8,some 9]) (aI ?_ (aI ?_ (aI (by rfl) (aI (by rfl) (aI (aI (aI (by rfl) (by rfl)) (aI (aI (by rfl) (by rfl)) (aI (aI (by rfl) (by rfl)) (aI (aI (by rfl) (by rfl)) (aI (aI (by rfl) (by rfl)) (aI (aI (by rfl) (by rfl)) (aI (aI (by rfl) (by rfl)) (aI (aI (by rfl) (by rfl)) (aI (by rfl) (aI (by rfl) True.intro)))))))))) (by rfl)))))))
  ·refine ⟨hj', ?_,by show o.length≤j+1;omega,by show q.length≤j+1;omega⟩
   show _=((ins.getD 0 []).take (j+1)).foldl _ _
   rw [hnx hj']
   dsimp only [splS]
   rw [errN_1 m1]
   simp only [sndI_1 m1,ite_self]
  ·show (ins.getD 0 []).length - (j+1) < (ins.getD 0 []).length - j
   omega
 ·skip
  have run:runF (7,z,ExprT.mk ek eo em ev ea,l) ins=([o,q],f):=by
   show ([((ins.getD 0 []).foldl (splS (ExprT.mk ek eo em ev ea)) ([],[],0)).1,((ins.getD 0 []).foldl (splS (ExprT.mk ek eo em ev ea)) ([],[],0)).2.1],((ins.getD 0 []).foldl (splS (ExprT.mk ek eo em ev ea)) ([],[],0)).2.2)=_
   rw [hen m0]
  exact (MN3' (by assumption) (by assumption) hs0 (by rw [run];exact m8)).trans (by rw [run])
 ·skip
  have run:runF (7,z,ExprT.mk ek eo em ev ea,l) ins=([o,q],f):=by
   show ([((ins.getD 0 []).foldl (splS (ExprT.mk ek eo em ev ea)) ([],[],0)).1,((ins.getD 0 []).foldl (splS (ExprT.mk ek eo em ev ea)) ([],[],0)).2.1],((ins.getD 0 []).foldl (splS (ExprT.mk ek eo em ev ea)) ([],[],0)).2.2)=_
   rw [hen m0]
  exact MN4' (by assumption) (by assumption) hs0 (by rw [run];exact m8) (by rw [run];exact m9)
 ·skip
  have run:runF (7,z,ExprT.mk ek eo em ev ea,l) ins=([o,q],f):=by
   show ([((ins.getD 0 []).foldl (splS (ExprT.mk ek eo em ev ea)) ([],[],0)).1,((ins.getD 0 []).foldl (splS (ExprT.mk ek eo em ev ea)) ([],[],0)).2.1],((ins.getD 0 []).foldl (splS (ExprT.mk ek eo em ev ea)) ([],[],0)).2.2)=_
   rw [hen m0]
  exact (MN5' (by assumption) (by assumption) hs0 (by rw [run];exact m8) (by rw [run];exact m9)).trans (by rw [run])
end Go.Proofs.YticmijfmgmkkcaaGreat
namespace Go.Proofs.YticmijfmgmkkcaaGreat
open Go.Sx
set_option maxHeartbeats 8000000 in
theorem walk13x9:Walk13 9:=by
 intro z e l ins hc hlk
 have hl:ins.length=2:=by have h:(ins.length:Int)=2:=hlk;omega
 have hs:=chk_size hc
 obtain ⟨ek,eo,em,ev,ea⟩:=e
 refine ⟨_,callM_ok, ?_⟩
 refine (aI (by first | kernel_rfl | rfl) (aI True.intro (aI (fun h0=>(fin_of rfl (by first | exact MN0' (by assumption) | exact MN1' (by assumption) (by assumption)))) (fun h0=>(aI (by rfl) (fun h1=>(aI (fun h2=>(fin_of rfl (by first | exact MN0' (by assumption) | exact MN1' (by assumption) (by assumption)))) (fun h2=>(fun h3=>?_)))))))))
 refine ex4 _ (fun i:Nat=>⟨[.any,.sl (.sl (.int .i64)) ins,.ptr 0 0,.any,.any,.any,.any,.ptr 1 0,.any,.any,.any,.any,.any,.any,.any,.any,.any,.any,.any,.any,.any,.any,.any,.any,.any,.any,.any,.any,.sl (.sl (.int .i64)) ins,.int .i64 (↑ins.length:Int),.int .i64 (i:Int)]++nA 34,[.cells   [.int .i64 9,.int .i64 z,.int .i64 (ExprT.mk ek eo em ev ea).kind,     .int .i64 (ExprT.mk ek eo em ev ea).op,.str (ExprT.mk ek eo em ev ea).name,     .int .i64 (ExprT.mk ek eo em ev ea).value,.sl .expr (ExprT.mk ek eo em ev ea).args,     .sl (.int .i64) l],.cells   [.int .i64 2,.int .i64 1,.int .i64 0,.int .i64 0,.int .i64 1,     .sl .str [{ data:=#[120] },{ data:=#[121] }],.fn (Fn.func 105) [] [],.fn (Fn.func 106) [] []]],2⟩) (fun i=>i≤ins.length∧strF ins=strF (ins.drop i)) (fun i=>ins.length - i) (aI (Exists.intro (0) (Exists.intro ([some 0,some 1]) (aI ?_ (aI (by rfl) (aI (by rfl) (aI (aI (aI (by rfl) (by rfl)) (aI (aI (by rfl) (by rfl)) True.intro)) (by rfl))))))) ?_)
 ·exact ⟨Nat.zero_le _,rfl⟩
 rintro i ⟨hi,ht⟩
 have hin:decide ((i:Int) < (ins.length:Int))=false→(!decide (strF ins=0))=false:=fun h=>by
  have hi':¬ i < ins.length:=by simpa using h
  rw [ht,List.drop_of_length_le (by omega)];rfl
 have ix:0 < 2→0≤(0:Int)∧(0:Int) < (ins.length:Int):=fun h=>by rw [hl];omega
 have iy:1 < 2→0≤(1:Int)∧(1:Int) < (ins.length:Int):=fun h=>by rw [hl];omega
 have hst:strF ins=0→∀ j,j < ins.length→(ins.getD j (dflt tIs)).length≤200∧(ins.getD j (dflt tIs)).any notNum=false:=fun h j hj=>strF_get h hj
 refine (aI (fun k0=>(aI (by first | exact ⟨by decide,rfl,by decide,by decide⟩ | exact ix (by decide) | exact iy (by decide) | (intros;(try subst_vars);(try simp only [nB] at *);(try simp only [inK,big,lim,nL] at *);omega)) (fun k1=>(aI (fun k2=>(fin_of rfl ?_)) (fun k2=>(aI True.intro (aI (fun k3=>(fin_of rfl ?_)) (fun k3=>(aI (by first | exact ⟨by decide,rfl,by decide,by decide⟩ | exact ix (by decide) | exact iy (by decide) | (intros;(try subst_vars);(try simp only [nB] at *);(try simp only [inK,big,lim,nL] at *);omega)) ?_))))))))) (fun k0=>(aI (by first | kernel_rfl | rfl) (aI (by rfl) (aI (by first | kernel_rfl | rfl) (aI (by first | exact ⟨by decide,rfl,by decide,by decide⟩ | exact ix (by decide) | exact iy (by decide) | (intros;(try subst_vars);(try simp only [nB] at *);(try simp only [inK,big,lim,nL] at *);omega)) (aI (by first | kernel_rfl | rfl) (aI (fun k4=>nF (by kernel_rfl) k4) (fun k4=>(aI (fun k5=>nF (by kernel_rfl) k5) (fun k5=>(aI (fun k6=>(aI (by first | kernel_rfl | rfl) (aI (by first | exact ⟨by decide,rfl,by decide,by decide⟩ | exact ix (by decide) | exact iy (by decide) | (intros;(try subst_vars);(try simp only [nB] at *);(try simp only [inK,big,lim,nL] at *);omega)) (aI (by first | exact ⟨by decide,rfl,by decide,by decide⟩ | exact ix (by decide) | exact iy (by decide) | (intros;(try subst_vars);(try simp only [nB] at *);(try simp only [inK,big,lim,nL] at *);omega)) (fun k7=>(fun k8=>?_)))))) (fun k6=>False.elim (Bool.false_ne_true (Eq.symm (Eq.trans (by kernel_rfl) k6))))))))))))))))
 ·have hi':i < ins.length:=by simpa using k0
  have hk:longB (ins.getD i (dflt tIs))=true:=k2
  have e4:strF ins=4:=by rw [ht,strF_drop hi',if_pos hk]
  exact (MN2' (by assumption) (by assumption) (by rw [e4];rfl)).trans (by rw [e4])
 ·have hi':i < ins.length:=by simpa using k0
  have hk:¬ longB (ins.getD i (dflt tIs))=true:=by have h:longB (ins.getD i (dflt tIs))=false:=k2;rw [h];simp
  have hk2:(ins.getD i (dflt tIs)).any notNum=true:=k3
  have e4:strF ins=2:=by rw [ht,strF_drop hi',if_neg hk,if_pos hk2]
  exact (MN2' (by assumption) (by assumption) (by rw [e4];rfl)).trans (by rw [e4])
 ·have hi':i < ins.length:=by simpa using k0
  have hk:¬ longB (ins.getD i (dflt tIs))=true:=by have h:longB (ins.getD i (dflt tIs))=false:=k2;rw [h];simp
  have hk2:¬ (ins.getD i (dflt tIs)).any notNum=true:=by have h:(ins.getD i (dflt tIs)).any notNum=false:=k3;rw [h];simp
  refine Exists.intro (i+1) (Exists.intro ([some 0,some 1]) (aI ?_ (aI ?_ (aI (by rfl) (aI (by rfl) (aI (aI (aI (by rfl) (by rfl)) (aI (aI (by rfl) (by rfl)) True.intro)) (by rfl)))))))
  ·refine ⟨hi', ?_⟩
   rw [ht,strF_drop hi',if_neg hk,if_neg hk2]
  ·show ins.length - (i+1) < ins.length - i
   omega
 have hs0:=hin k0
 have hstr:strF ins=0:=by simpa using hs0
 obtain ⟨hal,-⟩:=strF_get hstr (show 0 < ins.length by omega)
 obtain ⟨hbl,-⟩:=strF_get hstr (show 1 < ins.length by omega)
 replace hal:(ins.getD 0 []).length≤200:=hal
 replace hbl:(ins.getD 1 []).length≤200:=hbl
 clear ht hi hin
 have hmin:∀ x y:Nat,(if (y:Int) < (x:Int) then (y:Int) else (x:Int))=((min x y:Nat):Int):=fun x y=>by split <;> omega
 refine ex4 _ (fun p:Nat × List Int × Int=>⟨[.ptr 6 0,.agg   [.int .i64 2,.int .i64 1,.int .i64 0,.int .i64 0,.int .i64 1,     .sl .str [{ data:=#[120] },{ data:=#[121] }],.fn (Fn.func 105) [] [],.fn (Fn.func 106) [] []],.sl (.sl (.int .i64)) ins,.any,.any,.any,.any,.any,.any,.any,.any,.ptr 6 0,.any,.any,.any,.any,.any,.any,.any,.any,.any,.any,.any,.any,.any,.any,.any,.any,.any,.any,.any,.any,.any,.any,.any,.any,.any,.any,.any,.any,.any,.any,.any,.any,.any,.bool (decide (9=8)),.any,.any,.any,.any,.any,.any,.any,.any,.any,.any,.any,.any,.any,.bool (decide (9=9)),.bool (decide (9=9)),.sl (.sl (.int .i64)) ins,.eptr [PV.sl (.int .i64) (ins.getD (Int.toNat 0) (dflt (.sl (.int .i64))))],.sl (.int .i64) (ins.getD (Int.toNat 0) (dflt (.sl (.int .i64)))),.int .i64 (↑(List.length (ins.getD (Int.toNat 0) (dflt (.sl (.int .i64))))):Int),.any,.any,.any,.any,.int .i64   (if       (↑(List.length (ins.getD (Int.toNat 1) (dflt (.sl (.int .i64))))):Int) <         (↑(List.length (ins.getD (Int.toNat 0) (dflt (.sl (.int .i64))))):Int) then     (↑(List.length (ins.getD (Int.toNat 1) (dflt (.sl (.int .i64))))):Int)   else (↑(List.length (ins.getD (Int.toNat 0) (dflt (.sl (.int .i64))))):Int)),.int .i64 (p.1:Int)]++nA 19,[.cells   [.int .i64 9,.int .i64 z,.int .i64 (ExprT.mk ek eo em ev ea).kind,     .int .i64 (ExprT.mk ek eo em ev ea).op,.str (ExprT.mk ek eo em ev ea).name,     .int .i64 (ExprT.mk ek eo em ev ea).value,.sl .expr (ExprT.mk ek eo em ev ea).args,     .sl (.int .i64) l],.cells   [.int .i64 2,.int .i64 1,.int .i64 0,.int .i64 0,.int .i64 1,     .sl .str [{ data:=#[120] },{ data:=#[121] }],.fn (Fn.func 105) [] [],.fn (Fn.func 106) [] []],.cells   [.int .i64 9,.int .i64 z,.int .i64 (ExprT.mk ek eo em ev ea).kind,     .int .i64 (ExprT.mk ek eo em ev ea).op,.str (ExprT.mk ek eo em ev ea).name,     .int .i64 (ExprT.mk ek eo em ev ea).value,.sl .expr (ExprT.mk ek eo em ev ea).args,     .sl (.int .i64) l],.cells [.cap0,.int .i64 0,.bool false],.cells   [.int .i64 2,.int .i64 1,.int .i64 0,.int .i64 0,.int .i64 1,     .sl .str [{ data:=#[120] },{ data:=#[121] }],.fn (Fn.func 105) [] [],.fn (Fn.func 106) [] []],.cells [.own 8],.cells [.int .i64 9,.int .i64 z,.int .i64 ek,.int .i64 eo,.str em,.int .i64 ev,.sl .expr ea,.sl tI l,.cap0,.int .i64 0,.bool false,.csl tI 5 1,.int .i64 p.2.2,.int .i64 0],.cells   [.int .i64 2,.int .i64 1,.int .i64 0,.int .i64 0,.int .i64 1,     .sl .str [{ data:=#[120] },{ data:=#[121] }],.fn (Fn.func 105) [] [],.fn (Fn.func 106) [] []],.rows tI p.2.1],9⟩) (fun p=>p.1≤min (ins.getD 0 []).length (ins.getD 1 []).length∧p.2=(List.range p.1).foldl (zipS (ExprT.mk ek eo em ev ea) (ins.getD 0 []) (ins.getD 1 [])) ([],0)∧p.2.1.length≤p.1) (fun p=>min (ins.getD 0 []).length (ins.getD 1 []).length - p.1) (aI (Exists.intro ((0,[],0)) (Exists.intro ([some 0,some 1,some 2,some 3,some 4,some 5,some 6,some 7,none]) (aI ?_ (aI (by rfl) (aI (by rfl) (aI (aI (aI (by rfl) (by rfl)) (aI (aI (by rfl) (by rfl)) (aI (aI (by rfl) (by rfl)) (aI (aI (by rfl) (by rfl)) (aI (aI (by rfl) (by rfl)) (aI (aI (by rfl) (by rfl)) (aI (aI (by rfl) (by rfl)) (aI (aI (by rfl) (by rfl)) (aI (by rfl) True.intro))))))))) (by rfl))))))) ?_)
 ·exact ⟨Nat.zero_le _,rfl,Nat.le_refl _⟩
 rintro ⟨j,o,f⟩ ⟨hj,hp,ho⟩
 replace hj:j≤min (ins.getD 0 []).length (ins.getD 1 []).length:=hj
 replace hp:(o,f)=(List.range j).foldl (zipS (ExprT.mk ek eo em ev ea) (ins.getD 0 []) (ins.getD 1 [])) ([],0):=hp
 replace ho:o.length≤j:=ho
 have room:(o.length+1) * 8≤lim:=by simp only [lim];omega
 have lt:decide ((j:Int) < (if ((ins.getD 1 []).length:Int) < ((ins.getD 0 []).length:Int) then ((ins.getD 1 []).length:Int) else ((ins.getD 0 []).length:Int)))=true→j < min (ins.getD 0 []).length (ins.getD 1 []).length:=fun h=>by
  have:=of_decide_eq_true h
  rw [hmin] at this
  omega
 have ge:decide ((j:Int) < (if ((ins.getD 1 []).length:Int) < ((ins.getD 0 []).length:Int) then ((ins.getD 1 []).length:Int) else ((ins.getD 0 []).length:Int)))=false→j=min (ins.getD 0 []).length (ins.getD 1 []).length:=fun h=>by
  have:=of_decide_eq_false h
  rw [hmin] at this
  omega
 have ixa:decide ((j:Int) < (if ((ins.getD 1 []).length:Int) < ((ins.getD 0 []).length:Int) then ((ins.getD 1 []).length:Int) else ((ins.getD 0 []).length:Int)))=true→0≤(j:Int)∧(j:Int) < ((ins.getD 0 []).length:Int):=fun h=>by have:=lt h;omega
 have ixb:decide ((j:Int) < (if ((ins.getD 1 []).length:Int) < ((ins.getD 0 []).length:Int) then ((ins.getD 1 []).length:Int) else ((ins.getD 0 []).length:Int)))=true→0≤(j:Int)∧(j:Int) < ((ins.getD 1 []).length:Int):=fun h=>by have:=lt h;omega
 have hnx:(List.range (j+1)).foldl (zipS (ExprT.mk ek eo em ev ea) (ins.getD 0 []) (ins.getD 1 [])) ([],0)=zipS (ExprT.mk ek eo em ev ea) (ins.getD 0 []) (ins.getD 1 []) (o,f) j:=by
  rw [List.range_succ,List.foldl_append,← hp];rfl
 refine (aI (fun m0=>(aI (by kernel_rfl) (aI (by first | exact room | exact ix (by decide) | exact iy (by decide) | exact ixa m0 | exact ixb m0 | (intros;(try subst_vars);(try simp only [nB] at *);(try simp only [inK,big,lim,nL] at *);omega)) (aI (by first | exact room | exact ix (by decide) | exact iy (by decide) | exact ixa m0 | exact ixb m0 | (intros;(try subst_vars);(try simp only [nB] at *);(try simp only [inK,big,lim,nL] at *);omega)) (aI (by first | exact room | exact ix (by decide) | exact iy (by decide) | exact ixa m0 | exact ixb m0 | (intros;(try subst_vars);(try simp only [nB] at *);(try simp only [inK,big,lim,nL] at *);omega)) (aI (by first | exact room | exact ix (by decide) | exact iy (by decide) | exact ixa m0 | exact ixb m0 | (intros;(try subst_vars);(try simp only [nB] at *);(try simp only [inK,big,lim,nL] at *);omega)) (aI (by rfl) (aI (by rfl) (aI (by rfl) (aI (by first | exact room | exact ix (by decide) | exact iy (by decide) | exact ixa m0 | exact ixb m0 | (intros;(try subst_vars);(try simp only [nB] at *);(try simp only [inK,big,lim,nL] at *);omega)) (aI (by rfl) (aI (by rfl) (aI (by rfl) (aI (by first | exact room | exact ix (by decide) | exact iy (by decide) | exact ixa m0 | exact ixb m0 | (intros;(try subst_vars);(try simp only [nB] at *);(try simp only [inK,big,lim,nL] at *);omega)) (aI (by rfl) (aI (by rfl) (aI (by rfl) (aI (by first | exact room | exact ix (by decide) | exact iy (by decide) | exact ixa m0 | exact ixb m0 | (intros;(try subst_vars);(try simp only [nB] at *);(try simp only [inK,big,lim,nL] at *);omega)) (aI (by rfl) (aI (by rfl) (aI (by rfl) (aI (by first | exact room | exact ix (by decide) | exact iy (by decide) | exact ixa m0 | exact ixb m0 | (intros;(try subst_vars);(try simp only [nB] at *);(try simp only [inK,big,lim,nL] at *);omega)) (aI (by rfl) (aI (by rfl) (aI (by first | kernel_rfl | rfl) (aI (by rfl) (aI (by first | kernel_rfl | rfl) (aI (by first | exact room | exact ix (by decide) | exact iy (by decide) | exact ixa m0 | exact ixb m0 | (intros;(try subst_vars);(try simp only [nB] at *);(try simp only [inK,big,lim,nL] at *);omega)) (aI True.intro (aI (fun m1=>(aI (by rfl) (aI (by first | kernel_rfl | rfl) (aI (fun m2=>(aI (by kernel_rfl) (aI (by first | exact room | exact ix (by decide) | exact iy (by decide) | exact ixa m0 | exact ixb m0 | (intros;(try subst_vars);(try simp only [nB] at *);(try simp only [inK,big,lim,nL] at *);omega)) (aI (by rfl) (aI (by rfl) (aI (by rfl) (aI (by rfl) (aI (by rfl) (aI (by rfl) (aI (by rfl) (aI (by rfl) (aI (by rfl) (aI (by rfl) (aI (by first | exact room | exact ix (by decide) | exact iy (by decide) | exact ixa m0 | exact ixb m0 | (intros;(try subst_vars);(try simp only [nB] at *);(try simp only [inK,big,lim,nL] at *);omega)) (aI (by rfl) (aI (by rfl) (aI (by rfl) (aI (by rfl) (aI (by rfl) (aI (by rfl) (aI (by rfl) (aI (by rfl) (aI (by rfl) (aI (by rfl) (aI (by rfl) (aI (by rfl) (aI (by rfl) (aI (by first | exact room | exact ix (by decide) | exact iy (by decide) | exact ixa m0 | exact ixb m0 | (intros;(try subst_vars);(try simp only [nB] at *);(try simp only [inK,big,lim,nL] at *);omega)) (aI (by rfl) (aI (by rfl) (aI (by first | exact room | exact ix (by decide) | exact iy (by decide) | exact ixa m0 | exact ixb m0 | (intros;(try subst_vars);(try simp only [nB] at *);(try simp only [inK,big,lim,nL] at *);omega)) (aI (by first | exact room | exact ix (by decide) | exact iy (by decide) | exact ixa m0 | exact ixb m0 | (intros;(try subst_vars);(try simp only [nB] at *);(try simp only [inK,big,lim,nL] at *);omega)) (aI (by first | exact room | exact ix (by decide) | exact iy (by decide) | exact ixa m0 | exact ixb m0 | (intros;(try subst_vars);(try simp only [nB] at *);(try simp only [inK,big,lim,nL] at *);omega)) (aI (by rfl) (aI (by rfl) (aI (by rfl) (aI (by rfl) (aI (by rfl) (aI (by rfl) (aI (by first | exact room | exact ix (by decide) | exact iy (by decide) | exact ixa m0 | exact ixb m0 | (intros;(try subst_vars);(try simp only [nB] at *);(try simp only [inK,big,lim,nL] at *);omega)) ?_)))))))))))))))))))))))))))))))))))))))) (fun m2=>(aI (by first | exact room | exact ix (by decide) | exact iy (by decide) | exact ixa m0 | exact ixb m0 | (intros;(try subst_vars);(try simp only [nB] at *);(try simp only [inK,big,lim,nL] at *);omega)) ?_)))))) (fun m1=>(aI (by rfl) (aI (by first | kernel_rfl | rfl) (aI (fun m3=>absurd (Eq.trans (Eq.symm m1) m3) (by decide)) (fun m3=>(aI (by first | exact room | exact ix (by decide) | exact iy (by decide) | exact ixa m0 | exact ixb m0 | (intros;(try subst_vars);(try simp only [nB] at *);(try simp only [inK,big,lim,nL] at *);omega)) ?_)))))))))))))))))))))))))))))))))))) (fun m0=>(aI (fun m4=>(aI (by first | kernel_rfl | rfl) (fin_of rfl ?_))) (fun m4=>(aI True.intro (aI (fun m5=>(fin_of rfl ?_)) (fun m5=>(fin_of rfl ?_))))))))
 ·have hj':=lt m0
  refine Exists.intro ((j+1,o++[(evX (ExprT.mk ek eo em ev ea) nmXY ((ins.getD 0 []).getD j 0) ((ins.getD 1 []).getD j 0)).1],(evX (ExprT.mk ek eo em ev ea) nmXY ((ins.getD 0 []).getD j 0) ((ins.getD 1 []).getD j 0)).2)) (Exists.intro ([some 0,some 1,some 2,some 3,some 4,some 5,some 6,some 7,some 12]) (aI ?_ (aI ?_ (aI (by rfl) (aI (by rfl) (aI (aI (aI (by rfl) (by rfl)) (aI (aI (by rfl) (by rfl)) (aI (aI (by rfl) (by rfl)) (aI (aI (by rfl) (by rfl)) (aI (aI (by rfl) (by rfl)) (aI (aI (by rfl) (by rfl)) (aI (aI (by rfl) (by rfl)) (aI (aI (by rfl) (by rfl)) (aI (by rfl) True.intro))))))))) (by rfl)))))))
  ·refine ⟨hj', ?_,by show (_++[_]).length≤j+1;simp;omega⟩
   show _=(List.range (j+1)).foldl _ _
   rw [hnx]
   dsimp only [zipS]
   rw [errN_0 m1,sndI_0 (f:=(evX (ExprT.mk ek eo em ev ea) nmXY ((ins.getD 0 []).getD j 0) ((ins.getD 1 []).getD j 0)).2) (show decide ((evX (ExprT.mk ek eo em ev ea) nmXY ((ins.getD 0 []).getD j 0) ((ins.getD 1 []).getD j 0)).2=0)=true from m2)]
  ·show min _ _ - (j+1) < min _ _ - j
   omega
 ·have hj':=lt m0
  refine Exists.intro ((j+1,o,(evX (ExprT.mk ek eo em ev ea) nmXY ((ins.getD 0 []).getD j 0) ((ins.getD 1 []).getD j 0)).2)) (Exists.intro ([some 0,some 1,some 2,some 3,some 4,some 5,some 6,some 7,some 8]) (aI ?_ (aI ?_ (aI (by rfl) (aI (by rfl) (aI (aI (aI (by rfl) (by rfl)) (aI (aI (by rfl) (by rfl)) (aI (aI (by rfl) (by rfl)) (aI (aI (by rfl) (by rfl)) (aI (aI (by rfl) (by rfl)) (aI (aI (by rfl) (by rfl)) (aI (aI (by rfl) (by rfl)) (aI (aI (by rfl) (by rfl)) (aI (by rfl) True.intro))))))))) (by rfl)))))))
  ·refine ⟨hj', ?_,by show o.length≤j+1;omega⟩
   show _=(List.range (j+1)).foldl _ _
   rw [hnx]
   dsimp only [zipS]
   rw [errN_0 m1,sndI_1 (f:=(evX (ExprT.mk ek eo em ev ea) nmXY ((ins.getD 0 []).getD j 0) ((ins.getD 1 []).getD j 0)).2) (show decide ((evX (ExprT.mk ek eo em ev ea) nmXY ((ins.getD 0 []).getD j 0) ((ins.getD 1 []).getD j 0)).2=0)=false from m2)]
  ·show min _ _ - (j+1) < min _ _ - j
   omega
 ·have hj':=lt m0
  refine Exists.intro ((j+1,o,f)) (Exists.intro ([some 0,some 1,some 2,some 3,some 4,some 5,some 6,some 7,some 8]) (aI ?_ (aI ?_ (aI (by rfl) (aI (by rfl) (aI (aI (aI (by rfl) (by rfl)) (aI (aI (by rfl) (by rfl)) (aI (aI (by rfl) (by rfl)) (aI (aI (by rfl) (by rfl)) (aI (aI (by rfl) (by rfl)) (aI (aI (by rfl) (by rfl)) (aI (aI (by rfl) (by rfl)) (aI (aI (by rfl) (by rfl)) (aI (by rfl) True.intro))))))))) (by rfl)))))))
  ·refine ⟨hj', ?_,by show o.length≤j+1;omega⟩
   show _=(List.range (j+1)).foldl _ _
   rw [hnx]
   dsimp only [zipS]
   rw [errN_1 m1,sndI_1 m1]
  ·show min _ _ - (j+1) < min _ _ - j
   omega
 ·skip
  have run:runF (9,z,ExprT.mk ek eo em ev ea,l) ins=([o],f):=by
   show ([((List.range (min (ins.getD 0 []).length (ins.getD 1 []).length)).foldl (zipS (ExprT.mk ek eo em ev ea) (ins.getD 0 []) (ins.getD 1 [])) ([],0)).1],((List.range (min (ins.getD 0 []).length (ins.getD 1 []).length)).foldl (zipS (ExprT.mk ek eo em ev ea) (ins.getD 0 []) (ins.getD 1 [])) ([],0)).2)=_
   rw [← ge m0,← hp]
  exact (MN3' (by assumption) (by assumption) hs0 (by rw [run];exact m4)).trans (by rw [run])
 ·skip
  have run:runF (9,z,ExprT.mk ek eo em ev ea,l) ins=([o],f):=by
   show ([((List.range (min (ins.getD 0 []).length (ins.getD 1 []).length)).foldl (zipS (ExprT.mk ek eo em ev ea) (ins.getD 0 []) (ins.getD 1 [])) ([],0)).1],((List.range (min (ins.getD 0 []).length (ins.getD 1 []).length)).foldl (zipS (ExprT.mk ek eo em ev ea) (ins.getD 0 []) (ins.getD 1 [])) ([],0)).2)=_
   rw [← ge m0,← hp]
  exact MN4' (by assumption) (by assumption) hs0 (by rw [run];exact m4) (by rw [run];exact m5)
 ·skip
  have run:runF (9,z,ExprT.mk ek eo em ev ea,l) ins=([o],f):=by
   show ([((List.range (min (ins.getD 0 []).length (ins.getD 1 []).length)).foldl (zipS (ExprT.mk ek eo em ev ea) (ins.getD 0 []) (ins.getD 1 [])) ([],0)).1],((List.range (min (ins.getD 0 []).length (ins.getD 1 []).length)).foldl (zipS (ExprT.mk ek eo em ev ea) (ins.getD 0 []) (ins.getD 1 [])) ([],0)).2)=_
   rw [← ge m0,← hp]
  exact (MN5' (by assumption) (by assumption) hs0 (by rw [run];exact m4) (by rw [run];exact m5)).trans (by rw [run])
end Go.Proofs.YticmijfmgmkkcaaGreat
namespace Go.Proofs.YticmijfmgmkkcaaGreat
open Go.Sx
set_option maxHeartbeats 8000000 in
theorem walk13x10:Walk13 10:=by
 intro z e l ins hc hlk
 have hl:ins.length=1:=by have h:(ins.length:Int)=1:=hlk;omega
 have hs:=chk_size hc
 obtain ⟨ek,eo,em,ev,ea⟩:=e
 refine ⟨_,callM_ok, ?_⟩
 refine (aI (by first | kernel_rfl | rfl) (aI True.intro (aI (fun h0=>(fin_of rfl (by first | exact MN0' (by assumption) | exact MN1' (by assumption) (by assumption)))) (fun h0=>(aI (by rfl) (fun h1=>(aI (fun h2=>(fin_of rfl (by first | exact MN0' (by assumption) | exact MN1' (by assumption) (by assumption)))) (fun h2=>(fun h3=>?_)))))))))
 refine ex4 _ (fun i:Nat=>⟨[.any,.sl (.sl (.int .i64)) ins,.ptr 0 0,.any,.any,.any,.any,.ptr 1 0,.any,.any,.any,.any,.any,.any,.any,.any,.any,.any,.any,.any,.any,.any,.any,.any,.any,.any,.any,.any,.sl (.sl (.int .i64)) ins,.int .i64 (↑ins.length:Int),.int .i64 (i:Int)]++nA 34,[.cells   [.int .i64 10,.int .i64 z,.int .i64 (ExprT.mk ek eo em ev ea).kind,     .int .i64 (ExprT.mk ek eo em ev ea).op,.str (ExprT.mk ek eo em ev ea).name,     .int .i64 (ExprT.mk ek eo em ev ea).value,.sl .expr (ExprT.mk ek eo em ev ea).args,     .sl (.int .i64) l],.cells   [.int .i64 1,.int .i64 0,.int .i64 0,.int .i64 0,.int .i64 0,     .sl .str [],.fn (Fn.func 107) [] [],.fn (Fn.func 93) [] []]],2⟩) (fun i=>i≤ins.length∧strF ins=strF (ins.drop i)) (fun i=>ins.length - i) (aI (Exists.intro (0) (Exists.intro ([some 0,some 1]) (aI ?_ (aI (by rfl) (aI (by rfl) (aI (aI (aI (by rfl) (by rfl)) (aI (aI (by rfl) (by rfl)) True.intro)) (by rfl))))))) ?_)
 ·exact ⟨Nat.zero_le _,rfl⟩
 rintro i ⟨hi,ht⟩
 have hin:decide ((i:Int) < (ins.length:Int))=false→(!decide (strF ins=0))=false:=fun h=>by
  have hi':¬ i < ins.length:=by simpa using h
  rw [ht,List.drop_of_length_le (by omega)];rfl
 have ix:0 < 1→0≤(0:Int)∧(0:Int) < (ins.length:Int):=fun h=>by rw [hl];omega
 have iy:1 < 1→0≤(1:Int)∧(1:Int) < (ins.length:Int):=fun h=>by rw [hl];omega
 have hst:strF ins=0→∀ j,j < ins.length→(ins.getD j (dflt tIs)).length≤200∧(ins.getD j (dflt tIs)).any notNum=false:=fun h j hj=>strF_get h hj
 refine (aI (fun k0=>(aI (by first | exact ⟨by decide,rfl,by decide,by decide⟩ | exact ix (by decide) | exact iy (by decide) | (intros;(try subst_vars);(try simp only [nB] at *);(try simp only [inK,big,lim,nL] at *);omega)) (fun k1=>(aI (fun k2=>(fin_of rfl ?_)) (fun k2=>(aI True.intro (aI (fun k3=>(fin_of rfl ?_)) (fun k3=>(aI (by first | exact ⟨by decide,rfl,by decide,by decide⟩ | exact ix (by decide) | exact iy (by decide) | (intros;(try subst_vars);(try simp only [nB] at *);(try simp only [inK,big,lim,nL] at *);omega)) ?_))))))))) (fun k0=>(aI (by first | kernel_rfl | rfl) (aI (by rfl) (aI (by first | kernel_rfl | rfl) (aI (by first | exact ⟨by decide,rfl,by decide,by decide⟩ | exact ix (by decide) | exact iy (by decide) | (intros;(try subst_vars);(try simp only [nB] at *);(try simp only [inK,big,lim,nL] at *);omega)) (aI (by first | kernel_rfl | rfl) (aI (fun k4=>nF (by kernel_rfl) k4) (fun k4=>(aI (fun k5=>nF (by kernel_rfl) k5) (fun k5=>(aI (fun k6=>nF (by kernel_rfl) k6) (fun k6=>(aI (by first | exact ⟨by decide,rfl,by decide,by decide⟩ | exact ix (by decide) | exact iy (by decide) | (intros;(try subst_vars);(try simp only [nB] at *);(try simp only [inK,big,lim,nL] at *);omega)) (fun k7=>?_)))))))))))))))
 ·have hi':i < ins.length:=by simpa using k0
  have hk:longB (ins.getD i (dflt tIs))=true:=k2
  have e4:strF ins=4:=by rw [ht,strF_drop hi',if_pos hk]
  exact (MN2' (by assumption) (by assumption) (by rw [e4];rfl)).trans (by rw [e4])
 ·have hi':i < ins.length:=by simpa using k0
  have hk:¬ longB (ins.getD i (dflt tIs))=true:=by have h:longB (ins.getD i (dflt tIs))=false:=k2;rw [h];simp
  have hk2:(ins.getD i (dflt tIs)).any notNum=true:=k3
  have e4:strF ins=2:=by rw [ht,strF_drop hi',if_neg hk,if_pos hk2]
  exact (MN2' (by assumption) (by assumption) (by rw [e4];rfl)).trans (by rw [e4])
 ·have hi':i < ins.length:=by simpa using k0
  have hk:¬ longB (ins.getD i (dflt tIs))=true:=by have h:longB (ins.getD i (dflt tIs))=false:=k2;rw [h];simp
  have hk2:¬ (ins.getD i (dflt tIs)).any notNum=true:=by have h:(ins.getD i (dflt tIs)).any notNum=false:=k3;rw [h];simp
  refine Exists.intro (i+1) (Exists.intro ([some 0,some 1]) (aI ?_ (aI ?_ (aI (by rfl) (aI (by rfl) (aI (aI (aI (by rfl) (by rfl)) (aI (aI (by rfl) (by rfl)) True.intro)) (by rfl)))))))
  ·refine ⟨hi', ?_⟩
   rw [ht,strF_drop hi',if_neg hk,if_neg hk2]
  ·show ins.length - (i+1) < ins.length - i
   omega
 have hs0:=hin k0
 clear ht hi hin
 refine ex4 _ (fun j:Nat=>⟨[.ptr 6 0,.agg   [.int .i64 1,.int .i64 0,.int .i64 0,.int .i64 0,.int .i64 0,     .sl .str [],.fn (Fn.func 107) [] [],.fn (Fn.func 93) [] []],.sl (.sl (.int .i64)) ins,.any,.ptr 7 0,.any,.any,.any,.any,.any,.any,.ptr 6 0,.any,.any,.sl (.sl (.int .i64)) ins,.eptr [PV.sl (.int .i64) (ins.getD (Int.toNat 0) (dflt (.sl (.int .i64))))],.sl (.int .i64) (ins.getD (Int.toNat 0) (dflt (.sl (.int .i64)))),.int .i64 (↑(List.length (ins.getD (Int.toNat 0) (dflt (.sl (.int .i64))))):Int),.int .i64 (j:Int),.any,.any,.any,.any,.any,.any,.any,.any,.any,.any,.any,.any,.any,.any,.any,.any,.any,.any,.any,.any,.any,.any,.any,.any,.any,.any,.bool (decide (10=8)),.any,.any,.any,.any,.any,.any,.any,.any,.any,.any,.any,.any,.any,.bool (decide (10=9)),.bool (decide (10=9))]++nA 29,[.cells   [.int .i64 10,.int .i64 z,.int .i64 (ExprT.mk ek eo em ev ea).kind,     .int .i64 (ExprT.mk ek eo em ev ea).op,.str (ExprT.mk ek eo em ev ea).name,     .int .i64 (ExprT.mk ek eo em ev ea).value,.sl .expr (ExprT.mk ek eo em ev ea).args,     .sl (.int .i64) l],.cells   [.int .i64 1,.int .i64 0,.int .i64 0,.int .i64 0,.int .i64 0,     .sl .str [],.fn (Fn.func 107) [] [],.fn (Fn.func 93) [] []],.cells   [.int .i64 10,.int .i64 z,.int .i64 (ExprT.mk ek eo em ev ea).kind,     .int .i64 (ExprT.mk ek eo em ev ea).op,.str (ExprT.mk ek eo em ev ea).name,     .int .i64 (ExprT.mk ek eo em ev ea).value,.sl .expr (ExprT.mk ek eo em ev ea).args,     .sl (.int .i64) l],.cells [.cap0,.int .i64 0,.bool false],.cells   [.int .i64 1,.int .i64 0,.int .i64 0,.int .i64 0,.int .i64 0,     .sl .str [],.fn (Fn.func 107) [] [],.fn (Fn.func 93) [] []],.cells [],.cells   [.int .i64 10,.int .i64 z,.int .i64 (ExprT.mk ek eo em ev ea).kind,     .int .i64 (ExprT.mk ek eo em ev ea).op,.str (ExprT.mk ek eo em ev ea).name,     .int .i64 (ExprT.mk ek eo em ev ea).value,.sl .expr (ExprT.mk ek eo em ev ea).args,     .sl (.int .i64) l,.cap0,.int .i64 0,.bool false,.csl tI 5 (Int.toNat 0),     .int .i64 0,.int .i64 0],.cells   [.int .i64 1,.int .i64 0,.int .i64 0,.int .i64 0,.int .i64 0,     .sl .str [],.fn (Fn.func 107) [] [],.fn (Fn.func 93) [] []]],8⟩) (fun j=>j≤(ins.getD 0 []).length) (fun j=>(ins.getD 0 []).length - j) (aI (Exists.intro (0) (Exists.intro ([some 0,some 1,some 2,some 3,some 4,some 5,some 6,some 7]) (aI ?_ (aI (by rfl) (aI (by rfl) (aI (aI (aI (by rfl) (by rfl)) (aI (aI (by rfl) (by rfl)) (aI (aI (by rfl) (by rfl)) (aI (aI (by rfl) (by rfl)) (aI (aI (by rfl) (by rfl)) (aI (aI (by rfl) (by rfl)) (aI (aI (by rfl) (by rfl)) (aI (aI (by rfl) (by rfl)) True.intro)))))))) (by rfl))))))) ?_)
 ·exact Nat.zero_le _
 rintro j hj
 refine (aI (fun m0=>(aI (by intros;(try subst_vars);(try simp only [nB] at *);(try simp only [inK,big,lim,nL] at *);omega) (aI (by first | kernel_rfl | rfl) (aI (by intros;(try subst_vars);(try simp only [nB] at *);(try simp only [inK,big,lim,nL] at *);omega) ?_)))) (fun m0=>(aI (by first | kernel_rfl | rfl) (aI (fun m1=>nF (by kernel_rfl) m1) (fun m1=>(aI True.intro (aI (fun m2=>nF (by kernel_rfl) m2) (fun m2=>(fin_of rfl ?_)))))))))
 ·have hj':j < (ins.getD 0 []).length:=by simpa using m0
  refine Exists.intro (j+1) (Exists.intro ([some 0,some 1,some 2,some 3,some 4,some 5,some 6,some 7]) (aI ?_ (aI ?_ (aI (by rfl) (aI (by rfl) (aI (aI (aI (by rfl) (by rfl)) (aI (aI (by rfl) (by rfl)) (aI (aI (by rfl) (by rfl)) (aI (aI (by rfl) (by rfl)) (aI (aI (by rfl) (by rfl)) (aI (aI (by rfl) (by rfl)) (aI (aI (by rfl) (by rfl)) (aI (aI (by rfl) (by rfl)) True.intro)))))))) (by rfl)))))))
  ·exact hj'
  ·show (ins.getD 0 []).length - (j+1) < (ins.getD 0 []).length - j
   omega
 ·have run:runF (10,z,ExprT.mk ek eo em ev ea,l) ins=([],0):=rfl
  exact (MN5' (by assumption) (by assumption) hs0 (by rw [run];rfl) (by rw [run];rfl)).trans (by rw [run])
end Go.Proofs.YticmijfmgmkkcaaGreat
namespace Go.Proofs.YticmijfmgmkkcaaGreat
open Go.Sx
def bat (z ek eo:Int) (em:ByteArray) (ev:Int) (ea:List ExprT) (l:List Int) (held:AV) (f:Int):Ob :=
 .cells [.int .i64 4,.int .i64 z,.int .i64 ek,.int .i64 eo,.str em,.int .i64 ev,.sl .expr ea,.sl tI l,held,.int .i64 0,.bool false,.csl tI 1 1,.int .i64 f,.int .i64 0]
theorem sum_next {d:List Int} {i:Nat} {s:Int × Int} {n f:Int} (h:i < d.length) (hp:(n,f)=(d.take i).foldl sumS s):(d.take (i+1)).foldl sumS s=sumS (n,f) (d.getD i 0):=by
 rw [fold_take _ _ 0 h,← hp]
theorem in_get {d:List Int} (h:∀ x∈d,inM x) (i:Nat):inM (d.getD i 0):=getD_in h i
def RelS:FuncId→List AV→List Ob→AV→List Ob→Prop:=fun g args T x1 T1 =>
 ∃ (z ek eo:Int) (em:ByteArray) (ev:Int) (ea:List ExprT) (l d o:List Int) (f:Int),d.length≤1000∧(∀ x∈d,inM x)∧o.length≤1000∧g=99∧args=[.ptr 0 0] ∧
  T=[bat z ek eo em ev ea l (.own 3) f,.cells [.own 2],.rows tI o,.rows tI d]∧x1=.tup [] ∧
  T1=[bat z ek eo em ev ea l .cap0 (batE (d,o,f)).2.2,.cells [.own 4],.dead,.rows tI d,.rows tI (batE (d,o,f)).2.1]
theorem walk99 (z ek eo:Int) (em:ByteArray) (ev:Int) (ea:List ExprT) (l d o:List Int) (f:Int) (hd:d.length≤1000) (hin:∀ x∈d,inM x) (ho:o.length≤1000) :
 callS cxM Tryz.prog (callS cxM Tryz.prog noS) 99 [.ptr 0 0] [bat z ek eo em ev ea l (.own 3) f,.cells [.own 2],.rows tI o,.rows tI d] 4
  (fun x T' n'=>∃ σ,weak 4 σ [noW x] T' n' ⟨[.tup []],[bat z ek eo em ev ea l .cap0 (batE (d,o,f)).2.2,.cells [.own 4],.dead,.rows tI d,.rows tI (batE (d,o,f)).2.1],5⟩):=by
 have room:(o.length+1) * 8≤lim:=by simp only [lim];omega
 unfold bat
 refine (aI (by first | kernel_rfl | rfl) (fun h0=>?_))
 refine ex4 _ (fun p:Nat × Int × Int=>⟨[.ptr 0 0,.any,.int .i64 p.2.1,.any,.any,.ptr 0 0,.ptr 0 0,.ptr 0 8,.ptr 0 8,.own 3,.int .i64 (↑d.length:Int),.int .i64 (p.1:Int)]++nA 27,[.cells [.int .i64 4,.int .i64 z,.int .i64 ek,.int .i64 eo,.str em,.int .i64 ev,.sl .expr ea,.sl tI l,.own 3,.int .i64 0,.bool false,.csl tI 1 1,.int .i64 p.2.2,.int .i64 0],.cells [.own 2],.rows tI o,.rows tI d],4⟩) (fun p=>p.1≤d.length∧p.2=(d.take p.1).foldl sumS (0,f)∧(-(1099511627776 * (p.1:Int))≤p.2.1∧p.2.1≤1099511627776 * (p.1:Int))) (fun p=>d.length - p.1) (aI (Exists.intro ((0,0,f)) (Exists.intro ([some 0,some 1,some 2,some 3]) (aI ?_ (aI (by rfl) (aI (by rfl) (aI (aI (aI (by rfl) (by rfl)) (aI (aI (by rfl) (by rfl)) (aI (by rfl) (aI (by rfl) True.intro)))) (by rfl))))))) ?_)
 ·exact ⟨Nat.zero_le _,rfl,by show -(1099511627776 * ((0:Nat):Int))≤0;decide,by show (0:Int)≤1099511627776 * ((0:Nat):Int);decide⟩
 rintro ⟨i,n,e⟩ ⟨hi,hp,hn⟩
 replace hi:i≤d.length:=hi
 replace hp:(n,e)=(d.take i).foldl sumS (0,f):=hp
 replace hn:-(1099511627776 * (i:Int))≤n∧n≤1099511627776 * (i:Int):=hn
 have hx:-1099511627776≤d.getD i 0∧d.getD i 0≤1099511627776:=in_get hin i
 have nr:inK .i64 (n+d.getD i 0):=by simp only [inK];omega
 have hb:-(1099511627776 * ((i+1:Nat):Int))≤n+d.getD i 0∧n+d.getD i 0≤1099511627776 * ((i+1:Nat):Int):=by omega
 refine (aI (fun m0=>(aI (by first | exact nr | exact room | (intros;(try subst_vars);(try simp only [nB] at *);(try simp only [inK,big,lim,nL] at *);omega)) (aI (by first | exact nr | exact room | (intros;(try subst_vars);(try simp only [nB] at *);(try simp only [inK,big,lim,nL] at *);omega)) (aI True.intro (aI (fun m1=>(aI (by first | exact nr | exact room | (intros;(try subst_vars);(try simp only [nB] at *);(try simp only [inK,big,lim,nL] at *);omega)) ?_)) (fun m1=>(aI (by first | exact nr | exact room | (intros;(try subst_vars);(try simp only [nB] at *);(try simp only [inK,big,lim,nL] at *);omega)) ?_))))))) (fun m0=>(aI (by first | kernel_rfl | rfl) (aI (fun m2=>(aI (by kernel_rfl) (aI (by first | exact nr | exact room | (intros;(try subst_vars);(try simp only [nB] at *);(try simp only [inK,big,lim,nL] at *);omega)) (aI (by rfl) (aI (by rfl) (aI (by rfl) (aI (by rfl) (aI (by rfl) (aI (by rfl) (aI (by rfl) (aI (by rfl) (aI (by rfl) (aI (by rfl) (aI (by first | exact nr | exact room | (intros;(try subst_vars);(try simp only [nB] at *);(try simp only [inK,big,lim,nL] at *);omega)) (aI (by rfl) (aI (by rfl) (aI (by rfl) (aI (by rfl) (aI (by rfl) (aI (by rfl) (aI (by rfl) (aI (by rfl) (aI (by rfl) (aI (by rfl) (aI (by rfl) (aI (by rfl) (aI (by rfl) (aI (by first | exact nr | exact room | (intros;(try subst_vars);(try simp only [nB] at *);(try simp only [inK,big,lim,nL] at *);omega)) (aI (by rfl) (aI (by rfl) (aI (by first | exact nr | exact room | (intros;(try subst_vars);(try simp only [nB] at *);(try simp only [inK,big,lim,nL] at *);omega)) (aI (by first | exact nr | exact room | (intros;(try subst_vars);(try simp only [nB] at *);(try simp only [inK,big,lim,nL] at *);omega)) (aI (by first | exact nr | exact room | (intros;(try subst_vars);(try simp only [nB] at *);(try simp only [inK,big,lim,nL] at *);omega)) (aI (by rfl) (aI (by rfl) (aI (by rfl) (aI (by rfl) (aI (by rfl) (aI (by rfl) ?_))))))))))))))))))))))))))))))))))))))) (fun m2=>?_)))))
 ·have hi':i < d.length:=by simpa using m0
  refine Exists.intro ((i+1,n+d.getD i 0,14)) (Exists.intro ([some 0,some 1,some 2,some 3]) (aI ?_ (aI ?_ (aI (by rfl) (aI (by rfl) (aI (aI (aI (by rfl) (by rfl)) (aI (aI (by rfl) (by rfl)) (aI (by rfl) (aI (by rfl) True.intro)))) (by rfl)))))))
  ·refine ⟨hi', ?_,hb⟩
   rw [sum_next hi' hp]
   dsimp only [sumS]
   rw [if_pos (show (bif !numB (n+d.getD i 0) then decide (e=0) else false)=true from m1)]
  ·show d.length - (i+1) < d.length - i
   omega
 ·have hi':i < d.length:=by simpa using m0
  refine Exists.intro ((i+1,n+d.getD i 0,e)) (Exists.intro ([some 0,some 1,some 2,some 3]) (aI ?_ (aI ?_ (aI (by rfl) (aI (by rfl) (aI (aI (aI (by rfl) (by rfl)) (aI (aI (by rfl) (by rfl)) (aI (by rfl) (aI (by rfl) True.intro)))) (by rfl)))))))
  ·refine ⟨hi', ?_,hb⟩
   rw [sum_next hi' hp]
   dsimp only [sumS]
   rw [if_neg (by rw [show (bif !numB (n+d.getD i 0) then decide (e=0) else false)=false from m1];simp)]
  ·show d.length - (i+1) < d.length - i
   omega
 ·have hi':¬ i < d.length:=by simpa using m0
  rw [List.take_of_length_le (by omega)] at hp
  have hb:batE (d,o,f)=([],o++[n],e):=by
   dsimp only [batE]
   rw [← hp]
   dsimp only
   rw [sndI_0 m2]
  rw [hb]
  exact ⟨[some 0,some 1,none,some 3,some 5],by rfl,by rfl,⟨⟨by rfl,by rfl⟩,⟨by rfl,by rfl⟩,by rfl,by rfl,trivial⟩,by rfl⟩
 ·have hi':¬ i < d.length:=by simpa using m0
  rw [List.take_of_length_le (by omega)] at hp
  have hb:batE (d,o,f)=([],o,e):=by
   dsimp only [batE]
   rw [← hp]
   dsimp only
   rw [sndI_1 m2]
  rw [hb]
  exact ⟨[some 0,some 1,none,some 3,some 2],by rfl,by rfl,⟨⟨by rfl,by rfl⟩,⟨by rfl,by rfl⟩,by rfl,by rfl,trivial⟩,by rfl⟩
theorem semS_rel:∀ g args T x1 T1,RelS g args T x1 T1→callS cxM Tryz.prog (callS cxM Tryz.prog noS) g args T T.length (fun x T' n'=>∃ σ,weak T.length σ [noW x] T' n' ⟨[x1],T1,T1.length⟩):=by
 rintro g args T x1 T1 ⟨z,ek,eo,em,ev,ea,l,d,o,f,hd,hin,ho,rfl,rfl,rfl,rfl,rfl⟩
 exact walk99 z ek eo em ev ea l d o f hd hin ho
theorem frameS99_ok:CallOk Tryz.prog (frameS RelS):=frame_ok (callS_good cxM_good (callS_good cxM_good no_call)) semS_rel
theorem callM4_ok:CallOk Tryz.prog (callS cxM Tryz.prog (callS cxM Tryz.prog (callS cxM Tryz.prog (condS 99 (frameS RelS) (callS cxM Tryz.prog noS))))) :=
 callS_good cxM_good (callS_good cxM_good (callS_good cxM_good (condS_ok frameS99_ok (callS_good cxM_good no_call))))
end Go.Proofs.YticmijfmgmkkcaaGreat
namespace Go.Proofs.YticmijfmgmkkcaaGreat
open Go.Sx
theorem num_in {xs:List Int} (h:xs.any notNum=false) {j:Nat} (hj:j < xs.length):inM (xs.getD j 0):=by
 have h1:=List.any_eq_false.1 h (xs.getD j 0) (by simp [List.getD_eq_getElem?_getD,List.getElem?_eq_getElem hj])
 generalize xs.getD j 0=x at *
 unfold notNum numB at h1
 unfold inM
 by_cases h2:-1099511627776≤x
 ·by_cases h3:x≤1099511627776
  ·exact ⟨h2,h3⟩
  ·rw [decide_eq_true h2,decide_eq_false h3] at h1;exact absurd rfl h1
 ·rw [decide_eq_false h2] at h1;exact absurd rfl h1
set_option maxHeartbeats 8000000 in
theorem walk13x4:Walk13 4:=by
 intro z e l ins hc hlk
 have hl:ins.length=1:=by have h:(ins.length:Int)=1:=hlk;omega
 have hs:=chk_size hc
 obtain ⟨ek,eo,em,ev,ea⟩:=e
 refine ⟨_,callM4_ok, ?_⟩
 refine (aI (by first | kernel_rfl | rfl) (aI True.intro (aI (fun h0=>(fin_of rfl (by first | exact MN0' (by assumption) | exact MN1' (by assumption) (by assumption)))) (fun h0=>(aI (by rfl) (fun h1=>(aI (fun h2=>(fin_of rfl (by first | exact MN0' (by assumption) | exact MN1' (by assumption) (by assumption)))) (fun h2=>(fun h3=>?_)))))))))
 refine ex4 _ (fun i:Nat=>⟨[.any,.sl (.sl (.int .i64)) ins,.ptr 0 0,.any,.any,.any,.any,.ptr 1 0,.any,.any,.any,.any,.any,.any,.any,.any,.any,.any,.any,.any,.any,.any,.any,.any,.any,.any,.any,.any,.sl (.sl (.int .i64)) ins,.int .i64 (↑ins.length:Int),.int .i64 (i:Int)]++nA 34,[.cells   [.int .i64 4,.int .i64 z,.int .i64 (ExprT.mk ek eo em ev ea).kind,     .int .i64 (ExprT.mk ek eo em ev ea).op,.str (ExprT.mk ek eo em ev ea).name,     .int .i64 (ExprT.mk ek eo em ev ea).value,.sl .expr (ExprT.mk ek eo em ev ea).args,     .sl (.int .i64) l],.cells   [.int .i64 1,.int .i64 1,.int .i64 1,.int .i64 100,.int .i64 0,     .sl .str [],.fn (Fn.func 97) [] [],.fn (Fn.func 98) [] []]],2⟩) (fun i=>i≤ins.length∧strF ins=strF (ins.drop i)) (fun i=>ins.length - i) (aI (Exists.intro (0) (Exists.intro ([some 0,some 1]) (aI ?_ (aI (by rfl) (aI (by rfl) (aI (aI (aI (by rfl) (by rfl)) (aI (aI (by rfl) (by rfl)) True.intro)) (by rfl))))))) ?_)
 ·exact ⟨Nat.zero_le _,rfl⟩
 rintro i ⟨hi,ht⟩
 have hin:decide ((i:Int) < (ins.length:Int))=false→(!decide (strF ins=0))=false:=fun h=>by
  have hi':¬ i < ins.length:=by simpa using h
  rw [ht,List.drop_of_length_le (by omega)];rfl
 have ix:0 < 1→0≤(0:Int)∧(0:Int) < (ins.length:Int):=fun h=>by rw [hl];omega
 have iy:1 < 1→0≤(1:Int)∧(1:Int) < (ins.length:Int):=fun h=>by rw [hl];omega
 have hst:strF ins=0→∀ j,j < ins.length→(ins.getD j (dflt tIs)).length≤200∧(ins.getD j (dflt tIs)).any notNum=false:=fun h j hj=>strF_get h hj
 refine (aI (fun k0=>(aI (by first | exact ⟨by decide,rfl,by decide,by decide⟩ | exact ix (by decide) | exact iy (by decide) | (intros;(try subst_vars);(try simp only [nB] at *);(try simp only [inK,big,lim,nL] at *);omega)) (fun k1=>(aI (fun k2=>(fin_of rfl ?_)) (fun k2=>(aI True.intro (aI (fun k3=>(fin_of rfl ?_)) (fun k3=>(aI (by first | exact ⟨by decide,rfl,by decide,by decide⟩ | exact ix (by decide) | exact iy (by decide) | (intros;(try subst_vars);(try simp only [nB] at *);(try simp only [inK,big,lim,nL] at *);omega)) ?_))))))))) (fun k0=>(aI (by first | kernel_rfl | rfl) (aI (by rfl) (aI (by first | kernel_rfl | rfl) (aI (by first | exact ⟨by decide,rfl,by decide,by decide⟩ | exact ix (by decide) | exact iy (by decide) | (intros;(try subst_vars);(try simp only [nB] at *);(try simp only [inK,big,lim,nL] at *);omega)) (aI (by first | kernel_rfl | rfl) (aI (fun k4=>nF (by kernel_rfl) k4) (fun k4=>(aI (fun k5=>nF (by kernel_rfl) k5) (fun k5=>(aI (fun k6=>nF (by kernel_rfl) k6) (fun k6=>(aI (by first | exact ⟨by decide,rfl,by decide,by decide⟩ | exact ix (by decide) | exact iy (by decide) | (intros;(try subst_vars);(try simp only [nB] at *);(try simp only [inK,big,lim,nL] at *);omega)) (fun k7=>?_)))))))))))))))
 ·have hi':i < ins.length:=by simpa using k0
  have hk:longB (ins.getD i (dflt tIs))=true:=k2
  have e4:strF ins=4:=by rw [ht,strF_drop hi',if_pos hk]
  exact (MN2' (by assumption) (by assumption) (by rw [e4];rfl)).trans (by rw [e4])
 ·have hi':i < ins.length:=by simpa using k0
  have hk:¬ longB (ins.getD i (dflt tIs))=true:=by have h:longB (ins.getD i (dflt tIs))=false:=k2;rw [h];simp
  have hk2:(ins.getD i (dflt tIs)).any notNum=true:=k3
  have e4:strF ins=2:=by rw [ht,strF_drop hi',if_neg hk,if_pos hk2]
  exact (MN2' (by assumption) (by assumption) (by rw [e4];rfl)).trans (by rw [e4])
 ·have hi':i < ins.length:=by simpa using k0
  have hk:¬ longB (ins.getD i (dflt tIs))=true:=by have h:longB (ins.getD i (dflt tIs))=false:=k2;rw [h];simp
  have hk2:¬ (ins.getD i (dflt tIs)).any notNum=true:=by have h:(ins.getD i (dflt tIs)).any notNum=false:=k3;rw [h];simp
  refine Exists.intro (i+1) (Exists.intro ([some 0,some 1]) (aI ?_ (aI ?_ (aI (by rfl) (aI (by rfl) (aI (aI (aI (by rfl) (by rfl)) (aI (aI (by rfl) (by rfl)) True.intro)) (by rfl)))))))
  ·refine ⟨hi', ?_⟩
   rw [ht,strF_drop hi',if_neg hk,if_neg hk2]
  ·show ins.length - (i+1) < ins.length - i
   omega
 have hs0:=hin k0
 have hstr:strF ins=0:=by simpa using hs0
 obtain ⟨hal,han⟩:=strF_get hstr (show 0 < ins.length by omega)
 replace hal:(ins.getD 0 []).length≤200:=hal
 replace han:(ins.getD 0 []).any notNum=false:=han
 clear ht hi hin
 refine ex4 _ (fun p:Nat × List Int × List Int × Int=>⟨[.ptr 6 0,.agg   [.int .i64 1,.int .i64 1,.int .i64 1,.int .i64 100,.int .i64 0,     .sl .str [],.fn (Fn.func 97) [] [],.fn (Fn.func 98) [] []],.sl (.sl (.int .i64)) ins,.any,.ptr 7 0,.any,.any,.any,.any,.any,.any,.ptr 6 0,.any,.any,.sl (.sl (.int .i64)) ins,.eptr [PV.sl (.int .i64) (ins.getD (Int.toNat 0) (dflt (.sl (.int .i64))))],.sl (.int .i64) (ins.getD (Int.toNat 0) (dflt (.sl (.int .i64)))),.int .i64 (↑(List.length (ins.getD (Int.toNat 0) (dflt (.sl (.int .i64))))):Int),.int .i64 (p.1:Int),.any,.any,.any,.any,.any,.any,.any,.any,.any,.any,.any,.any,.any,.any,.any,.any,.any,.any,.any,.any,.any,.any,.any,.any,.any,.any,.bool (decide (4=8)),.any,.any,.any,.any,.any,.any,.any,.any,.any,.any,.any,.any,.any,.bool (decide (4=9)),.bool (decide (4=9))]++nA 29,[.cells   [.int .i64 4,.int .i64 z,.int .i64 (ExprT.mk ek eo em ev ea).kind,     .int .i64 (ExprT.mk ek eo em ev ea).op,.str (ExprT.mk ek eo em ev ea).name,     .int .i64 (ExprT.mk ek eo em ev ea).value,.sl .expr (ExprT.mk ek eo em ev ea).args,     .sl (.int .i64) l],.cells   [.int .i64 1,.int .i64 1,.int .i64 1,.int .i64 100,.int .i64 0,     .sl .str [],.fn (Fn.func 97) [] [],.fn (Fn.func 98) [] []],.cells   [.int .i64 4,.int .i64 z,.int .i64 (ExprT.mk ek eo em ev ea).kind,     .int .i64 (ExprT.mk ek eo em ev ea).op,.str (ExprT.mk ek eo em ev ea).name,     .int .i64 (ExprT.mk ek eo em ev ea).value,.sl .expr (ExprT.mk ek eo em ev ea).args,     .sl (.int .i64) l],.cells [.cap0,.int .i64 0,.bool false],.cells   [.int .i64 1,.int .i64 1,.int .i64 1,.int .i64 100,.int .i64 0,     .sl .str [],.fn (Fn.func 97) [] [],.fn (Fn.func 98) [] []],.cells [.own 8],.cells [.int .i64 4,.int .i64 z,.int .i64 ek,.int .i64 eo,.str em,.int .i64 ev,.sl .expr ea,.sl tI l,.own 9,.int .i64 0,.bool false,.csl tI 5 1,.int .i64 p.2.2.2,.int .i64 0],.cells   [.int .i64 1,.int .i64 1,.int .i64 1,.int .i64 100,.int .i64 0,     .sl .str [],.fn (Fn.func 97) [] [],.fn (Fn.func 98) [] []],.rows tI p.2.2.1,.rows tI p.2.1],10⟩) (fun p=>p.1≤(ins.getD 0 []).length∧p.2=(((ins.getD 0 []).take p.1).foldl (batS z) ([],[],0))∧p.2.2.1.length≤p.1∧p.2.1.length≤p.1∧(∀ x∈p.2.1,inM x)) (fun p=>(ins.getD 0 []).length - p.1) (aI (Exists.intro ((0,([],[],0))) (Exists.intro ([some 0,some 1,some 2,some 3,some 4,some 5,some 6,some 7,none,none]) (aI ?_ (aI (by rfl) (aI (by rfl) (aI (aI (aI (by rfl) (by rfl)) (aI (aI (by rfl) (by rfl)) (aI (aI (by rfl) (by rfl)) (aI (aI (by rfl) (by rfl)) (aI (aI (by rfl) (by rfl)) (aI (aI (by rfl) (by rfl)) (aI (aI (by rfl) (by rfl)) (aI (aI (by rfl) (by rfl)) (aI (by rfl) (aI (by rfl) True.intro)))))))))) (by rfl))))))) ?_)
 ·exact ⟨Nat.zero_le _,rfl,Nat.le_refl _,Nat.le_refl _,fun x h=>by simp at h⟩
 rintro ⟨j,d,o,f⟩ ⟨hj,hp,ho,hd,hin2⟩
 replace hj:j≤(ins.getD 0 []).length:=hj
 replace hp:(d,o,f)=(((ins.getD 0 []).take j).foldl (batS z) ([],[],0)):=hp
 have hnx:j < (ins.getD 0 []).length→((ins.getD 0 []).take (j+1)).foldl (batS z) ([],[],0)=batS z (d,o,f) ((ins.getD 0 []).getD j 0):=fun h=>by
  rw [fold_take _ _ 0 h,← hp]
 have hen:decide ((j:Int) < ((ins.getD 0 []).length:Int))=false→(ins.getD 0 []).foldl (batS z) ([],[],0)=(d,o,f):=fun h=>by
  have h':¬ j < (ins.getD 0 []).length:=by simpa using h
  rw [hp,List.take_of_length_le (by omega)]
 replace ho:o.length≤j:=ho
 have room:(o.length+1) * 8≤lim:=by simp only [lim];omega
 replace hd:d.length≤j:=hd
 replace hin2:∀ x∈d,inM x:=hin2
 have hd1:d.length≤1000:=by omega
 have room3:(d.length+1) * 8≤lim:=by simp only [lim];omega
 have hin3:j < (ins.getD 0 []).length→∀ x∈d++[(ins.getD 0 []).getD j 0],inM x:=fun h x hx=>by
  rcases List.mem_append.1 hx with h1 | h1
  ·exact hin2 x h1
  ·rw [List.mem_singleton.1 h1]
   exact num_in han h
 refine (aI (fun m0=>(aI (by first | exact room | exact room3 | exact hd1 | (intros;(try subst_vars);(try simp only [nB] at *);(try simp only [inK,big,lim,nL] at *);omega)) (aI (by first | kernel_rfl | rfl) (aI (by first | exact room | exact room3 | exact hd1 | (intros;(try subst_vars);(try simp only [nB] at *);(try simp only [inK,big,lim,nL] at *);omega)) (aI (by first | exact room | exact room3 | exact hd1 | (intros;(try subst_vars);(try simp only [nB] at *);(try simp only [inK,big,lim,nL] at *);omega)) (aI (by first | kernel_rfl | rfl) (fun m1=>(aI (fun m2=>(aI True.intro ?_)) (fun m2=>(aI (by first | exact room | exact room3 | exact hd1 | (intros;(try subst_vars);(try simp only [nB] at *);(try simp only [inK,big,lim,nL] at *);omega)) ?_)))))))))) (fun m0=>(aI (by first | kernel_rfl | rfl) (fun m3=>(aI (fun m4=>(aI True.intro ?_)) (fun m4=>(aI (fun m5=>(aI (by first | kernel_rfl | rfl) (fin_of rfl ?_))) (fun m5=>(aI True.intro (aI (fun m6=>(fin_of rfl ?_)) (fun m6=>(fin_of rfl ?_))))))))))))
 ·have hj':j < (ins.getD 0 []).length:=by simpa using m0
  have hbs:batS z (d,o,f) ((ins.getD 0 []).getD j 0)=batE (d++[((ins.getD 0 []).getD j 0)],o,f):=by
   dsimp only [batS]
   rw [if_pos (show decide (((d++[((ins.getD 0 []).getD j 0)]).length:Int)=z)=true from m2)]
  refine Exists.intro [.ptr 0 0] (Exists.intro [bat z ek eo em ev ea l (.own 3) f,.cells [.own 2],.rows tI o,.rows tI (d++[((ins.getD 0 []).getD j 0)])] (Exists.intro (.tup []) (Exists.intro [bat z ek eo em ev ea l .cap0 (batE ((d++[((ins.getD 0 []).getD j 0)]),o,f)).2.2,.cells [.own 4],.dead,.rows tI (d++[((ins.getD 0 []).getD j 0)]),.rows tI (batE ((d++[((ins.getD 0 []).getD j 0)]),o,f)).2.1] (Exists.intro [some 6,some 5,some 8,some 12]
   ⟨⟨z,ek,eo,em,ev,ea,l,(d++[((ins.getD 0 []).getD j 0)]),o,f,by simp;omega,hin3 hj',by omega,rfl,rfl,rfl,rfl,rfl⟩,⟨by rfl,by rfl,⟨⟨by rfl,by rfl⟩,⟨by rfl,by rfl⟩,by rfl,by rfl,trivial⟩,by rfl⟩,by rfl, ?_⟩))))
  have hlen:(batE (d++[((ins.getD 0 []).getD j 0)],o,f)).2.1.length≤o.length+1:=sndI_len _ _ _
  have hfst:(batE (d++[((ins.getD 0 []).getD j 0)],o,f)).1=[]:=rfl
  obtain ⟨b,hb⟩ : ∃ b,batE (d++[((ins.getD 0 []).getD j 0)],o,f)=b:=⟨_,rfl⟩
  rw [hb] at hbs hlen hfst
  rw [hb]
  obtain ⟨b1,b2,b3⟩:=b
  replace hfst:b1=[]:=hfst
  subst hfst
  dsimp only [bat,putL,renObs,renOb,renAL,renA,setN,getN,newN,List.length_cons,List.length_nil,List.cons_append,List.nil_append,Nat.reduceAdd,Nat.reduceSub]
  refine (aI (by intros;(try subst_vars);(try simp only [nB] at *);(try simp only [inK,big,lim,nL] at *);omega) ?_)
  refine Exists.intro ((j+1,[],b2,b3)) (Exists.intro ([some 0,some 1,some 2,some 3,some 4,some 5,some 6,some 7,some 13,none]) (aI ?_ (aI ?_ (aI (by rfl) (aI (by rfl) (aI (aI (aI (by rfl) (by rfl)) (aI (aI (by rfl) (by rfl)) (aI (aI (by rfl) (by rfl)) (aI (aI (by rfl) (by rfl)) (aI (aI (by rfl) (by rfl)) (aI (aI (by rfl) (by rfl)) (aI (aI (by rfl) (by rfl)) (aI (aI (by rfl) (by rfl)) (aI (by rfl) (aI (by rfl) True.intro)))))))))) (by rfl)))))))
  ·refine ⟨hj', ?_,by show b2.length≤j+1;have h:b2.length≤o.length+1:=hlen;omega,Nat.zero_le _,fun x h=>by simp at h⟩
   show _=((ins.getD 0 []).take (j+1)).foldl _ _
   rw [hnx hj',hbs]
  ·show (ins.getD 0 []).length - (j+1) < (ins.getD 0 []).length - j
   omega
 ·have hj':j < (ins.getD 0 []).length:=by simpa using m0
  have hbs:batS z (d,o,f) ((ins.getD 0 []).getD j 0)=(d++[((ins.getD 0 []).getD j 0)],o,f):=by
   dsimp only [batS]
   rw [if_neg (by rw [show decide (((d++[((ins.getD 0 []).getD j 0)]).length:Int)=z)=false from m2];simp)]
  refine Exists.intro ((j+1,d++[((ins.getD 0 []).getD j 0)],o,f)) (Exists.intro ([some 0,some 1,some 2,some 3,some 4,some 5,some 6,some 7,some 8,some 12]) (aI ?_ (aI ?_ (aI (by rfl) (aI (by rfl) (aI (aI (aI (by rfl) (by rfl)) (aI (aI (by rfl) (by rfl)) (aI (aI (by rfl) (by rfl)) (aI (aI (by rfl) (by rfl)) (aI (aI (by rfl) (by rfl)) (aI (aI (by rfl) (by rfl)) (aI (aI (by rfl) (by rfl)) (aI (aI (by rfl) (by rfl)) (aI (by rfl) (aI (by rfl) True.intro)))))))))) (by rfl)))))))
  ·refine ⟨hj', ?_,by show o.length≤j+1;omega,by show (d++[_]).length≤j+1;simp;omega,hin3 hj'⟩
   show _=((ins.getD 0 []).take (j+1)).foldl _ _
   rw [hnx hj',hbs]
  ·show (ins.getD 0 []).length - (j+1) < (ins.getD 0 []).length - j
   omega
 ·have hbr:batR (d,o,f)=batE (d,o,f):=by
   dsimp only [batR]
   rw [if_pos (show decide (0 < (d.length:Int))=true from m4)]
  refine Exists.intro [.ptr 0 0] (Exists.intro [bat z ek eo em ev ea l (.own 3) f,.cells [.own 2],.rows tI o,.rows tI d] (Exists.intro (.tup []) (Exists.intro [bat z ek eo em ev ea l .cap0 (batE (d,o,f)).2.2,.cells [.own 4],.dead,.rows tI d,.rows tI (batE (d,o,f)).2.1] (Exists.intro [some 6,some 5,some 8,some 9]
   ⟨⟨z,ek,eo,em,ev,ea,l,d,o,f,hd1,hin2,by omega,rfl,rfl,rfl,rfl,rfl⟩,⟨by rfl,by rfl,⟨⟨by rfl,by rfl⟩,⟨by rfl,by rfl⟩,by rfl,by rfl,trivial⟩,by rfl⟩,by rfl, ?_⟩))))
  obtain ⟨b,hb⟩ : ∃ b,batE (d,o,f)=b:=⟨_,rfl⟩
  rw [hb] at hbr
  rw [hb]
  obtain ⟨b1,b2,b3⟩:=b
  dsimp only [bat,putL,renObs,renOb,renAL,renA,setN,getN,newN,List.length_cons,List.length_nil,List.cons_append,List.nil_append,Nat.reduceAdd,Nat.reduceSub]
  have run:runF (4,z,ExprT.mk ek eo em ev ea,l) ins=([b2],b3):=by
   show ([(batR ((ins.getD 0 []).foldl (batS z) ([],[],0))).2.1],(batR ((ins.getD 0 []).foldl (batS z) ([],[],0))).2.2)=_
   rw [hen m0,hbr]
  refine (aI (fun w0=>(aI (by first | kernel_rfl | rfl) (fin_of rfl ?_))) (fun w0=>(aI True.intro (aI (fun w1=>(fin_of rfl ?_)) (fun w1=>(fin_of rfl ?_))))))
  ·exact (MN3' (by assumption) (by assumption) hs0 (by rw [run];exact w0)).trans (by rw [run])
  ·exact MN4' (by assumption) (by assumption) hs0 (by rw [run];exact w0) (by rw [run];exact w1)
  ·exact (MN5' (by assumption) (by assumption) hs0 (by rw [run];exact w0) (by rw [run];exact w1)).trans (by rw [run])
 ·skip
  have run:runF (4,z,ExprT.mk ek eo em ev ea,l) ins=([o],f):=by
   show ([(batR ((ins.getD 0 []).foldl (batS z) ([],[],0))).2.1],(batR ((ins.getD 0 []).foldl (batS z) ([],[],0))).2.2)=_
   have hbr:batR (d,o,f)=(d,o,f):=by
    dsimp only [batR]
    rw [if_neg (by rw [show decide (0 < (d.length:Int))=false from m4];simp)]
   rw [hen m0,hbr]
  exact (MN3' (by assumption) (by assumption) hs0 (by rw [run];exact m5)).trans (by rw [run])
 ·skip
  have run:runF (4,z,ExprT.mk ek eo em ev ea,l) ins=([o],f):=by
   show ([(batR ((ins.getD 0 []).foldl (batS z) ([],[],0))).2.1],(batR ((ins.getD 0 []).foldl (batS z) ([],[],0))).2.2)=_
   have hbr:batR (d,o,f)=(d,o,f):=by
    dsimp only [batR]
    rw [if_neg (by rw [show decide (0 < (d.length:Int))=false from m4];simp)]
   rw [hen m0,hbr]
  exact MN4' (by assumption) (by assumption) hs0 (by rw [run];exact m5) (by rw [run];exact m6)
 ·skip
  have run:runF (4,z,ExprT.mk ek eo em ev ea,l) ins=([o],f):=by
   show ([(batR ((ins.getD 0 []).foldl (batS z) ([],[],0))).2.1],(batR ((ins.getD 0 []).foldl (batS z) ([],[],0))).2.2)=_
   have hbr:batR (d,o,f)=(d,o,f):=by
    dsimp only [batR]
    rw [if_neg (by rw [show decide (0 < (d.length:Int))=false from m4];simp)]
   rw [hen m0,hbr]
  exact (MN5' (by assumption) (by assumption) hs0 (by rw [run];exact m5) (by rw [run];exact m6)).trans (by rw [run])
end Go.Proofs.YticmijfmgmkkcaaGreat
namespace Go.Proofs.YticmijfmgmkkcaaGreat
open Go.Sx
def c13:Ctr:=fnC [dSt,dIss] rIssI (fun _=>True) (fun y=>((meanF y.1 y.2.1).1,(meanF y.1 y.2.1).2,()))
theorem walk13n (z ek eo:Int) (em:ByteArray) (ev:Int) (ea:List ExprT) (l:List Int) (ins:List (List Int)) (k:Int) (hk:1≤k∧k≤10) (hn:(ins.length:Int)≠(knownF k).1) :
 callS cxM Tryz.prog (callS cxM Tryz.prog noS) 13 (toAVs [dSt,dIss] ((k,z,ExprT.mk ek eo em ev ea,l),ins,())) [] 0 (finK ⟨none,none,[],resAV rIssI ((meanF (k,z,ExprT.mk ek eo em ev ea,l) ins).1,(meanF (k,z,ExprT.mk ek eo em ev ea,l) ins).2,())⟩):=by
 have ab:∀ n:Int,(knownF k).1=n→(!decide ((ins.length:Int)=n))=false→False:=fun n h h'=>hn (by rw [h];simpa using h')
 have h:=kinds hk
 clear hk hn
 rcases h with rfl | rfl | rfl | rfl | rfl | rfl | rfl | rfl | rfl | rfl
 ·refine (aI (by first | kernel_rfl | rfl) (aI True.intro (aI (fun h0=>(fin_of rfl (by first | exact MN0' (by assumption) | exact MN1' (by assumption) (by assumption)))) (fun h0=>(aI (by rfl) (fun h1=>(aI (fun h2=>(fin_of rfl (by first | exact MN0' (by assumption) | exact MN1' (by assumption) (by assumption)))) (fun h2=>(fun h3=>?_)))))))))
  exact (ab _ rfl h2).elim
 ·refine (aI (by first | kernel_rfl | rfl) (aI True.intro (aI (fun h0=>(fin_of rfl (by first | exact MN0' (by assumption) | exact MN1' (by assumption) (by assumption)))) (fun h0=>(aI (by rfl) (fun h1=>(aI (fun h2=>(fin_of rfl (by first | exact MN0' (by assumption) | exact MN1' (by assumption) (by assumption)))) (fun h2=>(fun h3=>?_)))))))))
  exact (ab _ rfl h2).elim
 ·refine (aI (by first | kernel_rfl | rfl) (aI True.intro (aI (fun h0=>(fin_of rfl (by first | exact MN0' (by assumption) | exact MN1' (by assumption) (by assumption)))) (fun h0=>(aI (by rfl) (fun h1=>(aI (fun h2=>(fin_of rfl (by first | exact MN0' (by assumption) | exact MN1' (by assumption) (by assumption)))) (fun h2=>(fun h3=>?_)))))))))
  exact (ab _ rfl h2).elim
 ·refine (aI (by first | kernel_rfl | rfl) (aI True.intro (aI (fun h0=>(fin_of rfl (by first | exact MN0' (by assumption) | exact MN1' (by assumption) (by assumption)))) (fun h0=>(aI (by rfl) (fun h1=>(aI (fun h2=>(fin_of rfl (by first | exact MN0' (by assumption) | exact MN1' (by assumption) (by assumption)))) (fun h2=>(fun h3=>?_)))))))))
  exact (ab _ rfl h2).elim
 ·refine (aI (by first | kernel_rfl | rfl) (aI True.intro (aI (fun h0=>(fin_of rfl (by first | exact MN0' (by assumption) | exact MN1' (by assumption) (by assumption)))) (fun h0=>(aI (by rfl) (fun h1=>(aI (fun h2=>(fin_of rfl (by first | exact MN0' (by assumption) | exact MN1' (by assumption) (by assumption)))) (fun h2=>(fun h3=>?_)))))))))
  exact (ab _ rfl h2).elim
 ·refine (aI (by first | kernel_rfl | rfl) (aI True.intro (aI (fun h0=>(fin_of rfl (by first | exact MN0' (by assumption) | exact MN1' (by assumption) (by assumption)))) (fun h0=>(aI (by rfl) (fun h1=>(aI (fun h2=>(fin_of rfl (by first | exact MN0' (by assumption) | exact MN1' (by assumption) (by assumption)))) (fun h2=>(fun h3=>?_)))))))))
  exact (ab _ rfl h2).elim
 ·refine (aI (by first | kernel_rfl | rfl) (aI True.intro (aI (fun h0=>(fin_of rfl (by first | exact MN0' (by assumption) | exact MN1' (by assumption) (by assumption)))) (fun h0=>(aI (by rfl) (fun h1=>(aI (fun h2=>(fin_of rfl (by first | exact MN0' (by assumption) | exact MN1' (by assumption) (by assumption)))) (fun h2=>(fun h3=>?_)))))))))
  exact (ab _ rfl h2).elim
 ·refine (aI (by first | kernel_rfl | rfl) (aI True.intro (aI (fun h0=>(fin_of rfl (by first | exact MN0' (by assumption) | exact MN1' (by assumption) (by assumption)))) (fun h0=>(aI (by rfl) (fun h1=>(aI (fun h2=>(fin_of rfl (by first | exact MN0' (by assumption) | exact MN1' (by assumption) (by assumption)))) (fun h2=>(fun h3=>?_)))))))))
  exact (ab _ rfl h2).elim
 ·refine (aI (by first | kernel_rfl | rfl) (aI True.intro (aI (fun h0=>(fin_of rfl (by first | exact MN0' (by assumption) | exact MN1' (by assumption) (by assumption)))) (fun h0=>(aI (by rfl) (fun h1=>(aI (fun h2=>(fin_of rfl (by first | exact MN0' (by assumption) | exact MN1' (by assumption) (by assumption)))) (fun h2=>(fun h3=>?_)))))))))
  exact (ab _ rfl h2).elim
 ·refine (aI (by first | kernel_rfl | rfl) (aI True.intro (aI (fun h0=>(fin_of rfl (by first | exact MN0' (by assumption) | exact MN1' (by assumption) (by assumption)))) (fun h0=>(aI (by rfl) (fun h1=>(aI (fun h2=>(fin_of rfl (by first | exact MN0' (by assumption) | exact MN1' (by assumption) (by assumption)))) (fun h2=>(fun h3=>?_)))))))))
  exact (ab _ rfl h2).elim
theorem good13:GoodC Tryz.prog 13 c13:=by
 refine goodG _ _ _ _ ⟨_,Tryz.func13,rfl,rfl⟩ fun (⟨⟨k,z,⟨ek,eo,em,ev,ea⟩,l⟩,ins,_⟩ : StT × List (List Int) × Unit) _=>?_
 by_cases hc:stChk (k,z,ExprT.mk ek eo em ev ea,l)=0
 ·have hk:=chk_kind hc
  by_cases hn:(ins.length:Int)=(knownF k).1
  ·have h:=kinds hk
   clear hk
   rcases h with rfl | rfl | rfl | rfl | rfl | rfl | rfl | rfl | rfl | rfl
   ·exact walk13x1 z _ l ins hc hn
   ·exact walk13x2 z _ l ins hc hn
   ·exact walk13x3 z _ l ins hc hn
   ·exact walk13x4 z _ l ins hc hn
   ·exact walk13x5 z _ l ins hc hn
   ·exact walk13x6 z _ l ins hc hn
   ·exact walk13x7 z _ l ins hc hn
   ·exact walk13x8 z _ l ins hc hn
   ·exact walk13x9 z _ l ins hc hn
   ·exact walk13x10 z _ l ins hc hn
  ·exact ⟨_,callS_good cxM_good (callS_good cxM_good no_call),walk13n z ek eo em ev ea l ins k hk hn⟩
 ·refine ⟨_,callS_good cxJ0_good no_call, ?_⟩
  have ab:(!decide (stChk (k,z,ExprT.mk ek eo em ev ea,l)=0))=false→False:=fun h=>hc (by simpa using h)
  refine (aI (by first | kernel_rfl | rfl) (aI True.intro (aI (fun h0=>(fin_of rfl (by exact MN0' (by assumption)))) (fun h0=>?_))))
  exact (ab h0).elim
end Go.Proofs.YticmijfmgmkkcaaGreat
