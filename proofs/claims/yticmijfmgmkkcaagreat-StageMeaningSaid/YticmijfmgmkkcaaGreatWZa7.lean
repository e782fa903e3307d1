import Derived.Test.YticmijfmgmkkcaaGreatWZa6
set_option linter.unusedSimpArgs false
set_option linter.unusedVariables false
set_option maxRecDepth 100000
namespace Go.Proofs.YticmijfmgmkkcaaGreat
open Go.Sx
theorem take_ext_next {α:Type} {xs ys:List α} {i:Nat} {d:α} (h1:i < xs.length) (h2:i < ys.length) (h:xs.take i=ys.take i) (hd:xs.getD i d=ys.getD i d):xs.take (i+1)=ys.take (i+1):=take_ext_succ h1 h2 h hd
def c47:Ctr:=fnC [dIs,dIs] rB (fun _=>True) (fun y=>(decide (y.1=y.2.1),()))
theorem good47:GoodC Tryz.prog 47 c47:=by
 refine goodF cx0_good 3 _ _ _ _ ⟨_,Tryz.func47,rfl,rfl⟩ fun (⟨xs,ys,_⟩ : List Int × List Int × Unit) _=>?_
 refine (aI (by first | kernel_rfl | rfl) (fun h0=>(fun h1=>(aI (fun h2=>(fin_of rfl ?_)) (fun h2=>?_)))))
 ·have hl:xs≠ys:=fun e=>by
   have h:(!decide ((xs.length:Int)=(ys.length:Int)))=true:=h2
   rw [e] at h;simp at h
  show (decide (xs=ys),())=(false,())
  rw [decide_eq_false hl]
 have hl:xs.length=ys.length:=by
  have h:(!decide ((xs.length:Int)=(ys.length:Int)))=false:=h2
  have:(xs.length:Int)=ys.length:=by simpa using h
  omega
 refine ex4 _ (fun i:Nat=>⟨[.sl (.int .i64) xs,.sl (.int .i64) ys,.any,.any,.any,.int .i64 (i:Int),.any,.any,.any,.any,.any,.any,.any,.any,.any,.any,.any,.any,.any,.any,.any,.any,.any,.any,.any,.any],[],0⟩) (fun i=>i≤xs.length∧xs.take i=ys.take i) (fun i=>xs.length - i) (aI (Exists.intro (0) (Exists.intro ([]) (aI ?_ (aI (by rfl) (aI (by rfl) (aI True.intro (by rfl))))))) ?_)
 ·simp
 rintro i ⟨hi,ht⟩
 refine (fun k0=>(aI (fun k1=>(aI (by first | kernel_rfl | rfl) (aI (by intros;(try subst_vars);(try simp only [nB] at *);(try simp only [inK,big,lim,nL] at *);omega) (aI (by intros;(try subst_vars);(try simp only [nB] at *);(try simp only [inK,big,lim,nL] at *);omega) (aI (fun k2=>(fin_of rfl ?_)) (fun k2=>(aI (by intros;(try subst_vars);(try simp only [nB] at *);(try simp only [inK,big,lim,nL] at *);omega) ?_))))))) (fun k1=>(fin_of rfl ?_))))
 ·have hi':i < xs.length:=by simpa using k1
  have hk:¬ xs.getD i (dflt tI)=ys.getD i (dflt tI):=by have h:=k2;simpa using h
  have hne:xs≠ys:=fun e=>hk (by rw [e])
  show (decide (xs=ys),())=(false,())
  rw [decide_eq_false hne]
 ·have hi':i < xs.length:=by simpa using k1
  have hk:xs.getD i (dflt tI)=ys.getD i (dflt tI):=by have h:=k2;simpa using h
  refine Exists.intro (i+1) (Exists.intro ([]) (aI ?_ (aI ?_ (aI (by rfl) (aI (by rfl) (aI True.intro (by rfl)))))))
  ·exact ⟨hi',take_ext_succ hi' (hl ▸ hi') ht hk⟩
  ·show xs.length - (i+1) < xs.length - i
   omega
 ·have hi':¬ i < xs.length:=by simpa using k1
  have he:xs=ys:=by
   rw [List.take_of_length_le (by omega),List.take_of_length_le (by omega)] at ht
   exact ht
  show (decide (xs=ys),())=(true,())
  rw [decide_eq_true he]
def cxO1:Ctx:=⟨tys0,[(47,([],c47))]⟩
theorem cxO1_good:GoodCtx Tryz.prog cxO1:=cx_cons good47 cx0_good
def c14:Ctr:=fnC [dIss,dIss] rB (fun _=>True) (fun y=>(decide (y.1=y.2.1),()))
theorem good14:GoodC Tryz.prog 14 c14:=by
 refine goodF cxO1_good 3 _ _ _ _ ⟨_,Tryz.func14,rfl,rfl⟩ fun (⟨xs,ys,_⟩ : List (List Int) × List (List Int) × Unit) _=>?_
 refine (aI (by first | kernel_rfl | rfl) (fun h0=>(fun h1=>(aI (fun h2=>(fin_of rfl ?_)) (fun h2=>?_)))))
 ·have hl:xs≠ys:=fun e=>by
   have h:(!decide ((xs.length:Int)=(ys.length:Int)))=true:=h2
   rw [e] at h;simp at h
  show (decide (xs=ys),())=(false,())
  rw [decide_eq_false hl]
 have hl:xs.length=ys.length:=by
  have h:(!decide ((xs.length:Int)=(ys.length:Int)))=false:=h2
  have:(xs.length:Int)=ys.length:=by simpa using h
  omega
 refine ex4 _ (fun i:Nat=>⟨[.sl (.sl (.int .i64)) xs,.sl (.sl (.int .i64)) ys,.any,.any,.any,.int .i64 (i:Int),.any,.any,.any,.any,.any,.any,.any,.any,.any,.any,.any,.any,.any,.any,.any,.any,.any,.any,.any,.any,.any],[],0⟩) (fun i=>i≤xs.length∧xs.take i=ys.take i) (fun i=>xs.length - i) (aI (Exists.intro (0) (Exists.intro ([]) (aI ?_ (aI (by rfl) (aI (by rfl) (aI True.intro (by rfl))))))) ?_)
 ·simp
 rintro i ⟨hi,ht⟩
 refine (fun k0=>(aI (fun k1=>(aI (by first | kernel_rfl | rfl) (aI (by intros;(try subst_vars);(try simp only [nB] at *);(try simp only [inK,big,lim,nL] at *);omega) (aI (by intros;(try subst_vars);(try simp only [nB] at *);(try simp only [inK,big,lim,nL] at *);omega) (aI True.intro (aI (fun k2=>(fin_of rfl ?_)) (fun k2=>(aI (by intros;(try subst_vars);(try simp only [nB] at *);(try simp only [inK,big,lim,nL] at *);omega) ?_)))))))) (fun k1=>(fin_of rfl ?_))))
 ·have hi':i < xs.length:=by simpa using k1
  have hk:¬ xs.getD i (dflt tIs)=ys.getD i (dflt tIs):=by
   have h:(!decide (xs.getD i (dflt tIs)=ys.getD i (dflt tIs)))=true:=k2
   simpa using h
  have hne:xs≠ys:=fun e=>hk (by rw [e])
  show (decide (xs=ys),())=(false,())
  rw [decide_eq_false hne]
 ·have hi':i < xs.length:=by simpa using k1
  have hk:xs.getD i (dflt tIs)=ys.getD i (dflt tIs):=by
   have h:(!decide (xs.getD i (dflt tIs)=ys.getD i (dflt tIs)))=false:=k2
   simpa using h
  refine Exists.intro (i+1) (Exists.intro ([]) (aI ?_ (aI ?_ (aI (by rfl) (aI (by rfl) (aI True.intro (by rfl)))))))
  ·exact ⟨hi',take_ext_succ hi' (hl ▸ hi') ht hk⟩
  ·show xs.length - (i+1) < xs.length - i
   omega
 ·have hi':¬ i < xs.length:=by simpa using k1
  have he:xs=ys:=by
   rw [List.take_of_length_le (by omega),List.take_of_length_le (by omega)] at ht
   exact ht
  show (decide (xs=ys),())=(true,())
  rw [decide_eq_true he]
def grtF (x:StT) (ins:List (List Int)):Bool:=bif (bif stGreat x then true else decide (4 < (ins.length:Int))) then true else ins.any midB
def cxO2:Ctx:=⟨tys0,[(29,([],c29)),(37,([],c37))]⟩
theorem cxO2_good:GoodCtx Tryz.prog cxO2:=cx_cons good29 (cx_cons good37 cx0_good)
def c11:Ctr:=fnC [dSt,dIss] rB (fun _=>True) (fun y=>(grtF y.1 y.2.1,()))
theorem good11:GoodC Tryz.prog 11 c11:=by
 refine goodF cxO2_good 3 _ _ _ _ ⟨_,Tryz.func11,rfl,rfl⟩ fun (⟨⟨k,z,⟨ek,eo,em,ev,ea⟩,l⟩,ins,_⟩ : StT × List (List Int) × Unit) _=>?_
 refine (aI (by first | kernel_rfl | rfl) (aI True.intro (fun h0=>(aI (fun h1=>True.intro) (fin_of rfl (by rfl))))))
def zeroE:ExprT:=.mk 0 0 ⟨#[]⟩ 0 []
def prodE:ExprT:=.mk 4 5 ⟨#[]⟩ 0 [.mk 2 0 ⟨#[120]⟩ 0 [],.mk 2 0 ⟨#[121]⟩ 0 []]
theorem ex4m:meanF (4,2,zeroE,[]) [[1,2,3]]=([[3,3]],0):=by kernel_rfl
theorem ex8m:meanF (8,0,zeroE,[]) [[1,2,3],[4]]=([[1,4,2,3]],0):=by kernel_rfl
theorem exNm:exNames prodE=nmXY:=by
 have h1:exChk prodE=0:=by kernel_rfl
 have h2:namT prodE=nmXY:=by kernel_rfl
 have h3:sortB nmXY=nmXY:=by
  unfold sortB
  rw [List.mergeSort_of_pairwise]
  ·rfl
  ·decide
 rw [exNames,if_pos h1,h2,h3]
 show uniqB nmXY=nmXY
 decide
theorem ex9c:stChk (9,0,prodE,[])=0:=by
 have h1:chkH (knownF 9) (9,0,prodE,[])=chkX nmXY 1 prodE:=by kernel_rfl
 rw [stChk_in (by decide) (by decide)]
 show chkH (knownF 9) (9,0,prodE,[])=0
 rw [h1,chkX,exNm]
 kernel_rfl
theorem ex9m:meanF (9,0,prodE,[]) [[1,2,3],[4,5]]=([[4,10]],0):=by
 have h:runF (9,0,prodE,[]) [[1,2,3],[4,5]]=([[4,10]],0):=by kernel_rfl
 rw [MN5 (by rw [ex9c];rfl) (by rfl) (by rfl) (by rw [h];rfl) (by rw [h];rfl),h]
def awTab:List (AK.dens [dSt,dIss] × Rens rIssI):=[(((4,2,zeroE,[]),[[1,2,3]],()),([[3,3]],0,())),(((8,0,zeroE,[]),[[1,2,3],[4]],()),([[1,4,2,3]],0,())),(((9,0,prodE,[]),[[1,2,3],[4,5]],()),([[4,10]],0,()))]
def c13k:Ctr:=pickC [dSt,dIss] rIssI (fun y=>y.1.1.toNat - 7) awTab
theorem good13k:GoodC Tryz.prog 13 c13k:=by
 refine good_pick good13 _ awTab fun p hp=>?_
 simp only [awTab,List.mem_cons,List.not_mem_nil,or_false] at hp
 rcases hp with rfl | rfl | rfl
 ·exact ⟨trivial,by rw [ex4m]⟩
 ·exact ⟨trivial,by rw [ex8m]⟩
 ·exact ⟨trivial,by rw [ex9m]⟩
def tysO:List (TypeId × Ty):=(28,tIss) :: tys0
def cxO3:Ctx:=⟨tysO,[(13,([],c13k)),(14,([],c14))]⟩
theorem cxO3_good:GoodCtx Tryz.prog cxO3:=cx_ty (cx_cons good13k (cx_cons good14 cx0_good))
def c12:Ctr:=fnC [] rB (fun _=>True) (fun _=>(true,()))
theorem good12:GoodC Tryz.prog 12 c12:=by
 refine goodF cxO3_good 4 _ _ _ _ ⟨_,Tryz.func12,rfl,rfl⟩ fun y _=>?_
 refine (aI (by first | kernel_rfl | rfl) (aI (by rfl) (aI (by rfl) (aI (by first | kernel_rfl | rfl) (aI (by rfl) (aI (fun h0=>True.intro) (aI (fun h1=>True.intro) (aI (fun h2=>True.intro) (fin_of rfl (by rfl))))))))))
end Go.Proofs.YticmijfmgmkkcaaGreat
namespace Go.Proofs.YticmijfmgmkkcaaGreat
open Go.Sx
theorem errN_z {f g:Int} (h:errN f g=0):f=0∧g=0:=by
 unfold errN at h
 split at h
 ·rename_i h1;exact ⟨of_decide_eq_true h1,h⟩
 ·rename_i h1;exact absurd h (by simpa using h1)
theorem sndI_z (o:List Int) (v:Int):sndI 0 o v=o++[v]:=rfl
theorem errN_00:errN 0 0=0:=rfl
def val1 (e:ExprT) (a:Int):Int:=(evX e nmX a 0).1
def err1 (e:ExprT) (a:Int):Int:=(evX e nmX a 0).2
theorem map_fold (e:ExprT):∀ (l o:List Int) (f:Int),(l.foldl (mapS e) (o,f)).2=0↔(f=0∧∀ a∈l,err1 e a=0)
 | [],o,f=>by simp
 | a :: l,o,f=>by
  rw [List.foldl_cons]
  show (l.foldl (mapS e) (_,errN f (err1 e a))).2=0↔_
  rw [map_fold e l]
  constructor
  ·rintro ⟨h1,h2⟩
   obtain ⟨h3,h4⟩:=errN_z h1
   exact ⟨h3,by simp only [List.mem_cons];rintro b (rfl | h);exact h4;exact h2 b h⟩
  ·rintro ⟨h1,h2⟩
   refine ⟨by rw [h1,h2 a (by simp)];rfl,fun b hb=>h2 b (by simp [hb])⟩
theorem map_out (e:ExprT):∀ (l o:List Int),(∀ a∈l,err1 e a=0)→l.foldl (mapS e) (o,0)=(o++l.map (val1 e),0)
 | [],o,_=>by simp
 | a :: l,o,h=>by
  have ha:(evX e nmX a 0).2=0:=h a (by simp)
  have hs:mapS e (o,0) a=(o++[val1 e a],0):=by
   dsimp only [mapS]
   rw [ha];rfl
  rw [List.foldl_cons,hs,map_out e l _ (fun b hb=>h b (by simp [hb]))]
  simp
theorem fil_fold (e:ExprT):∀ (l o:List Int) (f:Int),(l.foldl (filS e) (o,f)).2=0↔(f=0∧∀ a∈l,err1 e a=0)
 | [],o,f=>by simp
 | a :: l,o,f=>by
  rw [List.foldl_cons]
  show (l.foldl (filS e) (_,errN f (err1 e a))).2=0↔_
  rw [fil_fold e l]
  constructor
  ·rintro ⟨h1,h2⟩
   obtain ⟨h3,h4⟩:=errN_z h1
   exact ⟨h3,by simp only [List.mem_cons];rintro b (rfl | h);exact h4;exact h2 b h⟩
  ·rintro ⟨h1,h2⟩
   refine ⟨by rw [h1,h2 a (by simp)];rfl,fun b hb=>h2 b (by simp [hb])⟩
def keep1 (e:ExprT) (a:Int):Bool:=decide (val1 e a=1)
theorem fil_out (e:ExprT):∀ (l o:List Int),(∀ a∈l,err1 e a=0)→l.foldl (filS e) (o,0)=(o++l.filter (keep1 e),0)
 | [],o,_=>by simp
 | a :: l,o,h=>by
  have ha:(evX e nmX a 0).2=0:=h a (by simp)
  have hs:filS e (o,0) a=(if keep1 e a=true then o++[a] else o,0):=by
   dsimp only [filS]
   rw [ha];rfl
  rw [List.foldl_cons,hs]
  by_cases hk:keep1 e a=true
  ·rw [if_pos hk,fil_out e l _ (fun b hb=>h b (by simp [hb])),List.filter_cons_of_pos hk]
   simp
  ·rw [if_neg hk,fil_out e l _ (fun b hb=>h b (by simp [hb])),List.filter_cons_of_neg hk]
theorem spl_fold (e:ExprT):∀ (l o q:List Int) (f:Int),(l.foldl (splS e) (o,q,f)).2.2=0↔(f=0∧∀ a∈l,err1 e a=0)
 | [],o,q,f=>by simp
 | a :: l,o,q,f=>by
  rw [List.foldl_cons]
  show (l.foldl (splS e) (_,_,errN f (err1 e a))).2.2=0↔_
  rw [spl_fold e l]
  constructor
  ·rintro ⟨h1,h2⟩
   obtain ⟨h3,h4⟩:=errN_z h1
   exact ⟨h3,by simp only [List.mem_cons];rintro b (rfl | h);exact h4;exact h2 b h⟩
  ·rintro ⟨h1,h2⟩
   refine ⟨by rw [h1,h2 a (by simp)];rfl,fun b hb=>h2 b (by simp [hb])⟩
theorem spl_out (e:ExprT):∀ (l o q:List Int),(∀ a∈l,err1 e a=0)→l.foldl (splS e) (o,q,0)=(o++l.filter (keep1 e),q++l.filter (fun a=>!keep1 e a),0)
 | [],o,q,_=>by simp
 | a :: l,o,q,h=>by
  have ha:(evX e nmX a 0).2=0:=h a (by simp)
  have hs:splS e (o,q,0) a=(if keep1 e a=true then o++[a] else o,if keep1 e a=true then q else q++[a],0):=by
   dsimp only [splS]
   rw [ha];rfl
  rw [List.foldl_cons,hs]
  by_cases hk:keep1 e a=true
  ·rw [if_pos hk,if_pos hk,spl_out e l _ _ (fun b hb=>h b (by simp [hb])),List.filter_cons_of_pos hk,List.filter_cons_of_neg (by simp [hk])]
   simp
  ·rw [if_neg hk,if_neg hk,spl_out e l _ _ (fun b hb=>h b (by simp [hb])),List.filter_cons_of_neg hk,List.filter_cons_of_pos (by simpa using hk)]
   simp
theorem rep_out (z:Int):∀ (l o:List Int),l.foldl (repS z) o=o++l.flatMap (fun a=>List.replicate z.toNat a)
 | [],o=>by simp
 | a :: l,o=>by
  rw [List.foldl_cons,rep_out z l]
  simp [repS]
theorem tak_out (z:Int):∀ (l o:List Int) (c:Int),0≤c→c≤z→(l.foldl (takS z) (o,c)).1=o++l.take (z - c).toNat
 | [],o,c,_,_=>by simp
 | a :: l,o,c,h0,h1=>by
  rw [List.foldl_cons]
  by_cases hc:c < z
  ·have hs:takS z (o,c) a=(o++[a],c+1):=by
    dsimp only [takS]
    rw [if_pos (decide_eq_true hc)]
   rw [hs,tak_out z l _ _ (by omega) (by omega),show (z - c).toNat=(z - (c+1)).toNat+1 by omega]
   simp
  ·have hs:takS z (o,c) a=(o,c):=by
    dsimp only [takS]
    rw [if_neg (by simpa using hc)]
   rw [hs,tak_out z l _ _ h0 h1,show (z - c).toNat=0 by omega]
   simp
def val2 (e:ExprT) (a b:Int):Int:=(evX e nmXY a b).1
def err2 (e:ExprT) (a b:Int):Int:=(evX e nmXY a b).2
theorem zip_fold (e:ExprT) (a b:List Int):∀ n:Nat,((List.range n).foldl (zipS e a b) ([],0)).2=0→(∀ i,i < n→err2 e (a.getD i 0) (b.getD i 0)=0)
 | 0,_,i,hi=>absurd hi (Nat.not_lt_zero _)
 | n+1,h,i,hi=>by
  rw [List.range_succ,List.foldl_append] at h
  have h':errN ((List.range n).foldl (zipS e a b) ([],0)).2 (err2 e (a.getD n 0) (b.getD n 0))=0:=h
  obtain ⟨h1,h2⟩:=errN_z h'
  rcases Nat.lt_succ_iff_lt_or_eq.1 hi with h3 | h3
  ·exact zip_fold e a b n h1 i h3
  ·rw [h3];exact h2
theorem zip_out (e:ExprT) (a b:List Int):∀ n:Nat,(∀ i,i < n→err2 e (a.getD i 0) (b.getD i 0)=0)→(List.range n).foldl (zipS e a b) ([],0)=((List.range n).map (fun i=>val2 e (a.getD i 0) (b.getD i 0)),0)
 | 0,_=>rfl
 | n+1,h=>by
  rw [List.range_succ,List.foldl_append,zip_out e a b n (fun i hi=>h i (by omega)),List.map_append]
  have hn:(evX e nmXY (a.getD n 0) (b.getD n 0)).2=0:=h n (by omega)
  show zipS e a b (_,0) n=_
  dsimp only [zipS]
  rw [hn];rfl
theorem merge_len:∀ (n:Nat) (a b:List Int),a.length+b.length≤n→(mergeN n a b).length=a.length+b.length
 | 0,a,b,h=>by
  have h1:a=[]:=List.eq_nil_of_length_eq_zero (by omega)
  have h2:b=[]:=List.eq_nil_of_length_eq_zero (by omega)
  subst h1;subst h2;rfl
 | n+1,[],b,h=>by simp [mergeN]
 | n+1,x :: a,b,h=>by
  simp only [List.length_cons] at h
  simp only [mergeN,List.length_cons,merge_len n b a (by omega)]
  omega
theorem mean_ok {x:StT} {ins:List (List Int)} (h:(meanF x ins).2=0):stChk x=0∧(ins.length:Int)=(knownF x.1).1∧strF ins=0∧(runF x ins).2=0∧(meanF x ins).1=(runF x ins).1∧(runF x ins).1.any longB=false:=by
 by_cases h0:stChk x=0
 ·have e0:(!decide (stChk x=0))=false:=by rw [h0];rfl
  by_cases h1:(ins.length:Int)=(knownF x.1).1
  ·have e1:(!decide ((ins.length:Int)=(knownF x.1).1))=false:=by rw [decide_eq_true h1];rfl
   by_cases h2:strF ins=0
   ·have e2:(!decide (strF ins=0))=false:=by rw [h2];rfl
    by_cases h3:(runF x ins).2=0
    ·have e3:(!decide ((runF x ins).2=0))=false:=by rw [h3];rfl
     cases h4:(runF x ins).1.any longB with
     | false=>exact ⟨h0,h1,h2,h3,by rw [MN5 e0 e1 e2 e3 h4],rfl⟩
     | true=>rw [MN4 e0 e1 e2 e3 h4] at h;exact absurd h (by decide)
    ·rw [MN3 e0 e1 e2 (by simpa using h3)] at h;exact absurd h h3
   ·rw [MN2 e0 e1 (by simpa using h2)] at h;exact absurd h h2
  ·rw [MN1 e0 (by simpa using h1)] at h;exact absurd h (by decide)
 ·rw [MN0 (by simpa using h0)] at h;exact absurd h h0
theorem mean_run {x:StT} {ins:List (List Int)} (h0:stChk x=0) (h1:(ins.length:Int)=(knownF x.1).1) (h2:strF ins=0) (h3:(runF x ins).2=0) (h4:(runF x ins).1.any longB=false):meanF x ins=((runF x ins).1,0) :=
 MN5 (by rw [h0];rfl) (by rw [decide_eq_true h1];rfl) (by rw [h2];rfl) (by rw [h3];rfl) h4
end Go.Proofs.YticmijfmgmkkcaaGreat
namespace Go.Proofs.YticmijfmgmkkcaaGreat
open Go.Sx
theorem sum_fst:∀ (d:List Int) (n f:Int),(d.foldl sumS (n,f)).1=n+d.sum
 | [],n,f=>by simp
 | a :: d,n,f=>by
  rw [List.foldl_cons]
  show (d.foldl sumS (n+a,_)).1=_
  rw [sum_fst d,List.sum_cons];omega
theorem sum_snd:∀ (d:List Int) (n f:Int),(d.foldl sumS (n,f)).2=0→f=0
 | [],n,f,h=>h
 | a :: d,n,f,h=>by
  rw [List.foldl_cons] at h
  have h1:=sum_snd d _ _ h
  split at h1
  ·exact absurd h1 (by decide)
  ·exact h1
theorem batE_ok {d o:List Int} {f:Int} (h:(batE (d,o,f)).2.2=0):f=0∧batE (d,o,f)=([],o++[d.sum],0):=by
 have h1:(d.foldl sumS (0,f)).2=0:=h
 refine ⟨sum_snd _ _ _ h1, ?_⟩
 dsimp only [batE]
 rw [h1,sum_fst,Int.zero_add];rfl
theorem bat_fold {z:Int} (hz:1≤z):∀ (l d o:List Int) (f:Int),(d.length:Int) < z→(l.foldl (batS z) (d,o,f)).2.2=0 →
 f=0∧((l.foldl (batS z) (d,o,f)).1.length:Int) < z∧z * ((l.foldl (batS z) (d,o,f)).2.1.length:Int)+((l.foldl (batS z) (d,o,f)).1.length:Int)=z * (o.length:Int)+d.length+l.length ∧
  (l.foldl (batS z) (d,o,f)).1.sum+(l.foldl (batS z) (d,o,f)).2.1.sum=d.sum+o.sum+l.sum
 | [],d,o,f,hd,h=>⟨h,hd,by simp,by simp⟩
 | a :: l,d,o,f,hd,h=>by
  rw [List.foldl_cons] at h ⊢
  by_cases hc:((d++[a]).length:Int)=z
  ·have hs:batS z (d,o,f) a=batE (d++[a],o,f):=by
    dsimp only [batS]
    rw [if_pos (decide_eq_true hc)]
   rw [hs] at h ⊢
   have hf:(batE (d++[a],o,f)).2.2=0:=by
    obtain ⟨b,hb⟩ : ∃ b,batE (d++[a],o,f)=b:=⟨_,rfl⟩
    have hb1:b.1=[]:=by rw [← hb];rfl
    rw [hb] at h ⊢
    obtain ⟨b1,b2,b3⟩:=b
    replace hb1:b1=[]:=hb1
    subst hb1
    exact (bat_fold hz l [] b2 b3 (by simp;omega) h).1
   obtain ⟨h1,h2⟩:=batE_ok hf
   rw [h2] at h ⊢
   obtain ⟨_,g2,g3,g4⟩:=bat_fold hz l [] (o++[(d++[a]).sum]) 0 (by simp;omega) h
   refine ⟨h1,g2, ?_, ?_⟩
   ·rw [g3]
    simp only [List.length_append,List.length_cons,List.length_nil] at hc ⊢
    rw [← hc]
    simp only [Int.natCast_add,Int.mul_add]
    omega
   ·rw [g4]
    simp only [List.sum_append,List.sum_cons,List.sum_nil]
    omega
  ·have hs:batS z (d,o,f) a=(d++[a],o,f):=by
    dsimp only [batS]
    rw [if_neg (by simpa using hc)]
   rw [hs] at h ⊢
   obtain ⟨g1,g2,g3,g4⟩:=bat_fold hz l (d++[a]) o f (by simp only [List.length_append,List.length_cons,List.length_nil] at hc ⊢;omega) h
   refine ⟨g1,g2, ?_, ?_⟩
   ·rw [g3];simp only [List.length_append,List.length_cons,List.length_nil];omega
   ·rw [g4];simp only [List.sum_append,List.sum_cons,List.sum_nil];omega
theorem bat_out {z:Int} (hz:1≤z) {l:List Int} (h:(batR (l.foldl (batS z) ([],[],0))).2.2=0) :
 ((batR (l.foldl (batS z) ([],[],0))).2.1.length:Int)=((l.length:Int)+z - 1) / z∧(batR (l.foldl (batS z) ([],[],0))).2.1.sum=l.sum:=by
 obtain ⟨s,hs⟩ : ∃ s,l.foldl (batS z) ([],[],0)=s:=⟨_,rfl⟩
 have hb:=bat_fold hz l [] [] 0 (by simp;omega)
 rw [hs] at h hb ⊢
 obtain ⟨d,o,f⟩:=s
 by_cases hd:0 < (d.length:Int)
 ·have hr:batR (d,o,f)=batE (d,o,f):=by
   dsimp only [batR]
   rw [if_pos (decide_eq_true hd)]
  rw [hr] at h ⊢
  obtain ⟨h1,h2⟩:=batE_ok h
  rw [h2]
  obtain ⟨-,g2,g3,g4⟩:=hb h1
  simp only [List.length_nil,List.sum_nil] at g2 g3 g4
  refine ⟨?_, ?_⟩
  ·simp only [List.length_append,List.length_cons,List.length_nil]
   have e:(l.length:Int)+z - 1=(d.length - 1)+z * (o.length+1):=by rw [Int.mul_add];omega
   rw [e,Int.add_mul_ediv_left _ _ (by omega),Int.ediv_eq_zero_of_lt (by omega) (by omega)]
   omega
  ·simp only [List.sum_append,List.sum_cons,List.sum_nil];omega
 ·have hr:batR (d,o,f)=(d,o,f):=by
   dsimp only [batR]
   rw [if_neg (by simpa using hd)]
  rw [hr] at h ⊢
  obtain ⟨-,g2,g3,g4⟩:=hb h
  dsimp only at g2 g3 g4
  simp only [List.length_nil,List.sum_nil] at g2 g3 g4
  have hd0:d=[]:=List.eq_nil_of_length_eq_zero (by omega)
  subst hd0
  simp only [List.length_nil,List.sum_nil] at g3 g4
  refine ⟨?_, ?_⟩
  ·show (o.length:Int)=_
   have g5:(l.length:Int)=z * o.length:=by simpa using g3.symm
   have e:(l.length:Int)+z - 1=(z - 1)+z * o.length:=by omega
   rw [e,Int.add_mul_ediv_left _ _ (by omega),Int.ediv_eq_zero_of_lt (by omega) (by omega)]
   omega
  ·show o.sum=_
   omega
end Go.Proofs.YticmijfmgmkkcaaGreat
namespace Go.Proofs.YticmijfmgmkkcaaGreat
open Go.Sx
def cxQ:Ctx:=⟨tys0,[(11,([],c11)),(12,([],c12)),(13,([],c13)),(19,([],c19)),(21,([],c21)),(14,([],c14))]⟩
theorem cxQ_good:GoodCtx Tryz.prog cxQ:=cx_cons good11 (cx_cons good12 (cx_cons good13 (cx_cons good19 (cx_cons good21 (cx_cons good14 cx0_good)))))
theorem str_len {ins:List (List Int)} (h:strF ins=0) (i:Nat):(ins.getD i []).length≤200:=by
 by_cases hi:i < ins.length
 ·exact (strF_get h hi).1
 ·simp [List.getD_eq_getElem?_getD,List.getElem?_eq_none (show ins.length≤i by omega)]
def outF (x:StT) (ins:List (List Int)):List (List Int) :=
 if x.1=1 then [x.2.2.2]
 else if x.1=2 then [(ins.getD 0 []).map (val1 x.2.2.1)]
 else if x.1=3 then [(ins.getD 0 []).filter (keep1 x.2.2.1)]
 else if x.1=4 then [(batR ((ins.getD 0 []).foldl (batS x.2.1) ([],[],0))).2.1]
 else if x.1=5 then [(ins.getD 0 []).flatMap (fun a=>List.replicate x.2.1.toNat a)]
 else if x.1=6 then [(ins.getD 0 []).take x.2.1.toNat]
 else if x.1=7 then [(ins.getD 0 []).filter (keep1 x.2.2.1),(ins.getD 0 []).filter (fun a=>!keep1 x.2.2.1 a)]
 else if x.1=8 then [mergeN ((ins.getD 0 []).length+(ins.getD 1 []).length) (ins.getD 0 []) (ins.getD 1 [])]
 else if x.1=9 then [(List.range (min (ins.getD 0 []).length (ins.getD 1 []).length)).map (fun i=>val2 x.2.2.1 ((ins.getD 0 []).getD i 0) ((ins.getD 1 []).getD i 0))]
 else []
def cleanF (x:StT) (ins:List (List Int)):Prop :=
 ((x.1=2∨x.1=3∨x.1=7)→∀ a∈ins.getD 0 [],err1 x.2.2.1 a=0)∧(x.1=9→∀ i,i < min (ins.getD 0 []).length (ins.getD 1 []).length→err2 x.2.2.1 ((ins.getD 0 []).getD i 0) ((ins.getD 1 []).getD i 0)=0) ∧
   (x.1=4→(batR ((ins.getD 0 []).foldl (batS x.2.1) ([],[],0))).2.2=0)
theorem run_out {x:StT} {ins:List (List Int)} (hk:1≤x.1∧x.1≤10) (hz:0≤x.2.1):((runF x ins).2=0↔cleanF x ins)∧(cleanF x ins→runF x ins=(outF x ins,0)):=by
 obtain ⟨k,z,e,l⟩:=x
 replace hk:1≤k∧k≤10:=hk
 replace hz:0≤z:=hz
 rcases kinds hk with rfl | rfl | rfl | rfl | rfl | rfl | rfl | rfl | rfl | rfl
 ·refine ⟨⟨fun _=>⟨by simp,by simp,by simp⟩,fun _=>rfl⟩,fun _=>rfl⟩
 ·refine ⟨⟨fun h=>⟨fun _=>((map_fold e _ _ _).1 h).2,by simp,by simp⟩,fun h=>(map_fold e _ _ _).2 ⟨rfl,h.1 (.inl rfl)⟩⟩,fun h=>?_⟩
  show ([((ins.getD 0 []).foldl (mapS e) ([],0)).1],((ins.getD 0 []).foldl (mapS e) ([],0)).2)=_
  rw [map_out e _ _ (h.1 (.inl rfl))];rfl
 ·refine ⟨⟨fun h=>⟨fun _=>((fil_fold e _ _ _).1 h).2,by simp,by simp⟩,fun h=>(fil_fold e _ _ _).2 ⟨rfl,h.1 (.inr (.inl rfl))⟩⟩,fun h=>?_⟩
  show ([((ins.getD 0 []).foldl (filS e) ([],0)).1],((ins.getD 0 []).foldl (filS e) ([],0)).2)=_
  rw [fil_out e _ _ (h.1 (.inr (.inl rfl)))];rfl
 ·refine ⟨⟨fun h=>⟨by simp,by simp,fun _=>h⟩,fun h=>h.2.2 rfl⟩,fun h=>?_⟩
  have h4:=h.2.2 rfl
  show ([_],(batR ((ins.getD 0 []).foldl (batS z) ([],[],0))).2.2)=_
  rw [show (batR ((ins.getD 0 []).foldl (batS z) ([],[],0))).2.2=0 from h4];rfl
 ·refine ⟨⟨fun _=>⟨by simp,by simp,by simp⟩,fun _=>rfl⟩,fun _=>?_⟩
  show ([(ins.getD 0 []).foldl (repS z) []],(0:Int))=_
  rw [rep_out];rfl
 ·refine ⟨⟨fun _=>⟨by simp,by simp,by simp⟩,fun _=>rfl⟩,fun _=>?_⟩
  show ([((ins.getD 0 []).foldl (takS z) ([],0)).1],(0:Int))=_
  rw [tak_out z _ _ _ (Int.le_refl _) hz,Int.sub_zero];rfl
 ·refine ⟨⟨fun h=>⟨fun _=>((spl_fold e _ _ _ _).1 h).2,by simp,by simp⟩,fun h=>(spl_fold e _ _ _ _).2 ⟨rfl,h.1 (.inr (.inr rfl))⟩⟩,fun h=>?_⟩
  show ([((ins.getD 0 []).foldl (splS e) ([],[],0)).1,((ins.getD 0 []).foldl (splS e) ([],[],0)).2.1],((ins.getD 0 []).foldl (splS e) ([],[],0)).2.2)=_
  rw [spl_out e _ _ _ (h.1 (.inr (.inr rfl)))];rfl
 ·refine ⟨⟨fun _=>⟨by simp,by simp,by simp⟩,fun _=>rfl⟩,fun _=>rfl⟩
 ·refine ⟨⟨fun h=>⟨by simp,fun _=>zip_fold e _ _ _ h,by simp⟩,fun h=>?_⟩,fun h=>?_⟩
  ·show ((List.range (min (ins.getD 0 []).length (ins.getD 1 []).length)).foldl (zipS e (ins.getD 0 []) (ins.getD 1 [])) ([],0)).2=0
   rw [zip_out e _ _ _ (h.2.1 rfl)]
  ·show ([((List.range (min (ins.getD 0 []).length (ins.getD 1 []).length)).foldl (zipS e (ins.getD 0 []) (ins.getD 1 [])) ([],0)).1],((List.range (min (ins.getD 0 []).length (ins.getD 1 []).length)).foldl (zipS e (ins.getD 0 []) (ins.getD 1 [])) ([],0)).2)=_
   rw [zip_out e _ _ _ (h.2.1 rfl)];rfl
 ·refine ⟨⟨fun _=>⟨by simp,by simp,by simp⟩,fun _=>rfl⟩,fun _=>rfl⟩
theorem mean_iff {x:StT} {ins:List (List Int)}:(meanF x ins).2=0↔(stChk x=0∧(ins.length:Int)=(knownF x.1).1∧strF ins=0∧cleanF x ins∧(outF x ins).any longB=false):=by
 constructor
 ·intro h
  obtain ⟨h0,h1,h2,h3,h4,h5⟩:=mean_ok h
  have hr:=run_out (ins:=ins) (chk_kind h0) (chk_size h0).1
  have hc:=hr.1.1 h3
  rw [hr.2 hc] at h5
  exact ⟨h0,h1,h2,hc,h5⟩
 ·rintro ⟨h0,h1,h2,h3,h4⟩
  have hr:=run_out (ins:=ins) (chk_kind h0) (chk_size h0).1
  rw [mean_run h0 h1 h2 (hr.1.2 h3) (by rw [hr.2 h3];exact h4)]
theorem mean_eq {x:StT} {ins:List (List Int)} (h:(meanF x ins).2=0):meanF x ins=(outF x ins,0):=by
 obtain ⟨h0,h1,h2,h3,h4,h5⟩:=mean_ok h
 have hr:=run_out (ins:=ins) (chk_kind h0) (chk_size h0).1
 refine Prod.ext ?_ h
 rw [h4,hr.2 (hr.1.1 h3)]
end Go.Proofs.YticmijfmgmkkcaaGreat
