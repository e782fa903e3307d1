import Derived.Test.YticmijfmgmkkcaaGreatVSxOpsH
set_option linter.unusedSimpArgs false
set_option linter.unusedVariables false
set_option maxRecDepth 100000
namespace Go.Sx
theorem forceNat_eq (n:Nat) (k:Nat→Prop):∀ l,forceNat n k l=k n
 | []=>rfl
 | a :: l=>by
  simp only [forceNat]
  split
  ·rename_i h;rw [Nat.eq_of_beq_eq_true h]
  ·exact forceNat_eq n k l
theorem forceN_eq (n:Nat) (k:Nat→Prop):forceN n k=k n:=forceNat_eq n k lits
theorem forceP_eq:∀ (l:List PV) (k:List PV→Prop),forceP l k=k l
 | [],_=>rfl
 | .int _ _ :: l,k=>by simp only [forceP];exact forceP_eq l _
 | .bool _ :: l,k=>by simp only [forceP];exact forceP_eq l _
 | .str _ :: l,k=>by simp only [forceP];exact forceP_eq l _
 | .sl _ _ :: l,k=>by simp only [forceP];exact forceP_eq l _
 | .nils :: l,k=>by simp only [forceP];exact forceP_eq l _
 | .val _ :: l,k=>by simp only [forceP];exact forceP_eq l _
 | .fn _ :: l,k=>by simp only [forceP];exact forceP_eq l _
mutual
theorem forceA_eq:∀ (v:AV) (k:AV→Prop),forceA v k=k v
 | .any,_=>rfl
 | .int _ _,_=>rfl
 | .bool _,_=>rfl
 | .str _,_=>rfl
 | .val _,_=>rfl
 | .nils,_=>rfl
 | .cap0,_=>rfl
 | .sl _ _,_=>rfl
 | .ptr _ _,_=>by simp only [forceA,forceN_eq]
 | .rptr _ _ _ _,_=>by simp only [forceA,forceN_eq]
 | .eptr cs,_=>by simp only [forceA,forceP_eq]
 | .own _,_=>by simp only [forceA,forceN_eq]
 | .ownp _ _ _ _,_=>by simp only [forceA,forceN_eq]
 | .mp _,_=>by simp only [forceA,forceN_eq]
 | .fn f a b,k=>by simp only [forceA];rw [forceL_eq a];exact forceL_eq b _
 | .agg cs,k=>by simp only [forceA];exact forceL_eq cs _
 | .tup vs,k=>by simp only [forceA];exact forceL_eq vs _
 | .when _ _ _ v,k=>by simp only [forceA];exact forceA_eq v _
 | .yld _,_=>by simp only [forceA,forceN_eq]
 | .rnd _,_=>by simp only [forceA,forceN_eq]
 | .grow _ _,_=>by simp only [forceA,forceN_eq]
 | .gptr _ _ _,_=>by simp only [forceA,forceN_eq]
 | .ownc _ _ _ _,_=>by simp only [forceA,forceN_eq]
 | .csl _ _ _,_=>by simp only [forceA,forceN_eq]
 | .slf _ _,_=>rfl
 | .dmp _,_=>rfl
theorem forceL_eq:∀ (l:List AV) (k:List AV→Prop),forceL l k=k l
 | [],_=>rfl
 | x :: l,k=>by simp only [forceL];rw [forceA_eq x];exact forceL_eq l _
end
theorem forceM_eq:∀ (l:List (Int × AV)) (k:List (Int × AV)→Prop),forceM l k=k l
 | [],_=>rfl
 | (q,x) :: l,k=>by simp only [forceM];rw [forceA_eq x];exact forceM_eq l _
theorem forceH_eq:∀ (l:List Ob) (k:List Ob→Prop),forceH l k=k l
 | [],_=>rfl
 | .dead :: l,k=>by simp only [forceH];exact forceH_eq l _
 | .cells cs :: l,k=>by simp only [forceH];rw [forceL_eq];exact forceH_eq l _
 | .rows _ _ :: l,k=>by simp only [forceH];exact forceH_eq l _
 | .froz _ _ :: l,k=>by simp only [forceH];exact forceH_eq l _
 | .fmap _ :: l,k=>by simp only [forceH];rw [forceM_eq];exact forceH_eq l _
 | .grid _ _ _ :: l,k=>by simp only [forceH];exact forceH_eq l _
 | .loop _ _ _ _ _ _ :: l,k=>by simp only [forceH];rw [forceL_eq];exact forceH_eq l _
theorem setK_eq {α:Type} (v:α):∀ (l:List α) (k:List α→Prop) (d:Nat),setK v k l d=k (setN v l d)
 | [],_,_=>by simp [setK,setN]
 | _ :: _,_,0=>by simp [setK,setN]
 | a :: l,k,d+1=>by simp only [setK,setN];exact setK_eq v l _ d
theorem dropWhen_eq:∀ (l:List AV) (k:List AV→Prop),dropWhen l k=k (l.map noW)
 | [],_=>rfl
 | x :: l,k=>by
  cases x <;> simp only [dropWhen,List.map_cons,noW] <;> exact dropWhen_eq l _
theorem applyK_eq (r:Res) (H:List Ob) (n:Nat) (K:List Ob→Nat→Prop):applyK r H n K=K (r.heap H) (n+r.news.length):=by
 unfold applyK
 split
 ·rename_i h
  simp only [Res.quiet,Bool.and_eq_true,List.isEmpty_iff,Option.isNone_iff_eq_none] at h
  obtain ⟨⟨⟨h1,h2⟩,h3⟩,h4⟩:=h
  simp [Res.heap,h1,h2,h3,h4,stH,killH,frzAll]
 ·rw [forceH_eq,forceN_eq]
theorem needP_iff {o:Option Prop} {p:Prop}:needP o p↔OptP o∧p:=by cases o <;> simp [needP,OptP]
theorem givenP_iff {o:Option Prop} {p:Prop}:givenP o p↔(OptP o→p):=by cases o <;> simp [givenP,OptP]
theorem getN_setN {α:Type} (d v:α):∀ (l:List α) (n m:Nat),getN d (setN v l n) m=if n=m∧n < l.length then v else getN d l m
 | [],n,m=>by simp [setN]
 | a :: l,0,0=>by simp [setN,getN]
 | a :: l,0,m+1=>by simp [setN,getN]
 | a :: l,n+1,0=>by simp [setN,getN]
 | a :: l,n+1,m+1=>by
  simp only [setN,getN]
  rw [getN_setN d v l n m]
  simp
theorem setN_length {α:Type} (v:α):∀ (l:List α) (n:Nat),(setN v l n).length=l.length
 | [],_=>rfl
 | _ :: _,0=>rfl
 | a :: l,n+1=>by simp only [setN,List.length_cons,setN_length v l n]
theorem getN_append {α:Type} (d:α) (l m:List α) (i:Nat):getN d (l++m) i=if i < l.length then getN d l i else getN d m (i - l.length):=by
 rw [getN_eq,getN_eq,getN_eq,List.getElem?_append]
 split <;> rfl
theorem getN_ge {α:Type} (d:α) {l:List α} {i:Nat} (h:l.length≤i):getN d l i=d:=by
 rw [getN_eq,List.getElem?_eq_none h];rfl
end Go.Sx
