import Derived.Test.YticmijfmgmkkcaaGreatVZa4
set_option linter.unusedSimpArgs false
set_option linter.unusedVariables false
set_option maxRecDepth 100000
namespace Go.Proofs.YticmijfmgmkkcaaGreat
open Go.Sx
def strF:List (List Int)→Int
 | []=>0
 | l :: r=>if longB l=true then 4 else if l.any notNum=true then 2 else strF r
theorem strF_drop {xs:List (List Int)} {i:Nat} (h:i < xs.length):strF (xs.drop i)=if longB (xs.getD i (dflt tIs))=true then 4 else if (xs.getD i (dflt tIs)).any notNum=true then 2 else strF (xs.drop (i+1)):=by
 rw [List.drop_eq_getElem_cons h]
 simp [strF,List.getD,h]
theorem strF_get:∀ {xs:List (List Int)} {i:Nat},strF xs=0→i < xs.length→(xs.getD i (dflt tIs)).length≤200∧(xs.getD i (dflt tIs)).any notNum=false
 | [],i,_,h=>absurd h (Nat.not_lt_zero _)
 | l :: r,i,h,hi=>by
  simp only [strF] at h
  split at h
  ·exact absurd h (by decide)
  ·split at h
   ·exact absurd h (by decide)
   ·rename_i h1 h2
    cases i with
    | zero =>
     have h3:¬ 200 < (l.length:Int):=by simpa [longB] using h1
     exact ⟨by show l.length≤200;omega,by simpa using h2⟩
    | succ i =>
     have:=strF_get (i:=i) h (by simpa using hi)
     simpa using this
theorem fold_take {α β:Type} (f:β→α→β) (s:β) {a:List α} {i:Nat} (d:α) (h:i < a.length):(a.take (i+1)).foldl f s=f ((a.take i).foldl f s) (a.getD i d):=by
 rw [take_getD (d:=d) h,List.foldl_append];rfl
def tysM:List (TypeId × Ty):=(3000025,tI) :: tys0
def c60:Ctr:=fnO [dIs] tI (fun y=>y.1.length≤1000) (fun y=>y.1)
theorem good60:GoodC Tryz.prog 60 c60:=by
 refine Go.Sx.goodO cx0_good 4 _ _ _ _ ⟨_,Tryz.func60,rfl,rfl⟩ fun (⟨xs,_⟩ : List Int × Unit) hn=>?_
 have hn':xs.length≤1000:=hn
 clear hn
 have room:xs.length * 8≤lim:=by simp only [lim];omega
 refine (aI (by first | kernel_rfl | rfl) (fun h0=>(fun h1=>(aI (fun h2=>(fin_cap0 (by simp_all))) (fun h2=>(aI (by first | exact room | (intros;(try subst_vars);(try simp only [nB] at *);(try simp only [inK,big,lim,nL] at *);omega)) (fin_own rfl (by simp_all))))))))
def cxM:Ctx:=⟨tysM,[(17,([],c17)),(40,([],c40k)),(41,([],c41)),(37,([],c37)),(83,([],c83)),(108,([],c108)),(43,([],c43)),(60,([],c60))]⟩
theorem cxM_good:GoodCtx Tryz.prog cxM:=cx_ty (cx_cons good17 (cx_cons good40k (cx_cons good41 (cx_cons good37 (cx_cons good83 (cx_cons good108 (cx_cons good43 (cx_cons good60 cx0_good))))))))
@[reducible] def rIssI:List (Bool × Ty):=[(false,tIss),(false,tI)]
def evX (e:ExprT) (ns:List ByteArray) (a b:Int):Int × Int:=exEval e (bindF ns [a,b])
def errN (f g:Int):Int:=if decide (f=0)=true then g else f
theorem errN_0 {f g:Int} (h:decide (f=0)=true):errN f g=g:=by rw [errN,if_pos h]
theorem errN_1 {f g:Int} (h:decide (f=0)=false):errN f g=f:=by rw [errN,if_neg (by rw [h];simp)]
def sndI (f:Int) (o:List Int) (v:Int):List Int:=if decide (f=0)=true then o++[v] else o
theorem sndI_0 {f v:Int} {o:List Int} (h:decide (f=0)=true):sndI f o v=o++[v]:=by rw [sndI,if_pos h]
theorem sndI_1 {f v:Int} {o:List Int} (h:decide (f=0)=false):sndI f o v=o:=by rw [sndI,if_neg (by rw [h];simp)]
theorem sndI_len (f:Int) (o:List Int) (v:Int):(sndI f o v).length≤o.length+1:=by
 unfold sndI;split <;> simp
def mapS (e:ExprT) (s:List Int × Int) (a:Int):List Int × Int :=
 (sndI (errN s.2 (evX e nmX a 0).2) s.1 (evX e nmX a 0).1,errN s.2 (evX e nmX a 0).2)
def filS (e:ExprT) (s:List Int × Int) (a:Int):List Int × Int :=
 (if decide ((evX e nmX a 0).1=1)=true then sndI (errN s.2 (evX e nmX a 0).2) s.1 a else s.1,errN s.2 (evX e nmX a 0).2)
def splS (e:ExprT) (s:List Int × List Int × Int) (a:Int):List Int × List Int × Int :=
 (if decide ((evX e nmX a 0).1=1)=true then sndI (errN s.2.2 (evX e nmX a 0).2) s.1 a else s.1,
  if decide ((evX e nmX a 0).1=1)=true then s.2.1 else sndI (errN s.2.2 (evX e nmX a 0).2) s.2.1 a,errN s.2.2 (evX e nmX a 0).2)
def repS (z:Int) (o:List Int) (a:Int):List Int:=o++List.replicate z.toNat a
def takS (z:Int) (s:List Int × Int) (a:Int):List Int × Int:=if decide (s.2 < z)=true then (s.1++[a],s.2+1) else s
def sumS (s:Int × Int) (a:Int):Int × Int:=(s.1+a,if (bif !numB (s.1+a) then decide (s.2=0) else false)=true then 14 else s.2)
def batE (s:List Int × List Int × Int):List Int × List Int × Int:=([],sndI (s.1.foldl sumS (0,s.2.2)).2 s.2.1 (s.1.foldl sumS (0,s.2.2)).1,(s.1.foldl sumS (0,s.2.2)).2)
def batS (z:Int) (s:List Int × List Int × Int) (a:Int):List Int × List Int × Int :=
 if decide (((s.1++[a]).length:Int)=z)=true then batE (s.1++[a],s.2) else (s.1++[a],s.2)
def batR (s:List Int × List Int × Int):List Int × List Int × Int:=if decide (0 < (s.1.length:Int))=true then batE s else s
def mergeN:Nat→List Int→List Int→List Int
 | 0,_,b=>b
 | _+1,[],b=>b
 | n+1,x :: a,b=>x :: mergeN n b a
def zipS (e:ExprT) (a b:List Int) (s:List Int × Int) (i:Nat):List Int × Int :=
 (sndI (errN s.2 (evX e nmXY (a.getD i 0) (b.getD i 0)).2) s.1 (evX e nmXY (a.getD i 0) (b.getD i 0)).1,errN s.2 (evX e nmXY (a.getD i 0) (b.getD i 0)).2)
def runF (x:StT) (ins:List (List Int)):List (List Int) × Int :=
 if x.1=1 then ([x.2.2.2],0)
 else if x.1=2 then ([((ins.getD 0 []).foldl (mapS x.2.2.1) ([],0)).1],((ins.getD 0 []).foldl (mapS x.2.2.1) ([],0)).2)
 else if x.1=3 then ([((ins.getD 0 []).foldl (filS x.2.2.1) ([],0)).1],((ins.getD 0 []).foldl (filS x.2.2.1) ([],0)).2)
 else if x.1=4 then ([(batR ((ins.getD 0 []).foldl (batS x.2.1) ([],[],0))).2.1],(batR ((ins.getD 0 []).foldl (batS x.2.1) ([],[],0))).2.2)
 else if x.1=5 then ([(ins.getD 0 []).foldl (repS x.2.1) []],0)
 else if x.1=6 then ([((ins.getD 0 []).foldl (takS x.2.1) ([],0)).1],0)
 else if x.1=7 then ([((ins.getD 0 []).foldl (splS x.2.2.1) ([],[],0)).1,((ins.getD 0 []).foldl (splS x.2.2.1) ([],[],0)).2.1],((ins.getD 0 []).foldl (splS x.2.2.1) ([],[],0)).2.2)
 else if x.1=8 then ([mergeN ((ins.getD 0 []).length+(ins.getD 1 []).length) (ins.getD 0 []) (ins.getD 1 [])],0)
 else if x.1=9 then ([((List.range (min (ins.getD 0 []).length (ins.getD 1 []).length)).foldl (zipS x.2.2.1 (ins.getD 0 []) (ins.getD 1 [])) ([],0)).1],((List.range (min (ins.getD 0 []).length (ins.getD 1 []).length)).foldl (zipS x.2.2.1 (ins.getD 0 []) (ins.getD 1 [])) ([],0)).2)
 else ([],0)
def meanF (x:StT) (ins:List (List Int)):List (List Int) × Int :=
 if (!decide (stChk x=0))=true then ([],stChk x) else
 if (!decide ((ins.length:Int)=(knownF x.1).1))=true then ([],10) else
 if (!decide (strF ins=0))=true then ([],strF ins) else
 if (!decide ((runF x ins).2=0))=true then ([],(runF x ins).2) else
 if ((runF x ins).1.any longB)=true then ([],4) else
 ((runF x ins).1,0)
theorem MN0 {x:StT} {ins:List (List Int)} (h0:(!decide (stChk x=0))=true):(meanF x ins)=([],stChk x):=by rw [meanF,if_pos h0]
theorem MN0' {x:StT} {ins:List (List Int)} (h0:(!decide (stChk x=0))=true):((meanF x ins).1,(meanF x ins).2,())=((([],stChk x):List (List Int) × Int).1,(([],stChk x):List (List Int) × Int).2,()):=by rw [MN0 h0]
theorem MN1 {x:StT} {ins:List (List Int)} (h0:(!decide (stChk x=0))=false) (h1:(!decide ((ins.length:Int)=(knownF x.1).1))=true):(meanF x ins)=([],10):=by rw [meanF,if_neg (by rw [h0];simp),if_pos h1]
theorem MN1' {x:StT} {ins:List (List Int)} (h0:(!decide (stChk x=0))=false) (h1:(!decide ((ins.length:Int)=(knownF x.1).1))=true):((meanF x ins).1,(meanF x ins).2,())=((([],10):List (List Int) × Int).1,(([],10):List (List Int) × Int).2,()):=by rw [MN1 h0 h1]
theorem MN2 {x:StT} {ins:List (List Int)} (h0:(!decide (stChk x=0))=false) (h1:(!decide ((ins.length:Int)=(knownF x.1).1))=false) (h2:(!decide (strF ins=0))=true):(meanF x ins)=([],strF ins):=by rw [meanF,if_neg (by rw [h0];simp),if_neg (by rw [h1];simp),if_pos h2]
theorem MN2' {x:StT} {ins:List (List Int)} (h0:(!decide (stChk x=0))=false) (h1:(!decide ((ins.length:Int)=(knownF x.1).1))=false) (h2:(!decide (strF ins=0))=true):((meanF x ins).1,(meanF x ins).2,())=((([],strF ins):List (List Int) × Int).1,(([],strF ins):List (List Int) × Int).2,()):=by rw [MN2 h0 h1 h2]
theorem MN3 {x:StT} {ins:List (List Int)} (h0:(!decide (stChk x=0))=false) (h1:(!decide ((ins.length:Int)=(knownF x.1).1))=false) (h2:(!decide (strF ins=0))=false) (h3:(!decide ((runF x ins).2=0))=true):(meanF x ins)=([],(runF x ins).2):=by rw [meanF,if_neg (by rw [h0];simp),if_neg (by rw [h1];simp),if_neg (by rw [h2];simp),if_pos h3]
theorem MN3' {x:StT} {ins:List (List Int)} (h0:(!decide (stChk x=0))=false) (h1:(!decide ((ins.length:Int)=(knownF x.1).1))=false) (h2:(!decide (strF ins=0))=false) (h3:(!decide ((runF x ins).2=0))=true):((meanF x ins).1,(meanF x ins).2,())=((([],(runF x ins).2):List (List Int) × Int).1,(([],(runF x ins).2):List (List Int) × Int).2,()):=by rw [MN3 h0 h1 h2 h3]
theorem MN4 {x:StT} {ins:List (List Int)} (h0:(!decide (stChk x=0))=false) (h1:(!decide ((ins.length:Int)=(knownF x.1).1))=false) (h2:(!decide (strF ins=0))=false) (h3:(!decide ((runF x ins).2=0))=false) (h4:((runF x ins).1.any longB)=true):(meanF x ins)=([],4):=by rw [meanF,if_neg (by rw [h0];simp),if_neg (by rw [h1];simp),if_neg (by rw [h2];simp),if_neg (by rw [h3];simp),if_pos h4]
theorem MN4' {x:StT} {ins:List (List Int)} (h0:(!decide (stChk x=0))=false) (h1:(!decide ((ins.length:Int)=(knownF x.1).1))=false) (h2:(!decide (strF ins=0))=false) (h3:(!decide ((runF x ins).2=0))=false) (h4:((runF x ins).1.any longB)=true):((meanF x ins).1,(meanF x ins).2,())=((([],4):List (List Int) × Int).1,(([],4):List (List Int) × Int).2,()):=by rw [MN4 h0 h1 h2 h3 h4]
theorem MN5 {x:StT} {ins:List (List Int)} (h0:(!decide (stChk x=0))=false) (h1:(!decide ((ins.length:Int)=(knownF x.1).1))=false) (h2:(!decide (strF ins=0))=false) (h3:(!decide ((runF x ins).2=0))=false) (h4:((runF x ins).1.any longB)=false):(meanF x ins)=((runF x ins).1,0):=by rw [meanF,if_neg (by rw [h0];simp),if_neg (by rw [h1];simp),if_neg (by rw [h2];simp),if_neg (by rw [h3];simp),if_neg (by rw [h4];simp)]
theorem MN5' {x:StT} {ins:List (List Int)} (h0:(!decide (stChk x=0))=false) (h1:(!decide ((ins.length:Int)=(knownF x.1).1))=false) (h2:(!decide (strF ins=0))=false) (h3:(!decide ((runF x ins).2=0))=false) (h4:((runF x ins).1.any longB)=false):((meanF x ins).1,(meanF x ins).2,())=((((runF x ins).1,0):List (List Int) × Int).1,(((runF x ins).1,0):List (List Int) × Int).2,()):=by rw [MN5 h0 h1 h2 h3 h4]
theorem chk_items {x:StT} (h:stChk x=0):x.2.2.2.length≤200∧x.2.2.2.any notNum=false:=by
 have hk:=chk_kind h
 rw [stChk_in hk.1 hk.2] at h
 unfold chkH at h
 split at h
 ·exact absurd h (by decide)
 ·split at h
  ·exact absurd h (by decide)
  ·split at h
   ·exact absurd h (by decide)
   ·split at h
    ·exact absurd h (by decide)
    ·rename_i h3 h4
     unfold ck3 at h3
     have h5:¬ 200 < (x.2.2.2.length:Int):=by simpa using h3
     exact ⟨by omega,by simpa using h4⟩
def namedS (sem:CallSem):CallSem:=fun g args H n K=>sem g args H n fun x H' n'=>match x with
 | .int k v=>∀ w:Int,w=v→K (.int k w) H' n'
 | x=>K x H' n'
theorem namedS_ok {P:Program} {sem:CallSem} (hs:CallOk P sem):CallOk P (namedS sem):=by
 have key:∀ (K:AV→List Ob→Nat→Prop) (x:AV) (H':List Ob) (n':Nat),(match x with
  | .int k v=>∀ w:Int,w=v→K (.int k w) H' n'
  | x=>K x H' n')→K x H' n':=by
  intro K x H' n' h
  split at h
  ·exact h _ rfl
  ·exact h
 refine ⟨fun g args H n K h E vs hE hsz hrd=>?_,fun id args H n K h E vs hE hsz hrd=>?_⟩
 ·obtain ⟨h1,h2⟩:=hs.1 g args H n _ h E vs hE hsz hrd
  refine ⟨h1,h2.mono ?_⟩
  rintro e w' ⟨v,E',x,H',n',k1,k2,k3,k4,k5,k6,k7⟩
  exact ⟨v,E',x,H',n',k1,k2,k3,k4,k5,k6,key K x H' n' k7⟩
 ·obtain ⟨h1,h2⟩:=hs.2 id args H n _ h E vs hE hsz hrd
  refine ⟨h1,fun hd hρ=>?_⟩
  obtain ⟨fn,tmps,x,y,h3,h4⟩:=h2 hd hρ
  refine ⟨fn,tmps,x,y,h3,h4.mono ?_⟩
  rintro e w' ⟨v,E',z,H',n',k1,k2,k3,k4,k5,k6,k7⟩
  exact ⟨v,E',z,H',n',k1,k2,k3,k4,k5,k6,key K z H' n' k7⟩
theorem callM_ok:CallOk Tryz.prog (callS cxM Tryz.prog (callS cxM Tryz.prog (callS cxM Tryz.prog (callS cxM Tryz.prog (callS cxM Tryz.prog noS))))):=callS_good cxM_good (callS_good cxM_good (callS_good cxM_good (callS_good cxM_good (callS_good cxM_good no_call))))
theorem callM7_ok:CallOk Tryz.prog (callS cxM Tryz.prog (callS cxM Tryz.prog (callS cxM Tryz.prog (condS 76 (namedS (callS cxM Tryz.prog noS)) (callS cxM Tryz.prog noS))))) :=
 callS_good cxM_good (callS_good cxM_good (callS_good cxM_good (condS_ok (namedS_ok (callS_good cxM_good no_call)) (callS_good cxM_good no_call))))
def Walk13 (k:Int):Prop:=∀ (z:Int) (e:ExprT) (l:List Int) (ins:List (List Int)),stChk (k,z,e,l)=0→(ins.length:Int)=(knownF k).1 →
 ∃ call:CallSem,CallOk Tryz.prog call∧call 13 (toAVs [dSt,dIss] ((k,z,e,l),ins,())) [] 0 (finK ⟨none,none,[],resAV rIssI ((meanF (k,z,e,l) ins).1,(meanF (k,z,e,l) ins).2,())⟩)
end Go.Proofs.YticmijfmgmkkcaaGreat
namespace Go.Proofs.YticmijfmgmkkcaaGreat
open Go.Sx
set_option maxHeartbeats 8000000 in
theorem walk13x1:Walk13 1:=by
 intro z e l ins hc hlk
 have hl:ins.length=0:=by have h:(ins.length:Int)=0:=hlk;omega
 have hs:=chk_size hc
 have hit:=(chk_items hc).1
 replace hit:l.length≤200:=hit
 have hroom:l.length≤1000:=by omega
 obtain ⟨ek,eo,em,ev,ea⟩:=e
 refine ⟨_,callM_ok, ?_⟩
 refine (aI (by first | kernel_rfl | rfl) (aI True.intro (aI (fun h0=>(fin_of rfl (by first | exact MN0' (by assumption) | exact MN1' (by assumption) (by assumption)))) (fun h0=>(aI (by rfl) (fun h1=>(aI (fun h2=>(fin_of rfl (by first | exact MN0' (by assumption) | exact MN1' (by assumption) (by assumption)))) (fun h2=>(fun h3=>?_)))))))))
 refine ex4 _ (fun i:Nat=>⟨[.any,.sl (.sl (.int .i64)) ins,.ptr 0 0,.any,.any,.any,.any,.ptr 1 0,.any,.any,.any,.any,.any,.any,.any,.any,.any,.any,.any,.any,.any,.any,.any,.any,.any,.any,.any,.any,.sl (.sl (.int .i64)) ins,.int .i64 (↑ins.length:Int),.int .i64 (i:Int)]++nA 34,[.cells   [.int .i64 1,.int .i64 z,.int .i64 (ExprT.mk ek eo em ev ea).kind,     .int .i64 (ExprT.mk ek eo em ev ea).op,.str (ExprT.mk ek eo em ev ea).name,     .int .i64 (ExprT.mk ek eo em ev ea).value,.sl .expr (ExprT.mk ek eo em ev ea).args,     .sl (.int .i64) l],.cells   [.int .i64 0,.int .i64 1,.int .i64 0,.int .i64 0,.int .i64 0,     .sl .str [],.fn (Fn.func 94) [] [],.fn (Fn.func 93) [] []]],2⟩) (fun i=>i≤ins.length∧strF ins=strF (ins.drop i)) (fun i=>ins.length - i) (aI (Exists.intro (0) (Exists.intro ([some 0,some 1]) (aI ?_ (aI (by rfl) (aI (by rfl) (aI (aI (aI (by rfl) (by rfl)) (aI (aI (by rfl) (by rfl)) True.intro)) (by rfl))))))) ?_)
 ·exact ⟨Nat.zero_le _,rfl⟩
 rintro i ⟨hi,ht⟩
 have hin:decide ((i:Int) < (ins.length:Int))=false→(!decide (strF ins=0))=false:=fun h=>by
  have hi':¬ i < ins.length:=by simpa using h
  rw [ht,List.drop_of_length_le (by omega)];rfl
 have ix:0 < 0→0≤(0:Int)∧(0:Int) < (ins.length:Int):=fun h=>by rw [hl];omega
 have iy:1 < 0→0≤(1:Int)∧(1:Int) < (ins.length:Int):=fun h=>by rw [hl];omega
 have hst:strF ins=0→∀ j,j < ins.length→(ins.getD j (dflt tIs)).length≤200∧(ins.getD j (dflt tIs)).any notNum=false:=fun h j hj=>strF_get h hj
 refine (aI (fun (k0:decide ((↑i:Int) < (↑ins.length:Int))=true)=>absurd (of_decide_eq_true k0) (by omega)) (fun k0=>(aI (by first | kernel_rfl | rfl) (aI (by rfl) (aI (by first | kernel_rfl | rfl) (aI (by first | exact ⟨by decide,rfl,by decide,by decide⟩ | exact ix (by decide) | exact iy (by decide) | exact hroom | (intros;(try subst_vars);(try simp only [nB] at *);(try simp only [inK,big,lim,nL] at *);omega)) (aI (by first | kernel_rfl | rfl) (aI (fun k1=>(aI (by first | kernel_rfl | rfl) (aI (by first | exact ⟨by decide,rfl,by decide,by decide⟩ | exact ix (by decide) | exact iy (by decide) | exact hroom | (intros;(try subst_vars);(try simp only [nB] at *);(try simp only [inK,big,lim,nL] at *);omega)) (aI (by first | exact ⟨by decide,rfl,by decide,by decide⟩ | exact ix (by decide) | exact iy (by decide) | exact hroom | (intros;(try subst_vars);(try simp only [nB] at *);(try simp only [inK,big,lim,nL] at *);omega)) (aI (fun k2=>nF (by kernel_rfl) k2) (fun k2=>(aI True.intro (aI (fun k3=>(fin_of rfl ?_)) (fun k3=>(fin_of rfl ?_)))))))))) (fun k1=>False.elim (Bool.false_ne_true (Eq.symm (Eq.trans (by kernel_rfl) k1))))))))))))
 ·have run:runF (1,z,ExprT.mk ek eo em ev ea,l) ins=([l],0):=rfl
  have hs0:=hin k0
  exact MN4' (by assumption) (by assumption) hs0 (by rw [run];rfl) (by rw [run];exact k3)
 ·have run:runF (1,z,ExprT.mk ek eo em ev ea,l) ins=([l],0):=rfl
  have hs0:=hin k0
  exact (MN5' (by assumption) (by assumption) hs0 (by rw [run];rfl) (by rw [run];exact k3)).trans (by rw [run])
end Go.Proofs.YticmijfmgmkkcaaGreat
namespace Go.Proofs.YticmijfmgmkkcaaGreat
open Go.Sx
set_option maxHeartbeats 8000000 in
theorem walk13x2:Walk13 2:=by
 intro z e l ins hc hlk
 have hl:ins.length=1:=by have h:(ins.length:Int)=1:=hlk;omega
 have hs:=chk_size hc
 obtain ⟨ek,eo,em,ev,ea⟩:=e
 refine ⟨_,callM_ok, ?_⟩
 refine (aI (by first | kernel_rfl | rfl) (aI True.intro (aI (fun h0=>(fin_of rfl (by first | exact MN0' (by assumption) | exact MN1' (by assumption) (by assumption)))) (fun h0=>(aI (by rfl) (fun h1=>(aI (fun h2=>(fin_of rfl (by first | exact MN0' (by assumption) | exact MN1' (by assumption) (by assumption)))) (fun h2=>(fun h3=>?_)))))))))
 refine ex4 _ (fun i:Nat=>⟨[.any,.sl (.sl (.int .i64)) ins,.ptr 0 0,.any,.any,.any,.any,.ptr 1 0,.any,.any,.any,.any,.any,.any,.any,.any,.any,.any,.any,.any,.any,.any,.any,.any,.any,.any,.any,.any,.sl (.sl (.int .i64)) ins,.int .i64 (↑ins.length:Int),.int .i64 (i:Int)]++nA 34,[.cells   [.int .i64 2,.int .i64 z,.int .i64 (ExprT.mk ek eo em ev ea).kind,     .int .i64 (ExprT.mk ek eo em ev ea).op,.str (ExprT.mk ek eo em ev ea).name,     .int .i64 (ExprT.mk ek eo em ev ea).value,.sl .expr (ExprT.mk ek eo em ev ea).args,     .sl (.int .i64) l],.cells   [.int .i64 1,.int .i64 1,.int .i64 0,.int .i64 0,.int .i64 1,     .sl .str [{ data:=#[120] }],.fn (Fn.func 95) [] [],.fn (Fn.func 93) [] []]],2⟩) (fun i=>i≤ins.length∧strF ins=strF (ins.drop i)) (fun i=>ins.length - i) (aI (Exists.intro (0) (Exists.intro ([some 0,some 1]) (aI ?_ (aI (by rfl) (aI (by rfl) (aI (aI (aI (by rfl) (by rfl)) (aI (aI (by rfl) (by rfl)) True.intro)) (by rfl))))))) ?_)
 ·exact ⟨Nat.zero_le _,rfl⟩
 rintro i ⟨hi,ht⟩
 have hin:decide ((i:Int) < (ins.length:Int))=false→(!decide (strF ins=0))=false:=fun h=>by
  have hi':¬ i < ins.length:=by simpa using h
  rw [ht,List.drop_of_length_le (by omega)];rfl
 have ix:0 < 1→0≤(0:Int)∧(0:Int) < (ins.length:Int):=fun h=>by rw [hl];omega
 have iy:1 < 1→0≤(1:Int)∧(1:Int) < (ins.length:Int):=fun h=>by rw [hl];omega
 have hst:strF ins=0→∀ j,j < ins.length→(ins.getD j (dflt tIs)).length≤200∧(ins.getD j (dflt tIs)).any notNum=false:=fun h j hj=>strF_get h hj
 refine (aI (fun k0=>(aI (by first | exact ⟨by decide,rfl,by decide,by decide⟩ | exact ix (by decide) | exact iy (by decide) | (intros;(try subst_vars);(try simp only [nB] at *);(try simp only [inK,big,lim,nL] at *);omega)) (fun k1=>(aI (fun k2=>(fin_of rfl ?_)) (fun k2=>(aI True.intro (aI (fun k3=>(fin_of rfl ?_)) (fun k3=>(aI (by first | exact ⟨by decide,rfl,by decide,by decide⟩ | exact ix (by decide) | exact iy (by decide) | (intros;(try subst_vars);(try simp only [nB] at *);(try simp only [inK,big,lim,nL] at *);omega)) ?_))))))))) (fun k0=>(aI (by first | kernel_rfl | rfl) (aI (by rfl) (aI (by first | kernel_rfl | rfl) (aI (by first | exact ⟨by decide,rfl,by decide,by decide⟩ | exact ix (by decide) | exact iy (by decide) | (intros;(try subst_vars);(try simp only [nB] at *);(try simp only [inK,big,lim,nL] at *);omega)) (aI (by first | kernel_rfl | rfl) (aI (fun k4=>nF (by kernel_rfl) k4) (fun k4=>(aI (fun k5=>nF (by kernel_rfl) k5) (fun k5=>(aI (fun k6=>nF (by kernel_rfl) k6) (fun k6=>(aI (by first | exact ⟨by decide,rfl,by decide,by decide⟩ | exact ix (by decide) | exact iy (by decide) | (intros;(try subst_vars);(try simp only [nB] at *);(try simp only [inK,big,lim,nL] at *);omega)) (fun k7=>?_)))))))))))))))
 ·have hi':i < ins.length:=by simpa using k0
  have hk:longB (ins.getD i (dflt tIs))=true:=k2
  have e4:strF ins=4:=by rw [ht,strF_drop hi',if_pos hk]
  exact (MN2' (by assumption) (by assumption) (by rw [e4];rfl)).trans (by rw [e4])
 ·have hi':i < ins.length:=by simpa using k0
  have hk:¬ longB (ins.getD i (dflt tIs))=true:=by have h:longB (ins.getD i (dflt tIs))=false:=k2;rw [h];simp
  have hk2:(ins.getD i (dflt tIs)).any notNum=true:=k3
  have e4:strF ins=2:=by rw [ht,strF_drop hi',if_neg hk,if_pos hk2]
  exact (MN2' (by assumption) (by assumption) (by rw [e4];rfl)).trans (by rw [e4])
 ·have hi':i < ins.length:=by simpa using k0
  have hk:¬ longB (ins.getD i (dflt tIs))=true:=by have h:longB (ins.getD i (dflt tIs))=false:=k2;rw [h];simp
  have hk2:¬ (ins.getD i (dflt tIs)).any notNum=true:=by have h:(ins.getD i (dflt tIs)).any notNum=false:=k3;rw [h];simp
  refine Exists.intro (i+1) (Exists.intro ([some 0,some 1]) (aI ?_ (aI ?_ (aI (by rfl) (aI (by rfl) (aI (aI (aI (by rfl) (by rfl)) (aI (aI (by rfl) (by rfl)) True.intro)) (by rfl)))))))
  ·refine ⟨hi', ?_⟩
   rw [ht,strF_drop hi',if_neg hk,if_neg hk2]
  ·show ins.length - (i+1) < ins.length - i
   omega
 have hs0:=hin k0
 have hstr:strF ins=0:=by simpa using hs0
 obtain ⟨hal,han⟩:=strF_get hstr (show 0 < ins.length by omega)
 replace hal:(ins.getD 0 []).length≤200:=hal
 replace han:(ins.getD 0 []).any notNum=false:=han
 clear ht hi hin
 refine ex4 _ (fun p:Nat × List Int × Int=>⟨[.ptr 6 0,.agg   [.int .i64 1,.int .i64 1,.int .i64 0,.int .i64 0,.int .i64 1,     .sl .str [{ data:=#[120] }],.fn (Fn.func 95) [] [],.fn (Fn.func 93) [] []],.sl (.sl (.int .i64)) ins,.any,.ptr 7 0,.any,.any,.any,.any,.any,.any,.ptr 6 0,.any,.any,.sl (.sl (.int .i64)) ins,.eptr [PV.sl (.int .i64) (ins.getD (Int.toNat 0) (dflt (.sl (.int .i64))))],.sl (.int .i64) (ins.getD (Int.toNat 0) (dflt (.sl (.int .i64)))),.int .i64 (↑(List.length (ins.getD (Int.toNat 0) (dflt (.sl (.int .i64))))):Int),.int .i64 (p.1:Int),.any,.any,.any,.any,.any,.any,.any,.any,.any,.any,.any,.any,.any,.any,.any,.any,.any,.any,.any,.any,.any,.any,.any,.any,.any,.any,.bool (decide (2=8)),.any,.any,.any,.any,.any,.any,.any,.any,.any,.any,.any,.any,.any,.bool (decide (2=9)),.bool (decide (2=9))]++nA 29,[.cells   [.int .i64 2,.int .i64 z,.int .i64 (ExprT.mk ek eo em ev ea).kind,     .int .i64 (ExprT.mk ek eo em ev ea).op,.str (ExprT.mk ek eo em ev ea).name,     .int .i64 (ExprT.mk ek eo em ev ea).value,.sl .expr (ExprT.mk ek eo em ev ea).args,     .sl (.int .i64) l],.cells   [.int .i64 1,.int .i64 1,.int .i64 0,.int .i64 0,.int .i64 1,     .sl .str [{ data:=#[120] }],.fn (Fn.func 95) [] [],.fn (Fn.func 93) [] []],.cells   [.int .i64 2,.int .i64 z,.int .i64 (ExprT.mk ek eo em ev ea).kind,     .int .i64 (ExprT.mk ek eo em ev ea).op,.str (ExprT.mk ek eo em ev ea).name,     .int .i64 (ExprT.mk ek eo em ev ea).value,.sl .expr (ExprT.mk ek eo em ev ea).args,     .sl (.int .i64) l],.cells [.cap0,.int .i64 0,.bool false],.cells   [.int .i64 1,.int .i64 1,.int .i64 0,.int .i64 0,.int .i64 1,     .sl .str [{ data:=#[120] }],.fn (Fn.func 95) [] [],.fn (Fn.func 93) [] []],.cells [.own 8],.cells [.int .i64 2,.int .i64 z,.int .i64 ek,.int .i64 eo,.str em,.int .i64 ev,.sl .expr ea,.sl tI l,.cap0,.int .i64 0,.bool false,.csl tI 5 1,.int .i64 p.2.2,.int .i64 0],.cells   [.int .i64 1,.int .i64 1,.int .i64 0,.int .i64 0,.int .i64 1,     .sl .str [{ data:=#[120] }],.fn (Fn.func 95) [] [],.fn (Fn.func 93) [] []],.rows tI p.2.1],9⟩) (fun p=>p.1≤(ins.getD 0 []).length∧p.2=(((ins.getD 0 []).take p.1).foldl (mapS (ExprT.mk ek eo em ev ea)) ([],0))∧p.2.1.length≤p.1) (fun p=>(ins.getD 0 []).length - p.1) (aI (Exists.intro ((0,([],0))) (Exists.intro ([some 0,some 1,some 2,some 3,some 4,some 5,some 6,some 7,none]) (aI ?_ (aI (by rfl) (aI (by rfl) (aI (aI (aI (by rfl) (by rfl)) (aI (aI (by rfl) (by rfl)) (aI (aI (by rfl) (by rfl)) (aI (aI (by rfl) (by rfl)) (aI (aI (by rfl) (by rfl)) (aI (aI (by rfl) (by rfl)) (aI (aI (by rfl) (by rfl)) (aI (aI (by rfl) (by rfl)) (aI (by rfl) True.intro))))))))) (by rfl))))))) ?_)
 ·exact ⟨Nat.zero_le _,rfl,Nat.le_refl _⟩
 rintro ⟨j,o,f⟩ ⟨hj,hp,ho⟩
 replace hj:j≤(ins.getD 0 []).length:=hj
 replace hp:(o,f)=(((ins.getD 0 []).take j).foldl (mapS (ExprT.mk ek eo em ev ea)) ([],0)):=hp
 have hnx:j < (ins.getD 0 []).length→((ins.getD 0 []).take (j+1)).foldl (mapS (ExprT.mk ek eo em ev ea)) ([],0)=mapS (ExprT.mk ek eo em ev ea) (o,f) ((ins.getD 0 []).getD j 0):=fun h=>by
  rw [fold_take _ _ 0 h,← hp]
 have hen:decide ((j:Int) < ((ins.getD 0 []).length:Int))=false→(ins.getD 0 []).foldl (mapS (ExprT.mk ek eo em ev ea)) ([],0)=(o,f):=fun h=>by
  have h':¬ j < (ins.getD 0 []).length:=by simpa using h
  rw [hp,List.take_of_length_le (by omega)]
 replace ho:o.length≤j:=ho
 have room:(o.length+1) * 8≤lim:=by simp only [lim];omega
 refine (aI (fun m0=>(aI (by first | exact room | (intros;(try subst_vars);(try simp only [nB] at *);(try simp only [inK,big,lim,nL] at *);omega)) (aI (by first | kernel_rfl | rfl) (aI (by first | kernel_rfl | rfl) (aI (by rfl) (aI (by first | kernel_rfl | rfl) (aI (by first | exact room | (intros;(try subst_vars);(try simp only [nB] at *);(try simp only [inK,big,lim,nL] at *);omega)) (aI True.intro (aI (fun m1=>(aI (by first | kernel_rfl | rfl) (aI (fun m2=>(aI (by kernel_rfl) (aI (by first | exact room | (intros;(try subst_vars);(try simp only [nB] at *);(try simp only [inK,big,lim,nL] at *);omega)) (aI (by rfl) (aI (by rfl) (aI (by rfl) (aI (by rfl) (aI (by rfl) (aI (by rfl) (aI (by rfl) (aI (by rfl) (aI (by rfl) (aI (by rfl) (aI (by first | exact room | (intros;(try subst_vars);(try simp only [nB] at *);(try simp only [inK,big,lim,nL] at *);omega)) (aI (by rfl) (aI (by rfl) (aI (by rfl) (aI (by rfl) (aI (by rfl) (aI (by rfl) (aI (by rfl) (aI (by rfl) (aI (by rfl) (aI (by rfl) (aI (by rfl) (aI (by rfl) (aI (by rfl) (aI (by first | exact room | (intros;(try subst_vars);(try simp only [nB] at *);(try simp only [inK,big,lim,nL] at *);omega)) (aI (by rfl) (aI (by rfl) (aI (by first | exact room | (intros;(try subst_vars);(try simp only [nB] at *);(try simp only [inK,big,lim,nL] at *);omega)) (aI (by first | exact room | (intros;(try subst_vars);(try simp only [nB] at *);(try simp only [inK,big,lim,nL] at *);omega)) (aI (by first | exact room | (intros;(try subst_vars);(try simp only [nB] at *);(try simp only [inK,big,lim,nL] at *);omega)) (aI (by rfl) (aI (by rfl) (aI (by rfl) (aI (by rfl) (aI (by rfl) (aI (by rfl) (aI (by first | exact room | (intros;(try subst_vars);(try simp only [nB] at *);(try simp only [inK,big,lim,nL] at *);omega)) ?_)))))))))))))))))))))))))))))))))))))))) (fun m2=>(aI (by first | exact room | (intros;(try subst_vars);(try simp only [nB] at *);(try simp only [inK,big,lim,nL] at *);omega)) ?_))))) (fun m1=>(aI (by first | kernel_rfl | rfl) (aI (fun m3=>absurd (Eq.trans (Eq.symm m1) m3) (by decide)) (fun m3=>(aI (by first | exact room | (intros;(try subst_vars);(try simp only [nB] at *);(try simp only [inK,big,lim,nL] at *);omega)) ?_)))))))))))))) (fun m0=>(aI (by first | kernel_rfl | rfl) (aI (fun m4=>(aI (by first | kernel_rfl | rfl) (fin_of rfl ?_))) (fun m4=>(aI True.intro (aI (fun m5=>(fin_of rfl ?_)) (fun m5=>(fin_of rfl ?_)))))))))
 ·have hj':j < (ins.getD 0 []).length:=by simpa using m0
  refine Exists.intro ((j+1,o++[(evX (ExprT.mk ek eo em ev ea) nmX ((ins.getD 0 []).getD j 0) 0).1],(evX (ExprT.mk ek eo em ev ea) nmX ((ins.getD 0 []).getD j 0) 0).2)) (Exists.intro ([some 0,some 1,some 2,some 3,some 4,some 5,some 6,some 7,some 12]) (aI ?_ (aI ?_ (aI (by rfl) (aI (by rfl) (aI (aI (aI (by rfl) (by rfl)) (aI (aI (by rfl) (by rfl)) (aI (aI (by rfl) (by rfl)) (aI (aI (by rfl) (by rfl)) (aI (aI (by rfl) (by rfl)) (aI (aI (by rfl) (by rfl)) (aI (aI (by rfl) (by rfl)) (aI (aI (by rfl) (by rfl)) (aI (by rfl) True.intro))))))))) (by rfl)))))))
  ·refine ⟨hj', ?_,by show (_++[_]).length≤j+1;simp;omega⟩
   show _=((ins.getD 0 []).take (j+1)).foldl _ _
   rw [hnx hj']
   dsimp only [mapS]
   rw [errN_0 m1,sndI_0 (f:=(evX (ExprT.mk ek eo em ev ea) nmX ((ins.getD 0 []).getD j 0) 0).2) (show decide ((evX (ExprT.mk ek eo em ev ea) nmX ((ins.getD 0 []).getD j 0) 0).2=0)=true from m2)]
  ·show (ins.getD 0 []).length - (j+1) < (ins.getD 0 []).length - j
   omega
 ·have hj':j < (ins.getD 0 []).length:=by simpa using m0
  refine Exists.intro ((j+1,o,(evX (ExprT.mk ek eo em ev ea) nmX ((ins.getD 0 []).getD j 0) 0).2)) (Exists.intro ([some 0,some 1,some 2,some 3,some 4,some 5,some 6,some 7,some 8]) (aI ?_ (aI ?_ (aI (by rfl) (aI (by rfl) (aI (aI (aI (by rfl) (by rfl)) (aI (aI (by rfl) (by rfl)) (aI (aI (by rfl) (by rfl)) (aI (aI (by rfl) (by rfl)) (aI (aI (by rfl) (by rfl)) (aI (aI (by rfl) (by rfl)) (aI (aI (by rfl) (by rfl)) (aI (aI (by rfl) (by rfl)) (aI (by rfl) True.intro))))))))) (by rfl)))))))
  ·refine ⟨hj', ?_,by show o.length≤j+1;omega⟩
   show _=((ins.getD 0 []).take (j+1)).foldl _ _
   rw [hnx hj']
   dsimp only [mapS]
   rw [errN_0 m1,sndI_1 (f:=(evX (ExprT.mk ek eo em ev ea) nmX ((ins.getD 0 []).getD j 0) 0).2) (show decide ((evX (ExprT.mk ek eo em ev ea) nmX ((ins.getD 0 []).getD j 0) 0).2=0)=false from m2)]
  ·show (ins.getD 0 []).length - (j+1) < (ins.getD 0 []).length - j
   omega
 ·have hj':j < (ins.getD 0 []).length:=by simpa using m0
  refine Exists.intro ((j+1,o,f)) (Exists.intro ([some 0,some 1,some 2,some 3,some 4,some 5,some 6,some 7,some 8]) (aI ?_ (aI ?_ (aI (by rfl) (aI (by rfl) (aI (aI (aI (by rfl) (by rfl)) (aI (aI (by rfl) (by rfl)) (aI (aI (by rfl) (by rfl)) (aI (aI (by rfl) (by rfl)) (aI (aI (by rfl) (by rfl)) (aI (aI (by rfl) (by rfl)) (aI (aI (by rfl) (by rfl)) (aI (aI (by rfl) (by rfl)) (aI (by rfl) True.intro))))))))) (by rfl)))))))
  ·refine ⟨hj', ?_,by show o.length≤j+1;omega⟩
   show _=((ins.getD 0 []).take (j+1)).foldl _ _
   rw [hnx hj']
   dsimp only [mapS]
   rw [errN_1 m1,sndI_1 m1]
  ·show (ins.getD 0 []).length - (j+1) < (ins.getD 0 []).length - j
   omega
 ·skip
  have run:runF (2,z,ExprT.mk ek eo em ev ea,l) ins=([o],f):=by
   show ([((ins.getD 0 []).foldl (mapS (ExprT.mk ek eo em ev ea)) ([],0)).1],((ins.getD 0 []).foldl (mapS (ExprT.mk ek eo em ev ea)) ([],0)).2)=_
   rw [hen m0]
  exact (MN3' (by assumption) (by assumption) hs0 (by rw [run];exact m4)).trans (by rw [run])
 ·skip
  have run:runF (2,z,ExprT.mk ek eo em ev ea,l) ins=([o],f):=by
   show ([((ins.getD 0 []).foldl (mapS (ExprT.mk ek eo em ev ea)) ([],0)).1],((ins.getD 0 []).foldl (mapS (ExprT.mk ek eo em ev ea)) ([],0)).2)=_
   rw [hen m0]
  exact MN4' (by assumption) (by assumption) hs0 (by rw [run];exact m4) (by rw [run];exact m5)
 ·skip
  have run:runF (2,z,ExprT.mk ek eo em ev ea,l) ins=([o],f):=by
   show ([((ins.getD 0 []).foldl (mapS (ExprT.mk ek eo em ev ea)) ([],0)).1],((ins.getD 0 []).foldl (mapS (ExprT.mk ek eo em ev ea)) ([],0)).2)=_
   rw [hen m0]
  exact (MN5' (by assumption) (by assumption) hs0 (by rw [run];exact m4) (by rw [run];exact m5)).trans (by rw [run])
end Go.Proofs.YticmijfmgmkkcaaGreat
namespace Go.Proofs.YticmijfmgmkkcaaGreat
open Go.Sx
set_option maxHeartbeats 8000000 in
theorem walk13x3:Walk13 3:=by
 intro z e l ins hc hlk
 have hl:ins.length=1:=by have h:(ins.length:Int)=1:=hlk;omega
 have hs:=chk_size hc
 obtain ⟨ek,eo,em,ev,ea⟩:=e
 refine ⟨_,callM_ok, ?_⟩
 refine (aI (by first | kernel_rfl | rfl) (aI True.intro (aI (fun h0=>(fin_of rfl (by first | exact MN0' (by assumption) | exact MN1' (by assumption) (by assumption)))) (fun h0=>(aI (by rfl) (fun h1=>(aI (fun h2=>(fin_of rfl (by first | exact MN0' (by assumption) | exact MN1' (by assumption) (by assumption)))) (fun h2=>(fun h3=>?_)))))))))
 refine ex4 _ (fun i:Nat=>⟨[.any,.sl (.sl (.int .i64)) ins,.ptr 0 0,.any,.any,.any,.any,.ptr 1 0,.any,.any,.any,.any,.any,.any,.any,.any,.any,.any,.any,.any,.any,.any,.any,.any,.any,.any,.any,.any,.sl (.sl (.int .i64)) ins,.int .i64 (↑ins.length:Int),.int .i64 (i:Int)]++nA 34,[.cells   [.int .i64 3,.int .i64 z,.int .i64 (ExprT.mk ek eo em ev ea).kind,     .int .i64 (ExprT.mk ek eo em ev ea).op,.str (ExprT.mk ek eo em ev ea).name,     .int .i64 (ExprT.mk ek eo em ev ea).value,.sl .expr (ExprT.mk ek eo em ev ea).args,     .sl (.int .i64) l],.cells   [.int .i64 1,.int .i64 1,.int .i64 0,.int .i64 0,.int .i64 2,     .sl .str [{ data:=#[120] }],.fn (Fn.func 96) [] [],.fn (Fn.func 93) [] []]],2⟩) (fun i=>i≤ins.length∧strF ins=strF (ins.drop i)) (fun i=>ins.length - i) (aI (Exists.intro (0) (Exists.intro ([some 0,some 1]) (aI ?_ (aI (by rfl) (aI (by rfl) (aI (aI (aI (by rfl) (by rfl)) (aI (aI (by rfl) (by rfl)) True.intro)) (by rfl))))))) ?_)
 ·exact ⟨Nat.zero_le _,rfl⟩
 rintro i ⟨hi,ht⟩
 have hin:decide ((i:Int) < (ins.length:Int))=false→(!decide (strF ins=0))=false:=fun h=>by
  have hi':¬ i < ins.length:=by simpa using h
  rw [ht,List.drop_of_length_le (by omega)];rfl
 have ix:0 < 1→0≤(0:Int)∧(0:Int) < (ins.length:Int):=fun h=>by rw [hl];omega
 have iy:1 < 1→0≤(1:Int)∧(1:Int) < (ins.length:Int):=fun h=>by rw [hl];omega
 have hst:strF ins=0→∀ j,j < ins.length→(ins.getD j (dflt tIs)).length≤200∧(ins.getD j (dflt tIs)).any notNum=false:=fun h j hj=>strF_get h hj
 refine (aI (fun k0=>(aI (by first | exact ⟨by decide,rfl,by decide,by decide⟩ | exact ix (by decide) | exact iy (by decide) | (intros;(try subst_vars);(try simp only [nB] at *);(try simp only [inK,big,lim,nL] at *);omega)) (fun k1=>(aI (fun k2=>(fin_of rfl ?_)) (fun k2=>(aI True.intro (aI (fun k3=>(fin_of rfl ?_)) (fun k3=>(aI (by first | exact ⟨by decide,rfl,by decide,by decide⟩ | exact ix (by decide) | exact iy (by decide) | (intros;(try subst_vars);(try simp only [nB] at *);(try simp only [inK,big,lim,nL] at *);omega)) ?_))))))))) (fun k0=>(aI (by first | kernel_rfl | rfl) (aI (by rfl) (aI (by first | kernel_rfl | rfl) (aI (by first | exact ⟨by decide,rfl,by decide,by decide⟩ | exact ix (by decide) | exact iy (by decide) | (intros;(try subst_vars);(try simp only [nB] at *);(try simp only [inK,big,lim,nL] at *);omega)) (aI (by first | kernel_rfl | rfl) (aI (fun k4=>nF (by kernel_rfl) k4) (fun k4=>(aI (fun k5=>nF (by kernel_rfl) k5) (fun k5=>(aI (fun k6=>nF (by kernel_rfl) k6) (fun k6=>(aI (by first | exact ⟨by decide,rfl,by decide,by decide⟩ | exact ix (by decide) | exact iy (by decide) | (intros;(try subst_vars);(try simp only [nB] at *);(try simp only [inK,big,lim,nL] at *);omega)) (fun k7=>?_)))))))))))))))
 ·have hi':i < ins.length:=by simpa using k0
  have hk:longB (ins.getD i (dflt tIs))=true:=k2
  have e4:strF ins=4:=by rw [ht,strF_drop hi',if_pos hk]
  exact (MN2' (by assumption) (by assumption) (by rw [e4];rfl)).trans (by rw [e4])
 ·have hi':i < ins.length:=by simpa using k0
  have hk:¬ longB (ins.getD i (dflt tIs))=true:=by have h:longB (ins.getD i (dflt tIs))=false:=k2;rw [h];simp
  have hk2:(ins.getD i (dflt tIs)).any notNum=true:=k3
  have e4:strF ins=2:=by rw [ht,strF_drop hi',if_neg hk,if_pos hk2]
  exact (MN2' (by assumption) (by assumption) (by rw [e4];rfl)).trans (by rw [e4])
 ·have hi':i < ins.length:=by simpa using k0
  have hk:¬ longB (ins.getD i (dflt tIs))=true:=by have h:longB (ins.getD i (dflt tIs))=false:=k2;rw [h];simp
  have hk2:¬ (ins.getD i (dflt tIs)).any notNum=true:=by have h:(ins.getD i (dflt tIs)).any notNum=false:=k3;rw [h];simp
  refine Exists.intro (i+1) (Exists.intro ([some 0,some 1]) (aI ?_ (aI ?_ (aI (by rfl) (aI (by rfl) (aI (aI (aI (by rfl) (by rfl)) (aI (aI (by rfl) (by rfl)) True.intro)) (by rfl)))))))
  ·refine ⟨hi', ?_⟩
   rw [ht,strF_drop hi',if_neg hk,if_neg hk2]
  ·show ins.length - (i+1) < ins.length - i
   omega
 have hs0:=hin k0
 have hstr:strF ins=0:=by simpa using hs0
 obtain ⟨hal,han⟩:=strF_get hstr (show 0 < ins.length by omega)
 replace hal:(ins.getD 0 []).length≤200:=hal
 replace han:(ins.getD 0 []).any notNum=false:=han
 clear ht hi hin
 refine ex4 _ (fun p:Nat × List Int × Int=>⟨[.ptr 6 0,.agg   [.int .i64 1,.int .i64 1,.int .i64 0,.int .i64 0,.int .i64 2,     .sl .str [{ data:=#[120] }],.fn (Fn.func 96) [] [],.fn (Fn.func 93) [] []],.sl (.sl (.int .i64)) ins,.any,.ptr 7 0,.any,.any,.any,.any,.any,.any,.ptr 6 0,.any,.any,.sl (.sl (.int .i64)) ins,.eptr [PV.sl (.int .i64) (ins.getD (Int.toNat 0) (dflt (.sl (.int .i64))))],.sl (.int .i64) (ins.getD (Int.toNat 0) (dflt (.sl (.int .i64)))),.int .i64 (↑(List.length (ins.getD (Int.toNat 0) (dflt (.sl (.int .i64))))):Int),.int .i64 (p.1:Int),.any,.any,.any,.any,.any,.any,.any,.any,.any,.any,.any,.any,.any,.any,.any,.any,.any,.any,.any,.any,.any,.any,.any,.any,.any,.any,.bool (decide (3=8)),.any,.any,.any,.any,.any,.any,.any,.any,.any,.any,.any,.any,.any,.bool (decide (3=9)),.bool (decide (3=9))]++nA 29,[.cells   [.int .i64 3,.int .i64 z,.int .i64 (ExprT.mk ek eo em ev ea).kind,     .int .i64 (ExprT.mk ek eo em ev ea).op,.str (ExprT.mk ek eo em ev ea).name,     .int .i64 (ExprT.mk ek eo em ev ea).value,.sl .expr (ExprT.mk ek eo em ev ea).args,     .sl (.int .i64) l],.cells   [.int .i64 1,.int .i64 1,.int .i64 0,.int .i64 0,.int .i64 2,     .sl .str [{ data:=#[120] }],.fn (Fn.func 96) [] [],.fn (Fn.func 93) [] []],.cells   [.int .i64 3,.int .i64 z,.int .i64 (ExprT.mk ek eo em ev ea).kind,     .int .i64 (ExprT.mk ek eo em ev ea).op,.str (ExprT.mk ek eo em ev ea).name,     .int .i64 (ExprT.mk ek eo em ev ea).value,.sl .expr (ExprT.mk ek eo em ev ea).args,     .sl (.int .i64) l],.cells [.cap0,.int .i64 0,.bool false],.cells   [.int .i64 1,.int .i64 1,.int .i64 0,.int .i64 0,.int .i64 2,     .sl .str [{ data:=#[120] }],.fn (Fn.func 96) [] [],.fn (Fn.func 93) [] []],.cells [.own 8],.cells [.int .i64 3,.int .i64 z,.int .i64 ek,.int .i64 eo,.str em,.int .i64 ev,.sl .expr ea,.sl tI l,.cap0,.int .i64 0,.bool false,.csl tI 5 1,.int .i64 p.2.2,.int .i64 0],.cells   [.int .i64 1,.int .i64 1,.int .i64 0,.int .i64 0,.int .i64 2,     .sl .str [{ data:=#[120] }],.fn (Fn.func 96) [] [],.fn (Fn.func 93) [] []],.rows tI p.2.1],9⟩) (fun p=>p.1≤(ins.getD 0 []).length∧p.2=(((ins.getD 0 []).take p.1).foldl (filS (ExprT.mk ek eo em ev ea)) ([],0))∧p.2.1.length≤p.1) (fun p=>(ins.getD 0 []).length - p.1) (aI (Exists.intro ((0,([],0))) (Exists.intro ([some 0,some 1,some 2,some 3,some 4,some 5,some 6,some 7,none]) (aI ?_ (aI (by rfl) (aI (by rfl) (aI (aI (aI (by rfl) (by rfl)) (aI (aI (by rfl) (by rfl)) (aI (aI (by rfl) (by rfl)) (aI (aI (by rfl) (by rfl)) (aI (aI (by rfl) (by rfl)) (aI (aI (by rfl) (by rfl)) (aI (aI (by rfl) (by rfl)) (aI (aI (by rfl) (by rfl)) (aI (by rfl) True.intro))))))))) (by rfl))))))) ?_)
 ·exact ⟨Nat.zero_le _,rfl,Nat.le_refl _⟩
 rintro ⟨j,o,f⟩ ⟨hj,hp,ho⟩
 replace hj:j≤(ins.getD 0 []).length:=hj
 replace hp:(o,f)=(((ins.getD 0 []).take j).foldl (filS (ExprT.mk ek eo em ev ea)) ([],0)):=hp
 have hnx:j < (ins.getD 0 []).length→((ins.getD 0 []).take (j+1)).foldl (filS (ExprT.mk ek eo em ev ea)) ([],0)=filS (ExprT.mk ek eo em ev ea) (o,f) ((ins.getD 0 []).getD j 0):=fun h=>by
  rw [fold_take _ _ 0 h,← hp]
 have hen:decide ((j:Int) < ((ins.getD 0 []).length:Int))=false→(ins.getD 0 []).foldl (filS (ExprT.mk ek eo em ev ea)) ([],0)=(o,f):=fun h=>by
  have h':¬ j < (ins.getD 0 []).length:=by simpa using h
  rw [hp,List.take_of_length_le (by omega)]
 replace ho:o.length≤j:=ho
 have room:(o.length+1) * 8≤lim:=by simp only [lim];omega
 refine (aI (fun m0=>(aI (by first | exact room | (intros;(try subst_vars);(try simp only [nB] at *);(try simp only [inK,big,lim,nL] at *);omega)) (aI (by first | kernel_rfl | rfl) (aI (by first | kernel_rfl | rfl) (aI (by rfl) (aI (by first | kernel_rfl | rfl) (aI (by first | exact room | (intros;(try subst_vars);(try simp only [nB] at *);(try simp only [inK,big,lim,nL] at *);omega)) (aI True.intro (aI (fun m1=>(aI (fun m2=>(aI (by first | kernel_rfl | rfl) (aI (fun m3=>(aI (by kernel_rfl) (aI (by first | exact room | (intros;(try subst_vars);(try simp only [nB] at *);(try simp only [inK,big,lim,nL] at *);omega)) (aI (by rfl) (aI (by rfl) (aI (by rfl) (aI (by rfl) (aI (by rfl) (aI (by rfl) (aI (by rfl) (aI (by rfl) (aI (by rfl) (aI (by rfl) (aI (by first | exact room | (intros;(try subst_vars);(try simp only [nB] at *);(try simp only [inK,big,lim,nL] at *);omega)) (aI (by rfl) (aI (by rfl) (aI (by rfl) (aI (by rfl) (aI (by rfl) (aI (by rfl) (aI (by rfl) (aI (by rfl) (aI (by rfl) (aI (by rfl) (aI (by rfl) (aI (by rfl) (aI (by rfl) (aI (by first | exact room | (intros;(try subst_vars);(try simp only [nB] at *);(try simp only [inK,big,lim,nL] at *);omega)) (aI (by rfl) (aI (by rfl) (aI (by first | exact room | (intros;(try subst_vars);(try simp only [nB] at *);(try simp only [inK,big,lim,nL] at *);omega)) (aI (by first | exact room | (intros;(try subst_vars);(try simp only [nB] at *);(try simp only [inK,big,lim,nL] at *);omega)) (aI (by first | exact room | (intros;(try subst_vars);(try simp only [nB] at *);(try simp only [inK,big,lim,nL] at *);omega)) (aI (by rfl) (aI (by rfl) (aI (by rfl) (aI (by rfl) (aI (by rfl) (aI (by rfl) (aI (by first | exact room | (intros;(try subst_vars);(try simp only [nB] at *);(try simp only [inK,big,lim,nL] at *);omega)) ?_)))))))))))))))))))))))))))))))))))))))) (fun m3=>(aI (by first | exact room | (intros;(try subst_vars);(try simp only [nB] at *);(try simp only [inK,big,lim,nL] at *);omega)) ?_))))) (fun m2=>(aI (by first | exact room | (intros;(try subst_vars);(try simp only [nB] at *);(try simp only [inK,big,lim,nL] at *);omega)) ?_)))) (fun m1=>(aI (fun m4=>(aI (by first | kernel_rfl | rfl) (aI (fun m5=>absurd (Eq.trans (Eq.symm m1) m5) (by decide)) (fun m5=>(aI (by first | exact room | (intros;(try subst_vars);(try simp only [nB] at *);(try simp only [inK,big,lim,nL] at *);omega)) ?_))))) (fun m4=>(aI (by first | exact room | (intros;(try subst_vars);(try simp only [nB] at *);(try simp only [inK,big,lim,nL] at *);omega)) ?_))))))))))))) (fun m0=>(aI (by first | kernel_rfl | rfl) (aI (fun m6=>(aI (by first | kernel_rfl | rfl) (fin_of rfl ?_))) (fun m6=>(aI True.intro (aI (fun m7=>(fin_of rfl ?_)) (fun m7=>(fin_of rfl ?_)))))))))
 ·have hj':j < (ins.getD 0 []).length:=by simpa using m0
  refine Exists.intro ((j+1,o++[(ins.getD 0 []).getD j 0],(evX (ExprT.mk ek eo em ev ea) nmX ((ins.getD 0 []).getD j 0) 0).2)) (Exists.intro ([some 0,some 1,some 2,some 3,some 4,some 5,some 6,some 7,some 12]) (aI ?_ (aI ?_ (aI (by rfl) (aI (by rfl) (aI (aI (aI (by rfl) (by rfl)) (aI (aI (by rfl) (by rfl)) (aI (aI (by rfl) (by rfl)) (aI (aI (by rfl) (by rfl)) (aI (aI (by rfl) (by rfl)) (aI (aI (by rfl) (by rfl)) (aI (aI (by rfl) (by rfl)) (aI (aI (by rfl) (by rfl)) (aI (by rfl) True.intro))))))))) (by rfl)))))))
  ·refine ⟨hj', ?_,by show (_++[_]).length≤j+1;simp;omega⟩
   show _=((ins.getD 0 []).take (j+1)).foldl _ _
   rw [hnx hj']
   dsimp only [filS]
   rw [errN_0 m1,if_pos (show decide ((evX (ExprT.mk ek eo em ev ea) nmX ((ins.getD 0 []).getD j 0) 0).1=1)=true from m2),sndI_0 (f:=(evX (ExprT.mk ek eo em ev ea) nmX ((ins.getD 0 []).getD j 0) 0).2) (show decide ((evX (ExprT.mk ek eo em ev ea) nmX ((ins.getD 0 []).getD j 0) 0).2=0)=true from m3)]
  ·show (ins.getD 0 []).length - (j+1) < (ins.getD 0 []).length - j
   omega
 ·have hj':j < (ins.getD 0 []).length:=by simpa using m0
  refine Exists.intro ((j+1,o,(evX (ExprT.mk ek eo em ev ea) nmX ((ins.getD 0 []).getD j 0) 0).2)) (Exists.intro ([some 0,some 1,some 2,some 3,some 4,some 5,some 6,some 7,some 8]) (aI ?_ (aI ?_ (aI (by rfl) (aI (by rfl) (aI (aI (aI (by rfl) (by rfl)) (aI (aI (by rfl) (by rfl)) (aI (aI (by rfl) (by rfl)) (aI (aI (by rfl) (by rfl)) (aI (aI (by rfl) (by rfl)) (aI (aI (by rfl) (by rfl)) (aI (aI (by rfl) (by rfl)) (aI (aI (by rfl) (by rfl)) (aI (by rfl) True.intro))))))))) (by rfl)))))))
  ·refine ⟨hj', ?_,by show o.length≤j+1;omega⟩
   show _=((ins.getD 0 []).take (j+1)).foldl _ _
   rw [hnx hj']
   dsimp only [filS]
   rw [errN_0 m1,if_pos (show decide ((evX (ExprT.mk ek eo em ev ea) nmX ((ins.getD 0 []).getD j 0) 0).1=1)=true from m2),sndI_1 (f:=(evX (ExprT.mk ek eo em ev ea) nmX ((ins.getD 0 []).getD j 0) 0).2) (show decide ((evX (ExprT.mk ek eo em ev ea) nmX ((ins.getD 0 []).getD j 0) 0).2=0)=false from m3)]
  ·show (ins.getD 0 []).length - (j+1) < (ins.getD 0 []).length - j
   omega
 ·have hj':j < (ins.getD 0 []).length:=by simpa using m0
  refine Exists.intro ((j+1,o,(evX (ExprT.mk ek eo em ev ea) nmX ((ins.getD 0 []).getD j 0) 0).2)) (Exists.intro ([some 0,some 1,some 2,some 3,some 4,some 5,some 6,some 7,some 8]) (aI ?_ (aI ?_ (aI (by rfl) (aI (by rfl) (aI (aI (aI (by rfl) (by rfl)) (aI (aI (by rfl) (by rfl)) (aI (aI (by rfl) (by rfl)) (aI (aI (by rfl) (by rfl)) (aI (aI (by rfl) (by rfl)) (aI (aI (by rfl) (by rfl)) (aI (aI (by rfl) (by rfl)) (aI (aI (by rfl) (by rfl)) (aI (by rfl) True.intro))))))))) (by rfl)))))))
  ·refine ⟨hj', ?_,by show o.length≤j+1;omega⟩
   show _=((ins.getD 0 []).take (j+1)).foldl _ _
   rw [hnx hj']
   dsimp only [filS]
   rw [errN_0 m1,if_neg (by rw [(show decide ((evX (ExprT.mk ek eo em ev ea) nmX ((ins.getD 0 []).getD j 0) 0).1=1)=false from m2)];simp)]
  ·show (ins.getD 0 []).length - (j+1) < (ins.getD 0 []).length - j
   omega
 ·have hj':j < (ins.getD 0 []).length:=by simpa using m0
  refine Exists.intro ((j+1,o,f)) (Exists.intro ([some 0,some 1,some 2,some 3,some 4,some 5,some 6,some 7,some 8]) (aI ?_ (aI ?_ (aI (by rfl) (aI (by rfl) (aI (aI (aI (by rfl) (by rfl)) (aI (aI (by rfl) (by rfl)) (aI (aI (by rfl) (by rfl)) (aI (aI (by rfl) (by rfl)) (aI (aI (by rfl) (by rfl)) (aI (aI (by rfl) (by rfl)) (aI (aI (by rfl) (by rfl)) (aI (aI (by rfl) (by rfl)) (aI (by rfl) True.intro))))))))) (by rfl)))))))
  ·refine ⟨hj', ?_,by show o.length≤j+1;omega⟩
   show _=((ins.getD 0 []).take (j+1)).foldl _ _
   rw [hnx hj']
   dsimp only [filS]
   rw [errN_1 m1,if_pos (show decide ((evX (ExprT.mk ek eo em ev ea) nmX ((ins.getD 0 []).getD j 0) 0).1=1)=true from m4),sndI_1 m1]
  ·show (ins.getD 0 []).length - (j+1) < (ins.getD 0 []).length - j
   omega
 ·have hj':j < (ins.getD 0 []).length:=by simpa using m0
  refine Exists.intro ((j+1,o,f)) (Exists.intro ([some 0,some 1,some 2,some 3,some 4,some 5,some 6,some 7,some 8]) (aI ?_ (aI ?_ (aI (by rfl) (aI (by rfl) (aI (aI (aI (by rfl) (by rfl)) (aI (aI (by rfl) (by rfl)) (aI (aI (by rfl) (by rfl)) (aI (aI (by rfl) (by rfl)) (aI (aI (by rfl) (by rfl)) (aI (aI (by rfl) (by rfl)) (aI (aI (by rfl) (by rfl)) (aI (aI (by rfl) (by rfl)) (aI (by rfl) True.intro))))))))) (by rfl)))))))
  ·refine ⟨hj', ?_,by show o.length≤j+1;omega⟩
   show _=((ins.getD 0 []).take (j+1)).foldl _ _
   rw [hnx hj']
   dsimp only [filS]
   rw [errN_1 m1,if_neg (by rw [(show decide ((evX (ExprT.mk ek eo em ev ea) nmX ((ins.getD 0 []).getD j 0) 0).1=1)=false from m4)];simp)]
  ·show (ins.getD 0 []).length - (j+1) < (ins.getD 0 []).length - j
   omega
 ·skip
  have run:runF (3,z,ExprT.mk ek eo em ev ea,l) ins=([o],f):=by
   show ([((ins.getD 0 []).foldl (filS (ExprT.mk ek eo em ev ea)) ([],0)).1],((ins.getD 0 []).foldl (filS (ExprT.mk ek eo em ev ea)) ([],0)).2)=_
   rw [hen m0]
  exact (MN3' (by assumption) (by assumption) hs0 (by rw [run];exact m6)).trans (by rw [run])
 ·skip
  have run:runF (3,z,ExprT.mk ek eo em ev ea,l) ins=([o],f):=by
   show ([((ins.getD 0 []).foldl (filS (ExprT.mk ek eo em ev ea)) ([],0)).1],((ins.getD 0 []).foldl (filS (ExprT.mk ek eo em ev ea)) ([],0)).2)=_
   rw [hen m0]
  exact MN4' (by assumption) (by assumption) hs0 (by rw [run];exact m6) (by rw [run];exact m7)
 ·skip
  have run:runF (3,z,ExprT.mk ek eo em ev ea,l) ins=([o],f):=by
   show ([((ins.getD 0 []).foldl (filS (ExprT.mk ek eo em ev ea)) ([],0)).1],((ins.getD 0 []).foldl (filS (ExprT.mk ek eo em ev ea)) ([],0)).2)=_
   rw [hen m0]
  exact (MN5' (by assumption) (by assumption) hs0 (by rw [run];exact m6) (by rw [run];exact m7)).trans (by rw [run])
end Go.Proofs.YticmijfmgmkkcaaGreat
namespace Go.Proofs.YticmijfmgmkkcaaGreat
open Go.Sx
set_option maxHeartbeats 8000000 in
theorem walk13x5:Walk13 5:=by
 intro z e l ins hc hlk
 have hl:ins.length=1:=by have h:(ins.length:Int)=1:=hlk;omega
 have hs:=chk_size hc
 obtain ⟨ek,eo,em,ev,ea⟩:=e
 refine ⟨_,callM_ok, ?_⟩
 refine (aI (by first | kernel_rfl | rfl) (aI True.intro (aI (fun h0=>(fin_of rfl (by first | exact MN0' (by assumption) | exact MN1' (by assumption) (by assumption)))) (fun h0=>(aI (by rfl) (fun h1=>(aI (fun h2=>(fin_of rfl (by first | exact MN0' (by assumption) | exact MN1' (by assumption) (by assumption)))) (fun h2=>(fun h3=>?_)))))))))
 refine ex4 _ (fun i:Nat=>⟨[.any,.sl (.sl (.int .i64)) ins,.ptr 0 0,.any,.any,.any,.any,.ptr 1 0,.any,.any,.any,.any,.any,.any,.any,.any,.any,.any,.any,.any,.any,.any,.any,.any,.any,.any,.any,.any,.sl (.sl (.int .i64)) ins,.int .i64 (↑ins.length:Int),.int .i64 (i:Int)]++nA 34,[.cells   [.int .i64 5,.int .i64 z,.int .i64 (ExprT.mk ek eo em ev ea).kind,     .int .i64 (ExprT.mk ek eo em ev ea).op,.str (ExprT.mk ek eo em ev ea).name,     .int .i64 (ExprT.mk ek eo em ev ea).value,.sl .expr (ExprT.mk ek eo em ev ea).args,     .sl (.int .i64) l],.cells   [.int .i64 1,.int .i64 1,.int .i64 0,.int .i64 100,.int .i64 0,     .sl .str [],.fn (Fn.func 100) [] [],.fn (Fn.func 93) [] []]],2⟩) (fun i=>i≤ins.length∧strF ins=strF (ins.drop i)) (fun i=>ins.length - i) (aI (Exists.intro (0) (Exists.intro ([some 0,some 1]) (aI ?_ (aI (by rfl) (aI (by rfl) (aI (aI (aI (by rfl) (by rfl)) (aI (aI (by rfl) (by rfl)) True.intro)) (by rfl))))))) ?_)
 ·exact ⟨Nat.zero_le _,rfl⟩
 rintro i ⟨hi,ht⟩
 have hin:decide ((i:Int) < (ins.length:Int))=false→(!decide (strF ins=0))=false:=fun h=>by
  have hi':¬ i < ins.length:=by simpa using h
  rw [ht,List.drop_of_length_le (by omega)];rfl
 have ix:0 < 1→0≤(0:Int)∧(0:Int) < (ins.length:Int):=fun h=>by rw [hl];omega
 have iy:1 < 1→0≤(1:Int)∧(1:Int) < (ins.length:Int):=fun h=>by rw [hl];omega
 have hst:strF ins=0→∀ j,j < ins.length→(ins.getD j (dflt tIs)).length≤200∧(ins.getD j (dflt tIs)).any notNum=false:=fun h j hj=>strF_get h hj
 refine (aI (fun k0=>(aI (by first | exact ⟨by decide,rfl,by decide,by decide⟩ | exact ix (by decide) | exact iy (by decide) | (intros;(try subst_vars);(try simp only [nB] at *);(try simp only [inK,big,lim,nL] at *);omega)) (fun k1=>(aI (fun k2=>(fin_of rfl ?_)) (fun k2=>(aI True.intro (aI (fun k3=>(fin_of rfl ?_)) (fun k3=>(aI (by first | exact ⟨by decide,rfl,by decide,by decide⟩ | exact ix (by decide) | exact iy (by decide) | (intros;(try subst_vars);(try simp only [nB] at *);(try simp only [inK,big,lim,nL] at *);omega)) ?_))))))))) (fun k0=>(aI (by first | kernel_rfl | rfl) (aI (by rfl) (aI (by first | kernel_rfl | rfl) (aI (by first | exact ⟨by decide,rfl,by decide,by decide⟩ | exact ix (by decide) | exact iy (by decide) | (intros;(try subst_vars);(try simp only [nB] at *);(try simp only [inK,big,lim,nL] at *);omega)) (aI (by first | kernel_rfl | rfl) (aI (fun k4=>nF (by kernel_rfl) k4) (fun k4=>(aI (fun k5=>nF (by kernel_rfl) k5) (fun k5=>(aI (fun k6=>nF (by kernel_rfl) k6) (fun k6=>(aI (by first | exact ⟨by decide,rfl,by decide,by decide⟩ | exact ix (by decide) | exact iy (by decide) | (intros;(try subst_vars);(try simp only [nB] at *);(try simp only [inK,big,lim,nL] at *);omega)) (fun k7=>?_)))))))))))))))
 ·have hi':i < ins.length:=by simpa using k0
  have hk:longB (ins.getD i (dflt tIs))=true:=k2
  have e4:strF ins=4:=by rw [ht,strF_drop hi',if_pos hk]
  exact (MN2' (by assumption) (by assumption) (by rw [e4];rfl)).trans (by rw [e4])
 ·have hi':i < ins.length:=by simpa using k0
  have hk:¬ longB (ins.getD i (dflt tIs))=true:=by have h:longB (ins.getD i (dflt tIs))=false:=k2;rw [h];simp
  have hk2:(ins.getD i (dflt tIs)).any notNum=true:=k3
  have e4:strF ins=2:=by rw [ht,strF_drop hi',if_neg hk,if_pos hk2]
  exact (MN2' (by assumption) (by assumption) (by rw [e4];rfl)).trans (by rw [e4])
 ·have hi':i < ins.length:=by simpa using k0
  have hk:¬ longB (ins.getD i (dflt tIs))=true:=by have h:longB (ins.getD i (dflt tIs))=false:=k2;rw [h];simp
  have hk2:¬ (ins.getD i (dflt tIs)).any notNum=true:=by have h:(ins.getD i (dflt tIs)).any notNum=false:=k3;rw [h];simp
  refine Exists.intro (i+1) (Exists.intro ([some 0,some 1]) (aI ?_ (aI ?_ (aI (by rfl) (aI (by rfl) (aI (aI (aI (by rfl) (by rfl)) (aI (aI (by rfl) (by rfl)) True.intro)) (by rfl)))))))
  ·refine ⟨hi', ?_⟩
   rw [ht,strF_drop hi',if_neg hk,if_neg hk2]
  ·show ins.length - (i+1) < ins.length - i
   omega
 have hs0:=hin k0
 have hstr:strF ins=0:=by simpa using hs0
 obtain ⟨hal,han⟩:=strF_get hstr (show 0 < ins.length by omega)
 replace hal:(ins.getD 0 []).length≤200:=hal
 replace han:(ins.getD 0 []).any notNum=false:=han
 clear ht hi hin
 refine ex4 _ (fun p:Nat × List Int=>⟨[.ptr 6 0,.agg   [.int .i64 1,.int .i64 1,.int .i64 0,.int .i64 100,.int .i64 0,     .sl .str [],.fn (Fn.func 100) [] [],.fn (Fn.func 93) [] []],.sl (.sl (.int .i64)) ins,.any,.ptr 7 0,.any,.any,.any,.any,.any,.any,.ptr 6 0,.any,.any,.sl (.sl (.int .i64)) ins,.eptr [PV.sl (.int .i64) (ins.getD (Int.toNat 0) (dflt (.sl (.int .i64))))],.sl (.int .i64) (ins.getD (Int.toNat 0) (dflt (.sl (.int .i64)))),.int .i64 (↑(List.length (ins.getD (Int.toNat 0) (dflt (.sl (.int .i64))))):Int),.int .i64 (p.1:Int),.any,.any,.any,.any,.any,.any,.any,.any,.any,.any,.any,.any,.any,.any,.any,.any,.any,.any,.any,.any,.any,.any,.any,.any,.any,.any,.bool (decide (5=8)),.any,.any,.any,.any,.any,.any,.any,.any,.any,.any,.any,.any,.any,.bool (decide (5=9)),.bool (decide (5=9))]++nA 29,[.cells   [.int .i64 5,.int .i64 z,.int .i64 (ExprT.mk ek eo em ev ea).kind,     .int .i64 (ExprT.mk ek eo em ev ea).op,.str (ExprT.mk ek eo em ev ea).name,     .int .i64 (ExprT.mk ek eo em ev ea).value,.sl .expr (ExprT.mk ek eo em ev ea).args,     .sl (.int .i64) l],.cells   [.int .i64 1,.int .i64 1,.int .i64 0,.int .i64 100,.int .i64 0,     .sl .str [],.fn (Fn.func 100) [] [],.fn (Fn.func 93) [] []],.cells   [.int .i64 5,.int .i64 z,.int .i64 (ExprT.mk ek eo em ev ea).kind,     .int .i64 (ExprT.mk ek eo em ev ea).op,.str (ExprT.mk ek eo em ev ea).name,     .int .i64 (ExprT.mk ek eo em ev ea).value,.sl .expr (ExprT.mk ek eo em ev ea).args,     .sl (.int .i64) l],.cells [.cap0,.int .i64 0,.bool false],.cells   [.int .i64 1,.int .i64 1,.int .i64 0,.int .i64 100,.int .i64 0,     .sl .str [],.fn (Fn.func 100) [] [],.fn (Fn.func 93) [] []],.cells [.own 8],.cells   [.int .i64 5,.int .i64 z,.int .i64 (ExprT.mk ek eo em ev ea).kind,     .int .i64 (ExprT.mk ek eo em ev ea).op,.str (ExprT.mk ek eo em ev ea).name,     .int .i64 (ExprT.mk ek eo em ev ea).value,.sl .expr (ExprT.mk ek eo em ev ea).args,     .sl (.int .i64) l,.cap0,.int .i64 0,.bool false,.csl tI 5 (Int.toNat 1),     .int .i64 0,.int .i64 0],.cells   [.int .i64 1,.int .i64 1,.int .i64 0,.int .i64 100,.int .i64 0,     .sl .str [],.fn (Fn.func 100) [] [],.fn (Fn.func 93) [] []],.rows tI p.2],9⟩) (fun p=>p.1≤(ins.getD 0 []).length∧p.2=(((ins.getD 0 []).take p.1).foldl (repS z) ([]:List Int))∧p.2.length≤200 * p.1) (fun p=>(ins.getD 0 []).length - p.1) (aI (Exists.intro ((0,([]:List Int))) (Exists.intro ([some 0,some 1,some 2,some 3,some 4,some 5,some 6,some 7,none]) (aI ?_ (aI (by rfl) (aI (by rfl) (aI (aI (aI (by rfl) (by rfl)) (aI (aI (by rfl) (by rfl)) (aI (aI (by rfl) (by rfl)) (aI (aI (by rfl) (by rfl)) (aI (aI (by rfl) (by rfl)) (aI (aI (by rfl) (by rfl)) (aI (aI (by rfl) (by rfl)) (aI (aI (by rfl) (by rfl)) (aI (by rfl) True.intro))))))))) (by rfl))))))) ?_)
 ·exact ⟨Nat.zero_le _,rfl,Nat.le_refl _⟩
 rintro ⟨j,o⟩ ⟨hj,hp,ho⟩
 replace hj:j≤(ins.getD 0 []).length:=hj
 replace hp:o=(((ins.getD 0 []).take j).foldl (repS z) ([]:List Int)):=hp
 have hnx:j < (ins.getD 0 []).length→((ins.getD 0 []).take (j+1)).foldl (repS z) ([]:List Int)=repS z o ((ins.getD 0 []).getD j 0):=fun h=>by
  rw [fold_take _ _ 0 h,← hp]
 have hen:decide ((j:Int) < ((ins.getD 0 []).length:Int))=false→(ins.getD 0 []).foldl (repS z) ([]:List Int)=o:=fun h=>by
  have h':¬ j < (ins.getD 0 []).length:=by simpa using h
  rw [hp,List.take_of_length_le (by omega)]
 replace ho:o.length≤200 * j:=ho
 have hz:0≤z∧z≤200:=⟨hs.1,hs.2.1⟩
 refine (aI (fun m0=>(aI (by first | (intros;(try subst_vars);(try simp only [nB] at *);(try simp only [inK,big,lim,nL] at *);omega)) (aI (by first | kernel_rfl | rfl) ?_))) (fun m0=>(aI (by first | kernel_rfl | rfl) (aI (fun m1=>nF (by kernel_rfl) m1) (fun m1=>(aI True.intro (aI (fun m2=>(fin_of rfl ?_)) (fun m2=>(fin_of rfl ?_)))))))))
 ·have hj':j < (ins.getD 0 []).length:=by simpa using m0
  refine ex4 _ (fun q:Nat=>⟨[.ptr 6 0,.int .i64 0,.int .i64   ((ins.getD (Int.toNat 0) (dflt (.sl (.int .i64)))).getD (↑j:Int).toNat (dflt (.int .i64))),.any,.any,.any,.any,.ptr 6 0,.ptr 6 0,.any,.int .i64 z,.int .i64 (q:Int),.any,.any,.any,.any,.any],[.cells   [.int .i64 5,.int .i64 z,.int .i64 (ExprT.mk ek eo em ev ea).kind,     .int .i64 (ExprT.mk ek eo em ev ea).op,.str (ExprT.mk ek eo em ev ea).name,     .int .i64 (ExprT.mk ek eo em ev ea).value,.sl .expr (ExprT.mk ek eo em ev ea).args,     .sl (.int .i64) l],.cells   [.int .i64 1,.int .i64 1,.int .i64 0,.int .i64 100,.int .i64 0,     .sl .str [],.fn (Fn.func 100) [] [],.fn (Fn.func 93) [] []],.cells   [.int .i64 5,.int .i64 z,.int .i64 (ExprT.mk ek eo em ev ea).kind,     .int .i64 (ExprT.mk ek eo em ev ea).op,.str (ExprT.mk ek eo em ev ea).name,     .int .i64 (ExprT.mk ek eo em ev ea).value,.sl .expr (ExprT.mk ek eo em ev ea).args,     .sl (.int .i64) l],.cells [.cap0,.int .i64 0,.bool false],.cells   [.int .i64 1,.int .i64 1,.int .i64 0,.int .i64 100,.int .i64 0,     .sl .str [],.fn (Fn.func 100) [] [],.fn (Fn.func 93) [] []],.cells [.own 9],.cells   [.int .i64 5,.int .i64 z,.int .i64 (ExprT.mk ek eo em ev ea).kind,     .int .i64 (ExprT.mk ek eo em ev ea).op,.str (ExprT.mk ek eo em ev ea).name,     .int .i64 (ExprT.mk ek eo em ev ea).value,.sl .expr (ExprT.mk ek eo em ev ea).args,     .sl (.int .i64) l,.cap0,.int .i64 0,.bool false,.csl tI 5 (Int.toNat 1),     .int .i64 0,.int .i64 0],.cells   [.int .i64 1,.int .i64 1,.int .i64 0,.int .i64 100,.int .i64 0,     .sl .str [],.fn (Fn.func 100) [] [],.fn (Fn.func 93) [] []],.dead,.rows tI (o++List.replicate q ((ins.getD 0 []).getD j 0))],10⟩) (fun q=>(q:Int)≤z) (fun q=>z.toNat - q) (aI (Exists.intro (0) (Exists.intro ([some 0,some 1,some 2,some 3,some 4,some 5,some 6,some 7,some 8,some 8]) (aI ?_ (aI (by rfl) (aI (by rfl) (aI (aI (aI (by rfl) (by rfl)) (aI (aI (by rfl) (by rfl)) (aI (aI (by rfl) (by rfl)) (aI (aI (by rfl) (by rfl)) (aI (aI (by rfl) (by rfl)) (aI (aI (by rfl) (by rfl)) (aI (aI (by rfl) (by rfl)) (aI (aI (by rfl) (by rfl)) (aI ?_ True.intro))))))))) (by rfl))))))) ?_)
  ·exact hz.1
  ·show Ob.rows tI o=Ob.rows tI (o++List.replicate 0 _)
   simp
  rintro q hq
  have room:((o++List.replicate q ((ins.getD 0 []).getD j 0)).length+1) * 8≤lim:=by simp only [lim,List.length_append,List.length_replicate];omega
  refine (aI (fun w0=>(aI (by first | kernel_rfl | rfl) (aI (fun w1=>(aI (by kernel_rfl) (aI (by first | exact room | (intros;(try subst_vars);(try simp only [nB] at *);(try simp only [inK,big,lim,nL] at *);omega)) (aI (by rfl) (aI (by rfl) (aI (by rfl) (aI (by rfl) (aI (by rfl) (aI (by rfl) (aI (by rfl) (aI (by rfl) (aI (by rfl) (aI (by rfl) (aI (by first | exact room | (intros;(try subst_vars);(try simp only [nB] at *);(try simp only [inK,big,lim,nL] at *);omega)) (aI (by rfl) (aI (by rfl) (aI (by rfl) (aI (by rfl) (aI (by rfl) (aI (by rfl) (aI (by rfl) (aI (by rfl) (aI (by rfl) (aI (by rfl) (aI (by rfl) (aI (by rfl) (aI (by rfl) (aI (by first | exact room | (intros;(try subst_vars);(try simp only [nB] at *);(try simp only [inK,big,lim,nL] at *);omega)) (aI (by rfl) (aI (by rfl) (aI (by first | exact room | (intros;(try subst_vars);(try simp only [nB] at *);(try simp only [inK,big,lim,nL] at *);omega)) (aI (by first | exact room | (intros;(try subst_vars);(try simp only [nB] at *);(try simp only [inK,big,lim,nL] at *);omega)) (aI (by first | exact room | (intros;(try subst_vars);(try simp only [nB] at *);(try simp only [inK,big,lim,nL] at *);omega)) (aI (by rfl) (aI (by rfl) (aI (by rfl) (aI (by rfl) (aI (by rfl) (aI (by rfl) (aI (by first | exact room | (intros;(try subst_vars);(try simp only [nB] at *);(try simp only [inK,big,lim,nL] at *);omega)) ?_)))))))))))))))))))))))))))))))))))))))) (fun w1=>False.elim (Bool.false_ne_true (Eq.symm (Eq.trans (by kernel_rfl) w1))))))) (fun w0=>(aI (by first | exact room | (intros;(try subst_vars);(try simp only [nB] at *);(try simp only [inK,big,lim,nL] at *);omega)) ?_)))
  ·have hq':(q:Int) < z:=of_decide_eq_true w0
   refine Exists.intro (q+1) (Exists.intro ([some 0,some 1,some 2,some 3,some 4,some 5,some 6,some 7,some 8,some 11]) (aI ?_ (aI ?_ (aI (by rfl) (aI (by rfl) (aI (aI (aI (by rfl) (by rfl)) (aI (aI (by rfl) (by rfl)) (aI (aI (by rfl) (by rfl)) (aI (aI (by rfl) (by rfl)) (aI (aI (by rfl) (by rfl)) (aI (aI (by rfl) (by rfl)) (aI (aI (by rfl) (by rfl)) (aI (aI (by rfl) (by rfl)) (aI ?_ True.intro))))))))) (by rfl)))))))
   ·show ((q+1:Nat):Int)≤z
    omega
   ·show z.toNat - (q+1) < z.toNat - q
    omega
   ·show Ob.rows tI _=Ob.rows tI (o++List.replicate (q+1) _)
    rw [List.replicate_succ',← List.append_assoc]
    rfl
  ·have hq':q=z.toNat:=by have h:¬ (q:Int) < z:=of_decide_eq_false w0;omega
   refine Exists.intro ((j+1,o++List.replicate q ((ins.getD 0 []).getD j 0))) (Exists.intro ([some 0,some 1,some 2,some 3,some 4,some 5,some 6,some 7,some 9]) (aI ?_ (aI ?_ (aI (by rfl) (aI (by rfl) (aI (aI (aI (by rfl) (by rfl)) (aI (aI (by rfl) (by rfl)) (aI (aI (by rfl) (by rfl)) (aI (aI (by rfl) (by rfl)) (aI (aI (by rfl) (by rfl)) (aI (aI (by rfl) (by rfl)) (aI (aI (by rfl) (by rfl)) (aI (aI (by rfl) (by rfl)) (aI (by rfl) True.intro))))))))) (by rfl)))))))
   ·refine ⟨hj', ?_, ?_⟩
    ·show _=((ins.getD 0 []).take (j+1)).foldl _ _
     rw [hnx hj',hq']
     rfl
    ·show (o++List.replicate q _).length≤200 * (j+1)
     simp only [List.length_append,List.length_replicate]
     omega
   ·show (ins.getD 0 []).length - (j+1) < (ins.getD 0 []).length - j
    omega
 ·skip
  have run:runF (5,z,ExprT.mk ek eo em ev ea,l) ins=([o],0):=by
   show ([(ins.getD 0 []).foldl (repS z) []],0)=_
   rw [hen m0]
  exact MN4' (by assumption) (by assumption) hs0 (by rw [run];rfl) (by rw [run];exact m2)
 ·skip
  have run:runF (5,z,ExprT.mk ek eo em ev ea,l) ins=([o],0):=by
   show ([(ins.getD 0 []).foldl (repS z) []],0)=_
   rw [hen m0]
  exact (MN5' (by assumption) (by assumption) hs0 (by rw [run];rfl) (by rw [run];exact m2)).trans (by rw [run])
end Go.Proofs.YticmijfmgmkkcaaGreat
namespace Go.Proofs.YticmijfmgmkkcaaGreat
open Go.Sx
set_option maxHeartbeats 8000000 in
theorem walk13x6:Walk13 6:=by
 intro z e l ins hc hlk
 have hl:ins.length=1:=by have h:(ins.length:Int)=1:=hlk;omega
 have hs:=chk_size hc
 obtain ⟨ek,eo,em,ev,ea⟩:=e
 refine ⟨_,callM_ok, ?_⟩
 refine (aI (by first | kernel_rfl | rfl) (aI True.intro (aI (fun h0=>(fin_of rfl (by first | exact MN0' (by assumption) | exact MN1' (by assumption) (by assumption)))) (fun h0=>(aI (by rfl) (fun h1=>(aI (fun h2=>(fin_of rfl (by first | exact MN0' (by assumption) | exact MN1' (by assumption) (by assumption)))) (fun h2=>(fun h3=>?_)))))))))
 refine ex4 _ (fun i:Nat=>⟨[.any,.sl (.sl (.int .i64)) ins,.ptr 0 0,.any,.any,.any,.any,.ptr 1 0,.any,.any,.any,.any,.any,.any,.any,.any,.any,.any,.any,.any,.any,.any,.any,.any,.any,.any,.any,.any,.sl (.sl (.int .i64)) ins,.int .i64 (↑ins.length:Int),.int .i64 (i:Int)]++nA 34,[.cells   [.int .i64 6,.int .i64 z,.int .i64 (ExprT.mk ek eo em ev ea).kind,     .int .i64 (ExprT.mk ek eo em ev ea).op,.str (ExprT.mk ek eo em ev ea).name,     .int .i64 (ExprT.mk ek eo em ev ea).value,.sl .expr (ExprT.mk ek eo em ev ea).args,     .sl (.int .i64) l],.cells   [.int .i64 1,.int .i64 1,.int .i64 0,.int .i64 200,.int .i64 0,     .sl .str [],.fn (Fn.func 101) [] [],.fn (Fn.func 93) [] []]],2⟩) (fun i=>i≤ins.length∧strF ins=strF (ins.drop i)) (fun i=>ins.length - i) (aI (Exists.intro (0) (Exists.intro ([some 0,some 1]) (aI ?_ (aI (by rfl) (aI (by rfl) (aI (aI (aI (by rfl) (by rfl)) (aI (aI (by rfl) (by rfl)) True.intro)) (by rfl))))))) ?_)
 ·exact ⟨Nat.zero_le _,rfl⟩
 rintro i ⟨hi,ht⟩
 have hin:decide ((i:Int) < (ins.length:Int))=false→(!decide (strF ins=0))=false:=fun h=>by
  have hi':¬ i < ins.length:=by simpa using h
  rw [ht,List.drop_of_length_le (by omega)];rfl
 have ix:0 < 1→0≤(0:Int)∧(0:Int) < (ins.length:Int):=fun h=>by rw [hl];omega
 have iy:1 < 1→0≤(1:Int)∧(1:Int) < (ins.length:Int):=fun h=>by rw [hl];omega
 have hst:strF ins=0→∀ j,j < ins.length→(ins.getD j (dflt tIs)).length≤200∧(ins.getD j (dflt tIs)).any notNum=false:=fun h j hj=>strF_get h hj
 refine (aI (fun k0=>(aI (by first | exact ⟨by decide,rfl,by decide,by decide⟩ | exact ix (by decide) | exact iy (by decide) | (intros;(try subst_vars);(try simp only [nB] at *);(try simp only [inK,big,lim,nL] at *);omega)) (fun k1=>(aI (fun k2=>(fin_of rfl ?_)) (fun k2=>(aI True.intro (aI (fun k3=>(fin_of rfl ?_)) (fun k3=>(aI (by first | exact ⟨by decide,rfl,by decide,by decide⟩ | exact ix (by decide) | exact iy (by decide) | (intros;(try subst_vars);(try simp only [nB] at *);(try simp only [inK,big,lim,nL] at *);omega)) ?_))))))))) (fun k0=>(aI (by first | kernel_rfl | rfl) (aI (by rfl) (aI (by first | kernel_rfl | rfl) (aI (by first | exact ⟨by decide,rfl,by decide,by decide⟩ | exact ix (by decide) | exact iy (by decide) | (intros;(try subst_vars);(try simp only [nB] at *);(try simp only [inK,big,lim,nL] at *);omega)) (aI (by first | kernel_rfl | rfl) (aI (fun k4=>nF (by kernel_rfl) k4) (fun k4=>(aI (fun k5=>nF (by kernel_rfl) k5) (fun k5=>(aI (fun k6=>nF (by kernel_rfl) k6) (fun k6=>(aI (by first | exact ⟨by decide,rfl,by decide,by decide⟩ | exact ix (by decide) | exact iy (by decide) | (intros;(try subst_vars);(try simp only [nB] at *);(try simp only [inK,big,lim,nL] at *);omega)) (fun k7=>?_)))))))))))))))
 ·have hi':i < ins.length:=by simpa using k0
  have hk:longB (ins.getD i (dflt tIs))=true:=k2
  have e4:strF ins=4:=by rw [ht,strF_drop hi',if_pos hk]
  exact (MN2' (by assumption) (by assumption) (by rw [e4];rfl)).trans (by rw [e4])
 ·have hi':i < ins.length:=by simpa using k0
  have hk:¬ longB (ins.getD i (dflt tIs))=true:=by have h:longB (ins.getD i (dflt tIs))=false:=k2;rw [h];simp
  have hk2:(ins.getD i (dflt tIs)).any notNum=true:=k3
  have e4:strF ins=2:=by rw [ht,strF_drop hi',if_neg hk,if_pos hk2]
  exact (MN2' (by assumption) (by assumption) (by rw [e4];rfl)).trans (by rw [e4])
 ·have hi':i < ins.length:=by simpa using k0
  have hk:¬ longB (ins.getD i (dflt tIs))=true:=by have h:longB (ins.getD i (dflt tIs))=false:=k2;rw [h];simp
  have hk2:¬ (ins.getD i (dflt tIs)).any notNum=true:=by have h:(ins.getD i (dflt tIs)).any notNum=false:=k3;rw [h];simp
  refine Exists.intro (i+1) (Exists.intro ([some 0,some 1]) (aI ?_ (aI ?_ (aI (by rfl) (aI (by rfl) (aI (aI (aI (by rfl) (by rfl)) (aI (aI (by rfl) (by rfl)) True.intro)) (by rfl)))))))
  ·refine ⟨hi', ?_⟩
   rw [ht,strF_drop hi',if_neg hk,if_neg hk2]
  ·show ins.length - (i+1) < ins.length - i
   omega
 have hs0:=hin k0
 have hstr:strF ins=0:=by simpa using hs0
 obtain ⟨hal,han⟩:=strF_get hstr (show 0 < ins.length by omega)
 replace hal:(ins.getD 0 []).length≤200:=hal
 replace han:(ins.getD 0 []).any notNum=false:=han
 clear ht hi hin
 refine ex4 _ (fun p:Nat × List Int × Int=>⟨[.ptr 6 0,.agg   [.int .i64 1,.int .i64 1,.int .i64 0,.int .i64 200,.int .i64 0,     .sl .str [],.fn (Fn.func 101) [] [],.fn (Fn.func 93) [] []],.sl (.sl (.int .i64)) ins,.any,.ptr 7 0,.any,.any,.any,.any,.any,.any,.ptr 6 0,.any,.any,.sl (.sl (.int .i64)) ins,.eptr [PV.sl (.int .i64) (ins.getD (Int.toNat 0) (dflt (.sl (.int .i64))))],.sl (.int .i64) (ins.getD (Int.toNat 0) (dflt (.sl (.int .i64)))),.int .i64 (↑(List.length (ins.getD (Int.toNat 0) (dflt (.sl (.int .i64))))):Int),.int .i64 (p.1:Int),.any,.any,.any,.any,.any,.any,.any,.any,.any,.any,.any,.any,.any,.any,.any,.any,.any,.any,.any,.any,.any,.any,.any,.any,.any,.any,.bool (decide (6=8)),.any,.any,.any,.any,.any,.any,.any,.any,.any,.any,.any,.any,.any,.bool (decide (6=9)),.bool (decide (6=9))]++nA 29,[.cells   [.int .i64 6,.int .i64 z,.int .i64 (ExprT.mk ek eo em ev ea).kind,     .int .i64 (ExprT.mk ek eo em ev ea).op,.str (ExprT.mk ek eo em ev ea).name,     .int .i64 (ExprT.mk ek eo em ev ea).value,.sl .expr (ExprT.mk ek eo em ev ea).args,     .sl (.int .i64) l],.cells   [.int .i64 1,.int .i64 1,.int .i64 0,.int .i64 200,.int .i64 0,     .sl .str [],.fn (Fn.func 101) [] [],.fn (Fn.func 93) [] []],.cells   [.int .i64 6,.int .i64 z,.int .i64 (ExprT.mk ek eo em ev ea).kind,     .int .i64 (ExprT.mk ek eo em ev ea).op,.str (ExprT.mk ek eo em ev ea).name,     .int .i64 (ExprT.mk ek eo em ev ea).value,.sl .expr (ExprT.mk ek eo em ev ea).args,     .sl (.int .i64) l],.cells [.cap0,.int .i64 0,.bool false],.cells   [.int .i64 1,.int .i64 1,.int .i64 0,.int .i64 200,.int .i64 0,     .sl .str [],.fn (Fn.func 101) [] [],.fn (Fn.func 93) [] []],.cells [.own 8],.cells [.int .i64 6,.int .i64 z,.int .i64 ek,.int .i64 eo,.str em,.int .i64 ev,.sl .expr ea,.sl tI l,.cap0,.int .i64 p.2.2,.bool false,.csl tI 5 1,.int .i64 0,.int .i64 0],.cells   [.int .i64 1,.int .i64 1,.int .i64 0,.int .i64 200,.int .i64 0,     .sl .str [],.fn (Fn.func 101) [] [],.fn (Fn.func 93) [] []],.rows tI p.2.1],9⟩) (fun p=>p.1≤(ins.getD 0 []).length∧p.2=(((ins.getD 0 []).take p.1).foldl (takS z) ([],0))∧p.2.1.length≤p.1∧(0≤p.2.2∧p.2.2≤200)) (fun p=>(ins.getD 0 []).length - p.1) (aI (Exists.intro ((0,([],0))) (Exists.intro ([some 0,some 1,some 2,some 3,some 4,some 5,some 6,some 7,none]) (aI ?_ (aI (by rfl) (aI (by rfl) (aI (aI (aI (by rfl) (by rfl)) (aI (aI (by rfl) (by rfl)) (aI (aI (by rfl) (by rfl)) (aI (aI (by rfl) (by rfl)) (aI (aI (by rfl) (by rfl)) (aI (aI (by rfl) (by rfl)) (aI (aI (by rfl) (by rfl)) (aI (aI (by rfl) (by rfl)) (aI (by rfl) True.intro))))))))) (by rfl))))))) ?_)
 ·exact ⟨Nat.zero_le _,rfl,Nat.le_refl _,by decide,by decide⟩
 rintro ⟨j,o,c⟩ ⟨hj,hp,ho,hc⟩
 replace hj:j≤(ins.getD 0 []).length:=hj
 replace hp:(o,c)=(((ins.getD 0 []).take j).foldl (takS z) ([],0)):=hp
 have hnx:j < (ins.getD 0 []).length→((ins.getD 0 []).take (j+1)).foldl (takS z) ([],0)=takS z (o,c) ((ins.getD 0 []).getD j 0):=fun h=>by
  rw [fold_take _ _ 0 h,← hp]
 have hen:decide ((j:Int) < ((ins.getD 0 []).length:Int))=false→(ins.getD 0 []).foldl (takS z) ([],0)=(o,c):=fun h=>by
  have h':¬ j < (ins.getD 0 []).length:=by simpa using h
  rw [hp,List.take_of_length_le (by omega)]
 replace ho:o.length≤j:=ho
 have room:(o.length+1) * 8≤lim:=by simp only [lim];omega
 replace hc:0≤c∧c≤200:=hc
 have hz:z≤200:=hs.2.1
 refine (aI (fun m0=>(aI (by first | exact room | (intros;(try subst_vars);(try simp only [nB] at *);(try simp only [inK,big,lim,nL] at *);omega)) (aI (by first | kernel_rfl | rfl) (aI (by first | kernel_rfl | rfl) (aI (fun m1=>(aI (by first | exact room | (intros;(try subst_vars);(try simp only [nB] at *);(try simp only [inK,big,lim,nL] at *);omega)) (aI (by first | kernel_rfl | rfl) (aI (fun m2=>(aI (by kernel_rfl) (aI (by first | exact room | (intros;(try subst_vars);(try simp only [nB] at *);(try simp only [inK,big,lim,nL] at *);omega)) (aI (by rfl) (aI (by rfl) (aI (by rfl) (aI (by rfl) (aI (by rfl) (aI (by rfl) (aI (by rfl) (aI (by rfl) (aI (by rfl) (aI (by rfl) (aI (by first | exact room | (intros;(try subst_vars);(try simp only [nB] at *);(try simp only [inK,big,lim,nL] at *);omega)) (aI (by rfl) (aI (by rfl) (aI (by rfl) (aI (by rfl) (aI (by rfl) (aI (by rfl) (aI (by rfl) (aI (by rfl) (aI (by rfl) (aI (by rfl) (aI (by rfl) (aI (by rfl) (aI (by rfl) (aI (by first | exact room | (intros;(try subst_vars);(try simp only [nB] at *);(try simp only [inK,big,lim,nL] at *);omega)) (aI (by rfl) (aI (by rfl) (aI (by first | exact room | (intros;(try subst_vars);(try simp only [nB] at *);(try simp only [inK,big,lim,nL] at *);omega)) (aI (by first | exact room | (intros;(try subst_vars);(try simp only [nB] at *);(try simp only [inK,big,lim,nL] at *);omega)) (aI (by first | exact room | (intros;(try subst_vars);(try simp only [nB] at *);(try simp only [inK,big,lim,nL] at *);omega)) (aI (by rfl) (aI (by rfl) (aI (by rfl) (aI (by rfl) (aI (by rfl) (aI (by rfl) (aI (by first | exact room | (intros;(try subst_vars);(try simp only [nB] at *);(try simp only [inK,big,lim,nL] at *);omega)) ?_)))))))))))))))))))))))))))))))))))))))) (fun m2=>False.elim (Bool.false_ne_true (Eq.symm (Eq.trans (by kernel_rfl) m2)))))))) (fun m1=>(aI (by first | exact room | (intros;(try subst_vars);(try simp only [nB] at *);(try simp only [inK,big,lim,nL] at *);omega)) ?_))))))) (fun m0=>(aI (by first | kernel_rfl | rfl) (aI (fun m3=>nF (by kernel_rfl) m3) (fun m3=>(aI True.intro (aI (fun m4=>(fin_of rfl ?_)) (fun m4=>(fin_of rfl ?_)))))))))
 ·have hj':j < (ins.getD 0 []).length:=by simpa using m0
  refine Exists.intro ((j+1,o++[(ins.getD 0 []).getD j 0],c+1)) (Exists.intro ([some 0,some 1,some 2,some 3,some 4,some 5,some 6,some 7,some 10]) (aI ?_ (aI ?_ (aI (by rfl) (aI (by rfl) (aI (aI (aI (by rfl) (by rfl)) (aI (aI (by rfl) (by rfl)) (aI (aI (by rfl) (by rfl)) (aI (aI (by rfl) (by rfl)) (aI (aI (by rfl) (by rfl)) (aI (aI (by rfl) (by rfl)) (aI (aI (by rfl) (by rfl)) (aI (aI (by rfl) (by rfl)) (aI (by rfl) True.intro))))))))) (by rfl)))))))
  ·refine ⟨hj', ?_,by show (_++[_]).length≤j+1;simp;omega,⟨by show 0≤c+1;omega,by show c+1≤200;have h9:c < z:=of_decide_eq_true m1;omega⟩⟩
   show _=((ins.getD 0 []).take (j+1)).foldl _ _
   rw [hnx hj']
   dsimp only [takS]
   rw [if_pos (show decide (c < z)=true from m1)]
  ·show (ins.getD 0 []).length - (j+1) < (ins.getD 0 []).length - j
   omega
 ·have hj':j < (ins.getD 0 []).length:=by simpa using m0
  refine Exists.intro ((j+1,o,c)) (Exists.intro ([some 0,some 1,some 2,some 3,some 4,some 5,some 6,some 7,some 8]) (aI ?_ (aI ?_ (aI (by rfl) (aI (by rfl) (aI (aI (aI (by rfl) (by rfl)) (aI (aI (by rfl) (by rfl)) (aI (aI (by rfl) (by rfl)) (aI (aI (by rfl) (by rfl)) (aI (aI (by rfl) (by rfl)) (aI (aI (by rfl) (by rfl)) (aI (aI (by rfl) (by rfl)) (aI (aI (by rfl) (by rfl)) (aI (by rfl) True.intro))))))))) (by rfl)))))))
  ·refine ⟨hj', ?_,by show o.length≤j+1;omega,hc⟩
   show _=((ins.getD 0 []).take (j+1)).foldl _ _
   rw [hnx hj']
   dsimp only [takS]
   rw [if_neg (by rw [(show decide (c < z)=false from m1)];simp)]
  ·show (ins.getD 0 []).length - (j+1) < (ins.getD 0 []).length - j
   omega
 ·skip
  have run:runF (6,z,ExprT.mk ek eo em ev ea,l) ins=([o],0):=by
   show ([((ins.getD 0 []).foldl (takS z) ([],0)).1],0)=_
   rw [hen m0]
  exact MN4' (by assumption) (by assumption) hs0 (by rw [run];rfl) (by rw [run];exact m4)
 ·skip
  have run:runF (6,z,ExprT.mk ek eo em ev ea,l) ins=([o],0):=by
   show ([((ins.getD 0 []).foldl (takS z) ([],0)).1],0)=_
   rw [hen m0]
  exact (MN5' (by assumption) (by assumption) hs0 (by rw [run];rfl) (by rw [run];exact m4)).trans (by rw [run])
end Go.Proofs.YticmijfmgmkkcaaGreat
namespace Go.Proofs.YticmijfmgmkkcaaGreat
open Go.Sx
theorem merge_nil (n:Nat) (b:List Int):mergeN n [] b=b:=by cases n <;> rfl
set_option maxHeartbeats 8000000 in
theorem walk13x8:Walk13 8:=by
 intro z e l ins hc hlk
 have hl:ins.length=2:=by have h:(ins.length:Int)=2:=hlk;omega
 have hs:=chk_size hc
 obtain ⟨ek,eo,em,ev,ea⟩:=e
 refine ⟨_,callM_ok, ?_⟩
 refine (aI (by first | kernel_rfl | rfl) (aI True.intro (aI (fun h0=>(fin_of rfl (by first | exact MN0' (by assumption) | exact MN1' (by assumption) (by assumption)))) (fun h0=>(aI (by rfl) (fun h1=>(aI (fun h2=>(fin_of rfl (by first | exact MN0' (by assumption) | exact MN1' (by assumption) (by assumption)))) (fun h2=>(fun h3=>?_)))))))))
 refine ex4 _ (fun i:Nat=>⟨[.any,.sl (.sl (.int .i64)) ins,.ptr 0 0,.any,.any,.any,.any,.ptr 1 0,.any,.any,.any,.any,.any,.any,.any,.any,.any,.any,.any,.any,.any,.any,.any,.any,.any,.any,.any,.any,.sl (.sl (.int .i64)) ins,.int .i64 (↑ins.length:Int),.int .i64 (i:Int)]++nA 34,[.cells   [.int .i64 8,.int .i64 z,.int .i64 (ExprT.mk ek eo em ev ea).kind,     .int .i64 (ExprT.mk ek eo em ev ea).op,.str (ExprT.mk ek eo em ev ea).name,     .int .i64 (ExprT.mk ek eo em ev ea).value,.sl .expr (ExprT.mk ek eo em ev ea).args,     .sl (.int .i64) l],.cells   [.int .i64 2,.int .i64 1,.int .i64 0,.int .i64 0,.int .i64 0,     .sl .str [],.fn (Fn.func 104) [] [.eptr [PV.fn (FnT.mk 92 [])]],.fn (Fn.func 103) [] []]],2⟩) (fun i=>i≤ins.length∧strF ins=strF (ins.drop i)) (fun i=>ins.length - i) (aI (Exists.intro (0) (Exists.intro ([some 0,some 1]) (aI ?_ (aI (by rfl) (aI (by rfl) (aI (aI (aI (by rfl) (by rfl)) (aI (aI (by rfl) (by rfl)) True.intro)) (by rfl))))))) ?_)
 ·exact ⟨Nat.zero_le _,rfl⟩
 rintro i ⟨hi,ht⟩
 have hin:decide ((i:Int) < (ins.length:Int))=false→(!decide (strF ins=0))=false:=fun h=>by
  have hi':¬ i < ins.length:=by simpa using h
  rw [ht,List.drop_of_length_le (by omega)];rfl
 have ix:0 < 2→0≤(0:Int)∧(0:Int) < (ins.length:Int):=fun h=>by rw [hl];omega
 have iy:1 < 2→0≤(1:Int)∧(1:Int) < (ins.length:Int):=fun h=>by rw [hl];omega
 have hst:strF ins=0→∀ j,j < ins.length→(ins.getD j (dflt tIs)).length≤200∧(ins.getD j (dflt tIs)).any notNum=false:=fun h j hj=>strF_get h hj
 refine (aI (fun k0=>(aI (by first | exact ⟨by decide,rfl,by decide,by decide⟩ | exact ix (by decide) | exact iy (by decide) | (intros;(try subst_vars);(try simp only [nB] at *);(try simp only [inK,big,lim,nL] at *);omega)) (fun k1=>(aI (fun k2=>(fin_of rfl ?_)) (fun k2=>(aI True.intro (aI (fun k3=>(fin_of rfl ?_)) (fun k3=>(aI (by first | exact ⟨by decide,rfl,by decide,by decide⟩ | exact ix (by decide) | exact iy (by decide) | (intros;(try subst_vars);(try simp only [nB] at *);(try simp only [inK,big,lim,nL] at *);omega)) ?_))))))))) (fun k0=>(aI (by first | kernel_rfl | rfl) (aI (by rfl) (aI (by first | kernel_rfl | rfl) (aI (by first | exact ⟨by decide,rfl,by decide,by decide⟩ | exact ix (by decide) | exact iy (by decide) | (intros;(try subst_vars);(try simp only [nB] at *);(try simp only [inK,big,lim,nL] at *);omega)) (aI (by first | kernel_rfl | rfl) (aI (fun k4=>nF (by kernel_rfl) k4) (fun k4=>(aI (fun k5=>(aI (by kernel_rfl) (aI (by first | exact ⟨by decide,rfl,by decide,by decide⟩ | exact ix (by decide) | exact iy (by decide) | (intros;(try subst_vars);(try simp only [nB] at *);(try simp only [inK,big,lim,nL] at *);omega)) (aI (by first | exact ⟨by decide,rfl,by decide,by decide⟩ | exact ix (by decide) | exact iy (by decide) | (intros;(try subst_vars);(try simp only [nB] at *);(try simp only [inK,big,lim,nL] at *);omega)) (aI (by rfl) (aI (by rfl) (aI (by rfl) (aI (by rfl) (aI (by rfl) (aI (by first | exact ⟨by decide,rfl,by decide,by decide⟩ | exact ix (by decide) | exact iy (by decide) | (intros;(try subst_vars);(try simp only [nB] at *);(try simp only [inK,big,lim,nL] at *);omega)) (aI (by rfl) (aI (by rfl) (aI (by rfl) (aI (by first | exact ⟨by decide,rfl,by decide,by decide⟩ | exact ix (by decide) | exact iy (by decide) | (intros;(try subst_vars);(try simp only [nB] at *);(try simp only [inK,big,lim,nL] at *);omega)) (aI (by rfl) (aI (by rfl) (aI (by first | kernel_rfl | rfl) ?_))))))))))))))))) (fun k5=>False.elim (Bool.false_ne_true (Eq.symm (Eq.trans (by kernel_rfl) k5))))))))))))))
 ·have hi':i < ins.length:=by simpa using k0
  have hk:longB (ins.getD i (dflt tIs))=true:=k2
  have e4:strF ins=4:=by rw [ht,strF_drop hi',if_pos hk]
  exact (MN2' (by assumption) (by assumption) (by rw [e4];rfl)).trans (by rw [e4])
 ·have hi':i < ins.length:=by simpa using k0
  have hk:¬ longB (ins.getD i (dflt tIs))=true:=by have h:longB (ins.getD i (dflt tIs))=false:=k2;rw [h];simp
  have hk2:(ins.getD i (dflt tIs)).any notNum=true:=k3
  have e4:strF ins=2:=by rw [ht,strF_drop hi',if_neg hk,if_pos hk2]
  exact (MN2' (by assumption) (by assumption) (by rw [e4];rfl)).trans (by rw [e4])
 ·have hi':i < ins.length:=by simpa using k0
  have hk:¬ longB (ins.getD i (dflt tIs))=true:=by have h:longB (ins.getD i (dflt tIs))=false:=k2;rw [h];simp
  have hk2:¬ (ins.getD i (dflt tIs)).any notNum=true:=by have h:(ins.getD i (dflt tIs)).any notNum=false:=k3;rw [h];simp
  refine Exists.intro (i+1) (Exists.intro ([some 0,some 1]) (aI ?_ (aI ?_ (aI (by rfl) (aI (by rfl) (aI (aI (aI (by rfl) (by rfl)) (aI (aI (by rfl) (by rfl)) True.intro)) (by rfl)))))))
  ·refine ⟨hi', ?_⟩
   rw [ht,strF_drop hi',if_neg hk,if_neg hk2]
  ·show ins.length - (i+1) < ins.length - i
   omega
 have hs0:=hin k0
 have hstr:strF ins=0:=by simpa using hs0
 obtain ⟨hal,-⟩:=strF_get hstr (show 0 < ins.length by omega)
 obtain ⟨hbl,-⟩:=strF_get hstr (show 1 < ins.length by omega)
 replace hal:(ins.getD 0 []).length≤200:=hal
 replace hbl:(ins.getD 1 []).length≤200:=hbl
 clear ht hi hin
 refine ex4 _ (fun p:List Int × List Int × List Int=>⟨[.sl tI p.1,.sl tI p.2.1,.any,.any,.any,.own 8]++nA 15,[.cells   [.int .i64 8,.int .i64 z,.int .i64 (ExprT.mk ek eo em ev ea).kind,     .int .i64 (ExprT.mk ek eo em ev ea).op,.str (ExprT.mk ek eo em ev ea).name,     .int .i64 (ExprT.mk ek eo em ev ea).value,.sl .expr (ExprT.mk ek eo em ev ea).args,     .sl (.int .i64) l],.cells   [.int .i64 2,.int .i64 1,.int .i64 0,.int .i64 0,.int .i64 0,     .sl .str [],.fn (Fn.func 104) [] [.eptr [PV.fn (FnT.mk 92 [])]],.fn (Fn.func 103) [] []],.cells   [.int .i64 8,.int .i64 z,.int .i64 (ExprT.mk ek eo em ev ea).kind,     .int .i64 (ExprT.mk ek eo em ev ea).op,.str (ExprT.mk ek eo em ev ea).name,     .int .i64 (ExprT.mk ek eo em ev ea).value,.sl .expr (ExprT.mk ek eo em ev ea).args,     .sl (.int .i64) l],.cells [.cap0,.int .i64 0,.bool false],.cells   [.int .i64 2,.int .i64 1,.int .i64 0,.int .i64 0,.int .i64 0,     .sl .str [],.fn (Fn.func 104) [] [.eptr [PV.fn (FnT.mk 92 [])]],.fn (Fn.func 103) [] []],.cells [.cap0],.cells   [.int .i64 8,.int .i64 z,.int .i64 (ExprT.mk ek eo em ev ea).kind,     .int .i64 (ExprT.mk ek eo em ev ea).op,.str (ExprT.mk ek eo em ev ea).name,     .int .i64 (ExprT.mk ek eo em ev ea).value,.sl .expr (ExprT.mk ek eo em ev ea).args,     .sl (.int .i64) l,.cap0,.int .i64 0,.bool false,.csl tI 5 (Int.toNat 1),     .int .i64 0,.int .i64 0],.cells   [.int .i64 2,.int .i64 1,.int .i64 0,.int .i64 0,.int .i64 0,     .sl .str [],.fn (Fn.func 104) [] [.eptr [PV.fn (FnT.mk 92 [])]],.fn (Fn.func 103) [] []],.rows tI p.2.2],9⟩) (fun p=>mergeN ((ins.getD 0 []).length+(ins.getD 1 []).length) (ins.getD 0 []) (ins.getD 1 [])=p.2.2++mergeN (p.1.length+p.2.1.length) p.1 p.2.1∧p.2.2.length+(p.1.length+p.2.1.length)=(ins.getD 0 []).length+(ins.getD 1 []).length) (fun p=>p.1.length+p.2.1.length) (aI (Exists.intro ((ins.getD 0 [],ins.getD 1 [],[])) (Exists.intro ([some 0,some 1,some 2,some 3,some 4,some 5,some 6,some 7,none]) (aI ?_ (aI (by rfl) (aI (by rfl) (aI (aI (aI (by rfl) (by rfl)) (aI (aI (by rfl) (by rfl)) (aI (aI (by rfl) (by rfl)) (aI (aI (by rfl) (by rfl)) (aI (aI (by rfl) (by rfl)) (aI (aI (by rfl) (by rfl)) (aI (aI (by rfl) (by rfl)) (aI (aI (by rfl) (by rfl)) (aI (by rfl) True.intro))))))))) (by rfl))))))) ?_)
 ·exact ⟨rfl,by simp⟩
 rintro ⟨a,b,o⟩ ⟨hp,hn⟩
 replace hp:mergeN ((ins.getD 0 []).length+(ins.getD 1 []).length) (ins.getD 0 []) (ins.getD 1 [])=o++mergeN (a.length+b.length) a b:=hp
 replace hn:o.length+(a.length+b.length)=(ins.getD 0 []).length+(ins.getD 1 []).length:=hn
 have room:(o.length+1) * 8≤lim:=by simp only [lim];omega
 have room2:(o.length+b.length) * 8≤lim:=by simp only [lim];omega
 refine (fun m0=>(aI (fun m1=>(aI (by first | exact room | exact room2 | (intros;(try subst_vars);(try simp only [nB] at *);(try simp only [inK,big,lim,nL] at *);omega)) (aI (by first | exact room | exact room2 | (intros;(try subst_vars);(try simp only [nB] at *);(try simp only [inK,big,lim,nL] at *);omega)) (aI (by first | kernel_rfl | rfl) (aI (by first | exact room | exact room2 | (intros;(try subst_vars);(try simp only [nB] at *);(try simp only [inK,big,lim,nL] at *);omega)) ?_))))) (fun m1=>(aI (by first | exact room | exact room2 | (intros;(try subst_vars);(try simp only [nB] at *);(try simp only [inK,big,lim,nL] at *);omega)) (aI (by first | exact room | exact room2 | (intros;(try subst_vars);(try simp only [nB] at *);(try simp only [inK,big,lim,nL] at *);omega)) (aI (by first | exact room | exact room2 | (intros;(try subst_vars);(try simp only [nB] at *);(try simp only [inK,big,lim,nL] at *);omega)) (aI (by rfl) (aI (by rfl) (aI (by rfl) (aI (by rfl) (aI (by rfl) (aI (fun m2=>nF (by kernel_rfl) m2) (fun m2=>(aI True.intro (aI (fun m3=>(fin_of rfl ?_)) (fun m3=>(fin_of rfl ?_)))))))))))))))))
 ·match a,m1 with
  | [],m1 =>
   have h:(0:Int) < (([]:List Int).length:Int):=of_decide_eq_true m1
   exact absurd h (by decide)
  | x :: a,m1 =>
  refine Exists.intro ((b,a,o++[x])) (Exists.intro ([some 0,some 1,some 2,some 3,some 4,some 5,some 6,some 7,some 10]) (aI ?_ (aI ?_ (aI (by rfl) (aI (by rfl) (aI (aI (aI (by rfl) (by rfl)) (aI (aI (by rfl) (by rfl)) (aI (aI (by rfl) (by rfl)) (aI (aI (by rfl) (by rfl)) (aI (aI (by rfl) (by rfl)) (aI (aI (by rfl) (by rfl)) (aI (aI (by rfl) (by rfl)) (aI (aI (by rfl) (by rfl)) (aI (by rfl) True.intro))))))))) (by rfl)))))))
  ·refine ⟨?_, ?_⟩
   ·rw [hp,show (x :: a).length+b.length=(a.length+b.length)+1 by simp;omega]
    show o++mergeN (a.length+b.length+1) (x :: a) b=(o++[x])++mergeN (b.length+a.length) b a
    rw [mergeN,Nat.add_comm b.length]
    simp
   ·show (o++[x]).length+(b.length+a.length)=_
    simp only [List.length_append,List.length_cons,List.length_nil] at hn ⊢
    omega
  ·show b.length+a.length < (x :: a).length+b.length
   simp only [List.length_cons]
   omega
 ·skip
  have run:runF (8,z,ExprT.mk ek eo em ev ea,l) ins=([o++b],0):=by
   show ([mergeN ((ins.getD 0 []).length+(ins.getD 1 []).length) (ins.getD 0 []) (ins.getD 1 [])],0)=_
   have ha:a=[]:=List.eq_nil_of_length_eq_zero (by have h:¬ (0:Int) < (a.length:Int):=of_decide_eq_false m1;omega)
   rw [hp,ha,merge_nil]
  exact MN4' (by assumption) (by assumption) hs0 (by rw [run];rfl) (by rw [run];exact m3)
 ·skip
  have run:runF (8,z,ExprT.mk ek eo em ev ea,l) ins=([o++b],0):=by
   show ([mergeN ((ins.getD 0 []).length+(ins.getD 1 []).length) (ins.getD 0 []) (ins.getD 1 [])],0)=_
   have ha:a=[]:=List.eq_nil_of_length_eq_zero (by have h:¬ (0:Int) < (a.length:Int):=of_decide_eq_false m1;omega)
   rw [hp,ha,merge_nil]
  exact (MN5' (by assumption) (by assumption) hs0 (by rw [run];rfl) (by rw [run];exact m3)).trans (by rw [run])
end Go.Proofs.YticmijfmgmkkcaaGreat
