/- Pipelines. -/
import Derived.Test.YtckpldpombdkgaaGreatCZ5
set_option linter.unusedSimpArgs false
set_option linter.unusedVariables false
set_option maxRecDepth 100000
namespace Go.Proofs.YtckpldpombdkgaaGreat
open Go.Sx
theorem Kx (b:Bool):one b=0∨one b=1:=by cases b <;> simp [one]
theorem Age {o a b:Int} (hk:Ls o=true) (h:D2 o=2):(opF o a b).1=0∨(opF o a b).1=1:=by
 by_cases h8:o=8
 ·subst h8;exact Kx _
 by_cases h9:o=9
 ·subst h9;exact Kx _
 by_cases h10:o=10
 ·subst h10;exact Kx _
 by_cases h11:o=11
 ·subst h11;exact Kx _
 by_cases h12:o=12
 ·subst h12;exact Kx _
 by_cases h13:o=13
 ·subst h13;exact Kx _
 by_cases h14:o=14
 ·subst h14;exact Kx _
 by_cases h15:o=15
 ·subst h15;exact Kx _
 exfalso
 have hq:∀ q:Int,C6 o 0 [(3,1),(4,1),(5,1),(6,1),(7,1),(8,2),(9,2),(10,2),(11,2),(12,2),(13,2),(14,2),(15,2)]=q→q=0∨q=1:=by
  intro q hq
  simp only [C6,if_neg h8,if_neg h9,if_neg h10,if_neg h11,if_neg h12,if_neg h13,if_neg h14,if_neg h15] at hq
  rw [← hq]
  repeat' split
  all_goals first | exact .inl rfl | exact .inr rfl
 rcases hq 2 h with h | h <;> exact absurd h (by decide)
theorem Ajl {r:Int × Int} (h:r.1=0∨r.1=1):(Ff r).1=0∨(Ff r).1=1:=by
 unfold Ff
 split
 ·exact .inl rfl
 ·split
  ·exact .inl rfl
  ·exact h
theorem Xw (l:List Bd):∀ (args:List ExprT) (i:Nat) (e0:ExprT),(Dk l args).2=0→i < args.length→(Cn l (args.getD i e0)).2=0∧(Dk l args).1.getD i 0=(Cn l (args.getD i e0)).1
 | [],i,e0,_,h=>absurd h (Nat.not_lt_zero _)
 | e :: r,0,e0,h,_=>by
  simp only [Dk] at h ⊢
  split at h
  ·rename_i hc;rw [if_pos hc];exact ⟨hc,rfl⟩
  ·rename_i hc;exact absurd h hc
 | e :: r,i+1,e0,h,hi=>by
  simp only [Dk] at h ⊢
  split at h
  ·rename_i hc
   rw [if_pos hc]
   have:=Xw l r i e0 h (by simpa using hi)
   simpa using this
  ·rename_i hc;exact absurd h hc
theorem Xx (l:List Bd):∀ (args:List ExprT) (i:Nat) (e0:ExprT),(Ew l args).2=0→i < args.length→(Ew l args).1.getD i 0=(Er l (args.getD i e0)).1
 | [],i,e0,_,h=>absurd h (Nat.not_lt_zero _)
 | e :: r,0,e0,h,_=>by
  simp only [Ew] at h ⊢
  split at h
  ·rename_i hc;rw [if_pos hc];rfl
  ·rename_i hc;exact absurd h hc
 | e :: r,i+1,e0,h,hi=>by
  simp only [Ew] at h ⊢
  split at h
  ·rename_i hc
   rw [if_pos hc]
   have:=Xx l r i e0 h (by simpa using hi)
   simpa using this
  ·rename_i hc;exact absurd h hc
theorem Xy {l:List Bd} (hl:∀ s,(Cl l s).2=true→(Cl l s).1.2.1=1):∀ (n:Nat) (e:ExprT),exW e < n→Ed e=0→(Cn l e).2=0→(Cn l e).1=2→(Er l e).1=0∨(Er l e).1=1
 | 0,e,h,_,_,_=>absurd h (Nat.not_lt_zero _)
 | n+1,e,hn,hc,h0,h2=>by
  obtain ⟨hc1,hc2⟩:=R4 hc
  obtain ⟨hk,ha,-,-,h3,ho⟩:=Vm hc1
  rw [Vl] at h0 h2
  rw [Nu]
  split at h0
  ·rename_i ht
   rw [if_pos ht] at h2
   split
   ·rename_i hv
    refine Ajl ?_
    unfold L1 at h0 h2
    unfold Ox
    by_cases k1:e.kind=1
    ·rw [if_pos k1] at h2;exact absurd h2 (by decide)
    ·rw [if_neg k1] at h0 h2
     rw [if_neg k1]
     by_cases k2:e.kind=2
     ·rw [if_pos k2] at h0 h2
      by_cases hf:(Cl l e.name).2=true
      ·rw [if_pos hf] at h2
       have:=hl _ hf
       rw [this] at h2;exact absurd h2 (by decide)
      ·rw [if_neg hf] at h0;exact absurd h0 (by decide)
     ·rw [if_neg k2] at h0 h2
      rw [if_neg k2]
      by_cases k3:e.kind=3
      ·rw [if_pos k3] at h0 h2
       rw [if_pos k3]
       rw [k3] at ha
       simp at ha
       have hlen:0 < e.args.length:=by omega
       by_cases o2:e.op=2
       ·rw [if_pos o2] at h0 h2
        rw [if_pos o2]
        by_cases t2:(Dk l e.args).1.getD 0 0=2
        ·obtain ⟨g1,g2⟩:=Xw l e.args 0 (Ab .expr) ht hlen
         have g3:=Xx l e.args 0 (Ab .expr) hv hlen
         have ih:=Xy hl n (e.args.getD 0 (Ab .expr)) (Nat.lt_of_lt_of_le (Jw hlen) (by omega)) (Nt _ _ _ hlen hc2) g1 (by rw [← g2];exact t2)
         rw [← g3] at ih
         show 1 - _=(0:Int)∨1 - _=(1:Int)
         omega
        ·rw [if_neg t2] at h0;exact absurd h0 (by decide)
       ·rw [if_neg o2] at h2
        by_cases t1:(Dk l e.args).1.getD 0 0=1
        ·rw [if_pos t1] at h2;exact absurd h2 (by decide)
        ·rw [if_neg t1] at h2;exact absurd h2 (by decide)
      ·rw [if_neg k3] at h0 h2
       rw [if_neg k3]
       by_cases hb:(Dk l e.args).1.getD 0 0≠(Dk l e.args).1.getD 1 0∨(J7 e.op≠0∧(Dk l e.args).1.getD 0 0≠J7 e.op)
       ·rw [if_pos hb] at h0;exact absurd h0 (by decide)
       ·rw [if_neg hb] at h2
        exact Age (ho (by omega)) h2
   ·exact .inl rfl
  ·rename_i ht;exact absurd h0 ht
theorem Zm (a b:Int) (s:ByteArray):Cl (Bv nmX [a,b]) s=if (⟨#[120]⟩ : ByteArray)=s then ((⟨#[120]⟩,1,a),true) else ((⟨#[]⟩,0,0),false):=by
 unfold Cl Bv nmX
 by_cases h:(⟨#[120]⟩ : ByteArray)=s
 ·simp [Ak,Jc,h,Bv]
 ·simp [Ak,Jc,h,Bv]
def Abg (l m:List Bd):Prop:=∀ s,(Cl l s).2=(Cl m s).2∧(Cl l s).1.2.1=(Cl m s).1.2.1
theorem Ajm {l m:List Bd} (h:Abg l m) (e:ExprT) (ts:List Int):L1 l e ts=L1 m e ts:=by
 unfold L1
 rw [(h e.name).1,(h e.name).2]
mutual
theorem Abh {l m:List Bd} (h:Abg l m):∀ e,Cn l e=Cn m e
 | .mk k o nm v args=>by
  simp only [Cn]
  rw [Abi h args,Ajm h]
theorem Abi {l m:List Bd} (h:Abg l m):∀ args,Dk l args=Dk m args
 | []=>rfl
 | e :: r=>by
  simp only [Dk]
  rw [Abh h e,Abi h r]
end
theorem Al5 (a b c d:Int):Abg (Bv nmX [a,b]) (Bv nmX [c,d]):=fun s=>by
 rw [Zm,Zm];split <;> exact ⟨rfl,rfl⟩
theorem Xz {x:StT} (h:An x=0) (hk:(Ao x.1).2.2.2.2.1≠0):Bb x.2.2.1 (Bv (Ao x.1).2.2.2.2.2.1 [0,0])=((Ao x.1).2.2.2.2.1,0):=by
 have hk1:=Cu h
 rw [Nz hk1.1 hk1.2] at h
 unfold Fo at h
 split at h
 ·exact absurd h (by decide)
 ·split at h
  ·exact absurd h (by decide)
  ·split at h
   ·exact absurd h (by decide)
   ·split at h
    ·exact absurd h (by decide)
    ·unfold Jy at h
     split at h
     ·rename_i h1;exact absurd h h1
     ·split at h
      ·exact absurd h (by decide)
      ·split at h
       ·exact absurd h (by decide)
       ·rename_i h1
        refine Prod.ext ?_ ?_
        ·exact Classical.byContradiction fun h2=>h1 (.inr h2)
        ·exact Classical.byContradiction fun h2=>h1 (.inl h2)
theorem evB {e:ExprT} (h:Bb e (Bv nmX [0,0])=(2,0)) (a b:Int):(evX e nmX a b).1=0∨(evX e nmX a b).1=1:=by
 unfold evX Hy
 split
 ·exact .inl rfl
 ·rename_i h1
  have h1':(Bb e (Bv nmX [a,b])).2=0:=Classical.byContradiction h1
  obtain ⟨hc,hb⟩:=Ze h1'
  have h2:Cn (Bv nmX [0,0]) e=(2,0):=by
   have h3:=h
   unfold Bb at h3
   rw [if_neg (by rw [hc];simp)] at h3
   split at h3
   ·exact h3
   ·cases h3
  have h4:Cn (Bv nmX [a,b]) e=(2,0):=by rw [Abh (Al5 a b 0 0)];exact h2
  refine Xy (fun s hs=>?_) _ e (Nat.lt_succ_self _) (Afy hc) (by rw [h4]) (by rw [h4])
  rw [Zm] at hs ⊢
  split at hs
  ·rename_i h5;rw [if_pos h5]
  ·cases hs
set_option maxHeartbeats 8000000 in
theorem Agf:Iq 7:=by
 intro z e l ins hc hlk
 have hl:ins.length=1:=by have h:(ins.length:Int)=1:=hlk;omega
 have hs:=A1 hc
 have hty:Bb e (Bv nmX [0,0])=(2,0):=Xz hc (by show (2:Int)≠0;decide)
 obtain ⟨ek,eo,em,ev,ea⟩:=e
 refine ⟨_,Ade, ?_⟩
 refine (aF (aI tT (aI (fun h0=>(Aa rfl (by first | exact Df (by assumption) | exact Dl (by assumption) (by assumption)))) (fun h0=>(aA (fun h1=>(aI (fun h2=>(Aa rfl (by first | exact Df (by assumption) | exact Dl (by assumption) (by assumption)))) (fun h2=>(fun h3=>?_)))))))))
 refine ex4 _ (fun i:Nat=>⟨[.any,.sl (.sl (.int .i64)) ins,.ptr 0 0,.any,.any,.any,.any,.ptr 1 0,.any,.any,.any,.any,.any,.any,.any,.any,.any,.any,.any,.any,.any,.any,.any,.any,.any,.any,.any,.any,.sl (.sl (.int .i64)) ins,.int .i64 (↑ins.length:Int),.int .i64 (i:Int)]++nA 34,[.cells   [.int .i64 7,.int .i64 z,.int .i64 (ExprT.mk ek eo em ev ea).kind,     .int .i64 (ExprT.mk ek eo em ev ea).op,.str (ExprT.mk ek eo em ev ea).name,     .int .i64 (ExprT.mk ek eo em ev ea).value,.sl .expr (ExprT.mk ek eo em ev ea).args,     .sl (.int .i64) l],.cells   [.int .i64 1,.int .i64 2,.int .i64 0,.int .i64 0,.int .i64 2,     .sl .str [{ data:=#[120] }],.fn (Fn.func 212) [] [],.fn (Fn.func 203) [] []]],2⟩) (fun i=>i≤ins.length∧Ba ins=Ba (ins.drop i)) (fun i=>ins.length - i) (aI (eI (0) (eI ([some 0,some 1]) (aI ?_ (aB (aI (aI (aA (by rfl)) (aI (aA (by rfl)) tT)) (by rfl)))))) ?_)
 ·exact ⟨Nat.zero_le _,rfl⟩
 rintro i ⟨hi,ht⟩
 have hin:decide ((i:Int) < (ins.length:Int))=false→(!decide (Ba ins=0))=false:=fun h=>by
  have hi':¬ i < ins.length:=by simpa using h
  rw [ht,List.drop_of_length_le (by omega)];rfl
 have ix:0 < 1→0≤(0:Int)∧(0:Int) < (ins.length:Int):=fun h=>by rw [hl];omega
 have iy:1 < 1→0≤(1:Int)∧(1:Int) < (ins.length:Int):=fun h=>by rw [hl];omega
 have hst:Ba ins=0→∀ j,j < ins.length→(ins.getD j (Ab tIs)).length≤200∧(ins.getD j (Ab tIs)).any Ai=false:=fun h j hj=>Bu h hj
 refine (aI (fun k0=>(aI (by first | exact ⟨by decide,rfl,by decide,by decide⟩ | exact ix (by decide) | exact iy (by decide) | (intros;(try subst_vars);(try simp only [nB] at *);(try simp only [inK,big,lim,nL] at *);omega)) (fun k1=>(aI (fun k2=>(Aa rfl ?_)) (fun k2=>(aI tT (aI (fun k3=>(Aa rfl ?_)) (fun k3=>(aI (by first | exact ⟨by decide,rfl,by decide,by decide⟩ | exact ix (by decide) | exact iy (by decide) | (intros;(try subst_vars);(try simp only [nB] at *);(try simp only [inK,big,lim,nL] at *);omega)) ?_))))))))) (fun k0=>(aF (aA (aF (aI (by first | exact ⟨by decide,rfl,by decide,by decide⟩ | exact ix (by decide) | exact iy (by decide) | (intros;(try subst_vars);(try simp only [nB] at *);(try simp only [inK,big,lim,nL] at *);omega)) (aF (aI (fun k4=>nG k4) (fun k4=>(aI (fun k5=>nG k5) (fun k5=>(aI (fun k6=>nG k6) (fun k6=>(aI (by first | exact ⟨by decide,rfl,by decide,by decide⟩ | exact ix (by decide) | exact iy (by decide) | (intros;(try subst_vars);(try simp only [nB] at *);(try simp only [inK,big,lim,nL] at *);omega)) (fun k7=>?_)))))))))))))))
 ·have hi':i < ins.length:=by simpa using k0
  have hk:A2 (ins.getD i (Ab tIs))=true:=k2
  have e4:Ba ins=4:=by rw [ht,A5 hi',if_pos hk]
  exact (Kc (by assumption) (by assumption) (by rw [e4];rfl)).trans (by rw [e4])
 ·have hi':i < ins.length:=by simpa using k0
  have hk:¬ A2 (ins.getD i (Ab tIs))=true:=by have h:A2 (ins.getD i (Ab tIs))=false:=k2;rw [h];simp
  have hk2:(ins.getD i (Ab tIs)).any Ai=true:=k3
  have e4:Ba ins=2:=by rw [ht,A5 hi',if_neg hk,if_pos hk2]
  exact (Kc (by assumption) (by assumption) (by rw [e4];rfl)).trans (by rw [e4])
 ·have hi':i < ins.length:=by simpa using k0
  have hk:¬ A2 (ins.getD i (Ab tIs))=true:=by have h:A2 (ins.getD i (Ab tIs))=false:=k2;rw [h];simp
  have hk2:¬ (ins.getD i (Ab tIs)).any Ai=true:=by have h:(ins.getD i (Ab tIs)).any Ai=false:=k3;rw [h];simp
  refine eI (i+1) (eI ([some 0,some 1]) (aI ?_ (aI ?_ (aB (aI (aI (aA (by rfl)) (aI (aA (by rfl)) tT)) (by rfl))))))
  ·refine ⟨hi', ?_⟩
   rw [ht,A5 hi',if_neg hk,if_neg hk2]
  ·show ins.length - (i+1) < ins.length - i
   omega
 have hs0:=hin k0
 have hstr:Ba ins=0:=by simpa using hs0
 obtain ⟨hal,han⟩:=Bu hstr (show 0 < ins.length by omega)
 replace hal:(ins.getD 0 []).length≤200:=hal
 replace han:(ins.getD 0 []).any Ai=false:=han
 clear ht hi hin
 refine ex4 _ (fun p:Nat × List Int × List Int × Int=>⟨[.ptr 6 0,.agg   [.int .i64 1,.int .i64 2,.int .i64 0,.int .i64 0,.int .i64 2,     .sl .str [{ data:=#[120] }],.fn (Fn.func 212) [] [],.fn (Fn.func 203) [] []],.sl (.sl (.int .i64)) ins,.any,.ptr 7 0,.any,.any,.any,.any,.any,.any,.ptr 6 0,.any,.any,.sl (.sl (.int .i64)) ins,.eptr [PV.sl (.int .i64) (ins.getD (Int.toNat 0) (Ab (.sl (.int .i64))))],.sl (.int .i64) (ins.getD (Int.toNat 0) (Ab (.sl (.int .i64)))),.int .i64 (↑(List.length (ins.getD (Int.toNat 0) (Ab (.sl (.int .i64))))):Int),.int .i64 (p.1:Int),.any,.any,.any,.any,.any,.any,.any,.any,.any,.any,.any,.any,.any,.any,.any,.any,.any,.any,.any,.any,.any,.any,.any,.any,.any,.any,.bool (decide (7=8)),.any,.any,.any,.any,.any,.any,.any,.any,.any,.any,.any,.any,.any,.bool (decide (7=9)),.bool (decide (7=9))]++nA 29,[.cells   [.int .i64 7,.int .i64 z,.int .i64 (ExprT.mk ek eo em ev ea).kind,     .int .i64 (ExprT.mk ek eo em ev ea).op,.str (ExprT.mk ek eo em ev ea).name,     .int .i64 (ExprT.mk ek eo em ev ea).value,.sl .expr (ExprT.mk ek eo em ev ea).args,     .sl (.int .i64) l],.cells   [.int .i64 1,.int .i64 2,.int .i64 0,.int .i64 0,.int .i64 2,     .sl .str [{ data:=#[120] }],.fn (Fn.func 212) [] [],.fn (Fn.func 203) [] []],.cells   [.int .i64 7,.int .i64 z,.int .i64 (ExprT.mk ek eo em ev ea).kind,     .int .i64 (ExprT.mk ek eo em ev ea).op,.str (ExprT.mk ek eo em ev ea).name,     .int .i64 (ExprT.mk ek eo em ev ea).value,.sl .expr (ExprT.mk ek eo em ev ea).args,     .sl (.int .i64) l],.cells [.cap0,.int .i64 0,.bool false],.cells   [.int .i64 1,.int .i64 2,.int .i64 0,.int .i64 0,.int .i64 2,     .sl .str [{ data:=#[120] }],.fn (Fn.func 212) [] [],.fn (Fn.func 203) [] []],.cells [.own 8,.own 9],.cells [.int .i64 7,.int .i64 z,.int .i64 ek,.int .i64 eo,.str em,.int .i64 ev,.sl .expr ea,.sl tI l,.cap0,.int .i64 0,.bool false,.csl tI 5 2,.int .i64 p.2.2.2,.int .i64 0],.cells   [.int .i64 1,.int .i64 2,.int .i64 0,.int .i64 0,.int .i64 2,     .sl .str [{ data:=#[120] }],.fn (Fn.func 212) [] [],.fn (Fn.func 203) [] []],.rows tI p.2.1,.rows tI p.2.2.1],10⟩) (fun p=>p.1≤(ins.getD 0 []).length∧p.2=(((ins.getD 0 []).take p.1).foldl (Ip (ExprT.mk ek eo em ev ea)) ([],[],0))∧p.2.1.length≤p.1∧p.2.2.1.length≤p.1) (fun p=>(ins.getD 0 []).length - p.1) (aI (eI ((0,([],[],0))) (eI ([some 0,some 1,some 2,some 3,some 4,some 5,some 6,some 7,none,none]) (aI ?_ (aB (aI (aI (aA (by rfl)) (aI (aA (by rfl)) (aI (aA (by rfl)) (aI (aA (by rfl)) (aI (aA (by rfl)) (aI (aA (by rfl)) (aI (aA (by rfl)) (aI (aA (by rfl)) (aB tT))))))))) (by rfl)))))) ?_)
 ·exact ⟨Nat.zero_le _,rfl,Nat.le_refl _,Nat.le_refl _⟩
 rintro ⟨j,o,q,f⟩ ⟨hj,hp,ho,hq⟩
 replace hj:j≤(ins.getD 0 []).length:=hj
 replace hp:(o,q,f)=(((ins.getD 0 []).take j).foldl (Ip (ExprT.mk ek eo em ev ea)) ([],[],0)):=hp
 have hnx:j < (ins.getD 0 []).length→((ins.getD 0 []).take (j+1)).foldl (Ip (ExprT.mk ek eo em ev ea)) ([],[],0)=Ip (ExprT.mk ek eo em ev ea) (o,q,f) ((ins.getD 0 []).getD j 0):=fun h=>by
  rw [Gk _ _ 0 h,← hp]
 have hen:decide ((j:Int) < ((ins.getD 0 []).length:Int))=false→(ins.getD 0 []).foldl (Ip (ExprT.mk ek eo em ev ea)) ([],[],0)=(o,q,f):=fun h=>by
  have h':¬ j < (ins.getD 0 []).length:=by simpa using h
  rw [hp,List.take_of_length_le (by omega)]
 replace ho:o.length≤j:=ho
 have room:(o.length+1) * 8≤lim:=by simp only [lim];omega
 replace hq:q.length≤j:=hq
 have room2:(q.length+1) * 8≤lim:=by simp only [lim];omega
 have wr:∀ w:Int,w=(evX (ExprT.mk ek eo em ev ea) nmX ((ins.getD 0 []).getD j 0) 0).1→-9223372036854775808≤1 - w∧1 - w≤9223372036854775807:=fun w h=>by
  have:=evB hty ((ins.getD 0 []).getD j 0) 0
  omega
 have wi:∀ w:Int,w=(evX (ExprT.mk ek eo em ev ea) nmX ((ins.getD 0 []).getD j 0) 0).1→0≤1 - w∧1 - w < ((2:Nat):Int):=fun w h=>by
  have:=evB hty ((ins.getD 0 []).getD j 0) 0
  omega
 refine (aI (fun m0=>(aI (by first | exact room | exact room2 | exact wr m2 m3 | exact wr m4 m5 | exact wr m5 m6 | exact wi m2 m3 | (intros;(try subst_vars);(try simp only [nB] at *);(try simp only [inK,big,lim,nL] at *);omega)) (aF (aF (aA (aF (aI (by first | exact room | exact room2 | exact wr m2 m3 | exact wr m4 m5 | exact wr m5 m6 | exact wi m2 m3 | (intros;(try subst_vars);(try simp only [nB] at *);(try simp only [inK,big,lim,nL] at *);omega)) (aI tT (aI (fun m1=>(fun m2=>(fun m3=>(aI (by first | exact room | exact room2 | exact wr m2 m3 | exact wr m4 m5 | exact wr m5 m6 | exact wi m2 m3 | (intros;(try subst_vars);(try simp only [nB] at *);(try simp only [inK,big,lim,nL] at *);omega)) (aF (aI (fun m4=>(aK (aI (by first | exact room | exact room2 | exact wr m2 m3 | exact wr m4 m5 | exact wr m5 m6 | exact wi m2 m3 | (intros;(try subst_vars);(try simp only [nB] at *);(try simp only [inK,big,lim,nL] at *);omega)) ?_))) (fun m4=>(aI (by first | exact room | exact room2 | exact wr m2 m3 | exact wr m4 m5 | exact wr m5 m6 | exact wi m2 m3 | (intros;(try subst_vars);(try simp only [nB] at *);(try simp only [inK,big,lim,nL] at *);omega)) ?_)))))))) (fun m1=>(fun m5=>(fun m6=>(aI (by first | exact room | exact room2 | exact wr m2 m3 | exact wr m4 m5 | exact wr m5 m6 | exact wi m2 m3 | (intros;(try subst_vars);(try simp only [nB] at *);(try simp only [inK,big,lim,nL] at *);omega)) (aF (aI (fun m7=>absurd (Eq.trans (Eq.symm m1) m7) (by decide)) (fun m7=>(aI (by first | exact room | exact room2 | exact wr m2 m3 | exact wr m4 m5 | exact wr m5 m6 | exact wi m2 m3 | (intros;(try subst_vars);(try simp only [nB] at *);(try simp only [inK,big,lim,nL] at *);omega)) ?_))))))))))))))))) (fun m0=>(aF (aI (fun m8=>(aF (Aa rfl ?_))) (fun m8=>(aI tT (aI (fun m9=>(Aa rfl ?_)) (fun m9=>(Aa rfl ?_)))))))))
 ·rcases evB hty ((ins.getD 0 []).getD j 0) 0 with hv | hv
  ·have hm:m2=0:=m3.trans hv
   subst hm
   refine (aD (aB (aI (by first | exact room | exact room2 | (intros;(try subst_vars);(try simp only [nB] at *);(try simp only [inK,big,lim,nL] at *);omega)) (aD (aC (aA (aI (by first | exact room | exact room2 | (intros;(try subst_vars);(try simp only [nB] at *);(try simp only [inK,big,lim,nL] at *);omega)) (aB (aI (by first | exact room | exact room2 | (intros;(try subst_vars);(try simp only [nB] at *);(try simp only [inK,big,lim,nL] at *);omega)) (aI (by first | exact room | exact room2 | (intros;(try subst_vars);(try simp only [nB] at *);(try simp only [inK,big,lim,nL] at *);omega)) (aI (by first | exact room | exact room2 | (intros;(try subst_vars);(try simp only [nB] at *);(try simp only [inK,big,lim,nL] at *);omega)) (aC (aB (aI (by first | exact room | exact room2 | (intros;(try subst_vars);(try simp only [nB] at *);(try simp only [inK,big,lim,nL] at *);omega)) ?_))))))))))))))
   ·have hj':j < (ins.getD 0 []).length:=by simpa using m0
    refine eI ((j+1,o,q++[(ins.getD 0 []).getD j 0],(evX (ExprT.mk ek eo em ev ea) nmX ((ins.getD 0 []).getD j 0) 0).2)) (eI ([some 0,some 1,some 2,some 3,some 4,some 5,some 6,some 7,some 8,some 13]) (aI ?_ (aI ?_ (aB (aI (aI (aA (by rfl)) (aI (aA (by rfl)) (aI (aA (by rfl)) (aI (aA (by rfl)) (aI (aA (by rfl)) (aI (aA (by rfl)) (aI (aA (by rfl)) (aI (aA (by rfl)) (aB tT))))))))) (by rfl))))))
    ·refine ⟨hj', ?_,by show o.length≤j+1;omega,by show (_++[_]).length≤j+1;simp;omega⟩
     show _=((ins.getD 0 []).take (j+1)).foldl _ _
     rw [hnx hj']
     dsimp only [Ip]
     rw [Im m1,if_neg (by rw [show (evX (ExprT.mk ek eo em ev ea) nmX ((ins.getD 0 []).getD j 0) 0).1=0 from hv];decide),if_neg (by rw [show (evX (ExprT.mk ek eo em ev ea) nmX ((ins.getD 0 []).getD j 0) 0).1=0 from hv];decide),O0 (f:=(evX (ExprT.mk ek eo em ev ea) nmX ((ins.getD 0 []).getD j 0) 0).2) (show decide ((evX (ExprT.mk ek eo em ev ea) nmX ((ins.getD 0 []).getD j 0) 0).2=0)=true from m4)]
    ·show (ins.getD 0 []).length - (j+1) < (ins.getD 0 []).length - j
     omega
  ·have hm:m2=1:=m3.trans hv
   subst hm
   refine (aD (aB (aI (by first | exact room | exact room2 | (intros;(try subst_vars);(try simp only [nB] at *);(try simp only [inK,big,lim,nL] at *);omega)) (aD (aC (aA (aI (by first | exact room | exact room2 | (intros;(try subst_vars);(try simp only [nB] at *);(try simp only [inK,big,lim,nL] at *);omega)) (aB (aI (by first | exact room | exact room2 | (intros;(try subst_vars);(try simp only [nB] at *);(try simp only [inK,big,lim,nL] at *);omega)) (aI (by first | exact room | exact room2 | (intros;(try subst_vars);(try simp only [nB] at *);(try simp only [inK,big,lim,nL] at *);omega)) (aI (by first | exact room | exact room2 | (intros;(try subst_vars);(try simp only [nB] at *);(try simp only [inK,big,lim,nL] at *);omega)) (aC (aB (aI (by first | exact room | exact room2 | (intros;(try subst_vars);(try simp only [nB] at *);(try simp only [inK,big,lim,nL] at *);omega)) ?_))))))))))))))
   ·have hj':j < (ins.getD 0 []).length:=by simpa using m0
    refine eI ((j+1,o++[(ins.getD 0 []).getD j 0],q,(evX (ExprT.mk ek eo em ev ea) nmX ((ins.getD 0 []).getD j 0) 0).2)) (eI ([some 0,some 1,some 2,some 3,some 4,some 5,some 6,some 7,some 13,some 9]) (aI ?_ (aI ?_ (aB (aI (aI (aA (by rfl)) (aI (aA (by rfl)) (aI (aA (by rfl)) (aI (aA (by rfl)) (aI (aA (by rfl)) (aI (aA (by rfl)) (aI (aA (by rfl)) (aI (aA (by rfl)) (aB tT))))))))) (by rfl))))))
    ·refine ⟨hj', ?_,by show (_++[_]).length≤j+1;simp;omega,by show q.length≤j+1;omega⟩
     show _=((ins.getD 0 []).take (j+1)).foldl _ _
     rw [hnx hj']
     dsimp only [Ip]
     rw [Im m1,if_pos (by rw [show (evX (ExprT.mk ek eo em ev ea) nmX ((ins.getD 0 []).getD j 0) 0).1=1 from hv];decide),if_pos (by rw [show (evX (ExprT.mk ek eo em ev ea) nmX ((ins.getD 0 []).getD j 0) 0).1=1 from hv];decide),O0 (f:=(evX (ExprT.mk ek eo em ev ea) nmX ((ins.getD 0 []).getD j 0) 0).2) (show decide ((evX (ExprT.mk ek eo em ev ea) nmX ((ins.getD 0 []).getD j 0) 0).2=0)=true from m4)]
    ·show (ins.getD 0 []).length - (j+1) < (ins.getD 0 []).length - j
     omega
 ·have hj':j < (ins.getD 0 []).length:=by simpa using m0
  refine eI ((j+1,o,q,(evX (ExprT.mk ek eo em ev ea) nmX ((ins.getD 0 []).getD j 0) 0).2)) (eI ([some 0,some 1,some 2,some 3,some 4,some 5,some 6,some 7,some 8,some 9]) (aI ?_ (aI ?_ (aB (aI (aI (aA (by rfl)) (aI (aA (by rfl)) (aI (aA (by rfl)) (aI (aA (by rfl)) (aI (aA (by rfl)) (aI (aA (by rfl)) (aI (aA (by rfl)) (aI (aA (by rfl)) (aB tT))))))))) (by rfl))))))
  ·refine ⟨hj', ?_,by show o.length≤j+1;omega,by show q.length≤j+1;omega⟩
   show _=((ins.getD 0 []).take (j+1)).foldl _ _
   rw [hnx hj']
   dsimp only [Ip]
   rw [Im m1]
   simp only [Jz (f:=(evX (ExprT.mk ek eo em ev ea) nmX ((ins.getD 0 []).getD j 0) 0).2) (show decide ((evX (ExprT.mk ek eo em ev ea) nmX ((ins.getD 0 []).getD j 0) 0).2=0)=false from m4),ite_self]
  ·show (ins.getD 0 []).length - (j+1) < (ins.getD 0 []).length - j
   omega
 ·have hj':j < (ins.getD 0 []).length:=by simpa using m0
  refine eI ((j+1,o,q,f)) (eI ([some 0,some 1,some 2,some 3,some 4,some 5,some 6,some 7,some 8,some 9]) (aI ?_ (aI ?_ (aB (aI (aI (aA (by rfl)) (aI (aA (by rfl)) (aI (aA (by rfl)) (aI (aA (by rfl)) (aI (aA (by rfl)) (aI (aA (by rfl)) (aI (aA (by rfl)) (aI (aA (by rfl)) (aB tT))))))))) (by rfl))))))
  ·refine ⟨hj', ?_,by show o.length≤j+1;omega,by show q.length≤j+1;omega⟩
   show _=((ins.getD 0 []).take (j+1)).foldl _ _
   rw [hnx hj']
   dsimp only [Ip]
   rw [R8 m1]
   simp only [Jz m1,ite_self]
  ·show (ins.getD 0 []).length - (j+1) < (ins.getD 0 []).length - j
   omega
 ·skip
  have run:Ch (7,z,ExprT.mk ek eo em ev ea,l) ins=([o,q],f):=by
   show ([((ins.getD 0 []).foldl (Ip (ExprT.mk ek eo em ev ea)) ([],[],0)).1,((ins.getD 0 []).foldl (Ip (ExprT.mk ek eo em ev ea)) ([],[],0)).2.1],((ins.getD 0 []).foldl (Ip (ExprT.mk ek eo em ev ea)) ([],[],0)).2.2)=_
   rw [hen m0]
  exact (Add (by assumption) (by assumption) hs0 (by rw [run];exact m8)).trans (by rw [run])
 ·skip
  have run:Ch (7,z,ExprT.mk ek eo em ev ea,l) ins=([o,q],f):=by
   show ([((ins.getD 0 []).foldl (Ip (ExprT.mk ek eo em ev ea)) ([],[],0)).1,((ins.getD 0 []).foldl (Ip (ExprT.mk ek eo em ev ea)) ([],[],0)).2.1],((ins.getD 0 []).foldl (Ip (ExprT.mk ek eo em ev ea)) ([],[],0)).2.2)=_
   rw [hen m0]
  exact Su (by assumption) (by assumption) hs0 (by rw [run];exact m8) (by rw [run];exact m9)
 ·skip
  have run:Ch (7,z,ExprT.mk ek eo em ev ea,l) ins=([o,q],f):=by
   show ([((ins.getD 0 []).foldl (Ip (ExprT.mk ek eo em ev ea)) ([],[],0)).1,((ins.getD 0 []).foldl (Ip (ExprT.mk ek eo em ev ea)) ([],[],0)).2.1],((ins.getD 0 []).foldl (Ip (ExprT.mk ek eo em ev ea)) ([],[],0)).2.2)=_
   rw [hen m0]
  exact (R9 (by assumption) (by assumption) hs0 (by rw [run];exact m8) (by rw [run];exact m9)).trans (by rw [run])
set_option maxHeartbeats 8000000 in
theorem Agg:Iq 9:=by
 intro z e l ins hc hlk
 have hl:ins.length=2:=by have h:(ins.length:Int)=2:=hlk;omega
 have hs:=A1 hc
 obtain ⟨ek,eo,em,ev,ea⟩:=e
 refine ⟨_,Gw, ?_⟩
 refine (aF (aI tT (aI (fun h0=>(Aa rfl (by first | exact Df (by assumption) | exact Dl (by assumption) (by assumption)))) (fun h0=>(aA (fun h1=>(aI (fun h2=>(Aa rfl (by first | exact Df (by assumption) | exact Dl (by assumption) (by assumption)))) (fun h2=>(fun h3=>?_)))))))))
 refine ex4 _ (fun i:Nat=>⟨[.any,.sl (.sl (.int .i64)) ins,.ptr 0 0,.any,.any,.any,.any,.ptr 1 0,.any,.any,.any,.any,.any,.any,.any,.any,.any,.any,.any,.any,.any,.any,.any,.any,.any,.any,.any,.any,.sl (.sl (.int .i64)) ins,.int .i64 (↑ins.length:Int),.int .i64 (i:Int)]++nA 34,[.cells   [.int .i64 9,.int .i64 z,.int .i64 (ExprT.mk ek eo em ev ea).kind,     .int .i64 (ExprT.mk ek eo em ev ea).op,.str (ExprT.mk ek eo em ev ea).name,     .int .i64 (ExprT.mk ek eo em ev ea).value,.sl .expr (ExprT.mk ek eo em ev ea).args,     .sl (.int .i64) l],.cells   [.int .i64 2,.int .i64 1,.int .i64 0,.int .i64 0,.int .i64 1,     .sl .str [{ data:=#[120] },{ data:=#[121] }],.fn (Fn.func 215) [] [],.fn (Fn.func 216) [] []]],2⟩) (fun i=>i≤ins.length∧Ba ins=Ba (ins.drop i)) (fun i=>ins.length - i) (aI (eI (0) (eI ([some 0,some 1]) (aI ?_ (aB (aI (aI (aA (by rfl)) (aI (aA (by rfl)) tT)) (by rfl)))))) ?_)
 ·exact ⟨Nat.zero_le _,rfl⟩
 rintro i ⟨hi,ht⟩
 have hin:decide ((i:Int) < (ins.length:Int))=false→(!decide (Ba ins=0))=false:=fun h=>by
  have hi':¬ i < ins.length:=by simpa using h
  rw [ht,List.drop_of_length_le (by omega)];rfl
 have ix:0 < 2→0≤(0:Int)∧(0:Int) < (ins.length:Int):=fun h=>by rw [hl];omega
 have iy:1 < 2→0≤(1:Int)∧(1:Int) < (ins.length:Int):=fun h=>by rw [hl];omega
 have hst:Ba ins=0→∀ j,j < ins.length→(ins.getD j (Ab tIs)).length≤200∧(ins.getD j (Ab tIs)).any Ai=false:=fun h j hj=>Bu h hj
 refine (aI (fun k0=>(aI (by first | exact ⟨by decide,rfl,by decide,by decide⟩ | exact ix (by decide) | exact iy (by decide) | (intros;(try subst_vars);(try simp only [nB] at *);(try simp only [inK,big,lim,nL] at *);omega)) (fun k1=>(aI (fun k2=>(Aa rfl ?_)) (fun k2=>(aI tT (aI (fun k3=>(Aa rfl ?_)) (fun k3=>(aI (by first | exact ⟨by decide,rfl,by decide,by decide⟩ | exact ix (by decide) | exact iy (by decide) | (intros;(try subst_vars);(try simp only [nB] at *);(try simp only [inK,big,lim,nL] at *);omega)) ?_))))))))) (fun k0=>(aF (aA (aF (aI (by first | exact ⟨by decide,rfl,by decide,by decide⟩ | exact ix (by decide) | exact iy (by decide) | (intros;(try subst_vars);(try simp only [nB] at *);(try simp only [inK,big,lim,nL] at *);omega)) (aF (aI (fun k4=>nG k4) (fun k4=>(aI (fun k5=>nG k5) (fun k5=>(aI (fun k6=>(aF (aI (by first | exact ⟨by decide,rfl,by decide,by decide⟩ | exact ix (by decide) | exact iy (by decide) | (intros;(try subst_vars);(try simp only [nB] at *);(try simp only [inK,big,lim,nL] at *);omega)) (aI (by first | exact ⟨by decide,rfl,by decide,by decide⟩ | exact ix (by decide) | exact iy (by decide) | (intros;(try subst_vars);(try simp only [nB] at *);(try simp only [inK,big,lim,nL] at *);omega)) (fun k7=>(fun k8=>?_)))))) (fun k6=>False.elim (Bool.false_ne_true (Eq.symm (Eq.trans (by kernel_rfl) k6))))))))))))))))
 ·have hi':i < ins.length:=by simpa using k0
  have hk:A2 (ins.getD i (Ab tIs))=true:=k2
  have e4:Ba ins=4:=by rw [ht,A5 hi',if_pos hk]
  exact (Kc (by assumption) (by assumption) (by rw [e4];rfl)).trans (by rw [e4])
 ·have hi':i < ins.length:=by simpa using k0
  have hk:¬ A2 (ins.getD i (Ab tIs))=true:=by have h:A2 (ins.getD i (Ab tIs))=false:=k2;rw [h];simp
  have hk2:(ins.getD i (Ab tIs)).any Ai=true:=k3
  have e4:Ba ins=2:=by rw [ht,A5 hi',if_neg hk,if_pos hk2]
  exact (Kc (by assumption) (by assumption) (by rw [e4];rfl)).trans (by rw [e4])
 ·have hi':i < ins.length:=by simpa using k0
  have hk:¬ A2 (ins.getD i (Ab tIs))=true:=by have h:A2 (ins.getD i (Ab tIs))=false:=k2;rw [h];simp
  have hk2:¬ (ins.getD i (Ab tIs)).any Ai=true:=by have h:(ins.getD i (Ab tIs)).any Ai=false:=k3;rw [h];simp
  refine eI (i+1) (eI ([some 0,some 1]) (aI ?_ (aI ?_ (aB (aI (aI (aA (by rfl)) (aI (aA (by rfl)) tT)) (by rfl))))))
  ·refine ⟨hi', ?_⟩
   rw [ht,A5 hi',if_neg hk,if_neg hk2]
  ·show ins.length - (i+1) < ins.length - i
   omega
 have hs0:=hin k0
 have hstr:Ba ins=0:=by simpa using hs0
 obtain ⟨hal,-⟩:=Bu hstr (show 0 < ins.length by omega)
 obtain ⟨hbl,-⟩:=Bu hstr (show 1 < ins.length by omega)
 replace hal:(ins.getD 0 []).length≤200:=hal
 replace hbl:(ins.getD 1 []).length≤200:=hbl
 clear ht hi hin
 have hmin:∀ x y:Nat,(if (y:Int) < (x:Int) then (y:Int) else (x:Int))=((min x y:Nat):Int):=fun x y=>by split <;> omega
 refine ex4 _ (fun p:Nat × List Int × Int=>⟨[.ptr 6 0,.agg   [.int .i64 2,.int .i64 1,.int .i64 0,.int .i64 0,.int .i64 1,     .sl .str [{ data:=#[120] },{ data:=#[121] }],.fn (Fn.func 215) [] [],.fn (Fn.func 216) [] []],.sl (.sl (.int .i64)) ins,.any,.any,.any,.any,.any,.any,.any,.any,.ptr 6 0,.any,.any,.any,.any,.any,.any,.any,.any,.any,.any,.any,.any,.any,.any,.any,.any,.any,.any,.any,.any,.any,.any,.any,.any,.any,.any,.any,.any,.any,.any,.any,.any,.any,.bool (decide (9=8)),.any,.any,.any,.any,.any,.any,.any,.any,.any,.any,.any,.any,.any,.bool (decide (9=9)),.bool (decide (9=9)),.sl (.sl (.int .i64)) ins,.eptr [PV.sl (.int .i64) (ins.getD (Int.toNat 0) (Ab (.sl (.int .i64))))],.sl (.int .i64) (ins.getD (Int.toNat 0) (Ab (.sl (.int .i64)))),.int .i64 (↑(List.length (ins.getD (Int.toNat 0) (Ab (.sl (.int .i64))))):Int),.any,.any,.any,.any,.int .i64   (if       (↑(List.length (ins.getD (Int.toNat 1) (Ab (.sl (.int .i64))))):Int) <         (↑(List.length (ins.getD (Int.toNat 0) (Ab (.sl (.int .i64))))):Int) then     (↑(List.length (ins.getD (Int.toNat 1) (Ab (.sl (.int .i64))))):Int)   else (↑(List.length (ins.getD (Int.toNat 0) (Ab (.sl (.int .i64))))):Int)),.int .i64 (p.1:Int)]++nA 19,[.cells   [.int .i64 9,.int .i64 z,.int .i64 (ExprT.mk ek eo em ev ea).kind,     .int .i64 (ExprT.mk ek eo em ev ea).op,.str (ExprT.mk ek eo em ev ea).name,     .int .i64 (ExprT.mk ek eo em ev ea).value,.sl .expr (ExprT.mk ek eo em ev ea).args,     .sl (.int .i64) l],.cells   [.int .i64 2,.int .i64 1,.int .i64 0,.int .i64 0,.int .i64 1,     .sl .str [{ data:=#[120] },{ data:=#[121] }],.fn (Fn.func 215) [] [],.fn (Fn.func 216) [] []],.cells   [.int .i64 9,.int .i64 z,.int .i64 (ExprT.mk ek eo em ev ea).kind,     .int .i64 (ExprT.mk ek eo em ev ea).op,.str (ExprT.mk ek eo em ev ea).name,     .int .i64 (ExprT.mk ek eo em ev ea).value,.sl .expr (ExprT.mk ek eo em ev ea).args,     .sl (.int .i64) l],.cells [.cap0,.int .i64 0,.bool false],.cells   [.int .i64 2,.int .i64 1,.int .i64 0,.int .i64 0,.int .i64 1,     .sl .str [{ data:=#[120] },{ data:=#[121] }],.fn (Fn.func 215) [] [],.fn (Fn.func 216) [] []],.cells [.own 8],.cells [.int .i64 9,.int .i64 z,.int .i64 ek,.int .i64 eo,.str em,.int .i64 ev,.sl .expr ea,.sl tI l,.cap0,.int .i64 0,.bool false,.csl tI 5 1,.int .i64 p.2.2,.int .i64 0],.cells   [.int .i64 2,.int .i64 1,.int .i64 0,.int .i64 0,.int .i64 1,     .sl .str [{ data:=#[120] },{ data:=#[121] }],.fn (Fn.func 215) [] [],.fn (Fn.func 216) [] []],.rows tI p.2.1],9⟩) (fun p=>p.1≤min (ins.getD 0 []).length (ins.getD 1 []).length∧p.2=(List.range p.1).foldl (Ms (ExprT.mk ek eo em ev ea) (ins.getD 0 []) (ins.getD 1 [])) ([],0)∧p.2.1.length≤p.1) (fun p=>min (ins.getD 0 []).length (ins.getD 1 []).length - p.1) (aI (eI ((0,[],0)) (eI ([some 0,some 1,some 2,some 3,some 4,some 5,some 6,some 7,none]) (aI ?_ (aB (aI (aI (aA (by rfl)) (aI (aA (by rfl)) (aI (aA (by rfl)) (aI (aA (by rfl)) (aI (aA (by rfl)) (aI (aA (by rfl)) (aI (aA (by rfl)) (aI (aA (by rfl)) (aA tT))))))))) (by rfl)))))) ?_)
 ·exact ⟨Nat.zero_le _,rfl,Nat.le_refl _⟩
 rintro ⟨j,o,f⟩ ⟨hj,hp,ho⟩
 replace hj:j≤min (ins.getD 0 []).length (ins.getD 1 []).length:=hj
 replace hp:(o,f)=(List.range j).foldl (Ms (ExprT.mk ek eo em ev ea) (ins.getD 0 []) (ins.getD 1 [])) ([],0):=hp
 replace ho:o.length≤j:=ho
 have room:(o.length+1) * 8≤lim:=by simp only [lim];omega
 have lt:decide ((j:Int) < (if ((ins.getD 1 []).length:Int) < ((ins.getD 0 []).length:Int) then ((ins.getD 1 []).length:Int) else ((ins.getD 0 []).length:Int)))=true→j < min (ins.getD 0 []).length (ins.getD 1 []).length:=fun h=>by
  have:=of_decide_eq_true h
  rw [hmin] at this
  omega
 have ge:decide ((j:Int) < (if ((ins.getD 1 []).length:Int) < ((ins.getD 0 []).length:Int) then ((ins.getD 1 []).length:Int) else ((ins.getD 0 []).length:Int)))=false→j=min (ins.getD 0 []).length (ins.getD 1 []).length:=fun h=>by
  have:=of_decide_eq_false h
  rw [hmin] at this
  omega
 have ixa:decide ((j:Int) < (if ((ins.getD 1 []).length:Int) < ((ins.getD 0 []).length:Int) then ((ins.getD 1 []).length:Int) else ((ins.getD 0 []).length:Int)))=true→0≤(j:Int)∧(j:Int) < ((ins.getD 0 []).length:Int):=fun h=>by have:=lt h;omega
 have ixb:decide ((j:Int) < (if ((ins.getD 1 []).length:Int) < ((ins.getD 0 []).length:Int) then ((ins.getD 1 []).length:Int) else ((ins.getD 0 []).length:Int)))=true→0≤(j:Int)∧(j:Int) < ((ins.getD 1 []).length:Int):=fun h=>by have:=lt h;omega
 have hnx:(List.range (j+1)).foldl (Ms (ExprT.mk ek eo em ev ea) (ins.getD 0 []) (ins.getD 1 [])) ([],0)=Ms (ExprT.mk ek eo em ev ea) (ins.getD 0 []) (ins.getD 1 []) (o,f) j:=by
  rw [List.range_succ,List.foldl_append,← hp];rfl
 refine (aI (fun m0=>(aK (aI (by first | exact room | exact ix (by decide) | exact iy (by decide) | exact ixa m0 | exact ixb m0 | (intros;(try subst_vars);(try simp only [nB] at *);(try simp only [inK,big,lim,nL] at *);omega)) (aI (by first | exact room | exact ix (by decide) | exact iy (by decide) | exact ixa m0 | exact ixb m0 | (intros;(try subst_vars);(try simp only [nB] at *);(try simp only [inK,big,lim,nL] at *);omega)) (aI (by first | exact room | exact ix (by decide) | exact iy (by decide) | exact ixa m0 | exact ixb m0 | (intros;(try subst_vars);(try simp only [nB] at *);(try simp only [inK,big,lim,nL] at *);omega)) (aI (by first | exact room | exact ix (by decide) | exact iy (by decide) | exact ixa m0 | exact ixb m0 | (intros;(try subst_vars);(try simp only [nB] at *);(try simp only [inK,big,lim,nL] at *);omega)) (aB (aA (aI (by first | exact room | exact ix (by decide) | exact iy (by decide) | exact ixa m0 | exact ixb m0 | (intros;(try subst_vars);(try simp only [nB] at *);(try simp only [inK,big,lim,nL] at *);omega)) (aB (aA (aI (by first | exact room | exact ix (by decide) | exact iy (by decide) | exact ixa m0 | exact ixb m0 | (intros;(try subst_vars);(try simp only [nB] at *);(try simp only [inK,big,lim,nL] at *);omega)) (aB (aA (aI (by first | exact room | exact ix (by decide) | exact iy (by decide) | exact ixa m0 | exact ixb m0 | (intros;(try subst_vars);(try simp only [nB] at *);(try simp only [inK,big,lim,nL] at *);omega)) (aB (aA (aI (by first | exact room | exact ix (by decide) | exact iy (by decide) | exact ixa m0 | exact ixb m0 | (intros;(try subst_vars);(try simp only [nB] at *);(try simp only [inK,big,lim,nL] at *);omega)) (aB (aF (aA (aF (aI (by first | exact room | exact ix (by decide) | exact iy (by decide) | exact ixa m0 | exact ixb m0 | (intros;(try subst_vars);(try simp only [nB] at *);(try simp only [inK,big,lim,nL] at *);omega)) (aI tT (aI (fun m1=>(aA (aF (aI (fun m2=>(aK (aI (by first | exact room | exact ix (by decide) | exact iy (by decide) | exact ixa m0 | exact ixb m0 | (intros;(try subst_vars);(try simp only [nB] at *);(try simp only [inK,big,lim,nL] at *);omega)) (aD (aB (aI (by first | exact room | exact ix (by decide) | exact iy (by decide) | exact ixa m0 | exact ixb m0 | (intros;(try subst_vars);(try simp only [nB] at *);(try simp only [inK,big,lim,nL] at *);omega)) (aD (aC (aA (aI (by first | exact room | exact ix (by decide) | exact iy (by decide) | exact ixa m0 | exact ixb m0 | (intros;(try subst_vars);(try simp only [nB] at *);(try simp only [inK,big,lim,nL] at *);omega)) (aB (aI (by first | exact room | exact ix (by decide) | exact iy (by decide) | exact ixa m0 | exact ixb m0 | (intros;(try subst_vars);(try simp only [nB] at *);(try simp only [inK,big,lim,nL] at *);omega)) (aI (by first | exact room | exact ix (by decide) | exact iy (by decide) | exact ixa m0 | exact ixb m0 | (intros;(try subst_vars);(try simp only [nB] at *);(try simp only [inK,big,lim,nL] at *);omega)) (aI (by first | exact room | exact ix (by decide) | exact iy (by decide) | exact ixa m0 | exact ixb m0 | (intros;(try subst_vars);(try simp only [nB] at *);(try simp only [inK,big,lim,nL] at *);omega)) (aC (aB (aI (by first | exact room | exact ix (by decide) | exact iy (by decide) | exact ixa m0 | exact ixb m0 | (intros;(try subst_vars);(try simp only [nB] at *);(try simp only [inK,big,lim,nL] at *);omega)) ?_))))))))))))))))) (fun m2=>(aI (by first | exact room | exact ix (by decide) | exact iy (by decide) | exact ixa m0 | exact ixb m0 | (intros;(try subst_vars);(try simp only [nB] at *);(try simp only [inK,big,lim,nL] at *);omega)) ?_)))))) (fun m1=>(aA (aF (aI (fun m3=>absurd (Eq.trans (Eq.symm m1) m3) (by decide)) (fun m3=>(aI (by first | exact room | exact ix (by decide) | exact iy (by decide) | exact ixa m0 | exact ixb m0 | (intros;(try subst_vars);(try simp only [nB] at *);(try simp only [inK,big,lim,nL] at *);omega)) ?_))))))))))))))))))))))))))))))) (fun m0=>(aI (fun m4=>(aF (Aa rfl ?_))) (fun m4=>(aI tT (aI (fun m5=>(Aa rfl ?_)) (fun m5=>(Aa rfl ?_))))))))
 ·have hj':=lt m0
  refine eI ((j+1,o++[(evX (ExprT.mk ek eo em ev ea) Ey ((ins.getD 0 []).getD j 0) ((ins.getD 1 []).getD j 0)).1],(evX (ExprT.mk ek eo em ev ea) Ey ((ins.getD 0 []).getD j 0) ((ins.getD 1 []).getD j 0)).2)) (eI ([some 0,some 1,some 2,some 3,some 4,some 5,some 6,some 7,some 12]) (aI ?_ (aI ?_ (aB (aI (aI (aA (by rfl)) (aI (aA (by rfl)) (aI (aA (by rfl)) (aI (aA (by rfl)) (aI (aA (by rfl)) (aI (aA (by rfl)) (aI (aA (by rfl)) (aI (aA (by rfl)) (aA tT))))))))) (by rfl))))))
  ·refine ⟨hj', ?_,by show (_++[_]).length≤j+1;simp;omega⟩
   show _=(List.range (j+1)).foldl _ _
   rw [hnx]
   dsimp only [Ms]
   rw [Im m1,O0 (f:=(evX (ExprT.mk ek eo em ev ea) Ey ((ins.getD 0 []).getD j 0) ((ins.getD 1 []).getD j 0)).2) (show decide ((evX (ExprT.mk ek eo em ev ea) Ey ((ins.getD 0 []).getD j 0) ((ins.getD 1 []).getD j 0)).2=0)=true from m2)]
  ·show min _ _ - (j+1) < min _ _ - j
   omega
 ·have hj':=lt m0
  refine eI ((j+1,o,(evX (ExprT.mk ek eo em ev ea) Ey ((ins.getD 0 []).getD j 0) ((ins.getD 1 []).getD j 0)).2)) (eI ([some 0,some 1,some 2,some 3,some 4,some 5,some 6,some 7,some 8]) (aI ?_ (aI ?_ (aB (aI (aI (aA (by rfl)) (aI (aA (by rfl)) (aI (aA (by rfl)) (aI (aA (by rfl)) (aI (aA (by rfl)) (aI (aA (by rfl)) (aI (aA (by rfl)) (aI (aA (by rfl)) (aA tT))))))))) (by rfl))))))
  ·refine ⟨hj', ?_,by show o.length≤j+1;omega⟩
   show _=(List.range (j+1)).foldl _ _
   rw [hnx]
   dsimp only [Ms]
   rw [Im m1,Jz (f:=(evX (ExprT.mk ek eo em ev ea) Ey ((ins.getD 0 []).getD j 0) ((ins.getD 1 []).getD j 0)).2) (show decide ((evX (ExprT.mk ek eo em ev ea) Ey ((ins.getD 0 []).getD j 0) ((ins.getD 1 []).getD j 0)).2=0)=false from m2)]
  ·show min _ _ - (j+1) < min _ _ - j
   omega
 ·have hj':=lt m0
  refine eI ((j+1,o,f)) (eI ([some 0,some 1,some 2,some 3,some 4,some 5,some 6,some 7,some 8]) (aI ?_ (aI ?_ (aB (aI (aI (aA (by rfl)) (aI (aA (by rfl)) (aI (aA (by rfl)) (aI (aA (by rfl)) (aI (aA (by rfl)) (aI (aA (by rfl)) (aI (aA (by rfl)) (aI (aA (by rfl)) (aA tT))))))))) (by rfl))))))
  ·refine ⟨hj', ?_,by show o.length≤j+1;omega⟩
   show _=(List.range (j+1)).foldl _ _
   rw [hnx]
   dsimp only [Ms]
   rw [R8 m1,Jz m1]
  ·show min _ _ - (j+1) < min _ _ - j
   omega
 ·skip
  have run:Ch (9,z,ExprT.mk ek eo em ev ea,l) ins=([o],f):=by
   show ([((List.range (min (ins.getD 0 []).length (ins.getD 1 []).length)).foldl (Ms (ExprT.mk ek eo em ev ea) (ins.getD 0 []) (ins.getD 1 [])) ([],0)).1],((List.range (min (ins.getD 0 []).length (ins.getD 1 []).length)).foldl (Ms (ExprT.mk ek eo em ev ea) (ins.getD 0 []) (ins.getD 1 [])) ([],0)).2)=_
   rw [← ge m0,← hp]
  exact (Add (by assumption) (by assumption) hs0 (by rw [run];exact m4)).trans (by rw [run])
 ·skip
  have run:Ch (9,z,ExprT.mk ek eo em ev ea,l) ins=([o],f):=by
   show ([((List.range (min (ins.getD 0 []).length (ins.getD 1 []).length)).foldl (Ms (ExprT.mk ek eo em ev ea) (ins.getD 0 []) (ins.getD 1 [])) ([],0)).1],((List.range (min (ins.getD 0 []).length (ins.getD 1 []).length)).foldl (Ms (ExprT.mk ek eo em ev ea) (ins.getD 0 []) (ins.getD 1 [])) ([],0)).2)=_
   rw [← ge m0,← hp]
  exact Su (by assumption) (by assumption) hs0 (by rw [run];exact m4) (by rw [run];exact m5)
 ·skip
  have run:Ch (9,z,ExprT.mk ek eo em ev ea,l) ins=([o],f):=by
   show ([((List.range (min (ins.getD 0 []).length (ins.getD 1 []).length)).foldl (Ms (ExprT.mk ek eo em ev ea) (ins.getD 0 []) (ins.getD 1 [])) ([],0)).1],((List.range (min (ins.getD 0 []).length (ins.getD 1 []).length)).foldl (Ms (ExprT.mk ek eo em ev ea) (ins.getD 0 []) (ins.getD 1 [])) ([],0)).2)=_
   rw [← ge m0,← hp]
  exact (R9 (by assumption) (by assumption) hs0 (by rw [run];exact m4) (by rw [run];exact m5)).trans (by rw [run])
set_option maxHeartbeats 8000000 in
theorem Adf:Iq 10:=by
 intro z e l ins hc hlk
 have hl:ins.length=1:=by have h:(ins.length:Int)=1:=hlk;omega
 have hs:=A1 hc
 obtain ⟨ek,eo,em,ev,ea⟩:=e
 refine ⟨_,Gw, ?_⟩
 refine (aF (aI tT (aI (fun h0=>(Aa rfl (by first | exact Df (by assumption) | exact Dl (by assumption) (by assumption)))) (fun h0=>(aA (fun h1=>(aI (fun h2=>(Aa rfl (by first | exact Df (by assumption) | exact Dl (by assumption) (by assumption)))) (fun h2=>(fun h3=>?_)))))))))
 refine ex4 _ (fun i:Nat=>⟨[.any,.sl (.sl (.int .i64)) ins,.ptr 0 0,.any,.any,.any,.any,.ptr 1 0,.any,.any,.any,.any,.any,.any,.any,.any,.any,.any,.any,.any,.any,.any,.any,.any,.any,.any,.any,.any,.sl (.sl (.int .i64)) ins,.int .i64 (↑ins.length:Int),.int .i64 (i:Int)]++nA 34,[.cells   [.int .i64 10,.int .i64 z,.int .i64 (ExprT.mk ek eo em ev ea).kind,     .int .i64 (ExprT.mk ek eo em ev ea).op,.str (ExprT.mk ek eo em ev ea).name,     .int .i64 (ExprT.mk ek eo em ev ea).value,.sl .expr (ExprT.mk ek eo em ev ea).args,     .sl (.int .i64) l],.cells   [.int .i64 1,.int .i64 0,.int .i64 0,.int .i64 0,.int .i64 0,     .sl .str [],.fn (Fn.func 217) [] [],.fn (Fn.func 203) [] []]],2⟩) (fun i=>i≤ins.length∧Ba ins=Ba (ins.drop i)) (fun i=>ins.length - i) (aI (eI (0) (eI ([some 0,some 1]) (aI ?_ (aB (aI (aI (aA (by rfl)) (aI (aA (by rfl)) tT)) (by rfl)))))) ?_)
 ·exact ⟨Nat.zero_le _,rfl⟩
 rintro i ⟨hi,ht⟩
 have hin:decide ((i:Int) < (ins.length:Int))=false→(!decide (Ba ins=0))=false:=fun h=>by
  have hi':¬ i < ins.length:=by simpa using h
  rw [ht,List.drop_of_length_le (by omega)];rfl
 have ix:0 < 1→0≤(0:Int)∧(0:Int) < (ins.length:Int):=fun h=>by rw [hl];omega
 have iy:1 < 1→0≤(1:Int)∧(1:Int) < (ins.length:Int):=fun h=>by rw [hl];omega
 have hst:Ba ins=0→∀ j,j < ins.length→(ins.getD j (Ab tIs)).length≤200∧(ins.getD j (Ab tIs)).any Ai=false:=fun h j hj=>Bu h hj
 refine (aI (fun k0=>(aI (by first | exact ⟨by decide,rfl,by decide,by decide⟩ | exact ix (by decide) | exact iy (by decide) | (intros;(try subst_vars);(try simp only [nB] at *);(try simp only [inK,big,lim,nL] at *);omega)) (fun k1=>(aI (fun k2=>(Aa rfl ?_)) (fun k2=>(aI tT (aI (fun k3=>(Aa rfl ?_)) (fun k3=>(aI (by first | exact ⟨by decide,rfl,by decide,by decide⟩ | exact ix (by decide) | exact iy (by decide) | (intros;(try subst_vars);(try simp only [nB] at *);(try simp only [inK,big,lim,nL] at *);omega)) ?_))))))))) (fun k0=>(aF (aA (aF (aI (by first | exact ⟨by decide,rfl,by decide,by decide⟩ | exact ix (by decide) | exact iy (by decide) | (intros;(try subst_vars);(try simp only [nB] at *);(try simp only [inK,big,lim,nL] at *);omega)) (aF (aI (fun k4=>nG k4) (fun k4=>(aI (fun k5=>nG k5) (fun k5=>(aI (fun k6=>nG k6) (fun k6=>(aI (by first | exact ⟨by decide,rfl,by decide,by decide⟩ | exact ix (by decide) | exact iy (by decide) | (intros;(try subst_vars);(try simp only [nB] at *);(try simp only [inK,big,lim,nL] at *);omega)) (fun k7=>?_)))))))))))))))
 ·have hi':i < ins.length:=by simpa using k0
  have hk:A2 (ins.getD i (Ab tIs))=true:=k2
  have e4:Ba ins=4:=by rw [ht,A5 hi',if_pos hk]
  exact (Kc (by assumption) (by assumption) (by rw [e4];rfl)).trans (by rw [e4])
 ·have hi':i < ins.length:=by simpa using k0
  have hk:¬ A2 (ins.getD i (Ab tIs))=true:=by have h:A2 (ins.getD i (Ab tIs))=false:=k2;rw [h];simp
  have hk2:(ins.getD i (Ab tIs)).any Ai=true:=k3
  have e4:Ba ins=2:=by rw [ht,A5 hi',if_neg hk,if_pos hk2]
  exact (Kc (by assumption) (by assumption) (by rw [e4];rfl)).trans (by rw [e4])
 ·have hi':i < ins.length:=by simpa using k0
  have hk:¬ A2 (ins.getD i (Ab tIs))=true:=by have h:A2 (ins.getD i (Ab tIs))=false:=k2;rw [h];simp
  have hk2:¬ (ins.getD i (Ab tIs)).any Ai=true:=by have h:(ins.getD i (Ab tIs)).any Ai=false:=k3;rw [h];simp
  refine eI (i+1) (eI ([some 0,some 1]) (aI ?_ (aI ?_ (aB (aI (aI (aA (by rfl)) (aI (aA (by rfl)) tT)) (by rfl))))))
  ·refine ⟨hi', ?_⟩
   rw [ht,A5 hi',if_neg hk,if_neg hk2]
  ·show ins.length - (i+1) < ins.length - i
   omega
 have hs0:=hin k0
 clear ht hi hin
 refine ex4 _ (fun j:Nat=>⟨[.ptr 6 0,.agg   [.int .i64 1,.int .i64 0,.int .i64 0,.int .i64 0,.int .i64 0,     .sl .str [],.fn (Fn.func 217) [] [],.fn (Fn.func 203) [] []],.sl (.sl (.int .i64)) ins,.any,.ptr 7 0,.any,.any,.any,.any,.any,.any,.ptr 6 0,.any,.any,.sl (.sl (.int .i64)) ins,.eptr [PV.sl (.int .i64) (ins.getD (Int.toNat 0) (Ab (.sl (.int .i64))))],.sl (.int .i64) (ins.getD (Int.toNat 0) (Ab (.sl (.int .i64)))),.int .i64 (↑(List.length (ins.getD (Int.toNat 0) (Ab (.sl (.int .i64))))):Int),.int .i64 (j:Int),.any,.any,.any,.any,.any,.any,.any,.any,.any,.any,.any,.any,.any,.any,.any,.any,.any,.any,.any,.any,.any,.any,.any,.any,.any,.any,.bool (decide (10=8)),.any,.any,.any,.any,.any,.any,.any,.any,.any,.any,.any,.any,.any,.bool (decide (10=9)),.bool (decide (10=9))]++nA 29,[.cells   [.int .i64 10,.int .i64 z,.int .i64 (ExprT.mk ek eo em ev ea).kind,     .int .i64 (ExprT.mk ek eo em ev ea).op,.str (ExprT.mk ek eo em ev ea).name,     .int .i64 (ExprT.mk ek eo em ev ea).value,.sl .expr (ExprT.mk ek eo em ev ea).args,     .sl (.int .i64) l],.cells   [.int .i64 1,.int .i64 0,.int .i64 0,.int .i64 0,.int .i64 0,     .sl .str [],.fn (Fn.func 217) [] [],.fn (Fn.func 203) [] []],.cells   [.int .i64 10,.int .i64 z,.int .i64 (ExprT.mk ek eo em ev ea).kind,     .int .i64 (ExprT.mk ek eo em ev ea).op,.str (ExprT.mk ek eo em ev ea).name,     .int .i64 (ExprT.mk ek eo em ev ea).value,.sl .expr (ExprT.mk ek eo em ev ea).args,     .sl (.int .i64) l],.cells [.cap0,.int .i64 0,.bool false],.cells   [.int .i64 1,.int .i64 0,.int .i64 0,.int .i64 0,.int .i64 0,     .sl .str [],.fn (Fn.func 217) [] [],.fn (Fn.func 203) [] []],.cells [],.cells   [.int .i64 10,.int .i64 z,.int .i64 (ExprT.mk ek eo em ev ea).kind,     .int .i64 (ExprT.mk ek eo em ev ea).op,.str (ExprT.mk ek eo em ev ea).name,     .int .i64 (ExprT.mk ek eo em ev ea).value,.sl .expr (ExprT.mk ek eo em ev ea).args,     .sl (.int .i64) l,.cap0,.int .i64 0,.bool false,.csl tI 5 (Int.toNat 0),     .int .i64 0,.int .i64 0],.cells   [.int .i64 1,.int .i64 0,.int .i64 0,.int .i64 0,.int .i64 0,     .sl .str [],.fn (Fn.func 217) [] [],.fn (Fn.func 203) [] []]],8⟩) (fun j=>j≤(ins.getD 0 []).length) (fun j=>(ins.getD 0 []).length - j) (aI (eI (0) (eI ([some 0,some 1,some 2,some 3,some 4,some 5,some 6,some 7]) (aI ?_ (aB (aI (aI (aA (by rfl)) (aI (aA (by rfl)) (aI (aA (by rfl)) (aI (aA (by rfl)) (aI (aA (by rfl)) (aI (aA (by rfl)) (aI (aA (by rfl)) (aI (aA (by rfl)) tT)))))))) (by rfl)))))) ?_)
 ·exact Nat.zero_le _
 rintro j hj
 refine (aI (fun m0=>(aO (aF (aO ?_)))) (fun m0=>(aF (aI (fun m1=>nG m1) (fun m1=>(aI tT (aI (fun m2=>nG m2) (fun m2=>(Aa rfl ?_)))))))))
 ·have hj':j < (ins.getD 0 []).length:=by simpa using m0
  refine eI (j+1) (eI ([some 0,some 1,some 2,some 3,some 4,some 5,some 6,some 7]) (aI ?_ (aI ?_ (aB (aI (aI (aA (by rfl)) (aI (aA (by rfl)) (aI (aA (by rfl)) (aI (aA (by rfl)) (aI (aA (by rfl)) (aI (aA (by rfl)) (aI (aA (by rfl)) (aI (aA (by rfl)) tT)))))))) (by rfl))))))
  ·exact hj'
  ·show (ins.getD 0 []).length - (j+1) < (ins.getD 0 []).length - j
   omega
 ·have run:Ch (10,z,ExprT.mk ek eo em ev ea,l) ins=([],0):=rfl
  exact (R9 (by assumption) (by assumption) hs0 (by rw [run];rfl) (by rw [run];rfl)).trans (by rw [run])
def bat (z ek eo:Int) (em:ByteArray) (ev:Int) (ea:List ExprT) (l:List Int) (held:AV) (f:Int):Ob :=
 .cells [.int .i64 4,.int .i64 z,.int .i64 ek,.int .i64 eo,.str em,.int .i64 ev,.sl .expr ea,.sl tI l,held,.int .i64 0,.bool false,.csl tI 1 1,.int .i64 f,.int .i64 0]
theorem Jd {d:List Int} {i:Nat} {s:Int × Int} {n f:Int} (h:i < d.length) (hp:(n,f)=(d.take i).foldl Ez s):(d.take (i+1)).foldl Ez s=Ez (n,f) (d.getD i 0):=by
 rw [Gk _ _ 0 h,← hp]
theorem Zn {d:List Int} (h:∀ x∈d,inM x) (i:Nat):inM (d.getD i 0):=Vn h i
def Al6:FuncId→List AV→List Ob→AV→List Ob→Prop:=fun g args T x1 T1 =>
 ∃ (z ek eo:Int) (em:ByteArray) (ev:Int) (ea:List ExprT) (l d o:List Int) (f:Int),d.length≤1000∧(∀ x∈d,inM x)∧o.length≤1000∧g=209∧args=[.ptr 0 0] ∧
  T=[bat z ek eo em ev ea l (.own 3) f,.cells [.own 2],.rows tI o,.rows tI d]∧x1=.tup [] ∧
  T1=[bat z ek eo em ev ea l .cap0 (G2 (d,o,f)).2.2,.cells [.own 4],.dead,.rows tI d,.rows tI (G2 (d,o,f)).2.1]
theorem Al7 (z ek eo:Int) (em:ByteArray) (ev:Int) (ea:List ExprT) (l d o:List Int) (f:Int) (hd:d.length≤1000) (hin:∀ x∈d,inM x) (ho:o.length≤1000) :
 A6 cxM Tryz.prog (A6 cxM Tryz.prog noS) 209 [.ptr 0 0] [bat z ek eo em ev ea l (.own 3) f,.cells [.own 2],.rows tI o,.rows tI d] 4
  (fun x T' n'=>∃ σ,Iy 4 σ [noW x] T' n' ⟨[.tup []],[bat z ek eo em ev ea l .cap0 (G2 (d,o,f)).2.2,.cells [.own 4],.dead,.rows tI d,.rows tI (G2 (d,o,f)).2.1],5⟩):=by
 have room:(o.length+1) * 8≤lim:=by simp only [lim];omega
 unfold bat
 refine (aF (fun h0=>?_))
 refine ex4 _ (fun p:Nat × Int × Int=>⟨[.ptr 0 0,.any,.int .i64 p.2.1,.any,.any,.ptr 0 0,.ptr 0 0,.ptr 0 8,.ptr 0 8,.own 3,.int .i64 (↑d.length:Int),.int .i64 (p.1:Int)]++nA 27,[.cells [.int .i64 4,.int .i64 z,.int .i64 ek,.int .i64 eo,.str em,.int .i64 ev,.sl .expr ea,.sl tI l,.own 3,.int .i64 0,.bool false,.csl tI 1 1,.int .i64 p.2.2,.int .i64 0],.cells [.own 2],.rows tI o,.rows tI d],4⟩) (fun p=>p.1≤d.length∧p.2=(d.take p.1).foldl Ez (0,f)∧(-(1099511627776 * (p.1:Int))≤p.2.1∧p.2.1≤1099511627776 * (p.1:Int))) (fun p=>d.length - p.1) (aI (eI ((0,0,f)) (eI ([some 0,some 1,some 2,some 3]) (aI ?_ (aB (aI (aI (aA (by rfl)) (aI (aA (by rfl)) (aB tT))) (by rfl)))))) ?_)
 ·exact ⟨Nat.zero_le _,rfl,by show -(1099511627776 * ((0:Nat):Int))≤0;decide,by show (0:Int)≤1099511627776 * ((0:Nat):Int);decide⟩
 rintro ⟨i,n,e⟩ ⟨hi,hp,hn⟩
 replace hi:i≤d.length:=hi
 replace hp:(n,e)=(d.take i).foldl Ez (0,f):=hp
 replace hn:-(1099511627776 * (i:Int))≤n∧n≤1099511627776 * (i:Int):=hn
 have hx:-1099511627776≤d.getD i 0∧d.getD i 0≤1099511627776:=Zn hin i
 have nr:inK .i64 (n+d.getD i 0):=by simp only [inK];omega
 have hb:-(1099511627776 * ((i+1:Nat):Int))≤n+d.getD i 0∧n+d.getD i 0≤1099511627776 * ((i+1:Nat):Int):=by omega
 refine (aI (fun m0=>(aI (by first | exact nr | exact room | (intros;(try subst_vars);(try simp only [nB] at *);(try simp only [inK,big,lim,nL] at *);omega)) (aI (by first | exact nr | exact room | (intros;(try subst_vars);(try simp only [nB] at *);(try simp only [inK,big,lim,nL] at *);omega)) (aI tT (aI (fun m1=>(aI (by first | exact nr | exact room | (intros;(try subst_vars);(try simp only [nB] at *);(try simp only [inK,big,lim,nL] at *);omega)) ?_)) (fun m1=>(aI (by first | exact nr | exact room | (intros;(try subst_vars);(try simp only [nB] at *);(try simp only [inK,big,lim,nL] at *);omega)) ?_))))))) (fun m0=>(aF (aI (fun m2=>(aK (aI (by first | exact nr | exact room | (intros;(try subst_vars);(try simp only [nB] at *);(try simp only [inK,big,lim,nL] at *);omega)) (aD (aB (aI (by first | exact nr | exact room | (intros;(try subst_vars);(try simp only [nB] at *);(try simp only [inK,big,lim,nL] at *);omega)) (aD (aC (aA (aI (by first | exact nr | exact room | (intros;(try subst_vars);(try simp only [nB] at *);(try simp only [inK,big,lim,nL] at *);omega)) (aB (aI (by first | exact nr | exact room | (intros;(try subst_vars);(try simp only [nB] at *);(try simp only [inK,big,lim,nL] at *);omega)) (aI (by first | exact nr | exact room | (intros;(try subst_vars);(try simp only [nB] at *);(try simp only [inK,big,lim,nL] at *);omega)) (aI (by first | exact nr | exact room | (intros;(try subst_vars);(try simp only [nB] at *);(try simp only [inK,big,lim,nL] at *);omega)) (aC (aB ?_)))))))))))))))) (fun m2=>?_)))))
 ·have hi':i < d.length:=by simpa using m0
  refine eI ((i+1,n+d.getD i 0,14)) (eI ([some 0,some 1,some 2,some 3]) (aI ?_ (aI ?_ (aB (aI (aI (aA (by rfl)) (aI (aA (by rfl)) (aB tT))) (by rfl))))))
  ·refine ⟨hi', ?_,hb⟩
   rw [Jd hi' hp]
   dsimp only [Ez]
   rw [if_pos (show (bif !Jx (n+d.getD i 0) then decide (e=0) else false)=true from m1)]
  ·show d.length - (i+1) < d.length - i
   omega
 ·have hi':i < d.length:=by simpa using m0
  refine eI ((i+1,n+d.getD i 0,e)) (eI ([some 0,some 1,some 2,some 3]) (aI ?_ (aI ?_ (aB (aI (aI (aA (by rfl)) (aI (aA (by rfl)) (aB tT))) (by rfl))))))
  ·refine ⟨hi', ?_,hb⟩
   rw [Jd hi' hp]
   dsimp only [Ez]
   rw [if_neg (by rw [show (bif !Jx (n+d.getD i 0) then decide (e=0) else false)=false from m1];simp)]
  ·show d.length - (i+1) < d.length - i
   omega
 ·have hi':¬ i < d.length:=by simpa using m0
  rw [List.take_of_length_le (by omega)] at hp
  have hb:G2 (d,o,f)=([],o++[n],e):=by
   dsimp only [G2]
   rw [← hp]
   dsimp only
   rw [O0 m2]
  rw [hb]
  exact ⟨[some 0,some 1,none,some 3,some 5],by rfl,by rfl,⟨⟨by rfl,by rfl⟩,⟨by rfl,by rfl⟩,by rfl,by rfl,trivial⟩,by rfl⟩
 ·have hi':¬ i < d.length:=by simpa using m0
  rw [List.take_of_length_le (by omega)] at hp
  have hb:G2 (d,o,f)=([],o,e):=by
   dsimp only [G2]
   rw [← hp]
   dsimp only
   rw [Jz m2]
  rw [hb]
  exact ⟨[some 0,some 1,none,some 3,some 2],by rfl,by rfl,⟨⟨by rfl,by rfl⟩,⟨by rfl,by rfl⟩,by rfl,by rfl,trivial⟩,by rfl⟩
theorem Agh:∀ g args T x1 T1,Al6 g args T x1 T1→A6 cxM Tryz.prog (A6 cxM Tryz.prog noS) g args T T.length (fun x T' n'=>∃ σ,Iy T.length σ [noW x] T' n' ⟨[x1],T1,T1.length⟩):=by
 rintro g args T x1 T1 ⟨z,ek,eo,em,ev,ea,l,d,o,f,hd,hin,ho,rfl,rfl,rfl,rfl,rfl⟩
 exact Al7 z ek eo em ev ea l d o f hd hin ho
theorem X0:A7 Tryz.prog (Fy Al6):=F1 (Af B8 (Af B8 Bf)) Agh
theorem Adg:A7 Tryz.prog (A6 cxM Tryz.prog (A6 cxM Tryz.prog (A6 cxM Tryz.prog (Ja 209 (Fy Al6) (A6 cxM Tryz.prog noS))))) :=
 Af B8 (Af B8 (Af B8 (Cs X0 (Af B8 Bf))))
theorem Al8 {xs:List Int} (h:xs.any Ai=false) {j:Nat} (hj:j < xs.length):inM (xs.getD j 0):=by
 have h1:=List.any_eq_false.1 h (xs.getD j 0) (by simp [List.getD_eq_getElem?_getD,List.getElem?_eq_getElem hj])
 generalize xs.getD j 0=x at *
 unfold Ai Jx at h1
 unfold inM
 by_cases h2:-1099511627776≤x
 ·by_cases h3:x≤1099511627776
  ·exact ⟨h2,h3⟩
  ·rw [decide_eq_true h2,decide_eq_false h3] at h1;exact absurd rfl h1
 ·rw [decide_eq_false h2] at h1;exact absurd rfl h1
set_option maxHeartbeats 8000000 in
theorem Agi:Iq 4:=by
 intro z e l ins hc hlk
 have hl:ins.length=1:=by have h:(ins.length:Int)=1:=hlk;omega
 have hs:=A1 hc
 obtain ⟨ek,eo,em,ev,ea⟩:=e
 refine ⟨_,Adg, ?_⟩
 refine (aF (aI tT (aI (fun h0=>(Aa rfl (by first | exact Df (by assumption) | exact Dl (by assumption) (by assumption)))) (fun h0=>(aA (fun h1=>(aI (fun h2=>(Aa rfl (by first | exact Df (by assumption) | exact Dl (by assumption) (by assumption)))) (fun h2=>(fun h3=>?_)))))))))
 refine ex4 _ (fun i:Nat=>⟨[.any,.sl (.sl (.int .i64)) ins,.ptr 0 0,.any,.any,.any,.any,.ptr 1 0,.any,.any,.any,.any,.any,.any,.any,.any,.any,.any,.any,.any,.any,.any,.any,.any,.any,.any,.any,.any,.sl (.sl (.int .i64)) ins,.int .i64 (↑ins.length:Int),.int .i64 (i:Int)]++nA 34,[.cells   [.int .i64 4,.int .i64 z,.int .i64 (ExprT.mk ek eo em ev ea).kind,     .int .i64 (ExprT.mk ek eo em ev ea).op,.str (ExprT.mk ek eo em ev ea).name,     .int .i64 (ExprT.mk ek eo em ev ea).value,.sl .expr (ExprT.mk ek eo em ev ea).args,     .sl (.int .i64) l],.cells   [.int .i64 1,.int .i64 1,.int .i64 1,.int .i64 100,.int .i64 0,     .sl .str [],.fn (Fn.func 207) [] [],.fn (Fn.func 208) [] []]],2⟩) (fun i=>i≤ins.length∧Ba ins=Ba (ins.drop i)) (fun i=>ins.length - i) (aI (eI (0) (eI ([some 0,some 1]) (aI ?_ (aB (aI (aI (aA (by rfl)) (aI (aA (by rfl)) tT)) (by rfl)))))) ?_)
 ·exact ⟨Nat.zero_le _,rfl⟩
 rintro i ⟨hi,ht⟩
 have hin:decide ((i:Int) < (ins.length:Int))=false→(!decide (Ba ins=0))=false:=fun h=>by
  have hi':¬ i < ins.length:=by simpa using h
  rw [ht,List.drop_of_length_le (by omega)];rfl
 have ix:0 < 1→0≤(0:Int)∧(0:Int) < (ins.length:Int):=fun h=>by rw [hl];omega
 have iy:1 < 1→0≤(1:Int)∧(1:Int) < (ins.length:Int):=fun h=>by rw [hl];omega
 have hst:Ba ins=0→∀ j,j < ins.length→(ins.getD j (Ab tIs)).length≤200∧(ins.getD j (Ab tIs)).any Ai=false:=fun h j hj=>Bu h hj
 refine (aI (fun k0=>(aI (by first | exact ⟨by decide,rfl,by decide,by decide⟩ | exact ix (by decide) | exact iy (by decide) | (intros;(try subst_vars);(try simp only [nB] at *);(try simp only [inK,big,lim,nL] at *);omega)) (fun k1=>(aI (fun k2=>(Aa rfl ?_)) (fun k2=>(aI tT (aI (fun k3=>(Aa rfl ?_)) (fun k3=>(aI (by first | exact ⟨by decide,rfl,by decide,by decide⟩ | exact ix (by decide) | exact iy (by decide) | (intros;(try subst_vars);(try simp only [nB] at *);(try simp only [inK,big,lim,nL] at *);omega)) ?_))))))))) (fun k0=>(aF (aA (aF (aI (by first | exact ⟨by decide,rfl,by decide,by decide⟩ | exact ix (by decide) | exact iy (by decide) | (intros;(try subst_vars);(try simp only [nB] at *);(try simp only [inK,big,lim,nL] at *);omega)) (aF (aI (fun k4=>nG k4) (fun k4=>(aI (fun k5=>nG k5) (fun k5=>(aI (fun k6=>nG k6) (fun k6=>(aI (by first | exact ⟨by decide,rfl,by decide,by decide⟩ | exact ix (by decide) | exact iy (by decide) | (intros;(try subst_vars);(try simp only [nB] at *);(try simp only [inK,big,lim,nL] at *);omega)) (fun k7=>?_)))))))))))))))
 ·have hi':i < ins.length:=by simpa using k0
  have hk:A2 (ins.getD i (Ab tIs))=true:=k2
  have e4:Ba ins=4:=by rw [ht,A5 hi',if_pos hk]
  exact (Kc (by assumption) (by assumption) (by rw [e4];rfl)).trans (by rw [e4])
 ·have hi':i < ins.length:=by simpa using k0
  have hk:¬ A2 (ins.getD i (Ab tIs))=true:=by have h:A2 (ins.getD i (Ab tIs))=false:=k2;rw [h];simp
  have hk2:(ins.getD i (Ab tIs)).any Ai=true:=k3
  have e4:Ba ins=2:=by rw [ht,A5 hi',if_neg hk,if_pos hk2]
  exact (Kc (by assumption) (by assumption) (by rw [e4];rfl)).trans (by rw [e4])
 ·have hi':i < ins.length:=by simpa using k0
  have hk:¬ A2 (ins.getD i (Ab tIs))=true:=by have h:A2 (ins.getD i (Ab tIs))=false:=k2;rw [h];simp
  have hk2:¬ (ins.getD i (Ab tIs)).any Ai=true:=by have h:(ins.getD i (Ab tIs)).any Ai=false:=k3;rw [h];simp
  refine eI (i+1) (eI ([some 0,some 1]) (aI ?_ (aI ?_ (aB (aI (aI (aA (by rfl)) (aI (aA (by rfl)) tT)) (by rfl))))))
  ·refine ⟨hi', ?_⟩
   rw [ht,A5 hi',if_neg hk,if_neg hk2]
  ·show ins.length - (i+1) < ins.length - i
   omega
 have hs0:=hin k0
 have hstr:Ba ins=0:=by simpa using hs0
 obtain ⟨hal,han⟩:=Bu hstr (show 0 < ins.length by omega)
 replace hal:(ins.getD 0 []).length≤200:=hal
 replace han:(ins.getD 0 []).any Ai=false:=han
 clear ht hi hin
 refine ex4 _ (fun p:Nat × List Int × List Int × Int=>⟨[.ptr 6 0,.agg   [.int .i64 1,.int .i64 1,.int .i64 1,.int .i64 100,.int .i64 0,     .sl .str [],.fn (Fn.func 207) [] [],.fn (Fn.func 208) [] []],.sl (.sl (.int .i64)) ins,.any,.ptr 7 0,.any,.any,.any,.any,.any,.any,.ptr 6 0,.any,.any,.sl (.sl (.int .i64)) ins,.eptr [PV.sl (.int .i64) (ins.getD (Int.toNat 0) (Ab (.sl (.int .i64))))],.sl (.int .i64) (ins.getD (Int.toNat 0) (Ab (.sl (.int .i64)))),.int .i64 (↑(List.length (ins.getD (Int.toNat 0) (Ab (.sl (.int .i64))))):Int),.int .i64 (p.1:Int),.any,.any,.any,.any,.any,.any,.any,.any,.any,.any,.any,.any,.any,.any,.any,.any,.any,.any,.any,.any,.any,.any,.any,.any,.any,.any,.bool (decide (4=8)),.any,.any,.any,.any,.any,.any,.any,.any,.any,.any,.any,.any,.any,.bool (decide (4=9)),.bool (decide (4=9))]++nA 29,[.cells   [.int .i64 4,.int .i64 z,.int .i64 (ExprT.mk ek eo em ev ea).kind,     .int .i64 (ExprT.mk ek eo em ev ea).op,.str (ExprT.mk ek eo em ev ea).name,     .int .i64 (ExprT.mk ek eo em ev ea).value,.sl .expr (ExprT.mk ek eo em ev ea).args,     .sl (.int .i64) l],.cells   [.int .i64 1,.int .i64 1,.int .i64 1,.int .i64 100,.int .i64 0,     .sl .str [],.fn (Fn.func 207) [] [],.fn (Fn.func 208) [] []],.cells   [.int .i64 4,.int .i64 z,.int .i64 (ExprT.mk ek eo em ev ea).kind,     .int .i64 (ExprT.mk ek eo em ev ea).op,.str (ExprT.mk ek eo em ev ea).name,     .int .i64 (ExprT.mk ek eo em ev ea).value,.sl .expr (ExprT.mk ek eo em ev ea).args,     .sl (.int .i64) l],.cells [.cap0,.int .i64 0,.bool false],.cells   [.int .i64 1,.int .i64 1,.int .i64 1,.int .i64 100,.int .i64 0,     .sl .str [],.fn (Fn.func 207) [] [],.fn (Fn.func 208) [] []],.cells [.own 8],.cells [.int .i64 4,.int .i64 z,.int .i64 ek,.int .i64 eo,.str em,.int .i64 ev,.sl .expr ea,.sl tI l,.own 9,.int .i64 0,.bool false,.csl tI 5 1,.int .i64 p.2.2.2,.int .i64 0],.cells   [.int .i64 1,.int .i64 1,.int .i64 1,.int .i64 100,.int .i64 0,     .sl .str [],.fn (Fn.func 207) [] [],.fn (Fn.func 208) [] []],.rows tI p.2.2.1,.rows tI p.2.1],10⟩) (fun p=>p.1≤(ins.getD 0 []).length∧p.2=(((ins.getD 0 []).take p.1).foldl (De z) ([],[],0))∧p.2.2.1.length≤p.1∧p.2.1.length≤p.1∧(∀ x∈p.2.1,inM x)) (fun p=>(ins.getD 0 []).length - p.1) (aI (eI ((0,([],[],0))) (eI ([some 0,some 1,some 2,some 3,some 4,some 5,some 6,some 7,none,none]) (aI ?_ (aB (aI (aI (aA (by rfl)) (aI (aA (by rfl)) (aI (aA (by rfl)) (aI (aA (by rfl)) (aI (aA (by rfl)) (aI (aA (by rfl)) (aI (aA (by rfl)) (aI (aA (by rfl)) (aB tT))))))))) (by rfl)))))) ?_)
 ·exact ⟨Nat.zero_le _,rfl,Nat.le_refl _,Nat.le_refl _,fun x h=>by simp at h⟩
 rintro ⟨j,d,o,f⟩ ⟨hj,hp,ho,hd,hin2⟩
 replace hj:j≤(ins.getD 0 []).length:=hj
 replace hp:(d,o,f)=(((ins.getD 0 []).take j).foldl (De z) ([],[],0)):=hp
 have hnx:j < (ins.getD 0 []).length→((ins.getD 0 []).take (j+1)).foldl (De z) ([],[],0)=De z (d,o,f) ((ins.getD 0 []).getD j 0):=fun h=>by
  rw [Gk _ _ 0 h,← hp]
 have hen:decide ((j:Int) < ((ins.getD 0 []).length:Int))=false→(ins.getD 0 []).foldl (De z) ([],[],0)=(d,o,f):=fun h=>by
  have h':¬ j < (ins.getD 0 []).length:=by simpa using h
  rw [hp,List.take_of_length_le (by omega)]
 replace ho:o.length≤j:=ho
 have room:(o.length+1) * 8≤lim:=by simp only [lim];omega
 replace hd:d.length≤j:=hd
 replace hin2:∀ x∈d,inM x:=hin2
 have hd1:d.length≤1000:=by omega
 have room3:(d.length+1) * 8≤lim:=by simp only [lim];omega
 have hin3:j < (ins.getD 0 []).length→∀ x∈d++[(ins.getD 0 []).getD j 0],inM x:=fun h x hx=>by
  rcases List.mem_append.1 hx with h1 | h1
  ·exact hin2 x h1
  ·rw [List.mem_singleton.1 h1]
   exact Al8 han h
 refine (aI (fun m0=>(aI (by first | exact room | exact room3 | exact hd1 | (intros;(try subst_vars);(try simp only [nB] at *);(try simp only [inK,big,lim,nL] at *);omega)) (aF (aI (by first | exact room | exact room3 | exact hd1 | (intros;(try subst_vars);(try simp only [nB] at *);(try simp only [inK,big,lim,nL] at *);omega)) (aI (by first | exact room | exact room3 | exact hd1 | (intros;(try subst_vars);(try simp only [nB] at *);(try simp only [inK,big,lim,nL] at *);omega)) (aF (fun m1=>(aI (fun m2=>(aI tT ?_)) (fun m2=>(aI (by first | exact room | exact room3 | exact hd1 | (intros;(try subst_vars);(try simp only [nB] at *);(try simp only [inK,big,lim,nL] at *);omega)) ?_)))))))))) (fun m0=>(aF (fun m3=>(aI (fun m4=>(aI tT ?_)) (fun m4=>(aI (fun m5=>(aF (Aa rfl ?_))) (fun m5=>(aI tT (aI (fun m6=>(Aa rfl ?_)) (fun m6=>(Aa rfl ?_))))))))))))
 ·have hj':j < (ins.getD 0 []).length:=by simpa using m0
  have hbs:De z (d,o,f) ((ins.getD 0 []).getD j 0)=G2 (d++[((ins.getD 0 []).getD j 0)],o,f):=by
   dsimp only [De]
   rw [if_pos (show decide (((d++[((ins.getD 0 []).getD j 0)]).length:Int)=z)=true from m2)]
  refine eI [.ptr 0 0] (eI [bat z ek eo em ev ea l (.own 3) f,.cells [.own 2],.rows tI o,.rows tI (d++[((ins.getD 0 []).getD j 0)])] (eI (.tup []) (eI [bat z ek eo em ev ea l .cap0 (G2 ((d++[((ins.getD 0 []).getD j 0)]),o,f)).2.2,.cells [.own 4],.dead,.rows tI (d++[((ins.getD 0 []).getD j 0)]),.rows tI (G2 ((d++[((ins.getD 0 []).getD j 0)]),o,f)).2.1] (eI [some 6,some 5,some 8,some 12]
   ⟨⟨z,ek,eo,em,ev,ea,l,(d++[((ins.getD 0 []).getD j 0)]),o,f,by simp;omega,hin3 hj',by omega,rfl,rfl,rfl,rfl,rfl⟩,⟨by rfl,by rfl,⟨⟨by rfl,by rfl⟩,⟨by rfl,by rfl⟩,by rfl,by rfl,trivial⟩,by rfl⟩,by rfl, ?_⟩))))
  have hlen:(G2 (d++[((ins.getD 0 []).getD j 0)],o,f)).2.1.length≤o.length+1:=Af7 _ _ _
  have hfst:(G2 (d++[((ins.getD 0 []).getD j 0)],o,f)).1=[]:=rfl
  obtain ⟨b,hb⟩ : ∃ b,G2 (d++[((ins.getD 0 []).getD j 0)],o,f)=b:=⟨_,rfl⟩
  rw [hb] at hbs hlen hfst
  rw [hb]
  obtain ⟨b1,b2,b3⟩:=b
  replace hfst:b1=[]:=hfst
  subst hfst
  dsimp only [bat,Ep,Ce,D5,Cx,Ev,Bo,Am,G8,List.length_cons,List.length_nil,List.cons_append,List.nil_append,Nat.reduceAdd,Nat.reduceSub]
  refine (aO ?_)
  refine eI ((j+1,[],b2,b3)) (eI ([some 0,some 1,some 2,some 3,some 4,some 5,some 6,some 7,some 13,none]) (aI ?_ (aI ?_ (aB (aI (aI (aA (by rfl)) (aI (aA (by rfl)) (aI (aA (by rfl)) (aI (aA (by rfl)) (aI (aA (by rfl)) (aI (aA (by rfl)) (aI (aA (by rfl)) (aI (aA (by rfl)) (aB tT))))))))) (by rfl))))))
  ·refine ⟨hj', ?_,by show b2.length≤j+1;have h:b2.length≤o.length+1:=hlen;omega,Nat.zero_le _,fun x h=>by simp at h⟩
   show _=((ins.getD 0 []).take (j+1)).foldl _ _
   rw [hnx hj',hbs]
  ·show (ins.getD 0 []).length - (j+1) < (ins.getD 0 []).length - j
   omega
 ·have hj':j < (ins.getD 0 []).length:=by simpa using m0
  have hbs:De z (d,o,f) ((ins.getD 0 []).getD j 0)=(d++[((ins.getD 0 []).getD j 0)],o,f):=by
   dsimp only [De]
   rw [if_neg (by rw [show decide (((d++[((ins.getD 0 []).getD j 0)]).length:Int)=z)=false from m2];simp)]
  refine eI ((j+1,d++[((ins.getD 0 []).getD j 0)],o,f)) (eI ([some 0,some 1,some 2,some 3,some 4,some 5,some 6,some 7,some 8,some 12]) (aI ?_ (aI ?_ (aB (aI (aI (aA (by rfl)) (aI (aA (by rfl)) (aI (aA (by rfl)) (aI (aA (by rfl)) (aI (aA (by rfl)) (aI (aA (by rfl)) (aI (aA (by rfl)) (aI (aA (by rfl)) (aB tT))))))))) (by rfl))))))
  ·refine ⟨hj', ?_,by show o.length≤j+1;omega,by show (d++[_]).length≤j+1;simp;omega,hin3 hj'⟩
   show _=((ins.getD 0 []).take (j+1)).foldl _ _
   rw [hnx hj',hbs]
  ·show (ins.getD 0 []).length - (j+1) < (ins.getD 0 []).length - j
   omega
 ·have hbr:Ds (d,o,f)=G2 (d,o,f):=by
   dsimp only [Ds]
   rw [if_pos (show decide (0 < (d.length:Int))=true from m4)]
  refine eI [.ptr 0 0] (eI [bat z ek eo em ev ea l (.own 3) f,.cells [.own 2],.rows tI o,.rows tI d] (eI (.tup []) (eI [bat z ek eo em ev ea l .cap0 (G2 (d,o,f)).2.2,.cells [.own 4],.dead,.rows tI d,.rows tI (G2 (d,o,f)).2.1] (eI [some 6,some 5,some 8,some 9]
   ⟨⟨z,ek,eo,em,ev,ea,l,d,o,f,hd1,hin2,by omega,rfl,rfl,rfl,rfl,rfl⟩,⟨by rfl,by rfl,⟨⟨by rfl,by rfl⟩,⟨by rfl,by rfl⟩,by rfl,by rfl,trivial⟩,by rfl⟩,by rfl, ?_⟩))))
  obtain ⟨b,hb⟩ : ∃ b,G2 (d,o,f)=b:=⟨_,rfl⟩
  rw [hb] at hbr
  rw [hb]
  obtain ⟨b1,b2,b3⟩:=b
  dsimp only [bat,Ep,Ce,D5,Cx,Ev,Bo,Am,G8,List.length_cons,List.length_nil,List.cons_append,List.nil_append,Nat.reduceAdd,Nat.reduceSub]
  have run:Ch (4,z,ExprT.mk ek eo em ev ea,l) ins=([b2],b3):=by
   show ([(Ds ((ins.getD 0 []).foldl (De z) ([],[],0))).2.1],(Ds ((ins.getD 0 []).foldl (De z) ([],[],0))).2.2)=_
   rw [hen m0,hbr]
  refine (aI (fun w0=>(aF (Aa rfl ?_))) (fun w0=>(aI tT (aI (fun w1=>(Aa rfl ?_)) (fun w1=>(Aa rfl ?_))))))
  ·exact (Add (by assumption) (by assumption) hs0 (by rw [run];exact w0)).trans (by rw [run])
  ·exact Su (by assumption) (by assumption) hs0 (by rw [run];exact w0) (by rw [run];exact w1)
  ·exact (R9 (by assumption) (by assumption) hs0 (by rw [run];exact w0) (by rw [run];exact w1)).trans (by rw [run])
 ·skip
  have run:Ch (4,z,ExprT.mk ek eo em ev ea,l) ins=([o],f):=by
   show ([(Ds ((ins.getD 0 []).foldl (De z) ([],[],0))).2.1],(Ds ((ins.getD 0 []).foldl (De z) ([],[],0))).2.2)=_
   have hbr:Ds (d,o,f)=(d,o,f):=by
    dsimp only [Ds]
    rw [if_neg (by rw [show decide (0 < (d.length:Int))=false from m4];simp)]
   rw [hen m0,hbr]
  exact (Add (by assumption) (by assumption) hs0 (by rw [run];exact m5)).trans (by rw [run])
 ·skip
  have run:Ch (4,z,ExprT.mk ek eo em ev ea,l) ins=([o],f):=by
   show ([(Ds ((ins.getD 0 []).foldl (De z) ([],[],0))).2.1],(Ds ((ins.getD 0 []).foldl (De z) ([],[],0))).2.2)=_
   have hbr:Ds (d,o,f)=(d,o,f):=by
    dsimp only [Ds]
    rw [if_neg (by rw [show decide (0 < (d.length:Int))=false from m4];simp)]
   rw [hen m0,hbr]
  exact Su (by assumption) (by assumption) hs0 (by rw [run];exact m5) (by rw [run];exact m6)
 ·skip
  have run:Ch (4,z,ExprT.mk ek eo em ev ea,l) ins=([o],f):=by
   show ([(Ds ((ins.getD 0 []).foldl (De z) ([],[],0))).2.1],(Ds ((ins.getD 0 []).foldl (De z) ([],[],0))).2.2)=_
   have hbr:Ds (d,o,f)=(d,o,f):=by
    dsimp only [Ds]
    rw [if_neg (by rw [show decide (0 < (d.length:Int))=false from m4];simp)]
   rw [hen m0,hbr]
  exact (R9 (by assumption) (by assumption) hs0 (by rw [run];exact m5) (by rw [run];exact m6)).trans (by rw [run])
def c13:Ctr:=fnC [dSt,Za] T4 (fun _=>True) (fun y=>((Az y.1 y.2.1).1,(Az y.1 y.2.1).2,()))
theorem Ajn (z ek eo:Int) (em:ByteArray) (ev:Int) (ea:List ExprT) (l:List Int) (ins:List (List Int)) (k:Int) (hk:1≤k∧k≤10) (hn:(ins.length:Int)≠(Ao k).1) :
 A6 cxM Tryz.prog (A6 cxM Tryz.prog noS) 93 (F7 [dSt,Za] ((k,z,ExprT.mk ek eo em ev ea,l),ins,())) [] 0 (G0 ⟨none,none,[],Eu T4 ((Az (k,z,ExprT.mk ek eo em ev ea,l) ins).1,(Az (k,z,ExprT.mk ek eo em ev ea,l) ins).2,())⟩):=by
 have ab:∀ n:Int,(Ao k).1=n→(!decide ((ins.length:Int)=n))=false→False:=fun n h h'=>hn (by rw [h];simpa using h')
 have h:=Ie hk
 clear hk hn
 rcases h with rfl | rfl | rfl | rfl | rfl | rfl | rfl | rfl | rfl | rfl
 ·refine (aF (aI tT (aI (fun h0=>(Aa rfl (by first | exact Df (by assumption) | exact Dl (by assumption) (by assumption)))) (fun h0=>(aA (fun h1=>(aI (fun h2=>(Aa rfl (by first | exact Df (by assumption) | exact Dl (by assumption) (by assumption)))) (fun h2=>(fun h3=>?_)))))))))
  exact (ab _ rfl h2).elim
 ·refine (aF (aI tT (aI (fun h0=>(Aa rfl (by first | exact Df (by assumption) | exact Dl (by assumption) (by assumption)))) (fun h0=>(aA (fun h1=>(aI (fun h2=>(Aa rfl (by first | exact Df (by assumption) | exact Dl (by assumption) (by assumption)))) (fun h2=>(fun h3=>?_)))))))))
  exact (ab _ rfl h2).elim
 ·refine (aF (aI tT (aI (fun h0=>(Aa rfl (by first | exact Df (by assumption) | exact Dl (by assumption) (by assumption)))) (fun h0=>(aA (fun h1=>(aI (fun h2=>(Aa rfl (by first | exact Df (by assumption) | exact Dl (by assumption) (by assumption)))) (fun h2=>(fun h3=>?_)))))))))
  exact (ab _ rfl h2).elim
 ·refine (aF (aI tT (aI (fun h0=>(Aa rfl (by first | exact Df (by assumption) | exact Dl (by assumption) (by assumption)))) (fun h0=>(aA (fun h1=>(aI (fun h2=>(Aa rfl (by first | exact Df (by assumption) | exact Dl (by assumption) (by assumption)))) (fun h2=>(fun h3=>?_)))))))))
  exact (ab _ rfl h2).elim
 ·refine (aF (aI tT (aI (fun h0=>(Aa rfl (by first | exact Df (by assumption) | exact Dl (by assumption) (by assumption)))) (fun h0=>(aA (fun h1=>(aI (fun h2=>(Aa rfl (by first | exact Df (by assumption) | exact Dl (by assumption) (by assumption)))) (fun h2=>(fun h3=>?_)))))))))
  exact (ab _ rfl h2).elim
 ·refine (aF (aI tT (aI (fun h0=>(Aa rfl (by first | exact Df (by assumption) | exact Dl (by assumption) (by assumption)))) (fun h0=>(aA (fun h1=>(aI (fun h2=>(Aa rfl (by first | exact Df (by assumption) | exact Dl (by assumption) (by assumption)))) (fun h2=>(fun h3=>?_)))))))))
  exact (ab _ rfl h2).elim
 ·refine (aF (aI tT (aI (fun h0=>(Aa rfl (by first | exact Df (by assumption) | exact Dl (by assumption) (by assumption)))) (fun h0=>(aA (fun h1=>(aI (fun h2=>(Aa rfl (by first | exact Df (by assumption) | exact Dl (by assumption) (by assumption)))) (fun h2=>(fun h3=>?_)))))))))
  exact (ab _ rfl h2).elim
 ·refine (aF (aI tT (aI (fun h0=>(Aa rfl (by first | exact Df (by assumption) | exact Dl (by assumption) (by assumption)))) (fun h0=>(aA (fun h1=>(aI (fun h2=>(Aa rfl (by first | exact Df (by assumption) | exact Dl (by assumption) (by assumption)))) (fun h2=>(fun h3=>?_)))))))))
  exact (ab _ rfl h2).elim
 ·refine (aF (aI tT (aI (fun h0=>(Aa rfl (by first | exact Df (by assumption) | exact Dl (by assumption) (by assumption)))) (fun h0=>(aA (fun h1=>(aI (fun h2=>(Aa rfl (by first | exact Df (by assumption) | exact Dl (by assumption) (by assumption)))) (fun h2=>(fun h3=>?_)))))))))
  exact (ab _ rfl h2).elim
 ·refine (aF (aI tT (aI (fun h0=>(Aa rfl (by first | exact Df (by assumption) | exact Dl (by assumption) (by assumption)))) (fun h0=>(aA (fun h1=>(aI (fun h2=>(Aa rfl (by first | exact Df (by assumption) | exact Dl (by assumption) (by assumption)))) (fun h2=>(fun h3=>?_)))))))))
  exact (ab _ rfl h2).elim
theorem Al9:GoodC Tryz.prog 93 c13:=by
 refine T2 _ _ _ _ ⟨_,Tryz.func93,rfl,rfl⟩ fun (⟨⟨k,z,⟨ek,eo,em,ev,ea⟩,l⟩,ins,_⟩ : StT × List (List Int) × Unit) _=>?_
 by_cases hc:An (k,z,ExprT.mk ek eo em ev ea,l)=0
 ·have hk:=Cu hc
  by_cases hn:(ins.length:Int)=(Ao k).1
  ·have h:=Ie hk
   clear hk
   rcases h with rfl | rfl | rfl | rfl | rfl | rfl | rfl | rfl | rfl | rfl
   ·exact Af8 z _ l ins hc hn
   ·exact Af9 z _ l ins hc hn
   ·exact Aga z _ l ins hc hn
   ·exact Agi z _ l ins hc hn
   ·exact Agb z _ l ins hc hn
   ·exact Agc z _ l ins hc hn
   ·exact Agf z _ l ins hc hn
   ·exact Agd z _ l ins hc hn
   ·exact Agg z _ l ins hc hn
   ·exact Adf z _ l ins hc hn
  ·exact ⟨_,Af B8 (Af B8 Bf),Ajn z ek eo em ev ea l ins k hk hn⟩
 ·refine ⟨_,Af Gj Bf, ?_⟩
  have ab:(!decide (An (k,z,ExprT.mk ek eo em ev ea,l)=0))=false→False:=fun h=>hc (by simpa using h)
  refine (aF (aI tT (aI (fun h0=>(Aa rfl (by exact Df (by assumption)))) (fun h0=>?_))))
  exact (ab h0).elim
end Go.Proofs.YtckpldpombdkgaaGreat
