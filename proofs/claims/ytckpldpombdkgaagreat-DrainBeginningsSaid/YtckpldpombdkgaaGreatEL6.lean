/- Pipelines. -/
import Derived.Test.YtckpldpombdkgaaGreatEL5
set_option linter.unusedSimpArgs false
set_option linter.unusedVariables false
set_option maxRecDepth 100000
namespace Go.Proofs.YtckpldpombdkgaaGreat
open Go.Sx
def P6(a b:List (List Int)):Bool:=decide (a.length=b.length)&&(List.range a.length).all λi=>decide ((a.getD i []).length<=(b.getD i []).length)&&decide (a.getD i []=(b.getD i []).take (a.getD i []).length)
def cxhK:Ctx:=⟨Xg,[(20,([],cEq))]⟩
theorem Aiz:Aj Tryz.prog cxhK:=C0 (Ad gEq Ah)
def cBg:Ctr:=fnC [X8,X8] rB (λ_=>True) (λy=>(P6 y.1 y.2.1,()))
theorem Aue{a b:List Int}(h:(bif decide ((b.length:Int)<(a.length:Int))then true else !decide (a=b.take a.length))=true):(decide (a.length<=b.length)&&decide (a=b.take a.length))=false:=by
 by_cases h1:(b.length:Int)<(a.length:Int)
 ·rw[aZ (show ¬a.length<=b.length by omega)];rfl
 ·rw[aZ h1]at h;have h2:(!decide (a=b.take a.length))=true:=h;rw[bK]at h2;rw[h2,Bool.and_false]
theorem Auf{a b:List Int}(h:(bif decide ((b.length:Int)<(a.length:Int))then true else !decide (a=b.take a.length))=false):(decide (a.length<=b.length)&&decide (a=b.take a.length))=true:=by
 by_cases h1:(b.length:Int)<(a.length:Int)
 ·rw[aW h1]at h;cases h
 ·rw[aZ h1]at h;have h2:decide (a=b.take a.length)=true:=Bw h;rw[h2,aW (show a.length<=b.length by omega)];rfl
set_option maxHeartbeats 4000000 in
theorem gBg:GoodC Tryz.prog 24 cBg:=by
 refine As Aiz 3 _ _ _ _ ⟨_,Tryz.func24,rfl,rfl⟩ λ(⟨xs,ys,_⟩:List (List Int)×List (List Int)×Unit) _=>?_
 refine(aF (λh0=>(λh1=>(aI (λh2=>(Aa rfl ?_)) (λh2=>(λh3=>?_))))))
 ·have h:(!decide ((xs.length:Int)=(ys.length:Int)))=true:=h2;have hl:¬xs.length=ys.length:=λe=>by rw[e]at h;simp at h
  show(P6 xs ys,())=_;unfold P6;rw[aZ hl];rfl
 have hl:xs.length=ys.length:=by
  have h:(!decide ((xs.length:Int)=(ys.length:Int)))=false:=h2;exact Int.ofNat_inj.1 (aM (Bw h))
 have hB:P6 xs ys=(List.range xs.length).all (λi=>decide ((xs.getD i []).length<=(ys.getD i []).length)&&decide (xs.getD i []=(ys.getD i []).take (xs.getD i []).length)):=by
  unfold P6;rw[aW hl,eX]
 clear h0 h1 h2;refine ex4 _ (λi:Nat=>⟨[.sl (.sl (.int .i64)) xs,.sl (.sl (.int .i64)) ys,.any,.any,.any,.any,.any,.any,.any,.any,.any,.sl (.sl (.int .i64)) xs,.int .i64 (↑xs.length:Int),.int .i64 (i:Int)]++nA 32,[],0⟩) (λi=>i<=xs.length/\(List.range i).all (λi=>decide ((xs.getD i []).length<=(ys.getD i []).length)&&decide (xs.getD i []=(ys.getD i []).take (xs.getD i []).length))=true) (λi=>xs.length-i) (aI (eI (0) (eI ([]) (aI ?_ (aB (aI tT (by rfl)))))) ?_)
 ·exact⟨aV _,rfl⟩
 rintro i ⟨hi,ht⟩;replace hi:i<=xs.length:=hi;replace ht:(List.range i).all (λi=>decide ((xs.getD i []).length<=(ys.getD i []).length)&&decide (xs.getD i []=(ys.getD i []).take (xs.getD i []).length))=true:=ht;have hlt:decide ((i:Int)<(xs.length:Int))=true->i<xs.length:=λh=>by have:=aM h;omega
 refine(aI (λk0=>(aF (aO (aO (aI (λk1 k2 k3=>(by intros;(try subst_vars);(try simp only[nB]at *);(try simp only[inK,big,lim,nL]at *);omega)) (aI (λk4 k5 k6=>(by intros;(try subst_vars);(try simp only[nB]at *);(try simp only[inK,big,lim,nL]at *);omega)) (aI (λk7 k8 k9=>(by intros;(try subst_vars);(try simp only[nB]at *);(try simp only[inK,big,lim,nL]at *);omega)) (aI (λk10 k11 k12 k13=>(by intros;(try subst_vars);(try simp only[nB]at *);(try simp only[inK,big,lim,nL]at *);omega)) (aI (λk14 k15 k16 k17=>tT) (λk18=>(λk19=>(λk20=>(aI (λk21=>(Aa rfl ?_)) (λk21=>(aO ?_))))))))))))))) (λk0=>(Aa rfl ?_)))
 ·have h1:=Aue (show(bif decide (((ys.getD i []).length:Int)<((xs.getD i []).length:Int))then true else !decide (xs.getD i []=(ys.getD i []).take (xs.getD i []).length))=true from k21);refine bG (λb=>(b,())) (hB.trans (List.all_eq_false.2 ⟨i,cZ.2 (hlt k0), ?_⟩));rw[h1];decide
 ·have h0:=hlt k0;have h1:=Auf (show(bif decide (((ys.getD i []).length:Int)<((xs.getD i []).length:Int))then true else !decide (xs.getD i []=(ys.getD i []).take (xs.getD i []).length))=false from k21);clear k0 k18 k19 k20 k21;refine eI (i+1) (eI ([]) (aI ?_ (aI ?_ (aB (aI tT (by rfl))))))
  ·refine⟨h0, ?_⟩;show(List.range (i+1)).all _=true;rw[dA,List.all_append,ht,eX];simp only[List.all_cons,List.all_nil,Bool.and_true];exact h1
  ·show xs.length-(i+1)<xs.length-i;omega
 ·have h1:¬(i:Int)<(xs.length:Int):=aP k0;refine bG (λb=>(b,())) (hB.trans ?_);rw[show xs.length=i by omega];exact ht
theorem Vg{a b:List (List Int)}(h:a.length=b.length)(h1:∀j<a.length,a.getD j [] <+: b.getD j []):P6 a b=true:=by
 unfold P6;rw[aW h,eX,bT];intro j hj;have hp:=h1 j (cZ.1 hj);rw[aR];exact⟨aW hp.length_le,aW (List.prefix_iff_eq_take.1 hp)⟩
theorem Ai0{x:PlT}{l:List Int}{m:Int}(h:(Af x l m).2.2=true):P6 (Af x l m).1.2.2.1 (Af x l m).2.1=true:=by
 obtain⟨h12,hw,S,J,r,T,O,w⟩:=Q8 h;rw[hw,w.out];exact Vg (Kv w.v).symm λj hj=>Asf w.n w.v hj
def cxlKc:Ctx:=⟨Xg,[(21,([],cReach)),(14,([],cAwake)),(24,([],cBg))]⟩
theorem Ad7:Aj Tryz.prog cxlKc:=C0 (Ad Za (Ad Yz (Ad gBg Ah)))
set_option maxHeartbeats 8000000 in
theorem Avz:Wk Tryz.prog 6 [tPl,tIs,.int .u8] [true,false,false]:=by
 refine⟨cxlKc,3,Ad7,λ(⟨⟨st,ps⟩,l,m,_⟩:PlT×List Int×Int×Unit) fine=>?_⟩;have fm:0<=m/\m<=255:=fine.2.2.1;have hD:(Af (st,ps) l m).2.2=true->P6 (Af (st,ps) l m).1.2.2.1 (Af (st,ps) l m).2.1=true:=λh=>Ai0 h
 refine(aF (aO (aI tT (λ(h0:(List (List Int×Int×Bool)×List (Int×Int×Int×Int×List Int×Bool)×List (List Int)×Bool) ×   List (List Int)×Bool×PUnit)=>(λh1=>(aI (λh2=>tT) (aI (λh3=>tT) (Aa rfl ?_))))))))
 ·subst h1;show((true,()):Bool×Unit)=(bif bif !(Af (st,ps) l m).2.2 then true else P6 (Af (st,ps) l m).1.2.2.1 (Af (st,ps) l m).2.1 then true else false,());cases hb:(Af (st,ps) l m).2.2
  ·rfl
  ·rw[hD hb];rfl
end Go.Proofs.YtckpldpombdkgaaGreat
