/- Pipelines. -/
import Derived.Test.YtckpldpombdkgaaGreatCH
set_option linter.unusedSimpArgs false
set_option linter.unusedVariables false
set_option maxRecDepth 100000
namespace Go.Proofs.YtckpldpombdkgaaGreat
open Go.Sx
def cxlC:Ctx:=⟨O7,[(13,([],cGr)),(14,([],cAwake)),(29,([],cBufd)),(30,([],cVal))]⟩
theorem Aee:Ah Tryz.prog cxlC:=C7 (Ae gGr (Ae Am4 (Ae An5 (Ae Aj0 Ag))))
set_option maxHeartbeats 8000000 in
theorem Ap6:Akk Tryz.prog 9 [tPl,tFs] [true,true]:=by
 refine ⟨cxlC,3,Aee,fun (⟨⟨st,ps⟩,⟨ss,cs,os,dr⟩,_⟩ : PlT × FsT × Unit) fine=>?_⟩
 refine (aF (aI tT (aI (fun h0=>(aI tT (Aa rfl ?_))) (fun h0=>(aI tT (aI (fun h1=>(aI (fun h2=>tT) (aI (fun h3=>tT) (Aa rfl ?_)))) (fun h1=>(fun h4=>?_))))))))
 ·rfl
 ·have hv:Cv (st,ps) (ss,cs,os,dr)≠0:=fun h=>by
   have h1:(!decide ((Mu (st,ps) (ss,cs,os,dr)).2=0))=true:=h1
   rw [show Mu (st,ps) (ss,cs,os,dr)=((ss,cs,os,dr).2.1.foldl (fun n c=>n+(c.2.2.2.2.1.length:Int)) 0,0) from if_neg (fun h'=>h' h)] at h1
   cases h1
  show (true,())=(bif (bif (bif decide ((Mu (st,ps) (ss,cs,os,dr)).1=0) then decide ((Mu (st,ps) (ss,cs,os,dr)).2=1) else false) then !decide (Cv (st,ps) (ss,cs,os,dr)=0) else false) then true else false,())
  rw [show Mu (st,ps) (ss,cs,os,dr)=(0,1) from if_pos hv,decide_eq_false hv];rfl
 have hz:Cv (st,ps) (ss,cs,os,dr)=0:=Classical.byContradiction fun hv=>by
  have h1:(!decide ((Mu (st,ps) (ss,cs,os,dr)).2=0))=false:=h1
  rw [show Mu (st,ps) (ss,cs,os,dr)=(0,1) from if_pos hv] at h1
  cases h1
 have hB:(Mu (st,ps) (ss,cs,os,dr)).1=cs.foldl (fun n c=>n+(c.2.2.1 - c.2.2.2.1)) 0:=by
  rw [show Mu (st,ps) (ss,cs,os,dr)=(cs.foldl (fun n c=>n+(c.2.2.2.2.1.length:Int)) 0,0) from if_neg (fun h'=>h' hz)]
  exact Ajv hz
 obtain ⟨w,v⟩:=Cg.1 hz
 have hC:∀ i < cs.length,0≤(cs.getD i A9).2.2.2.1∧(cs.getD i A9).2.2.2.1≤(cs.getD i A9).2.2.1∧(cs.getD i A9).2.2.1≤1099511627776∧(cs.getD i A9).2.2.1 - (cs.getD i A9).2.2.2.1≤100:=fun i hi=>by
  have hlc:cs.length=ps.length:=v.lc
  have hb:=(Fm.1 (v.cr i (show i < ps.length by omega))).1
  obtain ⟨a1,a2,a3,a4,a5,a6,a7,-⟩:=Dh (c:=cs.getD i A9) hb
  omega
 have hcl:cs.length≤32:=by
  have hlc:cs.length=ps.length:=v.lc
  have:ps.length≤32:=w.p32
  omega
 clear h0 h1
 refine ex4 _ (fun p:Nat × Int=>⟨[.any,.any,.any,.ptr 1 0,.any,.int .i64 (Mu (st,ps) (ss,cs,os,dr)).1,.any,.int .i64 p.2,.any,.any,.any,.any,.any,.any,.any,.any,.any,.any,.any,.any,.any,.any,.any,.any,.any,.any,.any,.any,.any,.any,.any,.any,.any,.any,.any,.any,.any,.ptr 1 1,.sl A8 cs,.int .i64 (↑cs.length:Int),.int .i64 (p.1:Int)]++nA 17,[.cells [.sl tSt st,.sl A3 ps],.cells [.sl tSS ss,.sl A8 cs,.sl (.sl (.int .i64)) os,.bool dr]],2⟩) (fun p=>p.1≤cs.length∧p.2=(cs.take p.1).foldl (fun n c=>n+(c.2.2.1 - c.2.2.2.1)) 0∧0≤p.2∧p.2≤100 * (p.1:Int)) (fun p=>cs.length - p.1) (aI (eI ((0,0)) (eI ([some 0,some 1]) (aI ?_ (aB (aI (aI (aA (by rfl)) (aI (aA (by rfl)) tT)) (by rfl)))))) ?_)
 ·exact ⟨Nat.zero_le _,rfl,Int.le_refl 0,Int.le_refl 0⟩
 rintro ⟨i,z⟩ ⟨hi,hz2,hz3,hz4⟩
 replace hi:i≤cs.length:=hi
 replace hz2:z=(cs.take i).foldl (fun n c=>n+(c.2.2.1 - c.2.2.2.1)) 0:=hz2
 replace hz3:0≤z:=hz3
 replace hz4:z≤100 * (i:Int):=hz4
 have hlt:decide ((i:Int) < (cs.length:Int))=true→i < cs.length∧(0≤(cs.getD (i:Int).toNat (Ab A8)).2.2.2.1∧(cs.getD (i:Int).toNat (Ab A8)).2.2.2.1≤(cs.getD (i:Int).toNat (Ab A8)).2.2.1∧(cs.getD (i:Int).toNat (Ab A8)).2.2.1≤1099511627776∧(cs.getD (i:Int).toNat (Ab A8)).2.2.1 - (cs.getD (i:Int).toNat (Ab A8)).2.2.2.1≤100) ∧
  (cs.take (i+1)).foldl (fun n c=>n+(c.2.2.1 - c.2.2.2.1)) 0=z+((cs.getD (i:Int).toNat (Ab A8)).2.2.1 - (cs.getD (i:Int).toNat (Ab A8)).2.2.2.1):=fun h=>by
  have h1:i < cs.length:=by have:=of_decide_eq_true h;omega
  refine ⟨h1,hC i h1, ?_⟩
  rw [List.take_succ_eq_append_getElem h1,List.foldl_append,← hz2,Int.toNat_natCast,Bt h1];rfl
 refine (aI (fun k0=>(aO (aO (aO (aO ?_))))) (fun k0=>(aI (fun k1=>tT) (Aa rfl ?_))))
 ·obtain ⟨h1,h2,h3⟩:=hlt k0
  clear k0 hlt
  refine eI ((i+1,z+((cs.getD (i:Int).toNat (Ab A8)).2.2.1 - (cs.getD (i:Int).toNat (Ab A8)).2.2.2.1))) (eI ([some 0,some 1]) (aI ?_ (aI ?_ (aB (aI (aI (aA (by rfl)) (aI (aA (by rfl)) tT)) (by rfl))))))
  ·refine ⟨h1,h3.symm, ?_, ?_⟩
   ·show 0≤z+((cs.getD (i:Int).toNat (Ab A8)).2.2.1 - (cs.getD (i:Int).toNat (Ab A8)).2.2.2.1)
    omega
   ·show z+((cs.getD (i:Int).toNat (Ab A8)).2.2.1 - (cs.getD (i:Int).toNat (Ab A8)).2.2.2.1)≤100 * ((i+1:Nat):Int)
    omega
  ·show cs.length - (i+1) < cs.length - i
   omega
 ·have h1:¬ (i:Int) < (cs.length:Int):=of_decide_eq_false k0
  rw [List.take_of_length_le (by omega)] at hz2
  show (true,())=(bif decide ((Mu (st,ps) (ss,cs,os,dr)).1=z) then true else false,())
  rw [hB,← hz2,decide_eq_true rfl];rfl
end Go.Proofs.YtckpldpombdkgaaGreat
