/- Pipelines. -/
import Derived.Test.YtckpldpombdkgaaGreatCZ8
import Derived.Test.YtckpldpombdkgaaGreatCZ6
set_option linter.unusedSimpArgs false
set_option linter.unusedVariables false
set_option maxRecDepth 100000
namespace Go.Proofs.YtckpldpombdkgaaGreat
open Go.Sx
set_option maxHeartbeats 8000000 in
theorem Agw:Is 1:=by
 intro z e l hd c en i hc hv
 have hs:=A1 hc
 have hb:=Bi hv
 have nk:0≤i∨(1:Int)≠9:=.inr (by decide)
 obtain ⟨ek,eo,em,ev,ea⟩:=e
 refine ⟨_,Ei, ?_⟩
 refine (aF (aI tT (fun (h0:List Int × Int × PUnit)=>(fun h1=>(aI (fun h2=>(Aa rfl (by exact EL0 h1 h2))) (fun h2=>(aA (aI (fun h3=>(Aa rfl (by exact EL1 h1 h2 h3))) (fun h3=>(aI (fun h4=>(by omega)) (aI (fun h5=>(Aa rfl (by exact EL2 h1 h2 h3 h5))) (fun h5=>(aF (aA (aF (aE (aF (aI (fun h6=>nG h6) (fun h6=>(aK (aD (aD (aD (aB (aA (Aa rfl (by exact EL4 h1 h2 h3 h5 rfl (by assumption))))))))))))))))))))))))))))
set_option maxHeartbeats 8000000 in
theorem Agx:Is 2:=by
 intro z e l hd c en i hc hv
 have hs:=A1 hc
 have hb:=Bi hv
 have nk:0≤i∨(2:Int)≠9:=.inr (by decide)
 obtain ⟨ek,eo,em,ev,ea⟩:=e
 refine ⟨_,Ei, ?_⟩
 refine (aF (aI tT (fun (h0:List Int × Int × PUnit)=>(fun h1=>(aI (fun h2=>(Aa rfl (by exact EL0 h1 h2))) (fun h2=>(aA (aI (fun h3=>(Aa rfl (by exact EL1 h1 h2 h3))) (fun h3=>(aI (fun h4=>(by omega)) (aI (fun h5=>(Aa rfl (by exact EL2 h1 h2 h3 h5))) (fun h5=>(aF (aA (aF (aE (aF (aI (fun h6=>nG h6) (fun h6=>(aK (aD (aD (aD (aB (aA (Aa rfl (by exact EL4 h1 h2 h3 h5 rfl (by assumption))))))))))))))))))))))))))))
set_option maxHeartbeats 8000000 in
theorem Agy:Is 3:=by
 intro z e l hd c en i hc hv
 have hs:=A1 hc
 have hb:=Bi hv
 have nk:0≤i∨(3:Int)≠9:=.inr (by decide)
 obtain ⟨ek,eo,em,ev,ea⟩:=e
 refine ⟨_,Ei, ?_⟩
 refine (aF (aI tT (fun (h0:List Int × Int × PUnit)=>(fun h1=>(aI (fun h2=>(Aa rfl (by exact EL0 h1 h2))) (fun h2=>(aA (aI (fun h3=>(Aa rfl (by exact EL1 h1 h2 h3))) (fun h3=>(aI (fun h4=>(by omega)) (aI (fun h5=>(Aa rfl (by exact EL2 h1 h2 h3 h5))) (fun h5=>(aF (aA (aF (aE (aF (aI (fun h6=>nG h6) (fun h6=>(aK (aD (aD (aD (aB (aA (Aa rfl (by exact EL4 h1 h2 h3 h5 rfl (by assumption))))))))))))))))))))))))))))
set_option maxHeartbeats 8000000 in
theorem Agz:Is 4:=by
 intro z e l hd c en i hc hv
 have hs:=A1 hc
 have hb:=Bi hv
 have nk:0≤i∨(4:Int)≠9:=.inr (by decide)
 have hz:z≤200:=hs.2.1
 have hl0:(hd.length:Int)≤z - 1:=hb.2.2
 have hdl:hd.length≤1001:=by omega
 have hin:=Agl (Ay.1 hv).2.1
 replace hin:∀ x∈hd,inM x:=hin
 obtain ⟨ek,eo,em,ev,ea⟩:=e
 refine ⟨_,Ei, ?_⟩
 refine (aF (aI tT (fun (h0:List Int × Int × PUnit)=>(fun h1=>(aI (fun h2=>(Aa rfl (by exact EL0 h1 h2))) (fun h2=>(aA (aI (fun h3=>(Aa rfl (by exact EL1 h1 h2 h3))) (fun h3=>(aI (fun h4=>(by omega)) (aI (fun h5=>(Aa rfl (by exact EL2 h1 h2 h3 h5))) (fun h5=>(aF (aA (aF (aE (aF (fun h6=>(aI (fun h7=>(aF (fun h8=>?_))) (fun h7=>(aI (fun h9=>nG h9) (fun h9=>(aK (aD (aD (aD (aB (aA (Aa rfl (by exact EL4 h1 h2 h3 h5 (e4f h7) (by assumption)))))))))))))))))))))))))))))))
 refine ex4 _ (fun p:Nat × Int × Int=>⟨[.ptr 8 0,.any,.int .i64 p.2.1,.any,.any,.ptr 8 0,.ptr 8 0,.ptr 8 8,.ptr 8 8,.sl (.int .i64) hd,.int .i64 (↑hd.length:Int),.int .i64 (p.1:Int)]++nA 27,[.cells   [.int .i64 4,.int .i64 z,.int .i64 (ExprT.mk ek eo em ev ea).kind,     .int .i64 (ExprT.mk ek eo em ev ea).op,.str (ExprT.mk ek eo em ev ea).name,     .int .i64 (ExprT.mk ek eo em ev ea).value,.sl .expr (ExprT.mk ek eo em ev ea).args,     .sl (.int .i64) l],.cells [.sl (.int .i64) hd,.int .i64 c,.bool en],.cells [.cap0,.int .i64 0,.bool false],.cells   [.int .i64 1,.int .i64 1,.int .i64 1,.int .i64 100,.int .i64 0,     .sl .str [],.fn (Fn.func 207) [] [],.fn (Fn.func 208) [] []],.cells   [.int .i64 4,.int .i64 z,.int .i64 (ExprT.mk ek eo em ev ea).kind,     .int .i64 (ExprT.mk ek eo em ev ea).op,.str (ExprT.mk ek eo em ev ea).name,     .int .i64 (ExprT.mk ek eo em ev ea).value,.sl .expr (ExprT.mk ek eo em ev ea).args,     .sl (.int .i64) l],.cells [.sl (.int .i64) hd,.int .i64 c,.bool en],.cells   [.int .i64 1,.int .i64 1,.int .i64 1,.int .i64 100,.int .i64 0,     .sl .str [],.fn (Fn.func 207) [] [],.fn (Fn.func 208) [] []],.cells [.cap0],.cells [.int .i64 4,.int .i64 z,.int .i64 ek,.int .i64 eo,.str em,.int .i64 ev,.sl .expr ea,.sl tI l,.sl tI hd,.int .i64 c,.bool en,.csl tI 7 1,.int .i64 p.2.2,.int .i64 0]],9⟩) (fun p=>p.1≤(hd).length∧p.2=((hd).take p.1).foldl Ez (0,0)∧(-(1099511627776 * (p.1:Int))≤p.2.1∧p.2.1≤1099511627776 * (p.1:Int))) (fun p=>(hd).length - p.1) (aI (eI ((0,0,0)) (eI ([some 0,some 1,some 2,some 3,some 4,some 5,some 6,some 7,some 8]) (aI ?_ (aB (aI (aI (aA (by rfl)) (aI (aA (by rfl)) (aI (aA (by rfl)) (aI (aA (by rfl)) (aI (aA (by rfl)) (aI (aA (by rfl)) (aI (aA (by rfl)) (aI (aA (by rfl)) (aI (aA (by rfl)) tT))))))))) (by rfl)))))) ?_)
 ·exact ⟨Nat.zero_le _,rfl,by show -(1099511627776 * ((0:Nat):Int))≤0;decide,by show (0:Int)≤1099511627776 * ((0:Nat):Int);decide⟩
 rintro ⟨j,v,f⟩ ⟨hj,hp,hn⟩
 replace hj:j≤(hd).length:=hj
 replace hp:(v,f)=((hd).take j).foldl Ez (0,0):=hp
 replace hn:-(1099511627776 * (j:Int))≤v∧v≤1099511627776 * (j:Int):=hn
 have hx:-1099511627776≤(hd).getD j 0∧(hd).getD j 0≤1099511627776:=Zn hin j
 have hjl:j≤1001:=by omega
 have nr:inK .i64 (v+(hd).getD j 0):=by simp only [inK];omega
 have hb3:-(1099511627776 * ((j+1:Nat):Int))≤v+(hd).getD j 0∧v+(hd).getD j 0≤1099511627776 * ((j+1:Nat):Int):=by omega
 refine (aI (fun m0=>(aI (by (intros;(try subst_vars);(try simp only [nB] at *);(try simp only [inK,big,lim,nL] at *);omega)) (aI (nr) (aI tT (aI (fun m1=>(aI (by (intros;(try subst_vars);(try simp only [nB] at *);(try simp only [inK,big,lim,nL] at *);omega)) ?_)) (fun m1=>(aI (by (intros;(try subst_vars);(try simp only [nB] at *);(try simp only [inK,big,lim,nL] at *);omega)) ?_))))))) (fun m0=>(aF (aI (fun m2=>(aK (aE (aD (aB (aE (aD (aC (aA (aE (aB (aI (by (intros;(try subst_vars);(try simp only [nB] at *);(try simp only [inK,big,lim,nL] at *);omega)) (aE (aE (aC (aB (aI (fun m3=>(aK (aD (aD (aC (Aa rfl (by exact (nbT m2 m3).elim))))))) (fun m3=>(aK (aD (aD (aD (aB (aA (Aa rfl ?_))))))))))))))))))))))))) (fun m2=>(aI (fun m4=>(aK (aD (aD (aC (Aa rfl ?_)))))) (fun m4=>(aK (aD (aD (aD (aB (aA (Aa rfl (by exact (nbF m2 m4).elim)))))))))))))))
 ·have hj':j < (hd).length:=by have h:(j:Int) < ((hd).length:Int):=of_decide_eq_true m0;omega
  refine eI ((j+1,v+(hd).getD j 0,14)) (eI ([some 0,some 1,some 2,some 3,some 4,some 5,some 6,some 7,some 8]) (aI ?_ (aI ?_ (aB (aI (aI (aA (by rfl)) (aI (aA (by rfl)) (aI (aA (by rfl)) (aI (aA (by rfl)) (aI (aA (by rfl)) (aI (aA (by rfl)) (aI (aA (by rfl)) (aI (aA (by rfl)) (aI (aA (by rfl)) tT))))))))) (by rfl))))))
  ·refine ⟨hj', ?_,hb3⟩
   rw [Jd hj' hp]
   dsimp only [Ez]
   rw [if_pos (show (bif !Jx (v+(hd).getD j 0) then decide (f=0) else false)=true from m1)]
  ·show (hd).length - (j+1) < (hd).length - j
   omega
 ·have hj':j < (hd).length:=by have h:(j:Int) < ((hd).length:Int):=of_decide_eq_true m0;omega
  refine eI ((j+1,v+(hd).getD j 0,f)) (eI ([some 0,some 1,some 2,some 3,some 4,some 5,some 6,some 7,some 8]) (aI ?_ (aI ?_ (aB (aI (aI (aA (by rfl)) (aI (aA (by rfl)) (aI (aA (by rfl)) (aI (aA (by rfl)) (aI (aA (by rfl)) (aI (aA (by rfl)) (aI (aA (by rfl)) (aI (aA (by rfl)) (aI (aA (by rfl)) tT))))))))) (by rfl))))))
  ·refine ⟨hj', ?_,hb3⟩
   rw [Jd hj' hp]
   dsimp only [Ez]
   rw [if_neg (by rw [show (bif !Jx (v+(hd).getD j 0) then decide (f=0) else false)=false from m1];simp)]
  ·show (hd).length - (j+1) < (hd).length - j
   omega
 ·have hp2:(hd).foldl Ez (0,0)=(v,f):=by
   have h:¬ (j:Int) < ((hd).length:Int):=of_decide_eq_false m0
   rw [hp,List.take_of_length_le (by omega)]
  have h:decide (f=0)=true:=m2
  have hf:f=0:=of_decide_eq_true h
  subst hf
  exact EL4 h1 h2 h3 h5 (e4t h7 hp2) m3
 ·have hp2:(hd).foldl Ez (0,0)=(v,f):=by
   have h:¬ (j:Int) < ((hd).length:Int):=of_decide_eq_false m0
   rw [hp,List.take_of_length_le (by omega)]
  have h:decide (f=0)=false:=m2
  exact EL3 h1 h2 h3 h5 (by rw [e4t h7 hp2]) (by rw [h];rfl)
set_option maxHeartbeats 8000000 in
theorem Ag0:Is 5:=by
 intro z e l hd c en i hc hv
 have hs:=A1 hc
 have hb:=Bi hv
 have nk:0≤i∨(5:Int)≠9:=.inr (by decide)
 obtain ⟨ek,eo,em,ev,ea⟩:=e
 refine ⟨_,Ei, ?_⟩
 refine (aF (aI tT (fun (h0:List Int × Int × PUnit)=>(fun h1=>(aI (fun h2=>(Aa rfl (by exact EL0 h1 h2))) (fun h2=>(aA (aI (fun h3=>(Aa rfl (by exact EL1 h1 h2 h3))) (fun h3=>(aI (fun h4=>(by omega)) (aI (fun h5=>(Aa rfl (by exact EL2 h1 h2 h3 h5))) (fun h5=>(aF (aA (aF (aE (aF (aI (fun h6=>nG h6) (fun h6=>(aK (aD (aD (aD (aB (aA (Aa rfl (by exact EL4 h1 h2 h3 h5 rfl (by assumption))))))))))))))))))))))))))))
set_option maxHeartbeats 8000000 in
theorem Ag1:Is 6:=by
 intro z e l hd c en i hc hv
 have hs:=A1 hc
 have hb:=Bi hv
 have nk:0≤i∨(6:Int)≠9:=.inr (by decide)
 obtain ⟨ek,eo,em,ev,ea⟩:=e
 refine ⟨_,Ei, ?_⟩
 refine (aF (aI tT (fun (h0:List Int × Int × PUnit)=>(fun h1=>(aI (fun h2=>(Aa rfl (by exact EL0 h1 h2))) (fun h2=>(aA (aI (fun h3=>(Aa rfl (by exact EL1 h1 h2 h3))) (fun h3=>(aI (fun h4=>(by omega)) (aI (fun h5=>(Aa rfl (by exact EL2 h1 h2 h3 h5))) (fun h5=>(aF (aA (aF (aE (aF (aI (fun h6=>nG h6) (fun h6=>(aK (aD (aD (aD (aB (aA (Aa rfl (by exact EL4 h1 h2 h3 h5 rfl (by assumption))))))))))))))))))))))))))))
set_option maxHeartbeats 8000000 in
theorem Ag2:Is 7:=by
 intro z e l hd c en i hc hv
 have hs:=A1 hc
 have hb:=Bi hv
 have nk:0≤i∨(7:Int)≠9:=.inr (by decide)
 obtain ⟨ek,eo,em,ev,ea⟩:=e
 refine ⟨_,Ei, ?_⟩
 refine (aF (aI tT (fun (h0:List Int × Int × PUnit)=>(fun h1=>(aI (fun h2=>(Aa rfl (by exact EL0 h1 h2))) (fun h2=>(aA (aI (fun h3=>(Aa rfl (by exact EL1 h1 h2 h3))) (fun h3=>(aI (fun h4=>(by omega)) (aI (fun h5=>(Aa rfl (by exact EL2 h1 h2 h3 h5))) (fun h5=>(aF (aA (aF (aE (aF (aI (fun h6=>nG h6) (fun h6=>(aK (aD (aD (aD (aB (aA (Aa rfl (by exact EL4 h1 h2 h3 h5 rfl (by assumption))))))))))))))))))))))))))))
set_option maxHeartbeats 8000000 in
theorem Ag3:Is 8:=by
 intro z e l hd c en i hc hv
 have hs:=A1 hc
 have hb:=Bi hv
 have nk:0≤i∨(8:Int)≠9:=.inr (by decide)
 have hl0:(hd.length:Int)≤2:=hb.2.2
 have hl1:hd.length≤1000:=by omega
 have hsl:(hd++[i]).length≤1000000:=by simp;omega
 have room:(hd.length + [i].length) * 8≤lim:=by simp only [lim,List.length_cons,List.length_nil];omega
 obtain ⟨ek,eo,em,ev,ea⟩:=e
 refine ⟨_,Zr, ?_⟩
 refine (aF (aI tT (fun (h0:List Int × Int × PUnit)=>(fun h1=>(aI (fun h2=>(Aa rfl (by exact EL0 h1 h2))) (fun h2=>(aA (aI (fun h3=>(Aa rfl (by exact EL1 h1 h2 h3))) (fun h3=>(aI (fun h4=>(by omega)) (aI (fun h5=>(Aa rfl (by exact EL2 h1 h2 h3 h5))) (fun h5=>(aF (aA (aF (aE (aF (aI (by omega) (aI (by omega) (aA ?_))))))))))))))))))))
 refine .inr ⟨11,hd++[i],rfl,by rfl,hsl, ?_⟩
 refine (fun w0=>(aI (fun w1=>nG w1) (fun w1=>(aK (aD (aD (aD (aB (aA (Aa rfl (by exact EL4 h1 h2 h3 h5 rfl w1)))))))))))
set_option maxHeartbeats 8000000 in
theorem Ag4:Is 9:=by
 intro z e l hd c en i hc hv
 have hs:=A1 hc
 have hb:=Bi hv
 have i0:te1 (9,z,e,l) i=false→0≤i∧i < 2:=fun h=>Vq (by show (9:Int)≠1;decide) h
 obtain ⟨ek,eo,em,ev,ea⟩:=e
 refine ⟨_,Ei, ?_⟩
 refine (aF (aI tT (fun (h0:List Int × Int × PUnit)=>(fun h1=>(aI (fun h2=>(Aa rfl (by exact EL0 h1 h2))) (fun h2=>(aA (aI (fun h3=>(Aa rfl (by exact EL1 h1 h2 h3))) (fun h3=>(aI (fun h4=>(.inl (i0 h3).1)) (aI (fun h5=>(Aa rfl (by exact EL2 h1 h2 h3 h5))) (fun h5=>(aF (aA (aF (aE (aF (aF (aI ((i0 h3).1) (aI (fun h6=>(aI (fun h7=>nG h7) (fun h7=>(aK (aD (aD (aD (aB (aA (Aa rfl (by exact EL4 h1 h2 h3 h5 (e9t h6) h7))))))))))) (fun h6=>(aI (fun h8=>nG h8) (fun h8=>(aK (aD (aD (aD (aB (aA (Aa rfl (by exact EL4 h1 h2 h3 h5 (e9f h6) h8)))))))))))))))))))))))))))))))
set_option maxHeartbeats 8000000 in
theorem Adk:Is 10:=by
 intro z e l hd c en i hc hv
 have hs:=A1 hc
 have hb:=Bi hv
 have nk:0≤i∨(10:Int)≠9:=.inr (by decide)
 obtain ⟨ek,eo,em,ev,ea⟩:=e
 refine ⟨_,Ei, ?_⟩
 refine (aF (aI tT (fun (h0:List Int × Int × PUnit)=>(fun h1=>(aI (fun h2=>(Aa rfl (by exact EL0 h1 h2))) (fun h2=>(aA (aI (fun h3=>(Aa rfl (by exact EL1 h1 h2 h3))) (fun h3=>(aI (fun h4=>(by omega)) (aI (fun h5=>(Aa rfl (by exact EL2 h1 h2 h3 h5))) (fun h5=>(aF (aA (aF (aE (aF (aI (fun h6=>nG h6) (fun h6=>(aK (aD (aD (aD (aB (aA (Aa rfl (by exact EL4 h1 h2 h3 h5 rfl (by assumption))))))))))))))))))))))))))))
def c30:Ctr:=fnC [dSt,dSS,dI,dI] rTk (fun _=>True) (fun y=>Zo (C8 y.1 y.2.1 y.2.2.1 y.2.2.2.1))
def cxTz:Ctx:=⟨C5,[(97,([],c31))]⟩
theorem T7:Ah Tryz.prog cxTz:=Ae R7 Ag
theorem Amf:GoodC Tryz.prog 147 c30:=by
 refine T2 _ _ _ _ ⟨_,Tryz.func147,rfl,rfl⟩ fun (⟨⟨k,z,⟨ek,eo,em,ev,ea⟩,l⟩,⟨hd,c,en⟩,i,n,_⟩ : StT × SST × Int × Int × Unit) _=>?_
 by_cases hn:(Ar (k,z,ExprT.mk ek eo em ev ea,l) (hd,c,en)).2=0
 ·obtain ⟨hc,hv⟩:=Cp.1 hn
  have hk:=Ie (Cu hc)
  replace hk:k=1∨k=2∨k=3∨k=4∨k=5∨k=6∨k=7∨k=8∨k=9∨k=10:=hk
  rcases hk with rfl | rfl | rfl | rfl | rfl | rfl | rfl | rfl | rfl | rfl
  ·exact Agn z _ l hd c en i n hc hv
  ·exact Ago z _ l hd c en i n hc hv
  ·exact Agp z _ l hd c en i n hc hv
  ·exact Agq z _ l hd c en i n hc hv
  ·exact Agr z _ l hd c en i n hc hv
  ·exact Ags z _ l hd c en i n hc hv
  ·exact Agt z _ l hd c en i n hc hv
  ·exact Agu z _ l hd c en i n hc hv
  ·exact Agv z _ l hd c en i n hc hv
  ·exact Adj z _ l hd c en i n hc hv
 ·refine ⟨_,Af T7 Bf, ?_⟩
  have ab:∀ y:G7 Zj,y=((Ar (k,z,ExprT.mk ek eo em ev ea,l) (hd,c,en)).1,(Ar (k,z,ExprT.mk ek eo em ev ea,l) (hd,c,en)).2,())→(!decide (y.2.1=0))=false→False:=fun y h h'=>hn (by rw [h] at h';simpa using h')
  refine (aF (aI tT (fun (h0:List Int × Int × PUnit)=>(fun h1=>(aI (fun h2=>(Aa rfl (by exact TL0 h1 h2))) (fun h2=>(fun h3=>?_)))))))
  exact (ab h0 h1 h2).elim
def c32:Ctr:=fnC [dSt,dSS,dI] rEn (fun _=>True) (fun y=>Zp (Dz y.1 y.2.1 y.2.2.1))
theorem Amg:GoodC Tryz.prog 146 c32:=by
 refine T2 _ _ _ _ ⟨_,Tryz.func146,rfl,rfl⟩ fun (⟨⟨k,z,⟨ek,eo,em,ev,ea⟩,l⟩,⟨hd,c,en⟩,i,_⟩ : StT × SST × Int × Unit) _=>?_
 by_cases hn:(Ar (k,z,ExprT.mk ek eo em ev ea,l) (hd,c,en)).2=0
 ·obtain ⟨hc,hv⟩:=Cp.1 hn
  have hk:=Ie (Cu hc)
  replace hk:k=1∨k=2∨k=3∨k=4∨k=5∨k=6∨k=7∨k=8∨k=9∨k=10:=hk
  rcases hk with rfl | rfl | rfl | rfl | rfl | rfl | rfl | rfl | rfl | rfl
  ·exact Agw z _ l hd c en i hc hv
  ·exact Agx z _ l hd c en i hc hv
  ·exact Agy z _ l hd c en i hc hv
  ·exact Agz z _ l hd c en i hc hv
  ·exact Ag0 z _ l hd c en i hc hv
  ·exact Ag1 z _ l hd c en i hc hv
  ·exact Ag2 z _ l hd c en i hc hv
  ·exact Ag3 z _ l hd c en i hc hv
  ·exact Ag4 z _ l hd c en i hc hv
  ·exact Adk z _ l hd c en i hc hv
 ·refine ⟨_,Af T7 Bf, ?_⟩
  have ab:∀ y:G7 Zj,y=((Ar (k,z,ExprT.mk ek eo em ev ea,l) (hd,c,en)).1,(Ar (k,z,ExprT.mk ek eo em ev ea,l) (hd,c,en)).2,())→(!decide (y.2.1=0))=false→False:=fun y h h'=>hn (by rw [h] at h';simpa using h')
  refine (aF (aI tT (fun (h0:List Int × Int × PUnit)=>(fun h1=>(aI (fun h2=>(Aa rfl (by exact EL0 h1 h2))) (fun h2=>?_))))))
  exact (ab h0 h1 h2).elim
end Go.Proofs.YtckpldpombdkgaaGreat
