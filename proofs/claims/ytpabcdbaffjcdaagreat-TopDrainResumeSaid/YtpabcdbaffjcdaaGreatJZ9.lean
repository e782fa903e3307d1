/- Pipelines. -/
import Derived.Test.YtpabcdbaffjcdaaGreatJZ8
import Derived.Test.YtpabcdbaffjcdaaGreatJZ6
set_option linter.unusedSimpArgs false
set_option linter.unusedVariables false
set_option maxRecDepth 100000
namespace Go.Proofs.YtpabcdbaffjcdaaGreat
open Go.Sx
set_option maxHeartbeats 8000000 in
theorem Alf:Jv 1:=by
 intro z e l hd c en i hc hv;have hs:=Ax hc;have hb:=Br hv;have nk:0<=i\/(1:Int)≠9:=.inr (by decide);obtain⟨ek,eo,em,ev,ea⟩:=e;refine⟨_,Fk, ?_⟩;refine(aF (aI tT (λ(h0:List Int×Int×PUnit)=>(λh1=>(aI (λh2=>(Aa rfl (by exact EL0 h1 h2))) (λh2=>(aA (aI (λh3=>(Aa rfl (by exact EL1 h1 h2 h3))) (λh3=>(aI (λh4=>(by omega)) (aI (λh5=>(Aa rfl (by exact EL2 h1 h2 h3 h5))) (λh5=>(aF (aA (aF (aE (aF (aI (λh6=>nG h6) (λh6=>(aK (aD (aD (aD (aB (aA (Aa rfl (by exact EL4 h1 h2 h3 h5 rfl ‹_›)))))))))))))))))))))))))))
set_option maxHeartbeats 8000000 in
theorem Alg:Jv 2:=by
 intro z e l hd c en i hc hv;have hs:=Ax hc;have hb:=Br hv;have nk:0<=i\/(2:Int)≠9:=.inr (by decide);obtain⟨ek,eo,em,ev,ea⟩:=e;refine⟨_,Fk, ?_⟩;refine(aF (aI tT (λ(h0:List Int×Int×PUnit)=>(λh1=>(aI (λh2=>(Aa rfl (by exact EL0 h1 h2))) (λh2=>(aA (aI (λh3=>(Aa rfl (by exact EL1 h1 h2 h3))) (λh3=>(aI (λh4=>(by omega)) (aI (λh5=>(Aa rfl (by exact EL2 h1 h2 h3 h5))) (λh5=>(aF (aA (aF (aE (aF (aI (λh6=>nG h6) (λh6=>(aK (aD (aD (aD (aB (aA (Aa rfl (by exact EL4 h1 h2 h3 h5 rfl ‹_›)))))))))))))))))))))))))))
set_option maxHeartbeats 8000000 in
theorem Alh:Jv 3:=by
 intro z e l hd c en i hc hv;have hs:=Ax hc;have hb:=Br hv;have nk:0<=i\/(3:Int)≠9:=.inr (by decide);obtain⟨ek,eo,em,ev,ea⟩:=e;refine⟨_,Fk, ?_⟩;refine(aF (aI tT (λ(h0:List Int×Int×PUnit)=>(λh1=>(aI (λh2=>(Aa rfl (by exact EL0 h1 h2))) (λh2=>(aA (aI (λh3=>(Aa rfl (by exact EL1 h1 h2 h3))) (λh3=>(aI (λh4=>(by omega)) (aI (λh5=>(Aa rfl (by exact EL2 h1 h2 h3 h5))) (λh5=>(aF (aA (aF (aE (aF (aI (λh6=>nG h6) (λh6=>(aK (aD (aD (aD (aB (aA (Aa rfl (by exact EL4 h1 h2 h3 h5 rfl ‹_›)))))))))))))))))))))))))))
set_option maxHeartbeats 8000000 in
theorem Ali:Jv 4:=by
 intro z e l hd c en i hc hv;have hs:=Ax hc;have hb:=Br hv;have nk:0<=i\/(4:Int)≠9:=.inr (by decide);have hz:z<=200:=hs.2.1;have hl0:(hd.length:Int)<=z-1:=hb.2.2;have hdl:hd.length<=1001:=by omega
 have hin:=Ak4 (As.1 hv).2.1;replace hin:∀x∈hd,inM x:=hin;obtain⟨ek,eo,em,ev,ea⟩:=e;refine⟨_,Fk, ?_⟩;refine(aF (aI tT (λ(h0:List Int×Int×PUnit)=>(λh1=>(aI (λh2=>(Aa rfl (by exact EL0 h1 h2))) (λh2=>(aA (aI (λh3=>(Aa rfl (by exact EL1 h1 h2 h3))) (λh3=>(aI (λh4=>(by omega)) (aI (λh5=>(Aa rfl (by exact EL2 h1 h2 h3 h5))) (λh5=>(aF (aA (aF (aE (aF (λh6=>(aI (λh7=>(aF (λh8=>?_))) (λh7=>(aI (λh9=>nG h9) (λh9=>(aK (aD (aD (aD (aB (aA (Aa rfl (by exact EL4 h1 h2 h3 h5 (e4f h7) ‹_›))))))))))))))))))))))))))))));refine ex4 _ (λp:Nat×Int×Int=>⟨[.ptr 8 0,.any,.int .i64 p.2.1,.any,.any,.ptr 8 0,.ptr 8 0,.ptr 8 8,.ptr 8 8,.sl (.int .i64) hd,.int .i64 (↑hd.length:Int),.int .i64 (p.1:Int)]++nA 27,[.cells   [.int .i64 4,.int .i64 z,.int .i64 (ExprT.mk ek eo em ev ea).kind,     .int .i64 (ExprT.mk ek eo em ev ea).op,.str (ExprT.mk ek eo em ev ea).name,     .int .i64 (ExprT.mk ek eo em ev ea).value,.sl .expr (ExprT.mk ek eo em ev ea).args,     .sl (.int .i64) l],.cells [.sl (.int .i64) hd,.int .i64 c,.bool en],.cells [.cap0,.int .i64 0,.bool false],.cells   [.int .i64 1,.int .i64 1,.int .i64 1,.int .i64 100,.int .i64 0,     .sl .str [],.fn (Fn.func 109) [] [],.fn (Fn.func 110) [] []],.cells   [.int .i64 4,.int .i64 z,.int .i64 (ExprT.mk ek eo em ev ea).kind,     .int .i64 (ExprT.mk ek eo em ev ea).op,.str (ExprT.mk ek eo em ev ea).name,     .int .i64 (ExprT.mk ek eo em ev ea).value,.sl .expr (ExprT.mk ek eo em ev ea).args,     .sl (.int .i64) l],.cells [.sl (.int .i64) hd,.int .i64 c,.bool en],.cells   [.int .i64 1,.int .i64 1,.int .i64 1,.int .i64 100,.int .i64 0,     .sl .str [],.fn (Fn.func 109) [] [],.fn (Fn.func 110) [] []],.cells [.cap0],.cells [.int .i64 4,.int .i64 z,.int .i64 ek,.int .i64 eo,.str em,.int .i64 ev,.sl .expr ea,.sl tI l,.sl tI hd,.int .i64 c,.bool en,.csl tI 7 1,.int .i64 p.2.2,.int .i64 0]],9⟩) (λp=>p.1<=(hd).length/\p.2=((hd).take p.1).foldl Et (0,0)/\(-(1099511627776*(p.1:Int))<=p.2.1/\p.2.1<=1099511627776*(p.1:Int))) (λp=>(hd).length-p.1) (aI (eI ((0,0,0)) (eI ([some 0,some 1,some 2,some 3,some 4,some 5,some 6,some 7,some 8]) (aI ?_ (aB (aI (aJ (aJ (aG tT))) (by rfl)))))) ?_)
 ·exact⟨aV _,rfl,by show -(1099511627776*((0:Nat):Int))<=0;decide,by show(0:Int)<=1099511627776*((0:Nat):Int);decide⟩
 rintro⟨j,v,f⟩ ⟨hj,hp,hn⟩;replace hj:j<=(hd).length:=hj;replace hp:(v,f)=((hd).take j).foldl Et (0,0):=hp;replace hn:-(1099511627776*(j:Int))<=v/\v<=1099511627776*(j:Int):=hn;have hx:-1099511627776<=(hd).getD j 0/\(hd).getD j 0<=1099511627776:=Ade hin j;have hjl:j<=1001:=by omega
 have nr:inK .i64 (v+(hd).getD j 0):=by simp only[inK];omega
 have hb3:-(1099511627776*((j+1:Nat):Int))<=v+(hd).getD j 0/\v+(hd).getD j 0<=1099511627776*((j+1:Nat):Int):=by omega
 refine(aI (λm0=>(aI (by(intros;(try subst_vars);(try simp only[nB]at *);(try simp only[inK,big,lim,nL]at *);omega)) (aI (nr) (aI tT (aI (λm1=>(aI (by(intros;(try subst_vars);(try simp only[nB]at *);(try simp only[inK,big,lim,nL]at *);omega)) ?_)) (λm1=>(aI (by(intros;(try subst_vars);(try simp only[nB]at *);(try simp only[inK,big,lim,nL]at *);omega)) ?_))))))) (λm0=>(aF (aI (λm2=>(aK (aE (aD (aB (aE (aD (aC (aA (aE (aB (aI (by(intros;(try subst_vars);(try simp only[nB]at *);(try simp only[inK,big,lim,nL]at *);omega)) (aE (aE (aC (aB (aI (λm3=>(aK (aD (aD (aC (Aa rfl (by exact(nbT m2 m3).elim))))))) (λm3=>(aK (aD (aD (aD (aB (aA (Aa rfl ?_))))))))))))))))))))))))) (λm2=>(aI (λm4=>(aK (aD (aD (aC (Aa rfl ?_)))))) (λm4=>(aK (aD (aD (aD (aB (aA (Aa rfl (by exact(nbF m2 m4).elim)))))))))))))))
 ·have hj':j<(hd).length:=by have h:(j:Int)<((hd).length:Int):=aM m0;omega
  refine eI ((j+1,v+(hd).getD j 0,14)) (eI ([some 0,some 1,some 2,some 3,some 4,some 5,some 6,some 7,some 8]) (aI ?_ (aI ?_ (aB (aI (aJ (aJ (aG tT))) (by rfl))))))
  ·refine⟨hj', ?_,hb3⟩;rw[Ki hj' hp];dsimp only[Et];rw[aP (show(bif !Ke (v+(hd).getD j 0)then decide (f=0)else false)=true from m1)]
  ·show(hd).length-(j+1)<(hd).length-j;omega
 ·have hj':j<(hd).length:=by have h:(j:Int)<((hd).length:Int):=aM m0;omega
  refine eI ((j+1,v+(hd).getD j 0,f)) (eI ([some 0,some 1,some 2,some 3,some 4,some 5,some 6,some 7,some 8]) (aI ?_ (aI ?_ (aB (aI (aJ (aJ (aG tT))) (by rfl))))))
  ·refine⟨hj', ?_,hb3⟩;rw[Ki hj' hp];dsimp only[Et];rw[aL (by rw[show(bif !Ke (v+(hd).getD j 0)then decide (f=0)else false)=false from m1];simp)]
  ·show(hd).length-(j+1)<(hd).length-j;omega
 ·have hp2:(hd).foldl Et (0,0)=(v,f):=by
   have h:¬(j:Int)<((hd).length:Int):=aQ m0;rw[hp,bL (by omega)]
  have h:decide (f=0)=true:=m2;have hf:f=0:=aM h;subst hf;exact EL4 h1 h2 h3 h5 (e4t h7 hp2) m3
 ·have hp2:(hd).foldl Et (0,0)=(v,f):=by
   have h:¬(j:Int)<((hd).length:Int):=aQ m0;rw[hp,bL (by omega)]
  have h:decide (f=0)=false:=m2;exact EL3 h1 h2 h3 h5 (by rw[e4t h7 hp2]) (by rw[h];rfl)
set_option maxHeartbeats 8000000 in
theorem Alj:Jv 5:=by
 intro z e l hd c en i hc hv;have hs:=Ax hc;have hb:=Br hv;have nk:0<=i\/(5:Int)≠9:=.inr (by decide);obtain⟨ek,eo,em,ev,ea⟩:=e;refine⟨_,Fk, ?_⟩;refine(aF (aI tT (λ(h0:List Int×Int×PUnit)=>(λh1=>(aI (λh2=>(Aa rfl (by exact EL0 h1 h2))) (λh2=>(aA (aI (λh3=>(Aa rfl (by exact EL1 h1 h2 h3))) (λh3=>(aI (λh4=>(by omega)) (aI (λh5=>(Aa rfl (by exact EL2 h1 h2 h3 h5))) (λh5=>(aF (aA (aF (aE (aF (aI (λh6=>nG h6) (λh6=>(aK (aD (aD (aD (aB (aA (Aa rfl (by exact EL4 h1 h2 h3 h5 rfl ‹_›)))))))))))))))))))))))))))
set_option maxHeartbeats 8000000 in
theorem Alk:Jv 6:=by
 intro z e l hd c en i hc hv;have hs:=Ax hc;have hb:=Br hv;have nk:0<=i\/(6:Int)≠9:=.inr (by decide);obtain⟨ek,eo,em,ev,ea⟩:=e;refine⟨_,Fk, ?_⟩;refine(aF (aI tT (λ(h0:List Int×Int×PUnit)=>(λh1=>(aI (λh2=>(Aa rfl (by exact EL0 h1 h2))) (λh2=>(aA (aI (λh3=>(Aa rfl (by exact EL1 h1 h2 h3))) (λh3=>(aI (λh4=>(by omega)) (aI (λh5=>(Aa rfl (by exact EL2 h1 h2 h3 h5))) (λh5=>(aF (aA (aF (aE (aF (aI (λh6=>nG h6) (λh6=>(aK (aD (aD (aD (aB (aA (Aa rfl (by exact EL4 h1 h2 h3 h5 rfl ‹_›)))))))))))))))))))))))))))
set_option maxHeartbeats 8000000 in
theorem All:Jv 7:=by
 intro z e l hd c en i hc hv;have hs:=Ax hc;have hb:=Br hv;have nk:0<=i\/(7:Int)≠9:=.inr (by decide);obtain⟨ek,eo,em,ev,ea⟩:=e;refine⟨_,Fk, ?_⟩;refine(aF (aI tT (λ(h0:List Int×Int×PUnit)=>(λh1=>(aI (λh2=>(Aa rfl (by exact EL0 h1 h2))) (λh2=>(aA (aI (λh3=>(Aa rfl (by exact EL1 h1 h2 h3))) (λh3=>(aI (λh4=>(by omega)) (aI (λh5=>(Aa rfl (by exact EL2 h1 h2 h3 h5))) (λh5=>(aF (aA (aF (aE (aF (aI (λh6=>nG h6) (λh6=>(aK (aD (aD (aD (aB (aA (Aa rfl (by exact EL4 h1 h2 h3 h5 rfl ‹_›)))))))))))))))))))))))))))
set_option maxHeartbeats 8000000 in
theorem Alm:Jv 8:=by
 intro z e l hd c en i hc hv;have hs:=Ax hc;have hb:=Br hv;have nk:0<=i\/(8:Int)≠9:=.inr (by decide);have hl0:(hd.length:Int)<=2:=hb.2.2;have hl1:hd.length<=1000:=by omega
 have hsl:(hd++[i]).length<=1000000:=by simp;omega
 have room:(hd.length + [i].length)*8<=lim:=by simp only[lim,List.length_cons,List.length_nil];omega
 obtain⟨ek,eo,em,ev,ea⟩:=e;refine⟨_,Adj, ?_⟩;refine(aF (aI tT (λ(h0:List Int×Int×PUnit)=>(λh1=>(aI (λh2=>(Aa rfl (by exact EL0 h1 h2))) (λh2=>(aA (aI (λh3=>(Aa rfl (by exact EL1 h1 h2 h3))) (λh3=>(aI (λh4=>(by omega)) (aI (λh5=>(Aa rfl (by exact EL2 h1 h2 h3 h5))) (λh5=>(aF (aA (aF (aE (aF (aI (by omega) (aI (by omega) (aA ?_))))))))))))))))))));refine .inr ⟨11,hd++[i],rfl,by rfl,hsl, ?_⟩;refine(λw0=>(aI (λw1=>nG w1) (λw1=>(aK (aD (aD (aD (aB (aA (Aa rfl (by exact EL4 h1 h2 h3 h5 rfl w1)))))))))))
set_option maxHeartbeats 8000000 in
theorem Aln:Jv 9:=by
 intro z e l hd c en i hc hv;have hs:=Ax hc;have hb:=Br hv;have i0:te1 (9,z,e,l) i=false->0<=i/\i<2:=λh=>Yh (by show(9:Int)≠1;decide) h
 obtain⟨ek,eo,em,ev,ea⟩:=e;refine⟨_,Fk, ?_⟩;refine(aF (aI tT (λ(h0:List Int×Int×PUnit)=>(λh1=>(aI (λh2=>(Aa rfl (by exact EL0 h1 h2))) (λh2=>(aA (aI (λh3=>(Aa rfl (by exact EL1 h1 h2 h3))) (λh3=>(aI (λh4=>(.inl (i0 h3).1)) (aI (λh5=>(Aa rfl (by exact EL2 h1 h2 h3 h5))) (λh5=>(aF (aA (aF (aE (aF (aF (aI ((i0 h3).1) (aI (λh6=>(aI (λh7=>nG h7) (λh7=>(aK (aD (aD (aD (aB (aA (Aa rfl (by exact EL4 h1 h2 h3 h5 (e9t h6) h7))))))))))) (λh6=>(aI (λh8=>nG h8) (λh8=>(aK (aD (aD (aD (aB (aA (Aa rfl (by exact EL4 h1 h2 h3 h5 (e9f h6) h8)))))))))))))))))))))))))))))))
set_option maxHeartbeats 8000000 in
theorem Ahy:Jv 10:=by
 intro z e l hd c en i hc hv;have hs:=Ax hc;have hb:=Br hv;have nk:0<=i\/(10:Int)≠9:=.inr (by decide);obtain⟨ek,eo,em,ev,ea⟩:=e;refine⟨_,Fk, ?_⟩;refine(aF (aI tT (λ(h0:List Int×Int×PUnit)=>(λh1=>(aI (λh2=>(Aa rfl (by exact EL0 h1 h2))) (λh2=>(aA (aI (λh3=>(Aa rfl (by exact EL1 h1 h2 h3))) (λh3=>(aI (λh4=>(by omega)) (aI (λh5=>(Aa rfl (by exact EL2 h1 h2 h3 h5))) (λh5=>(aF (aA (aF (aE (aF (aI (λh6=>nG h6) (λh6=>(aK (aD (aD (aD (aB (aA (Aa rfl (by exact EL4 h1 h2 h3 h5 rfl ‹_›)))))))))))))))))))))))))))
def c30:Ctr:=fnC [dSt,dSS,dI,dI] rTk (λ_=>True) (λy=>Adg (Bq y.1 y.2.1 y.2.2.1 y.2.2.2.1))
def cxTz:Ctx:=⟨Dk,[(147,([],c31))]⟩
theorem Wp:Ai Tryz.prog cxTz:=Ae Ug Ah
theorem Ari:GoodC Tryz.prog 169 c30:=by
 refine Wl _ _ _ _ ⟨_,Tryz.func169,rfl,rfl⟩ λ(⟨⟨k,z,⟨ek,eo,em,ev,ea⟩,l⟩,⟨hd,c,en⟩,i,n,_⟩:StT×SST×Int×Int×Unit) _=>?_
 by_cases hn:(Am (k,z,ExprT.mk ek eo em ev ea,l) (hd,c,en)).2=0
 ·obtain⟨hc,hv⟩:=B0.1 hn;have hk:=G6 (B1 hc);replace hk:k=1\/k=2\/k=3\/k=4\/k=5\/k=6\/k=7\/k=8\/k=9\/k=10:=hk;rcases hk with rfl|rfl|rfl|rfl|rfl|rfl|rfl|rfl|rfl|rfl
  ·exact Ak6 z _ l hd c en i n hc hv
  ·exact Ak7 z _ l hd c en i n hc hv
  ·exact Ak8 z _ l hd c en i n hc hv
  ·exact Ak9 z _ l hd c en i n hc hv
  ·exact Ala z _ l hd c en i n hc hv
  ·exact Alb z _ l hd c en i n hc hv
  ·exact Alc z _ l hd c en i n hc hv
  ·exact Ald z _ l hd c en i n hc hv
  ·exact Ale z _ l hd c en i n hc hv
  ·exact Ahx z _ l hd c en i n hc hv
 ·refine⟨_,Af Wp Bl, ?_⟩;have ab:∀y:Ib Ada,y=((Am (k,z,ExprT.mk ek eo em ev ea,l) (hd,c,en)).1,(Am (k,z,ExprT.mk ek eo em ev ea,l) (hd,c,en)).2,())->(!decide (y.2.1=0))=false->False:=λy h h'=>hn (by rw[h]at h';simpa using h')
  refine(aF (aI tT (λ(h0:List Int×Int×PUnit)=>(λh1=>(aI (λh2=>(Aa rfl (by exact TL0 h1 h2))) (λh2=>(λh3=>?_)))))));exact(ab h0 h1 h2).elim
def c32:Ctr:=fnC [dSt,dSS,dI] rEn (λ_=>True) (λy=>Adh (Cg y.1 y.2.1 y.2.2.1))
theorem Arj:GoodC Tryz.prog 168 c32:=by
 refine Wl _ _ _ _ ⟨_,Tryz.func168,rfl,rfl⟩ λ(⟨⟨k,z,⟨ek,eo,em,ev,ea⟩,l⟩,⟨hd,c,en⟩,i,_⟩:StT×SST×Int×Unit) _=>?_
 by_cases hn:(Am (k,z,ExprT.mk ek eo em ev ea,l) (hd,c,en)).2=0
 ·obtain⟨hc,hv⟩:=B0.1 hn;have hk:=G6 (B1 hc);replace hk:k=1\/k=2\/k=3\/k=4\/k=5\/k=6\/k=7\/k=8\/k=9\/k=10:=hk;rcases hk with rfl|rfl|rfl|rfl|rfl|rfl|rfl|rfl|rfl|rfl
  ·exact Alf z _ l hd c en i hc hv
  ·exact Alg z _ l hd c en i hc hv
  ·exact Alh z _ l hd c en i hc hv
  ·exact Ali z _ l hd c en i hc hv
  ·exact Alj z _ l hd c en i hc hv
  ·exact Alk z _ l hd c en i hc hv
  ·exact All z _ l hd c en i hc hv
  ·exact Alm z _ l hd c en i hc hv
  ·exact Aln z _ l hd c en i hc hv
  ·exact Ahy z _ l hd c en i hc hv
 ·refine⟨_,Af Wp Bl, ?_⟩;have ab:∀y:Ib Ada,y=((Am (k,z,ExprT.mk ek eo em ev ea,l) (hd,c,en)).1,(Am (k,z,ExprT.mk ek eo em ev ea,l) (hd,c,en)).2,())->(!decide (y.2.1=0))=false->False:=λy h h'=>hn (by rw[h]at h';simpa using h')
  refine(aF (aI tT (λ(h0:List Int×Int×PUnit)=>(λh1=>(aI (λh2=>(Aa rfl (by exact EL0 h1 h2))) (λh2=>?_))))));exact(ab h0 h1 h2).elim
end Go.Proofs.YtpabcdbaffjcdaaGreat
