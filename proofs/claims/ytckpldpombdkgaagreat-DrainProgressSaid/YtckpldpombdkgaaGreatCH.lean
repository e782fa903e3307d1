/- Pipelines. -/
import Derived.Test.YtckpldpombdkgaaGreatCQ3
import Derived.Test.YtckpldpombdkgaaGreatCZ7
import Derived.Test.YtckpldpombdkgaaGreatCG5
set_option linter.unusedSimpArgs false
set_option linter.unusedVariables false
set_option maxRecDepth 100000
namespace Go.Proofs.YtckpldpombdkgaaGreat
open Go.Sx
def grS (y:StT):Bool:=bif Aa4 y then true else (bif decide (20 < (y.2.2.2.length:Int)) then decide ((y.2.2.2.length:Int)≤200) else false)
def grP (x:PlT):Bool:=bif (bif decide (18 < (x.1.length:Int)) then true else decide (36 < (x.2.length:Int))) then true else x.1.any grS
def cxhA:Ctx:=⟨Ahm,[(63,([],c29))]⟩
theorem Un:Ah Tryz.prog cxhA:=C7 (Ae Alm Ag)
theorem Aka {α:Type} {p:α→Bool} {d:α} {l:List α} {i:Nat} (h:i < l.length) (h1:p (l.getD i d)=true):l.any p=true:=by
 rw [Bt h] at h1
 exact List.any_eq_true.2 ⟨_,List.getElem_mem h,h1⟩
theorem Akb {α:Type} {p:α→Bool} {d:α} {l:List α} {i:Nat} (h:i < l.length) (h0:(l.take i).any p=false) (h1:p (l.getD i d)=false):(l.take (i+1)).any p=false:=by
 rw [List.take_succ_eq_append_getElem h,List.any_append,h0]
 rw [Bt h] at h1
 simp [h1]
def cGrP:Ctr:=fnC [dPl] rB (fun _=>True) (fun y=>(grP y.1,()))
theorem Ap4:GoodC Tryz.prog 37 cGrP:=by
 refine Ap Un 3 _ _ _ _ ⟨_,Tryz.func37,rfl,rfl⟩ fun (⟨⟨st,ps⟩,_⟩ : PlT × Unit) _=>?_
 refine (aF (fun h0=>(fun h1=>(aI (fun h2=>(Aa rfl ?_)) (fun h2=>?_)))))
 ·show (grP (st,ps),())=_
  unfold grP
  rw [h2];rfl
 have hb:(bif decide (18 < (st.length:Int)) then true else decide (36 < (ps.length:Int)))=false:=h2
 have hG:grP (st,ps)=st.any grS:=by unfold grP;rw [hb];rfl
 clear h0 h1 h2 hb
 refine ex4 _ (fun i:Nat=>⟨[.any,.ptr 0 0,.any,.int .i64 (i:Int)]++nA 43,[.cells [.sl tSt st,.sl A3 ps]],1⟩) (fun i=>i≤st.length∧(st.take i).any grS=false) (fun i=>st.length - i) (aI (eI (0) (eI ([some 0]) (aI ?_ (aB (aI (aI (aA (by rfl)) tT) (by rfl)))))) ?_)
 ·exact ⟨Nat.zero_le _,by simp⟩
 rintro i ⟨hi,ha⟩
 replace hi:i≤st.length:=hi
 replace ha:(st.take i).any grS=false:=ha
 have hlt:decide ((i:Int) < (st.length:Int))=true→i < st.length:=fun h=>by have:=of_decide_eq_true h;omega
 refine (fun k0=>(aI (fun k1=>(aO (aI tT (aI (fun k2=>(by intros;(try subst_vars);(try simp only [nB] at *);(try simp only [inK,big,lim,nL] at *);omega)) (fun k3=>(aI (fun k4=>(by intros;(try subst_vars);(try simp only [nB] at *);(try simp only [inK,big,lim,nL] at *);omega)) (fun k5=>(aI (fun k6=>(Aa rfl ?_)) (fun k6=>(aO ?_)))))))))) (fun k1=>(Aa rfl ?_))))
 ·simp only [eta] at k6
  show (grP (st,ps),())=_
  rw [hG,Aka (d:=Ab tSt) (hlt k1) (show grS (st.getD (i:Int).toNat (Ab tSt))=true from k6)]
 ·simp only [eta] at k6
  have h1:=hlt k1
  have h2:=Akb (d:=Ab tSt) h1 ha (show grS (st.getD (i:Int).toNat (Ab tSt))=false from k6)
  clear k0 k1 k3 k5 k6
  refine eI (i+1) (eI ([some 0]) (aI ?_ (aI ?_ (aB (aI (aI (aA (by rfl)) tT) (by rfl))))))
  ·exact ⟨h1,h2⟩
  ·show st.length - (i+1) < st.length - i
   omega
 ·have h1:¬ (i:Int) < (st.length:Int):=of_decide_eq_false k1
  show (grP (st,ps),())=_
  rw [hG]
  rw [List.take_of_length_le (by omega)] at ha
  rw [ha]
def grT (s:FsT):Bool:=bif (bif (bif decide (18 < (s.1.length:Int)) then true else decide (36 < (s.2.1.length:Int))) then true else decide (18 < (s.2.2.1.length:Int))) then true
 else (s.1.any fun t=>decide (110 < (t.1.length:Int))) || ((s.2.1.any fun c=>decide (110 < (c.2.2.2.2.1.length:Int))) || s.2.2.1.any fun l=>decide (210 < (l.length:Int)))
def cGrT:Ctr:=fnC [dFs] rB (fun _=>True) (fun y=>(grT y.1,()))
theorem Ap5:GoodC Tryz.prog 38 cGrT:=by
 refine Ap Un 3 _ _ _ _ ⟨_,Tryz.func38,rfl,rfl⟩ fun (⟨⟨ss,cs,os,dr⟩,_⟩ : FsT × Unit) _=>?_
 refine (aF (fun h0=>(fun h1=>(fun h2=>(aI (fun h3=>(Aa rfl ?_)) (fun h3=>?_))))))
 ·show (grT (ss,cs,os,dr),())=_
  unfold grT
  rw [h3];rfl
 have hb:(bif (bif decide (18 < (ss.length:Int)) then true else decide (36 < (cs.length:Int))) then true else decide (18 < (os.length:Int)))=false:=h3
 have hG:grT (ss,cs,os,dr)=(ss.any (fun t=>decide (110 < (t.1.length:Int))) || (cs.any (fun c=>decide (110 < (c.2.2.2.2.1.length:Int))) || os.any fun l=>decide (210 < (l.length:Int)))):=by unfold grT;rw [hb];rfl
 clear h0 h1 h2 h3 hb
 refine ex4 _ (fun i:Nat=>⟨[.any,.ptr 0 0,.any,.int .i64 (i:Int)]++nA 62,[.cells [.sl tSS ss,.sl A8 cs,.sl (.sl (.int .i64)) os,.bool dr]],1⟩) (fun i=>i≤ss.length∧(ss.take i).any (fun t=>decide (110 < (t.1.length:Int)))=false) (fun i=>ss.length - i) (aI (eI (0) (eI ([some 0]) (aI ?_ (aB (aI (aI (aA (by rfl)) tT) (by rfl)))))) ?_)
 ·exact ⟨Nat.zero_le _,by simp⟩
 rintro i ⟨hi,ha⟩
 replace hi:i≤ss.length:=hi
 replace ha:(ss.take i).any (fun t=>decide (110 < (t.1.length:Int)))=false:=ha
 refine (fun k0=>(aI (fun k1=>(aO (fun k2=>(aI (fun k3=>(Aa rfl ?_)) (fun k3=>(aO ?_)))))) (fun k1=>?_)))
 ·show (grT (ss,cs,os,dr),())=_
  rw [hG,Aka (d:=Ab tSS) (by have:=of_decide_eq_true k1;omega) (show decide (110 < ((ss.getD (i:Int).toNat (Ab tSS)).1.length:Int))=true from k3)];rfl
 ·have h1:i < ss.length:=by have:=of_decide_eq_true k1;omega
  have h2:=Akb (d:=Ab tSS) h1 ha (show decide (110 < ((ss.getD (i:Int).toNat (Ab tSS)).1.length:Int))=false from k3)
  clear k0 k1 k2 k3
  refine eI (i+1) (eI ([some 0]) (aI ?_ (aI ?_ (aB (aI (aI (aA (by rfl)) tT) (by rfl))))))
  ·exact ⟨h1,h2⟩
  ·show ss.length - (i+1) < ss.length - i
   omega
 have hS:ss.any (fun t=>decide (110 < (t.1.length:Int)))=false:=by
  have:¬ (i:Int) < (ss.length:Int):=of_decide_eq_false k1
  rwa [List.take_of_length_le (by omega)] at ha
 clear k0 k1 ha hi
 refine ex4 _ (fun j:Nat=>⟨[.any,.ptr 0 0,.any,.any,.int .i64 (j:Int)]++nA 61,[.cells [.sl tSS ss,.sl A8 cs,.sl (.sl (.int .i64)) os,.bool dr]],1⟩) (fun j=>j≤cs.length∧(cs.take j).any (fun c=>decide (110 < (c.2.2.2.2.1.length:Int)))=false) (fun j=>cs.length - j) (aI (eI (0) (eI ([some 0]) (aI ?_ (aB (aI (aI (aA (by rfl)) tT) (by rfl)))))) ?_)
 ·exact ⟨Nat.zero_le _,by simp⟩
 rintro j ⟨hj,hb⟩
 replace hj:j≤cs.length:=hj
 replace hb:(cs.take j).any (fun c=>decide (110 < (c.2.2.2.2.1.length:Int)))=false:=hb
 refine (fun m0=>(aI (fun m1=>(aO (fun m2=>(aI (fun m3=>(Aa rfl ?_)) (fun m3=>(aO ?_)))))) (fun m1=>?_)))
 ·show (grT (ss,cs,os,dr),())=_
  rw [hG,hS,Aka (d:=Ab A8) (by have:=of_decide_eq_true m1;omega) (show decide (110 < ((cs.getD (j:Int).toNat (Ab A8)).2.2.2.2.1.length:Int))=true from m3)];rfl
 ·have h1:j < cs.length:=by have:=of_decide_eq_true m1;omega
  have h2:=Akb (d:=Ab A8) h1 hb (show decide (110 < ((cs.getD (j:Int).toNat (Ab A8)).2.2.2.2.1.length:Int))=false from m3)
  clear m0 m1 m2 m3
  refine eI (j+1) (eI ([some 0]) (aI ?_ (aI ?_ (aB (aI (aI (aA (by rfl)) tT) (by rfl))))))
  ·exact ⟨h1,h2⟩
  ·show cs.length - (j+1) < cs.length - j
   omega
 have hC:cs.any (fun c=>decide (110 < (c.2.2.2.2.1.length:Int)))=false:=by
  have:¬ (j:Int) < (cs.length:Int):=of_decide_eq_false m1
  rwa [List.take_of_length_le (by omega)] at hb
 clear m0 m1 hb hj
 refine ex4 _ (fun l:Nat=>⟨[.any,.ptr 0 0,.any,.any,.any,.int .i64 (l:Int)]++nA 60,[.cells [.sl tSS ss,.sl A8 cs,.sl (.sl (.int .i64)) os,.bool dr]],1⟩) (fun l=>l≤os.length∧(os.take l).any (fun o=>decide (210 < (o.length:Int)))=false) (fun l=>os.length - l) (aI (eI (0) (eI ([some 0]) (aI ?_ (aB (aI (aI (aA (by rfl)) tT) (by rfl)))))) ?_)
 ·exact ⟨Nat.zero_le _,by simp⟩
 rintro l ⟨hl,hc⟩
 replace hl:l≤os.length:=hl
 replace hc:(os.take l).any (fun o=>decide (210 < (o.length:Int)))=false:=hc
 refine (fun n0=>(aI (fun n1=>(aO (fun n2=>(aI (fun n3=>(Aa rfl ?_)) (fun n3=>(aO ?_)))))) (fun n1=>(Aa rfl ?_))))
 ·show (grT (ss,cs,os,dr),())=_
  rw [hG,hS,hC,Aka (d:=Ab tIs) (by have:=of_decide_eq_true n1;omega) (show decide (210 < ((os.getD (l:Int).toNat (Ab tIs)).length:Int))=true from n3)];rfl
 ·have h1:l < os.length:=by have:=of_decide_eq_true n1;omega
  have h2:=Akb (d:=Ab tIs) h1 hc (show decide (210 < ((os.getD (l:Int).toNat (Ab tIs)).length:Int))=false from n3)
  clear n0 n1 n2 n3
  refine eI (l+1) (eI ([some 0]) (aI ?_ (aI ?_ (aB (aI (aI (aA (by rfl)) tT) (by rfl))))))
  ·exact ⟨h1,h2⟩
  ·show os.length - (l+1) < os.length - l
   omega
 ·have:¬ (l:Int) < (os.length:Int):=of_decide_eq_false n1
  rw [List.take_of_length_le (by omega)] at hc
  show (grT (ss,cs,os,dr),())=_
  rw [hG,hS,hC,hc];rfl
def cxhB:Ctx:=⟨O7,[(37,([],cGrP)),(38,([],cGrT))]⟩
theorem Aeb:Ah Tryz.prog cxhB:=C7 (Ae Ap4 (Ae Ap5 Ag))
def cGr:Ctr:=fnC [dPl,dFs] rB (fun _=>True) (fun y=>(bif grP y.1 then true else grT y.2.1,()))
theorem gGr:GoodC Tryz.prog 13 cGr:=by
 refine Ap Aeb 3 _ _ _ _ ⟨_,Tryz.func13,rfl,rfl⟩ fun (⟨⟨st,ps⟩,⟨ss,cs,os,dr⟩,_⟩ : PlT × FsT × Unit) _=>?_
 refine (aF (aI tT (aI (fun h0=>tT) (Aa rfl (by rfl)))))
def cEq:Ctr:=fnC [dIs,dIs] rB (fun _=>True) (fun y=>(decide (y.1=y.2.1),()))
theorem gEq:GoodC Tryz.prog 20 cEq:=by
 refine Ap Ag 3 _ _ _ _ ⟨_,Tryz.func20,rfl,rfl⟩ fun (⟨xs,ys,_⟩ : List Int × List Int × Unit) _=>?_
 refine (aF (fun h0=>(fun h1=>(aI (fun h2=>(Aa rfl ?_)) (fun h2=>(fun h3=>?_))))))
 ·have hl:xs≠ys:=fun e=>by
   have h:(!decide ((xs.length:Int)=(ys.length:Int)))=true:=h2
   rw [e] at h;simp at h
  show (decide (xs=ys),())=(false,())
  rw [decide_eq_false hl]
 have hl:xs.length=ys.length:=by
  have h:(!decide ((xs.length:Int)=(ys.length:Int)))=false:=h2
  have:(xs.length:Int)=ys.length:=by simpa using h
  omega
 clear h0 h1 h2
 refine ex4 _ (fun i:Nat=>⟨[.sl (.int .i64) xs,.sl (.int .i64) ys,.any,.any,.any,.any,.any,.any,.any,.any,.any,.sl (.int .i64) xs,.int .i64 (↑xs.length:Int),.int .i64 (i:Int)]++nA 12,[],0⟩) (fun i=>i≤xs.length∧xs.take i=ys.take i) (fun i=>xs.length - i) (aI (eI (0) (eI ([]) (aI ?_ (aB (aI tT (by rfl)))))) ?_)
 ·exact ⟨Nat.zero_le _,by simp⟩
 rintro i ⟨hi,ht⟩
 replace hi:i≤xs.length:=hi
 replace ht:xs.take i=ys.take i:=ht
 refine (aI (fun k0=>(aF (aO (aO (aI (fun k1=>(Aa rfl ?_)) (fun k1=>(aO ?_))))))) (fun k0=>(Aa rfl ?_)))
 ·have hk:¬ xs.getD (i:Int).toNat (Ab tI)=ys.getD (i:Int).toNat (Ab tI):=by have h:(!decide (xs.getD (i:Int).toNat (Ab tI)=ys.getD (i:Int).toNat (Ab tI)))=true:=k1;simpa using h
  have hne:xs≠ys:=fun e=>hk (by rw [e])
  show (decide (xs=ys),())=(false,())
  rw [decide_eq_false hne]
 ·have hi':i < xs.length:=by have:=of_decide_eq_true k0;omega
  have hk:xs.getD i 0=ys.getD i 0:=by have h:(!decide (xs.getD (i:Int).toNat (Ab tI)=ys.getD (i:Int).toNat (Ab tI)))=false:=k1;exact of_decide_eq_true (Bw h)
  clear k0 k1
  refine eI (i+1) (eI ([]) (aI ?_ (aI ?_ (aB (aI tT (by rfl))))))
  ·exact ⟨hi',Sv hi' (hl ▸ hi') ht hk⟩
  ·show xs.length - (i+1) < xs.length - i
   omega
 ·have hi':¬ (i:Int) < (xs.length:Int):=of_decide_eq_false k0
  have he:xs=ys:=by
   rw [List.take_of_length_le (by omega),List.take_of_length_le (by omega)] at ht
   exact ht
  show (decide (xs=ys),())=(true,())
  rw [decide_eq_true he]
def Ak2:List (TypeId × Ty):=(53,tSt) :: (30,tFs) :: (31,tIs) :: O7
theorem Aec:Ah Tryz.prog ⟨Ak2,[]⟩:=fun _ _ _ h=>by simp [Gp] at h
@[reducible] def rPl:List (Bool × Ty):=[(true,tPl)]
def cEx:Ctr:=fnC [] rPl (fun _=>True) (fun _=>(exX,()))
theorem gEx:GoodC Tryz.prog 39 cEx:=by
 refine Ap Aec 3 _ _ _ _ ⟨_,Tryz.func39,rfl,rfl⟩ fun y _=>?_
 refine (aF (Aa rfl (by rfl)))
def s0X:FsT:=([([],0,false),([],0,false),([],0,false)],[(3,3,0,0,[],false),(1,1,0,0,[],false)],[[]],false)
def s1X:FsT:=([([],3,false),([],0,false),([],0,false)],[(3,3,3,0,[1,2,3],false),(1,1,0,0,[],false)],[[]],false)
def s1D:FsT:=([([],3,false),([],0,false),([],0,false)],[(3,3,3,0,[1,2,3],false),(1,1,0,0,[],false)],[[]],true)
def s2X:FsT:=([([],3,true),([],0,true),([],0,true)],[(3,6,3,3,[],true),(1,2,2,2,[],true)],[[3,3]],true)
theorem Aoh:Ag8 exX=(s0X,0):=by kernel_rfl
theorem Aoi:Sg exX s0X [] 3=(s1X,[0,0,0],0):=by kernel_rfl
theorem Aoj:Vw exX s1X=([[3,3]],0):=by kernel_rfl
theorem Aok:Vs exX s1X=(s1D,0):=by kernel_rfl
theorem Aol:Sg exX s1D [1] 100=(s2X,[1,1,1,2,0,1,2,2],0):=by kernel_rfl
theorem Aom:Ag9 exX s2X=true:=by kernel_rfl
theorem Aon:okO exX:=by
 have e:B4 (Hb exX)=[(0,1),(1,2)]:=by kernel_rfl
 refine ⟨by decide, ?_⟩
 rw [e]
 refine ⟨⟨⟨by decide,fun k hk=>?_,fun k hk=>?_⟩,by decide,by decide⟩,by decide⟩
 ·have hk:k < 2:=hk
  have:k=0∨k=1:=by omega
  rcases this with rfl | rfl <;> decide
 ·have hk:k+1 < 2:=hk
  have:k=0:=by omega
  subst this
  decide
def cNewK:Ctr:=Nx [dPl] An6 (fun _=>0) [((exX,()),(s0X,0,()))]
theorem Aoo:GoodC Tryz.prog 40 cNewK:=Hi An7 _ _ fun p hp=>by
 rw [List.mem_singleton] at hp
 subst hp
 exact ⟨trivial,by rw [Aoh]⟩
def cRunK:Ctr:=Nx [dPl,dFs,dIs,dI] An8 (fun y=>y.2.2.1.length) [((exX,s0X,[],3,()),(s1X,[0,0,0],0,())),((exX,s1D,[1],100,()),(s2X,[1,1,1,2,0,1,2,2],0,()))]
theorem Aop:GoodC Tryz.prog 17 cRunK:=Hi Aps _ _ fun p hp=>by
 simp only [List.mem_cons,List.not_mem_nil,or_false] at hp
 rcases hp with rfl | rfl
 ·exact ⟨trivial,by rw [Aoi]⟩
 ·exact ⟨trivial,by rw [Aol]⟩
def cExpK:Ctr:=Nx [dPl,dFs] T4 (fun _=>0) [((exX,s1X,()),([[3,3]],0,()))]
theorem Aoq:GoodC Tryz.prog 27 cExpK:=Hi Ap3 _ _ fun p hp=>by
 rw [List.mem_singleton] at hp
 subst hp
 exact ⟨fun _=>Aon,by rw [Aoj]⟩
def cBegK:Ctr:=Nx [dPl,dFs] Aky (fun _=>0) [((exX,s1X,()),(s1D,0,()))]
theorem Aor:GoodC Tryz.prog 15 cBegK:=Hi Amp _ _ fun p hp=>by
 rw [List.mem_singleton] at hp
 subst hp
 exact ⟨trivial,by rw [Aok]⟩
def cFinK:Ctr:=Nx [dPl,dFs] rB (fun _=>0) [((exX,s2X,()),(true,()))]
theorem Aos:GoodC Tryz.prog 22 cFinK:=Hi App _ _ fun p hp=>by
 rw [List.mem_singleton] at hp
 subst hp
 exact ⟨trivial,by rw [Aom]⟩
def cxhD:Ctx:=⟨Ak2,[(39,([],cEx)),(40,([],cNewK)),(17,([],cRunK)),(27,([],cExpK)),(15,([],cBegK)),(22,([],cFinK)),(20,([],cEq)),(23,([],c14))]⟩
theorem Aed:Ah Tryz.prog cxhD:=C7 (Ae gEx (Ae Aoo (Ae Aop (Ae Aoq (Ae Aor (Ae Aos (Ae gEq (Ae Amb Ag))))))))
def cAwake:Ctr:=fnC [] rB (fun _=>True) (fun _=>(true,()))
set_option maxHeartbeats 8000000 in
theorem Am4:GoodC Tryz.prog 14 cAwake:=by
 refine Ap Aed 4 _ _ _ _ ⟨_,Tryz.func14,rfl,rfl⟩ fun y _=>?_
 refine (aF (aI tT (fun (h0:(List (Int × Int × ExprT × List Int) × List (Int × Int × Int × Int × Int)) × PUnit)=>(fun h1=>(aI (by omega) (aI ?_ (aI ?_ (aI ?_ (aI ?_ (aI (fun h2=>tT) (aI (fun h3=>tT) (aI (fun h4=>tT) (aI (fun h5=>?_) (Aa rfl ?_))))))))))))))
 iterate 5
  ·rw [h1]
 ·rfl
end Go.Proofs.YtckpldpombdkgaaGreat
