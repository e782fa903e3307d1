/- Pipelines. -/
import Derived.Test.YtckpldpombdkgaaGreatCQ2
import Derived.Test.YtckpldpombdkgaaGreatCQ1
import Derived.Test.YtckpldpombdkgaaGreatCP
set_option linter.unusedSimpArgs false
set_option linter.unusedVariables false
set_option maxRecDepth 100000
namespace Go.Proofs.YtckpldpombdkgaaGreat
open Go.Sx
def Aku:FuncId→List AV→List Ob→AV→List Ob→Prop:=fun g args T x1 T1=>∃ (x:PlT) (i:Int) (m:MvT) (ss:List SST) (cs:List Cred) (os:List (List Int)) (dr:Bool),
 okM x i cs m.2.1∧args=[Z8 x,.ptr 0 0,.int .i64 i,Z9 m]∧T=stB ss cs os dr ∧
 ((g=121∧x1=.tup []∧T1=stB ss (Px x i m.2.1 m.2.2.1 cs) os dr) ∨
  (g=120∧(m.2.2.2.1=true→0≤m.2.2.2.2.1∧m.2.2.2.2.1 < stIn (sg x i))∧x1=.int .i64 (Di x cs i m).2∧T1=stB ss (Di x cs i m).1 os dr))
theorem An0:∀ g args T x1 T1,Aku g args T x1 T1→A6 cxqL Tryz.prog (A6 cxqL Tryz.prog noS) g args T T.length (fun x T' n'=>∃ σ,Iy T.length σ [noW x] T' n' ⟨[x1],T1,T1.length⟩):=by
 rintro g args T x1 T1 ⟨⟨st,ps⟩,i,⟨t,o,b1,b2,m1,m2,m3⟩,ss,cs,os,dr,hk,rfl,rfl,⟨rfl,rfl,rfl⟩ | ⟨rfl,hb,rfl,rfl⟩⟩
 ·exact Ahu st ps i t o b1 b2 m1 m2 m3 ss cs os dr hk
 ·exact Ahv st ps i t o b1 b2 m1 m2 m3 ss cs os dr hk hb
theorem Sk:A7 Tryz.prog (Fy Aku):=F1 (Af Uf (Af Uf Bf)) An0
def An1:List (TypeId × Ty):=(30,tFs) :: (31,tIs) :: Adv
theorem O8:Ah Tryz.prog ⟨An1,[]⟩:=fun _ _ _ h=>by simp [Gp] at h
def cClS:Ctr:=fnO [.dat false (.sl tSS)] tSS (fun y=>y.1.length≤1000) (fun y=>y.1)
theorem Aph:GoodC Tryz.prog 116 cClS:=by
 refine goodO O8 3 _ _ _ _ ⟨_,Tryz.func116,rfl,rfl⟩ fun ⟨xs,_⟩ hlen=>?_
 simp only at hlen
 refine (aF (fun h0=>(fun h1=>(aI (fun h2=>(I8 (by simp_all))) (fun h2=>(aO (Lq rfl (by simp_all))))))))
def cClC:Ctr:=fnO [.dat false (.sl A8)] A8 (fun y=>y.1.length≤1000) (fun y=>y.1)
theorem Api:GoodC Tryz.prog 117 cClC:=by
 refine goodO O8 3 _ _ _ _ ⟨_,Tryz.func117,rfl,rfl⟩ fun ⟨xs,_⟩ hlen=>?_
 simp only at hlen
 refine (aF (fun h0=>(fun h1=>(aI (fun h2=>(I8 (by simp_all))) (fun h2=>(aO (Lq rfl (by simp_all))))))))
def cClO:Ctr:=fnO [.dat false Xh] tIs (fun y=>y.1.length≤1000) (fun y=>y.1)
theorem Apj:GoodC Tryz.prog 118 cClO:=by
 refine goodO O8 3 _ _ _ _ ⟨_,Tryz.func118,rfl,rfl⟩ fun ⟨xs,_⟩ hlen=>?_
 simp only at hlen
 refine (aF (fun h0=>(fun h1=>(aI (fun h2=>(I8 (by simp_all))) (fun h2=>(aO (Lq rfl (by simp_all))))))))
def cxqJ:Ctx:=⟨An1,[(30,([],cVal)),(59,([],cEnab)),(84,([],cWi)),(64,([],cSinks)),
 (116,([],cClS)),(117,([],cClC)),(118,([],cClO)),(119,([],cCl))]⟩
theorem Uh:Ah Tryz.prog cxqJ:=C7 (Ae Aj0 (Ae Akt (Ae gWi (Ae Z0 (Ae Aph (Ae Api (Ae Apj (Ae gCl Ag))))))))
section
variable {x:PlT} {s:FsT} {i:Int}
theorem Apk (h:Cv x s≠0):Du x s i=(zFs,Cv x s):=if_pos h
theorem Apl (h:Cv x s=0) (h1:¬ (0≤i∧i < x.1.length)):Du x s i=(zFs,2):=(if_neg (fun h'=>h' h)).trans (if_pos h1)
variable (h:Cv x s=0) (h1:0≤i∧i < x.1.length)
include h h1
theorem Apm (h2:(Bk x s i).2=false):Du x s i=(zFs,25):=(if_neg (fun h'=>h' h)).trans ((if_neg (fun h'=>h' h1)).trans (if_pos h2))
variable (h2:(Bk x s i).2=true)
include h2
theorem Apn (h3:(Bk x s i).1.2.2.2.2.2.2≠0):Du x s i=(zFs,(Bk x s i).1.2.2.2.2.2.2):=(if_neg (fun h'=>h' h)).trans ((if_neg (fun h'=>h' h1)).trans ((if_neg (fun h'=>Bool.false_ne_true (h'.symm.trans h2))).trans (if_pos h3)))
variable (h3:(Bk x s i).1.2.2.2.2.2.2=0)
include h3
theorem An2:Du x s i=if Zv x i (Bk x s i).1=true∧(s.2.2.1.getD (Sd x i) []).length=200 then (zFs,4)
 else if (Di x s.2.1 i (Bk x s i).1).2≠0 then (zFs,(Di x s.2.1 i (Bk x s i).1).2)
 else ((s.1.set i.toNat (Bk x s i).1.1,Px x i (Bk x s i).1.2.1 (Bk x s i).1.2.2.1 (Di x s.2.1 i (Bk x s i).1).1,Se x i (Bk x s i).1 s.2.2.1,s.2.2.2),0) :=
 (if_neg (fun h'=>h' h)).trans ((if_neg (fun h'=>h' h1)).trans ((if_neg (fun h'=>Bool.false_ne_true (h'.symm.trans h2))).trans (if_neg (fun h'=>h' h3))))
theorem Akv:Mv x s i (Bk x s i).1:=by
 have h2:((Cy x s i).2 && (!decide ((Cy x s i).1.2.2.2.2.2.2=0) || Fj x s i (Cy x s i).1.2.1))=true:=h2
 rw [Bool.and_eq_true] at h2
 exact Abv (Cg.1 h).2 h1.1 h1.2 h2.1 h3
theorem Akw:okM x i s.2.1 (Bk x s i).1.2.1:=by
 have m:=Akv h h1 h2 h3
 have v:=(Cg.1 h).2
 have:=m.len
 have:=(N4 (sg x i)).2.2.2
 exact ⟨(Cg.1 h).1,h1,v.lc,by omega⟩
theorem Akx (ht:(Bk x s i).1.2.2.2.1=true):0≤(Bk x s i).1.2.2.2.2.1∧(Bk x s i).1.2.2.2.2.1 < stIn (sg x i):=by
 have m:=(Akv h h1 h2 h3).tk ht
 exact ⟨m.1,m.2.1⟩
end
theorem An3 {x:PlT} {s:FsT} {i:Int} (h:Cv x s=0) (h1:0≤i∧i < x.1.length) (_:(Bk x s i).2=true) (_:(Bk x s i).1.2.2.2.2.2.2=0) (hs:(sg x i).1=10):0≤Bq (x.1.take i.toNat)∧Bq (x.1.take i.toNat) < s.2.2.1.length∧s.2.2.1.length≤16:=by
 obtain ⟨w,v⟩:=Cg.1 h
 have hlo:=v.lo
 have:(x.1.take i.toNat).countP isSink < x.1.countP isSink:=O3 isSink x.1 i.toNat zStg (by omega) (decide_eq_true hs)
 have h16:x.1.countP isSink≤x.1.length:=List.countP_le_length
 have:=w.n16
 unfold Bq at hlo ⊢
 omega
theorem nt_f {b:Bool} (h:(!b)=true):b=false:=by cases b <;> first | rfl | cases h
def Aab (st:List StT) (os:List (List Int)) (i v:Int):List (List Int):=os.set (Bq (st.take i.toNat)).toNat (os.getD (Bq (st.take i.toNat)).toNat []++[v])
@[reducible] def Apo:List (Bool × Ty):=[(true,tFs),(false,tI)]
def cStep:Ctr:=fnC [dPl,dFs,dI] Apo (fun _=>True) (fun y=>((Du y.1 y.2.1 y.2.2.1).1,(Du y.1 y.2.1 y.2.2.1).2,()))
set_option maxHeartbeats 16000000 in
theorem An4:GoodC Tryz.prog 75 cStep:=by
 refine Vb (Af Uh (Cs (g0:=120) Sk (Cs (g0:=121) Sk (Af Uh Bf)))) _ _ _ _ ⟨_,Tryz.func75,rfl,rfl⟩ fun (⟨⟨st,ps⟩,⟨ss,cs,os,dr⟩,i,_⟩ : PlT × FsT × Int × Unit) _=>?_
 have T:∀ {m:FsT × Int},Du (st,ps) (ss,cs,os,dr) i=m→((Du (st,ps) (ss,cs,os,dr) i).1,(Du (st,ps) (ss,cs,os,dr) i).2,())=(m.1,m.2,()):=fun h=>by rw [h]
 have hZ:(!decide (Cv (st,ps) (ss,cs,os,dr)=0))=false→Cv (st,ps) (ss,cs,os,dr)=0:=fun h=>of_decide_eq_true (Bw h)
 have hI:(!inR i 0 ((st.length:Int) - 1))=false→0≤i∧i < st.length:=fun h=>Abx (Bw h)
 have hL:(!decide (Cv (st,ps) (ss,cs,os,dr)=0))=false→ss.length≤1000∧cs.length≤1000∧os.length≤1000:=fun h=>by
  obtain ⟨w,v⟩:=Cg.1 (hZ h)
  have a1:ss.length=st.length:=v.ls
  have a2:cs.length=ps.length:=v.lc
  have a3:(os.length:Int)=Bq st:=v.lo
  have a4:st.length≤16:=w.n16
  have a5:ps.length≤32:=w.p32
  have a6:st.countP isSink≤st.length:=List.countP_le_length
  unfold Bq at a3
  omega
 refine (aF (aI tT (aI (fun h0=>(Aa rfl ?_)) (fun h0=>(fun h1=>(aO (aI tT (aI (fun h2=>(Aa rfl ?_)) (fun h2=>(aI ?_ (fun (h3:((List Int × Int × Bool) × List (List Int) × Bool × Bool × Int × Int × Int) × Bool × PUnit)=>(fun h4=>(aI (fun h5=>(Aa rfl ?_)) (fun h5=>(aI (fun h6=>(aK (aC (aB (Aa rfl ?_))))) (fun h6=>(aF (aO (aO (aO (aI ?_ (aI (fun h7=>(aI ?_ (aI tT (aI ?_ (fun h8=>(aI (fun h9=>(Aa rfl ?_)) (fun h9=>(aF (aI ?_ (aI ?_ (aI ?_ (aI ?_ (aI tT ?_))))))))))))) (fun h7=>(aI tT ?_))))))))))))))))))))))))
 ·exact T (Apk (fun h=>by have h0:(!decide (Cv (st,ps) (ss,cs,os,dr)=0))=true:=h0;rw [h] at h0;cases h0))
 ·refine T (Apl (hZ h0) (fun h=>?_))
  have h2:(!inR i 0 ((st.length:Int) - 1))=true:=h2
  have h:0≤i∧i < st.length:=h
  rw [Lx.2 (show 0≤i∧i≤(st.length:Int) - 1 by omega)] at h2
  cases h2
 ·exact ⟨(Cg.1 (hZ h0)).1,(Cg.1 (hZ h0)).2,hI h2⟩
 ·rw [h4] at h5
  exact T (Apm (hZ h0) (hI h2) (nt_f h5))
 ·rw [h4] at h5 h6 ⊢
  exact T (Apn (hZ h0) (hI h2) (Bw h5) (fun h=>by have h6:(!decide ((Bk (st,ps) (ss,cs,os,dr) i).1.2.2.2.2.2.2=0))=true:=h6;rw [h] at h6;cases h6))
 ·exact hI h2
 rotate_right
 ·have e3:h3.1=(Bk (st,ps) (ss,cs,os,dr) i).1:=by rw [h4]
  have hE:(Bk (st,ps) (ss,cs,os,dr) i).2=true:=by rw [h4] at h5;exact Bw h5
  have h60:(Bk (st,ps) (ss,cs,os,dr) i).1.2.2.2.2.2.2=0:=by rw [h4] at h6;exact of_decide_eq_true (Bw h6)
  have hok:=Akw (hZ h0) (hI h2) hE h60
  have htk:=Akx (hZ h0) (hI h2) hE h60
  have hb:=An2 (hZ h0) (hI h2) hE h60
  have hls:ss.length=st.length:=(Cg.1 (hZ h0)).2.ls
  have hiN:=hI h2
  have hns:Zv (st,ps) i (Bk (st,ps) (ss,cs,os,dr) i).1=false:=by
   rw [← e3]
   have h7:(bif decide ((st.getD i.toNat (Ab tSt)).1=10) then h3.1.2.2.2.1 else false)=false:=h7
   show (decide ((st.getD i.toNat (Ab tSt)).1=10) && h3.1.2.2.2.1)=false
   cases hd:decide ((st.getD i.toNat (Ab tSt)).1=10)
   ·rfl
   ·rw [hd] at h7;exact h7
  rw [← e3] at hok htk hb hns
  rw [if_neg (fun h=>Bool.false_ne_true (hns.symm.trans h.1)),show Se (st,ps) i h3.1 os=os from if_neg (fun h=>Bool.false_ne_true (hns.symm.trans h))] at hb
  clear h0 h1 h2 h4 h5 h6 h7 e3 hE h60 hns
  refine eI [Z8 (st,ps),.ptr 0 0,.int .i64 i,Z9 h3.1] (eI (stB ss cs os dr) (eI (.int .i64 (Di (st,ps) cs i h3.1).2) (eI (stB ss (Di (st,ps) cs i h3.1).1 os dr) (eI [some 1,some 4,some 5,some 6]
   ⟨⟨(st,ps),i,h3.1,ss,cs,os,dr,hok,rfl,rfl,.inr ⟨rfl,htk,rfl,rfl⟩⟩,⟨by rfl,by rfl,⟨⟨by rfl,by rfl⟩,by rfl,by rfl,by rfl,trivial⟩,by rfl⟩,by rfl, ?_⟩))))
  dsimp only [stB,Ep,Ce,D5,Cx,Ev,Bo,Am,G8,List.length_cons,List.length_nil,List.cons_append,List.nil_append,Nat.reduceAdd,Nat.reduceSub]
  have hcl:(Di (st,ps) cs i h3.1).1.length=ps.length:=by
   have:cs.length=ps.length:=hok.2.2.1
   unfold Di
   split
   ·exact this
   ·rw [List.length_set];exact this
  refine (aI (fun w0=>(Aa rfl ?_)) (fun w0=>(aI (by omega) (aI tT ?_))))
  ·exact T (hb.trans (if_pos (fun h=>by have w0:(!decide ((Di (st,ps) cs i h3.1).2=0))=true:=w0;rw [h] at w0;cases w0)))
  rw [if_neg (fun h=>h (of_decide_eq_true (Bw w0)))] at hb
  clear w0
  refine eI [Z8 (st,ps),.ptr 0 0,.int .i64 i,Z9 h3.1] (eI (stB (ss.set i.toNat h3.1.1) (Di (st,ps) cs i h3.1).1 os dr) (eI (.tup []) (eI (stB (ss.set i.toNat h3.1.1) (Px (st,ps) i h3.1.2.1 h3.1.2.2.1 (Di (st,ps) cs i h3.1).1) os dr) (eI [some 1,some 4,some 5,some 6]
   ⟨⟨(st,ps),i,h3.1,ss.set i.toNat h3.1.1,(Di (st,ps) cs i h3.1).1,os,dr,⟨hok.1,hok.2.1,hcl,hok.2.2.2⟩,rfl,rfl,.inl ⟨rfl,rfl,rfl⟩⟩,⟨by rfl,by rfl,⟨⟨by rfl,by rfl⟩,by rfl,by rfl,by rfl,trivial⟩,by rfl⟩,by rfl, ?_⟩))))
  dsimp only [stB,Ep,Ce,D5,Cx,Ev,Bo,Am,G8,List.length_cons,List.length_nil,List.cons_append,List.nil_append,Nat.reduceAdd,Nat.reduceSub]
  refine (Aa rfl ?_)
  ·exact T hb
 all_goals
  have e3:h3.1=(Bk (st,ps) (ss,cs,os,dr) i).1:=by rw [h4]
  have hE:(Bk (st,ps) (ss,cs,os,dr) i).2=true:=by rw [h4] at h5;exact Bw h5
  have h60:(Bk (st,ps) (ss,cs,os,dr) i).1.2.2.2.2.2.2=0:=by rw [h4] at h6;exact of_decide_eq_true (Bw h6)
  have hok:=Akw (hZ h0) (hI h2) hE h60
  have htk:=Akx (hZ h0) (hI h2) hE h60
  have hb:=An2 (hZ h0) (hI h2) hE h60
  have hls:ss.length=st.length:=(Cg.1 (hZ h0)).2.ls
  have hos:=(Cg.1 (hZ h0)).2.os
  have hiN:=hI h2
  have h7:(bif decide ((st.getD i.toNat (Ab tSt)).1=10) then h3.1.2.2.2.1 else false)=true:=h7
  have h10:=Vu h7
  have hsn:=An3 (hZ h0) (hI h2) hE h60 (of_decide_eq_true h10.1)
  replace hsn:0≤Bq (st.take i.toNat)∧Bq (st.take i.toNat) < os.length∧os.length≤16:=hsn
  have hs:Zv (st,ps) i h3.1=true:=by
   show (decide ((st.getD i.toNat (Ab tSt)).1=10) && h3.1.2.2.2.1)=true
   rw [h10.1,h10.2];rfl
  have hl2:(os.getD (Bq (st.take i.toNat)).toNat []).length≤200:=by
   have hlt:(Bq (st.take i.toNat)).toNat < os.length:=by omega
   have:=hos (os.getD (Bq (st.take i.toNat)).toNat []) (by rw [Bt hlt];exact List.getElem_mem hlt)
   unfold H0 at this
   have:=of_decide_eq_false (Bool.or_eq_false_iff.1 this).1
   omega
  rw [← e3] at hok htk hb
  clear e3 hE h60 hos h10
  first
  | exact ⟨hiN.1,Int.le_of_lt hiN.2⟩
  | exact ⟨hsn.1,hsn.2.1⟩
  | exact Nat.le_trans hl2 (by decide)
  | exact T (hb.trans (if_pos ⟨hs,by have:=of_decide_eq_true h9;show (os.getD (Bq (st.take i.toNat)).toNat []).length=200;exact Int.ofNat_inj.1 this⟩))
  | (show ((os.getD (Bq (st.take i.toNat)).toNat []).length+1) * 8≤lim;unfold lim;omega)
  | skip
 have h9:¬ (os.getD (Bq (st.take i.toNat)).toNat []).length=200:=fun h=>of_decide_eq_false h9 (Int.ofNat_inj.2 h)
 rw [if_neg (fun h=>h9 h.2),show Se (st,ps) i h3.1 os=Aab st os i h3.1.2.2.2.2.2.1 from if_pos hs] at hb
 clear h0 h1 h2 h4 h5 h6 h7 hs h9 hl2 hsn
 refine eI [Z8 (st,ps),.ptr 0 0,.int .i64 i,Z9 h3.1] (eI (stB ss cs (Aab st os i h3.1.2.2.2.2.2.1) dr) (eI (.int .i64 (Di (st,ps) cs i h3.1).2) (eI (stB ss (Di (st,ps) cs i h3.1).1 (Aab st os i h3.1.2.2.2.2.2.1) dr) (eI [some 1,some 4,some 5,some 6]
  ⟨⟨(st,ps),i,h3.1,ss,cs,Aab st os i h3.1.2.2.2.2.2.1,dr,hok,rfl,rfl,.inr ⟨rfl,htk,rfl,rfl⟩⟩,⟨by rfl,by rfl,⟨⟨by rfl,by rfl⟩,by rfl,by rfl,by rfl,trivial⟩,by rfl⟩,by rfl, ?_⟩))))
 dsimp only [stB,Ep,Ce,D5,Cx,Ev,Bo,Am,G8,List.length_cons,List.length_nil,List.cons_append,List.nil_append,Nat.reduceAdd,Nat.reduceSub]
 have hcl:(Di (st,ps) cs i h3.1).1.length=ps.length:=by
  have:cs.length=ps.length:=hok.2.2.1
  unfold Di
  split
  ·exact this
  ·rw [List.length_set];exact this
 refine (aI (fun w0=>(Aa rfl ?_)) (fun w0=>(aI (by omega) (aI tT ?_))))
 ·exact T (hb.trans (if_pos (fun h=>by have w0:(!decide ((Di (st,ps) cs i h3.1).2=0))=true:=w0;rw [h] at w0;cases w0)))
 rw [if_neg (fun h=>h (of_decide_eq_true (Bw w0)))] at hb
 clear w0
 refine eI [Z8 (st,ps),.ptr 0 0,.int .i64 i,Z9 h3.1] (eI (stB (ss.set i.toNat h3.1.1) (Di (st,ps) cs i h3.1).1 (Aab st os i h3.1.2.2.2.2.2.1) dr) (eI (.tup []) (eI (stB (ss.set i.toNat h3.1.1) (Px (st,ps) i h3.1.2.1 h3.1.2.2.1 (Di (st,ps) cs i h3.1).1) (Aab st os i h3.1.2.2.2.2.2.1) dr) (eI [some 1,some 4,some 5,some 6]
  ⟨⟨(st,ps),i,h3.1,ss.set i.toNat h3.1.1,(Di (st,ps) cs i h3.1).1,Aab st os i h3.1.2.2.2.2.2.1,dr,⟨hok.1,hok.2.1,hcl,hok.2.2.2⟩,rfl,rfl,.inl ⟨rfl,rfl,rfl⟩⟩,⟨by rfl,by rfl,⟨⟨by rfl,by rfl⟩,by rfl,by rfl,by rfl,trivial⟩,by rfl⟩,by rfl, ?_⟩))))
 dsimp only [stB,Ep,Ce,D5,Cx,Ev,Bo,Am,G8,List.length_cons,List.length_nil,List.cons_append,List.nil_append,Nat.reduceAdd,Nat.reduceSub]
 refine (Aa rfl ?_)
 ·exact T hb
@[reducible] def Aky:List (Bool × Ty):=[(true,tFs),(false,tI)]
def cxqK:Ctx:=⟨O7,[(41,([],cDVal))]⟩
theorem O9:Ah Tryz.prog cxqK:=C7 (Ae Ahr Ag)
theorem Akz {n:Int} (h:(!decide (n=0))=true):n≠0:=fun h'=>by rw [h'] at h;cases h
theorem Ahw {n:Int} (h:(!decide (n=0))=false):n=0:=of_decide_eq_true (Bw h)
def cBegin:Ctr:=fnC [dPl,dFs] Aky (fun _=>True) (fun y=>((Vs y.1 y.2.1).1,(Vs y.1 y.2.1).2,()))
theorem Amp:GoodC Tryz.prog 15 cBegin:=by
 refine Ap O9 3 _ _ _ _ ⟨_,Tryz.func15,rfl,rfl⟩ fun (⟨⟨st,ps⟩,⟨ss,cs,os,dr⟩,_⟩ : PlT × FsT × Unit) _=>?_
 refine (aF (aI tT (aI (fun h0=>(Aa rfl ?_)) (fun h0=>(aI (fun h1=>(Aa rfl ?_)) (fun h1=>(Aa rfl ?_)))))))
 all_goals unfold Vs
 ·rw [if_pos (Akz h0)]
 ·rw [if_neg (fun h=>h (Ahw h0)),if_pos h1]
 ·rw [if_neg (fun h=>h (Ahw h0)),if_neg (fun h=>Bool.false_ne_true (h1.symm.trans h))]
def cBufd:Ctr:=fnC [dPl,dFs] rII (fun _=>True) (fun y=>((Mu y.1 y.2.1).1,(Mu y.1 y.2.1).2,()))
theorem An5:GoodC Tryz.prog 29 cBufd:=by
 refine Ap O9 3 _ _ _ _ ⟨_,Tryz.func29,rfl,rfl⟩ fun (⟨⟨st,ps⟩,⟨ss,cs,os,dr⟩,_⟩ : PlT × FsT × Unit) _=>?_
 refine (aF (aI tT (aI (fun h0=>(Aa rfl ?_)) (fun h0=>(fun h1=>?_)))))
 ·unfold Mu
  rw [if_pos (Akz h0)]
 have hz:=Ahw h0
 obtain ⟨w,v⟩:=Cg.1 hz
 have hlc:cs.length=ps.length:=v.lc
 have hp32:ps.length≤32:=w.p32
 have p1:Mu (st,ps) (ss,cs,os,dr)=(cs.foldl (fun n c=>n+(c.2.2.2.2.1.length:Int)) 0,0):=if_neg (fun h=>h hz)
 have hit:∀ k:Nat,k < cs.length→((cs.getD (k:Int).toNat (Ab A8)).2.2.2.2.1.length:Int)≤100:=fun k hk=>by
  have:=Dh (Fm.1 (v.cr k (show k < ps.length by omega))).1
  have h2:Bp (cs.getD k A9)=0:=(Fm.1 (v.cr k (show k < ps.length by omega))).1
  have:=Dh h2
  show ((cs.getD k A9).2.2.2.2.1.length:Int)≤100
  omega
 refine ex4 _ (fun p:Nat × Int=>⟨[.any,.any,.any,.ptr 1 0,.any,.any,.int .i64 p.2,.any,.any,.any,.any,.any,.any,.ptr 1 1,.sl A8 cs,.int .i64 (↑cs.length:Int),.int .i64 (p.1:Int),.any,.any,.any,.any,.any,.any,.any,.any,.any,.any],[.cells [.sl tSt st,.sl A3 ps],.cells [.sl tSS ss,.sl A8 cs,.sl (.sl (.int .i64)) os,.bool dr]],2⟩) (fun p=>p.1≤cs.length∧p.2=(cs.take p.1).foldl (fun n c=>n+(c.2.2.2.2.1.length:Int)) 0∧0≤p.2∧p.2≤100 * p.1) (fun p=>cs.length - p.1) (aI (eI ((0,0)) (eI ([some 0,some 1]) (aI ?_ (aB (aI (aI (aA (by rfl)) (aI (aA (by rfl)) tT)) (by rfl)))))) ?_)
 ·exact ⟨Nat.zero_le _,rfl,Int.le_refl 0,Int.le_refl 0⟩
 rintro ⟨k,n⟩ ⟨hk,hn,hn0,hn1⟩
 replace hk:k≤cs.length:=hk
 replace hn:n=(cs.take k).foldl (fun n c=>n+(c.2.2.2.2.1.length:Int)) 0:=hn
 replace hn0:0≤n:=hn0
 replace hn1:n≤100 * (k:Int):=hn1
 have hlt:decide ((k:Int) < (cs.length:Int))=true→k < cs.length:=fun h=>by have:=of_decide_eq_true h;omega
 have hs:k < cs.length→(cs.take (k+1)).foldl (fun n c=>n+(c.2.2.2.2.1.length:Int)) 0=n+((cs.getD (k:Int).toNat (Ab A8)).2.2.2.2.1.length:Int):=fun h=>by
  rw [List.take_succ_eq_append_getElem h,List.foldl_append,← hn,← Bt (d:=A9) h];rfl
 refine (aI (fun m0=>(aO (fun m1=>(aI ?_ (aO ?_))))) (fun m0=>(Aa rfl ?_)))
 ·have:=hit k (hlt m0)
  have:=hlt m0
  show -9223372036854775808≤n+((cs.getD (k:Int).toNat (Ab A8)).2.2.2.2.1.length:Int)∧n+((cs.getD (k:Int).toNat (Ab A8)).2.2.2.2.1.length:Int)≤9223372036854775807
  omega
 ·have h1:=hit k (hlt m0)
  have h2:=hlt m0
  have h3:=hs h2
  clear m0 m1
  refine eI ((k+1,n+((cs.getD (k:Int).toNat (Ab A8)).2.2.2.2.1.length:Int))) (eI ([some 0,some 1]) (aI ?_ (aI ?_ (aB (aI (aI (aA (by rfl)) (aI (aA (by rfl)) tT)) (by rfl))))))
  ·refine ⟨h2,h3.symm, ?_, ?_⟩
   ·show 0≤n+((cs.getD (k:Int).toNat (Ab A8)).2.2.2.2.1.length:Int)
    omega
   ·show n+((cs.getD (k:Int).toNat (Ab A8)).2.2.2.2.1.length:Int)≤100 * ((k+1:Nat):Int)
    omega
  ·show cs.length - (k+1) < cs.length - k
   omega
 ·have hk2:k=cs.length:=by
   have:¬ (k:Int) < (cs.length:Int):=of_decide_eq_false m0
   omega
  rw [p1,hn,hk2,List.take_length]
def cFin:Ctr:=fnC [dPl,dFs] rB (fun _=>True) (fun y=>(Ag9 y.1 y.2.1,()))
theorem App:GoodC Tryz.prog 22 cFin:=by
 refine Ap O9 5 _ _ _ _ ⟨_,Tryz.func22,rfl,rfl⟩ fun (⟨⟨st,ps⟩,⟨ss,cs,os,dr⟩,_⟩ : PlT × FsT × Unit) _=>?_
 refine (aF (aI tT (aI (fun h0=>(aF (aF (fun h1=>?_)))) (fun h0=>(Aa rfl ?_)))))
 ·have hz:Cv (st,ps) (ss,cs,os,dr)=0:=of_decide_eq_true h0
  have p1:Ag9 (st,ps) (ss,cs,os,dr)=ss.all (fun t=>t.2.2):=by
   show (decide (Cv (st,ps) (ss,cs,os,dr)=0) && ss.all (fun t=>t.2.2))=_
   rw [decide_eq_true hz];rfl
  refine ex4 _ (fun j:Nat=>⟨[.sl tSS ss,.fn (Fn.func 54) [] [],.any,.any,.any,.any,.sl tSS ss,.int .i64 (↑ss.length:Int),.int .i64 (j:Int),.any,.any,.any,.any,.any,.any,.any,.any,.any,.any],[.cells [.sl tSt st,.sl A3 ps],.cells [.sl tSS ss,.sl A8 cs,.sl (.sl (.int .i64)) os,.bool dr]],2⟩) (fun j=>j≤ss.length∧(ss.take j).all (fun t=>t.2.2)=true) (fun j=>ss.length - j) (aI (eI (0) (eI ([some 0,some 1]) (aI ?_ (aB (aI (aI (aA (by rfl)) (aI (aA (by rfl)) tT)) (by rfl)))))) ?_)
  ·exact ⟨Nat.zero_le _,rfl⟩
  rintro j ⟨hj,hc⟩
  have hlt:decide ((j:Int) < (ss.length:Int))=true→j < ss.length:=fun h=>by have:=of_decide_eq_true h;omega
  refine (aI (fun k0=>(aO (aF (aI (fun k1=>(Aa rfl ?_)) (fun k1=>(aO ?_)))))) (fun k0=>(Aa rfl ?_)))
  ·show (Ag9 (st,ps) (ss,cs,os,dr),())=(bif decide (Cv (st,ps) (ss,cs,os,dr)=0) then !decide (0≤(j:Int)) else false,())
   rw [decide_eq_true hz,decide_eq_true (Int.natCast_nonneg j),p1]
   have hj1:=hlt k0
   have:ss.all (fun t=>t.2.2)=false:=by
    cases hb:ss.all (fun t=>t.2.2)
    ·rfl
    ·have h2:=List.all_eq_true.1 hb (ss.getD j ([],0,false)) (by rw [Bt hj1];exact List.getElem_mem hj1)
     have k1:(!(ss.getD j ([],0,false)).2.2)=true:=k1
     rw [h2] at k1;cases k1
   rw [this];rfl
  ·have hj1:=hlt k0
   have k1:(!(ss.getD j ([],0,false)).2.2)=false:=k1
   clear k0
   refine eI (j+1) (eI ([some 0,some 1]) (aI ?_ (aI ?_ (aB (aI (aI (aA (by rfl)) (aI (aA (by rfl)) tT)) (by rfl))))))
   ·refine ⟨hj1, ?_⟩
    rw [List.take_succ_eq_append_getElem hj1,List.all_append,hc,Bool.true_and,List.all_cons,List.all_nil,Bool.and_true,← Bt (d:=([],0,false)) hj1]
    exact Bw k1
   ·show ss.length - (j+1) < ss.length - j
    omega
  ·show (Ag9 (st,ps) (ss,cs,os,dr),())=(bif decide (Cv (st,ps) (ss,cs,os,dr)=0) then !decide ((0:Int)≤-1) else false,())
   have hj1:¬ (j:Int) < (ss.length:Int):=of_decide_eq_false k0
   rw [List.take_of_length_le (by omega)] at hc
   rw [decide_eq_true hz,p1,hc];rfl
 ·have hz:¬ Cv (st,ps) (ss,cs,os,dr)=0:=of_decide_eq_false h0
  show (decide (Cv (st,ps) (ss,cs,os,dr)=0) && ss.all (fun t=>t.2.2),())=(bif decide (Cv (st,ps) (ss,cs,os,dr)=0) then !false else false,())
  rw [decide_eq_false hz];rfl
def Apq:List (TypeId × Ty):=(30,tFs) :: (31,tIs) :: O7
def cxqN:Ctx:=⟨Apq,[(51,([],cPChk)),(64,([],cSinks)),(65,([],cFNew)),(66,([],cFReq))]⟩
theorem Ady:Ah Tryz.prog cxqN:=C7 (Ae Aho (Ae Z0 (Ae Ant (Ae Akq Ag))))
@[reducible] def An6:List (Bool × Ty):=[(true,tFs),(false,tI)]
def cPNew:Ctr:=fnC [dPl] An6 (fun _=>True) (fun y=>((Ag8 y.1).1,(Ag8 y.1).2,()))
set_option maxHeartbeats 8000000 in
theorem An7:GoodC Tryz.prog 40 cPNew:=by
 refine Ap Ady 3 _ _ _ _ ⟨_,Tryz.func40,rfl,rfl⟩ fun (⟨⟨st,ps⟩,_⟩ : PlT × Unit) _=>?_
 have hN:(!decide (It (st,ps)=0))=false→st.length≤16∧ps.length≤32∧0≤Bq st∧Bq st≤16:=fun h=>by
  have w:=Kz.1 (of_decide_eq_true (Bw h))
  have a1:st.length≤16:=w.n16
  have a2:ps.length≤32:=w.p32
  have a3:st.countP isSink≤st.length:=List.countP_le_length
  unfold Bq
  omega
 refine (aF (aI tT (aI (fun h0=>(Aa rfl ?_)) (fun h0=>(aF (aI (fun h1=>(by intros;(try subst_vars);(try simp only [nB] at *);(try simp only [inK,big,lim,nL] at *);omega)) (aI tT (aO (fun h2=>(fun h3=>?_))))))))))
 ·unfold Ag8
  rw [if_pos (fun h=>by have h0:(!decide (It (st,ps)=0))=true:=h0;rw [h] at h0;cases h0)]
 have p1:Ag8 (st,ps)=((List.replicate st.length ([],0,false),ps.map newC,List.replicate (Bq st).toNat [],false),0):=if_neg (fun h=>h (of_decide_eq_true (Bw h0)))
 have hp32:=(hN h0).2.1
 clear hN h0
 refine ex4 _ (fun p:Nat × List Cred=>⟨[.any,.ptr 0 0,.ptr 1 0,.any,.any,.ptr 4 0,.any,.any,.any,.any,.any,.any,.any,.any,.any,.any,.any,.any,.any,.any,.any,.any,.any,.any,.any,.ptr 0 1,.sl A3 ps,.int .i64 (↑ps.length:Int),.int .i64 (p.1:Int)]++nA 24,[.cells [.sl tSt st,.sl A3 ps],.cells [.cap0,.cap0,.cap0,.bool false],.rows tSS (List.replicate (↑st.length:Int).toNat ([],0,false)),.rows tIs (List.replicate (Bq st).toNat []),.cells [.own 2,.own 5,.own 3,.bool false],.rows A8 p.2],6⟩) (fun p=>p.1≤ps.length∧p.2=(ps.take p.1).map newC) (fun p=>ps.length - p.1) (aI (eI ((0,[])) (eI ([some 0,some 1,some 2,some 3,some 4,none]) (aI ?_ (aB (aI (aI (aA (by rfl)) (aI (aA (by rfl)) (aB (aI (aA (by rfl)) (aA tT))))) (by rfl)))))) ?_)
 ·exact ⟨Nat.zero_le _,rfl⟩
 rintro ⟨k,l⟩ ⟨hk,hl⟩
 replace hk:k≤ps.length:=hk
 replace hl:l=(ps.take k).map newC:=hl
 have hle:l.length≤32:=by rw [hl,List.length_map,List.length_take];omega
 have hlt:decide ((k:Int) < (ps.length:Int))=true→k < ps.length:=fun h=>by have:=of_decide_eq_true h;omega
 have hs:k < ps.length→(ps.take (k+1)).map newC=l++[newC (ps.getD (k:Int).toNat (Ab A3))]:=fun h=>by
  rw [List.take_succ_eq_append_getElem h,List.map_append,hl]
  show _++[newC ps[k]]=_++[newC (ps.getD k Aw)]
  rw [Bt h]
 refine (aI (fun m0=>(aO (aI tT (fun (m1:(Int × Int × Int × Int × List Int × Bool) × Int × PUnit)=>(fun m2=>(aI tT (fun (m3:(Int × Int × Int × Int × List Int × Bool) × Int × PUnit)=>(fun m4=>(aO (aO ?_)))))))))) (fun m0=>(Aa rfl ?_)))
 ·have hk1:=hlt m0
  have h1:=hs hk1
  rw [m2] at m4
  have h5:m3.1=newC (ps.getD (k:Int).toNat (Ab A3)):=by rw [m4];rfl
  rw [← h5] at h1
  clear m0 m2 m4 hs h5
  refine eI ((k+1,l++[m3.1])) (eI ([some 0,some 1,some 2,some 3,some 4,some 9]) (aI ?_ (aI ?_ (aB (aI (aI (aA (by rfl)) (aI (aA (by rfl)) (aB (aI (aA (by rfl)) (aA tT))))) (by rfl))))))
  ·exact ⟨hk1,h1.symm⟩
  ·show ps.length - (k+1) < ps.length - k
   omega
 ·have hk2:k=ps.length:=by
   have:¬ (k:Int) < (ps.length:Int):=of_decide_eq_false m0
   omega
  rw [hk2,List.take_length] at hl
  rw [p1,hl];rfl
def Apr:List (TypeId × Ty):=(30,tFs) :: O7
def cxqO:Ctx:=⟨Apr,[(41,([],cDVal)),(28,([],cEnabled)),(75,([],cStep))]⟩
theorem Adz:Ah Tryz.prog cxqO:=C7 (Ae Ahr (Ae Ahs (Ae An4 Ag)))
@[reducible] def An8:List (Bool × Ty):=[(true,tFs),(false,tIs),(false,tI)]
theorem Ahx (v:Int) {n:Nat} (h:n≠0):-(n:Int) < v.tmod n∧v.tmod n < n∧0≤(v.tmod n+n).tmod n∧(v.tmod n+n).tmod n < n:=by
 have hn:(0:Int) < n:=by omega
 have h1:=Int.lt_tmod_of_pos v hn
 have h2:=Int.tmod_lt_of_pos v hn
 exact ⟨h1,h2,Int.tmod_nonneg _ (by omega),Int.tmod_lt_of_pos _ hn⟩
theorem Amq {l:List Int} {k:Nat} {n:Int} (h:l.length=0):Sf l k n=0:=if_pos h
theorem Amr {l:List Int} {k:Nat} {n:Int} (h:l.length≠0):Sf l k n=((l.getD ((k:Int).tmod (l.length:Int)).toNat 0).tmod n+n).tmod n:=if_neg h
def cRun:Ctr:=fnC [dPl,dFs,dIs,dI] An8 (fun _=>True) (fun y=>((Sg y.1 y.2.1 y.2.2.1 y.2.2.2.1).1,(Sg y.1 y.2.1 y.2.2.1 y.2.2.2.1).2.1,(Sg y.1 y.2.1 y.2.2.1 y.2.2.2.1).2.2,()))
set_option maxHeartbeats 8000000 in
theorem Aps:GoodC Tryz.prog 17 cRun:=by
 refine Ap Adz 8 _ _ _ _ ⟨_,Tryz.func17,rfl,rfl⟩ fun (⟨⟨st,ps⟩,⟨ss,cs,os,dr⟩,l,m,_⟩ : PlT × FsT × List Int × Int × Unit) _=>?_
 refine (aF (aI tT (aI (fun h0=>(Aa rfl ?_)) (fun h0=>(aI (fun h1=>(Aa rfl ?_)) (fun h1=>(aF (aF (aF (aF (aF (aF ?_))))))))))))
 ·have h:Cv (st,ps) (ss,cs,os,dr)≠0:=fun h=>by
   have h0:(!decide (Cv (st,ps) (ss,cs,os,dr)=0))=true:=h0
   rw [h] at h0;cases h0
  unfold Sg
  rw [if_pos h]
 ·unfold Sg
  rw [if_neg (fun h=>h (of_decide_eq_true (Bw h0))),if_pos (Ahk h1)]
 have hz:Cv (st,ps) (ss,cs,os,dr)=0:=of_decide_eq_true (Bw h0)
 have hm:=Vv h1
 replace hm:¬ (m < 0∨10000 < m):=hm
 have p1:Sg (st,ps) (ss,cs,os,dr) l m=Kd (st,ps) l m.toNat 0 (ss,cs,os,dr) []:=(if_neg (fun h=>h hz)).trans (if_neg hm)
 clear h0 h1
 refine ex4 _ (fun p:Nat × FsT × List Int=>⟨[.yld 9,.ptr 6 0,.ptr 5 0,.ptr 7 0,.any,.any,.any,.any,.any,.any,.int .i64 m,.int .i64 (p.1:Int)]++nA 57,[.cells [.sl tSt st,.sl A3 ps],.cells [.sl tSS ss,.sl A8 cs,.sl (.sl (.int .i64)) os,.bool dr],.cells [.cap0,.cap0,.cap0,.bool false],.cells [.sl tSt st,.sl A3 ps,.sl tSS p.2.1.1,.sl A8 p.2.1.2.1,.sl (.sl (.int .i64)) p.2.1.2.2.1,.bool p.2.1.2.2.2,.int .i64 0],.cells [.sl (.int .i64) l],.cells [.ptr 3 0],.cells [.int .i64 m],.cells [.fn (Fn.func 76) [] [.ptr 4 0]],.cells [.own 10],.loop .ready .no ([7]) _ _ [.cap0,.fn (Fn.func 74) [] [.ptr 6 0,.ptr 5 0,.ptr 7 0],.ptr 8 0,.any,.cap0,.any,.fn (Fn.func 74) [] [.ptr 6 0,.ptr 5 0,.ptr 7 0],.any,.any,.any,.any,.any,.any],.rows tI p.2.2],11⟩) (fun p=>(p.1:Int)≤m∧p.2.2.length≤p.1∧Kd (st,ps) l m.toNat 0 (ss,cs,os,dr) []=Kd (st,ps) l (m.toNat - p.1) p.1 p.2.1 p.2.2) (fun p=>m.toNat - p.1) (aI (eI ((0,(ss,cs,os,dr),[])) (eI ([some 0,some 1,some 2,some 3,some 4,some 5,some 6,some 7,some 8,some 9,none]) (aI ?_ (aB (aI (aI (aA (by rfl)) (aI (aA (by rfl)) (aI (aA (by rfl)) (aI (aA (by rfl)) (aI (aA (by rfl)) (aI (aA (by rfl)) (aI (aA (by rfl)) (aI (aA (by rfl)) (aI (aA (by rfl)) (aI (aI (aI rfl (aI rfl (aI rfl (aI rfl rfl)))) (aA (by rfl))) (aA tT))))))))))) (by rfl)))))) ?_)
 ·exact ⟨by show (0:Int)≤m;omega,Nat.le_refl 0,rfl⟩
 rintro ⟨k,⟨ss',cs',os',dr'⟩,out⟩ ⟨hk,ho,hr⟩
 replace hk:(k:Int)≤m:=hk
 replace ho:out.length≤k:=ho
 replace hr:Kd (st,ps) l m.toNat 0 (ss,cs,os,dr) []=Kd (st,ps) l (m.toNat - k) k (ss',cs',os',dr') out:=hr
 have hT:∀ {r:FsT × List Int × Int},Kd (st,ps) l (m.toNat - k) k (ss',cs',os',dr') out=r→((Sg (st,ps) (ss,cs,os,dr) l m).1,(Sg (st,ps) (ss,cs,os,dr) l m).2.1,(Sg (st,ps) (ss,cs,os,dr) l m).2.2,())=(r.1,r.2.1,r.2.2,()):=fun h=>by rw [p1,hr,h]
 have hS:(bif !decide ((Al (st,ps) (ss',cs',os',dr')).2=0) then true else decide (((Al (st,ps) (ss',cs',os',dr')).1.length:Int)=0))=true→Ub (st,ps) (ss',cs',os',dr'):=fun h=>by
  by_cases h1:(Al (st,ps) (ss',cs',os',dr')).2=0
  ·rw [decide_eq_true h1] at h
   exact .inr (List.eq_nil_of_length_eq_zero (by have:=of_decide_eq_true h;omega))
  ·exact .inl h1
 have hG:(bif !decide ((Al (st,ps) (ss',cs',os',dr')).2=0) then true else decide (((Al (st,ps) (ss',cs',os',dr')).1.length:Int)=0))=false→¬ Ub (st,ps) (ss',cs',os',dr')∧(Al (st,ps) (ss',cs',os',dr')).1.length≠0:=fun h=>by
  obtain ⟨a,b⟩:=Iu h
  have b:¬ ((Al (st,ps) (ss',cs',os',dr')).1.length:Int)=0:=of_decide_eq_false b
  refine ⟨?_,by omega⟩
  rintro (h1 | h1)
  ·exact h1 (of_decide_eq_true (Bw a))
  ·rw [h1] at b;exact b rfl
 have hM:decide ((k:Int) < m)=true→m.toNat - k=(m.toNat - (k+1))+1∧((k+1:Nat):Int)≤m:=fun h=>by have:=of_decide_eq_true h;omega
 have hk4:(k:Int)≤10000:=by omega
 have hR:∀ {j:Int},j=J8 (st,ps) l k (ss',cs',os',dr')→¬ Ub (st,ps) (ss',cs',os',dr')→decide ((k:Int) < m)=true→((!decide ((Du (st,ps) (ss',cs',os',dr') j).2=0))=true→Kd (st,ps) l (m.toNat - k) k (ss',cs',os',dr') out=(zFs,[],(Du (st,ps) (ss',cs',os',dr') j).2)) ∧
  ((!decide ((Du (st,ps) (ss',cs',os',dr') j).2=0))=false→Kd (st,ps) l (m.toNat - k) k (ss',cs',os',dr') out=Kd (st,ps) l (m.toNat - (k+1)) (k+1) (Du (st,ps) (ss',cs',os',dr') j).1 (out++[j])):=fun {j} hj hn hk=>by
  subst hj
  rw [(hM hk).1]
  exact ⟨fun h=>Ahj hn (fun h'=>by rw [h'] at h;cases h),fun h=>Ajw hn (of_decide_eq_true (Bw h))⟩
 have hQ0:decide ((l.length:Int)=0)=true→(Al (st,ps) (ss',cs',os',dr')).1.getD (Int.toNat 0) (Ab (.int .i64))=J8 (st,ps) l k (ss',cs',os',dr'):=fun h=>by
  unfold J8
  rw [Amq (by have:=of_decide_eq_true h;omega)]
 have hQ1:decide ((l.length:Int)=0)=false→(Al (st,ps) (ss',cs',os',dr')).1.getD (((l.getD ((k:Int).tmod (l.length:Int)).toNat (Ab (.int .i64))).tmod ((Al (st,ps) (ss',cs',os',dr')).1.length:Int)+((Al (st,ps) (ss',cs',os',dr')).1.length:Int)).tmod ((Al (st,ps) (ss',cs',os',dr')).1.length:Int)).toNat (Ab (.int .i64))=J8 (st,ps) l k (ss',cs',os',dr'):=fun h=>by
  unfold J8
  rw [Amr (by have:=of_decide_eq_false h;omega)]
 have hE16:(Al (st,ps) (ss',cs',os',dr')).1.length≤16:=by
  unfold Al
  split
  ·exact Nat.zero_le _
  ·have w:=(Cg.1 (Classical.byContradiction ‹¬ Cv (st,ps) (ss',cs',os',dr')≠0›)).1
   have h1:=w.n16
   have h2:=List.length_filter_le (fun i=>(Bk (st,ps) (ss',cs',os',dr') i).2) (ints st.length)
   rw [H5] at h2
   exact Nat.le_trans h2 h1
 refine (aI (fun w0=>(aF (aI tT (fun w1=>(aI (fun w2=>(aI (fun w3=>nG w3) (fun w3=>(Aa rfl ?_)))) (fun w2=>(fun w4=>(aF (fun w5=>(aI (fun w6=>(aO (aF (aI tT (aI (fun w7=>(aI (fun w8=>(aK (aD (aD (Aa rfl ?_))))) (fun w8=>absurd (Eq.trans (Eq.symm w7) w8) (by decide)))) (fun w7=>(aO (aI (fun w9=>nG w9) (fun w9=>(aO ?_)))))))))) (fun w6=>(aF (aI (fun w10=>(by intros;(try subst_vars);(try simp only [nB] at *);(try simp only [inK,big,lim,nL] at *);omega)) (aI (fun w11=>?_) (aI (fun w12=>(by intros;(try subst_vars);(try simp only [nB] at *);(try simp only [inK,big,lim,nL] at *);omega)) (aI (fun w13=>?_) (aI (fun w14=>(by intros;(try subst_vars);(try simp only [nB] at *);(try simp only [inK,big,lim,nL] at *);omega)) (fun w15=>(aI ?_ (aF (aI tT (aI (fun w16=>(aI (fun w17=>(aK (aD (aD (Aa rfl ?_))))) (fun w17=>absurd (Eq.trans (Eq.symm w16) w17) (by decide)))) (fun w16=>(aO (aI (fun w18=>nG w18) (fun w18=>(aO ?_))))))))))))))))))))))))))) (fun w0=>(aI (fun w19=>nG w19) (fun w19=>(Aa rfl ?_)))))
 ·exact hT (Ado (hS w2))
 ·exact hT ((hR (hQ0 w6) (hG w2).1 w0).1 w7)
 ·have hr2:=(hR (hQ0 w6) (hG w2).1 w0).2 w7
  have hm2:=hM w0
  clear w1 w2 w4 w5 w6 w7 w9
  refine eI ((k+1,(Du (st,ps) (ss',cs',os',dr') ((Al (st,ps) (ss',cs',os',dr')).1.getD (Int.toNat 0) (Ab (.int .i64)))).1,out++[(Al (st,ps) (ss',cs',os',dr')).1.getD (Int.toNat 0) (Ab (.int .i64))])) (eI ([some 0,some 1,some 2,some 3,some 4,some 5,some 6,some 7,some 8,some 9,some 13]) (aI ?_ (aI ?_ (aB (aI (aI (aA (by rfl)) (aI (aA (by rfl)) (aI (aA (by rfl)) (aI (aA (by rfl)) (aI (aA (by rfl)) (aI (aA (by rfl)) (aI (aA (by rfl)) (aI (aA (by rfl)) (aI (aA (by rfl)) (aI (aI (aI rfl (aI rfl (aI rfl (aI rfl rfl)))) (aA (by rfl))) (aA tT))))))))))) (by rfl))))))
  ·exact ⟨hm2.2,by show (out++[_]).length≤k+1;rw [List.length_append,List.length_singleton];omega,hr.trans hr2⟩
  ·show m.toNat - (k+1) < m.toNat - k
   omega
 ·have:¬ (l.length:Int)=0:=of_decide_eq_false w6
  have:=Ahx (k:Int) (n:=l.length) (by omega)
  exact ⟨Int.tmod_nonneg _ (Int.natCast_nonneg k),this.2.1⟩
 ·have h1:=Ahx (l.getD ((k:Int).tmod (l.length:Int)).toNat (Ab (.int .i64))) (hG w2).2
  have h2:(Al (st,ps) (ss',cs',os',dr')).1.length≤big:=w4
  unfold big at h2
  show -9223372036854775808≤(l.getD ((k:Int).tmod (l.length:Int)).toNat (Ab (.int .i64))).tmod ((Al (st,ps) (ss',cs',os',dr')).1.length:Int)+((Al (st,ps) (ss',cs',os',dr')).1.length:Int)∧(l.getD ((k:Int).tmod (l.length:Int)).toNat (Ab (.int .i64))).tmod ((Al (st,ps) (ss',cs',os',dr')).1.length:Int)+((Al (st,ps) (ss',cs',os',dr')).1.length:Int)≤9223372036854775807
  have h3:(Al (st,ps) (ss',cs',os',dr')).1.length≤16:=hE16
  omega
 ·have h1:=Ahx (l.getD ((k:Int).tmod (l.length:Int)).toNat (Ab (.int .i64))) (hG w2).2
  exact ⟨h1.2.2.1,h1.2.2.2⟩
 ·exact hT ((hR (hQ1 w6) (hG w2).1 w0).1 w16)
 ·have hr2:=(hR (hQ1 w6) (hG w2).1 w0).2 w16
  have hm2:=hM w0
  clear w1 w2 w4 w5 w6 w15 w16 w18
  refine eI ((k+1,(Du (st,ps) (ss',cs',os',dr') ((Al (st,ps) (ss',cs',os',dr')).1.getD (((l.getD ((k:Int).tmod (l.length:Int)).toNat (Ab (.int .i64))).tmod ((Al (st,ps) (ss',cs',os',dr')).1.length:Int)+((Al (st,ps) (ss',cs',os',dr')).1.length:Int)).tmod ((Al (st,ps) (ss',cs',os',dr')).1.length:Int)).toNat (Ab (.int .i64)))).1,out++[(Al (st,ps) (ss',cs',os',dr')).1.getD (((l.getD ((k:Int).tmod (l.length:Int)).toNat (Ab (.int .i64))).tmod ((Al (st,ps) (ss',cs',os',dr')).1.length:Int)+((Al (st,ps) (ss',cs',os',dr')).1.length:Int)).tmod ((Al (st,ps) (ss',cs',os',dr')).1.length:Int)).toNat (Ab (.int .i64))])) (eI ([some 0,some 1,some 2,some 3,some 4,some 5,some 6,some 7,some 8,some 9,some 13]) (aI ?_ (aI ?_ (aB (aI (aI (aA (by rfl)) (aI (aA (by rfl)) (aI (aA (by rfl)) (aI (aA (by rfl)) (aI (aA (by rfl)) (aI (aA (by rfl)) (aI (aA (by rfl)) (aI (aA (by rfl)) (aI (aA (by rfl)) (aI (aI (aI rfl (aI rfl (aI rfl (aI rfl rfl)))) (aA (by rfl))) (aA tT))))))))))) (by rfl))))))
  ·exact ⟨hm2.2,by show (out++[_]).length≤k+1;rw [List.length_append,List.length_singleton];omega,hr.trans hr2⟩
  ·show m.toNat - (k+1) < m.toNat - k
   omega
 ·exact hT (r:=((ss',cs',os',dr'),out,0)) (by rw [show m.toNat - k=0 by have:=of_decide_eq_false w0;omega];rfl)
end Go.Proofs.YtckpldpombdkgaaGreat
