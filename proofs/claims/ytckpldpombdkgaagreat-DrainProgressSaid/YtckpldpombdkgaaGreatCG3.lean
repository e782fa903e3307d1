/- Pipelines. -/
import Derived.Test.YtckpldpombdkgaaGreatCG1
import Derived.Test.YtckpldpombdkgaaGreatCP
import Derived.Test.YtckpldpombdkgaaGreatCZ7
import Derived.Test.YtckpldpombdkgaaGreatCG2
import Derived.Test.YtckpldpombdkgaaGreatCQ1
import Derived.Test.YtckpldpombdkgaaGreatCB6
set_option linter.unusedSimpArgs false
set_option linter.unusedVariables false
set_option maxRecDepth 100000
namespace Go.Proofs.YtckpldpombdkgaaGreat
open Go.Sx
theorem Sl:∀ (l:List Int) (v:Int) (k:Nat),(B0 l v k < 0∧v ∉ l)∨∃ j:Nat,B0 l v k=((k+j:Nat):Int)∧j < l.length∧l.getD j 0=v
 | [],_,_=>.inl ⟨by unfold B0;omega,List.not_mem_nil⟩
 | a :: l,v,k=>by
  unfold B0
  by_cases h:v=a
  ·rw [if_pos h]
   exact .inr ⟨0,rfl,by simp,h.symm⟩
  ·rw [if_neg h]
   rcases Sl l v (k+1) with ⟨h1,h2⟩ | ⟨j,h1,h2,h3⟩
   ·exact .inl ⟨h1,by rw [List.mem_cons];rintro (h' | h');exact h h';exact h2 h'⟩
   ·exact .inr ⟨j+1,by rw [h1];omega,by simpa using h2,by simpa using h3⟩
theorem J4 (v:Nat):∀ (l:List EdgT) (o:List Int),(∀ e∈l,0≤e.2)→v < o.length→(l.foldl L3 o).length=o.length∧(l.foldl L3 o).getD v 0=o.getD v 0+(l.countP (fun e=>decide (e.2=(v:Int))):Nat)
 | [],o,_,_=>⟨rfl,by simp⟩
 | e :: l,o,h,hv=>by
  have hl:(L3 o e).length=o.length:=by unfold L3;rw [List.length_set]
  obtain ⟨h1,h2⟩:=J4 v l (L3 o e) (fun a ha=>h a (List.mem_cons_of_mem e ha)) (by omega)
  refine ⟨by rw [List.foldl_cons,h1,hl], ?_⟩
  rw [List.foldl_cons,h2,List.countP_cons]
  unfold L3
  have he:=h e List.mem_cons_self
  rw [Ii]
  by_cases hev:e.2=(v:Int)
  ·rw [if_pos ⟨by omega,hv⟩,if_pos (decide_eq_true hev),show e.2.toNat=v by omega]
   push_cast
   omega
  ·rw [if_neg (by omega),if_neg (by simpa using hev)]
   simp
theorem N6 (v:Nat):∀ (l:List Int) (o:List Int),(∀ e∈l,0≤e)→v < o.length→(l.foldl J3 o).length=o.length∧(l.foldl J3 o).getD v 0=o.getD v 0 - (l.count (v:Int):Nat)
 | [],o,_,_=>⟨rfl,by simp⟩
 | e :: l,o,h,hv=>by
  have hl:(J3 o e).length=o.length:=by unfold J3;rw [List.length_set]
  obtain ⟨h1,h2⟩:=N6 v l (J3 o e) (fun a ha=>h a (List.mem_cons_of_mem e ha)) (by omega)
  refine ⟨by rw [List.foldl_cons,h1,hl], ?_⟩
  rw [List.foldl_cons,h2,List.count_cons]
  unfold J3
  have he:=h e List.mem_cons_self
  rw [Ii]
  by_cases hev:e=(v:Int)
  ·rw [if_pos ⟨by omega,hv⟩,if_pos (by simpa using hev),show e.toNat=v by omega]
   push_cast
   omega
  ·rw [if_neg (by omega),if_neg (by simpa using hev)]
   simp
def Iv (l:List EdgT) (out:List Int) (v:Nat):Nat:=l.countP fun e=>decide (e.2=(v:Int)) && !decide (e.1∈out)
structure OI (n:Nat) (l:List EdgT) (o out:List Int):Prop where
 ol:o.length=n
 nd:out.Nodup
 rg:∀ v∈out,0≤v∧v < n
 cl:∀ e∈l,e.2∈out→e.1∈out
 op:∀ v:Nat,v < n→o.getD v 0=if (v:Int)∈out then -1 else (Iv l out v:Int)
theorem Ad5 (l:List EdgT) (u v:Nat):(Bm l u).count (v:Int)=l.countP fun e=>decide (e.1=(u:Int)) && decide (e.2=(v:Int)):=by
 unfold Bm
 induction l with
 | nil=>rfl
 | cons e l ih =>
  rw [List.filter_cons,List.countP_cons]
  by_cases h:e.1=(u:Int)
  ·rw [if_pos (by simpa using h),List.map_cons,List.count_cons,ih]
   by_cases h2:e.2=(v:Int) <;> simp [h,h2]
  ·rw [if_neg (by simpa using h),ih]
   simp [h]
theorem Ya (l:List EdgT) (out:List Int) (u v:Nat) (hu:(u:Int) ∉ out):Iv l out v=Iv l (out++[(u:Int)]) v+l.countP fun e=>decide (e.1=(u:Int)) && decide (e.2=(v:Int)):=by
 unfold Iv
 induction l with
 | nil=>rfl
 | cons e l ih =>
  rw [List.countP_cons,List.countP_cons,List.countP_cons,ih]
  by_cases h:e.1=(u:Int)
  ·by_cases h2:e.2=(v:Int) <;> simp [h,h2,hu] <;> omega
  ·by_cases h2:e.2=(v:Int) <;> by_cases h3:e.1∈out <;> simp [h,h2,h3] <;> omega
theorem OI.step {n:Nat} {l:List EdgT} {o out:List Int} (h:OI n l o out) (hl:∀ e∈l,(0≤e.1∧e.1 < n)∧(0≤e.2∧e.2 < n)∧e.1≠e.2) {u:Nat} (hu:u < n) (h0:o.getD u 0=0) :
 OI n l ((Bm l u).foldl J3 (o.set u (-1))) (out++[(u:Int)])∧(u:Int) ∉ out∧(∀ e∈l,e.2=(u:Int)→e.1∈out):=by
 have hop:=h.op u hu
 rw [h0] at hop
 have huo:(u:Int) ∉ out:=fun hm=>by rw [if_pos hm] at hop;omega
 rw [if_neg huo] at hop
 have hpre:∀ e∈l,e.2=(u:Int)→e.1∈out:=fun e he h2=>by
  refine Classical.byContradiction fun h3=>?_
  have:0 < Iv l out u:=List.countP_pos_iff.2 ⟨e,he,by simp [h2,h3]⟩
  omega
 have hs0:∀ e∈Bm l u,0≤e:=fun e he=>by
  unfold Bm at he
  obtain ⟨a,ha,rfl⟩:=List.mem_map.1 he
  exact (hl a (List.mem_filter.1 ha).1).2.1.1
 have hsl:(o.set u (-1)).length=n:=by rw [List.length_set,h.ol]
 refine ⟨⟨?_, ?_, ?_, ?_, ?_⟩,huo,hpre⟩
 ·have h1:=(N6 u (Bm l u) (o.set u (-1)) hs0 (by rw [hsl];exact hu)).1
  rw [h1,hsl]
 ·rw [List.nodup_append]
  refine ⟨h.nd,by simp, ?_⟩
  intro a ha b hb e
  rw [List.mem_singleton] at hb
  subst hb;subst e
  exact huo ha
 ·intro v hv
  rcases List.mem_append.1 hv with hv | hv
  ·exact h.rg v hv
  ·rw [List.mem_singleton.1 hv];omega
 ·intro e he hm
  rcases List.mem_append.1 hm with hm | hm
  ·exact List.mem_append_left _ (h.cl e he hm)
  ·exact List.mem_append_left _ (hpre e he (List.mem_singleton.1 hm))
 ·intro v hv
  obtain ⟨h1,h2⟩:=N6 v (Bm l u) (o.set u (-1)) hs0 (by rw [hsl];exact hv)
  rw [h2,Ad5,Ii]
  have h3:=h.op v hv
  by_cases hvu:u=v
  ·subst hvu
   rw [if_pos ⟨rfl,by rw [h.ol];exact hu⟩,if_pos (List.mem_append_right _ (List.mem_singleton.2 rfl))]
   have:l.countP (fun e=>decide (e.1=(u:Int)) && decide (e.2=(u:Int)))=0:=by
    rw [List.countP_eq_zero]
    intro e he
    have:=(hl e he).2.2
    simp only [Bool.and_eq_true,decide_eq_true_eq]
    omega
   rw [this];rfl
  ·rw [if_neg (by omega),h3]
   by_cases hm:(v:Int)∈out
   ·rw [if_pos hm,if_pos (List.mem_append_left _ hm)]
    have:l.countP (fun e=>decide (e.1=(u:Int)) && decide (e.2=(v:Int)))=0:=by
     rw [List.countP_eq_zero]
     intro e he
     simp only [Bool.and_eq_true,decide_eq_true_eq]
     rintro ⟨e1,e2⟩
     have:=h.cl e he (by rw [e2];exact hm)
     rw [e1] at this
     exact huo this
    rw [this];rfl
   ·rw [if_neg hm,if_neg (by rw [List.mem_append,List.mem_singleton];rintro (h' | h');exact hm h';omega),Ya l out u v huo]
    push_cast
    omega
def Hb (x:PlT):List EdgT:=x.2.map fun p=>(p.1,p.2.2.1)
def Ad (x:PlT):List Int:=(Uk x.1.length (B4 (Hb x))).1
def Ad6 (x:PlT) (S:List (List Int)) (i:Int):List (List Int):=(ints (stIn (sg x i)).toNat).map fun n=>S.getD (pIn x i n).toNat []
def Ah0 (x:PlT) (i:Int) (o:List (List Int)) (S:List (List Int)) (n:Nat):List (List Int):=S.set (Cq x i n).toNat (o.getD n [])
def Amx (x:PlT) (i:Int) (o:List (List Int)) (S:List (List Int)):List (List Int):=(List.range o.length).foldl (Ah0 x i o) S
def Aj5 (x:PlT) (i:Int) (a:List Int) (K:List (List Int)):List (List Int):=if (sg x i).1=10 then K.set i.toNat a else K
def Aob (l:List StT) (K:List (List Int)):List (List Int):=((List.range l.length).filter fun i=>isSink (l.getD i zStg)).map fun i=>K.getD i []
def P0 (x:PlT):List Int→List (List Int)→List (List Int)→List (List Int) × Int
 | [],_,K=>(Aob x.1 K,0)
 | i :: l,S,K=>if (Az (sg x i) (Ad6 x S i)).2≠0 then ([],(Az (sg x i) (Ad6 x S i)).2)
  else P0 x l (Amx x i (Az (sg x i) (Ad6 x S i)).1 S) (Aj5 x i ((Ad6 x S i).getD 0 []) K)
def Gy (x:PlT):List (List Int) × Int:=if It x≠0 then ([],It x) else P0 x (Ad x) (List.replicate x.2.length []) (List.replicate x.1.length [])
def Ah1 (y:StT) (n:Int):StT:=if y.1=1 then (y.1,y.2.1,y.2.2.1,y.2.2.2.take n.toNat) else y
def L5 (l:List StT) (s:List SST) (n:Nat):List StT:=(List.range l.length).map fun i=>if i < n then Ah1 (l.getD i zStg) (s.getD i ([],0,false)).2.1 else l.getD i zStg
def Aj6 (x:PlT) (s:FsT):PlT:=(L5 x.1 s.1 x.1.length,x.2)
def Vw (x:PlT) (s:FsT):List (List Int) × Int:=if Cv x s≠0 then ([],1) else Gy (Aj6 x s)
def Amy:ExprT:=.mk 0 0 ⟨#[]⟩ 0 []
def exX:PlT:=([(1,0,Amy,[1,2,3,4]),(4,2,Amy,[]),(10,0,Amy,[])],[(0,0,1,0,3),(1,0,2,0,1)])
theorem Ux {x:StT} {ins:List (List Int)} (h:An x=0):((Ch x ins).1.length:Int)=(Ao x.1).2.1:=by
 have hk:=Ie (Cu h)
 obtain ⟨k,z,e,l⟩:=x
 replace hk:k=1∨k=2∨k=3∨k=4∨k=5∨k=6∨k=7∨k=8∨k=9∨k=10:=hk
 rcases hk with rfl | rfl | rfl | rfl | rfl | rfl | rfl | rfl | rfl | rfl <;> rfl
theorem Ah2 {x:StT} {ins:List (List Int)} (h:(Az x ins).2=0):((Az x ins).1.length:Int)=stOut x:=by
 obtain ⟨h0,-,-,-,h1,-⟩:=Vo h
 rw [h1,Ux h0,Zx h0]
theorem Aj7 {x:StT} {ins:List (List Int)} (h:(Az x ins).2=0):(ins.length:Int)=stIn x:=by
 obtain ⟨h0,h1,-⟩:=Vo h
 rw [h1,Abo h0]
theorem Aj8 {x:PlT} {i:Int} {o S:List (List Int)}:∀ (l:List Nat),(l.foldl (Ah0 x i o) S).length=S.length:=fun l=>by
 induction l generalizing S with
 | nil=>rfl
 | cons a l ih=>rw [List.foldl_cons,ih,Ah0,List.length_set]
def okD (n:Int) (l:List EdgT):Prop:=(Ui n l∧1≤n∧n≤12)∧∀ e∈l,e.1≠e.2
def cDgO:Ctr:=fnC [dI,.dat false (.sl tE)] [(false,tIs),(false,tI)] (fun y=>okD y.1 y.2.1) (fun y=>((Uk y.1.toNat y.2.1).1,(Uk y.1.toNat y.2.1).2,()))
def cxE7:Ctx:=⟨(191,tGr) :: Ad0,[(181,([],cBuild)),(182,([],cIndex))]⟩
theorem Ad7:Ah Tryz.prog cxE7:=C7 (Ae Amw (Ae Amv Dw))
theorem Ab1 {l:List Int} {k:Nat} {d:Int} (h:l.length≤k):l.getD k d=d:=by
 rw [List.getD_eq_getElem?_getD,List.getElem?_eq_none h];rfl
theorem Amz {n:Int} {l:List EdgT} (h:okD n l):∀ e∈l,(0≤e.1∧e.1 < (n.toNat:Int))∧(0≤e.2∧e.2 < (n.toNat:Int))∧e.1≠e.2:=fun e he=>by
 obtain ⟨k,hk,rfl⟩:=List.mem_iff_getElem.1 he
 have h1:=h.1.1.2.1 k hk
 rw [Bt hk] at h1
 have:=h.1.2.1
 exact ⟨by omega,by omega,h.2 _ he⟩
theorem Aj9 {n:Int} {l:List EdgT} {o:List Int} {i:Nat} (hin:∀ e∈l,(0≤e.1∧e.1 < (n.toNat:Int))∧(0≤e.2∧e.2 < (n.toNat:Int))∧e.1≠e.2) (hl:l.length≤16) (ho:o=(l.take i).foldl L3 (List.replicate n.toNat 0)) (hi:i≤l.length) :
 o.length=n.toNat∧∀ v:Nat,0≤o.getD v 0∧o.getD v 0≤16:=by
 have h0:∀ e∈l.take i,0≤e.2:=fun e he=>(hin e (List.mem_of_mem_take he)).2.1.1
 have hlen:o.length=n.toNat:=by
  rw [ho]
  by_cases hn:0 < n.toNat
  ·rw [(J4 0 (l.take i) (List.replicate n.toNat 0) h0 (by rw [List.length_replicate];exact hn)).1,List.length_replicate]
  ·have:l.take i=[]:=by
    cases h:l.take i with
    | nil=>rfl
    | cons e r =>
     have:=(hin e (List.mem_of_mem_take (by rw [h];exact List.mem_cons_self))).2.1
     omega
   rw [this]
   exact List.length_replicate
 refine ⟨hlen,fun v=>?_⟩
 by_cases hv:v < n.toNat
 ·have h1:=(J4 v (l.take i) (List.replicate n.toNat 0) h0 (by rw [List.length_replicate];exact hv)).2
  rw [← ho] at h1
  have h2:=List.countP_le_length (p:=fun e:EdgT=>decide (e.2=(v:Int))) (l:=l.take i)
  rw [List.length_take] at h2
  rw [show (List.replicate n.toNat (0:Int)).getD v 0=0 by rw [List.getD_eq_getElem?_getD,List.getElem?_replicate,if_pos hv];rfl] at h1
  omega
 ·rw [List.getD_eq_getElem?_getD,List.getElem?_eq_none (by omega)]
  simp
theorem Apz {n:Int} {l:List EdgT} (hin:∀ e∈l,(0≤e.1∧e.1 < (n.toNat:Int))∧(0≤e.2∧e.2 < (n.toNat:Int))∧e.1≠e.2):OI n.toNat l (l.foldl L3 (List.replicate n.toNat 0)) []:=by
 have h0:∀ e∈l,0≤e.2:=fun e he=>(hin e he).2.1.1
 refine ⟨?_,List.nodup_nil,fun v hv=>absurd hv List.not_mem_nil,fun e _ h=>absurd h List.not_mem_nil,fun v hv=>?_⟩
 ·by_cases hn:0 < n.toNat
  ·rw [(J4 0 l (List.replicate n.toNat 0) h0 (by rw [List.length_replicate];exact hn)).1,List.length_replicate]
  ·cases l with
   | nil=>exact List.length_replicate
   | cons e r =>
    have:=(hin e List.mem_cons_self).2.1
    omega
 ·rw [(J4 v l (List.replicate n.toNat 0) h0 (by rw [List.length_replicate];exact hv)).2,if_neg List.not_mem_nil]
  unfold Iv
  rw [show (List.replicate n.toNat (0:Int)).getD v 0=0 by rw [List.getD_eq_getElem?_getD,List.getElem?_replicate,if_pos hv];rfl]
  simp
theorem Ap0 {n j u:Nat} {l:List EdgT} {op out q L:List Int} (h:OI n l op out) (hl:l.length≤16) (hL:L.length≤16) (hr:∀ v∈L,0≤v∧v < (n:Int)) (hq:q=(L.take j).foldl J3 (op.set u (-1))):q.length=n∧∀ v:Nat,-17≤q.getD v 0∧q.getD v 0≤16:=by
 have h0:∀ v∈L.take j,0≤v:=fun v hv=>(hr v (List.mem_of_mem_take hv)).1
 have hsl:(op.set u (-1)).length=n:=by rw [List.length_set,h.ol]
 by_cases hn:0 < n
 ·have hlen:q.length=n:=by rw [hq,(N6 0 (L.take j) (op.set u (-1)) h0 (by rw [hsl];exact hn)).1,hsl]
  refine ⟨hlen,fun v=>?_⟩
  by_cases hv:v < n
  ·have h1:=(N6 v (L.take j) (op.set u (-1)) h0 (by rw [hsl];exact hv)).2
   rw [← hq,Ii] at h1
   have h2:(L.take j).count (v:Int)≤16:=by
    have:=List.count_le_length (a:=(v:Int)) (l:=L.take j)
    rw [List.length_take] at this
    omega
   have h3:=h.op v hv
   have h4:Iv l out v≤16:=Nat.le_trans List.countP_le_length hl
   split at h1
   ·omega
   ·split at h3 <;> omega
  ·rw [Ab1 (by omega)]
   omega
 ·have hq0:L.take j=[]:=by
   cases h:L.take j with
   | nil=>rfl
   | cons a r =>
    have:=hr a (List.mem_of_mem_take (by rw [h];exact List.mem_cons_self))
    omega
  rw [hq0] at hq
  have hlen:q.length=n:=by rw [hq];exact hsl
  refine ⟨hlen,fun v=>?_⟩
  rw [Ab1 (by omega)]
  omega
set_option maxHeartbeats 8000000 in
theorem Ap1:GoodC Tryz.prog 135 cDgO:=by
 refine Ap Ad7 8 _ _ _ _ ⟨_,Tryz.func135,rfl,rfl⟩ fun (⟨n,l,()⟩ : Int × List EdgT × Unit) hg=>?_
 replace hg:okD n l:=hg
 have hin:=Amz hg
 have hbu:=hg.1
 have hn1:=hg.1.2.1
 have hn2:=hg.1.2.2
 have hl16:=hg.1.1.1.2.2
 refine (aF (aI (by omega) (fun (h0:(Int × List (List Int)) × Bool × PUnit)=>(fun h1=>(aI (fun h2=>(Aa rfl ?_)) (fun h2=>(aO (fun h3=>?_))))))))
 ·rw [h1] at h2;cases h2
 subst h1
 clear h2
 refine ex4 _ (fun p:Nat × List Int=>⟨[.int .i64 n,.sl tE l,.any,.any,.any,.any,.ptr 0 0,.any,.ptr 2 0,.any,.any,.any,.any,.any,.any,.any,.any,.any,.any,.any,.any,.any,.any,.any,.sl tE l,.int .i64 (↑l.length:Int),.int .i64 (p.1:Int)]++nA 37,[.cells [.int .i64 n,.sl (.sl (.int .i64)) (List.map (Bm l) (List.range n.toNat))],.rows tI p.2,.cells [.own 1]],3⟩) (fun p=>p.1≤l.length∧p.2=(l.take p.1).foldl L3 (List.replicate n.toNat 0)) (fun p=>l.length - p.1) (aI (eI ((0,List.replicate n.toNat 0)) (eI ([some 0,some 1,some 2]) (aI ?_ (aB (aI (aI (aA (by rfl)) (aA (aI (aA (by rfl)) tT))) (by rfl)))))) ?_)
 ·exact ⟨Nat.zero_le _,rfl⟩
 rintro ⟨i,o⟩ ⟨hi,ho⟩
 replace hi:i≤l.length:=hi
 replace ho:o=(l.take i).foldl L3 (List.replicate n.toNat 0):=ho
 obtain ⟨hol,hov⟩:=Aj9 hin hl16 ho hi
 have hlt:decide ((i:Int) < (l.length:Int))=true→i < l.length∧(0≤(l.getD (i:Int).toNat (Ab tE)).2∧(l.getD (i:Int).toNat (Ab tE)).2 < (o.length:Int))∧L3 o (l.getD (i:Int).toNat (Ab tE))=(l.take (i+1)).foldl L3 (List.replicate n.toNat 0):=fun h=>by
  have hi':i < l.length:=by have:=of_decide_eq_true h;omega
  have e:l[i]=l.getD (i:Int).toNat (Ab tE):=by
   rw [Int.toNat_natCast,List.getD_eq_getElem?_getD,List.getElem?_eq_getElem hi'];rfl
  have h1:=(hin _ (List.getElem_mem hi')).2.1
  rw [e] at h1
  refine ⟨hi',by omega, ?_⟩
  rw [List.take_succ_eq_append_getElem hi',List.foldl_append,← ho,e];rfl
 refine (aI (fun k0=>(aO (aO (aI ?_ (aO (aO ?_)))))) (fun k0=>?_))
 ·have:=hov (l.getD (i:Int).toNat (Ab tE)).2.toNat
  show -9223372036854775808≤o.getD (l.getD (i:Int).toNat (Ab tE)).2.toNat 0+1∧o.getD (l.getD (i:Int).toNat (Ab tE)).2.toNat 0+1≤9223372036854775807
  omega
 ·obtain ⟨h2,h3,h4⟩:=hlt k0
  clear k0
  refine eI ((i+1,L3 o (l.getD (i:Int).toNat (Ab tE)))) (eI ([some 0,some 1,some 2]) (aI ?_ (aI ?_ (aB (aI (aI (aA (by rfl)) (aA (aI (aA (by rfl)) tT))) (by rfl))))))
  ·exact ⟨h2,h4⟩
  ·show l.length - (i+1) < l.length - i
   omega
 have hi2:i=l.length:=by
  have:¬ (i:Int) < (l.length:Int):=of_decide_eq_false k0
  omega
 rw [hi2,List.take_length] at ho
 clear k0 hlt
 have h00:=Apz hin
 rw [← ho] at h00
 obtain ⟨N,hN⟩ : ∃ N:Nat,N=n.toNat:=⟨_,rfl⟩
 have hnN:n=(N:Int):=by omega
 have hF:Uk n.toNat l=L4 l N o []:=by rw [hN,ho];rfl
 clear hov ho
 refine ex4 _ (fun p:Nat × List Int × List Int=>⟨[.int .i64 n,.any,.any,.any,.any,.any,.ptr 0 0,.any,.ptr 2 0,.any,.any,.own 3]++nA 52,[.cells [.int .i64 n,.sl (.sl (.int .i64)) (List.map (Bm l) (List.range n.toNat))],.rows tI p.2.1,.cells [.own 1],.rows tI p.2.2],4⟩) (fun p=>p.2.2.length=p.1∧p.1≤N∧OI n.toNat l p.2.1 p.2.2∧L4 l N o []=L4 l (N - p.1) p.2.1 p.2.2) (fun p=>N - p.1) (aI (eI ((0,o,[])) (eI ([some 0,some 1,some 2,none]) (aI ?_ (aB (aI (aI (aA (by rfl)) (aA (aI (aA (by rfl)) (aA tT)))) (by rfl)))))) ?_)
 ·exact ⟨rfl,Nat.zero_le _,h00,rfl⟩
 rintro ⟨k,op,out⟩ ⟨hk,hkN,hoi,hor⟩
 replace hk:out.length=k:=hk
 replace hkN:k≤N:=hkN
 replace hoi:OI n.toNat l op out:=hoi
 replace hor:L4 l N o []=L4 l (N - k) op out:=hor
 have hlt:decide ((out.length:Int) < n)=true→N - k=(N - (k+1))+1∧k+1≤N∧k≤12:=fun h=>by
  have:=of_decide_eq_true h
  omega
 have hix:decide (B0 op 0 0 < 0)=false→∃ u:Nat,B0 op 0 0=(u:Int)∧u < N∧u < op.length∧op.getD u 0=0:=fun h=>by
  rcases Sl op 0 0 with ⟨h1,-⟩ | ⟨u,h1,h2,h3⟩
  ·exact absurd h1 (of_decide_eq_false h)
  ·have:=hoi.ol
   exact ⟨u,by rw [h1,Nat.zero_add],by omega,h2,h3⟩
 have hrl:(List.map (Bm l) (List.range n.toNat)).length=N:=by rw [List.length_map,List.length_range,hN]
 refine (fun m0=>(aI (fun m1=>(aI tT (aI (fun m2=>(Aa rfl ?_)) (fun m2=>(aO (aF (aF (aF (aO (fun m3=>?_)))))))))) (fun m1=>(Aa rfl ?_))))
 ·show (_,_,())=_
  rw [hF,hor,(hlt m1).1,L4,if_pos (of_decide_eq_true m2)]
 ·obtain ⟨u,hu,huN,hul,hu0⟩:=hix m2
  obtain ⟨hs,-,-⟩:=hoi.step hin (by omega:u < n.toNat) hu0
  have hstep:L4 l (N - k) op out=L4 l (N - (k+1)) ((Bm l u).foldl J3 (op.set u (-1))) (out++[(u:Int)]):=by
   rw [(hlt m1).1,L4,hu,if_neg (by omega),Int.toNat_natCast]
  obtain ⟨hlt1,hlt2,hlt3⟩:=hlt m1
  have hR:(List.map (Bm l) (List.range n.toNat)).getD (B0 op 0 0).toNat (Ab tIs)=Bm l u:=by
   rw [hu,Int.toNat_natCast,Bt (by rw [hrl];exact huN),List.getElem_map,List.getElem_range]
  clear m0 m1 m2 hlt hix
  refine ex4 _ (fun q:Nat × List Int=>⟨[.yld 6,.any,.any,.any,.any,.any,.ptr 4 1,.any,.int .i64 (B0 op 0 0),.any,.sl (.int .i64)   ((List.map (Bm l) (List.range n.toNat)).getD (B0 op 0 0).toNat (Ab (.sl (.int .i64)))),.int .i64   (↑(List.length ((List.map (Bm l) (List.range n.toNat)).getD (B0 op 0 0).toNat (Ab (.sl (.int .i64))))) :     Int),.int .i64 (q.1:Int),.any,.any,.any,.any,.any,.any,.any,.any],[.cells [.int .i64 n,.sl (.sl (.int .i64)) (List.map (Bm l) (List.range n.toNat))],.rows tI q.2,.cells [.own 1],.rows tI out,.cells [.int .i64 n,.sl (.sl (.int .i64)) (List.map (Bm l) (List.range n.toNat))],.cells [.int .i64 (B0 op 0 0)],.loop .ready .no ([52]) _ _ [.int .i64 n,.any,.any,.any,.any,.any,.ptr 0 0,.any,.ptr 2 0,.any,.any,.own 3,.int .i64 (B0 op 0 0),.any,.any,.any,.any,.any,.any,.any,.any,.any,.any,.any,.any,.any,.any,.any,.any,.any,.any,.any,.any,.any,.any,.any,.any,.any,.own 3,.int .i64 (↑out.length:Int),.int .i64 n,.bool (decide ((↑out.length:Int) < n)),.own 1,.int .i64 (B0 op 0 0),.int .i64 (B0 op 0 0),.bool (decide (B0 op 0 0 < 0)),.own 1,.int .i64 (B0 op 0 0),.rptr 1 tI.size (B0 op 0 0).toNat 0,.agg [.int .i64 n,.sl (.sl (.int .i64)) (List.map (Bm l) (List.range n.toNat))],.int .i64 (B0 op 0 0),.fn (Fn.func 237) [] [.ptr 4 0,.ptr 5 0],.any,.any,.any,.any,.any,.any,.any,.any,.any,.any,.any,.any]],7⟩) (fun q=>q.1≤(Bm l u).length∧q.2=((Bm l u).take q.1).foldl J3 (op.set (B0 op 0 0).toNat (-1))) (fun q=>(Bm l u).length - q.1) (aI (eI ((0,op.set (B0 op 0 0).toNat (-1))) (eI ([some 0,some 1,some 2,some 3,some 4,some 5,some 6]) (aI ?_ (aB (aI (aI (aA (by rfl)) (aA (aI (aA (by rfl)) (aA (aI (aA (by rfl)) (aI (aA (by rfl)) (aI (aI (aI rfl (aI rfl (aI rfl (aI rfl rfl)))) (aA (by rfl))) tT))))))) (by rfl)))))) ?_)
  ·exact ⟨Nat.zero_le _,rfl⟩
  rintro ⟨j,q⟩ ⟨hj,hq⟩
  replace hj:j≤(Bm l u).length:=hj
  replace hq:q=((Bm l u).take j).foldl J3 (op.set (B0 op 0 0).toNat (-1)):=hq
  rw [← hR] at hj hq
  have hsl:((List.map (Bm l) (List.range n.toNat)).getD (B0 op 0 0).toNat (Ab tIs)).length≤16:=by
   rw [hR]
   unfold Bm
   have h2:=List.length_filter_le (fun e:EdgT=>e.1 == (u:Int)) l
   rw [List.length_map]
   omega
  have hsr:∀ v∈(List.map (Bm l) (List.range n.toNat)).getD (B0 op 0 0).toNat (Ab tIs),0≤v∧v < (n.toNat:Int):=fun v hv=>by
   rw [hR] at hv
   unfold Bm at hv
   obtain ⟨e,he,rfl⟩:=List.mem_map.1 hv
   exact (hin e (List.mem_filter.1 he).1).2.1
  have hR':=hR
  clear hR
  have hu1:(B0 op 0 0).toNat=u:=by rw [hu,Int.toNat_natCast]
  have hql:=Ap0 hoi hl16 (u:=(B0 op 0 0).toNat) hsl hsr hq
  have hw:decide ((j:Int) < (((List.map (Bm l) (List.range n.toNat)).getD (B0 op 0 0).toNat (Ab (.sl (.int .i64)))).length:Int))=true→j < ((List.map (Bm l) (List.range n.toNat)).getD (B0 op 0 0).toNat (Ab tIs)).length ∧
   (0≤((List.map (Bm l) (List.range n.toNat)).getD (B0 op 0 0).toNat (Ab (.sl (.int .i64)))).getD (j:Int).toNat (Ab (.int .i64))∧((List.map (Bm l) (List.range n.toNat)).getD (B0 op 0 0).toNat (Ab (.sl (.int .i64)))).getD (j:Int).toNat (Ab (.int .i64)) < (q.length:Int)) ∧
   J3 q (((List.map (Bm l) (List.range n.toNat)).getD (B0 op 0 0).toNat (Ab (.sl (.int .i64)))).getD (j:Int).toNat (Ab (.int .i64)))=(((List.map (Bm l) (List.range n.toNat)).getD (B0 op 0 0).toNat (Ab tIs)).take (j+1)).foldl J3 (op.set (B0 op 0 0).toNat (-1)):=fun h=>by
   have hj':j < ((List.map (Bm l) (List.range n.toNat)).getD (B0 op 0 0).toNat (Ab tIs)).length:=by have h1:(j:Int) < (((List.map (Bm l) (List.range n.toNat)).getD (B0 op 0 0).toNat (Ab tIs)).length:Int):=of_decide_eq_true h;omega
   have e:((List.map (Bm l) (List.range n.toNat)).getD (B0 op 0 0).toNat (Ab tIs))[j]=((List.map (Bm l) (List.range n.toNat)).getD (B0 op 0 0).toNat (Ab (.sl (.int .i64)))).getD (j:Int).toNat (Ab (.int .i64)):=by
    rw [Int.toNat_natCast,List.getD_eq_getElem?_getD (l:=List.getD _ _ _),List.getElem?_eq_getElem hj'];rfl
   have h1:=hsr _ (List.getElem_mem hj')
   rw [e] at h1
   refine ⟨hj',by rw [hql.1];exact h1, ?_⟩
   rw [List.take_succ_eq_append_getElem hj',List.foldl_append,← hq,e];rfl
  have hwf:decide ((j:Int) < (((List.map (Bm l) (List.range n.toNat)).getD (B0 op 0 0).toNat (Ab (.sl (.int .i64)))).length:Int))=false→q=((List.map (Bm l) (List.range n.toNat)).getD (B0 op 0 0).toNat (Ab tIs)).foldl J3 (op.set (B0 op 0 0).toNat (-1)):=fun h=>by
   have h1:¬ (j:Int) < (((List.map (Bm l) (List.range n.toNat)).getD (B0 op 0 0).toNat (Ab tIs)).length:Int):=of_decide_eq_false h
   rw [hq,List.take_of_length_le (by omega)]
  clear hq
  refine (aI (fun w0=>(aO (aO (aI ?_ (aO (aI (fun w1=>nG w1) (fun w1=>(aO ?_)))))))) (fun w0=>(aO ?_)))
  ·have:=hql.2 (((List.map (Bm l) (List.range n.toNat)).getD (B0 op 0 0).toNat (Ab (.sl (.int .i64)))).getD (j:Int).toNat (Ab (.int .i64))).toNat
   show -9223372036854775808≤q.getD (((List.map (Bm l) (List.range n.toNat)).getD (B0 op 0 0).toNat (Ab (.sl (.int .i64)))).getD (j:Int).toNat (Ab (.int .i64))).toNat 0 - 1∧q.getD (((List.map (Bm l) (List.range n.toNat)).getD (B0 op 0 0).toNat (Ab (.sl (.int .i64)))).getD (j:Int).toNat (Ab (.int .i64))).toNat 0 - 1≤9223372036854775807
   omega
  ·obtain ⟨h1,-,h3⟩:=hw w0
   clear w0 w1 hw hwf
   refine eI ((j+1,J3 q (((List.map (Bm l) (List.range n.toNat)).getD (B0 op 0 0).toNat (Ab (.sl (.int .i64)))).getD (j:Int).toNat (Ab (.int .i64))))) (eI ([some 0,some 1,some 2,some 3,some 4,some 5,some 6]) (aI ?_ (aI ?_ (aB (aI (aI (aA (by rfl)) (aA (aI (aA (by rfl)) (aA (aI (aA (by rfl)) (aI (aA (by rfl)) (aI (aI (aI rfl (aI rfl (aI rfl (aI rfl rfl)))) (aA (by rfl))) tT))))))) (by rfl))))))
   ·exact ⟨by show j+1≤(Bm l u).length;rw [← hR'];exact h1,by show J3 _ _=((Bm l u).take (j+1)).foldl J3 _;rw [← hR'];exact h3⟩
   ·show (Bm l u).length - (j+1) < (Bm l u).length - j
    rw [← hR'];omega
  ·have h1:=hwf w0
   clear w0 hw hwf
   have e:q=(Bm l u).foldl J3 (op.set u (-1)):=by rw [h1,hR',hu1]
   refine eI ((k+1,q,out++[B0 op 0 0])) (eI ([some 0,some 1,some 2,some 8]) (aI ?_ (aI ?_ (aB (aI (aI (aA (by rfl)) (aA (aI (aA (by rfl)) (aA tT)))) (by rfl))))))
   ·refine ⟨by show (out++[_]).length=k+1;rw [List.length_append,hk];rfl,hlt2, ?_, ?_⟩
    ·show OI n.toNat l q (out++[B0 op 0 0])
     rw [hu,e];exact hs
    ·show L4 l N o []=L4 l (N - (k+1)) q (out++[B0 op 0 0])
     rw [hor,hstep,hu,e]
   ·show N - (k+1) < N - k
    omega
 ·show (_,_,())=_
  rw [hF,hor,show N - k=0 by have:¬ (out.length:Int) < n:=of_decide_eq_false m1;omega];rfl
theorem Aoc {a b:Bool} (h:(bif a then b else false)=true):a=true∧b=true:=by cases a <;> simp_all
def Ak0:FuncId→List AV→List Ob→AV→List Ob→Prop:=fun g args T x1 T1=>∃ d:List EdgT,d.length≤12∧g=131∧args=[.own 0,.fn (.func 132) [] []]∧T=[.rows tE d]∧x1=.tup []∧T1=[.rows tE (B4 d)]
theorem Aod:∀ g args T x1 T1,Ak0 g args T x1 T1→L7 cxE2 Tryz.prog 4 g args T T.length (fun x T' n'=>∃ σ,Iy T.length σ [noW x] T' n' ⟨[x1],T1,T1.length⟩):=by
 rintro g args T x1 T1 ⟨d,hd,rfl,rfl,rfl,rfl,rfl⟩
 exact Ahy d hd
theorem Aac:A7 Tryz.prog (Fy Ak0):=F1 (Af Ly (Af Ly (Af Ly (Af Ly Bf)))) Aod
def Aoe:List (TypeId × Ty):=(155,tE) :: C5
def cxGo:Ctx:=⟨Aoe,[(135,([],cDgO))]⟩
theorem Pa:Ah Tryz.prog cxGo:=C7 (Ae Ap1 Ag)
def okO (x:PlT):Prop:=x.2.length≤12∧okD x.1.length (B4 (Hb x))
def cOrder:Ctr:=fnC [dPl] [(false,tIs)] (fun y=>okO y.1) (fun y=>(Ad y.1,()))
set_option maxHeartbeats 8000000 in
theorem Am0:GoodC Tryz.prog 91 cOrder:=by
 refine Vb (Af Pa (Cs (g0:=131) Aac (Af Pa (Af Pa Bf)))) _ _ _ _ ⟨_,Tryz.func91,rfl,rfl⟩ fun (⟨⟨st,ps⟩,_⟩ : PlT × Unit) hg=>?_
 obtain ⟨hl,hd⟩ : okO (st,ps):=hg
 have hge:=hd.1.1
 have hN:=hd.1.2
 replace hl:ps.length≤12:=hl
 refine (aF (fun h0=>?_))
 refine ex4 _ (fun p:Nat × List EdgT=>⟨[.any,.ptr 0 0,.any,.own 1,.any,.any,.any,.any,.ptr 0 1,.sl A3 ps,.int .i64 (↑ps.length:Int),.int .i64 (p.1:Int)]++nA 24,[.cells [.sl tSt st,.sl A3 ps],.rows tE p.2],2⟩) (fun p=>p.1≤ps.length∧p.2=(Hb (st,ps)).take p.1) (fun p=>ps.length - p.1) (aI (eI ((0,[])) (eI ([some 0,none]) (aI ?_ (aB (aI (aI (aA (by rfl)) (aA tT)) (by rfl)))))) ?_)
 ·exact ⟨Nat.zero_le _,rfl⟩
 rintro ⟨i,d⟩ ⟨hi,hdd⟩
 replace hi:i≤ps.length:=hi
 replace hdd:d=(Hb (st,ps)).take i:=hdd
 have hlt:decide ((i:Int) < (ps.length:Int))=true→i < ps.length∧d++[((ps.getD (i:Int).toNat (Ab A3)).1,(ps.getD (i:Int).toNat (Ab A3)).2.2.1)]=(Hb (st,ps)).take (i+1):=fun h=>by
  have hi':i < ps.length:=by have:=of_decide_eq_true h;omega
  refine ⟨hi', ?_⟩
  have hl2:i < (Hb (st,ps)).length:=by unfold Hb;rw [List.length_map];exact hi'
  rw [List.take_succ_eq_append_getElem hl2,← hdd]
  have e:(Hb (st,ps))[i]=((ps.getD (i:Int).toNat (Ab A3)).1,(ps.getD (i:Int).toNat (Ab A3)).2.2.1):=by
   refine (List.getElem_map (f:=fun p:PipeT=>((p.1,p.2.2.1):EdgT)) (l:=ps) (h:=by rw [List.length_map];exact hi')).trans ?_
   rw [Int.toNat_natCast,Bt hi']
  rw [e]
 refine (aI (fun k0=>(aO (aO (aO ?_)))) (fun k0=>(aI tT ?_)))
 ·obtain ⟨h1,h2⟩:=hlt k0
  clear k0 hlt
  refine eI ((i+1,d++[((ps.getD (i:Int).toNat (Ab A3)).1,(ps.getD (i:Int).toNat (Ab A3)).2.2.1)])) (eI ([some 0,some 4]) (aI ?_ (aI ?_ (aB (aI (aI (aA (by rfl)) (aA tT)) (by rfl))))))
  ·exact ⟨h1,h2⟩
  ·show ps.length - (i+1) < ps.length - i
   omega
 have hd2:d=Hb (st,ps):=by
  have:¬ (i:Int) < (ps.length:Int):=of_decide_eq_false k0
  rw [hdd,List.take_of_length_le (by unfold Hb;rw [List.length_map];show ps.length≤i;omega)]
 have hd12:d.length≤12:=by rw [hd2];unfold Hb;rw [List.length_map];exact hl
 clear hlt k0 hdd
 rw [← hd2] at hd hge
 refine eI [.own 0,.fn (.func 132) [] []] (eI [.rows tE d] (eI (.tup []) (eI [.rows tE (B4 d)] (eI [some 1]
  ⟨⟨d,hd12,rfl,rfl,rfl,rfl,rfl⟩,⟨by rfl,by rfl,⟨by rfl,trivial⟩,by rfl⟩,by rfl, ?_⟩))))
 dsimp only [Ep,Ce,D5,Cx,Ev,Bo,Am,G8,List.length_cons,List.length_nil,List.cons_append,List.nil_append,Nat.reduceAdd,Nat.reduceSub]
 have hF:∀ {r:G7 [(false,tIs),(false,tI)]},r=((Uk ((st.length:Nat):Int).toNat (B4 d)).1,(Uk ((st.length:Nat):Int).toNat (B4 d)).2,())→(Ad (st,ps),())=(r.1,()):=fun h=>by
  rw [h,hd2];rfl
 refine (aK (fun w0=>(aC (aF (fun w1=>(aI (fun w2=>(aB (aA (aI (by omega) (fun (w3:List Int × Int × PUnit)=>(fun w4=>(aC (Aa rfl ?_)))))))) (fun w2=>?_)))))))
 ·exact hF w4
 have hS2:2≤(B4 d).length:=by
  have:¬ ((B4 d).length:Int) < 2:=of_decide_eq_false w2
  omega
 clear w0 w1 w2
 refine ex4 _ (fun k:Nat=>⟨[.own 1,.any,.any,.int .i64 ((k:Int)+1),.any,.any,.own 1]++nA 54,[.cells [.sl tSt st,.sl A3 ps],.rows tE (B4 d)],2⟩) (fun k=>k+1≤(B4 d).length) (fun k=>(B4 d).length - k) (aI (eI (0) (eI ([some 0,some 1]) (aI ?_ (aB (aI (aI (aA (by rfl)) (aA tT)) (by rfl)))))) ?_)
 ·show 0+1≤(B4 d).length
  omega
 rintro k hk
 replace hk:k+1≤(B4 d).length:=hk
 have hno:decide ((k:Int)+1 < ((B4 d).length:Int))=true→(bif decide (((B4 d).getD ((k:Int)+1).toNat (Ab tE)).1=((B4 d).getD ((k:Int)+1 - 1).toNat (Ab tE)).1) then bif decide (((B4 d).getD ((k:Int)+1).toNat (Ab tE)).2=((B4 d).getD ((k:Int)+1 - 1).toNat (Ab tE)).2) then true else false else false)=true→False:=fun h1 h2=>by
  have h3:k+1 < (B4 d).length:=by have:=of_decide_eq_true h1;omega
  have h4:=hge.2.2 k h3
  rw [show ((k:Int)+1).toNat=k+1 by omega,show ((k:Int)+1 - 1).toNat=k by omega] at h2
  have h5:=Aoc h2
  have h6:((B4 d).getD (k+1) (0,0)).1=((B4 d).getD k (0,0)).1:=of_decide_eq_true h5.1
  have h7:((B4 d).getD (k+1) (0,0)).2=((B4 d).getD k (0,0)).2:=of_decide_eq_true (Aoc h5.2).1
  omega
 refine (fun u0=>(aI (fun u1=>(aF (aO (aO (aI (by omega) (aF (aI (fun u2=>(aI (by omega) ?_)) (fun u2=>(aO ?_))))))))) (fun u1=>(aB (aA (aI (by omega) (fun (u3:List Int × Int × PUnit)=>(fun u4=>(aC (Aa rfl ?_))))))))))
 ·exact (hno u1 u2).elim
 ·have h1:k+1 < (B4 d).length:=by have:=of_decide_eq_true u1;omega
  clear u0 u1 u2 hno
  refine eI (k+1) (eI ([some 0,some 1]) (aI ?_ (aI ?_ (aB (aI (aI (aA (by rfl)) (aA tT)) (by rfl))))))
  ·exact h1
  ·show (B4 d).length - (k+1) < (B4 d).length - k
   omega
 ·exact hF u4
theorem Ul:∀ (j:Nat) (d:List EdgT),j < d.length→(Mw j d).Perm d
 | 0,d,_=>List.Perm.refl _
 | j+1,d,h=>by
  unfold Mw
  split
  ·have hs:((d.set (j+1) (d.getD j (0,0))).set j (d.getD (j+1) (0,0))).Perm d:=by
    rw [Bt h,Bt (by omega:j < d.length)]
    exact List.set_set_perm h (by omega)
   exact (Ul j _ (by rw [List.length_set,List.length_set];omega)).trans hs
  ·exact List.Perm.refl _
theorem Um:∀ (k i:Nat) (d:List EdgT),i+k≤d.length→(Sy k i d).Perm d
 | 0,_,d,_=>List.Perm.refl _
 | k+1,i,d,h=>by
  unfold Sy
  have h1:=Ul i d (by omega)
  exact (Um k (i+1) (Mw i d) (by rw [h1.length_eq];omega)).trans h1
theorem Ad8 (d:List EdgT):(B4 d).Perm d:=by
 unfold B4
 by_cases h:d.length=0
 ·rw [h];exact List.Perm.refl _
 ·exact Um _ _ _ (by omega)
structure Topo (n:Nat) (l:List EdgT) (w:List Int):Prop where
 nd:w.Nodup
 all:∀ v:Int,v∈w↔0≤v∧v < n
 pre:∀ a v b,w=a++v :: b→∀ e∈l,e.2=v→e.1∈a
theorem Sm (n:Nat):(ints n).Nodup:=by
 unfold ints
 exact List.Pairwise.map _ (fun a b h e=>h (Int.ofNat_inj.1 e)) List.nodup_range
theorem Ah3 {n:Nat} {l:List EdgT} (hl:∀ e∈l,(0≤e.1∧e.1 < n)∧(0≤e.2∧e.2 < n)∧e.1≠e.2)
 (hf:∀ B:List Int,B≠[]→B.Nodup→(∀ i∈B,0≤i∧i < n)→∃ v∈B,∀ e∈l,e.2=v→e.1 ∉ B) :
 ∀ (k:Nat) (o out:List Int),OI n l o out→out.length+k=n→(∀ a v b,out=a++v :: b→∀ e∈l,e.2=v→e.1∈a)→(L4 l k o out).2=0∧Topo n l (L4 l k o out).1
 | 0,o,out,h,hk,hp=>by
  refine ⟨rfl,h.nd,fun v=>⟨h.rg v,fun hv=>?_⟩,hp⟩
  exact O2 h.nd (m:=ints n) (fun a ha=>Jf.2 (h.rg a ha)) (by rw [H5];omega) v (Jf.2 hv)
 | k+1,o,out,h,hk,hp=>by
  have hex:∃ u:Nat,u < n∧o.getD u 0=0:=by
   have hB:(ints n).filter (fun v=>!decide (v∈out))≠[]:=fun he=>by
    have hall:∀ a∈ints n,a∈out:=fun a ha=>by
     refine Classical.byContradiction fun hna=>?_
     have:a∈(ints n).filter (fun v=>!decide (v∈out)):=List.mem_filter.2 ⟨ha,by simpa using hna⟩
     rw [he] at this
     exact List.not_mem_nil this
    have hnd:=Sm n
    have:=Gx (ints n) out hnd hall
    rw [H5] at this
    omega
   have hnd:((ints n).filter (fun v=>!decide (v∈out))).Nodup:=by
    exact List.Pairwise.filter _ (Sm n)
   obtain ⟨v,hv,hve⟩:=hf _ hB hnd (fun i hi=>Jf.1 (List.mem_filter.1 hi).1)
   obtain ⟨hv1,hv2⟩:=List.mem_filter.1 hv
   have hv1:=Jf.1 hv1
   have hv2:v ∉ out:=by simpa using hv2
   refine ⟨v.toNat,by omega, ?_⟩
   have hc:((v.toNat:Nat):Int)=v:=by omega
   rw [h.op v.toNat (by omega),hc,if_neg hv2]
   have:Iv l out v.toNat=0:=by
    unfold Iv
    rw [List.countP_eq_zero]
    intro e he
    rw [hc]
    simp only [Bool.and_eq_true,decide_eq_true_eq,Bool.not_eq_true',decide_eq_false_iff_not,not_and,Classical.not_not]
    intro e2
    refine Classical.byContradiction fun h3=>?_
    have:=hve e he e2
    exact this (List.mem_filter.2 ⟨Jf.2 (hl e he).1,by simpa using h3⟩)
   rw [this];rfl
  obtain ⟨u0,hu0,hu1⟩:=hex
  unfold L4
  rcases Sl o 0 0 with ⟨-,h2⟩ | ⟨u,h1,h2,h3⟩
  ·exfalso
   apply h2
   have hlt:u0 < o.length:=by rw [h.ol];exact hu0
   rw [← hu1,Bt hlt]
   exact List.getElem_mem hlt
  ·rw [h1,Nat.zero_add,if_neg (by omega),Int.toNat_natCast]
   have hun:u < n:=by rw [← h.ol];exact h2
   obtain ⟨hs,hnm,hpre⟩:=h.step hl hun h3
   refine Ah3 hl hf k _ _ hs (by rw [List.length_append,List.length_singleton];omega) ?_
   intro a v b hab e he hev
   rcases List.append_eq_append_iff.1 hab with ⟨c,hc1,hc2⟩ | ⟨c,hc1,hc2⟩
   ·cases c with
    | nil =>
     rw [List.append_nil] at hc1
     rw [List.nil_append] at hc2
     have:v=(u:Int):=(List.cons.inj hc2).1.symm
     rw [hc1]
     exact hpre e he (by rw [hev,this])
    | cons c0 c =>
     have:=congrArg List.length hc2
     simp at this
   ·cases c with
    | nil =>
     rw [List.append_nil] at hc1
     rw [List.nil_append] at hc2
     have:v=(u:Int):=(List.cons.inj hc2).1
     rw [← hc1]
     exact hpre e he (by rw [hev,this])
    | cons c0 c =>
     obtain ⟨e1,e2⟩:=List.cons.inj hc2
     subst e1
     exact hp a v c hc1 e he hev
theorem Ah4 {x:PlT} (w:WF x):Topo x.1.length (Hb x) (Ad x):=by
 have hm:∀ e,e∈B4 (Hb x)↔e∈Hb x:=fun e=>(Ad8 _).mem_iff
 have hk:∀ e∈Hb x,∃ k,k < x.2.length∧e=((x.2.getD k Aw).1,(x.2.getD k Aw).2.2.1):=fun e he=>by
  obtain ⟨y,hy,rfl⟩:=List.mem_map.1 he
  obtain ⟨k,hk,rfl⟩:=List.mem_iff_getElem.1 hy
  exact ⟨k,hk,by rw [Bt hk]⟩
 have hl:∀ e∈B4 (Hb x),(0≤e.1∧e.1 < x.1.length)∧(0≤e.2∧e.2 < x.1.length)∧e.1≠e.2:=fun e he=>by
  obtain ⟨k,hk,rfl⟩:=hk e ((hm e).1 he)
  have q:=w.pipe hk
  exact ⟨⟨q.f0,q.fn⟩,⟨q.t0,q.tn⟩,w.ne hk⟩
 have hf:∀ B:List Int,B≠[]→B.Nodup→(∀ i∈B,0≤i∧i < x.1.length)→∃ v∈B,∀ e∈B4 (Hb x),e.2=v→e.1 ∉ B:=fun B hB hnd hr=>by
  refine Classical.byContradiction fun hno=>?_
  have hlt:=Ahe hB hr w.tree
  have hall:∀ v∈B,∃ k,k < x.2.length∧(x.2.getD k Aw).2.2.1=v∧(x.2.getD k Aw).1∈B:=fun v hv=>by
   refine Classical.byContradiction fun hnk=>?_
   apply hno
   refine ⟨v,hv,fun e he hev hm2=>hnk ?_⟩
   obtain ⟨k,hk,rfl⟩:=hk e ((hm e).1 he)
   exact ⟨k,hk,hev,hm2⟩
  have h1:B.length≤((x.2.filter (Ky B)).map fun y=>y.2.2.1).length:=Gx B _ hnd fun v hv=>by
   obtain ⟨k,k1,k2,k3⟩:=hall v hv
   refine List.mem_map.2 ⟨x.2.getD k Aw,List.mem_filter.2 ⟨by rw [Bt k1];exact List.getElem_mem k1, ?_⟩,k2⟩
   unfold Ky
   rw [decide_eq_true k3,k2,decide_eq_true hv];rfl
  rw [List.length_map,← List.countP_eq_length_filter] at h1
  omega
 have hs0:∀ e∈B4 (Hb x),0≤e.2:=fun e he=>(hl e he).2.1.1
 have hlen:((B4 (Hb x)).foldl L3 (List.replicate x.1.length 0)).length=x.1.length:=by
  have hn:=w.n1
  rw [(J4 0 _ (List.replicate x.1.length 0) hs0 (by rw [List.length_replicate];omega)).1,List.length_replicate]
 have ho:=(Ah3 hl hf x.1.length ((B4 (Hb x)).foldl L3 (List.replicate x.1.length 0)) [] ⟨hlen,List.nodup_nil,fun v hv=>absurd hv List.not_mem_nil,fun e _ h=>absurd h List.not_mem_nil,fun v hv=>?_⟩ (by simp) (fun a v b h=>by simp at h)).2
 ·exact ⟨ho.nd,ho.all,fun a v b h e he=>ho.pre a v b h e ((hm e).2 he)⟩
 ·rw [(J4 v _ (List.replicate x.1.length 0) hs0 (by rw [List.length_replicate];omega)).2,if_neg List.not_mem_nil]
  unfold Iv
  rw [List.getD_eq_getElem?_getD,List.getElem?_replicate,if_pos hv]
  simp
theorem Am1 {x:PlT} {s:FsT} (v:VS x s) {i:Int} (i0:0≤i) (iN:i < x.1.length) (h1:(sg x i).1=1):0≤(Ci s i).2.1∧(Ci s i).2.1≤((sg x i).2.2.2.length:Int):=by
 have hnd:(Ar (sg x i) (Ci s i)).2=0:=by have:=v.nd i.toNat (by omega);rwa [show ((i.toNat:Nat):Int)=i by omega] at this
 obtain ⟨b1,b2,-⟩:=(Ay.1 (Cp.1 hnd).2).1
 unfold Fp at b2
 rw [if_pos h1] at b2
 exact ⟨b1,b2⟩
end Go.Proofs.YtckpldpombdkgaaGreat
