/- Pipelines. -/
import Derived.Test.YtckpldpombdkgaaGreatCZ4
set_option linter.unusedSimpArgs false
set_option linter.unusedVariables false
set_option maxRecDepth 100000
namespace Go.Proofs.YtckpldpombdkgaaGreat
open Go.Sx
def Ba:List (List Int)→Int
 | []=>0
 | l :: r=>if A2 l=true then 4 else if l.any Ai=true then 2 else Ba r
theorem A5 {xs:List (List Int)} {i:Nat} (h:i < xs.length):Ba (xs.drop i)=if A2 (xs.getD i (Ab tIs))=true then 4 else if (xs.getD i (Ab tIs)).any Ai=true then 2 else Ba (xs.drop (i+1)):=by
 rw [List.drop_eq_getElem_cons h]
 simp [Ba,List.getD,h]
theorem Bu:∀ {xs:List (List Int)} {i:Nat},Ba xs=0→i < xs.length→(xs.getD i (Ab tIs)).length≤200∧(xs.getD i (Ab tIs)).any Ai=false
 | [],i,_,h=>absurd h (Nat.not_lt_zero _)
 | l :: r,i,h,hi=>by
  simp only [Ba] at h
  split at h
  ·exact absurd h (by decide)
  ·split at h
   ·exact absurd h (by decide)
   ·rename_i h1 h2
    cases i with
    | zero =>
     have h3:¬ 200 < (l.length:Int):=by simpa [A2] using h1
     exact ⟨by show l.length≤200;omega,by simpa using h2⟩
    | succ i =>
     have:=Bu (i:=i) h (by simpa using hi)
     simpa using this
theorem Gk {α β:Type} (f:β→α→β) (s:β) {a:List α} {i:Nat} (d:α) (h:i < a.length):(a.take (i+1)).foldl f s=f ((a.take i).foldl f s) (a.getD i d):=by
 rw [Lt (d:=d) h,List.foldl_append];rfl
def Al4:List (TypeId × Ty):=(3000031,tI) :: C5
def c60:Ctr:=fnO [dIs] tI (fun y=>y.1.length≤1000) (fun y=>y.1)
theorem Zk:GoodC Tryz.prog 119 c60:=by
 refine Go.Sx.goodO Ag 4 _ _ _ _ ⟨_,Tryz.func119,rfl,rfl⟩ fun (⟨xs,_⟩ : List Int × Unit) hn=>?_
 have hn':xs.length≤1000:=hn
 clear hn
 have room:xs.length * 8≤lim:=by simp only [lim];omega
 refine (aF (fun h0=>(fun h1=>(aI (fun h2=>(I8 (by simp_all))) (fun h2=>(aI (by first | exact room | (intros;(try subst_vars);(try simp only [nB] at *);(try simp only [inK,big,lim,nL] at *);omega)) (Lq rfl (by simp_all))))))))
def cxM:Ctx:=⟨Al4,[(85,([],c17)),(127,([],c40k)),(98,([],c41)),(142,([],c37)),(177,([],c83)),(238,([],c108)),(129,([],c43)),(119,([],c60))]⟩
theorem B8:Ah Tryz.prog cxM:=C7 (Ae R6 (Ae Ny (Ae Ve (Ae Alr (Ae Zg (Ae Abf (Ae Vd (Ae Zk Ag))))))))
@[reducible] def T4:List (Bool × Ty):=[(false,Xh),(false,tI)]
def evX (e:ExprT) (ns:List ByteArray) (a b:Int):Int × Int:=Hy e (Bv ns [a,b])
def Oz (f g:Int):Int:=if decide (f=0)=true then g else f
theorem Im {f g:Int} (h:decide (f=0)=true):Oz f g=g:=by rw [Oz,if_pos h]
theorem R8 {f g:Int} (h:decide (f=0)=false):Oz f g=f:=by rw [Oz,if_neg (by rw [h];simp)]
def Kw (f:Int) (o:List Int) (v:Int):List Int:=if decide (f=0)=true then o++[v] else o
theorem O0 {f v:Int} {o:List Int} (h:decide (f=0)=true):Kw f o v=o++[v]:=by rw [Kw,if_pos h]
theorem Jz {f v:Int} {o:List Int} (h:decide (f=0)=false):Kw f o v=o:=by rw [Kw,if_neg (by rw [h];simp)]
theorem Af7 (f:Int) (o:List Int) (v:Int):(Kw f o v).length≤o.length+1:=by
 unfold Kw;split <;> simp
def L2 (e:ExprT) (s:List Int × Int) (a:Int):List Int × Int :=
 (Kw (Oz s.2 (evX e nmX a 0).2) s.1 (evX e nmX a 0).1,Oz s.2 (evX e nmX a 0).2)
def Kb (e:ExprT) (s:List Int × Int) (a:Int):List Int × Int :=
 (if decide ((evX e nmX a 0).1=1)=true then Kw (Oz s.2 (evX e nmX a 0).2) s.1 a else s.1,Oz s.2 (evX e nmX a 0).2)
def Ip (e:ExprT) (s:List Int × List Int × Int) (a:Int):List Int × List Int × Int :=
 (if decide ((evX e nmX a 0).1=1)=true then Kw (Oz s.2.2 (evX e nmX a 0).2) s.1 a else s.1,
  if decide ((evX e nmX a 0).1=1)=true then s.2.1 else Kw (Oz s.2.2 (evX e nmX a 0).2) s.2.1 a,Oz s.2.2 (evX e nmX a 0).2)
def Xv (z:Int) (o:List Int) (a:Int):List Int:=o++List.replicate z.toNat a
def Ss (z:Int) (s:List Int × Int) (a:Int):List Int × Int:=if decide (s.2 < z)=true then (s.1++[a],s.2+1) else s
def Ez (s:Int × Int) (a:Int):Int × Int:=(s.1+a,if (bif !Jx (s.1+a) then decide (s.2=0) else false)=true then 14 else s.2)
def G2 (s:List Int × List Int × Int):List Int × List Int × Int:=([],Kw (s.1.foldl Ez (0,s.2.2)).2 s.2.1 (s.1.foldl Ez (0,s.2.2)).1,(s.1.foldl Ez (0,s.2.2)).2)
def De (z:Int) (s:List Int × List Int × Int) (a:Int):List Int × List Int × Int :=
 if decide (((s.1++[a]).length:Int)=z)=true then G2 (s.1++[a],s.2) else (s.1++[a],s.2)
def Ds (s:List Int × List Int × Int):List Int × List Int × Int:=if decide (0 < (s.1.length:Int))=true then G2 s else s
def G3:Nat→List Int→List Int→List Int
 | 0,_,b=>b
 | _+1,[],b=>b
 | n+1,x :: a,b=>x :: G3 n b a
def Ms (e:ExprT) (a b:List Int) (s:List Int × Int) (i:Nat):List Int × Int :=
 (Kw (Oz s.2 (evX e Ey (a.getD i 0) (b.getD i 0)).2) s.1 (evX e Ey (a.getD i 0) (b.getD i 0)).1,Oz s.2 (evX e Ey (a.getD i 0) (b.getD i 0)).2)
def Ch (x:StT) (ins:List (List Int)):List (List Int) × Int :=
 if x.1=1 then ([x.2.2.2],0)
 else if x.1=2 then ([((ins.getD 0 []).foldl (L2 x.2.2.1) ([],0)).1],((ins.getD 0 []).foldl (L2 x.2.2.1) ([],0)).2)
 else if x.1=3 then ([((ins.getD 0 []).foldl (Kb x.2.2.1) ([],0)).1],((ins.getD 0 []).foldl (Kb x.2.2.1) ([],0)).2)
 else if x.1=4 then ([(Ds ((ins.getD 0 []).foldl (De x.2.1) ([],[],0))).2.1],(Ds ((ins.getD 0 []).foldl (De x.2.1) ([],[],0))).2.2)
 else if x.1=5 then ([(ins.getD 0 []).foldl (Xv x.2.1) []],0)
 else if x.1=6 then ([((ins.getD 0 []).foldl (Ss x.2.1) ([],0)).1],0)
 else if x.1=7 then ([((ins.getD 0 []).foldl (Ip x.2.2.1) ([],[],0)).1,((ins.getD 0 []).foldl (Ip x.2.2.1) ([],[],0)).2.1],((ins.getD 0 []).foldl (Ip x.2.2.1) ([],[],0)).2.2)
 else if x.1=8 then ([G3 ((ins.getD 0 []).length+(ins.getD 1 []).length) (ins.getD 0 []) (ins.getD 1 [])],0)
 else if x.1=9 then ([((List.range (min (ins.getD 0 []).length (ins.getD 1 []).length)).foldl (Ms x.2.2.1 (ins.getD 0 []) (ins.getD 1 [])) ([],0)).1],((List.range (min (ins.getD 0 []).length (ins.getD 1 []).length)).foldl (Ms x.2.2.1 (ins.getD 0 []) (ins.getD 1 [])) ([],0)).2)
 else ([],0)
def Az (x:StT) (ins:List (List Int)):List (List Int) × Int :=
 if (!decide (An x=0))=true then ([],An x) else
 if (!decide ((ins.length:Int)=(Ao x.1).1))=true then ([],10) else
 if (!decide (Ba ins=0))=true then ([],Ba ins) else
 if (!decide ((Ch x ins).2=0))=true then ([],(Ch x ins).2) else
 if ((Ch x ins).1.any A2)=true then ([],4) else
 ((Ch x ins).1,0)
theorem MN0 {x:StT} {ins:List (List Int)} (h0:(!decide (An x=0))=true):(Az x ins)=([],An x):=by rw [Az,if_pos h0]
theorem Df {x:StT} {ins:List (List Int)} (h0:(!decide (An x=0))=true):((Az x ins).1,(Az x ins).2,())=((([],An x):List (List Int) × Int).1,(([],An x):List (List Int) × Int).2,()):=by rw [MN0 h0]
theorem MN1 {x:StT} {ins:List (List Int)} (h0:(!decide (An x=0))=false) (h1:(!decide ((ins.length:Int)=(Ao x.1).1))=true):(Az x ins)=([],10):=by rw [Az,if_neg (by rw [h0];simp),if_pos h1]
theorem Dl {x:StT} {ins:List (List Int)} (h0:(!decide (An x=0))=false) (h1:(!decide ((ins.length:Int)=(Ao x.1).1))=true):((Az x ins).1,(Az x ins).2,())=((([],10):List (List Int) × Int).1,(([],10):List (List Int) × Int).2,()):=by rw [MN1 h0 h1]
theorem MN2 {x:StT} {ins:List (List Int)} (h0:(!decide (An x=0))=false) (h1:(!decide ((ins.length:Int)=(Ao x.1).1))=false) (h2:(!decide (Ba ins=0))=true):(Az x ins)=([],Ba ins):=by rw [Az,if_neg (by rw [h0];simp),if_neg (by rw [h1];simp),if_pos h2]
theorem Kc {x:StT} {ins:List (List Int)} (h0:(!decide (An x=0))=false) (h1:(!decide ((ins.length:Int)=(Ao x.1).1))=false) (h2:(!decide (Ba ins=0))=true):((Az x ins).1,(Az x ins).2,())=((([],Ba ins):List (List Int) × Int).1,(([],Ba ins):List (List Int) × Int).2,()):=by rw [MN2 h0 h1 h2]
theorem MN3 {x:StT} {ins:List (List Int)} (h0:(!decide (An x=0))=false) (h1:(!decide ((ins.length:Int)=(Ao x.1).1))=false) (h2:(!decide (Ba ins=0))=false) (h3:(!decide ((Ch x ins).2=0))=true):(Az x ins)=([],(Ch x ins).2):=by rw [Az,if_neg (by rw [h0];simp),if_neg (by rw [h1];simp),if_neg (by rw [h2];simp),if_pos h3]
theorem Add {x:StT} {ins:List (List Int)} (h0:(!decide (An x=0))=false) (h1:(!decide ((ins.length:Int)=(Ao x.1).1))=false) (h2:(!decide (Ba ins=0))=false) (h3:(!decide ((Ch x ins).2=0))=true):((Az x ins).1,(Az x ins).2,())=((([],(Ch x ins).2):List (List Int) × Int).1,(([],(Ch x ins).2):List (List Int) × Int).2,()):=by rw [MN3 h0 h1 h2 h3]
theorem MN4 {x:StT} {ins:List (List Int)} (h0:(!decide (An x=0))=false) (h1:(!decide ((ins.length:Int)=(Ao x.1).1))=false) (h2:(!decide (Ba ins=0))=false) (h3:(!decide ((Ch x ins).2=0))=false) (h4:((Ch x ins).1.any A2)=true):(Az x ins)=([],4):=by rw [Az,if_neg (by rw [h0];simp),if_neg (by rw [h1];simp),if_neg (by rw [h2];simp),if_neg (by rw [h3];simp),if_pos h4]
theorem Su {x:StT} {ins:List (List Int)} (h0:(!decide (An x=0))=false) (h1:(!decide ((ins.length:Int)=(Ao x.1).1))=false) (h2:(!decide (Ba ins=0))=false) (h3:(!decide ((Ch x ins).2=0))=false) (h4:((Ch x ins).1.any A2)=true):((Az x ins).1,(Az x ins).2,())=((([],4):List (List Int) × Int).1,(([],4):List (List Int) × Int).2,()):=by rw [MN4 h0 h1 h2 h3 h4]
theorem MN5 {x:StT} {ins:List (List Int)} (h0:(!decide (An x=0))=false) (h1:(!decide ((ins.length:Int)=(Ao x.1).1))=false) (h2:(!decide (Ba ins=0))=false) (h3:(!decide ((Ch x ins).2=0))=false) (h4:((Ch x ins).1.any A2)=false):(Az x ins)=((Ch x ins).1,0):=by rw [Az,if_neg (by rw [h0];simp),if_neg (by rw [h1];simp),if_neg (by rw [h2];simp),if_neg (by rw [h3];simp),if_neg (by rw [h4];simp)]
theorem R9 {x:StT} {ins:List (List Int)} (h0:(!decide (An x=0))=false) (h1:(!decide ((ins.length:Int)=(Ao x.1).1))=false) (h2:(!decide (Ba ins=0))=false) (h3:(!decide ((Ch x ins).2=0))=false) (h4:((Ch x ins).1.any A2)=false):((Az x ins).1,(Az x ins).2,())=((((Ch x ins).1,0):List (List Int) × Int).1,(((Ch x ins).1,0):List (List Int) × Int).2,()):=by rw [MN5 h0 h1 h2 h3 h4]
theorem O1 {x:StT} (h:An x=0):x.2.2.2.length≤200∧x.2.2.2.any Ai=false:=by
 have hk:=Cu h
 rw [Nz hk.1 hk.2] at h
 unfold Fo at h
 split at h
 ·exact absurd h (by decide)
 ·split at h
  ·exact absurd h (by decide)
  ·split at h
   ·exact absurd h (by decide)
   ·split at h
    ·exact absurd h (by decide)
    ·rename_i h3 h4
     unfold ck3 at h3
     have h5:¬ 200 < (x.2.2.2.length:Int):=by simpa using h3
     exact ⟨by omega,by simpa using h4⟩
def Zl (sem:CallSem):CallSem:=fun g args H n K=>sem g args H n fun x H' n'=>match x with
 | .int k v=>∀ w:Int,w=v→K (.int k w) H' n'
 | x=>K x H' n'
theorem T5 {P:Program} {sem:CallSem} (hs:A7 P sem):A7 P (Zl sem):=by
 have key:∀ (K:AV→List Ob→Nat→Prop) (x:AV) (H':List Ob) (n':Nat),(match x with
  | .int k v=>∀ w:Int,w=v→K (.int k w) H' n'
  | x=>K x H' n')→K x H' n':=by
  intro K x H' n' h
  split at h
  ·exact h _ rfl
  ·exact h
 refine ⟨fun g args H n K h E vs hE hsz hrd=>?_,fun id args H n K h E vs hE hsz hrd=>?_⟩
 ·obtain ⟨h1,h2⟩:=hs.1 g args H n _ h E vs hE hsz hrd
  refine ⟨h1,h2.mono ?_⟩
  rintro e w' ⟨v,E',x,H',n',k1,k2,k3,k4,k5,k6,k7⟩
  exact ⟨v,E',x,H',n',k1,k2,k3,k4,k5,k6,key K x H' n' k7⟩
 ·obtain ⟨h1,h2⟩:=hs.2 id args H n _ h E vs hE hsz hrd
  refine ⟨h1,fun hd hρ=>?_⟩
  obtain ⟨fn,tmps,x,y,h3,h4⟩:=h2 hd hρ
  refine ⟨fn,tmps,x,y,h3,h4.mono ?_⟩
  rintro e w' ⟨v,E',z,H',n',k1,k2,k3,k4,k5,k6,k7⟩
  exact ⟨v,E',z,H',n',k1,k2,k3,k4,k5,k6,key K z H' n' k7⟩
theorem Gw:A7 Tryz.prog (A6 cxM Tryz.prog (A6 cxM Tryz.prog (A6 cxM Tryz.prog (A6 cxM Tryz.prog (A6 cxM Tryz.prog noS))))):=Af B8 (Af B8 (Af B8 (Af B8 (Af B8 Bf))))
theorem Ade:A7 Tryz.prog (A6 cxM Tryz.prog (A6 cxM Tryz.prog (A6 cxM Tryz.prog (Ja 187 (Zl (A6 cxM Tryz.prog noS)) (A6 cxM Tryz.prog noS))))) :=
 Af B8 (Af B8 (Af B8 (Cs (T5 (Af B8 Bf)) (Af B8 Bf))))
def Iq (k:Int):Prop:=∀ (z:Int) (e:ExprT) (l:List Int) (ins:List (List Int)),An (k,z,e,l)=0→(ins.length:Int)=(Ao k).1 →
 ∃ call:CallSem,A7 Tryz.prog call∧call 93 (F7 [dSt,Za] ((k,z,e,l),ins,())) [] 0 (G0 ⟨none,none,[],Eu T4 ((Az (k,z,e,l) ins).1,(Az (k,z,e,l) ins).2,())⟩)
set_option maxHeartbeats 8000000 in
theorem Af8:Iq 1:=by
 intro z e l ins hc hlk
 have hl:ins.length=0:=by have h:(ins.length:Int)=0:=hlk;omega
 have hs:=A1 hc
 have hit:=(O1 hc).1
 replace hit:l.length≤200:=hit
 have hroom:l.length≤1000:=by omega
 obtain ⟨ek,eo,em,ev,ea⟩:=e
 refine ⟨_,Gw, ?_⟩
 refine (aF (aI tT (aI (fun h0=>(Aa rfl (by first | exact Df (by assumption) | exact Dl (by assumption) (by assumption)))) (fun h0=>(aA (fun h1=>(aI (fun h2=>(Aa rfl (by first | exact Df (by assumption) | exact Dl (by assumption) (by assumption)))) (fun h2=>(fun h3=>?_)))))))))
 refine ex4 _ (fun i:Nat=>⟨[.any,.sl (.sl (.int .i64)) ins,.ptr 0 0,.any,.any,.any,.any,.ptr 1 0,.any,.any,.any,.any,.any,.any,.any,.any,.any,.any,.any,.any,.any,.any,.any,.any,.any,.any,.any,.any,.sl (.sl (.int .i64)) ins,.int .i64 (↑ins.length:Int),.int .i64 (i:Int)]++nA 34,[.cells   [.int .i64 1,.int .i64 z,.int .i64 (ExprT.mk ek eo em ev ea).kind,     .int .i64 (ExprT.mk ek eo em ev ea).op,.str (ExprT.mk ek eo em ev ea).name,     .int .i64 (ExprT.mk ek eo em ev ea).value,.sl .expr (ExprT.mk ek eo em ev ea).args,     .sl (.int .i64) l],.cells   [.int .i64 0,.int .i64 1,.int .i64 0,.int .i64 0,.int .i64 0,     .sl .str [],.fn (Fn.func 204) [] [],.fn (Fn.func 203) [] []]],2⟩) (fun i=>i≤ins.length∧Ba ins=Ba (ins.drop i)) (fun i=>ins.length - i) (aI (eI (0) (eI ([some 0,some 1]) (aI ?_ (aB (aI (aI (aA (by rfl)) (aI (aA (by rfl)) tT)) (by rfl)))))) ?_)
 ·exact ⟨Nat.zero_le _,rfl⟩
 rintro i ⟨hi,ht⟩
 have hin:decide ((i:Int) < (ins.length:Int))=false→(!decide (Ba ins=0))=false:=fun h=>by
  have hi':¬ i < ins.length:=by simpa using h
  rw [ht,List.drop_of_length_le (by omega)];rfl
 have ix:0 < 0→0≤(0:Int)∧(0:Int) < (ins.length:Int):=fun h=>by rw [hl];omega
 have iy:1 < 0→0≤(1:Int)∧(1:Int) < (ins.length:Int):=fun h=>by rw [hl];omega
 have hst:Ba ins=0→∀ j,j < ins.length→(ins.getD j (Ab tIs)).length≤200∧(ins.getD j (Ab tIs)).any Ai=false:=fun h j hj=>Bu h hj
 refine (aI (fun (k0:decide ((↑i:Int) < (↑ins.length:Int))=true)=>absurd (of_decide_eq_true k0) (by omega)) (fun k0=>(aF (aA (aF (aI (by first | exact ⟨by decide,rfl,by decide,by decide⟩ | exact ix (by decide) | exact iy (by decide) | exact hroom | (intros;(try subst_vars);(try simp only [nB] at *);(try simp only [inK,big,lim,nL] at *);omega)) (aF (aI (fun k1=>(aF (aI (by first | exact ⟨by decide,rfl,by decide,by decide⟩ | exact ix (by decide) | exact iy (by decide) | exact hroom | (intros;(try subst_vars);(try simp only [nB] at *);(try simp only [inK,big,lim,nL] at *);omega)) (aI (by first | exact ⟨by decide,rfl,by decide,by decide⟩ | exact ix (by decide) | exact iy (by decide) | exact hroom | (intros;(try subst_vars);(try simp only [nB] at *);(try simp only [inK,big,lim,nL] at *);omega)) (aI (fun k2=>nG k2) (fun k2=>(aI tT (aI (fun k3=>(Aa rfl ?_)) (fun k3=>(Aa rfl ?_)))))))))) (fun k1=>False.elim (Bool.false_ne_true (Eq.symm (Eq.trans (by kernel_rfl) k1))))))))))))
 ·have run:Ch (1,z,ExprT.mk ek eo em ev ea,l) ins=([l],0):=rfl
  have hs0:=hin k0
  exact Su (by assumption) (by assumption) hs0 (by rw [run];rfl) (by rw [run];exact k3)
 ·have run:Ch (1,z,ExprT.mk ek eo em ev ea,l) ins=([l],0):=rfl
  have hs0:=hin k0
  exact (R9 (by assumption) (by assumption) hs0 (by rw [run];rfl) (by rw [run];exact k3)).trans (by rw [run])
set_option maxHeartbeats 8000000 in
theorem Af9:Iq 2:=by
 intro z e l ins hc hlk
 have hl:ins.length=1:=by have h:(ins.length:Int)=1:=hlk;omega
 have hs:=A1 hc
 obtain ⟨ek,eo,em,ev,ea⟩:=e
 refine ⟨_,Gw, ?_⟩
 refine (aF (aI tT (aI (fun h0=>(Aa rfl (by first | exact Df (by assumption) | exact Dl (by assumption) (by assumption)))) (fun h0=>(aA (fun h1=>(aI (fun h2=>(Aa rfl (by first | exact Df (by assumption) | exact Dl (by assumption) (by assumption)))) (fun h2=>(fun h3=>?_)))))))))
 refine ex4 _ (fun i:Nat=>⟨[.any,.sl (.sl (.int .i64)) ins,.ptr 0 0,.any,.any,.any,.any,.ptr 1 0,.any,.any,.any,.any,.any,.any,.any,.any,.any,.any,.any,.any,.any,.any,.any,.any,.any,.any,.any,.any,.sl (.sl (.int .i64)) ins,.int .i64 (↑ins.length:Int),.int .i64 (i:Int)]++nA 34,[.cells   [.int .i64 2,.int .i64 z,.int .i64 (ExprT.mk ek eo em ev ea).kind,     .int .i64 (ExprT.mk ek eo em ev ea).op,.str (ExprT.mk ek eo em ev ea).name,     .int .i64 (ExprT.mk ek eo em ev ea).value,.sl .expr (ExprT.mk ek eo em ev ea).args,     .sl (.int .i64) l],.cells   [.int .i64 1,.int .i64 1,.int .i64 0,.int .i64 0,.int .i64 1,     .sl .str [{ data:=#[120] }],.fn (Fn.func 205) [] [],.fn (Fn.func 203) [] []]],2⟩) (fun i=>i≤ins.length∧Ba ins=Ba (ins.drop i)) (fun i=>ins.length - i) (aI (eI (0) (eI ([some 0,some 1]) (aI ?_ (aB (aI (aI (aA (by rfl)) (aI (aA (by rfl)) tT)) (by rfl)))))) ?_)
 ·exact ⟨Nat.zero_le _,rfl⟩
 rintro i ⟨hi,ht⟩
 have hin:decide ((i:Int) < (ins.length:Int))=false→(!decide (Ba ins=0))=false:=fun h=>by
  have hi':¬ i < ins.length:=by simpa using h
  rw [ht,List.drop_of_length_le (by omega)];rfl
 have ix:0 < 1→0≤(0:Int)∧(0:Int) < (ins.length:Int):=fun h=>by rw [hl];omega
 have iy:1 < 1→0≤(1:Int)∧(1:Int) < (ins.length:Int):=fun h=>by rw [hl];omega
 have hst:Ba ins=0→∀ j,j < ins.length→(ins.getD j (Ab tIs)).length≤200∧(ins.getD j (Ab tIs)).any Ai=false:=fun h j hj=>Bu h hj
 refine (aI (fun k0=>(aI (by first | exact ⟨by decide,rfl,by decide,by decide⟩ | exact ix (by decide) | exact iy (by decide) | (intros;(try subst_vars);(try simp only [nB] at *);(try simp only [inK,big,lim,nL] at *);omega)) (fun k1=>(aI (fun k2=>(Aa rfl ?_)) (fun k2=>(aI tT (aI (fun k3=>(Aa rfl ?_)) (fun k3=>(aI (by first | exact ⟨by decide,rfl,by decide,by decide⟩ | exact ix (by decide) | exact iy (by decide) | (intros;(try subst_vars);(try simp only [nB] at *);(try simp only [inK,big,lim,nL] at *);omega)) ?_))))))))) (fun k0=>(aF (aA (aF (aI (by first | exact ⟨by decide,rfl,by decide,by decide⟩ | exact ix (by decide) | exact iy (by decide) | (intros;(try subst_vars);(try simp only [nB] at *);(try simp only [inK,big,lim,nL] at *);omega)) (aF (aI (fun k4=>nG k4) (fun k4=>(aI (fun k5=>nG k5) (fun k5=>(aI (fun k6=>nG k6) (fun k6=>(aI (by first | exact ⟨by decide,rfl,by decide,by decide⟩ | exact ix (by decide) | exact iy (by decide) | (intros;(try subst_vars);(try simp only [nB] at *);(try simp only [inK,big,lim,nL] at *);omega)) (fun k7=>?_)))))))))))))))
 ·have hi':i < ins.length:=by simpa using k0
  have hk:A2 (ins.getD i (Ab tIs))=true:=k2
  have e4:Ba ins=4:=by rw [ht,A5 hi',if_pos hk]
  exact (Kc (by assumption) (by assumption) (by rw [e4];rfl)).trans (by rw [e4])
 ·have hi':i < ins.length:=by simpa using k0
  have hk:¬ A2 (ins.getD i (Ab tIs))=true:=by have h:A2 (ins.getD i (Ab tIs))=false:=k2;rw [h];simp
  have hk2:(ins.getD i (Ab tIs)).any Ai=true:=k3
  have e4:Ba ins=2:=by rw [ht,A5 hi',if_neg hk,if_pos hk2]
  exact (Kc (by assumption) (by assumption) (by rw [e4];rfl)).trans (by rw [e4])
 ·have hi':i < ins.length:=by simpa using k0
  have hk:¬ A2 (ins.getD i (Ab tIs))=true:=by have h:A2 (ins.getD i (Ab tIs))=false:=k2;rw [h];simp
  have hk2:¬ (ins.getD i (Ab tIs)).any Ai=true:=by have h:(ins.getD i (Ab tIs)).any Ai=false:=k3;rw [h];simp
  refine eI (i+1) (eI ([some 0,some 1]) (aI ?_ (aI ?_ (aB (aI (aI (aA (by rfl)) (aI (aA (by rfl)) tT)) (by rfl))))))
  ·refine ⟨hi', ?_⟩
   rw [ht,A5 hi',if_neg hk,if_neg hk2]
  ·show ins.length - (i+1) < ins.length - i
   omega
 have hs0:=hin k0
 have hstr:Ba ins=0:=by simpa using hs0
 obtain ⟨hal,han⟩:=Bu hstr (show 0 < ins.length by omega)
 replace hal:(ins.getD 0 []).length≤200:=hal
 replace han:(ins.getD 0 []).any Ai=false:=han
 clear ht hi hin
 refine ex4 _ (fun p:Nat × List Int × Int=>⟨[.ptr 6 0,.agg   [.int .i64 1,.int .i64 1,.int .i64 0,.int .i64 0,.int .i64 1,     .sl .str [{ data:=#[120] }],.fn (Fn.func 205) [] [],.fn (Fn.func 203) [] []],.sl (.sl (.int .i64)) ins,.any,.ptr 7 0,.any,.any,.any,.any,.any,.any,.ptr 6 0,.any,.any,.sl (.sl (.int .i64)) ins,.eptr [PV.sl (.int .i64) (ins.getD (Int.toNat 0) (Ab (.sl (.int .i64))))],.sl (.int .i64) (ins.getD (Int.toNat 0) (Ab (.sl (.int .i64)))),.int .i64 (↑(List.length (ins.getD (Int.toNat 0) (Ab (.sl (.int .i64))))):Int),.int .i64 (p.1:Int),.any,.any,.any,.any,.any,.any,.any,.any,.any,.any,.any,.any,.any,.any,.any,.any,.any,.any,.any,.any,.any,.any,.any,.any,.any,.any,.bool (decide (2=8)),.any,.any,.any,.any,.any,.any,.any,.any,.any,.any,.any,.any,.any,.bool (decide (2=9)),.bool (decide (2=9))]++nA 29,[.cells   [.int .i64 2,.int .i64 z,.int .i64 (ExprT.mk ek eo em ev ea).kind,     .int .i64 (ExprT.mk ek eo em ev ea).op,.str (ExprT.mk ek eo em ev ea).name,     .int .i64 (ExprT.mk ek eo em ev ea).value,.sl .expr (ExprT.mk ek eo em ev ea).args,     .sl (.int .i64) l],.cells   [.int .i64 1,.int .i64 1,.int .i64 0,.int .i64 0,.int .i64 1,     .sl .str [{ data:=#[120] }],.fn (Fn.func 205) [] [],.fn (Fn.func 203) [] []],.cells   [.int .i64 2,.int .i64 z,.int .i64 (ExprT.mk ek eo em ev ea).kind,     .int .i64 (ExprT.mk ek eo em ev ea).op,.str (ExprT.mk ek eo em ev ea).name,     .int .i64 (ExprT.mk ek eo em ev ea).value,.sl .expr (ExprT.mk ek eo em ev ea).args,     .sl (.int .i64) l],.cells [.cap0,.int .i64 0,.bool false],.cells   [.int .i64 1,.int .i64 1,.int .i64 0,.int .i64 0,.int .i64 1,     .sl .str [{ data:=#[120] }],.fn (Fn.func 205) [] [],.fn (Fn.func 203) [] []],.cells [.own 8],.cells [.int .i64 2,.int .i64 z,.int .i64 ek,.int .i64 eo,.str em,.int .i64 ev,.sl .expr ea,.sl tI l,.cap0,.int .i64 0,.bool false,.csl tI 5 1,.int .i64 p.2.2,.int .i64 0],.cells   [.int .i64 1,.int .i64 1,.int .i64 0,.int .i64 0,.int .i64 1,     .sl .str [{ data:=#[120] }],.fn (Fn.func 205) [] [],.fn (Fn.func 203) [] []],.rows tI p.2.1],9⟩) (fun p=>p.1≤(ins.getD 0 []).length∧p.2=(((ins.getD 0 []).take p.1).foldl (L2 (ExprT.mk ek eo em ev ea)) ([],0))∧p.2.1.length≤p.1) (fun p=>(ins.getD 0 []).length - p.1) (aI (eI ((0,([],0))) (eI ([some 0,some 1,some 2,some 3,some 4,some 5,some 6,some 7,none]) (aI ?_ (aB (aI (aI (aA (by rfl)) (aI (aA (by rfl)) (aI (aA (by rfl)) (aI (aA (by rfl)) (aI (aA (by rfl)) (aI (aA (by rfl)) (aI (aA (by rfl)) (aI (aA (by rfl)) (aA tT))))))))) (by rfl)))))) ?_)
 ·exact ⟨Nat.zero_le _,rfl,Nat.le_refl _⟩
 rintro ⟨j,o,f⟩ ⟨hj,hp,ho⟩
 replace hj:j≤(ins.getD 0 []).length:=hj
 replace hp:(o,f)=(((ins.getD 0 []).take j).foldl (L2 (ExprT.mk ek eo em ev ea)) ([],0)):=hp
 have hnx:j < (ins.getD 0 []).length→((ins.getD 0 []).take (j+1)).foldl (L2 (ExprT.mk ek eo em ev ea)) ([],0)=L2 (ExprT.mk ek eo em ev ea) (o,f) ((ins.getD 0 []).getD j 0):=fun h=>by
  rw [Gk _ _ 0 h,← hp]
 have hen:decide ((j:Int) < ((ins.getD 0 []).length:Int))=false→(ins.getD 0 []).foldl (L2 (ExprT.mk ek eo em ev ea)) ([],0)=(o,f):=fun h=>by
  have h':¬ j < (ins.getD 0 []).length:=by simpa using h
  rw [hp,List.take_of_length_le (by omega)]
 replace ho:o.length≤j:=ho
 have room:(o.length+1) * 8≤lim:=by simp only [lim];omega
 refine (aI (fun m0=>(aI (by first | exact room | (intros;(try subst_vars);(try simp only [nB] at *);(try simp only [inK,big,lim,nL] at *);omega)) (aF (aF (aA (aF (aI (by first | exact room | (intros;(try subst_vars);(try simp only [nB] at *);(try simp only [inK,big,lim,nL] at *);omega)) (aI tT (aI (fun m1=>(aF (aI (fun m2=>(aK (aI (by first | exact room | (intros;(try subst_vars);(try simp only [nB] at *);(try simp only [inK,big,lim,nL] at *);omega)) (aD (aB (aI (by first | exact room | (intros;(try subst_vars);(try simp only [nB] at *);(try simp only [inK,big,lim,nL] at *);omega)) (aD (aC (aA (aI (by first | exact room | (intros;(try subst_vars);(try simp only [nB] at *);(try simp only [inK,big,lim,nL] at *);omega)) (aB (aI (by first | exact room | (intros;(try subst_vars);(try simp only [nB] at *);(try simp only [inK,big,lim,nL] at *);omega)) (aI (by first | exact room | (intros;(try subst_vars);(try simp only [nB] at *);(try simp only [inK,big,lim,nL] at *);omega)) (aI (by first | exact room | (intros;(try subst_vars);(try simp only [nB] at *);(try simp only [inK,big,lim,nL] at *);omega)) (aC (aB (aI (by first | exact room | (intros;(try subst_vars);(try simp only [nB] at *);(try simp only [inK,big,lim,nL] at *);omega)) ?_))))))))))))))))) (fun m2=>(aI (by first | exact room | (intros;(try subst_vars);(try simp only [nB] at *);(try simp only [inK,big,lim,nL] at *);omega)) ?_))))) (fun m1=>(aF (aI (fun m3=>absurd (Eq.trans (Eq.symm m1) m3) (by decide)) (fun m3=>(aI (by first | exact room | (intros;(try subst_vars);(try simp only [nB] at *);(try simp only [inK,big,lim,nL] at *);omega)) ?_)))))))))))))) (fun m0=>(aF (aI (fun m4=>(aF (Aa rfl ?_))) (fun m4=>(aI tT (aI (fun m5=>(Aa rfl ?_)) (fun m5=>(Aa rfl ?_)))))))))
 ·have hj':j < (ins.getD 0 []).length:=by simpa using m0
  refine eI ((j+1,o++[(evX (ExprT.mk ek eo em ev ea) nmX ((ins.getD 0 []).getD j 0) 0).1],(evX (ExprT.mk ek eo em ev ea) nmX ((ins.getD 0 []).getD j 0) 0).2)) (eI ([some 0,some 1,some 2,some 3,some 4,some 5,some 6,some 7,some 12]) (aI ?_ (aI ?_ (aB (aI (aI (aA (by rfl)) (aI (aA (by rfl)) (aI (aA (by rfl)) (aI (aA (by rfl)) (aI (aA (by rfl)) (aI (aA (by rfl)) (aI (aA (by rfl)) (aI (aA (by rfl)) (aA tT))))))))) (by rfl))))))
  ·refine ⟨hj', ?_,by show (_++[_]).length≤j+1;simp;omega⟩
   show _=((ins.getD 0 []).take (j+1)).foldl _ _
   rw [hnx hj']
   dsimp only [L2]
   rw [Im m1,O0 (f:=(evX (ExprT.mk ek eo em ev ea) nmX ((ins.getD 0 []).getD j 0) 0).2) (show decide ((evX (ExprT.mk ek eo em ev ea) nmX ((ins.getD 0 []).getD j 0) 0).2=0)=true from m2)]
  ·show (ins.getD 0 []).length - (j+1) < (ins.getD 0 []).length - j
   omega
 ·have hj':j < (ins.getD 0 []).length:=by simpa using m0
  refine eI ((j+1,o,(evX (ExprT.mk ek eo em ev ea) nmX ((ins.getD 0 []).getD j 0) 0).2)) (eI ([some 0,some 1,some 2,some 3,some 4,some 5,some 6,some 7,some 8]) (aI ?_ (aI ?_ (aB (aI (aI (aA (by rfl)) (aI (aA (by rfl)) (aI (aA (by rfl)) (aI (aA (by rfl)) (aI (aA (by rfl)) (aI (aA (by rfl)) (aI (aA (by rfl)) (aI (aA (by rfl)) (aA tT))))))))) (by rfl))))))
  ·refine ⟨hj', ?_,by show o.length≤j+1;omega⟩
   show _=((ins.getD 0 []).take (j+1)).foldl _ _
   rw [hnx hj']
   dsimp only [L2]
   rw [Im m1,Jz (f:=(evX (ExprT.mk ek eo em ev ea) nmX ((ins.getD 0 []).getD j 0) 0).2) (show decide ((evX (ExprT.mk ek eo em ev ea) nmX ((ins.getD 0 []).getD j 0) 0).2=0)=false from m2)]
  ·show (ins.getD 0 []).length - (j+1) < (ins.getD 0 []).length - j
   omega
 ·have hj':j < (ins.getD 0 []).length:=by simpa using m0
  refine eI ((j+1,o,f)) (eI ([some 0,some 1,some 2,some 3,some 4,some 5,some 6,some 7,some 8]) (aI ?_ (aI ?_ (aB (aI (aI (aA (by rfl)) (aI (aA (by rfl)) (aI (aA (by rfl)) (aI (aA (by rfl)) (aI (aA (by rfl)) (aI (aA (by rfl)) (aI (aA (by rfl)) (aI (aA (by rfl)) (aA tT))))))))) (by rfl))))))
  ·refine ⟨hj', ?_,by show o.length≤j+1;omega⟩
   show _=((ins.getD 0 []).take (j+1)).foldl _ _
   rw [hnx hj']
   dsimp only [L2]
   rw [R8 m1,Jz m1]
  ·show (ins.getD 0 []).length - (j+1) < (ins.getD 0 []).length - j
   omega
 ·skip
  have run:Ch (2,z,ExprT.mk ek eo em ev ea,l) ins=([o],f):=by
   show ([((ins.getD 0 []).foldl (L2 (ExprT.mk ek eo em ev ea)) ([],0)).1],((ins.getD 0 []).foldl (L2 (ExprT.mk ek eo em ev ea)) ([],0)).2)=_
   rw [hen m0]
  exact (Add (by assumption) (by assumption) hs0 (by rw [run];exact m4)).trans (by rw [run])
 ·skip
  have run:Ch (2,z,ExprT.mk ek eo em ev ea,l) ins=([o],f):=by
   show ([((ins.getD 0 []).foldl (L2 (ExprT.mk ek eo em ev ea)) ([],0)).1],((ins.getD 0 []).foldl (L2 (ExprT.mk ek eo em ev ea)) ([],0)).2)=_
   rw [hen m0]
  exact Su (by assumption) (by assumption) hs0 (by rw [run];exact m4) (by rw [run];exact m5)
 ·skip
  have run:Ch (2,z,ExprT.mk ek eo em ev ea,l) ins=([o],f):=by
   show ([((ins.getD 0 []).foldl (L2 (ExprT.mk ek eo em ev ea)) ([],0)).1],((ins.getD 0 []).foldl (L2 (ExprT.mk ek eo em ev ea)) ([],0)).2)=_
   rw [hen m0]
  exact (R9 (by assumption) (by assumption) hs0 (by rw [run];exact m4) (by rw [run];exact m5)).trans (by rw [run])
set_option maxHeartbeats 8000000 in
theorem Aga:Iq 3:=by
 intro z e l ins hc hlk
 have hl:ins.length=1:=by have h:(ins.length:Int)=1:=hlk;omega
 have hs:=A1 hc
 obtain ⟨ek,eo,em,ev,ea⟩:=e
 refine ⟨_,Gw, ?_⟩
 refine (aF (aI tT (aI (fun h0=>(Aa rfl (by first | exact Df (by assumption) | exact Dl (by assumption) (by assumption)))) (fun h0=>(aA (fun h1=>(aI (fun h2=>(Aa rfl (by first | exact Df (by assumption) | exact Dl (by assumption) (by assumption)))) (fun h2=>(fun h3=>?_)))))))))
 refine ex4 _ (fun i:Nat=>⟨[.any,.sl (.sl (.int .i64)) ins,.ptr 0 0,.any,.any,.any,.any,.ptr 1 0,.any,.any,.any,.any,.any,.any,.any,.any,.any,.any,.any,.any,.any,.any,.any,.any,.any,.any,.any,.any,.sl (.sl (.int .i64)) ins,.int .i64 (↑ins.length:Int),.int .i64 (i:Int)]++nA 34,[.cells   [.int .i64 3,.int .i64 z,.int .i64 (ExprT.mk ek eo em ev ea).kind,     .int .i64 (ExprT.mk ek eo em ev ea).op,.str (ExprT.mk ek eo em ev ea).name,     .int .i64 (ExprT.mk ek eo em ev ea).value,.sl .expr (ExprT.mk ek eo em ev ea).args,     .sl (.int .i64) l],.cells   [.int .i64 1,.int .i64 1,.int .i64 0,.int .i64 0,.int .i64 2,     .sl .str [{ data:=#[120] }],.fn (Fn.func 206) [] [],.fn (Fn.func 203) [] []]],2⟩) (fun i=>i≤ins.length∧Ba ins=Ba (ins.drop i)) (fun i=>ins.length - i) (aI (eI (0) (eI ([some 0,some 1]) (aI ?_ (aB (aI (aI (aA (by rfl)) (aI (aA (by rfl)) tT)) (by rfl)))))) ?_)
 ·exact ⟨Nat.zero_le _,rfl⟩
 rintro i ⟨hi,ht⟩
 have hin:decide ((i:Int) < (ins.length:Int))=false→(!decide (Ba ins=0))=false:=fun h=>by
  have hi':¬ i < ins.length:=by simpa using h
  rw [ht,List.drop_of_length_le (by omega)];rfl
 have ix:0 < 1→0≤(0:Int)∧(0:Int) < (ins.length:Int):=fun h=>by rw [hl];omega
 have iy:1 < 1→0≤(1:Int)∧(1:Int) < (ins.length:Int):=fun h=>by rw [hl];omega
 have hst:Ba ins=0→∀ j,j < ins.length→(ins.getD j (Ab tIs)).length≤200∧(ins.getD j (Ab tIs)).any Ai=false:=fun h j hj=>Bu h hj
 refine (aI (fun k0=>(aI (by first | exact ⟨by decide,rfl,by decide,by decide⟩ | exact ix (by decide) | exact iy (by decide) | (intros;(try subst_vars);(try simp only [nB] at *);(try simp only [inK,big,lim,nL] at *);omega)) (fun k1=>(aI (fun k2=>(Aa rfl ?_)) (fun k2=>(aI tT (aI (fun k3=>(Aa rfl ?_)) (fun k3=>(aI (by first | exact ⟨by decide,rfl,by decide,by decide⟩ | exact ix (by decide) | exact iy (by decide) | (intros;(try subst_vars);(try simp only [nB] at *);(try simp only [inK,big,lim,nL] at *);omega)) ?_))))))))) (fun k0=>(aF (aA (aF (aI (by first | exact ⟨by decide,rfl,by decide,by decide⟩ | exact ix (by decide) | exact iy (by decide) | (intros;(try subst_vars);(try simp only [nB] at *);(try simp only [inK,big,lim,nL] at *);omega)) (aF (aI (fun k4=>nG k4) (fun k4=>(aI (fun k5=>nG k5) (fun k5=>(aI (fun k6=>nG k6) (fun k6=>(aI (by first | exact ⟨by decide,rfl,by decide,by decide⟩ | exact ix (by decide) | exact iy (by decide) | (intros;(try subst_vars);(try simp only [nB] at *);(try simp only [inK,big,lim,nL] at *);omega)) (fun k7=>?_)))))))))))))))
 ·have hi':i < ins.length:=by simpa using k0
  have hk:A2 (ins.getD i (Ab tIs))=true:=k2
  have e4:Ba ins=4:=by rw [ht,A5 hi',if_pos hk]
  exact (Kc (by assumption) (by assumption) (by rw [e4];rfl)).trans (by rw [e4])
 ·have hi':i < ins.length:=by simpa using k0
  have hk:¬ A2 (ins.getD i (Ab tIs))=true:=by have h:A2 (ins.getD i (Ab tIs))=false:=k2;rw [h];simp
  have hk2:(ins.getD i (Ab tIs)).any Ai=true:=k3
  have e4:Ba ins=2:=by rw [ht,A5 hi',if_neg hk,if_pos hk2]
  exact (Kc (by assumption) (by assumption) (by rw [e4];rfl)).trans (by rw [e4])
 ·have hi':i < ins.length:=by simpa using k0
  have hk:¬ A2 (ins.getD i (Ab tIs))=true:=by have h:A2 (ins.getD i (Ab tIs))=false:=k2;rw [h];simp
  have hk2:¬ (ins.getD i (Ab tIs)).any Ai=true:=by have h:(ins.getD i (Ab tIs)).any Ai=false:=k3;rw [h];simp
  refine eI (i+1) (eI ([some 0,some 1]) (aI ?_ (aI ?_ (aB (aI (aI (aA (by rfl)) (aI (aA (by rfl)) tT)) (by rfl))))))
  ·refine ⟨hi', ?_⟩
   rw [ht,A5 hi',if_neg hk,if_neg hk2]
  ·show ins.length - (i+1) < ins.length - i
   omega
 have hs0:=hin k0
 have hstr:Ba ins=0:=by simpa using hs0
 obtain ⟨hal,han⟩:=Bu hstr (show 0 < ins.length by omega)
 replace hal:(ins.getD 0 []).length≤200:=hal
 replace han:(ins.getD 0 []).any Ai=false:=han
 clear ht hi hin
 refine ex4 _ (fun p:Nat × List Int × Int=>⟨[.ptr 6 0,.agg   [.int .i64 1,.int .i64 1,.int .i64 0,.int .i64 0,.int .i64 2,     .sl .str [{ data:=#[120] }],.fn (Fn.func 206) [] [],.fn (Fn.func 203) [] []],.sl (.sl (.int .i64)) ins,.any,.ptr 7 0,.any,.any,.any,.any,.any,.any,.ptr 6 0,.any,.any,.sl (.sl (.int .i64)) ins,.eptr [PV.sl (.int .i64) (ins.getD (Int.toNat 0) (Ab (.sl (.int .i64))))],.sl (.int .i64) (ins.getD (Int.toNat 0) (Ab (.sl (.int .i64)))),.int .i64 (↑(List.length (ins.getD (Int.toNat 0) (Ab (.sl (.int .i64))))):Int),.int .i64 (p.1:Int),.any,.any,.any,.any,.any,.any,.any,.any,.any,.any,.any,.any,.any,.any,.any,.any,.any,.any,.any,.any,.any,.any,.any,.any,.any,.any,.bool (decide (3=8)),.any,.any,.any,.any,.any,.any,.any,.any,.any,.any,.any,.any,.any,.bool (decide (3=9)),.bool (decide (3=9))]++nA 29,[.cells   [.int .i64 3,.int .i64 z,.int .i64 (ExprT.mk ek eo em ev ea).kind,     .int .i64 (ExprT.mk ek eo em ev ea).op,.str (ExprT.mk ek eo em ev ea).name,     .int .i64 (ExprT.mk ek eo em ev ea).value,.sl .expr (ExprT.mk ek eo em ev ea).args,     .sl (.int .i64) l],.cells   [.int .i64 1,.int .i64 1,.int .i64 0,.int .i64 0,.int .i64 2,     .sl .str [{ data:=#[120] }],.fn (Fn.func 206) [] [],.fn (Fn.func 203) [] []],.cells   [.int .i64 3,.int .i64 z,.int .i64 (ExprT.mk ek eo em ev ea).kind,     .int .i64 (ExprT.mk ek eo em ev ea).op,.str (ExprT.mk ek eo em ev ea).name,     .int .i64 (ExprT.mk ek eo em ev ea).value,.sl .expr (ExprT.mk ek eo em ev ea).args,     .sl (.int .i64) l],.cells [.cap0,.int .i64 0,.bool false],.cells   [.int .i64 1,.int .i64 1,.int .i64 0,.int .i64 0,.int .i64 2,     .sl .str [{ data:=#[120] }],.fn (Fn.func 206) [] [],.fn (Fn.func 203) [] []],.cells [.own 8],.cells [.int .i64 3,.int .i64 z,.int .i64 ek,.int .i64 eo,.str em,.int .i64 ev,.sl .expr ea,.sl tI l,.cap0,.int .i64 0,.bool false,.csl tI 5 1,.int .i64 p.2.2,.int .i64 0],.cells   [.int .i64 1,.int .i64 1,.int .i64 0,.int .i64 0,.int .i64 2,     .sl .str [{ data:=#[120] }],.fn (Fn.func 206) [] [],.fn (Fn.func 203) [] []],.rows tI p.2.1],9⟩) (fun p=>p.1≤(ins.getD 0 []).length∧p.2=(((ins.getD 0 []).take p.1).foldl (Kb (ExprT.mk ek eo em ev ea)) ([],0))∧p.2.1.length≤p.1) (fun p=>(ins.getD 0 []).length - p.1) (aI (eI ((0,([],0))) (eI ([some 0,some 1,some 2,some 3,some 4,some 5,some 6,some 7,none]) (aI ?_ (aB (aI (aI (aA (by rfl)) (aI (aA (by rfl)) (aI (aA (by rfl)) (aI (aA (by rfl)) (aI (aA (by rfl)) (aI (aA (by rfl)) (aI (aA (by rfl)) (aI (aA (by rfl)) (aA tT))))))))) (by rfl)))))) ?_)
 ·exact ⟨Nat.zero_le _,rfl,Nat.le_refl _⟩
 rintro ⟨j,o,f⟩ ⟨hj,hp,ho⟩
 replace hj:j≤(ins.getD 0 []).length:=hj
 replace hp:(o,f)=(((ins.getD 0 []).take j).foldl (Kb (ExprT.mk ek eo em ev ea)) ([],0)):=hp
 have hnx:j < (ins.getD 0 []).length→((ins.getD 0 []).take (j+1)).foldl (Kb (ExprT.mk ek eo em ev ea)) ([],0)=Kb (ExprT.mk ek eo em ev ea) (o,f) ((ins.getD 0 []).getD j 0):=fun h=>by
  rw [Gk _ _ 0 h,← hp]
 have hen:decide ((j:Int) < ((ins.getD 0 []).length:Int))=false→(ins.getD 0 []).foldl (Kb (ExprT.mk ek eo em ev ea)) ([],0)=(o,f):=fun h=>by
  have h':¬ j < (ins.getD 0 []).length:=by simpa using h
  rw [hp,List.take_of_length_le (by omega)]
 replace ho:o.length≤j:=ho
 have room:(o.length+1) * 8≤lim:=by simp only [lim];omega
 refine (aI (fun m0=>(aI (by first | exact room | (intros;(try subst_vars);(try simp only [nB] at *);(try simp only [inK,big,lim,nL] at *);omega)) (aF (aF (aA (aF (aI (by first | exact room | (intros;(try subst_vars);(try simp only [nB] at *);(try simp only [inK,big,lim,nL] at *);omega)) (aI tT (aI (fun m1=>(aI (fun m2=>(aF (aI (fun m3=>(aK (aI (by first | exact room | (intros;(try subst_vars);(try simp only [nB] at *);(try simp only [inK,big,lim,nL] at *);omega)) (aD (aB (aI (by first | exact room | (intros;(try subst_vars);(try simp only [nB] at *);(try simp only [inK,big,lim,nL] at *);omega)) (aD (aC (aA (aI (by first | exact room | (intros;(try subst_vars);(try simp only [nB] at *);(try simp only [inK,big,lim,nL] at *);omega)) (aB (aI (by first | exact room | (intros;(try subst_vars);(try simp only [nB] at *);(try simp only [inK,big,lim,nL] at *);omega)) (aI (by first | exact room | (intros;(try subst_vars);(try simp only [nB] at *);(try simp only [inK,big,lim,nL] at *);omega)) (aI (by first | exact room | (intros;(try subst_vars);(try simp only [nB] at *);(try simp only [inK,big,lim,nL] at *);omega)) (aC (aB (aI (by first | exact room | (intros;(try subst_vars);(try simp only [nB] at *);(try simp only [inK,big,lim,nL] at *);omega)) ?_))))))))))))))))) (fun m3=>(aI (by first | exact room | (intros;(try subst_vars);(try simp only [nB] at *);(try simp only [inK,big,lim,nL] at *);omega)) ?_))))) (fun m2=>(aI (by first | exact room | (intros;(try subst_vars);(try simp only [nB] at *);(try simp only [inK,big,lim,nL] at *);omega)) ?_)))) (fun m1=>(aI (fun m4=>(aF (aI (fun m5=>absurd (Eq.trans (Eq.symm m1) m5) (by decide)) (fun m5=>(aI (by first | exact room | (intros;(try subst_vars);(try simp only [nB] at *);(try simp only [inK,big,lim,nL] at *);omega)) ?_))))) (fun m4=>(aI (by first | exact room | (intros;(try subst_vars);(try simp only [nB] at *);(try simp only [inK,big,lim,nL] at *);omega)) ?_))))))))))))) (fun m0=>(aF (aI (fun m6=>(aF (Aa rfl ?_))) (fun m6=>(aI tT (aI (fun m7=>(Aa rfl ?_)) (fun m7=>(Aa rfl ?_)))))))))
 ·have hj':j < (ins.getD 0 []).length:=by simpa using m0
  refine eI ((j+1,o++[(ins.getD 0 []).getD j 0],(evX (ExprT.mk ek eo em ev ea) nmX ((ins.getD 0 []).getD j 0) 0).2)) (eI ([some 0,some 1,some 2,some 3,some 4,some 5,some 6,some 7,some 12]) (aI ?_ (aI ?_ (aB (aI (aI (aA (by rfl)) (aI (aA (by rfl)) (aI (aA (by rfl)) (aI (aA (by rfl)) (aI (aA (by rfl)) (aI (aA (by rfl)) (aI (aA (by rfl)) (aI (aA (by rfl)) (aA tT))))))))) (by rfl))))))
  ·refine ⟨hj', ?_,by show (_++[_]).length≤j+1;simp;omega⟩
   show _=((ins.getD 0 []).take (j+1)).foldl _ _
   rw [hnx hj']
   dsimp only [Kb]
   rw [Im m1,if_pos (show decide ((evX (ExprT.mk ek eo em ev ea) nmX ((ins.getD 0 []).getD j 0) 0).1=1)=true from m2),O0 (f:=(evX (ExprT.mk ek eo em ev ea) nmX ((ins.getD 0 []).getD j 0) 0).2) (show decide ((evX (ExprT.mk ek eo em ev ea) nmX ((ins.getD 0 []).getD j 0) 0).2=0)=true from m3)]
  ·show (ins.getD 0 []).length - (j+1) < (ins.getD 0 []).length - j
   omega
 ·have hj':j < (ins.getD 0 []).length:=by simpa using m0
  refine eI ((j+1,o,(evX (ExprT.mk ek eo em ev ea) nmX ((ins.getD 0 []).getD j 0) 0).2)) (eI ([some 0,some 1,some 2,some 3,some 4,some 5,some 6,some 7,some 8]) (aI ?_ (aI ?_ (aB (aI (aI (aA (by rfl)) (aI (aA (by rfl)) (aI (aA (by rfl)) (aI (aA (by rfl)) (aI (aA (by rfl)) (aI (aA (by rfl)) (aI (aA (by rfl)) (aI (aA (by rfl)) (aA tT))))))))) (by rfl))))))
  ·refine ⟨hj', ?_,by show o.length≤j+1;omega⟩
   show _=((ins.getD 0 []).take (j+1)).foldl _ _
   rw [hnx hj']
   dsimp only [Kb]
   rw [Im m1,if_pos (show decide ((evX (ExprT.mk ek eo em ev ea) nmX ((ins.getD 0 []).getD j 0) 0).1=1)=true from m2),Jz (f:=(evX (ExprT.mk ek eo em ev ea) nmX ((ins.getD 0 []).getD j 0) 0).2) (show decide ((evX (ExprT.mk ek eo em ev ea) nmX ((ins.getD 0 []).getD j 0) 0).2=0)=false from m3)]
  ·show (ins.getD 0 []).length - (j+1) < (ins.getD 0 []).length - j
   omega
 ·have hj':j < (ins.getD 0 []).length:=by simpa using m0
  refine eI ((j+1,o,(evX (ExprT.mk ek eo em ev ea) nmX ((ins.getD 0 []).getD j 0) 0).2)) (eI ([some 0,some 1,some 2,some 3,some 4,some 5,some 6,some 7,some 8]) (aI ?_ (aI ?_ (aB (aI (aI (aA (by rfl)) (aI (aA (by rfl)) (aI (aA (by rfl)) (aI (aA (by rfl)) (aI (aA (by rfl)) (aI (aA (by rfl)) (aI (aA (by rfl)) (aI (aA (by rfl)) (aA tT))))))))) (by rfl))))))
  ·refine ⟨hj', ?_,by show o.length≤j+1;omega⟩
   show _=((ins.getD 0 []).take (j+1)).foldl _ _
   rw [hnx hj']
   dsimp only [Kb]
   rw [Im m1,if_neg (by rw [(show decide ((evX (ExprT.mk ek eo em ev ea) nmX ((ins.getD 0 []).getD j 0) 0).1=1)=false from m2)];simp)]
  ·show (ins.getD 0 []).length - (j+1) < (ins.getD 0 []).length - j
   omega
 ·have hj':j < (ins.getD 0 []).length:=by simpa using m0
  refine eI ((j+1,o,f)) (eI ([some 0,some 1,some 2,some 3,some 4,some 5,some 6,some 7,some 8]) (aI ?_ (aI ?_ (aB (aI (aI (aA (by rfl)) (aI (aA (by rfl)) (aI (aA (by rfl)) (aI (aA (by rfl)) (aI (aA (by rfl)) (aI (aA (by rfl)) (aI (aA (by rfl)) (aI (aA (by rfl)) (aA tT))))))))) (by rfl))))))
  ·refine ⟨hj', ?_,by show o.length≤j+1;omega⟩
   show _=((ins.getD 0 []).take (j+1)).foldl _ _
   rw [hnx hj']
   dsimp only [Kb]
   rw [R8 m1,if_pos (show decide ((evX (ExprT.mk ek eo em ev ea) nmX ((ins.getD 0 []).getD j 0) 0).1=1)=true from m4),Jz m1]
  ·show (ins.getD 0 []).length - (j+1) < (ins.getD 0 []).length - j
   omega
 ·have hj':j < (ins.getD 0 []).length:=by simpa using m0
  refine eI ((j+1,o,f)) (eI ([some 0,some 1,some 2,some 3,some 4,some 5,some 6,some 7,some 8]) (aI ?_ (aI ?_ (aB (aI (aI (aA (by rfl)) (aI (aA (by rfl)) (aI (aA (by rfl)) (aI (aA (by rfl)) (aI (aA (by rfl)) (aI (aA (by rfl)) (aI (aA (by rfl)) (aI (aA (by rfl)) (aA tT))))))))) (by rfl))))))
  ·refine ⟨hj', ?_,by show o.length≤j+1;omega⟩
   show _=((ins.getD 0 []).take (j+1)).foldl _ _
   rw [hnx hj']
   dsimp only [Kb]
   rw [R8 m1,if_neg (by rw [(show decide ((evX (ExprT.mk ek eo em ev ea) nmX ((ins.getD 0 []).getD j 0) 0).1=1)=false from m4)];simp)]
  ·show (ins.getD 0 []).length - (j+1) < (ins.getD 0 []).length - j
   omega
 ·skip
  have run:Ch (3,z,ExprT.mk ek eo em ev ea,l) ins=([o],f):=by
   show ([((ins.getD 0 []).foldl (Kb (ExprT.mk ek eo em ev ea)) ([],0)).1],((ins.getD 0 []).foldl (Kb (ExprT.mk ek eo em ev ea)) ([],0)).2)=_
   rw [hen m0]
  exact (Add (by assumption) (by assumption) hs0 (by rw [run];exact m6)).trans (by rw [run])
 ·skip
  have run:Ch (3,z,ExprT.mk ek eo em ev ea,l) ins=([o],f):=by
   show ([((ins.getD 0 []).foldl (Kb (ExprT.mk ek eo em ev ea)) ([],0)).1],((ins.getD 0 []).foldl (Kb (ExprT.mk ek eo em ev ea)) ([],0)).2)=_
   rw [hen m0]
  exact Su (by assumption) (by assumption) hs0 (by rw [run];exact m6) (by rw [run];exact m7)
 ·skip
  have run:Ch (3,z,ExprT.mk ek eo em ev ea,l) ins=([o],f):=by
   show ([((ins.getD 0 []).foldl (Kb (ExprT.mk ek eo em ev ea)) ([],0)).1],((ins.getD 0 []).foldl (Kb (ExprT.mk ek eo em ev ea)) ([],0)).2)=_
   rw [hen m0]
  exact (R9 (by assumption) (by assumption) hs0 (by rw [run];exact m6) (by rw [run];exact m7)).trans (by rw [run])
set_option maxHeartbeats 8000000 in
theorem Agb:Iq 5:=by
 intro z e l ins hc hlk
 have hl:ins.length=1:=by have h:(ins.length:Int)=1:=hlk;omega
 have hs:=A1 hc
 obtain ⟨ek,eo,em,ev,ea⟩:=e
 refine ⟨_,Gw, ?_⟩
 refine (aF (aI tT (aI (fun h0=>(Aa rfl (by first | exact Df (by assumption) | exact Dl (by assumption) (by assumption)))) (fun h0=>(aA (fun h1=>(aI (fun h2=>(Aa rfl (by first | exact Df (by assumption) | exact Dl (by assumption) (by assumption)))) (fun h2=>(fun h3=>?_)))))))))
 refine ex4 _ (fun i:Nat=>⟨[.any,.sl (.sl (.int .i64)) ins,.ptr 0 0,.any,.any,.any,.any,.ptr 1 0,.any,.any,.any,.any,.any,.any,.any,.any,.any,.any,.any,.any,.any,.any,.any,.any,.any,.any,.any,.any,.sl (.sl (.int .i64)) ins,.int .i64 (↑ins.length:Int),.int .i64 (i:Int)]++nA 34,[.cells   [.int .i64 5,.int .i64 z,.int .i64 (ExprT.mk ek eo em ev ea).kind,     .int .i64 (ExprT.mk ek eo em ev ea).op,.str (ExprT.mk ek eo em ev ea).name,     .int .i64 (ExprT.mk ek eo em ev ea).value,.sl .expr (ExprT.mk ek eo em ev ea).args,     .sl (.int .i64) l],.cells   [.int .i64 1,.int .i64 1,.int .i64 0,.int .i64 100,.int .i64 0,     .sl .str [],.fn (Fn.func 210) [] [],.fn (Fn.func 203) [] []]],2⟩) (fun i=>i≤ins.length∧Ba ins=Ba (ins.drop i)) (fun i=>ins.length - i) (aI (eI (0) (eI ([some 0,some 1]) (aI ?_ (aB (aI (aI (aA (by rfl)) (aI (aA (by rfl)) tT)) (by rfl)))))) ?_)
 ·exact ⟨Nat.zero_le _,rfl⟩
 rintro i ⟨hi,ht⟩
 have hin:decide ((i:Int) < (ins.length:Int))=false→(!decide (Ba ins=0))=false:=fun h=>by
  have hi':¬ i < ins.length:=by simpa using h
  rw [ht,List.drop_of_length_le (by omega)];rfl
 have ix:0 < 1→0≤(0:Int)∧(0:Int) < (ins.length:Int):=fun h=>by rw [hl];omega
 have iy:1 < 1→0≤(1:Int)∧(1:Int) < (ins.length:Int):=fun h=>by rw [hl];omega
 have hst:Ba ins=0→∀ j,j < ins.length→(ins.getD j (Ab tIs)).length≤200∧(ins.getD j (Ab tIs)).any Ai=false:=fun h j hj=>Bu h hj
 refine (aI (fun k0=>(aI (by first | exact ⟨by decide,rfl,by decide,by decide⟩ | exact ix (by decide) | exact iy (by decide) | (intros;(try subst_vars);(try simp only [nB] at *);(try simp only [inK,big,lim,nL] at *);omega)) (fun k1=>(aI (fun k2=>(Aa rfl ?_)) (fun k2=>(aI tT (aI (fun k3=>(Aa rfl ?_)) (fun k3=>(aI (by first | exact ⟨by decide,rfl,by decide,by decide⟩ | exact ix (by decide) | exact iy (by decide) | (intros;(try subst_vars);(try simp only [nB] at *);(try simp only [inK,big,lim,nL] at *);omega)) ?_))))))))) (fun k0=>(aF (aA (aF (aI (by first | exact ⟨by decide,rfl,by decide,by decide⟩ | exact ix (by decide) | exact iy (by decide) | (intros;(try subst_vars);(try simp only [nB] at *);(try simp only [inK,big,lim,nL] at *);omega)) (aF (aI (fun k4=>nG k4) (fun k4=>(aI (fun k5=>nG k5) (fun k5=>(aI (fun k6=>nG k6) (fun k6=>(aI (by first | exact ⟨by decide,rfl,by decide,by decide⟩ | exact ix (by decide) | exact iy (by decide) | (intros;(try subst_vars);(try simp only [nB] at *);(try simp only [inK,big,lim,nL] at *);omega)) (fun k7=>?_)))))))))))))))
 ·have hi':i < ins.length:=by simpa using k0
  have hk:A2 (ins.getD i (Ab tIs))=true:=k2
  have e4:Ba ins=4:=by rw [ht,A5 hi',if_pos hk]
  exact (Kc (by assumption) (by assumption) (by rw [e4];rfl)).trans (by rw [e4])
 ·have hi':i < ins.length:=by simpa using k0
  have hk:¬ A2 (ins.getD i (Ab tIs))=true:=by have h:A2 (ins.getD i (Ab tIs))=false:=k2;rw [h];simp
  have hk2:(ins.getD i (Ab tIs)).any Ai=true:=k3
  have e4:Ba ins=2:=by rw [ht,A5 hi',if_neg hk,if_pos hk2]
  exact (Kc (by assumption) (by assumption) (by rw [e4];rfl)).trans (by rw [e4])
 ·have hi':i < ins.length:=by simpa using k0
  have hk:¬ A2 (ins.getD i (Ab tIs))=true:=by have h:A2 (ins.getD i (Ab tIs))=false:=k2;rw [h];simp
  have hk2:¬ (ins.getD i (Ab tIs)).any Ai=true:=by have h:(ins.getD i (Ab tIs)).any Ai=false:=k3;rw [h];simp
  refine eI (i+1) (eI ([some 0,some 1]) (aI ?_ (aI ?_ (aB (aI (aI (aA (by rfl)) (aI (aA (by rfl)) tT)) (by rfl))))))
  ·refine ⟨hi', ?_⟩
   rw [ht,A5 hi',if_neg hk,if_neg hk2]
  ·show ins.length - (i+1) < ins.length - i
   omega
 have hs0:=hin k0
 have hstr:Ba ins=0:=by simpa using hs0
 obtain ⟨hal,han⟩:=Bu hstr (show 0 < ins.length by omega)
 replace hal:(ins.getD 0 []).length≤200:=hal
 replace han:(ins.getD 0 []).any Ai=false:=han
 clear ht hi hin
 refine ex4 _ (fun p:Nat × List Int=>⟨[.ptr 6 0,.agg   [.int .i64 1,.int .i64 1,.int .i64 0,.int .i64 100,.int .i64 0,     .sl .str [],.fn (Fn.func 210) [] [],.fn (Fn.func 203) [] []],.sl (.sl (.int .i64)) ins,.any,.ptr 7 0,.any,.any,.any,.any,.any,.any,.ptr 6 0,.any,.any,.sl (.sl (.int .i64)) ins,.eptr [PV.sl (.int .i64) (ins.getD (Int.toNat 0) (Ab (.sl (.int .i64))))],.sl (.int .i64) (ins.getD (Int.toNat 0) (Ab (.sl (.int .i64)))),.int .i64 (↑(List.length (ins.getD (Int.toNat 0) (Ab (.sl (.int .i64))))):Int),.int .i64 (p.1:Int),.any,.any,.any,.any,.any,.any,.any,.any,.any,.any,.any,.any,.any,.any,.any,.any,.any,.any,.any,.any,.any,.any,.any,.any,.any,.any,.bool (decide (5=8)),.any,.any,.any,.any,.any,.any,.any,.any,.any,.any,.any,.any,.any,.bool (decide (5=9)),.bool (decide (5=9))]++nA 29,[.cells   [.int .i64 5,.int .i64 z,.int .i64 (ExprT.mk ek eo em ev ea).kind,     .int .i64 (ExprT.mk ek eo em ev ea).op,.str (ExprT.mk ek eo em ev ea).name,     .int .i64 (ExprT.mk ek eo em ev ea).value,.sl .expr (ExprT.mk ek eo em ev ea).args,     .sl (.int .i64) l],.cells   [.int .i64 1,.int .i64 1,.int .i64 0,.int .i64 100,.int .i64 0,     .sl .str [],.fn (Fn.func 210) [] [],.fn (Fn.func 203) [] []],.cells   [.int .i64 5,.int .i64 z,.int .i64 (ExprT.mk ek eo em ev ea).kind,     .int .i64 (ExprT.mk ek eo em ev ea).op,.str (ExprT.mk ek eo em ev ea).name,     .int .i64 (ExprT.mk ek eo em ev ea).value,.sl .expr (ExprT.mk ek eo em ev ea).args,     .sl (.int .i64) l],.cells [.cap0,.int .i64 0,.bool false],.cells   [.int .i64 1,.int .i64 1,.int .i64 0,.int .i64 100,.int .i64 0,     .sl .str [],.fn (Fn.func 210) [] [],.fn (Fn.func 203) [] []],.cells [.own 8],.cells   [.int .i64 5,.int .i64 z,.int .i64 (ExprT.mk ek eo em ev ea).kind,     .int .i64 (ExprT.mk ek eo em ev ea).op,.str (ExprT.mk ek eo em ev ea).name,     .int .i64 (ExprT.mk ek eo em ev ea).value,.sl .expr (ExprT.mk ek eo em ev ea).args,     .sl (.int .i64) l,.cap0,.int .i64 0,.bool false,.csl tI 5 (Int.toNat 1),     .int .i64 0,.int .i64 0],.cells   [.int .i64 1,.int .i64 1,.int .i64 0,.int .i64 100,.int .i64 0,     .sl .str [],.fn (Fn.func 210) [] [],.fn (Fn.func 203) [] []],.rows tI p.2],9⟩) (fun p=>p.1≤(ins.getD 0 []).length∧p.2=(((ins.getD 0 []).take p.1).foldl (Xv z) ([]:List Int))∧p.2.length≤200 * p.1) (fun p=>(ins.getD 0 []).length - p.1) (aI (eI ((0,([]:List Int))) (eI ([some 0,some 1,some 2,some 3,some 4,some 5,some 6,some 7,none]) (aI ?_ (aB (aI (aI (aA (by rfl)) (aI (aA (by rfl)) (aI (aA (by rfl)) (aI (aA (by rfl)) (aI (aA (by rfl)) (aI (aA (by rfl)) (aI (aA (by rfl)) (aI (aA (by rfl)) (aA tT))))))))) (by rfl)))))) ?_)
 ·exact ⟨Nat.zero_le _,rfl,Nat.le_refl _⟩
 rintro ⟨j,o⟩ ⟨hj,hp,ho⟩
 replace hj:j≤(ins.getD 0 []).length:=hj
 replace hp:o=(((ins.getD 0 []).take j).foldl (Xv z) ([]:List Int)):=hp
 have hnx:j < (ins.getD 0 []).length→((ins.getD 0 []).take (j+1)).foldl (Xv z) ([]:List Int)=Xv z o ((ins.getD 0 []).getD j 0):=fun h=>by
  rw [Gk _ _ 0 h,← hp]
 have hen:decide ((j:Int) < ((ins.getD 0 []).length:Int))=false→(ins.getD 0 []).foldl (Xv z) ([]:List Int)=o:=fun h=>by
  have h':¬ j < (ins.getD 0 []).length:=by simpa using h
  rw [hp,List.take_of_length_le (by omega)]
 replace ho:o.length≤200 * j:=ho
 have hz:0≤z∧z≤200:=⟨hs.1,hs.2.1⟩
 refine (aI (fun m0=>(aI (by first | (intros;(try subst_vars);(try simp only [nB] at *);(try simp only [inK,big,lim,nL] at *);omega)) (aF ?_))) (fun m0=>(aF (aI (fun m1=>nG m1) (fun m1=>(aI tT (aI (fun m2=>(Aa rfl ?_)) (fun m2=>(Aa rfl ?_)))))))))
 ·have hj':j < (ins.getD 0 []).length:=by simpa using m0
  refine ex4 _ (fun q:Nat=>⟨[.ptr 6 0,.int .i64 0,.int .i64   ((ins.getD (Int.toNat 0) (Ab (.sl (.int .i64)))).getD (↑j:Int).toNat (Ab (.int .i64))),.any,.any,.any,.any,.ptr 6 0,.ptr 6 0,.any,.int .i64 z,.int .i64 (q:Int),.any,.any,.any,.any,.any],[.cells   [.int .i64 5,.int .i64 z,.int .i64 (ExprT.mk ek eo em ev ea).kind,     .int .i64 (ExprT.mk ek eo em ev ea).op,.str (ExprT.mk ek eo em ev ea).name,     .int .i64 (ExprT.mk ek eo em ev ea).value,.sl .expr (ExprT.mk ek eo em ev ea).args,     .sl (.int .i64) l],.cells   [.int .i64 1,.int .i64 1,.int .i64 0,.int .i64 100,.int .i64 0,     .sl .str [],.fn (Fn.func 210) [] [],.fn (Fn.func 203) [] []],.cells   [.int .i64 5,.int .i64 z,.int .i64 (ExprT.mk ek eo em ev ea).kind,     .int .i64 (ExprT.mk ek eo em ev ea).op,.str (ExprT.mk ek eo em ev ea).name,     .int .i64 (ExprT.mk ek eo em ev ea).value,.sl .expr (ExprT.mk ek eo em ev ea).args,     .sl (.int .i64) l],.cells [.cap0,.int .i64 0,.bool false],.cells   [.int .i64 1,.int .i64 1,.int .i64 0,.int .i64 100,.int .i64 0,     .sl .str [],.fn (Fn.func 210) [] [],.fn (Fn.func 203) [] []],.cells [.own 9],.cells   [.int .i64 5,.int .i64 z,.int .i64 (ExprT.mk ek eo em ev ea).kind,     .int .i64 (ExprT.mk ek eo em ev ea).op,.str (ExprT.mk ek eo em ev ea).name,     .int .i64 (ExprT.mk ek eo em ev ea).value,.sl .expr (ExprT.mk ek eo em ev ea).args,     .sl (.int .i64) l,.cap0,.int .i64 0,.bool false,.csl tI 5 (Int.toNat 1),     .int .i64 0,.int .i64 0],.cells   [.int .i64 1,.int .i64 1,.int .i64 0,.int .i64 100,.int .i64 0,     .sl .str [],.fn (Fn.func 210) [] [],.fn (Fn.func 203) [] []],.dead,.rows tI (o++List.replicate q ((ins.getD 0 []).getD j 0))],10⟩) (fun q=>(q:Int)≤z) (fun q=>z.toNat - q) (aI (eI (0) (eI ([some 0,some 1,some 2,some 3,some 4,some 5,some 6,some 7,some 8,some 8]) (aI ?_ (aB (aI (aI (aA (by rfl)) (aI (aA (by rfl)) (aI (aA (by rfl)) (aI (aA (by rfl)) (aI (aA (by rfl)) (aI (aA (by rfl)) (aI (aA (by rfl)) (aI (aA (by rfl)) (aI ?_ tT))))))))) (by rfl)))))) ?_)
  ·exact hz.1
  ·show Ob.rows tI o=Ob.rows tI (o++List.replicate 0 _)
   simp
  rintro q hq
  have room:((o++List.replicate q ((ins.getD 0 []).getD j 0)).length+1) * 8≤lim:=by simp only [lim,List.length_append,List.length_replicate];omega
  refine (aI (fun w0=>(aF (aI (fun w1=>(aK (aI (by first | exact room | (intros;(try subst_vars);(try simp only [nB] at *);(try simp only [inK,big,lim,nL] at *);omega)) (aD (aB (aI (by first | exact room | (intros;(try subst_vars);(try simp only [nB] at *);(try simp only [inK,big,lim,nL] at *);omega)) (aD (aC (aA (aI (by first | exact room | (intros;(try subst_vars);(try simp only [nB] at *);(try simp only [inK,big,lim,nL] at *);omega)) (aB (aI (by first | exact room | (intros;(try subst_vars);(try simp only [nB] at *);(try simp only [inK,big,lim,nL] at *);omega)) (aI (by first | exact room | (intros;(try subst_vars);(try simp only [nB] at *);(try simp only [inK,big,lim,nL] at *);omega)) (aI (by first | exact room | (intros;(try subst_vars);(try simp only [nB] at *);(try simp only [inK,big,lim,nL] at *);omega)) (aC (aB (aI (by first | exact room | (intros;(try subst_vars);(try simp only [nB] at *);(try simp only [inK,big,lim,nL] at *);omega)) ?_))))))))))))))))) (fun w1=>False.elim (Bool.false_ne_true (Eq.symm (Eq.trans (by kernel_rfl) w1))))))) (fun w0=>(aI (by first | exact room | (intros;(try subst_vars);(try simp only [nB] at *);(try simp only [inK,big,lim,nL] at *);omega)) ?_)))
  ·have hq':(q:Int) < z:=of_decide_eq_true w0
   refine eI (q+1) (eI ([some 0,some 1,some 2,some 3,some 4,some 5,some 6,some 7,some 8,some 11]) (aI ?_ (aI ?_ (aB (aI (aI (aA (by rfl)) (aI (aA (by rfl)) (aI (aA (by rfl)) (aI (aA (by rfl)) (aI (aA (by rfl)) (aI (aA (by rfl)) (aI (aA (by rfl)) (aI (aA (by rfl)) (aI ?_ tT))))))))) (by rfl))))))
   ·show ((q+1:Nat):Int)≤z
    omega
   ·show z.toNat - (q+1) < z.toNat - q
    omega
   ·show Ob.rows tI _=Ob.rows tI (o++List.replicate (q+1) _)
    rw [List.replicate_succ',← List.append_assoc]
    rfl
  ·have hq':q=z.toNat:=by have h:¬ (q:Int) < z:=of_decide_eq_false w0;omega
   refine eI ((j+1,o++List.replicate q ((ins.getD 0 []).getD j 0))) (eI ([some 0,some 1,some 2,some 3,some 4,some 5,some 6,some 7,some 9]) (aI ?_ (aI ?_ (aB (aI (aI (aA (by rfl)) (aI (aA (by rfl)) (aI (aA (by rfl)) (aI (aA (by rfl)) (aI (aA (by rfl)) (aI (aA (by rfl)) (aI (aA (by rfl)) (aI (aA (by rfl)) (aA tT))))))))) (by rfl))))))
   ·refine ⟨hj', ?_, ?_⟩
    ·show _=((ins.getD 0 []).take (j+1)).foldl _ _
     rw [hnx hj',hq']
     rfl
    ·show (o++List.replicate q _).length≤200 * (j+1)
     simp only [List.length_append,List.length_replicate]
     omega
   ·show (ins.getD 0 []).length - (j+1) < (ins.getD 0 []).length - j
    omega
 ·skip
  have run:Ch (5,z,ExprT.mk ek eo em ev ea,l) ins=([o],0):=by
   show ([(ins.getD 0 []).foldl (Xv z) []],0)=_
   rw [hen m0]
  exact Su (by assumption) (by assumption) hs0 (by rw [run];rfl) (by rw [run];exact m2)
 ·skip
  have run:Ch (5,z,ExprT.mk ek eo em ev ea,l) ins=([o],0):=by
   show ([(ins.getD 0 []).foldl (Xv z) []],0)=_
   rw [hen m0]
  exact (R9 (by assumption) (by assumption) hs0 (by rw [run];rfl) (by rw [run];exact m2)).trans (by rw [run])
set_option maxHeartbeats 8000000 in
theorem Agc:Iq 6:=by
 intro z e l ins hc hlk
 have hl:ins.length=1:=by have h:(ins.length:Int)=1:=hlk;omega
 have hs:=A1 hc
 obtain ⟨ek,eo,em,ev,ea⟩:=e
 refine ⟨_,Gw, ?_⟩
 refine (aF (aI tT (aI (fun h0=>(Aa rfl (by first | exact Df (by assumption) | exact Dl (by assumption) (by assumption)))) (fun h0=>(aA (fun h1=>(aI (fun h2=>(Aa rfl (by first | exact Df (by assumption) | exact Dl (by assumption) (by assumption)))) (fun h2=>(fun h3=>?_)))))))))
 refine ex4 _ (fun i:Nat=>⟨[.any,.sl (.sl (.int .i64)) ins,.ptr 0 0,.any,.any,.any,.any,.ptr 1 0,.any,.any,.any,.any,.any,.any,.any,.any,.any,.any,.any,.any,.any,.any,.any,.any,.any,.any,.any,.any,.sl (.sl (.int .i64)) ins,.int .i64 (↑ins.length:Int),.int .i64 (i:Int)]++nA 34,[.cells   [.int .i64 6,.int .i64 z,.int .i64 (ExprT.mk ek eo em ev ea).kind,     .int .i64 (ExprT.mk ek eo em ev ea).op,.str (ExprT.mk ek eo em ev ea).name,     .int .i64 (ExprT.mk ek eo em ev ea).value,.sl .expr (ExprT.mk ek eo em ev ea).args,     .sl (.int .i64) l],.cells   [.int .i64 1,.int .i64 1,.int .i64 0,.int .i64 200,.int .i64 0,     .sl .str [],.fn (Fn.func 211) [] [],.fn (Fn.func 203) [] []]],2⟩) (fun i=>i≤ins.length∧Ba ins=Ba (ins.drop i)) (fun i=>ins.length - i) (aI (eI (0) (eI ([some 0,some 1]) (aI ?_ (aB (aI (aI (aA (by rfl)) (aI (aA (by rfl)) tT)) (by rfl)))))) ?_)
 ·exact ⟨Nat.zero_le _,rfl⟩
 rintro i ⟨hi,ht⟩
 have hin:decide ((i:Int) < (ins.length:Int))=false→(!decide (Ba ins=0))=false:=fun h=>by
  have hi':¬ i < ins.length:=by simpa using h
  rw [ht,List.drop_of_length_le (by omega)];rfl
 have ix:0 < 1→0≤(0:Int)∧(0:Int) < (ins.length:Int):=fun h=>by rw [hl];omega
 have iy:1 < 1→0≤(1:Int)∧(1:Int) < (ins.length:Int):=fun h=>by rw [hl];omega
 have hst:Ba ins=0→∀ j,j < ins.length→(ins.getD j (Ab tIs)).length≤200∧(ins.getD j (Ab tIs)).any Ai=false:=fun h j hj=>Bu h hj
 refine (aI (fun k0=>(aI (by first | exact ⟨by decide,rfl,by decide,by decide⟩ | exact ix (by decide) | exact iy (by decide) | (intros;(try subst_vars);(try simp only [nB] at *);(try simp only [inK,big,lim,nL] at *);omega)) (fun k1=>(aI (fun k2=>(Aa rfl ?_)) (fun k2=>(aI tT (aI (fun k3=>(Aa rfl ?_)) (fun k3=>(aI (by first | exact ⟨by decide,rfl,by decide,by decide⟩ | exact ix (by decide) | exact iy (by decide) | (intros;(try subst_vars);(try simp only [nB] at *);(try simp only [inK,big,lim,nL] at *);omega)) ?_))))))))) (fun k0=>(aF (aA (aF (aI (by first | exact ⟨by decide,rfl,by decide,by decide⟩ | exact ix (by decide) | exact iy (by decide) | (intros;(try subst_vars);(try simp only [nB] at *);(try simp only [inK,big,lim,nL] at *);omega)) (aF (aI (fun k4=>nG k4) (fun k4=>(aI (fun k5=>nG k5) (fun k5=>(aI (fun k6=>nG k6) (fun k6=>(aI (by first | exact ⟨by decide,rfl,by decide,by decide⟩ | exact ix (by decide) | exact iy (by decide) | (intros;(try subst_vars);(try simp only [nB] at *);(try simp only [inK,big,lim,nL] at *);omega)) (fun k7=>?_)))))))))))))))
 ·have hi':i < ins.length:=by simpa using k0
  have hk:A2 (ins.getD i (Ab tIs))=true:=k2
  have e4:Ba ins=4:=by rw [ht,A5 hi',if_pos hk]
  exact (Kc (by assumption) (by assumption) (by rw [e4];rfl)).trans (by rw [e4])
 ·have hi':i < ins.length:=by simpa using k0
  have hk:¬ A2 (ins.getD i (Ab tIs))=true:=by have h:A2 (ins.getD i (Ab tIs))=false:=k2;rw [h];simp
  have hk2:(ins.getD i (Ab tIs)).any Ai=true:=k3
  have e4:Ba ins=2:=by rw [ht,A5 hi',if_neg hk,if_pos hk2]
  exact (Kc (by assumption) (by assumption) (by rw [e4];rfl)).trans (by rw [e4])
 ·have hi':i < ins.length:=by simpa using k0
  have hk:¬ A2 (ins.getD i (Ab tIs))=true:=by have h:A2 (ins.getD i (Ab tIs))=false:=k2;rw [h];simp
  have hk2:¬ (ins.getD i (Ab tIs)).any Ai=true:=by have h:(ins.getD i (Ab tIs)).any Ai=false:=k3;rw [h];simp
  refine eI (i+1) (eI ([some 0,some 1]) (aI ?_ (aI ?_ (aB (aI (aI (aA (by rfl)) (aI (aA (by rfl)) tT)) (by rfl))))))
  ·refine ⟨hi', ?_⟩
   rw [ht,A5 hi',if_neg hk,if_neg hk2]
  ·show ins.length - (i+1) < ins.length - i
   omega
 have hs0:=hin k0
 have hstr:Ba ins=0:=by simpa using hs0
 obtain ⟨hal,han⟩:=Bu hstr (show 0 < ins.length by omega)
 replace hal:(ins.getD 0 []).length≤200:=hal
 replace han:(ins.getD 0 []).any Ai=false:=han
 clear ht hi hin
 refine ex4 _ (fun p:Nat × List Int × Int=>⟨[.ptr 6 0,.agg   [.int .i64 1,.int .i64 1,.int .i64 0,.int .i64 200,.int .i64 0,     .sl .str [],.fn (Fn.func 211) [] [],.fn (Fn.func 203) [] []],.sl (.sl (.int .i64)) ins,.any,.ptr 7 0,.any,.any,.any,.any,.any,.any,.ptr 6 0,.any,.any,.sl (.sl (.int .i64)) ins,.eptr [PV.sl (.int .i64) (ins.getD (Int.toNat 0) (Ab (.sl (.int .i64))))],.sl (.int .i64) (ins.getD (Int.toNat 0) (Ab (.sl (.int .i64)))),.int .i64 (↑(List.length (ins.getD (Int.toNat 0) (Ab (.sl (.int .i64))))):Int),.int .i64 (p.1:Int),.any,.any,.any,.any,.any,.any,.any,.any,.any,.any,.any,.any,.any,.any,.any,.any,.any,.any,.any,.any,.any,.any,.any,.any,.any,.any,.bool (decide (6=8)),.any,.any,.any,.any,.any,.any,.any,.any,.any,.any,.any,.any,.any,.bool (decide (6=9)),.bool (decide (6=9))]++nA 29,[.cells   [.int .i64 6,.int .i64 z,.int .i64 (ExprT.mk ek eo em ev ea).kind,     .int .i64 (ExprT.mk ek eo em ev ea).op,.str (ExprT.mk ek eo em ev ea).name,     .int .i64 (ExprT.mk ek eo em ev ea).value,.sl .expr (ExprT.mk ek eo em ev ea).args,     .sl (.int .i64) l],.cells   [.int .i64 1,.int .i64 1,.int .i64 0,.int .i64 200,.int .i64 0,     .sl .str [],.fn (Fn.func 211) [] [],.fn (Fn.func 203) [] []],.cells   [.int .i64 6,.int .i64 z,.int .i64 (ExprT.mk ek eo em ev ea).kind,     .int .i64 (ExprT.mk ek eo em ev ea).op,.str (ExprT.mk ek eo em ev ea).name,     .int .i64 (ExprT.mk ek eo em ev ea).value,.sl .expr (ExprT.mk ek eo em ev ea).args,     .sl (.int .i64) l],.cells [.cap0,.int .i64 0,.bool false],.cells   [.int .i64 1,.int .i64 1,.int .i64 0,.int .i64 200,.int .i64 0,     .sl .str [],.fn (Fn.func 211) [] [],.fn (Fn.func 203) [] []],.cells [.own 8],.cells [.int .i64 6,.int .i64 z,.int .i64 ek,.int .i64 eo,.str em,.int .i64 ev,.sl .expr ea,.sl tI l,.cap0,.int .i64 p.2.2,.bool false,.csl tI 5 1,.int .i64 0,.int .i64 0],.cells   [.int .i64 1,.int .i64 1,.int .i64 0,.int .i64 200,.int .i64 0,     .sl .str [],.fn (Fn.func 211) [] [],.fn (Fn.func 203) [] []],.rows tI p.2.1],9⟩) (fun p=>p.1≤(ins.getD 0 []).length∧p.2=(((ins.getD 0 []).take p.1).foldl (Ss z) ([],0))∧p.2.1.length≤p.1∧(0≤p.2.2∧p.2.2≤200)) (fun p=>(ins.getD 0 []).length - p.1) (aI (eI ((0,([],0))) (eI ([some 0,some 1,some 2,some 3,some 4,some 5,some 6,some 7,none]) (aI ?_ (aB (aI (aI (aA (by rfl)) (aI (aA (by rfl)) (aI (aA (by rfl)) (aI (aA (by rfl)) (aI (aA (by rfl)) (aI (aA (by rfl)) (aI (aA (by rfl)) (aI (aA (by rfl)) (aA tT))))))))) (by rfl)))))) ?_)
 ·exact ⟨Nat.zero_le _,rfl,Nat.le_refl _,by decide,by decide⟩
 rintro ⟨j,o,c⟩ ⟨hj,hp,ho,hc⟩
 replace hj:j≤(ins.getD 0 []).length:=hj
 replace hp:(o,c)=(((ins.getD 0 []).take j).foldl (Ss z) ([],0)):=hp
 have hnx:j < (ins.getD 0 []).length→((ins.getD 0 []).take (j+1)).foldl (Ss z) ([],0)=Ss z (o,c) ((ins.getD 0 []).getD j 0):=fun h=>by
  rw [Gk _ _ 0 h,← hp]
 have hen:decide ((j:Int) < ((ins.getD 0 []).length:Int))=false→(ins.getD 0 []).foldl (Ss z) ([],0)=(o,c):=fun h=>by
  have h':¬ j < (ins.getD 0 []).length:=by simpa using h
  rw [hp,List.take_of_length_le (by omega)]
 replace ho:o.length≤j:=ho
 have room:(o.length+1) * 8≤lim:=by simp only [lim];omega
 replace hc:0≤c∧c≤200:=hc
 have hz:z≤200:=hs.2.1
 refine (aI (fun m0=>(aI (by first | exact room | (intros;(try subst_vars);(try simp only [nB] at *);(try simp only [inK,big,lim,nL] at *);omega)) (aF (aF (aI (fun m1=>(aI (by first | exact room | (intros;(try subst_vars);(try simp only [nB] at *);(try simp only [inK,big,lim,nL] at *);omega)) (aF (aI (fun m2=>(aK (aI (by first | exact room | (intros;(try subst_vars);(try simp only [nB] at *);(try simp only [inK,big,lim,nL] at *);omega)) (aD (aB (aI (by first | exact room | (intros;(try subst_vars);(try simp only [nB] at *);(try simp only [inK,big,lim,nL] at *);omega)) (aD (aC (aA (aI (by first | exact room | (intros;(try subst_vars);(try simp only [nB] at *);(try simp only [inK,big,lim,nL] at *);omega)) (aB (aI (by first | exact room | (intros;(try subst_vars);(try simp only [nB] at *);(try simp only [inK,big,lim,nL] at *);omega)) (aI (by first | exact room | (intros;(try subst_vars);(try simp only [nB] at *);(try simp only [inK,big,lim,nL] at *);omega)) (aI (by first | exact room | (intros;(try subst_vars);(try simp only [nB] at *);(try simp only [inK,big,lim,nL] at *);omega)) (aC (aB (aI (by first | exact room | (intros;(try subst_vars);(try simp only [nB] at *);(try simp only [inK,big,lim,nL] at *);omega)) ?_))))))))))))))))) (fun m2=>False.elim (Bool.false_ne_true (Eq.symm (Eq.trans (by kernel_rfl) m2)))))))) (fun m1=>(aI (by first | exact room | (intros;(try subst_vars);(try simp only [nB] at *);(try simp only [inK,big,lim,nL] at *);omega)) ?_))))))) (fun m0=>(aF (aI (fun m3=>nG m3) (fun m3=>(aI tT (aI (fun m4=>(Aa rfl ?_)) (fun m4=>(Aa rfl ?_)))))))))
 ·have hj':j < (ins.getD 0 []).length:=by simpa using m0
  refine eI ((j+1,o++[(ins.getD 0 []).getD j 0],c+1)) (eI ([some 0,some 1,some 2,some 3,some 4,some 5,some 6,some 7,some 10]) (aI ?_ (aI ?_ (aB (aI (aI (aA (by rfl)) (aI (aA (by rfl)) (aI (aA (by rfl)) (aI (aA (by rfl)) (aI (aA (by rfl)) (aI (aA (by rfl)) (aI (aA (by rfl)) (aI (aA (by rfl)) (aA tT))))))))) (by rfl))))))
  ·refine ⟨hj', ?_,by show (_++[_]).length≤j+1;simp;omega,⟨by show 0≤c+1;omega,by show c+1≤200;have h9:c < z:=of_decide_eq_true m1;omega⟩⟩
   show _=((ins.getD 0 []).take (j+1)).foldl _ _
   rw [hnx hj']
   dsimp only [Ss]
   rw [if_pos (show decide (c < z)=true from m1)]
  ·show (ins.getD 0 []).length - (j+1) < (ins.getD 0 []).length - j
   omega
 ·have hj':j < (ins.getD 0 []).length:=by simpa using m0
  refine eI ((j+1,o,c)) (eI ([some 0,some 1,some 2,some 3,some 4,some 5,some 6,some 7,some 8]) (aI ?_ (aI ?_ (aB (aI (aI (aA (by rfl)) (aI (aA (by rfl)) (aI (aA (by rfl)) (aI (aA (by rfl)) (aI (aA (by rfl)) (aI (aA (by rfl)) (aI (aA (by rfl)) (aI (aA (by rfl)) (aA tT))))))))) (by rfl))))))
  ·refine ⟨hj', ?_,by show o.length≤j+1;omega,hc⟩
   show _=((ins.getD 0 []).take (j+1)).foldl _ _
   rw [hnx hj']
   dsimp only [Ss]
   rw [if_neg (by rw [(show decide (c < z)=false from m1)];simp)]
  ·show (ins.getD 0 []).length - (j+1) < (ins.getD 0 []).length - j
   omega
 ·skip
  have run:Ch (6,z,ExprT.mk ek eo em ev ea,l) ins=([o],0):=by
   show ([((ins.getD 0 []).foldl (Ss z) ([],0)).1],0)=_
   rw [hen m0]
  exact Su (by assumption) (by assumption) hs0 (by rw [run];rfl) (by rw [run];exact m4)
 ·skip
  have run:Ch (6,z,ExprT.mk ek eo em ev ea,l) ins=([o],0):=by
   show ([((ins.getD 0 []).foldl (Ss z) ([],0)).1],0)=_
   rw [hen m0]
  exact (R9 (by assumption) (by assumption) hs0 (by rw [run];rfl) (by rw [run];exact m4)).trans (by rw [run])
theorem T6 (n:Nat) (b:List Int):G3 n [] b=b:=by cases n <;> rfl
set_option maxHeartbeats 8000000 in
theorem Agd:Iq 8:=by
 intro z e l ins hc hlk
 have hl:ins.length=2:=by have h:(ins.length:Int)=2:=hlk;omega
 have hs:=A1 hc
 obtain ⟨ek,eo,em,ev,ea⟩:=e
 refine ⟨_,Gw, ?_⟩
 refine (aF (aI tT (aI (fun h0=>(Aa rfl (by first | exact Df (by assumption) | exact Dl (by assumption) (by assumption)))) (fun h0=>(aA (fun h1=>(aI (fun h2=>(Aa rfl (by first | exact Df (by assumption) | exact Dl (by assumption) (by assumption)))) (fun h2=>(fun h3=>?_)))))))))
 refine ex4 _ (fun i:Nat=>⟨[.any,.sl (.sl (.int .i64)) ins,.ptr 0 0,.any,.any,.any,.any,.ptr 1 0,.any,.any,.any,.any,.any,.any,.any,.any,.any,.any,.any,.any,.any,.any,.any,.any,.any,.any,.any,.any,.sl (.sl (.int .i64)) ins,.int .i64 (↑ins.length:Int),.int .i64 (i:Int)]++nA 34,[.cells   [.int .i64 8,.int .i64 z,.int .i64 (ExprT.mk ek eo em ev ea).kind,     .int .i64 (ExprT.mk ek eo em ev ea).op,.str (ExprT.mk ek eo em ev ea).name,     .int .i64 (ExprT.mk ek eo em ev ea).value,.sl .expr (ExprT.mk ek eo em ev ea).args,     .sl (.int .i64) l],.cells   [.int .i64 2,.int .i64 1,.int .i64 0,.int .i64 0,.int .i64 0,     .sl .str [],.fn (Fn.func 214) [] [.eptr [PV.fn (FnT.mk 202 [])]],.fn (Fn.func 213) [] []]],2⟩) (fun i=>i≤ins.length∧Ba ins=Ba (ins.drop i)) (fun i=>ins.length - i) (aI (eI (0) (eI ([some 0,some 1]) (aI ?_ (aB (aI (aI (aA (by rfl)) (aI (aA (by rfl)) tT)) (by rfl)))))) ?_)
 ·exact ⟨Nat.zero_le _,rfl⟩
 rintro i ⟨hi,ht⟩
 have hin:decide ((i:Int) < (ins.length:Int))=false→(!decide (Ba ins=0))=false:=fun h=>by
  have hi':¬ i < ins.length:=by simpa using h
  rw [ht,List.drop_of_length_le (by omega)];rfl
 have ix:0 < 2→0≤(0:Int)∧(0:Int) < (ins.length:Int):=fun h=>by rw [hl];omega
 have iy:1 < 2→0≤(1:Int)∧(1:Int) < (ins.length:Int):=fun h=>by rw [hl];omega
 have hst:Ba ins=0→∀ j,j < ins.length→(ins.getD j (Ab tIs)).length≤200∧(ins.getD j (Ab tIs)).any Ai=false:=fun h j hj=>Bu h hj
 refine (aI (fun k0=>(aI (by first | exact ⟨by decide,rfl,by decide,by decide⟩ | exact ix (by decide) | exact iy (by decide) | (intros;(try subst_vars);(try simp only [nB] at *);(try simp only [inK,big,lim,nL] at *);omega)) (fun k1=>(aI (fun k2=>(Aa rfl ?_)) (fun k2=>(aI tT (aI (fun k3=>(Aa rfl ?_)) (fun k3=>(aI (by first | exact ⟨by decide,rfl,by decide,by decide⟩ | exact ix (by decide) | exact iy (by decide) | (intros;(try subst_vars);(try simp only [nB] at *);(try simp only [inK,big,lim,nL] at *);omega)) ?_))))))))) (fun k0=>(aF (aA (aF (aI (by first | exact ⟨by decide,rfl,by decide,by decide⟩ | exact ix (by decide) | exact iy (by decide) | (intros;(try subst_vars);(try simp only [nB] at *);(try simp only [inK,big,lim,nL] at *);omega)) (aF (aI (fun k4=>nG k4) (fun k4=>(aI (fun k5=>(aK (aI (by first | exact ⟨by decide,rfl,by decide,by decide⟩ | exact ix (by decide) | exact iy (by decide) | (intros;(try subst_vars);(try simp only [nB] at *);(try simp only [inK,big,lim,nL] at *);omega)) (aI (by first | exact ⟨by decide,rfl,by decide,by decide⟩ | exact ix (by decide) | exact iy (by decide) | (intros;(try subst_vars);(try simp only [nB] at *);(try simp only [inK,big,lim,nL] at *);omega)) (aC (aA (aI (by first | exact ⟨by decide,rfl,by decide,by decide⟩ | exact ix (by decide) | exact iy (by decide) | (intros;(try subst_vars);(try simp only [nB] at *);(try simp only [inK,big,lim,nL] at *);omega)) (aB (aA (aI (by first | exact ⟨by decide,rfl,by decide,by decide⟩ | exact ix (by decide) | exact iy (by decide) | (intros;(try subst_vars);(try simp only [nB] at *);(try simp only [inK,big,lim,nL] at *);omega)) (aB (aF ?_)))))))))))) (fun k5=>False.elim (Bool.false_ne_true (Eq.symm (Eq.trans (by kernel_rfl) k5))))))))))))))
 ·have hi':i < ins.length:=by simpa using k0
  have hk:A2 (ins.getD i (Ab tIs))=true:=k2
  have e4:Ba ins=4:=by rw [ht,A5 hi',if_pos hk]
  exact (Kc (by assumption) (by assumption) (by rw [e4];rfl)).trans (by rw [e4])
 ·have hi':i < ins.length:=by simpa using k0
  have hk:¬ A2 (ins.getD i (Ab tIs))=true:=by have h:A2 (ins.getD i (Ab tIs))=false:=k2;rw [h];simp
  have hk2:(ins.getD i (Ab tIs)).any Ai=true:=k3
  have e4:Ba ins=2:=by rw [ht,A5 hi',if_neg hk,if_pos hk2]
  exact (Kc (by assumption) (by assumption) (by rw [e4];rfl)).trans (by rw [e4])
 ·have hi':i < ins.length:=by simpa using k0
  have hk:¬ A2 (ins.getD i (Ab tIs))=true:=by have h:A2 (ins.getD i (Ab tIs))=false:=k2;rw [h];simp
  have hk2:¬ (ins.getD i (Ab tIs)).any Ai=true:=by have h:(ins.getD i (Ab tIs)).any Ai=false:=k3;rw [h];simp
  refine eI (i+1) (eI ([some 0,some 1]) (aI ?_ (aI ?_ (aB (aI (aI (aA (by rfl)) (aI (aA (by rfl)) tT)) (by rfl))))))
  ·refine ⟨hi', ?_⟩
   rw [ht,A5 hi',if_neg hk,if_neg hk2]
  ·show ins.length - (i+1) < ins.length - i
   omega
 have hs0:=hin k0
 have hstr:Ba ins=0:=by simpa using hs0
 obtain ⟨hal,-⟩:=Bu hstr (show 0 < ins.length by omega)
 obtain ⟨hbl,-⟩:=Bu hstr (show 1 < ins.length by omega)
 replace hal:(ins.getD 0 []).length≤200:=hal
 replace hbl:(ins.getD 1 []).length≤200:=hbl
 clear ht hi hin
 refine ex4 _ (fun p:List Int × List Int × List Int=>⟨[.sl tI p.1,.sl tI p.2.1,.any,.any,.any,.own 8]++nA 15,[.cells   [.int .i64 8,.int .i64 z,.int .i64 (ExprT.mk ek eo em ev ea).kind,     .int .i64 (ExprT.mk ek eo em ev ea).op,.str (ExprT.mk ek eo em ev ea).name,     .int .i64 (ExprT.mk ek eo em ev ea).value,.sl .expr (ExprT.mk ek eo em ev ea).args,     .sl (.int .i64) l],.cells   [.int .i64 2,.int .i64 1,.int .i64 0,.int .i64 0,.int .i64 0,     .sl .str [],.fn (Fn.func 214) [] [.eptr [PV.fn (FnT.mk 202 [])]],.fn (Fn.func 213) [] []],.cells   [.int .i64 8,.int .i64 z,.int .i64 (ExprT.mk ek eo em ev ea).kind,     .int .i64 (ExprT.mk ek eo em ev ea).op,.str (ExprT.mk ek eo em ev ea).name,     .int .i64 (ExprT.mk ek eo em ev ea).value,.sl .expr (ExprT.mk ek eo em ev ea).args,     .sl (.int .i64) l],.cells [.cap0,.int .i64 0,.bool false],.cells   [.int .i64 2,.int .i64 1,.int .i64 0,.int .i64 0,.int .i64 0,     .sl .str [],.fn (Fn.func 214) [] [.eptr [PV.fn (FnT.mk 202 [])]],.fn (Fn.func 213) [] []],.cells [.cap0],.cells   [.int .i64 8,.int .i64 z,.int .i64 (ExprT.mk ek eo em ev ea).kind,     .int .i64 (ExprT.mk ek eo em ev ea).op,.str (ExprT.mk ek eo em ev ea).name,     .int .i64 (ExprT.mk ek eo em ev ea).value,.sl .expr (ExprT.mk ek eo em ev ea).args,     .sl (.int .i64) l,.cap0,.int .i64 0,.bool false,.csl tI 5 (Int.toNat 1),     .int .i64 0,.int .i64 0],.cells   [.int .i64 2,.int .i64 1,.int .i64 0,.int .i64 0,.int .i64 0,     .sl .str [],.fn (Fn.func 214) [] [.eptr [PV.fn (FnT.mk 202 [])]],.fn (Fn.func 213) [] []],.rows tI p.2.2],9⟩) (fun p=>G3 ((ins.getD 0 []).length+(ins.getD 1 []).length) (ins.getD 0 []) (ins.getD 1 [])=p.2.2++G3 (p.1.length+p.2.1.length) p.1 p.2.1∧p.2.2.length+(p.1.length+p.2.1.length)=(ins.getD 0 []).length+(ins.getD 1 []).length) (fun p=>p.1.length+p.2.1.length) (aI (eI ((ins.getD 0 [],ins.getD 1 [],[])) (eI ([some 0,some 1,some 2,some 3,some 4,some 5,some 6,some 7,none]) (aI ?_ (aB (aI (aI (aA (by rfl)) (aI (aA (by rfl)) (aI (aA (by rfl)) (aI (aA (by rfl)) (aI (aA (by rfl)) (aI (aA (by rfl)) (aI (aA (by rfl)) (aI (aA (by rfl)) (aA tT))))))))) (by rfl)))))) ?_)
 ·exact ⟨rfl,by simp⟩
 rintro ⟨a,b,o⟩ ⟨hp,hn⟩
 replace hp:G3 ((ins.getD 0 []).length+(ins.getD 1 []).length) (ins.getD 0 []) (ins.getD 1 [])=o++G3 (a.length+b.length) a b:=hp
 replace hn:o.length+(a.length+b.length)=(ins.getD 0 []).length+(ins.getD 1 []).length:=hn
 have room:(o.length+1) * 8≤lim:=by simp only [lim];omega
 have room2:(o.length+b.length) * 8≤lim:=by simp only [lim];omega
 refine (fun m0=>(aI (fun m1=>(aI (by first | exact room | exact room2 | (intros;(try subst_vars);(try simp only [nB] at *);(try simp only [inK,big,lim,nL] at *);omega)) (aI (by first | exact room | exact room2 | (intros;(try subst_vars);(try simp only [nB] at *);(try simp only [inK,big,lim,nL] at *);omega)) (aF (aI (by first | exact room | exact room2 | (intros;(try subst_vars);(try simp only [nB] at *);(try simp only [inK,big,lim,nL] at *);omega)) ?_))))) (fun m1=>(aI (by first | exact room | exact room2 | (intros;(try subst_vars);(try simp only [nB] at *);(try simp only [inK,big,lim,nL] at *);omega)) (aI (by first | exact room | exact room2 | (intros;(try subst_vars);(try simp only [nB] at *);(try simp only [inK,big,lim,nL] at *);omega)) (aI (by first | exact room | exact room2 | (intros;(try subst_vars);(try simp only [nB] at *);(try simp only [inK,big,lim,nL] at *);omega)) (aC (aA (aI (fun m2=>nG m2) (fun m2=>(aI tT (aI (fun m3=>(Aa rfl ?_)) (fun m3=>(Aa rfl ?_))))))))))))))
 ·match a,m1 with
  | [],m1 =>
   have h:(0:Int) < (([]:List Int).length:Int):=of_decide_eq_true m1
   exact absurd h (by decide)
  | x :: a,m1 =>
  refine eI ((b,a,o++[x])) (eI ([some 0,some 1,some 2,some 3,some 4,some 5,some 6,some 7,some 10]) (aI ?_ (aI ?_ (aB (aI (aI (aA (by rfl)) (aI (aA (by rfl)) (aI (aA (by rfl)) (aI (aA (by rfl)) (aI (aA (by rfl)) (aI (aA (by rfl)) (aI (aA (by rfl)) (aI (aA (by rfl)) (aA tT))))))))) (by rfl))))))
  ·refine ⟨?_, ?_⟩
   ·rw [hp,show (x :: a).length+b.length=(a.length+b.length)+1 by simp;omega]
    show o++G3 (a.length+b.length+1) (x :: a) b=(o++[x])++G3 (b.length+a.length) b a
    rw [G3,Nat.add_comm b.length]
    simp
   ·show (o++[x]).length+(b.length+a.length)=_
    simp only [List.length_append,List.length_cons,List.length_nil] at hn ⊢
    omega
  ·show b.length+a.length < (x :: a).length+b.length
   simp only [List.length_cons]
   omega
 ·skip
  have run:Ch (8,z,ExprT.mk ek eo em ev ea,l) ins=([o++b],0):=by
   show ([G3 ((ins.getD 0 []).length+(ins.getD 1 []).length) (ins.getD 0 []) (ins.getD 1 [])],0)=_
   have ha:a=[]:=List.eq_nil_of_length_eq_zero (by have h:¬ (0:Int) < (a.length:Int):=of_decide_eq_false m1;omega)
   rw [hp,ha,T6]
  exact Su (by assumption) (by assumption) hs0 (by rw [run];rfl) (by rw [run];exact m3)
 ·skip
  have run:Ch (8,z,ExprT.mk ek eo em ev ea,l) ins=([o++b],0):=by
   show ([G3 ((ins.getD 0 []).length+(ins.getD 1 []).length) (ins.getD 0 []) (ins.getD 1 [])],0)=_
   have ha:a=[]:=List.eq_nil_of_length_eq_zero (by have h:¬ (0:Int) < (a.length:Int):=of_decide_eq_false m1;omega)
   rw [hp,ha,T6]
  exact (R9 (by assumption) (by assumption) hs0 (by rw [run];rfl) (by rw [run];exact m3)).trans (by rw [run])
end Go.Proofs.YtckpldpombdkgaaGreat
