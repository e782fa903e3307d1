import Derived.Test.YticmijfmgmkkcaaGreatVSxFn
import Derived.Test.YticmijfmgmkkcaaGreatVSxFreeze
import Derived.Test.YticmijfmgmkkcaaGreatRows
import Derived.KernelRfl
import Derived.Tactics
import Derived.Tactics2
import Derived.StillTactics
import Derived.Laws.Runes
import Derived.Laws.Rows
import Derived.Laws.Strings
import Derived.Laws.Strings2
import Derived.Laws.Strings3
import Derived.Laws.RangeString
import Derived.Laws.RangeAny
import Derived.Laws.Entries
import Derived.Laws.Small
import Derived.Laws.World
import Derived.Laws.Slices
import Derived.Scope
import Derived.FnLit
import Derived.LoopTactic
set_option linter.unusedSimpArgs false
set_option linter.unusedVariables false
set_option maxRecDepth 100000
namespace Go.Proofs.YticmijfmgmkkcaaGreat
open Go.Sx
theorem nF {p:Prop} {x:Bool} (h:false=x) (w:x=true):p:=False.elim (Bool.false_ne_true (h.trans w))
def nA (n:Nat):List AV:=List.replicate n .any
theorem aI {a b:Prop} (h:a) (h2:b):a∧b:=⟨h,h2⟩
theorem nB:(∀ c f:Bool,(bif c then true else f)=(c || f))∧(∀ c t:Bool,(bif c then t else false)=(c && t))∧(∀ a b:Bool,((a || b)=true)=(a=true∨b=true))∧(∀ a b:Bool,((a || b)=false)=(a=false∧b=false)) ∧
 (∀ a b:Bool,((a && b)=true)=(a=true∧b=true))∧(∀ b:Bool,((!b)=true)=(b=false))∧(∀ b:Bool,((!b)=false)=(b=true))∧(∀ (p:Prop) [Decidable p],(decide p=true)=p)∧(∀ (p:Prop) [Decidable p],(decide p=false)=¬p) ∧
 (∀ a b:Int,(¬ a < b)=(b≤a))∧(∀ a b:Int,(¬ a≤b)=(b < a)) :=
 ⟨by simp,by simp,by simp,by simp,by simp,by simp,by simp,fun _=>by simp,fun _=>by simp,fun _ _=>by simp,fun _ _=>by simp⟩
theorem nL {α:Type}:(∀ (a:α) (l:List α),(a :: l).length=l.length+1)∧([]:List α).length=0∧(∀ a b:List α,(a++b).length=a.length+b.length)∧(∀ (i:Nat) (l:List α),(l.drop i).length=l.length - i) ∧
 (∀ (i:Nat) (l:List α),(l.take i).length=min i l.length)∧(∀ (n:Nat) (a:α),(List.replicate n a).length=n) :=
 ⟨fun _ _=>List.length_cons,List.length_nil,fun _ _=>List.length_append,fun _ _=>List.length_drop,fun _ _=>List.length_take,fun _ _=>List.length_replicate⟩
@[reducible] def tI:Ty:=.int .i64
@[reducible] def tIs:Ty:=.sl (.int .i64)
@[reducible] def tIss:Ty:=.sl (.sl (.int .i64))
@[reducible] def tSs:Ty:=.sl .str
@[reducible] def tBd:Ty:=.pair .str (.pair tI tI)
@[reducible] def tSt:Ty:=.pair tI (.pair tI (.pair .expr tIs))
@[reducible] def dI:AK:=.dat false tI
@[reducible] def dS:AK:=.dat false .str
@[reducible] def dIs:AK:=.dat false tIs
@[reducible] def dIss:AK:=.dat false tIss
@[reducible] def dSs:AK:=.dat false tSs
@[reducible] def dX:AK:=.dat true .expr
@[reducible] def dBds:AK:=.dat false (.sl tBd)
@[reducible] def dSt:AK:=.dat true tSt
@[reducible] def rB:List (Bool × Ty):=[(false,.bool)]
@[reducible] def rI:List (Bool × Ty):=[(false,tI)]
@[reducible] def rII:List (Bool × Ty):=[(false,tI),(false,tI)]
@[reducible] def Bd:Type:=ByteArray × Int × Int
@[reducible] def StT:Type:=Int × Int × ExprT × List Int
def tys0:List (TypeId × Ty):=[(3,tI),(4,.bool),(9,.str),(24,.expr),(25,tIs),(109,tBd)]
def cx0:Ctx:=⟨tys0,[]⟩
theorem cx0_good:GoodCtx Tryz.prog cx0:=fun _ _ _ h=>by simp [cx0,lookL] at h
theorem cx_cons {P:Program} {ty:List (TypeId × Ty)} {g:FuncId} {C:Ctr} {tab:List (FuncId × (List Sh × Ctr))} (hg:GoodC P g C) (h:GoodCtx P ⟨ty,tab⟩):GoodCtx P ⟨ty,(g,([],C)) :: tab⟩:=by
 intro g' s C' h'
 simp only [lookL] at h'
 split at h'
 ·rename_i he
  have:=Nat.eq_of_beq_eq_true he
  subst this
  cases h'
  exact hg
 ·exact h g' s C' h'
theorem cx_ty {P:Program} {ty ty':List (TypeId × Ty)} {tab:List (FuncId × (List Sh × Ctr))} (h:GoodCtx P ⟨ty,tab⟩):GoodCtx P ⟨ty',tab⟩:=fun g s C h'=>h g s C h'
theorem ex4 {β:(ι:Type)→(ι→St)→(ι→Prop)→(ι→Nat)→Prop} (ι:Type) (S:ι→St) (I:ι→Prop) (μ:ι→Nat) (h:β ι S I μ):∃ ι S I μ,β ι S I μ:=⟨ι,S,I,μ,h⟩
def orC (C D:Ctr):Ctr:=fun args=>match C args with
 | some r=>some r
 | none=>D args
theorem good_or {P:Program} {g:FuncId} {C D:Ctr} (h:GoodC P g C) (h':GoodC P g D):GoodC P g (orC C D):=by
 refine ⟨h.fn,fun args r hr=>?_,fun args r gen hr=>?_⟩
 ·unfold orC at hr
  split at hr
  ·rename_i x hx;cases hr;exact h.gen args _ hx
  ·exact h'.gen args _ hr
 ·unfold orC at hr
  split at hr
  ·rename_i x hx;cases hr;exact h.calls args _ _ hx
  ·exact h'.calls args _ _ hr
theorem good_rec {P:Program} {g:FuncId} {a:List AK} {r:List (Bool × Ty)} {need:AK.dens a→Prop} {f:AK.dens a→Rens r} (μ:AK.dens a→Nat)
 (h:∀ N,GoodC P g (fnC a r (fun y=>need y∧μ y < N) f)):GoodC P g (fnC a r need f):=by
 refine ⟨(h 0).fn,fun args cg hC k hk=>?_,fun args cr gen hC hn=>?_⟩
 ·unfold fnC at hC
  split at hC
  ·rename_i y hy
   cases hC
   simp only at hk
   split at hk
   ·exact hk _ rfl
   ·exact hk
  ·cases hC
 ·unfold fnC at hC
  split at hC
  ·rename_i y hy
   cases hC
   have hn':need y:=hn
   exact (h (μ y+1)).calls args ⟨some (need y∧μ y < μ y+1),none,[],resAV r (f y)⟩ _ (by unfold fnC;rw [hy]) ⟨hn',Nat.lt_succ_self _⟩
  ·cases hC
theorem any_next {α:Type} {p:α→Bool} {xs:List α} {i:Nat} {d:α} (h1:i < xs.length) (h:(xs.take i).any p=false) (hd:p (xs.getD i d)=false):(xs.take (i+1)).any p=false:=by
 rw [List.take_succ_eq_append_getElem h1]
 simp only [List.any_append,List.any_cons,List.any_nil,Bool.or_false,List.getD_eq_getElem?_getD,List.getElem?_eq_getElem h1,Option.getD_some] at hd ⊢
 rw [h,hd];rfl
theorem any_hit {α:Type} {xs:List α} {i:Nat} {d:α} {p:α→Bool} (h1:i < xs.length) (h:p (xs.getD i d)=true):xs.any p=true:=by
 simp only [List.getD_eq_getElem?_getD,List.getElem?_eq_getElem h1,Option.getD_some] at h
 exact List.any_eq_true.2 ⟨_,List.getElem_mem h1,h⟩
theorem any_end {α:Type} {xs:List α} {i:Nat} {p:α→Bool} (h1:¬ i < xs.length) (h:(xs.take i).any p=false):xs.any p=false:=by
 rw [List.take_of_length_le (by omega)] at h;exact h
theorem take_ext_succ {α:Type} {xs ys:List α} {i:Nat} {d:α} (h1:i < xs.length) (h2:i < ys.length) (h:xs.take i=ys.take i) (hd:xs.getD i d=ys.getD i d):xs.take (i+1)=ys.take (i+1):=by
 rw [List.take_succ_eq_append_getElem h1,List.take_succ_eq_append_getElem h2,h]
 simp [List.getD_eq_getElem?_getD,List.getElem?_eq_getElem h1,List.getElem?_eq_getElem h2] at hd
 rw [hd]
mutual
def exLong:ExprT→Bool
 | .mk _ _ nm _ args=>decide (40 < nm.size) || exLongL args
def exLongL:List ExprT→Bool
 | []=>false
 | e :: l=>exLong e || exLongL l
end
theorem exLongL_any:∀ l:List ExprT,exLongL l=l.any exLong
 | []=>rfl
 | e :: l=>by simp only [exLongL,List.any_cons];rw [exLongL_any l]
mutual
def exSize:ExprT→Int→Int
 | .mk _ _ _ _ args,n=>exSizeL args (n+1)
def exSizeL:List ExprT→Int→Int
 | [],n=>n
 | e :: l,n=>if 100 < n then n else exSizeL l (exSize e n)
end
theorem eta (e:ExprT):ExprT.mk e.kind e.op e.name e.value e.args=e:=by cases e;rfl
noncomputable def exW (e:ExprT):Nat:=SizeOf.sizeOf e
theorem arg_lt {e:ExprT} {i:Nat} {d:ExprT} (h:i < e.args.length):exW (e.args.getD i d) < exW e:=by
 obtain ⟨k,o,nm,v,args⟩:=e
 have hm:args.getD i d∈args:=by
  have h':i < args.length:=h
  simp [List.getD,h']
 have hl:=List.sizeOf_lt_of_mem hm
 show SizeOf.sizeOf (args.getD i d) < SizeOf.sizeOf (ExprT.mk k o nm v args)
 generalize args.getD i d=x at hl ⊢
 simp
 omega
theorem exLong_eq (e:ExprT):exLong e=(decide (40 < e.name.size) || e.args.any exLong):=by
 obtain ⟨k,o,nm,v,args⟩:=e
 simp only [exLong,exLongL_any]
theorem exSize_eq (e:ExprT) (n:Int):exSize e n=exSizeL e.args (n+1):=by
 obtain ⟨k,o,nm,v,args⟩:=e
 rfl
mutual
theorem exSize_range:∀ (e:ExprT) (n:Int),0≤n→n≤100→n < exSize e n∧exSize e n≤101
 | .mk _ _ _ _ args,n,h0,h1=>by
  simp only [exSize]
  have:=exSizeL_range args (n+1) (by omega) (by omega)
  omega
theorem exSizeL_range:∀ (l:List ExprT) (n:Int),0≤n→n≤101→n≤exSizeL l n∧exSizeL l n≤101
 | [],n,h0,h1=>⟨Int.le_refl _,h1⟩
 | e :: l,n,h0,h1=>by
  simp only [exSizeL]
  split
  ·exact ⟨Int.le_refl _,h1⟩
  ·have h2:=exSize_range e n h0 (by omega)
   have h3:=exSizeL_range l (exSize e n) (by omega) h2.2
   omega
end
theorem exSizeL_drop {args:List ExprT} {i:Nat} {n:Int} {d:ExprT} (h:i < args.length):exSizeL (args.drop i) n=if 100 < n then n else exSizeL (args.drop (i+1)) (exSize (args.getD i d) n):=by
 rw [List.drop_eq_getElem_cons h]
 simp [exSizeL,List.getD,h]
def c88 (N:Nat):Ctr:=fnC [dX] rB (fun y=>True∧exW y.1 < N) (fun y=>(exLong y.1,()))
def cxL (N:Nat):Ctx:=⟨tys0,[(88,([],c88 N))]⟩
theorem good88':∀ N,GoodC Tryz.prog 88 (c88 N)
 | 0=>by
  refine goodF cx0_good 3 _ _ _ _ ⟨_,Tryz.func88,rfl,rfl⟩ fun y hn=>?_
  exact absurd hn.2 (Nat.not_lt_zero _)
 | N+1=>by
  refine goodF (cx:=cxL N) (cx_cons (good88' N) cx0_good) 3 _ _ _ _ ⟨_,Tryz.func88,rfl,rfl⟩ fun (⟨e,_⟩ : ExprT × Unit) hn=>?_
  have hN:exW e < N+1:=hn.2
  clear hn
  refine (aI (by first | kernel_rfl | rfl) (aI (fun h0=>(fin_of rfl ?_)) (fun h0=>?_)))
  ·have h0':decide (40 < (e.name.size:Int))=true:=h0
   have:40 < e.name.size:=by have:=of_decide_eq_true h0';omega
   show (exLong e,())=(true,())
   rw [exLong_eq,decide_eq_true this];rfl
  refine ex4 _ (fun i:Nat=>⟨[.any,.ptr 0 0,.any,.int .i64 (i:Int)]++nA 17,[.cells   [.int .i64 e.kind,.int .i64 e.op,.str e.name,.int .i64 e.value,.sl .expr e.args]],1⟩) (fun i=>i≤e.args.length∧(e.args.take i).any exLong=false) (fun i=>e.args.length - i) (aI (Exists.intro (0) (Exists.intro ([some 0]) (aI ?_ (aI (by rfl) (aI (by rfl) (aI (aI (aI (by rfl) (by rfl)) True.intro) (by rfl))))))) ?_)
  ·simp
  rintro i ⟨hi,ht⟩
  refine (fun k0=>(aI (fun k1=>(aI (by intros;(try subst_vars);(try simp only [nB] at *);(try simp only [inK,big,lim,nL] at *);omega) (aI ?_ (aI (fun k2=>(fin_of rfl ?_)) (fun k2=>(aI (by intros;(try subst_vars);(try simp only [nB] at *);(try simp only [inK,big,lim,nL] at *);omega) ?_)))))) (fun k1=>(fin_of rfl ?_))))
  ·refine ⟨trivial, ?_⟩
   have hi':i < e.args.length:=by simpa using k1
   show exW (ExprT.mk _ _ _ _ _) < N
   rw [eta]
   exact Nat.lt_of_lt_of_le (arg_lt hi') (by omega)
  ·have hi':i < e.args.length:=by simpa using k1
   have hk:exLong (e.args.getD i (dflt .expr))=true:=by have h:=k2;simp only [eta] at h;exact h
   show (exLong e,())=(true,())
   rw [exLong_eq,any_hit hi' hk,Bool.or_true]
  ·have hi':i < e.args.length:=by simpa using k1
   have hk:exLong (e.args.getD i (dflt .expr))=false:=by have h:=k2;simp only [eta] at h;exact h
   refine Exists.intro (i+1) (Exists.intro ([some 0]) (aI ?_ (aI ?_ (aI (by rfl) (aI (by rfl) (aI (aI (aI (by rfl) (by rfl)) True.intro) (by rfl)))))))
   ·exact ⟨hi',any_next hi' ht hk⟩
   ·show e.args.length - (i+1) < e.args.length - i
    omega
  ·have h0':decide (40 < (e.name.size:Int))=false:=h0
   have:¬ 40 < e.name.size:=by have:=of_decide_eq_false h0';omega
   have e1:=any_end (by simpa using k1) ht
   show (exLong e,())=(false,())
   rw [exLong_eq,decide_eq_false this,e1];rfl
def c88A:Ctr:=fnC [dX] rB (fun _=>True) (fun y=>(exLong y.1,()))
theorem good88:GoodC Tryz.prog 88 c88A:=good_rec (fun y=>exW y.1) good88'
def c123 (N:Nat):Ctr:=fnC [dX,dI] rI (fun y=>(0≤y.2.1∧y.2.1≤100)∧exW y.1 < N) (fun y=>(exSize y.1 y.2.1,()))
def cxZ (N:Nat):Ctx:=⟨tys0,[(123,([],c123 N))]⟩
theorem good123':∀ N,GoodC Tryz.prog 123 (c123 N)
 | 0=>by
  refine goodF cx0_good 3 _ _ _ _ ⟨_,Tryz.func123,rfl,rfl⟩ fun y hn=>?_
  exact absurd hn.2 (Nat.not_lt_zero _)
 | N+1=>by
  refine goodF (cx:=cxZ N) (cx_cons (good123' N) cx0_good) 3 _ _ _ _ ⟨_,Tryz.func123,rfl,rfl⟩ fun (⟨e,n,_⟩ : ExprT × Int × Unit) hn=>?_
  have hN:exW e < N+1:=hn.2
  have hn0:0≤n:=hn.1.1
  have hn1:n≤100:=hn.1.2
  clear hn
  refine (aI (by first | kernel_rfl | rfl) (aI (by intros;(try subst_vars);(try simp only [nB] at *);(try simp only [inK,big,lim,nL] at *);omega) ?_))
  refine ex4 _ (fun p:Nat × Int=>⟨[.any,.int .i64 p.2,.ptr 0 0,.any,.any,.int .i64 (p.1:Int)]++nA 20,[.cells   [.int .i64 e.kind,.int .i64 e.op,.str e.name,.int .i64 e.value,.sl .expr e.args]],1⟩) (fun p=>p.1≤e.args.length∧0≤p.2∧p.2≤101∧exSizeL e.args (n+1)=exSizeL (e.args.drop p.1) p.2) (fun p=>e.args.length - p.1) (aI (Exists.intro ((0,n+1)) (Exists.intro ([some 0]) (aI ?_ (aI (by rfl) (aI (by rfl) (aI (aI (aI (by rfl) (by rfl)) True.intro) (by rfl))))))) ?_)
  ·simp;omega
  rintro ⟨i,m⟩ ⟨hi,hm0,hm1,ht⟩
  replace hm0:0≤m:=hm0
  replace hm1:m≤101:=hm1
  refine (fun k0=>(aI (fun k1=>(aI (fun k2=>(fin_of rfl ?_)) (fun k2=>(aI (by intros;(try subst_vars);(try simp only [nB] at *);(try simp only [inK,big,lim,nL] at *);omega) (aI ?_ (aI (by intros;(try subst_vars);(try simp only [nB] at *);(try simp only [inK,big,lim,nL] at *);omega) ?_)))))) (fun k1=>(fin_of rfl ?_))))
  ·have hi':i < e.args.length:=by simpa using k1
   have hk:100 < m:=by simpa using k2
   show (exSize e n,())=(m,())
   rw [exSize_eq,ht,exSizeL_drop (d:=dflt .expr) hi',if_pos hk]
  ·have hi':i < e.args.length:=by simpa using k1
   have hk:¬ 100 < m:=by simpa using k2
   refine ⟨⟨hm0,Int.not_lt.1 hk⟩, ?_⟩
   show exW (ExprT.mk _ _ _ _ _) < N
   rw [eta]
   exact Nat.lt_of_lt_of_le (arg_lt hi') (by omega)
  ·have hi':i < e.args.length:=by simpa using k1
   have hk:¬ 100 < m:=by simpa using k2
   refine Exists.intro ((i+1,exSize (ExprT.mk (e.args.getD i (dflt .expr)).kind (e.args.getD i (dflt .expr)).op (e.args.getD i (dflt .expr)).name (e.args.getD i (dflt .expr)).value (e.args.getD i (dflt .expr)).args) m)) (Exists.intro ([some 0]) (aI ?_ (aI ?_ (aI (by rfl) (aI (by rfl) (aI (aI (aI (by rfl) (by rfl)) True.intro) (by rfl)))))))
   ·rw [eta]
    obtain ⟨hr1,hr2⟩:=exSize_range (e.args.getD i (dflt .expr)) m hm0 (by omega)
    refine ⟨hi',Int.le_of_lt (Int.lt_of_le_of_lt hm0 hr1),hr2, ?_⟩
    rw [ht,exSizeL_drop (d:=dflt .expr) hi',if_neg hk]
   ·show e.args.length - (i+1) < e.args.length - i
    omega
  ·have hi':¬ i < e.args.length:=by simpa using k1
   show (exSize e n,())=(m,())
   rw [exSize_eq,ht,List.drop_of_length_le (by omega)];rfl
def c123A:Ctr:=fnC [dX,dI] rI (fun y=>0≤y.2.1∧y.2.1≤100) (fun y=>(exSize y.1 y.2.1,()))
theorem good123:GoodC Tryz.prog 123 c123A:=good_rec (fun y=>exW y.1) good123'
def exCount (e:ExprT):Int:=if 100 < exSize e 0 then 101 else exSize e 0
def cxB:Ctx:=⟨tys0,[(88,([],c88A)),(123,([],c123A))]⟩
theorem cxB_good:GoodCtx Tryz.prog cxB:=cx_cons good88 (cx_cons good123 cx0_good)
def c87:Ctr:=fnC [dX] rI (fun _=>True) (fun y=>(exCount y.1,()))
theorem good87:GoodC Tryz.prog 87 c87:=by
 refine goodF cxB_good 3 _ _ _ _ ⟨_,Tryz.func87,rfl,rfl⟩ fun (⟨e,_⟩ : ExprT × Unit) _=>?_
 refine (aI (by first | kernel_rfl | rfl) (aI ?_ (aI (fun h0=>(fin_of rfl ?_)) (fun h0=>(fin_of rfl ?_)))))
 ·exact ⟨Int.le_refl (0:Int),(by decide:(0:Int)≤100)⟩
 ·have h:=h0
  simp only [eta] at h
  show (exCount e,())=(101,())
  rw [exCount,if_pos (of_decide_eq_true h)]
 ·have h:=h0
  simp only [eta] at h ⊢
  show (exCount e,())=(exSize e 0,())
  rw [exCount,if_neg (of_decide_eq_false h)]
def exGreat (e:ExprT):Bool:=bif bif decide (40 < exCount e) then decide (exCount e≤100) else false then true else (bif decide (exCount e≤40) then exLong e else false)
def cxB1:Ctx:=⟨tys0,[(87,([],c87)),(88,([],c88A))]⟩
theorem cxB1_good:GoodCtx Tryz.prog cxB1:=cx_cons good87 (cx_cons good88 cx0_good)
def c63:Ctr:=fnC [dX] rB (fun _=>True) (fun y=>(exGreat y.1,()))
theorem good63:GoodC Tryz.prog 63 c63:=by
 refine goodF cxB1_good 3 _ _ _ _ ⟨_,Tryz.func63,rfl,rfl⟩ fun (⟨e,_⟩ : ExprT × Unit) _=>?_
 refine (aI (by first | kernel_rfl | rfl) (aI True.intro (aI (fun h0=>True.intro) (fin_of rfl (by (simp only [eta];rfl))))))
def stGreat (t:StT):Bool:=bif bif exGreat t.2.2.1 then true else (bif decide (40 < (t.2.2.2.length:Int)) then decide ((t.2.2.2.length:Int)≤200) else false) then true else decide (210 < (t.2.2.2.length:Int))
def cxB2:Ctx:=⟨tys0,[(63,([],c63))]⟩
theorem cxB2_good:GoodCtx Tryz.prog cxB2:=cx_cons good63 cx0_good
def c29:Ctr:=fnC [dSt] rB (fun _=>True) (fun y=>(stGreat y.1,()))
theorem good29:GoodC Tryz.prog 29 c29:=by
 refine goodF cxB2_good 3 _ _ _ _ ⟨_,Tryz.func29,rfl,rfl⟩ fun (⟨⟨k,z,e,l⟩,_⟩ : StT × Unit) _=>?_
 refine (aI (by first | kernel_rfl | rfl) (aI True.intro (fun h0=>(fun h1=>(fun h2=>(fin_of rfl (by (simp only [eta];rfl))))))))
def firstAt {α:Type} (p:α→Bool):List α→Int→Int
 | [],_=>-1
 | x :: l,i=>if p x then i else firstAt p l (i+1)
theorem firstAt_drop {α:Type} (p:α→Bool) (d:α) (xs:List α) (i:Nat) (h:i < xs.length):firstAt p (xs.drop i) i=if p (xs.getD i d) then (i:Int) else firstAt p (xs.drop (i+1)) ((i+1:Nat):Int):=by
 rw [List.drop_eq_getElem_cons h]
 simp [firstAt,List.getElem?_eq_getElem h]
theorem firstAt_ge {α:Type} (p:α→Bool):∀ (xs:List α) (i:Int),0≤i→(decide (0≤firstAt p xs i))=xs.any p
 | [],i,h=>rfl
 | x :: l,i,h=>by
  unfold firstAt
  cases hp:p x <;> simp [hp]
  ·exact firstAt_ge p l (i+1) (by omega)
  ·exact h
def numB (x:Int):Bool:=bif decide (-1099511627776≤x) then decide (x≤1099511627776) else false
def notNum (x:Int):Bool:=!numB x
def longB (l:List Int):Bool:=decide (200 < (l.length:Int))
def midB (l:List Int):Bool:=bif bif decide (40 < (l.length:Int)) then decide ((l.length:Int)≤200) else false then true else decide (210 < (l.length:Int))
def c43:Ctr:=fnC [dI] rB (fun _=>True) (fun y=>(numB y.1,()))
theorem good43:GoodC Tryz.prog 43 c43:=by
 refine goodF cx0_good 3 _ _ _ _ ⟨_,Tryz.func43,rfl,rfl⟩ fun (⟨a,_⟩ : Int × Unit) _=>?_
 refine (aI (by first | kernel_rfl | rfl) (fin_of rfl (by rfl)))
def cxC:Ctx:=⟨tys0,[(43,([],c43))]⟩
theorem cxC_good:GoodCtx Tryz.prog cxC:=cx_cons good43 cx0_good
def c42:Ctr:=fnC [dI] rB (fun _=>True) (fun y=>(notNum y.1,()))
theorem good42:GoodC Tryz.prog 42 c42:=by
 refine goodF cxC_good 3 _ _ _ _ ⟨_,Tryz.func42,rfl,rfl⟩ fun (⟨a,_⟩ : Int × Unit) _=>?_
 refine (aI (by first | kernel_rfl | rfl) (aI True.intro (fin_of rfl (by rfl))))
def c52:Ctr:=fnC [dI] rB (fun _=>True) (fun y=>(notNum y.1,()))
theorem good52:GoodC Tryz.prog 52 c52:=by
 refine goodF cxC_good 3 _ _ _ _ ⟨_,Tryz.func52,rfl,rfl⟩ fun (⟨a,_⟩ : Int × Unit) _=>?_
 refine (aI (by first | kernel_rfl | rfl) (aI True.intro (fin_of rfl (by rfl))))
def c90:Ctr:=fnC [dI] rB (fun _=>True) (fun y=>(notNum y.1,()))
theorem good90:GoodC Tryz.prog 90 c90:=by
 refine goodF cxC_good 3 _ _ _ _ ⟨_,Tryz.func90,rfl,rfl⟩ fun (⟨a,_⟩ : Int × Unit) _=>?_
 refine (aI (by first | kernel_rfl | rfl) (aI True.intro (fin_of rfl (by rfl))))
def c38:Ctr:=fnC [dIs] rB (fun _=>True) (fun y=>(midB y.1,()))
theorem good38:GoodC Tryz.prog 38 c38:=by
 refine goodF cx0_good 3 _ _ _ _ ⟨_,Tryz.func38,rfl,rfl⟩ fun (⟨a,_⟩ : List Int × Unit) _=>?_
 refine (aI (by first | kernel_rfl | rfl) (fun h0=>(fun h1=>(fun h2=>(fin_of rfl (by rfl))))))
def c46:Ctr:=fnC [dIs] rB (fun _=>True) (fun y=>(longB y.1,()))
theorem good46:GoodC Tryz.prog 46 c46:=by
 refine goodF cx0_good 3 _ _ _ _ ⟨_,Tryz.func46,rfl,rfl⟩ fun (⟨a,_⟩ : List Int × Unit) _=>?_
 refine (aI (by first | kernel_rfl | rfl) (fun h0=>(fin_of rfl (by rfl))))
def cxD:Ctx:=⟨tys0,[(42,([],c42)),(52,([],c52)),(90,([],c90)),(38,([],c38)),(46,([],c46))]⟩
theorem cxD_good:GoodCtx Tryz.prog cxD:=cx_cons good42 (cx_cons good52 (cx_cons good90 (cx_cons good38 (cx_cons good46 cx0_good))))
def c73x42:Ctr:=fnC [dIs,.fn 42 [] []] rI (fun _=>True) (fun y=>(firstAt notNum y.1 0,()))
theorem good73x42:GoodC Tryz.prog 73 c73x42:=by
 refine goodF cxD_good 3 _ _ _ _ ⟨_,Tryz.func73,rfl,rfl⟩ fun (⟨xs,_⟩ : List Int × _ × Unit) _=>?_
 refine (aI (by first | kernel_rfl | rfl) (fun h0=>?_))
 refine ex4 _ (fun i:Nat=>⟨[.sl (.int .i64) xs,.fn (Fn.func 42) [] [],.any,.any,.any,.any,.sl (.int .i64) xs,.int .i64 (↑xs.length:Int),.int .i64 (i:Int),.any,.any,.any,.any,.any,.any,.any,.any,.any,.any],[],0⟩) (fun i=>i≤xs.length∧firstAt notNum xs 0=firstAt notNum (xs.drop i) i) (fun i=>xs.length - i) (aI (Exists.intro (0) (Exists.intro ([]) (aI ?_ (aI (by rfl) (aI (by rfl) (aI True.intro (by rfl))))))) ?_)
 ·exact ⟨Nat.zero_le _,rfl⟩
 rintro i ⟨hi,ht⟩
 refine (aI (fun k0=>(aI (by intros;(try subst_vars);(try simp only [nB] at *);(try simp only [inK,big,lim,nL] at *);omega) (aI True.intro (aI (fun k1=>(fin_of rfl ?_)) (fun k1=>(aI (by intros;(try subst_vars);(try simp only [nB] at *);(try simp only [inK,big,lim,nL] at *);omega) ?_)))))) (fun k0=>(fin_of rfl ?_)))
 ·have hi':i < xs.length:=by simpa using k0
  have hk:notNum (xs.getD i (dflt tI))=true:=k1
  rw [firstAt_drop _ (dflt tI) _ _ hi',if_pos hk] at ht
  show (firstAt notNum xs 0,())=(_,())
  rw [ht]
 ·have hi':i < xs.length:=by simpa using k0
  have hk:notNum (xs.getD i (dflt tI))=false:=k1
  rw [firstAt_drop _ (dflt tI) _ _ hi',if_neg (by rw [hk];simp)] at ht
  refine Exists.intro (i+1) (Exists.intro ([]) (aI ?_ (aI ?_ (aI (by rfl) (aI (by rfl) (aI True.intro (by rfl)))))))
  ·exact ⟨hi',ht⟩
  ·show xs.length - (i+1) < xs.length - i
   omega
 ·have hi':¬ i < xs.length:=by simpa using k0
  rw [List.drop_of_length_le (by omega)] at ht
  show (firstAt notNum xs 0,())=(_,())
  rw [ht];rfl
def c73x52:Ctr:=fnC [dIs,.fn 52 [] []] rI (fun _=>True) (fun y=>(firstAt notNum y.1 0,()))
theorem good73x52:GoodC Tryz.prog 73 c73x52:=by
 refine goodF cxD_good 3 _ _ _ _ ⟨_,Tryz.func73,rfl,rfl⟩ fun (⟨xs,_⟩ : List Int × _ × Unit) _=>?_
 refine (aI (by first | kernel_rfl | rfl) (fun h0=>?_))
 refine ex4 _ (fun i:Nat=>⟨[.sl (.int .i64) xs,.fn (Fn.func 52) [] [],.any,.any,.any,.any,.sl (.int .i64) xs,.int .i64 (↑xs.length:Int),.int .i64 (i:Int),.any,.any,.any,.any,.any,.any,.any,.any,.any,.any],[],0⟩) (fun i=>i≤xs.length∧firstAt notNum xs 0=firstAt notNum (xs.drop i) i) (fun i=>xs.length - i) (aI (Exists.intro (0) (Exists.intro ([]) (aI ?_ (aI (by rfl) (aI (by rfl) (aI True.intro (by rfl))))))) ?_)
 ·exact ⟨Nat.zero_le _,rfl⟩
 rintro i ⟨hi,ht⟩
 refine (aI (fun k0=>(aI (by intros;(try subst_vars);(try simp only [nB] at *);(try simp only [inK,big,lim,nL] at *);omega) (aI True.intro (aI (fun k1=>(fin_of rfl ?_)) (fun k1=>(aI (by intros;(try subst_vars);(try simp only [nB] at *);(try simp only [inK,big,lim,nL] at *);omega) ?_)))))) (fun k0=>(fin_of rfl ?_)))
 ·have hi':i < xs.length:=by simpa using k0
  have hk:notNum (xs.getD i (dflt tI))=true:=k1
  rw [firstAt_drop _ (dflt tI) _ _ hi',if_pos hk] at ht
  show (firstAt notNum xs 0,())=(_,())
  rw [ht]
 ·have hi':i < xs.length:=by simpa using k0
  have hk:notNum (xs.getD i (dflt tI))=false:=k1
  rw [firstAt_drop _ (dflt tI) _ _ hi',if_neg (by rw [hk];simp)] at ht
  refine Exists.intro (i+1) (Exists.intro ([]) (aI ?_ (aI ?_ (aI (by rfl) (aI (by rfl) (aI True.intro (by rfl)))))))
  ·exact ⟨hi',ht⟩
  ·show xs.length - (i+1) < xs.length - i
   omega
 ·have hi':¬ i < xs.length:=by simpa using k0
  rw [List.drop_of_length_le (by omega)] at ht
  show (firstAt notNum xs 0,())=(_,())
  rw [ht];rfl
def c73x90:Ctr:=fnC [dIs,.fn 90 [] []] rI (fun _=>True) (fun y=>(firstAt notNum y.1 0,()))
theorem good73x90:GoodC Tryz.prog 73 c73x90:=by
 refine goodF cxD_good 3 _ _ _ _ ⟨_,Tryz.func73,rfl,rfl⟩ fun (⟨xs,_⟩ : List Int × _ × Unit) _=>?_
 refine (aI (by first | kernel_rfl | rfl) (fun h0=>?_))
 refine ex4 _ (fun i:Nat=>⟨[.sl (.int .i64) xs,.fn (Fn.func 90) [] [],.any,.any,.any,.any,.sl (.int .i64) xs,.int .i64 (↑xs.length:Int),.int .i64 (i:Int),.any,.any,.any,.any,.any,.any,.any,.any,.any,.any],[],0⟩) (fun i=>i≤xs.length∧firstAt notNum xs 0=firstAt notNum (xs.drop i) i) (fun i=>xs.length - i) (aI (Exists.intro (0) (Exists.intro ([]) (aI ?_ (aI (by rfl) (aI (by rfl) (aI True.intro (by rfl))))))) ?_)
 ·exact ⟨Nat.zero_le _,rfl⟩
 rintro i ⟨hi,ht⟩
 refine (aI (fun k0=>(aI (by intros;(try subst_vars);(try simp only [nB] at *);(try simp only [inK,big,lim,nL] at *);omega) (aI True.intro (aI (fun k1=>(fin_of rfl ?_)) (fun k1=>(aI (by intros;(try subst_vars);(try simp only [nB] at *);(try simp only [inK,big,lim,nL] at *);omega) ?_)))))) (fun k0=>(fin_of rfl ?_)))
 ·have hi':i < xs.length:=by simpa using k0
  have hk:notNum (xs.getD i (dflt tI))=true:=k1
  rw [firstAt_drop _ (dflt tI) _ _ hi',if_pos hk] at ht
  show (firstAt notNum xs 0,())=(_,())
  rw [ht]
 ·have hi':i < xs.length:=by simpa using k0
  have hk:notNum (xs.getD i (dflt tI))=false:=k1
  rw [firstAt_drop _ (dflt tI) _ _ hi',if_neg (by rw [hk];simp)] at ht
  refine Exists.intro (i+1) (Exists.intro ([]) (aI ?_ (aI ?_ (aI (by rfl) (aI (by rfl) (aI True.intro (by rfl)))))))
  ·exact ⟨hi',ht⟩
  ·show xs.length - (i+1) < xs.length - i
   omega
 ·have hi':¬ i < xs.length:=by simpa using k0
  rw [List.drop_of_length_le (by omega)] at ht
  show (firstAt notNum xs 0,())=(_,())
  rw [ht];rfl
def c71x38:Ctr:=fnC [dIss,.fn 38 [] []] rI (fun _=>True) (fun y=>(firstAt midB y.1 0,()))
theorem good71x38:GoodC Tryz.prog 71 c71x38:=by
 refine goodF cxD_good 3 _ _ _ _ ⟨_,Tryz.func71,rfl,rfl⟩ fun (⟨xs,_⟩ : List (List Int) × _ × Unit) _=>?_
 refine (aI (by first | kernel_rfl | rfl) (fun h0=>?_))
 refine ex4 _ (fun i:Nat=>⟨[.sl (.sl (.int .i64)) xs,.fn (Fn.func 38) [] [],.any,.any,.any,.any,.sl (.sl (.int .i64)) xs,.int .i64 (↑xs.length:Int),.int .i64 (i:Int),.any,.any,.any,.any,.any,.any,.any,.any,.any,.any],[],0⟩) (fun i=>i≤xs.length∧firstAt midB xs 0=firstAt midB (xs.drop i) i) (fun i=>xs.length - i) (aI (Exists.intro (0) (Exists.intro ([]) (aI ?_ (aI (by rfl) (aI (by rfl) (aI True.intro (by rfl))))))) ?_)
 ·exact ⟨Nat.zero_le _,rfl⟩
 rintro i ⟨hi,ht⟩
 refine (aI (fun k0=>(aI (by intros;(try subst_vars);(try simp only [nB] at *);(try simp only [inK,big,lim,nL] at *);omega) (aI True.intro (aI (fun k1=>(fin_of rfl ?_)) (fun k1=>(aI (by intros;(try subst_vars);(try simp only [nB] at *);(try simp only [inK,big,lim,nL] at *);omega) ?_)))))) (fun k0=>(fin_of rfl ?_)))
 ·have hi':i < xs.length:=by simpa using k0
  have hk:midB (xs.getD i (dflt tIs))=true:=k1
  rw [firstAt_drop _ (dflt tIs) _ _ hi',if_pos hk] at ht
  show (firstAt midB xs 0,())=(_,())
  rw [ht]
 ·have hi':i < xs.length:=by simpa using k0
  have hk:midB (xs.getD i (dflt tIs))=false:=k1
  rw [firstAt_drop _ (dflt tIs) _ _ hi',if_neg (by rw [hk];simp)] at ht
  refine Exists.intro (i+1) (Exists.intro ([]) (aI ?_ (aI ?_ (aI (by rfl) (aI (by rfl) (aI True.intro (by rfl)))))))
  ·exact ⟨hi',ht⟩
  ·show xs.length - (i+1) < xs.length - i
   omega
 ·have hi':¬ i < xs.length:=by simpa using k0
  rw [List.drop_of_length_le (by omega)] at ht
  show (firstAt midB xs 0,())=(_,())
  rw [ht];rfl
def c71x46:Ctr:=fnC [dIss,.fn 46 [] []] rI (fun _=>True) (fun y=>(firstAt longB y.1 0,()))
theorem good71x46:GoodC Tryz.prog 71 c71x46:=by
 refine goodF cxD_good 3 _ _ _ _ ⟨_,Tryz.func71,rfl,rfl⟩ fun (⟨xs,_⟩ : List (List Int) × _ × Unit) _=>?_
 refine (aI (by first | kernel_rfl | rfl) (fun h0=>?_))
 refine ex4 _ (fun i:Nat=>⟨[.sl (.sl (.int .i64)) xs,.fn (Fn.func 46) [] [],.any,.any,.any,.any,.sl (.sl (.int .i64)) xs,.int .i64 (↑xs.length:Int),.int .i64 (i:Int),.any,.any,.any,.any,.any,.any,.any,.any,.any,.any],[],0⟩) (fun i=>i≤xs.length∧firstAt longB xs 0=firstAt longB (xs.drop i) i) (fun i=>xs.length - i) (aI (Exists.intro (0) (Exists.intro ([]) (aI ?_ (aI (by rfl) (aI (by rfl) (aI True.intro (by rfl))))))) ?_)
 ·exact ⟨Nat.zero_le _,rfl⟩
 rintro i ⟨hi,ht⟩
 refine (aI (fun k0=>(aI (by intros;(try subst_vars);(try simp only [nB] at *);(try simp only [inK,big,lim,nL] at *);omega) (aI True.intro (aI (fun k1=>(fin_of rfl ?_)) (fun k1=>(aI (by intros;(try subst_vars);(try simp only [nB] at *);(try simp only [inK,big,lim,nL] at *);omega) ?_)))))) (fun k0=>(fin_of rfl ?_)))
 ·have hi':i < xs.length:=by simpa using k0
  have hk:longB (xs.getD i (dflt tIs))=true:=k1
  rw [firstAt_drop _ (dflt tIs) _ _ hi',if_pos hk] at ht
  show (firstAt longB xs 0,())=(_,())
  rw [ht]
 ·have hi':i < xs.length:=by simpa using k0
  have hk:longB (xs.getD i (dflt tIs))=false:=k1
  rw [firstAt_drop _ (dflt tIs) _ _ hi',if_neg (by rw [hk];simp)] at ht
  refine Exists.intro (i+1) (Exists.intro ([]) (aI ?_ (aI ?_ (aI (by rfl) (aI (by rfl) (aI True.intro (by rfl)))))))
  ·exact ⟨hi',ht⟩
  ·show xs.length - (i+1) < xs.length - i
   omega
 ·have hi':¬ i < xs.length:=by simpa using k0
  rw [List.drop_of_length_le (by omega)] at ht
  show (firstAt longB xs 0,())=(_,())
  rw [ht];rfl
def c73:Ctr:=orC c73x42 (orC c73x52 c73x90)
def c71:Ctr:=orC c71x38 c71x46
def cxE:Ctx:=⟨tys0,[(73,([],c73)),(71,([],c71))]⟩
theorem cxE_good:GoodCtx Tryz.prog cxE:=cx_cons (good_or good73x42 (good_or good73x52 good73x90)) (cx_cons (good_or good71x38 good71x46) cx0_good)
def c41x42:Ctr:=fnC [dIs,.fn 42 [] []] rB (fun _=>True) (fun y=>(y.1.any notNum,()))
theorem good41x42:GoodC Tryz.prog 41 c41x42:=by
 refine goodF cxE_good 3 _ _ _ _ ⟨_,Tryz.func41,rfl,rfl⟩ fun (⟨xs,_⟩ : List Int × _ × Unit) _=>?_
 refine (aI (by first | kernel_rfl | rfl) (aI True.intro (fin_of rfl ?_)))
 show (xs.any notNum,())=_
 rw [← firstAt_ge notNum xs 0 (Int.le_refl _)]
def c41x52:Ctr:=fnC [dIs,.fn 52 [] []] rB (fun _=>True) (fun y=>(y.1.any notNum,()))
theorem good41x52:GoodC Tryz.prog 41 c41x52:=by
 refine goodF cxE_good 3 _ _ _ _ ⟨_,Tryz.func41,rfl,rfl⟩ fun (⟨xs,_⟩ : List Int × _ × Unit) _=>?_
 refine (aI (by first | kernel_rfl | rfl) (aI True.intro (fin_of rfl ?_)))
 show (xs.any notNum,())=_
 rw [← firstAt_ge notNum xs 0 (Int.le_refl _)]
def c41x90:Ctr:=fnC [dIs,.fn 90 [] []] rB (fun _=>True) (fun y=>(y.1.any notNum,()))
theorem good41x90:GoodC Tryz.prog 41 c41x90:=by
 refine goodF cxE_good 3 _ _ _ _ ⟨_,Tryz.func41,rfl,rfl⟩ fun (⟨xs,_⟩ : List Int × _ × Unit) _=>?_
 refine (aI (by first | kernel_rfl | rfl) (aI True.intro (fin_of rfl ?_)))
 show (xs.any notNum,())=_
 rw [← firstAt_ge notNum xs 0 (Int.le_refl _)]
def c37x38:Ctr:=fnC [dIss,.fn 38 [] []] rB (fun _=>True) (fun y=>(y.1.any midB,()))
theorem good37x38:GoodC Tryz.prog 37 c37x38:=by
 refine goodF cxE_good 3 _ _ _ _ ⟨_,Tryz.func37,rfl,rfl⟩ fun (⟨xs,_⟩ : List (List Int) × _ × Unit) _=>?_
 refine (aI (by first | kernel_rfl | rfl) (aI True.intro (fin_of rfl ?_)))
 show (xs.any midB,())=_
 rw [← firstAt_ge midB xs 0 (Int.le_refl _)]
def c37x46:Ctr:=fnC [dIss,.fn 46 [] []] rB (fun _=>True) (fun y=>(y.1.any longB,()))
theorem good37x46:GoodC Tryz.prog 37 c37x46:=by
 refine goodF cxE_good 3 _ _ _ _ ⟨_,Tryz.func37,rfl,rfl⟩ fun (⟨xs,_⟩ : List (List Int) × _ × Unit) _=>?_
 refine (aI (by first | kernel_rfl | rfl) (aI True.intro (fin_of rfl ?_)))
 show (xs.any longB,())=_
 rw [← firstAt_ge longB xs 0 (Int.le_refl _)]
def c41:Ctr:=orC c41x42 (orC c41x52 c41x90)
def c37:Ctr:=orC c37x38 c37x46
theorem good41:GoodC Tryz.prog 41 c41:=good_or good41x42 (good_or good41x52 good41x90)
theorem good37:GoodC Tryz.prog 37 c37:=good_or good37x38 good37x46
end Go.Proofs.YticmijfmgmkkcaaGreat
namespace Go.Proofs.YticmijfmgmkkcaaGreat
open Go.Sx
open Go.RowKit
def badRune (c:Int) (pos:Nat):Bool :=
 bif !(bif decide (97≤c) then decide (c≤122) else false) then
  (bif decide ((pos:Int)=0) then true else (bif !decide (c=95) then (bif decide (c < 48) then true else decide (57 < c)) else false)) else false
def runesOk (s:ByteArray):Nat→Nat→Bool
 | 0,_=>true
 | b+1,pos=>if pos < s.size then (if badRune (Utf8.decode s pos).1 pos then false else runesOk s b (pos+(Utf8.decode s pos).2)) else true
def nameB (s:ByteArray):Bool:=bif runesOk s s.size 0 then (bif decide (1≤(s.size:Int)) then decide ((s.size:Int)≤30) else false) else false
theorem width_pos (s:ByteArray) (pos:Nat) (h:pos < s.size):1≤(Utf8.decode s pos).2:=by
 by_cases ha:(s[pos]'h).toNat < 128
 ·rw [decode_ascii s pos h ha]
  exact Nat.le_refl _
 ·exact (decode_high s pos h (by omega)).2
theorem runesOk_end (s:ByteArray) (b pos:Nat) (h:¬ pos < s.size):runesOk s b pos=true:=by
 cases b with
 | zero=>rfl
 | succ b=>simp [runesOk,h]
set_option maxRecDepth 1000000 in
theorem walk158 (c:Int) (w:World):Calls Tryz.prog 158 #[.int .i32 c] w fun e w'=>e=.returned (.bool (bif decide (97≤c) then decide (c≤122) else false))∧w'=w:=by
 go_enter Tryz.func158,Tryz.ntmps158
 go_wp2
 all_goals
  go_ret
  refine ⟨?_,rfl⟩
  by_cases h1:97≤c <;> by_cases h2:c≤122 <;> simp [h1,h2] <;> omega
set_option maxRecDepth 1000000 in
set_option maxHeartbeats 1000000 in
theorem walk131 (s:ByteArray) (w:World) :
 Calls Tryz.prog 131 #[.string s] w fun e w'=>e=.returned (.bool (nameB s))∧∃ pos,w'=w.iter s pos:=by
 go_enter Tryz.func131,Tryz.ntmps131
 go_wp2
 go_loopw [] (fun w'=>∃ (pos b:Nat),w'=w.iter s pos∧runesOk s b pos=runesOk s s.size 0∧s.size≤pos+b) (fun w'=>s.size - w'.iterPos w.heap.size)
 case atStart=>exact ⟨0,s.size,rfl,rfl,by omega⟩
 case round =>
  obtain ⟨pos,b,rfl,hc,hb⟩:=hrel
  by_cases hp:pos < s.size
  ·have hnx:∀ ty,(Instr.next (.pointer (some ⟨w.heap.size,0,none⟩)) true ty).run Tryz.prog (w.iter s pos)=_:=fun ty=>run_next_any w s pos ty hp
   generalize hwc:(Utf8.decode s pos).1=c at hnx
   generalize hww:(Utf8.decode s pos).2=wd at hnx
   have hwd:1≤wd:=by rw [← hww];exact width_pos s pos hp
   cases b with
   | zero=>omega
   | succ b =>
   have hc':(if badRune c pos then false else runesOk s b (pos+wd))=runesOk s s.size 0:=by
    rw [← hc]
    simp only [runesOk,if_pos hp,hwc,hww]
   have hB:badRune c pos=(!(decide (97≤(c:Int)) && decide ((c:Int)≤122)) && (decide (pos=0) || (!decide ((c:Int)=95) && (decide ((c:Int) < 48) || decide (57 < (c:Int)))))):=by
    unfold badRune
    simp [Bool.cond_eq_ite]
    grind
   go_wp2_with (go_at_call 158;refine (walk158 _ _).mono ?_;rintro e w' ⟨rfl,rfl⟩)
   all_goals first
    | (exfalso;simp_all;done)
    | (exfalso;simp_all;omega)
    | (have hbad:badRune c pos=false:=by
        rw [hB];simp_all
        try omega
       rw [hbad] at hc'
       refine ⟨⟨pos+wd,b,rfl,by simpa using hc',by omega⟩,by simp;omega⟩)
    | (have hbad:badRune c pos=true:=by
        rw [hB];simp_all
        try omega
       rw [hbad] at hc'
       go_ret
       have hf:runesOk s s.size 0=false:=by simpa using hc'.symm
       refine ⟨?_,_,rfl⟩
       unfold nameB
       rw [hf]
       rfl)
  ·have hnx:∀ ty,(Instr.next (.pointer (some ⟨w.heap.size,0,none⟩)) true ty).run Tryz.prog (w.iter s pos)=_:=fun ty=>run_next_end w s pos ty hp
   rw [runesOk_end s b pos hp] at hc
   replace hc:=hc.symm
   go_wp2
   all_goals
    go_ret
    refine ⟨?_,_,rfl⟩
    unfold nameB
    rw [hc]
    simp [Bool.cond_eq_ite]
    try grind
theorem good_str {P:Program} {g:FuncId} {f:ByteArray→Bool} (hfn:∃ fn,P.funcs[g]?=some fn∧fn.body.isSome=true∧(fn.name == "runtime.NumGoroutine")=false)
 (h:∀ s w,Calls P g #[.string s] w fun e w'=>e=.returned (.bool (f s))∧Below w.heap.size w w'):GoodC P g (fnC [dS] rB (fun _=>True) (fun y=>(f y.1,()))):=by
 refine ⟨hfn,fun args cg hC k hk=>?_,fun args cr gen hC hn w F0 vs hF hsz hrd=>?_⟩
 ·unfold fnC at hC
  split at hC
  ·cases hC;exact hk
  ·cases hC
 ·unfold fnC at hC
  split at hC
  ·rename_i y hy
   cases hC
   obtain ⟨e,hall⟩:=ofAVs_ok (E:=Env.base w F0) [dS] args y hy
   have h1:=hall hrd
   obtain ⟨vs⟩:=vs
   have hl:vs.length=1:=by
    have:args.length=1:=by rw [← e];rfl
    simpa [this] using hsz
   match vs,hl with
   | [v],_ =>
   obtain ⟨s,u⟩:=y
   have hv:RdA (Env.base w F0) v (.str s):=h1 0 v _ rfl rfl [v] (fun i u hu=>by simpa using hu) e
   have hvs:v=.string s:=by cases hv;rfl
   subst hvs
   refine (h s w).mono ?_
   rintro e w' ⟨rfl,hb⟩
   exact ⟨trivial,_,fun _=>none,fun _ _=>none,rfl,hb,.bool _,fun j ob hj=>by simp at hj,fun j h hj=>by simp at hj,fun j j' h h' hj=>by simp at hj⟩
  ·cases hC
def c131:Ctr:=fnC [dS] rB (fun _=>True) (fun y=>(nameB y.1,()))
theorem good131:GoodC Tryz.prog 131 c131:=good_str ⟨_,Tryz.func131,rfl,rfl⟩ fun s w=>(walk131 s w).mono fun e w' ⟨h1,pos,h2⟩=>⟨h1,by subst h2;exact (Below.refl _ _).alloc (Nat.le_refl _) _⟩
end Go.Proofs.YticmijfmgmkkcaaGreat
namespace Go.Proofs.YticmijfmgmkkcaaGreat
open Go.Sx
def opRow (s:ByteArray) (a b c:Int):List (Option PV):=[some (.str s),some (.int .i64 a),some (.int .i64 b),some (.int .i64 c),none]
def opTab:List (Int × List (Option PV)):=[(3,opRow ⟨#[43]⟩ 4 1 1),(4,opRow ⟨#[45]⟩ 4 1 1),(5,opRow ⟨#[42]⟩ 5 1 1),(6,opRow ⟨#[47]⟩ 5 1 1),(7,opRow ⟨#[37]⟩ 5 1 1),(8,opRow ⟨#[61,61]⟩ 3 0 2),(9,opRow ⟨#[33,61]⟩ 3 0 2),(10,opRow ⟨#[60]⟩ 3 1 2),(11,opRow ⟨#[60,61]⟩ 3 1 2),(12,opRow ⟨#[62]⟩ 3 1 2),(13,opRow ⟨#[62,61]⟩ 3 1 2),(14,opRow ⟨#[38,38]⟩ 2 2 2),(15,opRow ⟨#[124,124]⟩ 1 2 2)]
def c130:Ctr:=fun args=>match args with
 | []=>some ⟨⟨none,none,[],.dmp opTab⟩,fun k=>k (.dmp opTab)⟩
 | _=>none
theorem fin_map {tab:List (Int × List (Option PV))} {es:List (Int × AV)} {k:Nat} {H:List Ob} {n:Nat} (h:getOb H k=.fmap es) (hz:plainE es=some tab):finK ⟨none,none,[],.dmp tab⟩ (.mp k) H n:=by
 refine ⟨trivial,rfl,[k],[], ?_,rfl,trivial,by simp [Sx.distinct,Sx.keeps]⟩
 have:frV [k] H (.mp k)=.dmp tab:=by
  simp only [frV,frMp,h,hz]
  simp
 rw [this]
 rfl
theorem run130:callN cx0 Tryz.prog 6 130 [] [] 0 (finK ⟨none,none,[],.dmp opTab⟩):=by
 refine (aI (by first | kernel_rfl | rfl) (aI (by first | kernel_rfl | rfl) (aI (by first | kernel_rfl | rfl) (aI (by first | kernel_rfl | rfl) (aI (by first | kernel_rfl | rfl) (aI (by first | kernel_rfl | rfl) (aI (by first | kernel_rfl | rfl) (aI (by first | kernel_rfl | rfl) (aI (by first | kernel_rfl | rfl) (aI (by first | kernel_rfl | rfl) (aI (by first | kernel_rfl | rfl) (aI (by first | kernel_rfl | rfl) (aI (by first | kernel_rfl | rfl) (aI (by first | kernel_rfl | rfl) (aI (by first | kernel_rfl | rfl) (aI (by first | kernel_rfl | rfl) (aI (by first | kernel_rfl | rfl) (aI (by first | kernel_rfl | rfl) (aI (by first | kernel_rfl | rfl) (aI (by first | kernel_rfl | rfl) (aI (by first | kernel_rfl | rfl) ?_)))))))))))))))))))))
 exact fin_map (k:=0) rfl rfl
theorem good130:GoodC Tryz.prog 130 c130:=by
 obtain ⟨C,hg,hC⟩:=goodC_one cx0_good 6 ⟨_,Tryz.func130,rfl,rfl⟩ [] ⟨none,none,[],.dmp opTab⟩ run130
 refine ⟨hg.fn,fun args cg h k hk=>?_,fun args cr gen h hn=>?_⟩
 ·unfold c130 at h
  split at h
  ·cases h;exact hk
  ·cases h
 ·unfold c130 at h
  split at h
  ·cases h;exact hg.calls [] _ _ hC trivial
  ·cases h
def opKnown (o:Int):Bool:=memD o (dmpE opTab)
def cxN:Ctx:=⟨tys0,[(131,([],c131)),(130,([],c130))]⟩
theorem cxN_good:GoodCtx Tryz.prog cxN:=cx_cons good131 (cx_cons good130 cx0_good)
def oddNode (e:ExprT):Bool :=
 bif bif bif !decide ((if e.kind=1∨e.kind=2 then e.op else 0)=0) then true else !decide ((if e.kind=2 then ⟨#[]⟩ else e.name)=(⟨#[]⟩ : ByteArray)) then true
  else !decide ((if e.kind=1 then 0 else e.value)=0) then true else !decide ((e.args.length:Int)=[0,0,0,1,2].getD e.kind.toNat 0)
def chkNode (e:ExprT):Int :=
 if (bif decide (e.kind < 1) then true else decide (4 < e.kind))=true then 8
 else if oddNode e=true then 1
 else if (bif decide (e.kind=1) then bif decide (e.value < 0) then true else decide (1099511627776 < e.value) else false)=true then 2
 else if (bif decide (e.kind=2) then !nameB e.name else false)=true then 5
 else if (bif bif bif decide (e.kind=3) then !decide (e.op=1) else false then !decide (e.op=2) else false then true else bif decide (e.kind=4) then !opKnown e.op else false)=true then 8
 else 0
def c112:Ctr:=fnC [dX] rI (fun _=>True) (fun y=>(chkNode y.1,()))
set_option maxHeartbeats 4000000 in
theorem good112:GoodC Tryz.prog 112 c112:=by
 refine goodF cxN_good 6 _ _ _ _ ⟨_,Tryz.func112,rfl,rfl⟩ fun (⟨e,_⟩ : ExprT × Unit) _=>?_
 refine (aI (by first | kernel_rfl | rfl) (aI (fun h0=>(fin_of rfl ?_)) (fun h0=>(aI (by first | kernel_rfl | rfl) (aI (by intros;(try subst_vars);(try simp only [nB] at *);(try simp only [inK,big,lim,nL] at *);omega) (aI (fun h1=>(fun h2=>(aI (fun h3=>(fin_of rfl ?_)) (fun h3=>(aI (by first | kernel_rfl | rfl) (aI (fun h4=>(fin_of rfl ?_)) (fun h4=>(aI (fun h5=>True.intro) (aI (fun h6=>(fin_of rfl ?_)) (fun h6=>(aI (fun h7=>(fin_of rfl ?_)) (fun h7=>(fin_of rfl ?_))))))))))))) (fun h1=>(aI (fun h8=>(fun h9=>(aI (fun h10=>(fin_of rfl ?_)) (fun h10=>(aI (by first | kernel_rfl | rfl) (aI (fun h11=>(fin_of rfl ?_)) (fun h11=>(aI (fun h12=>True.intro) (aI (fun h13=>(fin_of rfl ?_)) (fun h13=>(aI (fun h14=>(fin_of rfl ?_)) (fun h14=>(fin_of rfl ?_))))))))))))) (fun h8=>(fun h15=>(aI (fun h16=>(fin_of rfl ?_)) (fun h16=>(aI (by first | kernel_rfl | rfl) (aI (fun h17=>(fin_of rfl ?_)) (fun h17=>(aI (fun h18=>True.intro) (aI (fun h19=>(fin_of rfl ?_)) (fun h19=>(aI (fun h20=>(fin_of rfl ?_)) (fun h20=>(fin_of rfl ?_)))))))))))))))))))))
 all_goals
  obtain ⟨k,o,nm,v,args⟩:=e
  show (chkNode _,())=_
  simp only [chkNode,oddNode,opKnown,dflt,Bool.cond_eq_ite] at *
  generalize memD o (dmpE opTab)=b at *
  generalize nameB nm=c at *
  generalize List.getD [0,0,0,1,2] k.toNat (0:Int)=w at *
  grind
end Go.Proofs.YticmijfmgmkkcaaGreat
namespace Go.Proofs.YticmijfmgmkkcaaGreat
open Go.Sx
@[reducible] def rBdB:List (Bool × Ty):=[(true,tBd),(false,.bool)]
def absI (a:Int):Int:=if 0 - a > a then 0 - a else a
def c139:Ctr:=fnC [dI] rI (fun y=>-9223372036854775807≤y.1∧y.1≤9223372036854775807) (fun y=>(absI y.1,()))
theorem good139:GoodC Tryz.prog 139 c139:=by
 refine goodF cx0_good 3 _ _ _ _ ⟨_,Tryz.func139,rfl,rfl⟩ fun (⟨a,_⟩ : Int × Unit) hn=>?_
 have hn1:-9223372036854775807≤a:=hn.1
 have hn2:a≤9223372036854775807:=hn.2
 clear hn
 refine (aI (by first | kernel_rfl | rfl) (aI (by (show inK .i64 (0 - a);simp only [inK];omega)) (fin_of rfl (by rfl))))
def c171:Ctr:=fnC [.dat true tBd,.eptr .str] rB (fun _=>True) (fun y=>(decide (y.1.1=y.2.1),()))
theorem good171:GoodC Tryz.prog 171 c171:=by
 refine goodF cx0_good 3 _ _ _ _ ⟨_,Tryz.func171,rfl,rfl⟩ fun (⟨⟨nm,t,v⟩,s,_⟩ : Bd × ByteArray × Unit) _=>?_
 refine (aI (by first | kernel_rfl | rfl) (fin_of rfl (by rfl)))
def isNm (s:ByteArray) (b:Bd):Bool:=decide (b.1=s)
def cxF:Ctx:=⟨tys0,[(171,([],c171))]⟩
theorem cxF_good:GoodCtx Tryz.prog cxF:=cx_cons good171 cx0_good
def c170:Ctr:=fnC [dBds,.fn 171 [] [.eptr .str]] rI (fun _=>True) (fun y=>(firstAt (isNm y.2.1.2.1) y.1 0,()))
theorem good170:GoodC Tryz.prog 170 c170:=by
 refine goodF cxF_good 3 _ _ _ _ ⟨_,Tryz.func170,rfl,rfl⟩ fun (⟨xs,⟨_,s,_⟩,_⟩ : List Bd × (Unit × ByteArray × Unit) × Unit) _=>?_
 refine (aI (by first | kernel_rfl | rfl) (fun h0=>?_))
 refine ex4 _ (fun i:Nat=>⟨[.sl tBd xs,.fn (Fn.func 171) [] [.eptr [PV.str s]],.any,.any,.any,.any,.sl tBd xs,.int .i64 (↑xs.length:Int),.int .i64 (i:Int),.any,.any,.any,.any,.any,.any,.any,.any,.any,.any],[],0⟩) (fun i=>i≤xs.length∧firstAt (isNm s) xs 0=firstAt (isNm s) (xs.drop i) i) (fun i=>xs.length - i) (aI (Exists.intro (0) (Exists.intro ([]) (aI ?_ (aI (by rfl) (aI (by rfl) (aI True.intro (by rfl))))))) ?_)
 ·exact ⟨Nat.zero_le _,rfl⟩
 rintro i ⟨hi,ht⟩
 refine (aI (fun k0=>(aI (by intros;(try subst_vars);(try simp only [nB] at *);(try simp only [inK,big,lim,nL] at *);omega) (aI True.intro (aI (fun k1=>(fin_of rfl ?_)) (fun k1=>(aI (by intros;(try subst_vars);(try simp only [nB] at *);(try simp only [inK,big,lim,nL] at *);omega) ?_)))))) (fun k0=>(fin_of rfl ?_)))
 ·have hi':i < xs.length:=by simpa using k0
  have hk:isNm s (xs.getD i (dflt tBd))=true:=k1
  rw [firstAt_drop _ (dflt tBd) _ _ hi',if_pos hk] at ht
  show (firstAt (isNm s) xs 0,())=(_,())
  rw [ht]
 ·have hi':i < xs.length:=by simpa using k0
  have hk:isNm s (xs.getD i (dflt tBd))=false:=k1
  rw [firstAt_drop _ (dflt tBd) _ _ hi',if_neg (by rw [hk];simp)] at ht
  refine Exists.intro (i+1) (Exists.intro ([]) (aI ?_ (aI ?_ (aI (by rfl) (aI (by rfl) (aI True.intro (by rfl)))))))
  ·exact ⟨hi',ht⟩
  ·show xs.length - (i+1) < xs.length - i
   omega
 ·have hi':¬ i < xs.length:=by simpa using k0
  rw [List.drop_of_length_le (by omega)] at ht
  show (firstAt (isNm s) xs 0,())=(_,())
  rw [ht];rfl
theorem firstAt_lt {α:Type} (p:α→Bool):∀ (xs:List α) (i:Int),0≤i→firstAt p xs i < i+xs.length
 | [],i,h=>by simp only [firstAt,List.length_nil];omega
 | x :: l,i,h=>by
  have:=firstAt_lt p l (i+1) (by omega)
  simp only [firstAt,List.length_cons]
  split <;> omega
def findB (xs:List Bd) (s:ByteArray):Bd × Bool:=if decide (firstAt (isNm s) xs 0 < 0)=true then ((⟨#[]⟩,0,0),false) else (xs.getD (firstAt (isNm s) xs 0).toNat (dflt tBd),true)
def cxG:Ctx:=⟨tys0,[(170,([],c170))]⟩
theorem cxG_good:GoodCtx Tryz.prog cxG:=cx_cons good170 cx0_good
def c134:Ctr:=fnC [dBds,dS] rBdB (fun _=>True) (fun y=>((findB y.1 y.2.1).1,(findB y.1 y.2.1).2,()))
theorem good134:GoodC Tryz.prog 134 c134:=by
 refine goodF cxG_good 3 _ _ _ _ ⟨_,Tryz.func134,rfl,rfl⟩ fun (⟨xs,s,_⟩ : List Bd × ByteArray × Unit) _=>?_
 refine (aI (by first | kernel_rfl | rfl) (aI True.intro (aI (fun h0=>(fin_of rfl ?_)) (fun h0=>(aI ?_ (fin_of rfl ?_))))))
 ·show ((findB xs s).1,(findB xs s).2,())=_
  unfold findB
  rw [if_pos h0]
 ·have h1:¬ firstAt (isNm s) xs 0 < 0:=of_decide_eq_false h0
  have h2:=firstAt_lt (isNm s) xs 0 (Int.le_refl _)
  have h3:0≤firstAt (isNm s) xs 0:=by omega
  have h4:firstAt (isNm s) xs 0 < (xs.length:Int):=by omega
  exact ⟨h3,h4⟩
 ·show ((findB xs s).1,(findB xs s).2,())=_
  have h1:¬ decide (firstAt (isNm s) xs 0 < 0)=true:=by rw [show decide (firstAt (isNm s) xs 0 < 0)=false from h0];simp
  unfold findB
  rw [if_neg h1]
def timesF (a b:Int):Int × Int:=if (bif !decide (b=0) then decide ((1099511627776:Int).tdiv (absI b) < absI a) else false)=true then (0,14) else (a * b,0)
theorem absI_cases (a:Int):(absI a=a∧0≤a)∨(absI a=-a∧a < 0):=by unfold absI;split <;> omega
theorem times_range {a b:Int} (h:(bif !decide (b=0) then decide ((1099511627776:Int).tdiv (absI b) < absI a) else false)=false):-1099511627776≤a * b∧a * b≤1099511627776:=by
 by_cases hb:b=0
 ·subst hb;simp
 ·simp only [decide_eq_false hb,Bool.not_false,cond_true,decide_eq_false_iff_not,Int.not_lt] at h
  have hB:0 < absI b:=by rcases absI_cases b with h | h <;> omega
  rw [Int.tdiv_eq_ediv_of_nonneg (by decide)] at h
  have h1:absI a * absI b≤(1099511627776 / absI b) * absI b:=Int.mul_le_mul_of_nonneg_right h (by omega)
  have h2:=Int.ediv_mul_le 1099511627776 (show absI b≠0 by omega)
  have h3:0≤absI a:=by rcases absI_cases a with h | h <;> omega
  have h4:0≤absI a * absI b:=Int.mul_nonneg h3 (by omega)
  have h5:a * b=absI a * absI b∨a * b=-(absI a * absI b):=by
   rcases absI_cases a with ⟨e1,_⟩ | ⟨e1,_⟩ <;> rcases absI_cases b with ⟨e2,_⟩ | ⟨e2,_⟩
   ·exact .inl (by rw [e1,e2])
   ·exact .inr (by rw [e1,e2,Int.mul_neg,Int.neg_neg])
   ·exact .inr (by rw [e1,e2,Int.neg_mul,Int.neg_neg])
   ·exact .inl (by rw [e1,e2,Int.neg_mul_neg])
  rcases h5 with h5 | h5 <;> omega
def cxH:Ctx:=⟨tys0,[(139,([],c139))]⟩
theorem cxH_good:GoodCtx Tryz.prog cxH:=cx_cons good139 cx0_good
def c145:Ctr:=fnC [dI,dI] rII (fun y=>(-1099511627776≤y.1∧y.1≤1099511627776)∧(-1099511627776≤y.2.1∧y.2.1≤1099511627776)) (fun y=>((timesF y.1 y.2.1).1,(timesF y.1 y.2.1).2,()))
theorem good145:GoodC Tryz.prog 145 c145:=by
 refine goodF cxH_good 3 _ _ _ _ ⟨_,Tryz.func145,rfl,rfl⟩ fun (⟨a,b,_⟩ : Int × Int × Unit) hn=>?_
 have hn1:-1099511627776≤a∧a≤1099511627776:=hn.1
 have hn2:-1099511627776≤b∧b≤1099511627776:=hn.2
 clear hn
 refine (aI (by first | kernel_rfl | rfl) (aI (fun h0=>?_) (aI (fun h1=>?_) (aI (fun h2=>?_) (aI (fun h3=>(fin_of rfl ?_)) (fun h3=>(aI ?_ (fin_of rfl ?_))))))))
 ·exact ⟨by show _≤a;omega,by show a≤_;omega⟩
 ·exact ⟨by show _≤b;omega,by show b≤_;omega⟩
 ·have hb:b≠0:=by have h:=h2;simp at h;exact h
  have hB:0 < absI b:=by rcases absI_cases b with h | h <;> omega
  refine ⟨by show absI b≠0;omega, ?_⟩
  show inK .i64 ((1099511627776:Int).tdiv (absI b))
  rw [Int.tdiv_eq_ediv_of_nonneg (by decide)]
  have k1:=Int.ediv_nonneg (a:=1099511627776) (b:=absI b) (by decide) (by omega)
  have k2:=Int.ediv_le_self (a:=1099511627776) (absI b) (by decide)
  simp only [inK]
  omega
 ·show ((timesF a b).1,(timesF a b).2,())=_
  unfold timesF
  rw [if_pos h3]
 ·have h:=times_range (a:=a) (b:=b) h3
  show -9223372036854775808≤a * b∧a * b≤9223372036854775807
  omega
 ·show ((timesF a b).1,(timesF a b).2,())=_
  have h1:¬ (bif !decide (b=0) then decide ((1099511627776:Int).tdiv (absI b) < absI a) else false)=true:=by rw [show (bif !decide (b=0) then decide ((1099511627776:Int).tdiv (absI b) < absI a) else false)=false from h3];simp
  unfold timesF
  rw [if_neg h1]
end Go.Proofs.YticmijfmgmkkcaaGreat
namespace Go.Proofs.YticmijfmgmkkcaaGreat
open Go.Sx
def badIn (lo hi:Int) (l:List Bd) (i:Nat):Bool :=
 bif bif bif bif !nameB (l.getD (i:Int).toNat (dflt tBd)).1 then true else (bif decide (0 < (i:Int)) then !ltS (l.getD ((i:Int) - 1).toNat (dflt tBd)).1 (l.getD (i:Int).toNat (dflt tBd)).1 else false) then true
  else (bif !decide ((l.getD (i:Int).toNat (dflt tBd)).2.1=1) then !decide ((l.getD (i:Int).toNat (dflt tBd)).2.1=2) else false) then true
  else decide ((l.getD (i:Int).toNat (dflt tBd)).2.2 < lo) then true else decide (hi < (l.getD (i:Int).toNat (dflt tBd)).2.2)
def badBd (l:List Bd) (i:Nat):Bool:=bif decide ((l.getD (i:Int).toNat (dflt tBd)).2.1=2) then badIn 0 1 l i else badIn (-1099511627776) 1099511627776 l i
theorem range_hit {n i:Nat} {p:Nat→Bool} (h:i < n) (hp:p i=true):(List.range n).any p=true:=List.any_eq_true.2 ⟨i,List.mem_range.2 h,hp⟩
theorem range_next {i:Nat} {p:Nat→Bool} (h:(List.range i).any p=false) (hp:p i=false):(List.range (i+1)).any p=false:=by
 rw [List.range_succ,List.any_append,h];simp [hp]
def boundB (l:List Bd):Bool:=bif (List.range l.length).any (badBd l) then false else decide ((l.length:Int)≤64)
def cxJ:Ctx:=⟨tys0,[(131,([],c131))]⟩
theorem cxJ_good:GoodCtx Tryz.prog cxJ:=cx_cons good131 cx0_good
def c116:Ctr:=fnC [dBds] rB (fun _=>True) (fun y=>(boundB y.1,()))
theorem good116:GoodC Tryz.prog 116 c116:=by
 refine goodF cxJ_good 3 _ _ _ _ ⟨_,Tryz.func116,rfl,rfl⟩ fun (⟨xs,_⟩ : List Bd × Unit) _=>?_
 refine (aI (by first | kernel_rfl | rfl) (fun h0=>?_))
 refine ex4 _ (fun i:Nat=>⟨[.sl tBd xs,.any,.any,.any,.any,.any,.any,.sl tBd xs,.int .i64 (↑xs.length:Int),.int .i64 (i:Int)]++nA 52,[],0⟩) (fun i=>i≤xs.length∧(List.range i).any (badBd xs)=false) (fun i=>xs.length - i) (aI (Exists.intro (0) (Exists.intro ([]) (aI ?_ (aI (by rfl) (aI (by rfl) (aI True.intro (by rfl))))))) ?_)
 ·simp
 rintro i ⟨hi,ht⟩
 refine (aI (fun k0=>(aI (by intros;(try subst_vars);(try simp only [nB] at *);(try simp only [inK,big,lim,nL] at *);omega) (aI (fun k1=>(aI (by first | kernel_rfl | rfl) (aI True.intro (aI (fun k2=>(by intros;(try subst_vars);(try simp only [nB] at *);(try simp only [inK,big,lim,nL] at *);omega)) (aI (fun k3=>(by intros;(try subst_vars);(try simp only [nB] at *);(try simp only [inK,big,lim,nL] at *);omega)) (aI (fun k4=>(fin_of rfl ?_)) (fun k4=>(aI (by intros;(try subst_vars);(try simp only [nB] at *);(try simp only [inK,big,lim,nL] at *);omega) ?_)))))))) (fun k1=>(aI (by first | kernel_rfl | rfl) (aI True.intro (aI (fun k5=>(by intros;(try subst_vars);(try simp only [nB] at *);(try simp only [inK,big,lim,nL] at *);omega)) (aI (fun k6=>(by intros;(try subst_vars);(try simp only [nB] at *);(try simp only [inK,big,lim,nL] at *);omega)) (aI (fun k7=>(fin_of rfl ?_)) (fun k7=>(aI (by intros;(try subst_vars);(try simp only [nB] at *);(try simp only [inK,big,lim,nL] at *);omega) ?_))))))))))) (fun k0=>(fun k8=>(fin_of rfl ?_))))
 ·have hi':i < xs.length:=by simpa using k0
  have e1:badBd xs i=badIn 0 1 xs i:=by unfold badBd;rw [show decide ((xs.getD (i:Int).toNat (dflt tBd)).2.1=2)=true from k1];rfl
  have hk:badBd xs i=true:=e1.trans k4
  show (boundB xs,())=(false,())
  unfold boundB
  rw [range_hit hi' hk];rfl
 ·have hi':i < xs.length:=by simpa using k0
  have e1:badBd xs i=badIn 0 1 xs i:=by unfold badBd;rw [show decide ((xs.getD (i:Int).toNat (dflt tBd)).2.1=2)=true from k1];rfl
  have hk:badBd xs i=false:=e1.trans k4
  refine Exists.intro (i+1) (Exists.intro ([]) (aI ?_ (aI ?_ (aI (by rfl) (aI (by rfl) (aI True.intro (by rfl)))))))
  ·exact ⟨hi',range_next ht hk⟩
  ·show xs.length - (i+1) < xs.length - i
   omega
 ·have hi':i < xs.length:=by simpa using k0
  have e1:badBd xs i=badIn (-1099511627776) 1099511627776 xs i:=by unfold badBd;rw [show decide ((xs.getD (i:Int).toNat (dflt tBd)).2.1=2)=false from k1];rfl
  have hk:badBd xs i=true:=e1.trans k7
  show (boundB xs,())=(false,())
  unfold boundB
  rw [range_hit hi' hk];rfl
 ·have hi':i < xs.length:=by simpa using k0
  have e1:badBd xs i=badIn (-1099511627776) 1099511627776 xs i:=by unfold badBd;rw [show decide ((xs.getD (i:Int).toNat (dflt tBd)).2.1=2)=false from k1];rfl
  have hk:badBd xs i=false:=e1.trans k7
  refine Exists.intro (i+1) (Exists.intro ([]) (aI ?_ (aI ?_ (aI (by rfl) (aI (by rfl) (aI True.intro (by rfl)))))))
  ·exact ⟨hi',range_next ht hk⟩
  ·show xs.length - (i+1) < xs.length - i
   omega
 ·have hi':¬ i < xs.length:=by simpa using k0
  have e1:i=xs.length:=by omega
  subst e1
  show (boundB xs,())=_
  unfold boundB
  rw [ht];rfl
end Go.Proofs.YticmijfmgmkkcaaGreat
