/- Pipelines. -/
import Derived.Test.YtckpldpombdkgaaGreatCB6
import Derived.Test.YtckpldpombdkgaaGreatRows
import Derived.KernelRfl
import Derived.Tactics
import Derived.Tactics2
import Derived.StillTactics
import Derived.Laws.Runes
import Derived.Laws.Rows
import Derived.Laws.Strings
import Derived.Laws.Strings2
import Derived.Laws.Strings3
import Derived.Laws.RangeString
import Derived.Laws.RangeAny
import Derived.Laws.Entries
import Derived.Laws.Small
import Derived.Laws.World
import Derived.Laws.Slices
import Derived.Scope
import Derived.FnLit
import Derived.LoopTactic
set_option linter.unusedSimpArgs false
set_option linter.unusedVariables false
set_option maxRecDepth 100000
namespace Go.Proofs.YtckpldpombdkgaaGreat
open Go.Sx
theorem nF {p:Prop} {x:Bool} (h:false=x) (w:x=true):p:=False.elim (Bool.false_ne_true (h.trans w))
def nA (n:Nat):List AV:=List.replicate n .any
theorem aI {a b:Prop} (h:a) (h2:b):a∧b:=⟨h,h2⟩
theorem nB:(∀ c f:Bool,(bif c then true else f)=(c || f))∧(∀ c t:Bool,(bif c then t else false)=(c && t))∧(∀ a b:Bool,((a || b)=true)=(a=true∨b=true))∧(∀ a b:Bool,((a || b)=false)=(a=false∧b=false)) ∧
 (∀ a b:Bool,((a && b)=true)=(a=true∧b=true))∧(∀ b:Bool,((!b)=true)=(b=false))∧(∀ b:Bool,((!b)=false)=(b=true))∧(∀ (p:Prop) [Decidable p],(decide p=true)=p)∧(∀ (p:Prop) [Decidable p],(decide p=false)=¬p) ∧
 (∀ a b:Int,(¬ a < b)=(b≤a))∧(∀ a b:Int,(¬ a≤b)=(b < a)) :=
 ⟨by simp,by simp,by simp,by simp,by simp,by simp,by simp,fun _=>by simp,fun _=>by simp,fun _ _=>by simp,fun _ _=>by simp⟩
theorem nL {α:Type}:(∀ (a:α) (l:List α),(a :: l).length=l.length+1)∧([]:List α).length=0∧(∀ a b:List α,(a++b).length=a.length+b.length)∧(∀ (i:Nat) (l:List α),(l.drop i).length=l.length - i) ∧
 (∀ (i:Nat) (l:List α),(l.take i).length=min i l.length)∧(∀ (n:Nat) (a:α),(List.replicate n a).length=n) :=
 ⟨fun _ _=>List.length_cons,List.length_nil,fun _ _=>List.length_append,fun _ _=>List.length_drop,fun _ _=>List.length_take,fun _ _=>List.length_replicate⟩
theorem aA {a b:Prop} (h:b) (g:a:=by rfl):a∧b:=⟨g,h⟩
theorem aB {a c b:Prop} (h:b) (g:a:=by rfl) (i:c:=by rfl):a∧c∧b:=⟨g,i,h⟩
theorem aC {a c d e b:Prop} (h:b) (g:a:=by rfl) (i:c:=by rfl) (j:d:=by rfl) (k:e:=by rfl):a∧c∧d∧e∧b:=⟨g,i,j,k,h⟩
theorem aD {a c d e a' c' d' e' b:Prop} (h:b) (g:a:=by rfl) (i:c:=by rfl) (j:d:=by rfl) (k:e:=by rfl) (g':a':=by rfl) (i':c':=by rfl) (j':d':=by rfl) (k':e':=by rfl):a∧c∧d∧e∧a'∧c'∧d'∧e'∧b:=⟨g,i,j,k,g',i',j',k',h⟩
theorem aK {a b:Prop} (h:b) (g:a:=by kernel_rfl):a∧b:=⟨g,h⟩
theorem aF {a b:Prop} (h:b) (g:a:=by first | kernel_rfl | rfl):a∧b:=⟨g,h⟩
theorem aE {a b:Prop} (h:b) (g:a:=by decide):a∧b:=⟨g,h⟩
theorem aO {a b:Prop} (h:b) (g:a:=by intros;(try subst_vars);(try simp only [nB] at *);(try simp only [inK,big,lim,nL] at *);omega):a∧b:=⟨g,h⟩
theorem nG {p:Prop} {x:Bool} (w:x=true) (h:false=x:=by kernel_rfl):p:=False.elim (Bool.false_ne_true (h.trans w))
theorem eI {α:Sort _} {p:α→Prop} (a:α) (h:p a):Exists p:=⟨a,h⟩
theorem tT:True:=True.intro
@[reducible] def tI:Ty:=.int .i64
@[reducible] def tIs:Ty:=.sl (.int .i64)
@[reducible] def Xh:Ty:=.sl (.sl (.int .i64))
@[reducible] def tSs:Ty:=.sl .str
@[reducible] def tBd:Ty:=.pair .str (.pair tI tI)
@[reducible] def tSt:Ty:=.pair tI (.pair tI (.pair .expr tIs))
@[reducible] def dI:AK:=.dat false tI
@[reducible] def dS:AK:=.dat false .str
@[reducible] def dIs:AK:=.dat false tIs
@[reducible] def Za:AK:=.dat false Xh
@[reducible] def dSs:AK:=.dat false tSs
@[reducible] def dX:AK:=.dat true .expr
@[reducible] def Vc:AK:=.dat false (.sl tBd)
@[reducible] def dSt:AK:=.dat true tSt
@[reducible] def rB:List (Bool × Ty):=[(false,.bool)]
@[reducible] def rI:List (Bool × Ty):=[(false,tI)]
@[reducible] def rII:List (Bool × Ty):=[(false,tI),(false,tI)]
@[reducible] def Bd:Type:=ByteArray × Int × Int
@[reducible] def StT:Type:=Int × Int × ExprT × List Int
def C5:List (TypeId × Ty):=[(3,tI),(4,.bool),(9,.str),(51,.expr),(31,tIs),(216,tBd)]
def cx0:Ctx:=⟨C5,[]⟩
theorem Ag:Ah Tryz.prog cx0:=fun _ _ _ h=>by simp [cx0,Gp] at h
theorem Ae {P:Program} {ty:List (TypeId × Ty)} {g:FuncId} {C:Ctr} {tab:List (FuncId × (List Sh × Ctr))} (hg:GoodC P g C) (h:Ah P ⟨ty,tab⟩):Ah P ⟨ty,(g,([],C)) :: tab⟩:=by
 intro g' s C' h'
 simp only [Gp] at h'
 split at h'
 ·rename_i he
  have:=Nat.eq_of_beq_eq_true he
  subst this
  cases h'
  exact hg
 ·exact h g' s C' h'
theorem C7 {P:Program} {ty ty':List (TypeId × Ty)} {tab:List (FuncId × (List Sh × Ctr))} (h:Ah P ⟨ty,tab⟩):Ah P ⟨ty',tab⟩:=fun g s C h'=>h g s C h'
theorem ex4 {β:(ι:Type)→(ι→St)→(ι→Prop)→(ι→Nat)→Prop} (ι:Type) (S:ι→St) (I:ι→Prop) (μ:ι→Nat) (h:β ι S I μ):∃ ι S I μ,β ι S I μ:=⟨ι,S,I,μ,h⟩
def orC (C D:Ctr):Ctr:=fun args=>match C args with
 | some r=>some r
 | none=>D args
theorem Qk {P:Program} {g:FuncId} {C D:Ctr} (h:GoodC P g C) (h':GoodC P g D):GoodC P g (orC C D):=by
 refine ⟨h.fn,fun args r hr=>?_,fun args r gen hr=>?_⟩
 ·unfold orC at hr
  split at hr
  ·rename_i x hx;cases hr;exact h.gen args _ hx
  ·exact h'.gen args _ hr
 ·unfold orC at hr
  split at hr
  ·rename_i x hx;cases hr;exact h.calls args _ _ hx
  ·exact h'.calls args _ _ hr
theorem Nl {P:Program} {g:FuncId} {a:List AK} {r:List (Bool × Ty)} {need:AK.dens a→Prop} {f:AK.dens a→G7 r} (μ:AK.dens a→Nat)
 (h:∀ N,GoodC P g (fnC a r (fun y=>need y∧μ y < N) f)):GoodC P g (fnC a r need f):=by
 refine ⟨(h 0).fn,fun args cg hC k hk=>?_,fun args cr gen hC hn=>?_⟩
 ·unfold fnC at hC
  split at hC
  ·rename_i y hy
   cases hC
   simp only at hk
   split at hk
   ·exact hk _ rfl
   ·exact hk
  ·cases hC
 ·unfold fnC at hC
  split at hC
  ·rename_i y hy
   cases hC
   have hn':need y:=hn
   exact (h (μ y+1)).calls args ⟨some (need y∧μ y < μ y+1),none,[],Eu r (f y)⟩ _ (by unfold fnC;rw [hy]) ⟨hn',Nat.lt_succ_self _⟩
  ·cases hC
theorem Kv {α:Type} {p:α→Bool} {xs:List α} {i:Nat} {d:α} (h1:i < xs.length) (h:(xs.take i).any p=false) (hd:p (xs.getD i d)=false):(xs.take (i+1)).any p=false:=by
 rw [List.take_succ_eq_append_getElem h1]
 simp only [List.any_append,List.any_cons,List.any_nil,Bool.or_false,List.getD_eq_getElem?_getD,List.getElem?_eq_getElem h1,Option.getD_some] at hd ⊢
 rw [h,hd];rfl
theorem Nm {α:Type} {xs:List α} {i:Nat} {d:α} {p:α→Bool} (h1:i < xs.length) (h:p (xs.getD i d)=true):xs.any p=true:=by
 simp only [List.getD_eq_getElem?_getD,List.getElem?_eq_getElem h1,Option.getD_some] at h
 exact List.any_eq_true.2 ⟨_,List.getElem_mem h1,h⟩
theorem G9 {α:Type} {xs:List α} {i:Nat} {p:α→Bool} (h1:¬ i < xs.length) (h:(xs.take i).any p=false):xs.any p=false:=by
 rw [List.take_of_length_le (by omega)] at h;exact h
theorem Il {α:Type} {xs ys:List α} {i:Nat} {d:α} (h1:i < xs.length) (h2:i < ys.length) (h:xs.take i=ys.take i) (hd:xs.getD i d=ys.getD i d):xs.take (i+1)=ys.take (i+1):=by
 rw [List.take_succ_eq_append_getElem h1,List.take_succ_eq_append_getElem h2,h]
 simp [List.getD_eq_getElem?_getD,List.getElem?_eq_getElem h1,List.getElem?_eq_getElem h2] at hd
 rw [hd]
mutual
def F2:ExprT→Bool
 | .mk _ _ nm _ args=>decide (40 < nm.size) || Ql args
def Ql:List ExprT→Bool
 | []=>false
 | e :: l=>F2 e || Ql l
end
theorem Ps:∀ l:List ExprT,Ql l=l.any F2
 | []=>rfl
 | e :: l=>by simp only [Ql,List.any_cons];rw [Ps l]
mutual
def Fe:ExprT→Int→Int
 | .mk _ _ _ _ args,n=>F3 args (n+1)
def F3:List ExprT→Int→Int
 | [],n=>n
 | e :: l,n=>if 100 < n then n else F3 l (Fe e n)
end
theorem eta (e:ExprT):ExprT.mk e.kind e.op e.name e.value e.args=e:=by cases e;rfl
noncomputable def exW (e:ExprT):Nat:=SizeOf.sizeOf e
theorem Jw {e:ExprT} {i:Nat} {d:ExprT} (h:i < e.args.length):exW (e.args.getD i d) < exW e:=by
 obtain ⟨k,o,nm,v,args⟩:=e
 have hm:args.getD i d∈args:=by
  have h':i < args.length:=h
  simp [List.getD,h']
 have hl:=List.sizeOf_lt_of_mem hm
 show SizeOf.sizeOf (args.getD i d) < SizeOf.sizeOf (ExprT.mk k o nm v args)
 generalize args.getD i d=x at hl ⊢
 simp
 omega
theorem Ov (e:ExprT):F2 e=(decide (40 < e.name.size) || e.args.any F2):=by
 obtain ⟨k,o,nm,v,args⟩:=e
 simp only [F2,Ps]
theorem Tr (e:ExprT) (n:Int):Fe e n=F3 e.args (n+1):=by
 obtain ⟨k,o,nm,v,args⟩:=e
 rfl
mutual
theorem Nn:∀ (e:ExprT) (n:Int),0≤n→n≤100→n < Fe e n∧Fe e n≤101
 | .mk _ _ _ _ args,n,h0,h1=>by
  simp only [Fe]
  have:=Me args (n+1) (by omega) (by omega)
  omega
theorem Me:∀ (l:List ExprT) (n:Int),0≤n→n≤101→n≤F3 l n∧F3 l n≤101
 | [],n,h0,h1=>⟨Int.le_refl _,h1⟩
 | e :: l,n,h0,h1=>by
  simp only [F3]
  split
  ·exact ⟨Int.le_refl _,h1⟩
  ·have h2:=Nn e n h0 (by omega)
   have h3:=Me l (Fe e n) (by omega) h2.2
   omega
end
theorem No {args:List ExprT} {i:Nat} {n:Int} {d:ExprT} (h:i < args.length):F3 (args.drop i) n=if 100 < n then n else F3 (args.drop (i+1)) (Fe (args.getD i d) n):=by
 rw [List.drop_eq_getElem_cons h]
 simp [F3,List.getD,h]
def c88 (N:Nat):Ctr:=fnC [dX] rB (fun y=>True∧exW y.1 < N) (fun y=>(F2 y.1,()))
def cxL (N:Nat):Ctx:=⟨C5,[(160,([],c88 N))]⟩
theorem Aa2:∀ N,GoodC Tryz.prog 160 (c88 N)
 | 0=>by
  refine Ap Ag 3 _ _ _ _ ⟨_,Tryz.func160,rfl,rfl⟩ fun y hn=>?_
  exact absurd hn.2 (Nat.not_lt_zero _)
 | N+1=>by
  refine Ap (cx:=cxL N) (Ae (Aa2 N) Ag) 3 _ _ _ _ ⟨_,Tryz.func160,rfl,rfl⟩ fun (⟨e,_⟩ : ExprT × Unit) hn=>?_
  have hN:exW e < N+1:=hn.2
  clear hn
  refine (aF (aI (fun h0=>(Aa rfl ?_)) (fun h0=>?_)))
  ·have h0':decide (40 < (e.name.size:Int))=true:=h0
   have:40 < e.name.size:=by have:=of_decide_eq_true h0';omega
   show (F2 e,())=(true,())
   rw [Ov,decide_eq_true this];rfl
  refine ex4 _ (fun i:Nat=>⟨[.any,.ptr 0 0,.any,.int .i64 (i:Int)]++nA 17,[.cells   [.int .i64 e.kind,.int .i64 e.op,.str e.name,.int .i64 e.value,.sl .expr e.args]],1⟩) (fun i=>i≤e.args.length∧(e.args.take i).any F2=false) (fun i=>e.args.length - i) (aI (eI (0) (eI ([some 0]) (aI ?_ (aB (aI (aI (aA (by rfl)) tT) (by rfl)))))) ?_)
  ·simp
  rintro i ⟨hi,ht⟩
  refine (fun k0=>(aI (fun k1=>(aO (aI ?_ (aI (fun k2=>(Aa rfl ?_)) (fun k2=>(aO ?_)))))) (fun k1=>(Aa rfl ?_))))
  ·refine ⟨trivial, ?_⟩
   have hi':i < e.args.length:=by simpa using k1
   show exW (ExprT.mk _ _ _ _ _) < N
   rw [eta]
   exact Nat.lt_of_lt_of_le (Jw hi') (by omega)
  ·have hi':i < e.args.length:=by simpa using k1
   have hk:F2 (e.args.getD i (Ab .expr))=true:=by have h:=k2;simp only [eta] at h;exact h
   show (F2 e,())=(true,())
   rw [Ov,Nm hi' hk,Bool.or_true]
  ·have hi':i < e.args.length:=by simpa using k1
   have hk:F2 (e.args.getD i (Ab .expr))=false:=by have h:=k2;simp only [eta] at h;exact h
   refine eI (i+1) (eI ([some 0]) (aI ?_ (aI ?_ (aB (aI (aI (aA (by rfl)) tT) (by rfl))))))
   ·exact ⟨hi',Kv hi' ht hk⟩
   ·show e.args.length - (i+1) < e.args.length - i
    omega
  ·have h0':decide (40 < (e.name.size:Int))=false:=h0
   have:¬ 40 < e.name.size:=by have:=of_decide_eq_false h0';omega
   have e1:=G9 (by simpa using k1) ht
   show (F2 e,())=(false,())
   rw [Ov,decide_eq_false this,e1];rfl
def c88A:Ctr:=fnC [dX] rB (fun _=>True) (fun y=>(F2 y.1,()))
theorem Afk:GoodC Tryz.prog 160 c88A:=Nl (fun y=>exW y.1) Aa2
def Ang (N:Nat):Ctr:=fnC [dX,dI] rI (fun y=>(0≤y.2.1∧y.2.1≤100)∧exW y.1 < N) (fun y=>(Fe y.1 y.2.1,()))
def cxZ (N:Nat):Ctx:=⟨C5,[(196,([],Ang N))]⟩
theorem Xi:∀ N,GoodC Tryz.prog 196 (Ang N)
 | 0=>by
  refine Ap Ag 3 _ _ _ _ ⟨_,Tryz.func196,rfl,rfl⟩ fun y hn=>?_
  exact absurd hn.2 (Nat.not_lt_zero _)
 | N+1=>by
  refine Ap (cx:=cxZ N) (Ae (Xi N) Ag) 3 _ _ _ _ ⟨_,Tryz.func196,rfl,rfl⟩ fun (⟨e,n,_⟩ : ExprT × Int × Unit) hn=>?_
  have hN:exW e < N+1:=hn.2
  have hn0:0≤n:=hn.1.1
  have hn1:n≤100:=hn.1.2
  clear hn
  refine (aF (aO ?_))
  refine ex4 _ (fun p:Nat × Int=>⟨[.any,.int .i64 p.2,.ptr 0 0,.any,.any,.int .i64 (p.1:Int)]++nA 20,[.cells   [.int .i64 e.kind,.int .i64 e.op,.str e.name,.int .i64 e.value,.sl .expr e.args]],1⟩) (fun p=>p.1≤e.args.length∧0≤p.2∧p.2≤101∧F3 e.args (n+1)=F3 (e.args.drop p.1) p.2) (fun p=>e.args.length - p.1) (aI (eI ((0,n+1)) (eI ([some 0]) (aI ?_ (aB (aI (aI (aA (by rfl)) tT) (by rfl)))))) ?_)
  ·simp;omega
  rintro ⟨i,m⟩ ⟨hi,hm0,hm1,ht⟩
  replace hm0:0≤m:=hm0
  replace hm1:m≤101:=hm1
  refine (fun k0=>(aI (fun k1=>(aI (fun k2=>(Aa rfl ?_)) (fun k2=>(aO (aI ?_ (aO ?_)))))) (fun k1=>(Aa rfl ?_))))
  ·have hi':i < e.args.length:=by simpa using k1
   have hk:100 < m:=by simpa using k2
   show (Fe e n,())=(m,())
   rw [Tr,ht,No (d:=Ab .expr) hi',if_pos hk]
  ·have hi':i < e.args.length:=by simpa using k1
   have hk:¬ 100 < m:=by simpa using k2
   refine ⟨⟨hm0,Int.not_lt.1 hk⟩, ?_⟩
   show exW (ExprT.mk _ _ _ _ _) < N
   rw [eta]
   exact Nat.lt_of_lt_of_le (Jw hi') (by omega)
  ·have hi':i < e.args.length:=by simpa using k1
   have hk:¬ 100 < m:=by simpa using k2
   refine eI ((i+1,Fe (ExprT.mk (e.args.getD i (Ab .expr)).kind (e.args.getD i (Ab .expr)).op (e.args.getD i (Ab .expr)).name (e.args.getD i (Ab .expr)).value (e.args.getD i (Ab .expr)).args) m)) (eI ([some 0]) (aI ?_ (aI ?_ (aB (aI (aI (aA (by rfl)) tT) (by rfl))))))
   ·rw [eta]
    obtain ⟨hr1,hr2⟩:=Nn (e.args.getD i (Ab .expr)) m hm0 (by omega)
    refine ⟨hi',Int.le_of_lt (Int.lt_of_le_of_lt hm0 hr1),hr2, ?_⟩
    rw [ht,No (d:=Ab .expr) hi',if_neg hk]
   ·show e.args.length - (i+1) < e.args.length - i
    omega
  ·have hi':¬ i < e.args.length:=by simpa using k1
   show (Fe e n,())=(m,())
   rw [Tr,ht,List.drop_of_length_le (by omega)];rfl
def c123A:Ctr:=fnC [dX,dI] rI (fun y=>0≤y.2.1∧y.2.1≤100) (fun y=>(Fe y.1 y.2.1,()))
theorem Aiv:GoodC Tryz.prog 196 c123A:=Nl (fun y=>exW y.1) Xi
def Id (e:ExprT):Int:=if 100 < Fe e 0 then 101 else Fe e 0
def cxB:Ctx:=⟨C5,[(160,([],c88A)),(196,([],c123A))]⟩
theorem Afl:Ah Tryz.prog cxB:=Ae Afk (Ae Aiv Ag)
def c87:Ctr:=fnC [dX] rI (fun _=>True) (fun y=>(Id y.1,()))
theorem Alk:GoodC Tryz.prog 159 c87:=by
 refine Ap Afl 3 _ _ _ _ ⟨_,Tryz.func159,rfl,rfl⟩ fun (⟨e,_⟩ : ExprT × Unit) _=>?_
 refine (aF (aI ?_ (aI (fun h0=>(Aa rfl ?_)) (fun h0=>(Aa rfl ?_)))))
 ·exact ⟨Int.le_refl (0:Int),(by decide:(0:Int)≤100)⟩
 ·have h:=h0
  simp only [eta] at h
  show (Id e,())=(101,())
  rw [Id,if_pos (of_decide_eq_true h)]
 ·have h:=h0
  simp only [eta] at h ⊢
  show (Id e,())=(Fe e 0,())
  rw [Id,if_neg (of_decide_eq_false h)]
def Aa3 (e:ExprT):Bool:=bif bif decide (40 < Id e) then decide (Id e≤100) else false then true else (bif decide (Id e≤40) then F2 e else false)
def cxB1:Ctx:=⟨C5,[(159,([],c87)),(160,([],c88A))]⟩
theorem Acq:Ah Tryz.prog cxB1:=Ae Alk (Ae Afk Ag)
def c63:Ctr:=fnC [dX] rB (fun _=>True) (fun y=>(Aa3 y.1,()))
theorem All:GoodC Tryz.prog 105 c63:=by
 refine Ap Acq 3 _ _ _ _ ⟨_,Tryz.func105,rfl,rfl⟩ fun (⟨e,_⟩ : ExprT × Unit) _=>?_
 refine (aF (aI tT (aI (fun h0=>tT) (Aa rfl (by (simp only [eta];rfl))))))
def Aa4 (t:StT):Bool:=bif bif Aa3 t.2.2.1 then true else (bif decide (40 < (t.2.2.2.length:Int)) then decide ((t.2.2.2.length:Int)≤200) else false) then true else decide (210 < (t.2.2.2.length:Int))
def cxB2:Ctx:=⟨C5,[(105,([],c63))]⟩
theorem Acr:Ah Tryz.prog cxB2:=Ae All Ag
def c29:Ctr:=fnC [dSt] rB (fun _=>True) (fun y=>(Aa4 y.1,()))
theorem Alm:GoodC Tryz.prog 63 c29:=by
 refine Ap Acr 3 _ _ _ _ ⟨_,Tryz.func63,rfl,rfl⟩ fun (⟨⟨k,z,e,l⟩,_⟩ : StT × Unit) _=>?_
 refine (aF (aI tT (fun h0=>(fun h1=>(fun h2=>(Aa rfl (by (simp only [eta];rfl))))))))
def Ak {α:Type} (p:α→Bool):List α→Int→Int
 | [],_=>-1
 | x :: l,i=>if p x then i else Ak p l (i+1)
theorem Au {α:Type} (p:α→Bool) (d:α) (xs:List α) (i:Nat) (h:i < xs.length):Ak p (xs.drop i) i=if p (xs.getD i d) then (i:Int) else Ak p (xs.drop (i+1)) ((i+1:Nat):Int):=by
 rw [List.drop_eq_getElem_cons h]
 simp [Ak,List.getElem?_eq_getElem h]
theorem Dn {α:Type} (p:α→Bool):∀ (xs:List α) (i:Int),0≤i→(decide (0≤Ak p xs i))=xs.any p
 | [],i,h=>rfl
 | x :: l,i,h=>by
  unfold Ak
  cases hp:p x <;> simp [hp]
  ·exact Dn p l (i+1) (by omega)
  ·exact h
def Jx (x:Int):Bool:=bif decide (-1099511627776≤x) then decide (x≤1099511627776) else false
def Ai (x:Int):Bool:=!Jx x
def A2 (l:List Int):Bool:=decide (200 < (l.length:Int))
def c43:Ctr:=fnC [dI] rB (fun _=>True) (fun y=>(Jx y.1,()))
theorem Vd:GoodC Tryz.prog 129 c43:=by
 refine Ap Ag 3 _ _ _ _ ⟨_,Tryz.func129,rfl,rfl⟩ fun (⟨a,_⟩ : Int × Unit) _=>?_
 refine (aF (Aa rfl (by rfl)))
def cxC:Ctx:=⟨C5,[(129,([],c43))]⟩
theorem Ry:Ah Tryz.prog cxC:=Ae Vd Ag
def c42:Ctr:=fnC [dI] rB (fun _=>True) (fun y=>(Ai y.1,()))
theorem Aln:GoodC Tryz.prog 139 c42:=by
 refine Ap Ry 3 _ _ _ _ ⟨_,Tryz.func139,rfl,rfl⟩ fun (⟨a,_⟩ : Int × Unit) _=>?_
 refine (aF (aI tT (Aa rfl (by rfl))))
def c52:Ctr:=fnC [dI] rB (fun _=>True) (fun y=>(Ai y.1,()))
theorem Alo:GoodC Tryz.prog 128 c52:=by
 refine Ap Ry 3 _ _ _ _ ⟨_,Tryz.func128,rfl,rfl⟩ fun (⟨a,_⟩ : Int × Unit) _=>?_
 refine (aF (aI tT (Aa rfl (by rfl))))
def c90:Ctr:=fnC [dI] rB (fun _=>True) (fun y=>(Ai y.1,()))
theorem Alp:GoodC Tryz.prog 191 c90:=by
 refine Ap Ry 3 _ _ _ _ ⟨_,Tryz.func191,rfl,rfl⟩ fun (⟨a,_⟩ : Int × Unit) _=>?_
 refine (aF (aI tT (Aa rfl (by rfl))))
def c46:Ctr:=fnC [dIs] rB (fun _=>True) (fun y=>(A2 y.1,()))
theorem Alq:GoodC Tryz.prog 143 c46:=by
 refine Ap Ag 3 _ _ _ _ ⟨_,Tryz.func143,rfl,rfl⟩ fun (⟨a,_⟩ : List Int × Unit) _=>?_
 refine (aF (fun h0=>(Aa rfl (by rfl))))
def cxD:Ctx:=⟨C5,[(139,([],c42)),(128,([],c52)),(191,([],c90)),(143,([],c46))]⟩
theorem Np:Ah Tryz.prog cxD:=Ae Aln (Ae Alo (Ae Alp (Ae Alq Ag)))
def c73x42:Ctr:=fnC [dIs,.fn 139 [] []] rI (fun _=>True) (fun y=>(Ak Ai y.1 0,()))
theorem Acs:GoodC Tryz.prog 151 c73x42:=by
 refine Ap Np 3 _ _ _ _ ⟨_,Tryz.func151,rfl,rfl⟩ fun (⟨xs,_⟩ : List Int × _ × Unit) _=>?_
 refine (aF (fun h0=>?_))
 refine ex4 _ (fun i:Nat=>⟨[.sl (.int .i64) xs,.fn (Fn.func 139) [] [],.any,.any,.any,.any,.sl (.int .i64) xs,.int .i64 (↑xs.length:Int),.int .i64 (i:Int),.any,.any,.any,.any,.any,.any,.any,.any,.any,.any],[],0⟩) (fun i=>i≤xs.length∧Ak Ai xs 0=Ak Ai (xs.drop i) i) (fun i=>xs.length - i) (aI (eI (0) (eI ([]) (aI ?_ (aB (aI tT (by rfl)))))) ?_)
 ·exact ⟨Nat.zero_le _,rfl⟩
 rintro i ⟨hi,ht⟩
 refine (aI (fun k0=>(aO (aI tT (aI (fun k1=>(Aa rfl ?_)) (fun k1=>(aO ?_)))))) (fun k0=>(Aa rfl ?_)))
 ·have hi':i < xs.length:=by simpa using k0
  have hk:Ai (xs.getD i (Ab tI))=true:=k1
  rw [Au _ (Ab tI) _ _ hi',if_pos hk] at ht
  show (Ak Ai xs 0,())=(_,())
  rw [ht]
 ·have hi':i < xs.length:=by simpa using k0
  have hk:Ai (xs.getD i (Ab tI))=false:=k1
  rw [Au _ (Ab tI) _ _ hi',if_neg (by rw [hk];simp)] at ht
  refine eI (i+1) (eI ([]) (aI ?_ (aI ?_ (aB (aI tT (by rfl))))))
  ·exact ⟨hi',ht⟩
  ·show xs.length - (i+1) < xs.length - i
   omega
 ·have hi':¬ i < xs.length:=by simpa using k0
  rw [List.drop_of_length_le (by omega)] at ht
  show (Ak Ai xs 0,())=(_,())
  rw [ht];rfl
def c73x52:Ctr:=fnC [dIs,.fn 128 [] []] rI (fun _=>True) (fun y=>(Ak Ai y.1 0,()))
theorem Acu:GoodC Tryz.prog 151 c73x52:=by
 refine Ap Np 3 _ _ _ _ ⟨_,Tryz.func151,rfl,rfl⟩ fun (⟨xs,_⟩ : List Int × _ × Unit) _=>?_
 refine (aF (fun h0=>?_))
 refine ex4 _ (fun i:Nat=>⟨[.sl (.int .i64) xs,.fn (Fn.func 128) [] [],.any,.any,.any,.any,.sl (.int .i64) xs,.int .i64 (↑xs.length:Int),.int .i64 (i:Int),.any,.any,.any,.any,.any,.any,.any,.any,.any,.any],[],0⟩) (fun i=>i≤xs.length∧Ak Ai xs 0=Ak Ai (xs.drop i) i) (fun i=>xs.length - i) (aI (eI (0) (eI ([]) (aI ?_ (aB (aI tT (by rfl)))))) ?_)
 ·exact ⟨Nat.zero_le _,rfl⟩
 rintro i ⟨hi,ht⟩
 refine (aI (fun k0=>(aO (aI tT (aI (fun k1=>(Aa rfl ?_)) (fun k1=>(aO ?_)))))) (fun k0=>(Aa rfl ?_)))
 ·have hi':i < xs.length:=by simpa using k0
  have hk:Ai (xs.getD i (Ab tI))=true:=k1
  rw [Au _ (Ab tI) _ _ hi',if_pos hk] at ht
  show (Ak Ai xs 0,())=(_,())
  rw [ht]
 ·have hi':i < xs.length:=by simpa using k0
  have hk:Ai (xs.getD i (Ab tI))=false:=k1
  rw [Au _ (Ab tI) _ _ hi',if_neg (by rw [hk];simp)] at ht
  refine eI (i+1) (eI ([]) (aI ?_ (aI ?_ (aB (aI tT (by rfl))))))
  ·exact ⟨hi',ht⟩
  ·show xs.length - (i+1) < xs.length - i
   omega
 ·have hi':¬ i < xs.length:=by simpa using k0
  rw [List.drop_of_length_le (by omega)] at ht
  show (Ak Ai xs 0,())=(_,())
  rw [ht];rfl
def c73x90:Ctr:=fnC [dIs,.fn 191 [] []] rI (fun _=>True) (fun y=>(Ak Ai y.1 0,()))
theorem Acv:GoodC Tryz.prog 151 c73x90:=by
 refine Ap Np 3 _ _ _ _ ⟨_,Tryz.func151,rfl,rfl⟩ fun (⟨xs,_⟩ : List Int × _ × Unit) _=>?_
 refine (aF (fun h0=>?_))
 refine ex4 _ (fun i:Nat=>⟨[.sl (.int .i64) xs,.fn (Fn.func 191) [] [],.any,.any,.any,.any,.sl (.int .i64) xs,.int .i64 (↑xs.length:Int),.int .i64 (i:Int),.any,.any,.any,.any,.any,.any,.any,.any,.any,.any],[],0⟩) (fun i=>i≤xs.length∧Ak Ai xs 0=Ak Ai (xs.drop i) i) (fun i=>xs.length - i) (aI (eI (0) (eI ([]) (aI ?_ (aB (aI tT (by rfl)))))) ?_)
 ·exact ⟨Nat.zero_le _,rfl⟩
 rintro i ⟨hi,ht⟩
 refine (aI (fun k0=>(aO (aI tT (aI (fun k1=>(Aa rfl ?_)) (fun k1=>(aO ?_)))))) (fun k0=>(Aa rfl ?_)))
 ·have hi':i < xs.length:=by simpa using k0
  have hk:Ai (xs.getD i (Ab tI))=true:=k1
  rw [Au _ (Ab tI) _ _ hi',if_pos hk] at ht
  show (Ak Ai xs 0,())=(_,())
  rw [ht]
 ·have hi':i < xs.length:=by simpa using k0
  have hk:Ai (xs.getD i (Ab tI))=false:=k1
  rw [Au _ (Ab tI) _ _ hi',if_neg (by rw [hk];simp)] at ht
  refine eI (i+1) (eI ([]) (aI ?_ (aI ?_ (aB (aI tT (by rfl))))))
  ·exact ⟨hi',ht⟩
  ·show xs.length - (i+1) < xs.length - i
   omega
 ·have hi':¬ i < xs.length:=by simpa using k0
  rw [List.drop_of_length_le (by omega)] at ht
  show (Ak Ai xs 0,())=(_,())
  rw [ht];rfl
def c71x46:Ctr:=fnC [Za,.fn 143 [] []] rI (fun _=>True) (fun y=>(Ak A2 y.1 0,()))
theorem Acw:GoodC Tryz.prog 188 c71x46:=by
 refine Ap Np 3 _ _ _ _ ⟨_,Tryz.func188,rfl,rfl⟩ fun (⟨xs,_⟩ : List (List Int) × _ × Unit) _=>?_
 refine (aF (fun h0=>?_))
 refine ex4 _ (fun i:Nat=>⟨[.sl (.sl (.int .i64)) xs,.fn (Fn.func 143) [] [],.any,.any,.any,.any,.sl (.sl (.int .i64)) xs,.int .i64 (↑xs.length:Int),.int .i64 (i:Int),.any,.any,.any,.any,.any,.any,.any,.any,.any,.any],[],0⟩) (fun i=>i≤xs.length∧Ak A2 xs 0=Ak A2 (xs.drop i) i) (fun i=>xs.length - i) (aI (eI (0) (eI ([]) (aI ?_ (aB (aI tT (by rfl)))))) ?_)
 ·exact ⟨Nat.zero_le _,rfl⟩
 rintro i ⟨hi,ht⟩
 refine (aI (fun k0=>(aO (aI tT (aI (fun k1=>(Aa rfl ?_)) (fun k1=>(aO ?_)))))) (fun k0=>(Aa rfl ?_)))
 ·have hi':i < xs.length:=by simpa using k0
  have hk:A2 (xs.getD i (Ab tIs))=true:=k1
  rw [Au _ (Ab tIs) _ _ hi',if_pos hk] at ht
  show (Ak A2 xs 0,())=(_,())
  rw [ht]
 ·have hi':i < xs.length:=by simpa using k0
  have hk:A2 (xs.getD i (Ab tIs))=false:=k1
  rw [Au _ (Ab tIs) _ _ hi',if_neg (by rw [hk];simp)] at ht
  refine eI (i+1) (eI ([]) (aI ?_ (aI ?_ (aB (aI tT (by rfl))))))
  ·exact ⟨hi',ht⟩
  ·show xs.length - (i+1) < xs.length - i
   omega
 ·have hi':¬ i < xs.length:=by simpa using k0
  rw [List.drop_of_length_le (by omega)] at ht
  show (Ak A2 xs 0,())=(_,())
  rw [ht];rfl
def c73:Ctr:=orC c73x42 (orC c73x52 c73x90)
def c71:Ctr:=c71x46
def cxE:Ctx:=⟨C5,[(151,([],c73)),(188,([],c71))]⟩
theorem Nq:Ah Tryz.prog cxE:=Ae (Qk Acs (Qk Acu Acv)) (Ae Acw Ag)
def c41x42:Ctr:=fnC [dIs,.fn 139 [] []] rB (fun _=>True) (fun y=>(y.1.any Ai,()))
theorem Acx:GoodC Tryz.prog 98 c41x42:=by
 refine Ap Nq 3 _ _ _ _ ⟨_,Tryz.func98,rfl,rfl⟩ fun (⟨xs,_⟩ : List Int × _ × Unit) _=>?_
 refine (aF (aI tT (Aa rfl ?_)))
 show (xs.any Ai,())=_
 rw [← Dn Ai xs 0 (Int.le_refl _)]
def c41x52:Ctr:=fnC [dIs,.fn 128 [] []] rB (fun _=>True) (fun y=>(y.1.any Ai,()))
theorem Acy:GoodC Tryz.prog 98 c41x52:=by
 refine Ap Nq 3 _ _ _ _ ⟨_,Tryz.func98,rfl,rfl⟩ fun (⟨xs,_⟩ : List Int × _ × Unit) _=>?_
 refine (aF (aI tT (Aa rfl ?_)))
 show (xs.any Ai,())=_
 rw [← Dn Ai xs 0 (Int.le_refl _)]
def c41x90:Ctr:=fnC [dIs,.fn 191 [] []] rB (fun _=>True) (fun y=>(y.1.any Ai,()))
theorem Acz:GoodC Tryz.prog 98 c41x90:=by
 refine Ap Nq 3 _ _ _ _ ⟨_,Tryz.func98,rfl,rfl⟩ fun (⟨xs,_⟩ : List Int × _ × Unit) _=>?_
 refine (aF (aI tT (Aa rfl ?_)))
 show (xs.any Ai,())=_
 rw [← Dn Ai xs 0 (Int.le_refl _)]
def c37x46:Ctr:=fnC [Za,.fn 143 [] []] rB (fun _=>True) (fun y=>(y.1.any A2,()))
theorem Ac0:GoodC Tryz.prog 142 c37x46:=by
 refine Ap Nq 3 _ _ _ _ ⟨_,Tryz.func142,rfl,rfl⟩ fun (⟨xs,_⟩ : List (List Int) × _ × Unit) _=>?_
 refine (aF (aI tT (Aa rfl ?_)))
 show (xs.any A2,())=_
 rw [← Dn A2 xs 0 (Int.le_refl _)]
def c41:Ctr:=orC c41x42 (orC c41x52 c41x90)
def c37:Ctr:=c37x46
theorem Ve:GoodC Tryz.prog 98 c41:=Qk Acx (Qk Acy Acz)
theorem Alr:GoodC Tryz.prog 142 c37:=Ac0
open Go.RowKit
def Lr (c:Int) (pos:Nat):Bool :=
 bif !(bif decide (97≤c) then decide (c≤122) else false) then
  (bif decide ((pos:Int)=0) then true else (bif !decide (c=95) then (bif decide (c < 48) then true else decide (57 < c)) else false)) else false
def Gn (s:ByteArray):Nat→Nat→Bool
 | 0,_=>true
 | b+1,pos=>if pos < s.size then (if Lr (Utf8.decode s pos).1 pos then false else Gn s b (pos+(Utf8.decode s pos).2)) else true
def Nr (s:ByteArray):Bool:=bif Gn s s.size 0 then (bif decide (1≤(s.size:Int)) then decide ((s.size:Int)≤30) else false) else false
theorem Ac1 (s:ByteArray) (pos:Nat) (h:pos < s.size):1≤(Utf8.decode s pos).2:=by
 by_cases ha:(s[pos]'h).toNat < 128
 ·rw [decode_ascii s pos h ha]
  exact Nat.le_refl _
 ·exact (decode_high s pos h (by omega)).2
theorem Xj (s:ByteArray) (b pos:Nat) (h:¬ pos < s.size):Gn s b pos=true:=by
 cases b with
 | zero=>rfl
 | succ b=>simp [Gn,h]
set_option maxRecDepth 1000000 in
theorem Aiw (c:Int) (w:World):Calls Tryz.prog 281 #[.int .i32 c] w fun e w'=>e=.returned (.bool (bif decide (97≤c) then decide (c≤122) else false))∧w'=w:=by
 go_enter Tryz.func281,Tryz.ntmps281
 go_wp2
 all_goals
  go_ret
  refine ⟨?_,rfl⟩
  by_cases h1:97≤c <;> by_cases h2:c≤122 <;> simp [h1,h2] <;> omega
set_option maxRecDepth 1000000 in
set_option maxHeartbeats 1000000 in
theorem Aix (s:ByteArray) (w:World) :
 Calls Tryz.prog 249 #[.string s] w fun e w'=>e=.returned (.bool (Nr s))∧∃ pos,w'=w.iter s pos:=by
 go_enter Tryz.func249,Tryz.ntmps249
 go_wp2
 go_loopw [] (fun w'=>∃ (pos b:Nat),w'=w.iter s pos∧Gn s b pos=Gn s s.size 0∧s.size≤pos+b) (fun w'=>s.size - w'.iterPos w.heap.size)
 case atStart=>exact ⟨0,s.size,rfl,rfl,by omega⟩
 case round =>
  obtain ⟨pos,b,rfl,hc,hb⟩:=hrel
  by_cases hp:pos < s.size
  ·have hnx:∀ ty,(Instr.next (.pointer (some ⟨w.heap.size,0,none⟩)) true ty).run Tryz.prog (w.iter s pos)=_:=fun ty=>run_next_any w s pos ty hp
   generalize hwc:(Utf8.decode s pos).1=c at hnx
   generalize hww:(Utf8.decode s pos).2=wd at hnx
   have hwd:1≤wd:=by rw [← hww];exact Ac1 s pos hp
   cases b with
   | zero=>omega
   | succ b =>
   have hc':(if Lr c pos then false else Gn s b (pos+wd))=Gn s s.size 0:=by
    rw [← hc]
    simp only [Gn,if_pos hp,hwc,hww]
   have hB:Lr c pos=(!(decide (97≤(c:Int)) && decide ((c:Int)≤122)) && (decide (pos=0) || (!decide ((c:Int)=95) && (decide ((c:Int) < 48) || decide (57 < (c:Int)))))):=by
    unfold Lr
    simp [Bool.cond_eq_ite]
    grind
   go_wp2_with (go_at_call 281;refine (Aiw _ _).mono ?_;rintro e w' ⟨rfl,rfl⟩)
   all_goals first
    | (exfalso;simp_all;done)
    | (exfalso;simp_all;omega)
    | (have hbad:Lr c pos=false:=by
        rw [hB];simp_all
        try omega
       rw [hbad] at hc'
       refine ⟨⟨pos+wd,b,rfl,by simpa using hc',by omega⟩,by simp;omega⟩)
    | (have hbad:Lr c pos=true:=by
        rw [hB];simp_all
        try omega
       rw [hbad] at hc'
       go_ret
       have hf:Gn s s.size 0=false:=by simpa using hc'.symm
       refine ⟨?_,_,rfl⟩
       unfold Nr
       rw [hf]
       rfl)
  ·have hnx:∀ ty,(Instr.next (.pointer (some ⟨w.heap.size,0,none⟩)) true ty).run Tryz.prog (w.iter s pos)=_:=fun ty=>run_next_end w s pos ty hp
   rw [Xj s b pos hp] at hc
   replace hc:=hc.symm
   go_wp2
   all_goals
    go_ret
    refine ⟨?_,_,rfl⟩
    unfold Nr
    rw [hc]
    simp [Bool.cond_eq_ite]
    try grind
theorem Afm {P:Program} {g:FuncId} {f:ByteArray→Bool} (hfn:∃ fn,P.funcs[g]?=some fn∧fn.body.isSome=true∧(fn.name == "runtime.NumGoroutine")=false)
 (h:∀ s w,Calls P g #[.string s] w fun e w'=>e=.returned (.bool (f s))∧Below w.heap.size w w'):GoodC P g (fnC [dS] rB (fun _=>True) (fun y=>(f y.1,()))):=by
 refine ⟨hfn,fun args cg hC k hk=>?_,fun args cr gen hC hn w F0 vs hF hsz hrd=>?_⟩
 ·unfold fnC at hC
  split at hC
  ·cases hC;exact hk
  ·cases hC
 ·unfold fnC at hC
  split at hC
  ·rename_i y hy
   cases hC
   obtain ⟨e,hall⟩:=Gv (E:=Env.base w F0) [dS] args y hy
   have h1:=hall hrd
   obtain ⟨vs⟩:=vs
   have hl:vs.length=1:=by
    have:args.length=1:=by rw [← e];rfl
    simpa [this] using hsz
   match vs,hl with
   | [v],_ =>
   obtain ⟨s,u⟩:=y
   have hv:RdA (Env.base w F0) v (.str s):=h1 0 v _ rfl rfl [v] (fun i u hu=>by simpa using hu) e
   have hvs:v=.string s:=by cases hv;rfl
   subst hvs
   refine (h s w).mono ?_
   rintro e w' ⟨rfl,hb⟩
   exact ⟨trivial,_,fun _=>none,fun _ _=>none,rfl,hb,.bool _,fun j ob hj=>by simp at hj,fun j h hj=>by simp at hj,fun j j' h h' hj=>by simp at hj⟩
  ·cases hC
def c131:Ctr:=fnC [dS] rB (fun _=>True) (fun y=>(Nr y.1,()))
theorem Aa5:GoodC Tryz.prog 249 c131:=Afm ⟨_,Tryz.func249,rfl,rfl⟩ fun s w=>(Aix s w).mono fun e w' ⟨h1,pos,h2⟩=>⟨h1,by subst h2;exact (Below.refl _ _).alloc (Nat.le_refl _) _⟩
def Jb (s:ByteArray) (a b c:Int):List (Option PV):=[some (.str s),some (.int .i64 a),some (.int .i64 b),some (.int .i64 c),none]
def Rz:List (Int × List (Option PV)):=[(3,Jb ⟨#[43]⟩ 4 1 1),(4,Jb ⟨#[45]⟩ 4 1 1),(5,Jb ⟨#[42]⟩ 5 1 1),(6,Jb ⟨#[47]⟩ 5 1 1),(7,Jb ⟨#[37]⟩ 5 1 1),(8,Jb ⟨#[61,61]⟩ 3 0 2),(9,Jb ⟨#[33,61]⟩ 3 0 2),(10,Jb ⟨#[60]⟩ 3 1 2),(11,Jb ⟨#[60,61]⟩ 3 1 2),(12,Jb ⟨#[62]⟩ 3 1 2),(13,Jb ⟨#[62,61]⟩ 3 1 2),(14,Jb ⟨#[38,38]⟩ 2 2 2),(15,Jb ⟨#[124,124]⟩ 1 2 2)]
def c130:Ctr:=fun args=>match args with
 | []=>some ⟨⟨none,none,[],.dmp Rz⟩,fun k=>k (.dmp Rz)⟩
 | _=>none
theorem Aiy {tab:List (Int × List (Option PV))} {es:List (Int × AV)} {k:Nat} {H:List Ob} {n:Nat} (h:Ac H k=.fmap es) (hz:Qz es=some tab):G0 ⟨none,none,[],.dmp tab⟩ (.mp k) H n:=by
 refine ⟨trivial,rfl,[k],[], ?_,rfl,trivial,by simp [Sx.distinct,Sx.keeps]⟩
 have:frV [k] H (.mp k)=.dmp tab:=by
  simp only [frV,Ab3,h,hz]
  simp
 rw [this]
 rfl
theorem Als:L7 cx0 Tryz.prog 6 248 [] [] 0 (G0 ⟨none,none,[],.dmp Rz⟩):=by
 refine (aF (aF (aF (aF (aF (aF (aF (aF (aF (aF (aF (aF (aF (aF (aF (aF (aF (aF (aF (aF (aF ?_)))))))))))))))))))))
 exact Aiy (k:=0) rfl rfl
theorem Aa6:GoodC Tryz.prog 248 c130:=by
 obtain ⟨C,hg,hC⟩:=Lo Ag 6 ⟨_,Tryz.func248,rfl,rfl⟩ [] ⟨none,none,[],.dmp Rz⟩ Als
 refine ⟨hg.fn,fun args cg h k hk=>?_,fun args cr gen h hn=>?_⟩
 ·unfold c130 at h
  split at h
  ·cases h;exact hk
  ·cases h
 ·unfold c130 at h
  split at h
  ·cases h;exact hg.calls [] _ _ hC trivial
  ·cases h
def Ls (o:Int):Bool:=Mg o (Sp Rz)
def cxN:Ctx:=⟨C5,[(249,([],c131)),(248,([],c130))]⟩
theorem Afn:Ah Tryz.prog cxN:=Ae Aa5 (Ae Aa6 Ag)
def Vf (e:ExprT):Bool :=
 bif bif bif !decide ((if e.kind=1∨e.kind=2 then e.op else 0)=0) then true else !decide ((if e.kind=2 then ⟨#[]⟩ else e.name)=(⟨#[]⟩ : ByteArray)) then true
  else !decide ((if e.kind=1 then 0 else e.value)=0) then true else !decide ((e.args.length:Int)=[0,0,0,1,2].getD e.kind.toNat 0)
def Ec (e:ExprT):Int :=
 if (bif decide (e.kind < 1) then true else decide (4 < e.kind))=true then 8
 else if Vf e=true then 1
 else if (bif decide (e.kind=1) then bif decide (e.value < 0) then true else decide (1099511627776 < e.value) else false)=true then 2
 else if (bif decide (e.kind=2) then !Nr e.name else false)=true then 5
 else if (bif bif bif decide (e.kind=3) then !decide (e.op=1) else false then !decide (e.op=2) else false then true else bif decide (e.kind=4) then !Ls e.op else false)=true then 8
 else 0
def c112:Ctr:=fnC [dX] rI (fun _=>True) (fun y=>(Ec y.1,()))
set_option maxHeartbeats 4000000 in
theorem Aiz:GoodC Tryz.prog 220 c112:=by
 refine Ap Afn 6 _ _ _ _ ⟨_,Tryz.func220,rfl,rfl⟩ fun (⟨e,_⟩ : ExprT × Unit) _=>?_
 refine (aF (aI (fun h0=>(Aa rfl ?_)) (fun h0=>(aF (aO (aI (fun h1=>(fun h2=>(aI (fun h3=>(Aa rfl ?_)) (fun h3=>(aF (aI (fun h4=>(Aa rfl ?_)) (fun h4=>(aI (fun h5=>tT) (aI (fun h6=>(Aa rfl ?_)) (fun h6=>(aI (fun h7=>(Aa rfl ?_)) (fun h7=>(Aa rfl ?_))))))))))))) (fun h1=>(aI (fun h8=>(fun h9=>(aI (fun h10=>(Aa rfl ?_)) (fun h10=>(aF (aI (fun h11=>(Aa rfl ?_)) (fun h11=>(aI (fun h12=>tT) (aI (fun h13=>(Aa rfl ?_)) (fun h13=>(aI (fun h14=>(Aa rfl ?_)) (fun h14=>(Aa rfl ?_))))))))))))) (fun h8=>(fun h15=>(aI (fun h16=>(Aa rfl ?_)) (fun h16=>(aF (aI (fun h17=>(Aa rfl ?_)) (fun h17=>(aI (fun h18=>tT) (aI (fun h19=>(Aa rfl ?_)) (fun h19=>(aI (fun h20=>(Aa rfl ?_)) (fun h20=>(Aa rfl ?_)))))))))))))))))))))
 all_goals
  obtain ⟨k,o,nm,v,args⟩:=e
  show (Ec _,())=_
  simp only [Ec,Vf,Ls,Ab,Bool.cond_eq_ite] at *
  generalize Mg o (Sp Rz)=b at *
  generalize Nr nm=c at *
  generalize List.getD [0,0,0,1,2] k.toNat (0:Int)=w at *
  grind
@[reducible] def Aou:List (Bool × Ty):=[(true,tBd),(false,.bool)]
def Cz (a:Int):Int:=if 0 - a > a then 0 - a else a
def c139:Ctr:=fnC [dI] rI (fun y=>-9223372036854775807≤y.1∧y.1≤9223372036854775807) (fun y=>(Cz y.1,()))
theorem Aa7:GoodC Tryz.prog 294 c139:=by
 refine Ap Ag 3 _ _ _ _ ⟨_,Tryz.func294,rfl,rfl⟩ fun (⟨a,_⟩ : Int × Unit) hn=>?_
 have hn1:-9223372036854775807≤a:=hn.1
 have hn2:a≤9223372036854775807:=hn.2
 clear hn
 refine (aF (aI (by (show inK .i64 (0 - a);simp only [inK];omega)) (Aa rfl (by rfl))))
def c171:Ctr:=fnC [.dat true tBd,.eptr .str] rB (fun _=>True) (fun y=>(decide (y.1.1=y.2.1),()))
theorem Ai0:GoodC Tryz.prog 292 c171:=by
 refine Ap Ag 3 _ _ _ _ ⟨_,Tryz.func292,rfl,rfl⟩ fun (⟨⟨nm,t,v⟩,s,_⟩ : Bd × ByteArray × Unit) _=>?_
 refine (aF (Aa rfl (by rfl)))
def Jc (s:ByteArray) (b:Bd):Bool:=decide (b.1=s)
def cxF:Ctx:=⟨C5,[(292,([],c171))]⟩
theorem Afo:Ah Tryz.prog cxF:=Ae Ai0 Ag
def c170:Ctr:=fnC [Vc,.fn 292 [] [.eptr .str]] rI (fun _=>True) (fun y=>(Ak (Jc y.2.1.2.1) y.1 0,()))
theorem Ai1:GoodC Tryz.prog 291 c170:=by
 refine Ap Afo 3 _ _ _ _ ⟨_,Tryz.func291,rfl,rfl⟩ fun (⟨xs,⟨_,s,_⟩,_⟩ : List Bd × (Unit × ByteArray × Unit) × Unit) _=>?_
 refine (aF (fun h0=>?_))
 refine ex4 _ (fun i:Nat=>⟨[.sl tBd xs,.fn (Fn.func 292) [] [.eptr [PV.str s]],.any,.any,.any,.any,.sl tBd xs,.int .i64 (↑xs.length:Int),.int .i64 (i:Int),.any,.any,.any,.any,.any,.any,.any,.any,.any,.any],[],0⟩) (fun i=>i≤xs.length∧Ak (Jc s) xs 0=Ak (Jc s) (xs.drop i) i) (fun i=>xs.length - i) (aI (eI (0) (eI ([]) (aI ?_ (aB (aI tT (by rfl)))))) ?_)
 ·exact ⟨Nat.zero_le _,rfl⟩
 rintro i ⟨hi,ht⟩
 refine (aI (fun k0=>(aO (aI tT (aI (fun k1=>(Aa rfl ?_)) (fun k1=>(aO ?_)))))) (fun k0=>(Aa rfl ?_)))
 ·have hi':i < xs.length:=by simpa using k0
  have hk:Jc s (xs.getD i (Ab tBd))=true:=k1
  rw [Au _ (Ab tBd) _ _ hi',if_pos hk] at ht
  show (Ak (Jc s) xs 0,())=(_,())
  rw [ht]
 ·have hi':i < xs.length:=by simpa using k0
  have hk:Jc s (xs.getD i (Ab tBd))=false:=k1
  rw [Au _ (Ab tBd) _ _ hi',if_neg (by rw [hk];simp)] at ht
  refine eI (i+1) (eI ([]) (aI ?_ (aI ?_ (aB (aI tT (by rfl))))))
  ·exact ⟨hi',ht⟩
  ·show xs.length - (i+1) < xs.length - i
   omega
 ·have hi':¬ i < xs.length:=by simpa using k0
  rw [List.drop_of_length_le (by omega)] at ht
  show (Ak (Jc s) xs 0,())=(_,())
  rw [ht];rfl
theorem Mo {α:Type} (p:α→Bool):∀ (xs:List α) (i:Int),0≤i→Ak p xs i < i+xs.length
 | [],i,h=>by simp only [Ak,List.length_nil];omega
 | x :: l,i,h=>by
  have:=Mo p l (i+1) (by omega)
  simp only [Ak,List.length_cons]
  split <;> omega
def Cl (xs:List Bd) (s:ByteArray):Bd × Bool:=if decide (Ak (Jc s) xs 0 < 0)=true then ((⟨#[]⟩,0,0),false) else (xs.getD (Ak (Jc s) xs 0).toNat (Ab tBd),true)
def cxG:Ctx:=⟨C5,[(291,([],c170))]⟩
theorem Afp:Ah Tryz.prog cxG:=Ae Ai1 Ag
def c134:Ctr:=fnC [Vc,dS] Aou (fun _=>True) (fun y=>((Cl y.1 y.2.1).1,(Cl y.1 y.2.1).2,()))
theorem Aa8:GoodC Tryz.prog 251 c134:=by
 refine Ap Afp 3 _ _ _ _ ⟨_,Tryz.func251,rfl,rfl⟩ fun (⟨xs,s,_⟩ : List Bd × ByteArray × Unit) _=>?_
 refine (aF (aI tT (aI (fun h0=>(Aa rfl ?_)) (fun h0=>(aI ?_ (Aa rfl ?_))))))
 ·show ((Cl xs s).1,(Cl xs s).2,())=_
  unfold Cl
  rw [if_pos h0]
 ·have h1:¬ Ak (Jc s) xs 0 < 0:=of_decide_eq_false h0
  have h2:=Mo (Jc s) xs 0 (Int.le_refl _)
  have h3:0≤Ak (Jc s) xs 0:=by omega
  have h4:Ak (Jc s) xs 0 < (xs.length:Int):=by omega
  exact ⟨h3,h4⟩
 ·show ((Cl xs s).1,(Cl xs s).2,())=_
  have h1:¬ decide (Ak (Jc s) xs 0 < 0)=true:=by rw [show decide (Ak (Jc s) xs 0 < 0)=false from h0];simp
  unfold Cl
  rw [if_neg h1]
def B3 (a b:Int):Int × Int:=if (bif !decide (b=0) then decide ((1099511627776:Int).tdiv (Cz b) < Cz a) else false)=true then (0,14) else (a * b,0)
theorem Gg (a:Int):(Cz a=a∧0≤a)∨(Cz a=-a∧a < 0):=by unfold Cz;split <;> omega
theorem Pt {a b:Int} (h:(bif !decide (b=0) then decide ((1099511627776:Int).tdiv (Cz b) < Cz a) else false)=false):-1099511627776≤a * b∧a * b≤1099511627776:=by
 by_cases hb:b=0
 ·subst hb;simp
 ·simp only [decide_eq_false hb,Bool.not_false,cond_true,decide_eq_false_iff_not,Int.not_lt] at h
  have hB:0 < Cz b:=by rcases Gg b with h | h <;> omega
  rw [Int.tdiv_eq_ediv_of_nonneg (by decide)] at h
  have h1:Cz a * Cz b≤(1099511627776 / Cz b) * Cz b:=Int.mul_le_mul_of_nonneg_right h (by omega)
  have h2:=Int.ediv_mul_le 1099511627776 (show Cz b≠0 by omega)
  have h3:0≤Cz a:=by rcases Gg a with h | h <;> omega
  have h4:0≤Cz a * Cz b:=Int.mul_nonneg h3 (by omega)
  have h5:a * b=Cz a * Cz b∨a * b=-(Cz a * Cz b):=by
   rcases Gg a with ⟨e1,_⟩ | ⟨e1,_⟩ <;> rcases Gg b with ⟨e2,_⟩ | ⟨e2,_⟩
   ·exact .inl (by rw [e1,e2])
   ·exact .inr (by rw [e1,e2,Int.mul_neg,Int.neg_neg])
   ·exact .inr (by rw [e1,e2,Int.neg_mul,Int.neg_neg])
   ·exact .inl (by rw [e1,e2,Int.neg_mul_neg])
  rcases h5 with h5 | h5 <;> omega
def cxH:Ctx:=⟨C5,[(294,([],c139))]⟩
theorem Afq:Ah Tryz.prog cxH:=Ae Aa7 Ag
def c145:Ctr:=fnC [dI,dI] rII (fun y=>(-1099511627776≤y.1∧y.1≤1099511627776)∧(-1099511627776≤y.2.1∧y.2.1≤1099511627776)) (fun y=>((B3 y.1 y.2.1).1,(B3 y.1 y.2.1).2,()))
theorem Ai2:GoodC Tryz.prog 268 c145:=by
 refine Ap Afq 3 _ _ _ _ ⟨_,Tryz.func268,rfl,rfl⟩ fun (⟨a,b,_⟩ : Int × Int × Unit) hn=>?_
 have hn1:-1099511627776≤a∧a≤1099511627776:=hn.1
 have hn2:-1099511627776≤b∧b≤1099511627776:=hn.2
 clear hn
 refine (aF (aI (fun h0=>?_) (aI (fun h1=>?_) (aI (fun h2=>?_) (aI (fun h3=>(Aa rfl ?_)) (fun h3=>(aI ?_ (Aa rfl ?_))))))))
 ·exact ⟨by show _≤a;omega,by show a≤_;omega⟩
 ·exact ⟨by show _≤b;omega,by show b≤_;omega⟩
 ·have hb:b≠0:=by have h:=h2;simp at h;exact h
  have hB:0 < Cz b:=by rcases Gg b with h | h <;> omega
  refine ⟨by show Cz b≠0;omega, ?_⟩
  show inK .i64 ((1099511627776:Int).tdiv (Cz b))
  rw [Int.tdiv_eq_ediv_of_nonneg (by decide)]
  have k1:=Int.ediv_nonneg (a:=1099511627776) (b:=Cz b) (by decide) (by omega)
  have k2:=Int.ediv_le_self (a:=1099511627776) (Cz b) (by decide)
  simp only [inK]
  omega
 ·show ((B3 a b).1,(B3 a b).2,())=_
  unfold B3
  rw [if_pos h3]
 ·have h:=Pt (a:=a) (b:=b) h3
  show -9223372036854775808≤a * b∧a * b≤9223372036854775807
  omega
 ·show ((B3 a b).1,(B3 a b).2,())=_
  have h1:¬ (bif !decide (b=0) then decide ((1099511627776:Int).tdiv (Cz b) < Cz a) else false)=true:=by rw [show (bif !decide (b=0) then decide ((1099511627776:Int).tdiv (Cz b) < Cz a) else false)=false from h3];simp
  unfold B3
  rw [if_neg h1]
def Pu (lo hi:Int) (l:List Bd) (i:Nat):Bool :=
 bif bif bif bif !Nr (l.getD (i:Int).toNat (Ab tBd)).1 then true else (bif decide (0 < (i:Int)) then !ltS (l.getD ((i:Int) - 1).toNat (Ab tBd)).1 (l.getD (i:Int).toNat (Ab tBd)).1 else false) then true
  else (bif !decide ((l.getD (i:Int).toNat (Ab tBd)).2.1=1) then !decide ((l.getD (i:Int).toNat (Ab tBd)).2.1=2) else false) then true
  else decide ((l.getD (i:Int).toNat (Ab tBd)).2.2 < lo) then true else decide (hi < (l.getD (i:Int).toNat (Ab tBd)).2.2)
def F8 (l:List Bd) (i:Nat):Bool:=bif decide ((l.getD (i:Int).toNat (Ab tBd)).2.1=2) then Pu 0 1 l i else Pu (-1099511627776) 1099511627776 l i
theorem Ow {n i:Nat} {p:Nat→Bool} (h:i < n) (hp:p i=true):(List.range n).any p=true:=List.any_eq_true.2 ⟨i,List.mem_range.2 h,hp⟩
theorem Mp {i:Nat} {p:Nat→Bool} (h:(List.range i).any p=false) (hp:p i=false):(List.range (i+1)).any p=false:=by
 rw [List.range_succ,List.any_append,h];simp [hp]
def Gh (l:List Bd):Bool:=bif (List.range l.length).any (F8 l) then false else decide ((l.length:Int)≤64)
def cxJ:Ctx:=⟨C5,[(249,([],c131))]⟩
theorem Afr:Ah Tryz.prog cxJ:=Ae Aa5 Ag
def c116:Ctr:=fnC [Vc] rB (fun _=>True) (fun y=>(Gh y.1,()))
theorem Ai3:GoodC Tryz.prog 224 c116:=by
 refine Ap Afr 3 _ _ _ _ ⟨_,Tryz.func224,rfl,rfl⟩ fun (⟨xs,_⟩ : List Bd × Unit) _=>?_
 refine (aF (fun h0=>?_))
 refine ex4 _ (fun i:Nat=>⟨[.sl tBd xs,.any,.any,.any,.any,.any,.any,.sl tBd xs,.int .i64 (↑xs.length:Int),.int .i64 (i:Int)]++nA 52,[],0⟩) (fun i=>i≤xs.length∧(List.range i).any (F8 xs)=false) (fun i=>xs.length - i) (aI (eI (0) (eI ([]) (aI ?_ (aB (aI tT (by rfl)))))) ?_)
 ·simp
 rintro i ⟨hi,ht⟩
 refine (aI (fun k0=>(aO (aI (fun k1=>(aF (aI tT (aI (fun k2=>(by intros;(try subst_vars);(try simp only [nB] at *);(try simp only [inK,big,lim,nL] at *);omega)) (aI (fun k3=>(by intros;(try subst_vars);(try simp only [nB] at *);(try simp only [inK,big,lim,nL] at *);omega)) (aI (fun k4=>(Aa rfl ?_)) (fun k4=>(aO ?_)))))))) (fun k1=>(aF (aI tT (aI (fun k5=>(by intros;(try subst_vars);(try simp only [nB] at *);(try simp only [inK,big,lim,nL] at *);omega)) (aI (fun k6=>(by intros;(try subst_vars);(try simp only [nB] at *);(try simp only [inK,big,lim,nL] at *);omega)) (aI (fun k7=>(Aa rfl ?_)) (fun k7=>(aO ?_))))))))))) (fun k0=>(fun k8=>(Aa rfl ?_))))
 ·have hi':i < xs.length:=by simpa using k0
  have e1:F8 xs i=Pu 0 1 xs i:=by unfold F8;rw [show decide ((xs.getD (i:Int).toNat (Ab tBd)).2.1=2)=true from k1];rfl
  have hk:F8 xs i=true:=e1.trans k4
  show (Gh xs,())=(false,())
  unfold Gh
  rw [Ow hi' hk];rfl
 ·have hi':i < xs.length:=by simpa using k0
  have e1:F8 xs i=Pu 0 1 xs i:=by unfold F8;rw [show decide ((xs.getD (i:Int).toNat (Ab tBd)).2.1=2)=true from k1];rfl
  have hk:F8 xs i=false:=e1.trans k4
  refine eI (i+1) (eI ([]) (aI ?_ (aI ?_ (aB (aI tT (by rfl))))))
  ·exact ⟨hi',Mp ht hk⟩
  ·show xs.length - (i+1) < xs.length - i
   omega
 ·have hi':i < xs.length:=by simpa using k0
  have e1:F8 xs i=Pu (-1099511627776) 1099511627776 xs i:=by unfold F8;rw [show decide ((xs.getD (i:Int).toNat (Ab tBd)).2.1=2)=false from k1];rfl
  have hk:F8 xs i=true:=e1.trans k7
  show (Gh xs,())=(false,())
  unfold Gh
  rw [Ow hi' hk];rfl
 ·have hi':i < xs.length:=by simpa using k0
  have e1:F8 xs i=Pu (-1099511627776) 1099511627776 xs i:=by unfold F8;rw [show decide ((xs.getD (i:Int).toNat (Ab tBd)).2.1=2)=false from k1];rfl
  have hk:F8 xs i=false:=e1.trans k7
  refine eI (i+1) (eI ([]) (aI ?_ (aI ?_ (aB (aI tT (by rfl))))))
  ·exact ⟨hi',Mp ht hk⟩
  ·show xs.length - (i+1) < xs.length - i
   omega
 ·have hi':¬ i < xs.length:=by simpa using k0
  have e1:i=xs.length:=by omega
  subst e1
  show (Gh xs,())=_
  unfold Gh
  rw [ht];rfl
end Go.Proofs.YtckpldpombdkgaaGreat
