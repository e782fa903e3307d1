/- Pipelines. -/
import Derived.Test.YtpabcdbaffjcdaaGreatJB6
import Derived.Test.YtpabcdbaffjcdaaGreatRows
import Derived.KernelRfl
import Derived.Tactics
import Derived.Tactics2
import Derived.StillTactics
import Derived.Laws.Runes
import Derived.Laws.Rows
import Derived.Laws.Strings
import Derived.Laws.Strings2
import Derived.Laws.Strings3
import Derived.Laws.RangeString
import Derived.Laws.RangeAny
import Derived.Laws.Entries
import Derived.Laws.Small
import Derived.Laws.World
import Derived.Laws.Slices
import Derived.Scope
import Derived.FnLit
import Derived.LoopTactic
set_option linter.unusedSimpArgs false
set_option linter.unusedVariables false
set_option maxRecDepth 100000
namespace Go.Proofs.YtpabcdbaffjcdaaGreat
open Go.Sx
theorem nF{p:Prop}{x:Bool}(h:false=x)(w:x=true):p:=False.elim (aY (h.trans w))
def nA(n:Nat):List AV:=List.replicate n .any
theorem aI{a b:Prop}(h:a)(h2:b):a/\b:=⟨h,h2⟩
theorem nB:(∀c f:Bool,(bif c then true else f)=(c||f))/\(∀c t:Bool,(bif c then t else false)=(c&&t))/\(∀a b:Bool,((a||b)=true)=(a=true\/b=true))/\(∀a b:Bool,((a||b)=false)=(a=false/\b=false))/\
 (∀a b:Bool,((a&&b)=true)=(a=true/\b=true))/\(∀b:Bool,((!b)=true)=(b=false))/\(∀b:Bool,((!b)=false)=(b=true))/\(∀(p:Prop) [Decidable p],(decide p=true)=p)/\(∀(p:Prop) [Decidable p],(decide p=false)=¬p)/\
 (∀a b:Int,(¬a<b)=(b<=a))/\(∀a b:Int,(¬a<=b)=(b<a)):=
 ⟨by simp,by simp,by simp,by simp,by simp,by simp,by simp,λ_=>by simp,λ_=>by simp,λ_ _=>by simp,λ_ _=>by simp⟩
theorem nL{α:Type}:(∀(a:α)(l:List α),(a::l).length=l.length+1)/\([]:List α).length=0/\(∀a b:List α,(a++b).length=a.length+b.length)/\(∀(i:Nat)(l:List α),(l.drop i).length=l.length-i)/\
 (∀(i:Nat)(l:List α),(l.take i).length=min i l.length)/\(∀(n:Nat)(a:α),(List.replicate n a).length=n):=
 ⟨λ_ _=>List.length_cons,List.length_nil,λ_ _=>bD,λ_ _=>cI,λ_ _=>bP,λ_ _=>bZ⟩
theorem aA{a b:Prop}(h:b)(g:a:=by rfl):a/\b:=⟨g,h⟩
theorem aB{a c b:Prop}(h:b)(g:a:=by rfl)(i:c:=by rfl):a/\c/\b:=⟨g,i,h⟩
theorem aC{a c d e b:Prop}(h:b)(g:a:=by rfl)(i:c:=by rfl)(j:d:=by rfl)(k:e:=by rfl):a/\c/\d/\e/\b:=⟨g,i,j,k,h⟩
theorem aD{a c d e a' c' d' e' b:Prop}(h:b)(g:a:=by rfl)(i:c:=by rfl)(j:d:=by rfl)(k:e:=by rfl)(g':a':=by rfl)(i':c':=by rfl)(j':d':=by rfl)(k':e':=by rfl):a/\c/\d/\e/\a'/\c'/\d'/\e'/\b:=⟨g,i,j,k,g',i',j',k',h⟩
theorem aK{a b:Prop}(h:b)(g:a:=by kernel_rfl):a/\b:=⟨g,h⟩
theorem aF{a b:Prop}(h:b)(g:a:=by first|kernel_rfl|rfl):a/\b:=⟨g,h⟩
theorem aE{a b:Prop}(h:b)(g:a:=by decide):a/\b:=⟨g,h⟩
theorem aO{a b:Prop}(h:b)(g:a:=by intros;(try subst_vars);(try simp only[nB]at *);(try simp only[inK,big,lim,nL]at *);omega):a/\b:=⟨g,h⟩
theorem nG{p:Prop}{x:Bool}(w:x=true)(h:false=x:=by kernel_rfl):p:=False.elim (aY (h.trans w))
theorem eI{α:Sort _}{p:α->Prop}(a:α)(h:p a):Exists p:=⟨a,h⟩
theorem tT:True:=True.intro
theorem aG{a b h:Prop}(x:h)(g:a:=by rfl)(i:b:=by rfl):(a∧b)∧h:=⟨⟨g,i⟩,x⟩
theorem aH{a b c d h:Prop}(x:h)(g:a:=by rfl)(i:b:=by rfl)(j:c:=by rfl)(k:d:=by rfl):(a∧b)∧(c∧d)∧h:=⟨⟨g,i⟩,⟨j,k⟩,x⟩
theorem aJ{a b c d a' b' c' d' h:Prop}(x:h)(g:a:=by rfl)(i:b:=by rfl)(j:c:=by rfl)(k:d:=by rfl)(g':a':=by rfl)(i':b':=by rfl)(j':c':=by rfl)(k':d':=by rfl):(a∧b)∧(c∧d)∧(a'∧b')∧(c'∧d')∧h:=⟨⟨g,i⟩,⟨j,k⟩,⟨g',i'⟩,⟨j',k'⟩,x⟩
@[reducible] def tI:Ty:=.int .i64
@[reducible] def tIs:Ty:=.sl (.int .i64)
@[reducible] def Va:Ty:=.sl (.sl (.int .i64))
@[reducible] def tSs:Ty:=.sl .str
@[reducible] def tBd:Ty:=.pair .str (.pair tI tI)
@[reducible] def tSt:Ty:=.pair tI (.pair tI (.pair .expr tIs))
@[reducible] def dI:AK:=.dat false tI
@[reducible] def dS:AK:=.dat false .str
@[reducible] def dIs:AK:=.dat false tIs
@[reducible] def Aaj:AK:=.dat false Va
@[reducible] def dSs:AK:=.dat false tSs
@[reducible] def dX:AK:=.dat true .expr
@[reducible] def Xx:AK:=.dat false (.sl tBd)
@[reducible] def dSt:AK:=.dat true tSt
@[reducible] def rB:List (Bool×Ty):=[(false,.bool)]
@[reducible] def rI:List (Bool×Ty):=[(false,tI)]
@[reducible] def rII:List (Bool×Ty):=[(false,tI),(false,tI)]
@[reducible] def Bd:Type:=ByteArray×Int×Int
@[reducible] def StT:Type:=Int×Int×ExprT×List Int
def Dk:List (TypeId×Ty):=[(3,tI),(4,.bool),(9,.str),(31,.expr),(26,tIs),(185,tBd)]
def cx0:Ctx:=⟨Dk,[]⟩
theorem Ah:Ai Tryz.prog cx0:=λ_ _ _ h=>by simp[cx0,G3]at h
theorem Ae{P:Program}{ty:List (TypeId×Ty)}{g:FuncId}{C:Ctr}{tab:List (FuncId×(List Sh×Ctr))}(hg:GoodC P g C)(h:Ai P ⟨ty,tab⟩):Ai P ⟨ty,(g,([],C))::tab⟩:=by
 intro g' s C' h';simp only[G3]at h';split at h'
 ·rename_i he;have:=bB he;subst this;cases h';exact hg
 ·exact h g' s C' h'
theorem Dl{P:Program}{ty ty':List (TypeId×Ty)}{tab:List (FuncId×(List Sh×Ctr))}(h:Ai P ⟨ty,tab⟩):Ai P ⟨ty',tab⟩:=λg s C h'=>h g s C h'
theorem ex4{β:(ι:Type)->(ι->St)->(ι->Prop)->(ι->Nat)->Prop}(ι:Type)(S:ι->St)(I:ι->Prop)(μ:ι->Nat)(h:β ι S I μ):∃ι S I μ,β ι S I μ:=⟨ι,S,I,μ,h⟩
def orC(C D:Ctr):Ctr:=λargs=>match C args with
 |some r=>some r
 |none=>D args
theorem Sg{P:Program}{g:FuncId}{C D:Ctr}(h:GoodC P g C)(h':GoodC P g D):GoodC P g (orC C D):=by
 refine⟨h.fn,λargs r hr=>?_,λargs r gen hr=>?_⟩
 ·unfold orC at hr;split at hr
  ·rename_i x hx;cases hr;exact h.gen args _ hx
  ·exact h'.gen args _ hr
 ·unfold orC at hr;split at hr
  ·rename_i x hx;cases hr;exact h.calls args _ _ hx
  ·exact h'.calls args _ _ hr
theorem O6{P:Program}{g:FuncId}{a:List AK}{r:List (Bool×Ty)}{need:AK.dens a->Prop}{f:AK.dens a->Ib r}(μ:AK.dens a->Nat)
 (h:∀N,GoodC P g (fnC a r (λy=>need y/\μ y<N) f)):GoodC P g (fnC a r need f):=by
 refine⟨(h 0).fn,λargs cg hC k hk=>?_,λargs cr gen hC hn=>?_⟩
 ·unfold fnC at hC;split at hC
  ·rename_i y hy;cases hC;simp only at hk;split at hk
   ·exact hk _ rfl
   ·exact hk
  ·cases hC
 ·unfold fnC at hC;split at hC
  ·rename_i y hy;cases hC;have hn':need y:=hn;exact(h (μ y+1)).calls args ⟨some (need y/\μ y<μ y+1),none,[],Fu r (f y)⟩ _ (by unfold fnC;rw[hy]) ⟨hn',eN _⟩
  ·cases hC
theorem Mb{α:Type}{p:α->Bool}{xs:List α}{i:Nat}{d:α}(h1:i<xs.length)(h:(xs.take i).any p=false)(hd:p (xs.getD i d)=false):(xs.take (i+1)).any p=false:=by
 rw[bS h1];simp only[eR,eV,gT,gM,aZ,aR h1,dC]at hd ⊢;rw[h,hd];rfl
theorem O7{α:Type}{xs:List α}{i:Nat}{d:α}{p:α->Bool}(h1:i<xs.length)(h:p (xs.getD i d)=true):xs.any p=true:=by
 simp only[aZ,aR h1,dC]at h;exact fH.2 ⟨_,cJ h1,h⟩
theorem Id{α:Type}{xs:List α}{i:Nat}{p:α->Bool}(h1:¬i<xs.length)(h:(xs.take i).any p=false):xs.any p=false:=by
 rw[bL (by omega)]at h;exact h
theorem Jr{α:Type}{xs ys:List α}{i:Nat}{d:α}(h1:i<xs.length)(h2:i<ys.length)(h:xs.take i=ys.take i)(hd:xs.getD i d=ys.getD i d):xs.take (i+1)=ys.take (i+1):=by
 rw[bS h1,bS h2,h];simp[aZ,aR h1,aR h2]at hd;rw[hd]
mutual
def Gu:ExprT->Bool
 |.mk _ _ nm _ args=>decide (40<nm.size)||Si args
def Si:List ExprT->Bool
 |[]=>false
 |e::l=>Gu e||Si l
end
theorem Ri:∀l:List ExprT,Si l=l.any Gu
 |[]=>rfl
 |e::l=>by simp only[Si,eV];rw[Ri l]
mutual
def F9:ExprT->Int->Int
 |.mk _ _ _ _ args,n=>Gv args (n+1)
def Gv:List ExprT->Int->Int
 |[],n=>n
 |e::l,n=>if 100<n then n else Gv l (F9 e n)
end
theorem eta(e:ExprT):ExprT.mk e.kind e.op e.name e.value e.args=e:=by cases e;rfl
noncomputable def exW(e:ExprT):Nat:=SizeOf.sizeOf e
theorem Le{e:ExprT}{i:Nat}{d:ExprT}(h:i<e.args.length):exW (e.args.getD i d)<exW e:=by
 obtain⟨k,o,nm,v,args⟩:=e;have hm:args.getD i d∈args:=by
  have h':i<args.length:=h;simp[List.getD,h']
 have hl:=List.sizeOf_lt_of_mem hm;show SizeOf.sizeOf (args.getD i d)<SizeOf.sizeOf (ExprT.mk k o nm v args);generalize args.getD i d=x at hl ⊢;simp;omega
theorem Qi(e:ExprT):Gu e=(decide (40<e.name.size)||e.args.any Gu):=by
 obtain⟨k,o,nm,v,args⟩:=e;simp only[Gu,Ri]
theorem Wb(e:ExprT)(n:Int):F9 e n=Gv e.args (n+1):=by
 obtain⟨k,o,nm,v,args⟩:=e;rfl
mutual
theorem O8:∀(e:ExprT)(n:Int),0<=n->n<=100->n<F9 e n/\F9 e n<=101
 |.mk _ _ _ _ args,n,h0,h1=>by
  simp only[F9];have:=Ns args (n+1) (by omega) (by omega);omega
theorem Ns:∀(l:List ExprT)(n:Int),0<=n->n<=101->n<=Gv l n/\Gv l n<=101
 |[],n,h0,h1=>⟨cO _,h1⟩
 |e::l,n,h0,h1=>by
  simp only[Gv];split
  ·exact⟨cO _,h1⟩
  ·have h2:=O8 e n h0 (by omega);have h3:=Ns l (F9 e n) (by omega) h2.2;omega
end
theorem O9{args:List ExprT}{i:Nat}{n:Int}{d:ExprT}(h:i<args.length):Gv (args.drop i) n=if 100<n then n else Gv (args.drop (i+1)) (F9 (args.getD i d) n):=by
 rw[cG h];simp[Gv,List.getD,h]
def c88(N:Nat):Ctr:=fnC [dX] rB (λy=>True/\exW y.1<N) (λy=>(Gu y.1,()))
def cxL(N:Nat):Ctx:=⟨Dk,[(86,([],c88 N))]⟩
theorem Aex:∀N,GoodC Tryz.prog 86 (c88 N)
 |0=>by
  refine Au Ah 3 _ _ _ _ ⟨_,Tryz.func86,rfl,rfl⟩ λy hn=>?_
  exact aT hn.2 (eE _)
 |N+1=>by
  refine Au (cx:=cxL N) (Ae (Aex N) Ah) 3 _ _ _ _ ⟨_,Tryz.func86,rfl,rfl⟩ λ(⟨e,_⟩:ExprT×Unit) hn=>?_
  have hN:exW e<N+1:=hn.2;clear hn;refine(aF (aI (λh0=>(Aa rfl ?_)) (λh0=>?_)))
  ·have h0':decide (40<(e.name.size:Int))=true:=h0;have:40<e.name.size:=by have:=aM h0';omega
   show(Gu e,())=(true,());rw[Qi,aX this];rfl
  refine ex4 _ (λi:Nat=>⟨[.any,.ptr 0 0,.any,.int .i64 (i:Int)]++nA 17,[.cells   [.int .i64 e.kind,.int .i64 e.op,.str e.name,.int .i64 e.value,.sl .expr e.args]],1⟩) (λi=>i<=e.args.length/\(e.args.take i).any Gu=false) (λi=>e.args.length-i) (aI (eI (0) (eI ([some 0]) (aI ?_ (aB (aI (aG tT) (by rfl)))))) ?_)
  ·simp
  rintro i ⟨hi,ht⟩;refine(λk0=>(aI (λk1=>(aO (aI ?_ (aI (λk2=>(Aa rfl ?_)) (λk2=>(aO ?_)))))) (λk1=>(Aa rfl ?_))))
  ·refine⟨trivial, ?_⟩;have hi':i<e.args.length:=by simpa using k1
   show exW (ExprT.mk _ _ _ _ _)<N;rw[eta];exact cA (Le hi') (by omega)
  ·have hi':i<e.args.length:=by simpa using k1
   have hk:Gu (e.args.getD i (Ab .expr))=true:=by have h:=k2;simp only[eta]at h;exact h
   show(Gu e,())=(true,());rw[Qi,O7 hi' hk,Bool.or_true]
  ·have hi':i<e.args.length:=by simpa using k1
   have hk:Gu (e.args.getD i (Ab .expr))=false:=by have h:=k2;simp only[eta]at h;exact h
   refine eI (i+1) (eI ([some 0]) (aI ?_ (aI ?_ (aB (aI (aG tT) (by rfl))))))
   ·exact⟨hi',Mb hi' ht hk⟩
   ·show e.args.length-(i+1)<e.args.length-i;omega
  ·have h0':decide (40<(e.name.size:Int))=false:=h0;have:¬40<e.name.size:=by have:=aQ h0';omega
   have e1:=Id (by simpa using k1) ht;show(Gu e,())=(false,());rw[Qi,bE this,e1];rfl
def c88A:Ctr:=fnC [dX] rB (λ_=>True) (λy=>(Gu y.1,()))
theorem Aj3:GoodC Tryz.prog 86 c88A:=O6 (λy=>exW y.1) Aex
def As0(N:Nat):Ctr:=fnC [dX,dI] rI (λy=>(0<=y.2.1/\y.2.1<=100)/\exW y.1<N) (λy=>(F9 y.1 y.2.1,()))
def cxZ(N:Nat):Ctx:=⟨Dk,[(129,([],As0 N))]⟩
theorem Aak:∀N,GoodC Tryz.prog 129 (As0 N)
 |0=>by
  refine Au Ah 3 _ _ _ _ ⟨_,Tryz.func129,rfl,rfl⟩ λy hn=>?_
  exact aT hn.2 (eE _)
 |N+1=>by
  refine Au (cx:=cxZ N) (Ae (Aak N) Ah) 3 _ _ _ _ ⟨_,Tryz.func129,rfl,rfl⟩ λ(⟨e,n,_⟩:ExprT×Int×Unit) hn=>?_
  have hN:exW e<N+1:=hn.2;have hn0:0<=n:=hn.1.1;have hn1:n<=100:=hn.1.2;clear hn;refine(aF (aO ?_));refine ex4 _ (λp:Nat×Int=>⟨[.any,.int .i64 p.2,.ptr 0 0,.any,.any,.int .i64 (p.1:Int)]++nA 20,[.cells   [.int .i64 e.kind,.int .i64 e.op,.str e.name,.int .i64 e.value,.sl .expr e.args]],1⟩) (λp=>p.1<=e.args.length/\0<=p.2/\p.2<=101/\Gv e.args (n+1)=Gv (e.args.drop p.1) p.2) (λp=>e.args.length-p.1) (aI (eI ((0,n+1)) (eI ([some 0]) (aI ?_ (aB (aI (aG tT) (by rfl)))))) ?_)
  ·simp;omega
  rintro⟨i,m⟩ ⟨hi,hm0,hm1,ht⟩;replace hm0:0<=m:=hm0;replace hm1:m<=101:=hm1;refine(λk0=>(aI (λk1=>(aI (λk2=>(Aa rfl ?_)) (λk2=>(aO (aI ?_ (aO ?_)))))) (λk1=>(Aa rfl ?_))))
  ·have hi':i<e.args.length:=by simpa using k1
   have hk:100<m:=by simpa using k2
   show(F9 e n,())=(m,());rw[Wb,ht,O9 (d:=Ab .expr) hi',aP hk]
  ·have hi':i<e.args.length:=by simpa using k1
   have hk:¬100<m:=by simpa using k2
   refine⟨⟨hm0,fK.1 hk⟩, ?_⟩;show exW (ExprT.mk _ _ _ _ _)<N;rw[eta];exact cA (Le hi') (by omega)
  ·have hi':i<e.args.length:=by simpa using k1
   have hk:¬100<m:=by simpa using k2
   refine eI ((i+1,F9 (ExprT.mk (e.args.getD i (Ab .expr)).kind (e.args.getD i (Ab .expr)).op (e.args.getD i (Ab .expr)).name (e.args.getD i (Ab .expr)).value (e.args.getD i (Ab .expr)).args) m)) (eI ([some 0]) (aI ?_ (aI ?_ (aB (aI (aG tT) (by rfl))))))
   ·rw[eta];obtain⟨hr1,hr2⟩:=O8 (e.args.getD i (Ab .expr)) m hm0 (by omega);refine⟨hi',Int.le_of_lt (Int.lt_of_le_of_lt hm0 hr1),hr2, ?_⟩;rw[ht,O9 (d:=Ab .expr) hi',aL hk]
   ·show e.args.length-(i+1)<e.args.length-i;omega
  ·have hi':¬i<e.args.length:=by simpa using k1
   show(F9 e n,())=(m,());rw[Wb,ht,bK (by omega)];rfl
def c123A:Ctr:=fnC [dX,dI] rI (λy=>0<=y.2.1/\y.2.1<=100) (λy=>(F9 y.1 y.2.1,()))
theorem Ann:GoodC Tryz.prog 129 c123A:=O6 (λy=>exW y.1) Aak
def Jk(e:ExprT):Int:=if 100<F9 e 0 then 101 else F9 e 0
def cxB:Ctx:=⟨Dk,[(86,([],c88A)),(129,([],c123A))]⟩
theorem Aj4:Ai Tryz.prog cxB:=Ae Aj3 (Ae Ann Ah)
def c87:Ctr:=fnC [dX] rI (λ_=>True) (λy=>(Jk y.1,()))
theorem Aqn:GoodC Tryz.prog 85 c87:=by
 refine Au Aj4 3 _ _ _ _ ⟨_,Tryz.func85,rfl,rfl⟩ λ(⟨e,_⟩:ExprT×Unit) _=>?_
 refine(aF (aI ?_ (aI (λh0=>(Aa rfl ?_)) (λh0=>(Aa rfl ?_)))))
 ·exact⟨cO (0:Int),(by decide:(0:Int)<=100)⟩
 ·have h:=h0;simp only[eta]at h;show(Jk e,())=(101,());rw[Jk,aP (aM h)]
 ·have h:=h0;simp only[eta]at h ⊢;show(Jk e,())=(F9 e 0,());rw[Jk,aL (aQ h)]
def Aey(e:ExprT):Bool:=bif bif decide (40<Jk e)then decide (Jk e<=100)else false then true else(bif decide (Jk e<=40)then Gu e else false)
def cxB1:Ctx:=⟨Dk,[(85,([],c87)),(86,([],c88A))]⟩
theorem Ag6:Ai Tryz.prog cxB1:=Ae Aqn (Ae Aj3 Ah)
def c63:Ctr:=fnC [dX] rB (λ_=>True) (λy=>(Aey y.1,()))
theorem Aqo:GoodC Tryz.prog 59 c63:=by
 refine Au Ag6 3 _ _ _ _ ⟨_,Tryz.func59,rfl,rfl⟩ λ(⟨e,_⟩:ExprT×Unit) _=>?_
 refine(aF (aI tT (aI (λh0=>tT) (Aa rfl (by(simp only[eta];rfl))))))
def Aez(t:StT):Bool:=bif bif Aey t.2.2.1 then true else(bif decide (40<(t.2.2.2.length:Int))then decide ((t.2.2.2.length:Int)<=200)else false)then true else decide (210<(t.2.2.2.length:Int))
def cxB2:Ctx:=⟨Dk,[(59,([],c63))]⟩
theorem Ag7:Ai Tryz.prog cxB2:=Ae Aqo Ah
def c29:Ctr:=fnC [dSt] rB (λ_=>True) (λy=>(Aez y.1,()))
theorem Aqp:GoodC Tryz.prog 24 c29:=by
 refine Au Ag7 3 _ _ _ _ ⟨_,Tryz.func24,rfl,rfl⟩ λ(⟨⟨k,z,e,l⟩,_⟩:StT×Unit) _=>?_
 refine(aF (aI tT (λh0=>(λh1=>(λh2=>(Aa rfl (by(simp only[eta];rfl))))))))
def Ao{α:Type}(p:α->Bool):List α->Int->Int
 |[],_=>-1
 |x::l,i=>if p x then i else Ao p l (i+1)
theorem A2{α:Type}(p:α->Bool)(d:α)(xs:List α)(i:Nat)(h:i<xs.length):Ao p (xs.drop i) i=if p (xs.getD i d)then(i:Int)else Ao p (xs.drop (i+1)) ((i+1:Nat):Int):=by
 rw[cG h];simp[Ao,aR h]
theorem Ec{α:Type}(p:α->Bool):∀(xs:List α)(i:Int),0<=i->(decide (0<=Ao p xs i))=xs.any p
 |[],i,h=>rfl
 |x::l,i,h=>by
  unfold Ao;cases hp:p x<;>simp[hp]
  ·exact Ec p l (i+1) (by omega)
  ·exact h
def Ke(x:Int):Bool:=bif decide (-1099511627776<=x)then decide (x<=1099511627776)else false
def Aj(x:Int):Bool:=!Ke x
def A5(l:List Int):Bool:=decide (200<(l.length:Int))
def c43:Ctr:=fnC [dI] rB (λ_=>True) (λy=>(Ke y.1,()))
theorem Xy:GoodC Tryz.prog 42 c43:=by
 refine Au Ah 3 _ _ _ _ ⟨_,Tryz.func42,rfl,rfl⟩ λ(⟨a,_⟩:Int×Unit) _=>?_
 refine(aF (Aa rfl (by rfl)))
def cxC:Ctx:=⟨Dk,[(42,([],c43))]⟩
theorem T7:Ai Tryz.prog cxC:=Ae Xy Ah
def c42:Ctr:=fnC [dI] rB (λ_=>True) (λy=>(Aj y.1,()))
theorem Aqq:GoodC Tryz.prog 41 c42:=by
 refine Au T7 3 _ _ _ _ ⟨_,Tryz.func41,rfl,rfl⟩ λ(⟨a,_⟩:Int×Unit) _=>?_
 refine(aF (aI tT (Aa rfl (by rfl))))
def c52:Ctr:=fnC [dI] rB (λ_=>True) (λy=>(Aj y.1,()))
theorem Aqr:GoodC Tryz.prog 60 c52:=by
 refine Au T7 3 _ _ _ _ ⟨_,Tryz.func60,rfl,rfl⟩ λ(⟨a,_⟩:Int×Unit) _=>?_
 refine(aF (aI tT (Aa rfl (by rfl))))
def c90:Ctr:=fnC [dI] rB (λ_=>True) (λy=>(Aj y.1,()))
theorem Aqs:GoodC Tryz.prog 211 c90:=by
 refine Au T7 3 _ _ _ _ ⟨_,Tryz.func211,rfl,rfl⟩ λ(⟨a,_⟩:Int×Unit) _=>?_
 refine(aF (aI tT (Aa rfl (by rfl))))
def c46:Ctr:=fnC [dIs] rB (λ_=>True) (λy=>(A5 y.1,()))
theorem Aqt:GoodC Tryz.prog 46 c46:=by
 refine Au Ah 3 _ _ _ _ ⟨_,Tryz.func46,rfl,rfl⟩ λ(⟨a,_⟩:List Int×Unit) _=>?_
 refine(aF (λh0=>(Aa rfl (by rfl))))
def cxD:Ctx:=⟨Dk,[(41,([],c42)),(60,([],c52)),(211,([],c90)),(46,([],c46))]⟩
theorem Pa:Ai Tryz.prog cxD:=Ae Aqq (Ae Aqr (Ae Aqs (Ae Aqt Ah)))
def c73x42:Ctr:=fnC [dIs,.fn 41 [] []] rI (λ_=>True) (λy=>(Ao Aj y.1 0,()))
theorem Ag8:GoodC Tryz.prog 70 c73x42:=by
 refine Au Pa 3 _ _ _ _ ⟨_,Tryz.func70,rfl,rfl⟩ λ(⟨xs,_⟩:List Int×_×Unit) _=>?_
 refine(aF (λh0=>?_));refine ex4 _ (λi:Nat=>⟨[.sl (.int .i64) xs,.fn (Fn.func 41) [] [],.any,.any,.any,.any,.sl (.int .i64) xs,.int .i64 (↑xs.length:Int),.int .i64 (i:Int),.any,.any,.any,.any,.any,.any,.any,.any,.any,.any],[],0⟩) (λi=>i<=xs.length/\Ao Aj xs 0=Ao Aj (xs.drop i) i) (λi=>xs.length-i) (aI (eI (0) (eI ([]) (aI ?_ (aB (aI tT (by rfl)))))) ?_)
 ·exact⟨aV _,rfl⟩
 rintro i ⟨hi,ht⟩;refine(aI (λk0=>(aO (aI tT (aI (λk1=>(Aa rfl ?_)) (λk1=>(aO ?_)))))) (λk0=>(Aa rfl ?_)))
 ·have hi':i<xs.length:=by simpa using k0
  have hk:Aj (xs.getD i (Ab tI))=true:=k1;rw[A2 _ (Ab tI) _ _ hi',aP hk]at ht;show(Ao Aj xs 0,())=(_,());rw[ht]
 ·have hi':i<xs.length:=by simpa using k0
  have hk:Aj (xs.getD i (Ab tI))=false:=k1;rw[A2 _ (Ab tI) _ _ hi',aL (by rw[hk];simp)]at ht;refine eI (i+1) (eI ([]) (aI ?_ (aI ?_ (aB (aI tT (by rfl))))))
  ·exact⟨hi',ht⟩
  ·show xs.length-(i+1)<xs.length-i;omega
 ·have hi':¬i<xs.length:=by simpa using k0
  rw[bK (by omega)]at ht;show(Ao Aj xs 0,())=(_,());rw[ht];rfl
def c73x52:Ctr:=fnC [dIs,.fn 60 [] []] rI (λ_=>True) (λy=>(Ao Aj y.1 0,()))
theorem Ag9:GoodC Tryz.prog 70 c73x52:=by
 refine Au Pa 3 _ _ _ _ ⟨_,Tryz.func70,rfl,rfl⟩ λ(⟨xs,_⟩:List Int×_×Unit) _=>?_
 refine(aF (λh0=>?_));refine ex4 _ (λi:Nat=>⟨[.sl (.int .i64) xs,.fn (Fn.func 60) [] [],.any,.any,.any,.any,.sl (.int .i64) xs,.int .i64 (↑xs.length:Int),.int .i64 (i:Int),.any,.any,.any,.any,.any,.any,.any,.any,.any,.any],[],0⟩) (λi=>i<=xs.length/\Ao Aj xs 0=Ao Aj (xs.drop i) i) (λi=>xs.length-i) (aI (eI (0) (eI ([]) (aI ?_ (aB (aI tT (by rfl)))))) ?_)
 ·exact⟨aV _,rfl⟩
 rintro i ⟨hi,ht⟩;refine(aI (λk0=>(aO (aI tT (aI (λk1=>(Aa rfl ?_)) (λk1=>(aO ?_)))))) (λk0=>(Aa rfl ?_)))
 ·have hi':i<xs.length:=by simpa using k0
  have hk:Aj (xs.getD i (Ab tI))=true:=k1;rw[A2 _ (Ab tI) _ _ hi',aP hk]at ht;show(Ao Aj xs 0,())=(_,());rw[ht]
 ·have hi':i<xs.length:=by simpa using k0
  have hk:Aj (xs.getD i (Ab tI))=false:=k1;rw[A2 _ (Ab tI) _ _ hi',aL (by rw[hk];simp)]at ht;refine eI (i+1) (eI ([]) (aI ?_ (aI ?_ (aB (aI tT (by rfl))))))
  ·exact⟨hi',ht⟩
  ·show xs.length-(i+1)<xs.length-i;omega
 ·have hi':¬i<xs.length:=by simpa using k0
  rw[bK (by omega)]at ht;show(Ao Aj xs 0,())=(_,());rw[ht];rfl
def c73x90:Ctr:=fnC [dIs,.fn 211 [] []] rI (λ_=>True) (λy=>(Ao Aj y.1 0,()))
theorem Aha:GoodC Tryz.prog 70 c73x90:=by
 refine Au Pa 3 _ _ _ _ ⟨_,Tryz.func70,rfl,rfl⟩ λ(⟨xs,_⟩:List Int×_×Unit) _=>?_
 refine(aF (λh0=>?_));refine ex4 _ (λi:Nat=>⟨[.sl (.int .i64) xs,.fn (Fn.func 211) [] [],.any,.any,.any,.any,.sl (.int .i64) xs,.int .i64 (↑xs.length:Int),.int .i64 (i:Int),.any,.any,.any,.any,.any,.any,.any,.any,.any,.any],[],0⟩) (λi=>i<=xs.length/\Ao Aj xs 0=Ao Aj (xs.drop i) i) (λi=>xs.length-i) (aI (eI (0) (eI ([]) (aI ?_ (aB (aI tT (by rfl)))))) ?_)
 ·exact⟨aV _,rfl⟩
 rintro i ⟨hi,ht⟩;refine(aI (λk0=>(aO (aI tT (aI (λk1=>(Aa rfl ?_)) (λk1=>(aO ?_)))))) (λk0=>(Aa rfl ?_)))
 ·have hi':i<xs.length:=by simpa using k0
  have hk:Aj (xs.getD i (Ab tI))=true:=k1;rw[A2 _ (Ab tI) _ _ hi',aP hk]at ht;show(Ao Aj xs 0,())=(_,());rw[ht]
 ·have hi':i<xs.length:=by simpa using k0
  have hk:Aj (xs.getD i (Ab tI))=false:=k1;rw[A2 _ (Ab tI) _ _ hi',aL (by rw[hk];simp)]at ht;refine eI (i+1) (eI ([]) (aI ?_ (aI ?_ (aB (aI tT (by rfl))))))
  ·exact⟨hi',ht⟩
  ·show xs.length-(i+1)<xs.length-i;omega
 ·have hi':¬i<xs.length:=by simpa using k0
  rw[bK (by omega)]at ht;show(Ao Aj xs 0,())=(_,());rw[ht];rfl
def c71x46:Ctr:=fnC [Aaj,.fn 46 [] []] rI (λ_=>True) (λy=>(Ao A5 y.1 0,()))
theorem Ahb:GoodC Tryz.prog 74 c71x46:=by
 refine Au Pa 3 _ _ _ _ ⟨_,Tryz.func74,rfl,rfl⟩ λ(⟨xs,_⟩:List (List Int)×_×Unit) _=>?_
 refine(aF (λh0=>?_));refine ex4 _ (λi:Nat=>⟨[.sl (.sl (.int .i64)) xs,.fn (Fn.func 46) [] [],.any,.any,.any,.any,.sl (.sl (.int .i64)) xs,.int .i64 (↑xs.length:Int),.int .i64 (i:Int),.any,.any,.any,.any,.any,.any,.any,.any,.any,.any],[],0⟩) (λi=>i<=xs.length/\Ao A5 xs 0=Ao A5 (xs.drop i) i) (λi=>xs.length-i) (aI (eI (0) (eI ([]) (aI ?_ (aB (aI tT (by rfl)))))) ?_)
 ·exact⟨aV _,rfl⟩
 rintro i ⟨hi,ht⟩;refine(aI (λk0=>(aO (aI tT (aI (λk1=>(Aa rfl ?_)) (λk1=>(aO ?_)))))) (λk0=>(Aa rfl ?_)))
 ·have hi':i<xs.length:=by simpa using k0
  have hk:A5 (xs.getD i (Ab tIs))=true:=k1;rw[A2 _ (Ab tIs) _ _ hi',aP hk]at ht;show(Ao A5 xs 0,())=(_,());rw[ht]
 ·have hi':i<xs.length:=by simpa using k0
  have hk:A5 (xs.getD i (Ab tIs))=false:=k1;rw[A2 _ (Ab tIs) _ _ hi',aL (by rw[hk];simp)]at ht;refine eI (i+1) (eI ([]) (aI ?_ (aI ?_ (aB (aI tT (by rfl))))))
  ·exact⟨hi',ht⟩
  ·show xs.length-(i+1)<xs.length-i;omega
 ·have hi':¬i<xs.length:=by simpa using k0
  rw[bK (by omega)]at ht;show(Ao A5 xs 0,())=(_,());rw[ht];rfl
def c73:Ctr:=orC c73x42 (orC c73x52 c73x90)
def c71:Ctr:=c71x46
def cxE:Ctx:=⟨Dk,[(70,([],c73)),(74,([],c71))]⟩
theorem Pb:Ai Tryz.prog cxE:=Ae (Sg Ag8 (Sg Ag9 Aha)) (Ae Ahb Ah)
def c41x42:Ctr:=fnC [dIs,.fn 41 [] []] rB (λ_=>True) (λy=>(y.1.any Aj,()))
theorem Ahc:GoodC Tryz.prog 40 c41x42:=by
 refine Au Pb 3 _ _ _ _ ⟨_,Tryz.func40,rfl,rfl⟩ λ(⟨xs,_⟩:List Int×_×Unit) _=>?_
 refine(aF (aI tT (Aa rfl ?_)));show(xs.any Aj,())=_;rw[<-Ec Aj xs 0 (cO _)]
def c41x52:Ctr:=fnC [dIs,.fn 60 [] []] rB (λ_=>True) (λy=>(y.1.any Aj,()))
theorem Ahd:GoodC Tryz.prog 40 c41x52:=by
 refine Au Pb 3 _ _ _ _ ⟨_,Tryz.func40,rfl,rfl⟩ λ(⟨xs,_⟩:List Int×_×Unit) _=>?_
 refine(aF (aI tT (Aa rfl ?_)));show(xs.any Aj,())=_;rw[<-Ec Aj xs 0 (cO _)]
def c41x90:Ctr:=fnC [dIs,.fn 211 [] []] rB (λ_=>True) (λy=>(y.1.any Aj,()))
theorem Ahe:GoodC Tryz.prog 40 c41x90:=by
 refine Au Pb 3 _ _ _ _ ⟨_,Tryz.func40,rfl,rfl⟩ λ(⟨xs,_⟩:List Int×_×Unit) _=>?_
 refine(aF (aI tT (Aa rfl ?_)));show(xs.any Aj,())=_;rw[<-Ec Aj xs 0 (cO _)]
def c37x46:Ctr:=fnC [Aaj,.fn 46 [] []] rB (λ_=>True) (λy=>(y.1.any A5,()))
theorem Ahf:GoodC Tryz.prog 45 c37x46:=by
 refine Au Pb 3 _ _ _ _ ⟨_,Tryz.func45,rfl,rfl⟩ λ(⟨xs,_⟩:List (List Int)×_×Unit) _=>?_
 refine(aF (aI tT (Aa rfl ?_)));show(xs.any A5,())=_;rw[<-Ec A5 xs 0 (cO _)]
def c41:Ctr:=orC c41x42 (orC c41x52 c41x90)
def c37:Ctr:=c37x46
theorem Xz:GoodC Tryz.prog 40 c41:=Sg Ahc (Sg Ahd Ahe)
theorem Aqu:GoodC Tryz.prog 45 c37:=Ahf
open Go.RowKit
def M1(c:Int)(pos:Nat):Bool:=
 bif !(bif decide (97<=c)then decide (c<=122)else false)then
  (bif decide ((pos:Int)=0)then true else(bif !decide (c=95)then(bif decide (c<48)then true else decide (57<c))else false))else false
def Hp(s:ByteArray):Nat->Nat->Bool
 |0,_=>true
 |b+1,pos=>if pos<s.size then(if M1 (Utf8.decode s pos).1 pos then false else Hp s b (pos+(Utf8.decode s pos).2))else true
def Pc(s:ByteArray):Bool:=bif Hp s s.size 0 then(bif decide (1<=(s.size:Int))then decide ((s.size:Int)<=30)else false)else false
theorem Ahg(s:ByteArray)(pos:Nat)(h:pos<s.size):1<=(Utf8.decode s pos).2:=by
 by_cases ha:(s[pos]'h).toNat<128
 ·rw[decode_ascii s pos h ha];exact bA _
 ·exact(decode_high s pos h (by omega)).2
theorem Aal(s:ByteArray)(b pos:Nat)(h:¬pos<s.size):Hp s b pos=true:=by
 cases b with
 |zero=>rfl
 |succ b=>simp[Hp,h]
set_option maxRecDepth 1000000 in
theorem Ano(c:Int)(w:World):Calls Tryz.prog 189 #[.int .i32 c] w λe w'=>e=.returned (.bool (bif decide (97<=c)then decide (c<=122)else false))/\w'=w:=by
 go_enter Tryz.func189,Tryz.ntmps189
 go_wp2
 all_goals
  go_ret
  refine⟨?_,rfl⟩;by_cases h1:97<=c<;>by_cases h2:c<=122<;>simp[h1,h2]<;>omega
set_option maxRecDepth 1000000 in
set_option maxHeartbeats 1000000 in
theorem Anp(s:ByteArray)(w:World):
 Calls Tryz.prog 158 #[.string s] w λe w'=>e=.returned (.bool (Pc s))/\∃pos,w'=w.iter s pos:=by
 go_enter Tryz.func158,Tryz.ntmps158
 go_wp2
 go_loopw [] (λw'=>∃(pos b:Nat),w'=w.iter s pos/\Hp s b pos=Hp s s.size 0/\s.size<=pos+b) (λw'=>s.size-w'.iterPos w.heap.size)
 case atStart=>exact⟨0,s.size,rfl,rfl,by omega⟩
 case round=>
  obtain⟨pos,b,rfl,hc,hb⟩:=hrel;by_cases hp:pos<s.size
  ·have hnx:∀ty,(Instr.next (.pointer (some ⟨w.heap.size,0,none⟩)) true ty).run Tryz.prog (w.iter s pos)=_:=λty=>run_next_any w s pos ty hp
   generalize hwc:(Utf8.decode s pos).1=c at hnx;generalize hww:(Utf8.decode s pos).2=wd at hnx;have hwd:1<=wd:=by rw[<-hww];exact Ahg s pos hp
   cases b with
   |zero=>omega
   |succ b=>
   have hc':(if M1 c pos then false else Hp s b (pos+wd))=Hp s s.size 0:=by
    rw[<-hc];simp only[Hp,aP hp,hwc,hww]
   have hB:M1 c pos=(!(decide (97<=(c:Int))&&decide ((c:Int)<=122))&&(decide (pos=0)||(!decide ((c:Int)=95)&&(decide ((c:Int)<48)||decide (57<(c:Int)))))):=by
    unfold M1;simp[fI]
    grind
   go_wp2_with (go_at_call 189;refine(Ano _ _).mono ?_;rintro e w' ⟨rfl,rfl⟩)
   all_goals first
    |(exfalso;simp_all;done)
    |(exfalso;simp_all;omega)
    | (have hbad:M1 c pos=false:=by
        rw[hB];simp_all
        try omega
       rw[hbad]at hc';refine⟨⟨pos+wd,b,rfl,by simpa using hc',by omega⟩,by simp;omega⟩)
    | (have hbad:M1 c pos=true:=by
        rw[hB];simp_all
        try omega
       rw[hbad]at hc'
       go_ret
       have hf:Hp s s.size 0=false:=by simpa using hc'.symm
       refine⟨?_,_,rfl⟩;unfold Pc;rw[hf];rfl)
  ·have hnx:∀ty,(Instr.next (.pointer (some ⟨w.heap.size,0,none⟩)) true ty).run Tryz.prog (w.iter s pos)=_:=λty=>run_next_end w s pos ty hp
   rw[Aal s b pos hp]at hc;replace hc:=hc.symm
   go_wp2
   all_goals
    go_ret
    refine⟨?_,_,rfl⟩;unfold Pc;rw[hc];simp[fI]
    try grind
theorem Aj5{P:Program}{g:FuncId}{f:ByteArray->Bool}(hfn:∃fn,P.funcs[g]?=some fn/\fn.body.isSome=true/\(fn.name == "runtime.NumGoroutine")=false)
 (h:∀s w,Calls P g #[.string s] w λe w'=>e=.returned (.bool (f s))/\Below w.heap.size w w'):GoodC P g (fnC [dS] rB (λ_=>True) (λy=>(f y.1,()))):=by
 refine⟨hfn,λargs cg hC k hk=>?_,λargs cr gen hC hn w F0 vs hF hsz hrd=>?_⟩
 ·unfold fnC at hC;split at hC
  ·cases hC;exact hk
  ·cases hC
 ·unfold fnC at hC;split at hC
  ·rename_i y hy;cases hC;obtain⟨e,hall⟩:=Hx (E:=Env.base w F0) [dS] args y hy;have h1:=hall hrd;obtain⟨vs⟩:=vs;have hl:vs.length=1:=by
    have:args.length=1:=by rw[<-e];rfl
    simpa[this]using hsz
   match vs,hl with
   |[v],_=>
   obtain⟨s,u⟩:=y;have hv:RdA (Env.base w F0) v (.str s):=h1 0 v _ rfl rfl [v] (λi u hu=>by simpa using hu) e;have hvs:v=.string s:=by cases hv;rfl
   subst hvs;refine(h s w).mono ?_;rintro e w' ⟨rfl,hb⟩;exact⟨trivial,_,λ_=>none,λ_ _=>none,rfl,hb,.bool _,λj ob hj=>by simp at hj,λj h hj=>by simp at hj,λj j' h h' hj=>by simp at hj⟩
  ·cases hC
def c131:Ctr:=fnC [dS] rB (λ_=>True) (λy=>(Pc y.1,()))
theorem Ae0:GoodC Tryz.prog 158 c131:=Aj5 ⟨_,Tryz.func158,rfl,rfl⟩ λs w=>(Anp s w).mono λe w' ⟨h1,pos,h2⟩=>⟨h1,by subst h2;exact(Below.refl _ _).alloc (bA _) _⟩
def Kf(s:ByteArray)(a b c:Int):List (Option PV):=[some (.str s),some (.int .i64 a),some (.int .i64 b),some (.int .i64 c),none]
def T8:List (Int×List (Option PV)):=[(3,Kf ⟨#[43]⟩ 4 1 1),(4,Kf ⟨#[45]⟩ 4 1 1),(5,Kf ⟨#[42]⟩ 5 1 1),(6,Kf ⟨#[47]⟩ 5 1 1),(7,Kf ⟨#[37]⟩ 5 1 1),(8,Kf ⟨#[61,61]⟩ 3 0 2),(9,Kf ⟨#[33,61]⟩ 3 0 2),(10,Kf ⟨#[60]⟩ 3 1 2),(11,Kf ⟨#[60,61]⟩ 3 1 2),(12,Kf ⟨#[62]⟩ 3 1 2),(13,Kf ⟨#[62,61]⟩ 3 1 2),(14,Kf ⟨#[38,38]⟩ 2 2 2),(15,Kf ⟨#[124,124]⟩ 1 2 2)]
def c130:Ctr:=λargs=>match args with
 |[]=>some ⟨⟨none,none,[],.dmp T8⟩,λk=>k (.dmp T8)⟩
 |_=>none
theorem Anq{tab:List (Int×List (Option PV))}{es:List (Int×AV)}{k:Nat}{H:List Ob}{n:Nat}(h:Ac H k=.fmap es)(hz:S4 es=some tab):H0 ⟨none,none,[],.dmp tab⟩ (.mp k) H n:=by
 refine⟨trivial,rfl,[k],[], ?_,rfl,trivial,by simp[Sx.distinct,Sx.keeps]⟩;have:frV [k] H (.mp k)=.dmp tab:=by
  simp only[frV,Agi,h,hz];simp
 rw[this];rfl
theorem Aqv:Nl cx0 Tryz.prog 6 157 [] [] 0 (H0 ⟨none,none,[],.dmp T8⟩):=by
 refine(aF (aF (aF (aF (aF (aF (aF (aF (aF (aF (aF (aF (aF (aF (aF (aF (aF (aF (aF (aF (aF ?_)))))))))))))))))))));exact Anq (k:=0) rfl rfl
theorem Ae1:GoodC Tryz.prog 157 c130:=by
 obtain⟨C,hg,hC⟩:=My Ah 6 ⟨_,Tryz.func157,rfl,rfl⟩ [] ⟨none,none,[],.dmp T8⟩ Aqv;refine⟨hg.fn,λargs cg h k hk=>?_,λargs cr gen h hn=>?_⟩
 ·unfold c130 at h;split at h
  ·cases h;exact hk
  ·cases h
 ·unfold c130 at h;split at h
  ·cases h;exact hg.calls [] _ _ hC trivial
  ·cases h
def M2(o:Int):Bool:=Nz o (U7 T8)
def cxN:Ctx:=⟨Dk,[(158,([],c131)),(157,([],c130))]⟩
theorem Aj6:Ai Tryz.prog cxN:=Ae Ae0 (Ae Ae1 Ah)
def X0(e:ExprT):Bool:=
 bif bif bif !decide ((if e.kind=1\/e.kind=2 then e.op else 0)=0)then true else !decide ((if e.kind=2 then⟨#[]⟩else e.name)=(⟨#[]⟩:ByteArray))then true
  else !decide ((if e.kind=1 then 0 else e.value)=0)then true else !decide ((e.args.length:Int)=[0,0,0,1,2].getD e.kind.toNat 0)
def Ff(e:ExprT):Int:=
 if(bif decide (e.kind<1)then true else decide (4<e.kind))=true then 8
 else if X0 e=true then 1
 else if(bif decide (e.kind=1)then bif decide (e.value<0)then true else decide (1099511627776<e.value)else false)=true then 2
 else if(bif decide (e.kind=2)then !Pc e.name else false)=true then 5
 else if(bif bif bif decide (e.kind=3)then !decide (e.op=1)else false then !decide (e.op=2)else false then true else bif decide (e.kind=4)then !M2 e.op else false)=true then 8
 else 0
def c112:Ctr:=fnC [dX] rI (λ_=>True) (λy=>(Ff y.1,()))
set_option maxHeartbeats 4000000 in
theorem Anr:GoodC Tryz.prog 132 c112:=by
 refine Au Aj6 6 _ _ _ _ ⟨_,Tryz.func132,rfl,rfl⟩ λ(⟨e,_⟩:ExprT×Unit) _=>?_
 refine(aF (aI (λh0=>(Aa rfl ?_)) (λh0=>(aF (aO (aI (λh1=>(λh2=>(aI (λh3=>(Aa rfl ?_)) (λh3=>(aF (aI (λh4=>(Aa rfl ?_)) (λh4=>(aI (λh5=>tT) (aI (λh6=>(Aa rfl ?_)) (λh6=>(aI (λh7=>(Aa rfl ?_)) (λh7=>(Aa rfl ?_))))))))))))) (λh1=>(aI (λh8=>(λh9=>(aI (λh10=>(Aa rfl ?_)) (λh10=>(aF (aI (λh11=>(Aa rfl ?_)) (λh11=>(aI (λh12=>tT) (aI (λh13=>(Aa rfl ?_)) (λh13=>(aI (λh14=>(Aa rfl ?_)) (λh14=>(Aa rfl ?_))))))))))))) (λh8=>(λh15=>(aI (λh16=>(Aa rfl ?_)) (λh16=>(aF (aI (λh17=>(Aa rfl ?_)) (λh17=>(aI (λh18=>tT) (aI (λh19=>(Aa rfl ?_)) (λh19=>(aI (λh20=>(Aa rfl ?_)) (λh20=>(Aa rfl ?_)))))))))))))))))))))
 all_goals
  obtain⟨k,o,nm,v,args⟩:=e;show(Ff _,())=_;simp only[Ff,X0,M2,Ab,fI]at *;generalize Nz o (U7 T8)=b at *;generalize Pc nm=c at *;generalize List.getD [0,0,0,1,2] k.toNat (0:Int)=w at *
  grind
@[reducible] def Aue:List (Bool×Ty):=[(true,tBd),(false,.bool)]
def De(a:Int):Int:=if 0-a>a then 0-a else a
def c139:Ctr:=fnC [dI] rI (λy=>-9223372036854775807<=y.1/\y.1<=9223372036854775807) (λy=>(De y.1,()))
theorem Ae2:GoodC Tryz.prog 163 c139:=by
 refine Au Ah 3 _ _ _ _ ⟨_,Tryz.func163,rfl,rfl⟩ λ(⟨a,_⟩:Int×Unit) hn=>?_
 have hn1:-9223372036854775807<=a:=hn.1;have hn2:a<=9223372036854775807:=hn.2;clear hn;refine(aF (aI (by(show inK .i64 (0-a);simp only[inK];omega)) (Aa rfl (by rfl))))
def c171:Ctr:=fnC [.dat true tBd,.eptr .str] rB (λ_=>True) (λy=>(decide (y.1.1=y.2.1),()))
theorem Ans:GoodC Tryz.prog 200 c171:=by
 refine Au Ah 3 _ _ _ _ ⟨_,Tryz.func200,rfl,rfl⟩ λ(⟨⟨nm,t,v⟩,s,_⟩:Bd×ByteArray×Unit) _=>?_
 refine(aF (Aa rfl (by rfl)))
def Kg(s:ByteArray)(b:Bd):Bool:=decide (b.1=s)
def cxF:Ctx:=⟨Dk,[(200,([],c171))]⟩
theorem Aj7:Ai Tryz.prog cxF:=Ae Ans Ah
def c170:Ctr:=fnC [Xx,.fn 200 [] [.eptr .str]] rI (λ_=>True) (λy=>(Ao (Kg y.2.1.2.1) y.1 0,()))
theorem Ant:GoodC Tryz.prog 199 c170:=by
 refine Au Aj7 3 _ _ _ _ ⟨_,Tryz.func199,rfl,rfl⟩ λ(⟨xs,⟨_,s,_⟩,_⟩:List Bd×(Unit×ByteArray×Unit)×Unit) _=>?_
 refine(aF (λh0=>?_));refine ex4 _ (λi:Nat=>⟨[.sl tBd xs,.fn (Fn.func 200) [] [.eptr [PV.str s]],.any,.any,.any,.any,.sl tBd xs,.int .i64 (↑xs.length:Int),.int .i64 (i:Int),.any,.any,.any,.any,.any,.any,.any,.any,.any,.any],[],0⟩) (λi=>i<=xs.length/\Ao (Kg s) xs 0=Ao (Kg s) (xs.drop i) i) (λi=>xs.length-i) (aI (eI (0) (eI ([]) (aI ?_ (aB (aI tT (by rfl)))))) ?_)
 ·exact⟨aV _,rfl⟩
 rintro i ⟨hi,ht⟩;refine(aI (λk0=>(aO (aI tT (aI (λk1=>(Aa rfl ?_)) (λk1=>(aO ?_)))))) (λk0=>(Aa rfl ?_)))
 ·have hi':i<xs.length:=by simpa using k0
  have hk:Kg s (xs.getD i (Ab tBd))=true:=k1;rw[A2 _ (Ab tBd) _ _ hi',aP hk]at ht;show(Ao (Kg s) xs 0,())=(_,());rw[ht]
 ·have hi':i<xs.length:=by simpa using k0
  have hk:Kg s (xs.getD i (Ab tBd))=false:=k1;rw[A2 _ (Ab tBd) _ _ hi',aL (by rw[hk];simp)]at ht;refine eI (i+1) (eI ([]) (aI ?_ (aI ?_ (aB (aI tT (by rfl))))))
  ·exact⟨hi',ht⟩
  ·show xs.length-(i+1)<xs.length-i;omega
 ·have hi':¬i<xs.length:=by simpa using k0
  rw[bK (by omega)]at ht;show(Ao (Kg s) xs 0,())=(_,());rw[ht];rfl
theorem N7{α:Type}(p:α->Bool):∀(xs:List α)(i:Int),0<=i->Ao p xs i<i+xs.length
 |[],i,h=>by simp only[Ao,List.length_nil];omega
 |x::l,i,h=>by
  have:=N7 p l (i+1) (by omega);simp only[Ao,List.length_cons];split<;>omega
def C2(xs:List Bd)(s:ByteArray):Bd×Bool:=if decide (Ao (Kg s) xs 0<0)=true then((⟨#[]⟩,0,0),false)else(xs.getD (Ao (Kg s) xs 0).toNat (Ab tBd),true)
def cxG:Ctx:=⟨Dk,[(199,([],c170))]⟩
theorem Aj8:Ai Tryz.prog cxG:=Ae Ant Ah
def c134:Ctr:=fnC [Xx,dS] Aue (λ_=>True) (λy=>((C2 y.1 y.2.1).1,(C2 y.1 y.2.1).2,()))
theorem Ae3:GoodC Tryz.prog 160 c134:=by
 refine Au Aj8 3 _ _ _ _ ⟨_,Tryz.func160,rfl,rfl⟩ λ(⟨xs,s,_⟩:List Bd×ByteArray×Unit) _=>?_
 refine(aF (aI tT (aI (λh0=>(Aa rfl ?_)) (λh0=>(aI ?_ (Aa rfl ?_))))))
 ·show((C2 xs s).1,(C2 xs s).2,())=_;unfold C2;rw[aP h0]
 ·have h1:¬Ao (Kg s) xs 0<0:=aQ h0;have h2:=N7 (Kg s) xs 0 (cO _);have h3:0<=Ao (Kg s) xs 0:=by omega
  have h4:Ao (Kg s) xs 0<(xs.length:Int):=by omega
  exact⟨h3,h4⟩
 ·show((C2 xs s).1,(C2 xs s).2,())=_;have h1:¬decide (Ao (Kg s) xs 0<0)=true:=by rw[show decide (Ao (Kg s) xs 0<0)=false from h0];simp
  unfold C2;rw[aL h1]
def Ch(a b:Int):Int×Int:=if(bif !decide (b=0)then decide ((1099511627776:Int).tdiv (De b)<De a)else false)=true then(0,14)else(a*b,0)
theorem Hh(a:Int):(De a=a/\0<=a)\/(De a=-a/\a<0):=by unfold De;split<;>omega
theorem Rj{a b:Int}(h:(bif !decide (b=0)then decide ((1099511627776:Int).tdiv (De b)<De a)else false)=false):-1099511627776<=a*b/\a*b<=1099511627776:=by
 by_cases hb:b=0
 ·subst hb;simp
 ·simp only[bE hb,gF,cond_true,bF,fK]at h;have hB:0<De b:=by rcases Hh b with h|h<;>omega
  rw[Int.tdiv_eq_ediv_of_nonneg (by decide)]at h;have h1:De a*De b<=(1099511627776 / De b)*De b:=Int.mul_le_mul_of_nonneg_right h (by omega);have h2:=Int.ediv_mul_le 1099511627776 (show De b≠0 by omega);have h3:0<=De a:=by rcases Hh a with h|h<;>omega
  have h4:0<=De a*De b:=Int.mul_nonneg h3 (by omega);have h5:a*b=De a*De b\/a*b=-(De a*De b):=by
   rcases Hh a with⟨e1,_⟩|⟨e1,_⟩<;>rcases Hh b with⟨e2,_⟩|⟨e2,_⟩
   ·exact .inl (by rw[e1,e2])
   ·exact .inr (by rw[e1,e2,Int.mul_neg,Int.neg_neg])
   ·exact .inr (by rw[e1,e2,Int.neg_mul,Int.neg_neg])
   ·exact .inl (by rw[e1,e2,Int.neg_mul_neg])
  rcases h5 with h5|h5<;>omega
def cxH:Ctx:=⟨Dk,[(163,([],c139))]⟩
theorem Aj9:Ai Tryz.prog cxH:=Ae Ae2 Ah
def c145:Ctr:=fnC [dI,dI] rII (λy=>(-1099511627776<=y.1/\y.1<=1099511627776)/\(-1099511627776<=y.2.1/\y.2.1<=1099511627776)) (λy=>((Ch y.1 y.2.1).1,(Ch y.1 y.2.1).2,()))
theorem Anu:GoodC Tryz.prog 176 c145:=by
 refine Au Aj9 3 _ _ _ _ ⟨_,Tryz.func176,rfl,rfl⟩ λ(⟨a,b,_⟩:Int×Int×Unit) hn=>?_
 have hn1:-1099511627776<=a/\a<=1099511627776:=hn.1;have hn2:-1099511627776<=b/\b<=1099511627776:=hn.2;clear hn;refine(aF (aI (λh0=>?_) (aI (λh1=>?_) (aI (λh2=>?_) (aI (λh3=>(Aa rfl ?_)) (λh3=>(aI ?_ (Aa rfl ?_))))))))
 ·exact⟨by show _<=a;omega,by show a<=_;omega⟩
 ·exact⟨by show _<=b;omega,by show b<=_;omega⟩
 ·have hb:b≠0:=by have h:=h2;simp at h;exact h
  have hB:0<De b:=by rcases Hh b with h|h<;>omega
  refine⟨by show De b≠0;omega, ?_⟩;show inK .i64 ((1099511627776:Int).tdiv (De b));rw[Int.tdiv_eq_ediv_of_nonneg (by decide)];have k1:=Int.ediv_nonneg (a:=1099511627776) (b:=De b) (by decide) (by omega);have k2:=Int.ediv_le_self (a:=1099511627776) (De b) (by decide);simp only[inK];omega
 ·show((Ch a b).1,(Ch a b).2,())=_;unfold Ch;rw[aP h3]
 ·have h:=Rj (a:=a) (b:=b) h3;show -9223372036854775808<=a*b/\a*b<=9223372036854775807;omega
 ·show((Ch a b).1,(Ch a b).2,())=_;have h1:¬(bif !decide (b=0)then decide ((1099511627776:Int).tdiv (De b)<De a)else false)=true:=by rw[show(bif !decide (b=0)then decide ((1099511627776:Int).tdiv (De b)<De a)else false)=false from h3];simp
  unfold Ch;rw[aL h1]
def Rk(lo hi:Int)(l:List Bd)(i:Nat):Bool:=
 bif bif bif bif !Pc (l.getD (i:Int).toNat (Ab tBd)).1 then true else(bif decide (0<(i:Int))then !ltS (l.getD ((i:Int)-1).toNat (Ab tBd)).1 (l.getD (i:Int).toNat (Ab tBd)).1 else false)then true
  else(bif !decide ((l.getD (i:Int).toNat (Ab tBd)).2.1=1)then !decide ((l.getD (i:Int).toNat (Ab tBd)).2.1=2)else false)then true
  else decide ((l.getD (i:Int).toNat (Ab tBd)).2.2<lo)then true else decide (hi<(l.getD (i:Int).toNat (Ab tBd)).2.2)
def G5(l:List Bd)(i:Nat):Bool:=bif decide ((l.getD (i:Int).toNat (Ab tBd)).2.1=2)then Rk 0 1 l i else Rk (-1099511627776) 1099511627776 l i
theorem Qj{n i:Nat}{p:Nat->Bool}(h:i<n)(hp:p i=true):(List.range n).any p=true:=fH.2 ⟨i,cZ.2 h,hp⟩
theorem N8{i:Nat}{p:Nat->Bool}(h:(List.range i).any p=false)(hp:p i=false):(List.range (i+1)).any p=false:=by
 rw[dL,eR,h];simp[hp]
def Hi(l:List Bd):Bool:=bif (List.range l.length).any (G5 l)then false else decide ((l.length:Int)<=64)
def cxJ:Ctx:=⟨Dk,[(158,([],c131))]⟩
theorem Aka:Ai Tryz.prog cxJ:=Ae Ae0 Ah
def c116:Ctr:=fnC [Xx] rB (λ_=>True) (λy=>(Hi y.1,()))
theorem Anv:GoodC Tryz.prog 136 c116:=by
 refine Au Aka 3 _ _ _ _ ⟨_,Tryz.func136,rfl,rfl⟩ λ(⟨xs,_⟩:List Bd×Unit) _=>?_
 refine(aF (λh0=>?_));refine ex4 _ (λi:Nat=>⟨[.sl tBd xs,.any,.any,.any,.any,.any,.any,.sl tBd xs,.int .i64 (↑xs.length:Int),.int .i64 (i:Int)]++nA 52,[],0⟩) (λi=>i<=xs.length/\(List.range i).any (G5 xs)=false) (λi=>xs.length-i) (aI (eI (0) (eI ([]) (aI ?_ (aB (aI tT (by rfl)))))) ?_)
 ·simp
 rintro i ⟨hi,ht⟩;refine(aI (λk0=>(aO (aI (λk1=>(aF (aI tT (aI (λk2=>(by intros;(try subst_vars);(try simp only[nB]at *);(try simp only[inK,big,lim,nL]at *);omega)) (aI (λk3=>(by intros;(try subst_vars);(try simp only[nB]at *);(try simp only[inK,big,lim,nL]at *);omega)) (aI (λk4=>(Aa rfl ?_)) (λk4=>(aO ?_)))))))) (λk1=>(aF (aI tT (aI (λk5=>(by intros;(try subst_vars);(try simp only[nB]at *);(try simp only[inK,big,lim,nL]at *);omega)) (aI (λk6=>(by intros;(try subst_vars);(try simp only[nB]at *);(try simp only[inK,big,lim,nL]at *);omega)) (aI (λk7=>(Aa rfl ?_)) (λk7=>(aO ?_))))))))))) (λk0=>(λk8=>(Aa rfl ?_))))
 ·have hi':i<xs.length:=by simpa using k0
  have e1:G5 xs i=Rk 0 1 xs i:=by unfold G5;rw[show decide ((xs.getD (i:Int).toNat (Ab tBd)).2.1=2)=true from k1];rfl
  have hk:G5 xs i=true:=e1.trans k4;show(Hi xs,())=(false,());unfold Hi;rw[Qj hi' hk];rfl
 ·have hi':i<xs.length:=by simpa using k0
  have e1:G5 xs i=Rk 0 1 xs i:=by unfold G5;rw[show decide ((xs.getD (i:Int).toNat (Ab tBd)).2.1=2)=true from k1];rfl
  have hk:G5 xs i=false:=e1.trans k4;refine eI (i+1) (eI ([]) (aI ?_ (aI ?_ (aB (aI tT (by rfl))))))
  ·exact⟨hi',N8 ht hk⟩
  ·show xs.length-(i+1)<xs.length-i;omega
 ·have hi':i<xs.length:=by simpa using k0
  have e1:G5 xs i=Rk (-1099511627776) 1099511627776 xs i:=by unfold G5;rw[show decide ((xs.getD (i:Int).toNat (Ab tBd)).2.1=2)=false from k1];rfl
  have hk:G5 xs i=true:=e1.trans k7;show(Hi xs,())=(false,());unfold Hi;rw[Qj hi' hk];rfl
 ·have hi':i<xs.length:=by simpa using k0
  have e1:G5 xs i=Rk (-1099511627776) 1099511627776 xs i:=by unfold G5;rw[show decide ((xs.getD (i:Int).toNat (Ab tBd)).2.1=2)=false from k1];rfl
  have hk:G5 xs i=false:=e1.trans k7;refine eI (i+1) (eI ([]) (aI ?_ (aI ?_ (aB (aI tT (by rfl))))))
  ·exact⟨hi',N8 ht hk⟩
  ·show xs.length-(i+1)<xs.length-i;omega
 ·have hi':¬i<xs.length:=by simpa using k0
  have e1:i=xs.length:=by omega
  subst e1;show(Hi xs,())=_;unfold Hi;rw[ht];rfl
end Go.Proofs.YtpabcdbaffjcdaaGreat
