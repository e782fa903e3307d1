/- Pipelines. -/
import Derived.Test.YtckpldpombdkgaaGreatEB6
import Derived.Test.YtckpldpombdkgaaGreatRows
import Derived.KernelRfl
import Derived.Tactics
import Derived.Tactics2
import Derived.StillTactics
import Derived.Laws.Runes
import Derived.Laws.Rows
import Derived.Laws.Strings
import Derived.Laws.Strings2
import Derived.Laws.Strings3
import Derived.Laws.RangeString
import Derived.Laws.RangeAny
import Derived.Laws.Entries
import Derived.Laws.Small
import Derived.Laws.World
import Derived.Laws.Slices
import Derived.Scope
import Derived.FnLit
import Derived.LoopTactic
set_option linter.unusedSimpArgs false
set_option linter.unusedVariables false
set_option maxRecDepth 100000
namespace Go.Proofs.YtckpldpombdkgaaGreat
open Go.Sx
theorem nF{p:Prop}{x:Bool}(h:false=x)(w:x=true):p:=False.elim (aX (h.trans w))
def nA(n:Nat):List AV:=List.replicate n .any
theorem aI{a b:Prop}(h:a)(h2:b):a/\b:=⟨h,h2⟩
theorem nB:(∀c f:Bool,(bif c then true else f)=(c||f))/\(∀c t:Bool,(bif c then t else false)=(c&&t))/\(∀a b:Bool,((a||b)=true)=(a=true\/b=true))/\(∀a b:Bool,((a||b)=false)=(a=false/\b=false))/\
 (∀a b:Bool,((a&&b)=true)=(a=true/\b=true))/\(∀b:Bool,((!b)=true)=(b=false))/\(∀b:Bool,((!b)=false)=(b=true))/\(∀(p:Prop) [Decidable p],(decide p=true)=p)/\(∀(p:Prop) [Decidable p],(decide p=false)=¬p)/\
 (∀a b:Int,(¬a<b)=(b<=a))/\(∀a b:Int,(¬a<=b)=(b<a)):=
 ⟨by simp,by simp,by simp,by simp,by simp,by simp,by simp,λ_=>by simp,λ_=>by simp,λ_ _=>by simp,λ_ _=>by simp⟩
theorem nL{α:Type}:(∀(a:α)(l:List α),(a::l).length=l.length+1)/\([]:List α).length=0/\(∀a b:List α,(a++b).length=a.length+b.length)/\(∀(i:Nat)(l:List α),(l.drop i).length=l.length-i)/\
 (∀(i:Nat)(l:List α),(l.take i).length=min i l.length)/\(∀(n:Nat)(a:α),(List.replicate n a).length=n):=
 ⟨λ_ _=>List.length_cons,List.length_nil,λ_ _=>bD,λ_ _=>cH,λ_ _=>bO,λ_ _=>bY⟩
theorem aA{a b:Prop}(h:b)(g:a:=by rfl):a/\b:=⟨g,h⟩
theorem aB{a c b:Prop}(h:b)(g:a:=by rfl)(i:c:=by rfl):a/\c/\b:=⟨g,i,h⟩
theorem aC{a c d e b:Prop}(h:b)(g:a:=by rfl)(i:c:=by rfl)(j:d:=by rfl)(k:e:=by rfl):a/\c/\d/\e/\b:=⟨g,i,j,k,h⟩
theorem aD{a c d e a' c' d' e' b:Prop}(h:b)(g:a:=by rfl)(i:c:=by rfl)(j:d:=by rfl)(k:e:=by rfl)(g':a':=by rfl)(i':c':=by rfl)(j':d':=by rfl)(k':e':=by rfl):a/\c/\d/\e/\a'/\c'/\d'/\e'/\b:=⟨g,i,j,k,g',i',j',k',h⟩
theorem aK{a b:Prop}(h:b)(g:a:=by kernel_rfl):a/\b:=⟨g,h⟩
theorem aF{a b:Prop}(h:b)(g:a:=by first|kernel_rfl|rfl):a/\b:=⟨g,h⟩
theorem aE{a b:Prop}(h:b)(g:a:=by decide):a/\b:=⟨g,h⟩
theorem aO{a b:Prop}(h:b)(g:a:=by intros;(try subst_vars);(try simp only[nB]at *);(try simp only[inK,big,lim,nL]at *);omega):a/\b:=⟨g,h⟩
theorem nG{p:Prop}{x:Bool}(w:x=true)(h:false=x:=by kernel_rfl):p:=False.elim (aX (h.trans w))
theorem eI{α:Sort _}{p:α->Prop}(a:α)(h:p a):Exists p:=⟨a,h⟩
theorem tT:True:=True.intro
theorem aG{a b h:Prop}(x:h)(g:a:=by rfl)(i:b:=by rfl):(a∧b)∧h:=⟨⟨g,i⟩,x⟩
theorem aH{a b c d h:Prop}(x:h)(g:a:=by rfl)(i:b:=by rfl)(j:c:=by rfl)(k:d:=by rfl):(a∧b)∧(c∧d)∧h:=⟨⟨g,i⟩,⟨j,k⟩,x⟩
theorem aJ{a b c d a' b' c' d' h:Prop}(x:h)(g:a:=by rfl)(i:b:=by rfl)(j:c:=by rfl)(k:d:=by rfl)(g':a':=by rfl)(i':b':=by rfl)(j':c':=by rfl)(k':d':=by rfl):(a∧b)∧(c∧d)∧(a'∧b')∧(c'∧d')∧h:=⟨⟨g,i⟩,⟨j,k⟩,⟨g',i'⟩,⟨j',k'⟩,x⟩
@[reducible] def tI:Ty:=.int .i64
@[reducible] def tIs:Ty:=.sl (.int .i64)
@[reducible] def X7:Ty:=.sl (.sl (.int .i64))
@[reducible] def tSs:Ty:=.sl .str
@[reducible] def tBd:Ty:=.pair .str (.pair tI tI)
@[reducible] def tSt:Ty:=.pair tI (.pair tI (.pair .expr tIs))
@[reducible] def dI:AK:=.dat false tI
@[reducible] def dS:AK:=.dat false .str
@[reducible] def dIs:AK:=.dat false tIs
@[reducible] def X8:AK:=.dat false X7
@[reducible] def dSs:AK:=.dat false tSs
@[reducible] def dX:AK:=.dat true .expr
@[reducible] def X9:AK:=.dat false (.sl tBd)
@[reducible] def dSt:AK:=.dat true tSt
@[reducible] def rB:List (Bool×Ty):=[(false,.bool)]
@[reducible] def rI:List (Bool×Ty):=[(false,tI)]
@[reducible] def rII:List (Bool×Ty):=[(false,tI),(false,tI)]
@[reducible] def Bd:Type:=ByteArray×Int×Int
@[reducible] def StT:Type:=Int×Int×ExprT×List Int
def Dp:List (TypeId×Ty):=[(3,tI),(4,.bool),(9,.str),(51,.expr),(31,tIs),(216,tBd)]
def cx0:Ctx:=⟨Dp,[]⟩
theorem Ah:Aj Tryz.prog cx0:=λ_ _ _ h=>by simp[cx0,Gg]at h
theorem Ad{P:Program}{ty:List (TypeId×Ty)}{g:FuncId}{C:Ctr}{tab:List (FuncId×(List Sh×Ctr))}(hg:GoodC P g C)(h:Aj P ⟨ty,tab⟩):Aj P ⟨ty,(g,([],C))::tab⟩:=by
 intro g' s C' h';simp only[Gg]at h';split at h'
 ·rename_i he;have:=bA he;subst this;cases h';exact hg
 ·exact h g' s C' h'
theorem C0{P:Program}{ty ty':List (TypeId×Ty)}{tab:List (FuncId×(List Sh×Ctr))}(h:Aj P ⟨ty,tab⟩):Aj P ⟨ty',tab⟩:=λg s C h'=>h g s C h'
theorem ex4{β:(ι:Type)->(ι->St)->(ι->Prop)->(ι->Nat)->Prop}(ι:Type)(S:ι->St)(I:ι->Prop)(μ:ι->Nat)(h:β ι S I μ):∃ι S I μ,β ι S I μ:=⟨ι,S,I,μ,h⟩
def orC(C D:Ctr):Ctr:=λargs=>match C args with
 |some r=>some r
 |none=>D args
theorem Sq{P:Program}{g:FuncId}{C D:Ctr}(h:GoodC P g C)(h':GoodC P g D):GoodC P g (orC C D):=by
 refine⟨h.fn,λargs r hr=>?_,λargs r gen hr=>?_⟩
 ·unfold orC at hr;split at hr
  ·rename_i x hx;cases hr;exact h.gen args _ hx
  ·exact h'.gen args _ hr
 ·unfold orC at hr;split at hr
  ·rename_i x hx;cases hr;exact h.calls args _ _ hx
  ·exact h'.calls args _ _ hr
theorem Pb{P:Program}{g:FuncId}{a:List AK}{r:List (Bool×Ty)}{need:AK.dens a->Prop}{f:AK.dens a->H5 r}(μ:AK.dens a->Nat)
 (h:∀N,GoodC P g (fnC a r (λy=>need y/\μ y<N) f)):GoodC P g (fnC a r need f):=by
 refine⟨(h 0).fn,λargs cg hC k hk=>?_,λargs cr gen hC hn=>?_⟩
 ·unfold fnC at hC;split at hC
  ·rename_i y hy;cases hC;simp only at hk;split at hk
   ·exact hk _ rfl
   ·exact hk
  ·cases hC
 ·unfold fnC at hC;split at hC
  ·rename_i y hy;cases hC;have hn':need y:=hn;exact(h (μ y+1)).calls args ⟨some (need y/\μ y<μ y+1),none,[],Fp r (f y)⟩ _ (by unfold fnC;rw[hy]) ⟨hn',eK _⟩
  ·cases hC
theorem Mj{α:Type}{p:α->Bool}{xs:List α}{i:Nat}{d:α}(h1:i<xs.length)(h:(xs.take i).any p=false)(hd:p (xs.getD i d)=false):(xs.take (i+1)).any p=false:=by
 rw[bS h1];simp only[eR,eW,gT,gO,aY,aQ h1,dC]at hd ⊢;rw[h,hd];rfl
theorem Pc{α:Type}{xs:List α}{i:Nat}{d:α}{p:α->Bool}(h1:i<xs.length)(h:p (xs.getD i d)=true):xs.any p=true:=by
 simp only[aY,aQ h1,dC]at h;exact fJ.2 ⟨_,cI h1,h⟩
theorem Ic{α:Type}{xs:List α}{i:Nat}{p:α->Bool}(h1:¬i<xs.length)(h:(xs.take i).any p=false):xs.any p=false:=by
 rw[bL (by omega)]at h;exact h
theorem Jw{α:Type}{xs ys:List α}{i:Nat}{d:α}(h1:i<xs.length)(h2:i<ys.length)(h:xs.take i=ys.take i)(hd:xs.getD i d=ys.getD i d):xs.take (i+1)=ys.take (i+1):=by
 rw[bS h1,bS h2,h];simp[aY,aQ h1,aQ h2]at hd;rw[hd]
mutual
def Gs:ExprT->Bool
 |.mk _ _ nm _ args=>decide (40<nm.size)||Sr args
def Sr:List ExprT->Bool
 |[]=>false
 |e::l=>Gs e||Sr l
end
theorem Rs:∀l:List ExprT,Sr l=l.any Gs
 |[]=>rfl
 |e::l=>by simp only[Sr,eW];rw[Rs l]
mutual
def F5:ExprT->Int->Int
 |.mk _ _ _ _ args,n=>Gt args (n+1)
def Gt:List ExprT->Int->Int
 |[],n=>n
 |e::l,n=>if 100<n then n else Gt l (F5 e n)
end
theorem eta(e:ExprT):ExprT.mk e.kind e.op e.name e.value e.args=e:=by cases e;rfl
noncomputable def exW(e:ExprT):Nat:=SizeOf.sizeOf e
theorem Lh{e:ExprT}{i:Nat}{d:ExprT}(h:i<e.args.length):exW (e.args.getD i d)<exW e:=by
 obtain⟨k,o,nm,v,args⟩:=e;have hm:args.getD i d∈args:=by
  have h':i<args.length:=h;simp[List.getD,h']
 have hl:=List.sizeOf_lt_of_mem hm;show SizeOf.sizeOf (args.getD i d)<SizeOf.sizeOf (ExprT.mk k o nm v args);generalize args.getD i d=x at hl ⊢;simp;omega
theorem Qr(e:ExprT):Gs e=(decide (40<e.name.size)||e.args.any Gs):=by
 obtain⟨k,o,nm,v,args⟩:=e;simp only[Gs,Rs]
theorem Wm(e:ExprT)(n:Int):F5 e n=Gt e.args (n+1):=by
 obtain⟨k,o,nm,v,args⟩:=e;rfl
mutual
theorem Pd:∀(e:ExprT)(n:Int),0<=n->n<=100->n<F5 e n/\F5 e n<=101
 |.mk _ _ _ _ args,n,h0,h1=>by
  simp only[F5];have:=N2 args (n+1) (by omega) (by omega);omega
theorem N2:∀(l:List ExprT)(n:Int),0<=n->n<=101->n<=Gt l n/\Gt l n<=101
 |[],n,h0,h1=>⟨cJ _,h1⟩
 |e::l,n,h0,h1=>by
  simp only[Gt];split
  ·exact⟨cJ _,h1⟩
  ·have h2:=Pd e n h0 (by omega);have h3:=N2 l (F5 e n) (by omega) h2.2;omega
end
theorem Pe{args:List ExprT}{i:Nat}{n:Int}{d:ExprT}(h:i<args.length):Gt (args.drop i) n=if 100<n then n else Gt (args.drop (i+1)) (F5 (args.getD i d) n):=by
 rw[cE h];simp[Gt,List.getD,h]
def c88(N:Nat):Ctr:=fnC [dX] rB (λy=>True/\exW y.1<N) (λy=>(Gs y.1,()))
def cxL(N:Nat):Ctx:=⟨Dp,[(160,([],c88 N))]⟩
theorem Ae4:∀N,GoodC Tryz.prog 160 (c88 N)
 |0=>by
  refine As Ah 3 _ _ _ _ ⟨_,Tryz.func160,rfl,rfl⟩ λy hn=>?_
  exact aS hn.2 (eF _)
 |N+1=>by
  refine As (cx:=cxL N) (Ad (Ae4 N) Ah) 3 _ _ _ _ ⟨_,Tryz.func160,rfl,rfl⟩ λ(⟨e,_⟩:ExprT×Unit) hn=>?_
  have hN:exW e<N+1:=hn.2;clear hn;refine(aF (aI (λh0=>(Aa rfl ?_)) (λh0=>?_)))
  ·have h0':decide (40<(e.name.size:Int))=true:=h0;have:40<e.name.size:=by have:=aM h0';omega
   show(Gs e,())=(true,());rw[Qr,aW this];rfl
  refine ex4 _ (λi:Nat=>⟨[.any,.ptr 0 0,.any,.int .i64 (i:Int)]++nA 17,[.cells   [.int .i64 e.kind,.int .i64 e.op,.str e.name,.int .i64 e.value,.sl .expr e.args]],1⟩) (λi=>i<=e.args.length/\(e.args.take i).any Gs=false) (λi=>e.args.length-i) (aI (eI (0) (eI ([some 0]) (aI ?_ (aB (aI (aG tT) (by rfl)))))) ?_)
  ·simp
  rintro i ⟨hi,ht⟩;refine(λk0=>(aI (λk1=>(aO (aI ?_ (aI (λk2=>(Aa rfl ?_)) (λk2=>(aO ?_)))))) (λk1=>(Aa rfl ?_))))
  ·refine⟨trivial, ?_⟩;have hi':i<e.args.length:=by simpa using k1
   show exW (ExprT.mk _ _ _ _ _)<N;rw[eta];exact bZ (Lh hi') (by omega)
  ·have hi':i<e.args.length:=by simpa using k1
   have hk:Gs (e.args.getD i (Ab .expr))=true:=by have h:=k2;simp only[eta]at h;exact h
   show(Gs e,())=(true,());rw[Qr,Pc hi' hk,Bool.or_true]
  ·have hi':i<e.args.length:=by simpa using k1
   have hk:Gs (e.args.getD i (Ab .expr))=false:=by have h:=k2;simp only[eta]at h;exact h
   refine eI (i+1) (eI ([some 0]) (aI ?_ (aI ?_ (aB (aI (aG tT) (by rfl))))))
   ·exact⟨hi',Mj hi' ht hk⟩
   ·show e.args.length-(i+1)<e.args.length-i;omega
  ·have h0':decide (40<(e.name.size:Int))=false:=h0;have:¬40<e.name.size:=by have:=aP h0';omega
   have e1:=Ic (by simpa using k1) ht;show(Gs e,())=(false,());rw[Qr,aZ this,e1];rfl
def c88A:Ctr:=fnC [dX] rB (λ_=>True) (λy=>(Gs y.1,()))
theorem Aj8:GoodC Tryz.prog 160 c88A:=Pb (λy=>exW y.1) Ae4
def Asw(N:Nat):Ctr:=fnC [dX,dI] rI (λy=>(0<=y.2.1/\y.2.1<=100)/\exW y.1<N) (λy=>(F5 y.1 y.2.1,()))
def cxZ(N:Nat):Ctx:=⟨Dp,[(196,([],Asw N))]⟩
theorem Aar:∀N,GoodC Tryz.prog 196 (Asw N)
 |0=>by
  refine As Ah 3 _ _ _ _ ⟨_,Tryz.func196,rfl,rfl⟩ λy hn=>?_
  exact aS hn.2 (eF _)
 |N+1=>by
  refine As (cx:=cxZ N) (Ad (Aar N) Ah) 3 _ _ _ _ ⟨_,Tryz.func196,rfl,rfl⟩ λ(⟨e,n,_⟩:ExprT×Int×Unit) hn=>?_
  have hN:exW e<N+1:=hn.2;have hn0:0<=n:=hn.1.1;have hn1:n<=100:=hn.1.2;clear hn;refine(aF (aO ?_));refine ex4 _ (λp:Nat×Int=>⟨[.any,.int .i64 p.2,.ptr 0 0,.any,.any,.int .i64 (p.1:Int)]++nA 20,[.cells   [.int .i64 e.kind,.int .i64 e.op,.str e.name,.int .i64 e.value,.sl .expr e.args]],1⟩) (λp=>p.1<=e.args.length/\0<=p.2/\p.2<=101/\Gt e.args (n+1)=Gt (e.args.drop p.1) p.2) (λp=>e.args.length-p.1) (aI (eI ((0,n+1)) (eI ([some 0]) (aI ?_ (aB (aI (aG tT) (by rfl)))))) ?_)
  ·simp;omega
  rintro⟨i,m⟩ ⟨hi,hm0,hm1,ht⟩;replace hm0:0<=m:=hm0;replace hm1:m<=101:=hm1;refine(λk0=>(aI (λk1=>(aI (λk2=>(Aa rfl ?_)) (λk2=>(aO (aI ?_ (aO ?_)))))) (λk1=>(Aa rfl ?_))))
  ·have hi':i<e.args.length:=by simpa using k1
   have hk:100<m:=by simpa using k2
   show(F5 e n,())=(m,());rw[Wm,ht,Pe (d:=Ab .expr) hi',aN hk]
  ·have hi':i<e.args.length:=by simpa using k1
   have hk:¬100<m:=by simpa using k2
   refine⟨⟨hm0,fB.1 hk⟩, ?_⟩;show exW (ExprT.mk _ _ _ _ _)<N;rw[eta];exact bZ (Lh hi') (by omega)
  ·have hi':i<e.args.length:=by simpa using k1
   have hk:¬100<m:=by simpa using k2
   refine eI ((i+1,F5 (ExprT.mk (e.args.getD i (Ab .expr)).kind (e.args.getD i (Ab .expr)).op (e.args.getD i (Ab .expr)).name (e.args.getD i (Ab .expr)).value (e.args.getD i (Ab .expr)).args) m)) (eI ([some 0]) (aI ?_ (aI ?_ (aB (aI (aG tT) (by rfl))))))
   ·rw[eta];obtain⟨hr1,hr2⟩:=Pd (e.args.getD i (Ab .expr)) m hm0 (by omega);refine⟨hi',Int.le_of_lt (Int.lt_of_le_of_lt hm0 hr1),hr2, ?_⟩;rw[ht,Pe (d:=Ab .expr) hi',aL hk]
   ·show e.args.length-(i+1)<e.args.length-i;omega
  ·have hi':¬i<e.args.length:=by simpa using k1
   show(F5 e n,())=(m,());rw[Wm,ht,bI (by omega)];rfl
def c123A:Ctr:=fnC [dX,dI] rI (λy=>0<=y.2.1/\y.2.1<=100) (λy=>(F5 y.1 y.2.1,()))
theorem Anq:GoodC Tryz.prog 196 c123A:=Pb (λy=>exW y.1) Aar
def Jo(e:ExprT):Int:=if 100<F5 e 0 then 101 else F5 e 0
def cxB:Ctx:=⟨Dp,[(160,([],c88A)),(196,([],c123A))]⟩
theorem Aj9:Aj Tryz.prog cxB:=Ad Aj8 (Ad Anq Ah)
def c87:Ctr:=fnC [dX] rI (λ_=>True) (λy=>(Jo y.1,()))
theorem Aqk:GoodC Tryz.prog 159 c87:=by
 refine As Aj9 3 _ _ _ _ ⟨_,Tryz.func159,rfl,rfl⟩ λ(⟨e,_⟩:ExprT×Unit) _=>?_
 refine(aF (aI ?_ (aI (λh0=>(Aa rfl ?_)) (λh0=>(Aa rfl ?_)))))
 ·exact⟨cJ (0:Int),(by decide:(0:Int)<=100)⟩
 ·have h:=h0;simp only[eta]at h;show(Jo e,())=(101,());rw[Jo,aN (aM h)]
 ·have h:=h0;simp only[eta]at h ⊢;show(Jo e,())=(F5 e 0,());rw[Jo,aL (aP h)]
def Ae5(e:ExprT):Bool:=bif bif decide (40<Jo e)then decide (Jo e<=100)else false then true else(bif decide (Jo e<=40)then Gs e else false)
def cxB1:Ctx:=⟨Dp,[(159,([],c87)),(160,([],c88A))]⟩
theorem Ag9:Aj Tryz.prog cxB1:=Ad Aqk (Ad Aj8 Ah)
def c63:Ctr:=fnC [dX] rB (λ_=>True) (λy=>(Ae5 y.1,()))
theorem Aql:GoodC Tryz.prog 105 c63:=by
 refine As Ag9 3 _ _ _ _ ⟨_,Tryz.func105,rfl,rfl⟩ λ(⟨e,_⟩:ExprT×Unit) _=>?_
 refine(aF (aI tT (aI (λh0=>tT) (Aa rfl (by(simp only[eta];rfl))))))
def Ae6(t:StT):Bool:=bif bif Ae5 t.2.2.1 then true else(bif decide (40<(t.2.2.2.length:Int))then decide ((t.2.2.2.length:Int)<=200)else false)then true else decide (210<(t.2.2.2.length:Int))
def cxB2:Ctx:=⟨Dp,[(105,([],c63))]⟩
theorem Aha:Aj Tryz.prog cxB2:=Ad Aql Ah
def c29:Ctr:=fnC [dSt] rB (λ_=>True) (λy=>(Ae6 y.1,()))
theorem Aqm:GoodC Tryz.prog 63 c29:=by
 refine As Aha 3 _ _ _ _ ⟨_,Tryz.func63,rfl,rfl⟩ λ(⟨⟨k,z,e,l⟩,_⟩:StT×Unit) _=>?_
 refine(aF (aI tT (λh0=>(λh1=>(λh2=>(Aa rfl (by(simp only[eta];rfl))))))))
def Am{α:Type}(p:α->Bool):List α->Int->Int
 |[],_=>-1
 |x::l,i=>if p x then i else Am p l (i+1)
theorem A0{α:Type}(p:α->Bool)(d:α)(xs:List α)(i:Nat)(h:i<xs.length):Am p (xs.drop i) i=if p (xs.getD i d)then(i:Int)else Am p (xs.drop (i+1)) ((i+1:Nat):Int):=by
 rw[cE h];simp[Am,aQ h]
theorem Dq{α:Type}(p:α->Bool):∀(xs:List α)(i:Int),0<=i->(decide (0<=Am p xs i))=xs.any p
 |[],i,h=>rfl
 |x::l,i,h=>by
  unfold Am;cases hp:p x<;>simp[hp]
  ·exact Dq p l (i+1) (by omega)
  ·exact h
def Ki(x:Int):Bool:=bif decide (-1099511627776<=x)then decide (x<=1099511627776)else false
def Ak(x:Int):Bool:=!Ki x
def A6(l:List Int):Bool:=decide (200<(l.length:Int))
def c43:Ctr:=fnC [dI] rB (λ_=>True) (λy=>(Ki y.1,()))
theorem Ya:GoodC Tryz.prog 129 c43:=by
 refine As Ah 3 _ _ _ _ ⟨_,Tryz.func129,rfl,rfl⟩ λ(⟨a,_⟩:Int×Unit) _=>?_
 refine(aF (Aa rfl (by rfl)))
def cxC:Ctx:=⟨Dp,[(129,([],c43))]⟩
theorem Ui:Aj Tryz.prog cxC:=Ad Ya Ah
def c42:Ctr:=fnC [dI] rB (λ_=>True) (λy=>(Ak y.1,()))
theorem Aqn:GoodC Tryz.prog 139 c42:=by
 refine As Ui 3 _ _ _ _ ⟨_,Tryz.func139,rfl,rfl⟩ λ(⟨a,_⟩:Int×Unit) _=>?_
 refine(aF (aI tT (Aa rfl (by rfl))))
def c52:Ctr:=fnC [dI] rB (λ_=>True) (λy=>(Ak y.1,()))
theorem Aqo:GoodC Tryz.prog 128 c52:=by
 refine As Ui 3 _ _ _ _ ⟨_,Tryz.func128,rfl,rfl⟩ λ(⟨a,_⟩:Int×Unit) _=>?_
 refine(aF (aI tT (Aa rfl (by rfl))))
def c90:Ctr:=fnC [dI] rB (λ_=>True) (λy=>(Ak y.1,()))
theorem Aqp:GoodC Tryz.prog 191 c90:=by
 refine As Ui 3 _ _ _ _ ⟨_,Tryz.func191,rfl,rfl⟩ λ(⟨a,_⟩:Int×Unit) _=>?_
 refine(aF (aI tT (Aa rfl (by rfl))))
def c46:Ctr:=fnC [dIs] rB (λ_=>True) (λy=>(A6 y.1,()))
theorem Aqq:GoodC Tryz.prog 143 c46:=by
 refine As Ah 3 _ _ _ _ ⟨_,Tryz.func143,rfl,rfl⟩ λ(⟨a,_⟩:List Int×Unit) _=>?_
 refine(aF (λh0=>(Aa rfl (by rfl))))
def cxD:Ctx:=⟨Dp,[(139,([],c42)),(128,([],c52)),(191,([],c90)),(143,([],c46))]⟩
theorem Pf:Aj Tryz.prog cxD:=Ad Aqn (Ad Aqo (Ad Aqp (Ad Aqq Ah)))
def c73x42:Ctr:=fnC [dIs,.fn 139 [] []] rI (λ_=>True) (λy=>(Am Ak y.1 0,()))
theorem Ahb:GoodC Tryz.prog 151 c73x42:=by
 refine As Pf 3 _ _ _ _ ⟨_,Tryz.func151,rfl,rfl⟩ λ(⟨xs,_⟩:List Int×_×Unit) _=>?_
 refine(aF (λh0=>?_));refine ex4 _ (λi:Nat=>⟨[.sl (.int .i64) xs,.fn (Fn.func 139) [] [],.any,.any,.any,.any,.sl (.int .i64) xs,.int .i64 (↑xs.length:Int),.int .i64 (i:Int),.any,.any,.any,.any,.any,.any,.any,.any,.any,.any],[],0⟩) (λi=>i<=xs.length/\Am Ak xs 0=Am Ak (xs.drop i) i) (λi=>xs.length-i) (aI (eI (0) (eI ([]) (aI ?_ (aB (aI tT (by rfl)))))) ?_)
 ·exact⟨aV _,rfl⟩
 rintro i ⟨hi,ht⟩;refine(aI (λk0=>(aO (aI tT (aI (λk1=>(Aa rfl ?_)) (λk1=>(aO ?_)))))) (λk0=>(Aa rfl ?_)))
 ·have hi':i<xs.length:=by simpa using k0
  have hk:Ak (xs.getD i (Ab tI))=true:=k1;rw[A0 _ (Ab tI) _ _ hi',aN hk]at ht;show(Am Ak xs 0,())=(_,());rw[ht]
 ·have hi':i<xs.length:=by simpa using k0
  have hk:Ak (xs.getD i (Ab tI))=false:=k1;rw[A0 _ (Ab tI) _ _ hi',aL (by rw[hk];simp)]at ht;refine eI (i+1) (eI ([]) (aI ?_ (aI ?_ (aB (aI tT (by rfl))))))
  ·exact⟨hi',ht⟩
  ·show xs.length-(i+1)<xs.length-i;omega
 ·have hi':¬i<xs.length:=by simpa using k0
  rw[bI (by omega)]at ht;show(Am Ak xs 0,())=(_,());rw[ht];rfl
def c73x52:Ctr:=fnC [dIs,.fn 128 [] []] rI (λ_=>True) (λy=>(Am Ak y.1 0,()))
theorem Ahc:GoodC Tryz.prog 151 c73x52:=by
 refine As Pf 3 _ _ _ _ ⟨_,Tryz.func151,rfl,rfl⟩ λ(⟨xs,_⟩:List Int×_×Unit) _=>?_
 refine(aF (λh0=>?_));refine ex4 _ (λi:Nat=>⟨[.sl (.int .i64) xs,.fn (Fn.func 128) [] [],.any,.any,.any,.any,.sl (.int .i64) xs,.int .i64 (↑xs.length:Int),.int .i64 (i:Int),.any,.any,.any,.any,.any,.any,.any,.any,.any,.any],[],0⟩) (λi=>i<=xs.length/\Am Ak xs 0=Am Ak (xs.drop i) i) (λi=>xs.length-i) (aI (eI (0) (eI ([]) (aI ?_ (aB (aI tT (by rfl)))))) ?_)
 ·exact⟨aV _,rfl⟩
 rintro i ⟨hi,ht⟩;refine(aI (λk0=>(aO (aI tT (aI (λk1=>(Aa rfl ?_)) (λk1=>(aO ?_)))))) (λk0=>(Aa rfl ?_)))
 ·have hi':i<xs.length:=by simpa using k0
  have hk:Ak (xs.getD i (Ab tI))=true:=k1;rw[A0 _ (Ab tI) _ _ hi',aN hk]at ht;show(Am Ak xs 0,())=(_,());rw[ht]
 ·have hi':i<xs.length:=by simpa using k0
  have hk:Ak (xs.getD i (Ab tI))=false:=k1;rw[A0 _ (Ab tI) _ _ hi',aL (by rw[hk];simp)]at ht;refine eI (i+1) (eI ([]) (aI ?_ (aI ?_ (aB (aI tT (by rfl))))))
  ·exact⟨hi',ht⟩
  ·show xs.length-(i+1)<xs.length-i;omega
 ·have hi':¬i<xs.length:=by simpa using k0
  rw[bI (by omega)]at ht;show(Am Ak xs 0,())=(_,());rw[ht];rfl
def c73x90:Ctr:=fnC [dIs,.fn 191 [] []] rI (λ_=>True) (λy=>(Am Ak y.1 0,()))
theorem Ahd:GoodC Tryz.prog 151 c73x90:=by
 refine As Pf 3 _ _ _ _ ⟨_,Tryz.func151,rfl,rfl⟩ λ(⟨xs,_⟩:List Int×_×Unit) _=>?_
 refine(aF (λh0=>?_));refine ex4 _ (λi:Nat=>⟨[.sl (.int .i64) xs,.fn (Fn.func 191) [] [],.any,.any,.any,.any,.sl (.int .i64) xs,.int .i64 (↑xs.length:Int),.int .i64 (i:Int),.any,.any,.any,.any,.any,.any,.any,.any,.any,.any],[],0⟩) (λi=>i<=xs.length/\Am Ak xs 0=Am Ak (xs.drop i) i) (λi=>xs.length-i) (aI (eI (0) (eI ([]) (aI ?_ (aB (aI tT (by rfl)))))) ?_)
 ·exact⟨aV _,rfl⟩
 rintro i ⟨hi,ht⟩;refine(aI (λk0=>(aO (aI tT (aI (λk1=>(Aa rfl ?_)) (λk1=>(aO ?_)))))) (λk0=>(Aa rfl ?_)))
 ·have hi':i<xs.length:=by simpa using k0
  have hk:Ak (xs.getD i (Ab tI))=true:=k1;rw[A0 _ (Ab tI) _ _ hi',aN hk]at ht;show(Am Ak xs 0,())=(_,());rw[ht]
 ·have hi':i<xs.length:=by simpa using k0
  have hk:Ak (xs.getD i (Ab tI))=false:=k1;rw[A0 _ (Ab tI) _ _ hi',aL (by rw[hk];simp)]at ht;refine eI (i+1) (eI ([]) (aI ?_ (aI ?_ (aB (aI tT (by rfl))))))
  ·exact⟨hi',ht⟩
  ·show xs.length-(i+1)<xs.length-i;omega
 ·have hi':¬i<xs.length:=by simpa using k0
  rw[bI (by omega)]at ht;show(Am Ak xs 0,())=(_,());rw[ht];rfl
def c71x46:Ctr:=fnC [X8,.fn 143 [] []] rI (λ_=>True) (λy=>(Am A6 y.1 0,()))
theorem Ahe:GoodC Tryz.prog 188 c71x46:=by
 refine As Pf 3 _ _ _ _ ⟨_,Tryz.func188,rfl,rfl⟩ λ(⟨xs,_⟩:List (List Int)×_×Unit) _=>?_
 refine(aF (λh0=>?_));refine ex4 _ (λi:Nat=>⟨[.sl (.sl (.int .i64)) xs,.fn (Fn.func 143) [] [],.any,.any,.any,.any,.sl (.sl (.int .i64)) xs,.int .i64 (↑xs.length:Int),.int .i64 (i:Int),.any,.any,.any,.any,.any,.any,.any,.any,.any,.any],[],0⟩) (λi=>i<=xs.length/\Am A6 xs 0=Am A6 (xs.drop i) i) (λi=>xs.length-i) (aI (eI (0) (eI ([]) (aI ?_ (aB (aI tT (by rfl)))))) ?_)
 ·exact⟨aV _,rfl⟩
 rintro i ⟨hi,ht⟩;refine(aI (λk0=>(aO (aI tT (aI (λk1=>(Aa rfl ?_)) (λk1=>(aO ?_)))))) (λk0=>(Aa rfl ?_)))
 ·have hi':i<xs.length:=by simpa using k0
  have hk:A6 (xs.getD i (Ab tIs))=true:=k1;rw[A0 _ (Ab tIs) _ _ hi',aN hk]at ht;show(Am A6 xs 0,())=(_,());rw[ht]
 ·have hi':i<xs.length:=by simpa using k0
  have hk:A6 (xs.getD i (Ab tIs))=false:=k1;rw[A0 _ (Ab tIs) _ _ hi',aL (by rw[hk];simp)]at ht;refine eI (i+1) (eI ([]) (aI ?_ (aI ?_ (aB (aI tT (by rfl))))))
  ·exact⟨hi',ht⟩
  ·show xs.length-(i+1)<xs.length-i;omega
 ·have hi':¬i<xs.length:=by simpa using k0
  rw[bI (by omega)]at ht;show(Am A6 xs 0,())=(_,());rw[ht];rfl
def c73:Ctr:=orC c73x42 (orC c73x52 c73x90)
def c71:Ctr:=c71x46
def cxE:Ctx:=⟨Dp,[(151,([],c73)),(188,([],c71))]⟩
theorem Pg:Aj Tryz.prog cxE:=Ad (Sq Ahb (Sq Ahc Ahd)) (Ad Ahe Ah)
def c41x42:Ctr:=fnC [dIs,.fn 139 [] []] rB (λ_=>True) (λy=>(y.1.any Ak,()))
theorem Ahf:GoodC Tryz.prog 98 c41x42:=by
 refine As Pg 3 _ _ _ _ ⟨_,Tryz.func98,rfl,rfl⟩ λ(⟨xs,_⟩:List Int×_×Unit) _=>?_
 refine(aF (aI tT (Aa rfl ?_)));show(xs.any Ak,())=_;rw[<-Dq Ak xs 0 (cJ _)]
def c41x52:Ctr:=fnC [dIs,.fn 128 [] []] rB (λ_=>True) (λy=>(y.1.any Ak,()))
theorem Ahg:GoodC Tryz.prog 98 c41x52:=by
 refine As Pg 3 _ _ _ _ ⟨_,Tryz.func98,rfl,rfl⟩ λ(⟨xs,_⟩:List Int×_×Unit) _=>?_
 refine(aF (aI tT (Aa rfl ?_)));show(xs.any Ak,())=_;rw[<-Dq Ak xs 0 (cJ _)]
def c41x90:Ctr:=fnC [dIs,.fn 191 [] []] rB (λ_=>True) (λy=>(y.1.any Ak,()))
theorem Ahh:GoodC Tryz.prog 98 c41x90:=by
 refine As Pg 3 _ _ _ _ ⟨_,Tryz.func98,rfl,rfl⟩ λ(⟨xs,_⟩:List Int×_×Unit) _=>?_
 refine(aF (aI tT (Aa rfl ?_)));show(xs.any Ak,())=_;rw[<-Dq Ak xs 0 (cJ _)]
def c37x46:Ctr:=fnC [X8,.fn 143 [] []] rB (λ_=>True) (λy=>(y.1.any A6,()))
theorem Ahi:GoodC Tryz.prog 142 c37x46:=by
 refine As Pg 3 _ _ _ _ ⟨_,Tryz.func142,rfl,rfl⟩ λ(⟨xs,_⟩:List (List Int)×_×Unit) _=>?_
 refine(aF (aI tT (Aa rfl ?_)));show(xs.any A6,())=_;rw[<-Dq A6 xs 0 (cJ _)]
def c41:Ctr:=orC c41x42 (orC c41x52 c41x90)
def c37:Ctr:=c37x46
theorem Yb:GoodC Tryz.prog 98 c41:=Sq Ahf (Sq Ahg Ahh)
theorem Aqr:GoodC Tryz.prog 142 c37:=Ahi
open Go.RowKit
def Nd(c:Int)(pos:Nat):Bool:=
 bif !(bif decide (97<=c)then decide (c<=122)else false)then
  (bif decide ((pos:Int)=0)then true else(bif !decide (c=95)then(bif decide (c<48)then true else decide (57<c))else false))else false
def Hp(s:ByteArray):Nat->Nat->Bool
 |0,_=>true
 |b+1,pos=>if pos<s.size then(if Nd (Utf8.decode s pos).1 pos then false else Hp s b (pos+(Utf8.decode s pos).2))else true
def Ph(s:ByteArray):Bool:=bif Hp s s.size 0 then(bif decide (1<=(s.size:Int))then decide ((s.size:Int)<=30)else false)else false
theorem Ahj(s:ByteArray)(pos:Nat)(h:pos<s.size):1<=(Utf8.decode s pos).2:=by
 by_cases ha:(s[pos]'h).toNat<128
 ·rw[decode_ascii s pos h ha];exact bB _
 ·exact(decode_high s pos h (by omega)).2
theorem Aas(s:ByteArray)(b pos:Nat)(h:¬pos<s.size):Hp s b pos=true:=by
 cases b with
 |zero=>rfl
 |succ b=>simp[Hp,h]
set_option maxRecDepth 1000000 in
theorem Anr(c:Int)(w:World):Calls Tryz.prog 281 #[.int .i32 c] w λe w'=>e=.returned (.bool (bif decide (97<=c)then decide (c<=122)else false))/\w'=w:=by
 go_enter Tryz.func281,Tryz.ntmps281
 go_wp2
 all_goals
  go_ret
  refine⟨?_,rfl⟩;by_cases h1:97<=c<;>by_cases h2:c<=122<;>simp[h1,h2]<;>omega
set_option maxRecDepth 1000000 in
set_option maxHeartbeats 1000000 in
theorem Ans(s:ByteArray)(w:World):
 Calls Tryz.prog 249 #[.string s] w λe w'=>e=.returned (.bool (Ph s))/\∃pos,w'=w.iter s pos:=by
 go_enter Tryz.func249,Tryz.ntmps249
 go_wp2
 go_loopw [] (λw'=>∃(pos b:Nat),w'=w.iter s pos/\Hp s b pos=Hp s s.size 0/\s.size<=pos+b) (λw'=>s.size-w'.iterPos w.heap.size)
 case atStart=>exact⟨0,s.size,rfl,rfl,by omega⟩
 case round=>
  obtain⟨pos,b,rfl,hc,hb⟩:=hrel;by_cases hp:pos<s.size
  ·have hnx:∀ty,(Instr.next (.pointer (some ⟨w.heap.size,0,none⟩)) true ty).run Tryz.prog (w.iter s pos)=_:=λty=>run_next_any w s pos ty hp
   generalize hwc:(Utf8.decode s pos).1=c at hnx;generalize hww:(Utf8.decode s pos).2=wd at hnx;have hwd:1<=wd:=by rw[<-hww];exact Ahj s pos hp
   cases b with
   |zero=>omega
   |succ b=>
   have hc':(if Nd c pos then false else Hp s b (pos+wd))=Hp s s.size 0:=by
    rw[<-hc];simp only[Hp,aN hp,hwc,hww]
   have hB:Nd c pos=(!(decide (97<=(c:Int))&&decide ((c:Int)<=122))&&(decide (pos=0)||(!decide ((c:Int)=95)&&(decide ((c:Int)<48)||decide (57<(c:Int)))))):=by
    unfold Nd;simp[fK]
    grind
   go_wp2_with (go_at_call 281;refine(Anr _ _).mono ?_;rintro e w' ⟨rfl,rfl⟩)
   all_goals first
    |(exfalso;simp_all;done)
    |(exfalso;simp_all;omega)
    | (have hbad:Nd c pos=false:=by
        rw[hB];simp_all
        try omega
       rw[hbad]at hc';refine⟨⟨pos+wd,b,rfl,by simpa using hc',by omega⟩,by simp;omega⟩)
    | (have hbad:Nd c pos=true:=by
        rw[hB];simp_all
        try omega
       rw[hbad]at hc'
       go_ret
       have hf:Hp s s.size 0=false:=by simpa using hc'.symm
       refine⟨?_,_,rfl⟩;unfold Ph;rw[hf];rfl)
  ·have hnx:∀ty,(Instr.next (.pointer (some ⟨w.heap.size,0,none⟩)) true ty).run Tryz.prog (w.iter s pos)=_:=λty=>run_next_end w s pos ty hp
   rw[Aas s b pos hp]at hc;replace hc:=hc.symm
   go_wp2
   all_goals
    go_ret
    refine⟨?_,_,rfl⟩;unfold Ph;rw[hc];simp[fK]
    try grind
theorem Aka{P:Program}{g:FuncId}{f:ByteArray->Bool}(hfn:∃fn,P.funcs[g]?=some fn/\fn.body.isSome=true/\(fn.name == "runtime.NumGoroutine")=false)
 (h:∀s w,Calls P g #[.string s] w λe w'=>e=.returned (.bool (f s))/\Below w.heap.size w w'):GoodC P g (fnC [dS] rB (λ_=>True) (λy=>(f y.1,()))):=by
 refine⟨hfn,λargs cg hC k hk=>?_,λargs cr gen hC hn w F0 vs hF hsz hrd=>?_⟩
 ·unfold fnC at hC;split at hC
  ·cases hC;exact hk
  ·cases hC
 ·unfold fnC at hC;split at hC
  ·rename_i y hy;cases hC;obtain⟨e,hall⟩:=Hv (E:=Env.base w F0) [dS] args y hy;have h1:=hall hrd;obtain⟨vs⟩:=vs;have hl:vs.length=1:=by
    have:args.length=1:=by rw[<-e];rfl
    simpa[this]using hsz
   match vs,hl with
   |[v],_=>
   obtain⟨s,u⟩:=y;have hv:RdA (Env.base w F0) v (.str s):=h1 0 v _ rfl rfl [v] (λi u hu=>by simpa using hu) e;have hvs:v=.string s:=by cases hv;rfl
   subst hvs;refine(h s w).mono ?_;rintro e w' ⟨rfl,hb⟩;exact⟨trivial,_,λ_=>none,λ_ _=>none,rfl,hb,.bool _,λj ob hj=>by simp at hj,λj h hj=>by simp at hj,λj j' h h' hj=>by simp at hj⟩
  ·cases hC
def c131:Ctr:=fnC [dS] rB (λ_=>True) (λy=>(Ph y.1,()))
theorem Ae7:GoodC Tryz.prog 249 c131:=Aka ⟨_,Tryz.func249,rfl,rfl⟩ λs w=>(Ans s w).mono λe w' ⟨h1,pos,h2⟩=>⟨h1,by subst h2;exact(Below.refl _ _).alloc (bB _) _⟩
def Kj(s:ByteArray)(a b c:Int):List (Option PV):=[some (.str s),some (.int .i64 a),some (.int .i64 b),some (.int .i64 c),none]
def Uj:List (Int×List (Option PV)):=[(3,Kj ⟨#[43]⟩ 4 1 1),(4,Kj ⟨#[45]⟩ 4 1 1),(5,Kj ⟨#[42]⟩ 5 1 1),(6,Kj ⟨#[47]⟩ 5 1 1),(7,Kj ⟨#[37]⟩ 5 1 1),(8,Kj ⟨#[61,61]⟩ 3 0 2),(9,Kj ⟨#[33,61]⟩ 3 0 2),(10,Kj ⟨#[60]⟩ 3 1 2),(11,Kj ⟨#[60,61]⟩ 3 1 2),(12,Kj ⟨#[62]⟩ 3 1 2),(13,Kj ⟨#[62,61]⟩ 3 1 2),(14,Kj ⟨#[38,38]⟩ 2 2 2),(15,Kj ⟨#[124,124]⟩ 1 2 2)]
def c130:Ctr:=λargs=>match args with
 |[]=>some ⟨⟨none,none,[],.dmp Uj⟩,λk=>k (.dmp Uj)⟩
 |_=>none
theorem Ant{tab:List (Int×List (Option PV))}{es:List (Int×AV)}{k:Nat}{H:List Ob}{n:Nat}(h:Ac H k=.fmap es)(hz:Tg es=some tab):Hz ⟨none,none,[],.dmp tab⟩ (.mp k) H n:=by
 refine⟨trivial,rfl,[k],[], ?_,rfl,trivial,by simp[Sx.distinct,Sx.keeps]⟩;have:frV [k] H (.mp k)=.dmp tab:=by
  simp only[frV,Agm,h,hz];simp
 rw[this];rfl
theorem Aqs:Nu cx0 Tryz.prog 6 248 [] [] 0 (Hz ⟨none,none,[],.dmp Uj⟩):=by
 refine(aF (aF (aF (aF (aF (aF (aF (aF (aF (aF (aF (aF (aF (aF (aF (aF (aF (aF (aF (aF (aF ?_)))))))))))))))))))));exact Ant (k:=0) rfl rfl
theorem Ae8:GoodC Tryz.prog 248 c130:=by
 obtain⟨C,hg,hC⟩:=M9 Ah 6 ⟨_,Tryz.func248,rfl,rfl⟩ [] ⟨none,none,[],.dmp Uj⟩ Aqs;refine⟨hg.fn,λargs cg h k hk=>?_,λargs cr gen h hn=>?_⟩
 ·unfold c130 at h;split at h
  ·cases h;exact hk
  ·cases h
 ·unfold c130 at h;split at h
  ·cases h;exact hg.calls [] _ _ hC trivial
  ·cases h
def Nf(o:Int):Bool:=N6 o (Vi Uj)
def cxN:Ctx:=⟨Dp,[(249,([],c131)),(248,([],c130))]⟩
theorem Akb:Aj Tryz.prog cxN:=Ad Ae7 (Ad Ae8 Ah)
def Yc(e:ExprT):Bool:=
 bif bif bif !decide ((if e.kind=1\/e.kind=2 then e.op else 0)=0)then true else !decide ((if e.kind=2 then⟨#[]⟩else e.name)=(⟨#[]⟩:ByteArray))then true
  else !decide ((if e.kind=1 then 0 else e.value)=0)then true else !decide ((e.args.length:Int)=[0,0,0,1,2].getD e.kind.toNat 0)
def Fa(e:ExprT):Int:=
 if(bif decide (e.kind<1)then true else decide (4<e.kind))=true then 8
 else if Yc e=true then 1
 else if(bif decide (e.kind=1)then bif decide (e.value<0)then true else decide (1099511627776<e.value)else false)=true then 2
 else if(bif decide (e.kind=2)then !Ph e.name else false)=true then 5
 else if(bif bif bif decide (e.kind=3)then !decide (e.op=1)else false then !decide (e.op=2)else false then true else bif decide (e.kind=4)then !Nf e.op else false)=true then 8
 else 0
def c112:Ctr:=fnC [dX] rI (λ_=>True) (λy=>(Fa y.1,()))
set_option maxHeartbeats 4000000 in
theorem Anu:GoodC Tryz.prog 220 c112:=by
 refine As Akb 6 _ _ _ _ ⟨_,Tryz.func220,rfl,rfl⟩ λ(⟨e,_⟩:ExprT×Unit) _=>?_
 refine(aF (aI (λh0=>(Aa rfl ?_)) (λh0=>(aF (aO (aI (λh1=>(λh2=>(aI (λh3=>(Aa rfl ?_)) (λh3=>(aF (aI (λh4=>(Aa rfl ?_)) (λh4=>(aI (λh5=>tT) (aI (λh6=>(Aa rfl ?_)) (λh6=>(aI (λh7=>(Aa rfl ?_)) (λh7=>(Aa rfl ?_))))))))))))) (λh1=>(aI (λh8=>(λh9=>(aI (λh10=>(Aa rfl ?_)) (λh10=>(aF (aI (λh11=>(Aa rfl ?_)) (λh11=>(aI (λh12=>tT) (aI (λh13=>(Aa rfl ?_)) (λh13=>(aI (λh14=>(Aa rfl ?_)) (λh14=>(Aa rfl ?_))))))))))))) (λh8=>(λh15=>(aI (λh16=>(Aa rfl ?_)) (λh16=>(aF (aI (λh17=>(Aa rfl ?_)) (λh17=>(aI (λh18=>tT) (aI (λh19=>(Aa rfl ?_)) (λh19=>(aI (λh20=>(Aa rfl ?_)) (λh20=>(Aa rfl ?_)))))))))))))))))))))
 all_goals
  obtain⟨k,o,nm,v,args⟩:=e;show(Fa _,())=_;simp only[Fa,Yc,Nf,Ab,fK]at *;generalize N6 o (Vi Uj)=b at *;generalize Ph nm=c at *;generalize List.getD [0,0,0,1,2] k.toNat (0:Int)=w at *
  grind
@[reducible] def Aui:List (Bool×Ty):=[(true,tBd),(false,.bool)]
def Dg(a:Int):Int:=if 0-a>a then 0-a else a
def c139:Ctr:=fnC [dI] rI (λy=>-9223372036854775807<=y.1/\y.1<=9223372036854775807) (λy=>(Dg y.1,()))
theorem Ae9:GoodC Tryz.prog 294 c139:=by
 refine As Ah 3 _ _ _ _ ⟨_,Tryz.func294,rfl,rfl⟩ λ(⟨a,_⟩:Int×Unit) hn=>?_
 have hn1:-9223372036854775807<=a:=hn.1;have hn2:a<=9223372036854775807:=hn.2;clear hn;refine(aF (aI (by(show inK .i64 (0-a);simp only[inK];omega)) (Aa rfl (by rfl))))
def c171:Ctr:=fnC [.dat true tBd,.eptr .str] rB (λ_=>True) (λy=>(decide (y.1.1=y.2.1),()))
theorem Anv:GoodC Tryz.prog 292 c171:=by
 refine As Ah 3 _ _ _ _ ⟨_,Tryz.func292,rfl,rfl⟩ λ(⟨⟨nm,t,v⟩,s,_⟩:Bd×ByteArray×Unit) _=>?_
 refine(aF (Aa rfl (by rfl)))
def Kk(s:ByteArray)(b:Bd):Bool:=decide (b.1=s)
def cxF:Ctx:=⟨Dp,[(292,([],c171))]⟩
theorem Akc:Aj Tryz.prog cxF:=Ad Anv Ah
def c170:Ctr:=fnC [X9,.fn 292 [] [.eptr .str]] rI (λ_=>True) (λy=>(Am (Kk y.2.1.2.1) y.1 0,()))
theorem Anw:GoodC Tryz.prog 291 c170:=by
 refine As Akc 3 _ _ _ _ ⟨_,Tryz.func291,rfl,rfl⟩ λ(⟨xs,⟨_,s,_⟩,_⟩:List Bd×(Unit×ByteArray×Unit)×Unit) _=>?_
 refine(aF (λh0=>?_));refine ex4 _ (λi:Nat=>⟨[.sl tBd xs,.fn (Fn.func 292) [] [.eptr [PV.str s]],.any,.any,.any,.any,.sl tBd xs,.int .i64 (↑xs.length:Int),.int .i64 (i:Int),.any,.any,.any,.any,.any,.any,.any,.any,.any,.any],[],0⟩) (λi=>i<=xs.length/\Am (Kk s) xs 0=Am (Kk s) (xs.drop i) i) (λi=>xs.length-i) (aI (eI (0) (eI ([]) (aI ?_ (aB (aI tT (by rfl)))))) ?_)
 ·exact⟨aV _,rfl⟩
 rintro i ⟨hi,ht⟩;refine(aI (λk0=>(aO (aI tT (aI (λk1=>(Aa rfl ?_)) (λk1=>(aO ?_)))))) (λk0=>(Aa rfl ?_)))
 ·have hi':i<xs.length:=by simpa using k0
  have hk:Kk s (xs.getD i (Ab tBd))=true:=k1;rw[A0 _ (Ab tBd) _ _ hi',aN hk]at ht;show(Am (Kk s) xs 0,())=(_,());rw[ht]
 ·have hi':i<xs.length:=by simpa using k0
  have hk:Kk s (xs.getD i (Ab tBd))=false:=k1;rw[A0 _ (Ab tBd) _ _ hi',aL (by rw[hk];simp)]at ht;refine eI (i+1) (eI ([]) (aI ?_ (aI ?_ (aB (aI tT (by rfl))))))
  ·exact⟨hi',ht⟩
  ·show xs.length-(i+1)<xs.length-i;omega
 ·have hi':¬i<xs.length:=by simpa using k0
  rw[bI (by omega)]at ht;show(Am (Kk s) xs 0,())=(_,());rw[ht];rfl
theorem Of{α:Type}(p:α->Bool):∀(xs:List α)(i:Int),0<=i->Am p xs i<i+xs.length
 |[],i,h=>by simp only[Am,List.length_nil];omega
 |x::l,i,h=>by
  have:=Of p l (i+1) (by omega);simp only[Am,List.length_cons];split<;>omega
def C3(xs:List Bd)(s:ByteArray):Bd×Bool:=if decide (Am (Kk s) xs 0<0)=true then((⟨#[]⟩,0,0),false)else(xs.getD (Am (Kk s) xs 0).toNat (Ab tBd),true)
def cxG:Ctx:=⟨Dp,[(291,([],c170))]⟩
theorem Akd:Aj Tryz.prog cxG:=Ad Anw Ah
def c134:Ctr:=fnC [X9,dS] Aui (λ_=>True) (λy=>((C3 y.1 y.2.1).1,(C3 y.1 y.2.1).2,()))
theorem Afa:GoodC Tryz.prog 251 c134:=by
 refine As Akd 3 _ _ _ _ ⟨_,Tryz.func251,rfl,rfl⟩ λ(⟨xs,s,_⟩:List Bd×ByteArray×Unit) _=>?_
 refine(aF (aI tT (aI (λh0=>(Aa rfl ?_)) (λh0=>(aI ?_ (Aa rfl ?_))))))
 ·show((C3 xs s).1,(C3 xs s).2,())=_;unfold C3;rw[aN h0]
 ·have h1:¬Am (Kk s) xs 0<0:=aP h0;have h2:=Of (Kk s) xs 0 (cJ _);have h3:0<=Am (Kk s) xs 0:=by omega
  have h4:Am (Kk s) xs 0<(xs.length:Int):=by omega
  exact⟨h3,h4⟩
 ·show((C3 xs s).1,(C3 xs s).2,())=_;have h1:¬decide (Am (Kk s) xs 0<0)=true:=by rw[show decide (Am (Kk s) xs 0<0)=false from h0];simp
  unfold C3;rw[aL h1]
def Ch(a b:Int):Int×Int:=if(bif !decide (b=0)then decide ((1099511627776:Int).tdiv (Dg b)<Dg a)else false)=true then(0,14)else(a*b,0)
theorem Hg(a:Int):(Dg a=a/\0<=a)\/(Dg a=-a/\a<0):=by unfold Dg;split<;>omega
theorem Rt{a b:Int}(h:(bif !decide (b=0)then decide ((1099511627776:Int).tdiv (Dg b)<Dg a)else false)=false):-1099511627776<=a*b/\a*b<=1099511627776:=by
 by_cases hb:b=0
 ·subst hb;simp
 ·simp only[aZ hb,gG,cond_true,bF,fB]at h;have hB:0<Dg b:=by rcases Hg b with h|h<;>omega
  rw[Int.tdiv_eq_ediv_of_nonneg (by decide)]at h;have h1:Dg a*Dg b<=(1099511627776 / Dg b)*Dg b:=Int.mul_le_mul_of_nonneg_right h (by omega);have h2:=Int.ediv_mul_le 1099511627776 (show Dg b≠0 by omega);have h3:0<=Dg a:=by rcases Hg a with h|h<;>omega
  have h4:0<=Dg a*Dg b:=Int.mul_nonneg h3 (by omega);have h5:a*b=Dg a*Dg b\/a*b=-(Dg a*Dg b):=by
   rcases Hg a with⟨e1,_⟩|⟨e1,_⟩<;>rcases Hg b with⟨e2,_⟩|⟨e2,_⟩
   ·exact .inl (by rw[e1,e2])
   ·exact .inr (by rw[e1,e2,Int.mul_neg,Int.neg_neg])
   ·exact .inr (by rw[e1,e2,Int.neg_mul,Int.neg_neg])
   ·exact .inl (by rw[e1,e2,Int.neg_mul_neg])
  rcases h5 with h5|h5<;>omega
def cxH:Ctx:=⟨Dp,[(294,([],c139))]⟩
theorem Ake:Aj Tryz.prog cxH:=Ad Ae9 Ah
def c145:Ctr:=fnC [dI,dI] rII (λy=>(-1099511627776<=y.1/\y.1<=1099511627776)/\(-1099511627776<=y.2.1/\y.2.1<=1099511627776)) (λy=>((Ch y.1 y.2.1).1,(Ch y.1 y.2.1).2,()))
theorem Anx:GoodC Tryz.prog 268 c145:=by
 refine As Ake 3 _ _ _ _ ⟨_,Tryz.func268,rfl,rfl⟩ λ(⟨a,b,_⟩:Int×Int×Unit) hn=>?_
 have hn1:-1099511627776<=a/\a<=1099511627776:=hn.1;have hn2:-1099511627776<=b/\b<=1099511627776:=hn.2;clear hn;refine(aF (aI (λh0=>?_) (aI (λh1=>?_) (aI (λh2=>?_) (aI (λh3=>(Aa rfl ?_)) (λh3=>(aI ?_ (Aa rfl ?_))))))))
 ·exact⟨by show _<=a;omega,by show a<=_;omega⟩
 ·exact⟨by show _<=b;omega,by show b<=_;omega⟩
 ·have hb:b≠0:=by have h:=h2;simp at h;exact h
  have hB:0<Dg b:=by rcases Hg b with h|h<;>omega
  refine⟨by show Dg b≠0;omega, ?_⟩;show inK .i64 ((1099511627776:Int).tdiv (Dg b));rw[Int.tdiv_eq_ediv_of_nonneg (by decide)];have k1:=Int.ediv_nonneg (a:=1099511627776) (b:=Dg b) (by decide) (by omega);have k2:=Int.ediv_le_self (a:=1099511627776) (Dg b) (by decide);simp only[inK];omega
 ·show((Ch a b).1,(Ch a b).2,())=_;unfold Ch;rw[aN h3]
 ·have h:=Rt (a:=a) (b:=b) h3;show -9223372036854775808<=a*b/\a*b<=9223372036854775807;omega
 ·show((Ch a b).1,(Ch a b).2,())=_;have h1:¬(bif !decide (b=0)then decide ((1099511627776:Int).tdiv (Dg b)<Dg a)else false)=true:=by rw[show(bif !decide (b=0)then decide ((1099511627776:Int).tdiv (Dg b)<Dg a)else false)=false from h3];simp
  unfold Ch;rw[aL h1]
def Ru(lo hi:Int)(l:List Bd)(i:Nat):Bool:=
 bif bif bif bif !Ph (l.getD (i:Int).toNat (Ab tBd)).1 then true else(bif decide (0<(i:Int))then !ltS (l.getD ((i:Int)-1).toNat (Ab tBd)).1 (l.getD (i:Int).toNat (Ab tBd)).1 else false)then true
  else(bif !decide ((l.getD (i:Int).toNat (Ab tBd)).2.1=1)then !decide ((l.getD (i:Int).toNat (Ab tBd)).2.1=2)else false)then true
  else decide ((l.getD (i:Int).toNat (Ab tBd)).2.2<lo)then true else decide (hi<(l.getD (i:Int).toNat (Ab tBd)).2.2)
def G5(l:List Bd)(i:Nat):Bool:=bif decide ((l.getD (i:Int).toNat (Ab tBd)).2.1=2)then Ru 0 1 l i else Ru (-1099511627776) 1099511627776 l i
theorem Qs{n i:Nat}{p:Nat->Bool}(h:i<n)(hp:p i=true):(List.range n).any p=true:=fJ.2 ⟨i,cZ.2 h,hp⟩
theorem Og{i:Nat}{p:Nat->Bool}(h:(List.range i).any p=false)(hp:p i=false):(List.range (i+1)).any p=false:=by
 rw[dA,eR,h];simp[hp]
def Hh(l:List Bd):Bool:=bif (List.range l.length).any (G5 l)then false else decide ((l.length:Int)<=64)
def cxJ:Ctx:=⟨Dp,[(249,([],c131))]⟩
theorem Akf:Aj Tryz.prog cxJ:=Ad Ae7 Ah
def c116:Ctr:=fnC [X9] rB (λ_=>True) (λy=>(Hh y.1,()))
theorem Any:GoodC Tryz.prog 224 c116:=by
 refine As Akf 3 _ _ _ _ ⟨_,Tryz.func224,rfl,rfl⟩ λ(⟨xs,_⟩:List Bd×Unit) _=>?_
 refine(aF (λh0=>?_));refine ex4 _ (λi:Nat=>⟨[.sl tBd xs,.any,.any,.any,.any,.any,.any,.sl tBd xs,.int .i64 (↑xs.length:Int),.int .i64 (i:Int)]++nA 52,[],0⟩) (λi=>i<=xs.length/\(List.range i).any (G5 xs)=false) (λi=>xs.length-i) (aI (eI (0) (eI ([]) (aI ?_ (aB (aI tT (by rfl)))))) ?_)
 ·simp
 rintro i ⟨hi,ht⟩;refine(aI (λk0=>(aO (aI (λk1=>(aF (aI tT (aI (λk2=>(by intros;(try subst_vars);(try simp only[nB]at *);(try simp only[inK,big,lim,nL]at *);omega)) (aI (λk3=>(by intros;(try subst_vars);(try simp only[nB]at *);(try simp only[inK,big,lim,nL]at *);omega)) (aI (λk4=>(Aa rfl ?_)) (λk4=>(aO ?_)))))))) (λk1=>(aF (aI tT (aI (λk5=>(by intros;(try subst_vars);(try simp only[nB]at *);(try simp only[inK,big,lim,nL]at *);omega)) (aI (λk6=>(by intros;(try subst_vars);(try simp only[nB]at *);(try simp only[inK,big,lim,nL]at *);omega)) (aI (λk7=>(Aa rfl ?_)) (λk7=>(aO ?_))))))))))) (λk0=>(λk8=>(Aa rfl ?_))))
 ·have hi':i<xs.length:=by simpa using k0
  have e1:G5 xs i=Ru 0 1 xs i:=by unfold G5;rw[show decide ((xs.getD (i:Int).toNat (Ab tBd)).2.1=2)=true from k1];rfl
  have hk:G5 xs i=true:=e1.trans k4;show(Hh xs,())=(false,());unfold Hh;rw[Qs hi' hk];rfl
 ·have hi':i<xs.length:=by simpa using k0
  have e1:G5 xs i=Ru 0 1 xs i:=by unfold G5;rw[show decide ((xs.getD (i:Int).toNat (Ab tBd)).2.1=2)=true from k1];rfl
  have hk:G5 xs i=false:=e1.trans k4;refine eI (i+1) (eI ([]) (aI ?_ (aI ?_ (aB (aI tT (by rfl))))))
  ·exact⟨hi',Og ht hk⟩
  ·show xs.length-(i+1)<xs.length-i;omega
 ·have hi':i<xs.length:=by simpa using k0
  have e1:G5 xs i=Ru (-1099511627776) 1099511627776 xs i:=by unfold G5;rw[show decide ((xs.getD (i:Int).toNat (Ab tBd)).2.1=2)=false from k1];rfl
  have hk:G5 xs i=true:=e1.trans k7;show(Hh xs,())=(false,());unfold Hh;rw[Qs hi' hk];rfl
 ·have hi':i<xs.length:=by simpa using k0
  have e1:G5 xs i=Ru (-1099511627776) 1099511627776 xs i:=by unfold G5;rw[show decide ((xs.getD (i:Int).toNat (Ab tBd)).2.1=2)=false from k1];rfl
  have hk:G5 xs i=false:=e1.trans k7;refine eI (i+1) (eI ([]) (aI ?_ (aI ?_ (aB (aI tT (by rfl))))))
  ·exact⟨hi',Og ht hk⟩
  ·show xs.length-(i+1)<xs.length-i;omega
 ·have hi':¬i<xs.length:=by simpa using k0
  have e1:i=xs.length:=by omega
  subst e1;show(Hh xs,())=_;unfold Hh;rw[ht];rfl
end Go.Proofs.YtckpldpombdkgaaGreat
