/- Pipelines. -/
import Derived.Test.YtpabcdbaffjcdaaGreatJZ1
import Derived.Test.YtpabcdbaffjcdaaGreatJB6
import Derived.Shelf.SlGeneric
import Derived.Shelf.SortM.Plain
import Derived.Shelf.SortM.SortNone
import Derived.Ground.SlgmProg
set_option linter.unusedSimpArgs false
set_option linter.unusedVariables false
set_option maxRecDepth 100000
namespace Go.Proofs.YtpabcdbaffjcdaaGreat
open Go.Sx
mutual
def msF:ExprT->Int->Int->Int×Int
 |.mk _ _ _ _ args,d,n=>if(bif decide (100<n+1)then true else decide (100<d))=true then(d,n+1)else msL args d d (n+1)
def msL:List ExprT->Int->Int->Int->Int×Int
 |[],_,dp,n=>(dp,n)
 |e::l,d,dp,n=>if 100<n then(dp,n)else msL l d (if(msF e (d+1) n).1>dp then(msF e (d+1) n).1 else dp) (msF e (d+1) n).2
end
theorem Akb(e:ExprT)(d n:Int):msF e d n=if(bif decide (100<n+1)then true else decide (100<d))=true then(d,n+1)else msL e.args d d (n+1):=by
 obtain⟨k,o,nm,v,args⟩:=e;rfl
mutual
theorem Wc:∀(e:ExprT)(d n:Int),0<=n->n<=100->1<=d->d<=101->(n<(msF e d n).2/\(msF e d n).2<=101)/\d<=(msF e d n).1/\(msF e d n).1<=101
 |.mk _ _ _ _ args,d,n,h0,h1,h2,h3=>by
  simp only[msF];split
  ·exact⟨⟨by show n<n+1;omega,by show n+1<=101;omega⟩,cO _,h3⟩
  ·rename_i hc;have hd:¬100<d:=λh=>hc (by rw[aX h];cases decide (100<n+1)<;>rfl)
   have:=Wd args d d (n+1) (by omega) (by omega) h2 (by omega) (cO _) h3;omega
theorem Wd:∀(l:List ExprT)(d dp n:Int),0<=n->n<=101->1<=d->d<=100->d<=dp->dp<=101->(n<=(msL l d dp n).2/\(msL l d dp n).2<=101)/\d<=(msL l d dp n).1/\(msL l d dp n).1<=101
 |[],d,dp,n,h0,h1,h2,h3,h4,h5=>⟨⟨cO _,h1⟩,h4,h5⟩
 |e::l,d,dp,n,h0,h1,h2,h3,h4,h5=>by
  simp only[msL];split
  ·exact⟨⟨cO _,h1⟩,h4,h5⟩
  ·have hr:=Wc e (d+1) n h0 (by omega) (by omega) (by omega);have:=Wd l d (if(msF e (d+1) n).1>dp then(msF e (d+1) n).1 else dp) (msF e (d+1) n).2 (by omega) (by omega) h2 h3 (by split<;>omega) (by split<;>omega);omega
end
theorem Aam{args:List ExprT}{i:Nat}{d dp n:Int}{e0:ExprT}(h:i<args.length):msL (args.drop i) d dp n=if 100<n then(dp,n)else
 msL (args.drop (i+1)) d (if(msF (args.getD i e0) (d+1) n).1>dp then(msF (args.getD i e0) (d+1) n).1 else dp) (msF (args.getD i e0) (d+1) n).2:=by
 rw[cG h];simp[msL,List.getD,h]
def exA(e:ExprT):AV:=.agg [.int .i64 e.kind,.int .i64 e.op,.str e.name,.int .i64 e.value,.sl .expr e.args]
def Anw(N:Nat):FuncId->List AV->List Ob->AV->List Ob->Prop:=λg args T x1 T1=>
 ∃(e:ExprT)(d n:Int),exW e<N/\(0<=n/\n<=100)/\(1<=d/\d<=101)/\g=130/\args=[exA e,.int .i64 d,.ptr 0 0]/\T=[.cells [.int .i64 n]]/\
  x1=.int .i64 (msF e d n).1/\T1=[.cells [.int .i64 (msF e d n).2]]
theorem Anx(base:CallSem)(N:Nat)(e:ExprT)(d n:Int)(he:exW e<N)(hn:0<=n/\n<=100)(hd:1<=d/\d<=101)
 (hbase:∀k args H m K,k+1=N->Gs (Anw k) 130 args H m K->base 130 args H m K):
 Ba cx0 Tryz.prog base 130 [exA e,.int .i64 d,.ptr 0 0] [.cells [.int .i64 n]] 1
  (λx T' n'=>∃σ,J1 1 σ [noW x] T' n' ⟨[.int .i64 (msF e d n).1],[.cells [.int .i64 (msF e d n).2]],1⟩):=by
 have hc:∀c:Int,(bif decide (100<c)then true else decide (100<d))=false->c<=100/\d<=100:=λc h=>by
  by_cases h1:100<c
  ·rw[aX h1]at h;cases h
  ·by_cases h2:100<d
   ·rw[aX h2]at h;cases hh:decide (100<c)<;>rw[hh]at h<;>cases h
   ·omega
 refine(aF (aO (aI (λh0=>?_) (λh0=>(λh1=>?_)))))
 ·rw[Akb,aP h0];exact⟨[some 0],by rfl,by rfl,⟨⟨by rfl,by rfl⟩,trivial⟩,by rfl⟩
 obtain⟨hc1,hc2⟩:=hc _ h0;have h0':¬(bif decide (100<n+1)then true else decide (100<d))=true:=by rw[show(bif decide (100<n+1)then true else decide (100<d))=false from h0];simp
 refine ex4 _ (λp:Nat×Int×Int=>⟨[.any,.int .i64 d,.ptr 0 0,.ptr 1 0,.any,.any,.any,.int .i64 p.2.1,.any,.any,.any,.any,.any,.any,.any,.any,.any,.any,.any,.any,.any,.any,.any,.any,.any,.ptr 1 4,.sl .expr e.args,.int .i64 (↑e.args.length:Int),.int .i64 (p.1:Int)]++nA 16,[.cells [.int .i64 p.2.2],.cells   [.int .i64 e.kind,.int .i64 e.op,.str e.name,.int .i64 e.value,.sl .expr e.args]],2⟩) (λp=>p.1<=e.args.length/\(0<=p.2.2/\p.2.2<=101)/\(d<=p.2.1/\p.2.1<=101)/\msF e d n=msL (e.args.drop p.1) d p.2.1 p.2.2) (λp=>e.args.length-p.1) (aI (eI ((0,d,n+1)) (eI ([some 0,some 1]) (aI ?_ (aB (aI (aH tT) (by rfl)))))) ?_)
 ·refine⟨aV _,⟨by show 0<=n+1;omega,by show n+1<=101;omega⟩,⟨cO _,hd.2⟩, ?_⟩;rw[Akb,aL h0'];rfl
 rintro⟨i,dp,m⟩ ⟨hi,hm,hp,ht⟩;replace hm:0<=m/\m<=101:=hm;replace hp:d<=dp/\dp<=101:=hp;refine(aI (λk0=>(aO (aI (λk1=>?_) (λk1=>(aO ?_))))) (λk0=>?_))
 ·have hi':i<e.args.length:=by simpa using k0
  have hk:100<m:=by simpa using k1
  rw[ht,Aam (e0:=Ab .expr) hi',aP hk];exact⟨[some 0],by rfl,by rfl,⟨⟨by rfl,by rfl⟩,trivial⟩,by rfl⟩
 ·have hi':i<e.args.length:=by simpa using k0
  have hk:¬100<m:=by simpa using k1
  have hlt:exW (e.args.getD i (Ab .expr))<exW e:=Le hi';obtain⟨hr1,hr2⟩:=Wc (e.args.getD i (Ab .expr)) (d+1) m hm.1 (by omega) (by omega) (by omega);have hq:=Aam (d:=d) (dp:=dp) (n:=m) (e0:=Ab .expr) hi';rw[aL hk]at hq;obtain⟨x,hx⟩:∃x,e.args.getD i (Ab .expr)=x:=⟨_,rfl⟩;obtain⟨r,hr⟩:∃r,msF x (d+1) m=r:=⟨_,rfl⟩;rw[hx]at hlt hr1 hr2 hq;rw[hr]at hr1 hr2 hq;refine hbase (N-1) _ _ _ _ (by omega) ⟨tT,[exA x,.int .i64 (d+1),.ptr 0 0],[.cells [.int .i64 m]],.int .i64 (msF x (d+1) m).1,[.cells [.int .i64 (msF x (d+1) m).2]],[some 0],
   ⟨x,d+1,m,by omega,⟨hm.1,by omega⟩,⟨by omega,by omega⟩,rfl,rfl,rfl,rfl,rfl⟩,⟨by rw[<-hx];rfl,by rfl,⟨⟨by rfl,by rfl⟩,trivial⟩,by rfl⟩,by rfl, ?_⟩
  rw[hr];obtain⟨dp1,m1⟩:=r;dsimp only[Fq,Cx,E6,Db,Fv,B3,Aq,Ic,List.length_cons,List.length_nil,List.cons_append,List.nil_append,Nat.reduceAdd,Nat.reduceSub];refine(aO ?_);refine eI ((i+1,if dp1>dp then dp1 else dp,m1)) (eI ([some 0,some 1]) (aI ?_ (aI ?_ (aB (aI (aH tT) (by rfl))))))
  ·refine⟨hi',⟨?_,hr1.2⟩,⟨?_, ?_⟩, ?_⟩
   ·show 0<=m1;have:m<m1:=hr1.1;omega
   ·show d<=if dp1>dp then dp1 else dp
    split<;>omega
   ·show(if dp1>dp then dp1 else dp)<=101;have:dp1<=101:=hr2.2;split<;>omega
   ·rw[ht];exact hq
  ·show e.args.length-(i+1)<e.args.length-i;omega
 ·have hi':¬i<e.args.length:=by simpa using k0
  rw[ht,bK (by omega)];exact⟨[some 0],by rfl,by rfl,⟨⟨by rfl,by rfl⟩,trivial⟩,by rfl⟩
def Aqw:Nat->CallSem
 |0=>Ba cx0 Tryz.prog λ_ _ _ _ _=>False
 |N+1=>Ba cx0 Tryz.prog (Gs (Anw N))
theorem Aan(N:Nat):∀g args T x1 T1,Anw N g args T x1 T1->Aqw N g args T T.length (λx T' n'=>∃σ,J1 T.length σ [noW x] T' n' ⟨[x1],T1,T1.length⟩):=by
 rintro g args T x1 T1 ⟨e,d,n,he,hn,hd,rfl,rfl,rfl,rfl,rfl⟩;cases N with
 |zero=>omega
 |succ N=>exact Anx _ (N+1) e d n he hn hd (λk args H m K h h'=>by
  have:k=N:=by omega
  exact this ▸ h')
theorem X1:∀N,Bb Tryz.prog (Aqw N)
 |0=>Af Ah Bl
 |N+1=>Af Ah (Gt (X1 N) (Aan N))
def As1:FuncId->List AV->List Ob->AV->List Ob->Prop:=λg a T x T1=>∃k,Anw k g a T x T1
theorem Ahh:Bb Tryz.prog (Gs As1):=
 Gt (sem:=λg a H n K=>∃d,Aqw d g a H n K) ⟨λg a H n K ⟨d,h⟩=>(X1 d).1 g a H n K h,λid a H n K ⟨d,h⟩=>(X1 d).2 id a H n K h⟩ λg a T x T1 ⟨k,h⟩=>⟨k,Aan k g a T x T1 h⟩
def N9:Code->Option (Code×Code)
 |.rangeFunc _ _ x y=>some (x,y)
 |.seq a b=>(match N9 a with|some r=>some r|none=>N9 b)
 |.cond _ a b=>(match N9 a with|some r=>some r|none=>N9 b)
 |.block _ a=>N9 a
 |.loop a=>N9 a
 |_=>none
noncomputable def Aao(g:Nat):Code×Code:=match Tryz.prog.funcs[g]? with
 |some fn=>(match fn.body with
  |some c=>(N9 c).getD (.skip,.skip)
  |none=>(.skip,.skip))
 |none=>(.skip,.skip)
mutual
def Fg:ExprT->Int
 |.mk k o nm v args=>if Ff (.mk k o nm v args)=0 then Rw args else Ff (.mk k o nm v args)
def Rw:List ExprT->Int
 |[]=>0
 |e::l=>if Fg e=0 then Rw l else Fg e
end
theorem X2(e:ExprT):Fg e=if Ff e=0 then Rw e.args else Ff e:=by
 obtain⟨k,o,nm,v,args⟩:=e;rfl
theorem Ahi{args:List ExprT}{i:Nat}{e0:ExprT}(h:i<args.length):Rw (args.drop i)=if Fg (args.getD i e0)=0 then Rw (args.drop (i+1))else Fg (args.getD i e0):=by
 rw[cG h];simp[Rw,List.getD,h]
def slC:List AV:=[.any,.any,.ptr 0 0,.any,.any,.any,.any,.any,.any,.any,.any,.any,.any,.any,.any,.any,.any,.any,.any,.any,.any]
noncomputable def vcT:List Ob:=[.cells [.int .i64 0],.loop .ready .no [15] (Aao 87).1 (Aao 87).2 slC]
noncomputable def Ac2(r:Int):List Ob:=[.cells [.int .i64 r],.loop .done .ret [15] (Aao 87).1 (Aao 87).2 slC]
def Any(N:Nat):FuncId->List AV->List Ob->AV->List Ob->Prop:=λg args T x1 T1=>
 ∃e:ExprT,exW e<N/\g=156/\args=[exA e,.yld 1]/\T=vcT/\
  ((Fg e=0/\x1=.bool true/\T1=vcT)\/(Fg e≠0/\x1=.bool false/\T1=Ac2 (Fg e)))
def cxV:Ctx:=⟨Dk,[(132,([],c112))]⟩
theorem Pd:Ai Tryz.prog cxV:=Ae Anr Ah
def noS:CallSem:=λ_ _ _ _ _=>False
theorem Anz(base:CallSem)(N:Nat)(e:ExprT)(he:exW e<N)
 (hbase:∀k args H m K,k+1=N->Gs (Any k) 156 args H m K->base 156 args H m K)(x1:AV)(T1:List Ob)
 (hx:(Fg e=0/\x1=.bool true/\T1=vcT)\/(Fg e≠0/\x1=.bool false/\T1=Ac2 (Fg e))):
 Ba cxV Tryz.prog (Kd 156 base (Ba cxV Tryz.prog noS)) 156 [exA e,.yld 1] vcT 2
  (λx T' n'=>∃σ,J1 2 σ [noW x] T' n' ⟨[x1],T1,T1.length⟩):=by
 refine(aF (aI tT (aI (λh0=>(aI (λh1=>?_) (λh1=>False.elim (aY (Eq.symm (Eq.trans (by kernel_rfl) h1)))))) (λh0=>(aI (λh2=>nG h2) (λh2=>(λh3=>?_)))))))
 ·have hk:Ff e≠0:=by have h:=h0;simp only[eta]at h;simpa using h
  have ht:Fg e=Ff e:=by rw[X2,aL hk]
  rcases hx with⟨h,-⟩|⟨-,rfl,rfl⟩
  ·rw[ht]at h;exact aT h hk
  ·rw[ht];exact⟨[some 0,some 1],by rfl,by rfl,⟨⟨by simp only[eta];rfl,by rfl⟩,⟨⟨rfl,rfl,rfl,rfl,rfl⟩,by rfl,by rfl⟩,trivial⟩,by rfl⟩
 have hk:Ff e=0:=by have h:=h0;simp only[eta]at h;simpa using h
 have ht:Fg e=Rw e.args:=by rw[X2,aP hk]
 refine ex4 _ (λi:Nat=>⟨[.any,.yld 1,.ptr 2 0,.any,.any,.any,.any,.any,.any,.any,.any,.ptr 2 4,.sl .expr e.args,.int .i64 (↑e.args.length:Int),.int .i64 (i:Int),.any,.any,.any,.any,.any,.any,.any,.any],[.cells [.int .i64 0],.loop .ready .no ([15]) _ _ [.any,.any,.ptr 0 0,.any,.any,.any,.any,.any,.any,.any,.any,.any,.any,.any,.any,.any,.any,.any,.any,.any,.any],.cells   [.int .i64 e.kind,.int .i64 e.op,.str e.name,.int .i64 e.value,.sl .expr e.args],.cells   [.int .i64 e.kind,.int .i64 e.op,.str e.name,.int .i64 e.value,.sl .expr e.args]],4⟩) (λi=>i<=e.args.length/\Fg e=Rw (e.args.drop i)) (λi=>e.args.length-i) (aI (eI (0) (eI ([some 0,some 1,some 2,some 3]) (aI ?_ (aB (aI (aG (aI (aI (aI rfl (aI rfl (aI rfl (aI rfl rfl)))) (aA (by rfl))) (aH tT))) (by rfl)))))) ?_)
 ·exact⟨aV _,ht⟩
 clear ht;rintro i ⟨hi,ht⟩;refine(aI (λk0=>(aO ?_)) (λk0=>?_))
 ·have hi':i<e.args.length:=by simpa using k0
  have hlt:exW (e.args.getD i (Ab .expr))<exW e:=Le hi';have hq:=Ahi (e0:=Ab .expr) hi';obtain⟨x,hxx⟩:∃x,e.args.getD i (Ab .expr)=x:=⟨_,rfl⟩;rw[hxx]at hlt hq;by_cases hz:Fg x=0
  ·rw[aP hz]at hq;refine hbase (N-1) _ _ _ _ (by omega) ⟨tT,[exA x,.yld 1],vcT,.bool true,vcT,[some 0,some 1],
    ⟨x,by omega,rfl,rfl,rfl,.inl ⟨hz,rfl,rfl⟩⟩,⟨by rw[<-hxx];rfl,by rfl,⟨⟨by rfl,by rfl⟩,⟨⟨rfl,rfl,rfl,rfl,rfl⟩,by rfl,by rfl⟩,trivial⟩,by rfl⟩,by rfl, ?_⟩
   dsimp only[vcT,Fq,Cx,E6,Db,Fv,B3,Aq,Ic,List.length_cons,List.length_nil,List.cons_append,List.nil_append,Nat.reduceAdd,Nat.reduceSub];refine(aI (λw0=>nG w0) (λw0=>(aO ?_)));refine eI (i+1) (eI ([some 0,some 1,some 2,some 3]) (aI ?_ (aI ?_ (aB (aI (aG (aI (aI (aI rfl (aI rfl (aI rfl (aI rfl rfl)))) (aA (by rfl))) (aH tT))) (by rfl))))))
   ·exact⟨hi',ht.trans hq⟩
   ·show e.args.length-(i+1)<e.args.length-i;omega
  ·rw[aL hz]at hq;have ht':Fg e=Fg x:=ht.trans hq;refine hbase (N-1) _ _ _ _ (by omega) ⟨tT,[exA x,.yld 1],vcT,.bool false,Ac2 (Fg x),[some 0,some 1],
    ⟨x,by omega,rfl,rfl,rfl,.inr ⟨hz,rfl,rfl⟩⟩,⟨by rw[<-hxx];rfl,by rfl,⟨⟨by rfl,by rfl⟩,⟨⟨rfl,rfl,rfl,rfl,rfl⟩,by rfl,by rfl⟩,trivial⟩,by rfl⟩,by rfl, ?_⟩
   dsimp only[vcT,Ac2,slC,Fq,Cx,E6,Db,Fv,B3,Aq,Ic,List.length_cons,List.length_nil,List.cons_append,List.nil_append,Nat.reduceAdd,Nat.reduceSub];refine(aI (λw0=>?_) (λw0=>False.elim (aY (Eq.symm (Eq.trans (by kernel_rfl) w0)))));rcases hx with⟨h,-⟩|⟨-,rfl,rfl⟩
   ·rw[ht']at h;exact aT h hz
   ·rw[ht'];exact⟨[some 0,some 1],by rfl,by rfl,⟨⟨by rfl,by rfl⟩,⟨⟨rfl,rfl,rfl,rfl,rfl⟩,by rfl,by rfl⟩,trivial⟩,by rfl⟩
 ·have hi':¬i<e.args.length:=by simpa using k0
  have ht':Fg e=0:=by rw[ht,bK (by omega)];rfl
  rcases hx with⟨-,rfl,rfl⟩|⟨h,-⟩
  ·exact⟨[some 0,some 1],by rfl,by rfl,⟨⟨by rfl,by rfl⟩,⟨⟨rfl,rfl,rfl,rfl,rfl⟩,by rfl,by rfl⟩,trivial⟩,by rfl⟩
  ·exact aT ht' h
def Aqx:Nat->CallSem
 |0=>Ba cxV Tryz.prog (Kd 156 noS (Ba cxV Tryz.prog noS))
 |N+1=>Ba cxV Tryz.prog (Kd 156 (Gs (Any N)) (Ba cxV Tryz.prog noS))
theorem Aap(N:Nat):∀g args T x1 T1,Any N g args T x1 T1->Aqx N g args T T.length (λx T' n'=>∃σ,J1 T.length σ [noW x] T' n' ⟨[x1],T1,T1.length⟩):=by
 rintro g args T x1 T1 ⟨e,he,rfl,rfl,rfl,hx⟩;cases N with
 |zero=>omega
 |succ N=>exact Anz _ (N+1) e he (λk args H m K h h'=>by
  have:k=N:=by omega
  exact this ▸ h') x1 T1 hx
theorem X3:∀N,Bb Tryz.prog (Aqx N)
 |0=>Af Pd (Da Bl (Af Pd Bl))
 |N+1=>Af Pd (Da (Gt (X3 N) (Aap N)) (Af Pd Bl))
def As2:FuncId->List AV->List Ob->AV->List Ob->Prop:=λg a T x T1=>∃k,Any k g a T x T1
theorem Ahj:Bb Tryz.prog (Gs As2):=
 Gt (sem:=λg a H n K=>∃d,Aqx d g a H n K) ⟨λg a H n K ⟨d,h⟩=>(X3 d).1 g a H n K h,λid a H n K ⟨d,h⟩=>(X3 d).2 id a H n K h⟩ λg a T x T1 ⟨k,h⟩=>⟨k,Aap k g a T x T1 h⟩
def Bv(e:ExprT):Int:=if decide (100<(msF e 1 0).2)=true then 4 else if decide (12<(msF e 1 0).1)=true then 22 else Fg e
theorem An0{e:ExprT}(h:decide (100<(msF e 1 0).2)=true):Bv e=4:=by rw[Bv,aP h]
theorem Akc{e:ExprT}(h:decide (100<(msF e 1 0).2)=false)(h':decide (12<(msF e 1 0).1)=true):Bv e=22:=by rw[Bv,aL (by rw[h];simp),aP h']
theorem An1{e:ExprT}(h:decide (100<(msF e 1 0).2)=false)(h':decide (12<(msF e 1 0).1)=false):Bv e=Fg e:=by rw[Bv,aL (by rw[h];simp),aL (by rw[h'];simp)]
def c79:Ctr:=fnC [dX] rI (λ_=>True) (λy=>(Bv y.1,()))
theorem Ac3:GoodC Tryz.prog 87 c79:=by
 refine Xw (Af Ah (Da (g0:=130) Ahh (Af Ah (Da (g0:=156) Ahj (Af Ah Bl))))) _ _ _ _ ⟨_,Tryz.func87,rfl,rfl⟩ λ(⟨e,_⟩:ExprT×Unit) _=>?_
 refine(aF (aI tT ?_));refine eI [exA e,.int .i64 1,.ptr 0 0] (eI [.cells [.int .i64 0]] (eI (.int .i64 (msF e 1 0).1) (eI [.cells [.int .i64 (msF e 1 0).2]] (eI [some 2]
  ⟨⟨_,e,1,0,eN _,⟨by decide,by decide⟩,⟨by decide,by decide⟩,rfl,rfl,rfl,rfl,rfl⟩,⟨by rfl,by rfl,⟨⟨by rfl,by rfl⟩,trivial⟩,by rfl⟩,by rfl, ?_⟩))))
 dsimp only[Fq,Cx,E6,Db,Fv,B3,Aq,Ic,List.length_cons,List.length_nil,List.cons_append,List.nil_append,Nat.reduceAdd,Nat.reduceSub];refine(aI (λw0=>(Aa rfl ?_)) (λw0=>(aI (λw1=>(Aa rfl ?_)) (λw1=>(aF (aF (aF (aI tT ?_))))))))
 ·show(Bv e,())=_;rw[An0 w0]
 ·show(Bv e,())=_;rw[Akc w0 w1]
 have hck:=An1 w0 w1;by_cases hz:Fg e=0
 ·refine eI [exA e,.yld 1] (eI vcT (eI (.bool true) (eI vcT (eI [some 1,some 4]
   ⟨⟨_,e,eN _,rfl,rfl,rfl,.inl ⟨hz,rfl,rfl⟩⟩,⟨by rfl,by rfl,⟨⟨by rfl,by rfl⟩,⟨⟨rfl,rfl,rfl,by kernel_rfl,by kernel_rfl⟩,by rfl,by rfl⟩,trivial⟩,by rfl⟩,by rfl, ?_⟩))))
  dsimp only[vcT,Ac2,slC,Fq,Cx,E6,Db,Fv,B3,Aq,Ic,List.length_cons,List.length_nil,List.cons_append,List.nil_append,Nat.reduceAdd,Nat.reduceSub];refine(Aa rfl ?_);show(Bv e,())=(0,());rw[hck,hz]
 ·refine eI [exA e,.yld 1] (eI vcT (eI (.bool false) (eI (Ac2 (Fg e)) (eI [some 1,some 4]
   ⟨⟨_,e,eN _,rfl,rfl,rfl,.inr ⟨hz,rfl,rfl⟩⟩,⟨by rfl,by rfl,⟨⟨by rfl,by rfl⟩,⟨⟨rfl,rfl,rfl,by kernel_rfl,by kernel_rfl⟩,by rfl,by rfl⟩,trivial⟩,by rfl⟩,by rfl, ?_⟩))))
  dsimp only[vcT,Ac2,slC,Fq,Cx,E6,Db,Fv,B3,Aq,Ic,List.length_cons,List.length_nil,List.cons_append,List.nil_append,Nat.reduceAdd,Nat.reduceSub];refine(Aa rfl ?_);show(Bv e,())=(Fg e,());rw[hck]
mutual
def Hj:ExprT->List ByteArray
 |.mk k _ nm _ args=>(if k=2 then[nm]else[])++I3 args
def I3:List ExprT->List ByteArray
 |[]=>[]
 |e::l=>Hj e++I3 l
end
theorem Ae4(e:ExprT):Hj e=(if e.kind=2 then[e.name]else[])++I3 e.args:=by
 obtain⟨k,o,nm,v,args⟩:=e;rfl
theorem We{args:List ExprT}{i:Nat}{e0:ExprT}(h:i<args.length):I3 (args.take (i+1))=I3 (args.take i)++Hj (args.getD i e0):=by
 induction args generalizing i with
 |nil=>exact aT h (eE _)
 |cons a l ih=>
  cases i with
  |zero=>simp[I3]
  |succ i=>
   have:=ih (i:=i) (by simpa using h);simp only[fJ,I3,dR,this];rfl
theorem Aaq{args:List ExprT}(i:Nat):(I3 (args.take i)).length<=(I3 args).length:=by
 induction args generalizing i with
 |nil=>simp
 |cons a l ih=>
  cases i with
  |zero=>simp[I3]
  |succ i=>
   have:=ih i;simp only[fJ,I3,bD];omega
mutual
def Ahk:ExprT->Nat
 |.mk _ _ _ _ args=>1+Ac4 args
def Ac4:List ExprT->Nat
 |[]=>0
 |e::l=>Ahk e+Ac4 l
end
mutual
theorem Ae5:∀e:ExprT,(Hj e).length<=Ahk e
 |.mk k _ nm _ args=>by
  have:=Aar args;simp only[Hj,Ahk,bD];split<;>simp only[List.length_cons,List.length_nil]<;>omega
theorem Aar:∀l:List ExprT,(I3 l).length<=Ac4 l
 |[]=>bA _
 |e::l=>by
  have h1:=Ae5 e;have h2:=Aar l;simp only[I3,Ac4,bD];omega
end
mutual
theorem Akd:∀(e:ExprT)(d n:Int),(msF e d n).2<=100->(msF e d n).1<=100->(msF e d n).2=n+Ahk e/\d<=(msF e d n).1
 |.mk _ _ _ _ args,d,n,h1,h2=>by
  simp only[msF]at h1 h2 ⊢;split at h1
  ·rename_i hc;rw[aP hc]at h2;exfalso;by_cases h3:100<n+1
   ·exact aT h1 (by omega)
   ·rw[bE h3]at hc;exact aT h2 (by have:=aM hc;omega)
  ·rename_i hc;rw[aL hc]at h2;rw[aL hc];have:=Ae6 args d d (n+1) h1 h2;rw[this.1];simp only[Ahk];omega
theorem Ae6:∀(l:List ExprT)(d dp n:Int),(msL l d dp n).2<=100->(msL l d dp n).1<=100->(msL l d dp n).2=n+Ac4 l/\dp<=(msL l d dp n).1
 |[],d,dp,n,h1,h2=>⟨by simp only[msL,Ac4];omega,cO _⟩
 |e::l,d,dp,n,h1,h2=>by
  simp only[msL]at h1 h2 ⊢;split at h1
  ·rename_i hc;exact aT h1 (by omega)
  ·rename_i hc;rw[aL hc]at h2;rw[aL hc];have hl:=Ae6 l d (if(msF e (d+1) n).1>dp then(msF e (d+1) n).1 else dp) (msF e (d+1) n).2 h1 h2;have hd:(msF e (d+1) n).1<=100:=by
    have:=hl.2;split at this<;>omega
   have hn:(msF e (d+1) n).2<=100:=by rw[hl.1]at h1;omega
   have he:=Akd e (d+1) n hn hd;have h3:=hl.2;refine⟨by rw[hl.1,he.1];simp only[Ac4];omega, ?_⟩;split at h3
   ·rename_i hg;rw[aP hg];omega
   ·rename_i hg;rw[aL hg];exact h3
end
theorem An2{e:ExprT}(h:Bv e=0):Ahk e<=100:=by
 unfold Bv at h;split at h
 ·exact aT h (by decide)
 ·rename_i h1;split at h
  ·exact aT h (by decide)
  ·rename_i h2;simp only[bO]at h1 h2;have:=(Akd e 1 0 (by omega) (by omega)).1;omega
def slN:List AV:=[.any,.any,.any,.ptr 0 0,.any,.any,.any,.any,.any,.any,.any,.any,.any,.any,.any,.any,.any,.any,.any,.any,.any,.any,.any]
noncomputable def vnT(xs:List ByteArray):List Ob:=[.cells [.own 1],.rows .str xs,.loop .ready .no [10] (Aao 88).1 (Aao 88).2 slN]
noncomputable def Aas(xs:List ByteArray):List Ob:=[.cells [.own 3],.dead,.loop .ready .no [10] (Aao 88).1 (Aao 88).2 slN,.rows .str xs]
def An3(N:Nat):FuncId->List AV->List Ob->AV->List Ob->Prop:=λg args T x1 T1=>
 ∃(e:ExprT)(xs:List ByteArray),exW e<N/\xs.length+(Hj e).length<=100/\g=156/\args=[exA e,.yld 2]/\T=vnT xs/\x1=.bool true/\T1=Aas (xs++Hj e)
theorem Ake(base:CallSem)(N:Nat)(e:ExprT)(xs:List ByteArray)(he:exW e<N)(hn:xs.length+(Hj e).length<=100)
 (hbase:∀k args H m K,k+1=N->Gs (An3 k) 156 args H m K->base 156 args H m K):
 Ba cx0 Tryz.prog (Kd 156 base (Ba cx0 Tryz.prog noS)) 156 [exA e,.yld 2] (vnT xs) 3
  (λx T' n'=>∃σ,J1 3 σ [noW x] T' n' ⟨[.bool true],Aas (xs++Hj e),4⟩):=by
 have room:∀k:Nat,k<=101->(xs.length+k)*16<=lim:=λk hk=>by simp only[lim];omega
 refine(aF (aI (λh0=>(aI (by first|exact room 1 (by omega)|(intros;(try subst_vars);(try simp only[nB]at *);(try simp only[inK,big,lim,nL]at *);omega)) (aI (λh1=>nG h1) (λh1=>(λh2=>?_))))) (λh0=>(aI (λh3=>nG h3) (λh3=>(λh4=>?_))))))
 ·have e0:Hj e=[e.name]++I3 e.args:=by rw[Ae4];have h:=h0;simp at h;rw[aP h]
  have hl:=e0 ▸ hn;rw[bD]at hl;refine ex4 _ (λp:Nat×List ByteArray=>⟨[.any,.yld 2,.ptr 3 0,.any,.any,.any,.any,.any,.any,.any,.any,.ptr 3 4,.sl .expr e.args,.int .i64 (↑e.args.length:Int),.int .i64 (p.1:Int),.any,.any,.any,.any,.any,.any,.any,.any],[.cells [.own 6],.dead,.loop .ready .no ([10]) _ _ [.any,.any,.any,.ptr 0 0,.any,.any,.any,.any,.any,.any,.any,.any,.any,.any,.any,.any,.any,.any,.any,.any,.any,.any,.any],.cells   [.int .i64 e.kind,.int .i64 e.op,.str e.name,.int .i64 e.value,.sl .expr e.args],.cells   [.int .i64 e.kind,.int .i64 e.op,.str e.name,.int .i64 e.value,.sl .expr e.args],.dead,.rows .str p.2],7⟩) (λp=>p.1<=e.args.length/\p.2=xs++([e.name]++I3 (e.args.take p.1))) (λp=>e.args.length-p.1) (aI (eI ((0,xs++[e.name])) (eI ([some 0,some 1,some 2,some 3,some 4,some 5,some 6]) (aI ?_ (aB (aI (aG (aI (aI (aI rfl (aI rfl (aI rfl (aI rfl rfl)))) (aA (by rfl))) (aH (aA tT)))) (by rfl)))))) ?_)
  ·exact⟨aV _,by simp[I3]⟩
  rintro⟨i,ys⟩ ⟨hi,hy⟩;replace hy:ys=xs++([e.name]++I3 (e.args.take i)):=hy;refine(aI (λk0=>(aO ?_)) (λk0=>?_))
  ·have hi':i<e.args.length:=by simpa using k0
   have hlt:exW (e.args.getD i (Ab .expr))<exW e:=Le hi';have hq:=We (e0:=Ab .expr) hi';have hq2:=Aaq (args:=e.args) (i+1);obtain⟨x,hxx⟩:∃x,e.args.getD i (Ab .expr)=x:=⟨_,rfl⟩;rw[hxx]at hlt hq;have hy2:ys++Hj x=xs++([e.name]++I3 (e.args.take (i+1))):=by rw[hy,hq];simp only[dR]
   have hy3:ys.length+(Hj x).length<=100:=by
    have h4:=bI List.length hy2;simp only[bD,List.length_cons,List.length_nil]at h4 hl;omega
   refine hbase (N-1) _ _ _ _ (by omega) ⟨tT,[exA x,.yld 2],vnT ys,.bool true,Aas (ys++Hj x),[some 0,some 6,some 2],
    ⟨x,ys,by omega,hy3,rfl,rfl,rfl,rfl,rfl⟩,⟨by rw[<-hxx];rfl,by rfl,⟨⟨by rfl,by rfl⟩,by rfl,⟨⟨rfl,rfl,rfl,rfl,rfl⟩,by rfl,by rfl⟩,trivial⟩,by rfl⟩,by rfl, ?_⟩
   obtain⟨zs,hz⟩:∃zs,ys++Hj x=zs:=⟨_,rfl⟩;rw[hz]at hy2;rw[hz];dsimp only[vnT,Aas,slN,Fq,Cx,E6,Db,Fv,B3,Aq,Ic,List.length_cons,List.length_nil,List.cons_append,List.nil_append,Nat.reduceAdd,Nat.reduceSub];refine(aI (λw0=>nG w0) (λw0=>(aO ?_)));refine eI ((i+1,zs)) (eI ([some 0,some 1,some 2,some 3,some 4,some 5,some 8]) (aI ?_ (aI ?_ (aB (aI (aG (aI (aI (aI rfl (aI rfl (aI rfl (aI rfl rfl)))) (aA (by rfl))) (aH (aA tT)))) (by rfl))))))
   ·exact⟨hi',hy2⟩
   ·show e.args.length-(i+1)<e.args.length-i;omega
  ·have hi':¬i<e.args.length:=by simpa using k0
   have hy2:ys=xs++Hj e:=by rw[hy,bL (by omega),e0]
   rw[<-hy2];exact⟨[some 0,none,some 2,some 6],by rfl,by rfl,⟨⟨by rfl,by rfl⟩,⟨⟨rfl,rfl,rfl,rfl,rfl⟩,by rfl,by rfl⟩,by rfl,trivial⟩,by rfl⟩
 ·have e0:Hj e=[]++I3 e.args:=by rw[Ae4];have h:=h0;simp at h;rw[aL h]
  have hl:=e0 ▸ hn;rw[bD]at hl;refine ex4 _ (λp:Nat×List ByteArray=>⟨[.any,.yld 2,.ptr 3 0,.any,.any,.any,.any,.any,.any,.any,.any,.ptr 3 4,.sl .expr e.args,.int .i64 (↑e.args.length:Int),.int .i64 (p.1:Int),.any,.any,.any,.any,.any,.any,.any,.any],[.cells [.own 5],.dead,.loop .ready .no ([10]) _ _ [.any,.any,.any,.ptr 0 0,.any,.any,.any,.any,.any,.any,.any,.any,.any,.any,.any,.any,.any,.any,.any,.any,.any,.any,.any],.cells   [.int .i64 e.kind,.int .i64 e.op,.str e.name,.int .i64 e.value,.sl .expr e.args],.cells   [.int .i64 e.kind,.int .i64 e.op,.str e.name,.int .i64 e.value,.sl .expr e.args],.rows .str p.2],6⟩) (λp=>p.1<=e.args.length/\p.2=xs++([]++I3 (e.args.take p.1))) (λp=>e.args.length-p.1) (aI (eI ((0,xs)) (eI ([some 0,some 1,some 2,some 3,some 4,some 1]) (aI ?_ (aB (aI (aG (aI (aI (aI rfl (aI rfl (aI rfl (aI rfl rfl)))) (aA (by rfl))) (aH (aA tT)))) (by rfl)))))) ?_)
  ·exact⟨aV _,by simp[I3]⟩
  rintro⟨i,ys⟩ ⟨hi,hy⟩;replace hy:ys=xs++([]++I3 (e.args.take i)):=hy;refine(aI (λk0=>(aO ?_)) (λk0=>?_))
  ·have hi':i<e.args.length:=by simpa using k0
   have hlt:exW (e.args.getD i (Ab .expr))<exW e:=Le hi';have hq:=We (e0:=Ab .expr) hi';have hq2:=Aaq (args:=e.args) (i+1);obtain⟨x,hxx⟩:∃x,e.args.getD i (Ab .expr)=x:=⟨_,rfl⟩;rw[hxx]at hlt hq;have hy2:ys++Hj x=xs++([]++I3 (e.args.take (i+1))):=by rw[hy,hq];simp only[dR]
   have hy3:ys.length+(Hj x).length<=100:=by
    have h4:=bI List.length hy2;simp only[bD,List.length_cons,List.length_nil]at h4 hl;omega
   refine hbase (N-1) _ _ _ _ (by omega) ⟨tT,[exA x,.yld 2],vnT ys,.bool true,Aas (ys++Hj x),[some 0,some 5,some 2],
    ⟨x,ys,by omega,hy3,rfl,rfl,rfl,rfl,rfl⟩,⟨by rw[<-hxx];rfl,by rfl,⟨⟨by rfl,by rfl⟩,by rfl,⟨⟨rfl,rfl,rfl,rfl,rfl⟩,by rfl,by rfl⟩,trivial⟩,by rfl⟩,by rfl, ?_⟩
   obtain⟨zs,hz⟩:∃zs,ys++Hj x=zs:=⟨_,rfl⟩;rw[hz]at hy2;rw[hz];dsimp only[vnT,Aas,slN,Fq,Cx,E6,Db,Fv,B3,Aq,Ic,List.length_cons,List.length_nil,List.cons_append,List.nil_append,Nat.reduceAdd,Nat.reduceSub];refine(aI (λw0=>nG w0) (λw0=>(aO ?_)));refine eI ((i+1,zs)) (eI ([some 0,some 1,some 2,some 3,some 4,some 7]) (aI ?_ (aI ?_ (aB (aI (aG (aI (aI (aI rfl (aI rfl (aI rfl (aI rfl rfl)))) (aA (by rfl))) (aH (aA tT)))) (by rfl))))))
   ·exact⟨hi',hy2⟩
   ·show e.args.length-(i+1)<e.args.length-i;omega
  ·have hi':¬i<e.args.length:=by simpa using k0
   have hy2:ys=xs++Hj e:=by rw[hy,bL (by omega),e0]
   rw[<-hy2];exact⟨[some 0,none,some 2,some 5],by rfl,by rfl,⟨⟨by rfl,by rfl⟩,⟨⟨rfl,rfl,rfl,rfl,rfl⟩,by rfl,by rfl⟩,by rfl,trivial⟩,by rfl⟩
def Aqy:Nat->CallSem
 |0=>Ba cx0 Tryz.prog (Kd 156 noS (Ba cx0 Tryz.prog noS))
 |N+1=>Ba cx0 Tryz.prog (Kd 156 (Gs (An3 N)) (Ba cx0 Tryz.prog noS))
theorem Aat(N:Nat):∀g args T x1 T1,An3 N g args T x1 T1->Aqy N g args T T.length (λx T' n'=>∃σ,J1 T.length σ [noW x] T' n' ⟨[x1],T1,T1.length⟩):=by
 rintro g args T x1 T1 ⟨e,xs,he,hn,rfl,rfl,rfl,rfl,rfl⟩;cases N with
 |zero=>omega
 |succ N=>exact Ake _ (N+1) e xs he hn (λk args H m K h h'=>by
  have:k=N:=by omega
  exact this ▸ h')
theorem X4:∀N,Bb Tryz.prog (Aqy N)
 |0=>Af Ah (Da Bl (Af Ah Bl))
 |N+1=>Af Ah (Da (Gt (X4 N) (Aat N)) (Af Ah Bl))
def As3:FuncId->List AV->List Ob->AV->List Ob->Prop:=λg a T x T1=>∃k,An3 k g a T x T1
theorem Ahl:Bb Tryz.prog (Gs As3):=
 Gt (sem:=λg a H n K=>∃d,Aqy d g a H n K) ⟨λg a H n K ⟨d,h⟩=>(X4 d).1 g a H n K h,λid a H n K ⟨d,h⟩=>(X4 d).2 id a H n K h⟩ λg a T x T1 ⟨k,h⟩=>⟨k,Aat k g a T x T1 h⟩
end Go.Proofs.YtpabcdbaffjcdaaGreat
namespace Go.Proofs.YtpabcdbaffjcdaaGreat
open Go.Shelf Go.Sx Go.RowKit
def Tryz.sortA_ren:Go.Shelf.Ren:=⟨λ|5=>144|8=>63|7=>162|19=>100|20=>101|10=>201|11=>202|12=>203|13=>204|14=>205|15=>206|16=>207|17=>208|18=>209|30=>220|31=>139|32=>140|33=>221|34=>222|35=>64|40=>224|n=>n,λ|23=>26|25=>3|3=>3|32=>120|22=>26|0=>0|44=>158|46=>160|4=>4|36=>151|35=>150|41=>155|5=>5|9=>9|53=>186|57=>176|63=>207|64=>208|n=>n,λ|n=>n⟩
theorem Tryz.sortA:Go.Proofs.SlLaysM.n5 Tryz.prog Tryz.sortA_ren:={
 mixed:=by kernel_rfl
 f5:=⟨Tryz.f144.name,by decide,Tryz.func144.trans (bI some (by kernel_rfl))⟩
 f7:=⟨Tryz.f162.name,by decide,Tryz.func162.trans (bI some (by kernel_rfl))⟩
 f8:=Tryz.func63.trans (bI some (by kernel_rfl))
 f10:=⟨Tryz.f201.name,by decide,Tryz.func201.trans (bI some (by kernel_rfl))⟩
 f11:=⟨Tryz.f202.name,by decide,Tryz.func202.trans (bI some (by kernel_rfl))⟩
 f12:=⟨Tryz.f203.name,by decide,Tryz.func203.trans (bI some (by kernel_rfl))⟩
 f13:=⟨Tryz.f204.name,by decide,Tryz.func204.trans (bI some (by kernel_rfl))⟩
 f14:=⟨Tryz.f205.name,by decide,Tryz.func205.trans (bI some (by kernel_rfl))⟩
 f15:=⟨Tryz.f206.name,by decide,Tryz.func206.trans (bI some (by kernel_rfl))⟩
 f16:=⟨Tryz.f207.name,by decide,Tryz.func207.trans (bI some (by kernel_rfl))⟩
 f17:=⟨Tryz.f208.name,by decide,Tryz.func208.trans (bI some (by kernel_rfl))⟩
 f18:=⟨Tryz.f209.name,by decide,Tryz.func209.trans (bI some (by kernel_rfl))⟩
 f19:=Tryz.func100.trans (bI some (by kernel_rfl))
 f20:=Tryz.func101.trans (bI some (by kernel_rfl))
 f30:=⟨Tryz.f220.name,by decide,Tryz.func220.trans (bI some (by kernel_rfl))⟩
 f31:=Tryz.func139.trans (bI some (by kernel_rfl))
 f32:=Tryz.func140.trans (bI some (by kernel_rfl))
 f33:=⟨Tryz.f221.name,by decide,Tryz.func221.trans (bI some (by kernel_rfl))⟩
 f34:=⟨Tryz.f222.name,by decide,Tryz.func222.trans (bI some (by kernel_rfl))⟩
 f35:=⟨Tryz.f64.name,by decide,Tryz.func64.trans (bI some (by kernel_rfl))⟩
 f40:=⟨Tryz.f224.name,by decide,Tryz.func224.trans (bI some (by kernel_rfl))⟩
 t0:=Tryz.underlying0
 a0:=Tryz.isAgg0
 z0:=Tryz.sizeOf0
 v0:=Tryz.zeroValue0
 t3:=Tryz.underlying3
 a3:=Tryz.isAgg3
 z3:=Tryz.sizeOf3
 v3:=Tryz.zeroValue3
 t4:=Tryz.underlying4
 a4:=Tryz.isAgg4
 z4:=Tryz.sizeOf4
 v4:=Tryz.zeroValue4
 t5:=Tryz.underlying5
 a5:=Tryz.isAgg5
 z5:=Tryz.sizeOf5
 v5:=Tryz.zeroValue5
 t9:=Tryz.underlying9
 a9:=Tryz.isAgg9
 z9:=Tryz.sizeOf9
 v9:=Tryz.zeroValue9
 t22:=Tryz.underlying26
 a22:=Tryz.isAgg26
 z22:=Tryz.sizeOf26
 v22:=Tryz.zeroValue26
 t23:=Tryz.underlying26
 a23:=Tryz.isAgg26
 z23:=Tryz.sizeOf26
 v23:=Tryz.zeroValue26
 t25:=Tryz.underlying3
 a25:=Tryz.isAgg3
 z25:=Tryz.sizeOf3
 v25:=Tryz.zeroValue3
 t32:=Tryz.underlying120
 a32:=Tryz.isAgg120
 z32:=Tryz.sizeOf120
 v32:=Tryz.zeroValue120
 t35:=Tryz.underlying150
 a35:=Tryz.isAgg150
 z35:=Tryz.sizeOf150
 v35:=Tryz.zeroValue150
 t36:=Tryz.underlying151
 a36:=Tryz.isAgg151
 z36:=Tryz.sizeOf151
 v36:=Tryz.zeroValue151
 t41:=Tryz.underlying155
 a41:=Tryz.isAgg155
 z41:=Tryz.sizeOf155
 v41:=Tryz.zeroValue155
 t44:=Tryz.underlying158
 a44:=Tryz.isAgg158
 z44:=Tryz.sizeOf158
 v44:=Tryz.zeroValue158
 t46:=Tryz.underlying160
 a46:=Tryz.isAgg160
 z46:=Tryz.sizeOf160
 v46:=Tryz.zeroValue160
 t53:=Tryz.underlying186
 a53:=Tryz.isAgg186
 z53:=Tryz.sizeOf186
 v53:=Tryz.zeroValue186
 t57:=Tryz.underlying176
 a57:=Tryz.isAgg176
 z57:=Tryz.sizeOf176
 v57:=Tryz.zeroValue176
 t63:=Tryz.underlying207
 a63:=Tryz.isAgg207
 z63:=Tryz.sizeOf207
 v63:=Tryz.zeroValue207
 t64:=Tryz.underlying208
 a64:=Tryz.isAgg208
 z64:=Tryz.sizeOf208
 v64:=Tryz.zeroValue208 }
def Tryz.sortB_ren:Go.Shelf.Ren:=⟨λ|6=>133|8=>63|9=>159|19=>100|20=>101|21=>190|22=>191|23=>192|24=>193|25=>194|26=>195|27=>196|28=>197|29=>198|36=>216|31=>139|32=>140|37=>217|38=>218|39=>219|41=>223|n=>n,λ|27=>78|29=>9|3=>3|32=>120|26=>78|0=>0|44=>158|46=>160|4=>4|36=>151|35=>150|41=>155|5=>5|9=>9|53=>186|57=>176|63=>207|64=>208|n=>n,λ|n=>n⟩
theorem Tryz.sortB:Go.Proofs.SlLaysM.n6 Tryz.prog Tryz.sortB_ren:={
 mixed:=by kernel_rfl
 f6:=⟨Tryz.f133.name,by decide,Tryz.func133.trans (bI some (by kernel_rfl))⟩
 f8:=Tryz.func63.trans (bI some (by kernel_rfl))
 f9:=⟨Tryz.f159.name,by decide,Tryz.func159.trans (bI some (by kernel_rfl))⟩
 f19:=Tryz.func100.trans (bI some (by kernel_rfl))
 f20:=Tryz.func101.trans (bI some (by kernel_rfl))
 f21:=⟨Tryz.f190.name,by decide,Tryz.func190.trans (bI some (by kernel_rfl))⟩
 f22:=⟨Tryz.f191.name,by decide,Tryz.func191.trans (bI some (by kernel_rfl))⟩
 f23:=⟨Tryz.f192.name,by decide,Tryz.func192.trans (bI some (by kernel_rfl))⟩
 f24:=⟨Tryz.f193.name,by decide,Tryz.func193.trans (bI some (by kernel_rfl))⟩
 f25:=⟨Tryz.f194.name,by decide,Tryz.func194.trans (bI some (by kernel_rfl))⟩
 f26:=⟨Tryz.f195.name,by decide,Tryz.func195.trans (bI some (by kernel_rfl))⟩
 f27:=⟨Tryz.f196.name,by decide,Tryz.func196.trans (bI some (by kernel_rfl))⟩
 f28:=⟨Tryz.f197.name,by decide,Tryz.func197.trans (bI some (by kernel_rfl))⟩
 f29:=⟨Tryz.f198.name,by decide,Tryz.func198.trans (bI some (by kernel_rfl))⟩
 f31:=Tryz.func139.trans (bI some (by kernel_rfl))
 f32:=Tryz.func140.trans (bI some (by kernel_rfl))
 f36:=⟨Tryz.f216.name,by decide,Tryz.func216.trans (bI some (by kernel_rfl))⟩
 f37:=⟨Tryz.f217.name,by decide,Tryz.func217.trans (bI some (by kernel_rfl))⟩
 f38:=⟨Tryz.f218.name,by decide,Tryz.func218.trans (bI some (by kernel_rfl))⟩
 f39:=⟨Tryz.f219.name,by decide,Tryz.func219.trans (bI some (by kernel_rfl))⟩
 f41:=⟨Tryz.f223.name,by decide,Tryz.func223.trans (bI some (by kernel_rfl))⟩
 t0:=Tryz.underlying0
 a0:=Tryz.isAgg0
 z0:=Tryz.sizeOf0
 v0:=Tryz.zeroValue0
 t3:=Tryz.underlying3
 a3:=Tryz.isAgg3
 z3:=Tryz.sizeOf3
 v3:=Tryz.zeroValue3
 t4:=Tryz.underlying4
 a4:=Tryz.isAgg4
 z4:=Tryz.sizeOf4
 v4:=Tryz.zeroValue4
 t5:=Tryz.underlying5
 a5:=Tryz.isAgg5
 z5:=Tryz.sizeOf5
 v5:=Tryz.zeroValue5
 t9:=Tryz.underlying9
 a9:=Tryz.isAgg9
 z9:=Tryz.sizeOf9
 v9:=Tryz.zeroValue9
 t26:=Tryz.underlying78
 a26:=Tryz.isAgg78
 z26:=Tryz.sizeOf78
 v26:=Tryz.zeroValue78
 t27:=Tryz.underlying78
 a27:=Tryz.isAgg78
 z27:=Tryz.sizeOf78
 v27:=Tryz.zeroValue78
 t29:=Tryz.underlying9
 a29:=Tryz.isAgg9
 z29:=Tryz.sizeOf9
 v29:=Tryz.zeroValue9
 t32:=Tryz.underlying120
 a32:=Tryz.isAgg120
 z32:=Tryz.sizeOf120
 v32:=Tryz.zeroValue120
 t35:=Tryz.underlying150
 a35:=Tryz.isAgg150
 z35:=Tryz.sizeOf150
 v35:=Tryz.zeroValue150
 t36:=Tryz.underlying151
 a36:=Tryz.isAgg151
 z36:=Tryz.sizeOf151
 v36:=Tryz.zeroValue151
 t41:=Tryz.underlying155
 a41:=Tryz.isAgg155
 z41:=Tryz.sizeOf155
 v41:=Tryz.zeroValue155
 t44:=Tryz.underlying158
 a44:=Tryz.isAgg158
 z44:=Tryz.sizeOf158
 v44:=Tryz.zeroValue158
 t46:=Tryz.underlying160
 a46:=Tryz.isAgg160
 z46:=Tryz.sizeOf160
 v46:=Tryz.zeroValue160
 t53:=Tryz.underlying186
 a53:=Tryz.isAgg186
 z53:=Tryz.sizeOf186
 v53:=Tryz.zeroValue186
 t57:=Tryz.underlying176
 a57:=Tryz.isAgg176
 z57:=Tryz.sizeOf176
 v57:=Tryz.zeroValue176
 t63:=Tryz.underlying207
 a63:=Tryz.isAgg207
 z63:=Tryz.sizeOf207
 v63:=Tryz.zeroValue207
 t64:=Tryz.underlying208
 a64:=Tryz.isAgg208
 z64:=Tryz.sizeOf208
 v64:=Tryz.zeroValue208 }
def Sj(t:Ty)(srt:List t.den->List t.den)(g0:FuncId):CallSem:=λg args H n K=>g=g0/\((args=[.cap0]/\K (.tup []) H n)\/∃(id:Nat)(xs:List t.den),args=[.own id]/\Ac H id=.rows t xs/\xs.length<=1000000/\K (.tup []) (B3 (.rows t (srt xs)) H id) n)
theorem T9{t:Ty}{Pv:t.den->PV}(hE:∀x,enc t x=[Pv x]):∀(xs:List t.den),flat t xs=xs.map Pv
 |[]=>rfl
 |x::xs=>by
  have h:=T9 hE xs;unfold flat at h ⊢;rw[fB,h,hE];rfl
theorem Wf{α:Type}(v:α):∀(l:List α)(i:Nat),(∀h:i<l.length,l[i]=v)->B3 v l i=l
 |[],_,_=>rfl
 |a::l,0,h=>by
  have:=h (Nat.succ_pos _);simp only[List.getElem_cons_zero]at this;rw[B3,this]
 |a::l,i+1,h=>by
  rw[B3,Wf v l i λhi=>?_];have:=h (Nat.succ_lt_succ hi);simpa using this
theorem X5{w:World}{blk b:Nat}{f:Array Value->Array Value}(h:b≠blk):(Sort.mapBlock w blk f).heap[b]?=w.heap[b]?:=by
 unfold Sort.mapBlock;simp only[Array.getElem?_modify];rw[aL (Ne.symm h)]
theorem Ua{P:Program}{t:Ty}[Inhabited t.den]{V:t.den->Value}{Pv:t.den->PV}(hEn:∀x,enc t x=[Pv x])(hV:∀(w:World)(Fz:Nat->Nat->Prop) v x,RdP w Fz v (Pv x)<->v=V x){srt:List t.den->List t.den}(srt_len:∀xs,(srt xs).length=xs.length){g0:FuncId}(hf:∃fn,P.funcs[g0]?=some fn/\fn.body.isSome=true/\(fn.name == "runtime.NumGoroutine")=false)
 (hs:∀(blk off cap:Nat)(zs:List t.den)(w:World),Sort.Holds V w blk off zs.toArray->blk<w.heap.size->zs.length<4611686018427387904->
   Calls P g0 #[.slice (some ⟨blk,off,none⟩) zs.length cap] w λe w'=>e=.returned (.tuple #[])/\∃n os,w'=Sort.grow (Sort.putRow V (Sort.ahead w n) blk off (srt zs).toArray) os)
 (h0:∀(p:Option Addr)(cap:Nat)(w:World),Calls P g0 #[.slice p 0 cap] w λe w'=>e=.returned (.tuple #[])/\w'=w):Bb P (Sj t srt g0):=by
 refine⟨?_,λid args H n K h=>by rcases h with⟨_,⟨h,_⟩|⟨_,_,h,_⟩⟩<;>cases h⟩;rintro g args H n K ⟨rfl,⟨rfl,hk⟩|⟨id,xs,rfl,hob,hlen,hk⟩⟩ E vs hE hsz hrd
 ·refine⟨hf, ?_⟩;obtain⟨vs⟩:=vs
  match vs,hsz with
  |[v],_=>
  have hv:RdA E v .cap0:=hrd 0 v _ rfl rfl;cases hv with
  |cap0 a=>
  refine(h0 a 0 E.w).mono ?_;rintro e w' ⟨rfl,rfl⟩;exact⟨_,E,.tup [],_,n,rfl,rfl,bA _,hE,.tup _ _ rfl (λi u x hu=>by simp at hu),Evo.refl _ _,hk⟩
 refine⟨hf, ?_⟩;obtain⟨vs⟩:=vs
 match vs,hsz with
 |[v],_=>
 have hv:RdA E v (.own id):=hrd 0 v _ rfl rfl;have hA:=hv.own_inv.1;have hne:Ac H id≠.dead:=by rw[hob];simp
 have hl:=hE.live id hne;have hok:RowsAt E t xs (E.ρ id):=by
  have:=hE.ok id hl hne;rw[hob]at this;exact this
 have hW:E.W id:=hE.wr id (by rw[hob];trivial);have hown:=hv.own_inv.2.2 hl;cases hρ:E.ρ id with
 |none=>
  rw[hρ]at hok hown;obtain⟨ba,rfl⟩:=hown;have hxs:xs=[]:=hok;subst hxs;refine(h0 ba 0 E.w).mono ?_;rintro e w' ⟨rfl,rfl⟩;refine⟨_,E,.tup [],_,n,rfl,rfl,bA _, ?_,.tup _ _ rfl (λi u x hu=>by simp at hu),Evo.refl _ _,hk⟩;rw[Wf]
  ·exact hE
  ·intro hi;have:Ac H id=H[id]:=by
    unfold Ac;rw[Bn,aR hi];rfl
   rw[<-this,hob,cV (srt_len [])]
 |some hd=>
  rw[hρ]at hok hown;obtain⟨g1,g2,g3,g3',arr,el,g4,g5,g6⟩:=hok;have hown:v=.slice (some ⟨hd.blk,hd.off,none⟩) hd.len hd.cap:=hown;subst hown;have hsz1:Ty.size t=1:=by rw[<-Aw t (default:t.den),hEn];rfl
  rw[hsz1,fX]at g5;have hcell:∀j (hj:j<xs.length),arr[hd.off+j]?=some (V xs[j]):=by
   intro j hj;obtain⟨u,u1,u2⟩:=g6 j (Pv xs[j]) (by rw[T9 hEn,cL,aR hj];rfl);rw[<-(hV _ _ _ _).1 u2];exact u1
  have hH:Sort.Holds V E.w hd.blk hd.off xs.toArray:=by
   intro j hj;have hj':j<xs.length:=by simpa using hj
   refine⟨?_, ?_⟩
   ·have:=hcell j hj';simp only[World.cell?,g4];rw[this];simp[hj']
   ·simp[World.frozen?,g4]
  have hblk:=(hE.lt id hd hl hρ).2;have:=hs hd.blk hd.off hd.cap xs E.w hH hblk (by omega);rw[<-g1]at this;refine this.mono ?_;rintro e w' ⟨rfl,m,os,rfl⟩;have hsl:=srt_len xs;have hnew:(Sort.grow (Sort.putRow V (Sort.ahead E.w m) hd.blk hd.off (srt xs).toArray) os).heap[hd.blk]?=some (.cells (Sort.putCells V hd.off (srt xs).toArray arr) el (0,0)):=by
   unfold Sort.grow Sort.putRow Sort.mapBlock;simp only[Sort.heap_ahead];rw[fU (by simpa using hblk),Array.getElem?_modify,aP rfl,g4];rfl
  have hold:∀b,b<E.w.heap.size->b≠hd.blk->(Sort.grow (Sort.putRow V (Sort.ahead E.w m) hd.blk hd.off (srt xs).toArray) os).heap[b]?=E.w.heap[b]?:=by
   intro b hb hne;show((Sort.putRow V (Sort.ahead E.w m) hd.blk hd.off (srt xs).toArray).heap++os)[b]?=_;rw[fU (by simpa using hb)];exact X5 hne
  have hsize:E.w.heap.size<=(Sort.grow (Sort.putRow V (Sort.ahead E.w m) hd.blk hd.off (srt xs).toArray) os).heap.size:=by
   show _<=((Sort.putRow V (Sort.ahead E.w m) hd.blk hd.off (srt xs).toArray).heap++os).size;rw[gK,Sort.size_putRow];exact iE _ _
  have hbd:Below E.B E.w (Sort.grow (Sort.putRow V (Sort.ahead E.w m) hd.blk hd.off (srt xs).toArray) os):=by
   refine⟨rfl,rfl,rfl,hsize,λk hk=>hold k (cA hk hE.B) ?_⟩;have:=(hE.lt id hd hl hρ).1;omega
  generalize Sort.grow (Sort.putRow V (Sort.ahead E.w m) hd.blk hd.off (srt xs).toArray) os=w' at hnew hold hsize hbd;have hstep:Step E n ⟨none,none,.tup [],[],none,some (id,.rows t (srt xs)),[]⟩ w' (λ_=>none):=by
   refine⟨hbd,λb hb hne=>hold b hb λe=>hne id hW (.inr rfl) (.inl ⟨hd,hρ,e.symm⟩), ?_, ?_, ?_, ?_⟩
   ·intro j h hj;simp at hj
   ·intro j j' h h' hj;simp at hj
   ·intro id hid;cases hid
   ·intro p hp;cases hp;exact hW
  have hρ2:∀wn,(E.ext n 0 none [] wn w' (λ_=>none)).ρ id=some hd:=λwn=>by
   simp only[Env.ext];rw[aL (by omega),hρ]
  have hx:=hstep.ext (wn:=Xn n ⟨none,none,.tup [],[],none,some (id,.rows t (srt xs)),[]⟩) (hE.ready _) ⟨n,hE.ns⟩ (λ_ j ob hj=>by simp at hj) (λhevo i ob hi=>by
   cases hi;show RowsAt _ t _ _;rw[show(E.ext n (List.length ([]:List Ob)) none [] _ w' (λ_=>none)).ρ id=some hd from hρ2 _];refine⟨by rw[hsl];exact g1,g2,g3,g3',_,el,hnew, ?_,λj p hp=>?_⟩
   ·rw[hsz1,fX];simp[Sort.putCells];omega
   ·rw[T9 hEn,cL]at hp;obtain⟨x,hx,rfl⟩:=bC.1 hp;have hj:=(aW.1 hx).1;refine⟨V x, ?_,(hV _ _ _ _).2 rfl⟩;have hlt:hd.off+j<arr.size:=by omega
    unfold Sort.putCells;rw[Array.getElem?_mapIdx,cF hlt];simp only[eO,aU];rw[aP ⟨by omega,by simp;omega⟩,show hd.off+j-hd.off=j by omega];obtain⟨_,he⟩:=aW.1 hx;simp[hj,he])
  have hE':=hE.step hx ⟨λid hid=>(by cases hid),λp hp=>(by cases hp;exact⟨hA,by rw[hob];trivial⟩)⟩;have hheap:Res.heap ⟨none,none,.tup [],[],none,some (id,.rows t (srt xs)),[]⟩ H=B3 (.rows t (srt xs)) H id:=by
   unfold Res.heap;rw[cC];rfl
  rw[hheap]at hE';exact⟨_,_,.tup [],_,n,rfl,rfl,bA _,hE',.tup _ _ rfl (λi u x hu=>by simp at hu),hx.evo n,hk⟩
def Gw(xs:List Int):List Int:=xs.mergeSort λx y=>decide (x<=y)
def sortB(xs:List ByteArray):List ByteArray:=((xs.map λs=>s.data.toList).mergeSort λx y=>decide (x<=y)).map λl=>⟨l.toArray⟩
theorem An4:Bb Tryz.prog (Sj tI Gw 144):=
 Ua (t:=tI) (srt:=Gw) (V:=Value.int .i64) (Pv:=PV.int .i64) (λ_=>rfl) (λ_ _ _ _=>⟨λh=>by cases h;rfl,λh=>by rw[h];exact .int _ _⟩) (λxs=>gQ xs) ⟨_,Tryz.func144,rfl,rfl⟩
  (λblk off cap zs w hH hb hz=>AnyM.slices_Sort_int Tryz.sortA blk off cap zs w hH hb hz) (λp cap w=>AnyM.slices_Sort_int_none Tryz.sortA p cap w)
theorem An5:Bb Tryz.prog (Sj .str sortB 133):=by
 refine Ua (t:=.str) (srt:=sortB) (V:=Value.string) (Pv:=PV.str) (λ_=>rfl) (λ_ _ _ _=>⟨λh=>by cases h;rfl,λh=>by rw[h];exact .str _⟩) (λxs=>by simp[sortB,gQ]) ⟨_,Tryz.func133,rfl,rfl⟩
  (λblk off cap zs w hH hb hz=>?_) (λp cap w=>AnyM.slices_Sort_string_none Tryz.sortB p cap w)
 have h1:Sort.Holds encStr w blk off (zs.map λs=>s.data.toList).toArray:=by
  intro j hj;have hj':j<zs.length:=by simpa using hj
  obtain⟨h2,h3⟩:=hH j (by simpa using hj');refine⟨h2.trans ?_,h3⟩;simp[hj',encStr]
 have h4:=AnyM.slices_Sort_string Tryz.sortB blk off cap (zs.map λs=>s.data.toList) w h1 hb (by simpa using hz);rw[bN]at h4;refine h4.mono ?_;rintro e w' ⟨rfl,n,os,rfl⟩;refine⟨rfl,n,os, ?_⟩;have h5:∀c:Array Value,Sort.putCells encStr off ((zs.map λs=>s.data.toList).mergeSort λx y=>decide (x<=y)).toArray c=Sort.putCells Value.string off (sortB zs).toArray c:=by
  intro c;unfold Sort.putCells
  congr 1
  funext k x
  simp only[dZ,sortB,bN];split
  ·rename_i hk;have:k-off<((zs.map λs=>s.data.toList).mergeSort λx y=>decide (x<=y)).length:=by omega
   simp[this,encStr,aR this]
  ·rfl
 unfold Sort.putRow
 congr 2
 funext c
 exact h5 c
def H8(xs:List ByteArray):Nat->List ByteArray
 |0=>[]
 |n+1=>H8 xs n++(if n=0\/xs.getD n (Ab .str)≠xs.getD (n-1) (Ab .str)then[xs.getD n (Ab .str)]else[])
def Aau(xs:List ByteArray):List ByteArray:=H8 xs xs.length
theorem Kh{α:Type}{xs:List α}{n:Nat}{d:α}(h:n<xs.length):xs.take (n+1)=xs.take n++[xs.getD n d]:=by
 rw[bS h];simp[aZ,aR h]
theorem Wg{xs:List ByteArray}{n:Nat}(h0:n≠0)(h:xs.getD n (Ab .str)=xs.getD (n-1) (Ab .str)):H8 xs (n+1)=H8 xs n:=by
 rw[H8,aL (by rintro(h1|h1);exact h0 h1;exact h1 h),cC]
theorem Ub{xs:List ByteArray}{n:Nat}(h:xs.getD n (Ab .str)≠xs.getD (n-1) (Ab .str)):H8 xs (n+1)=H8 xs n++[xs.getD n (Ab .str)]:=by
 rw[H8,aP (.inr h)]
theorem Aqz{xs:List ByteArray}(h:1<=xs.length):H8 xs 1=xs.take 1:=by
 rw[Kh (n:=0) (d:=Ab .str) h];simp[H8]
theorem Akf{xs:List ByteArray}(h:xs.length<2):Aau xs=xs:=by
 match xs,h with
 |[],_=>rfl
 |[a],_=>rfl
theorem Wh{α:Type}{xs ys:List α}{n m:Nat}{d:α}(h:ys.drop n=xs.drop n)(hm:n<=m):ys.getD m d=xs.getD m d:=by
 have h1:(ys.drop n)[m-n]?=(xs.drop n)[m-n]?:=by rw[h]
 rw[cK,cK,show n+(m-n)=m by omega]at h1;simp[aZ,h1]
theorem Akg{α:Type}{ys:List α}{m:Nat}{v:α}(h:m<ys.length):(ys.set m v).take (m+1)=ys.take m++[v]:=by
 rw[Kh (n:=m) (d:=v) (by rw[cE];exact h),List.take_set_of_le (bA _)];simp[aZ,h]
theorem Ahm{α:Type}{xs ys:List α}{n:Nat}(h:ys.drop n=xs.drop n):ys.drop (n+1)=xs.drop (n+1):=by
 rw[<-gW,<-gW,h]
def Fh(e:ExprT):List ByteArray:=if Bv e=0 then Aau (sortB (Hj e))else[]
def cxX:Ctx:=⟨Dk,[(87,([],c79))]⟩
theorem Uc:Ai Tryz.prog cxX:=Ae Ac3 Ah
def c80:Ctr:=fnC [dX] [(false,tSs)] (λ_=>True) (λy=>(Fh y.1,()))
theorem Aq0:GoodC Tryz.prog 88 c80:=by
 refine Xw (Af Uc (Da (g0:=133) An5 (Af Uc (Da (g0:=156) Ahl (Af Uc Bl))))) _ _ _ _ ⟨_,Tryz.func88,rfl,rfl⟩ λ(⟨e,_⟩:ExprT×Unit) _=>?_
 refine(aF (aI tT (aI (λh0=>(Aa rfl ?_)) (λh0=>(aF (aF (aF (aI tT ?_))))))))
 ·have hk:Bv e≠0:=by have h:=h0;simp only[eta]at h;simpa using h
  show(Fh e,())=([],());rw[Fh,aL hk]
 have hk:Bv e=0:=by have h:=h0;simp only[eta]at h;simpa using h
 have hN:(Hj e).length<=100:=cP (Ae5 e) (An2 hk);have hnm:Fh e=Aau (sortB (Hj e)):=by rw[Fh,aP hk]
 refine eI [exA e,.yld 2] (eI (vnT []) (eI (.bool true) (eI (Aas ([]++Hj e)) (eI [some 1,none,some 3]
  ⟨⟨_,e,[],eN _,by simpa using hN,rfl,rfl,rfl,rfl,rfl⟩,⟨by rfl,by rfl,⟨⟨by rfl,by rfl⟩,by rfl,⟨⟨rfl,rfl,rfl,by kernel_rfl,by kernel_rfl⟩,by rfl,by rfl⟩,trivial⟩,by rfl⟩,by rfl, ?_⟩))))
 rw[List.nil_append];dsimp only[vnT,Aas,slN,Fq,Cx,E6,Db,Fv,B3,Aq,Ic,List.length_cons,List.length_nil,List.cons_append,List.nil_append,Nat.reduceAdd,Nat.reduceSub];refine(aA ?_);refine .inr ⟨4,Hj e,rfl,rfl,by omega, ?_⟩;obtain⟨xs,hx⟩:∃xs,sortB (Hj e)=xs:=⟨_,rfl⟩;have hxl:xs.length<=100:=by rw[<-hx];simpa[sortB,gQ]using hN
 rw[hx]at hnm;rw[hx];refine(aF (λw0=>(aI (λw1=>(Aa rfl ?_)) (λw1=>?_))))
 ·have h2:xs.length<2:=by have:=aM w1;omega
  show(Fh e,())=(xs,());rw[hnm,Akf h2]
 have hx2:2<=xs.length:=by have:=aQ w1;omega
 refine ex4 _ (λk:Nat=>⟨[.own 4,.any,.any,.int .i64 (k:Int)]++nA 57,[.cells   [.int .i64 e.kind,.int .i64 e.op,.str e.name,.int .i64 e.value,.sl .expr e.args],.cells [.own 4],.cells   [.int .i64 e.kind,.int .i64 e.op,.str e.name,.int .i64 e.value,.sl .expr e.args],.dead,.rows .str xs],5⟩) (λk=>1<=k/\k<=xs.length/\H8 xs k=xs.take k) (λk=>xs.length-k) (aI (eI (1) (eI ([some 0,some 1,some 2,some 3,some 4]) (aI ?_ (aB (aI (aH (aG (aA tT))) (by rfl)))))) ?_)
 ·exact⟨bA _,by omega,Aqz (by omega)⟩
 rintro k ⟨hk1,hk2,hku⟩;refine(λk0=>(aI (λk1=>(aF (aO (aO (aO (aI (λk2=>(aO ?_)) (λk2=>(aO ?_)))))))) (λk1=>(Aa rfl ?_))))
 ·have hlt:k<xs.length:=by have:=aM k1;omega
  have heq:xs.getD k (Ab .str)=xs.getD (k-1) (Ab .str):=by
   have h:=aM k2;rw[bH,show((k:Int)-1).toNat=k-1 by omega]at h;exact h
  refine ex4 _ (λp:Nat×Nat×List ByteArray=>⟨[.own 4,.any,.any,.int .i64 (p.2.1:Int),.ownp 4 1 k (xs.length-k),.int .i64 (p.1:Int),.any,.any,.any,.any,.int .i64 (↑k:Int),.own 4,.int .i64 (↑xs.length:Int),.bool (decide ((↑k:Int)<(↑xs.length:Int))),.any,.any,.own 4,.int .i64 (↑k:Int),.any,.any,.own 4,.int .i64 (↑k:Int),.int .i64 ((↑k:Int)-1),.any,.any,.any,.own 4,.int .i64 (↑k:Int)]++nA 33,[.cells   [.int .i64 e.kind,.int .i64 e.op,.str e.name,.int .i64 e.value,.sl .expr e.args],.cells [.own 4],.cells   [.int .i64 e.kind,.int .i64 e.op,.str e.name,.int .i64 e.value,.sl .expr e.args],.dead,.rows .str p.2.2],5⟩) (λp=>(1<=p.1/\p.1<=xs.length-k)/\(p.2.1<k+p.1/\p.2.2.length=xs.length)/\p.2.2.take p.2.1=H8 xs (k+p.1)/\p.2.2.drop (k+p.1-1)=xs.drop (k+p.1-1)) (λp=>xs.length-p.1) (aI (eI ((1,k,xs)) (eI ([some 0,some 1,some 2,some 3,some 4]) (aI ?_ (aB (aI (aH (aG (aA tT))) (by rfl)))))) ?_)
  ·refine⟨⟨bA _,by show 1<=xs.length-k;omega⟩,⟨by show k<k+1;omega,rfl⟩, ?_,rfl⟩;show xs.take k=H8 xs (k+1);rw[Wg (by omega) heq,hku]
  rintro⟨j,m,ys⟩ ⟨⟨hj1,hj2⟩,⟨hm,hy⟩,ht,hd⟩;replace hj1:1<=j:=hj1;replace hj2:j<=xs.length-k:=hj2;replace hm:m<k+j:=hm;replace hy:ys.length=xs.length:=hy;replace ht:ys.take m=H8 xs (k+j):=ht;replace hd:ys.drop (k+j-1)=xs.drop (k+j-1):=hd;have jn:(j:Int).toNat=j:=bH j;have jp:((j:Int)-1).toNat=j-1:=by omega
  have mn:(m:Int).toNat=m:=bH m;have ha:ys.getD (k+j) (Ab .str)=xs.getD (k+j) (Ab .str):=Wh hd (by omega);have hb:ys.getD (k+(j-1)) (Ab .str)=xs.getD (k+j-1) (Ab .str):=by
   rw[Wh hd (by omega),show k+(j-1)=k+j-1 by omega]
  have hdn:ys.drop (k+(j+1)-1)=xs.drop (k+(j+1)-1):=by
   have:=Ahm hd;rw[show k+j-1+1=k+(j+1)-1 by omega]at this;exact this
  refine(aI (λj0=>(aF (aO (aO (aO (aI (λj1=>(aO (aO (aO (aO ?_))))) (λj1=>(aO ?_)))))))) (λj0=>(aO (aO (Aa rfl ?_)))))
  ·have hl:j<xs.length-k:=by have:=aM j0;omega
   have hne:xs.getD (k+j) (Ab .str)≠xs.getD (k+j-1) (Ab .str):=by
    intro h;rw[<-ha,<-hb]at h;have h2:=j1;simp only[jn,jp]at h2;rw[aX h]at h2;cases h2
   refine eI ((j+1,m+1,ys.set m (ys.getD (k+j) (Ab .str)))) (eI ([some 0,some 1,some 2,some 3,some 4]) (aI ?_ (aI ?_ (aB (aI (aH (aG (aA tT))) (by rfl))))))
   ·refine⟨⟨by show 1<=j+1;omega,by show j+1<=_;omega⟩,⟨by show m+1<k+(j+1);omega,by show(ys.set m _).length=_;rw[cE];exact hy⟩, ?_, ?_⟩
    ·show(ys.set m _).take (m+1)=H8 xs (k+j+1);rw[Akg (by omega),ht,ha,Ub hne]
    ·show(ys.set m _).drop (k+(j+1)-1)=_;rw[List.drop_set_of_lt (by omega)];exact hdn
   ·show xs.length-(j+1)<xs.length-j;omega
  ·have hl:j<xs.length-k:=by have:=aM j0;omega
   have he:xs.getD (k+j) (Ab .str)=xs.getD (k+j-1) (Ab .str):=by
    rw[<-ha,<-hb];have h2:=j1;simp only[jn,jp]at h2;by_cases h:ys.getD (k+j) (Ab .str)=ys.getD (k+(j-1)) (Ab .str)
    ·exact h
    ·rw[bE h]at h2;cases h2
   refine eI ((j+1,m,ys)) (eI ([some 0,some 1,some 2,some 3,some 4]) (aI ?_ (aI ?_ (aB (aI (aH (aG (aA tT))) (by rfl))))))
   ·refine⟨⟨by show 1<=j+1;omega,by show j+1<=_;omega⟩,⟨by show m<k+(j+1);omega,hy⟩, ?_,hdn⟩;show ys.take m=H8 xs (k+j+1);rw[ht,Wg (by omega) he]
   ·show xs.length-(j+1)<xs.length-j;omega
  ·have hl:j=xs.length-k:=by have:=aQ j0;omega
   have hm2:m<=ys.length:=by omega
   rw[show k+j=xs.length by omega]at ht;show(Fh e,())=_;rw[hnm,Aau,<-ht];simp only[mn];simp[hm2,List.take_append_of_le_length]
 ·have hlt:k<xs.length:=by have:=aM k1;omega
  have hne:xs.getD k (Ab .str)≠xs.getD (k-1) (Ab .str):=by
   have h:=aQ k2;rw[bH,show((k:Int)-1).toNat=k-1 by omega]at h;exact h
  refine eI (k+1) (eI ([some 0,some 1,some 2,some 3,some 4]) (aI ?_ (aI ?_ (aB (aI (aH (aG (aA tT))) (by rfl))))))
  ·refine⟨by omega,hlt, ?_⟩;rw[Ub hne,hku,Kh hlt]
  ·show xs.length-(k+1)<xs.length-k;omega
 ·have e1:k=xs.length:=by have:=aQ k1;omega
  subst e1;show(Fh e,())=(xs,());rw[hnm,Aau,hku,dD]
def Lr(o:Int):Int:=Ds o 0 [(3,1),(4,1),(5,1),(6,1),(7,1),(8,0),(9,0),(10,1),(11,1),(12,1),(13,1),(14,2),(15,2)]
def Ew(o:Int):Int:=Ds o 0 [(3,1),(4,1),(5,1),(6,1),(7,1),(8,2),(9,2),(10,2),(11,2),(12,2),(13,2),(14,2),(15,2)]
def Ng(l:List Bd)(e:ExprT)(ts:List Int):Int×Int:=
 if e.kind=1 then(1,0)
 else if e.kind=2 then(if(C2 l e.name).2=true then((C2 l e.name).1.2.1,0)else(0,7))
 else if e.kind=3 then(if ts.getD 0 0=(if e.op=2 then 2 else 1)then((if e.op=2 then 2 else 1),0)else(0,15))
 else if ts.getD 0 0≠ts.getD 1 0\/(Lr e.op≠0/\ts.getD 0 0≠Lr e.op)then(0,15)else(Ew e.op,0)
mutual
def C5(l:List Bd):ExprT->Int×Int
 |.mk k o nm v args=>if(D5 l args).2=0 then Ng l (.mk k o nm v args) (D5 l args).1 else(0,(D5 l args).2)
def D5(l:List Bd):List ExprT->List Int×Int
 |[]=>([],0)
 |e::r=>if(C5 l e).2=0 then((C5 l e).1::(D5 l r).1,(D5 l r).2)else([],(C5 l e).2)
end
theorem X6(l:List Bd)(e:ExprT):C5 l e=if(D5 l e.args).2=0 then Ng l e (D5 l e.args).1 else(0,(D5 l e.args).2):=by
 obtain⟨k,o,nm,v,args⟩:=e;rfl
theorem Wi(l:List Bd){args:List ExprT}{i:Nat}{e0:ExprT}(h:i<args.length):D5 l (args.drop i) =
 if(C5 l (args.getD i e0)).2=0 then((C5 l (args.getD i e0)).1::(D5 l (args.drop (i+1))).1,(D5 l (args.drop (i+1))).2)else([],(C5 l (args.getD i e0)).2):=by
 rw[cG h];simp[D5,List.getD,h]
theorem Pe:∀(args:List ExprT)(i:Nat)(e0:ExprT),i<args.length->Rw args=0->Fg (args.getD i e0)=0
 |[],i,e0,h,_=>aT h (eE _)
 |e::r,0,e0,_,h=>by
  simp only[Rw]at h;split at h
  ·assumption
  ·rename_i h1;exact aT h h1
 |e::r,i+1,e0,hi,h=>by
  simp only[Rw]at h;split at h
  ·have:=Pe r i e0 (by simpa using hi) h;simpa using this
  ·rename_i h1;exact aT h h1
theorem Ud{e:ExprT}(h:Fg e=0):Ff e=0/\Rw e.args=0:=by
 rw[X2]at h;split at h
 ·exact⟨by assumption,h⟩
 ·rename_i h1;exact aT h h1
theorem Ue{p:Prop}[Decidable p]{a b:Int}(h:(if p then a else b)=0)(ha:a≠0):¬p/\b=0:=by
 by_cases hp:p
 ·rw[aP hp]at h;exact aT h ha
 ·rw[aL hp]at h;exact⟨hp,h⟩
theorem X7{e:ExprT}(h:Ff e=0):(1<=e.kind/\e.kind<=4)/\(e.args.length:Int)=[0,0,0,1,2].getD e.kind.toNat 0/\(e.kind=1->0<=e.value/\e.value<=1099511627776)/\
 (e.kind=2->Pc e.name=true)/\(e.kind=3->e.op=1\/e.op=2)/\(e.kind=4->M2 e.op=true):=by
 simp only[Ff,X0,fI]at h;generalize M2 e.op=b at *;generalize Pc e.name=c at *;generalize List.getD [0,0,0,1,2] e.kind.toNat (0:Int)=w at *;generalize e.kind=k at *;generalize e.op=o at *;generalize e.value=v at *;generalize (e.args.length:Int)=m at *;generalize e.name=s at *;obtain⟨h1,h⟩:=Ue h (by decide);obtain⟨h2,h⟩:=Ue h (by decide);obtain⟨h3,h⟩:=Ue h (by decide);obtain⟨h4,h⟩:=Ue h (by decide);obtain⟨h5,h⟩:=Ue h (by decide);refine⟨?_, ?_, ?_, ?_, ?_, ?_⟩<;>grind
theorem Ae7{e:ExprT}(h:(e.args.length:Int)=[0,0,0,1,2].getD e.kind.toNat 0):e.args.length<=2:=by
 have:∀n:Nat,([0,0,0,1,2]:List Int).getD n 0<=2:=λn=>by
  match n with
  |0=>decide
  |1=>decide
  |2=>decide
  |3=>decide
  |4=>decide
  |n+5=>simp
 have:=this e.kind.toNat
 omega
def As4(N:Nat):Ctr:=fnC [dX,Xx] rII (λy=>Fg y.1=0/\exW y.1<N) (λy=>((C5 y.2.1 y.1).1,(C5 y.2.1 y.1).2,()))
def cxT(N:Nat):Ctx:=⟨Dk,[(137,([],As4 N)),(160,([],c134)),(157,([],c130))]⟩
set_option maxHeartbeats 4000000 in
theorem Aav:∀N,GoodC Tryz.prog 137 (As4 N)
 |0=>by
  refine Au Ah 3 _ _ _ _ ⟨_,Tryz.func137,rfl,rfl⟩ λy hn=>?_
  exact aT hn.2 (eE _)
 |N+1=>by
  refine Au (cx:=cxT N) (Ae (Aav N) (Ae Ae3 (Ae Ae1 Ah))) 3 _ _ _ _ ⟨_,Tryz.func137,rfl,rfl⟩ λ(⟨e,l,_⟩:ExprT×List Bd×Unit) hn=>?_
  have hN:exW e<N+1:=hn.2;have hc:Fg e=0:=hn.1;clear hn;obtain⟨hc1,hc2⟩:=Ud hc;obtain⟨hk,ha,-,-,-,ho⟩:=X7 hc1;refine(aF (λh0=>?_));refine ex4 _ (λp:Nat×List Int=>⟨[.any,.sl tBd l,.ptr 0 0,.any,.any,.any,.own 1,.any,.any,.any,.any,.any,.any,.any,.any,.ptr 0 4,.sl .expr e.args,.int .i64 (↑e.args.length:Int),.int .i64 (p.1:Int)]++nA 71,[.cells   [.int .i64 e.kind,.int .i64 e.op,.str e.name,.int .i64 e.value,.sl .expr e.args],.rows tI p.2],2⟩) (λp=>p.1<=e.args.length/\p.2.length=p.1/\(D5 l (e.args.drop p.1)).2=(D5 l e.args).2/\((D5 l e.args).2=0->(D5 l e.args).1=p.2++(D5 l (e.args.drop p.1)).1)) (λp=>e.args.length-p.1) (aI (eI ((0,[])) (eI ([some 0,none]) (aI ?_ (aB (aI (aG (aA tT)) (by rfl)))))) ?_)
  ·exact⟨aV _,rfl,rfl,λ_=>rfl⟩
  rintro⟨i,ts⟩ ⟨hi,hts,h2,h3⟩;replace hts:ts.length=i:=hts;have hl2:=Ae7 ha;have room:(ts.length+1)*8<=lim:=by
   have:i<=e.args.length:=hi;simp only[lim];omega
  have hend:decide ((i:Int)<(e.args.length:Int))=false->ts.length=e.args.length/\C5 l e=Ng l e ts:=λh=>by
   have hi':¬i<e.args.length:=by simpa using h
   have hle:i<=e.args.length:=hi;have hnil:e.args.drop i=[]:=bK (by omega);have h2':(D5 l e.args).2=0:=by rw[<-h2];show(D5 l (e.args.drop i)).2=0;rw[hnil];rfl
   have h3':=h3 h2';have h4:(D5 l e.args).1=ts:=by rw[h3'];show ts++(D5 l (e.args.drop i)).1=ts;rw[hnil];simp[D5]
   refine⟨by omega, ?_⟩;rw[X6,aP h2',h4]
  have hargs:∀k:Int,e.kind=k->(e.args.length:Int)=[0,0,0,1,2].getD k.toNat 0:=λk h=>by rw[<-h];exact ha
  refine(aI (λk0=>(aI (by first|exact room|(intros;(try subst_vars);(try simp only[nB]at *);(try simp only[inK,big,lim,nL]at *);omega)) (aI ?_ (aI (λk1=>(Aa rfl ?_)) (λk1=>(aI (by first|exact room|(intros;(try subst_vars);(try simp only[nB]at *);(try simp only[inK,big,lim,nL]at *);omega)) (aI (by first|exact room|(intros;(try subst_vars);(try simp only[nB]at *);(try simp only[inK,big,lim,nL]at *);omega)) ?_))))))) (λk0=>(aI (λk2=>(Aa rfl ?_)) (λk2=>(aI (λk3=>(aI tT (λ(k4:(ByteArray×Int×Int)×Bool×PUnit)=>(λk5=>(aI (λk6=>(Aa rfl ?_)) (λk6=>(Aa rfl ?_))))))) (λk3=>(aI (λk7=>(aI (λk8=>(aI ?_ (aI (λk9=>(Aa rfl ?_)) (λk9=>(Aa rfl ?_))))) (λk8=>(aI ?_ (aI (λk10=>(Aa rfl ?_)) (λk10=>(Aa rfl ?_))))))) (λk7=>(aF (aF (aI ?_ (aI ?_ (aI (λk11=>?_) (aI (λk12=>(Aa rfl ?_)) (λk12=>(Aa rfl ?_))))))))))))))))
  ·have hi':i<e.args.length:=by simpa using k0
   rw[eta];exact⟨Pe _ _ _ hi' hc2,cA (Le hi') (by omega)⟩
  ·have hi':i<e.args.length:=by simpa using k0
   have hk:(C5 l (e.args.getD i (Ab .expr))).2≠0:=by have h:=k1;simp only[eta]at h;simpa using h
   have hd:=Wi l (e0:=Ab .expr) hi';rw[aL hk]at hd;have h4:(D5 l e.args).2=(C5 l (e.args.getD i (Ab .expr))).2:=by rw[<-h2];show(D5 l (e.args.drop i)).2=_;rw[hd]
   simp only[eta];show((C5 l e).1,(C5 l e).2,())=(0,(C5 l (e.args.getD i (Ab .expr))).2,());rw[X6,aL (by rw[h4];exact hk),h4]
  ·have hi':i<e.args.length:=by simpa using k0
   have hk:(C5 l (e.args.getD i (Ab .expr))).2=0:=by have h:=k1;simp only[eta]at h;simpa using h
   have hd:=Wi l (e0:=Ab .expr) hi';rw[aP hk]at hd;refine eI ((i+1,ts++[(C5 l (ExprT.mk (e.args.getD i (Ab .expr)).kind (e.args.getD i (Ab .expr)).op (e.args.getD i (Ab .expr)).name (e.args.getD i (Ab .expr)).value (e.args.getD i (Ab .expr)).args)).1])) (eI ([some 0,some 4]) (aI ?_ (aI ?_ (aB (aI (aG (aA tT)) (by rfl))))))
   ·rw[eta];refine⟨hi',by show(ts++[_]).length=i+1;simp[hts], ?_,λh=>?_⟩
    ·rw[<-h2];show(D5 l (e.args.drop (i+1))).2=(D5 l (e.args.drop i)).2;rw[hd]
    ·rw[h3 h];show ts++(D5 l (e.args.drop i)).1=(ts++[_])++(D5 l (e.args.drop (i+1))).1;rw[hd];simp
   ·show e.args.length-(i+1)<e.args.length-i;omega
  ·obtain⟨-,he⟩:=hend k0;have h1:e.kind=1:=aM k2;show((C5 l e).1,(C5 l e).2,())=(1,0,());rw[he,Ng,aP h1]
  ·obtain⟨-,he⟩:=hend k0;have h1:e.kind≠1:=aQ k2;have h2:e.kind=2:=aM k3;have h6:¬(C2 l e.name).2=true:=by have h:=k6;rw[k5]at h;simpa using h
   show((C5 l e).1,(C5 l e).2,())=(0,7,());rw[he,Ng,aL h1,aP h2,aL h6]
  ·obtain⟨-,he⟩:=hend k0;have h1:e.kind≠1:=aQ k2;have h2:e.kind=2:=aM k3;have h6:(C2 l e.name).2=true:=by have h:=k6;rw[k5]at h;simpa using h
   show((C5 l e).1,(C5 l e).2,())=(k4.1.2.1,0,());rw[k5,he,Ng,aL h1,aP h2,aP h6]
  ·obtain⟨hl,he⟩:=hend k0;have:=hargs _ (aM k7);simp at this;exact⟨cO _,by rw[hl];omega⟩
  ·obtain⟨-,he⟩:=hend k0;have h1:e.kind≠1:=aQ k2;have h2:e.kind≠2:=aQ k3;have h3:e.kind=3:=aM k7;have h4:e.op=2:=aM k8;have h5:¬ts.getD 0 0=2:=by have h:=k9;simpa using h
   show((C5 l e).1,(C5 l e).2,())=(0,15,());rw[he,Ng,aL h1,aL h2,aP h3,aP h4,aL h5]
  ·obtain⟨-,he⟩:=hend k0;have h1:e.kind≠1:=aQ k2;have h2:e.kind≠2:=aQ k3;have h3:e.kind=3:=aM k7;have h4:e.op=2:=aM k8;have h5:ts.getD 0 0=2:=by have h:=k9;simpa using h
   show((C5 l e).1,(C5 l e).2,())=(2,0,());rw[he,Ng,aL h1,aL h2,aP h3,aP h4,aP h5]
  ·obtain⟨hl,he⟩:=hend k0;have:=hargs _ (aM k7);simp at this;exact⟨cO _,by rw[hl];omega⟩
  ·obtain⟨-,he⟩:=hend k0;have h1:e.kind≠1:=aQ k2;have h2:e.kind≠2:=aQ k3;have h3:e.kind=3:=aM k7;have h4:e.op≠2:=aQ k8;have h5:¬ts.getD 0 0=1:=by have h:=k10;simpa using h
   show((C5 l e).1,(C5 l e).2,())=(0,15,());rw[he,Ng,aL h1,aL h2,aP h3,aL h4,aL h5]
  ·obtain⟨-,he⟩:=hend k0;have h1:e.kind≠1:=aQ k2;have h2:e.kind≠2:=aQ k3;have h3:e.kind=3:=aM k7;have h4:e.op≠2:=aQ k8;have h5:ts.getD 0 0=1:=by have h:=k10;simpa using h
   show((C5 l e).1,(C5 l e).2,())=(1,0,());rw[he,Ng,aL h1,aL h2,aP h3,aL h4,aP h5]
  iterate 3
   ·obtain⟨hl,he⟩:=hend k0;have h1:e.kind≠1:=aQ k2;have h2:e.kind≠2:=aQ k3;have h3:e.kind≠3:=aQ k7;have:=hargs 4 (by omega);simp at this;exact⟨by decide,by rw[hl];omega⟩
  ·obtain⟨-,he⟩:=hend k0;have h1:e.kind≠1:=aQ k2;have h2:e.kind≠2:=aQ k3;have h3:e.kind≠3:=aQ k7;have h4:ts.getD 0 0≠ts.getD 1 0\/(Lr e.op≠0/\ts.getD 0 0≠Lr e.op):=by
    have h:(bif !decide (ts.getD 0 0=ts.getD 1 0)then true else bif !decide (Lr e.op=0)then !decide (ts.getD 0 0=Lr e.op)else false)=true:=k12;simp only[fI]at h
    grind
   show((C5 l e).1,(C5 l e).2,())=(0,15,());rw[he,Ng,aL h1,aL h2,aL h3,aP h4]
  ·obtain⟨-,he⟩:=hend k0;have h1:e.kind≠1:=aQ k2;have h2:e.kind≠2:=aQ k3;have h3:e.kind≠3:=aQ k7;have h4:¬(ts.getD 0 0≠ts.getD 1 0\/(Lr e.op≠0/\ts.getD 0 0≠Lr e.op)):=by
    have h:(bif !decide (ts.getD 0 0=ts.getD 1 0)then true else bif !decide (Lr e.op=0)then !decide (ts.getD 0 0=Lr e.op)else false)=false:=k12;simp only[fI]at h
    grind
   show((C5 l e).1,(C5 l e).2,())=(Ew e.op,0,());rw[he,Ng,aL h1,aL h2,aL h3,aL h4]
def c117A:Ctr:=fnC [dX,Xx] rII (λy=>Fg y.1=0) (λy=>((C5 y.2.1 y.1).1,(C5 y.2.1 y.1).2,()))
theorem An6:GoodC Tryz.prog 137 c117A:=O6 (λy=>exW y.1) Aav
def Bg(e:ExprT)(l:List Bd):Int×Int:=if Bv e≠0 then(0,Bv e)else if Hi l=true then C5 l e else(0,1)
theorem Akh{e:ExprT}(h:Bv e=0):Fg e=0:=by
 unfold Bv at h;split at h
 ·exact aT h (by decide)
 ·split at h
  ·exact aT h (by decide)
  ·exact h
def cxU:Ctx:=⟨Dk,[(87,([],c79)),(136,([],c116)),(137,([],c117A))]⟩
theorem Aki:Ai Tryz.prog cxU:=Ae Ac3 (Ae Anv (Ae An6 Ah))
def c82:Ctr:=fnC [dX,Xx] rII (λ_=>True) (λy=>((Bg y.1 y.2.1).1,(Bg y.1 y.2.1).2,()))
theorem Akj:GoodC Tryz.prog 90 c82:=by
 refine Au Aki 3 _ _ _ _ ⟨_,Tryz.func90,rfl,rfl⟩ λ(⟨e,l,_⟩:ExprT×List Bd×Unit) _=>?_
 refine(aF (aI tT (aI (λh0=>(Aa rfl ?_)) (λh0=>(aI tT (aI (λh1=>(Aa rfl ?_)) (λh1=>(aI ?_ (Aa rfl ?_)))))))))
 ·have hk:Bv e≠0:=by have h:=h0;simp only[eta]at h;simpa using h
  simp only[eta];show((Bg e l).1,(Bg e l).2,())=(0,Bv e,());rw[Bg,aP hk]
 ·have hk:¬Bv e≠0:=by have h:=h0;simp only[eta]at h;simpa using h
  have hb:¬Hi l=true:=by have h:=h1;simpa using h
  show((Bg e l).1,(Bg e l).2,())=(0,1,());rw[Bg,aL hk,aL hb]
 ·have hk:Bv e=0:=by have h:=h0;simp only[eta]at h;simpa using h
  simp only[eta];exact Akh hk
 ·have hk:¬Bv e≠0:=by have h:=h0;simp only[eta]at h;simpa using h
  have hb:Hi l=true:=by have h:=h1;simpa using h
  simp only[eta];show((Bg e l).1,(Bg e l).2,())=((C5 l e).1,(C5 l e).2,());rw[Bg,aL hk,aP hb]
end Go.Proofs.YtpabcdbaffjcdaaGreat
