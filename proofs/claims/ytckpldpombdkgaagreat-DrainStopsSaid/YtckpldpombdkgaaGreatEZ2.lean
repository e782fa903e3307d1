/- Pipelines. -/
import Derived.Test.YtckpldpombdkgaaGreatEZ1
import Derived.Test.YtckpldpombdkgaaGreatEB6
import Derived.Shelf.SlGeneric
import Derived.Shelf.SortM.Plain
import Derived.Shelf.SortM.SortNone
import Derived.Ground.SlgmProg
set_option linter.unusedSimpArgs false
set_option linter.unusedVariables false
set_option maxRecDepth 100000
namespace Go.Proofs.YtckpldpombdkgaaGreat
open Go.Sx
mutual
def msF:ExprT->Int->Int->Int×Int
 |.mk _ _ _ _ args,d,n=>if(bif decide (100<n+1)then true else decide (100<d))=true then(d,n+1)else msL args d d (n+1)
def msL:List ExprT->Int->Int->Int->Int×Int
 |[],_,dp,n=>(dp,n)
 |e::l,d,dp,n=>if 100<n then(dp,n)else msL l d (if(msF e (d+1) n).1>dp then(msF e (d+1) n).1 else dp) (msF e (d+1) n).2
end
theorem Akg(e:ExprT)(d n:Int):msF e d n=if(bif decide (100<n+1)then true else decide (100<d))=true then(d,n+1)else msL e.args d d (n+1):=by
 obtain⟨k,o,nm,v,args⟩:=e;rfl
mutual
theorem Wn:∀(e:ExprT)(d n:Int),0<=n->n<=100->1<=d->d<=101->(n<(msF e d n).2/\(msF e d n).2<=101)/\d<=(msF e d n).1/\(msF e d n).1<=101
 |.mk _ _ _ _ args,d,n,h0,h1,h2,h3=>by
  simp only[msF];split
  ·exact⟨⟨by show n<n+1;omega,by show n+1<=101;omega⟩,cJ _,h3⟩
  ·rename_i hc;have hd:¬100<d:=λh=>hc (by rw[aW h];cases decide (100<n+1)<;>rfl)
   have:=Wo args d d (n+1) (by omega) (by omega) h2 (by omega) (cJ _) h3;omega
theorem Wo:∀(l:List ExprT)(d dp n:Int),0<=n->n<=101->1<=d->d<=100->d<=dp->dp<=101->(n<=(msL l d dp n).2/\(msL l d dp n).2<=101)/\d<=(msL l d dp n).1/\(msL l d dp n).1<=101
 |[],d,dp,n,h0,h1,h2,h3,h4,h5=>⟨⟨cJ _,h1⟩,h4,h5⟩
 |e::l,d,dp,n,h0,h1,h2,h3,h4,h5=>by
  simp only[msL];split
  ·exact⟨⟨cJ _,h1⟩,h4,h5⟩
  ·have hr:=Wn e (d+1) n h0 (by omega) (by omega) (by omega);have:=Wo l d (if(msF e (d+1) n).1>dp then(msF e (d+1) n).1 else dp) (msF e (d+1) n).2 (by omega) (by omega) h2 h3 (by split<;>omega) (by split<;>omega);omega
end
theorem Aat{args:List ExprT}{i:Nat}{d dp n:Int}{e0:ExprT}(h:i<args.length):msL (args.drop i) d dp n=if 100<n then(dp,n)else
 msL (args.drop (i+1)) d (if(msF (args.getD i e0) (d+1) n).1>dp then(msF (args.getD i e0) (d+1) n).1 else dp) (msF (args.getD i e0) (d+1) n).2:=by
 rw[cE h];simp[msL,List.getD,h]
def exA(e:ExprT):AV:=.agg [.int .i64 e.kind,.int .i64 e.op,.str e.name,.int .i64 e.value,.sl .expr e.args]
def Anz(N:Nat):FuncId->List AV->List Ob->AV->List Ob->Prop:=λg args T x1 T1=>
 ∃(e:ExprT)(d n:Int),exW e<N/\(0<=n/\n<=100)/\(1<=d/\d<=101)/\g=218/\args=[exA e,.int .i64 d,.ptr 0 0]/\T=[.cells [.int .i64 n]]/\
  x1=.int .i64 (msF e d n).1/\T1=[.cells [.int .i64 (msF e d n).2]]
theorem An0(base:CallSem)(N:Nat)(e:ExprT)(d n:Int)(he:exW e<N)(hn:0<=n/\n<=100)(hd:1<=d/\d<=101)
 (hbase:∀k args H m K,k+1=N->Gq (Anz k) 218 args H m K->base 218 args H m K):
 Bb cx0 Tryz.prog base 218 [exA e,.int .i64 d,.ptr 0 0] [.cells [.int .i64 n]] 1
  (λx T' n'=>∃σ,J5 1 σ [noW x] T' n' ⟨[.int .i64 (msF e d n).1],[.cells [.int .i64 (msF e d n).2]],1⟩):=by
 have hc:∀c:Int,(bif decide (100<c)then true else decide (100<d))=false->c<=100/\d<=100:=λc h=>by
  by_cases h1:100<c
  ·rw[aW h1]at h;cases h
  ·by_cases h2:100<d
   ·rw[aW h2]at h;cases hh:decide (100<c)<;>rw[hh]at h<;>cases h
   ·omega
 refine(aF (aO (aI (λh0=>?_) (λh0=>(λh1=>?_)))))
 ·rw[Akg,aN h0];exact⟨[some 0],by rfl,by rfl,⟨⟨by rfl,by rfl⟩,trivial⟩,by rfl⟩
 obtain⟨hc1,hc2⟩:=hc _ h0;have h0':¬(bif decide (100<n+1)then true else decide (100<d))=true:=by rw[show(bif decide (100<n+1)then true else decide (100<d))=false from h0];simp
 refine ex4 _ (λp:Nat×Int×Int=>⟨[.any,.int .i64 d,.ptr 0 0,.ptr 1 0,.any,.any,.any,.int .i64 p.2.1,.any,.any,.any,.any,.any,.any,.any,.any,.any,.any,.any,.any,.any,.any,.any,.any,.any,.ptr 1 4,.sl .expr e.args,.int .i64 (↑e.args.length:Int),.int .i64 (p.1:Int)]++nA 16,[.cells [.int .i64 p.2.2],.cells   [.int .i64 e.kind,.int .i64 e.op,.str e.name,.int .i64 e.value,.sl .expr e.args]],2⟩) (λp=>p.1<=e.args.length/\(0<=p.2.2/\p.2.2<=101)/\(d<=p.2.1/\p.2.1<=101)/\msF e d n=msL (e.args.drop p.1) d p.2.1 p.2.2) (λp=>e.args.length-p.1) (aI (eI ((0,d,n+1)) (eI ([some 0,some 1]) (aI ?_ (aB (aI (aH tT) (by rfl)))))) ?_)
 ·refine⟨aV _,⟨by show 0<=n+1;omega,by show n+1<=101;omega⟩,⟨cJ _,hd.2⟩, ?_⟩;rw[Akg,aL h0'];rfl
 rintro⟨i,dp,m⟩ ⟨hi,hm,hp,ht⟩;replace hm:0<=m/\m<=101:=hm;replace hp:d<=dp/\dp<=101:=hp;refine(aI (λk0=>(aO (aI (λk1=>?_) (λk1=>(aO ?_))))) (λk0=>?_))
 ·have hi':i<e.args.length:=by simpa using k0
  have hk:100<m:=by simpa using k1
  rw[ht,Aat (e0:=Ab .expr) hi',aN hk];exact⟨[some 0],by rfl,by rfl,⟨⟨by rfl,by rfl⟩,trivial⟩,by rfl⟩
 ·have hi':i<e.args.length:=by simpa using k0
  have hk:¬100<m:=by simpa using k1
  have hlt:exW (e.args.getD i (Ab .expr))<exW e:=Lh hi';obtain⟨hr1,hr2⟩:=Wn (e.args.getD i (Ab .expr)) (d+1) m hm.1 (by omega) (by omega) (by omega);have hq:=Aat (d:=d) (dp:=dp) (n:=m) (e0:=Ab .expr) hi';rw[aL hk]at hq;obtain⟨x,hx⟩:∃x,e.args.getD i (Ab .expr)=x:=⟨_,rfl⟩;obtain⟨r,hr⟩:∃r,msF x (d+1) m=r:=⟨_,rfl⟩;rw[hx]at hlt hr1 hr2 hq;rw[hr]at hr1 hr2 hq;refine hbase (N-1) _ _ _ _ (by omega) ⟨tT,[exA x,.int .i64 (d+1),.ptr 0 0],[.cells [.int .i64 m]],.int .i64 (msF x (d+1) m).1,[.cells [.int .i64 (msF x (d+1) m).2]],[some 0],
   ⟨x,d+1,m,by omega,⟨hm.1,by omega⟩,⟨by omega,by omega⟩,rfl,rfl,rfl,rfl,rfl⟩,⟨by rw[<-hx];rfl,by rfl,⟨⟨by rfl,by rfl⟩,trivial⟩,by rfl⟩,by rfl, ?_⟩
  rw[hr];obtain⟨dp1,m1⟩:=r;dsimp only[Fk,Cz,Ev,Dd,Fq,B6,Ar,Ib,List.length_cons,List.length_nil,List.cons_append,List.nil_append,Nat.reduceAdd,Nat.reduceSub];refine(aO ?_);refine eI ((i+1,if dp1>dp then dp1 else dp,m1)) (eI ([some 0,some 1]) (aI ?_ (aI ?_ (aB (aI (aH tT) (by rfl))))))
  ·refine⟨hi',⟨?_,hr1.2⟩,⟨?_, ?_⟩, ?_⟩
   ·show 0<=m1;have:m<m1:=hr1.1;omega
   ·show d<=if dp1>dp then dp1 else dp
    split<;>omega
   ·show(if dp1>dp then dp1 else dp)<=101;have:dp1<=101:=hr2.2;split<;>omega
   ·rw[ht];exact hq
  ·show e.args.length-(i+1)<e.args.length-i;omega
 ·have hi':¬i<e.args.length:=by simpa using k0
  rw[ht,bI (by omega)];exact⟨[some 0],by rfl,by rfl,⟨⟨by rfl,by rfl⟩,trivial⟩,by rfl⟩
def Aqt:Nat->CallSem
 |0=>Bb cx0 Tryz.prog λ_ _ _ _ _=>False
 |N+1=>Bb cx0 Tryz.prog (Gq (Anz N))
theorem Aau(N:Nat):∀g args T x1 T1,Anz N g args T x1 T1->Aqt N g args T T.length (λx T' n'=>∃σ,J5 T.length σ [noW x] T' n' ⟨[x1],T1,T1.length⟩):=by
 rintro g args T x1 T1 ⟨e,d,n,he,hn,hd,rfl,rfl,rfl,rfl,rfl⟩;cases N with
 |zero=>omega
 |succ N=>exact An0 _ (N+1) e d n he hn hd (λk args H m K h h'=>by
  have:k=N:=by omega
  exact this ▸ h')
theorem Yd:∀N,Bc Tryz.prog (Aqt N)
 |0=>Ag Ah Bl
 |N+1=>Ag Ah (Gr (Yd N) (Aau N))
def Asx:FuncId->List AV->List Ob->AV->List Ob->Prop:=λg a T x T1=>∃k,Anz k g a T x T1
theorem Ahk:Bc Tryz.prog (Gq Asx):=
 Gr (sem:=λg a H n K=>∃d,Aqt d g a H n K) ⟨λg a H n K ⟨d,h⟩=>(Yd d).1 g a H n K h,λid a H n K ⟨d,h⟩=>(Yd d).2 id a H n K h⟩ λg a T x T1 ⟨k,h⟩=>⟨k,Aau k g a T x T1 h⟩
def Oh:Code->Option (Code×Code)
 |.rangeFunc _ _ x y=>some (x,y)
 |.seq a b=>(match Oh a with|some r=>some r|none=>Oh b)
 |.cond _ a b=>(match Oh a with|some r=>some r|none=>Oh b)
 |.block _ a=>Oh a
 |.loop a=>Oh a
 |_=>none
noncomputable def Aav(g:Nat):Code×Code:=match Tryz.prog.funcs[g]? with
 |some fn=>(match fn.body with
  |some c=>(Oh c).getD (.skip,.skip)
  |none=>(.skip,.skip))
 |none=>(.skip,.skip)
mutual
def Fb:ExprT->Int
 |.mk k o nm v args=>if Fa (.mk k o nm v args)=0 then R3 args else Fa (.mk k o nm v args)
def R3:List ExprT->Int
 |[]=>0
 |e::l=>if Fb e=0 then R3 l else Fb e
end
theorem Ye(e:ExprT):Fb e=if Fa e=0 then R3 e.args else Fa e:=by
 obtain⟨k,o,nm,v,args⟩:=e;rfl
theorem Ahl{args:List ExprT}{i:Nat}{e0:ExprT}(h:i<args.length):R3 (args.drop i)=if Fb (args.getD i e0)=0 then R3 (args.drop (i+1))else Fb (args.getD i e0):=by
 rw[cE h];simp[R3,List.getD,h]
def slC:List AV:=[.any,.any,.ptr 0 0,.any,.any,.any,.any,.any,.any,.any,.any,.any,.any,.any,.any,.any,.any,.any,.any,.any,.any]
noncomputable def vcT:List Ob:=[.cells [.int .i64 0],.loop .ready .no [15] (Aav 173).1 (Aav 173).2 slC]
noncomputable def Ac3(r:Int):List Ob:=[.cells [.int .i64 r],.loop .done .ret [15] (Aav 173).1 (Aav 173).2 slC]
def An1(N:Nat):FuncId->List AV->List Ob->AV->List Ob->Prop:=λg args T x1 T1=>
 ∃e:ExprT,exW e<N/\g=247/\args=[exA e,.yld 1]/\T=vcT/\
  ((Fb e=0/\x1=.bool true/\T1=vcT)\/(Fb e≠0/\x1=.bool false/\T1=Ac3 (Fb e)))
def cxV:Ctx:=⟨Dp,[(220,([],c112))]⟩
theorem Pi:Aj Tryz.prog cxV:=Ad Anu Ah
def noS:CallSem:=λ_ _ _ _ _=>False
theorem An2(base:CallSem)(N:Nat)(e:ExprT)(he:exW e<N)
 (hbase:∀k args H m K,k+1=N->Gq (An1 k) 247 args H m K->base 247 args H m K)(x1:AV)(T1:List Ob)
 (hx:(Fb e=0/\x1=.bool true/\T1=vcT)\/(Fb e≠0/\x1=.bool false/\T1=Ac3 (Fb e))):
 Bb cxV Tryz.prog (Kh 247 base (Bb cxV Tryz.prog noS)) 247 [exA e,.yld 1] vcT 2
  (λx T' n'=>∃σ,J5 2 σ [noW x] T' n' ⟨[x1],T1,T1.length⟩):=by
 refine(aF (aI tT (aI (λh0=>(aI (λh1=>?_) (λh1=>False.elim (aX (Eq.symm (Eq.trans (by kernel_rfl) h1)))))) (λh0=>(aI (λh2=>nG h2) (λh2=>(λh3=>?_)))))))
 ·have hk:Fa e≠0:=by have h:=h0;simp only[eta]at h;simpa using h
  have ht:Fb e=Fa e:=by rw[Ye,aL hk]
  rcases hx with⟨h,-⟩|⟨-,rfl,rfl⟩
  ·rw[ht]at h;exact aS h hk
  ·rw[ht];exact⟨[some 0,some 1],by rfl,by rfl,⟨⟨by simp only[eta];rfl,by rfl⟩,⟨⟨rfl,rfl,rfl,rfl,rfl⟩,by rfl,by rfl⟩,trivial⟩,by rfl⟩
 have hk:Fa e=0:=by have h:=h0;simp only[eta]at h;simpa using h
 have ht:Fb e=R3 e.args:=by rw[Ye,aN hk]
 refine ex4 _ (λi:Nat=>⟨[.any,.yld 1,.ptr 2 0,.any,.any,.any,.any,.any,.any,.any,.any,.ptr 2 4,.sl .expr e.args,.int .i64 (↑e.args.length:Int),.int .i64 (i:Int),.any,.any,.any,.any,.any,.any,.any,.any],[.cells [.int .i64 0],.loop .ready .no ([15]) _ _ [.any,.any,.ptr 0 0,.any,.any,.any,.any,.any,.any,.any,.any,.any,.any,.any,.any,.any,.any,.any,.any,.any,.any],.cells   [.int .i64 e.kind,.int .i64 e.op,.str e.name,.int .i64 e.value,.sl .expr e.args],.cells   [.int .i64 e.kind,.int .i64 e.op,.str e.name,.int .i64 e.value,.sl .expr e.args]],4⟩) (λi=>i<=e.args.length/\Fb e=R3 (e.args.drop i)) (λi=>e.args.length-i) (aI (eI (0) (eI ([some 0,some 1,some 2,some 3]) (aI ?_ (aB (aI (aG (aI (aI (aI rfl (aI rfl (aI rfl (aI rfl rfl)))) (aA (by rfl))) (aH tT))) (by rfl)))))) ?_)
 ·exact⟨aV _,ht⟩
 clear ht;rintro i ⟨hi,ht⟩;refine(aI (λk0=>(aO ?_)) (λk0=>?_))
 ·have hi':i<e.args.length:=by simpa using k0
  have hlt:exW (e.args.getD i (Ab .expr))<exW e:=Lh hi';have hq:=Ahl (e0:=Ab .expr) hi';obtain⟨x,hxx⟩:∃x,e.args.getD i (Ab .expr)=x:=⟨_,rfl⟩;rw[hxx]at hlt hq;by_cases hz:Fb x=0
  ·rw[aN hz]at hq;refine hbase (N-1) _ _ _ _ (by omega) ⟨tT,[exA x,.yld 1],vcT,.bool true,vcT,[some 0,some 1],
    ⟨x,by omega,rfl,rfl,rfl,.inl ⟨hz,rfl,rfl⟩⟩,⟨by rw[<-hxx];rfl,by rfl,⟨⟨by rfl,by rfl⟩,⟨⟨rfl,rfl,rfl,rfl,rfl⟩,by rfl,by rfl⟩,trivial⟩,by rfl⟩,by rfl, ?_⟩
   dsimp only[vcT,Fk,Cz,Ev,Dd,Fq,B6,Ar,Ib,List.length_cons,List.length_nil,List.cons_append,List.nil_append,Nat.reduceAdd,Nat.reduceSub];refine(aI (λw0=>nG w0) (λw0=>(aO ?_)));refine eI (i+1) (eI ([some 0,some 1,some 2,some 3]) (aI ?_ (aI ?_ (aB (aI (aG (aI (aI (aI rfl (aI rfl (aI rfl (aI rfl rfl)))) (aA (by rfl))) (aH tT))) (by rfl))))))
   ·exact⟨hi',ht.trans hq⟩
   ·show e.args.length-(i+1)<e.args.length-i;omega
  ·rw[aL hz]at hq;have ht':Fb e=Fb x:=ht.trans hq;refine hbase (N-1) _ _ _ _ (by omega) ⟨tT,[exA x,.yld 1],vcT,.bool false,Ac3 (Fb x),[some 0,some 1],
    ⟨x,by omega,rfl,rfl,rfl,.inr ⟨hz,rfl,rfl⟩⟩,⟨by rw[<-hxx];rfl,by rfl,⟨⟨by rfl,by rfl⟩,⟨⟨rfl,rfl,rfl,rfl,rfl⟩,by rfl,by rfl⟩,trivial⟩,by rfl⟩,by rfl, ?_⟩
   dsimp only[vcT,Ac3,slC,Fk,Cz,Ev,Dd,Fq,B6,Ar,Ib,List.length_cons,List.length_nil,List.cons_append,List.nil_append,Nat.reduceAdd,Nat.reduceSub];refine(aI (λw0=>?_) (λw0=>False.elim (aX (Eq.symm (Eq.trans (by kernel_rfl) w0)))));rcases hx with⟨h,-⟩|⟨-,rfl,rfl⟩
   ·rw[ht']at h;exact aS h hz
   ·rw[ht'];exact⟨[some 0,some 1],by rfl,by rfl,⟨⟨by rfl,by rfl⟩,⟨⟨rfl,rfl,rfl,rfl,rfl⟩,by rfl,by rfl⟩,trivial⟩,by rfl⟩
 ·have hi':¬i<e.args.length:=by simpa using k0
  have ht':Fb e=0:=by rw[ht,bI (by omega)];rfl
  rcases hx with⟨-,rfl,rfl⟩|⟨h,-⟩
  ·exact⟨[some 0,some 1],by rfl,by rfl,⟨⟨by rfl,by rfl⟩,⟨⟨rfl,rfl,rfl,rfl,rfl⟩,by rfl,by rfl⟩,trivial⟩,by rfl⟩
  ·exact aS ht' h
def Aqu:Nat->CallSem
 |0=>Bb cxV Tryz.prog (Kh 247 noS (Bb cxV Tryz.prog noS))
 |N+1=>Bb cxV Tryz.prog (Kh 247 (Gq (An1 N)) (Bb cxV Tryz.prog noS))
theorem Aaw(N:Nat):∀g args T x1 T1,An1 N g args T x1 T1->Aqu N g args T T.length (λx T' n'=>∃σ,J5 T.length σ [noW x] T' n' ⟨[x1],T1,T1.length⟩):=by
 rintro g args T x1 T1 ⟨e,he,rfl,rfl,rfl,hx⟩;cases N with
 |zero=>omega
 |succ N=>exact An2 _ (N+1) e he (λk args H m K h h'=>by
  have:k=N:=by omega
  exact this ▸ h') x1 T1 hx
theorem Yf:∀N,Bc Tryz.prog (Aqu N)
 |0=>Ag Pi (Db Bl (Ag Pi Bl))
 |N+1=>Ag Pi (Db (Gr (Yf N) (Aaw N)) (Ag Pi Bl))
def Asy:FuncId->List AV->List Ob->AV->List Ob->Prop:=λg a T x T1=>∃k,An1 k g a T x T1
theorem Ahm:Bc Tryz.prog (Gq Asy):=
 Gr (sem:=λg a H n K=>∃d,Aqu d g a H n K) ⟨λg a H n K ⟨d,h⟩=>(Yf d).1 g a H n K h,λid a H n K ⟨d,h⟩=>(Yf d).2 id a H n K h⟩ λg a T x T1 ⟨k,h⟩=>⟨k,Aaw k g a T x T1 h⟩
def B0(e:ExprT):Int:=if decide (100<(msF e 1 0).2)=true then 4 else if decide (12<(msF e 1 0).1)=true then 22 else Fb e
theorem An3{e:ExprT}(h:decide (100<(msF e 1 0).2)=true):B0 e=4:=by rw[B0,aN h]
theorem Akh{e:ExprT}(h:decide (100<(msF e 1 0).2)=false)(h':decide (12<(msF e 1 0).1)=true):B0 e=22:=by rw[B0,aL (by rw[h];simp),aN h']
theorem An4{e:ExprT}(h:decide (100<(msF e 1 0).2)=false)(h':decide (12<(msF e 1 0).1)=false):B0 e=Fb e:=by rw[B0,aL (by rw[h];simp),aL (by rw[h'];simp)]
def c79:Ctr:=fnC [dX] rI (λ_=>True) (λy=>(B0 y.1,()))
theorem Ac4:GoodC Tryz.prog 173 c79:=by
 refine X6 (Ag Ah (Db (g0:=218) Ahk (Ag Ah (Db (g0:=247) Ahm (Ag Ah Bl))))) _ _ _ _ ⟨_,Tryz.func173,rfl,rfl⟩ λ(⟨e,_⟩:ExprT×Unit) _=>?_
 refine(aF (aI tT ?_));refine eI [exA e,.int .i64 1,.ptr 0 0] (eI [.cells [.int .i64 0]] (eI (.int .i64 (msF e 1 0).1) (eI [.cells [.int .i64 (msF e 1 0).2]] (eI [some 2]
  ⟨⟨_,e,1,0,eK _,⟨by decide,by decide⟩,⟨by decide,by decide⟩,rfl,rfl,rfl,rfl,rfl⟩,⟨by rfl,by rfl,⟨⟨by rfl,by rfl⟩,trivial⟩,by rfl⟩,by rfl, ?_⟩))))
 dsimp only[Fk,Cz,Ev,Dd,Fq,B6,Ar,Ib,List.length_cons,List.length_nil,List.cons_append,List.nil_append,Nat.reduceAdd,Nat.reduceSub];refine(aI (λw0=>(Aa rfl ?_)) (λw0=>(aI (λw1=>(Aa rfl ?_)) (λw1=>(aF (aF (aF (aI tT ?_))))))))
 ·show(B0 e,())=_;rw[An3 w0]
 ·show(B0 e,())=_;rw[Akh w0 w1]
 have hck:=An4 w0 w1;by_cases hz:Fb e=0
 ·refine eI [exA e,.yld 1] (eI vcT (eI (.bool true) (eI vcT (eI [some 1,some 4]
   ⟨⟨_,e,eK _,rfl,rfl,rfl,.inl ⟨hz,rfl,rfl⟩⟩,⟨by rfl,by rfl,⟨⟨by rfl,by rfl⟩,⟨⟨rfl,rfl,rfl,by kernel_rfl,by kernel_rfl⟩,by rfl,by rfl⟩,trivial⟩,by rfl⟩,by rfl, ?_⟩))))
  dsimp only[vcT,Ac3,slC,Fk,Cz,Ev,Dd,Fq,B6,Ar,Ib,List.length_cons,List.length_nil,List.cons_append,List.nil_append,Nat.reduceAdd,Nat.reduceSub];refine(Aa rfl ?_);show(B0 e,())=(0,());rw[hck,hz]
 ·refine eI [exA e,.yld 1] (eI vcT (eI (.bool false) (eI (Ac3 (Fb e)) (eI [some 1,some 4]
   ⟨⟨_,e,eK _,rfl,rfl,rfl,.inr ⟨hz,rfl,rfl⟩⟩,⟨by rfl,by rfl,⟨⟨by rfl,by rfl⟩,⟨⟨rfl,rfl,rfl,by kernel_rfl,by kernel_rfl⟩,by rfl,by rfl⟩,trivial⟩,by rfl⟩,by rfl, ?_⟩))))
  dsimp only[vcT,Ac3,slC,Fk,Cz,Ev,Dd,Fq,B6,Ar,Ib,List.length_cons,List.length_nil,List.cons_append,List.nil_append,Nat.reduceAdd,Nat.reduceSub];refine(Aa rfl ?_);show(B0 e,())=(Fb e,());rw[hck]
mutual
def Hi:ExprT->List ByteArray
 |.mk k _ nm _ args=>(if k=2 then[nm]else[])++I5 args
def I5:List ExprT->List ByteArray
 |[]=>[]
 |e::l=>Hi e++I5 l
end
theorem Afb(e:ExprT):Hi e=(if e.kind=2 then[e.name]else[])++I5 e.args:=by
 obtain⟨k,o,nm,v,args⟩:=e;rfl
theorem Wp{args:List ExprT}{i:Nat}{e0:ExprT}(h:i<args.length):I5 (args.take (i+1))=I5 (args.take i)++Hi (args.getD i e0):=by
 induction args generalizing i with
 |nil=>exact aS h (eF _)
 |cons a l ih=>
  cases i with
  |zero=>simp[I5]
  |succ i=>
   have:=ih (i:=i) (by simpa using h);simp only[fL,I5,dO,this];rfl
theorem Aax{args:List ExprT}(i:Nat):(I5 (args.take i)).length<=(I5 args).length:=by
 induction args generalizing i with
 |nil=>simp
 |cons a l ih=>
  cases i with
  |zero=>simp[I5]
  |succ i=>
   have:=ih i;simp only[fL,I5,bD];omega
mutual
def Ahn:ExprT->Nat
 |.mk _ _ _ _ args=>1+Ac5 args
def Ac5:List ExprT->Nat
 |[]=>0
 |e::l=>Ahn e+Ac5 l
end
mutual
theorem Afc:∀e:ExprT,(Hi e).length<=Ahn e
 |.mk k _ nm _ args=>by
  have:=Aay args;simp only[Hi,Ahn,bD];split<;>simp only[List.length_cons,List.length_nil]<;>omega
theorem Aay:∀l:List ExprT,(I5 l).length<=Ac5 l
 |[]=>bB _
 |e::l=>by
  have h1:=Afc e;have h2:=Aay l;simp only[I5,Ac5,bD];omega
end
mutual
theorem Aki:∀(e:ExprT)(d n:Int),(msF e d n).2<=100->(msF e d n).1<=100->(msF e d n).2=n+Ahn e/\d<=(msF e d n).1
 |.mk _ _ _ _ args,d,n,h1,h2=>by
  simp only[msF]at h1 h2 ⊢;split at h1
  ·rename_i hc;rw[aN hc]at h2;exfalso;by_cases h3:100<n+1
   ·exact aS h1 (by omega)
   ·rw[aZ h3]at hc;exact aS h2 (by have:=aM hc;omega)
  ·rename_i hc;rw[aL hc]at h2;rw[aL hc];have:=Afd args d d (n+1) h1 h2;rw[this.1];simp only[Ahn];omega
theorem Afd:∀(l:List ExprT)(d dp n:Int),(msL l d dp n).2<=100->(msL l d dp n).1<=100->(msL l d dp n).2=n+Ac5 l/\dp<=(msL l d dp n).1
 |[],d,dp,n,h1,h2=>⟨by simp only[msL,Ac5];omega,cJ _⟩
 |e::l,d,dp,n,h1,h2=>by
  simp only[msL]at h1 h2 ⊢;split at h1
  ·rename_i hc;exact aS h1 (by omega)
  ·rename_i hc;rw[aL hc]at h2;rw[aL hc];have hl:=Afd l d (if(msF e (d+1) n).1>dp then(msF e (d+1) n).1 else dp) (msF e (d+1) n).2 h1 h2;have hd:(msF e (d+1) n).1<=100:=by
    have:=hl.2;split at this<;>omega
   have hn:(msF e (d+1) n).2<=100:=by rw[hl.1]at h1;omega
   have he:=Aki e (d+1) n hn hd;have h3:=hl.2;refine⟨by rw[hl.1,he.1];simp only[Ac5];omega, ?_⟩;split at h3
   ·rename_i hg;rw[aN hg];omega
   ·rename_i hg;rw[aL hg];exact h3
end
theorem An5{e:ExprT}(h:B0 e=0):Ahn e<=100:=by
 unfold B0 at h;split at h
 ·exact aS h (by decide)
 ·rename_i h1;split at h
  ·exact aS h (by decide)
  ·rename_i h2;simp only[bN]at h1 h2;have:=(Aki e 1 0 (by omega) (by omega)).1;omega
def slN:List AV:=[.any,.any,.any,.ptr 0 0,.any,.any,.any,.any,.any,.any,.any,.any,.any,.any,.any,.any,.any,.any,.any,.any,.any,.any,.any]
noncomputable def vnT(xs:List ByteArray):List Ob:=[.cells [.own 1],.rows .str xs,.loop .ready .no [10] (Aav 174).1 (Aav 174).2 slN]
noncomputable def Aaz(xs:List ByteArray):List Ob:=[.cells [.own 3],.dead,.loop .ready .no [10] (Aav 174).1 (Aav 174).2 slN,.rows .str xs]
def An6(N:Nat):FuncId->List AV->List Ob->AV->List Ob->Prop:=λg args T x1 T1=>
 ∃(e:ExprT)(xs:List ByteArray),exW e<N/\xs.length+(Hi e).length<=100/\g=247/\args=[exA e,.yld 2]/\T=vnT xs/\x1=.bool true/\T1=Aaz (xs++Hi e)
theorem Akj(base:CallSem)(N:Nat)(e:ExprT)(xs:List ByteArray)(he:exW e<N)(hn:xs.length+(Hi e).length<=100)
 (hbase:∀k args H m K,k+1=N->Gq (An6 k) 247 args H m K->base 247 args H m K):
 Bb cx0 Tryz.prog (Kh 247 base (Bb cx0 Tryz.prog noS)) 247 [exA e,.yld 2] (vnT xs) 3
  (λx T' n'=>∃σ,J5 3 σ [noW x] T' n' ⟨[.bool true],Aaz (xs++Hi e),4⟩):=by
 have room:∀k:Nat,k<=101->(xs.length+k)*16<=lim:=λk hk=>by simp only[lim];omega
 refine(aF (aI (λh0=>(aI (by first|exact room 1 (by omega)|(intros;(try subst_vars);(try simp only[nB]at *);(try simp only[inK,big,lim,nL]at *);omega)) (aI (λh1=>nG h1) (λh1=>(λh2=>?_))))) (λh0=>(aI (λh3=>nG h3) (λh3=>(λh4=>?_))))))
 ·have e0:Hi e=[e.name]++I5 e.args:=by rw[Afb];have h:=h0;simp at h;rw[aN h]
  have hl:=e0 ▸ hn;rw[bD]at hl;refine ex4 _ (λp:Nat×List ByteArray=>⟨[.any,.yld 2,.ptr 3 0,.any,.any,.any,.any,.any,.any,.any,.any,.ptr 3 4,.sl .expr e.args,.int .i64 (↑e.args.length:Int),.int .i64 (p.1:Int),.any,.any,.any,.any,.any,.any,.any,.any],[.cells [.own 6],.dead,.loop .ready .no ([10]) _ _ [.any,.any,.any,.ptr 0 0,.any,.any,.any,.any,.any,.any,.any,.any,.any,.any,.any,.any,.any,.any,.any,.any,.any,.any,.any],.cells   [.int .i64 e.kind,.int .i64 e.op,.str e.name,.int .i64 e.value,.sl .expr e.args],.cells   [.int .i64 e.kind,.int .i64 e.op,.str e.name,.int .i64 e.value,.sl .expr e.args],.dead,.rows .str p.2],7⟩) (λp=>p.1<=e.args.length/\p.2=xs++([e.name]++I5 (e.args.take p.1))) (λp=>e.args.length-p.1) (aI (eI ((0,xs++[e.name])) (eI ([some 0,some 1,some 2,some 3,some 4,some 5,some 6]) (aI ?_ (aB (aI (aG (aI (aI (aI rfl (aI rfl (aI rfl (aI rfl rfl)))) (aA (by rfl))) (aH (aA tT)))) (by rfl)))))) ?_)
  ·exact⟨aV _,by simp[I5]⟩
  rintro⟨i,ys⟩ ⟨hi,hy⟩;replace hy:ys=xs++([e.name]++I5 (e.args.take i)):=hy;refine(aI (λk0=>(aO ?_)) (λk0=>?_))
  ·have hi':i<e.args.length:=by simpa using k0
   have hlt:exW (e.args.getD i (Ab .expr))<exW e:=Lh hi';have hq:=Wp (e0:=Ab .expr) hi';have hq2:=Aax (args:=e.args) (i+1);obtain⟨x,hxx⟩:∃x,e.args.getD i (Ab .expr)=x:=⟨_,rfl⟩;rw[hxx]at hlt hq;have hy2:ys++Hi x=xs++([e.name]++I5 (e.args.take (i+1))):=by rw[hy,hq];simp only[dO]
   have hy3:ys.length+(Hi x).length<=100:=by
    have h4:=bG List.length hy2;simp only[bD,List.length_cons,List.length_nil]at h4 hl;omega
   refine hbase (N-1) _ _ _ _ (by omega) ⟨tT,[exA x,.yld 2],vnT ys,.bool true,Aaz (ys++Hi x),[some 0,some 6,some 2],
    ⟨x,ys,by omega,hy3,rfl,rfl,rfl,rfl,rfl⟩,⟨by rw[<-hxx];rfl,by rfl,⟨⟨by rfl,by rfl⟩,by rfl,⟨⟨rfl,rfl,rfl,rfl,rfl⟩,by rfl,by rfl⟩,trivial⟩,by rfl⟩,by rfl, ?_⟩
   obtain⟨zs,hz⟩:∃zs,ys++Hi x=zs:=⟨_,rfl⟩;rw[hz]at hy2;rw[hz];dsimp only[vnT,Aaz,slN,Fk,Cz,Ev,Dd,Fq,B6,Ar,Ib,List.length_cons,List.length_nil,List.cons_append,List.nil_append,Nat.reduceAdd,Nat.reduceSub];refine(aI (λw0=>nG w0) (λw0=>(aO ?_)));refine eI ((i+1,zs)) (eI ([some 0,some 1,some 2,some 3,some 4,some 5,some 8]) (aI ?_ (aI ?_ (aB (aI (aG (aI (aI (aI rfl (aI rfl (aI rfl (aI rfl rfl)))) (aA (by rfl))) (aH (aA tT)))) (by rfl))))))
   ·exact⟨hi',hy2⟩
   ·show e.args.length-(i+1)<e.args.length-i;omega
  ·have hi':¬i<e.args.length:=by simpa using k0
   have hy2:ys=xs++Hi e:=by rw[hy,bL (by omega),e0]
   rw[<-hy2];exact⟨[some 0,none,some 2,some 6],by rfl,by rfl,⟨⟨by rfl,by rfl⟩,⟨⟨rfl,rfl,rfl,rfl,rfl⟩,by rfl,by rfl⟩,by rfl,trivial⟩,by rfl⟩
 ·have e0:Hi e=[]++I5 e.args:=by rw[Afb];have h:=h0;simp at h;rw[aL h]
  have hl:=e0 ▸ hn;rw[bD]at hl;refine ex4 _ (λp:Nat×List ByteArray=>⟨[.any,.yld 2,.ptr 3 0,.any,.any,.any,.any,.any,.any,.any,.any,.ptr 3 4,.sl .expr e.args,.int .i64 (↑e.args.length:Int),.int .i64 (p.1:Int),.any,.any,.any,.any,.any,.any,.any,.any],[.cells [.own 5],.dead,.loop .ready .no ([10]) _ _ [.any,.any,.any,.ptr 0 0,.any,.any,.any,.any,.any,.any,.any,.any,.any,.any,.any,.any,.any,.any,.any,.any,.any,.any,.any],.cells   [.int .i64 e.kind,.int .i64 e.op,.str e.name,.int .i64 e.value,.sl .expr e.args],.cells   [.int .i64 e.kind,.int .i64 e.op,.str e.name,.int .i64 e.value,.sl .expr e.args],.rows .str p.2],6⟩) (λp=>p.1<=e.args.length/\p.2=xs++([]++I5 (e.args.take p.1))) (λp=>e.args.length-p.1) (aI (eI ((0,xs)) (eI ([some 0,some 1,some 2,some 3,some 4,some 1]) (aI ?_ (aB (aI (aG (aI (aI (aI rfl (aI rfl (aI rfl (aI rfl rfl)))) (aA (by rfl))) (aH (aA tT)))) (by rfl)))))) ?_)
  ·exact⟨aV _,by simp[I5]⟩
  rintro⟨i,ys⟩ ⟨hi,hy⟩;replace hy:ys=xs++([]++I5 (e.args.take i)):=hy;refine(aI (λk0=>(aO ?_)) (λk0=>?_))
  ·have hi':i<e.args.length:=by simpa using k0
   have hlt:exW (e.args.getD i (Ab .expr))<exW e:=Lh hi';have hq:=Wp (e0:=Ab .expr) hi';have hq2:=Aax (args:=e.args) (i+1);obtain⟨x,hxx⟩:∃x,e.args.getD i (Ab .expr)=x:=⟨_,rfl⟩;rw[hxx]at hlt hq;have hy2:ys++Hi x=xs++([]++I5 (e.args.take (i+1))):=by rw[hy,hq];simp only[dO]
   have hy3:ys.length+(Hi x).length<=100:=by
    have h4:=bG List.length hy2;simp only[bD,List.length_cons,List.length_nil]at h4 hl;omega
   refine hbase (N-1) _ _ _ _ (by omega) ⟨tT,[exA x,.yld 2],vnT ys,.bool true,Aaz (ys++Hi x),[some 0,some 5,some 2],
    ⟨x,ys,by omega,hy3,rfl,rfl,rfl,rfl,rfl⟩,⟨by rw[<-hxx];rfl,by rfl,⟨⟨by rfl,by rfl⟩,by rfl,⟨⟨rfl,rfl,rfl,rfl,rfl⟩,by rfl,by rfl⟩,trivial⟩,by rfl⟩,by rfl, ?_⟩
   obtain⟨zs,hz⟩:∃zs,ys++Hi x=zs:=⟨_,rfl⟩;rw[hz]at hy2;rw[hz];dsimp only[vnT,Aaz,slN,Fk,Cz,Ev,Dd,Fq,B6,Ar,Ib,List.length_cons,List.length_nil,List.cons_append,List.nil_append,Nat.reduceAdd,Nat.reduceSub];refine(aI (λw0=>nG w0) (λw0=>(aO ?_)));refine eI ((i+1,zs)) (eI ([some 0,some 1,some 2,some 3,some 4,some 7]) (aI ?_ (aI ?_ (aB (aI (aG (aI (aI (aI rfl (aI rfl (aI rfl (aI rfl rfl)))) (aA (by rfl))) (aH (aA tT)))) (by rfl))))))
   ·exact⟨hi',hy2⟩
   ·show e.args.length-(i+1)<e.args.length-i;omega
  ·have hi':¬i<e.args.length:=by simpa using k0
   have hy2:ys=xs++Hi e:=by rw[hy,bL (by omega),e0]
   rw[<-hy2];exact⟨[some 0,none,some 2,some 5],by rfl,by rfl,⟨⟨by rfl,by rfl⟩,⟨⟨rfl,rfl,rfl,rfl,rfl⟩,by rfl,by rfl⟩,by rfl,trivial⟩,by rfl⟩
def Aqv:Nat->CallSem
 |0=>Bb cx0 Tryz.prog (Kh 247 noS (Bb cx0 Tryz.prog noS))
 |N+1=>Bb cx0 Tryz.prog (Kh 247 (Gq (An6 N)) (Bb cx0 Tryz.prog noS))
theorem Aa0(N:Nat):∀g args T x1 T1,An6 N g args T x1 T1->Aqv N g args T T.length (λx T' n'=>∃σ,J5 T.length σ [noW x] T' n' ⟨[x1],T1,T1.length⟩):=by
 rintro g args T x1 T1 ⟨e,xs,he,hn,rfl,rfl,rfl,rfl,rfl⟩;cases N with
 |zero=>omega
 |succ N=>exact Akj _ (N+1) e xs he hn (λk args H m K h h'=>by
  have:k=N:=by omega
  exact this ▸ h')
theorem Yg:∀N,Bc Tryz.prog (Aqv N)
 |0=>Ag Ah (Db Bl (Ag Ah Bl))
 |N+1=>Ag Ah (Db (Gr (Yg N) (Aa0 N)) (Ag Ah Bl))
def Asz:FuncId->List AV->List Ob->AV->List Ob->Prop:=λg a T x T1=>∃k,An6 k g a T x T1
theorem Aho:Bc Tryz.prog (Gq Asz):=
 Gr (sem:=λg a H n K=>∃d,Aqv d g a H n K) ⟨λg a H n K ⟨d,h⟩=>(Yg d).1 g a H n K h,λid a H n K ⟨d,h⟩=>(Yg d).2 id a H n K h⟩ λg a T x T1 ⟨k,h⟩=>⟨k,Aa0 k g a T x T1 h⟩
end Go.Proofs.YtckpldpombdkgaaGreat
namespace Go.Proofs.YtckpldpombdkgaaGreat
open Go.Shelf Go.Sx Go.RowKit
def Tryz.sortA_ren:Go.Shelf.Ren:=⟨λ|5=>245|8=>179|7=>264|19=>234|20=>235|10=>297|11=>298|12=>299|13=>300|14=>301|15=>302|16=>303|17=>304|18=>305|30=>313|31=>253|32=>254|33=>314|34=>315|35=>180|40=>317|n=>n,λ|23=>31|25=>3|3=>3|32=>189|22=>31|0=>0|44=>226|46=>228|4=>4|36=>219|35=>218|41=>223|5=>5|9=>9|53=>243|57=>207|63=>263|64=>199|n=>n,λ|n=>n⟩
theorem Tryz.sortA:Go.Proofs.SlLaysM.n5 Tryz.prog Tryz.sortA_ren:={
 mixed:=by kernel_rfl
 f5:=⟨Tryz.f245.name,by decide,Tryz.func245.trans (bG some (by kernel_rfl))⟩
 f7:=⟨Tryz.f264.name,by decide,Tryz.func264.trans (bG some (by kernel_rfl))⟩
 f8:=Tryz.func179.trans (bG some (by kernel_rfl))
 f10:=⟨Tryz.f297.name,by decide,Tryz.func297.trans (bG some (by kernel_rfl))⟩
 f11:=⟨Tryz.f298.name,by decide,Tryz.func298.trans (bG some (by kernel_rfl))⟩
 f12:=⟨Tryz.f299.name,by decide,Tryz.func299.trans (bG some (by kernel_rfl))⟩
 f13:=⟨Tryz.f300.name,by decide,Tryz.func300.trans (bG some (by kernel_rfl))⟩
 f14:=⟨Tryz.f301.name,by decide,Tryz.func301.trans (bG some (by kernel_rfl))⟩
 f15:=⟨Tryz.f302.name,by decide,Tryz.func302.trans (bG some (by kernel_rfl))⟩
 f16:=⟨Tryz.f303.name,by decide,Tryz.func303.trans (bG some (by kernel_rfl))⟩
 f17:=⟨Tryz.f304.name,by decide,Tryz.func304.trans (bG some (by kernel_rfl))⟩
 f18:=⟨Tryz.f305.name,by decide,Tryz.func305.trans (bG some (by kernel_rfl))⟩
 f19:=Tryz.func234.trans (bG some (by kernel_rfl))
 f20:=Tryz.func235.trans (bG some (by kernel_rfl))
 f30:=⟨Tryz.f313.name,by decide,Tryz.func313.trans (bG some (by kernel_rfl))⟩
 f31:=Tryz.func253.trans (bG some (by kernel_rfl))
 f32:=Tryz.func254.trans (bG some (by kernel_rfl))
 f33:=⟨Tryz.f314.name,by decide,Tryz.func314.trans (bG some (by kernel_rfl))⟩
 f34:=⟨Tryz.f315.name,by decide,Tryz.func315.trans (bG some (by kernel_rfl))⟩
 f35:=⟨Tryz.f180.name,by decide,Tryz.func180.trans (bG some (by kernel_rfl))⟩
 f40:=⟨Tryz.f317.name,by decide,Tryz.func317.trans (bG some (by kernel_rfl))⟩
 t0:=Tryz.underlying0
 a0:=Tryz.isAgg0
 z0:=Tryz.sizeOf0
 v0:=Tryz.zeroValue0
 t3:=Tryz.underlying3
 a3:=Tryz.isAgg3
 z3:=Tryz.sizeOf3
 v3:=Tryz.zeroValue3
 t4:=Tryz.underlying4
 a4:=Tryz.isAgg4
 z4:=Tryz.sizeOf4
 v4:=Tryz.zeroValue4
 t5:=Tryz.underlying5
 a5:=Tryz.isAgg5
 z5:=Tryz.sizeOf5
 v5:=Tryz.zeroValue5
 t9:=Tryz.underlying9
 a9:=Tryz.isAgg9
 z9:=Tryz.sizeOf9
 v9:=Tryz.zeroValue9
 t22:=Tryz.underlying31
 a22:=Tryz.isAgg31
 z22:=Tryz.sizeOf31
 v22:=Tryz.zeroValue31
 t23:=Tryz.underlying31
 a23:=Tryz.isAgg31
 z23:=Tryz.sizeOf31
 v23:=Tryz.zeroValue31
 t25:=Tryz.underlying3
 a25:=Tryz.isAgg3
 z25:=Tryz.sizeOf3
 v25:=Tryz.zeroValue3
 t32:=Tryz.underlying189
 a32:=Tryz.isAgg189
 z32:=Tryz.sizeOf189
 v32:=Tryz.zeroValue189
 t35:=Tryz.underlying218
 a35:=Tryz.isAgg218
 z35:=Tryz.sizeOf218
 v35:=Tryz.zeroValue218
 t36:=Tryz.underlying219
 a36:=Tryz.isAgg219
 z36:=Tryz.sizeOf219
 v36:=Tryz.zeroValue219
 t41:=Tryz.underlying223
 a41:=Tryz.isAgg223
 z41:=Tryz.sizeOf223
 v41:=Tryz.zeroValue223
 t44:=Tryz.underlying226
 a44:=Tryz.isAgg226
 z44:=Tryz.sizeOf226
 v44:=Tryz.zeroValue226
 t46:=Tryz.underlying228
 a46:=Tryz.isAgg228
 z46:=Tryz.sizeOf228
 v46:=Tryz.zeroValue228
 t53:=Tryz.underlying243
 a53:=Tryz.isAgg243
 z53:=Tryz.sizeOf243
 v53:=Tryz.zeroValue243
 t57:=Tryz.underlying207
 a57:=Tryz.isAgg207
 z57:=Tryz.sizeOf207
 v57:=Tryz.zeroValue207
 t63:=Tryz.underlying263
 a63:=Tryz.isAgg263
 z63:=Tryz.sizeOf263
 v63:=Tryz.zeroValue263
 t64:=Tryz.underlying199
 a64:=Tryz.isAgg199
 z64:=Tryz.sizeOf199
 v64:=Tryz.zeroValue199 }
def Tryz.sortB_ren:Go.Shelf.Ren:=⟨λ|6=>221|8=>179|9=>250|19=>234|20=>235|21=>282|22=>283|23=>284|24=>285|25=>286|26=>287|27=>288|28=>289|29=>290|36=>309|31=>253|32=>254|37=>310|38=>311|39=>312|41=>316|n=>n,λ|27=>145|29=>9|3=>3|32=>189|26=>145|0=>0|44=>226|46=>228|4=>4|36=>219|35=>218|41=>223|5=>5|9=>9|53=>243|57=>207|63=>263|64=>199|n=>n,λ|n=>n⟩
theorem Tryz.sortB:Go.Proofs.SlLaysM.n6 Tryz.prog Tryz.sortB_ren:={
 mixed:=by kernel_rfl
 f6:=⟨Tryz.f221.name,by decide,Tryz.func221.trans (bG some (by kernel_rfl))⟩
 f8:=Tryz.func179.trans (bG some (by kernel_rfl))
 f9:=⟨Tryz.f250.name,by decide,Tryz.func250.trans (bG some (by kernel_rfl))⟩
 f19:=Tryz.func234.trans (bG some (by kernel_rfl))
 f20:=Tryz.func235.trans (bG some (by kernel_rfl))
 f21:=⟨Tryz.f282.name,by decide,Tryz.func282.trans (bG some (by kernel_rfl))⟩
 f22:=⟨Tryz.f283.name,by decide,Tryz.func283.trans (bG some (by kernel_rfl))⟩
 f23:=⟨Tryz.f284.name,by decide,Tryz.func284.trans (bG some (by kernel_rfl))⟩
 f24:=⟨Tryz.f285.name,by decide,Tryz.func285.trans (bG some (by kernel_rfl))⟩
 f25:=⟨Tryz.f286.name,by decide,Tryz.func286.trans (bG some (by kernel_rfl))⟩
 f26:=⟨Tryz.f287.name,by decide,Tryz.func287.trans (bG some (by kernel_rfl))⟩
 f27:=⟨Tryz.f288.name,by decide,Tryz.func288.trans (bG some (by kernel_rfl))⟩
 f28:=⟨Tryz.f289.name,by decide,Tryz.func289.trans (bG some (by kernel_rfl))⟩
 f29:=⟨Tryz.f290.name,by decide,Tryz.func290.trans (bG some (by kernel_rfl))⟩
 f31:=Tryz.func253.trans (bG some (by kernel_rfl))
 f32:=Tryz.func254.trans (bG some (by kernel_rfl))
 f36:=⟨Tryz.f309.name,by decide,Tryz.func309.trans (bG some (by kernel_rfl))⟩
 f37:=⟨Tryz.f310.name,by decide,Tryz.func310.trans (bG some (by kernel_rfl))⟩
 f38:=⟨Tryz.f311.name,by decide,Tryz.func311.trans (bG some (by kernel_rfl))⟩
 f39:=⟨Tryz.f312.name,by decide,Tryz.func312.trans (bG some (by kernel_rfl))⟩
 f41:=⟨Tryz.f316.name,by decide,Tryz.func316.trans (bG some (by kernel_rfl))⟩
 t0:=Tryz.underlying0
 a0:=Tryz.isAgg0
 z0:=Tryz.sizeOf0
 v0:=Tryz.zeroValue0
 t3:=Tryz.underlying3
 a3:=Tryz.isAgg3
 z3:=Tryz.sizeOf3
 v3:=Tryz.zeroValue3
 t4:=Tryz.underlying4
 a4:=Tryz.isAgg4
 z4:=Tryz.sizeOf4
 v4:=Tryz.zeroValue4
 t5:=Tryz.underlying5
 a5:=Tryz.isAgg5
 z5:=Tryz.sizeOf5
 v5:=Tryz.zeroValue5
 t9:=Tryz.underlying9
 a9:=Tryz.isAgg9
 z9:=Tryz.sizeOf9
 v9:=Tryz.zeroValue9
 t26:=Tryz.underlying145
 a26:=Tryz.isAgg145
 z26:=Tryz.sizeOf145
 v26:=Tryz.zeroValue145
 t27:=Tryz.underlying145
 a27:=Tryz.isAgg145
 z27:=Tryz.sizeOf145
 v27:=Tryz.zeroValue145
 t29:=Tryz.underlying9
 a29:=Tryz.isAgg9
 z29:=Tryz.sizeOf9
 v29:=Tryz.zeroValue9
 t32:=Tryz.underlying189
 a32:=Tryz.isAgg189
 z32:=Tryz.sizeOf189
 v32:=Tryz.zeroValue189
 t35:=Tryz.underlying218
 a35:=Tryz.isAgg218
 z35:=Tryz.sizeOf218
 v35:=Tryz.zeroValue218
 t36:=Tryz.underlying219
 a36:=Tryz.isAgg219
 z36:=Tryz.sizeOf219
 v36:=Tryz.zeroValue219
 t41:=Tryz.underlying223
 a41:=Tryz.isAgg223
 z41:=Tryz.sizeOf223
 v41:=Tryz.zeroValue223
 t44:=Tryz.underlying226
 a44:=Tryz.isAgg226
 z44:=Tryz.sizeOf226
 v44:=Tryz.zeroValue226
 t46:=Tryz.underlying228
 a46:=Tryz.isAgg228
 z46:=Tryz.sizeOf228
 v46:=Tryz.zeroValue228
 t53:=Tryz.underlying243
 a53:=Tryz.isAgg243
 z53:=Tryz.sizeOf243
 v53:=Tryz.zeroValue243
 t57:=Tryz.underlying207
 a57:=Tryz.isAgg207
 z57:=Tryz.sizeOf207
 v57:=Tryz.zeroValue207
 t63:=Tryz.underlying263
 a63:=Tryz.isAgg263
 z63:=Tryz.sizeOf263
 v63:=Tryz.zeroValue263
 t64:=Tryz.underlying199
 a64:=Tryz.isAgg199
 z64:=Tryz.sizeOf199
 v64:=Tryz.zeroValue199 }
def Ss(t:Ty)(srt:List t.den->List t.den)(g0:FuncId):CallSem:=λg args H n K=>g=g0/\((args=[.cap0]/\K (.tup []) H n)\/∃(id:Nat)(xs:List t.den),args=[.own id]/\Ac H id=.rows t xs/\xs.length<=1000000/\K (.tup []) (B6 (.rows t (srt xs)) H id) n)
theorem Uk{t:Ty}{Pv:t.den->PV}(hE:∀x,enc t x=[Pv x]):∀(xs:List t.den),flat t xs=xs.map Pv
 |[]=>rfl
 |x::xs=>by
  have h:=Uk hE xs;unfold flat at h ⊢;rw[fD,h,hE];rfl
theorem Wq{α:Type}(v:α):∀(l:List α)(i:Nat),(∀h:i<l.length,l[i]=v)->B6 v l i=l
 |[],_,_=>rfl
 |a::l,0,h=>by
  have:=h (Nat.succ_pos _);simp only[List.getElem_cons_zero]at this;rw[B6,this]
 |a::l,i+1,h=>by
  rw[B6,Wq v l i λhi=>?_];have:=h (Nat.succ_lt_succ hi);simpa using this
theorem Yh{w:World}{blk b:Nat}{f:Array Value->Array Value}(h:b≠blk):(Sort.mapBlock w blk f).heap[b]?=w.heap[b]?:=by
 unfold Sort.mapBlock;simp only[Array.getElem?_modify];rw[aL (Ne.symm h)]
theorem Ul{P:Program}{t:Ty}[Inhabited t.den]{V:t.den->Value}{Pv:t.den->PV}(hEn:∀x,enc t x=[Pv x])(hV:∀(w:World)(Fz:Nat->Nat->Prop) v x,RdP w Fz v (Pv x)<->v=V x){srt:List t.den->List t.den}(srt_len:∀xs,(srt xs).length=xs.length){g0:FuncId}(hf:∃fn,P.funcs[g0]?=some fn/\fn.body.isSome=true/\(fn.name == "runtime.NumGoroutine")=false)
 (hs:∀(blk off cap:Nat)(zs:List t.den)(w:World),Sort.Holds V w blk off zs.toArray->blk<w.heap.size->zs.length<4611686018427387904->
   Calls P g0 #[.slice (some ⟨blk,off,none⟩) zs.length cap] w λe w'=>e=.returned (.tuple #[])/\∃n os,w'=Sort.grow (Sort.putRow V (Sort.ahead w n) blk off (srt zs).toArray) os)
 (h0:∀(p:Option Addr)(cap:Nat)(w:World),Calls P g0 #[.slice p 0 cap] w λe w'=>e=.returned (.tuple #[])/\w'=w):Bc P (Ss t srt g0):=by
 refine⟨?_,λid args H n K h=>by rcases h with⟨_,⟨h,_⟩|⟨_,_,h,_⟩⟩<;>cases h⟩;rintro g args H n K ⟨rfl,⟨rfl,hk⟩|⟨id,xs,rfl,hob,hlen,hk⟩⟩ E vs hE hsz hrd
 ·refine⟨hf, ?_⟩;obtain⟨vs⟩:=vs
  match vs,hsz with
  |[v],_=>
  have hv:RdA E v .cap0:=hrd 0 v _ rfl rfl;cases hv with
  |cap0 a=>
  refine(h0 a 0 E.w).mono ?_;rintro e w' ⟨rfl,rfl⟩;exact⟨_,E,.tup [],_,n,rfl,rfl,bB _,hE,.tup _ _ rfl (λi u x hu=>by simp at hu),Evo.refl _ _,hk⟩
 refine⟨hf, ?_⟩;obtain⟨vs⟩:=vs
 match vs,hsz with
 |[v],_=>
 have hv:RdA E v (.own id):=hrd 0 v _ rfl rfl;have hA:=hv.own_inv.1;have hne:Ac H id≠.dead:=by rw[hob];simp
 have hl:=hE.live id hne;have hok:RowsAt E t xs (E.ρ id):=by
  have:=hE.ok id hl hne;rw[hob]at this;exact this
 have hW:E.W id:=hE.wr id (by rw[hob];trivial);have hown:=hv.own_inv.2.2 hl;cases hρ:E.ρ id with
 |none=>
  rw[hρ]at hok hown;obtain⟨ba,rfl⟩:=hown;have hxs:xs=[]:=hok;subst hxs;refine(h0 ba 0 E.w).mono ?_;rintro e w' ⟨rfl,rfl⟩;refine⟨_,E,.tup [],_,n,rfl,rfl,bB _, ?_,.tup _ _ rfl (λi u x hu=>by simp at hu),Evo.refl _ _,hk⟩;rw[Wq]
  ·exact hE
  ·intro hi;have:Ac H id=H[id]:=by
    unfold Ac;rw[Bo,aQ hi];rfl
   rw[<-this,hob,dB (srt_len [])]
 |some hd=>
  rw[hρ]at hok hown;obtain⟨g1,g2,g3,g3',arr,el,g4,g5,g6⟩:=hok;have hown:v=.slice (some ⟨hd.blk,hd.off,none⟩) hd.len hd.cap:=hown;subst hown;have hsz1:Ty.size t=1:=by rw[<-Ax t (default:t.den),hEn];rfl
  rw[hsz1,fV]at g5;have hcell:∀j (hj:j<xs.length),arr[hd.off+j]?=some (V xs[j]):=by
   intro j hj;obtain⟨u,u1,u2⟩:=g6 j (Pv xs[j]) (by rw[Uk hEn,cL,aQ hj];rfl);rw[<-(hV _ _ _ _).1 u2];exact u1
  have hH:Sort.Holds V E.w hd.blk hd.off xs.toArray:=by
   intro j hj;have hj':j<xs.length:=by simpa using hj
   refine⟨?_, ?_⟩
   ·have:=hcell j hj';simp only[World.cell?,g4];rw[this];simp[hj']
   ·simp[World.frozen?,g4]
  have hblk:=(hE.lt id hd hl hρ).2;have:=hs hd.blk hd.off hd.cap xs E.w hH hblk (by omega);rw[<-g1]at this;refine this.mono ?_;rintro e w' ⟨rfl,m,os,rfl⟩;have hsl:=srt_len xs;have hnew:(Sort.grow (Sort.putRow V (Sort.ahead E.w m) hd.blk hd.off (srt xs).toArray) os).heap[hd.blk]?=some (.cells (Sort.putCells V hd.off (srt xs).toArray arr) el (0,0)):=by
   unfold Sort.grow Sort.putRow Sort.mapBlock;simp only[Sort.heap_ahead];rw[fT (by simpa using hblk),Array.getElem?_modify,aN rfl,g4];rfl
  have hold:∀b,b<E.w.heap.size->b≠hd.blk->(Sort.grow (Sort.putRow V (Sort.ahead E.w m) hd.blk hd.off (srt xs).toArray) os).heap[b]?=E.w.heap[b]?:=by
   intro b hb hne;show((Sort.putRow V (Sort.ahead E.w m) hd.blk hd.off (srt xs).toArray).heap++os)[b]?=_;rw[fT (by simpa using hb)];exact Yh hne
  have hsize:E.w.heap.size<=(Sort.grow (Sort.putRow V (Sort.ahead E.w m) hd.blk hd.off (srt xs).toArray) os).heap.size:=by
   show _<=((Sort.putRow V (Sort.ahead E.w m) hd.blk hd.off (srt xs).toArray).heap++os).size;rw[gL,Sort.size_putRow];exact iD _ _
  have hbd:Below E.B E.w (Sort.grow (Sort.putRow V (Sort.ahead E.w m) hd.blk hd.off (srt xs).toArray) os):=by
   refine⟨rfl,rfl,rfl,hsize,λk hk=>hold k (bZ hk hE.B) ?_⟩;have:=(hE.lt id hd hl hρ).1;omega
  generalize Sort.grow (Sort.putRow V (Sort.ahead E.w m) hd.blk hd.off (srt xs).toArray) os=w' at hnew hold hsize hbd;have hstep:Step E n ⟨none,none,.tup [],[],none,some (id,.rows t (srt xs)),[]⟩ w' (λ_=>none):=by
   refine⟨hbd,λb hb hne=>hold b hb λe=>hne id hW (.inr rfl) (.inl ⟨hd,hρ,e.symm⟩), ?_, ?_, ?_, ?_⟩
   ·intro j h hj;simp at hj
   ·intro j j' h h' hj;simp at hj
   ·intro id hid;cases hid
   ·intro p hp;cases hp;exact hW
  have hρ2:∀wn,(E.ext n 0 none [] wn w' (λ_=>none)).ρ id=some hd:=λwn=>by
   simp only[Env.ext];rw[aL (by omega),hρ]
  have hx:=hstep.ext (wn:=Xx n ⟨none,none,.tup [],[],none,some (id,.rows t (srt xs)),[]⟩) (hE.ready _) ⟨n,hE.ns⟩ (λ_ j ob hj=>by simp at hj) (λhevo i ob hi=>by
   cases hi;show RowsAt _ t _ _;rw[show(E.ext n (List.length ([]:List Ob)) none [] _ w' (λ_=>none)).ρ id=some hd from hρ2 _];refine⟨by rw[hsl];exact g1,g2,g3,g3',_,el,hnew, ?_,λj p hp=>?_⟩
   ·rw[hsz1,fV];simp[Sort.putCells];omega
   ·rw[Uk hEn,cL]at hp;obtain⟨x,hx,rfl⟩:=bC.1 hp;have hj:=(aU.1 hx).1;refine⟨V x, ?_,(hV _ _ _ _).2 rfl⟩;have hlt:hd.off+j<arr.size:=by omega
    unfold Sort.putCells;rw[Array.getElem?_mapIdx,cD hlt];simp only[eM,aT];rw[aN ⟨by omega,by simp;omega⟩,show hd.off+j-hd.off=j by omega];obtain⟨_,he⟩:=aU.1 hx;simp[hj,he])
  have hE':=hE.step hx ⟨λid hid=>(by cases hid),λp hp=>(by cases hp;exact⟨hA,by rw[hob];trivial⟩)⟩;have hheap:Res.heap ⟨none,none,.tup [],[],none,some (id,.rows t (srt xs)),[]⟩ H=B6 (.rows t (srt xs)) H id:=by
   unfold Res.heap;rw[cB];rfl
  rw[hheap]at hE';exact⟨_,_,.tup [],_,n,rfl,rfl,bB _,hE',.tup _ _ rfl (λi u x hu=>by simp at hu),hx.evo n,hk⟩
def Gu(xs:List Int):List Int:=xs.mergeSort λx y=>decide (x<=y)
def sortB(xs:List ByteArray):List ByteArray:=((xs.map λs=>s.data.toList).mergeSort λx y=>decide (x<=y)).map λl=>⟨l.toArray⟩
theorem An7:Bc Tryz.prog (Ss tI Gu 245):=
 Ul (t:=tI) (srt:=Gu) (V:=Value.int .i64) (Pv:=PV.int .i64) (λ_=>rfl) (λ_ _ _ _=>⟨λh=>by cases h;rfl,λh=>by rw[h];exact .int _ _⟩) (λxs=>gR xs) ⟨_,Tryz.func245,rfl,rfl⟩
  (λblk off cap zs w hH hb hz=>AnyM.slices_Sort_int Tryz.sortA blk off cap zs w hH hb hz) (λp cap w=>AnyM.slices_Sort_int_none Tryz.sortA p cap w)
theorem An8:Bc Tryz.prog (Ss .str sortB 221):=by
 refine Ul (t:=.str) (srt:=sortB) (V:=Value.string) (Pv:=PV.str) (λ_=>rfl) (λ_ _ _ _=>⟨λh=>by cases h;rfl,λh=>by rw[h];exact .str _⟩) (λxs=>by simp[sortB,gR]) ⟨_,Tryz.func221,rfl,rfl⟩
  (λblk off cap zs w hH hb hz=>?_) (λp cap w=>AnyM.slices_Sort_string_none Tryz.sortB p cap w)
 have h1:Sort.Holds encStr w blk off (zs.map λs=>s.data.toList).toArray:=by
  intro j hj;have hj':j<zs.length:=by simpa using hj
  obtain⟨h2,h3⟩:=hH j (by simpa using hj');refine⟨h2.trans ?_,h3⟩;simp[hj',encStr]
 have h4:=AnyM.slices_Sort_string Tryz.sortB blk off cap (zs.map λs=>s.data.toList) w h1 hb (by simpa using hz);rw[bM]at h4;refine h4.mono ?_;rintro e w' ⟨rfl,n,os,rfl⟩;refine⟨rfl,n,os, ?_⟩;have h5:∀c:Array Value,Sort.putCells encStr off ((zs.map λs=>s.data.toList).mergeSort λx y=>decide (x<=y)).toArray c=Sort.putCells Value.string off (sortB zs).toArray c:=by
  intro c;unfold Sort.putCells
  congr 1
  funext k x
  simp only[dW,sortB,bM];split
  ·rename_i hk;have:k-off<((zs.map λs=>s.data.toList).mergeSort λx y=>decide (x<=y)).length:=by omega
   simp[this,encStr,aQ this]
  ·rfl
 unfold Sort.putRow
 congr 2
 funext c
 exact h5 c
def H7(xs:List ByteArray):Nat->List ByteArray
 |0=>[]
 |n+1=>H7 xs n++(if n=0\/xs.getD n (Ab .str)≠xs.getD (n-1) (Ab .str)then[xs.getD n (Ab .str)]else[])
def Aa1(xs:List ByteArray):List ByteArray:=H7 xs xs.length
theorem Kl{α:Type}{xs:List α}{n:Nat}{d:α}(h:n<xs.length):xs.take (n+1)=xs.take n++[xs.getD n d]:=by
 rw[bS h];simp[aY,aQ h]
theorem Wr{xs:List ByteArray}{n:Nat}(h0:n≠0)(h:xs.getD n (Ab .str)=xs.getD (n-1) (Ab .str)):H7 xs (n+1)=H7 xs n:=by
 rw[H7,aL (by rintro(h1|h1);exact h0 h1;exact h1 h),cB]
theorem Um{xs:List ByteArray}{n:Nat}(h:xs.getD n (Ab .str)≠xs.getD (n-1) (Ab .str)):H7 xs (n+1)=H7 xs n++[xs.getD n (Ab .str)]:=by
 rw[H7,aN (.inr h)]
theorem Aqw{xs:List ByteArray}(h:1<=xs.length):H7 xs 1=xs.take 1:=by
 rw[Kl (n:=0) (d:=Ab .str) h];simp[H7]
theorem Akk{xs:List ByteArray}(h:xs.length<2):Aa1 xs=xs:=by
 match xs,h with
 |[],_=>rfl
 |[a],_=>rfl
theorem Ws{α:Type}{xs ys:List α}{n m:Nat}{d:α}(h:ys.drop n=xs.drop n)(hm:n<=m):ys.getD m d=xs.getD m d:=by
 have h1:(ys.drop n)[m-n]?=(xs.drop n)[m-n]?:=by rw[h]
 rw[cK,cK,show n+(m-n)=m by omega]at h1;simp[aY,h1]
theorem Akl{α:Type}{ys:List α}{m:Nat}{v:α}(h:m<ys.length):(ys.set m v).take (m+1)=ys.take m++[v]:=by
 rw[Kl (n:=m) (d:=v) (by rw[cG];exact h),List.take_set_of_le (bB _)];simp[aY,h]
theorem Ahp{α:Type}{xs ys:List α}{n:Nat}(h:ys.drop n=xs.drop n):ys.drop (n+1)=xs.drop (n+1):=by
 rw[<-gW,<-gW,h]
def Fc(e:ExprT):List ByteArray:=if B0 e=0 then Aa1 (sortB (Hi e))else[]
def cxX:Ctx:=⟨Dp,[(173,([],c79))]⟩
theorem Un:Aj Tryz.prog cxX:=Ad Ac4 Ah
def c80:Ctr:=fnC [dX] [(false,tSs)] (λ_=>True) (λy=>(Fc y.1,()))
theorem Aqx:GoodC Tryz.prog 174 c80:=by
 refine X6 (Ag Un (Db (g0:=221) An8 (Ag Un (Db (g0:=247) Aho (Ag Un Bl))))) _ _ _ _ ⟨_,Tryz.func174,rfl,rfl⟩ λ(⟨e,_⟩:ExprT×Unit) _=>?_
 refine(aF (aI tT (aI (λh0=>(Aa rfl ?_)) (λh0=>(aF (aF (aF (aI tT ?_))))))))
 ·have hk:B0 e≠0:=by have h:=h0;simp only[eta]at h;simpa using h
  show(Fc e,())=([],());rw[Fc,aL hk]
 have hk:B0 e=0:=by have h:=h0;simp only[eta]at h;simpa using h
 have hN:(Hi e).length<=100:=cO (Afc e) (An5 hk);have hnm:Fc e=Aa1 (sortB (Hi e)):=by rw[Fc,aN hk]
 refine eI [exA e,.yld 2] (eI (vnT []) (eI (.bool true) (eI (Aaz ([]++Hi e)) (eI [some 1,none,some 3]
  ⟨⟨_,e,[],eK _,by simpa using hN,rfl,rfl,rfl,rfl,rfl⟩,⟨by rfl,by rfl,⟨⟨by rfl,by rfl⟩,by rfl,⟨⟨rfl,rfl,rfl,by kernel_rfl,by kernel_rfl⟩,by rfl,by rfl⟩,trivial⟩,by rfl⟩,by rfl, ?_⟩))))
 rw[List.nil_append];dsimp only[vnT,Aaz,slN,Fk,Cz,Ev,Dd,Fq,B6,Ar,Ib,List.length_cons,List.length_nil,List.cons_append,List.nil_append,Nat.reduceAdd,Nat.reduceSub];refine(aA ?_);refine .inr ⟨4,Hi e,rfl,rfl,by omega, ?_⟩;obtain⟨xs,hx⟩:∃xs,sortB (Hi e)=xs:=⟨_,rfl⟩;have hxl:xs.length<=100:=by rw[<-hx];simpa[sortB,gR]using hN
 rw[hx]at hnm;rw[hx];refine(aF (λw0=>(aI (λw1=>(Aa rfl ?_)) (λw1=>?_))))
 ·have h2:xs.length<2:=by have:=aM w1;omega
  show(Fc e,())=(xs,());rw[hnm,Akk h2]
 have hx2:2<=xs.length:=by have:=aP w1;omega
 refine ex4 _ (λk:Nat=>⟨[.own 4,.any,.any,.int .i64 (k:Int)]++nA 57,[.cells   [.int .i64 e.kind,.int .i64 e.op,.str e.name,.int .i64 e.value,.sl .expr e.args],.cells [.own 4],.cells   [.int .i64 e.kind,.int .i64 e.op,.str e.name,.int .i64 e.value,.sl .expr e.args],.dead,.rows .str xs],5⟩) (λk=>1<=k/\k<=xs.length/\H7 xs k=xs.take k) (λk=>xs.length-k) (aI (eI (1) (eI ([some 0,some 1,some 2,some 3,some 4]) (aI ?_ (aB (aI (aH (aG (aA tT))) (by rfl)))))) ?_)
 ·exact⟨bB _,by omega,Aqw (by omega)⟩
 rintro k ⟨hk1,hk2,hku⟩;refine(λk0=>(aI (λk1=>(aF (aO (aO (aO (aI (λk2=>(aO ?_)) (λk2=>(aO ?_)))))))) (λk1=>(Aa rfl ?_))))
 ·have hlt:k<xs.length:=by have:=aM k1;omega
  have heq:xs.getD k (Ab .str)=xs.getD (k-1) (Ab .str):=by
   have h:=aM k2;rw[bE,show((k:Int)-1).toNat=k-1 by omega]at h;exact h
  refine ex4 _ (λp:Nat×Nat×List ByteArray=>⟨[.own 4,.any,.any,.int .i64 (p.2.1:Int),.ownp 4 1 k (xs.length-k),.int .i64 (p.1:Int),.any,.any,.any,.any,.int .i64 (↑k:Int),.own 4,.int .i64 (↑xs.length:Int),.bool (decide ((↑k:Int)<(↑xs.length:Int))),.any,.any,.own 4,.int .i64 (↑k:Int),.any,.any,.own 4,.int .i64 (↑k:Int),.int .i64 ((↑k:Int)-1),.any,.any,.any,.own 4,.int .i64 (↑k:Int)]++nA 33,[.cells   [.int .i64 e.kind,.int .i64 e.op,.str e.name,.int .i64 e.value,.sl .expr e.args],.cells [.own 4],.cells   [.int .i64 e.kind,.int .i64 e.op,.str e.name,.int .i64 e.value,.sl .expr e.args],.dead,.rows .str p.2.2],5⟩) (λp=>(1<=p.1/\p.1<=xs.length-k)/\(p.2.1<k+p.1/\p.2.2.length=xs.length)/\p.2.2.take p.2.1=H7 xs (k+p.1)/\p.2.2.drop (k+p.1-1)=xs.drop (k+p.1-1)) (λp=>xs.length-p.1) (aI (eI ((1,k,xs)) (eI ([some 0,some 1,some 2,some 3,some 4]) (aI ?_ (aB (aI (aH (aG (aA tT))) (by rfl)))))) ?_)
  ·refine⟨⟨bB _,by show 1<=xs.length-k;omega⟩,⟨by show k<k+1;omega,rfl⟩, ?_,rfl⟩;show xs.take k=H7 xs (k+1);rw[Wr (by omega) heq,hku]
  rintro⟨j,m,ys⟩ ⟨⟨hj1,hj2⟩,⟨hm,hy⟩,ht,hd⟩;replace hj1:1<=j:=hj1;replace hj2:j<=xs.length-k:=hj2;replace hm:m<k+j:=hm;replace hy:ys.length=xs.length:=hy;replace ht:ys.take m=H7 xs (k+j):=ht;replace hd:ys.drop (k+j-1)=xs.drop (k+j-1):=hd;have jn:(j:Int).toNat=j:=bE j;have jp:((j:Int)-1).toNat=j-1:=by omega
  have mn:(m:Int).toNat=m:=bE m;have ha:ys.getD (k+j) (Ab .str)=xs.getD (k+j) (Ab .str):=Ws hd (by omega);have hb:ys.getD (k+(j-1)) (Ab .str)=xs.getD (k+j-1) (Ab .str):=by
   rw[Ws hd (by omega),show k+(j-1)=k+j-1 by omega]
  have hdn:ys.drop (k+(j+1)-1)=xs.drop (k+(j+1)-1):=by
   have:=Ahp hd;rw[show k+j-1+1=k+(j+1)-1 by omega]at this;exact this
  refine(aI (λj0=>(aF (aO (aO (aO (aI (λj1=>(aO (aO (aO (aO ?_))))) (λj1=>(aO ?_)))))))) (λj0=>(aO (aO (Aa rfl ?_)))))
  ·have hl:j<xs.length-k:=by have:=aM j0;omega
   have hne:xs.getD (k+j) (Ab .str)≠xs.getD (k+j-1) (Ab .str):=by
    intro h;rw[<-ha,<-hb]at h;have h2:=j1;simp only[jn,jp]at h2;rw[aW h]at h2;cases h2
   refine eI ((j+1,m+1,ys.set m (ys.getD (k+j) (Ab .str)))) (eI ([some 0,some 1,some 2,some 3,some 4]) (aI ?_ (aI ?_ (aB (aI (aH (aG (aA tT))) (by rfl))))))
   ·refine⟨⟨by show 1<=j+1;omega,by show j+1<=_;omega⟩,⟨by show m+1<k+(j+1);omega,by show(ys.set m _).length=_;rw[cG];exact hy⟩, ?_, ?_⟩
    ·show(ys.set m _).take (m+1)=H7 xs (k+j+1);rw[Akl (by omega),ht,ha,Um hne]
    ·show(ys.set m _).drop (k+(j+1)-1)=_;rw[List.drop_set_of_lt (by omega)];exact hdn
   ·show xs.length-(j+1)<xs.length-j;omega
  ·have hl:j<xs.length-k:=by have:=aM j0;omega
   have he:xs.getD (k+j) (Ab .str)=xs.getD (k+j-1) (Ab .str):=by
    rw[<-ha,<-hb];have h2:=j1;simp only[jn,jp]at h2;by_cases h:ys.getD (k+j) (Ab .str)=ys.getD (k+(j-1)) (Ab .str)
    ·exact h
    ·rw[aZ h]at h2;cases h2
   refine eI ((j+1,m,ys)) (eI ([some 0,some 1,some 2,some 3,some 4]) (aI ?_ (aI ?_ (aB (aI (aH (aG (aA tT))) (by rfl))))))
   ·refine⟨⟨by show 1<=j+1;omega,by show j+1<=_;omega⟩,⟨by show m<k+(j+1);omega,hy⟩, ?_,hdn⟩;show ys.take m=H7 xs (k+j+1);rw[ht,Wr (by omega) he]
   ·show xs.length-(j+1)<xs.length-j;omega
  ·have hl:j=xs.length-k:=by have:=aP j0;omega
   have hm2:m<=ys.length:=by omega
   rw[show k+j=xs.length by omega]at ht;show(Fc e,())=_;rw[hnm,Aa1,<-ht];simp only[mn];simp[hm2,List.take_append_of_le_length]
 ·have hlt:k<xs.length:=by have:=aM k1;omega
  have hne:xs.getD k (Ab .str)≠xs.getD (k-1) (Ab .str):=by
   have h:=aP k2;rw[bE,show((k:Int)-1).toNat=k-1 by omega]at h;exact h
  refine eI (k+1) (eI ([some 0,some 1,some 2,some 3,some 4]) (aI ?_ (aI ?_ (aB (aI (aH (aG (aA tT))) (by rfl))))))
  ·refine⟨by omega,hlt, ?_⟩;rw[Um hne,hku,Kl hlt]
  ·show xs.length-(k+1)<xs.length-k;omega
 ·have e1:k=xs.length:=by have:=aP k1;omega
  subst e1;show(Fc e,())=(xs,());rw[hnm,Aa1,hku,dM]
def Lx(o:Int):Int:=Dt o 0 [(3,1),(4,1),(5,1),(6,1),(7,1),(8,0),(9,0),(10,1),(11,1),(12,1),(13,1),(14,2),(15,2)]
def Es(o:Int):Int:=Dt o 0 [(3,1),(4,1),(5,1),(6,1),(7,1),(8,2),(9,2),(10,2),(11,2),(12,2),(13,2),(14,2),(15,2)]
def Np(l:List Bd)(e:ExprT)(ts:List Int):Int×Int:=
 if e.kind=1 then(1,0)
 else if e.kind=2 then(if(C3 l e.name).2=true then((C3 l e.name).1.2.1,0)else(0,7))
 else if e.kind=3 then(if ts.getD 0 0=(if e.op=2 then 2 else 1)then((if e.op=2 then 2 else 1),0)else(0,15))
 else if ts.getD 0 0≠ts.getD 1 0\/(Lx e.op≠0/\ts.getD 0 0≠Lx e.op)then(0,15)else(Es e.op,0)
mutual
def C6(l:List Bd):ExprT->Int×Int
 |.mk k o nm v args=>if(D4 l args).2=0 then Np l (.mk k o nm v args) (D4 l args).1 else(0,(D4 l args).2)
def D4(l:List Bd):List ExprT->List Int×Int
 |[]=>([],0)
 |e::r=>if(C6 l e).2=0 then((C6 l e).1::(D4 l r).1,(D4 l r).2)else([],(C6 l e).2)
end
theorem Yi(l:List Bd)(e:ExprT):C6 l e=if(D4 l e.args).2=0 then Np l e (D4 l e.args).1 else(0,(D4 l e.args).2):=by
 obtain⟨k,o,nm,v,args⟩:=e;rfl
theorem Wt(l:List Bd){args:List ExprT}{i:Nat}{e0:ExprT}(h:i<args.length):D4 l (args.drop i) =
 if(C6 l (args.getD i e0)).2=0 then((C6 l (args.getD i e0)).1::(D4 l (args.drop (i+1))).1,(D4 l (args.drop (i+1))).2)else([],(C6 l (args.getD i e0)).2):=by
 rw[cE h];simp[D4,List.getD,h]
theorem Pj:∀(args:List ExprT)(i:Nat)(e0:ExprT),i<args.length->R3 args=0->Fb (args.getD i e0)=0
 |[],i,e0,h,_=>aS h (eF _)
 |e::r,0,e0,_,h=>by
  simp only[R3]at h;split at h
  ·assumption
  ·rename_i h1;exact aS h h1
 |e::r,i+1,e0,hi,h=>by
  simp only[R3]at h;split at h
  ·have:=Pj r i e0 (by simpa using hi) h;simpa using this
  ·rename_i h1;exact aS h h1
theorem Uo{e:ExprT}(h:Fb e=0):Fa e=0/\R3 e.args=0:=by
 rw[Ye]at h;split at h
 ·exact⟨by assumption,h⟩
 ·rename_i h1;exact aS h h1
theorem Up{p:Prop}[Decidable p]{a b:Int}(h:(if p then a else b)=0)(ha:a≠0):¬p/\b=0:=by
 by_cases hp:p
 ·rw[aN hp]at h;exact aS h ha
 ·rw[aL hp]at h;exact⟨hp,h⟩
theorem Yj{e:ExprT}(h:Fa e=0):(1<=e.kind/\e.kind<=4)/\(e.args.length:Int)=[0,0,0,1,2].getD e.kind.toNat 0/\(e.kind=1->0<=e.value/\e.value<=1099511627776)/\
 (e.kind=2->Ph e.name=true)/\(e.kind=3->e.op=1\/e.op=2)/\(e.kind=4->Nf e.op=true):=by
 simp only[Fa,Yc,fK]at h;generalize Nf e.op=b at *;generalize Ph e.name=c at *;generalize List.getD [0,0,0,1,2] e.kind.toNat (0:Int)=w at *;generalize e.kind=k at *;generalize e.op=o at *;generalize e.value=v at *;generalize (e.args.length:Int)=m at *;generalize e.name=s at *;obtain⟨h1,h⟩:=Up h (by decide);obtain⟨h2,h⟩:=Up h (by decide);obtain⟨h3,h⟩:=Up h (by decide);obtain⟨h4,h⟩:=Up h (by decide);obtain⟨h5,h⟩:=Up h (by decide);refine⟨?_, ?_, ?_, ?_, ?_, ?_⟩<;>grind
theorem Afe{e:ExprT}(h:(e.args.length:Int)=[0,0,0,1,2].getD e.kind.toNat 0):e.args.length<=2:=by
 have:∀n:Nat,([0,0,0,1,2]:List Int).getD n 0<=2:=λn=>by
  match n with
  |0=>decide
  |1=>decide
  |2=>decide
  |3=>decide
  |4=>decide
  |n+5=>simp
 have:=this e.kind.toNat
 omega
def As0(N:Nat):Ctr:=fnC [dX,X9] rII (λy=>Fb y.1=0/\exW y.1<N) (λy=>((C6 y.2.1 y.1).1,(C6 y.2.1 y.1).2,()))
def cxT(N:Nat):Ctx:=⟨Dp,[(225,([],As0 N)),(251,([],c134)),(248,([],c130))]⟩
set_option maxHeartbeats 4000000 in
theorem Aa2:∀N,GoodC Tryz.prog 225 (As0 N)
 |0=>by
  refine As Ah 3 _ _ _ _ ⟨_,Tryz.func225,rfl,rfl⟩ λy hn=>?_
  exact aS hn.2 (eF _)
 |N+1=>by
  refine As (cx:=cxT N) (Ad (Aa2 N) (Ad Afa (Ad Ae8 Ah))) 3 _ _ _ _ ⟨_,Tryz.func225,rfl,rfl⟩ λ(⟨e,l,_⟩:ExprT×List Bd×Unit) hn=>?_
  have hN:exW e<N+1:=hn.2;have hc:Fb e=0:=hn.1;clear hn;obtain⟨hc1,hc2⟩:=Uo hc;obtain⟨hk,ha,-,-,-,ho⟩:=Yj hc1;refine(aF (λh0=>?_));refine ex4 _ (λp:Nat×List Int=>⟨[.any,.sl tBd l,.ptr 0 0,.any,.any,.any,.own 1,.any,.any,.any,.any,.any,.any,.any,.any,.ptr 0 4,.sl .expr e.args,.int .i64 (↑e.args.length:Int),.int .i64 (p.1:Int)]++nA 71,[.cells   [.int .i64 e.kind,.int .i64 e.op,.str e.name,.int .i64 e.value,.sl .expr e.args],.rows tI p.2],2⟩) (λp=>p.1<=e.args.length/\p.2.length=p.1/\(D4 l (e.args.drop p.1)).2=(D4 l e.args).2/\((D4 l e.args).2=0->(D4 l e.args).1=p.2++(D4 l (e.args.drop p.1)).1)) (λp=>e.args.length-p.1) (aI (eI ((0,[])) (eI ([some 0,none]) (aI ?_ (aB (aI (aG (aA tT)) (by rfl)))))) ?_)
  ·exact⟨aV _,rfl,rfl,λ_=>rfl⟩
  rintro⟨i,ts⟩ ⟨hi,hts,h2,h3⟩;replace hts:ts.length=i:=hts;have hl2:=Afe ha;have room:(ts.length+1)*8<=lim:=by
   have:i<=e.args.length:=hi;simp only[lim];omega
  have hend:decide ((i:Int)<(e.args.length:Int))=false->ts.length=e.args.length/\C6 l e=Np l e ts:=λh=>by
   have hi':¬i<e.args.length:=by simpa using h
   have hle:i<=e.args.length:=hi;have hnil:e.args.drop i=[]:=bI (by omega);have h2':(D4 l e.args).2=0:=by rw[<-h2];show(D4 l (e.args.drop i)).2=0;rw[hnil];rfl
   have h3':=h3 h2';have h4:(D4 l e.args).1=ts:=by rw[h3'];show ts++(D4 l (e.args.drop i)).1=ts;rw[hnil];simp[D4]
   refine⟨by omega, ?_⟩;rw[Yi,aN h2',h4]
  have hargs:∀k:Int,e.kind=k->(e.args.length:Int)=[0,0,0,1,2].getD k.toNat 0:=λk h=>by rw[<-h];exact ha
  refine(aI (λk0=>(aI (by first|exact room|(intros;(try subst_vars);(try simp only[nB]at *);(try simp only[inK,big,lim,nL]at *);omega)) (aI ?_ (aI (λk1=>(Aa rfl ?_)) (λk1=>(aI (by first|exact room|(intros;(try subst_vars);(try simp only[nB]at *);(try simp only[inK,big,lim,nL]at *);omega)) (aI (by first|exact room|(intros;(try subst_vars);(try simp only[nB]at *);(try simp only[inK,big,lim,nL]at *);omega)) ?_))))))) (λk0=>(aI (λk2=>(Aa rfl ?_)) (λk2=>(aI (λk3=>(aI tT (λ(k4:(ByteArray×Int×Int)×Bool×PUnit)=>(λk5=>(aI (λk6=>(Aa rfl ?_)) (λk6=>(Aa rfl ?_))))))) (λk3=>(aI (λk7=>(aI (λk8=>(aI ?_ (aI (λk9=>(Aa rfl ?_)) (λk9=>(Aa rfl ?_))))) (λk8=>(aI ?_ (aI (λk10=>(Aa rfl ?_)) (λk10=>(Aa rfl ?_))))))) (λk7=>(aF (aF (aI ?_ (aI ?_ (aI (λk11=>?_) (aI (λk12=>(Aa rfl ?_)) (λk12=>(Aa rfl ?_))))))))))))))))
  ·have hi':i<e.args.length:=by simpa using k0
   rw[eta];exact⟨Pj _ _ _ hi' hc2,bZ (Lh hi') (by omega)⟩
  ·have hi':i<e.args.length:=by simpa using k0
   have hk:(C6 l (e.args.getD i (Ab .expr))).2≠0:=by have h:=k1;simp only[eta]at h;simpa using h
   have hd:=Wt l (e0:=Ab .expr) hi';rw[aL hk]at hd;have h4:(D4 l e.args).2=(C6 l (e.args.getD i (Ab .expr))).2:=by rw[<-h2];show(D4 l (e.args.drop i)).2=_;rw[hd]
   simp only[eta];show((C6 l e).1,(C6 l e).2,())=(0,(C6 l (e.args.getD i (Ab .expr))).2,());rw[Yi,aL (by rw[h4];exact hk),h4]
  ·have hi':i<e.args.length:=by simpa using k0
   have hk:(C6 l (e.args.getD i (Ab .expr))).2=0:=by have h:=k1;simp only[eta]at h;simpa using h
   have hd:=Wt l (e0:=Ab .expr) hi';rw[aN hk]at hd;refine eI ((i+1,ts++[(C6 l (ExprT.mk (e.args.getD i (Ab .expr)).kind (e.args.getD i (Ab .expr)).op (e.args.getD i (Ab .expr)).name (e.args.getD i (Ab .expr)).value (e.args.getD i (Ab .expr)).args)).1])) (eI ([some 0,some 4]) (aI ?_ (aI ?_ (aB (aI (aG (aA tT)) (by rfl))))))
   ·rw[eta];refine⟨hi',by show(ts++[_]).length=i+1;simp[hts], ?_,λh=>?_⟩
    ·rw[<-h2];show(D4 l (e.args.drop (i+1))).2=(D4 l (e.args.drop i)).2;rw[hd]
    ·rw[h3 h];show ts++(D4 l (e.args.drop i)).1=(ts++[_])++(D4 l (e.args.drop (i+1))).1;rw[hd];simp
   ·show e.args.length-(i+1)<e.args.length-i;omega
  ·obtain⟨-,he⟩:=hend k0;have h1:e.kind=1:=aM k2;show((C6 l e).1,(C6 l e).2,())=(1,0,());rw[he,Np,aN h1]
  ·obtain⟨-,he⟩:=hend k0;have h1:e.kind≠1:=aP k2;have h2:e.kind=2:=aM k3;have h6:¬(C3 l e.name).2=true:=by have h:=k6;rw[k5]at h;simpa using h
   show((C6 l e).1,(C6 l e).2,())=(0,7,());rw[he,Np,aL h1,aN h2,aL h6]
  ·obtain⟨-,he⟩:=hend k0;have h1:e.kind≠1:=aP k2;have h2:e.kind=2:=aM k3;have h6:(C3 l e.name).2=true:=by have h:=k6;rw[k5]at h;simpa using h
   show((C6 l e).1,(C6 l e).2,())=(k4.1.2.1,0,());rw[k5,he,Np,aL h1,aN h2,aN h6]
  ·obtain⟨hl,he⟩:=hend k0;have:=hargs _ (aM k7);simp at this;exact⟨cJ _,by rw[hl];omega⟩
  ·obtain⟨-,he⟩:=hend k0;have h1:e.kind≠1:=aP k2;have h2:e.kind≠2:=aP k3;have h3:e.kind=3:=aM k7;have h4:e.op=2:=aM k8;have h5:¬ts.getD 0 0=2:=by have h:=k9;simpa using h
   show((C6 l e).1,(C6 l e).2,())=(0,15,());rw[he,Np,aL h1,aL h2,aN h3,aN h4,aL h5]
  ·obtain⟨-,he⟩:=hend k0;have h1:e.kind≠1:=aP k2;have h2:e.kind≠2:=aP k3;have h3:e.kind=3:=aM k7;have h4:e.op=2:=aM k8;have h5:ts.getD 0 0=2:=by have h:=k9;simpa using h
   show((C6 l e).1,(C6 l e).2,())=(2,0,());rw[he,Np,aL h1,aL h2,aN h3,aN h4,aN h5]
  ·obtain⟨hl,he⟩:=hend k0;have:=hargs _ (aM k7);simp at this;exact⟨cJ _,by rw[hl];omega⟩
  ·obtain⟨-,he⟩:=hend k0;have h1:e.kind≠1:=aP k2;have h2:e.kind≠2:=aP k3;have h3:e.kind=3:=aM k7;have h4:e.op≠2:=aP k8;have h5:¬ts.getD 0 0=1:=by have h:=k10;simpa using h
   show((C6 l e).1,(C6 l e).2,())=(0,15,());rw[he,Np,aL h1,aL h2,aN h3,aL h4,aL h5]
  ·obtain⟨-,he⟩:=hend k0;have h1:e.kind≠1:=aP k2;have h2:e.kind≠2:=aP k3;have h3:e.kind=3:=aM k7;have h4:e.op≠2:=aP k8;have h5:ts.getD 0 0=1:=by have h:=k10;simpa using h
   show((C6 l e).1,(C6 l e).2,())=(1,0,());rw[he,Np,aL h1,aL h2,aN h3,aL h4,aN h5]
  iterate 3
   ·obtain⟨hl,he⟩:=hend k0;have h1:e.kind≠1:=aP k2;have h2:e.kind≠2:=aP k3;have h3:e.kind≠3:=aP k7;have:=hargs 4 (by omega);simp at this;exact⟨by decide,by rw[hl];omega⟩
  ·obtain⟨-,he⟩:=hend k0;have h1:e.kind≠1:=aP k2;have h2:e.kind≠2:=aP k3;have h3:e.kind≠3:=aP k7;have h4:ts.getD 0 0≠ts.getD 1 0\/(Lx e.op≠0/\ts.getD 0 0≠Lx e.op):=by
    have h:(bif !decide (ts.getD 0 0=ts.getD 1 0)then true else bif !decide (Lx e.op=0)then !decide (ts.getD 0 0=Lx e.op)else false)=true:=k12;simp only[fK]at h
    grind
   show((C6 l e).1,(C6 l e).2,())=(0,15,());rw[he,Np,aL h1,aL h2,aL h3,aN h4]
  ·obtain⟨-,he⟩:=hend k0;have h1:e.kind≠1:=aP k2;have h2:e.kind≠2:=aP k3;have h3:e.kind≠3:=aP k7;have h4:¬(ts.getD 0 0≠ts.getD 1 0\/(Lx e.op≠0/\ts.getD 0 0≠Lx e.op)):=by
    have h:(bif !decide (ts.getD 0 0=ts.getD 1 0)then true else bif !decide (Lx e.op=0)then !decide (ts.getD 0 0=Lx e.op)else false)=false:=k12;simp only[fK]at h
    grind
   show((C6 l e).1,(C6 l e).2,())=(Es e.op,0,());rw[he,Np,aL h1,aL h2,aL h3,aL h4]
def c117A:Ctr:=fnC [dX,X9] rII (λy=>Fb y.1=0) (λy=>((C6 y.2.1 y.1).1,(C6 y.2.1 y.1).2,()))
theorem An9:GoodC Tryz.prog 225 c117A:=Pb (λy=>exW y.1) Aa2
def Bi(e:ExprT)(l:List Bd):Int×Int:=if B0 e≠0 then(0,B0 e)else if Hh l=true then C6 l e else(0,1)
theorem Akm{e:ExprT}(h:B0 e=0):Fb e=0:=by
 unfold B0 at h;split at h
 ·exact aS h (by decide)
 ·split at h
  ·exact aS h (by decide)
  ·exact h
def cxU:Ctx:=⟨Dp,[(173,([],c79)),(224,([],c116)),(225,([],c117A))]⟩
theorem Akn:Aj Tryz.prog cxU:=Ad Ac4 (Ad Any (Ad An9 Ah))
def c82:Ctr:=fnC [dX,X9] rII (λ_=>True) (λy=>((Bi y.1 y.2.1).1,(Bi y.1 y.2.1).2,()))
theorem Ako:GoodC Tryz.prog 176 c82:=by
 refine As Akn 3 _ _ _ _ ⟨_,Tryz.func176,rfl,rfl⟩ λ(⟨e,l,_⟩:ExprT×List Bd×Unit) _=>?_
 refine(aF (aI tT (aI (λh0=>(Aa rfl ?_)) (λh0=>(aI tT (aI (λh1=>(Aa rfl ?_)) (λh1=>(aI ?_ (Aa rfl ?_)))))))))
 ·have hk:B0 e≠0:=by have h:=h0;simp only[eta]at h;simpa using h
  simp only[eta];show((Bi e l).1,(Bi e l).2,())=(0,B0 e,());rw[Bi,aN hk]
 ·have hk:¬B0 e≠0:=by have h:=h0;simp only[eta]at h;simpa using h
  have hb:¬Hh l=true:=by have h:=h1;simpa using h
  show((Bi e l).1,(Bi e l).2,())=(0,1,());rw[Bi,aL hk,aL hb]
 ·have hk:B0 e=0:=by have h:=h0;simp only[eta]at h;simpa using h
  simp only[eta];exact Akm hk
 ·have hk:¬B0 e≠0:=by have h:=h0;simp only[eta]at h;simpa using h
  have hb:Hh l=true:=by have h:=h1;simpa using h
  simp only[eta];show((Bi e l).1,(Bi e l).2,())=((C6 l e).1,(C6 l e).2,());rw[Bi,aL hk,aN hb]
end Go.Proofs.YtckpldpombdkgaaGreat
