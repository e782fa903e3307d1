/- Pipelines. -/
import Derived.Test.YtpabcdbaffjcdaaGreatJZ5
set_option linter.unusedSimpArgs false
set_option linter.unusedVariables false
set_option maxRecDepth 100000
namespace Go.Proofs.YtpabcdbaffjcdaaGreat
open Go.Sx
theorem Md(b:Bool):one b=0\/one b=1:=by cases b<;>simp[one]
theorem Akx{o a b:Int}(hk:M2 o=true)(h:Ew o=2):(opF o a b).1=0\/(opF o a b).1=1:=by
 by_cases h8:o=8
 ·subst h8;exact Md _
 by_cases h9:o=9
 ·subst h9;exact Md _
 by_cases h10:o=10
 ·subst h10;exact Md _
 by_cases h11:o=11
 ·subst h11;exact Md _
 by_cases h12:o=12
 ·subst h12;exact Md _
 by_cases h13:o=13
 ·subst h13;exact Md _
 by_cases h14:o=14
 ·subst h14;exact Md _
 by_cases h15:o=15
 ·subst h15;exact Md _
 exfalso;have hq:∀q:Int,Ds o 0 [(3,1),(4,1),(5,1),(6,1),(7,1),(8,2),(9,2),(10,2),(11,2),(12,2),(13,2),(14,2),(15,2)]=q->q=0\/q=1:=by
  intro q hq;simp only[Ds,aL h8,aL h9,aL h10,aL h11,aL h12,aL h13,aL h14,aL h15]at hq;rw[<-hq]
  repeat' split
  all_goals first|exact .inl rfl|exact .inr rfl
 rcases hq 2 h with h|h<;>exact aT h (by decide)
theorem Aod{r:Int×Int}(h:r.1=0\/r.1=1):(Ga r).1=0\/(Ga r).1=1:=by
 unfold Ga;split
 ·exact .inl rfl
 ·split
  ·exact .inl rfl
  ·exact h
theorem Aay(l:List Bd):∀(args:List ExprT)(i:Nat)(e0:ExprT),(D5 l args).2=0->i<args.length->(C5 l (args.getD i e0)).2=0/\(D5 l args).1.getD i 0=(C5 l (args.getD i e0)).1
 |[],i,e0,_,h=>aT h (eE _)
 |e::r,0,e0,h,_=>by
  simp only[D5]at h ⊢;split at h
  ·rename_i hc;rw[aP hc];exact⟨hc,rfl⟩
  ·rename_i hc;exact aT h hc
 |e::r,i+1,e0,h,hi=>by
  simp only[D5]at h ⊢;split at h
  ·rename_i hc;rw[aP hc];have:=Aay l r i e0 h (by simpa using hi);simpa using this
  ·rename_i hc;exact aT h hc
theorem Aaz(l:List Bd):∀(args:List ExprT)(i:Nat)(e0:ExprT),(Fw l args).2=0->i<args.length->(Fw l args).1.getD i 0=(Fr l (args.getD i e0)).1
 |[],i,e0,_,h=>aT h (eE _)
 |e::r,0,e0,h,_=>by
  simp only[Fw]at h ⊢;split at h
  ·rename_i hc;rw[aP hc];rfl
  ·rename_i hc;exact aT h hc
 |e::r,i+1,e0,h,hi=>by
  simp only[Fw]at h ⊢;split at h
  ·rename_i hc;rw[aP hc];have:=Aaz l r i e0 h (by simpa using hi);simpa using this
  ·rename_i hc;exact aT h hc
theorem Aa0{l:List Bd}(hl:∀s,(C2 l s).2=true->(C2 l s).1.2.1=1):∀(n:Nat)(e:ExprT),exW e<n->Fg e=0->(C5 l e).2=0->(C5 l e).1=2->(Fr l e).1=0\/(Fr l e).1=1
 |0,e,h,_,_,_=>aT h (eE _)
 |n+1,e,hn,hc,h0,h2=>by
  obtain⟨hc1,hc2⟩:=Ud hc;obtain⟨hk,ha,-,-,h3,ho⟩:=X7 hc1;rw[X6]at h0 h2;rw[Pf];split at h0
  ·rename_i ht;rw[aP ht]at h2;split
   ·rename_i hv;refine Aod ?_;unfold Ng at h0 h2;unfold Qk;by_cases k1:e.kind=1
    ·rw[aP k1]at h2;exact aT h2 (by decide)
    ·rw[aL k1]at h0 h2;rw[aL k1];by_cases k2:e.kind=2
     ·rw[aP k2]at h0 h2;by_cases hf:(C2 l e.name).2=true
      ·rw[aP hf]at h2;have:=hl _ hf;rw[this]at h2;exact aT h2 (by decide)
      ·rw[aL hf]at h0;exact aT h0 (by decide)
     ·rw[aL k2]at h0 h2;rw[aL k2];by_cases k3:e.kind=3
      ·rw[aP k3]at h0 h2;rw[aP k3];rw[k3]at ha;simp at ha;have hlen:0<e.args.length:=by omega
       by_cases o2:e.op=2
       ·rw[aP o2]at h0 h2;rw[aP o2];by_cases t2:(D5 l e.args).1.getD 0 0=2
        ·obtain⟨g1,g2⟩:=Aay l e.args 0 (Ab .expr) ht hlen;have g3:=Aaz l e.args 0 (Ab .expr) hv hlen;have ih:=Aa0 hl n (e.args.getD 0 (Ab .expr)) (cA (Le hlen) (by omega)) (Pe _ _ _ hlen hc2) g1 (by rw[<-g2];exact t2);rw[<-g3]at ih;show 1-_=(0:Int)\/1-_=(1:Int);omega
        ·rw[aL t2]at h0;exact aT h0 (by decide)
       ·rw[aL o2]at h2;by_cases t1:(D5 l e.args).1.getD 0 0=1
        ·rw[aP t1]at h2;exact aT h2 (by decide)
        ·rw[aL t1]at h2;exact aT h2 (by decide)
      ·rw[aL k3]at h0 h2;rw[aL k3];by_cases hb:(D5 l e.args).1.getD 0 0≠(D5 l e.args).1.getD 1 0\/(Lr e.op≠0/\(D5 l e.args).1.getD 0 0≠Lr e.op)
       ·rw[aP hb]at h0;exact aT h0 (by decide)
       ·rw[aL hb]at h2;exact Akx (ho (by omega)) h2
   ·exact .inl rfl
  ·rename_i ht;exact aT h0 ht
theorem Add(a b:Int)(s:ByteArray):C2 (B6 nmX [a,b]) s=if(⟨#[120]⟩:ByteArray)=s then((⟨#[120]⟩,1,a),true)else((⟨#[]⟩,0,0),false):=by
 unfold C2 B6 nmX;by_cases h:(⟨#[120]⟩:ByteArray)=s
 ·simp[Ao,Kg,h,B6]
 ·simp[Ao,Kg,h,B6]
def Afc(l m:List Bd):Prop:=∀s,(C2 l s).2=(C2 m s).2/\(C2 l s).1.2.1=(C2 m s).1.2.1
theorem Aoe{l m:List Bd}(h:Afc l m)(e:ExprT)(ts:List Int):Ng l e ts=Ng m e ts:=by
 unfold Ng;rw[(h e.name).1,(h e.name).2]
mutual
theorem Afd{l m:List Bd}(h:Afc l m):∀e,C5 l e=C5 m e
 |.mk k o nm v args=>by
  simp only[C5];rw[Afe h args,Aoe h]
theorem Afe{l m:List Bd}(h:Afc l m):∀args,D5 l args=D5 m args
 |[]=>rfl
 |e::r=>by
  simp only[D5];rw[Afd h e,Afe h r]
end
theorem Aq8(a b c d:Int):Afc (B6 nmX [a,b]) (B6 nmX [c,d]):=λs=>by
 rw[Add,Add];split<;>exact⟨rfl,rfl⟩
theorem Aa1{x:StT}(h:Al x=0)(hk:(Ap x.1).2.2.2.2.1≠0):Bg x.2.2.1 (B6 (Ap x.1).2.2.2.2.2.1 [0,0])=((Ap x.1).2.2.2.2.1,0):=by
 have hk1:=B1 h;rw[Mc hk1.1 hk1.2]at h;unfold Gb at h;split at h
 ·exact aT h (by decide)
 ·split at h
  ·exact aT h (by decide)
  ·split at h
   ·exact aT h (by decide)
   ·split at h
    ·exact aT h (by decide)
    ·unfold Lf at h;split at h
     ·rename_i h1;exact aT h h1
     ·split at h
      ·exact aT h (by decide)
      ·split at h
       ·exact aT h (by decide)
       ·rename_i h1;refine Prod.ext ?_ ?_
        ·exact Classical.byContradiction λh2=>h1 (.inr h2)
        ·exact Classical.byContradiction λh2=>h1 (.inl h2)
theorem evB{e:ExprT}(h:Bg e (B6 nmX [0,0])=(2,0))(a b:Int):(evX e nmX a b).1=0\/(evX e nmX a b).1=1:=by
 unfold evX I4;split
 ·exact .inl rfl
 ·rename_i h1;have h1':(Bg e (B6 nmX [a,b])).2=0:=Classical.byContradiction h1;obtain⟨hc,hb⟩:=Ac5 h1';have h2:C5 (B6 nmX [0,0]) e=(2,0):=by
   have h3:=h;unfold Bg at h3;rw[aL (by rw[hc];simp)]at h3;split at h3
   ·exact h3
   ·cases h3
  have h4:C5 (B6 nmX [a,b]) e=(2,0):=by rw[Afd (Aq8 a b 0 0)];exact h2
  refine Aa0 (λs hs=>?_) _ e (eN _) (Akh hc) (by rw[h4]) (by rw[h4]);rw[Add]at hs ⊢;split at hs
  ·rename_i h5;rw[aP h5]
  ·cases hs
set_option maxHeartbeats 8000000 in
theorem Aky:Jt 7:=by
 intro z e l ins hc hlk;have hl:ins.length=1:=by have h:(ins.length:Int)=1:=hlk;omega
 have hs:=Ax hc;have hty:Bg e (B6 nmX [0,0])=(2,0):=Aa1 hc (by show(2:Int)≠0;decide);obtain⟨ek,eo,em,ev,ea⟩:=e;refine⟨_,Aht, ?_⟩;refine(aF (aI tT (aI (λh0=>(Aa rfl (by first|exact D0 ‹_› |exact D9 ‹_› ‹_›))) (λh0=>(aA (λh1=>(aI (λh2=>(Aa rfl (by first|exact D0 ‹_› |exact D9 ‹_› ‹_›))) (λh2=>(λh3=>?_)))))))));refine ex4 _ (λi:Nat=>⟨[.any,.sl (.sl (.int .i64)) ins,.ptr 0 0,.any,.any,.any,.any,.ptr 1 0,.any,.any,.any,.any,.any,.any,.any,.any,.any,.any,.any,.any,.any,.any,.any,.any,.any,.any,.any,.any,.sl (.sl (.int .i64)) ins,.int .i64 (↑ins.length:Int),.int .i64 (i:Int)]++nA 34,[.cells   [.int .i64 7,.int .i64 z,.int .i64 (ExprT.mk ek eo em ev ea).kind,     .int .i64 (ExprT.mk ek eo em ev ea).op,.str (ExprT.mk ek eo em ev ea).name,     .int .i64 (ExprT.mk ek eo em ev ea).value,.sl .expr (ExprT.mk ek eo em ev ea).args,     .sl (.int .i64) l],.cells   [.int .i64 1,.int .i64 2,.int .i64 0,.int .i64 0,.int .i64 2,     .sl .str [{ data:=#[120] }],.fn (Fn.func 114) [] [],.fn (Fn.func 105) [] []]],2⟩) (λi=>i<=ins.length/\Bc ins=Bc (ins.drop i)) (λi=>ins.length-i) (aI (eI (0) (eI ([some 0,some 1]) (aI ?_ (aB (aI (aH tT) (by rfl)))))) ?_)
 ·exact⟨aV _,rfl⟩
 rintro i ⟨hi,ht⟩;have hin:decide ((i:Int)<(ins.length:Int))=false->(!decide (Bc ins=0))=false:=λh=>by
  have hi':¬i<ins.length:=by simpa using h
  rw[ht,bK (by omega)];rfl
 have ix:0<1->0<=(0:Int)/\(0:Int)<(ins.length:Int):=λh=>by rw[hl];omega
 have iy:1<1->0<=(1:Int)/\(1:Int)<(ins.length:Int):=λh=>by rw[hl];omega
 have hst:Bc ins=0->∀j,j<ins.length->(ins.getD j (Ab tIs)).length<=200/\(ins.getD j (Ab tIs)).any Aj=false:=λh j hj=>Bi h hj
 refine(aI (λk0=>(aI (by first|exact⟨by decide,rfl,by decide,by decide⟩|exact ix (by decide)|exact iy (by decide)|(intros;(try subst_vars);(try simp only[nB]at *);(try simp only[inK,big,lim,nL]at *);omega)) (λk1=>(aI (λk2=>(Aa rfl ?_)) (λk2=>(aI tT (aI (λk3=>(Aa rfl ?_)) (λk3=>(aI (by first|exact⟨by decide,rfl,by decide,by decide⟩|exact ix (by decide)|exact iy (by decide)|(intros;(try subst_vars);(try simp only[nB]at *);(try simp only[inK,big,lim,nL]at *);omega)) ?_))))))))) (λk0=>(aF (aA (aF (aI (by first|exact⟨by decide,rfl,by decide,by decide⟩|exact ix (by decide)|exact iy (by decide)|(intros;(try subst_vars);(try simp only[nB]at *);(try simp only[inK,big,lim,nL]at *);omega)) (aF (aI (λk4=>nG k4) (λk4=>(aI (λk5=>nG k5) (λk5=>(aI (λk6=>nG k6) (λk6=>(aI (by first|exact⟨by decide,rfl,by decide,by decide⟩|exact ix (by decide)|exact iy (by decide)|(intros;(try subst_vars);(try simp only[nB]at *);(try simp only[inK,big,lim,nL]at *);omega)) (λk7=>?_)))))))))))))))
 ·have hi':i<ins.length:=by simpa using k0
  have hk:A5 (ins.getD i (Ab tIs))=true:=k2;have e4:Bc ins=4:=by rw[ht,A9 hi',aP hk]
  exact(Lt ‹_› ‹_› (by rw[e4];rfl)).trans (by rw[e4])
 ·have hi':i<ins.length:=by simpa using k0
  have hk:¬A5 (ins.getD i (Ab tIs))=true:=by have h:A5 (ins.getD i (Ab tIs))=false:=k2;rw[h];simp
  have hk2:(ins.getD i (Ab tIs)).any Aj=true:=k3;have e4:Bc ins=2:=by rw[ht,A9 hi',aL hk,aP hk2]
  exact(Lt ‹_› ‹_› (by rw[e4];rfl)).trans (by rw[e4])
 ·have hi':i<ins.length:=by simpa using k0
  have hk:¬A5 (ins.getD i (Ab tIs))=true:=by have h:A5 (ins.getD i (Ab tIs))=false:=k2;rw[h];simp
  have hk2:¬(ins.getD i (Ab tIs)).any Aj=true:=by have h:(ins.getD i (Ab tIs)).any Aj=false:=k3;rw[h];simp
  refine eI (i+1) (eI ([some 0,some 1]) (aI ?_ (aI ?_ (aB (aI (aH tT) (by rfl))))))
  ·refine⟨hi', ?_⟩;rw[ht,A9 hi',aL hk,aL hk2]
  ·show ins.length-(i+1)<ins.length-i;omega
 have hs0:=hin k0;have hstr:Bc ins=0:=by simpa using hs0
 obtain⟨hal,han⟩:=Bi hstr (show 0<ins.length by omega);replace hal:(ins.getD 0 []).length<=200:=hal;replace han:(ins.getD 0 []).any Aj=false:=han;clear ht hi hin;refine ex4 _ (λp:Nat×List Int×List Int×Int=>⟨[.ptr 6 0,.agg   [.int .i64 1,.int .i64 2,.int .i64 0,.int .i64 0,.int .i64 2,     .sl .str [{ data:=#[120] }],.fn (Fn.func 114) [] [],.fn (Fn.func 105) [] []],.sl (.sl (.int .i64)) ins,.any,.ptr 7 0,.any,.any,.any,.any,.any,.any,.ptr 6 0,.any,.any,.sl (.sl (.int .i64)) ins,.eptr [PV.sl (.int .i64) (ins.getD (Int.toNat 0) (Ab (.sl (.int .i64))))],.sl (.int .i64) (ins.getD (Int.toNat 0) (Ab (.sl (.int .i64)))),.int .i64 (↑(List.length (ins.getD (Int.toNat 0) (Ab (.sl (.int .i64))))):Int),.int .i64 (p.1:Int),.any,.any,.any,.any,.any,.any,.any,.any,.any,.any,.any,.any,.any,.any,.any,.any,.any,.any,.any,.any,.any,.any,.any,.any,.any,.any,.bool (decide (7=8)),.any,.any,.any,.any,.any,.any,.any,.any,.any,.any,.any,.any,.any,.bool (decide (7=9)),.bool (decide (7=9))]++nA 29,[.cells   [.int .i64 7,.int .i64 z,.int .i64 (ExprT.mk ek eo em ev ea).kind,     .int .i64 (ExprT.mk ek eo em ev ea).op,.str (ExprT.mk ek eo em ev ea).name,     .int .i64 (ExprT.mk ek eo em ev ea).value,.sl .expr (ExprT.mk ek eo em ev ea).args,     .sl (.int .i64) l],.cells   [.int .i64 1,.int .i64 2,.int .i64 0,.int .i64 0,.int .i64 2,     .sl .str [{ data:=#[120] }],.fn (Fn.func 114) [] [],.fn (Fn.func 105) [] []],.cells   [.int .i64 7,.int .i64 z,.int .i64 (ExprT.mk ek eo em ev ea).kind,     .int .i64 (ExprT.mk ek eo em ev ea).op,.str (ExprT.mk ek eo em ev ea).name,     .int .i64 (ExprT.mk ek eo em ev ea).value,.sl .expr (ExprT.mk ek eo em ev ea).args,     .sl (.int .i64) l],.cells [.cap0,.int .i64 0,.bool false],.cells   [.int .i64 1,.int .i64 2,.int .i64 0,.int .i64 0,.int .i64 2,     .sl .str [{ data:=#[120] }],.fn (Fn.func 114) [] [],.fn (Fn.func 105) [] []],.cells [.own 8,.own 9],.cells [.int .i64 7,.int .i64 z,.int .i64 ek,.int .i64 eo,.str em,.int .i64 ev,.sl .expr ea,.sl tI l,.cap0,.int .i64 0,.bool false,.csl tI 5 2,.int .i64 p.2.2.2,.int .i64 0],.cells   [.int .i64 1,.int .i64 2,.int .i64 0,.int .i64 0,.int .i64 2,     .sl .str [{ data:=#[120] }],.fn (Fn.func 114) [] [],.fn (Fn.func 105) [] []],.rows tI p.2.1,.rows tI p.2.2.1],10⟩) (λp=>p.1<=(ins.getD 0 []).length/\p.2=(((ins.getD 0 []).take p.1).foldl (Gx (ExprT.mk ek eo em ev ea)) ([],[],0))/\p.2.1.length<=p.1/\p.2.2.1.length<=p.1) (λp=>(ins.getD 0 []).length-p.1) (aI (eI ((0,([],[],0))) (eI ([some 0,some 1,some 2,some 3,some 4,some 5,some 6,some 7,none,none]) (aI ?_ (aB (aI (aJ (aJ (aB tT))) (by rfl)))))) ?_)
 ·exact⟨aV _,rfl,bA _,bA _⟩
 rintro⟨j,o,q,f⟩ ⟨hj,hp,ho,hq⟩;replace hj:j<=(ins.getD 0 []).length:=hj;replace hp:(o,q,f)=(((ins.getD 0 []).take j).foldl (Gx (ExprT.mk ek eo em ev ea)) ([],[],0)):=hp;have hnx:j<(ins.getD 0 []).length->((ins.getD 0 []).take (j+1)).foldl (Gx (ExprT.mk ek eo em ev ea)) ([],[],0)=Gx (ExprT.mk ek eo em ev ea) (o,q,f) ((ins.getD 0 []).getD j 0):=λh=>by
  rw[Hl _ _ 0 h,<-hp]
 have hen:decide ((j:Int)<((ins.getD 0 []).length:Int))=false->(ins.getD 0 []).foldl (Gx (ExprT.mk ek eo em ev ea)) ([],[],0)=(o,q,f):=λh=>by
  have h':¬j<(ins.getD 0 []).length:=by simpa using h
  rw[hp,bL (by omega)]
 replace ho:o.length<=j:=ho;have room:(o.length+1)*8<=lim:=by simp only[lim];omega
 replace hq:q.length<=j:=hq;have room2:(q.length+1)*8<=lim:=by simp only[lim];omega
 have wr:∀w:Int,w=(evX (ExprT.mk ek eo em ev ea) nmX ((ins.getD 0 []).getD j 0) 0).1->-9223372036854775808<=1-w/\1-w<=9223372036854775807:=λw h=>by
  have:=evB hty ((ins.getD 0 []).getD j 0) 0;omega
 have wi:∀w:Int,w=(evX (ExprT.mk ek eo em ev ea) nmX ((ins.getD 0 []).getD j 0) 0).1->0<=1-w/\1-w<((2:Nat):Int):=λw h=>by
  have:=evB hty ((ins.getD 0 []).getD j 0) 0;omega
 refine(aI (λm0=>(aI (by first|exact room|exact room2|exact wr m2 m3|exact wr m4 m5|exact wr m5 m6|exact wi m2 m3|(intros;(try subst_vars);(try simp only[nB]at *);(try simp only[inK,big,lim,nL]at *);omega)) (aF (aF (aA (aF (aI (by first|exact room|exact room2|exact wr m2 m3|exact wr m4 m5|exact wr m5 m6|exact wi m2 m3|(intros;(try subst_vars);(try simp only[nB]at *);(try simp only[inK,big,lim,nL]at *);omega)) (aI tT (aI (λm1=>(λm2=>(λm3=>(aI (by first|exact room|exact room2|exact wr m2 m3|exact wr m4 m5|exact wr m5 m6|exact wi m2 m3|(intros;(try subst_vars);(try simp only[nB]at *);(try simp only[inK,big,lim,nL]at *);omega)) (aF (aI (λm4=>(aK (aI (by first|exact room|exact room2|exact wr m2 m3|exact wr m4 m5|exact wr m5 m6|exact wi m2 m3|(intros;(try subst_vars);(try simp only[nB]at *);(try simp only[inK,big,lim,nL]at *);omega)) ?_))) (λm4=>(aI (by first|exact room|exact room2|exact wr m2 m3|exact wr m4 m5|exact wr m5 m6|exact wi m2 m3|(intros;(try subst_vars);(try simp only[nB]at *);(try simp only[inK,big,lim,nL]at *);omega)) ?_)))))))) (λm1=>(λm5=>(λm6=>(aI (by first|exact room|exact room2|exact wr m2 m3|exact wr m4 m5|exact wr m5 m6|exact wi m2 m3|(intros;(try subst_vars);(try simp only[nB]at *);(try simp only[inK,big,lim,nL]at *);omega)) (aF (aI (λm7=>aT (Eq.trans (Eq.symm m1) m7) (by decide)) (λm7=>(aI (by first|exact room|exact room2|exact wr m2 m3|exact wr m4 m5|exact wr m5 m6|exact wi m2 m3|(intros;(try subst_vars);(try simp only[nB]at *);(try simp only[inK,big,lim,nL]at *);omega)) ?_))))))))))))))))) (λm0=>(aF (aI (λm8=>(aF (Aa rfl ?_))) (λm8=>(aI tT (aI (λm9=>(Aa rfl ?_)) (λm9=>(Aa rfl ?_)))))))))
 ·rcases evB hty ((ins.getD 0 []).getD j 0) 0 with hv|hv
  ·have hm:m2=0:=m3.trans hv;subst hm;refine(aD (aB (aI (by first|exact room|exact room2|(intros;(try subst_vars);(try simp only[nB]at *);(try simp only[inK,big,lim,nL]at *);omega)) (aD (aC (aA (aI (by first|exact room|exact room2|(intros;(try subst_vars);(try simp only[nB]at *);(try simp only[inK,big,lim,nL]at *);omega)) (aB (aI (by first|exact room|exact room2|(intros;(try subst_vars);(try simp only[nB]at *);(try simp only[inK,big,lim,nL]at *);omega)) (aI (by first|exact room|exact room2|(intros;(try subst_vars);(try simp only[nB]at *);(try simp only[inK,big,lim,nL]at *);omega)) (aI (by first|exact room|exact room2|(intros;(try subst_vars);(try simp only[nB]at *);(try simp only[inK,big,lim,nL]at *);omega)) (aC (aB (aI (by first|exact room|exact room2|(intros;(try subst_vars);(try simp only[nB]at *);(try simp only[inK,big,lim,nL]at *);omega)) ?_))))))))))))))
   ·have hj':j<(ins.getD 0 []).length:=by simpa using m0
    refine eI ((j+1,o,q++[(ins.getD 0 []).getD j 0],(evX (ExprT.mk ek eo em ev ea) nmX ((ins.getD 0 []).getD j 0) 0).2)) (eI ([some 0,some 1,some 2,some 3,some 4,some 5,some 6,some 7,some 8,some 13]) (aI ?_ (aI ?_ (aB (aI (aJ (aJ (aB tT))) (by rfl))))))
    ·refine⟨hj', ?_,by show o.length<=j+1;omega,by show(_++[_]).length<=j+1;simp;omega⟩;show _=((ins.getD 0 []).take (j+1)).foldl _ _;rw[hnx hj'];dsimp only[Gx];rw[Js m1,aL (by rw[show(evX (ExprT.mk ek eo em ev ea) nmX ((ins.getD 0 []).getD j 0) 0).1=0 from hv];decide),aL (by rw[show(evX (ExprT.mk ek eo em ev ea) nmX ((ins.getD 0 []).getD j 0) 0).1=0 from hv];decide),Qm (f:=(evX (ExprT.mk ek eo em ev ea) nmX ((ins.getD 0 []).getD j 0) 0).2) (show decide ((evX (ExprT.mk ek eo em ev ea) nmX ((ins.getD 0 []).getD j 0) 0).2=0)=true from m4)]
    ·show(ins.getD 0 []).length-(j+1)<(ins.getD 0 []).length-j;omega
  ·have hm:m2=1:=m3.trans hv;subst hm;refine(aD (aB (aI (by first|exact room|exact room2|(intros;(try subst_vars);(try simp only[nB]at *);(try simp only[inK,big,lim,nL]at *);omega)) (aD (aC (aA (aI (by first|exact room|exact room2|(intros;(try subst_vars);(try simp only[nB]at *);(try simp only[inK,big,lim,nL]at *);omega)) (aB (aI (by first|exact room|exact room2|(intros;(try subst_vars);(try simp only[nB]at *);(try simp only[inK,big,lim,nL]at *);omega)) (aI (by first|exact room|exact room2|(intros;(try subst_vars);(try simp only[nB]at *);(try simp only[inK,big,lim,nL]at *);omega)) (aI (by first|exact room|exact room2|(intros;(try subst_vars);(try simp only[nB]at *);(try simp only[inK,big,lim,nL]at *);omega)) (aC (aB (aI (by first|exact room|exact room2|(intros;(try subst_vars);(try simp only[nB]at *);(try simp only[inK,big,lim,nL]at *);omega)) ?_))))))))))))))
   ·have hj':j<(ins.getD 0 []).length:=by simpa using m0
    refine eI ((j+1,o++[(ins.getD 0 []).getD j 0],q,(evX (ExprT.mk ek eo em ev ea) nmX ((ins.getD 0 []).getD j 0) 0).2)) (eI ([some 0,some 1,some 2,some 3,some 4,some 5,some 6,some 7,some 13,some 9]) (aI ?_ (aI ?_ (aB (aI (aJ (aJ (aB tT))) (by rfl))))))
    ·refine⟨hj', ?_,by show(_++[_]).length<=j+1;simp;omega,by show q.length<=j+1;omega⟩;show _=((ins.getD 0 []).take (j+1)).foldl _ _;rw[hnx hj'];dsimp only[Gx];rw[Js m1,aP (by rw[show(evX (ExprT.mk ek eo em ev ea) nmX ((ins.getD 0 []).getD j 0) 0).1=1 from hv];decide),aP (by rw[show(evX (ExprT.mk ek eo em ev ea) nmX ((ins.getD 0 []).getD j 0) 0).1=1 from hv];decide),Qm (f:=(evX (ExprT.mk ek eo em ev ea) nmX ((ins.getD 0 []).getD j 0) 0).2) (show decide ((evX (ExprT.mk ek eo em ev ea) nmX ((ins.getD 0 []).getD j 0) 0).2=0)=true from m4)]
    ·show(ins.getD 0 []).length-(j+1)<(ins.getD 0 []).length-j;omega
 ·have hj':j<(ins.getD 0 []).length:=by simpa using m0
  refine eI ((j+1,o,q,(evX (ExprT.mk ek eo em ev ea) nmX ((ins.getD 0 []).getD j 0) 0).2)) (eI ([some 0,some 1,some 2,some 3,some 4,some 5,some 6,some 7,some 8,some 9]) (aI ?_ (aI ?_ (aB (aI (aJ (aJ (aB tT))) (by rfl))))))
  ·refine⟨hj', ?_,by show o.length<=j+1;omega,by show q.length<=j+1;omega⟩;show _=((ins.getD 0 []).take (j+1)).foldl _ _;rw[hnx hj'];dsimp only[Gx];rw[Js m1];simp only[Lh (f:=(evX (ExprT.mk ek eo em ev ea) nmX ((ins.getD 0 []).getD j 0) 0).2) (show decide ((evX (ExprT.mk ek eo em ev ea) nmX ((ins.getD 0 []).getD j 0) 0).2=0)=false from m4),ite_self]
  ·show(ins.getD 0 []).length-(j+1)<(ins.getD 0 []).length-j;omega
 ·have hj':j<(ins.getD 0 []).length:=by simpa using m0
  refine eI ((j+1,o,q,f)) (eI ([some 0,some 1,some 2,some 3,some 4,some 5,some 6,some 7,some 8,some 9]) (aI ?_ (aI ?_ (aB (aI (aJ (aJ (aB tT))) (by rfl))))))
  ·refine⟨hj', ?_,by show o.length<=j+1;omega,by show q.length<=j+1;omega⟩;show _=((ins.getD 0 []).take (j+1)).foldl _ _;rw[hnx hj'];dsimp only[Gx];rw[Uh m1];simp only[Lh m1,ite_self]
  ·show(ins.getD 0 []).length-(j+1)<(ins.getD 0 []).length-j;omega
 ·skip
  have run:Cj (7,z,ExprT.mk ek eo em ev ea,l) ins=([o,q],f):=by
   show([((ins.getD 0 []).foldl (Gx (ExprT.mk ek eo em ev ea)) ([],[],0)).1,((ins.getD 0 []).foldl (Gx (ExprT.mk ek eo em ev ea)) ([],[],0)).2.1],((ins.getD 0 []).foldl (Gx (ExprT.mk ek eo em ev ea)) ([],[],0)).2.2)=_;rw[hen m0]
  exact(Ahs ‹_› ‹_› hs0 (by rw[run];exact m8)).trans (by rw[run])
 ·skip
  have run:Cj (7,z,ExprT.mk ek eo em ev ea,l) ins=([o,q],f):=by
   show([((ins.getD 0 []).foldl (Gx (ExprT.mk ek eo em ev ea)) ([],[],0)).1,((ins.getD 0 []).foldl (Gx (ExprT.mk ek eo em ev ea)) ([],[],0)).2.1],((ins.getD 0 []).foldl (Gx (ExprT.mk ek eo em ev ea)) ([],[],0)).2.2)=_;rw[hen m0]
  exact Vb ‹_› ‹_› hs0 (by rw[run];exact m8) (by rw[run];exact m9)
 ·skip
  have run:Cj (7,z,ExprT.mk ek eo em ev ea,l) ins=([o,q],f):=by
   show([((ins.getD 0 []).foldl (Gx (ExprT.mk ek eo em ev ea)) ([],[],0)).1,((ins.getD 0 []).foldl (Gx (ExprT.mk ek eo em ev ea)) ([],[],0)).2.1],((ins.getD 0 []).foldl (Gx (ExprT.mk ek eo em ev ea)) ([],[],0)).2.2)=_;rw[hen m0]
  exact(Uj ‹_› ‹_› hs0 (by rw[run];exact m8) (by rw[run];exact m9)).trans (by rw[run])
set_option maxHeartbeats 8000000 in
theorem Akz:Jt 9:=by
 intro z e l ins hc hlk;have hl:ins.length=2:=by have h:(ins.length:Int)=2:=hlk;omega
 have hs:=Ax hc;obtain⟨ek,eo,em,ev,ea⟩:=e;refine⟨_,Hy, ?_⟩;refine(aF (aI tT (aI (λh0=>(Aa rfl (by first|exact D0 ‹_› |exact D9 ‹_› ‹_›))) (λh0=>(aA (λh1=>(aI (λh2=>(Aa rfl (by first|exact D0 ‹_› |exact D9 ‹_› ‹_›))) (λh2=>(λh3=>?_)))))))));refine ex4 _ (λi:Nat=>⟨[.any,.sl (.sl (.int .i64)) ins,.ptr 0 0,.any,.any,.any,.any,.ptr 1 0,.any,.any,.any,.any,.any,.any,.any,.any,.any,.any,.any,.any,.any,.any,.any,.any,.any,.any,.any,.any,.sl (.sl (.int .i64)) ins,.int .i64 (↑ins.length:Int),.int .i64 (i:Int)]++nA 34,[.cells   [.int .i64 9,.int .i64 z,.int .i64 (ExprT.mk ek eo em ev ea).kind,     .int .i64 (ExprT.mk ek eo em ev ea).op,.str (ExprT.mk ek eo em ev ea).name,     .int .i64 (ExprT.mk ek eo em ev ea).value,.sl .expr (ExprT.mk ek eo em ev ea).args,     .sl (.int .i64) l],.cells   [.int .i64 2,.int .i64 1,.int .i64 0,.int .i64 0,.int .i64 1,     .sl .str [{ data:=#[120] },{ data:=#[121] }],.fn (Fn.func 117) [] [],.fn (Fn.func 118) [] []]],2⟩) (λi=>i<=ins.length/\Bc ins=Bc (ins.drop i)) (λi=>ins.length-i) (aI (eI (0) (eI ([some 0,some 1]) (aI ?_ (aB (aI (aH tT) (by rfl)))))) ?_)
 ·exact⟨aV _,rfl⟩
 rintro i ⟨hi,ht⟩;have hin:decide ((i:Int)<(ins.length:Int))=false->(!decide (Bc ins=0))=false:=λh=>by
  have hi':¬i<ins.length:=by simpa using h
  rw[ht,bK (by omega)];rfl
 have ix:0<2->0<=(0:Int)/\(0:Int)<(ins.length:Int):=λh=>by rw[hl];omega
 have iy:1<2->0<=(1:Int)/\(1:Int)<(ins.length:Int):=λh=>by rw[hl];omega
 have hst:Bc ins=0->∀j,j<ins.length->(ins.getD j (Ab tIs)).length<=200/\(ins.getD j (Ab tIs)).any Aj=false:=λh j hj=>Bi h hj
 refine(aI (λk0=>(aI (by first|exact⟨by decide,rfl,by decide,by decide⟩|exact ix (by decide)|exact iy (by decide)|(intros;(try subst_vars);(try simp only[nB]at *);(try simp only[inK,big,lim,nL]at *);omega)) (λk1=>(aI (λk2=>(Aa rfl ?_)) (λk2=>(aI tT (aI (λk3=>(Aa rfl ?_)) (λk3=>(aI (by first|exact⟨by decide,rfl,by decide,by decide⟩|exact ix (by decide)|exact iy (by decide)|(intros;(try subst_vars);(try simp only[nB]at *);(try simp only[inK,big,lim,nL]at *);omega)) ?_))))))))) (λk0=>(aF (aA (aF (aI (by first|exact⟨by decide,rfl,by decide,by decide⟩|exact ix (by decide)|exact iy (by decide)|(intros;(try subst_vars);(try simp only[nB]at *);(try simp only[inK,big,lim,nL]at *);omega)) (aF (aI (λk4=>nG k4) (λk4=>(aI (λk5=>nG k5) (λk5=>(aI (λk6=>(aF (aI (by first|exact⟨by decide,rfl,by decide,by decide⟩|exact ix (by decide)|exact iy (by decide)|(intros;(try subst_vars);(try simp only[nB]at *);(try simp only[inK,big,lim,nL]at *);omega)) (aI (by first|exact⟨by decide,rfl,by decide,by decide⟩|exact ix (by decide)|exact iy (by decide)|(intros;(try subst_vars);(try simp only[nB]at *);(try simp only[inK,big,lim,nL]at *);omega)) (λk7=>(λk8=>?_)))))) (λk6=>False.elim (aY (Eq.symm (Eq.trans (by kernel_rfl) k6))))))))))))))))
 ·have hi':i<ins.length:=by simpa using k0
  have hk:A5 (ins.getD i (Ab tIs))=true:=k2;have e4:Bc ins=4:=by rw[ht,A9 hi',aP hk]
  exact(Lt ‹_› ‹_› (by rw[e4];rfl)).trans (by rw[e4])
 ·have hi':i<ins.length:=by simpa using k0
  have hk:¬A5 (ins.getD i (Ab tIs))=true:=by have h:A5 (ins.getD i (Ab tIs))=false:=k2;rw[h];simp
  have hk2:(ins.getD i (Ab tIs)).any Aj=true:=k3;have e4:Bc ins=2:=by rw[ht,A9 hi',aL hk,aP hk2]
  exact(Lt ‹_› ‹_› (by rw[e4];rfl)).trans (by rw[e4])
 ·have hi':i<ins.length:=by simpa using k0
  have hk:¬A5 (ins.getD i (Ab tIs))=true:=by have h:A5 (ins.getD i (Ab tIs))=false:=k2;rw[h];simp
  have hk2:¬(ins.getD i (Ab tIs)).any Aj=true:=by have h:(ins.getD i (Ab tIs)).any Aj=false:=k3;rw[h];simp
  refine eI (i+1) (eI ([some 0,some 1]) (aI ?_ (aI ?_ (aB (aI (aH tT) (by rfl))))))
  ·refine⟨hi', ?_⟩;rw[ht,A9 hi',aL hk,aL hk2]
  ·show ins.length-(i+1)<ins.length-i;omega
 have hs0:=hin k0;have hstr:Bc ins=0:=by simpa using hs0
 obtain⟨hal,-⟩:=Bi hstr (show 0<ins.length by omega);obtain⟨hbl,-⟩:=Bi hstr (show 1<ins.length by omega);replace hal:(ins.getD 0 []).length<=200:=hal;replace hbl:(ins.getD 1 []).length<=200:=hbl;clear ht hi hin;have hmin:∀x y:Nat,(if(y:Int)<(x:Int)then(y:Int)else(x:Int))=((min x y:Nat):Int):=λx y=>by split<;>omega
 refine ex4 _ (λp:Nat×List Int×Int=>⟨[.ptr 6 0,.agg   [.int .i64 2,.int .i64 1,.int .i64 0,.int .i64 0,.int .i64 1,     .sl .str [{ data:=#[120] },{ data:=#[121] }],.fn (Fn.func 117) [] [],.fn (Fn.func 118) [] []],.sl (.sl (.int .i64)) ins,.any,.any,.any,.any,.any,.any,.any,.any,.ptr 6 0,.any,.any,.any,.any,.any,.any,.any,.any,.any,.any,.any,.any,.any,.any,.any,.any,.any,.any,.any,.any,.any,.any,.any,.any,.any,.any,.any,.any,.any,.any,.any,.any,.any,.bool (decide (9=8)),.any,.any,.any,.any,.any,.any,.any,.any,.any,.any,.any,.any,.any,.bool (decide (9=9)),.bool (decide (9=9)),.sl (.sl (.int .i64)) ins,.eptr [PV.sl (.int .i64) (ins.getD (Int.toNat 0) (Ab (.sl (.int .i64))))],.sl (.int .i64) (ins.getD (Int.toNat 0) (Ab (.sl (.int .i64)))),.int .i64 (↑(List.length (ins.getD (Int.toNat 0) (Ab (.sl (.int .i64))))):Int),.any,.any,.any,.any,.int .i64   (if       (↑(List.length (ins.getD (Int.toNat 1) (Ab (.sl (.int .i64))))):Int) <         (↑(List.length (ins.getD (Int.toNat 0) (Ab (.sl (.int .i64))))):Int)then     (↑(List.length (ins.getD (Int.toNat 1) (Ab (.sl (.int .i64))))):Int)   else(↑(List.length (ins.getD (Int.toNat 0) (Ab (.sl (.int .i64))))):Int)),.int .i64 (p.1:Int)]++nA 19,[.cells   [.int .i64 9,.int .i64 z,.int .i64 (ExprT.mk ek eo em ev ea).kind,     .int .i64 (ExprT.mk ek eo em ev ea).op,.str (ExprT.mk ek eo em ev ea).name,     .int .i64 (ExprT.mk ek eo em ev ea).value,.sl .expr (ExprT.mk ek eo em ev ea).args,     .sl (.int .i64) l],.cells   [.int .i64 2,.int .i64 1,.int .i64 0,.int .i64 0,.int .i64 1,     .sl .str [{ data:=#[120] },{ data:=#[121] }],.fn (Fn.func 117) [] [],.fn (Fn.func 118) [] []],.cells   [.int .i64 9,.int .i64 z,.int .i64 (ExprT.mk ek eo em ev ea).kind,     .int .i64 (ExprT.mk ek eo em ev ea).op,.str (ExprT.mk ek eo em ev ea).name,     .int .i64 (ExprT.mk ek eo em ev ea).value,.sl .expr (ExprT.mk ek eo em ev ea).args,     .sl (.int .i64) l],.cells [.cap0,.int .i64 0,.bool false],.cells   [.int .i64 2,.int .i64 1,.int .i64 0,.int .i64 0,.int .i64 1,     .sl .str [{ data:=#[120] },{ data:=#[121] }],.fn (Fn.func 117) [] [],.fn (Fn.func 118) [] []],.cells [.own 8],.cells [.int .i64 9,.int .i64 z,.int .i64 ek,.int .i64 eo,.str em,.int .i64 ev,.sl .expr ea,.sl tI l,.cap0,.int .i64 0,.bool false,.csl tI 5 1,.int .i64 p.2.2,.int .i64 0],.cells   [.int .i64 2,.int .i64 1,.int .i64 0,.int .i64 0,.int .i64 1,     .sl .str [{ data:=#[120] },{ data:=#[121] }],.fn (Fn.func 117) [] [],.fn (Fn.func 118) [] []],.rows tI p.2.1],9⟩) (λp=>p.1<=min (ins.getD 0 []).length (ins.getD 1 []).length/\p.2=(List.range p.1).foldl (I6 (ExprT.mk ek eo em ev ea) (ins.getD 0 []) (ins.getD 1 [])) ([],0)/\p.2.1.length<=p.1) (λp=>min (ins.getD 0 []).length (ins.getD 1 []).length-p.1) (aI (eI ((0,[],0)) (eI ([some 0,some 1,some 2,some 3,some 4,some 5,some 6,some 7,none]) (aI ?_ (aB (aI (aJ (aJ (aA tT))) (by rfl)))))) ?_)
 ·exact⟨aV _,rfl,bA _⟩
 rintro⟨j,o,f⟩ ⟨hj,hp,ho⟩;replace hj:j<=min (ins.getD 0 []).length (ins.getD 1 []).length:=hj;replace hp:(o,f)=(List.range j).foldl (I6 (ExprT.mk ek eo em ev ea) (ins.getD 0 []) (ins.getD 1 [])) ([],0):=hp;replace ho:o.length<=j:=ho;have room:(o.length+1)*8<=lim:=by simp only[lim];omega
 have lt:decide ((j:Int)<(if((ins.getD 1 []).length:Int)<((ins.getD 0 []).length:Int)then((ins.getD 1 []).length:Int)else((ins.getD 0 []).length:Int)))=true->j<min (ins.getD 0 []).length (ins.getD 1 []).length:=λh=>by
  have:=aM h;rw[hmin]at this;omega
 have ge:decide ((j:Int)<(if((ins.getD 1 []).length:Int)<((ins.getD 0 []).length:Int)then((ins.getD 1 []).length:Int)else((ins.getD 0 []).length:Int)))=false->j=min (ins.getD 0 []).length (ins.getD 1 []).length:=λh=>by
  have:=aQ h;rw[hmin]at this;omega
 have ixa:decide ((j:Int)<(if((ins.getD 1 []).length:Int)<((ins.getD 0 []).length:Int)then((ins.getD 1 []).length:Int)else((ins.getD 0 []).length:Int)))=true->0<=(j:Int)/\(j:Int)<((ins.getD 0 []).length:Int):=λh=>by have:=lt h;omega
 have ixb:decide ((j:Int)<(if((ins.getD 1 []).length:Int)<((ins.getD 0 []).length:Int)then((ins.getD 1 []).length:Int)else((ins.getD 0 []).length:Int)))=true->0<=(j:Int)/\(j:Int)<((ins.getD 1 []).length:Int):=λh=>by have:=lt h;omega
 have hnx:(List.range (j+1)).foldl (I6 (ExprT.mk ek eo em ev ea) (ins.getD 0 []) (ins.getD 1 [])) ([],0)=I6 (ExprT.mk ek eo em ev ea) (ins.getD 0 []) (ins.getD 1 []) (o,f) j:=by
  rw[dL,dO,<-hp];rfl
 refine(aI (λm0=>(aK (aI (by first|exact room|exact ix (by decide)|exact iy (by decide)|exact ixa m0|exact ixb m0|(intros;(try subst_vars);(try simp only[nB]at *);(try simp only[inK,big,lim,nL]at *);omega)) (aI (by first|exact room|exact ix (by decide)|exact iy (by decide)|exact ixa m0|exact ixb m0|(intros;(try subst_vars);(try simp only[nB]at *);(try simp only[inK,big,lim,nL]at *);omega)) (aI (by first|exact room|exact ix (by decide)|exact iy (by decide)|exact ixa m0|exact ixb m0|(intros;(try subst_vars);(try simp only[nB]at *);(try simp only[inK,big,lim,nL]at *);omega)) (aI (by first|exact room|exact ix (by decide)|exact iy (by decide)|exact ixa m0|exact ixb m0|(intros;(try subst_vars);(try simp only[nB]at *);(try simp only[inK,big,lim,nL]at *);omega)) (aB (aA (aI (by first|exact room|exact ix (by decide)|exact iy (by decide)|exact ixa m0|exact ixb m0|(intros;(try subst_vars);(try simp only[nB]at *);(try simp only[inK,big,lim,nL]at *);omega)) (aB (aA (aI (by first|exact room|exact ix (by decide)|exact iy (by decide)|exact ixa m0|exact ixb m0|(intros;(try subst_vars);(try simp only[nB]at *);(try simp only[inK,big,lim,nL]at *);omega)) (aB (aA (aI (by first|exact room|exact ix (by decide)|exact iy (by decide)|exact ixa m0|exact ixb m0|(intros;(try subst_vars);(try simp only[nB]at *);(try simp only[inK,big,lim,nL]at *);omega)) (aB (aA (aI (by first|exact room|exact ix (by decide)|exact iy (by decide)|exact ixa m0|exact ixb m0|(intros;(try subst_vars);(try simp only[nB]at *);(try simp only[inK,big,lim,nL]at *);omega)) (aB (aF (aA (aF (aI (by first|exact room|exact ix (by decide)|exact iy (by decide)|exact ixa m0|exact ixb m0|(intros;(try subst_vars);(try simp only[nB]at *);(try simp only[inK,big,lim,nL]at *);omega)) (aI tT (aI (λm1=>(aA (aF (aI (λm2=>(aK (aI (by first|exact room|exact ix (by decide)|exact iy (by decide)|exact ixa m0|exact ixb m0|(intros;(try subst_vars);(try simp only[nB]at *);(try simp only[inK,big,lim,nL]at *);omega)) (aD (aB (aI (by first|exact room|exact ix (by decide)|exact iy (by decide)|exact ixa m0|exact ixb m0|(intros;(try subst_vars);(try simp only[nB]at *);(try simp only[inK,big,lim,nL]at *);omega)) (aD (aC (aA (aI (by first|exact room|exact ix (by decide)|exact iy (by decide)|exact ixa m0|exact ixb m0|(intros;(try subst_vars);(try simp only[nB]at *);(try simp only[inK,big,lim,nL]at *);omega)) (aB (aI (by first|exact room|exact ix (by decide)|exact iy (by decide)|exact ixa m0|exact ixb m0|(intros;(try subst_vars);(try simp only[nB]at *);(try simp only[inK,big,lim,nL]at *);omega)) (aI (by first|exact room|exact ix (by decide)|exact iy (by decide)|exact ixa m0|exact ixb m0|(intros;(try subst_vars);(try simp only[nB]at *);(try simp only[inK,big,lim,nL]at *);omega)) (aI (by first|exact room|exact ix (by decide)|exact iy (by decide)|exact ixa m0|exact ixb m0|(intros;(try subst_vars);(try simp only[nB]at *);(try simp only[inK,big,lim,nL]at *);omega)) (aC (aB (aI (by first|exact room|exact ix (by decide)|exact iy (by decide)|exact ixa m0|exact ixb m0|(intros;(try subst_vars);(try simp only[nB]at *);(try simp only[inK,big,lim,nL]at *);omega)) ?_))))))))))))))))) (λm2=>(aI (by first|exact room|exact ix (by decide)|exact iy (by decide)|exact ixa m0|exact ixb m0|(intros;(try subst_vars);(try simp only[nB]at *);(try simp only[inK,big,lim,nL]at *);omega)) ?_)))))) (λm1=>(aA (aF (aI (λm3=>aT (Eq.trans (Eq.symm m1) m3) (by decide)) (λm3=>(aI (by first|exact room|exact ix (by decide)|exact iy (by decide)|exact ixa m0|exact ixb m0|(intros;(try subst_vars);(try simp only[nB]at *);(try simp only[inK,big,lim,nL]at *);omega)) ?_))))))))))))))))))))))))))))))) (λm0=>(aI (λm4=>(aF (Aa rfl ?_))) (λm4=>(aI tT (aI (λm5=>(Aa rfl ?_)) (λm5=>(Aa rfl ?_))))))))
 ·have hj':=lt m0;refine eI ((j+1,o++[(evX (ExprT.mk ek eo em ev ea) D8 ((ins.getD 0 []).getD j 0) ((ins.getD 1 []).getD j 0)).1],(evX (ExprT.mk ek eo em ev ea) D8 ((ins.getD 0 []).getD j 0) ((ins.getD 1 []).getD j 0)).2)) (eI ([some 0,some 1,some 2,some 3,some 4,some 5,some 6,some 7,some 12]) (aI ?_ (aI ?_ (aB (aI (aJ (aJ (aA tT))) (by rfl))))))
  ·refine⟨hj', ?_,by show(_++[_]).length<=j+1;simp;omega⟩;show _=(List.range (j+1)).foldl _ _;rw[hnx];dsimp only[I6];rw[Js m1,Qm (f:=(evX (ExprT.mk ek eo em ev ea) D8 ((ins.getD 0 []).getD j 0) ((ins.getD 1 []).getD j 0)).2) (show decide ((evX (ExprT.mk ek eo em ev ea) D8 ((ins.getD 0 []).getD j 0) ((ins.getD 1 []).getD j 0)).2=0)=true from m2)]
  ·show min _ _-(j+1)<min _ _-j;omega
 ·have hj':=lt m0;refine eI ((j+1,o,(evX (ExprT.mk ek eo em ev ea) D8 ((ins.getD 0 []).getD j 0) ((ins.getD 1 []).getD j 0)).2)) (eI ([some 0,some 1,some 2,some 3,some 4,some 5,some 6,some 7,some 8]) (aI ?_ (aI ?_ (aB (aI (aJ (aJ (aA tT))) (by rfl))))))
  ·refine⟨hj', ?_,by show o.length<=j+1;omega⟩;show _=(List.range (j+1)).foldl _ _;rw[hnx];dsimp only[I6];rw[Js m1,Lh (f:=(evX (ExprT.mk ek eo em ev ea) D8 ((ins.getD 0 []).getD j 0) ((ins.getD 1 []).getD j 0)).2) (show decide ((evX (ExprT.mk ek eo em ev ea) D8 ((ins.getD 0 []).getD j 0) ((ins.getD 1 []).getD j 0)).2=0)=false from m2)]
  ·show min _ _-(j+1)<min _ _-j;omega
 ·have hj':=lt m0;refine eI ((j+1,o,f)) (eI ([some 0,some 1,some 2,some 3,some 4,some 5,some 6,some 7,some 8]) (aI ?_ (aI ?_ (aB (aI (aJ (aJ (aA tT))) (by rfl))))))
  ·refine⟨hj', ?_,by show o.length<=j+1;omega⟩;show _=(List.range (j+1)).foldl _ _;rw[hnx];dsimp only[I6];rw[Uh m1,Lh m1]
  ·show min _ _-(j+1)<min _ _-j;omega
 ·skip
  have run:Cj (9,z,ExprT.mk ek eo em ev ea,l) ins=([o],f):=by
   show([((List.range (min (ins.getD 0 []).length (ins.getD 1 []).length)).foldl (I6 (ExprT.mk ek eo em ev ea) (ins.getD 0 []) (ins.getD 1 [])) ([],0)).1],((List.range (min (ins.getD 0 []).length (ins.getD 1 []).length)).foldl (I6 (ExprT.mk ek eo em ev ea) (ins.getD 0 []) (ins.getD 1 [])) ([],0)).2)=_;rw[<-ge m0,<-hp]
  exact(Ahs ‹_› ‹_› hs0 (by rw[run];exact m4)).trans (by rw[run])
 ·skip
  have run:Cj (9,z,ExprT.mk ek eo em ev ea,l) ins=([o],f):=by
   show([((List.range (min (ins.getD 0 []).length (ins.getD 1 []).length)).foldl (I6 (ExprT.mk ek eo em ev ea) (ins.getD 0 []) (ins.getD 1 [])) ([],0)).1],((List.range (min (ins.getD 0 []).length (ins.getD 1 []).length)).foldl (I6 (ExprT.mk ek eo em ev ea) (ins.getD 0 []) (ins.getD 1 [])) ([],0)).2)=_;rw[<-ge m0,<-hp]
  exact Vb ‹_› ‹_› hs0 (by rw[run];exact m4) (by rw[run];exact m5)
 ·skip
  have run:Cj (9,z,ExprT.mk ek eo em ev ea,l) ins=([o],f):=by
   show([((List.range (min (ins.getD 0 []).length (ins.getD 1 []).length)).foldl (I6 (ExprT.mk ek eo em ev ea) (ins.getD 0 []) (ins.getD 1 [])) ([],0)).1],((List.range (min (ins.getD 0 []).length (ins.getD 1 []).length)).foldl (I6 (ExprT.mk ek eo em ev ea) (ins.getD 0 []) (ins.getD 1 [])) ([],0)).2)=_;rw[<-ge m0,<-hp]
  exact(Uj ‹_› ‹_› hs0 (by rw[run];exact m4) (by rw[run];exact m5)).trans (by rw[run])
set_option maxHeartbeats 8000000 in
theorem Ahu:Jt 10:=by
 intro z e l ins hc hlk;have hl:ins.length=1:=by have h:(ins.length:Int)=1:=hlk;omega
 have hs:=Ax hc;obtain⟨ek,eo,em,ev,ea⟩:=e;refine⟨_,Hy, ?_⟩;refine(aF (aI tT (aI (λh0=>(Aa rfl (by first|exact D0 ‹_› |exact D9 ‹_› ‹_›))) (λh0=>(aA (λh1=>(aI (λh2=>(Aa rfl (by first|exact D0 ‹_› |exact D9 ‹_› ‹_›))) (λh2=>(λh3=>?_)))))))));refine ex4 _ (λi:Nat=>⟨[.any,.sl (.sl (.int .i64)) ins,.ptr 0 0,.any,.any,.any,.any,.ptr 1 0,.any,.any,.any,.any,.any,.any,.any,.any,.any,.any,.any,.any,.any,.any,.any,.any,.any,.any,.any,.any,.sl (.sl (.int .i64)) ins,.int .i64 (↑ins.length:Int),.int .i64 (i:Int)]++nA 34,[.cells   [.int .i64 10,.int .i64 z,.int .i64 (ExprT.mk ek eo em ev ea).kind,     .int .i64 (ExprT.mk ek eo em ev ea).op,.str (ExprT.mk ek eo em ev ea).name,     .int .i64 (ExprT.mk ek eo em ev ea).value,.sl .expr (ExprT.mk ek eo em ev ea).args,     .sl (.int .i64) l],.cells   [.int .i64 1,.int .i64 0,.int .i64 0,.int .i64 0,.int .i64 0,     .sl .str [],.fn (Fn.func 119) [] [],.fn (Fn.func 105) [] []]],2⟩) (λi=>i<=ins.length/\Bc ins=Bc (ins.drop i)) (λi=>ins.length-i) (aI (eI (0) (eI ([some 0,some 1]) (aI ?_ (aB (aI (aH tT) (by rfl)))))) ?_)
 ·exact⟨aV _,rfl⟩
 rintro i ⟨hi,ht⟩;have hin:decide ((i:Int)<(ins.length:Int))=false->(!decide (Bc ins=0))=false:=λh=>by
  have hi':¬i<ins.length:=by simpa using h
  rw[ht,bK (by omega)];rfl
 have ix:0<1->0<=(0:Int)/\(0:Int)<(ins.length:Int):=λh=>by rw[hl];omega
 have iy:1<1->0<=(1:Int)/\(1:Int)<(ins.length:Int):=λh=>by rw[hl];omega
 have hst:Bc ins=0->∀j,j<ins.length->(ins.getD j (Ab tIs)).length<=200/\(ins.getD j (Ab tIs)).any Aj=false:=λh j hj=>Bi h hj
 refine(aI (λk0=>(aI (by first|exact⟨by decide,rfl,by decide,by decide⟩|exact ix (by decide)|exact iy (by decide)|(intros;(try subst_vars);(try simp only[nB]at *);(try simp only[inK,big,lim,nL]at *);omega)) (λk1=>(aI (λk2=>(Aa rfl ?_)) (λk2=>(aI tT (aI (λk3=>(Aa rfl ?_)) (λk3=>(aI (by first|exact⟨by decide,rfl,by decide,by decide⟩|exact ix (by decide)|exact iy (by decide)|(intros;(try subst_vars);(try simp only[nB]at *);(try simp only[inK,big,lim,nL]at *);omega)) ?_))))))))) (λk0=>(aF (aA (aF (aI (by first|exact⟨by decide,rfl,by decide,by decide⟩|exact ix (by decide)|exact iy (by decide)|(intros;(try subst_vars);(try simp only[nB]at *);(try simp only[inK,big,lim,nL]at *);omega)) (aF (aI (λk4=>nG k4) (λk4=>(aI (λk5=>nG k5) (λk5=>(aI (λk6=>nG k6) (λk6=>(aI (by first|exact⟨by decide,rfl,by decide,by decide⟩|exact ix (by decide)|exact iy (by decide)|(intros;(try subst_vars);(try simp only[nB]at *);(try simp only[inK,big,lim,nL]at *);omega)) (λk7=>?_)))))))))))))))
 ·have hi':i<ins.length:=by simpa using k0
  have hk:A5 (ins.getD i (Ab tIs))=true:=k2;have e4:Bc ins=4:=by rw[ht,A9 hi',aP hk]
  exact(Lt ‹_› ‹_› (by rw[e4];rfl)).trans (by rw[e4])
 ·have hi':i<ins.length:=by simpa using k0
  have hk:¬A5 (ins.getD i (Ab tIs))=true:=by have h:A5 (ins.getD i (Ab tIs))=false:=k2;rw[h];simp
  have hk2:(ins.getD i (Ab tIs)).any Aj=true:=k3;have e4:Bc ins=2:=by rw[ht,A9 hi',aL hk,aP hk2]
  exact(Lt ‹_› ‹_› (by rw[e4];rfl)).trans (by rw[e4])
 ·have hi':i<ins.length:=by simpa using k0
  have hk:¬A5 (ins.getD i (Ab tIs))=true:=by have h:A5 (ins.getD i (Ab tIs))=false:=k2;rw[h];simp
  have hk2:¬(ins.getD i (Ab tIs)).any Aj=true:=by have h:(ins.getD i (Ab tIs)).any Aj=false:=k3;rw[h];simp
  refine eI (i+1) (eI ([some 0,some 1]) (aI ?_ (aI ?_ (aB (aI (aH tT) (by rfl))))))
  ·refine⟨hi', ?_⟩;rw[ht,A9 hi',aL hk,aL hk2]
  ·show ins.length-(i+1)<ins.length-i;omega
 have hs0:=hin k0;clear ht hi hin;refine ex4 _ (λj:Nat=>⟨[.ptr 6 0,.agg   [.int .i64 1,.int .i64 0,.int .i64 0,.int .i64 0,.int .i64 0,     .sl .str [],.fn (Fn.func 119) [] [],.fn (Fn.func 105) [] []],.sl (.sl (.int .i64)) ins,.any,.ptr 7 0,.any,.any,.any,.any,.any,.any,.ptr 6 0,.any,.any,.sl (.sl (.int .i64)) ins,.eptr [PV.sl (.int .i64) (ins.getD (Int.toNat 0) (Ab (.sl (.int .i64))))],.sl (.int .i64) (ins.getD (Int.toNat 0) (Ab (.sl (.int .i64)))),.int .i64 (↑(List.length (ins.getD (Int.toNat 0) (Ab (.sl (.int .i64))))):Int),.int .i64 (j:Int),.any,.any,.any,.any,.any,.any,.any,.any,.any,.any,.any,.any,.any,.any,.any,.any,.any,.any,.any,.any,.any,.any,.any,.any,.any,.any,.bool (decide (10=8)),.any,.any,.any,.any,.any,.any,.any,.any,.any,.any,.any,.any,.any,.bool (decide (10=9)),.bool (decide (10=9))]++nA 29,[.cells   [.int .i64 10,.int .i64 z,.int .i64 (ExprT.mk ek eo em ev ea).kind,     .int .i64 (ExprT.mk ek eo em ev ea).op,.str (ExprT.mk ek eo em ev ea).name,     .int .i64 (ExprT.mk ek eo em ev ea).value,.sl .expr (ExprT.mk ek eo em ev ea).args,     .sl (.int .i64) l],.cells   [.int .i64 1,.int .i64 0,.int .i64 0,.int .i64 0,.int .i64 0,     .sl .str [],.fn (Fn.func 119) [] [],.fn (Fn.func 105) [] []],.cells   [.int .i64 10,.int .i64 z,.int .i64 (ExprT.mk ek eo em ev ea).kind,     .int .i64 (ExprT.mk ek eo em ev ea).op,.str (ExprT.mk ek eo em ev ea).name,     .int .i64 (ExprT.mk ek eo em ev ea).value,.sl .expr (ExprT.mk ek eo em ev ea).args,     .sl (.int .i64) l],.cells [.cap0,.int .i64 0,.bool false],.cells   [.int .i64 1,.int .i64 0,.int .i64 0,.int .i64 0,.int .i64 0,     .sl .str [],.fn (Fn.func 119) [] [],.fn (Fn.func 105) [] []],.cells [],.cells   [.int .i64 10,.int .i64 z,.int .i64 (ExprT.mk ek eo em ev ea).kind,     .int .i64 (ExprT.mk ek eo em ev ea).op,.str (ExprT.mk ek eo em ev ea).name,     .int .i64 (ExprT.mk ek eo em ev ea).value,.sl .expr (ExprT.mk ek eo em ev ea).args,     .sl (.int .i64) l,.cap0,.int .i64 0,.bool false,.csl tI 5 (Int.toNat 0),     .int .i64 0,.int .i64 0],.cells   [.int .i64 1,.int .i64 0,.int .i64 0,.int .i64 0,.int .i64 0,     .sl .str [],.fn (Fn.func 119) [] [],.fn (Fn.func 105) [] []]],8⟩) (λj=>j<=(ins.getD 0 []).length) (λj=>(ins.getD 0 []).length-j) (aI (eI (0) (eI ([some 0,some 1,some 2,some 3,some 4,some 5,some 6,some 7]) (aI ?_ (aB (aI (aJ (aJ tT)) (by rfl)))))) ?_)
 ·exact aV _
 rintro j hj;refine(aI (λm0=>(aO (aF (aO ?_)))) (λm0=>(aF (aI (λm1=>nG m1) (λm1=>(aI tT (aI (λm2=>nG m2) (λm2=>(Aa rfl ?_)))))))))
 ·have hj':j<(ins.getD 0 []).length:=by simpa using m0
  refine eI (j+1) (eI ([some 0,some 1,some 2,some 3,some 4,some 5,some 6,some 7]) (aI ?_ (aI ?_ (aB (aI (aJ (aJ tT)) (by rfl))))))
  ·exact hj'
  ·show(ins.getD 0 []).length-(j+1)<(ins.getD 0 []).length-j;omega
 ·have run:Cj (10,z,ExprT.mk ek eo em ev ea,l) ins=([],0):=rfl;exact(Uj ‹_› ‹_› hs0 (by rw[run];rfl) (by rw[run];rfl)).trans (by rw[run])
def bat(z ek eo:Int)(em:ByteArray)(ev:Int)(ea:List ExprT)(l:List Int)(held:AV)(f:Int):Ob:=
 .cells [.int .i64 4,.int .i64 z,.int .i64 ek,.int .i64 eo,.str em,.int .i64 ev,.sl .expr ea,.sl tI l,held,.int .i64 0,.bool false,.csl tI 1 1,.int .i64 f,.int .i64 0]
theorem Ki{d:List Int}{i:Nat}{s:Int×Int}{n f:Int}(h:i<d.length)(hp:(n,f)=(d.take i).foldl Et s):(d.take (i+1)).foldl Et s=Et (n,f) (d.getD i 0):=by
 rw[Hl _ _ 0 h,<-hp]
theorem Ade{d:List Int}(h:∀x∈d,inM x)(i:Nat):inM (d.getD i 0):=X8 h i
def Aq9:FuncId->List AV->List Ob->AV->List Ob->Prop:=λg args T x1 T1=>
 ∃(z ek eo:Int)(em:ByteArray)(ev:Int)(ea:List ExprT)(l d o:List Int)(f:Int),d.length<=1000/\(∀x∈d,inM x)/\o.length<=1000/\g=111/\args=[.ptr 0 0]/\
  T=[bat z ek eo em ev ea l (.own 3) f,.cells [.own 2],.rows tI o,.rows tI d]/\x1=.tup []/\
  T1=[bat z ek eo em ev ea l .cap0 (Fx (d,o,f)).2.2,.cells [.own 4],.dead,.rows tI d,.rows tI (Fx (d,o,f)).2.1]
theorem Ara(z ek eo:Int)(em:ByteArray)(ev:Int)(ea:List ExprT)(l d o:List Int)(f:Int)(hd:d.length<=1000)(hin:∀x∈d,inM x)(ho:o.length<=1000):
 Ba cxM Tryz.prog (Ba cxM Tryz.prog noS) 111 [.ptr 0 0] [bat z ek eo em ev ea l (.own 3) f,.cells [.own 2],.rows tI o,.rows tI d] 4
  (λx T' n'=>∃σ,J1 4 σ [noW x] T' n' ⟨[.tup []],[bat z ek eo em ev ea l .cap0 (Fx (d,o,f)).2.2,.cells [.own 4],.dead,.rows tI d,.rows tI (Fx (d,o,f)).2.1],5⟩):=by
 have room:(o.length+1)*8<=lim:=by simp only[lim];omega
 unfold bat
 refine(aF (λh0=>?_));refine ex4 _ (λp:Nat×Int×Int=>⟨[.ptr 0 0,.any,.int .i64 p.2.1,.any,.any,.ptr 0 0,.ptr 0 0,.ptr 0 8,.ptr 0 8,.own 3,.int .i64 (↑d.length:Int),.int .i64 (p.1:Int)]++nA 27,[.cells [.int .i64 4,.int .i64 z,.int .i64 ek,.int .i64 eo,.str em,.int .i64 ev,.sl .expr ea,.sl tI l,.own 3,.int .i64 0,.bool false,.csl tI 1 1,.int .i64 p.2.2,.int .i64 0],.cells [.own 2],.rows tI o,.rows tI d],4⟩) (λp=>p.1<=d.length/\p.2=(d.take p.1).foldl Et (0,f)/\(-(1099511627776*(p.1:Int))<=p.2.1/\p.2.1<=1099511627776*(p.1:Int))) (λp=>d.length-p.1) (aI (eI ((0,0,f)) (eI ([some 0,some 1,some 2,some 3]) (aI ?_ (aB (aI (aH (aB tT)) (by rfl)))))) ?_)
 ·exact⟨aV _,rfl,by show -(1099511627776*((0:Nat):Int))<=0;decide,by show(0:Int)<=1099511627776*((0:Nat):Int);decide⟩
 rintro⟨i,n,e⟩ ⟨hi,hp,hn⟩;replace hi:i<=d.length:=hi;replace hp:(n,e)=(d.take i).foldl Et (0,f):=hp;replace hn:-(1099511627776*(i:Int))<=n/\n<=1099511627776*(i:Int):=hn;have hx:-1099511627776<=d.getD i 0/\d.getD i 0<=1099511627776:=Ade hin i;have nr:inK .i64 (n+d.getD i 0):=by simp only[inK];omega
 have hb:-(1099511627776*((i+1:Nat):Int))<=n+d.getD i 0/\n+d.getD i 0<=1099511627776*((i+1:Nat):Int):=by omega
 refine(aI (λm0=>(aI (by first|exact nr|exact room|(intros;(try subst_vars);(try simp only[nB]at *);(try simp only[inK,big,lim,nL]at *);omega)) (aI (by first|exact nr|exact room|(intros;(try subst_vars);(try simp only[nB]at *);(try simp only[inK,big,lim,nL]at *);omega)) (aI tT (aI (λm1=>(aI (by first|exact nr|exact room|(intros;(try subst_vars);(try simp only[nB]at *);(try simp only[inK,big,lim,nL]at *);omega)) ?_)) (λm1=>(aI (by first|exact nr|exact room|(intros;(try subst_vars);(try simp only[nB]at *);(try simp only[inK,big,lim,nL]at *);omega)) ?_))))))) (λm0=>(aF (aI (λm2=>(aK (aI (by first|exact nr|exact room|(intros;(try subst_vars);(try simp only[nB]at *);(try simp only[inK,big,lim,nL]at *);omega)) (aD (aB (aI (by first|exact nr|exact room|(intros;(try subst_vars);(try simp only[nB]at *);(try simp only[inK,big,lim,nL]at *);omega)) (aD (aC (aA (aI (by first|exact nr|exact room|(intros;(try subst_vars);(try simp only[nB]at *);(try simp only[inK,big,lim,nL]at *);omega)) (aB (aI (by first|exact nr|exact room|(intros;(try subst_vars);(try simp only[nB]at *);(try simp only[inK,big,lim,nL]at *);omega)) (aI (by first|exact nr|exact room|(intros;(try subst_vars);(try simp only[nB]at *);(try simp only[inK,big,lim,nL]at *);omega)) (aI (by first|exact nr|exact room|(intros;(try subst_vars);(try simp only[nB]at *);(try simp only[inK,big,lim,nL]at *);omega)) (aC (aB ?_)))))))))))))))) (λm2=>?_)))))
 ·have hi':i<d.length:=by simpa using m0
  refine eI ((i+1,n+d.getD i 0,14)) (eI ([some 0,some 1,some 2,some 3]) (aI ?_ (aI ?_ (aB (aI (aH (aB tT)) (by rfl))))))
  ·refine⟨hi', ?_,hb⟩;rw[Ki hi' hp];dsimp only[Et];rw[aP (show(bif !Ke (n+d.getD i 0)then decide (e=0)else false)=true from m1)]
  ·show d.length-(i+1)<d.length-i;omega
 ·have hi':i<d.length:=by simpa using m0
  refine eI ((i+1,n+d.getD i 0,e)) (eI ([some 0,some 1,some 2,some 3]) (aI ?_ (aI ?_ (aB (aI (aH (aB tT)) (by rfl))))))
  ·refine⟨hi', ?_,hb⟩;rw[Ki hi' hp];dsimp only[Et];rw[aL (by rw[show(bif !Ke (n+d.getD i 0)then decide (e=0)else false)=false from m1];simp)]
  ·show d.length-(i+1)<d.length-i;omega
 ·have hi':¬i<d.length:=by simpa using m0
  rw[bL (by omega)]at hp;have hb:Fx (d,o,f)=([],o++[n],e):=by
   dsimp only[Fx];rw[<-hp];dsimp only;rw[Qm m2]
  rw[hb];exact⟨[some 0,some 1,none,some 3,some 5],by rfl,by rfl,⟨⟨by rfl,by rfl⟩,⟨by rfl,by rfl⟩,by rfl,by rfl,trivial⟩,by rfl⟩
 ·have hi':¬i<d.length:=by simpa using m0
  rw[bL (by omega)]at hp;have hb:Fx (d,o,f)=([],o,e):=by
   dsimp only[Fx];rw[<-hp];dsimp only;rw[Lh m2]
  rw[hb];exact⟨[some 0,some 1,none,some 3,some 2],by rfl,by rfl,⟨⟨by rfl,by rfl⟩,⟨by rfl,by rfl⟩,by rfl,by rfl,trivial⟩,by rfl⟩
theorem Ak0:∀g args T x1 T1,Aq9 g args T x1 T1->Ba cxM Tryz.prog (Ba cxM Tryz.prog noS) g args T T.length (λx T' n'=>∃σ,J1 T.length σ [noW x] T' n' ⟨[x1],T1,T1.length⟩):=by
 rintro g args T x1 T1 ⟨z,ek,eo,em,ev,ea,l,d,o,f,hd,hin,ho,rfl,rfl,rfl,rfl,rfl⟩;exact Ara z ek eo em ev ea l d o f hd hin ho
theorem Aa2:Bb Tryz.prog (Gs Aq9):=Gt (Af Cn (Af Cn Bl)) Ak0
theorem Ahv:Bb Tryz.prog (Ba cxM Tryz.prog (Ba cxM Tryz.prog (Ba cxM Tryz.prog (Kd 111 (Gs Aq9) (Ba cxM Tryz.prog noS))))):=
 Af Cn (Af Cn (Af Cn (Da Aa2 (Af Cn Bl))))
theorem Arb{xs:List Int}(h:xs.any Aj=false){j:Nat}(hj:j<xs.length):inM (xs.getD j 0):=by
 have h1:=dA.1 h (xs.getD j 0) (by simp[aZ,aR hj]);generalize xs.getD j 0=x at *;unfold Aj Ke at h1;unfold inM;by_cases h2:-1099511627776<=x
 ·by_cases h3:x<=1099511627776
  ·exact⟨h2,h3⟩
  ·rw[aX h2,bE h3]at h1;exact aT rfl h1
 ·rw[bE h2]at h1;exact aT rfl h1
set_option maxHeartbeats 8000000 in
theorem Ak1:Jt 4:=by
 intro z e l ins hc hlk;have hl:ins.length=1:=by have h:(ins.length:Int)=1:=hlk;omega
 have hs:=Ax hc;obtain⟨ek,eo,em,ev,ea⟩:=e;refine⟨_,Ahv, ?_⟩;refine(aF (aI tT (aI (λh0=>(Aa rfl (by first|exact D0 ‹_› |exact D9 ‹_› ‹_›))) (λh0=>(aA (λh1=>(aI (λh2=>(Aa rfl (by first|exact D0 ‹_› |exact D9 ‹_› ‹_›))) (λh2=>(λh3=>?_)))))))));refine ex4 _ (λi:Nat=>⟨[.any,.sl (.sl (.int .i64)) ins,.ptr 0 0,.any,.any,.any,.any,.ptr 1 0,.any,.any,.any,.any,.any,.any,.any,.any,.any,.any,.any,.any,.any,.any,.any,.any,.any,.any,.any,.any,.sl (.sl (.int .i64)) ins,.int .i64 (↑ins.length:Int),.int .i64 (i:Int)]++nA 34,[.cells   [.int .i64 4,.int .i64 z,.int .i64 (ExprT.mk ek eo em ev ea).kind,     .int .i64 (ExprT.mk ek eo em ev ea).op,.str (ExprT.mk ek eo em ev ea).name,     .int .i64 (ExprT.mk ek eo em ev ea).value,.sl .expr (ExprT.mk ek eo em ev ea).args,     .sl (.int .i64) l],.cells   [.int .i64 1,.int .i64 1,.int .i64 1,.int .i64 100,.int .i64 0,     .sl .str [],.fn (Fn.func 109) [] [],.fn (Fn.func 110) [] []]],2⟩) (λi=>i<=ins.length/\Bc ins=Bc (ins.drop i)) (λi=>ins.length-i) (aI (eI (0) (eI ([some 0,some 1]) (aI ?_ (aB (aI (aH tT) (by rfl)))))) ?_)
 ·exact⟨aV _,rfl⟩
 rintro i ⟨hi,ht⟩;have hin:decide ((i:Int)<(ins.length:Int))=false->(!decide (Bc ins=0))=false:=λh=>by
  have hi':¬i<ins.length:=by simpa using h
  rw[ht,bK (by omega)];rfl
 have ix:0<1->0<=(0:Int)/\(0:Int)<(ins.length:Int):=λh=>by rw[hl];omega
 have iy:1<1->0<=(1:Int)/\(1:Int)<(ins.length:Int):=λh=>by rw[hl];omega
 have hst:Bc ins=0->∀j,j<ins.length->(ins.getD j (Ab tIs)).length<=200/\(ins.getD j (Ab tIs)).any Aj=false:=λh j hj=>Bi h hj
 refine(aI (λk0=>(aI (by first|exact⟨by decide,rfl,by decide,by decide⟩|exact ix (by decide)|exact iy (by decide)|(intros;(try subst_vars);(try simp only[nB]at *);(try simp only[inK,big,lim,nL]at *);omega)) (λk1=>(aI (λk2=>(Aa rfl ?_)) (λk2=>(aI tT (aI (λk3=>(Aa rfl ?_)) (λk3=>(aI (by first|exact⟨by decide,rfl,by decide,by decide⟩|exact ix (by decide)|exact iy (by decide)|(intros;(try subst_vars);(try simp only[nB]at *);(try simp only[inK,big,lim,nL]at *);omega)) ?_))))))))) (λk0=>(aF (aA (aF (aI (by first|exact⟨by decide,rfl,by decide,by decide⟩|exact ix (by decide)|exact iy (by decide)|(intros;(try subst_vars);(try simp only[nB]at *);(try simp only[inK,big,lim,nL]at *);omega)) (aF (aI (λk4=>nG k4) (λk4=>(aI (λk5=>nG k5) (λk5=>(aI (λk6=>nG k6) (λk6=>(aI (by first|exact⟨by decide,rfl,by decide,by decide⟩|exact ix (by decide)|exact iy (by decide)|(intros;(try subst_vars);(try simp only[nB]at *);(try simp only[inK,big,lim,nL]at *);omega)) (λk7=>?_)))))))))))))))
 ·have hi':i<ins.length:=by simpa using k0
  have hk:A5 (ins.getD i (Ab tIs))=true:=k2;have e4:Bc ins=4:=by rw[ht,A9 hi',aP hk]
  exact(Lt ‹_› ‹_› (by rw[e4];rfl)).trans (by rw[e4])
 ·have hi':i<ins.length:=by simpa using k0
  have hk:¬A5 (ins.getD i (Ab tIs))=true:=by have h:A5 (ins.getD i (Ab tIs))=false:=k2;rw[h];simp
  have hk2:(ins.getD i (Ab tIs)).any Aj=true:=k3;have e4:Bc ins=2:=by rw[ht,A9 hi',aL hk,aP hk2]
  exact(Lt ‹_› ‹_› (by rw[e4];rfl)).trans (by rw[e4])
 ·have hi':i<ins.length:=by simpa using k0
  have hk:¬A5 (ins.getD i (Ab tIs))=true:=by have h:A5 (ins.getD i (Ab tIs))=false:=k2;rw[h];simp
  have hk2:¬(ins.getD i (Ab tIs)).any Aj=true:=by have h:(ins.getD i (Ab tIs)).any Aj=false:=k3;rw[h];simp
  refine eI (i+1) (eI ([some 0,some 1]) (aI ?_ (aI ?_ (aB (aI (aH tT) (by rfl))))))
  ·refine⟨hi', ?_⟩;rw[ht,A9 hi',aL hk,aL hk2]
  ·show ins.length-(i+1)<ins.length-i;omega
 have hs0:=hin k0;have hstr:Bc ins=0:=by simpa using hs0
 obtain⟨hal,han⟩:=Bi hstr (show 0<ins.length by omega);replace hal:(ins.getD 0 []).length<=200:=hal;replace han:(ins.getD 0 []).any Aj=false:=han;clear ht hi hin;refine ex4 _ (λp:Nat×List Int×List Int×Int=>⟨[.ptr 6 0,.agg   [.int .i64 1,.int .i64 1,.int .i64 1,.int .i64 100,.int .i64 0,     .sl .str [],.fn (Fn.func 109) [] [],.fn (Fn.func 110) [] []],.sl (.sl (.int .i64)) ins,.any,.ptr 7 0,.any,.any,.any,.any,.any,.any,.ptr 6 0,.any,.any,.sl (.sl (.int .i64)) ins,.eptr [PV.sl (.int .i64) (ins.getD (Int.toNat 0) (Ab (.sl (.int .i64))))],.sl (.int .i64) (ins.getD (Int.toNat 0) (Ab (.sl (.int .i64)))),.int .i64 (↑(List.length (ins.getD (Int.toNat 0) (Ab (.sl (.int .i64))))):Int),.int .i64 (p.1:Int),.any,.any,.any,.any,.any,.any,.any,.any,.any,.any,.any,.any,.any,.any,.any,.any,.any,.any,.any,.any,.any,.any,.any,.any,.any,.any,.bool (decide (4=8)),.any,.any,.any,.any,.any,.any,.any,.any,.any,.any,.any,.any,.any,.bool (decide (4=9)),.bool (decide (4=9))]++nA 29,[.cells   [.int .i64 4,.int .i64 z,.int .i64 (ExprT.mk ek eo em ev ea).kind,     .int .i64 (ExprT.mk ek eo em ev ea).op,.str (ExprT.mk ek eo em ev ea).name,     .int .i64 (ExprT.mk ek eo em ev ea).value,.sl .expr (ExprT.mk ek eo em ev ea).args,     .sl (.int .i64) l],.cells   [.int .i64 1,.int .i64 1,.int .i64 1,.int .i64 100,.int .i64 0,     .sl .str [],.fn (Fn.func 109) [] [],.fn (Fn.func 110) [] []],.cells   [.int .i64 4,.int .i64 z,.int .i64 (ExprT.mk ek eo em ev ea).kind,     .int .i64 (ExprT.mk ek eo em ev ea).op,.str (ExprT.mk ek eo em ev ea).name,     .int .i64 (ExprT.mk ek eo em ev ea).value,.sl .expr (ExprT.mk ek eo em ev ea).args,     .sl (.int .i64) l],.cells [.cap0,.int .i64 0,.bool false],.cells   [.int .i64 1,.int .i64 1,.int .i64 1,.int .i64 100,.int .i64 0,     .sl .str [],.fn (Fn.func 109) [] [],.fn (Fn.func 110) [] []],.cells [.own 8],.cells [.int .i64 4,.int .i64 z,.int .i64 ek,.int .i64 eo,.str em,.int .i64 ev,.sl .expr ea,.sl tI l,.own 9,.int .i64 0,.bool false,.csl tI 5 1,.int .i64 p.2.2.2,.int .i64 0],.cells   [.int .i64 1,.int .i64 1,.int .i64 1,.int .i64 100,.int .i64 0,     .sl .str [],.fn (Fn.func 109) [] [],.fn (Fn.func 110) [] []],.rows tI p.2.2.1,.rows tI p.2.1],10⟩) (λp=>p.1<=(ins.getD 0 []).length/\p.2=(((ins.getD 0 []).take p.1).foldl (Bp z) ([],[],0))/\p.2.2.1.length<=p.1/\p.2.1.length<=p.1/\(∀x∈p.2.1,inM x)) (λp=>(ins.getD 0 []).length-p.1) (aI (eI ((0,([],[],0))) (eI ([some 0,some 1,some 2,some 3,some 4,some 5,some 6,some 7,none,none]) (aI ?_ (aB (aI (aJ (aJ (aB tT))) (by rfl)))))) ?_)
 ·exact⟨aV _,rfl,bA _,bA _,λx h=>by simp at h⟩
 rintro⟨j,d,o,f⟩ ⟨hj,hp,ho,hd,hin2⟩;replace hj:j<=(ins.getD 0 []).length:=hj;replace hp:(d,o,f)=(((ins.getD 0 []).take j).foldl (Bp z) ([],[],0)):=hp;have hnx:j<(ins.getD 0 []).length->((ins.getD 0 []).take (j+1)).foldl (Bp z) ([],[],0)=Bp z (d,o,f) ((ins.getD 0 []).getD j 0):=λh=>by
  rw[Hl _ _ 0 h,<-hp]
 have hen:decide ((j:Int)<((ins.getD 0 []).length:Int))=false->(ins.getD 0 []).foldl (Bp z) ([],[],0)=(d,o,f):=λh=>by
  have h':¬j<(ins.getD 0 []).length:=by simpa using h
  rw[hp,bL (by omega)]
 replace ho:o.length<=j:=ho;have room:(o.length+1)*8<=lim:=by simp only[lim];omega
 replace hd:d.length<=j:=hd;replace hin2:∀x∈d,inM x:=hin2;have hd1:d.length<=1000:=by omega
 have room3:(d.length+1)*8<=lim:=by simp only[lim];omega
 have hin3:j<(ins.getD 0 []).length->∀x∈d++[(ins.getD 0 []).getD j 0],inM x:=λh x hx=>by
  rcases dG.1 hx with h1|h1
  ·exact hin2 x h1
  ·rw[bT.1 h1];exact Arb han h
 refine(aI (λm0=>(aI (by first|exact room|exact room3|exact hd1|(intros;(try subst_vars);(try simp only[nB]at *);(try simp only[inK,big,lim,nL]at *);omega)) (aF (aI (by first|exact room|exact room3|exact hd1|(intros;(try subst_vars);(try simp only[nB]at *);(try simp only[inK,big,lim,nL]at *);omega)) (aI (by first|exact room|exact room3|exact hd1|(intros;(try subst_vars);(try simp only[nB]at *);(try simp only[inK,big,lim,nL]at *);omega)) (aF (λm1=>(aI (λm2=>(aI tT ?_)) (λm2=>(aI (by first|exact room|exact room3|exact hd1|(intros;(try subst_vars);(try simp only[nB]at *);(try simp only[inK,big,lim,nL]at *);omega)) ?_)))))))))) (λm0=>(aF (λm3=>(aI (λm4=>(aI tT ?_)) (λm4=>(aI (λm5=>(aF (Aa rfl ?_))) (λm5=>(aI tT (aI (λm6=>(Aa rfl ?_)) (λm6=>(Aa rfl ?_))))))))))))
 ·have hj':j<(ins.getD 0 []).length:=by simpa using m0
  have hbs:Bp z (d,o,f) ((ins.getD 0 []).getD j 0)=Fx (d++[((ins.getD 0 []).getD j 0)],o,f):=by
   dsimp only[Bp];rw[aP (show decide (((d++[((ins.getD 0 []).getD j 0)]).length:Int)=z)=true from m2)]
  refine eI [.ptr 0 0] (eI [bat z ek eo em ev ea l (.own 3) f,.cells [.own 2],.rows tI o,.rows tI (d++[((ins.getD 0 []).getD j 0)])] (eI (.tup []) (eI [bat z ek eo em ev ea l .cap0 (Fx ((d++[((ins.getD 0 []).getD j 0)]),o,f)).2.2,.cells [.own 4],.dead,.rows tI (d++[((ins.getD 0 []).getD j 0)]),.rows tI (Fx ((d++[((ins.getD 0 []).getD j 0)]),o,f)).2.1] (eI [some 6,some 5,some 8,some 12]
   ⟨⟨z,ek,eo,em,ev,ea,l,(d++[((ins.getD 0 []).getD j 0)]),o,f,by simp;omega,hin3 hj',by omega,rfl,rfl,rfl,rfl,rfl⟩,⟨by rfl,by rfl,⟨⟨by rfl,by rfl⟩,⟨by rfl,by rfl⟩,by rfl,by rfl,trivial⟩,by rfl⟩,by rfl, ?_⟩))))
  have hlen:(Fx (d++[((ins.getD 0 []).getD j 0)],o,f)).2.1.length<=o.length+1:=Akq _ _ _;have hfst:(Fx (d++[((ins.getD 0 []).getD j 0)],o,f)).1=[]:=rfl;obtain⟨b,hb⟩:∃b,Fx (d++[((ins.getD 0 []).getD j 0)],o,f)=b:=⟨_,rfl⟩;rw[hb]at hbs hlen hfst;rw[hb];obtain⟨b1,b2,b3⟩:=b;replace hfst:b1=[]:=hfst;subst hfst;dsimp only[bat,Fq,Cx,E6,Db,Fv,B3,Aq,Ic,List.length_cons,List.length_nil,List.cons_append,List.nil_append,Nat.reduceAdd,Nat.reduceSub];refine(aO ?_);refine eI ((j+1,[],b2,b3)) (eI ([some 0,some 1,some 2,some 3,some 4,some 5,some 6,some 7,some 13,none]) (aI ?_ (aI ?_ (aB (aI (aJ (aJ (aB tT))) (by rfl))))))
  ·refine⟨hj', ?_,by show b2.length<=j+1;have h:b2.length<=o.length+1:=hlen;omega,aV _,λx h=>by simp at h⟩;show _=((ins.getD 0 []).take (j+1)).foldl _ _;rw[hnx hj',hbs]
  ·show(ins.getD 0 []).length-(j+1)<(ins.getD 0 []).length-j;omega
 ·have hj':j<(ins.getD 0 []).length:=by simpa using m0
  have hbs:Bp z (d,o,f) ((ins.getD 0 []).getD j 0)=(d++[((ins.getD 0 []).getD j 0)],o,f):=by
   dsimp only[Bp];rw[aL (by rw[show decide (((d++[((ins.getD 0 []).getD j 0)]).length:Int)=z)=false from m2];simp)]
  refine eI ((j+1,d++[((ins.getD 0 []).getD j 0)],o,f)) (eI ([some 0,some 1,some 2,some 3,some 4,some 5,some 6,some 7,some 8,some 12]) (aI ?_ (aI ?_ (aB (aI (aJ (aJ (aB tT))) (by rfl))))))
  ·refine⟨hj', ?_,by show o.length<=j+1;omega,by show(d++[_]).length<=j+1;simp;omega,hin3 hj'⟩;show _=((ins.getD 0 []).take (j+1)).foldl _ _;rw[hnx hj',hbs]
  ·show(ins.getD 0 []).length-(j+1)<(ins.getD 0 []).length-j;omega
 ·have hbr:Cf (d,o,f)=Fx (d,o,f):=by
   dsimp only[Cf];rw[aP (show decide (0<(d.length:Int))=true from m4)]
  refine eI [.ptr 0 0] (eI [bat z ek eo em ev ea l (.own 3) f,.cells [.own 2],.rows tI o,.rows tI d] (eI (.tup []) (eI [bat z ek eo em ev ea l .cap0 (Fx (d,o,f)).2.2,.cells [.own 4],.dead,.rows tI d,.rows tI (Fx (d,o,f)).2.1] (eI [some 6,some 5,some 8,some 9]
   ⟨⟨z,ek,eo,em,ev,ea,l,d,o,f,hd1,hin2,by omega,rfl,rfl,rfl,rfl,rfl⟩,⟨by rfl,by rfl,⟨⟨by rfl,by rfl⟩,⟨by rfl,by rfl⟩,by rfl,by rfl,trivial⟩,by rfl⟩,by rfl, ?_⟩))))
  obtain⟨b,hb⟩:∃b,Fx (d,o,f)=b:=⟨_,rfl⟩;rw[hb]at hbr;rw[hb];obtain⟨b1,b2,b3⟩:=b;dsimp only[bat,Fq,Cx,E6,Db,Fv,B3,Aq,Ic,List.length_cons,List.length_nil,List.cons_append,List.nil_append,Nat.reduceAdd,Nat.reduceSub];have run:Cj (4,z,ExprT.mk ek eo em ev ea,l) ins=([b2],b3):=by
   show([(Cf ((ins.getD 0 []).foldl (Bp z) ([],[],0))).2.1],(Cf ((ins.getD 0 []).foldl (Bp z) ([],[],0))).2.2)=_;rw[hen m0,hbr]
  refine(aI (λw0=>(aF (Aa rfl ?_))) (λw0=>(aI tT (aI (λw1=>(Aa rfl ?_)) (λw1=>(Aa rfl ?_))))))
  ·exact(Ahs ‹_› ‹_› hs0 (by rw[run];exact w0)).trans (by rw[run])
  ·exact Vb ‹_› ‹_› hs0 (by rw[run];exact w0) (by rw[run];exact w1)
  ·exact(Uj ‹_› ‹_› hs0 (by rw[run];exact w0) (by rw[run];exact w1)).trans (by rw[run])
 ·skip
  have run:Cj (4,z,ExprT.mk ek eo em ev ea,l) ins=([o],f):=by
   show([(Cf ((ins.getD 0 []).foldl (Bp z) ([],[],0))).2.1],(Cf ((ins.getD 0 []).foldl (Bp z) ([],[],0))).2.2)=_;have hbr:Cf (d,o,f)=(d,o,f):=by
    dsimp only[Cf];rw[aL (by rw[show decide (0<(d.length:Int))=false from m4];simp)]
   rw[hen m0,hbr]
  exact(Ahs ‹_› ‹_› hs0 (by rw[run];exact m5)).trans (by rw[run])
 ·skip
  have run:Cj (4,z,ExprT.mk ek eo em ev ea,l) ins=([o],f):=by
   show([(Cf ((ins.getD 0 []).foldl (Bp z) ([],[],0))).2.1],(Cf ((ins.getD 0 []).foldl (Bp z) ([],[],0))).2.2)=_;have hbr:Cf (d,o,f)=(d,o,f):=by
    dsimp only[Cf];rw[aL (by rw[show decide (0<(d.length:Int))=false from m4];simp)]
   rw[hen m0,hbr]
  exact Vb ‹_› ‹_› hs0 (by rw[run];exact m5) (by rw[run];exact m6)
 ·skip
  have run:Cj (4,z,ExprT.mk ek eo em ev ea,l) ins=([o],f):=by
   show([(Cf ((ins.getD 0 []).foldl (Bp z) ([],[],0))).2.1],(Cf ((ins.getD 0 []).foldl (Bp z) ([],[],0))).2.2)=_;have hbr:Cf (d,o,f)=(d,o,f):=by
    dsimp only[Cf];rw[aL (by rw[show decide (0<(d.length:Int))=false from m4];simp)]
   rw[hen m0,hbr]
  exact(Uj ‹_› ‹_› hs0 (by rw[run];exact m5) (by rw[run];exact m6)).trans (by rw[run])
def c13:Ctr:=fnC [dSt,Aaj] Afb (λ_=>True) (λy=>((Ar y.1 y.2.1).1,(Ar y.1 y.2.1).2,()))
theorem Aof(z ek eo:Int)(em:ByteArray)(ev:Int)(ea:List ExprT)(l:List Int)(ins:List (List Int))(k:Int)(hk:1<=k/\k<=10)(hn:(ins.length:Int)≠(Ap k).1):
 Ba cxM Tryz.prog (Ba cxM Tryz.prog noS) 16 (G4 [dSt,Aaj] ((k,z,ExprT.mk ek eo em ev ea,l),ins,())) [] 0 (H0 ⟨none,none,[],Fu Afb ((Ar (k,z,ExprT.mk ek eo em ev ea,l) ins).1,(Ar (k,z,ExprT.mk ek eo em ev ea,l) ins).2,())⟩):=by
 have ab:∀n:Int,(Ap k).1=n->(!decide ((ins.length:Int)=n))=false->False:=λn h h'=>hn (by rw[h];simpa using h')
 have h:=G6 hk;clear hk hn;rcases h with rfl|rfl|rfl|rfl|rfl|rfl|rfl|rfl|rfl|rfl
 ·refine(aF (aI tT (aI (λh0=>(Aa rfl (by first|exact D0 ‹_› |exact D9 ‹_› ‹_›))) (λh0=>(aA (λh1=>(aI (λh2=>(Aa rfl (by first|exact D0 ‹_› |exact D9 ‹_› ‹_›))) (λh2=>(λh3=>?_)))))))));exact(ab _ rfl h2).elim
 ·refine(aF (aI tT (aI (λh0=>(Aa rfl (by first|exact D0 ‹_› |exact D9 ‹_› ‹_›))) (λh0=>(aA (λh1=>(aI (λh2=>(Aa rfl (by first|exact D0 ‹_› |exact D9 ‹_› ‹_›))) (λh2=>(λh3=>?_)))))))));exact(ab _ rfl h2).elim
 ·refine(aF (aI tT (aI (λh0=>(Aa rfl (by first|exact D0 ‹_› |exact D9 ‹_› ‹_›))) (λh0=>(aA (λh1=>(aI (λh2=>(Aa rfl (by first|exact D0 ‹_› |exact D9 ‹_› ‹_›))) (λh2=>(λh3=>?_)))))))));exact(ab _ rfl h2).elim
 ·refine(aF (aI tT (aI (λh0=>(Aa rfl (by first|exact D0 ‹_› |exact D9 ‹_› ‹_›))) (λh0=>(aA (λh1=>(aI (λh2=>(Aa rfl (by first|exact D0 ‹_› |exact D9 ‹_› ‹_›))) (λh2=>(λh3=>?_)))))))));exact(ab _ rfl h2).elim
 ·refine(aF (aI tT (aI (λh0=>(Aa rfl (by first|exact D0 ‹_› |exact D9 ‹_› ‹_›))) (λh0=>(aA (λh1=>(aI (λh2=>(Aa rfl (by first|exact D0 ‹_› |exact D9 ‹_› ‹_›))) (λh2=>(λh3=>?_)))))))));exact(ab _ rfl h2).elim
 ·refine(aF (aI tT (aI (λh0=>(Aa rfl (by first|exact D0 ‹_› |exact D9 ‹_› ‹_›))) (λh0=>(aA (λh1=>(aI (λh2=>(Aa rfl (by first|exact D0 ‹_› |exact D9 ‹_› ‹_›))) (λh2=>(λh3=>?_)))))))));exact(ab _ rfl h2).elim
 ·refine(aF (aI tT (aI (λh0=>(Aa rfl (by first|exact D0 ‹_› |exact D9 ‹_› ‹_›))) (λh0=>(aA (λh1=>(aI (λh2=>(Aa rfl (by first|exact D0 ‹_› |exact D9 ‹_› ‹_›))) (λh2=>(λh3=>?_)))))))));exact(ab _ rfl h2).elim
 ·refine(aF (aI tT (aI (λh0=>(Aa rfl (by first|exact D0 ‹_› |exact D9 ‹_› ‹_›))) (λh0=>(aA (λh1=>(aI (λh2=>(Aa rfl (by first|exact D0 ‹_› |exact D9 ‹_› ‹_›))) (λh2=>(λh3=>?_)))))))));exact(ab _ rfl h2).elim
 ·refine(aF (aI tT (aI (λh0=>(Aa rfl (by first|exact D0 ‹_› |exact D9 ‹_› ‹_›))) (λh0=>(aA (λh1=>(aI (λh2=>(Aa rfl (by first|exact D0 ‹_› |exact D9 ‹_› ‹_›))) (λh2=>(λh3=>?_)))))))));exact(ab _ rfl h2).elim
 ·refine(aF (aI tT (aI (λh0=>(Aa rfl (by first|exact D0 ‹_› |exact D9 ‹_› ‹_›))) (λh0=>(aA (λh1=>(aI (λh2=>(Aa rfl (by first|exact D0 ‹_› |exact D9 ‹_› ‹_›))) (λh2=>(λh3=>?_)))))))));exact(ab _ rfl h2).elim
theorem Arc:GoodC Tryz.prog 16 c13:=by
 refine Wl _ _ _ _ ⟨_,Tryz.func16,rfl,rfl⟩ λ(⟨⟨k,z,⟨ek,eo,em,ev,ea⟩,l⟩,ins,_⟩:StT×List (List Int)×Unit) _=>?_
 by_cases hc:Al (k,z,ExprT.mk ek eo em ev ea,l)=0
 ·have hk:=B1 hc;by_cases hn:(ins.length:Int)=(Ap k).1
  ·have h:=G6 hk;clear hk;rcases h with rfl|rfl|rfl|rfl|rfl|rfl|rfl|rfl|rfl|rfl
   ·exact Akr z _ l ins hc hn
   ·exact Aks z _ l ins hc hn
   ·exact Akt z _ l ins hc hn
   ·exact Ak1 z _ l ins hc hn
   ·exact Aku z _ l ins hc hn
   ·exact Akv z _ l ins hc hn
   ·exact Aky z _ l ins hc hn
   ·exact Akw z _ l ins hc hn
   ·exact Akz z _ l ins hc hn
   ·exact Ahu z _ l ins hc hn
  ·exact⟨_,Af Cn (Af Cn Bl),Aof z ek eo em ev ea l ins k hk hn⟩
 ·refine⟨_,Af Hk Bl, ?_⟩;have ab:(!decide (Al (k,z,ExprT.mk ek eo em ev ea,l)=0))=false->False:=λh=>hc (by simpa using h)
  refine(aF (aI tT (aI (λh0=>(Aa rfl (by exact D0 ‹_›))) (λh0=>?_))));exact(ab h0).elim
end Go.Proofs.YtpabcdbaffjcdaaGreat
