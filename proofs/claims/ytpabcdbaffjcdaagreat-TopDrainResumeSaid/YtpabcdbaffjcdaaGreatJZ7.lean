/- Pipelines. -/
import Derived.Test.YtpabcdbaffjcdaaGreatJZ6
set_option linter.unusedSimpArgs false
set_option linter.unusedVariables false
set_option maxRecDepth 100000
namespace Go.Proofs.YtpabcdbaffjcdaaGreat
open Go.Sx
theorem Vc{α:Type}{xs ys:List α}{i:Nat}{d:α}(h1:i<xs.length)(h2:i<ys.length)(h:xs.take i=ys.take i)(hd:xs.getD i d=ys.getD i d):xs.take (i+1)=ys.take (i+1):=Jr h1 h2 h hd
def c47:Ctr:=fnC [dIs,dIs] rB (λ_=>True) (λy=>(decide (y.1=y.2.1),()))
theorem Ard:GoodC Tryz.prog 30 c47:=by
 refine Au Ah 3 _ _ _ _ ⟨_,Tryz.func30,rfl,rfl⟩ λ(⟨xs,ys,_⟩:List Int×List Int×Unit) _=>?_
 refine(aF (λh0=>(λh1=>(aI (λh2=>(Aa rfl ?_)) (λh2=>?_)))))
 ·have hl:xs≠ys:=λe=>by
   have h:(!decide ((xs.length:Int)=(ys.length:Int)))=true:=h2;rw[e]at h;simp at h
  show(decide (xs=ys),())=(false,());rw[bE hl]
 have hl:xs.length=ys.length:=by
  have h:(!decide ((xs.length:Int)=(ys.length:Int)))=false:=h2;have:(xs.length:Int)=ys.length:=by simpa using h
  omega
 refine ex4 _ (λi:Nat=>⟨[.sl (.int .i64) xs,.sl (.int .i64) ys,.any,.any,.any,.int .i64 (i:Int)]++nA 20,[],0⟩) (λi=>i<=xs.length/\xs.take i=ys.take i) (λi=>xs.length-i) (aI (eI (0) (eI ([]) (aI ?_ (aB (aI tT (by rfl)))))) ?_)
 ·simp
 rintro i ⟨hi,ht⟩;refine(λk0=>(aI (λk1=>(aF (aO (aO (aI (λk2=>(Aa rfl ?_)) (λk2=>(aO ?_))))))) (λk1=>(Aa rfl ?_))))
 ·have hi':i<xs.length:=by simpa using k1
  have hk:¬xs.getD i (Ab tI)=ys.getD i (Ab tI):=by have h:=k2;simpa using h
  have hne:xs≠ys:=λe=>hk (by rw[e])
  show(decide (xs=ys),())=(false,());rw[bE hne]
 ·have hi':i<xs.length:=by simpa using k1
  have hk:xs.getD i (Ab tI)=ys.getD i (Ab tI):=by have h:=k2;simpa using h
  refine eI (i+1) (eI ([]) (aI ?_ (aI ?_ (aB (aI tT (by rfl))))))
  ·exact⟨hi',Jr hi' (hl ▸ hi') ht hk⟩
  ·show xs.length-(i+1)<xs.length-i;omega
 ·have hi':¬i<xs.length:=by simpa using k1
  have he:xs=ys:=by
   rw[bL (by omega),bL (by omega)]at ht;exact ht
  show(decide (xs=ys),())=(true,());rw[aX he]
def cxO1:Ctx:=⟨Dk,[(30,([],c47))]⟩
theorem Ahw:Ai Tryz.prog cxO1:=Ae Ard Ah
def c14:Ctr:=fnC [Aaj,Aaj] rB (λ_=>True) (λy=>(decide (y.1=y.2.1),()))
theorem Are:GoodC Tryz.prog 12 c14:=by
 refine Au Ahw 3 _ _ _ _ ⟨_,Tryz.func12,rfl,rfl⟩ λ(⟨xs,ys,_⟩:List (List Int)×List (List Int)×Unit) _=>?_
 refine(aF (λh0=>(λh1=>(aI (λh2=>(Aa rfl ?_)) (λh2=>?_)))))
 ·have hl:xs≠ys:=λe=>by
   have h:(!decide ((xs.length:Int)=(ys.length:Int)))=true:=h2;rw[e]at h;simp at h
  show(decide (xs=ys),())=(false,());rw[bE hl]
 have hl:xs.length=ys.length:=by
  have h:(!decide ((xs.length:Int)=(ys.length:Int)))=false:=h2;have:(xs.length:Int)=ys.length:=by simpa using h
  omega
 refine ex4 _ (λi:Nat=>⟨[.sl (.sl (.int .i64)) xs,.sl (.sl (.int .i64)) ys,.any,.any,.any,.int .i64 (i:Int)]++nA 21,[],0⟩) (λi=>i<=xs.length/\xs.take i=ys.take i) (λi=>xs.length-i) (aI (eI (0) (eI ([]) (aI ?_ (aB (aI tT (by rfl)))))) ?_)
 ·simp
 rintro i ⟨hi,ht⟩;refine(λk0=>(aI (λk1=>(aF (aO (aO (aI tT (aI (λk2=>(Aa rfl ?_)) (λk2=>(aO ?_)))))))) (λk1=>(Aa rfl ?_))))
 ·have hi':i<xs.length:=by simpa using k1
  have hk:¬xs.getD i (Ab tIs)=ys.getD i (Ab tIs):=by
   have h:(!decide (xs.getD i (Ab tIs)=ys.getD i (Ab tIs)))=true:=k2;simpa using h
  have hne:xs≠ys:=λe=>hk (by rw[e])
  show(decide (xs=ys),())=(false,());rw[bE hne]
 ·have hi':i<xs.length:=by simpa using k1
  have hk:xs.getD i (Ab tIs)=ys.getD i (Ab tIs):=by
   have h:(!decide (xs.getD i (Ab tIs)=ys.getD i (Ab tIs)))=false:=k2;simpa using h
  refine eI (i+1) (eI ([]) (aI ?_ (aI ?_ (aB (aI tT (by rfl))))))
  ·exact⟨hi',Jr hi' (hl ▸ hi') ht hk⟩
  ·show xs.length-(i+1)<xs.length-i;omega
 ·have hi':¬i<xs.length:=by simpa using k1
  have he:xs=ys:=by
   rw[bL (by omega),bL (by omega)]at ht;exact ht
  show(decide (xs=ys),())=(true,());rw[aX he]
theorem X9{f g:Int}(h:Lg f g=0):f=0/\g=0:=by
 unfold Lg at h;split at h
 ·rename_i h1;exact⟨aM h1,h⟩
 ·rename_i h1;exact aT h (by simpa using h1)
def Aa3(e:ExprT)(a:Int):Int:=(evX e nmX a 0).1
def Qn(e:ExprT)(a:Int):Int:=(evX e nmX a 0).2
theorem Uk(e:ExprT):∀(l o:List Int)(f:Int),(l.foldl (I5 e) (o,f)).2=0<->(f=0/\∀a∈l,Qn e a=0)
 |[],o,f=>by simp
 |a::l,o,f=>by
  rw[cM];show(l.foldl (I5 e) (_,Lg f (Qn e a))).2=0<->_;rw[Uk e l];constructor
  ·rintro⟨h1,h2⟩;obtain⟨h3,h4⟩:=X9 h1;exact⟨h3,by simp only[cT];rintro b (rfl|h);exact h4;exact h2 b h⟩
  ·rintro⟨h1,h2⟩;refine⟨by rw[h1,h2 a (by simp)];rfl,λb hb=>h2 b (by simp[hb])⟩
theorem Afg(e:ExprT):∀(l o:List Int),(∀a∈l,Qn e a=0)->l.foldl (I5 e) (o,0)=(o++l.map (Aa3 e),0)
 |[],o,_=>by simp
 |a::l,o,h=>by
  have ha:(evX e nmX a 0).2=0:=h a (by simp);have hs:I5 e (o,0) a=(o++[Aa3 e a],0):=by
   dsimp only[I5];rw[ha];rfl
  rw[cM,hs,Afg e l _ (λb hb=>h b (by simp[hb]))];simp
theorem Ul(e:ExprT):∀(l o:List Int)(f:Int),(l.foldl (H6 e) (o,f)).2=0<->(f=0/\∀a∈l,Qn e a=0)
 |[],o,f=>by simp
 |a::l,o,f=>by
  rw[cM];show(l.foldl (H6 e) (_,Lg f (Qn e a))).2=0<->_;rw[Ul e l];constructor
  ·rintro⟨h1,h2⟩;obtain⟨h3,h4⟩:=X9 h1;exact⟨h3,by simp only[cT];rintro b (rfl|h);exact h4;exact h2 b h⟩
  ·rintro⟨h1,h2⟩;refine⟨by rw[h1,h2 a (by simp)];rfl,λb hb=>h2 b (by simp[hb])⟩
def Ep(e:ExprT)(a:Int):Bool:=decide (Aa3 e a=1)
theorem Ya(e:ExprT):∀(l o:List Int),(∀a∈l,Qn e a=0)->l.foldl (H6 e) (o,0)=(o++l.filter (Ep e),0)
 |[],o,_=>by simp
 |a::l,o,h=>by
  have ha:(evX e nmX a 0).2=0:=h a (by simp);have hs:H6 e (o,0) a=(if Ep e a=true then o++[a]else o,0):=by
   dsimp only[H6];rw[ha];rfl
  rw[cM,hs];by_cases hk:Ep e a=true
  ·rw[aP hk,Ya e l _ (λb hb=>h b (by simp[hb])),gI hk];simp
  ·rw[aL hk,Ya e l _ (λb hb=>h b (by simp[hb])),gJ hk]
theorem Um(e:ExprT):∀(l o q:List Int)(f:Int),(l.foldl (Gx e) (o,q,f)).2.2=0<->(f=0/\∀a∈l,Qn e a=0)
 |[],o,q,f=>by simp
 |a::l,o,q,f=>by
  rw[cM];show(l.foldl (Gx e) (_,_,Lg f (Qn e a))).2.2=0<->_;rw[Um e l];constructor
  ·rintro⟨h1,h2⟩;obtain⟨h3,h4⟩:=X9 h1;exact⟨h3,by simp only[cT];rintro b (rfl|h);exact h4;exact h2 b h⟩
  ·rintro⟨h1,h2⟩;refine⟨by rw[h1,h2 a (by simp)];rfl,λb hb=>h2 b (by simp[hb])⟩
theorem Yb(e:ExprT):∀(l o q:List Int),(∀a∈l,Qn e a=0)->l.foldl (Gx e) (o,q,0)=(o++l.filter (Ep e),q++l.filter (λa=>!Ep e a),0)
 |[],o,q,_=>by simp
 |a::l,o,q,h=>by
  have ha:(evX e nmX a 0).2=0:=h a (by simp);have hs:Gx e (o,q,0) a=(if Ep e a=true then o++[a]else o,if Ep e a=true then q else q++[a],0):=by
   dsimp only[Gx];rw[ha];rfl
  rw[cM,hs];by_cases hk:Ep e a=true
  ·rw[aP hk,aP hk,Yb e l _ _ (λb hb=>h b (by simp[hb])),gI hk,gJ (by simp[hk])];simp
  ·rw[aL hk,aL hk,Yb e l _ _ (λb hb=>h b (by simp[hb])),gJ hk,gI (by simpa using hk)];simp
theorem Afh(z:Int):∀(l o:List Int),l.foldl (Ui z) o=o++l.flatMap (λa=>List.replicate z.toNat a)
 |[],o=>by simp
 |a::l,o=>by
  rw[cM,Afh z l];simp[Ui]
theorem Yc(z:Int):∀(l o:List Int)(c:Int),0<=c->c<=z->(l.foldl (Nh z) (o,c)).1=o++l.take (z-c).toNat
 |[],o,c,_,_=>by simp
 |a::l,o,c,h0,h1=>by
  rw[cM];by_cases hc:c<z
  ·have hs:Nh z (o,c) a=(o++[a],c+1):=by
    dsimp only[Nh];rw[aP (aX hc)]
   rw[hs,Yc z l _ _ (by omega) (by omega),show(z-c).toNat=(z-(c+1)).toNat+1 by omega];simp
  ·have hs:Nh z (o,c) a=(o,c):=by
    dsimp only[Nh];rw[aL (by simpa using hc)]
   rw[hs,Yc z l _ _ h0 h1,show(z-c).toNat=0 by omega];simp
def Arf(e:ExprT)(a b:Int):Int:=(evX e D8 a b).1
def Ak2(e:ExprT)(a b:Int):Int:=(evX e D8 a b).2
theorem Aa4(e:ExprT)(a b:List Int):∀n:Nat,((List.range n).foldl (I6 e a b) ([],0)).2=0->(∀i,i<n->Ak2 e (a.getD i 0) (b.getD i 0)=0)
 |0,_,i,hi=>aT hi (eE _)
 |n+1,h,i,hi=>by
  rw[dL,dO]at h;have h':Lg ((List.range n).foldl (I6 e a b) ([],0)).2 (Ak2 e (a.getD n 0) (b.getD n 0))=0:=h;obtain⟨h1,h2⟩:=X9 h';rcases Nat.lt_succ_iff_lt_or_eq.1 hi with h3|h3
  ·exact Aa4 e a b n h1 i h3
  ·rw[h3];exact h2
theorem Yd(e:ExprT)(a b:List Int):∀n:Nat,(∀i,i<n->Ak2 e (a.getD i 0) (b.getD i 0)=0)->(List.range n).foldl (I6 e a b) ([],0)=((List.range n).map (λi=>Arf e (a.getD i 0) (b.getD i 0)),0)
 |0,_=>rfl
 |n+1,h=>by
  rw[dL,dO,Yd e a b n (λi hi=>h i (by omega)),eL];have hn:(evX e D8 (a.getD n 0) (b.getD n 0)).2=0:=h n (by omega);show I6 e a b (_,0) n=_;dsimp only[I6];rw[hn];rfl
theorem Hq{x:StT}{ins:List (List Int)}(h:(Ar x ins).2=0):Al x=0/\(ins.length:Int)=(Ap x.1).1/\Bc ins=0/\(Cj x ins).2=0/\(Ar x ins).1=(Cj x ins).1/\(Cj x ins).1.any A5=false:=by
 by_cases h0:Al x=0
 ·have e0:(!decide (Al x=0))=false:=by rw[h0];rfl
  by_cases h1:(ins.length:Int)=(Ap x.1).1
  ·have e1:(!decide ((ins.length:Int)=(Ap x.1).1))=false:=by rw[aX h1];rfl
   by_cases h2:Bc ins=0
   ·have e2:(!decide (Bc ins=0))=false:=by rw[h2];rfl
    by_cases h3:(Cj x ins).2=0
    ·have e3:(!decide ((Cj x ins).2=0))=false:=by rw[h3];rfl
     cases h4:(Cj x ins).1.any A5 with
     |false=>exact⟨h0,h1,h2,h3,by rw[MN5 e0 e1 e2 e3 h4],rfl⟩
     |true=>rw[MN4 e0 e1 e2 e3 h4]at h;exact aT h (by decide)
    ·rw[MN3 e0 e1 e2 (by simpa using h3)]at h;exact aT h h3
   ·rw[MN2 e0 e1 (by simpa using h2)]at h;exact aT h h2
  ·rw[MN1 e0 (by simpa using h1)]at h;exact aT h (by decide)
 ·rw[MN0 (by simpa using h0)]at h;exact aT h h0
theorem Ak3{x:StT}{ins:List (List Int)}(h0:Al x=0)(h1:(ins.length:Int)=(Ap x.1).1)(h2:Bc ins=0)(h3:(Cj x ins).2=0)(h4:(Cj x ins).1.any A5=false):Ar x ins=((Cj x ins).1,0):=
 MN5 (by rw[h0];rfl) (by rw[aX h1];rfl) (by rw[h2];rfl) (by rw[h3];rfl) h4
theorem Afi:∀(d:List Int)(n f:Int),(d.foldl Et (n,f)).1=n+d.sum
 |[],n,f=>by simp
 |a::d,n,f=>by
  rw[cM];show(d.foldl Et (n+a,_)).1=_;rw[Afi d,hY];omega
theorem Afj:∀(d:List Int)(n f:Int),(d.foldl Et (n,f)).2=0->f=0
 |[],n,f,h=>h
 |a::d,n,f,h=>by
  rw[cM]at h;have h1:=Afj d _ _ h;split at h1
  ·exact aT h1 (by decide)
  ·exact h1
theorem Afk{d o:List Int}{f:Int}(h:(Fx (d,o,f)).2.2=0):f=0/\Fx (d,o,f)=([],o++[d.sum],0):=by
 have h1:(d.foldl Et (0,f)).2=0:=h;refine⟨Afj _ _ _ h1, ?_⟩;dsimp only[Fx];rw[h1,Afi,Int.zero_add];rfl
def E8(x:StT)(ins:List (List Int)):List (List Int):=
 if x.1=1 then[x.2.2.2]
 else if x.1=2 then[(ins.getD 0 []).map (Aa3 x.2.2.1)]
 else if x.1=3 then[(ins.getD 0 []).filter (Ep x.2.2.1)]
 else if x.1=4 then[(Cf ((ins.getD 0 []).foldl (Bp x.2.1) ([],[],0))).2.1]
 else if x.1=5 then[(ins.getD 0 []).flatMap (λa=>List.replicate x.2.1.toNat a)]
 else if x.1=6 then[(ins.getD 0 []).take x.2.1.toNat]
 else if x.1=7 then[(ins.getD 0 []).filter (Ep x.2.2.1),(ins.getD 0 []).filter (λa=>!Ep x.2.2.1 a)]
 else if x.1=8 then[Ed ((ins.getD 0 []).length+(ins.getD 1 []).length) (ins.getD 0 []) (ins.getD 1 [])]
 else if x.1=9 then[(List.range (min (ins.getD 0 []).length (ins.getD 1 []).length)).map (λi=>Arf x.2.2.1 ((ins.getD 0 []).getD i 0) ((ins.getD 1 []).getD i 0))]
 else[]
def Adf(x:StT)(ins:List (List Int)):Prop:=
 ((x.1=2\/x.1=3\/x.1=7)->∀a∈ins.getD 0 [],Qn x.2.2.1 a=0)/\(x.1=9->∀i,i<min (ins.getD 0 []).length (ins.getD 1 []).length->Ak2 x.2.2.1 ((ins.getD 0 []).getD i 0) ((ins.getD 1 []).getD i 0)=0)/\
   (x.1=4->(Cf ((ins.getD 0 []).foldl (Bp x.2.1) ([],[],0))).2.2=0)
theorem Ye{x:StT}{ins:List (List Int)}(hk:1<=x.1/\x.1<=10)(hz:0<=x.2.1):((Cj x ins).2=0<->Adf x ins)/\(Adf x ins->Cj x ins=(E8 x ins,0)):=by
 obtain⟨k,z,e,l⟩:=x;replace hk:1<=k/\k<=10:=hk;replace hz:0<=z:=hz;rcases G6 hk with rfl|rfl|rfl|rfl|rfl|rfl|rfl|rfl|rfl|rfl
 ·refine⟨⟨λ_=>⟨by simp,by simp,by simp⟩,λ_=>rfl⟩,λ_=>rfl⟩
 ·refine⟨⟨λh=>⟨λ_=>((Uk e _ _ _).1 h).2,by simp,by simp⟩,λh=>(Uk e _ _ _).2 ⟨rfl,h.1 (.inl rfl)⟩⟩,λh=>?_⟩;show([((ins.getD 0 []).foldl (I5 e) ([],0)).1],((ins.getD 0 []).foldl (I5 e) ([],0)).2)=_;rw[Afg e _ _ (h.1 (.inl rfl))];rfl
 ·refine⟨⟨λh=>⟨λ_=>((Ul e _ _ _).1 h).2,by simp,by simp⟩,λh=>(Ul e _ _ _).2 ⟨rfl,h.1 (.inr (.inl rfl))⟩⟩,λh=>?_⟩;show([((ins.getD 0 []).foldl (H6 e) ([],0)).1],((ins.getD 0 []).foldl (H6 e) ([],0)).2)=_;rw[Ya e _ _ (h.1 (.inr (.inl rfl)))];rfl
 ·refine⟨⟨λh=>⟨by simp,by simp,λ_=>h⟩,λh=>h.2.2 rfl⟩,λh=>?_⟩;have h4:=h.2.2 rfl;show([_],(Cf ((ins.getD 0 []).foldl (Bp z) ([],[],0))).2.2)=_;rw[show(Cf ((ins.getD 0 []).foldl (Bp z) ([],[],0))).2.2=0 from h4];rfl
 ·refine⟨⟨λ_=>⟨by simp,by simp,by simp⟩,λ_=>rfl⟩,λ_=>?_⟩;show([(ins.getD 0 []).foldl (Ui z) []],(0:Int))=_;rw[Afh];rfl
 ·refine⟨⟨λ_=>⟨by simp,by simp,by simp⟩,λ_=>rfl⟩,λ_=>?_⟩;show([((ins.getD 0 []).foldl (Nh z) ([],0)).1],(0:Int))=_;rw[Yc z _ _ _ (cO _) hz,Int.sub_zero];rfl
 ·refine⟨⟨λh=>⟨λ_=>((Um e _ _ _ _).1 h).2,by simp,by simp⟩,λh=>(Um e _ _ _ _).2 ⟨rfl,h.1 (.inr (.inr rfl))⟩⟩,λh=>?_⟩;show([((ins.getD 0 []).foldl (Gx e) ([],[],0)).1,((ins.getD 0 []).foldl (Gx e) ([],[],0)).2.1],((ins.getD 0 []).foldl (Gx e) ([],[],0)).2.2)=_;rw[Yb e _ _ _ (h.1 (.inr (.inr rfl)))];rfl
 ·refine⟨⟨λ_=>⟨by simp,by simp,by simp⟩,λ_=>rfl⟩,λ_=>rfl⟩
 ·refine⟨⟨λh=>⟨by simp,λ_=>Aa4 e _ _ _ h,by simp⟩,λh=>?_⟩,λh=>?_⟩
  ·show((List.range (min (ins.getD 0 []).length (ins.getD 1 []).length)).foldl (I6 e (ins.getD 0 []) (ins.getD 1 [])) ([],0)).2=0;rw[Yd e _ _ _ (h.2.1 rfl)]
  ·show([((List.range (min (ins.getD 0 []).length (ins.getD 1 []).length)).foldl (I6 e (ins.getD 0 []) (ins.getD 1 [])) ([],0)).1],((List.range (min (ins.getD 0 []).length (ins.getD 1 []).length)).foldl (I6 e (ins.getD 0 []) (ins.getD 1 [])) ([],0)).2)=_;rw[Yd e _ _ _ (h.2.1 rfl)];rfl
 ·refine⟨⟨λ_=>⟨by simp,by simp,by simp⟩,λ_=>rfl⟩,λ_=>rfl⟩
theorem Cy{x:StT}{ins:List (List Int)}:(Ar x ins).2=0<->(Al x=0/\(ins.length:Int)=(Ap x.1).1/\Bc ins=0/\Adf x ins/\(E8 x ins).any A5=false):=by
 constructor
 ·intro h;obtain⟨h0,h1,h2,h3,h4,h5⟩:=Hq h;have hr:=Ye (ins:=ins) (B1 h0) (Ax h0).1;have hc:=hr.1.1 h3;rw[hr.2 hc]at h5;exact⟨h0,h1,h2,hc,h5⟩
 ·rintro⟨h0,h1,h2,h3,h4⟩;have hr:=Ye (ins:=ins) (B1 h0) (Ax h0).1;rw[Ak3 h0 h1 h2 (hr.1.2 h3) (by rw[hr.2 h3];exact h4)]
theorem Sk{x:StT}{ins:List (List Int)}(h:(Ar x ins).2=0):Ar x ins=(E8 x ins,0):=by
 obtain⟨h0,h1,h2,h3,h4,h5⟩:=Hq h;have hr:=Ye (ins:=ins) (B1 h0) (Ax h0).1;refine Prod.ext ?_ h;rw[h4,hr.2 (hr.1.1 h3)]
end Go.Proofs.YtpabcdbaffjcdaaGreat
