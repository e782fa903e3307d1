/- Pipelines. -/
import Derived.Test.YtckpldpombdkgaaGreatEZ6
set_option linter.unusedSimpArgs false
set_option linter.unusedVariables false
set_option maxRecDepth 100000
namespace Go.Proofs.YtckpldpombdkgaaGreat
open Go.Sx
theorem Vm{α:Type}{xs ys:List α}{i:Nat}{d:α}(h1:i<xs.length)(h2:i<ys.length)(h:xs.take i=ys.take i)(hd:xs.getD i d=ys.getD i d):xs.take (i+1)=ys.take (i+1):=Jw h1 h2 h hd
def c47:Ctr:=fnC [dIs,dIs] rB (λ_=>True) (λy=>(decide (y.1=y.2.1),()))
theorem Ara:GoodC Tryz.prog 55 c47:=by
 refine As Ah 3 _ _ _ _ ⟨_,Tryz.func55,rfl,rfl⟩ λ(⟨xs,ys,_⟩:List Int×List Int×Unit) _=>?_
 refine(aF (λh0=>(λh1=>(aI (λh2=>(Aa rfl ?_)) (λh2=>?_)))))
 ·have hl:xs≠ys:=λe=>by
   have h:(!decide ((xs.length:Int)=(ys.length:Int)))=true:=h2;rw[e]at h;simp at h
  show(decide (xs=ys),())=(false,());rw[aZ hl]
 have hl:xs.length=ys.length:=by
  have h:(!decide ((xs.length:Int)=(ys.length:Int)))=false:=h2;have:(xs.length:Int)=ys.length:=by simpa using h
  omega
 refine ex4 _ (λi:Nat=>⟨[.sl (.int .i64) xs,.sl (.int .i64) ys,.any,.any,.any,.int .i64 (i:Int)]++nA 20,[],0⟩) (λi=>i<=xs.length/\xs.take i=ys.take i) (λi=>xs.length-i) (aI (eI (0) (eI ([]) (aI ?_ (aB (aI tT (by rfl)))))) ?_)
 ·simp
 rintro i ⟨hi,ht⟩;refine(λk0=>(aI (λk1=>(aF (aO (aO (aI (λk2=>(Aa rfl ?_)) (λk2=>(aO ?_))))))) (λk1=>(Aa rfl ?_))))
 ·have hi':i<xs.length:=by simpa using k1
  have hk:¬xs.getD i (Ab tI)=ys.getD i (Ab tI):=by have h:=k2;simpa using h
  have hne:xs≠ys:=λe=>hk (by rw[e])
  show(decide (xs=ys),())=(false,());rw[aZ hne]
 ·have hi':i<xs.length:=by simpa using k1
  have hk:xs.getD i (Ab tI)=ys.getD i (Ab tI):=by have h:=k2;simpa using h
  refine eI (i+1) (eI ([]) (aI ?_ (aI ?_ (aB (aI tT (by rfl))))))
  ·exact⟨hi',Jw hi' (hl ▸ hi') ht hk⟩
  ·show xs.length-(i+1)<xs.length-i;omega
 ·have hi':¬i<xs.length:=by simpa using k1
  have he:xs=ys:=by
   rw[bL (by omega),bL (by omega)]at ht;exact ht
  show(decide (xs=ys),())=(true,());rw[aW he]
def cxO1:Ctx:=⟨Dp,[(55,([],c47))]⟩
theorem Ahz:Aj Tryz.prog cxO1:=Ad Ara Ah
def c14:Ctr:=fnC [X8,X8] rB (λ_=>True) (λy=>(decide (y.1=y.2.1),()))
theorem Ak7:GoodC Tryz.prog 23 c14:=by
 refine As Ahz 3 _ _ _ _ ⟨_,Tryz.func23,rfl,rfl⟩ λ(⟨xs,ys,_⟩:List (List Int)×List (List Int)×Unit) _=>?_
 refine(aF (λh0=>(λh1=>(aI (λh2=>(Aa rfl ?_)) (λh2=>?_)))))
 ·have hl:xs≠ys:=λe=>by
   have h:(!decide ((xs.length:Int)=(ys.length:Int)))=true:=h2;rw[e]at h;simp at h
  show(decide (xs=ys),())=(false,());rw[aZ hl]
 have hl:xs.length=ys.length:=by
  have h:(!decide ((xs.length:Int)=(ys.length:Int)))=false:=h2;have:(xs.length:Int)=ys.length:=by simpa using h
  omega
 refine ex4 _ (λi:Nat=>⟨[.sl (.sl (.int .i64)) xs,.sl (.sl (.int .i64)) ys,.any,.any,.any,.int .i64 (i:Int)]++nA 21,[],0⟩) (λi=>i<=xs.length/\xs.take i=ys.take i) (λi=>xs.length-i) (aI (eI (0) (eI ([]) (aI ?_ (aB (aI tT (by rfl)))))) ?_)
 ·simp
 rintro i ⟨hi,ht⟩;refine(λk0=>(aI (λk1=>(aF (aO (aO (aI tT (aI (λk2=>(Aa rfl ?_)) (λk2=>(aO ?_)))))))) (λk1=>(Aa rfl ?_))))
 ·have hi':i<xs.length:=by simpa using k1
  have hk:¬xs.getD i (Ab tIs)=ys.getD i (Ab tIs):=by
   have h:(!decide (xs.getD i (Ab tIs)=ys.getD i (Ab tIs)))=true:=k2;simpa using h
  have hne:xs≠ys:=λe=>hk (by rw[e])
  show(decide (xs=ys),())=(false,());rw[aZ hne]
 ·have hi':i<xs.length:=by simpa using k1
  have hk:xs.getD i (Ab tIs)=ys.getD i (Ab tIs):=by
   have h:(!decide (xs.getD i (Ab tIs)=ys.getD i (Ab tIs)))=false:=k2;simpa using h
  refine eI (i+1) (eI ([]) (aI ?_ (aI ?_ (aB (aI tT (by rfl))))))
  ·exact⟨hi',Jw hi' (hl ▸ hi') ht hk⟩
  ·show xs.length-(i+1)<xs.length-i;omega
 ·have hi':¬i<xs.length:=by simpa using k1
  have he:xs=ys:=by
   rw[bL (by omega),bL (by omega)]at ht;exact ht
  show(decide (xs=ys),())=(true,());rw[aW he]
theorem Yl{f g:Int}(h:Lj f g=0):f=0/\g=0:=by
 unfold Lj at h;split at h
 ·rename_i h1;exact⟨aM h1,h⟩
 ·rename_i h1;exact aS h (by simpa using h1)
def Aba(e:ExprT)(a:Int):Int:=(evX e nmX a 0).1
def Qw(e:ExprT)(a:Int):Int:=(evX e nmX a 0).2
theorem Uv(e:ExprT):∀(l o:List Int)(f:Int),(l.foldl (I7 e) (o,f)).2=0<->(f=0/\∀a∈l,Qw e a=0)
 |[],o,f=>by simp
 |a::l,o,f=>by
  rw[cV];show(l.foldl (I7 e) (_,Lj f (Qw e a))).2=0<->_;rw[Uv e l];constructor
  ·rintro⟨h1,h2⟩;obtain⟨h3,h4⟩:=Yl h1;exact⟨h3,by simp only[cN];rintro b (rfl|h);exact h4;exact h2 b h⟩
  ·rintro⟨h1,h2⟩;refine⟨by rw[h1,h2 a (by simp)];rfl,λb hb=>h2 b (by simp[hb])⟩
theorem Afm(e:ExprT):∀(l o:List Int),(∀a∈l,Qw e a=0)->l.foldl (I7 e) (o,0)=(o++l.map (Aba e),0)
 |[],o,_=>by simp
 |a::l,o,h=>by
  have ha:(evX e nmX a 0).2=0:=h a (by simp);have hs:I7 e (o,0) a=(o++[Aba e a],0):=by
   dsimp only[I7];rw[ha];rfl
  rw[cV,hs,Afm e l _ (λb hb=>h b (by simp[hb]))];simp
theorem Uw(e:ExprT):∀(l o:List Int)(f:Int),(l.foldl (H6 e) (o,f)).2=0<->(f=0/\∀a∈l,Qw e a=0)
 |[],o,f=>by simp
 |a::l,o,f=>by
  rw[cV];show(l.foldl (H6 e) (_,Lj f (Qw e a))).2=0<->_;rw[Uw e l];constructor
  ·rintro⟨h1,h2⟩;obtain⟨h3,h4⟩:=Yl h1;exact⟨h3,by simp only[cN];rintro b (rfl|h);exact h4;exact h2 b h⟩
  ·rintro⟨h1,h2⟩;refine⟨by rw[h1,h2 a (by simp)];rfl,λb hb=>h2 b (by simp[hb])⟩
def El(e:ExprT)(a:Int):Bool:=decide (Aba e a=1)
theorem Ym(e:ExprT):∀(l o:List Int),(∀a∈l,Qw e a=0)->l.foldl (H6 e) (o,0)=(o++l.filter (El e),0)
 |[],o,_=>by simp
 |a::l,o,h=>by
  have ha:(evX e nmX a 0).2=0:=h a (by simp);have hs:H6 e (o,0) a=(if El e a=true then o++[a]else o,0):=by
   dsimp only[H6];rw[ha];rfl
  rw[cV,hs];by_cases hk:El e a=true
  ·rw[aN hk,Ym e l _ (λb hb=>h b (by simp[hb])),gJ hk];simp
  ·rw[aL hk,Ym e l _ (λb hb=>h b (by simp[hb])),gK hk]
theorem Ux(e:ExprT):∀(l o q:List Int)(f:Int),(l.foldl (Gv e) (o,q,f)).2.2=0<->(f=0/\∀a∈l,Qw e a=0)
 |[],o,q,f=>by simp
 |a::l,o,q,f=>by
  rw[cV];show(l.foldl (Gv e) (_,_,Lj f (Qw e a))).2.2=0<->_;rw[Ux e l];constructor
  ·rintro⟨h1,h2⟩;obtain⟨h3,h4⟩:=Yl h1;exact⟨h3,by simp only[cN];rintro b (rfl|h);exact h4;exact h2 b h⟩
  ·rintro⟨h1,h2⟩;refine⟨by rw[h1,h2 a (by simp)];rfl,λb hb=>h2 b (by simp[hb])⟩
theorem Yn(e:ExprT):∀(l o q:List Int),(∀a∈l,Qw e a=0)->l.foldl (Gv e) (o,q,0)=(o++l.filter (El e),q++l.filter (λa=>!El e a),0)
 |[],o,q,_=>by simp
 |a::l,o,q,h=>by
  have ha:(evX e nmX a 0).2=0:=h a (by simp);have hs:Gv e (o,q,0) a=(if El e a=true then o++[a]else o,if El e a=true then q else q++[a],0):=by
   dsimp only[Gv];rw[ha];rfl
  rw[cV,hs];by_cases hk:El e a=true
  ·rw[aN hk,aN hk,Yn e l _ _ (λb hb=>h b (by simp[hb])),gJ hk,gK (by simp[hk])];simp
  ·rw[aL hk,aL hk,Yn e l _ _ (λb hb=>h b (by simp[hb])),gK hk,gJ (by simpa using hk)];simp
theorem Afn(z:Int):∀(l o:List Int),l.foldl (Ut z) o=o++l.flatMap (λa=>List.replicate z.toNat a)
 |[],o=>by simp
 |a::l,o=>by
  rw[cV,Afn z l];simp[Ut]
theorem Yo(z:Int):∀(l o:List Int)(c:Int),0<=c->c<=z->(l.foldl (Nq z) (o,c)).1=o++l.take (z-c).toNat
 |[],o,c,_,_=>by simp
 |a::l,o,c,h0,h1=>by
  rw[cV];by_cases hc:c<z
  ·have hs:Nq z (o,c) a=(o++[a],c+1):=by
    dsimp only[Nq];rw[aN (aW hc)]
   rw[hs,Yo z l _ _ (by omega) (by omega),show(z-c).toNat=(z-(c+1)).toNat+1 by omega];simp
  ·have hs:Nq z (o,c) a=(o,c):=by
    dsimp only[Nq];rw[aL (by simpa using hc)]
   rw[hs,Yo z l _ _ h0 h1,show(z-c).toNat=0 by omega];simp
def Arb(e:ExprT)(a b:Int):Int:=(evX e D5 a b).1
def Ak8(e:ExprT)(a b:Int):Int:=(evX e D5 a b).2
theorem Abb(e:ExprT)(a b:List Int):∀n:Nat,((List.range n).foldl (I8 e a b) ([],0)).2=0->(∀i,i<n->Ak8 e (a.getD i 0) (b.getD i 0)=0)
 |0,_,i,hi=>aS hi (eF _)
 |n+1,h,i,hi=>by
  rw[dA,dK]at h;have h':Lj ((List.range n).foldl (I8 e a b) ([],0)).2 (Ak8 e (a.getD n 0) (b.getD n 0))=0:=h;obtain⟨h1,h2⟩:=Yl h';rcases Nat.lt_succ_iff_lt_or_eq.1 hi with h3|h3
  ·exact Abb e a b n h1 i h3
  ·rw[h3];exact h2
theorem Yp(e:ExprT)(a b:List Int):∀n:Nat,(∀i,i<n->Ak8 e (a.getD i 0) (b.getD i 0)=0)->(List.range n).foldl (I8 e a b) ([],0)=((List.range n).map (λi=>Arb e (a.getD i 0) (b.getD i 0)),0)
 |0,_=>rfl
 |n+1,h=>by
  rw[dA,dK,Yp e a b n (λi hi=>h i (by omega)),eG];have hn:(evX e D5 (a.getD n 0) (b.getD n 0)).2=0:=h n (by omega);show I8 e a b (_,0) n=_;dsimp only[I8];rw[hn];rfl
theorem Gw{x:StT}{ins:List (List Int)}(h:(Av x ins).2=0):Ap x=0/\(ins.length:Int)=(Aq x.1).1/\Bg ins=0/\(Ck x ins).2=0/\(Av x ins).1=(Ck x ins).1/\(Ck x ins).1.any A6=false:=by
 by_cases h0:Ap x=0
 ·have e0:(!decide (Ap x=0))=false:=by rw[h0];rfl
  by_cases h1:(ins.length:Int)=(Aq x.1).1
  ·have e1:(!decide ((ins.length:Int)=(Aq x.1).1))=false:=by rw[aW h1];rfl
   by_cases h2:Bg ins=0
   ·have e2:(!decide (Bg ins=0))=false:=by rw[h2];rfl
    by_cases h3:(Ck x ins).2=0
    ·have e3:(!decide ((Ck x ins).2=0))=false:=by rw[h3];rfl
     cases h4:(Ck x ins).1.any A6 with
     |false=>exact⟨h0,h1,h2,h3,by rw[MN5 e0 e1 e2 e3 h4],rfl⟩
     |true=>rw[MN4 e0 e1 e2 e3 h4]at h;exact aS h (by decide)
    ·rw[MN3 e0 e1 e2 (by simpa using h3)]at h;exact aS h h3
   ·rw[MN2 e0 e1 (by simpa using h2)]at h;exact aS h h2
  ·rw[MN1 e0 (by simpa using h1)]at h;exact aS h (by decide)
 ·rw[MN0 (by simpa using h0)]at h;exact aS h h0
theorem Ak9{x:StT}{ins:List (List Int)}(h0:Ap x=0)(h1:(ins.length:Int)=(Aq x.1).1)(h2:Bg ins=0)(h3:(Ck x ins).2=0)(h4:(Ck x ins).1.any A6=false):Av x ins=((Ck x ins).1,0):=
 MN5 (by rw[h0];rfl) (by rw[aW h1];rfl) (by rw[h2];rfl) (by rw[h3];rfl) h4
theorem Afo:∀(d:List Int)(n f:Int),(d.foldl En (n,f)).1=n+d.sum
 |[],n,f=>by simp
 |a::d,n,f=>by
  rw[cV];show(d.foldl En (n+a,_)).1=_;rw[Afo d,hU];omega
theorem Afp:∀(d:List Int)(n f:Int),(d.foldl En (n,f)).2=0->f=0
 |[],n,f,h=>h
 |a::d,n,f,h=>by
  rw[cV]at h;have h1:=Afp d _ _ h;split at h1
  ·exact aS h1 (by decide)
  ·exact h1
theorem Afq{d o:List Int}{f:Int}(h:(Fs (d,o,f)).2.2=0):f=0/\Fs (d,o,f)=([],o++[d.sum],0):=by
 have h1:(d.foldl En (0,f)).2=0:=h;refine⟨Afp _ _ _ h1, ?_⟩;dsimp only[Fs];rw[h1,Afo,Int.zero_add];rfl
def Id(x:StT)(ins:List (List Int)):List (List Int):=
 if x.1=1 then[x.2.2.2]
 else if x.1=2 then[(ins.getD 0 []).map (Aba x.2.2.1)]
 else if x.1=3 then[(ins.getD 0 []).filter (El x.2.2.1)]
 else if x.1=4 then[(Cf ((ins.getD 0 []).foldl (Br x.2.1) ([],[],0))).2.1]
 else if x.1=5 then[(ins.getD 0 []).flatMap (λa=>List.replicate x.2.1.toNat a)]
 else if x.1=6 then[(ins.getD 0 []).take x.2.1.toNat]
 else if x.1=7 then[(ins.getD 0 []).filter (El x.2.2.1),(ins.getD 0 []).filter (λa=>!El x.2.2.1 a)]
 else if x.1=8 then[Eb ((ins.getD 0 []).length+(ins.getD 1 []).length) (ins.getD 0 []) (ins.getD 1 [])]
 else if x.1=9 then[(List.range (min (ins.getD 0 []).length (ins.getD 1 []).length)).map (λi=>Arb x.2.2.1 ((ins.getD 0 []).getD i 0) ((ins.getD 1 []).getD i 0))]
 else[]
def Adf(x:StT)(ins:List (List Int)):Prop:=
 ((x.1=2\/x.1=3\/x.1=7)->∀a∈ins.getD 0 [],Qw x.2.2.1 a=0)/\(x.1=9->∀i,i<min (ins.getD 0 []).length (ins.getD 1 []).length->Ak8 x.2.2.1 ((ins.getD 0 []).getD i 0) ((ins.getD 1 []).getD i 0)=0)/\
   (x.1=4->(Cf ((ins.getD 0 []).foldl (Br x.2.1) ([],[],0))).2.2=0)
theorem Yq{x:StT}{ins:List (List Int)}(hk:1<=x.1/\x.1<=10)(hz:0<=x.2.1):((Ck x ins).2=0<->Adf x ins)/\(Adf x ins->Ck x ins=(Id x ins,0)):=by
 obtain⟨k,z,e,l⟩:=x;replace hk:1<=k/\k<=10:=hk;replace hz:0<=z:=hz;rcases G6 hk with rfl|rfl|rfl|rfl|rfl|rfl|rfl|rfl|rfl|rfl
 ·refine⟨⟨λ_=>⟨by simp,by simp,by simp⟩,λ_=>rfl⟩,λ_=>rfl⟩
 ·refine⟨⟨λh=>⟨λ_=>((Uv e _ _ _).1 h).2,by simp,by simp⟩,λh=>(Uv e _ _ _).2 ⟨rfl,h.1 (.inl rfl)⟩⟩,λh=>?_⟩;show([((ins.getD 0 []).foldl (I7 e) ([],0)).1],((ins.getD 0 []).foldl (I7 e) ([],0)).2)=_;rw[Afm e _ _ (h.1 (.inl rfl))];rfl
 ·refine⟨⟨λh=>⟨λ_=>((Uw e _ _ _).1 h).2,by simp,by simp⟩,λh=>(Uw e _ _ _).2 ⟨rfl,h.1 (.inr (.inl rfl))⟩⟩,λh=>?_⟩;show([((ins.getD 0 []).foldl (H6 e) ([],0)).1],((ins.getD 0 []).foldl (H6 e) ([],0)).2)=_;rw[Ym e _ _ (h.1 (.inr (.inl rfl)))];rfl
 ·refine⟨⟨λh=>⟨by simp,by simp,λ_=>h⟩,λh=>h.2.2 rfl⟩,λh=>?_⟩;have h4:=h.2.2 rfl;show([_],(Cf ((ins.getD 0 []).foldl (Br z) ([],[],0))).2.2)=_;rw[show(Cf ((ins.getD 0 []).foldl (Br z) ([],[],0))).2.2=0 from h4];rfl
 ·refine⟨⟨λ_=>⟨by simp,by simp,by simp⟩,λ_=>rfl⟩,λ_=>?_⟩;show([(ins.getD 0 []).foldl (Ut z) []],(0:Int))=_;rw[Afn];rfl
 ·refine⟨⟨λ_=>⟨by simp,by simp,by simp⟩,λ_=>rfl⟩,λ_=>?_⟩;show([((ins.getD 0 []).foldl (Nq z) ([],0)).1],(0:Int))=_;rw[Yo z _ _ _ (cJ _) hz,Int.sub_zero];rfl
 ·refine⟨⟨λh=>⟨λ_=>((Ux e _ _ _ _).1 h).2,by simp,by simp⟩,λh=>(Ux e _ _ _ _).2 ⟨rfl,h.1 (.inr (.inr rfl))⟩⟩,λh=>?_⟩;show([((ins.getD 0 []).foldl (Gv e) ([],[],0)).1,((ins.getD 0 []).foldl (Gv e) ([],[],0)).2.1],((ins.getD 0 []).foldl (Gv e) ([],[],0)).2.2)=_;rw[Yn e _ _ _ (h.1 (.inr (.inr rfl)))];rfl
 ·refine⟨⟨λ_=>⟨by simp,by simp,by simp⟩,λ_=>rfl⟩,λ_=>rfl⟩
 ·refine⟨⟨λh=>⟨by simp,λ_=>Abb e _ _ _ h,by simp⟩,λh=>?_⟩,λh=>?_⟩
  ·show((List.range (min (ins.getD 0 []).length (ins.getD 1 []).length)).foldl (I8 e (ins.getD 0 []) (ins.getD 1 [])) ([],0)).2=0;rw[Yp e _ _ _ (h.2.1 rfl)]
  ·show([((List.range (min (ins.getD 0 []).length (ins.getD 1 []).length)).foldl (I8 e (ins.getD 0 []) (ins.getD 1 [])) ([],0)).1],((List.range (min (ins.getD 0 []).length (ins.getD 1 []).length)).foldl (I8 e (ins.getD 0 []) (ins.getD 1 [])) ([],0)).2)=_;rw[Yp e _ _ _ (h.2.1 rfl)];rfl
 ·refine⟨⟨λ_=>⟨by simp,by simp,by simp⟩,λ_=>rfl⟩,λ_=>rfl⟩
theorem Eg{x:StT}{ins:List (List Int)}:(Av x ins).2=0<->(Ap x=0/\(ins.length:Int)=(Aq x.1).1/\Bg ins=0/\Adf x ins/\(Id x ins).any A6=false):=by
 constructor
 ·intro h;obtain⟨h0,h1,h2,h3,h4,h5⟩:=Gw h;have hr:=Yq (ins:=ins) (B4 h0) (Ay h0).1;have hc:=hr.1.1 h3;rw[hr.2 hc]at h5;exact⟨h0,h1,h2,hc,h5⟩
 ·rintro⟨h0,h1,h2,h3,h4⟩;have hr:=Yq (ins:=ins) (B4 h0) (Ay h0).1;rw[Ak9 h0 h1 h2 (hr.1.2 h3) (by rw[hr.2 h3];exact h4)]
theorem Aoj{x:StT}{ins:List (List Int)}(h:(Av x ins).2=0):Av x ins=(Id x ins,0):=by
 obtain⟨h0,h1,h2,h3,h4,h5⟩:=Gw h;have hr:=Yq (ins:=ins) (B4 h0) (Ay h0).1;refine Prod.ext ?_ h;rw[h4,hr.2 (hr.1.1 h3)]
end Go.Proofs.YtckpldpombdkgaaGreat
