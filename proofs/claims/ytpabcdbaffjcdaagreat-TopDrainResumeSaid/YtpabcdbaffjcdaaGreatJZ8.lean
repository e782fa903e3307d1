/- Pipelines. -/
import Derived.Test.YtpabcdbaffjcdaaGreatJZ5
import Derived.Test.YtpabcdbaffjcdaaGreatJZ6
set_option linter.unusedSimpArgs false
set_option linter.unusedVariables false
set_option maxRecDepth 100000
namespace Go.Proofs.YtpabcdbaffjcdaaGreat
open Go.Sx
theorem nbF{b:Bool}(h:b=false)(h':(!b)=false):False:=by rw[h]at h';cases h'
theorem nbT{b:Bool}(h:b=true)(h':(!b)=true):False:=by rw[h]at h';cases h'
def Rl:SST:=([],0,false)
def Dr(x:StT)(s:SST)(i n:Int):SST×List (List Int)×Int:=
 if x.1=1 then((s.1,s.2.1+1,s.2.2),[[x.2.2.2.getD s.2.1.toNat 0]],0)
 else if x.1=2 then(s,[[(evX x.2.2.1 nmX n 0).1]],(evX x.2.2.1 nmX n 0).2)
 else if x.1=3 then(s,[if decide ((evX x.2.2.1 nmX n 0).1=1)=true then[n]else[]],(evX x.2.2.1 nmX n 0).2)
 else if x.1=4 then(((Bp x.2.1 (s.1,[],0) n).1,s.2),[(Bp x.2.1 (s.1,[],0) n).2.1],(Bp x.2.1 (s.1,[],0) n).2.2)
 else if x.1=5 then(s,[List.replicate x.2.1.toNat n],0)
 else if x.1=6 then(if decide (s.2.1<x.2.1)=true then((s.1,s.2.1+1,s.2.2),[[n]],0)else(s,[[]],0))
 else if x.1=7 then(s,[if decide ((evX x.2.2.1 nmX n 0).1=1)=true then[n]else[],if decide ((evX x.2.2.1 nmX n 0).1=1)=true then[]else[n]],(evX x.2.2.1 nmX n 0).2)
 else if x.1=8 then((s.1,1-i,s.2.2),[[n]],0)
 else if x.1=9 then(if decide (i=0)=true then(if decide (C8 .i64 s.2.1 2=0)=true then(([n],s.2),[[]],0)else(s,[[]],0))
  else if decide ((s.1.length:Int)=1)=true then(([],s.2),[[(evX x.2.2.1 D8 (s.1.getD 0 0) n).1]],(evX x.2.2.1 D8 (s.1.getD 0 0) n).2)else(s,[[]],0))
 else(s,[],0)
section
variable {z:Int}{e:ExprT}{l:List Int}{s:SST}{i n:Int}
theorem r3t(h:decide ((evX e nmX n 0).1=1)=true):Dr (3,z,e,l) s i n=(s,[[n]],(evX e nmX n 0).2):=by
 show(s,[if decide ((evX e nmX n 0).1=1)=true then[n]else[]],_)=_;rw[aP h]
theorem r3f(h:decide ((evX e nmX n 0).1=1)=false):Dr (3,z,e,l) s i n=(s,[[]],(evX e nmX n 0).2):=by
 show(s,[if decide ((evX e nmX n 0).1=1)=true then[n]else[]],_)=_;rw[aL (by rw[h];simp)]
theorem r7t(h:decide ((evX e nmX n 0).1=1)=true):Dr (7,z,e,l) s i n=(s,[[n],[]],(evX e nmX n 0).2):=by
 show(s,[if decide ((evX e nmX n 0).1=1)=true then[n]else[],if decide ((evX e nmX n 0).1=1)=true then[]else[n]],_)=_;rw[aP h,aP h]
theorem r7f(h:decide ((evX e nmX n 0).1=1)=false):Dr (7,z,e,l) s i n=(s,[[],[n]],(evX e nmX n 0).2):=by
 show(s,[if decide ((evX e nmX n 0).1=1)=true then[n]else[],if decide ((evX e nmX n 0).1=1)=true then[]else[n]],_)=_;rw[aL (by rw[h];simp),aL (by rw[h];simp)]
theorem r6t(h:decide (s.2.1<z)=true):Dr (6,z,e,l) s i n=((s.1,s.2.1+1,s.2.2),[[n]],0):=by
 show(if decide (s.2.1<z)=true then _ else _)=_;rw[aP h]
theorem r6f(h:decide (s.2.1<z)=false):Dr (6,z,e,l) s i n=(s,[[]],0):=by
 show(if decide (s.2.1<z)=true then _ else _)=_;rw[aL (by rw[h];simp)]
theorem r4t{hd:List Int}{c:Int}{en:Bool}{v f:Int}(h:decide (((hd++[n]).length:Int)=z)=true)(h2:(hd++[n]).foldl Et (0,0)=(v,f)):Dr (4,z,e,l) (hd,c,en) i n=(([],c,en),[Jb f [] v],f):=by
 have hb:Bp z (hd,[],0) n=([],Jb f [] v,f):=by
  unfold Bp;rw[aP h];unfold Fx;rw[show(hd++[n]).foldl Et (0,0)=(v,f)from h2]
 show(((Bp z (hd,[],0) n).1,c,en),[(Bp z (hd,[],0) n).2.1],(Bp z (hd,[],0) n).2.2)=_;rw[hb]
theorem r4f{hd:List Int}{c:Int}{en:Bool}(h:decide (((hd++[n]).length:Int)=z)=false):Dr (4,z,e,l) (hd,c,en) i n=((hd++[n],c,en),[[]],0):=by
 have hb:Bp z (hd,[],0) n=(hd++[n],[],0):=by
  unfold Bp;rw[aL (by rw[h];simp)]
 show(((Bp z (hd,[],0) n).1,c,en),[(Bp z (hd,[],0) n).2.1],(Bp z (hd,[],0) n).2.2)=_;rw[hb]
theorem r9a(h:decide (i=0)=true)(h2:decide (C8 .i64 s.2.1 2=0)=true):Dr (9,z,e,l) s i n=(([n],s.2),[[]],0):=by
 show(if decide (i=0)=true then(if decide (C8 .i64 s.2.1 2=0)=true then _ else _)else _)=_;rw[aP h,aP h2]
theorem r9b(h:decide (i=0)=true)(h2:decide (C8 .i64 s.2.1 2=0)=false):Dr (9,z,e,l) s i n=(s,[[]],0):=by
 show(if decide (i=0)=true then(if decide (C8 .i64 s.2.1 2=0)=true then _ else _)else _)=_;rw[aP h,aL (by rw[h2];simp)]
theorem r9c(h:decide (i=0)=false)(h2:decide ((s.1.length:Int)=1)=true):Dr (9,z,e,l) s i n=(([],s.2),[[(evX e D8 (s.1.getD 0 0) n).1]],(evX e D8 (s.1.getD 0 0) n).2):=by
 show(if decide (i=0)=true then _ else if decide ((s.1.length:Int)=1)=true then _ else _)=_;rw[aL (by rw[h];simp),aP h2]
theorem r9d(h:decide (i=0)=false)(h2:decide ((s.1.length:Int)=1)=false):Dr (9,z,e,l) s i n=(s,[[]],0):=by
 show(if decide (i=0)=true then _ else if decide ((s.1.length:Int)=1)=true then _ else _)=_;rw[aL (by rw[h];simp),aL (by rw[h2];simp)]
end
def tk1(x:StT)(s:SST)(nd:List Int)(i:Int):Bool:=bif bif s.2.2 then true else bif decide (x.1=1)then bif !decide (i=-1)then true else decide (s.2.1=(x.2.2.2.length:Int))else false then true else bif !decide (x.1=1)then !nd.any (isI i)else false
def tk2(x:StT)(n:Int):Bool:=bif !Ke n then true else bif decide (x.1=1)then !decide (n=0)else false
def Bq(x:StT)(s:SST)(i n:Int):SST×List (List Int)×Int:=
 if(!decide ((Am x s).2=0))=true then(Rl,[],(Am x s).2)else
 if tk1 x s (Am x s).1 i=true then(Rl,[],17)else
 if tk2 x n=true then(Rl,[],2)else
 if(!decide ((Dr x s i n).2.2=0))=true then(Rl,[],(Dr x s i n).2.2)else
 ((Dr x s i n).1,(Dr x s i n).2.1,0)
@[reducible] def Adg(t:SST×List (List Int)×Int):SST×List (List Int)×Int×Unit:=(t.1,t.2.1,t.2.2,())
section
variable {x:StT}{s:SST}{i n:Int}{y:Ib Ada}(hy:y=((Am x s).1,(Am x s).2,()))
include hy
theorem TL0(h0:(!decide (y.2.1=0))=true):Adg (Bq x s i n)=(([],0,false),[],y.2.1,()):=by
 subst hy;rw[Bq,aP h0];rfl
theorem TL1(h0:(!decide (y.2.1=0))=false)(h1:tk1 x s y.1 i=true):Adg (Bq x s i n)=(([],0,false),[],17,()):=by
 subst hy;rw[Bq,aL (λh=>by rw[h0]at h;cases h),aP h1];rfl
theorem TL2(h0:(!decide (y.2.1=0))=false)(h1:tk1 x s y.1 i=false)(h2:tk2 x n=true):Adg (Bq x s i n)=(([],0,false),[],2,()):=by
 subst hy;rw[Bq,aL (λh=>by rw[h0]at h;cases h),aL (λh=>by rw[h1]at h;cases h),aP h2];rfl
theorem TL3(h0:(!decide (y.2.1=0))=false)(h1:tk1 x s y.1 i=false)(h2:tk2 x n=false){e:Int}(hr:(Dr x s i n).2.2=e)(h3:(!decide (e=0))=true):Adg (Bq x s i n)=(([],0,false),[],e,()):=by
 subst hy;subst hr;rw[Bq,aL (λh=>by rw[h0]at h;cases h),aL (λh=>by rw[h1]at h;cases h),aL (λh=>by rw[h2]at h;cases h),aP h3];rfl
theorem TL4(h0:(!decide (y.2.1=0))=false)(h1:tk1 x s y.1 i=false)(h2:tk2 x n=false){t:SST}{o:List (List Int)}{e:Int}(hr:Dr x s i n=(t,o,e))(he:(!decide (e=0))=false):Adg (Bq x s i n)=(t,o,0,()):=by
 subst hy;rw[Bq,aL (λh=>by rw[h0]at h;cases h),aL (λh=>by rw[h1]at h;cases h),aL (λh=>by rw[h2]at h;cases h),hr,aL (λh=>by rw[he]at h;cases h)]
end
def Ei(x:StT)(s:SST)(i:Int):SST×List (List Int)×Int:=
 if x.1=4 then(((Cf (s.1,[],0)).1,s.2.1,true),[(Cf (s.1,[],0)).2.1],(Cf (s.1,[],0)).2.2)
 else if x.1=7 then((s.1,s.2.1,true),[[],[]],0)
 else if x.1=8 then((Gw (s.1++[i]),s.2.1,decide (((Gw (s.1++[i])).length:Int)=2)),[[]],0)
 else if x.1=9 then((if decide (i=1)=true then[]else s.1,Dc .i64 s.2.1 (Dd .i64 1 i),decide (Dc .i64 s.2.1 (Dd .i64 1 i)=3)),[[]],0)
 else if x.1=10 then((s.1,s.2.1,true),[],0)
 else((s.1,s.2.1,true),[[]],0)
section
variable {z:Int}{e:ExprT}{l hd:List Int}{c i:Int}{en:Bool}
theorem e9t(h:decide (i=1)=true):Ei (9,z,e,l) (hd,c,en) i=(([],Dc .i64 c (Dd .i64 1 i),decide (Dc .i64 c (Dd .i64 1 i)=3)),[[]],0):=by
 show((if decide (i=1)=true then[]else hd,Dc .i64 c (Dd .i64 1 i),decide (Dc .i64 c (Dd .i64 1 i)=3)),[[]],(0:Int))=_;rw[aP h]
theorem e9f(h:decide (i=1)=false):Ei (9,z,e,l) (hd,c,en) i=((hd,Dc .i64 c (Dd .i64 1 i),decide (Dc .i64 c (Dd .i64 1 i)=3)),[[]],0):=by
 show((if decide (i=1)=true then[]else hd,Dc .i64 c (Dd .i64 1 i),decide (Dc .i64 c (Dd .i64 1 i)=3)),[[]],(0:Int))=_;rw[aL (by rw[h];simp)]
theorem e4t{v f:Int}(h:decide (0<(hd.length:Int))=true)(h2:hd.foldl Et (0,0)=(v,f)):Ei (4,z,e,l) (hd,c,en) i=(([],c,true),[Jb f [] v],f):=by
 have hb:Cf (hd,[],0)=([],Jb f [] v,f):=by
  unfold Cf;rw[aP h];unfold Fx;rw[show hd.foldl Et (0,0)=(v,f)from h2]
 show(((Cf (hd,[],0)).1,c,true),[(Cf (hd,[],0)).2.1],(Cf (hd,[],0)).2.2)=_;rw[hb]
theorem e4f(h:decide (0<(hd.length:Int))=false):Ei (4,z,e,l) (hd,c,en) i=((hd,c,true),[[]],0):=by
 have hb:Cf (hd,[],0)=(hd,[],0):=by
  unfold Cf;rw[aL (by rw[h];simp)]
 show(((Cf (hd,[],0)).1,c,true),[(Cf (hd,[],0)).2.1],(Cf (hd,[],0)).2.2)=_;rw[hb]
end
def te1(x:StT)(i:Int):Bool:=bif bif decide (x.1=1)then !decide (i=-1)else false then true else bif !decide (x.1=1)then bif decide (i<0)then true else decide ((Ap x.1).1<=i)else false
def te2(x:StT)(s:SST)(i:Int):Bool:=bif s.2.2 then true else bif !decide (x.1=1)then Gc x s i else false
def Cg(x:StT)(s:SST)(i:Int):SST×List (List Int)×Bool×Int:=
 if(!decide ((Am x s).2=0))=true then(Rl,[],false,(Am x s).2)else
 if te1 x i=true then(Rl,[],false,2)else
 if te2 x s i=true then(Rl,[],false,17)else
 if(!decide ((Ei x s i).2.2=0))=true then(Rl,[],false,(Ei x s i).2.2)else
 ((Ei x s i).1,(Ei x s i).2.1,(Ei x s i).1.2.2,0)
@[reducible] def Adh(t:SST×List (List Int)×Bool×Int):SST×List (List Int)×Bool×Int×Unit:=(t.1,t.2.1,t.2.2.1,t.2.2.2,())
section
variable {x:StT}{s:SST}{i:Int}{y:Ib Ada}(hy:y=((Am x s).1,(Am x s).2,()))
include hy
theorem EL0(h0:(!decide (y.2.1=0))=true):Adh (Cg x s i)=(([],0,false),[],false,y.2.1,()):=by
 subst hy;rw[Cg,aP h0];rfl
theorem EL1(h0:(!decide (y.2.1=0))=false)(h1:te1 x i=true):Adh (Cg x s i)=(([],0,false),[],false,2,()):=by
 subst hy;rw[Cg,aL (λh=>by rw[h0]at h;cases h),aP h1];rfl
theorem EL2(h0:(!decide (y.2.1=0))=false)(h1:te1 x i=false)(h2:te2 x s i=true):Adh (Cg x s i)=(([],0,false),[],false,17,()):=by
 subst hy;rw[Cg,aL (λh=>by rw[h0]at h;cases h),aL (λh=>by rw[h1]at h;cases h),aP h2];rfl
theorem EL3(h0:(!decide (y.2.1=0))=false)(h1:te1 x i=false)(h2:te2 x s i=false){e:Int}(hr:(Ei x s i).2.2=e)(h3:(!decide (e=0))=true):Adh (Cg x s i)=(([],0,false),[],false,e,()):=by
 subst hy;subst hr;rw[Cg,aL (λh=>by rw[h0]at h;cases h),aL (λh=>by rw[h1]at h;cases h),aL (λh=>by rw[h2]at h;cases h),aP h3];rfl
theorem EL4(h0:(!decide (y.2.1=0))=false)(h1:te1 x i=false)(h2:te2 x s i=false){t:SST}{o:List (List Int)}{e:Int}(hr:Ei x s i=(t,o,e))(he:(!decide (e=0))=false):Adh (Cg x s i)=(t,o,t.2.2,0,()):=by
 subst hy;rw[Cg,aL (λh=>by rw[h0]at h;cases h),aL (λh=>by rw[h1]at h;cases h),aL (λh=>by rw[h2]at h;cases h),hr,aL (λh=>by rw[he]at h;cases h)]
end
@[reducible] def rTk:List (Bool×Ty):=[(true,tSS),(false,Va),(false,tI)]
def cxTk:Ctx:=⟨Aq7,[(147,([],c31)),(212,([],c25)),(37,([],c40k)),(91,([],c83)),(120,([],c108)),(42,([],c43)),(56,([],c60))]⟩
theorem Fi:Ai Tryz.prog cxTk:=Dl (Ae Ug (Ae Ac6 (Ae Pi (Ae Ac7 (Ae Afa (Ae Xy (Ae Adb Ah)))))))
theorem Fj:Bb Tryz.prog (Ba cxTk Tryz.prog (Ba cxTk Tryz.prog (Ba cxTk Tryz.prog (Ba cxTk Tryz.prog (Ba cxTk Tryz.prog noS))))):=Af Fi (Af Fi (Af Fi (Af Fi (Af Fi Bl))))
theorem Adi:Bb Tryz.prog (Ba cxTk Tryz.prog (Ba cxTk Tryz.prog (Kd 73 (Adc (Ba cxTk Tryz.prog noS)) (Ba cxTk Tryz.prog noS)))):=
 Af Fi (Af Fi (Da (Wn (Af Fi Bl)) (Af Fi Bl)))
def Ju(k:Int):Prop:=∀(z:Int)(e:ExprT)(l hd:List Int)(c:Int)(en:Bool)(i n:Int),Al (k,z,e,l)=0->Av (k,z,e,l) (hd,c,en)=true->
 ∃call:CallSem,Bb Tryz.prog call/\call 169 (G4 [dSt,dSS,dI,dI] ((k,z,e,l),(hd,c,en),i,n,())) [] 0 (H0 ⟨none,none,[],Fu rTk (Adg (Bq (k,z,e,l) (hd,c,en) i n))⟩)
@[reducible] def rEn:List (Bool×Ty):=[(true,tSS),(false,Va),(false,.bool),(false,tI)]
def cxEn:Ctx:=⟨Aq7,[(147,([],c31)),(212,([],c25)),(165,([],c65)),(37,([],c40k)),(42,([],c43)),(56,([],c60))]⟩
theorem Gg:Ai Tryz.prog cxEn:=Dl (Ae Ug (Ae Ac6 (Ae Ako (Ae Pi (Ae Xy (Ae Adb Ah))))))
theorem Fk:Bb Tryz.prog (Ba cxEn Tryz.prog (Ba cxEn Tryz.prog (Ba cxEn Tryz.prog (Ba cxEn Tryz.prog (Ba cxEn Tryz.prog noS))))):=Af Gg (Af Gg (Af Gg (Af Gg (Af Gg Bl))))
theorem Adj:Bb Tryz.prog (Ba cxEn Tryz.prog (Ba cxEn Tryz.prog (Kd 144 (Sj tI Gw 144) (Ba cxEn Tryz.prog noS)))):=
 Af Gg (Af Gg (Da An4 (Af Gg Bl)))
def Jv(k:Int):Prop:=∀(z:Int)(e:ExprT)(l hd:List Int)(c:Int)(en:Bool)(i:Int),Al (k,z,e,l)=0->Av (k,z,e,l) (hd,c,en)=true->
 ∃call:CallSem,Bb Tryz.prog call/\call 168 (G4 [dSt,dSS,dI] ((k,z,e,l),(hd,c,en),i,())) [] 0 (H0 ⟨none,none,[],Fu rEn (Adh (Cg (k,z,e,l) (hd,c,en) i))⟩)
theorem B0{x:StT}{s:SST}:(Am x s).2=0<->(Al x=0/\Av x s=true):=by
 by_cases h0:Al x=0
 ·cases hv:Av x s with
  |true=>
   refine⟨λ_=>⟨h0,rfl⟩,λ_=>?_⟩;unfold Am;rw[aL (by simp[h0]),aL (by simp[hv])]
   repeat' split
   all_goals rfl
  |false=>
   refine⟨λh=>?_,λh=>by simpa using h.2⟩;rw[ND1 (by simp[h0]) (by simp[hv])]at h;exact aT h (by decide)
 ·refine⟨λh=>?_,λh=>aT h.1 h0⟩;rw[ND0 (by simpa using h0)]at h;exact aT h h0
theorem Yf{x:StT}{s:SST}{i n:Int}(h:(Bq x s i n).2.2=0):
 Al x=0/\Av x s=true/\tk1 x s (Am x s).1 i=false/\tk2 x n=false/\(Dr x s i n).2.2=0/\Bq x s i n=((Dr x s i n).1,(Dr x s i n).2.1,0):=by
 unfold Bq at h ⊢;split at h
 ·rename_i h1;have h2:(Am x s).2=0:=h;rw[h2]at h1;exact aT h1 (by decide)
 ·rename_i h1;have hn:(Am x s).2=0:=by simpa using h1
  rw[aL h1];split at h
  ·exact aT h (by decide)
  ·rename_i h2;rw[aL h2];split at h
   ·exact aT h (by decide)
   ·rename_i h3;rw[aL h3];split at h
    ·rename_i h4;have h5:(Dr x s i n).2.2=0:=h;rw[h5]at h4;exact aT h4 (by decide)
    ·rename_i h4;rw[aL h4];exact⟨(B0.1 hn).1,(B0.1 hn).2,by simpa using h2,by simpa using h3,by simpa using h4,rfl⟩
theorem Adk{x:StT}{s:SST}{i:Int}(h:(Cg x s i).2.2.2=0):
 Al x=0/\Av x s=true/\te1 x i=false/\te2 x s i=false/\(Ei x s i).2.2=0/\Cg x s i=((Ei x s i).1,(Ei x s i).2.1,(Ei x s i).1.2.2,0):=by
 unfold Cg at h ⊢;split at h
 ·rename_i h1;have h2:(Am x s).2=0:=h;rw[h2]at h1;exact aT h1 (by decide)
 ·rename_i h1;have hn:(Am x s).2=0:=by simpa using h1
  rw[aL h1];split at h
  ·exact aT h (by decide)
  ·rename_i h2;rw[aL h2];split at h
   ·exact aT h (by decide)
   ·rename_i h3;rw[aL h3];split at h
    ·rename_i h4;have h5:(Ei x s i).2.2=0:=h;rw[h5]at h4;exact aT h4 (by decide)
    ·rename_i h4;rw[aL h4];exact⟨(B0.1 hn).1,(B0.1 hn).2,by simpa using h2,by simpa using h3,by simpa using h4,rfl⟩
def vk(x:StT)(s:SST):Bool:=
 if x.1=4 then(bif !s.2.2 then true else decide ((s.1.length:Int)=0))
 else if x.1=8 then(if(List.range s.1.length).any (C6 s.1)=true then false else(s.2.2==decide ((s.1.length:Int)=2)))
 else if x.1=9 then(bif (s.2.2==decide (s.2.1=3))then(bif decide (s.2.1<2)then true else decide ((s.1.length:Int)=0))else false)
 else true
theorem As{x:StT}{s:SST}:Av x s=true<->((0<=s.2.1/\s.2.1<=(E7 x).1/\(s.1.length:Int)<=(E7 x).2)/\s.1.any Aj=false/\vk x s=true):=by
 constructor
 ·intro h;refine⟨Br h, ?_⟩;unfold Av at h;split at h
  ·cases h
  ·split at h
   ·cases h
   ·rename_i h2;exact⟨by simpa using h2,h⟩
 ·rintro⟨⟨h1,h2,h3⟩,h4,h5⟩;unfold Av;have hv:vc1 x s=false:=by
   unfold vc1;rw[bE (by omega),bE (by omega),bE (by omega)];rfl
  rw[aL (by rw[hv];simp),aL (by rw[h4];simp)];exact h5
theorem Arg{n:Int}(h:Ke n=true):Aj n=false:=by unfold Aj;rw[h];rfl
theorem Adl{l:List Int}(h1:(l.length:Int)<=2)(h:(List.range l.length).any (C6 l)=false):l=[]\/l=[0]\/l=[1]\/l=[0,1]:=by
 match l,h1,h with
 |[],_,_=>exact .inl rfl
 |[a],_,h=>
  have h2:(a<0)=False/\(1<a)=False:=by
   have h3:C6 [a] 0=false:=by simpa using h
   unfold C6 at h3;by_cases b1:a<0
   ·simp[b1]at h3
   ·by_cases b2:1<a
    ·simp[b2]at h3
    ·simp[b1,b2]
  have h3:a=0\/a=1:=by
   have b1:¬a<0:=by rw[h2.1];simp
   have b2:¬1<a:=by rw[h2.2];simp
   omega
  rcases h3 with rfl|rfl
  ·exact .inr (.inl rfl)
  ·exact .inr (.inr (.inl rfl))
 |[a,b],_,h=>
  have h3:C6 [a,b] 0=false/\C6 [a,b] 1=false:=by
   have:=dA.1 h;exact⟨by simpa using this 0 (by simp),by simpa using this 1 (by simp)⟩
  have g1:¬a<0/\¬1<a:=by
   have h4:=h3.1;unfold C6 at h4;refine⟨λb1=>?_,λb1=>?_⟩
   ·simp[b1]at h4
   ·simp[b1]at h4
  have g2:¬b<0/\¬1<b/\¬b<=a:=by
   have h4:=h3.2;unfold C6 at h4;refine⟨λb1=>?_,λb1=>?_,λb1=>?_⟩
   ·simp[b1]at h4
   ·simp[b1]at h4
   ·simp[b1]at h4
  have ha:a=0:=by omega
  have hb:b=1:=by omega
  subst ha;subst hb;exact .inr (.inr (.inr rfl))
 |_::_::_::l,h,_=>simp only[List.length_cons]at h;omega
theorem Afl{x:Int}(h:Ke x=true):inM x:=by
 unfold Ke at h;unfold inM;by_cases h1:-1099511627776<=x
 ·rw[aX h1]at h;exact⟨h1,aM h⟩
 ·rw[bE h1]at h;cases h
theorem Ak4{l:List Int}(h:l.any Aj=false):∀x∈l,inM x:=λx hx=>by
 have h1:=dA.1 h x hx;refine Afl ?_;unfold Aj at h1;cases hb:Ke x
 ·rw[hb]at h1;exact aT rfl h1
 ·rfl
theorem Un{x:StT}{s:SST}{nd:List Int}{i:Int}(h:tk1 x s nd i=false):s.2.2=false:=by
 unfold tk1 at h;cases he:s.2.2 with
 |false=>rfl
 |true=>rw[he]at h;cases h
theorem Aa5{x:StT}{s:SST}{nd:List Int}{i:Int}(hk:x.1≠1)(h:tk1 x s nd i=false):nd.any (isI i)=true:=by
 have he:=Un h;unfold tk1 at h;rw[he,bE hk]at h;cases hn:nd.any (isI i)with
 |true=>rfl
 |false=>rw[hn]at h;cases h
theorem Afm{x:StT}{s:SST}{nd:List Int}{i:Int}(hk:x.1=1)(h:tk1 x s nd i=false):i=-1/\s.2.1≠(x.2.2.2.length:Int):=by
 have he:=Un h;unfold tk1 at h;rw[he,aX hk]at h;by_cases h1:i=-1
 ·refine⟨h1,λh2=>?_⟩;rw[aX h1,aX h2]at h;cases h
 ·rw[bE h1]at h;cases h
theorem Yg{x:StT}{n:Int}(h:tk2 x n=false):Ke n=true:=by
 unfold tk2 at h;cases hn:Ke n with
 |true=>rfl
 |false=>rw[hn]at h;cases h
theorem Yh{x:StT}{i:Int}(hk:x.1≠1)(h:te1 x i=false):0<=i/\i<(Ap x.1).1:=by
 unfold te1 at h;rw[bE hk]at h;by_cases h1:i<0
 ·rw[aX h1]at h;cases h
 ·by_cases h2:(Ap x.1).1<=i
  ·rw[bE h1,aX h2]at h;cases h
  ·omega
theorem Adm{x:StT}{s:SST}{i:Int}(h:te2 x s i=false):s.2.2=false:=by
 unfold te2 at h;cases he:s.2.2 with
 |false=>rfl
 |true=>rw[he]at h;cases h
theorem Afn{x:StT}{s:SST}{i:Int}(hk:x.1≠1)(h:te2 x s i=false):Gc x s i=false:=by
 have he:=Adm h;unfold te2 at h;rw[he,bE hk]at h;cases hn:Gc x s i with
 |false=>rfl
 |true=>rw[hn]at h;cases h
theorem Arh{c:Int}(h0:0<=c)(h3:c<=3)(h:C8 .i64 c 2=0):c<2:=by
 have hc:c=0\/c=1\/c=2\/c=3:=by omega
 rcases hc with rfl|rfl|rfl|rfl
 ·decide
 ·decide
 ·exact aT h (by decide)
 ·exact aT h (by decide)
theorem Ak5{l:List Int}{n:Int}(h:l.any Aj=false)(hn:Aj n=false):(l++[n]).any Aj=false:=by
 rw[eR,h];simp[hn]
theorem As8{z:Int}{e:ExprT}{l hd:List Int}{c i:Int}(h0:Al (8,z,e,l)=0)(hv:Av (8,z,e,l) (hd,c,false)=true)(h1:tk1 (8,z,e,l) (hd,c,false) (Am (8,z,e,l) (hd,c,false)).1 i=false):i=1-c\/i=c:=by
 have h4:=Aa5 (by show(8:Int)≠1;decide) h1;have hnd:(Am (8,z,e,l) (hd,c,false)).1=[1-c]\/(Am (8,z,e,l) (hd,c,false)).1=[c]:=by
  unfold Am;rw[aL (by simp[h0]),aL (by simp[hv]),aL (by simp)];split
  ·exact .inl rfl
  ·rw[aP (by rfl)];exact .inr rfl
 rcases hnd with hnd|hnd<;>rw[hnd]at h4<;>simp[isI]at h4
 ·exact .inl h4
 ·exact .inr h4
theorem Uo{x:StT}{s:SST}{i n:Int}(h:(Bq x s i n).2.2=0):
 Av x (Bq x s i n).1=true/\((Bq x s i n).2.1.length:Int)=(Ap x.1).2.1/\(Bq x s i n).1.2.2=s.2.2:=by
 obtain⟨h0,hv,h1,h2,h3,he⟩:=Yf h;rw[he];have hz:=Ax h0;have hk:=G6 (B1 h0);have hen:=Un h1;have hn:=Arg (Yg h2);obtain⟨⟨a1,a2,a3⟩,a4,a5⟩:=As.1 hv;obtain⟨k,z,e,l⟩:=x;obtain⟨hd,c,en⟩:=s;replace hk:k=1\/k=2\/k=3\/k=4\/k=5\/k=6\/k=7\/k=8\/k=9\/k=10:=hk;replace hen:en=false:=hen;replace a1:0<=c:=a1;replace a4:hd.any Aj=false:=a4;subst hen;rcases hk with rfl|rfl|rfl|rfl|rfl|rfl|rfl|rfl|rfl|rfl
 ·have h4:=Afm rfl h1;have h5:c≠(l.length:Int):=h4.2;have a2':c<=(l.length:Int):=a2;exact⟨As.2 ⟨⟨by show 0<=c+1;omega,by show c+1<=(l.length:Int);omega,a3⟩,a4,rfl⟩,rfl,rfl⟩
 ·exact⟨hv,rfl,rfl⟩
 ·exact⟨hv,rfl,rfl⟩
 ·have hz1:1<=z:=hz.2.2 rfl;have a3':(hd.length:Int)<=z-1:=a3;by_cases hc:(((hd++[n]).length:Nat):Int)=z
  ·have hb:Bp z (hd,[],0) n=Fx (hd++[n],[],0):=by
    dsimp only[Bp];rw[aP (aX hc)]
   refine⟨?_,rfl,rfl⟩;show Av _ ((Bp z (hd,[],0) n).1,c,false)=true;rw[hb];exact As.2 ⟨⟨a1,a2,by show((([]:List Int).length:Nat):Int)<=z-1;simp;omega⟩,rfl,rfl⟩
  ·have hb:Bp z (hd,[],0) n=(hd++[n],[],0):=by
    dsimp only[Bp];rw[aL (by simpa using hc)]
   refine⟨?_,rfl,rfl⟩;show Av _ ((Bp z (hd,[],0) n).1,c,false)=true;rw[hb];refine As.2 ⟨⟨a1,a2, ?_⟩,Ak5 a4 hn,rfl⟩;show(((hd++[n]).length:Nat):Int)<=z-1;simp only[bD,List.length_cons,List.length_nil]at hc ⊢;omega
 ·exact⟨hv,rfl,rfl⟩
 ·by_cases hc:c<z
  ·have hr:Dr (6,z,e,l) (hd,c,false) i n=((hd,c+1,false),[[n]],0):=by
    show(if decide (c<z)=true then _ else _)=_;rw[aP (aX hc)]
   rw[hr];exact⟨As.2 ⟨⟨by show 0<=c+1;omega,by show c+1<=z;omega,a3⟩,a4,rfl⟩,rfl,rfl⟩
  ·have hr:Dr (6,z,e,l) (hd,c,false) i n=((hd,c,false),[[]],0):=by
    show(if decide (c<z)=true then _ else _)=_;rw[aL (by simpa using hc)]
   rw[hr];exact⟨hv,rfl,rfl⟩
 ·exact⟨hv,rfl,rfl⟩
 ·have h4:=Aa5 (by show(8:Int)≠1;decide) h1;have a2':c<=1:=a2;have h5:=As8 h0 hv h1;exact⟨As.2 ⟨⟨by show 0<=1-i;omega,by show 1-i<=1;omega,a3⟩,a4,a5⟩,rfl,rfl⟩
 ·have a2':c<=3:=a2;have g1:(false==decide (c=3))=true:=by
   have a6:(bif (false==decide (c=3))then(bif decide (c<2)then true else decide ((hd.length:Int)=0))else false)=true:=a5;cases hq:(false==decide (c=3))with
   |true=>rfl
   |false=>rw[hq]at a6;cases a6
  by_cases hi:i=0
  ·by_cases hb:C8 .i64 c 2=0
   ·have hr:Dr (9,z,e,l) (hd,c,false) i n=(([n],c,false),[[]],0):=by
     show(if decide (i=0)=true then(if decide (C8 .i64 c 2=0)=true then _ else _)else _)=_;rw[aP (aX hi),aP (aX hb)]
    rw[hr];refine⟨As.2 ⟨⟨a1,a2,cO _⟩,by simp[hn], ?_⟩,rfl,rfl⟩;show(bif (false==decide (c=3))then(bif decide (c<2)then true else _)else false)=true;rw[g1,aX (Arh a1 a2' hb)];rfl
   ·have hr:Dr (9,z,e,l) (hd,c,false) i n=((hd,c,false),[[]],0):=by
     show(if decide (i=0)=true then(if decide (C8 .i64 c 2=0)=true then _ else _)else _)=_;rw[aP (aX hi),aL (by simpa using hb)]
    rw[hr];exact⟨hv,rfl,rfl⟩
  ·by_cases hl:(hd.length:Int)=1
   ·have hr:Dr (9,z,e,l) (hd,c,false) i n=(([],c,false),[[(evX e D8 (hd.getD 0 0) n).1]],(evX e D8 (hd.getD 0 0) n).2):=by
     show(if decide (i=0)=true then _ else if decide ((hd.length:Int)=1)=true then _ else _)=_;rw[aL (by simpa using hi),aP (aX hl)]
    rw[hr];refine⟨As.2 ⟨⟨a1,a2,by show((0:Nat):Int)<=1;decide⟩,rfl, ?_⟩,rfl,rfl⟩;show(bif (false==decide (c=3))then(bif decide (c<2)then true else true)else false)=true;rw[g1];cases decide (c<2)<;>rfl
   ·have hr:Dr (9,z,e,l) (hd,c,false) i n=((hd,c,false),[[]],0):=by
     show(if decide (i=0)=true then _ else if decide ((hd.length:Int)=1)=true then _ else _)=_;rw[aL (by simpa using hi),aL (by simpa using hl)]
    rw[hr];exact⟨hv,rfl,rfl⟩
 ·exact⟨hv,rfl,rfl⟩
theorem M6{x:StT}{t:SST}{i:Int}(h0:Al x=0)(hv:Av x t=true)(h1:te1 x i=false)(h2:te2 x t i=true):(Cg x t i).2.2.2=17:=by
 have hn:=B0.2 ⟨h0,hv⟩;unfold Cg;rw[aL (by simp[hn]),aL (by rw[h1];simp),aP h2]
theorem Aa6{x:StT}{t:SST}{i:Int}(h0:Al x=0)(hv:Av x t=true)(h1:te1 x i=false)(ht:t.2.2=true):(Am x t).1.any (isI i)=false/\(Cg x t i).2.2.2=17:=by
 refine⟨?_,M6 h0 hv h1 (by unfold te2;rw[ht];rfl)⟩;rw[ND2 (by simp[h0]) (by simp[hv]) (by rw[ht];rfl)];rfl
theorem Adn(a:Int):Gw [a]=[a]:=List.mergeSort_of_pairwise (by simp)
theorem Afo:Gw [0,1]=[0,1]:=List.mergeSort_of_pairwise (by decide)
theorem Afp:Gw [1,0]=[0,1]:=by
 have p:(Gw [1,0]).Perm [0,1]:=(List.mergeSort_perm [1,0] _).trans (List.Perm.swap 0 1 []);have s:(Gw [1,0]).Pairwise (λx y=>decide (x<=y)=true):=List.pairwise_mergeSort (le:=λx y=>decide (x<=y)) (λa b c h1 h2=>by simp at *;omega) (λa b=>by simp;omega) _;exact p.eq_of_pairwise (λa b _ _ h1 h2=>by simp at h1 h2;omega) s (by decide)
def Oc(x:StT)(i:Int)(t:SST)(o:List (List Int)):Prop:=
 Av x t=true/\(o.length:Int)=(Ap x.1).2.1/\(Am x t).1.any (isI i)=false/\(Cg x t i).2.2.2=17
theorem D1{x:StT}{i:Int}{t:SST}{o:List (List Int)}(h0:Al x=0)(h1:te1 x i=false)(ht:t.2.2=true)(hv:Av x t=true)(ho:(o.length:Int)=(Ap x.1).2.1):Oc x i t o:=
 ⟨hv,ho,(Aa6 h0 hv h1 ht).1,(Aa6 h0 hv h1 ht).2⟩
theorem As9{z:Int}{e:ExprT}{l hd:List Int}{c i:Int}(h0:Al (8,z,e,l)=0)(h1:te1 (8,z,e,l) i=false)(h2:te2 (8,z,e,l) (hd,c,false) i=false)
 (a1:0<=c)(a2:c<=1)(a3:(hd.length:Int)<=2)(a5:(List.range hd.length).any (C6 hd)=false):Oc (8,z,e,l) i (Ei (8,z,e,l) (hd,c,false) i).1 (Ei (8,z,e,l) (hd,c,false) i).2.1:=by
 have hi:=Yh (by show(8:Int)≠1;decide) h1;replace hi:0<=i/\i<2:=hi;have hnot:hd.any (isI i)=false:=Afn (by show(8:Int)≠1;decide) h2;have one:∀a:Int,a=0\/a=1->Oc (8,z,e,l) a ([a],c,false) [[]]:=by
  intro a ha;have hv:Av (8,z,e,l) ([a],c,false)=true:=by
   refine As.2 ⟨⟨a1,a2,by show((1:Nat):Int)<=2;decide⟩, ?_, ?_⟩
   ·rcases ha with rfl|rfl<;>rfl
   ·rcases ha with rfl|rfl<;>rfl
  have ht:te2 (8,z,e,l) ([a],c,false) a=true:=by
   show(bif !decide ((8:Int)=1)then[a].any (isI a)else false)=true;simp[isI]
  refine⟨hv,rfl, ?_,M6 h0 hv ?_ ht⟩
  ·by_cases hc:a=c
   ·rw[ND3 (by simp[h0]) (by simp[hv]) (by rfl) (by show[a].any (isI c)=true;simp[isI,hc])];show[1-c].any (isI a)=false;simp[isI];omega
   ·rw[ND4 (by simp[h0]) (by simp[hv]) (by rfl) (by show[a].any (isI c)=false;simp[isI];omega) (by rfl)];show[c].any (isI a)=false;simp[isI];omega
  ·rcases ha with rfl|rfl<;>rfl
 have two:∀a:Int,te1 (8,z,e,l) a=false->Oc (8,z,e,l) a ([0,1],c,true) [[]]:=λa h1=>
  D1 h0 h1 rfl (As.2 ⟨⟨a1,a2,by show((2:Nat):Int)<=2;decide⟩,rfl,rfl⟩) rfl
 have hi2:i=0\/i=1:=by omega
 rcases Adl a3 a5 with rfl|rfl|rfl|rfl
 ·show Oc _ i (Gw [i],c,decide (((Gw [i]).length:Int)=2)) [[]];rw[Adn];exact one i hi2
 ·rcases hi2 with rfl|rfl
  ·exact aT hnot (by simp[isI])
  ·show Oc _ 1 (Gw [0,1],c,decide (((Gw [0,1]).length:Int)=2)) [[]];rw[Afo];exact two 1 h1
 ·rcases hi2 with rfl|rfl
  ·show Oc _ 0 (Gw [1,0],c,decide (((Gw [1,0]).length:Int)=2)) [[]];rw[Afp];exact two 0 h1
  ·exact aT hnot (by simp[isI])
 ·rcases hi2 with rfl|rfl
  ·exact aT hnot (by simp[isI])
  ·exact aT hnot (by simp[isI])
theorem Qo{z:Int}{e:ExprT}{l:List Int}{s:SST}{i:Int}:Gc (9,z,e,l) s i=decide (C8 .i64 (Nv .i64 s.2.1 i) 1=1):=by
 unfold Gc;rw[aL (by show ¬(9:Int)=8;decide),aP rfl]
theorem Apn{z:Int}{e:ExprT}{l hd:List Int}{c i:Int}:te2 (9,z,e,l) (hd,c,false) i=decide (C8 .i64 (Nv .i64 c i) 1=1):=by
 unfold te2;rw[Qo];rfl
theorem Ata{z:Int}{e:ExprT}{l hd:List Int}{c i:Int}(h0:Al (9,z,e,l)=0)(h1:te1 (9,z,e,l) i=false)(h2:te2 (9,z,e,l) (hd,c,false) i=false)
 (a1:0<=c)(a2:c<=3)(a3:(hd.length:Int)<=1)(a4:hd.any Aj=false)(a5:(bif (false==decide (c=3))then(bif decide (c<2)then true else decide ((hd.length:Int)=0))else false)=true):
 Oc (9,z,e,l) i (Ei (9,z,e,l) (hd,c,false) i).1 (Ei (9,z,e,l) (hd,c,false) i).2.1:=by
 have hi:=Yh (by show(9:Int)≠1;decide) h1;replace hi:0<=i/\i<2:=hi;have hnot:Gc (9,z,e,l) (hd,c,false) i=false:=Afn (by show(9:Int)≠1;decide) h2;replace hnot:decide (C8 .i64 (Nv .i64 c i) 1=1)=false:=hnot;have hi2:i=0\/i=1:=by omega
 have hc:c=0\/c=1\/c=2\/c=3:=by omega
 rcases hc with rfl|rfl|rfl|rfl
 ·rcases hi2 with rfl|rfl
  ·have b:Dc .i64 0 (Dd .i64 1 0)=1:=by decide
   have hr:Ei (9,z,e,l) (hd,0,false) 0=((hd,1,false),[[]],0):=by
    show((if decide ((0:Int)=1)=true then[]else hd,Dc .i64 0 (Dd .i64 1 0),decide (Dc .i64 0 (Dd .i64 1 0)=3)),[[]],(0:Int))=_;rw[b];rfl
   rw[hr];show Oc _ 0 (hd,1,false) [[]];have hv:Av (9,z,e,l) (hd,1,false)=true:=As.2 ⟨⟨by show(0:Int)<=1;decide,by show(1:Int)<=3;decide,a3⟩,a4,rfl⟩;refine⟨hv,rfl, ?_,M6 h0 hv h1 (by rw[Apn];decide)⟩;rw[ND5 (by simp[h0]) (by simp[hv]) (by rfl) (by rfl) (by rfl) (by rw[Qo,show decide (C8 .i64 (Nv .i64 ((hd,(1:Int),false):SST).2.1 0) 1=1)=true from by show decide (C8 .i64 (Nv .i64 1 0) 1=1)=true;decide];rfl)];rfl
  ·have b:Dc .i64 0 (Dd .i64 1 1)=2:=by decide
   have hr:Ei (9,z,e,l) (hd,0,false) 1=(([],2,false),[[]],0):=by
    show((if decide ((1:Int)=1)=true then[]else hd,Dc .i64 0 (Dd .i64 1 1),decide (Dc .i64 0 (Dd .i64 1 1)=3)),[[]],(0:Int))=_;rw[b];rfl
   rw[hr];show Oc _ 1 ([],2,false) [[]];have hv:Av (9,z,e,l) ([],2,false)=true:=As.2 ⟨⟨by show(0:Int)<=2;decide,by show(2:Int)<=3;decide,by show((0:Nat):Int)<=1;decide⟩,rfl,rfl⟩;refine⟨hv,rfl, ?_,M6 h0 hv h1 (by rw[Apn];decide)⟩;rw[ND6 (by simp[h0]) (by simp[hv]) (by rfl) (by rfl) (by rfl) (by rw[Qo,show decide (C8 .i64 (Nv .i64 (([],(2:Int),false):SST).2.1 0) 1=1)=false from by show decide (C8 .i64 (Nv .i64 2 0) 1=1)=false;decide];rfl)];rfl
 ·rcases hi2 with rfl|rfl
  ·exact aT hnot (by decide)
  ·have b:Dc .i64 1 (Dd .i64 1 1)=3:=by decide
   have hr:Ei (9,z,e,l) (hd,1,false) 1=(([],3,true),[[]],0):=by
    show((if decide ((1:Int)=1)=true then[]else hd,Dc .i64 1 (Dd .i64 1 1),decide (Dc .i64 1 (Dd .i64 1 1)=3)),[[]],(0:Int))=_;rw[b];rfl
   rw[hr];show Oc _ 1 ([],3,true) [[]];exact D1 h0 h1 rfl (As.2 ⟨⟨by show(0:Int)<=3;decide,by show(3:Int)<=3;decide,by show((0:Nat):Int)<=1;decide⟩,rfl,rfl⟩) rfl
 ·rcases hi2 with rfl|rfl
  ·have hl:(hd.length:Int)=0:=aM a5;have b:Dc .i64 2 (Dd .i64 1 0)=3:=by decide
   have hr:Ei (9,z,e,l) (hd,2,false) 0=((hd,3,true),[[]],0):=by
    show((if decide ((0:Int)=1)=true then[]else hd,Dc .i64 2 (Dd .i64 1 0),decide (Dc .i64 2 (Dd .i64 1 0)=3)),[[]],(0:Int))=_;rw[b];rfl
   rw[hr];show Oc _ 0 (hd,3,true) [[]];refine D1 h0 h1 rfl (As.2 ⟨⟨by show(0:Int)<=3;decide,by show(3:Int)<=3;decide,a3⟩,a4, ?_⟩) rfl;show(bif (true==decide ((3:Int)=3))then(bif decide ((3:Int)<2)then true else decide ((hd.length:Int)=0))else false)=true;rw[aX hl];rfl
  ·exact aT hnot (by decide)
 ·have a6:false=true:=a5;cases a6
theorem Wo{x:StT}{s:SST}{i:Int}(h:(Cg x s i).2.2.2=0):Oc x i (Cg x s i).1 (Cg x s i).2.1/\(Cg x s i).2.2.1=(Cg x s i).1.2.2:=by
 obtain⟨h0,hv,h1,h2,h3,he⟩:=Adk h;rw[he];refine⟨?_,rfl⟩;show Oc x i (Ei x s i).1 (Ei x s i).2.1;have hz:=Ax h0;have hk:=G6 (B1 h0);have hen:=Adm h2;obtain⟨⟨a1,a2,a3⟩,a4,a5⟩:=As.1 hv;obtain⟨k,z,e,l⟩:=x;obtain⟨hd,c,en⟩:=s;replace hk:k=1\/k=2\/k=3\/k=4\/k=5\/k=6\/k=7\/k=8\/k=9\/k=10:=hk;replace hen:en=false:=hen;subst hen;rcases hk with rfl|rfl|rfl|rfl|rfl|rfl|rfl|rfl|rfl|rfl
 ·exact D1 h0 h1 rfl (As.2 ⟨⟨a1,a2,a3⟩,a4,rfl⟩) rfl
 ·exact D1 h0 h1 rfl (As.2 ⟨⟨a1,a2,a3⟩,a4,rfl⟩) rfl
 ·exact D1 h0 h1 rfl (As.2 ⟨⟨a1,a2,a3⟩,a4,rfl⟩) rfl
 ·have hz1:1<=z:=hz.2.2 rfl;have hb:(Cf (hd,[],0)).1=[]:=by
   unfold Cf;by_cases hl:0<(hd.length:Int)
   ·rw[aP (aX hl)];rfl
   ·rw[aL (by simpa using hl)];show hd=[];exact cV (by omega)
  show Oc _ i ((Cf (hd,[],0)).1,c,true) [(Cf (hd,[],0)).2.1];rw[hb];exact D1 h0 h1 rfl (As.2 ⟨⟨a1,a2,by show((0:Nat):Int)<=z-1;omega⟩,rfl,rfl⟩) rfl
 ·exact D1 h0 h1 rfl (As.2 ⟨⟨a1,a2,a3⟩,a4,rfl⟩) rfl
 ·exact D1 h0 h1 rfl (As.2 ⟨⟨a1,a2,a3⟩,a4,rfl⟩) rfl
 ·exact D1 h0 h1 rfl (As.2 ⟨⟨a1,a2,a3⟩,a4,rfl⟩) rfl
 ·refine As9 h0 h1 h2 a1 a2 a3 ?_;replace a5:(if(List.range hd.length).any (C6 hd)=true then false else(false==decide ((hd.length:Int)=2)))=true:=a5;split at a5
  ·cases a5
  ·rename_i hq;simpa using hq
 ·exact Ata h0 h1 h2 a1 a2 a3 a4 a5
 ·exact D1 h0 h1 rfl (As.2 ⟨⟨a1,a2,a3⟩,a4,rfl⟩) rfl
set_option maxHeartbeats 8000000 in
theorem Ak6:Ju 1:=by
 intro z e l hd c en i n hc hv;have hs:=Ax hc;have hb:=Br hv;have hcl:c<=(l.length:Int):=hb.2.1;have hc0:0<=c:=hb.1;have hl2:=(Hm hc).1;replace hl2:l.length<=200:=hl2;have ix:∀{y:List Int},tk1 (1,z,e,l) (hd,c,en) y i=false->0<=c/\c<(l.length:Int):=λh=>by
  have h9:c≠(l.length:Int):=(Afm rfl h).2;omega
 obtain⟨ek,eo,em,ev,ea⟩:=e;refine⟨_,Fj, ?_⟩;refine(aF (aI tT (λ(h0:List Int×Int×PUnit)=>(λh1=>(aI (λh2=>(Aa rfl (by exact TL0 h1 h2))) (λh2=>(λh3=>(aI (λh4=>tT) (aI (λh5=>(Aa rfl (by exact TL1 h1 h2 h5))) (λh5=>(aI tT (aI (λh6=>(Aa rfl (by exact TL2 h1 h2 h5 h6))) (λh6=>(aA (aF (aA (aF (aE (aF (aK (aI (ix h5) (aD (aB (aA (aI (ix h5) (aB (aF (aI (λh7=>(aK (aE (aD (aB (aE (aD (aC (aA (aE (aB (aI ?_ (aE (aE (aC (aB (aI ?_ (aI (λh8=>nG h8) (λh8=>(aK (aD (aC (Aa rfl (by exact TL4 h1 h2 h5 h6 rfl ‹_›)))))))))))))))))))))))) (λh7=>False.elim (aY (Eq.symm (Eq.trans (by kernel_rfl) h7))))))))))))))))))))))))))))))))
 any_goals (intros;(try subst_vars);(try simp only[nB]at *);(try simp only[inK,big,lim,nL]at *);omega)
set_option maxHeartbeats 8000000 in
theorem Ak7:Ju 2:=by
 intro z e l hd c en i n hc hv;have hs:=Ax hc;have hb:=Br hv;obtain⟨ek,eo,em,ev,ea⟩:=e;refine⟨_,Fj, ?_⟩;refine(aF (aI tT (λ(h0:List Int×Int×PUnit)=>(λh1=>(aI (λh2=>(Aa rfl (by exact TL0 h1 h2))) (λh2=>(λh3=>(aI (λh4=>tT) (aI (λh5=>(Aa rfl (by exact TL1 h1 h2 h5))) (λh5=>(aI tT (aI (λh6=>(Aa rfl (by exact TL2 h1 h2 h5 h6))) (λh6=>(aA (aF (aA (aF (aE (aF (aF (aA (aF (aI ?_ (aI tT (aI (λh7=>(aF (aI (λh8=>(aK (aE (aD (aB (aE (aD (aC (aA (aE (aB (aI ?_ (aE (aE (aC (aB (aI (λh9=>(aK (aD (aD (Aa rfl (by exact TL3 h1 h2 h5 h6 rfl h9)))))) (λh9=>(aK (aD (aC (Aa rfl (by exact TL4 h1 h2 h5 h6 rfl h9))))))))))))))))))))))) (λh8=>(aI (λh10=>(aK (aD (aD (Aa rfl (by exact TL3 h1 h2 h5 h6 rfl h10)))))) (λh10=>(aK (aD (aC (Aa rfl (by exact(nbF h8 h10).elim))))))))))) (λh7=>False.elim (aY (Eq.symm (Eq.trans (by kernel_rfl) h7)))))))))))))))))))))))))))))
 any_goals (intros;(try subst_vars);(try simp only[nB]at *);(try simp only[inK,big,lim,nL]at *);omega)
set_option maxHeartbeats 8000000 in
theorem Ak8:Ju 3:=by
 intro z e l hd c en i n hc hv;have hs:=Ax hc;have hb:=Br hv;obtain⟨ek,eo,em,ev,ea⟩:=e;refine⟨_,Fj, ?_⟩;refine(aF (aI tT (λ(h0:List Int×Int×PUnit)=>(λh1=>(aI (λh2=>(Aa rfl (by exact TL0 h1 h2))) (λh2=>(λh3=>(aI (λh4=>tT) (aI (λh5=>(Aa rfl (by exact TL1 h1 h2 h5))) (λh5=>(aI tT (aI (λh6=>(Aa rfl (by exact TL2 h1 h2 h5 h6))) (λh6=>(aA (aF (aA (aF (aE (aF (aF (aA (aF (aI ?_ (aI tT (aI (λh7=>(aI (λh8=>(aF (aI (λh9=>(aK (aE (aD (aB (aE (aD (aC (aA (aE (aB (aI ?_ (aE (aE (aC (aB (aI (λh10=>(aK (aD (aD (Aa rfl (by exact TL3 h1 h2 h5 h6 rfl ‹_›)))))) (λh10=>(aK (aD (aC (Aa rfl (by exact TL4 h1 h2 h5 h6 (r3t h8) ‹_›))))))))))))))))))))))) (λh9=>(aI (λh11=>(aK (aD (aD (Aa rfl (by exact TL3 h1 h2 h5 h6 rfl ‹_›)))))) (λh11=>(aK (aD (aC (Aa rfl (by exact(nbF h9 h11).elim))))))))))) (λh8=>(aI (λh12=>(aK (aD (aD (Aa rfl (by exact TL3 h1 h2 h5 h6 rfl ‹_›)))))) (λh12=>(aK (aD (aC (Aa rfl (by exact TL4 h1 h2 h5 h6 (r3f ‹_›) ‹_›)))))))))) (λh7=>False.elim (aY (Eq.symm (Eq.trans (by kernel_rfl) h7)))))))))))))))))))))))))))))
 any_goals (intros;(try subst_vars);(try simp only[nB]at *);(try simp only[inK,big,lim,nL]at *);omega)
set_option maxHeartbeats 8000000 in
theorem Ak9:Ju 4:=by
 intro z e l hd c en i n hc hv;have hs:=Ax hc;have hb:=Br hv;have hz:z<=200:=hs.2.1;have hl0:(hd.length:Int)<=z-1:=hb.2.2;have hl1:hd.length<=1000:=by omega
 have room:(hd.length + [n].length)*8<=lim:=by simp only[lim,List.length_cons,List.length_nil];omega
 have hin0:=Ak4 (As.1 hv).2.1;replace hin0:∀x∈hd,inM x:=hin0;obtain⟨ek,eo,em,ev,ea⟩:=e;refine⟨_,Fj, ?_⟩;refine(aF (aI tT (λ(h0:List Int×Int×PUnit)=>(λh1=>(aI (λh2=>(Aa rfl (by exact TL0 h1 h2))) (λh2=>(λh3=>(aI (λh4=>tT) (aI (λh5=>(Aa rfl (by exact TL1 h1 h2 h5))) (λh5=>(aI tT (aI (λh6=>(Aa rfl (by exact TL2 h1 h2 h5 h6))) (λh6=>(aA (aF (aA (aF (aE (aF (aI (by omega) (aI (by omega) (aF (λh7=>(aI (λh8=>(aF (λh9=>?_))) (λh8=>(aI (λh10=>nG h10) (λh10=>(aK (aD (aC (Aa rfl (by exact TL4 h1 h2 h5 h6 (r4f h8) ‹_›))))))))))))))))))))))))))))))));have hin:∀x∈hd++[n],inM x:=λx hx=>by
  rcases dG.1 hx with h9|h9
  ·exact hin0 x h9
  ·rw[bT.1 h9];exact Afl (Yg h6)
 have hdl:(hd++[n]).length<=1001:=by simp;omega
 refine ex4 _ (λp:Nat×Int×Int=>⟨[.ptr 8 0,.any,.int .i64 p.2.1,.any,.any,.ptr 8 0,.ptr 8 0,.ptr 8 8,.ptr 8 8,.own 11,.int .i64 (↑(hd++[n]).length:Int),.int .i64 (p.1:Int)]++nA 27,[.cells   [.int .i64 4,.int .i64 z,.int .i64 (ExprT.mk ek eo em ev ea).kind,     .int .i64 (ExprT.mk ek eo em ev ea).op,.str (ExprT.mk ek eo em ev ea).name,     .int .i64 (ExprT.mk ek eo em ev ea).value,.sl .expr (ExprT.mk ek eo em ev ea).args,     .sl (.int .i64) l],.cells [.sl (.int .i64) hd,.int .i64 c,.bool en],.cells [.cap0,.int .i64 0,.bool false],.cells   [.int .i64 1,.int .i64 1,.int .i64 1,.int .i64 100,.int .i64 0,     .sl .str [],.fn (Fn.func 109) [] [],.fn (Fn.func 110) [] []],.cells   [.int .i64 4,.int .i64 z,.int .i64 (ExprT.mk ek eo em ev ea).kind,     .int .i64 (ExprT.mk ek eo em ev ea).op,.str (ExprT.mk ek eo em ev ea).name,     .int .i64 (ExprT.mk ek eo em ev ea).value,.sl .expr (ExprT.mk ek eo em ev ea).args,     .sl (.int .i64) l],.cells [.sl (.int .i64) hd,.int .i64 c,.bool en],.cells   [.int .i64 1,.int .i64 1,.int .i64 1,.int .i64 100,.int .i64 0,     .sl .str [],.fn (Fn.func 109) [] [],.fn (Fn.func 110) [] []],.cells [.cap0],.cells [.int .i64 4,.int .i64 z,.int .i64 ek,.int .i64 eo,.str em,.int .i64 ev,.sl .expr ea,.sl tI l,.own 11,.int .i64 c,.bool en,.csl tI 7 1,.int .i64 p.2.2,.int .i64 0],.dead,.rows tI [n],.rows tI (hd++[n])],12⟩) (λp=>p.1<=(hd++[n]).length/\p.2=((hd++[n]).take p.1).foldl Et (0,0)/\(-(1099511627776*(p.1:Int))<=p.2.1/\p.2.1<=1099511627776*(p.1:Int))) (λp=>(hd++[n]).length-p.1) (aI (eI ((0,0,0)) (eI ([some 0,some 1,some 2,some 3,some 4,some 5,some 6,some 7,some 8,some 9,some 10,some 11]) (aI ?_ (aB (aI (aJ (aJ (aG (aB tT)))) (by rfl)))))) ?_)
 ·exact⟨aV _,rfl,by show -(1099511627776*((0:Nat):Int))<=0;decide,by show(0:Int)<=1099511627776*((0:Nat):Int);decide⟩
 rintro⟨j,v,f⟩ ⟨hj,hp,hn⟩;replace hj:j<=(hd++[n]).length:=hj;replace hp:(v,f)=((hd++[n]).take j).foldl Et (0,0):=hp;replace hn:-(1099511627776*(j:Int))<=v/\v<=1099511627776*(j:Int):=hn;have hx:-1099511627776<=(hd++[n]).getD j 0/\(hd++[n]).getD j 0<=1099511627776:=Ade hin j;have hjl:j<=1001:=by omega
 have nr:inK .i64 (v+(hd++[n]).getD j 0):=by simp only[inK];omega
 have hb3:-(1099511627776*((j+1:Nat):Int))<=v+(hd++[n]).getD j 0/\v+(hd++[n]).getD j 0<=1099511627776*((j+1:Nat):Int):=by omega
 refine(aI (λm0=>(aI (by(intros;(try subst_vars);(try simp only[nB]at *);(try simp only[inK,big,lim,nL]at *);omega)) (aI (nr) (aI tT (aI (λm1=>(aI (by(intros;(try subst_vars);(try simp only[nB]at *);(try simp only[inK,big,lim,nL]at *);omega)) ?_)) (λm1=>(aI (by(intros;(try subst_vars);(try simp only[nB]at *);(try simp only[inK,big,lim,nL]at *);omega)) ?_))))))) (λm0=>(aF (aI (λm2=>(aK (aE (aD (aB (aE (aD (aC (aA (aE (aB (aI (by(intros;(try subst_vars);(try simp only[nB]at *);(try simp only[inK,big,lim,nL]at *);omega)) (aE (aE (aC (aB (aI (λm3=>(aK (aD (aD (Aa rfl (by exact(nbT m2 m3).elim)))))) (λm3=>(aK (aD (aC (Aa rfl ?_)))))))))))))))))))))) (λm2=>(aI (λm4=>(aK (aD (aD (Aa rfl ?_))))) (λm4=>(aK (aD (aC (Aa rfl (by exact(nbF m2 m4).elim))))))))))))
 ·have hj':j<(hd++[n]).length:=by have h:(j:Int)<((hd++[n]).length:Int):=aM m0;omega
  refine eI ((j+1,v+(hd++[n]).getD j 0,14)) (eI ([some 0,some 1,some 2,some 3,some 4,some 5,some 6,some 7,some 8,some 9,some 10,some 11]) (aI ?_ (aI ?_ (aB (aI (aJ (aJ (aG (aB tT)))) (by rfl))))))
  ·refine⟨hj', ?_,hb3⟩;rw[Ki hj' hp];dsimp only[Et];rw[aP (show(bif !Ke (v+(hd++[n]).getD j 0)then decide (f=0)else false)=true from m1)]
  ·show(hd++[n]).length-(j+1)<(hd++[n]).length-j;omega
 ·have hj':j<(hd++[n]).length:=by have h:(j:Int)<((hd++[n]).length:Int):=aM m0;omega
  refine eI ((j+1,v+(hd++[n]).getD j 0,f)) (eI ([some 0,some 1,some 2,some 3,some 4,some 5,some 6,some 7,some 8,some 9,some 10,some 11]) (aI ?_ (aI ?_ (aB (aI (aJ (aJ (aG (aB tT)))) (by rfl))))))
  ·refine⟨hj', ?_,hb3⟩;rw[Ki hj' hp];dsimp only[Et];rw[aL (by rw[show(bif !Ke (v+(hd++[n]).getD j 0)then decide (f=0)else false)=false from m1];simp)]
  ·show(hd++[n]).length-(j+1)<(hd++[n]).length-j;omega
 ·have hp2:(hd++[n]).foldl Et (0,0)=(v,f):=by
   have h:¬(j:Int)<((hd++[n]).length:Int):=aQ m0;rw[hp,bL (by omega)]
  have h:decide (f=0)=true:=m2;have hf:f=0:=aM h;subst hf;exact TL4 h1 h2 h5 h6 (r4t h8 hp2) m3
 ·have hp2:(hd++[n]).foldl Et (0,0)=(v,f):=by
   have h:¬(j:Int)<((hd++[n]).length:Int):=aQ m0;rw[hp,bL (by omega)]
  have h:decide (f=0)=false:=m2;exact TL3 h1 h2 h5 h6 (by rw[r4t h8 hp2]) (by rw[h];rfl)
set_option maxHeartbeats 8000000 in
theorem Ala:Ju 5:=by
 intro z e l hd c en i n hc hv;have hs:=Ax hc;have hb:=Br hv;obtain⟨ek,eo,em,ev,ea⟩:=e;refine⟨_,Fj, ?_⟩;refine(aF (aI tT (λ(h0:List Int×Int×PUnit)=>(λh1=>(aI (λh2=>(Aa rfl (by exact TL0 h1 h2))) (λh2=>(λh3=>(aI (λh4=>tT) (aI (λh5=>(Aa rfl (by exact TL1 h1 h2 h5))) (λh5=>(aI tT (aI (λh6=>(Aa rfl (by exact TL2 h1 h2 h5 h6))) (λh6=>(aA (aF (aA (aF (aE (aF ?_)))))))))))))))))));refine ex4 _ (λq:Nat=>⟨[.ptr 8 0,.any,.int .i64 n,.any,.any,.any,.any,.any,.ptr 8 0,.any,.int .i64 z,.int .i64 (q:Int),.any,.any,.any,.any,.any],[.cells   [.int .i64 5,.int .i64 z,.int .i64 (ExprT.mk ek eo em ev ea).kind,     .int .i64 (ExprT.mk ek eo em ev ea).op,.str (ExprT.mk ek eo em ev ea).name,     .int .i64 (ExprT.mk ek eo em ev ea).value,.sl .expr (ExprT.mk ek eo em ev ea).args,     .sl (.int .i64) l],.cells [.sl (.int .i64) hd,.int .i64 c,.bool en],.cells [.cap0,.int .i64 0,.bool false],.cells   [.int .i64 1,.int .i64 1,.int .i64 0,.int .i64 100,.int .i64 0,     .sl .str [],.fn (Fn.func 112) [] [],.fn (Fn.func 105) [] []],.cells   [.int .i64 5,.int .i64 z,.int .i64 (ExprT.mk ek eo em ev ea).kind,     .int .i64 (ExprT.mk ek eo em ev ea).op,.str (ExprT.mk ek eo em ev ea).name,     .int .i64 (ExprT.mk ek eo em ev ea).value,.sl .expr (ExprT.mk ek eo em ev ea).args,     .sl (.int .i64) l],.cells [.sl (.int .i64) hd,.int .i64 c,.bool en],.cells   [.int .i64 1,.int .i64 1,.int .i64 0,.int .i64 100,.int .i64 0,     .sl .str [],.fn (Fn.func 112) [] [],.fn (Fn.func 105) [] []],.cells [.own 9],.cells   [.int .i64 5,.int .i64 z,.int .i64 (ExprT.mk ek eo em ev ea).kind,     .int .i64 (ExprT.mk ek eo em ev ea).op,.str (ExprT.mk ek eo em ev ea).name,     .int .i64 (ExprT.mk ek eo em ev ea).value,.sl .expr (ExprT.mk ek eo em ev ea).args,     .sl (.int .i64) l,.sl (.int .i64) hd,.int .i64 c,.bool en,     .csl tI 7 (Int.toNat 1),.int .i64 0,.int .i64 0],.rows tI (List.replicate q n)],10⟩) (λq=>(q:Int)<=z) (λq=>z.toNat-q) (aI (eI (0) (eI ([some 0,some 1,some 2,some 3,some 4,some 5,some 6,some 7,some 8,none]) (aI ?_ (aB (aI (aJ (aJ (aG (aA tT)))) (by rfl)))))) ?_)
 ·exact hs.1
 rintro q hq;have hz2:z<=200:=hs.2.1;have room:((List.replicate q n).length+1)*8<=lim:=by simp only[lim,bZ];omega
 refine(aI (λw0=>(aF (aI (λw1=>(aK (aE (aD (aB (aE (aD (aC (aA (aE (aB (aI (by omega) (aE (aE (aC (aB (aI (by(intros;(try subst_vars);(try simp only[nB]at *);(try simp only[inK,big,lim,nL]at *);omega)) ?_))))))))))))))))) (λw1=>False.elim (aY (Eq.symm (Eq.trans (by kernel_rfl) w1))))))) (λw0=>(aI (λw2=>nG w2) (λw2=>(aK (aD (aC (Aa rfl ?_))))))))
 ·have hq':(q:Int)<z:=aM w0;refine eI (q+1) (eI ([some 0,some 1,some 2,some 3,some 4,some 5,some 6,some 7,some 8,some 11]) (aI ?_ (aI ?_ (aB (aI (aJ (aJ (aG (aI ?_ tT)))) (by rfl))))))
  ·show((q+1:Nat):Int)<=z;omega
  ·show z.toNat-(q+1)<z.toNat-q;omega
  ·show Ob.rows tI _=Ob.rows tI (List.replicate (q+1) n);rw[List.replicate_succ']
 ·have hq':q=z.toNat:=by have h:¬(q:Int)<z:=aQ w0;omega
  subst hq';exact TL4 h1 h2 h5 h6 rfl rfl
set_option maxHeartbeats 8000000 in
theorem Alb:Ju 6:=by
 intro z e l hd c en i n hc hv;have hs:=Ax hc;have hb:=Br hv;obtain⟨ek,eo,em,ev,ea⟩:=e;refine⟨_,Fj, ?_⟩;refine(aF (aI tT (λ(h0:List Int×Int×PUnit)=>(λh1=>(aI (λh2=>(Aa rfl (by exact TL0 h1 h2))) (λh2=>(λh3=>(aI (λh4=>tT) (aI (λh5=>(Aa rfl (by exact TL1 h1 h2 h5))) (λh5=>(aI tT (aI (λh6=>(Aa rfl (by exact TL2 h1 h2 h5 h6))) (λh6=>(aA (aF (aA (aF (aE (aF (aF (aI (λh7=>(aI ?_ (aF (aI (λh8=>(aK (aE (aD (aB (aE (aD (aC (aA (aE (aB (aI ?_ (aE (aE (aC (aB (aI (λh9=>nG h9) (λh9=>(aK (aD (aC (Aa rfl (by exact TL4 h1 h2 h5 h6 (r6t h7) ‹_›))))))))))))))))))))))) (λh8=>False.elim (aY (Eq.symm (Eq.trans (by kernel_rfl) h8)))))))) (λh7=>(aI (λh10=>nG h10) (λh10=>(aK (aD (aC (Aa rfl (by exact TL4 h1 h2 h5 h6 (r6f ‹_›) ‹_›)))))))))))))))))))))))))))))
 any_goals (intros;(try subst_vars);(try simp only[nB]at *);(try simp only[inK,big,lim,nL]at *);omega)
set_option maxHeartbeats 8000000 in
theorem Alc:Ju 7:=by
 intro z e l hd c en i n hc hv;have hs:=Ax hc;have hb:=Br hv;have hty:Bg e (B6 nmX [0,0])=(2,0):=Aa1 hc (by show(2:Int)≠0;decide);have hvv:=evB hty n 0;have wr:∀w:Int,w=(evX e nmX n 0).1->-9223372036854775808<=1-w/\1-w<=9223372036854775807:=λw h=>by omega
 have wi:∀w:Int,w=(evX e nmX n 0).1->0<=1-w/\1-w<((2:Nat):Int):=λw h=>by omega
 obtain⟨ek,eo,em,ev,ea⟩:=e;refine⟨_,Adi, ?_⟩;refine(aF (aI tT (λ(h0:List Int×Int×PUnit)=>(λh1=>(aI (λh2=>(Aa rfl (by exact TL0 h1 h2))) (λh2=>(λh3=>(aI (λh4=>tT) (aI (λh5=>(Aa rfl (by exact TL1 h1 h2 h5))) (λh5=>(aI tT (aI (λh6=>(Aa rfl (by exact TL2 h1 h2 h5 h6))) (λh6=>(aA (aF (aA (aF (aE (aF (aF (aA (aF (aI (by(intros;(try subst_vars);(try simp only[nB]at *);(try simp only[inK,big,lim,nL]at *);omega)) (aI tT (aI (λh7=>(λh8=>(λh9=>(aI (wr h8 h9) (aF (aI (λh10=>(aK (aI (wi h8 h9) ?_))) (λh10=>(aI (λh11=>(aK (aD (aD (Aa rfl (by exact TL3 h1 h2 h5 h6 rfl ‹_›)))))) (λh11=>(aK (aD (aC (Aa rfl (by exact(nbF h10 h11).elim)))))))))))))) (λh7=>False.elim (aY (Eq.symm (Eq.trans (by kernel_rfl) h7)))))))))))))))))))))))))))))
 ·rcases hvv with hv1|hv1
  ·have hm:h8=0:=h9.trans hv1;subst hm;have hr:=r7f (z:=z) (l:=l) (s:=(hd,c,en)) (i:=i) (show decide ((evX (ExprT.mk ek eo em ev ea) nmX n 0).1=1)=false by rw[hv1];rfl);refine(aD (aB (aE (aD (aC (aA (aE (aB (aO (aE (aE (aC (aB (aI (λw0=>(aK (aD (aD (Aa rfl (by exact TL3 h1 h2 h5 h6 rfl w0)))))) (λw0=>(aK (aD (aC (Aa rfl (by exact TL4 h1 h2 h5 h6 hr w0))))))))))))))))))))
  ·have hm:h8=1:=h9.trans hv1;subst hm;have hr:=r7t (z:=z) (l:=l) (s:=(hd,c,en)) (i:=i) (show decide ((evX (ExprT.mk ek eo em ev ea) nmX n 0).1=1)=true by rw[hv1];rfl);refine(aD (aB (aE (aD (aC (aA (aE (aB (aO (aE (aE (aC (aB (aI (λw0=>(aK (aD (aD (Aa rfl (by exact TL3 h1 h2 h5 h6 rfl w0)))))) (λw0=>(aK (aD (aC (Aa rfl (by exact TL4 h1 h2 h5 h6 hr w0))))))))))))))))))))
set_option maxHeartbeats 8000000 in
theorem Ald:Ju 8:=by
 intro z e l hd c en i n hc hv;have hs:=Ax hc;have hb:=Br hv;have hc1:c<=1:=hb.2.1;have hc0:0<=c:=hb.1;have nr:∀{y:Ib Ada},y=((Am (8,z,e,l) (hd,c,en)).1,(Am (8,z,e,l) (hd,c,en)).2,())->tk1 (8,z,e,l) (hd,c,en) y.1 i=false->-9223372036854775808<=1-i/\1-i<=9223372036854775807:=λh h'=>by
  subst h;have he:en=false:=Un h';subst he;have:=As8 hc hv h';omega
 obtain⟨ek,eo,em,ev,ea⟩:=e;refine⟨_,Fj, ?_⟩;refine(aF (aI tT (λ(h0:List Int×Int×PUnit)=>(λh1=>(aI (λh2=>(Aa rfl (by exact TL0 h1 h2))) (λh2=>(λh3=>(aI (λh4=>tT) (aI (λh5=>(Aa rfl (by exact TL1 h1 h2 h5))) (λh5=>(aI tT (aI (λh6=>(Aa rfl (by exact TL2 h1 h2 h5 h6))) (λh6=>(aA (aF (aA (aF (aE (aF (aF (aF (aI (λh7=>(aK (aE (aD (aB (aE (aD (aC (aA (aE (aB (aI (by(intros;(try subst_vars);(try simp only[nB]at *);(try simp only[inK,big,lim,nL]at *);omega)) (aE (aE (aC (aB (aI (nr h1 h5) (aI (λh8=>nG h8) (λh8=>(aK (aD (aC (Aa rfl (by exact TL4 h1 h2 h5 h6 rfl ‹_›)))))))))))))))))))))))) (λh7=>False.elim (aY (Eq.symm (Eq.trans (by kernel_rfl) h7))))))))))))))))))))))))))
set_option maxHeartbeats 8000000 in
theorem Ale:Ju 9:=by
 intro z e l hd c en i n hc hv;have hs:=Ax hc;have hb:=Br hv;obtain⟨ek,eo,em,ev,ea⟩:=e;refine⟨_,Fj, ?_⟩;refine(aF (aI tT (λ(h0:List Int×Int×PUnit)=>(λh1=>(aI (λh2=>(Aa rfl (by exact TL0 h1 h2))) (λh2=>(λh3=>(aI (λh4=>tT) (aI (λh5=>(Aa rfl (by exact TL1 h1 h2 h5))) (λh5=>(aI tT (aI (λh6=>(Aa rfl (by exact TL2 h1 h2 h5 h6))) (λh6=>(aA (aF (aA (aF (aE (aF (aI (λh7=>(aI (λh8=>(aI (λh9=>nG h9) (λh9=>(aK (aD (aC (Aa rfl (by exact TL4 h1 h2 h5 h6 (r9a h7 h8) h9)))))))) (λh8=>(aI (λh10=>nG h10) (λh10=>(aK (aD (aC (Aa rfl (by exact TL4 h1 h2 h5 h6 (r9b h7 h8) h10)))))))))) (λh7=>(λh11=>(aI (λh12=>(aI ?_ (aF (aA (aF (aI ?_ (aI tT (aI (λh13=>(aF (aI (λh14=>(aK (aE (aD (aB (aE (aD (aC (aA (aE (aB (aI ?_ (aE (aE (aC (aB (aI (λh15=>(aK (aD (aD (Aa rfl (by exact(nbT h14 h15).elim)))))) (λh15=>(aK (aD (aC (Aa rfl (by exact TL4 h1 h2 h5 h6 (r9c h7 h12) ‹_›))))))))))))))))))))))) (λh14=>(aI (λh16=>(aK (aD (aD (Aa rfl (by exact TL3 h1 h2 h5 h6 (by rw[r9c h7 h12];rfl) ‹_›)))))) (λh16=>(aK (aD (aC (Aa rfl (by exact(nbF h14 h16).elim))))))))))) (λh13=>False.elim (aY (Eq.symm (Eq.trans (by kernel_rfl) h13)))))))))))) (λh12=>(aI (λh17=>nG h17) (λh17=>(aK (aD (aC (Aa rfl (by exact TL4 h1 h2 h5 h6 (r9d h7 h12) ‹_›)))))))))))))))))))))))))))))))
 any_goals (intros;(try subst_vars);(try simp only[nB]at *);(try simp only[inK,big,lim,nL]at *);omega)
set_option maxHeartbeats 8000000 in
theorem Ahx:Ju 10:=by
 intro z e l hd c en i n hc hv;have hs:=Ax hc;have hb:=Br hv;obtain⟨ek,eo,em,ev,ea⟩:=e;refine⟨_,Fj, ?_⟩;refine(aF (aI tT (λ(h0:List Int×Int×PUnit)=>(λh1=>(aI (λh2=>(Aa rfl (by exact TL0 h1 h2))) (λh2=>(λh3=>(aI (λh4=>tT) (aI (λh5=>(Aa rfl (by exact TL1 h1 h2 h5))) (λh5=>(aI tT (aI (λh6=>(Aa rfl (by exact TL2 h1 h2 h5 h6))) (λh6=>(aA (aF (aA (aF (aE (aF (aI (λh7=>nG h7) (λh7=>(aK (aD (aC (Aa rfl (by exact TL4 h1 h2 h5 h6 rfl ‹_›))))))))))))))))))))))))))
end Go.Proofs.YtpabcdbaffjcdaaGreat
