import Derived.Test.YticmijfmgmkkcaaGreatVZa5
import Derived.Test.YticmijfmgmkkcaaGreatVZa6
set_option linter.unusedSimpArgs false
set_option linter.unusedVariables false
set_option maxRecDepth 100000
namespace Go.Proofs.YticmijfmgmkkcaaGreat
open Go.Sx
theorem nbF {b:Bool} (h:b=false) (h':(!b)=false):False:=by rw [h] at h';cases h'
theorem nbT {b:Bool} (h:b=true) (h':(!b)=true):False:=by rw [h] at h';cases h'
def zeroS:SST:=([],0,false)
def runT (x:StT) (s:SST) (i n:Int):SST × List (List Int) × Int :=
 if x.1=1 then ((s.1,s.2.1+1,s.2.2),[[x.2.2.2.getD s.2.1.toNat 0]],0)
 else if x.1=2 then (s,[[(evX x.2.2.1 nmX n 0).1]],(evX x.2.2.1 nmX n 0).2)
 else if x.1=3 then (s,[if decide ((evX x.2.2.1 nmX n 0).1=1)=true then [n] else []],(evX x.2.2.1 nmX n 0).2)
 else if x.1=4 then (((batS x.2.1 (s.1,[],0) n).1,s.2),[(batS x.2.1 (s.1,[],0) n).2.1],(batS x.2.1 (s.1,[],0) n).2.2)
 else if x.1=5 then (s,[List.replicate x.2.1.toNat n],0)
 else if x.1=6 then (if decide (s.2.1 < x.2.1)=true then ((s.1,s.2.1+1,s.2.2),[[n]],0) else (s,[[]],0))
 else if x.1=7 then (s,[if decide ((evX x.2.2.1 nmX n 0).1=1)=true then [n] else [],if decide ((evX x.2.2.1 nmX n 0).1=1)=true then [] else [n]],(evX x.2.2.1 nmX n 0).2)
 else if x.1=8 then ((s.1,1 - i,s.2.2),[[n]],0)
 else if x.1=9 then (if decide (i=0)=true then (if decide (bandI .i64 s.2.1 2=0)=true then (([n],s.2),[[]],0) else (s,[[]],0))
  else if decide ((s.1.length:Int)=1)=true then (([],s.2),[[(evX x.2.2.1 nmXY (s.1.getD 0 0) n).1]],(evX x.2.2.1 nmXY (s.1.getD 0 0) n).2) else (s,[[]],0))
 else (s,[],0)
section
variable {z:Int} {e:ExprT} {l:List Int} {s:SST} {i n:Int}
theorem r3t (h:decide ((evX e nmX n 0).1=1)=true):runT (3,z,e,l) s i n=(s,[[n]],(evX e nmX n 0).2):=by
 show (s,[if decide ((evX e nmX n 0).1=1)=true then [n] else []],_)=_
 rw [if_pos h]
theorem r3f (h:decide ((evX e nmX n 0).1=1)=false):runT (3,z,e,l) s i n=(s,[[]],(evX e nmX n 0).2):=by
 show (s,[if decide ((evX e nmX n 0).1=1)=true then [n] else []],_)=_
 rw [if_neg (by rw [h];simp)]
theorem r7t (h:decide ((evX e nmX n 0).1=1)=true):runT (7,z,e,l) s i n=(s,[[n],[]],(evX e nmX n 0).2):=by
 show (s,[if decide ((evX e nmX n 0).1=1)=true then [n] else [],if decide ((evX e nmX n 0).1=1)=true then [] else [n]],_)=_
 rw [if_pos h,if_pos h]
theorem r7f (h:decide ((evX e nmX n 0).1=1)=false):runT (7,z,e,l) s i n=(s,[[],[n]],(evX e nmX n 0).2):=by
 show (s,[if decide ((evX e nmX n 0).1=1)=true then [n] else [],if decide ((evX e nmX n 0).1=1)=true then [] else [n]],_)=_
 rw [if_neg (by rw [h];simp),if_neg (by rw [h];simp)]
theorem r6t (h:decide (s.2.1 < z)=true):runT (6,z,e,l) s i n=((s.1,s.2.1+1,s.2.2),[[n]],0):=by
 show (if decide (s.2.1 < z)=true then _ else _)=_
 rw [if_pos h]
theorem r6f (h:decide (s.2.1 < z)=false):runT (6,z,e,l) s i n=(s,[[]],0):=by
 show (if decide (s.2.1 < z)=true then _ else _)=_
 rw [if_neg (by rw [h];simp)]
theorem r4t {hd:List Int} {c:Int} {en:Bool} {v f:Int} (h:decide (((hd++[n]).length:Int)=z)=true) (h2:(hd++[n]).foldl sumS (0,0)=(v,f)):runT (4,z,e,l) (hd,c,en) i n=(([],c,en),[sndI f [] v],f):=by
 have hb:batS z (hd,[],0) n=([],sndI f [] v,f):=by
  unfold batS
  rw [if_pos h]
  unfold batE
  rw [show (hd++[n]).foldl sumS (0,0)=(v,f) from h2]
 show (((batS z (hd,[],0) n).1,c,en),[(batS z (hd,[],0) n).2.1],(batS z (hd,[],0) n).2.2)=_
 rw [hb]
theorem r4f {hd:List Int} {c:Int} {en:Bool} (h:decide (((hd++[n]).length:Int)=z)=false):runT (4,z,e,l) (hd,c,en) i n=((hd++[n],c,en),[[]],0):=by
 have hb:batS z (hd,[],0) n=(hd++[n],[],0):=by
  unfold batS
  rw [if_neg (by rw [h];simp)]
 show (((batS z (hd,[],0) n).1,c,en),[(batS z (hd,[],0) n).2.1],(batS z (hd,[],0) n).2.2)=_
 rw [hb]
theorem r9a (h:decide (i=0)=true) (h2:decide (bandI .i64 s.2.1 2=0)=true):runT (9,z,e,l) s i n=(([n],s.2),[[]],0):=by
 show (if decide (i=0)=true then (if decide (bandI .i64 s.2.1 2=0)=true then _ else _) else _)=_
 rw [if_pos h,if_pos h2]
theorem r9b (h:decide (i=0)=true) (h2:decide (bandI .i64 s.2.1 2=0)=false):runT (9,z,e,l) s i n=(s,[[]],0):=by
 show (if decide (i=0)=true then (if decide (bandI .i64 s.2.1 2=0)=true then _ else _) else _)=_
 rw [if_pos h,if_neg (by rw [h2];simp)]
theorem r9c (h:decide (i=0)=false) (h2:decide ((s.1.length:Int)=1)=true):runT (9,z,e,l) s i n=(([],s.2),[[(evX e nmXY (s.1.getD 0 0) n).1]],(evX e nmXY (s.1.getD 0 0) n).2):=by
 show (if decide (i=0)=true then _ else if decide ((s.1.length:Int)=1)=true then _ else _)=_
 rw [if_neg (by rw [h];simp),if_pos h2]
theorem r9d (h:decide (i=0)=false) (h2:decide ((s.1.length:Int)=1)=false):runT (9,z,e,l) s i n=(s,[[]],0):=by
 show (if decide (i=0)=true then _ else if decide ((s.1.length:Int)=1)=true then _ else _)=_
 rw [if_neg (by rw [h];simp),if_neg (by rw [h2];simp)]
end
def tk1 (x:StT) (s:SST) (nd:List Int) (i:Int):Bool:=bif bif s.2.2 then true else bif decide (x.1=1) then bif !decide (i=-1) then true else decide (s.2.1=(x.2.2.2.length:Int)) else false then true else bif !decide (x.1=1) then !nd.any (isI i) else false
def tk2 (x:StT) (n:Int):Bool:=bif !numB n then true else bif decide (x.1=1) then !decide (n=0) else false
def takeF (x:StT) (s:SST) (i n:Int):SST × List (List Int) × Int :=
 if (!decide ((needF x s).2=0))=true then (zeroS,[],(needF x s).2) else
 if tk1 x s (needF x s).1 i=true then (zeroS,[],17) else
 if tk2 x n=true then (zeroS,[],2) else
 if (!decide ((runT x s i n).2.2=0))=true then (zeroS,[],(runT x s i n).2.2) else
 ((runT x s i n).1,(runT x s i n).2.1,0)
@[reducible] def resT (t:SST × List (List Int) × Int):SST × List (List Int) × Int × Unit:=(t.1,t.2.1,t.2.2,())
section
variable {x:StT} {s:SST} {i n:Int} {y:Rens rIsI} (hy:y=((needF x s).1,(needF x s).2,()))
include hy
theorem TL0 (h0:(!decide (y.2.1=0))=true):resT (takeF x s i n)=(([],0,false),[],y.2.1,()):=by
 subst hy;rw [takeF,if_pos h0];rfl
theorem TL1 (h0:(!decide (y.2.1=0))=false) (h1:tk1 x s y.1 i=true):resT (takeF x s i n)=(([],0,false),[],17,()):=by
 subst hy;rw [takeF,if_neg (fun h=>by rw [h0] at h;cases h),if_pos h1];rfl
theorem TL2 (h0:(!decide (y.2.1=0))=false) (h1:tk1 x s y.1 i=false) (h2:tk2 x n=true):resT (takeF x s i n)=(([],0,false),[],2,()):=by
 subst hy;rw [takeF,if_neg (fun h=>by rw [h0] at h;cases h),if_neg (fun h=>by rw [h1] at h;cases h),if_pos h2];rfl
theorem TL3 (h0:(!decide (y.2.1=0))=false) (h1:tk1 x s y.1 i=false) (h2:tk2 x n=false) {e:Int} (hr:(runT x s i n).2.2=e) (h3:(!decide (e=0))=true):resT (takeF x s i n)=(([],0,false),[],e,()):=by
 subst hy;subst hr;rw [takeF,if_neg (fun h=>by rw [h0] at h;cases h),if_neg (fun h=>by rw [h1] at h;cases h),if_neg (fun h=>by rw [h2] at h;cases h),if_pos h3];rfl
theorem TL4 (h0:(!decide (y.2.1=0))=false) (h1:tk1 x s y.1 i=false) (h2:tk2 x n=false) {t:SST} {o:List (List Int)} {e:Int} (hr:runT x s i n=(t,o,e)) (he:(!decide (e=0))=false):resT (takeF x s i n)=(t,o,0,()):=by
 subst hy;rw [takeF,if_neg (fun h=>by rw [h0] at h;cases h),if_neg (fun h=>by rw [h1] at h;cases h),if_neg (fun h=>by rw [h2] at h;cases h),hr,if_neg (fun h=>by rw [he] at h;cases h)]
end
def runE (x:StT) (s:SST) (i:Int):SST × List (List Int) × Int :=
 if x.1=4 then (((batR (s.1,[],0)).1,s.2.1,true),[(batR (s.1,[],0)).2.1],(batR (s.1,[],0)).2.2)
 else if x.1=7 then ((s.1,s.2.1,true),[[],[]],0)
 else if x.1=8 then ((sortI (s.1++[i]),s.2.1,decide (((sortI (s.1++[i])).length:Int)=2)),[[]],0)
 else if x.1=9 then ((if decide (i=1)=true then [] else s.1,borI .i64 s.2.1 (shlI .i64 1 i),decide (borI .i64 s.2.1 (shlI .i64 1 i)=3)),[[]],0)
 else if x.1=10 then ((s.1,s.2.1,true),[],0)
 else ((s.1,s.2.1,true),[[]],0)
section
variable {z:Int} {e:ExprT} {l hd:List Int} {c i:Int} {en:Bool}
theorem e9t (h:decide (i=1)=true):runE (9,z,e,l) (hd,c,en) i=(([],borI .i64 c (shlI .i64 1 i),decide (borI .i64 c (shlI .i64 1 i)=3)),[[]],0):=by
 show ((if decide (i=1)=true then [] else hd,borI .i64 c (shlI .i64 1 i),decide (borI .i64 c (shlI .i64 1 i)=3)),[[]],(0:Int))=_
 rw [if_pos h]
theorem e9f (h:decide (i=1)=false):runE (9,z,e,l) (hd,c,en) i=((hd,borI .i64 c (shlI .i64 1 i),decide (borI .i64 c (shlI .i64 1 i)=3)),[[]],0):=by
 show ((if decide (i=1)=true then [] else hd,borI .i64 c (shlI .i64 1 i),decide (borI .i64 c (shlI .i64 1 i)=3)),[[]],(0:Int))=_
 rw [if_neg (by rw [h];simp)]
theorem e4t {v f:Int} (h:decide (0 < (hd.length:Int))=true) (h2:hd.foldl sumS (0,0)=(v,f)):runE (4,z,e,l) (hd,c,en) i=(([],c,true),[sndI f [] v],f):=by
 have hb:batR (hd,[],0)=([],sndI f [] v,f):=by
  unfold batR
  rw [if_pos h]
  unfold batE
  rw [show hd.foldl sumS (0,0)=(v,f) from h2]
 show (((batR (hd,[],0)).1,c,true),[(batR (hd,[],0)).2.1],(batR (hd,[],0)).2.2)=_
 rw [hb]
theorem e4f (h:decide (0 < (hd.length:Int))=false):runE (4,z,e,l) (hd,c,en) i=((hd,c,true),[[]],0):=by
 have hb:batR (hd,[],0)=(hd,[],0):=by
  unfold batR
  rw [if_neg (by rw [h];simp)]
 show (((batR (hd,[],0)).1,c,true),[(batR (hd,[],0)).2.1],(batR (hd,[],0)).2.2)=_
 rw [hb]
end
def te1 (x:StT) (i:Int):Bool:=bif bif decide (x.1=1) then !decide (i=-1) else false then true else bif !decide (x.1=1) then bif decide (i < 0) then true else decide ((knownF x.1).1≤i) else false
def te2 (x:StT) (s:SST) (i:Int):Bool:=bif s.2.2 then true else bif !decide (x.1=1) then endF x s i else false
def endG (x:StT) (s:SST) (i:Int):SST × List (List Int) × Bool × Int :=
 if (!decide ((needF x s).2=0))=true then (zeroS,[],false,(needF x s).2) else
 if te1 x i=true then (zeroS,[],false,2) else
 if te2 x s i=true then (zeroS,[],false,17) else
 if (!decide ((runE x s i).2.2=0))=true then (zeroS,[],false,(runE x s i).2.2) else
 ((runE x s i).1,(runE x s i).2.1,(runE x s i).1.2.2,0)
@[reducible] def resE (t:SST × List (List Int) × Bool × Int):SST × List (List Int) × Bool × Int × Unit:=(t.1,t.2.1,t.2.2.1,t.2.2.2,())
section
variable {x:StT} {s:SST} {i:Int} {y:Rens rIsI} (hy:y=((needF x s).1,(needF x s).2,()))
include hy
theorem EL0 (h0:(!decide (y.2.1=0))=true):resE (endG x s i)=(([],0,false),[],false,y.2.1,()):=by
 subst hy;rw [endG,if_pos h0];rfl
theorem EL1 (h0:(!decide (y.2.1=0))=false) (h1:te1 x i=true):resE (endG x s i)=(([],0,false),[],false,2,()):=by
 subst hy;rw [endG,if_neg (fun h=>by rw [h0] at h;cases h),if_pos h1];rfl
theorem EL2 (h0:(!decide (y.2.1=0))=false) (h1:te1 x i=false) (h2:te2 x s i=true):resE (endG x s i)=(([],0,false),[],false,17,()):=by
 subst hy;rw [endG,if_neg (fun h=>by rw [h0] at h;cases h),if_neg (fun h=>by rw [h1] at h;cases h),if_pos h2];rfl
theorem EL3 (h0:(!decide (y.2.1=0))=false) (h1:te1 x i=false) (h2:te2 x s i=false) {e:Int} (hr:(runE x s i).2.2=e) (h3:(!decide (e=0))=true):resE (endG x s i)=(([],0,false),[],false,e,()):=by
 subst hy;subst hr;rw [endG,if_neg (fun h=>by rw [h0] at h;cases h),if_neg (fun h=>by rw [h1] at h;cases h),if_neg (fun h=>by rw [h2] at h;cases h),if_pos h3];rfl
theorem EL4 (h0:(!decide (y.2.1=0))=false) (h1:te1 x i=false) (h2:te2 x s i=false) {t:SST} {o:List (List Int)} {e:Int} (hr:runE x s i=(t,o,e)) (he:(!decide (e=0))=false):resE (endG x s i)=(t,o,t.2.2,0,()):=by
 subst hy;rw [endG,if_neg (fun h=>by rw [h0] at h;cases h),if_neg (fun h=>by rw [h1] at h;cases h),if_neg (fun h=>by rw [h2] at h;cases h),hr,if_neg (fun h=>by rw [he] at h;cases h)]
end
@[reducible] def rTk:List (Bool × Ty):=[(true,tSS),(false,tIss),(false,tI)]
def cxTk:Ctx:=⟨tysM,[(31,([],c31)),(25,([],c25)),(40,([],c40k)),(83,([],c83)),(108,([],c108)),(43,([],c43)),(60,([],c60))]⟩
theorem cxTk_good:GoodCtx Tryz.prog cxTk:=cx_ty (cx_cons good31 (cx_cons good25 (cx_cons good40k (cx_cons good83 (cx_cons good108 (cx_cons good43 (cx_cons good60 cx0_good)))))))
theorem callTk_ok:CallOk Tryz.prog (callS cxTk Tryz.prog (callS cxTk Tryz.prog (callS cxTk Tryz.prog (callS cxTk Tryz.prog (callS cxTk Tryz.prog noS))))):=callS_good cxTk_good (callS_good cxTk_good (callS_good cxTk_good (callS_good cxTk_good (callS_good cxTk_good no_call))))
theorem callTk7_ok:CallOk Tryz.prog (callS cxTk Tryz.prog (callS cxTk Tryz.prog (condS 76 (namedS (callS cxTk Tryz.prog noS)) (callS cxTk Tryz.prog noS)))) :=
 callS_good cxTk_good (callS_good cxTk_good (condS_ok (namedS_ok (callS_good cxTk_good no_call)) (callS_good cxTk_good no_call)))
def Walk30 (k:Int):Prop:=∀ (z:Int) (e:ExprT) (l hd:List Int) (c:Int) (en:Bool) (i n:Int),stChk (k,z,e,l)=0→validF (k,z,e,l) (hd,c,en)=true →
 ∃ call:CallSem,CallOk Tryz.prog call∧call 30 (toAVs [dSt,dSS,dI,dI] ((k,z,e,l),(hd,c,en),i,n,())) [] 0 (finK ⟨none,none,[],resAV rTk (resT (takeF (k,z,e,l) (hd,c,en) i n))⟩)
@[reducible] def rEn:List (Bool × Ty):=[(true,tSS),(false,tIss),(false,.bool),(false,tI)]
def cxEn:Ctx:=⟨tysM,[(31,([],c31)),(25,([],c25)),(65,([],c65)),(40,([],c40k)),(43,([],c43)),(60,([],c60))]⟩
theorem cxEn_good:GoodCtx Tryz.prog cxEn:=cx_ty (cx_cons good31 (cx_cons good25 (cx_cons good65 (cx_cons good40k (cx_cons good43 (cx_cons good60 cx0_good))))))
theorem callEn_ok:CallOk Tryz.prog (callS cxEn Tryz.prog (callS cxEn Tryz.prog (callS cxEn Tryz.prog (callS cxEn Tryz.prog (callS cxEn Tryz.prog noS))))):=callS_good cxEn_good (callS_good cxEn_good (callS_good cxEn_good (callS_good cxEn_good (callS_good cxEn_good no_call))))
theorem callEn8_ok:CallOk Tryz.prog (callS cxEn Tryz.prog (callS cxEn Tryz.prog (condS 124 (sortSem tI sortI 124) (callS cxEn Tryz.prog noS)))) :=
 callS_good cxEn_good (callS_good cxEn_good (condS_ok sort124 (callS_good cxEn_good no_call)))
def Walk32 (k:Int):Prop:=∀ (z:Int) (e:ExprT) (l hd:List Int) (c:Int) (en:Bool) (i:Int),stChk (k,z,e,l)=0→validF (k,z,e,l) (hd,c,en)=true →
 ∃ call:CallSem,CallOk Tryz.prog call∧call 32 (toAVs [dSt,dSS,dI] ((k,z,e,l),(hd,c,en),i,())) [] 0 (finK ⟨none,none,[],resAV rEn (resE (endG (k,z,e,l) (hd,c,en) i))⟩)
end Go.Proofs.YticmijfmgmkkcaaGreat
namespace Go.Proofs.YticmijfmgmkkcaaGreat
open Go.Sx
theorem need_zero {x:StT} {s:SST}:(needF x s).2=0↔(stChk x=0∧validF x s=true):=by
 by_cases h0:stChk x=0
 ·cases hv:validF x s with
  | true =>
   refine ⟨fun _=>⟨h0,rfl⟩,fun _=>?_⟩
   unfold needF
   rw [if_neg (by simp [h0]),if_neg (by simp [hv])]
   repeat' split
   all_goals rfl
  | false =>
   refine ⟨fun h=>?_,fun h=>by simpa using h.2⟩
   rw [ND1 (by simp [h0]) (by simp [hv])] at h
   exact absurd h (by decide)
 ·refine ⟨fun h=>?_,fun h=>absurd h.1 h0⟩
  rw [ND0 (by simpa using h0)] at h
  exact absurd h h0
def vk (x:StT) (s:SST):Bool :=
 if x.1=4 then (bif !s.2.2 then true else decide ((s.1.length:Int)=0))
 else if x.1=8 then (if (List.range s.1.length).any (heldBad s.1)=true then false else (s.2.2 == decide ((s.1.length:Int)=2)))
 else if x.1=9 then (bif (s.2.2 == decide (s.2.1=3)) then (bif decide (s.2.1 < 2) then true else decide ((s.1.length:Int)=0)) else false)
 else true
theorem valid_iff {x:StT} {s:SST}:validF x s=true↔((0≤s.2.1∧s.2.1≤(bndF x).1∧(s.1.length:Int)≤(bndF x).2)∧s.1.any notNum=false∧vk x s=true):=by
 constructor
 ·intro h
  refine ⟨valid_cnt h, ?_⟩
  unfold validF at h
  split at h
  ·cases h
  ·split at h
   ·cases h
   ·rename_i h2
    exact ⟨by simpa using h2,h⟩
 ·rintro ⟨⟨h1,h2,h3⟩,h4,h5⟩
  unfold validF
  have hv:vc1 x s=false:=by
   unfold vc1
   rw [decide_eq_false (by omega),decide_eq_false (by omega),decide_eq_false (by omega)];rfl
  rw [if_neg (by rw [hv];simp),if_neg (by rw [h4];simp)]
  exact h5
theorem num_of {n:Int} (h:numB n=true):notNum n=false:=by unfold notNum;rw [h];rfl
theorem held_8 {l:List Int} (h1:(l.length:Int)≤2) (h:(List.range l.length).any (heldBad l)=false):l=[]∨l=[0]∨l=[1]∨l=[0,1]:=by
 match l,h1,h with
 | [],_,_=>exact .inl rfl
 | [a],_,h =>
  have h2:(a < 0)=False∧(1 < a)=False:=by
   have h3:heldBad [a] 0=false:=by simpa using h
   unfold heldBad at h3
   by_cases b1:a < 0
   ·simp [b1] at h3
   ·by_cases b2:1 < a
    ·simp [b2] at h3
    ·simp [b1,b2]
  have h3:a=0∨a=1:=by
   have b1:¬ a < 0:=by rw [h2.1];simp
   have b2:¬ 1 < a:=by rw [h2.2];simp
   omega
  rcases h3 with rfl | rfl
  ·exact .inr (.inl rfl)
  ·exact .inr (.inr (.inl rfl))
 | [a,b],_,h =>
  have h3:heldBad [a,b] 0=false∧heldBad [a,b] 1=false:=by
   have:=List.any_eq_false.1 h
   exact ⟨by simpa using this 0 (by simp),by simpa using this 1 (by simp)⟩
  have g1:¬ a < 0∧¬ 1 < a:=by
   have h4:=h3.1
   unfold heldBad at h4
   refine ⟨fun b1=>?_,fun b1=>?_⟩
   ·simp [b1] at h4
   ·simp [b1] at h4
  have g2:¬ b < 0∧¬ 1 < b∧¬ b≤a:=by
   have h4:=h3.2
   unfold heldBad at h4
   refine ⟨fun b1=>?_,fun b1=>?_,fun b1=>?_⟩
   ·simp [b1] at h4
   ·simp [b1] at h4
   ·simp [b1] at h4
  have ha:a=0:=by omega
  have hb:b=1:=by omega
  subst ha;subst hb
  exact .inr (.inr (.inr rfl))
 | _ :: _ :: _ :: l,h,_=>simp only [List.length_cons] at h;omega
theorem inM_n {x:Int} (h:numB x=true):inM x:=by
 unfold numB at h
 unfold inM
 by_cases h1:-1099511627776≤x
 ·rw [decide_eq_true h1] at h
  exact ⟨h1,of_decide_eq_true h⟩
 ·rw [decide_eq_false h1] at h;cases h
theorem inM_l {l:List Int} (h:l.any notNum=false):∀ x∈l,inM x:=fun x hx=>by
 have h1:=List.any_eq_false.1 h x hx
 refine inM_n ?_
 unfold notNum at h1
 cases hb:numB x
 ·rw [hb] at h1;exact absurd rfl h1
 ·rfl
theorem tk1_en {x:StT} {s:SST} {nd:List Int} {i:Int} (h:tk1 x s nd i=false):s.2.2=false:=by
 unfold tk1 at h
 cases he:s.2.2 with
 | false=>rfl
 | true=>rw [he] at h;cases h
theorem tk1_need {x:StT} {s:SST} {nd:List Int} {i:Int} (hk:x.1≠1) (h:tk1 x s nd i=false):nd.any (isI i)=true:=by
 have he:=tk1_en h
 unfold tk1 at h
 rw [he,decide_eq_false hk] at h
 cases hn:nd.any (isI i) with
 | true=>rfl
 | false=>rw [hn] at h;cases h
theorem tk1_src {x:StT} {s:SST} {nd:List Int} {i:Int} (hk:x.1=1) (h:tk1 x s nd i=false):i=-1∧s.2.1≠(x.2.2.2.length:Int):=by
 have he:=tk1_en h
 unfold tk1 at h
 rw [he,decide_eq_true hk] at h
 by_cases h1:i=-1
 ·refine ⟨h1,fun h2=>?_⟩
  rw [decide_eq_true h1,decide_eq_true h2] at h;cases h
 ·rw [decide_eq_false h1] at h;cases h
theorem tk2_num {x:StT} {n:Int} (h:tk2 x n=false):numB n=true:=by
 unfold tk2 at h
 cases hn:numB n with
 | true=>rfl
 | false=>rw [hn] at h;cases h
theorem te1_in {x:StT} {i:Int} (hk:x.1≠1) (h:te1 x i=false):0≤i∧i < (knownF x.1).1:=by
 unfold te1 at h
 rw [decide_eq_false hk] at h
 by_cases h1:i < 0
 ·rw [decide_eq_true h1] at h;cases h
 ·by_cases h2:(knownF x.1).1≤i
  ·rw [decide_eq_false h1,decide_eq_true h2] at h;cases h
  ·omega
theorem te2_en {x:StT} {s:SST} {i:Int} (h:te2 x s i=false):s.2.2=false:=by
 unfold te2 at h
 cases he:s.2.2 with
 | false=>rfl
 | true=>rw [he] at h;cases h
theorem te2_end {x:StT} {s:SST} {i:Int} (hk:x.1≠1) (h:te2 x s i=false):endF x s i=false:=by
 have he:=te2_en h
 unfold te2 at h
 rw [he,decide_eq_false hk] at h
 cases hn:endF x s i with
 | false=>rfl
 | true=>rw [hn] at h;cases h
theorem any_snoc {l:List Int} {n:Int} (h:l.any notNum=false) (hn:notNum n=false):(l++[n]).any notNum=false:=by
 rw [List.any_append,h]
 simp [hn]
theorem in_8 {z:Int} {e:ExprT} {l hd:List Int} {c i:Int} (h0:stChk (8,z,e,l)=0) (hv:validF (8,z,e,l) (hd,c,false)=true) (h1:tk1 (8,z,e,l) (hd,c,false) (needF (8,z,e,l) (hd,c,false)).1 i=false):i=1 - c∨i=c:=by
 have h4:=tk1_need (by show (8:Int)≠1;decide) h1
 have hnd:(needF (8,z,e,l) (hd,c,false)).1=[1 - c]∨(needF (8,z,e,l) (hd,c,false)).1=[c]:=by
  unfold needF
  rw [if_neg (by simp [h0]),if_neg (by simp [hv]),if_neg (by simp)]
  split
  ·exact .inl rfl
  ·rw [if_pos (by rfl)]
   exact .inr rfl
 rcases hnd with hnd | hnd <;> rw [hnd] at h4 <;> simp [isI] at h4
 ·exact .inl h4
 ·exact .inr h4
theorem sort_1 (a:Int):sortI [a]=[a]:=List.mergeSort_of_pairwise (by simp)
theorem sort_01:sortI [0,1]=[0,1]:=List.mergeSort_of_pairwise (by decide)
theorem sort_10:sortI [1,0]=[0,1]:=by
 have p:(sortI [1,0]).Perm [0,1]:=(List.mergeSort_perm [1,0] _).trans (List.Perm.swap 0 1 [])
 have s:(sortI [1,0]).Pairwise (fun x y=>decide (x≤y)=true):=List.pairwise_mergeSort (le:=fun x y=>decide (x≤y)) (fun a b c h1 h2=>by simp at *;omega) (fun a b=>by simp;omega) _
 exact p.eq_of_pairwise (fun a b _ _ h1 h2=>by simp at h1 h2;omega) s (by decide)
theorem endF_9 {z:Int} {e:ExprT} {l:List Int} {s:SST} {i:Int}:endF (9,z,e,l) s i=decide (bandI .i64 (shrI .i64 s.2.1 i) 1=1):=by
 unfold endF
 rw [if_neg (by show ¬ (9:Int)=8;decide),if_pos rfl]
end Go.Proofs.YticmijfmgmkkcaaGreat
namespace Go.Proofs.YticmijfmgmkkcaaGreat
open Go.Sx
set_option maxHeartbeats 8000000 in
theorem walk30x1:Walk30 1:=by
 intro z e l hd c en i n hc hv
 have hs:=chk_size hc
 have hb:=valid_cnt hv
 have hcl:c≤(l.length:Int):=hb.2.1
 have hc0:0≤c:=hb.1
 have hl2:=(chk_items hc).1
 replace hl2:l.length≤200:=hl2
 have ix:∀ {y:List Int},tk1 (1,z,e,l) (hd,c,en) y i=false→0≤c∧c < (l.length:Int):=fun h=>by
  have h9:c≠(l.length:Int):=(tk1_src rfl h).2
  omega
 obtain ⟨ek,eo,em,ev,ea⟩:=e
 refine ⟨_,callTk_ok, ?_⟩
 refine (aI (by first | kernel_rfl | rfl) (aI True.intro (fun (h0:List Int × Int × PUnit)=>(fun h1=>(aI (fun h2=>(fin_of rfl (by exact TL0 h1 h2))) (fun h2=>(fun h3=>(aI (fun h4=>True.intro) (aI (fun h5=>(fin_of rfl (by exact TL1 h1 h2 h5))) (fun h5=>(aI True.intro (aI (fun h6=>(fin_of rfl (by exact TL2 h1 h2 h5 h6))) (fun h6=>(aI (by rfl) (aI (by first | kernel_rfl | rfl) (aI (by rfl) (aI (by first | kernel_rfl | rfl) (aI (by decide) (aI (by first | kernel_rfl | rfl) (aI (by kernel_rfl) (aI (ix h5) (aI (by rfl) (aI (by rfl) (aI (by rfl) (aI (by rfl) (aI (by rfl) (aI (by rfl) (aI (by rfl) (aI (by rfl) (aI (by rfl) (aI (by rfl) (aI (by rfl) (aI (ix h5) (aI (by rfl) (aI (by rfl) (aI (by first | kernel_rfl | rfl) (aI (fun h7=>(aI (by kernel_rfl) (aI (by decide) (aI (by rfl) (aI (by rfl) (aI (by rfl) (aI (by rfl) (aI (by rfl) (aI (by rfl) (aI (by rfl) (aI (by rfl) (aI (by rfl) (aI (by rfl) (aI (by decide) (aI (by rfl) (aI (by rfl) (aI (by rfl) (aI (by rfl) (aI (by rfl) (aI (by rfl) (aI (by rfl) (aI (by rfl) (aI (by rfl) (aI (by rfl) (aI (by rfl) (aI (by rfl) (aI (by rfl) (aI (by decide) (aI (by rfl) (aI (by rfl) (aI ?_ (aI (by decide) (aI (by decide) (aI (by rfl) (aI (by rfl) (aI (by rfl) (aI (by rfl) (aI (by rfl) (aI (by rfl) (aI ?_ (aI (fun h8=>nF (by kernel_rfl) h8) (fun h8=>(aI (by kernel_rfl) (aI (by rfl) (aI (by rfl) (aI (by rfl) (aI (by rfl) (aI (by rfl) (aI (by rfl) (aI (by rfl) (aI (by rfl) (aI (by rfl) (aI (by rfl) (aI (by rfl) (aI (by rfl) (fin_of rfl (by exact TL4 h1 h2 h5 h6 rfl (by assumption)))))))))))))))))))))))))))))))))))))))))))))))))))))))))) (fun h7=>False.elim (Bool.false_ne_true (Eq.symm (Eq.trans (by kernel_rfl) h7)))))))))))))))))))))))))))))))))))))))))
 any_goals (intros;(try subst_vars);(try simp only [nB] at *);(try simp only [inK,big,lim,nL] at *);omega)
end Go.Proofs.YticmijfmgmkkcaaGreat
namespace Go.Proofs.YticmijfmgmkkcaaGreat
open Go.Sx
set_option maxHeartbeats 8000000 in
theorem walk30x2:Walk30 2:=by
 intro z e l hd c en i n hc hv
 have hs:=chk_size hc
 have hb:=valid_cnt hv
 obtain ⟨ek,eo,em,ev,ea⟩:=e
 refine ⟨_,callTk_ok, ?_⟩
 refine (aI (by first | kernel_rfl | rfl) (aI True.intro (fun (h0:List Int × Int × PUnit)=>(fun h1=>(aI (fun h2=>(fin_of rfl (by exact TL0 h1 h2))) (fun h2=>(fun h3=>(aI (fun h4=>True.intro) (aI (fun h5=>(fin_of rfl (by exact TL1 h1 h2 h5))) (fun h5=>(aI True.intro (aI (fun h6=>(fin_of rfl (by exact TL2 h1 h2 h5 h6))) (fun h6=>(aI (by rfl) (aI (by first | kernel_rfl | rfl) (aI (by rfl) (aI (by first | kernel_rfl | rfl) (aI (by decide) (aI (by first | kernel_rfl | rfl) (aI (by first | kernel_rfl | rfl) (aI (by rfl) (aI (by first | kernel_rfl | rfl) (aI ?_ (aI True.intro (aI (fun h7=>(aI (by first | kernel_rfl | rfl) (aI (fun h8=>(aI (by kernel_rfl) (aI (by decide) (aI (by rfl) (aI (by rfl) (aI (by rfl) (aI (by rfl) (aI (by rfl) (aI (by rfl) (aI (by rfl) (aI (by rfl) (aI (by rfl) (aI (by rfl) (aI (by decide) (aI (by rfl) (aI (by rfl) (aI (by rfl) (aI (by rfl) (aI (by rfl) (aI (by rfl) (aI (by rfl) (aI (by rfl) (aI (by rfl) (aI (by rfl) (aI (by rfl) (aI (by rfl) (aI (by rfl) (aI (by decide) (aI (by rfl) (aI (by rfl) (aI ?_ (aI (by decide) (aI (by decide) (aI (by rfl) (aI (by rfl) (aI (by rfl) (aI (by rfl) (aI (by rfl) (aI (by rfl) (aI (fun h9=>(aI (by kernel_rfl) (aI (by rfl) (aI (by rfl) (aI (by rfl) (aI (by rfl) (aI (by rfl) (aI (by rfl) (aI (by rfl) (aI (by rfl) (aI (by rfl) (aI (by rfl) (aI (by rfl) (aI (by rfl) (aI (by rfl) (aI (by rfl) (aI (by rfl) (aI (by rfl) (fin_of rfl (by exact TL3 h1 h2 h5 h6 rfl h9)))))))))))))))))))) (fun h9=>(aI (by kernel_rfl) (aI (by rfl) (aI (by rfl) (aI (by rfl) (aI (by rfl) (aI (by rfl) (aI (by rfl) (aI (by rfl) (aI (by rfl) (aI (by rfl) (aI (by rfl) (aI (by rfl) (aI (by rfl) (fin_of rfl (by exact TL4 h1 h2 h5 h6 rfl h9)))))))))))))))))))))))))))))))))))))))))))))))))))))))) (fun h8=>(aI (fun h10=>(aI (by kernel_rfl) (aI (by rfl) (aI (by rfl) (aI (by rfl) (aI (by rfl) (aI (by rfl) (aI (by rfl) (aI (by rfl) (aI (by rfl) (aI (by rfl) (aI (by rfl) (aI (by rfl) (aI (by rfl) (aI (by rfl) (aI (by rfl) (aI (by rfl) (aI (by rfl) (fin_of rfl (by exact TL3 h1 h2 h5 h6 rfl h10)))))))))))))))))))) (fun h10=>(aI (by kernel_rfl) (aI (by rfl) (aI (by rfl) (aI (by rfl) (aI (by rfl) (aI (by rfl) (aI (by rfl) (aI (by rfl) (aI (by rfl) (aI (by rfl) (aI (by rfl) (aI (by rfl) (aI (by rfl) (fin_of rfl (by exact (nbF h8 h10).elim))))))))))))))))))))) (fun h7=>False.elim (Bool.false_ne_true (Eq.symm (Eq.trans (by kernel_rfl) h7)))))))))))))))))))))))))))))
 any_goals (intros;(try subst_vars);(try simp only [nB] at *);(try simp only [inK,big,lim,nL] at *);omega)
end Go.Proofs.YticmijfmgmkkcaaGreat
namespace Go.Proofs.YticmijfmgmkkcaaGreat
open Go.Sx
set_option maxHeartbeats 8000000 in
theorem walk30x3:Walk30 3:=by
 intro z e l hd c en i n hc hv
 have hs:=chk_size hc
 have hb:=valid_cnt hv
 obtain ⟨ek,eo,em,ev,ea⟩:=e
 refine ⟨_,callTk_ok, ?_⟩
 refine (aI (by first | kernel_rfl | rfl) (aI True.intro (fun (h0:List Int × Int × PUnit)=>(fun h1=>(aI (fun h2=>(fin_of rfl (by exact TL0 h1 h2))) (fun h2=>(fun h3=>(aI (fun h4=>True.intro) (aI (fun h5=>(fin_of rfl (by exact TL1 h1 h2 h5))) (fun h5=>(aI True.intro (aI (fun h6=>(fin_of rfl (by exact TL2 h1 h2 h5 h6))) (fun h6=>(aI (by rfl) (aI (by first | kernel_rfl | rfl) (aI (by rfl) (aI (by first | kernel_rfl | rfl) (aI (by decide) (aI (by first | kernel_rfl | rfl) (aI (by first | kernel_rfl | rfl) (aI (by rfl) (aI (by first | kernel_rfl | rfl) (aI ?_ (aI True.intro (aI (fun h7=>(aI (fun h8=>(aI (by first | kernel_rfl | rfl) (aI (fun h9=>(aI (by kernel_rfl) (aI (by decide) (aI (by rfl) (aI (by rfl) (aI (by rfl) (aI (by rfl) (aI (by rfl) (aI (by rfl) (aI (by rfl) (aI (by rfl) (aI (by rfl) (aI (by rfl) (aI (by decide) (aI (by rfl) (aI (by rfl) (aI (by rfl) (aI (by rfl) (aI (by rfl) (aI (by rfl) (aI (by rfl) (aI (by rfl) (aI (by rfl) (aI (by rfl) (aI (by rfl) (aI (by rfl) (aI (by rfl) (aI (by decide) (aI (by rfl) (aI (by rfl) (aI ?_ (aI (by decide) (aI (by decide) (aI (by rfl) (aI (by rfl) (aI (by rfl) (aI (by rfl) (aI (by rfl) (aI (by rfl) (aI (fun h10=>(aI (by kernel_rfl) (aI (by rfl) (aI (by rfl) (aI (by rfl) (aI (by rfl) (aI (by rfl) (aI (by rfl) (aI (by rfl) (aI (by rfl) (aI (by rfl) (aI (by rfl) (aI (by rfl) (aI (by rfl) (aI (by rfl) (aI (by rfl) (aI (by rfl) (aI (by rfl) (fin_of rfl (by exact TL3 h1 h2 h5 h6 rfl (by assumption))))))))))))))))))))) (fun h10=>(aI (by kernel_rfl) (aI (by rfl) (aI (by rfl) (aI (by rfl) (aI (by rfl) (aI (by rfl) (aI (by rfl) (aI (by rfl) (aI (by rfl) (aI (by rfl) (aI (by rfl) (aI (by rfl) (aI (by rfl) (fin_of rfl (by exact TL4 h1 h2 h5 h6 (r3t h8) (by assumption))))))))))))))))))))))))))))))))))))))))))))))))))))))))) (fun h9=>(aI (fun h11=>(aI (by kernel_rfl) (aI (by rfl) (aI (by rfl) (aI (by rfl) (aI (by rfl) (aI (by rfl) (aI (by rfl) (aI (by rfl) (aI (by rfl) (aI (by rfl) (aI (by rfl) (aI (by rfl) (aI (by rfl) (aI (by rfl) (aI (by rfl) (aI (by rfl) (aI (by rfl) (fin_of rfl (by exact TL3 h1 h2 h5 h6 rfl (by assumption))))))))))))))))))))) (fun h11=>(aI (by kernel_rfl) (aI (by rfl) (aI (by rfl) (aI (by rfl) (aI (by rfl) (aI (by rfl) (aI (by rfl) (aI (by rfl) (aI (by rfl) (aI (by rfl) (aI (by rfl) (aI (by rfl) (aI (by rfl) (fin_of rfl (by exact (nbF h9 h11).elim))))))))))))))))))))) (fun h8=>(aI (fun h12=>(aI (by kernel_rfl) (aI (by rfl) (aI (by rfl) (aI (by rfl) (aI (by rfl) (aI (by rfl) (aI (by rfl) (aI (by rfl) (aI (by rfl) (aI (by rfl) (aI (by rfl) (aI (by rfl) (aI (by rfl) (aI (by rfl) (aI (by rfl) (aI (by rfl) (aI (by rfl) (fin_of rfl (by exact TL3 h1 h2 h5 h6 rfl (by assumption))))))))))))))))))))) (fun h12=>(aI (by kernel_rfl) (aI (by rfl) (aI (by rfl) (aI (by rfl) (aI (by rfl) (aI (by rfl) (aI (by rfl) (aI (by rfl) (aI (by rfl) (aI (by rfl) (aI (by rfl) (aI (by rfl) (aI (by rfl) (fin_of rfl (by exact TL4 h1 h2 h5 h6 (r3f (by assumption)) (by assumption))))))))))))))))))))) (fun h7=>False.elim (Bool.false_ne_true (Eq.symm (Eq.trans (by kernel_rfl) h7)))))))))))))))))))))))))))))
 any_goals (intros;(try subst_vars);(try simp only [nB] at *);(try simp only [inK,big,lim,nL] at *);omega)
end Go.Proofs.YticmijfmgmkkcaaGreat
namespace Go.Proofs.YticmijfmgmkkcaaGreat
open Go.Sx
set_option maxHeartbeats 8000000 in
theorem walk30x4:Walk30 4:=by
 intro z e l hd c en i n hc hv
 have hs:=chk_size hc
 have hb:=valid_cnt hv
 have hz:z≤200:=hs.2.1
 have hl0:(hd.length:Int)≤z - 1:=hb.2.2
 have hl1:hd.length≤1000:=by omega
 have room:(hd.length + [n].length) * 8≤lim:=by simp only [lim,List.length_cons,List.length_nil];omega
 have hin0:=inM_l (valid_iff.1 hv).2.1
 replace hin0:∀ x∈hd,inM x:=hin0
 obtain ⟨ek,eo,em,ev,ea⟩:=e
 refine ⟨_,callTk_ok, ?_⟩
 refine (aI (by first | kernel_rfl | rfl) (aI True.intro (fun (h0:List Int × Int × PUnit)=>(fun h1=>(aI (fun h2=>(fin_of rfl (by exact TL0 h1 h2))) (fun h2=>(fun h3=>(aI (fun h4=>True.intro) (aI (fun h5=>(fin_of rfl (by exact TL1 h1 h2 h5))) (fun h5=>(aI True.intro (aI (fun h6=>(fin_of rfl (by exact TL2 h1 h2 h5 h6))) (fun h6=>(aI (by rfl) (aI (by first | kernel_rfl | rfl) (aI (by rfl) (aI (by first | kernel_rfl | rfl) (aI (by decide) (aI (by first | kernel_rfl | rfl) (aI (by omega) (aI (by omega) (aI (by first | kernel_rfl | rfl) (fun h7=>(aI (fun h8=>(aI (by first | kernel_rfl | rfl) (fun h9=>?_))) (fun h8=>(aI (fun h10=>nF (by kernel_rfl) h10) (fun h10=>(aI (by kernel_rfl) (aI (by rfl) (aI (by rfl) (aI (by rfl) (aI (by rfl) (aI (by rfl) (aI (by rfl) (aI (by rfl) (aI (by rfl) (aI (by rfl) (aI (by rfl) (aI (by rfl) (aI (by rfl) (fin_of rfl (by exact TL4 h1 h2 h5 h6 (r4f h8) (by assumption)))))))))))))))))))))))))))))))))))))))))))
 have hin:∀ x∈hd++[n],inM x:=fun x hx=>by
  rcases List.mem_append.1 hx with h9 | h9
  ·exact hin0 x h9
  ·rw [List.mem_singleton.1 h9]
   exact inM_n (tk2_num h6)
 have hdl:(hd++[n]).length≤1001:=by simp;omega
 refine ex4 _ (fun p:Nat × Int × Int=>⟨[.ptr 8 0,.any,.int .i64 p.2.1,.any,.any,.ptr 8 0,.ptr 8 0,.ptr 8 8,.ptr 8 8,.own 11,.int .i64 (↑(hd++[n]).length:Int),.int .i64 (p.1:Int)]++nA 27,[.cells   [.int .i64 4,.int .i64 z,.int .i64 (ExprT.mk ek eo em ev ea).kind,     .int .i64 (ExprT.mk ek eo em ev ea).op,.str (ExprT.mk ek eo em ev ea).name,     .int .i64 (ExprT.mk ek eo em ev ea).value,.sl .expr (ExprT.mk ek eo em ev ea).args,     .sl (.int .i64) l],.cells [.sl (.int .i64) hd,.int .i64 c,.bool en],.cells [.cap0,.int .i64 0,.bool false],.cells   [.int .i64 1,.int .i64 1,.int .i64 1,.int .i64 100,.int .i64 0,     .sl .str [],.fn (Fn.func 97) [] [],.fn (Fn.func 98) [] []],.cells   [.int .i64 4,.int .i64 z,.int .i64 (ExprT.mk ek eo em ev ea).kind,     .int .i64 (ExprT.mk ek eo em ev ea).op,.str (ExprT.mk ek eo em ev ea).name,     .int .i64 (ExprT.mk ek eo em ev ea).value,.sl .expr (ExprT.mk ek eo em ev ea).args,     .sl (.int .i64) l],.cells [.sl (.int .i64) hd,.int .i64 c,.bool en],.cells   [.int .i64 1,.int .i64 1,.int .i64 1,.int .i64 100,.int .i64 0,     .sl .str [],.fn (Fn.func 97) [] [],.fn (Fn.func 98) [] []],.cells [.cap0],.cells [.int .i64 4,.int .i64 z,.int .i64 ek,.int .i64 eo,.str em,.int .i64 ev,.sl .expr ea,.sl tI l,.own 11,.int .i64 c,.bool en,.csl tI 7 1,.int .i64 p.2.2,.int .i64 0],.dead,.rows tI [n],.rows tI (hd++[n])],12⟩) (fun p=>p.1≤(hd++[n]).length∧p.2=((hd++[n]).take p.1).foldl sumS (0,0)∧(-(1099511627776 * (p.1:Int))≤p.2.1∧p.2.1≤1099511627776 * (p.1:Int))) (fun p=>(hd++[n]).length - p.1) (aI (Exists.intro ((0,0,0)) (Exists.intro ([some 0,some 1,some 2,some 3,some 4,some 5,some 6,some 7,some 8,some 9,some 10,some 11]) (aI ?_ (aI (by rfl) (aI (by rfl) (aI (aI (aI (by rfl) (by rfl)) (aI (aI (by rfl) (by rfl)) (aI (aI (by rfl) (by rfl)) (aI (aI (by rfl) (by rfl)) (aI (aI (by rfl) (by rfl)) (aI (aI (by rfl) (by rfl)) (aI (aI (by rfl) (by rfl)) (aI (aI (by rfl) (by rfl)) (aI (aI (by rfl) (by rfl)) (aI (by rfl) (aI (by rfl) True.intro))))))))))) (by rfl))))))) ?_)
 ·exact ⟨Nat.zero_le _,rfl,by show -(1099511627776 * ((0:Nat):Int))≤0;decide,by show (0:Int)≤1099511627776 * ((0:Nat):Int);decide⟩
 rintro ⟨j,v,f⟩ ⟨hj,hp,hn⟩
 replace hj:j≤(hd++[n]).length:=hj
 replace hp:(v,f)=((hd++[n]).take j).foldl sumS (0,0):=hp
 replace hn:-(1099511627776 * (j:Int))≤v∧v≤1099511627776 * (j:Int):=hn
 have hx:-1099511627776≤(hd++[n]).getD j 0∧(hd++[n]).getD j 0≤1099511627776:=in_get hin j
 have hjl:j≤1001:=by omega
 have nr:inK .i64 (v+(hd++[n]).getD j 0):=by simp only [inK];omega
 have hb3:-(1099511627776 * ((j+1:Nat):Int))≤v+(hd++[n]).getD j 0∧v+(hd++[n]).getD j 0≤1099511627776 * ((j+1:Nat):Int):=by omega
 refine (aI (fun m0=>(aI (by (intros;(try subst_vars);(try simp only [nB] at *);(try simp only [inK,big,lim,nL] at *);omega)) (aI (nr) (aI True.intro (aI (fun m1=>(aI (by (intros;(try subst_vars);(try simp only [nB] at *);(try simp only [inK,big,lim,nL] at *);omega)) ?_)) (fun m1=>(aI (by (intros;(try subst_vars);(try simp only [nB] at *);(try simp only [inK,big,lim,nL] at *);omega)) ?_))))))) (fun m0=>(aI (by first | kernel_rfl | rfl) (aI (fun m2=>(aI (by kernel_rfl) (aI (by decide) (aI (by rfl) (aI (by rfl) (aI (by rfl) (aI (by rfl) (aI (by rfl) (aI (by rfl) (aI (by rfl) (aI (by rfl) (aI (by rfl) (aI (by rfl) (aI (by decide) (aI (by rfl) (aI (by rfl) (aI (by rfl) (aI (by rfl) (aI (by rfl) (aI (by rfl) (aI (by rfl) (aI (by rfl) (aI (by rfl) (aI (by rfl) (aI (by rfl) (aI (by rfl) (aI (by rfl) (aI (by decide) (aI (by rfl) (aI (by rfl) (aI (by (intros;(try subst_vars);(try simp only [nB] at *);(try simp only [inK,big,lim,nL] at *);omega)) (aI (by decide) (aI (by decide) (aI (by rfl) (aI (by rfl) (aI (by rfl) (aI (by rfl) (aI (by rfl) (aI (by rfl) (aI (fun m3=>(aI (by kernel_rfl) (aI (by rfl) (aI (by rfl) (aI (by rfl) (aI (by rfl) (aI (by rfl) (aI (by rfl) (aI (by rfl) (aI (by rfl) (aI (by rfl) (aI (by rfl) (aI (by rfl) (aI (by rfl) (aI (by rfl) (aI (by rfl) (aI (by rfl) (aI (by rfl) (fin_of rfl (by exact (nbT m2 m3).elim)))))))))))))))))))) (fun m3=>(aI (by kernel_rfl) (aI (by rfl) (aI (by rfl) (aI (by rfl) (aI (by rfl) (aI (by rfl) (aI (by rfl) (aI (by rfl) (aI (by rfl) (aI (by rfl) (aI (by rfl) (aI (by rfl) (aI (by rfl) (fin_of rfl ?_))))))))))))))))))))))))))))))))))))))))))))))))))))))) (fun m2=>(aI (fun m4=>(aI (by kernel_rfl) (aI (by rfl) (aI (by rfl) (aI (by rfl) (aI (by rfl) (aI (by rfl) (aI (by rfl) (aI (by rfl) (aI (by rfl) (aI (by rfl) (aI (by rfl) (aI (by rfl) (aI (by rfl) (aI (by rfl) (aI (by rfl) (aI (by rfl) (aI (by rfl) (fin_of rfl ?_))))))))))))))))))) (fun m4=>(aI (by kernel_rfl) (aI (by rfl) (aI (by rfl) (aI (by rfl) (aI (by rfl) (aI (by rfl) (aI (by rfl) (aI (by rfl) (aI (by rfl) (aI (by rfl) (aI (by rfl) (aI (by rfl) (aI (by rfl) (fin_of rfl (by exact (nbF m2 m4).elim))))))))))))))))))))))
 ·have hj':j < (hd++[n]).length:=by have h:(j:Int) < ((hd++[n]).length:Int):=of_decide_eq_true m0;omega
  refine Exists.intro ((j+1,v+(hd++[n]).getD j 0,14)) (Exists.intro ([some 0,some 1,some 2,some 3,some 4,some 5,some 6,some 7,some 8,some 9,some 10,some 11]) (aI ?_ (aI ?_ (aI (by rfl) (aI (by rfl) (aI (aI (aI (by rfl) (by rfl)) (aI (aI (by rfl) (by rfl)) (aI (aI (by rfl) (by rfl)) (aI (aI (by rfl) (by rfl)) (aI (aI (by rfl) (by rfl)) (aI (aI (by rfl) (by rfl)) (aI (aI (by rfl) (by rfl)) (aI (aI (by rfl) (by rfl)) (aI (aI (by rfl) (by rfl)) (aI (by rfl) (aI (by rfl) True.intro))))))))))) (by rfl)))))))
  ·refine ⟨hj', ?_,hb3⟩
   rw [sum_next hj' hp]
   dsimp only [sumS]
   rw [if_pos (show (bif !numB (v+(hd++[n]).getD j 0) then decide (f=0) else false)=true from m1)]
  ·show (hd++[n]).length - (j+1) < (hd++[n]).length - j
   omega
 ·have hj':j < (hd++[n]).length:=by have h:(j:Int) < ((hd++[n]).length:Int):=of_decide_eq_true m0;omega
  refine Exists.intro ((j+1,v+(hd++[n]).getD j 0,f)) (Exists.intro ([some 0,some 1,some 2,some 3,some 4,some 5,some 6,some 7,some 8,some 9,some 10,some 11]) (aI ?_ (aI ?_ (aI (by rfl) (aI (by rfl) (aI (aI (aI (by rfl) (by rfl)) (aI (aI (by rfl) (by rfl)) (aI (aI (by rfl) (by rfl)) (aI (aI (by rfl) (by rfl)) (aI (aI (by rfl) (by rfl)) (aI (aI (by rfl) (by rfl)) (aI (aI (by rfl) (by rfl)) (aI (aI (by rfl) (by rfl)) (aI (aI (by rfl) (by rfl)) (aI (by rfl) (aI (by rfl) True.intro))))))))))) (by rfl)))))))
  ·refine ⟨hj', ?_,hb3⟩
   rw [sum_next hj' hp]
   dsimp only [sumS]
   rw [if_neg (by rw [show (bif !numB (v+(hd++[n]).getD j 0) then decide (f=0) else false)=false from m1];simp)]
  ·show (hd++[n]).length - (j+1) < (hd++[n]).length - j
   omega
 ·have hp2:(hd++[n]).foldl sumS (0,0)=(v,f):=by
   have h:¬ (j:Int) < ((hd++[n]).length:Int):=of_decide_eq_false m0
   rw [hp,List.take_of_length_le (by omega)]
  have h:decide (f=0)=true:=m2
  have hf:f=0:=of_decide_eq_true h
  subst hf
  exact TL4 h1 h2 h5 h6 (r4t h8 hp2) m3
 ·have hp2:(hd++[n]).foldl sumS (0,0)=(v,f):=by
   have h:¬ (j:Int) < ((hd++[n]).length:Int):=of_decide_eq_false m0
   rw [hp,List.take_of_length_le (by omega)]
  have h:decide (f=0)=false:=m2
  exact TL3 h1 h2 h5 h6 (by rw [r4t h8 hp2]) (by rw [h];rfl)
end Go.Proofs.YticmijfmgmkkcaaGreat
namespace Go.Proofs.YticmijfmgmkkcaaGreat
open Go.Sx
set_option maxHeartbeats 8000000 in
theorem walk30x5:Walk30 5:=by
 intro z e l hd c en i n hc hv
 have hs:=chk_size hc
 have hb:=valid_cnt hv
 obtain ⟨ek,eo,em,ev,ea⟩:=e
 refine ⟨_,callTk_ok, ?_⟩
 refine (aI (by first | kernel_rfl | rfl) (aI True.intro (fun (h0:List Int × Int × PUnit)=>(fun h1=>(aI (fun h2=>(fin_of rfl (by exact TL0 h1 h2))) (fun h2=>(fun h3=>(aI (fun h4=>True.intro) (aI (fun h5=>(fin_of rfl (by exact TL1 h1 h2 h5))) (fun h5=>(aI True.intro (aI (fun h6=>(fin_of rfl (by exact TL2 h1 h2 h5 h6))) (fun h6=>(aI (by rfl) (aI (by first | kernel_rfl | rfl) (aI (by rfl) (aI (by first | kernel_rfl | rfl) (aI (by decide) (aI (by first | kernel_rfl | rfl) ?_)))))))))))))))))))
 refine ex4 _ (fun q:Nat=>⟨[.ptr 8 0,.any,.int .i64 n,.any,.any,.any,.any,.any,.ptr 8 0,.any,.int .i64 z,.int .i64 (q:Int),.any,.any,.any,.any,.any],[.cells   [.int .i64 5,.int .i64 z,.int .i64 (ExprT.mk ek eo em ev ea).kind,     .int .i64 (ExprT.mk ek eo em ev ea).op,.str (ExprT.mk ek eo em ev ea).name,     .int .i64 (ExprT.mk ek eo em ev ea).value,.sl .expr (ExprT.mk ek eo em ev ea).args,     .sl (.int .i64) l],.cells [.sl (.int .i64) hd,.int .i64 c,.bool en],.cells [.cap0,.int .i64 0,.bool false],.cells   [.int .i64 1,.int .i64 1,.int .i64 0,.int .i64 100,.int .i64 0,     .sl .str [],.fn (Fn.func 100) [] [],.fn (Fn.func 93) [] []],.cells   [.int .i64 5,.int .i64 z,.int .i64 (ExprT.mk ek eo em ev ea).kind,     .int .i64 (ExprT.mk ek eo em ev ea).op,.str (ExprT.mk ek eo em ev ea).name,     .int .i64 (ExprT.mk ek eo em ev ea).value,.sl .expr (ExprT.mk ek eo em ev ea).args,     .sl (.int .i64) l],.cells [.sl (.int .i64) hd,.int .i64 c,.bool en],.cells   [.int .i64 1,.int .i64 1,.int .i64 0,.int .i64 100,.int .i64 0,     .sl .str [],.fn (Fn.func 100) [] [],.fn (Fn.func 93) [] []],.cells [.own 9],.cells   [.int .i64 5,.int .i64 z,.int .i64 (ExprT.mk ek eo em ev ea).kind,     .int .i64 (ExprT.mk ek eo em ev ea).op,.str (ExprT.mk ek eo em ev ea).name,     .int .i64 (ExprT.mk ek eo em ev ea).value,.sl .expr (ExprT.mk ek eo em ev ea).args,     .sl (.int .i64) l,.sl (.int .i64) hd,.int .i64 c,.bool en,     .csl tI 7 (Int.toNat 1),.int .i64 0,.int .i64 0],.rows tI (List.replicate q n)],10⟩) (fun q=>(q:Int)≤z) (fun q=>z.toNat - q) (aI (Exists.intro (0) (Exists.intro ([some 0,some 1,some 2,some 3,some 4,some 5,some 6,some 7,some 8,none]) (aI ?_ (aI (by rfl) (aI (by rfl) (aI (aI (aI (by rfl) (by rfl)) (aI (aI (by rfl) (by rfl)) (aI (aI (by rfl) (by rfl)) (aI (aI (by rfl) (by rfl)) (aI (aI (by rfl) (by rfl)) (aI (aI (by rfl) (by rfl)) (aI (aI (by rfl) (by rfl)) (aI (aI (by rfl) (by rfl)) (aI (aI (by rfl) (by rfl)) (aI (by rfl) True.intro)))))))))) (by rfl))))))) ?_)
 ·exact hs.1
 rintro q hq
 have hz2:z≤200:=hs.2.1
 have room:((List.replicate q n).length+1) * 8≤lim:=by simp only [lim,List.length_replicate];omega
 refine (aI (fun w0=>(aI (by first | kernel_rfl | rfl) (aI (fun w1=>(aI (by kernel_rfl) (aI (by decide) (aI (by rfl) (aI (by rfl) (aI (by rfl) (aI (by rfl) (aI (by rfl) (aI (by rfl) (aI (by rfl) (aI (by rfl) (aI (by rfl) (aI (by rfl) (aI (by decide) (aI (by rfl) (aI (by rfl) (aI (by rfl) (aI (by rfl) (aI (by rfl) (aI (by rfl) (aI (by rfl) (aI (by rfl) (aI (by rfl) (aI (by rfl) (aI (by rfl) (aI (by rfl) (aI (by rfl) (aI (by decide) (aI (by rfl) (aI (by rfl) (aI (by omega) (aI (by decide) (aI (by decide) (aI (by rfl) (aI (by rfl) (aI (by rfl) (aI (by rfl) (aI (by rfl) (aI (by rfl) (aI (by (intros;(try subst_vars);(try simp only [nB] at *);(try simp only [inK,big,lim,nL] at *);omega)) ?_)))))))))))))))))))))))))))))))))))))))) (fun w1=>False.elim (Bool.false_ne_true (Eq.symm (Eq.trans (by kernel_rfl) w1))))))) (fun w0=>(aI (fun w2=>nF (by kernel_rfl) w2) (fun w2=>(aI (by kernel_rfl) (aI (by rfl) (aI (by rfl) (aI (by rfl) (aI (by rfl) (aI (by rfl) (aI (by rfl) (aI (by rfl) (aI (by rfl) (aI (by rfl) (aI (by rfl) (aI (by rfl) (aI (by rfl) (fin_of rfl ?_))))))))))))))))))
 ·have hq':(q:Int) < z:=of_decide_eq_true w0
  refine Exists.intro (q+1) (Exists.intro ([some 0,some 1,some 2,some 3,some 4,some 5,some 6,some 7,some 8,some 11]) (aI ?_ (aI ?_ (aI (by rfl) (aI (by rfl) (aI (aI (aI (by rfl) (by rfl)) (aI (aI (by rfl) (by rfl)) (aI (aI (by rfl) (by rfl)) (aI (aI (by rfl) (by rfl)) (aI (aI (by rfl) (by rfl)) (aI (aI (by rfl) (by rfl)) (aI (aI (by rfl) (by rfl)) (aI (aI (by rfl) (by rfl)) (aI (aI (by rfl) (by rfl)) (aI ?_ True.intro)))))))))) (by rfl)))))))
  ·show ((q+1:Nat):Int)≤z
   omega
  ·show z.toNat - (q+1) < z.toNat - q
   omega
  ·show Ob.rows tI _=Ob.rows tI (List.replicate (q+1) n)
   rw [List.replicate_succ']
 ·have hq':q=z.toNat:=by have h:¬ (q:Int) < z:=of_decide_eq_false w0;omega
  subst hq'
  exact TL4 h1 h2 h5 h6 rfl rfl
end Go.Proofs.YticmijfmgmkkcaaGreat
namespace Go.Proofs.YticmijfmgmkkcaaGreat
open Go.Sx
set_option maxHeartbeats 8000000 in
theorem walk30x6:Walk30 6:=by
 intro z e l hd c en i n hc hv
 have hs:=chk_size hc
 have hb:=valid_cnt hv
 obtain ⟨ek,eo,em,ev,ea⟩:=e
 refine ⟨_,callTk_ok, ?_⟩
 refine (aI (by first | kernel_rfl | rfl) (aI True.intro (fun (h0:List Int × Int × PUnit)=>(fun h1=>(aI (fun h2=>(fin_of rfl (by exact TL0 h1 h2))) (fun h2=>(fun h3=>(aI (fun h4=>True.intro) (aI (fun h5=>(fin_of rfl (by exact TL1 h1 h2 h5))) (fun h5=>(aI True.intro (aI (fun h6=>(fin_of rfl (by exact TL2 h1 h2 h5 h6))) (fun h6=>(aI (by rfl) (aI (by first | kernel_rfl | rfl) (aI (by rfl) (aI (by first | kernel_rfl | rfl) (aI (by decide) (aI (by first | kernel_rfl | rfl) (aI (by first | kernel_rfl | rfl) (aI (fun h7=>(aI ?_ (aI (by first | kernel_rfl | rfl) (aI (fun h8=>(aI (by kernel_rfl) (aI (by decide) (aI (by rfl) (aI (by rfl) (aI (by rfl) (aI (by rfl) (aI (by rfl) (aI (by rfl) (aI (by rfl) (aI (by rfl) (aI (by rfl) (aI (by rfl) (aI (by decide) (aI (by rfl) (aI (by rfl) (aI (by rfl) (aI (by rfl) (aI (by rfl) (aI (by rfl) (aI (by rfl) (aI (by rfl) (aI (by rfl) (aI (by rfl) (aI (by rfl) (aI (by rfl) (aI (by rfl) (aI (by decide) (aI (by rfl) (aI (by rfl) (aI ?_ (aI (by decide) (aI (by decide) (aI (by rfl) (aI (by rfl) (aI (by rfl) (aI (by rfl) (aI (by rfl) (aI (by rfl) (aI (fun h9=>nF (by kernel_rfl) h9) (fun h9=>(aI (by kernel_rfl) (aI (by rfl) (aI (by rfl) (aI (by rfl) (aI (by rfl) (aI (by rfl) (aI (by rfl) (aI (by rfl) (aI (by rfl) (aI (by rfl) (aI (by rfl) (aI (by rfl) (aI (by rfl) (fin_of rfl (by exact TL4 h1 h2 h5 h6 (r6t h7) (by assumption))))))))))))))))))))))))))))))))))))))))))))))))))))))))) (fun h8=>False.elim (Bool.false_ne_true (Eq.symm (Eq.trans (by kernel_rfl) h8)))))))) (fun h7=>(aI (fun h10=>nF (by kernel_rfl) h10) (fun h10=>(aI (by kernel_rfl) (aI (by rfl) (aI (by rfl) (aI (by rfl) (aI (by rfl) (aI (by rfl) (aI (by rfl) (aI (by rfl) (aI (by rfl) (aI (by rfl) (aI (by rfl) (aI (by rfl) (aI (by rfl) (fin_of rfl (by exact TL4 h1 h2 h5 h6 (r6f (by assumption)) (by assumption))))))))))))))))))))))))))))))))))))))))
 any_goals (intros;(try subst_vars);(try simp only [nB] at *);(try simp only [inK,big,lim,nL] at *);omega)
end Go.Proofs.YticmijfmgmkkcaaGreat
namespace Go.Proofs.YticmijfmgmkkcaaGreat
open Go.Sx
set_option maxHeartbeats 8000000 in
theorem walk30x7:Walk30 7:=by
 intro z e l hd c en i n hc hv
 have hs:=chk_size hc
 have hb:=valid_cnt hv
 have hty:exType e (bindF nmX [0,0])=(2,0):=chk_expr hc (by show (2:Int)≠0;decide)
 have hvv:=evB hty n 0
 have wr:∀ w:Int,w=(evX e nmX n 0).1→-9223372036854775808≤1 - w∧1 - w≤9223372036854775807:=fun w h=>by omega
 have wi:∀ w:Int,w=(evX e nmX n 0).1→0≤1 - w∧1 - w < ((2:Nat):Int):=fun w h=>by omega
 obtain ⟨ek,eo,em,ev,ea⟩:=e
 refine ⟨_,callTk7_ok, ?_⟩
 refine (aI (by first | kernel_rfl | rfl) (aI True.intro (fun (h0:List Int × Int × PUnit)=>(fun h1=>(aI (fun h2=>(fin_of rfl (by exact TL0 h1 h2))) (fun h2=>(fun h3=>(aI (fun h4=>True.intro) (aI (fun h5=>(fin_of rfl (by exact TL1 h1 h2 h5))) (fun h5=>(aI True.intro (aI (fun h6=>(fin_of rfl (by exact TL2 h1 h2 h5 h6))) (fun h6=>(aI (by rfl) (aI (by first | kernel_rfl | rfl) (aI (by rfl) (aI (by first | kernel_rfl | rfl) (aI (by decide) (aI (by first | kernel_rfl | rfl) (aI (by first | kernel_rfl | rfl) (aI (by rfl) (aI (by first | kernel_rfl | rfl) (aI (by (intros;(try subst_vars);(try simp only [nB] at *);(try simp only [inK,big,lim,nL] at *);omega)) (aI True.intro (aI (fun h7=>(fun h8=>(fun h9=>(aI (wr h8 h9) (aI (by first | kernel_rfl | rfl) (aI (fun h10=>(aI (by kernel_rfl) (aI (wi h8 h9) ?_))) (fun h10=>(aI (fun h11=>(aI (by kernel_rfl) (aI (by rfl) (aI (by rfl) (aI (by rfl) (aI (by rfl) (aI (by rfl) (aI (by rfl) (aI (by rfl) (aI (by rfl) (aI (by rfl) (aI (by rfl) (aI (by rfl) (aI (by rfl) (aI (by rfl) (aI (by rfl) (aI (by rfl) (aI (by rfl) (fin_of rfl (by exact TL3 h1 h2 h5 h6 rfl (by assumption))))))))))))))))))))) (fun h11=>(aI (by kernel_rfl) (aI (by rfl) (aI (by rfl) (aI (by rfl) (aI (by rfl) (aI (by rfl) (aI (by rfl) (aI (by rfl) (aI (by rfl) (aI (by rfl) (aI (by rfl) (aI (by rfl) (aI (by rfl) (fin_of rfl (by exact (nbF h10 h11).elim)))))))))))))))))))))))) (fun h7=>False.elim (Bool.false_ne_true (Eq.symm (Eq.trans (by kernel_rfl) h7)))))))))))))))))))))))))))))
 ·rcases hvv with hv1 | hv1
  ·have hm:h8=0:=h9.trans hv1
   subst hm
   have hr:=r7f (z:=z) (l:=l) (s:=(hd,c,en)) (i:=i) (show decide ((evX (ExprT.mk ek eo em ev ea) nmX n 0).1=1)=false by rw [hv1];rfl)
   refine (aI (by rfl) (aI (by rfl) (aI (by rfl) (aI (by rfl) (aI (by rfl) (aI (by rfl) (aI (by rfl) (aI (by rfl) (aI (by rfl) (aI (by rfl) (aI (by decide) (aI (by rfl) (aI (by rfl) (aI (by rfl) (aI (by rfl) (aI (by rfl) (aI (by rfl) (aI (by rfl) (aI (by rfl) (aI (by rfl) (aI (by rfl) (aI (by rfl) (aI (by rfl) (aI (by rfl) (aI (by decide) (aI (by rfl) (aI (by rfl) (aI (by intros;(try subst_vars);(try simp only [nB] at *);(try simp only [inK,big,lim,nL] at *);omega) (aI (by decide) (aI (by decide) (aI (by rfl) (aI (by rfl) (aI (by rfl) (aI (by rfl) (aI (by rfl) (aI (by rfl) (aI (fun w0=>(aI (by kernel_rfl) (aI (by rfl) (aI (by rfl) (aI (by rfl) (aI (by rfl) (aI (by rfl) (aI (by rfl) (aI (by rfl) (aI (by rfl) (aI (by rfl) (aI (by rfl) (aI (by rfl) (aI (by rfl) (aI (by rfl) (aI (by rfl) (aI (by rfl) (aI (by rfl) (fin_of rfl (by exact TL3 h1 h2 h5 h6 rfl w0)))))))))))))))))))) (fun w0=>(aI (by kernel_rfl) (aI (by rfl) (aI (by rfl) (aI (by rfl) (aI (by rfl) (aI (by rfl) (aI (by rfl) (aI (by rfl) (aI (by rfl) (aI (by rfl) (aI (by rfl) (aI (by rfl) (aI (by rfl) (fin_of rfl (by exact TL4 h1 h2 h5 h6 hr w0)))))))))))))))))))))))))))))))))))))))))))))))))))))
  ·have hm:h8=1:=h9.trans hv1
   subst hm
   have hr:=r7t (z:=z) (l:=l) (s:=(hd,c,en)) (i:=i) (show decide ((evX (ExprT.mk ek eo em ev ea) nmX n 0).1=1)=true by rw [hv1];rfl)
   refine (aI (by rfl) (aI (by rfl) (aI (by rfl) (aI (by rfl) (aI (by rfl) (aI (by rfl) (aI (by rfl) (aI (by rfl) (aI (by rfl) (aI (by rfl) (aI (by decide) (aI (by rfl) (aI (by rfl) (aI (by rfl) (aI (by rfl) (aI (by rfl) (aI (by rfl) (aI (by rfl) (aI (by rfl) (aI (by rfl) (aI (by rfl) (aI (by rfl) (aI (by rfl) (aI (by rfl) (aI (by decide) (aI (by rfl) (aI (by rfl) (aI (by intros;(try subst_vars);(try simp only [nB] at *);(try simp only [inK,big,lim,nL] at *);omega) (aI (by decide) (aI (by decide) (aI (by rfl) (aI (by rfl) (aI (by rfl) (aI (by rfl) (aI (by rfl) (aI (by rfl) (aI (fun w0=>(aI (by kernel_rfl) (aI (by rfl) (aI (by rfl) (aI (by rfl) (aI (by rfl) (aI (by rfl) (aI (by rfl) (aI (by rfl) (aI (by rfl) (aI (by rfl) (aI (by rfl) (aI (by rfl) (aI (by rfl) (aI (by rfl) (aI (by rfl) (aI (by rfl) (aI (by rfl) (fin_of rfl (by exact TL3 h1 h2 h5 h6 rfl w0)))))))))))))))))))) (fun w0=>(aI (by kernel_rfl) (aI (by rfl) (aI (by rfl) (aI (by rfl) (aI (by rfl) (aI (by rfl) (aI (by rfl) (aI (by rfl) (aI (by rfl) (aI (by rfl) (aI (by rfl) (aI (by rfl) (aI (by rfl) (fin_of rfl (by exact TL4 h1 h2 h5 h6 hr w0)))))))))))))))))))))))))))))))))))))))))))))))))))))
end Go.Proofs.YticmijfmgmkkcaaGreat
namespace Go.Proofs.YticmijfmgmkkcaaGreat
open Go.Sx
set_option maxHeartbeats 8000000 in
theorem walk30x8:Walk30 8:=by
 intro z e l hd c en i n hc hv
 have hs:=chk_size hc
 have hb:=valid_cnt hv
 have hc1:c≤1:=hb.2.1
 have hc0:0≤c:=hb.1
 have nr:∀ {y:Rens rIsI},y=((needF (8,z,e,l) (hd,c,en)).1,(needF (8,z,e,l) (hd,c,en)).2,())→tk1 (8,z,e,l) (hd,c,en) y.1 i=false→-9223372036854775808≤1 - i∧1 - i≤9223372036854775807:=fun h h'=>by
  subst h
  have he:en=false:=tk1_en h'
  subst he
  have:=in_8 hc hv h'
  omega
 obtain ⟨ek,eo,em,ev,ea⟩:=e
 refine ⟨_,callTk_ok, ?_⟩
 refine (aI (by first | kernel_rfl | rfl) (aI True.intro (fun (h0:List Int × Int × PUnit)=>(fun h1=>(aI (fun h2=>(fin_of rfl (by exact TL0 h1 h2))) (fun h2=>(fun h3=>(aI (fun h4=>True.intro) (aI (fun h5=>(fin_of rfl (by exact TL1 h1 h2 h5))) (fun h5=>(aI True.intro (aI (fun h6=>(fin_of rfl (by exact TL2 h1 h2 h5 h6))) (fun h6=>(aI (by rfl) (aI (by first | kernel_rfl | rfl) (aI (by rfl) (aI (by first | kernel_rfl | rfl) (aI (by decide) (aI (by first | kernel_rfl | rfl) (aI (by first | kernel_rfl | rfl) (aI (by first | kernel_rfl | rfl) (aI (fun h7=>(aI (by kernel_rfl) (aI (by decide) (aI (by rfl) (aI (by rfl) (aI (by rfl) (aI (by rfl) (aI (by rfl) (aI (by rfl) (aI (by rfl) (aI (by rfl) (aI (by rfl) (aI (by rfl) (aI (by decide) (aI (by rfl) (aI (by rfl) (aI (by rfl) (aI (by rfl) (aI (by rfl) (aI (by rfl) (aI (by rfl) (aI (by rfl) (aI (by rfl) (aI (by rfl) (aI (by rfl) (aI (by rfl) (aI (by rfl) (aI (by decide) (aI (by rfl) (aI (by rfl) (aI (by (intros;(try subst_vars);(try simp only [nB] at *);(try simp only [inK,big,lim,nL] at *);omega)) (aI (by decide) (aI (by decide) (aI (by rfl) (aI (by rfl) (aI (by rfl) (aI (by rfl) (aI (by rfl) (aI (by rfl) (aI (nr h1 h5) (aI (fun h8=>nF (by kernel_rfl) h8) (fun h8=>(aI (by kernel_rfl) (aI (by rfl) (aI (by rfl) (aI (by rfl) (aI (by rfl) (aI (by rfl) (aI (by rfl) (aI (by rfl) (aI (by rfl) (aI (by rfl) (aI (by rfl) (aI (by rfl) (aI (by rfl) (fin_of rfl (by exact TL4 h1 h2 h5 h6 rfl (by assumption)))))))))))))))))))))))))))))))))))))))))))))))))))))))))) (fun h7=>False.elim (Bool.false_ne_true (Eq.symm (Eq.trans (by kernel_rfl) h7))))))))))))))))))))))))))
end Go.Proofs.YticmijfmgmkkcaaGreat
namespace Go.Proofs.YticmijfmgmkkcaaGreat
open Go.Sx
set_option maxHeartbeats 8000000 in
theorem walk30x9:Walk30 9:=by
 intro z e l hd c en i n hc hv
 have hs:=chk_size hc
 have hb:=valid_cnt hv
 obtain ⟨ek,eo,em,ev,ea⟩:=e
 refine ⟨_,callTk_ok, ?_⟩
 refine (aI (by first | kernel_rfl | rfl) (aI True.intro (fun (h0:List Int × Int × PUnit)=>(fun h1=>(aI (fun h2=>(fin_of rfl (by exact TL0 h1 h2))) (fun h2=>(fun h3=>(aI (fun h4=>True.intro) (aI (fun h5=>(fin_of rfl (by exact TL1 h1 h2 h5))) (fun h5=>(aI True.intro (aI (fun h6=>(fin_of rfl (by exact TL2 h1 h2 h5 h6))) (fun h6=>(aI (by rfl) (aI (by first | kernel_rfl | rfl) (aI (by rfl) (aI (by first | kernel_rfl | rfl) (aI (by decide) (aI (by first | kernel_rfl | rfl) (aI (fun h7=>(aI (fun h8=>(aI (fun h9=>nF (by kernel_rfl) h9) (fun h9=>(aI (by kernel_rfl) (aI (by rfl) (aI (by rfl) (aI (by rfl) (aI (by rfl) (aI (by rfl) (aI (by rfl) (aI (by rfl) (aI (by rfl) (aI (by rfl) (aI (by rfl) (aI (by rfl) (aI (by rfl) (fin_of rfl (by exact TL4 h1 h2 h5 h6 (r9a h7 h8) h9)))))))))))))))))) (fun h8=>(aI (fun h10=>nF (by kernel_rfl) h10) (fun h10=>(aI (by kernel_rfl) (aI (by rfl) (aI (by rfl) (aI (by rfl) (aI (by rfl) (aI (by rfl) (aI (by rfl) (aI (by rfl) (aI (by rfl) (aI (by rfl) (aI (by rfl) (aI (by rfl) (aI (by rfl) (fin_of rfl (by exact TL4 h1 h2 h5 h6 (r9b h7 h8) h10)))))))))))))))))))) (fun h7=>(fun h11=>(aI (fun h12=>(aI ?_ (aI (by first | kernel_rfl | rfl) (aI (by rfl) (aI (by first | kernel_rfl | rfl) (aI ?_ (aI True.intro (aI (fun h13=>(aI (by first | kernel_rfl | rfl) (aI (fun h14=>(aI (by kernel_rfl) (aI (by decide) (aI (by rfl) (aI (by rfl) (aI (by rfl) (aI (by rfl) (aI (by rfl) (aI (by rfl) (aI (by rfl) (aI (by rfl) (aI (by rfl) (aI (by rfl) (aI (by decide) (aI (by rfl) (aI (by rfl) (aI (by rfl) (aI (by rfl) (aI (by rfl) (aI (by rfl) (aI (by rfl) (aI (by rfl) (aI (by rfl) (aI (by rfl) (aI (by rfl) (aI (by rfl) (aI (by rfl) (aI (by decide) (aI (by rfl) (aI (by rfl) (aI ?_ (aI (by decide) (aI (by decide) (aI (by rfl) (aI (by rfl) (aI (by rfl) (aI (by rfl) (aI (by rfl) (aI (by rfl) (aI (fun h15=>(aI (by kernel_rfl) (aI (by rfl) (aI (by rfl) (aI (by rfl) (aI (by rfl) (aI (by rfl) (aI (by rfl) (aI (by rfl) (aI (by rfl) (aI (by rfl) (aI (by rfl) (aI (by rfl) (aI (by rfl) (aI (by rfl) (aI (by rfl) (aI (by rfl) (aI (by rfl) (fin_of rfl (by exact (nbT h14 h15).elim)))))))))))))))))))) (fun h15=>(aI (by kernel_rfl) (aI (by rfl) (aI (by rfl) (aI (by rfl) (aI (by rfl) (aI (by rfl) (aI (by rfl) (aI (by rfl) (aI (by rfl) (aI (by rfl) (aI (by rfl) (aI (by rfl) (aI (by rfl) (fin_of rfl (by exact TL4 h1 h2 h5 h6 (r9c h7 h12) (by assumption))))))))))))))))))))))))))))))))))))))))))))))))))))))))) (fun h14=>(aI (fun h16=>(aI (by kernel_rfl) (aI (by rfl) (aI (by rfl) (aI (by rfl) (aI (by rfl) (aI (by rfl) (aI (by rfl) (aI (by rfl) (aI (by rfl) (aI (by rfl) (aI (by rfl) (aI (by rfl) (aI (by rfl) (aI (by rfl) (aI (by rfl) (aI (by rfl) (aI (by rfl) (fin_of rfl (by exact TL3 h1 h2 h5 h6 (by rw [r9c h7 h12];rfl) (by assumption))))))))))))))))))))) (fun h16=>(aI (by kernel_rfl) (aI (by rfl) (aI (by rfl) (aI (by rfl) (aI (by rfl) (aI (by rfl) (aI (by rfl) (aI (by rfl) (aI (by rfl) (aI (by rfl) (aI (by rfl) (aI (by rfl) (aI (by rfl) (fin_of rfl (by exact (nbF h14 h16).elim))))))))))))))))))))) (fun h13=>False.elim (Bool.false_ne_true (Eq.symm (Eq.trans (by kernel_rfl) h13)))))))))))) (fun h12=>(aI (fun h17=>nF (by kernel_rfl) h17) (fun h17=>(aI (by kernel_rfl) (aI (by rfl) (aI (by rfl) (aI (by rfl) (aI (by rfl) (aI (by rfl) (aI (by rfl) (aI (by rfl) (aI (by rfl) (aI (by rfl) (aI (by rfl) (aI (by rfl) (aI (by rfl) (fin_of rfl (by exact TL4 h1 h2 h5 h6 (r9d h7 h12) (by assumption))))))))))))))))))))))))))))))))))))))))))
 any_goals (intros;(try subst_vars);(try simp only [nB] at *);(try simp only [inK,big,lim,nL] at *);omega)
end Go.Proofs.YticmijfmgmkkcaaGreat
namespace Go.Proofs.YticmijfmgmkkcaaGreat
open Go.Sx
set_option maxHeartbeats 8000000 in
theorem walk30x10:Walk30 10:=by
 intro z e l hd c en i n hc hv
 have hs:=chk_size hc
 have hb:=valid_cnt hv
 obtain ⟨ek,eo,em,ev,ea⟩:=e
 refine ⟨_,callTk_ok, ?_⟩
 refine (aI (by first | kernel_rfl | rfl) (aI True.intro (fun (h0:List Int × Int × PUnit)=>(fun h1=>(aI (fun h2=>(fin_of rfl (by exact TL0 h1 h2))) (fun h2=>(fun h3=>(aI (fun h4=>True.intro) (aI (fun h5=>(fin_of rfl (by exact TL1 h1 h2 h5))) (fun h5=>(aI True.intro (aI (fun h6=>(fin_of rfl (by exact TL2 h1 h2 h5 h6))) (fun h6=>(aI (by rfl) (aI (by first | kernel_rfl | rfl) (aI (by rfl) (aI (by first | kernel_rfl | rfl) (aI (by decide) (aI (by first | kernel_rfl | rfl) (aI (fun h7=>nF (by kernel_rfl) h7) (fun h7=>(aI (by kernel_rfl) (aI (by rfl) (aI (by rfl) (aI (by rfl) (aI (by rfl) (aI (by rfl) (aI (by rfl) (aI (by rfl) (aI (by rfl) (aI (by rfl) (aI (by rfl) (aI (by rfl) (aI (by rfl) (fin_of rfl (by exact TL4 h1 h2 h5 h6 rfl (by assumption)))))))))))))))))))))))))))))))))))))
end Go.Proofs.YticmijfmgmkkcaaGreat
