/- Pipelines. -/
import Derived.Test.YtckpldpombdkgaaGreatCZ5
import Derived.Test.YtckpldpombdkgaaGreatCZ6
set_option linter.unusedSimpArgs false
set_option linter.unusedVariables false
set_option maxRecDepth 100000
namespace Go.Proofs.YtckpldpombdkgaaGreat
open Go.Sx
theorem nbF {b:Bool} (h:b=false) (h':(!b)=false):False:=by rw [h] at h';cases h'
theorem nbT {b:Bool} (h:b=true) (h':(!b)=true):False:=by rw [h] at h';cases h'
def Pw:SST:=([],0,false)
def Ef (x:StT) (s:SST) (i n:Int):SST × List (List Int) × Int :=
 if x.1=1 then ((s.1,s.2.1+1,s.2.2),[[x.2.2.2.getD s.2.1.toNat 0]],0)
 else if x.1=2 then (s,[[(evX x.2.2.1 nmX n 0).1]],(evX x.2.2.1 nmX n 0).2)
 else if x.1=3 then (s,[if decide ((evX x.2.2.1 nmX n 0).1=1)=true then [n] else []],(evX x.2.2.1 nmX n 0).2)
 else if x.1=4 then (((De x.2.1 (s.1,[],0) n).1,s.2),[(De x.2.1 (s.1,[],0) n).2.1],(De x.2.1 (s.1,[],0) n).2.2)
 else if x.1=5 then (s,[List.replicate x.2.1.toNat n],0)
 else if x.1=6 then (if decide (s.2.1 < x.2.1)=true then ((s.1,s.2.1+1,s.2.2),[[n]],0) else (s,[[]],0))
 else if x.1=7 then (s,[if decide ((evX x.2.2.1 nmX n 0).1=1)=true then [n] else [],if decide ((evX x.2.2.1 nmX n 0).1=1)=true then [] else [n]],(evX x.2.2.1 nmX n 0).2)
 else if x.1=8 then ((s.1,1 - i,s.2.2),[[n]],0)
 else if x.1=9 then (if decide (i=0)=true then (if decide (Ej .i64 s.2.1 2=0)=true then (([n],s.2),[[]],0) else (s,[[]],0))
  else if decide ((s.1.length:Int)=1)=true then (([],s.2),[[(evX x.2.2.1 Ey (s.1.getD 0 0) n).1]],(evX x.2.2.1 Ey (s.1.getD 0 0) n).2) else (s,[[]],0))
 else (s,[],0)
section
variable {z:Int} {e:ExprT} {l:List Int} {s:SST} {i n:Int}
theorem r3t (h:decide ((evX e nmX n 0).1=1)=true):Ef (3,z,e,l) s i n=(s,[[n]],(evX e nmX n 0).2):=by
 show (s,[if decide ((evX e nmX n 0).1=1)=true then [n] else []],_)=_
 rw [if_pos h]
theorem r3f (h:decide ((evX e nmX n 0).1=1)=false):Ef (3,z,e,l) s i n=(s,[[]],(evX e nmX n 0).2):=by
 show (s,[if decide ((evX e nmX n 0).1=1)=true then [n] else []],_)=_
 rw [if_neg (by rw [h];simp)]
theorem r7t (h:decide ((evX e nmX n 0).1=1)=true):Ef (7,z,e,l) s i n=(s,[[n],[]],(evX e nmX n 0).2):=by
 show (s,[if decide ((evX e nmX n 0).1=1)=true then [n] else [],if decide ((evX e nmX n 0).1=1)=true then [] else [n]],_)=_
 rw [if_pos h,if_pos h]
theorem r7f (h:decide ((evX e nmX n 0).1=1)=false):Ef (7,z,e,l) s i n=(s,[[],[n]],(evX e nmX n 0).2):=by
 show (s,[if decide ((evX e nmX n 0).1=1)=true then [n] else [],if decide ((evX e nmX n 0).1=1)=true then [] else [n]],_)=_
 rw [if_neg (by rw [h];simp),if_neg (by rw [h];simp)]
theorem r6t (h:decide (s.2.1 < z)=true):Ef (6,z,e,l) s i n=((s.1,s.2.1+1,s.2.2),[[n]],0):=by
 show (if decide (s.2.1 < z)=true then _ else _)=_
 rw [if_pos h]
theorem r6f (h:decide (s.2.1 < z)=false):Ef (6,z,e,l) s i n=(s,[[]],0):=by
 show (if decide (s.2.1 < z)=true then _ else _)=_
 rw [if_neg (by rw [h];simp)]
theorem r4t {hd:List Int} {c:Int} {en:Bool} {v f:Int} (h:decide (((hd++[n]).length:Int)=z)=true) (h2:(hd++[n]).foldl Ez (0,0)=(v,f)):Ef (4,z,e,l) (hd,c,en) i n=(([],c,en),[Kw f [] v],f):=by
 have hb:De z (hd,[],0) n=([],Kw f [] v,f):=by
  unfold De
  rw [if_pos h]
  unfold G2
  rw [show (hd++[n]).foldl Ez (0,0)=(v,f) from h2]
 show (((De z (hd,[],0) n).1,c,en),[(De z (hd,[],0) n).2.1],(De z (hd,[],0) n).2.2)=_
 rw [hb]
theorem r4f {hd:List Int} {c:Int} {en:Bool} (h:decide (((hd++[n]).length:Int)=z)=false):Ef (4,z,e,l) (hd,c,en) i n=((hd++[n],c,en),[[]],0):=by
 have hb:De z (hd,[],0) n=(hd++[n],[],0):=by
  unfold De
  rw [if_neg (by rw [h];simp)]
 show (((De z (hd,[],0) n).1,c,en),[(De z (hd,[],0) n).2.1],(De z (hd,[],0) n).2.2)=_
 rw [hb]
theorem r9a (h:decide (i=0)=true) (h2:decide (Ej .i64 s.2.1 2=0)=true):Ef (9,z,e,l) s i n=(([n],s.2),[[]],0):=by
 show (if decide (i=0)=true then (if decide (Ej .i64 s.2.1 2=0)=true then _ else _) else _)=_
 rw [if_pos h,if_pos h2]
theorem r9b (h:decide (i=0)=true) (h2:decide (Ej .i64 s.2.1 2=0)=false):Ef (9,z,e,l) s i n=(s,[[]],0):=by
 show (if decide (i=0)=true then (if decide (Ej .i64 s.2.1 2=0)=true then _ else _) else _)=_
 rw [if_pos h,if_neg (by rw [h2];simp)]
theorem r9c (h:decide (i=0)=false) (h2:decide ((s.1.length:Int)=1)=true):Ef (9,z,e,l) s i n=(([],s.2),[[(evX e Ey (s.1.getD 0 0) n).1]],(evX e Ey (s.1.getD 0 0) n).2):=by
 show (if decide (i=0)=true then _ else if decide ((s.1.length:Int)=1)=true then _ else _)=_
 rw [if_neg (by rw [h];simp),if_pos h2]
theorem r9d (h:decide (i=0)=false) (h2:decide ((s.1.length:Int)=1)=false):Ef (9,z,e,l) s i n=(s,[[]],0):=by
 show (if decide (i=0)=true then _ else if decide ((s.1.length:Int)=1)=true then _ else _)=_
 rw [if_neg (by rw [h];simp),if_neg (by rw [h2];simp)]
end
def tk1 (x:StT) (s:SST) (nd:List Int) (i:Int):Bool:=bif bif s.2.2 then true else bif decide (x.1=1) then bif !decide (i=-1) then true else decide (s.2.1=(x.2.2.2.length:Int)) else false then true else bif !decide (x.1=1) then !nd.any (isI i) else false
def tk2 (x:StT) (n:Int):Bool:=bif !Jx n then true else bif decide (x.1=1) then !decide (n=0) else false
def C8 (x:StT) (s:SST) (i n:Int):SST × List (List Int) × Int :=
 if (!decide ((Ar x s).2=0))=true then (Pw,[],(Ar x s).2) else
 if tk1 x s (Ar x s).1 i=true then (Pw,[],17) else
 if tk2 x n=true then (Pw,[],2) else
 if (!decide ((Ef x s i n).2.2=0))=true then (Pw,[],(Ef x s i n).2.2) else
 ((Ef x s i n).1,(Ef x s i n).2.1,0)
@[reducible] def Zo (t:SST × List (List Int) × Int):SST × List (List Int) × Int × Unit:=(t.1,t.2.1,t.2.2,())
section
variable {x:StT} {s:SST} {i n:Int} {y:G7 Zj} (hy:y=((Ar x s).1,(Ar x s).2,()))
include hy
theorem TL0 (h0:(!decide (y.2.1=0))=true):Zo (C8 x s i n)=(([],0,false),[],y.2.1,()):=by
 subst hy;rw [C8,if_pos h0];rfl
theorem TL1 (h0:(!decide (y.2.1=0))=false) (h1:tk1 x s y.1 i=true):Zo (C8 x s i n)=(([],0,false),[],17,()):=by
 subst hy;rw [C8,if_neg (fun h=>by rw [h0] at h;cases h),if_pos h1];rfl
theorem TL2 (h0:(!decide (y.2.1=0))=false) (h1:tk1 x s y.1 i=false) (h2:tk2 x n=true):Zo (C8 x s i n)=(([],0,false),[],2,()):=by
 subst hy;rw [C8,if_neg (fun h=>by rw [h0] at h;cases h),if_neg (fun h=>by rw [h1] at h;cases h),if_pos h2];rfl
theorem TL3 (h0:(!decide (y.2.1=0))=false) (h1:tk1 x s y.1 i=false) (h2:tk2 x n=false) {e:Int} (hr:(Ef x s i n).2.2=e) (h3:(!decide (e=0))=true):Zo (C8 x s i n)=(([],0,false),[],e,()):=by
 subst hy;subst hr;rw [C8,if_neg (fun h=>by rw [h0] at h;cases h),if_neg (fun h=>by rw [h1] at h;cases h),if_neg (fun h=>by rw [h2] at h;cases h),if_pos h3];rfl
theorem TL4 (h0:(!decide (y.2.1=0))=false) (h1:tk1 x s y.1 i=false) (h2:tk2 x n=false) {t:SST} {o:List (List Int)} {e:Int} (hr:Ef x s i n=(t,o,e)) (he:(!decide (e=0))=false):Zo (C8 x s i n)=(t,o,0,()):=by
 subst hy;rw [C8,if_neg (fun h=>by rw [h0] at h;cases h),if_neg (fun h=>by rw [h1] at h;cases h),if_neg (fun h=>by rw [h2] at h;cases h),hr,if_neg (fun h=>by rw [he] at h;cases h)]
end
def Fg (x:StT) (s:SST) (i:Int):SST × List (List Int) × Int :=
 if x.1=4 then (((Ds (s.1,[],0)).1,s.2.1,true),[(Ds (s.1,[],0)).2.1],(Ds (s.1,[],0)).2.2)
 else if x.1=7 then ((s.1,s.2.1,true),[[],[]],0)
 else if x.1=8 then ((F9 (s.1++[i]),s.2.1,decide (((F9 (s.1++[i])).length:Int)=2)),[[]],0)
 else if x.1=9 then ((if decide (i=1)=true then [] else s.1,El .i64 s.2.1 (Em .i64 1 i),decide (El .i64 s.2.1 (Em .i64 1 i)=3)),[[]],0)
 else if x.1=10 then ((s.1,s.2.1,true),[],0)
 else ((s.1,s.2.1,true),[[]],0)
section
variable {z:Int} {e:ExprT} {l hd:List Int} {c i:Int} {en:Bool}
theorem e9t (h:decide (i=1)=true):Fg (9,z,e,l) (hd,c,en) i=(([],El .i64 c (Em .i64 1 i),decide (El .i64 c (Em .i64 1 i)=3)),[[]],0):=by
 show ((if decide (i=1)=true then [] else hd,El .i64 c (Em .i64 1 i),decide (El .i64 c (Em .i64 1 i)=3)),[[]],(0:Int))=_
 rw [if_pos h]
theorem e9f (h:decide (i=1)=false):Fg (9,z,e,l) (hd,c,en) i=((hd,El .i64 c (Em .i64 1 i),decide (El .i64 c (Em .i64 1 i)=3)),[[]],0):=by
 show ((if decide (i=1)=true then [] else hd,El .i64 c (Em .i64 1 i),decide (El .i64 c (Em .i64 1 i)=3)),[[]],(0:Int))=_
 rw [if_neg (by rw [h];simp)]
theorem e4t {v f:Int} (h:decide (0 < (hd.length:Int))=true) (h2:hd.foldl Ez (0,0)=(v,f)):Fg (4,z,e,l) (hd,c,en) i=(([],c,true),[Kw f [] v],f):=by
 have hb:Ds (hd,[],0)=([],Kw f [] v,f):=by
  unfold Ds
  rw [if_pos h]
  unfold G2
  rw [show hd.foldl Ez (0,0)=(v,f) from h2]
 show (((Ds (hd,[],0)).1,c,true),[(Ds (hd,[],0)).2.1],(Ds (hd,[],0)).2.2)=_
 rw [hb]
theorem e4f (h:decide (0 < (hd.length:Int))=false):Fg (4,z,e,l) (hd,c,en) i=((hd,c,true),[[]],0):=by
 have hb:Ds (hd,[],0)=(hd,[],0):=by
  unfold Ds
  rw [if_neg (by rw [h];simp)]
 show (((Ds (hd,[],0)).1,c,true),[(Ds (hd,[],0)).2.1],(Ds (hd,[],0)).2.2)=_
 rw [hb]
end
def te1 (x:StT) (i:Int):Bool:=bif bif decide (x.1=1) then !decide (i=-1) else false then true else bif !decide (x.1=1) then bif decide (i < 0) then true else decide ((Ao x.1).1≤i) else false
def te2 (x:StT) (s:SST) (i:Int):Bool:=bif s.2.2 then true else bif !decide (x.1=1) then F4 x s i else false
def Dz (x:StT) (s:SST) (i:Int):SST × List (List Int) × Bool × Int :=
 if (!decide ((Ar x s).2=0))=true then (Pw,[],false,(Ar x s).2) else
 if te1 x i=true then (Pw,[],false,2) else
 if te2 x s i=true then (Pw,[],false,17) else
 if (!decide ((Fg x s i).2.2=0))=true then (Pw,[],false,(Fg x s i).2.2) else
 ((Fg x s i).1,(Fg x s i).2.1,(Fg x s i).1.2.2,0)
@[reducible] def Zp (t:SST × List (List Int) × Bool × Int):SST × List (List Int) × Bool × Int × Unit:=(t.1,t.2.1,t.2.2.1,t.2.2.2,())
section
variable {x:StT} {s:SST} {i:Int} {y:G7 Zj} (hy:y=((Ar x s).1,(Ar x s).2,()))
include hy
theorem EL0 (h0:(!decide (y.2.1=0))=true):Zp (Dz x s i)=(([],0,false),[],false,y.2.1,()):=by
 subst hy;rw [Dz,if_pos h0];rfl
theorem EL1 (h0:(!decide (y.2.1=0))=false) (h1:te1 x i=true):Zp (Dz x s i)=(([],0,false),[],false,2,()):=by
 subst hy;rw [Dz,if_neg (fun h=>by rw [h0] at h;cases h),if_pos h1];rfl
theorem EL2 (h0:(!decide (y.2.1=0))=false) (h1:te1 x i=false) (h2:te2 x s i=true):Zp (Dz x s i)=(([],0,false),[],false,17,()):=by
 subst hy;rw [Dz,if_neg (fun h=>by rw [h0] at h;cases h),if_neg (fun h=>by rw [h1] at h;cases h),if_pos h2];rfl
theorem EL3 (h0:(!decide (y.2.1=0))=false) (h1:te1 x i=false) (h2:te2 x s i=false) {e:Int} (hr:(Fg x s i).2.2=e) (h3:(!decide (e=0))=true):Zp (Dz x s i)=(([],0,false),[],false,e,()):=by
 subst hy;subst hr;rw [Dz,if_neg (fun h=>by rw [h0] at h;cases h),if_neg (fun h=>by rw [h1] at h;cases h),if_neg (fun h=>by rw [h2] at h;cases h),if_pos h3];rfl
theorem EL4 (h0:(!decide (y.2.1=0))=false) (h1:te1 x i=false) (h2:te2 x s i=false) {t:SST} {o:List (List Int)} {e:Int} (hr:Fg x s i=(t,o,e)) (he:(!decide (e=0))=false):Zp (Dz x s i)=(t,o,t.2.2,0,()):=by
 subst hy;rw [Dz,if_neg (fun h=>by rw [h0] at h;cases h),if_neg (fun h=>by rw [h1] at h;cases h),if_neg (fun h=>by rw [h2] at h;cases h),hr,if_neg (fun h=>by rw [he] at h;cases h)]
end
@[reducible] def rTk:List (Bool × Ty):=[(true,tSS),(false,Xh),(false,tI)]
def cxTk:Ctx:=⟨Al4,[(97,([],c31)),(189,([],c25)),(127,([],c40k)),(177,([],c83)),(238,([],c108)),(129,([],c43)),(119,([],c60))]⟩
theorem Eg:Ah Tryz.prog cxTk:=C7 (Ae R7 (Ae Zf (Ae Ny (Ae Zg (Ae Abf (Ae Vd (Ae Zk Ag)))))))
theorem Eh:A7 Tryz.prog (A6 cxTk Tryz.prog (A6 cxTk Tryz.prog (A6 cxTk Tryz.prog (A6 cxTk Tryz.prog (A6 cxTk Tryz.prog noS))))):=Af Eg (Af Eg (Af Eg (Af Eg (Af Eg Bf))))
theorem Zq:A7 Tryz.prog (A6 cxTk Tryz.prog (A6 cxTk Tryz.prog (Ja 187 (Zl (A6 cxTk Tryz.prog noS)) (A6 cxTk Tryz.prog noS)))) :=
 Af Eg (Af Eg (Cs (T5 (Af Eg Bf)) (Af Eg Bf)))
def Ir (k:Int):Prop:=∀ (z:Int) (e:ExprT) (l hd:List Int) (c:Int) (en:Bool) (i n:Int),An (k,z,e,l)=0→A0 (k,z,e,l) (hd,c,en)=true →
 ∃ call:CallSem,A7 Tryz.prog call∧call 147 (F7 [dSt,dSS,dI,dI] ((k,z,e,l),(hd,c,en),i,n,())) [] 0 (G0 ⟨none,none,[],Eu rTk (Zo (C8 (k,z,e,l) (hd,c,en) i n))⟩)
@[reducible] def rEn:List (Bool × Ty):=[(true,tSS),(false,Xh),(false,.bool),(false,tI)]
def cxEn:Ctx:=⟨Al4,[(97,([],c31)),(189,([],c25)),(150,([],c65)),(127,([],c40k)),(129,([],c43)),(119,([],c60))]⟩
theorem Fk:Ah Tryz.prog cxEn:=C7 (Ae R7 (Ae Zf (Ae Af5 (Ae Ny (Ae Vd (Ae Zk Ag))))))
theorem Ei:A7 Tryz.prog (A6 cxEn Tryz.prog (A6 cxEn Tryz.prog (A6 cxEn Tryz.prog (A6 cxEn Tryz.prog (A6 cxEn Tryz.prog noS))))):=Af Fk (Af Fk (Af Fk (Af Fk (Af Fk Bf))))
theorem Zr:A7 Tryz.prog (A6 cxEn Tryz.prog (A6 cxEn Tryz.prog (Ja 245 (Qm tI F9 245) (A6 cxEn Tryz.prog noS)))) :=
 Af Fk (Af Fk (Cs Ajc (Af Fk Bf)))
def Is (k:Int):Prop:=∀ (z:Int) (e:ExprT) (l hd:List Int) (c:Int) (en:Bool) (i:Int),An (k,z,e,l)=0→A0 (k,z,e,l) (hd,c,en)=true →
 ∃ call:CallSem,A7 Tryz.prog call∧call 146 (F7 [dSt,dSS,dI] ((k,z,e,l),(hd,c,en),i,())) [] 0 (G0 ⟨none,none,[],Eu rEn (Zp (Dz (k,z,e,l) (hd,c,en) i))⟩)
theorem Cp {x:StT} {s:SST}:(Ar x s).2=0↔(An x=0∧A0 x s=true):=by
 by_cases h0:An x=0
 ·cases hv:A0 x s with
  | true =>
   refine ⟨fun _=>⟨h0,rfl⟩,fun _=>?_⟩
   unfold Ar
   rw [if_neg (by simp [h0]),if_neg (by simp [hv])]
   repeat' split
   all_goals rfl
  | false =>
   refine ⟨fun h=>?_,fun h=>by simpa using h.2⟩
   rw [ND1 (by simp [h0]) (by simp [hv])] at h
   exact absurd h (by decide)
 ·refine ⟨fun h=>?_,fun h=>absurd h.1 h0⟩
  rw [ND0 (by simpa using h0)] at h
  exact absurd h h0
theorem Abj {x:StT} {s:SST} {i n:Int} (h:(C8 x s i n).2.2=0) :
 An x=0∧A0 x s=true∧tk1 x s (Ar x s).1 i=false∧tk2 x n=false∧(Ef x s i n).2.2=0∧C8 x s i n=((Ef x s i n).1,(Ef x s i n).2.1,0):=by
 unfold C8 at h ⊢
 split at h
 ·rename_i h1
  have h2:(Ar x s).2=0:=h
  rw [h2] at h1;exact absurd h1 (by decide)
 ·rename_i h1
  have hn:(Ar x s).2=0:=by simpa using h1
  rw [if_neg h1]
  split at h
  ·exact absurd h (by decide)
  ·rename_i h2
   rw [if_neg h2]
   split at h
   ·exact absurd h (by decide)
   ·rename_i h3
    rw [if_neg h3]
    split at h
    ·rename_i h4
     have h5:(Ef x s i n).2.2=0:=h
     rw [h5] at h4;exact absurd h4 (by decide)
    ·rename_i h4
     rw [if_neg h4]
     exact ⟨(Cp.1 hn).1,(Cp.1 hn).2,by simpa using h2,by simpa using h3,by simpa using h4,rfl⟩
theorem Agj {x:StT} {s:SST} {i:Int} (h:(Dz x s i).2.2.2=0) :
 An x=0∧A0 x s=true∧te1 x i=false∧te2 x s i=false∧(Fg x s i).2.2=0∧Dz x s i=((Fg x s i).1,(Fg x s i).2.1,(Fg x s i).1.2.2,0):=by
 unfold Dz at h ⊢
 split at h
 ·rename_i h1
  have h2:(Ar x s).2=0:=h
  rw [h2] at h1;exact absurd h1 (by decide)
 ·rename_i h1
  have hn:(Ar x s).2=0:=by simpa using h1
  rw [if_neg h1]
  split at h
  ·exact absurd h (by decide)
  ·rename_i h2
   rw [if_neg h2]
   split at h
   ·exact absurd h (by decide)
   ·rename_i h3
    rw [if_neg h3]
    split at h
    ·rename_i h4
     have h5:(Fg x s i).2.2=0:=h
     rw [h5] at h4;exact absurd h4 (by decide)
    ·rename_i h4
     rw [if_neg h4]
     exact ⟨(Cp.1 hn).1,(Cp.1 hn).2,by simpa using h2,by simpa using h3,by simpa using h4,rfl⟩
def vk (x:StT) (s:SST):Bool :=
 if x.1=4 then (bif !s.2.2 then true else decide ((s.1.length:Int)=0))
 else if x.1=8 then (if (List.range s.1.length).any (Cw s.1)=true then false else (s.2.2 == decide ((s.1.length:Int)=2)))
 else if x.1=9 then (bif (s.2.2 == decide (s.2.1=3)) then (bif decide (s.2.1 < 2) then true else decide ((s.1.length:Int)=0)) else false)
 else true
theorem Ay {x:StT} {s:SST}:A0 x s=true↔((0≤s.2.1∧s.2.1≤(Fp x).1∧(s.1.length:Int)≤(Fp x).2)∧s.1.any Ai=false∧vk x s=true):=by
 constructor
 ·intro h
  refine ⟨Bi h, ?_⟩
  unfold A0 at h
  split at h
  ·cases h
  ·split at h
   ·cases h
   ·rename_i h2
    exact ⟨by simpa using h2,h⟩
 ·rintro ⟨⟨h1,h2,h3⟩,h4,h5⟩
  unfold A0
  have hv:vc1 x s=false:=by
   unfold vc1
   rw [decide_eq_false (by omega),decide_eq_false (by omega),decide_eq_false (by omega)];rfl
  rw [if_neg (by rw [hv];simp),if_neg (by rw [h4];simp)]
  exact h5
theorem Amc {n:Int} (h:Jx n=true):Ai n=false:=by unfold Ai;rw [h];rfl
theorem Agk {l:List Int} (h1:(l.length:Int)≤2) (h:(List.range l.length).any (Cw l)=false):l=[]∨l=[0]∨l=[1]∨l=[0,1]:=by
 match l,h1,h with
 | [],_,_=>exact .inl rfl
 | [a],_,h =>
  have h2:(a < 0)=False∧(1 < a)=False:=by
   have h3:Cw [a] 0=false:=by simpa using h
   unfold Cw at h3
   by_cases b1:a < 0
   ·simp [b1] at h3
   ·by_cases b2:1 < a
    ·simp [b2] at h3
    ·simp [b1,b2]
  have h3:a=0∨a=1:=by
   have b1:¬ a < 0:=by rw [h2.1];simp
   have b2:¬ 1 < a:=by rw [h2.2];simp
   omega
  rcases h3 with rfl | rfl
  ·exact .inr (.inl rfl)
  ·exact .inr (.inr (.inl rfl))
 | [a,b],_,h =>
  have h3:Cw [a,b] 0=false∧Cw [a,b] 1=false:=by
   have:=List.any_eq_false.1 h
   exact ⟨by simpa using this 0 (by simp),by simpa using this 1 (by simp)⟩
  have g1:¬ a < 0∧¬ 1 < a:=by
   have h4:=h3.1
   unfold Cw at h4
   refine ⟨fun b1=>?_,fun b1=>?_⟩
   ·simp [b1] at h4
   ·simp [b1] at h4
  have g2:¬ b < 0∧¬ 1 < b∧¬ b≤a:=by
   have h4:=h3.2
   unfold Cw at h4
   refine ⟨fun b1=>?_,fun b1=>?_,fun b1=>?_⟩
   ·simp [b1] at h4
   ·simp [b1] at h4
   ·simp [b1] at h4
  have ha:a=0:=by omega
  have hb:b=1:=by omega
  subst ha;subst hb
  exact .inr (.inr (.inr rfl))
 | _ :: _ :: _ :: l,h,_=>simp only [List.length_cons] at h;omega
theorem Abk {x:Int} (h:Jx x=true):inM x:=by
 unfold Jx at h
 unfold inM
 by_cases h1:-1099511627776≤x
 ·rw [decide_eq_true h1] at h
  exact ⟨h1,of_decide_eq_true h⟩
 ·rw [decide_eq_false h1] at h;cases h
theorem Agl {l:List Int} (h:l.any Ai=false):∀ x∈l,inM x:=fun x hx=>by
 have h1:=List.any_eq_false.1 h x hx
 refine Abk ?_
 unfold Ai at h1
 cases hb:Jx x
 ·rw [hb] at h1;exact absurd rfl h1
 ·rfl
theorem Sa {x:StT} {s:SST} {nd:List Int} {i:Int} (h:tk1 x s nd i=false):s.2.2=false:=by
 unfold tk1 at h
 cases he:s.2.2 with
 | false=>rfl
 | true=>rw [he] at h;cases h
theorem X1 {x:StT} {s:SST} {nd:List Int} {i:Int} (hk:x.1≠1) (h:tk1 x s nd i=false):nd.any (isI i)=true:=by
 have he:=Sa h
 unfold tk1 at h
 rw [he,decide_eq_false hk] at h
 cases hn:nd.any (isI i) with
 | true=>rfl
 | false=>rw [hn] at h;cases h
theorem Abl {x:StT} {s:SST} {nd:List Int} {i:Int} (hk:x.1=1) (h:tk1 x s nd i=false):i=-1∧s.2.1≠(x.2.2.2.length:Int):=by
 have he:=Sa h
 unfold tk1 at h
 rw [he,decide_eq_true hk] at h
 by_cases h1:i=-1
 ·refine ⟨h1,fun h2=>?_⟩
  rw [decide_eq_true h1,decide_eq_true h2] at h;cases h
 ·rw [decide_eq_false h1] at h;cases h
theorem Vp {x:StT} {n:Int} (h:tk2 x n=false):Jx n=true:=by
 unfold tk2 at h
 cases hn:Jx n with
 | true=>rfl
 | false=>rw [hn] at h;cases h
theorem Vq {x:StT} {i:Int} (hk:x.1≠1) (h:te1 x i=false):0≤i∧i < (Ao x.1).1:=by
 unfold te1 at h
 rw [decide_eq_false hk] at h
 by_cases h1:i < 0
 ·rw [decide_eq_true h1] at h;cases h
 ·by_cases h2:(Ao x.1).1≤i
  ·rw [decide_eq_false h1,decide_eq_true h2] at h;cases h
  ·omega
theorem Zs {x:StT} {s:SST} {i:Int} (h:te2 x s i=false):s.2.2=false:=by
 unfold te2 at h
 cases he:s.2.2 with
 | false=>rfl
 | true=>rw [he] at h;cases h
theorem Abm {x:StT} {s:SST} {i:Int} (hk:x.1≠1) (h:te2 x s i=false):F4 x s i=false:=by
 have he:=Zs h
 unfold te2 at h
 rw [he,decide_eq_false hk] at h
 cases hn:F4 x s i with
 | false=>rfl
 | true=>rw [hn] at h;cases h
theorem Amd {c:Int} (h0:0≤c) (h3:c≤3) (h:Ej .i64 c 2=0):c < 2:=by
 have hc:c=0∨c=1∨c=2∨c=3:=by omega
 rcases hc with rfl | rfl | rfl | rfl
 ·decide
 ·decide
 ·exact absurd h (by decide)
 ·exact absurd h (by decide)
theorem Agm {l:List Int} {n:Int} (h:l.any Ai=false) (hn:Ai n=false):(l++[n]).any Ai=false:=by
 rw [List.any_append,h]
 simp [hn]
theorem Ano {z:Int} {e:ExprT} {l hd:List Int} {c i:Int} (h0:An (8,z,e,l)=0) (hv:A0 (8,z,e,l) (hd,c,false)=true) (h1:tk1 (8,z,e,l) (hd,c,false) (Ar (8,z,e,l) (hd,c,false)).1 i=false):i=1 - c∨i=c:=by
 have h4:=X1 (by show (8:Int)≠1;decide) h1
 have hnd:(Ar (8,z,e,l) (hd,c,false)).1=[1 - c]∨(Ar (8,z,e,l) (hd,c,false)).1=[c]:=by
  unfold Ar
  rw [if_neg (by simp [h0]),if_neg (by simp [hv]),if_neg (by simp)]
  split
  ·exact .inl rfl
  ·rw [if_pos (by rfl)]
   exact .inr rfl
 rcases hnd with hnd | hnd <;> rw [hnd] at h4 <;> simp [isI] at h4
 ·exact .inl h4
 ·exact .inr h4
theorem Zt {x:StT} {s:SST} {i n:Int} (h:(C8 x s i n).2.2=0) :
 A0 x (C8 x s i n).1=true∧((C8 x s i n).2.1.length:Int)=(Ao x.1).2.1∧(C8 x s i n).1.2.2=s.2.2:=by
 obtain ⟨h0,hv,h1,h2,h3,he⟩:=Abj h
 rw [he]
 have hz:=A1 h0
 have hk:=Ie (Cu h0)
 have hen:=Sa h1
 have hn:=Amc (Vp h2)
 obtain ⟨⟨a1,a2,a3⟩,a4,a5⟩:=Ay.1 hv
 obtain ⟨k,z,e,l⟩:=x
 obtain ⟨hd,c,en⟩:=s
 replace hk:k=1∨k=2∨k=3∨k=4∨k=5∨k=6∨k=7∨k=8∨k=9∨k=10:=hk
 replace hen:en=false:=hen
 replace a1:0≤c:=a1
 replace a4:hd.any Ai=false:=a4
 subst hen
 rcases hk with rfl | rfl | rfl | rfl | rfl | rfl | rfl | rfl | rfl | rfl
 ·have h4:=Abl rfl h1
  have h5:c≠(l.length:Int):=h4.2
  have a2':c≤(l.length:Int):=a2
  exact ⟨Ay.2 ⟨⟨by show 0≤c+1;omega,by show c+1≤(l.length:Int);omega,a3⟩,a4,rfl⟩,rfl,rfl⟩
 ·exact ⟨hv,rfl,rfl⟩
 ·exact ⟨hv,rfl,rfl⟩
 ·have hz1:1≤z:=hz.2.2 rfl
  have a3':(hd.length:Int)≤z - 1:=a3
  by_cases hc:(((hd++[n]).length:Nat):Int)=z
  ·have hb:De z (hd,[],0) n=G2 (hd++[n],[],0):=by
    dsimp only [De]
    rw [if_pos (decide_eq_true hc)]
   refine ⟨?_,rfl,rfl⟩
   show A0 _ ((De z (hd,[],0) n).1,c,false)=true
   rw [hb]
   exact Ay.2 ⟨⟨a1,a2,by show ((([]:List Int).length:Nat):Int)≤z - 1;simp;omega⟩,rfl,rfl⟩
  ·have hb:De z (hd,[],0) n=(hd++[n],[],0):=by
    dsimp only [De]
    rw [if_neg (by simpa using hc)]
   refine ⟨?_,rfl,rfl⟩
   show A0 _ ((De z (hd,[],0) n).1,c,false)=true
   rw [hb]
   refine Ay.2 ⟨⟨a1,a2, ?_⟩,Agm a4 hn,rfl⟩
   show (((hd++[n]).length:Nat):Int)≤z - 1
   simp only [List.length_append,List.length_cons,List.length_nil] at hc ⊢
   omega
 ·exact ⟨hv,rfl,rfl⟩
 ·by_cases hc:c < z
  ·have hr:Ef (6,z,e,l) (hd,c,false) i n=((hd,c+1,false),[[n]],0):=by
    show (if decide (c < z)=true then _ else _)=_
    rw [if_pos (decide_eq_true hc)]
   rw [hr]
   exact ⟨Ay.2 ⟨⟨by show 0≤c+1;omega,by show c+1≤z;omega,a3⟩,a4,rfl⟩,rfl,rfl⟩
  ·have hr:Ef (6,z,e,l) (hd,c,false) i n=((hd,c,false),[[]],0):=by
    show (if decide (c < z)=true then _ else _)=_
    rw [if_neg (by simpa using hc)]
   rw [hr]
   exact ⟨hv,rfl,rfl⟩
 ·exact ⟨hv,rfl,rfl⟩
 ·have h4:=X1 (by show (8:Int)≠1;decide) h1
  have a2':c≤1:=a2
  have h5:=Ano h0 hv h1
  exact ⟨Ay.2 ⟨⟨by show 0≤1 - i;omega,by show 1 - i≤1;omega,a3⟩,a4,a5⟩,rfl,rfl⟩
 ·have a2':c≤3:=a2
  have g1:(false == decide (c=3))=true:=by
   have a6:(bif (false == decide (c=3)) then (bif decide (c < 2) then true else decide ((hd.length:Int)=0)) else false)=true:=a5
   cases hq:(false == decide (c=3)) with
   | true=>rfl
   | false=>rw [hq] at a6;cases a6
  by_cases hi:i=0
  ·by_cases hb:Ej .i64 c 2=0
   ·have hr:Ef (9,z,e,l) (hd,c,false) i n=(([n],c,false),[[]],0):=by
     show (if decide (i=0)=true then (if decide (Ej .i64 c 2=0)=true then _ else _) else _)=_
     rw [if_pos (decide_eq_true hi),if_pos (decide_eq_true hb)]
    rw [hr]
    refine ⟨Ay.2 ⟨⟨a1,a2,Int.le_refl _⟩,by simp [hn], ?_⟩,rfl,rfl⟩
    show (bif (false == decide (c=3)) then (bif decide (c < 2) then true else _) else false)=true
    rw [g1,decide_eq_true (Amd a1 a2' hb)];rfl
   ·have hr:Ef (9,z,e,l) (hd,c,false) i n=((hd,c,false),[[]],0):=by
     show (if decide (i=0)=true then (if decide (Ej .i64 c 2=0)=true then _ else _) else _)=_
     rw [if_pos (decide_eq_true hi),if_neg (by simpa using hb)]
    rw [hr]
    exact ⟨hv,rfl,rfl⟩
  ·by_cases hl:(hd.length:Int)=1
   ·have hr:Ef (9,z,e,l) (hd,c,false) i n=(([],c,false),[[(evX e Ey (hd.getD 0 0) n).1]],(evX e Ey (hd.getD 0 0) n).2):=by
     show (if decide (i=0)=true then _ else if decide ((hd.length:Int)=1)=true then _ else _)=_
     rw [if_neg (by simpa using hi),if_pos (decide_eq_true hl)]
    rw [hr]
    refine ⟨Ay.2 ⟨⟨a1,a2,by show ((0:Nat):Int)≤1;decide⟩,rfl, ?_⟩,rfl,rfl⟩
    show (bif (false == decide (c=3)) then (bif decide (c < 2) then true else true) else false)=true
    rw [g1];cases decide (c < 2) <;> rfl
   ·have hr:Ef (9,z,e,l) (hd,c,false) i n=((hd,c,false),[[]],0):=by
     show (if decide (i=0)=true then _ else if decide ((hd.length:Int)=1)=true then _ else _)=_
     rw [if_neg (by simpa using hi),if_neg (by simpa using hl)]
    rw [hr]
    exact ⟨hv,rfl,rfl⟩
 ·exact ⟨hv,rfl,rfl⟩
theorem Lw {x:StT} {t:SST} {i:Int} (h0:An x=0) (hv:A0 x t=true) (h1:te1 x i=false) (h2:te2 x t i=true):(Dz x t i).2.2.2=17:=by
 have hn:=Cp.2 ⟨h0,hv⟩
 unfold Dz
 rw [if_neg (by simp [hn]),if_neg (by rw [h1];simp),if_pos h2]
theorem X2 {x:StT} {t:SST} {i:Int} (h0:An x=0) (hv:A0 x t=true) (h1:te1 x i=false) (ht:t.2.2=true):(Ar x t).1.any (isI i)=false∧(Dz x t i).2.2.2=17:=by
 refine ⟨?_,Lw h0 hv h1 (by unfold te2;rw [ht];rfl)⟩
 rw [ND2 (by simp [h0]) (by simp [hv]) (by rw [ht];rfl)];rfl
theorem Ame (a:Int):F9 [a]=[a]:=List.mergeSort_of_pairwise (by simp)
theorem Ajo:F9 [0,1]=[0,1]:=List.mergeSort_of_pairwise (by decide)
theorem Ajp:F9 [1,0]=[0,1]:=by
 have p:(F9 [1,0]).Perm [0,1]:=(List.mergeSort_perm [1,0] _).trans (List.Perm.swap 0 1 [])
 have s:(F9 [1,0]).Pairwise (fun x y=>decide (x≤y)=true):=List.pairwise_mergeSort (le:=fun x y=>decide (x≤y)) (fun a b c h1 h2=>by simp at *;omega) (fun a b=>by simp;omega) _
 exact p.eq_of_pairwise (fun a b _ _ h1 h2=>by simp at h1 h2;omega) s (by decide)
def Mt (x:StT) (i:Int) (t:SST) (o:List (List Int)):Prop :=
 A0 x t=true∧(o.length:Int)=(Ao x.1).2.1∧(Ar x t).1.any (isI i)=false∧(Dz x t i).2.2.2=17
theorem Dg {x:StT} {i:Int} {t:SST} {o:List (List Int)} (h0:An x=0) (h1:te1 x i=false) (ht:t.2.2=true) (hv:A0 x t=true) (ho:(o.length:Int)=(Ao x.1).2.1):Mt x i t o :=
 ⟨hv,ho,(X2 h0 hv h1 ht).1,(X2 h0 hv h1 ht).2⟩
theorem Anp {z:Int} {e:ExprT} {l hd:List Int} {c i:Int} (h0:An (8,z,e,l)=0) (h1:te1 (8,z,e,l) i=false) (h2:te2 (8,z,e,l) (hd,c,false) i=false)
 (a1:0≤c) (a2:c≤1) (a3:(hd.length:Int)≤2) (a5:(List.range hd.length).any (Cw hd)=false):Mt (8,z,e,l) i (Fg (8,z,e,l) (hd,c,false) i).1 (Fg (8,z,e,l) (hd,c,false) i).2.1:=by
 have hi:=Vq (by show (8:Int)≠1;decide) h1
 replace hi:0≤i∧i < 2:=hi
 have hnot:hd.any (isI i)=false:=Abm (by show (8:Int)≠1;decide) h2
 have one:∀ a:Int,a=0∨a=1→Mt (8,z,e,l) a ([a],c,false) [[]]:=by
  intro a ha
  have hv:A0 (8,z,e,l) ([a],c,false)=true:=by
   refine Ay.2 ⟨⟨a1,a2,by show ((1:Nat):Int)≤2;decide⟩, ?_, ?_⟩
   ·rcases ha with rfl | rfl <;> rfl
   ·rcases ha with rfl | rfl <;> rfl
  have ht:te2 (8,z,e,l) ([a],c,false) a=true:=by
   show (bif !decide ((8:Int)=1) then [a].any (isI a) else false)=true
   simp [isI]
  refine ⟨hv,rfl, ?_,Lw h0 hv ?_ ht⟩
  ·by_cases hc:a=c
   ·rw [ND3 (by simp [h0]) (by simp [hv]) (by rfl) (by show [a].any (isI c)=true;simp [isI,hc])]
    show [1 - c].any (isI a)=false
    simp [isI];omega
   ·rw [ND4 (by simp [h0]) (by simp [hv]) (by rfl) (by show [a].any (isI c)=false;simp [isI];omega) (by rfl)]
    show [c].any (isI a)=false
    simp [isI];omega
  ·rcases ha with rfl | rfl <;> rfl
 have two:∀ a:Int,te1 (8,z,e,l) a=false→Mt (8,z,e,l) a ([0,1],c,true) [[]]:=fun a h1 =>
  Dg h0 h1 rfl (Ay.2 ⟨⟨a1,a2,by show ((2:Nat):Int)≤2;decide⟩,rfl,rfl⟩) rfl
 have hi2:i=0∨i=1:=by omega
 rcases Agk a3 a5 with rfl | rfl | rfl | rfl
 ·show Mt _ i (F9 [i],c,decide (((F9 [i]).length:Int)=2)) [[]]
  rw [Ame]
  exact one i hi2
 ·rcases hi2 with rfl | rfl
  ·exact absurd hnot (by simp [isI])
  ·show Mt _ 1 (F9 [0,1],c,decide (((F9 [0,1]).length:Int)=2)) [[]]
   rw [Ajo]
   exact two 1 h1
 ·rcases hi2 with rfl | rfl
  ·show Mt _ 0 (F9 [1,0],c,decide (((F9 [1,0]).length:Int)=2)) [[]]
   rw [Ajp]
   exact two 0 h1
  ·exact absurd hnot (by simp [isI])
 ·rcases hi2 with rfl | rfl
  ·exact absurd hnot (by simp [isI])
  ·exact absurd hnot (by simp [isI])
theorem Zu {z:Int} {e:ExprT} {l:List Int} {s:SST} {i:Int}:F4 (9,z,e,l) s i=decide (Ej .i64 (So .i64 s.2.1 i) 1=1):=by
 unfold F4
 rw [if_neg (by show ¬ (9:Int)=8;decide),if_pos rfl]
theorem Akl {z:Int} {e:ExprT} {l hd:List Int} {c i:Int}:te2 (9,z,e,l) (hd,c,false) i=decide (Ej .i64 (So .i64 c i) 1=1):=by
 unfold te2
 rw [Zu];rfl
theorem Anq {z:Int} {e:ExprT} {l hd:List Int} {c i:Int} (h0:An (9,z,e,l)=0) (h1:te1 (9,z,e,l) i=false) (h2:te2 (9,z,e,l) (hd,c,false) i=false)
 (a1:0≤c) (a2:c≤3) (a3:(hd.length:Int)≤1) (a4:hd.any Ai=false) (a5:(bif (false == decide (c=3)) then (bif decide (c < 2) then true else decide ((hd.length:Int)=0)) else false)=true) :
 Mt (9,z,e,l) i (Fg (9,z,e,l) (hd,c,false) i).1 (Fg (9,z,e,l) (hd,c,false) i).2.1:=by
 have hi:=Vq (by show (9:Int)≠1;decide) h1
 replace hi:0≤i∧i < 2:=hi
 have hnot:F4 (9,z,e,l) (hd,c,false) i=false:=Abm (by show (9:Int)≠1;decide) h2
 replace hnot:decide (Ej .i64 (So .i64 c i) 1=1)=false:=hnot
 have hi2:i=0∨i=1:=by omega
 have hc:c=0∨c=1∨c=2∨c=3:=by omega
 rcases hc with rfl | rfl | rfl | rfl
 ·rcases hi2 with rfl | rfl
  ·have b:El .i64 0 (Em .i64 1 0)=1:=by decide
   have hr:Fg (9,z,e,l) (hd,0,false) 0=((hd,1,false),[[]],0):=by
    show ((if decide ((0:Int)=1)=true then [] else hd,El .i64 0 (Em .i64 1 0),decide (El .i64 0 (Em .i64 1 0)=3)),[[]],(0:Int))=_
    rw [b];rfl
   rw [hr]
   show Mt _ 0 (hd,1,false) [[]]
   have hv:A0 (9,z,e,l) (hd,1,false)=true:=Ay.2 ⟨⟨by show (0:Int)≤1;decide,by show (1:Int)≤3;decide,a3⟩,a4,rfl⟩
   refine ⟨hv,rfl, ?_,Lw h0 hv h1 (by rw [Akl];decide)⟩
   rw [ND5 (by simp [h0]) (by simp [hv]) (by rfl) (by rfl) (by rfl) (by rw [Zu,show decide (Ej .i64 (So .i64 ((hd,(1:Int),false):SST).2.1 0) 1=1)=true from by show decide (Ej .i64 (So .i64 1 0) 1=1)=true;decide];rfl)];rfl
  ·have b:El .i64 0 (Em .i64 1 1)=2:=by decide
   have hr:Fg (9,z,e,l) (hd,0,false) 1=(([],2,false),[[]],0):=by
    show ((if decide ((1:Int)=1)=true then [] else hd,El .i64 0 (Em .i64 1 1),decide (El .i64 0 (Em .i64 1 1)=3)),[[]],(0:Int))=_
    rw [b];rfl
   rw [hr]
   show Mt _ 1 ([],2,false) [[]]
   have hv:A0 (9,z,e,l) ([],2,false)=true:=Ay.2 ⟨⟨by show (0:Int)≤2;decide,by show (2:Int)≤3;decide,by show ((0:Nat):Int)≤1;decide⟩,rfl,rfl⟩
   refine ⟨hv,rfl, ?_,Lw h0 hv h1 (by rw [Akl];decide)⟩
   rw [ND6 (by simp [h0]) (by simp [hv]) (by rfl) (by rfl) (by rfl) (by rw [Zu,show decide (Ej .i64 (So .i64 (([],(2:Int),false):SST).2.1 0) 1=1)=false from by show decide (Ej .i64 (So .i64 2 0) 1=1)=false;decide];rfl)];rfl
 ·rcases hi2 with rfl | rfl
  ·exact absurd hnot (by decide)
  ·have b:El .i64 1 (Em .i64 1 1)=3:=by decide
   have hr:Fg (9,z,e,l) (hd,1,false) 1=(([],3,true),[[]],0):=by
    show ((if decide ((1:Int)=1)=true then [] else hd,El .i64 1 (Em .i64 1 1),decide (El .i64 1 (Em .i64 1 1)=3)),[[]],(0:Int))=_
    rw [b];rfl
   rw [hr]
   show Mt _ 1 ([],3,true) [[]]
   exact Dg h0 h1 rfl (Ay.2 ⟨⟨by show (0:Int)≤3;decide,by show (3:Int)≤3;decide,by show ((0:Nat):Int)≤1;decide⟩,rfl,rfl⟩) rfl
 ·rcases hi2 with rfl | rfl
  ·have hl:(hd.length:Int)=0:=of_decide_eq_true a5
   have b:El .i64 2 (Em .i64 1 0)=3:=by decide
   have hr:Fg (9,z,e,l) (hd,2,false) 0=((hd,3,true),[[]],0):=by
    show ((if decide ((0:Int)=1)=true then [] else hd,El .i64 2 (Em .i64 1 0),decide (El .i64 2 (Em .i64 1 0)=3)),[[]],(0:Int))=_
    rw [b];rfl
   rw [hr]
   show Mt _ 0 (hd,3,true) [[]]
   refine Dg h0 h1 rfl (Ay.2 ⟨⟨by show (0:Int)≤3;decide,by show (3:Int)≤3;decide,a3⟩,a4, ?_⟩) rfl
   show (bif (true == decide ((3:Int)=3)) then (bif decide ((3:Int) < 2) then true else decide ((hd.length:Int)=0)) else false)=true
   rw [decide_eq_true hl];rfl
  ·exact absurd hnot (by decide)
 ·have a6:false=true:=a5
  cases a6
theorem Adi {x:StT} {s:SST} {i:Int} (h:(Dz x s i).2.2.2=0):Mt x i (Dz x s i).1 (Dz x s i).2.1∧(Dz x s i).2.2.1=(Dz x s i).1.2.2:=by
 obtain ⟨h0,hv,h1,h2,h3,he⟩:=Agj h
 rw [he]
 refine ⟨?_,rfl⟩
 show Mt x i (Fg x s i).1 (Fg x s i).2.1
 have hz:=A1 h0
 have hk:=Ie (Cu h0)
 have hen:=Zs h2
 obtain ⟨⟨a1,a2,a3⟩,a4,a5⟩:=Ay.1 hv
 obtain ⟨k,z,e,l⟩:=x
 obtain ⟨hd,c,en⟩:=s
 replace hk:k=1∨k=2∨k=3∨k=4∨k=5∨k=6∨k=7∨k=8∨k=9∨k=10:=hk
 replace hen:en=false:=hen
 subst hen
 rcases hk with rfl | rfl | rfl | rfl | rfl | rfl | rfl | rfl | rfl | rfl
 ·exact Dg h0 h1 rfl (Ay.2 ⟨⟨a1,a2,a3⟩,a4,rfl⟩) rfl
 ·exact Dg h0 h1 rfl (Ay.2 ⟨⟨a1,a2,a3⟩,a4,rfl⟩) rfl
 ·exact Dg h0 h1 rfl (Ay.2 ⟨⟨a1,a2,a3⟩,a4,rfl⟩) rfl
 ·have hz1:1≤z:=hz.2.2 rfl
  have hb:(Ds (hd,[],0)).1=[]:=by
   unfold Ds
   by_cases hl:0 < (hd.length:Int)
   ·rw [if_pos (decide_eq_true hl)];rfl
   ·rw [if_neg (by simpa using hl)]
    show hd=[]
    exact List.eq_nil_of_length_eq_zero (by omega)
  show Mt _ i ((Ds (hd,[],0)).1,c,true) [(Ds (hd,[],0)).2.1]
  rw [hb]
  exact Dg h0 h1 rfl (Ay.2 ⟨⟨a1,a2,by show ((0:Nat):Int)≤z - 1;omega⟩,rfl,rfl⟩) rfl
 ·exact Dg h0 h1 rfl (Ay.2 ⟨⟨a1,a2,a3⟩,a4,rfl⟩) rfl
 ·exact Dg h0 h1 rfl (Ay.2 ⟨⟨a1,a2,a3⟩,a4,rfl⟩) rfl
 ·exact Dg h0 h1 rfl (Ay.2 ⟨⟨a1,a2,a3⟩,a4,rfl⟩) rfl
 ·refine Anp h0 h1 h2 a1 a2 a3 ?_
  replace a5:(if (List.range hd.length).any (Cw hd)=true then false else (false == decide ((hd.length:Int)=2)))=true:=a5
  split at a5
  ·cases a5
  ·rename_i hq;simpa using hq
 ·exact Anq h0 h1 h2 a1 a2 a3 a4 a5
 ·exact Dg h0 h1 rfl (Ay.2 ⟨⟨a1,a2,a3⟩,a4,rfl⟩) rfl
set_option maxHeartbeats 8000000 in
theorem Agn:Ir 1:=by
 intro z e l hd c en i n hc hv
 have hs:=A1 hc
 have hb:=Bi hv
 have hcl:c≤(l.length:Int):=hb.2.1
 have hc0:0≤c:=hb.1
 have hl2:=(O1 hc).1
 replace hl2:l.length≤200:=hl2
 have ix:∀ {y:List Int},tk1 (1,z,e,l) (hd,c,en) y i=false→0≤c∧c < (l.length:Int):=fun h=>by
  have h9:c≠(l.length:Int):=(Abl rfl h).2
  omega
 obtain ⟨ek,eo,em,ev,ea⟩:=e
 refine ⟨_,Eh, ?_⟩
 refine (aF (aI tT (fun (h0:List Int × Int × PUnit)=>(fun h1=>(aI (fun h2=>(Aa rfl (by exact TL0 h1 h2))) (fun h2=>(fun h3=>(aI (fun h4=>tT) (aI (fun h5=>(Aa rfl (by exact TL1 h1 h2 h5))) (fun h5=>(aI tT (aI (fun h6=>(Aa rfl (by exact TL2 h1 h2 h5 h6))) (fun h6=>(aA (aF (aA (aF (aE (aF (aK (aI (ix h5) (aD (aB (aA (aI (ix h5) (aB (aF (aI (fun h7=>(aK (aE (aD (aB (aE (aD (aC (aA (aE (aB (aI ?_ (aE (aE (aC (aB (aI ?_ (aI (fun h8=>nG h8) (fun h8=>(aK (aD (aC (Aa rfl (by exact TL4 h1 h2 h5 h6 rfl (by assumption))))))))))))))))))))))))) (fun h7=>False.elim (Bool.false_ne_true (Eq.symm (Eq.trans (by kernel_rfl) h7))))))))))))))))))))))))))))))))
 any_goals (intros;(try subst_vars);(try simp only [nB] at *);(try simp only [inK,big,lim,nL] at *);omega)
set_option maxHeartbeats 8000000 in
theorem Ago:Ir 2:=by
 intro z e l hd c en i n hc hv
 have hs:=A1 hc
 have hb:=Bi hv
 obtain ⟨ek,eo,em,ev,ea⟩:=e
 refine ⟨_,Eh, ?_⟩
 refine (aF (aI tT (fun (h0:List Int × Int × PUnit)=>(fun h1=>(aI (fun h2=>(Aa rfl (by exact TL0 h1 h2))) (fun h2=>(fun h3=>(aI (fun h4=>tT) (aI (fun h5=>(Aa rfl (by exact TL1 h1 h2 h5))) (fun h5=>(aI tT (aI (fun h6=>(Aa rfl (by exact TL2 h1 h2 h5 h6))) (fun h6=>(aA (aF (aA (aF (aE (aF (aF (aA (aF (aI ?_ (aI tT (aI (fun h7=>(aF (aI (fun h8=>(aK (aE (aD (aB (aE (aD (aC (aA (aE (aB (aI ?_ (aE (aE (aC (aB (aI (fun h9=>(aK (aD (aD (Aa rfl (by exact TL3 h1 h2 h5 h6 rfl h9)))))) (fun h9=>(aK (aD (aC (Aa rfl (by exact TL4 h1 h2 h5 h6 rfl h9))))))))))))))))))))))) (fun h8=>(aI (fun h10=>(aK (aD (aD (Aa rfl (by exact TL3 h1 h2 h5 h6 rfl h10)))))) (fun h10=>(aK (aD (aC (Aa rfl (by exact (nbF h8 h10).elim))))))))))) (fun h7=>False.elim (Bool.false_ne_true (Eq.symm (Eq.trans (by kernel_rfl) h7)))))))))))))))))))))))))))))
 any_goals (intros;(try subst_vars);(try simp only [nB] at *);(try simp only [inK,big,lim,nL] at *);omega)
set_option maxHeartbeats 8000000 in
theorem Agp:Ir 3:=by
 intro z e l hd c en i n hc hv
 have hs:=A1 hc
 have hb:=Bi hv
 obtain ⟨ek,eo,em,ev,ea⟩:=e
 refine ⟨_,Eh, ?_⟩
 refine (aF (aI tT (fun (h0:List Int × Int × PUnit)=>(fun h1=>(aI (fun h2=>(Aa rfl (by exact TL0 h1 h2))) (fun h2=>(fun h3=>(aI (fun h4=>tT) (aI (fun h5=>(Aa rfl (by exact TL1 h1 h2 h5))) (fun h5=>(aI tT (aI (fun h6=>(Aa rfl (by exact TL2 h1 h2 h5 h6))) (fun h6=>(aA (aF (aA (aF (aE (aF (aF (aA (aF (aI ?_ (aI tT (aI (fun h7=>(aI (fun h8=>(aF (aI (fun h9=>(aK (aE (aD (aB (aE (aD (aC (aA (aE (aB (aI ?_ (aE (aE (aC (aB (aI (fun h10=>(aK (aD (aD (Aa rfl (by exact TL3 h1 h2 h5 h6 rfl (by assumption))))))) (fun h10=>(aK (aD (aC (Aa rfl (by exact TL4 h1 h2 h5 h6 (r3t h8) (by assumption)))))))))))))))))))))))) (fun h9=>(aI (fun h11=>(aK (aD (aD (Aa rfl (by exact TL3 h1 h2 h5 h6 rfl (by assumption))))))) (fun h11=>(aK (aD (aC (Aa rfl (by exact (nbF h9 h11).elim))))))))))) (fun h8=>(aI (fun h12=>(aK (aD (aD (Aa rfl (by exact TL3 h1 h2 h5 h6 rfl (by assumption))))))) (fun h12=>(aK (aD (aC (Aa rfl (by exact TL4 h1 h2 h5 h6 (r3f (by assumption)) (by assumption))))))))))) (fun h7=>False.elim (Bool.false_ne_true (Eq.symm (Eq.trans (by kernel_rfl) h7)))))))))))))))))))))))))))))
 any_goals (intros;(try subst_vars);(try simp only [nB] at *);(try simp only [inK,big,lim,nL] at *);omega)
set_option maxHeartbeats 8000000 in
theorem Agq:Ir 4:=by
 intro z e l hd c en i n hc hv
 have hs:=A1 hc
 have hb:=Bi hv
 have hz:z≤200:=hs.2.1
 have hl0:(hd.length:Int)≤z - 1:=hb.2.2
 have hl1:hd.length≤1000:=by omega
 have room:(hd.length + [n].length) * 8≤lim:=by simp only [lim,List.length_cons,List.length_nil];omega
 have hin0:=Agl (Ay.1 hv).2.1
 replace hin0:∀ x∈hd,inM x:=hin0
 obtain ⟨ek,eo,em,ev,ea⟩:=e
 refine ⟨_,Eh, ?_⟩
 refine (aF (aI tT (fun (h0:List Int × Int × PUnit)=>(fun h1=>(aI (fun h2=>(Aa rfl (by exact TL0 h1 h2))) (fun h2=>(fun h3=>(aI (fun h4=>tT) (aI (fun h5=>(Aa rfl (by exact TL1 h1 h2 h5))) (fun h5=>(aI tT (aI (fun h6=>(Aa rfl (by exact TL2 h1 h2 h5 h6))) (fun h6=>(aA (aF (aA (aF (aE (aF (aI (by omega) (aI (by omega) (aF (fun h7=>(aI (fun h8=>(aF (fun h9=>?_))) (fun h8=>(aI (fun h10=>nG h10) (fun h10=>(aK (aD (aC (Aa rfl (by exact TL4 h1 h2 h5 h6 (r4f h8) (by assumption)))))))))))))))))))))))))))))))))
 have hin:∀ x∈hd++[n],inM x:=fun x hx=>by
  rcases List.mem_append.1 hx with h9 | h9
  ·exact hin0 x h9
  ·rw [List.mem_singleton.1 h9]
   exact Abk (Vp h6)
 have hdl:(hd++[n]).length≤1001:=by simp;omega
 refine ex4 _ (fun p:Nat × Int × Int=>⟨[.ptr 8 0,.any,.int .i64 p.2.1,.any,.any,.ptr 8 0,.ptr 8 0,.ptr 8 8,.ptr 8 8,.own 11,.int .i64 (↑(hd++[n]).length:Int),.int .i64 (p.1:Int)]++nA 27,[.cells   [.int .i64 4,.int .i64 z,.int .i64 (ExprT.mk ek eo em ev ea).kind,     .int .i64 (ExprT.mk ek eo em ev ea).op,.str (ExprT.mk ek eo em ev ea).name,     .int .i64 (ExprT.mk ek eo em ev ea).value,.sl .expr (ExprT.mk ek eo em ev ea).args,     .sl (.int .i64) l],.cells [.sl (.int .i64) hd,.int .i64 c,.bool en],.cells [.cap0,.int .i64 0,.bool false],.cells   [.int .i64 1,.int .i64 1,.int .i64 1,.int .i64 100,.int .i64 0,     .sl .str [],.fn (Fn.func 207) [] [],.fn (Fn.func 208) [] []],.cells   [.int .i64 4,.int .i64 z,.int .i64 (ExprT.mk ek eo em ev ea).kind,     .int .i64 (ExprT.mk ek eo em ev ea).op,.str (ExprT.mk ek eo em ev ea).name,     .int .i64 (ExprT.mk ek eo em ev ea).value,.sl .expr (ExprT.mk ek eo em ev ea).args,     .sl (.int .i64) l],.cells [.sl (.int .i64) hd,.int .i64 c,.bool en],.cells   [.int .i64 1,.int .i64 1,.int .i64 1,.int .i64 100,.int .i64 0,     .sl .str [],.fn (Fn.func 207) [] [],.fn (Fn.func 208) [] []],.cells [.cap0],.cells [.int .i64 4,.int .i64 z,.int .i64 ek,.int .i64 eo,.str em,.int .i64 ev,.sl .expr ea,.sl tI l,.own 11,.int .i64 c,.bool en,.csl tI 7 1,.int .i64 p.2.2,.int .i64 0],.dead,.rows tI [n],.rows tI (hd++[n])],12⟩) (fun p=>p.1≤(hd++[n]).length∧p.2=((hd++[n]).take p.1).foldl Ez (0,0)∧(-(1099511627776 * (p.1:Int))≤p.2.1∧p.2.1≤1099511627776 * (p.1:Int))) (fun p=>(hd++[n]).length - p.1) (aI (eI ((0,0,0)) (eI ([some 0,some 1,some 2,some 3,some 4,some 5,some 6,some 7,some 8,some 9,some 10,some 11]) (aI ?_ (aB (aI (aI (aA (by rfl)) (aI (aA (by rfl)) (aI (aA (by rfl)) (aI (aA (by rfl)) (aI (aA (by rfl)) (aI (aA (by rfl)) (aI (aA (by rfl)) (aI (aA (by rfl)) (aI (aA (by rfl)) (aB tT)))))))))) (by rfl)))))) ?_)
 ·exact ⟨Nat.zero_le _,rfl,by show -(1099511627776 * ((0:Nat):Int))≤0;decide,by show (0:Int)≤1099511627776 * ((0:Nat):Int);decide⟩
 rintro ⟨j,v,f⟩ ⟨hj,hp,hn⟩
 replace hj:j≤(hd++[n]).length:=hj
 replace hp:(v,f)=((hd++[n]).take j).foldl Ez (0,0):=hp
 replace hn:-(1099511627776 * (j:Int))≤v∧v≤1099511627776 * (j:Int):=hn
 have hx:-1099511627776≤(hd++[n]).getD j 0∧(hd++[n]).getD j 0≤1099511627776:=Zn hin j
 have hjl:j≤1001:=by omega
 have nr:inK .i64 (v+(hd++[n]).getD j 0):=by simp only [inK];omega
 have hb3:-(1099511627776 * ((j+1:Nat):Int))≤v+(hd++[n]).getD j 0∧v+(hd++[n]).getD j 0≤1099511627776 * ((j+1:Nat):Int):=by omega
 refine (aI (fun m0=>(aI (by (intros;(try subst_vars);(try simp only [nB] at *);(try simp only [inK,big,lim,nL] at *);omega)) (aI (nr) (aI tT (aI (fun m1=>(aI (by (intros;(try subst_vars);(try simp only [nB] at *);(try simp only [inK,big,lim,nL] at *);omega)) ?_)) (fun m1=>(aI (by (intros;(try subst_vars);(try simp only [nB] at *);(try simp only [inK,big,lim,nL] at *);omega)) ?_))))))) (fun m0=>(aF (aI (fun m2=>(aK (aE (aD (aB (aE (aD (aC (aA (aE (aB (aI (by (intros;(try subst_vars);(try simp only [nB] at *);(try simp only [inK,big,lim,nL] at *);omega)) (aE (aE (aC (aB (aI (fun m3=>(aK (aD (aD (Aa rfl (by exact (nbT m2 m3).elim)))))) (fun m3=>(aK (aD (aC (Aa rfl ?_)))))))))))))))))))))) (fun m2=>(aI (fun m4=>(aK (aD (aD (Aa rfl ?_))))) (fun m4=>(aK (aD (aC (Aa rfl (by exact (nbF m2 m4).elim))))))))))))
 ·have hj':j < (hd++[n]).length:=by have h:(j:Int) < ((hd++[n]).length:Int):=of_decide_eq_true m0;omega
  refine eI ((j+1,v+(hd++[n]).getD j 0,14)) (eI ([some 0,some 1,some 2,some 3,some 4,some 5,some 6,some 7,some 8,some 9,some 10,some 11]) (aI ?_ (aI ?_ (aB (aI (aI (aA (by rfl)) (aI (aA (by rfl)) (aI (aA (by rfl)) (aI (aA (by rfl)) (aI (aA (by rfl)) (aI (aA (by rfl)) (aI (aA (by rfl)) (aI (aA (by rfl)) (aI (aA (by rfl)) (aB tT)))))))))) (by rfl))))))
  ·refine ⟨hj', ?_,hb3⟩
   rw [Jd hj' hp]
   dsimp only [Ez]
   rw [if_pos (show (bif !Jx (v+(hd++[n]).getD j 0) then decide (f=0) else false)=true from m1)]
  ·show (hd++[n]).length - (j+1) < (hd++[n]).length - j
   omega
 ·have hj':j < (hd++[n]).length:=by have h:(j:Int) < ((hd++[n]).length:Int):=of_decide_eq_true m0;omega
  refine eI ((j+1,v+(hd++[n]).getD j 0,f)) (eI ([some 0,some 1,some 2,some 3,some 4,some 5,some 6,some 7,some 8,some 9,some 10,some 11]) (aI ?_ (aI ?_ (aB (aI (aI (aA (by rfl)) (aI (aA (by rfl)) (aI (aA (by rfl)) (aI (aA (by rfl)) (aI (aA (by rfl)) (aI (aA (by rfl)) (aI (aA (by rfl)) (aI (aA (by rfl)) (aI (aA (by rfl)) (aB tT)))))))))) (by rfl))))))
  ·refine ⟨hj', ?_,hb3⟩
   rw [Jd hj' hp]
   dsimp only [Ez]
   rw [if_neg (by rw [show (bif !Jx (v+(hd++[n]).getD j 0) then decide (f=0) else false)=false from m1];simp)]
  ·show (hd++[n]).length - (j+1) < (hd++[n]).length - j
   omega
 ·have hp2:(hd++[n]).foldl Ez (0,0)=(v,f):=by
   have h:¬ (j:Int) < ((hd++[n]).length:Int):=of_decide_eq_false m0
   rw [hp,List.take_of_length_le (by omega)]
  have h:decide (f=0)=true:=m2
  have hf:f=0:=of_decide_eq_true h
  subst hf
  exact TL4 h1 h2 h5 h6 (r4t h8 hp2) m3
 ·have hp2:(hd++[n]).foldl Ez (0,0)=(v,f):=by
   have h:¬ (j:Int) < ((hd++[n]).length:Int):=of_decide_eq_false m0
   rw [hp,List.take_of_length_le (by omega)]
  have h:decide (f=0)=false:=m2
  exact TL3 h1 h2 h5 h6 (by rw [r4t h8 hp2]) (by rw [h];rfl)
set_option maxHeartbeats 8000000 in
theorem Agr:Ir 5:=by
 intro z e l hd c en i n hc hv
 have hs:=A1 hc
 have hb:=Bi hv
 obtain ⟨ek,eo,em,ev,ea⟩:=e
 refine ⟨_,Eh, ?_⟩
 refine (aF (aI tT (fun (h0:List Int × Int × PUnit)=>(fun h1=>(aI (fun h2=>(Aa rfl (by exact TL0 h1 h2))) (fun h2=>(fun h3=>(aI (fun h4=>tT) (aI (fun h5=>(Aa rfl (by exact TL1 h1 h2 h5))) (fun h5=>(aI tT (aI (fun h6=>(Aa rfl (by exact TL2 h1 h2 h5 h6))) (fun h6=>(aA (aF (aA (aF (aE (aF ?_)))))))))))))))))))
 refine ex4 _ (fun q:Nat=>⟨[.ptr 8 0,.any,.int .i64 n,.any,.any,.any,.any,.any,.ptr 8 0,.any,.int .i64 z,.int .i64 (q:Int),.any,.any,.any,.any,.any],[.cells   [.int .i64 5,.int .i64 z,.int .i64 (ExprT.mk ek eo em ev ea).kind,     .int .i64 (ExprT.mk ek eo em ev ea).op,.str (ExprT.mk ek eo em ev ea).name,     .int .i64 (ExprT.mk ek eo em ev ea).value,.sl .expr (ExprT.mk ek eo em ev ea).args,     .sl (.int .i64) l],.cells [.sl (.int .i64) hd,.int .i64 c,.bool en],.cells [.cap0,.int .i64 0,.bool false],.cells   [.int .i64 1,.int .i64 1,.int .i64 0,.int .i64 100,.int .i64 0,     .sl .str [],.fn (Fn.func 210) [] [],.fn (Fn.func 203) [] []],.cells   [.int .i64 5,.int .i64 z,.int .i64 (ExprT.mk ek eo em ev ea).kind,     .int .i64 (ExprT.mk ek eo em ev ea).op,.str (ExprT.mk ek eo em ev ea).name,     .int .i64 (ExprT.mk ek eo em ev ea).value,.sl .expr (ExprT.mk ek eo em ev ea).args,     .sl (.int .i64) l],.cells [.sl (.int .i64) hd,.int .i64 c,.bool en],.cells   [.int .i64 1,.int .i64 1,.int .i64 0,.int .i64 100,.int .i64 0,     .sl .str [],.fn (Fn.func 210) [] [],.fn (Fn.func 203) [] []],.cells [.own 9],.cells   [.int .i64 5,.int .i64 z,.int .i64 (ExprT.mk ek eo em ev ea).kind,     .int .i64 (ExprT.mk ek eo em ev ea).op,.str (ExprT.mk ek eo em ev ea).name,     .int .i64 (ExprT.mk ek eo em ev ea).value,.sl .expr (ExprT.mk ek eo em ev ea).args,     .sl (.int .i64) l,.sl (.int .i64) hd,.int .i64 c,.bool en,     .csl tI 7 (Int.toNat 1),.int .i64 0,.int .i64 0],.rows tI (List.replicate q n)],10⟩) (fun q=>(q:Int)≤z) (fun q=>z.toNat - q) (aI (eI (0) (eI ([some 0,some 1,some 2,some 3,some 4,some 5,some 6,some 7,some 8,none]) (aI ?_ (aB (aI (aI (aA (by rfl)) (aI (aA (by rfl)) (aI (aA (by rfl)) (aI (aA (by rfl)) (aI (aA (by rfl)) (aI (aA (by rfl)) (aI (aA (by rfl)) (aI (aA (by rfl)) (aI (aA (by rfl)) (aA tT)))))))))) (by rfl)))))) ?_)
 ·exact hs.1
 rintro q hq
 have hz2:z≤200:=hs.2.1
 have room:((List.replicate q n).length+1) * 8≤lim:=by simp only [lim,List.length_replicate];omega
 refine (aI (fun w0=>(aF (aI (fun w1=>(aK (aE (aD (aB (aE (aD (aC (aA (aE (aB (aI (by omega) (aE (aE (aC (aB (aI (by (intros;(try subst_vars);(try simp only [nB] at *);(try simp only [inK,big,lim,nL] at *);omega)) ?_))))))))))))))))) (fun w1=>False.elim (Bool.false_ne_true (Eq.symm (Eq.trans (by kernel_rfl) w1))))))) (fun w0=>(aI (fun w2=>nG w2) (fun w2=>(aK (aD (aC (Aa rfl ?_))))))))
 ·have hq':(q:Int) < z:=of_decide_eq_true w0
  refine eI (q+1) (eI ([some 0,some 1,some 2,some 3,some 4,some 5,some 6,some 7,some 8,some 11]) (aI ?_ (aI ?_ (aB (aI (aI (aA (by rfl)) (aI (aA (by rfl)) (aI (aA (by rfl)) (aI (aA (by rfl)) (aI (aA (by rfl)) (aI (aA (by rfl)) (aI (aA (by rfl)) (aI (aA (by rfl)) (aI (aA (by rfl)) (aI ?_ tT)))))))))) (by rfl))))))
  ·show ((q+1:Nat):Int)≤z
   omega
  ·show z.toNat - (q+1) < z.toNat - q
   omega
  ·show Ob.rows tI _=Ob.rows tI (List.replicate (q+1) n)
   rw [List.replicate_succ']
 ·have hq':q=z.toNat:=by have h:¬ (q:Int) < z:=of_decide_eq_false w0;omega
  subst hq'
  exact TL4 h1 h2 h5 h6 rfl rfl
set_option maxHeartbeats 8000000 in
theorem Ags:Ir 6:=by
 intro z e l hd c en i n hc hv
 have hs:=A1 hc
 have hb:=Bi hv
 obtain ⟨ek,eo,em,ev,ea⟩:=e
 refine ⟨_,Eh, ?_⟩
 refine (aF (aI tT (fun (h0:List Int × Int × PUnit)=>(fun h1=>(aI (fun h2=>(Aa rfl (by exact TL0 h1 h2))) (fun h2=>(fun h3=>(aI (fun h4=>tT) (aI (fun h5=>(Aa rfl (by exact TL1 h1 h2 h5))) (fun h5=>(aI tT (aI (fun h6=>(Aa rfl (by exact TL2 h1 h2 h5 h6))) (fun h6=>(aA (aF (aA (aF (aE (aF (aF (aI (fun h7=>(aI ?_ (aF (aI (fun h8=>(aK (aE (aD (aB (aE (aD (aC (aA (aE (aB (aI ?_ (aE (aE (aC (aB (aI (fun h9=>nG h9) (fun h9=>(aK (aD (aC (Aa rfl (by exact TL4 h1 h2 h5 h6 (r6t h7) (by assumption)))))))))))))))))))))))) (fun h8=>False.elim (Bool.false_ne_true (Eq.symm (Eq.trans (by kernel_rfl) h8)))))))) (fun h7=>(aI (fun h10=>nG h10) (fun h10=>(aK (aD (aC (Aa rfl (by exact TL4 h1 h2 h5 h6 (r6f (by assumption)) (by assumption))))))))))))))))))))))))))))))
 any_goals (intros;(try subst_vars);(try simp only [nB] at *);(try simp only [inK,big,lim,nL] at *);omega)
set_option maxHeartbeats 8000000 in
theorem Agt:Ir 7:=by
 intro z e l hd c en i n hc hv
 have hs:=A1 hc
 have hb:=Bi hv
 have hty:Bb e (Bv nmX [0,0])=(2,0):=Xz hc (by show (2:Int)≠0;decide)
 have hvv:=evB hty n 0
 have wr:∀ w:Int,w=(evX e nmX n 0).1→-9223372036854775808≤1 - w∧1 - w≤9223372036854775807:=fun w h=>by omega
 have wi:∀ w:Int,w=(evX e nmX n 0).1→0≤1 - w∧1 - w < ((2:Nat):Int):=fun w h=>by omega
 obtain ⟨ek,eo,em,ev,ea⟩:=e
 refine ⟨_,Zq, ?_⟩
 refine (aF (aI tT (fun (h0:List Int × Int × PUnit)=>(fun h1=>(aI (fun h2=>(Aa rfl (by exact TL0 h1 h2))) (fun h2=>(fun h3=>(aI (fun h4=>tT) (aI (fun h5=>(Aa rfl (by exact TL1 h1 h2 h5))) (fun h5=>(aI tT (aI (fun h6=>(Aa rfl (by exact TL2 h1 h2 h5 h6))) (fun h6=>(aA (aF (aA (aF (aE (aF (aF (aA (aF (aI (by (intros;(try subst_vars);(try simp only [nB] at *);(try simp only [inK,big,lim,nL] at *);omega)) (aI tT (aI (fun h7=>(fun h8=>(fun h9=>(aI (wr h8 h9) (aF (aI (fun h10=>(aK (aI (wi h8 h9) ?_))) (fun h10=>(aI (fun h11=>(aK (aD (aD (Aa rfl (by exact TL3 h1 h2 h5 h6 rfl (by assumption))))))) (fun h11=>(aK (aD (aC (Aa rfl (by exact (nbF h10 h11).elim)))))))))))))) (fun h7=>False.elim (Bool.false_ne_true (Eq.symm (Eq.trans (by kernel_rfl) h7)))))))))))))))))))))))))))))
 ·rcases hvv with hv1 | hv1
  ·have hm:h8=0:=h9.trans hv1
   subst hm
   have hr:=r7f (z:=z) (l:=l) (s:=(hd,c,en)) (i:=i) (show decide ((evX (ExprT.mk ek eo em ev ea) nmX n 0).1=1)=false by rw [hv1];rfl)
   refine (aD (aB (aE (aD (aC (aA (aE (aB (aO (aE (aE (aC (aB (aI (fun w0=>(aK (aD (aD (Aa rfl (by exact TL3 h1 h2 h5 h6 rfl w0)))))) (fun w0=>(aK (aD (aC (Aa rfl (by exact TL4 h1 h2 h5 h6 hr w0))))))))))))))))))))
  ·have hm:h8=1:=h9.trans hv1
   subst hm
   have hr:=r7t (z:=z) (l:=l) (s:=(hd,c,en)) (i:=i) (show decide ((evX (ExprT.mk ek eo em ev ea) nmX n 0).1=1)=true by rw [hv1];rfl)
   refine (aD (aB (aE (aD (aC (aA (aE (aB (aO (aE (aE (aC (aB (aI (fun w0=>(aK (aD (aD (Aa rfl (by exact TL3 h1 h2 h5 h6 rfl w0)))))) (fun w0=>(aK (aD (aC (Aa rfl (by exact TL4 h1 h2 h5 h6 hr w0))))))))))))))))))))
set_option maxHeartbeats 8000000 in
theorem Agu:Ir 8:=by
 intro z e l hd c en i n hc hv
 have hs:=A1 hc
 have hb:=Bi hv
 have hc1:c≤1:=hb.2.1
 have hc0:0≤c:=hb.1
 have nr:∀ {y:G7 Zj},y=((Ar (8,z,e,l) (hd,c,en)).1,(Ar (8,z,e,l) (hd,c,en)).2,())→tk1 (8,z,e,l) (hd,c,en) y.1 i=false→-9223372036854775808≤1 - i∧1 - i≤9223372036854775807:=fun h h'=>by
  subst h
  have he:en=false:=Sa h'
  subst he
  have:=Ano hc hv h'
  omega
 obtain ⟨ek,eo,em,ev,ea⟩:=e
 refine ⟨_,Eh, ?_⟩
 refine (aF (aI tT (fun (h0:List Int × Int × PUnit)=>(fun h1=>(aI (fun h2=>(Aa rfl (by exact TL0 h1 h2))) (fun h2=>(fun h3=>(aI (fun h4=>tT) (aI (fun h5=>(Aa rfl (by exact TL1 h1 h2 h5))) (fun h5=>(aI tT (aI (fun h6=>(Aa rfl (by exact TL2 h1 h2 h5 h6))) (fun h6=>(aA (aF (aA (aF (aE (aF (aF (aF (aI (fun h7=>(aK (aE (aD (aB (aE (aD (aC (aA (aE (aB (aI (by (intros;(try subst_vars);(try simp only [nB] at *);(try simp only [inK,big,lim,nL] at *);omega)) (aE (aE (aC (aB (aI (nr h1 h5) (aI (fun h8=>nG h8) (fun h8=>(aK (aD (aC (Aa rfl (by exact TL4 h1 h2 h5 h6 rfl (by assumption))))))))))))))))))))))))) (fun h7=>False.elim (Bool.false_ne_true (Eq.symm (Eq.trans (by kernel_rfl) h7))))))))))))))))))))))))))
set_option maxHeartbeats 8000000 in
theorem Agv:Ir 9:=by
 intro z e l hd c en i n hc hv
 have hs:=A1 hc
 have hb:=Bi hv
 obtain ⟨ek,eo,em,ev,ea⟩:=e
 refine ⟨_,Eh, ?_⟩
 refine (aF (aI tT (fun (h0:List Int × Int × PUnit)=>(fun h1=>(aI (fun h2=>(Aa rfl (by exact TL0 h1 h2))) (fun h2=>(fun h3=>(aI (fun h4=>tT) (aI (fun h5=>(Aa rfl (by exact TL1 h1 h2 h5))) (fun h5=>(aI tT (aI (fun h6=>(Aa rfl (by exact TL2 h1 h2 h5 h6))) (fun h6=>(aA (aF (aA (aF (aE (aF (aI (fun h7=>(aI (fun h8=>(aI (fun h9=>nG h9) (fun h9=>(aK (aD (aC (Aa rfl (by exact TL4 h1 h2 h5 h6 (r9a h7 h8) h9)))))))) (fun h8=>(aI (fun h10=>nG h10) (fun h10=>(aK (aD (aC (Aa rfl (by exact TL4 h1 h2 h5 h6 (r9b h7 h8) h10)))))))))) (fun h7=>(fun h11=>(aI (fun h12=>(aI ?_ (aF (aA (aF (aI ?_ (aI tT (aI (fun h13=>(aF (aI (fun h14=>(aK (aE (aD (aB (aE (aD (aC (aA (aE (aB (aI ?_ (aE (aE (aC (aB (aI (fun h15=>(aK (aD (aD (Aa rfl (by exact (nbT h14 h15).elim)))))) (fun h15=>(aK (aD (aC (Aa rfl (by exact TL4 h1 h2 h5 h6 (r9c h7 h12) (by assumption)))))))))))))))))))))))) (fun h14=>(aI (fun h16=>(aK (aD (aD (Aa rfl (by exact TL3 h1 h2 h5 h6 (by rw [r9c h7 h12];rfl) (by assumption))))))) (fun h16=>(aK (aD (aC (Aa rfl (by exact (nbF h14 h16).elim))))))))))) (fun h13=>False.elim (Bool.false_ne_true (Eq.symm (Eq.trans (by kernel_rfl) h13)))))))))))) (fun h12=>(aI (fun h17=>nG h17) (fun h17=>(aK (aD (aC (Aa rfl (by exact TL4 h1 h2 h5 h6 (r9d h7 h12) (by assumption))))))))))))))))))))))))))))))))
 any_goals (intros;(try subst_vars);(try simp only [nB] at *);(try simp only [inK,big,lim,nL] at *);omega)
set_option maxHeartbeats 8000000 in
theorem Adj:Ir 10:=by
 intro z e l hd c en i n hc hv
 have hs:=A1 hc
 have hb:=Bi hv
 obtain ⟨ek,eo,em,ev,ea⟩:=e
 refine ⟨_,Eh, ?_⟩
 refine (aF (aI tT (fun (h0:List Int × Int × PUnit)=>(fun h1=>(aI (fun h2=>(Aa rfl (by exact TL0 h1 h2))) (fun h2=>(fun h3=>(aI (fun h4=>tT) (aI (fun h5=>(Aa rfl (by exact TL1 h1 h2 h5))) (fun h5=>(aI tT (aI (fun h6=>(Aa rfl (by exact TL2 h1 h2 h5 h6))) (fun h6=>(aA (aF (aA (aF (aE (aF (aI (fun h7=>nG h7) (fun h7=>(aK (aD (aC (Aa rfl (by exact TL4 h1 h2 h5 h6 rfl (by assumption)))))))))))))))))))))))))))
end Go.Proofs.YtckpldpombdkgaaGreat
