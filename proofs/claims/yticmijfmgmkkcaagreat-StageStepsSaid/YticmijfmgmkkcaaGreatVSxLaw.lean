import Derived.Test.YticmijfmgmkkcaaGreatVSxMix
import Derived.ProofKit
import Derived.OpenShut
set_option linter.unusedSimpArgs false
set_option linter.unusedVariables false
set_option maxRecDepth 100000
namespace Go.Sx
open Go.RowKit Go.ChangeShapes Go.WideShapes Go.ChangeAt
def allOld (w:World):Nat→Nat→Prop:=fun b _=>b < w.heap.size
theorem flat_inv (t:Ty):∀ (xs:List t.den) (j:Nat) (p:PV),(flat t xs)[j]?=some p→∃ i r y,xs[i]?=some y∧r < t.size∧j=i * t.size+r∧(enc t y)[r]?=some p
 | [],j,p,h=>by simp [flat] at h
 | x :: xs,j,p,h=>by
  have he:flat t (x :: xs)=enc t x++flat t xs:=rfl
  rw [he,List.getElem?_append,enc_length] at h
  split at h
  ·rename_i hlt
   exact ⟨0,j,x,rfl,hlt,by simp,h⟩
  ·rename_i hge
   obtain ⟨i,r,y,h1,h2,h3,h4⟩:=flat_inv t xs _ p h
   exact ⟨i+1,r,y,by simpa using h1,h2,by rw [Nat.succ_mul];omega,h4⟩
def Ty.fine:(t:Ty)→t.den→Prop
 | .int k,n=>inK k n
 | .bool,_=>True
 | .str,s=>s.size≤maxLen
 | .pair a b,p=>Ty.fine a p.1∧Ty.fine b p.2
 | .sl t,l=>l.length≤big∧∀ x∈l,Ty.fine t x
 | .expr,_=>True
 | .fn,_=>True
theorem wf_inK {k:IntKind} {n:Int} (h:(Lit.int k n).wf=true):inK k n:=by
 cases k <;> (simp only [Lit.wf,Bool.and_eq_true,decide_eq_true_eq] at h;exact h)
def ElemOk (P:Program) (e:TypeId) (ty:Ty):Prop :=
 ∀ (H:Type) (en:TypeId × Value→H) (W:World) (fuel:Nat) (cs:List Value) (x:DataW H × List MemPlace),DataW.trod en P W 0 (fun _=>true) true fuel e cs=some x →
  ∃ y:ty.den,Ty.fine ty y∧cs.length=ty.size∧∀ (j:Nat) (p:PV),(enc ty y)[j]?=some p→∃ v,cs[j]?=some v∧RdP W (allOld W) v p
def ElemAt (P:Program) (e:TypeId) (ty:Ty) (fuel:Nat):Prop :=
 ∀ (H:Type) (en:TypeId × Value→H) (W:World) (cs:List Value) (x:DataW H × List MemPlace),DataW.trod en P W 0 (fun _=>true) true fuel e cs=some x →
  ∃ y:ty.den,Ty.fine ty y∧cs.length=ty.size∧∀ (j:Nat) (p:PV),(enc ty y)[j]?=some p→∃ v,cs[j]?=some v∧RdP W (allOld W) v p
theorem ElemOk.at {P:Program} {e:TypeId} {ty:Ty} (h:ElemOk P e ty) (m:Nat):ElemAt P e ty m:=fun H en W cs x hx=>h H en W m cs x hx
section
variable {P:Program} {e:TypeId} {ty:Ty}
theorem elem_int {k:IntKind} (he:P.underlying e=some (.int k)):ElemOk P e (.int k):=by
 intro H en W fuel cs x h
 obtain ⟨n,rfl,_,hw⟩:=DataW.trod_int he h
 refine ⟨n,wf_inK hw,rfl,fun j p hp=>?_⟩
 cases j with
 | zero =>
  have:PV.int k n=p:=by simpa [enc] using hp
  subst this
  exact ⟨_,rfl,.int _ _⟩
 | succ j=>simp [enc] at hp
theorem elem_bool (he:P.underlying e=some .bool):ElemOk P e .bool:=by
 intro H en W fuel cs x h
 obtain ⟨n,rfl,_⟩:=DataW.trod_bool he h
 refine ⟨n,trivial,rfl,fun j p hp=>?_⟩
 cases j with
 | zero =>
  have:PV.bool n=p:=by simpa [enc] using hp
  subst this
  exact ⟨_,rfl,.bool _⟩
 | succ j=>simp [enc] at hp
theorem elem_str (he:P.underlying e=some .string):ElemOk P e .str:=by
 intro H en W fuel cs x h
 obtain ⟨n,rfl,_,hw⟩:=DataW.trod_string he h
 refine ⟨n,hw,rfl,fun j p hp=>?_⟩
 cases j with
 | zero =>
  have:PV.str n=p:=by simpa [enc] using hp
  subst this
  exact ⟨_,rfl,.str _⟩
 | succ j=>simp [enc] at hp
theorem slice_rd {t:TypeId} {H:Type} {en:TypeId × Value→H} {W:World} {fuel:Nat} {cs:List Value} {x:DataW H × List MemPlace} (ht:P.underlying t=some (.slice e)) (hc:P.cellsOf e=ty.size) (he:∀ m,m < fuel→ElemAt P e ty m)
 (h:DataW.trod en P W 0 (fun _=>true) true fuel t cs=some x):∃ v xs,cs=[v]∧RdP W (allOld W) v (.sl ty xs)∧xs.length≤big∧∀ y∈xs,Ty.fine ty y:=by
 rcases DataW.trod_slice ht h with ⟨rfl,_⟩ | ⟨a,len,cap,elems,rest,n,hfu,rfl,_,hb,hl,hm,hlen,hel,_,_⟩
 ·exact ⟨_,[],rfl,.sl0 _ _ _,Nat.zero_le _,by simp⟩
 ·have each:∀ i,i < len→∃ (y:ty.den) (cs':List Value),Ty.fine ty y∧W.cells? 0 (a.add (i * ty.size)) ty.size=some cs'∧∀ (j:Nat) (p:PV),(enc ty y)[j]?=some p→∃ v,cs'[j]?=some v∧RdP W (allOld W) v p:=by
   intro i hi
   have:=hel i hi
   rw [hc,List.getElem?_eq_getElem (by omega)] at this
   cases hcs:W.cells? 0 (a.add (i * ty.size)) ty.size with
   | none=>rw [hcs] at this;simp at this
   | some cs' =>
    rw [hcs] at this
    obtain ⟨y,hfi,_,hy⟩:=he n (by omega) H en W cs' _ this
    exact ⟨y,cs',hfi,rfl,hy⟩
  rcases Nat.eq_zero_or_pos len with h0 | hpos
  ·subst h0
   exact ⟨_,[],rfl,.sl0 _ _ _,Nat.zero_le _,by simp⟩
  ·let f:Nat→ty.den:=fun i=>if hi:i < len then (each i hi).choose else dflt ty
   have hf:∀ i (hi:i < len),∃ cs',Ty.fine ty (f i)∧W.cells? 0 (a.add (i * ty.size)) ty.size=some cs'∧∀ (j:Nat) (p:PV),(enc ty (f i))[j]?=some p→∃ v,cs'[j]?=some v∧RdP W (allOld W) v p:=fun i hi=>by
    simp only [f,dif_pos hi];exact (each i hi).choose_spec
   have cell:∀ i (hi:i < len) r p,(enc ty (f i))[r]?=some p→∃ v,W.cell? ((a.add (i * ty.size)).add r)=some v∧RdP W (allOld W) v p:=by
    intro i hi r p hp
    obtain ⟨cs',_,h1,h2⟩:=hf i hi
    obtain ⟨v,hv,hr⟩:=h2 r p hp
    refine ⟨v, ?_,hr⟩
    have hrlt:r < ty.size:=by rw [← enc_length ty (f i)];exact (List.getElem?_eq_some_iff.1 hp).1
    simp only [World.cells?,Nat.zero_le,if_true] at h1
    have:=mapM_some_get h1 r r (by simp [hrlt])
    rw [this];exact hv
   obtain ⟨b,o,sp⟩:=a
   have hsp:sp=none:=by
    have hne:∃ p,(enc ty (f 0))[0]?=some p:=⟨_,List.getElem?_eq_getElem (by rw [enc_length];exact size_pos ty)⟩
    obtain ⟨p,hp⟩:=hne
    obtain ⟨v,hv,_⟩:=cell 0 hpos 0 p hp
    cases hs:sp with
    | none=>rfl
    | some q =>
     subst hs
     exfalso
     have:((({ block:=b,off:=o,spot:=some q }:Addr).add (0 * ty.size)).add 0)=⟨b,o,some q⟩:=by simp [Addr.add]
     rw [this] at hv
     simp only [World.cell?] at hv
     split at hv <;> simp at hv
   subst hsp
   let xs:=(List.range len).map f
   have hxl:xs.length=len:=by simp [xs]
   have get:∀ j p,(flat ty xs)[j]?=some p→∃ v,W.cell? ⟨b,o+j,none⟩=some v∧RdP W (allOld W) v p:=by
    intro j p hp
    obtain ⟨i,r,y,h1,h2,h3,h4⟩:=flat_inv ty xs j p hp
    have hi:i < len:=by rw [← hxl];exact (List.getElem?_eq_some_iff.1 h1).1
    have hy:y=f i:=by
     simp only [xs,List.getElem?_map,List.getElem?_range hi,Option.map_some,Option.some.injEq] at h1
     exact h1.symm
    subst hy
    obtain ⟨v,hv,hr⟩:=cell i hi r p h4
    rw [addr_add,addr_add] at hv
    exact ⟨v,by rw [h3,← Nat.add_assoc];exact hv,hr⟩
   refine ⟨_,xs,rfl,.sl b o len cap ty xs (fun j=>(W.cell? ⟨b,o+j,none⟩).getD undef) hxl.symm hl (Nat.le_trans hl (Nat.le_trans hm (by decide))) (fun j hj=>?_) (fun j p hp=>?_),by rw [hxl];exact Nat.le_trans hl (Nat.le_trans hm (by decide)),fun y hy=>?_⟩
   ·obtain ⟨v,hv,_⟩:=get j _ (List.getElem?_eq_getElem hj)
    refine ⟨?_,by rw [hv];rfl⟩
    show b < W.heap.size
    rcases Nat.lt_or_ge b W.heap.size with h | h
    ·exact h
    ·exfalso
     have:W.cell? ⟨b,o+j,none⟩=none:=by simp [World.cell?,Array.getElem?_eq_none h]
     rw [this] at hv
     cases hv
   ·obtain ⟨v,hv,hr⟩:=get j p hp
    rw [hv];exact hr
   ·obtain ⟨i,hi,rfl⟩:=List.mem_map.1 hy
    obtain ⟨_,h,_⟩:=hf i (List.mem_range.1 hi)
    exact h
theorem elem_sl {t:TypeId} (ht:P.underlying t=some (.slice e)) (hc:P.cellsOf e=ty.size) (he:ElemOk P e ty):ElemOk P t (.sl ty):=by
 intro H en W fuel cs x h
 obtain ⟨v,xs,rfl,h1,h2,h3⟩:=slice_rd ht hc (fun m _=>he.at m) h
 refine ⟨xs,⟨h2,h3⟩,rfl,fun j p hp=>?_⟩
 cases j with
 | zero =>
  have:PV.sl ty xs=p:=by simpa [enc] using hp
  subst this
  exact ⟨_,rfl,h1⟩
 | succ j=>simp [enc] at hp
def FieldsOk (P:Program) (fs:List Field) (off:Nat) (ty:Ty):Prop :=
 ∀ (H:Type) (en:TypeId × Value→H) (W:World) (n:Nat) (cs:List Value) (xs:List (DataW H × List MemPlace)) (i0:Nat),(∀ (i:Nat) (f:Field),fs[i]?=some f →
     DataW.trod en P W 0 (fun _=>true) true n f.type ((cs.drop f.offset).take (P.cellsOf f.type))=xs[i0+i]?)→i0+fs.length=xs.length →
  ∃ y:ty.den,Ty.fine ty y∧∀ (j:Nat) (p:PV),(enc ty y)[j]?=some p→∃ v,cs[off+j]?=some v∧RdP W (allOld W) v p
theorem fields_one {f:Field} {off:Nat} (ho:f.offset=off) (he:ElemOk P f.type ty):FieldsOk P [f] off ty:=by
 intro H en W n cs xs i0 h hl
 have h0:=h 0 f rfl
 simp only [List.length_cons,List.length_nil] at hl
 rw [List.getElem?_eq_getElem (by omega)] at h0
 obtain ⟨y,h1,h2,h3⟩:=he H en W n _ _ h0
 refine ⟨y,h1,fun j p hp=>?_⟩
 obtain ⟨v,hv,hr⟩:=h3 j p hp
 refine ⟨v, ?_,hr⟩
 rw [List.getElem?_take] at hv
 split at hv
 ·rwa [List.getElem?_drop,ho] at hv
 ·cases hv
theorem fields_cons {f:Field} {fs:List Field} {off:Nat} {a b:Ty} (ho:f.offset=off) (he:ElemOk P f.type a) (hf:FieldsOk P fs (off+a.size) b):FieldsOk P (f :: fs) off (.pair a b):=by
 intro H en W n cs xs i0 h hl
 have h0:=h 0 f rfl
 simp only [List.length_cons] at hl
 rw [List.getElem?_eq_getElem (by omega)] at h0
 obtain ⟨y,h1,h2,h3⟩:=he H en W n _ _ h0
 obtain ⟨z,h4,h5⟩:=hf H en W n cs xs (i0+1) (fun i g hg=>by rw [h (i+1) g (by simpa using hg)];congr 1;omega) (by omega)
 refine ⟨(y,z),⟨h1,h4⟩,fun j p hp=>?_⟩
 simp only [enc,List.getElem?_append,enc_length] at hp
 split at hp
 ·obtain ⟨v,hv,hr⟩:=h3 j p hp
  refine ⟨v, ?_,hr⟩
  rw [List.getElem?_take] at hv
  split at hv
  ·rwa [List.getElem?_drop,ho] at hv
  ·cases hv
 ·obtain ⟨v,hv,hr⟩:=h5 _ p hp
  refine ⟨v, ?_,hr⟩
  rw [← hv];congr 1;omega
theorem elem_struct {fs:Array Field} {t:TypeId} (ht:P.underlying t=some (.struct fs)) (hc:P.cellsOf t=ty.size) (hf:FieldsOk P fs.toList 0 ty):ElemOk P t ty:=by
 intro H en W fuel cs x h
 obtain ⟨xs,n,_,_,hl,hx,hg⟩:=DataW.trod_struct ht h
 obtain ⟨y,h1,h2⟩:=hf H en W n cs xs 0 (fun i f h'=>by rw [Nat.zero_add];exact hg i f (by simpa using h')) (by rw [Nat.zero_add,hx];simp)
 exact ⟨y,h1,hl.trans hc,fun j p hp=>by simpa using h2 j p hp⟩
theorem elem_two {t:TypeId} (ht:P.underlying t=some (.array 2 e)) (hc:P.cellsOf e=ty.size) (hl:P.cellsOf t=ty.size+ty.size) (he:ElemOk P e ty):ElemOk P t (.pair ty ty):=by
 intro H en W fuel cs x h
 obtain ⟨xs,m,_,_,h1,h2,h3⟩:=DataW.trod_array ht h
 have g0:=h3 0 (by decide)
 have g1:=h3 1 (by decide)
 rw [List.getElem?_eq_getElem (by omega)] at g0 g1
 obtain ⟨y,a1,a2,a3⟩:=he H en W m _ _ g0
 obtain ⟨z,b1,b2,b3⟩:=he H en W m _ _ g1
 refine ⟨(y,z),⟨a1,b1⟩,h1.trans hl,fun j p hp=>?_⟩
 simp only [enc,List.getElem?_append,enc_length] at hp
 split at hp
 ·obtain ⟨v,hv,hr⟩:=a3 j p hp
  refine ⟨v, ?_,hr⟩
  rw [List.getElem?_take] at hv
  split at hv
  ·rw [List.getElem?_drop] at hv
   rw [← hv];congr 1;omega
  ·cases hv
 ·obtain ⟨v,hv,hr⟩:=b3 _ p hp
  refine ⟨v, ?_,hr⟩
  rw [List.getElem?_take] at hv
  split at hv
  ·rw [List.getElem?_drop] at hv
   rw [← hv];congr 1;rw [hc];omega
  ·cases hv
theorem field_1 {f:Field} {o m:Nat} {ft:Ty} (h1:ft.size=1) (ho:f.offset=o) (he:ElemAt P f.type ft m) {H:Type} {en:TypeId × Value→H} {W:World} {cs:List Value} {x:DataW H × List MemPlace}
 (h:DataW.trod en P W 0 (fun _=>true) true m f.type ((cs.drop f.offset).take (P.cellsOf f.type))=some x):∃ (y:ft.den) (v:Value) (p:PV),Ty.fine ft y∧enc ft y=[p]∧cs[o]?=some v∧RdP W (allOld W) v p:=by
 obtain ⟨y,a1,a2,a3⟩:=he H en W _ _ h
 have hl:=enc_length ft y
 rw [h1] at hl
 match he':enc ft y,hl with
 | [p],_ =>
 obtain ⟨v,hv,hr⟩:=a3 0 p (by rw [he'];rfl)
 refine ⟨y,v,p,a1,he', ?_,hr⟩
 rw [List.getElem?_take] at hv
 split at hv
 ·rw [List.getElem?_drop,ho,Nat.add_zero] at hv
  exact hv
 ·cases hv
def exprB (P:Program) (t:TypeId) (fs:Array Field):Bool:=match fs.toList with
 | [a,b,c,d,e]=>Nat.beq (P.cellsOf t) 5 && ((Nat.beq a.offset 0 && Nat.beq b.offset 1 && Nat.beq c.offset 2 && Nat.beq d.offset 3 && Nat.beq e.offset 4) &&
  ((match P.underlying a.type with | some (.int .i64)=>true | _=>false) && ((match P.underlying b.type with | some (.int .i64)=>true | _=>false) && ((match P.underlying c.type with | some .string=>true | _=>false) &&
    ((match P.underlying d.type with | some (.int .i64)=>true | _=>false) && (match P.underlying e.type with | some (.slice u)=>Nat.beq u t | _=>false))))))
 | _=>false
theorem isI_ok {t:TypeId} (h:(match P.underlying t with | some (.int .i64)=>true | _=>false)=true):P.underlying t=some (.int .i64):=by
 split at h
 ·assumption
 ·cases h
theorem elem_expr {t:TypeId} {fs:Array Field} (ht:P.underlying t=some (.struct fs)) (hb:exprB P t fs=true):ElemOk P t .expr:=by
 have main:∀ m,ElemAt P t .expr m:=by
  intro m
  induction m using Nat.strongRecOn with
  | ind m ih =>
  intro H en W cs x h
  obtain ⟨xs,n,hn,_,hl,hx,hg⟩:=DataW.trod_struct ht h
  unfold exprB at hb
  split at hb
  ·rename_i a b c d e hfs
   simp only [Bool.and_eq_true] at hb
   obtain ⟨hc5',⟨⟨⟨⟨oa,ob⟩,oc⟩,od⟩,oe⟩,ta,tb,tc,td,te⟩:=hb
   have hc5:=Nat.eq_of_beq_eq_true hc5'
   have hs:fs.size=5:=by rw [← Array.length_toList,hfs];rfl
   have get:∀ (i:Nat) (f:Field),fs.toList[i]?=some f→∃ y,DataW.trod en P W 0 (fun _=>true) true n f.type ((cs.drop f.offset).take (P.cellsOf f.type))=some y:=fun i f hf=>by
    have hi:i < 5:=by rw [hfs] at hf;exact (List.getElem?_eq_some_iff.1 hf).1
    have h0:=hg i f (by simpa using hf)
    rw [List.getElem?_eq_getElem (by omega)] at h0
    exact ⟨_,h0⟩
   obtain ⟨_,ga⟩:=get 0 a (by rw [hfs];rfl)
   obtain ⟨_,gb⟩:=get 1 b (by rw [hfs];rfl)
   obtain ⟨_,gc⟩:=get 2 c (by rw [hfs];rfl)
   obtain ⟨_,gd⟩:=get 3 d (by rw [hfs];rfl)
   obtain ⟨_,ge⟩:=get 4 e (by rw [hfs];rfl)
   obtain ⟨ya,va,pa,_,ea,ca,ra⟩:=field_1 (ft:=.int .i64) rfl (Nat.eq_of_beq_eq_true oa) ((elem_int (isI_ok ta)).at n) ga
   obtain ⟨yb,vb,pb,_,eb,cb,rb⟩:=field_1 (ft:=.int .i64) rfl (Nat.eq_of_beq_eq_true ob) ((elem_int (isI_ok tb)).at n) gb
   have tc':P.underlying c.type=some .string:=by
    split at tc
    ·assumption
    ·cases tc
   obtain ⟨yc,vc,pc,_,ec,cc,rc⟩:=field_1 (ft:=.str) rfl (Nat.eq_of_beq_eq_true oc) ((elem_str tc').at n) gc
   obtain ⟨yd,vd,pd,_,ed,cd,rd⟩:=field_1 (ft:=.int .i64) rfl (Nat.eq_of_beq_eq_true od) ((elem_int (isI_ok td)).at n) gd
   have te':P.underlying e.type=some (.slice t):=by
    split at te
    ·rename_i u hu
     rw [hu,Nat.eq_of_beq_eq_true te]
    ·cases te
   have hsl:ElemAt P e.type (.sl .expr) n:=by
    intro H en W cs x h
    obtain ⟨v,xs,rfl,h1,h2,h3⟩:=slice_rd te' (ty:=.expr) hc5 (fun k hk=>ih k (by omega)) h
    refine ⟨xs,⟨h2,h3⟩,rfl,fun j p hp=>?_⟩
    cases j with
    | zero =>
     have:PV.sl .expr xs=p:=by simpa [enc] using hp
     subst this
     exact ⟨_,rfl,h1⟩
    | succ j=>simp [enc] at hp
   obtain ⟨ye,ve,pe,_,ee,ce,re⟩:=field_1 (ft:=.sl .expr) rfl (Nat.eq_of_beq_eq_true oe) hsl ge
   refine ⟨.mk ya yb yc yd ye,trivial,hl.trans hc5,fun j p hp=>?_⟩
   cases ea;cases eb;cases ec;cases ed;cases ee
   match j,hp with
   | 0,hp=>cases hp;exact ⟨_,ca,ra⟩
   | 1,hp=>cases hp;exact ⟨_,cb,rb⟩
   | 2,hp=>cases hp;exact ⟨_,cc,rc⟩
   | 3,hp=>cases hp;exact ⟨_,cd,rd⟩
   | 4,hp=>cases hp;exact ⟨_,ce,re⟩
   | j+5,hp=>simp [enc] at hp
  ·cases hb
 exact fun H en W fuel cs x hx=>main fuel H en W cs x hx
end
mutual
def fits (P:Program):Nat→Ty→TypeId→Bool
 | 0,_,_=>false
 | n+1,ty,t=>match P.underlying t with
  | some (.struct fs)=>(match ty with
   | .expr=>exprB P t fs
   | ty=>Nat.beq (P.cellsOf t) ty.size && fitsF P n ty fs.toList 0)
  | some (.array 2 e)=>(match ty with
   | .pair a b=>Ty.beq a b && ((Nat.beq (P.cellsOf e) a.size && Nat.beq (P.cellsOf t) (a.size+a.size)) && fits P n a e)
   | _=>false)
  | some (.int k)=>Ty.beq ty (.int k)
  | some .bool=>Ty.beq ty .bool
  | some .string=>Ty.beq ty .str
  | some (.slice e)=>(match ty with
   | .sl u=>Nat.beq (P.cellsOf e) u.size && fits P n u e
   | _=>false)
  | _=>false
def fitsF (P:Program):Nat→Ty→List Field→Nat→Bool
 | 0,_,_,_=>false
 | _+1,_,[],_=>false
 | n+1,ty,[f],off=>Nat.beq f.offset off && fits P n ty f.type
 | n+1,.pair a b,f :: fs,off=>Nat.beq f.offset off && fits P n a f.type && fitsF P n b fs (off+a.size)
 | _+1,_,_ :: _ :: _,_=>false
end
mutual
theorem fits_ok {P:Program}:∀ (n:Nat) (ty:Ty) (t:TypeId),fits P n ty t=true→ElemOk P t ty
 | 0,ty,t,h=>by simp [fits] at h
 | n+1,ty,t,h=>by
  unfold fits at h
  split at h
  ·rename_i fs ht
   split at h
   ·exact elem_expr ht h
   ·simp only [Bool.and_eq_true] at h
    exact elem_struct ht (Nat.eq_of_beq_eq_true h.1) (fitsF_ok n _ fs.toList 0 h.2)
  ·rename_i e ht
   split at h
   ·rename_i a b
    simp only [Bool.and_eq_true] at h
    have:=Ty.eq_of_beq h.1
    subst this
    exact elem_two ht (Nat.eq_of_beq_eq_true h.2.1.1) (Nat.eq_of_beq_eq_true h.2.1.2) (fits_ok n a e h.2.2)
   ·cases h
  ·rename_i k ht
   have:=Ty.eq_of_beq h
   subst this
   exact elem_int ht
  ·rename_i ht
   have:=Ty.eq_of_beq h
   subst this
   exact elem_bool ht
  ·rename_i ht
   have:=Ty.eq_of_beq h
   subst this
   exact elem_str ht
  ·rename_i e ht
   split at h
   ·rename_i u
    simp only [Bool.and_eq_true] at h
    exact elem_sl ht (Nat.eq_of_beq_eq_true h.1) (fits_ok n u e h.2)
   ·cases h
  ·cases h
theorem fitsF_ok {P:Program}:∀ (n:Nat) (ty:Ty) (fs:List Field) (off:Nat),fitsF P n ty fs off=true→FieldsOk P fs off ty
 | 0,ty,fs,off,h=>by simp [fitsF] at h
 | n+1,ty,[],off,h=>by simp [fitsF] at h
 | n+1,ty,[f],off,h=>by
  simp only [fitsF,Bool.and_eq_true] at h
  exact fields_one (Nat.eq_of_beq_eq_true h.1) (fits_ok n ty f.type h.2)
 | n+1,.pair a b,f :: g :: fs,off,h=>by
  simp only [fitsF,Bool.and_eq_true] at h
  exact fields_cons (Nat.eq_of_beq_eq_true h.1.1) (fits_ok n a f.type h.1.2) (fitsF_ok n b (g :: fs) _ h.2)
 | n+1,.int _,_ :: _ :: _,off,h=>by simp [fitsF] at h
 | n+1,.bool,_ :: _ :: _,off,h=>by simp [fitsF] at h
 | n+1,.str,_ :: _ :: _,off,h=>by simp [fitsF] at h
 | n+1,.sl _,_ :: _ :: _,off,h=>by simp [fitsF] at h
 | n+1,.expr,_ :: _ :: _,off,h=>by simp [fitsF] at h
end
def argAV (s:Bool) (ty:Ty) (y:ty.den):AV:=if s then .agg ((enc ty y).map up) else match (enc ty y) with | p :: _=>up p | []=>.any
def isStruct (P:Program) (t:TypeId):Bool:=match P.underlying t with | some (.struct _)=>true | some (.array _ _)=>true | _=>false
theorem okWide_arr {n:Nat} {e:TypeId} {P:Program} {w:World} {r:Reach} {b:Nat} {t:TypeId} {v:Value} (ht:P.underlying t=some (.array n e)) (h:Value.okWide P w r b t v):∃ cs,v=.agg cs∧cs.size=P.cellsOf t:=by
 simp only [Value.okWide,ht] at h
 obtain ⟨cs,h1,h2,_⟩:=h
 exact ⟨cs,h1,h2⟩
theorem arg_rd {P:Program} {t:TypeId} {ty:Ty} {n:Nat} (h:fits P n ty t=true) {H:Type} {en:TypeId × Value→H} {W:World} {r:Reach} {b0:Nat} {v:Value} {d:DataW H} {ps:List MemPlace}
 (hval:Value.okWide P W r b0 t v) (hd:DataW.Trod en P W 0 (fun _=>true) true t v d ps):∃ y:ty.den,Ty.fine ty y∧RdA (Env.base W (allOld W)) v (argAV (isStruct P t) ty y):=by
 obtain ⟨fuel,hf⟩:=hd
 obtain ⟨y,h1,h2,h3⟩:=fits_ok n ty t h H en W fuel _ _ hf
 refine ⟨y,h1, ?_⟩
 have hfz:∀ b o,allOld W b o→(Env.base W (allOld W)).Fz b o∧(Env.base W (allOld W)).w.cell? ⟨b,o,none⟩=W.cell? ⟨b,o,none⟩:=fun b o hb=>⟨.inl ⟨hb,hb⟩,rfl⟩
 have key:isStruct P t=false→v.cells=#[v]→RdA (Env.base W (allOld W)) v (argAV (isStruct P t) ty y):=by
  intro hs hv
  rw [hs]
  rw [hv] at h3
  have hne:∃ p l,enc ty y=p :: l:=by
   cases he:enc ty y with
   | nil=>have:=enc_length ty y;have:=size_pos ty;rw [he] at *;simp at *;omega
   | cons p l=>exact ⟨p,l,rfl⟩
  obtain ⟨p,l,he⟩:=hne
  obtain ⟨u,hu,hr⟩:=h3 0 p (by rw [he];rfl)
  simp at hu
  subst hu
  unfold argAV
  rw [if_neg (by simp),he]
  exact .up (hr.mono hfz)
 have many:isStruct P t=true→∀ cs,v=.agg cs→RdA (Env.base W (allOld W)) v (argAV (isStruct P t) ty y):=by
  rintro hs cs rfl
  unfold argAV
  rw [hs,if_pos rfl]
  have hlen:cs.toList.length=ty.size:=h2
  refine .agg _ _ (by simp only [List.length_map,enc_length];rw [← hlen];simp) (fun i u hu=>?_) (fun i u x hu hx=>?_)
  ·have hi:i < (enc ty y).length:=by
    rw [enc_length,← hlen]
    simpa using (Array.getElem?_eq_some_iff.1 hu).1
   obtain ⟨u',hu',hr⟩:=h3 i _ (List.getElem?_eq_getElem hi)
   have:u'=u:=by
    have h4:cs.toList[i]?=some u':=hu'
    simp only [Array.getElem?_toList] at h4
    rw [hu] at h4;exact (Option.some.inj h4).symm
   subst this
   exact hr.one
  ·simp only [List.getElem?_map,Option.map_eq_some_iff] at hx
   obtain ⟨p,hp,rfl⟩:=hx
   obtain ⟨u',hu',hr⟩:=h3 i p hp
   have:u'=u:=by
    have h4:cs.toList[i]?=some u':=hu'
    simp only [Array.getElem?_toList] at h4
    rw [hu] at h4;exact (Option.some.inj h4).symm
   subst this
   exact .up (hr.mono hfz)
 cases n with
 | zero=>simp [fits] at h
 | succ n =>
  unfold fits at h
  split at h
  ·rename_i fs ht
   obtain ⟨cs,rfl,hsz⟩:=okWide_struct ht hval
   exact many (by unfold isStruct;rw [ht]) cs rfl
  ·rename_i e ht
   obtain ⟨cs,rfl,hsz⟩:=okWide_arr ht hval
   exact many (by unfold isStruct;rw [ht]) cs rfl
  ·rename_i k ht
   obtain ⟨m,rfl⟩:=okWide_int ht hval
   exact key (by unfold isStruct;rw [ht]) rfl
  ·rename_i ht
   obtain ⟨m,rfl⟩:=okWide_bool ht hval
   exact key (by unfold isStruct;rw [ht]) rfl
  ·rename_i ht
   obtain ⟨m,rfl⟩:=okWide_string ht hval
   exact key (by unfold isStruct;rw [ht]) rfl
  ·rename_i e ht
   obtain ⟨a,l,c,rfl⟩:=okWide_slice ht hval
   exact key (by unfold isStruct;rw [ht]) rfl
  ·cases h
def Dens:List Ty→Type
 | []=>Unit
 | t :: ts=>t.den × Dens ts
def fineAll:(ts:List Ty)→Dens ts→Prop
 | [],_=>True
 | t :: ts,p=>Ty.fine t p.1∧fineAll ts p.2
def argAVs:List Bool→(ts:List Ty)→Dens ts→List AV
 | s :: ss,t :: ts,p=>argAV s t p.1 :: argAVs ss ts p.2
 | _,_,_=>[]
def fitsAll (P:Program):List Ty→List TypeId→Bool
 | [],[]=>true
 | ty :: tys,t :: ts=>fits P 40 ty t && fitsAll P tys ts
 | _,_=>false
theorem args_rd {P:Program} {H:Type} {en:TypeId × Value→H} {W:World} {r:Reach} {b0:Nat}:∀ {tys:List Ty} {ts:List TypeId} {vs:List Value} {ds:List (DataW H)} {ps:List MemPlace},fitsAll P tys ts=true →
 (∀ (j:Nat) t v,ts[j]?=some t→vs[j]?=some v→Value.okWide P W r b0 t v)→DataW.TrodAll en P W 0 (fun _=>true) true ts vs ds ps →
 ∃ y:Dens tys,fineAll tys y∧(argAVs (ts.map (isStruct P)) tys y).length=vs.length∧∀ (i:Nat) v x,vs[i]?=some v→(argAVs (ts.map (isStruct P)) tys y)[i]?=some x→RdA (Env.base W (allOld W)) v x
 | [],[],vs,ds,ps,_,_,h=>by
  obtain ⟨rfl,_,_⟩:=trodAll_nil h
  exact ⟨(),trivial,rfl,fun i v x hv=>by simp at hv⟩
 | ty :: tys,t :: ts,vs,ds,ps,hf,hval,h=>by
  obtain ⟨v,vs',d,ds',p,q,rfl,rfl,rfl,h1,h2⟩:=trodAll_cons h
  simp only [fitsAll,Bool.and_eq_true] at hf
  obtain ⟨y,hy,hr⟩:=arg_rd hf.1 (hval 0 t v rfl rfl) h1
  obtain ⟨z,hz,hl,hrs⟩:=args_rd hf.2 (fun j t' v' h3 h4=>hval (j+1) t' v' (by simpa using h3) (by simpa using h4)) h2
  refine ⟨(y,z),⟨hy,hz⟩,by simp [argAVs,hl],fun i u x hu hx=>?_⟩
  cases i with
  | zero=>simp [argAVs] at hu hx;subst hu;subst hx;exact hr
  | succ i=>exact hrs i u x (by simpa using hu) (by simpa [argAVs] using hx)
 | [],_ :: _,_,_,_,hf,_,_=>by simp [fitsAll] at hf
 | _ :: _,[],_,_,_,hf,_,_=>by simp [fitsAll] at hf
section
variable {H:Type} {en:TypeId × Value→H} {P:Program}
theorem trodAll_below (hl:laidOutB P=true) {W W':World} (hb:Below W.heap.size W W'):∀ {ts:List TypeId} {vs:List Value} {ds:List (DataW H)} {ps:List MemPlace},(∀ t∈ts,P.readableRec t=true∧t < P.types.size) →
 DataW.TrodAll en P W 0 (fun _=>true) true ts vs ds ps→(∀ x∈ps,x.block < W.heap.size)→DataW.TrodAll en P W' 0 (fun b=>decide (b < W.heap.size)) true ts vs ds ps
 | [],[],[],_,_,h,_=>h
 | t :: ts,v :: vs,d :: ds,_,ht,⟨p,q,h1,h2,he⟩,hlt=>by
  subst he
  exact ⟨p,q,Below.trod hl (ht t (by simp)).1 (ht t (by simp)).2 h1 hb (fun x hx=>hlt x (by simp [hx])),trodAll_below hl hb (fun t' h'=>ht t' (by simp [h'])) h2 (fun x hx=>hlt x (by simp [hx])),rfl⟩
 | [],_ :: _,_,_,_,h,_=>h.elim
 | [],[],_ :: _,_,_,h,_=>h.elim
 | _ :: _,[],_,_,_,h,_=>h.elim
 | _ :: _,_ :: _,[],_,_,h,_=>h.elim
theorem law_post {f:Func} {s:ChangeSpec} {apart:Bool} {W W':World} {args:Array Value} {ds gs:List (DataW H)} {before:List MemPlace} {tb:TypeId} (hl:laidOutB P=true)
 (hts:∀ t∈f.params.toList,P.readableRec t=true∧t < P.types.size) (hv:s.vars=[]) (hW:DataW.Whole en P f.params.toList s.vars apart W args.toList ds gs before)
 (h1:(s.fn H (ds++gs)).results=[.lit (.bool true)]) (h2:(s.fn H (ds++gs)).args=ds) (h3:(s.fn H (ds++gs)).vars=[]) (hb:Below W.heap.size W W') (hr:f.resultTypes=#[tb]) (ht:P.underlying tb=some .bool) :
 s.post en P f apart true false false W args (.bool true) W':=by
 have hlt:=hW.lt
 have hW':=hW
 obtain ⟨p,q,hA,_,he,_⟩:=hW
 refine ⟨ds,gs,before,[],p,[],hW', ?_, ?_, ?_,hb.frame _,fun h=>by cases h⟩
 ·rw [h1,hr]
  exact ChangeShapes.trodAll_mk1 (shut_bool ht true)
 ·rw [h2]
  exact trodAll_below hl hb hts hA fun x hx=>hlt x (by rw [he];simp [hx])
 ·rw [hv,h3]
  rfl
end
theorem goodC_one {P:Program} {cx:Ctx} (hcx:GoodCtx P cx) {g:FuncId} (d:Nat) (hfn:∃ fn,P.funcs[g]?=some fn∧fn.body.isSome=true∧(fn.name == "runtime.NumGoroutine")=false) (a:List AV) (r:CR)
 (h:callN cx P d g a [] 0 (finK r)):∃ C:Ctr,GoodC P g C∧C a=some ⟨r,fun k=>k r.res⟩:=by
 refine ⟨fun args=>@ite _ (args=a) (Classical.propDecidable _) (some ⟨r,fun k=>k r.res⟩) none,goodC_of hcx (drawnOk hcx) d hfn (fun args r' hC k hk=>?_) fun args r' _ hC _=>?_,by simp⟩
 ·split at hC
  ·cases hC;exact hk
  ·cases hC
 split at hC
 ·rename_i he
  cases hC
  rw [he]
  exact h
 ·cases hC
theorem law_lifted {H:Type} {en:TypeId × Value→H} {C:Checked} {os:Os} {f:FuncId} {fn:Func} {s:ChangeSpec} {tb:TypeId} (cx:Ctx) (d:Nat) (tys:List Ty) (ss:List Bool) (hcx:GoodCtx C.prog cx)
 (own:ownKnob C.prog.godebug=none) (started:os.Started) (noInit:C.prog.inits.idxOf? f=none) (hfn:C.prog.funcs[f]?=some fn)
 (witness:∃ (w:World) (tape:Tape) (i:Input),w.os=os∧(w.forCall tape i).Shaped C.prog∧i.vars=[]∧Input.okWide C.prog (w.forCall tape i) .any w.heap.size f i ∧
   s.pre6 en C.prog fn [] false (w.forCall tape i).memory i.args∧({}:Assume).holds C.prog (lone (Frame.enter C.prog f i.args .normal) [] (w.forCall tape i)))
 (hl:laidOutB C.prog=true) (hts:fn.params.toList.all (fun t=>C.prog.readableRec t && Nat.blt t C.prog.types.size)=true) (hfit:fitsAll C.prog tys fn.params.toList=true) (hss:fn.params.toList.map (isStruct C.prog)=ss)
 (hv:s.vars=[]) (hs:∀ ds:List (DataW H),ds.length=tys.length→(s.fn H ds).results=[.lit (.bool true)]∧(s.fn H ds).args=ds∧(s.fn H ds).vars=[])
 (hr:fn.resultTypes=#[tb]) (ht:C.prog.underlying tb=some .bool) (hb:fn.body.isSome=true∧(fn.name == "runtime.NumGoroutine")=false)
 (h:∀ y:Dens tys,fineAll tys y→callN cx C.prog d f (argAVs ss tys y) [] 0 (finK ⟨none,none,[],.bool true⟩)) :
 ReturnsInHanded {} C os f .any (s.pre6 en C.prog fn [] false) (s.post en C.prog fn false true false false):=by
 refine returnsInHanded_of_change own started noInit hfn witness ?_
 intro W base args ds gs before hval hW hcnd _
 have hW':=hW
 obtain ⟨p,q,hA,hV,rfl,hfz,hnd⟩:=hW
 have hgs:gs=[]:=by
  rw [hv] at hV
  exact (trodVars_none hV).1
 subst hgs
 obtain ⟨y,hy,hlen,hrd⟩:=args_rd hfit (fun j t v h1 h2=>hval j t v (by simpa using h1) (by simpa using h2)) hA
 rw [hss] at hlen hrd
 obtain ⟨Ct,hgood,hCt⟩:=goodC_one hcx d ⟨fn,hfn,hb⟩ _ _ (h y hy)
 have hdl:ds.length=tys.length:=by
  have h1:∀ {ts:List TypeId} {vs:List Value} {ds:List (DataW H)} {ps:List MemPlace},DataW.TrodAll en C.prog W 0 (fun _=>true) true ts vs ds ps→ds.length=ts.length:=by
   intro ts
   induction ts with
   | nil=>intro vs ds ps h;obtain ⟨_,rfl,_⟩:=trodAll_nil h;rfl
   | cons t ts ih=>intro vs ds ps h;obtain ⟨_,_,_,_,_,_,_,rfl,_,_,h2⟩:=trodAll_cons h;simp [ih h2]
  have h2:∀ {tys:List Ty} {ts:List TypeId},fitsAll C.prog tys ts=true→ts.length=tys.length:=by
   intro tys
   induction tys with
   | nil=>intro ts h;cases ts with | nil=>rfl | cons _ _=>simp [fitsAll] at h
   | cons t tys ih=>intro ts h;cases ts with | nil=>simp [fitsAll] at h | cons _ ts=>simp only [fitsAll,Bool.and_eq_true] at h;simp [ih h.2]
  rw [h1 hA,h2 hfit]
 obtain ⟨e1,e2,e3⟩:=hs ds hdl
 refine (hgood.calls _ _ _ hCt trivial W (allOld W) args (fun b _ hb=>hb) (by rw [hlen];simp) (fun i v x h1 h2=>hrd i v x (by simpa using h1) h2)).mono fun e W' hpost=>?_
 obtain ⟨_,v,hd,kd,rfl,hbel,hrv,_⟩:=hpost
 have:=hrv.bool_inv
 subst this
 refine ⟨_,rfl,law_post hl (fun t htm=>?_) hv hW' (by rw [List.append_nil];exact e1) (by rw [List.append_nil];exact e2) (by rw [List.append_nil];exact e3) hbel hr ht⟩
 have:=List.all_eq_true.1 hts t htm
 simp only [Bool.and_eq_true,Nat.blt_eq] at this
 exact this
end Go.Sx
