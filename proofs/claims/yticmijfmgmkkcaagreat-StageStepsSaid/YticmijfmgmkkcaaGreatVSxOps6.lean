import Derived.Test.YticmijfmgmkkcaaGreatVSxOps5
set_option linter.unusedSimpArgs false
set_option linter.unusedVariables false
set_option maxRecDepth 100000
namespace Go.Sx
open Go.RowKit
section
variable {P:Program} {cx:Ctx} {E:Env} {a:Act} {e:Operand→AV} {H:List Ob} {n:Nat} {r:Res}
 {dst:Option Tmp} {ty:TypeId} {pos:String} {after:Array Go.Edge} {guard:Option (Nat × Bool)}
theorem toList_one {α β:Type} {l:Array α} {f:α→β} {y:β} (h:l.toList.map f=[y]):∃ x,l=#[x]∧f x=y:=by
 obtain ⟨l⟩:=l
 match l,h with
 | [x],h=>exact ⟨x,rfl,by simpa using h⟩
theorem toList_two {α β:Type} {l:Array α} {f:α→β} {y z:β} (h:l.toList.map f=[y,z]):∃ x x',l=#[x,x']∧f x=y∧f x'=z:=by
 obtain ⟨l⟩:=l
 match l,h with
 | [x,x'],h=>exact ⟨x,x',rfl,by simpa using h⟩
theorem arr_two {α:Type} {l:Array α} {y z:α} (h:l.toList=[y,z]):l=#[y,z]:=by
 obtain ⟨l⟩:=l
 simp at h
 rw [h]
theorem arr_one {α:Type} {l:Array α} {y:α} (h:l.toList=[y]):l=#[y]:=by
 obtain ⟨l⟩:=l
 simp at h
 rw [h]
theorem run_len {x:Operand} {ts:Array TypeId} {t elem:TypeId} {ba:Option Addr} {len c:Nat} (ht:ts[0]?=some t) (hu:P.underlying t=some (.slice elem)) (hv:a.eval x=.slice ba len c) :
 (execOp a.eval ⟨dst,.call { callee:=.builtin .len,args:=#[x],argTypes:=ts },ty,pos,after,guard⟩).run P E.w=.ok (.value (.int .i64 (len:Int))) E.w:=by
 simp [execOp,resolve,invoke,builtin,Builtin.len_,ht,hv,run_underlying hu,goInt]
theorem s_len {c:Call} (hc:c.callee=.builtin .len) (hL:∀ id,E.A id→getOb H id≠.dead→E.L id) (hH:∀ id,E.L id→getOb H id≠.dead→OkOb E id (getOb H id))
 (hx:∀ x∈c.args.toList,RdA E (a.eval x) (e x)) (hn:OptP r.need)
 (h:evOp cx P e H n ⟨dst,.call c,ty,pos,after,guard⟩=some r):PureRun P E a ⟨dst,.call c,ty,pos,after,guard⟩ r:=by
 obtain ⟨callee,args,ts⟩:=c
 simp only at hc
 subst hc
 simp only [evOp] at h
 split at h
 ·cases h
 ·rename_i t ht
  split at h
  ·rename_i elem hu
   have fin:∀ (x:Operand) (len:Nat) (q:Option Prop),args=#[x]→(∃ ba c,a.eval x=.slice ba len c)→r=⟨r.need,q,.int .i64 (len:Int),[],none,none,[]⟩→OptP q →
    PureRun P E a ⟨dst,.call { callee:=.builtin .len,args:=args,argTypes:=ts },ty,pos,after,guard⟩ r:=by
    rintro x len q rfl ⟨ba,c,hv⟩ hr hq
    rw [hr]
    exact ⟨rfl,rfl,rfl,rfl,_,run_len ht hu hv,.int _ _,hq⟩
   split at h
   ·rename_i t' xs hm
    obtain ⟨x,rfl,hvx⟩:=toList_one hm
    have hx:=hx x (by simp)
    rw [hvx] at hx
    refine fin x xs.length (some (xs.length≤big)) rfl ?_ (by cases h;rfl) ?_
    ·rcases hx.sl_inv.sl_inv with ⟨hnil,ba,c,hv⟩ | ⟨b,o,c,g,hv,hc,_⟩
     ·subst hnil;exact ⟨_,_,hv⟩
     ·exact ⟨_,_,hv⟩
    ·rcases hx.sl_inv.sl_inv with ⟨hnil,_⟩ | ⟨b,o,c,g,hv,hc,hl,_⟩
     ·subst hnil;exact Nat.zero_le _
     ·exact hl
   ·rename_i id hm
    obtain ⟨x,rfl,hvx⟩:=toList_one hm
    have hx:=hx x (by simp)
    rw [hvx] at hx
    have hA:E.A id:=hx.own_inv.1
    have key:∀ (t':Ty) (xs:List t'.den),RowsAt E t' xs (E.ρ id)→E.L id→(∃ ba c,a.eval x=.slice ba xs.length c)∧xs.length≤lim:=by
     intro t' xs hrow hl
     have hown:=hx.own_inv.2.2 hl
     cases hρ:E.ρ id with
     | none=>rw [hρ] at hrow hown;obtain ⟨ba,hv⟩:=hown;have:xs=[]:=hrow;subst this;exact ⟨⟨ba,0,hv⟩,Nat.zero_le _⟩
     | some hd=>rw [hρ] at hrow hown;obtain ⟨h1,h2,h3,_⟩:=hrow;exact ⟨⟨_,_,by rw [← h1];exact hown⟩,h1 ▸ h3⟩
    split at h
    ·rename_i t' xs hob
     have hne:getOb H id≠.dead:=by rw [hob];simp
     have hl:=hL id hA hne
     have hok:=hH id hl hne
     rw [hob] at hok
     exact fin x xs.length (some (xs.length≤lim)) rfl (key t' xs hok hl).1 (by cases h;rfl) (key t' xs hok hl).2
    ·rename_i t' xs hob
     have hne:getOb H id≠.dead:=by rw [hob];simp
     have hl:=hL id hA hne
     have hok:=hH id hl hne
     rw [hob] at hok
     exact fin x xs.length (some (xs.length≤lim)) rfl (key t' xs hok hl).1 (by cases h;rfl) (key t' xs hok hl).2
    ·rename_i gt m xss hob
     have hne:getOb H id≠.dead:=by rw [hob];simp
     have hl:=hL id hA hne
     have hok:=hH id hl hne
     rw [hob] at hok
     obtain ⟨hd,hρ,hg⟩:=hok
     have hown:=hx.own_inv.2.2 hl
     rw [hρ] at hown
     have hown':a.eval x=.slice (some ⟨hd.blk,hd.off,none⟩) hd.len hd.cap:=hown
     rw [hg.len] at hown'
     exact fin x (xss.length+m) (some (xss.length+m≤lim)) rfl ⟨_,_,hown'⟩ (by cases h;rfl) (by have:=hg.lim;rw [hg.len] at this;exact this)
    ·cases h
   ·rename_i id gi hm
    obtain ⟨x,rfl,hvx⟩:=toList_one hm
    have hx:=hx x (by simp)
    rw [hvx] at hx
    have hA:E.A id:=hx.grow_inv.1
    split at h
    ·rename_i gt m xss hob
     have hne:getOb H id≠.dead:=by rw [hob];simp
     have hl:=hL id hA hne
     have hok:=hH id hl hne
     rw [hob] at hok
     obtain ⟨hd,hρ,hg⟩:=hok
     have hgi:gi < xss.length:=by cases h;exact hn
     obtain ⟨o,k1,k2⟩:=hx.grow_inv.2.2 hl
     obtain ⟨o',k3,k4⟩:=hg.rows gi _ (List.getElem?_eq_getElem hgi)
     rw [k1] at k3;cases k3
     have hgd:xss.getD gi []=xss[gi]:=by simp [List.getD,hgi]
     have key:(∃ ba c,a.eval x=.slice ba (xss.getD gi []).length c)∧(xss.getD gi []).length≤lim:=by
      rw [hgd]
      cases o with
      | none=>obtain ⟨ba,hv⟩:=k2;have:xss[gi]=[]:=k4;rw [this];exact ⟨⟨ba,0,hv⟩,Nat.zero_le _⟩
      | some h'=>exact ⟨⟨_,_,by rw [← k4.1];exact k2⟩,k4.1 ▸ k4.2.2.1⟩
     exact fin x (xss.getD gi []).length (some ((xss.getD gi []).length≤lim)) rfl key.1 (by cases h;rfl) key.2
    ·cases h
   ·rename_i id k lo len hm
    obtain ⟨x,rfl,hvx⟩:=toList_one hm
    have hx:=hx x (by simp)
    rw [hvx] at hx
    have hA:E.A id:=hx.ownc_inv.1
    split at h
    ·cases h
    ·rename_i hne
     refine fin x len none rfl ?_ (by cases h;rfl) trivial
     obtain ⟨hd,_,_,hv⟩:=hx.ownc_inv.2.2 (hL id hA hne)
     exact ⟨_,_,hv⟩
   ·rename_i ct id m hm
    obtain ⟨x,rfl,hvx⟩:=toList_one hm
    have hx:=hx x (by simp)
    rw [hvx] at hx
    have hA:E.A id:=hx.csl_inv.1
    split at h
    ·cases h
    ·rename_i hne
     refine fin x m none rfl ?_ (by cases h;rfl) trivial
     obtain ⟨hd,_,hv⟩:=hx.csl_inv.2.2 (hL id hA hne)
     exact ⟨_,_,hv⟩
   ·rename_i t' xs hm
    obtain ⟨x,rfl,hvx⟩:=toList_one hm
    have hx:=hx x (by simp)
    rw [hvx] at hx
    obtain ⟨⟨ba,hv⟩,h2⟩:=hx.slf_inv
    refine fin x xs.length (some (xs.length≤big)) rfl ⟨_,_,hv⟩ (by cases h;rfl) ?_
    rcases h2.sl_inv with ⟨hnil,_⟩ | ⟨b,o,c,g,hv,hc,hl,_⟩
    ·subst hnil;exact Nat.zero_le _
    ·exact hl
   ·rename_i id k lo len hm
    obtain ⟨x,rfl,hvx⟩:=toList_one hm
    have hx:=hx x (by simp)
    rw [hvx] at hx
    have hA:E.A id:=hx.ownp_inv.1
    split at h
    ·cases h
    ·rename_i hne
     refine fin x len none rfl ?_ (by cases h;rfl) trivial
     have hp:=hx.ownp_inv.2.2 (hL id hA hne)
     cases hρ:E.ρ id with
     | none=>rw [hρ] at hp;obtain ⟨h0,ba,hv⟩:=hp;subst h0;exact ⟨_,_,hv⟩
     | some hd=>rw [hρ] at hp;obtain ⟨_,o,c,hv,hc,_⟩:=hp;exact ⟨_,_,hv⟩
   ·rename_i hm
    obtain ⟨x,rfl,hvx⟩:=toList_one hm
    have hx:=hx x (by simp)
    rw [hvx] at hx
    obtain ⟨ba,hv⟩:=hx.cap0_inv
    exact fin x 0 none rfl ⟨_,_,hv⟩ (by cases h;rfl) trivial
   ·rename_i hm
    obtain ⟨x,rfl,hvx⟩:=toList_one hm
    have hx:=hx x (by simp)
    rw [hvx] at hx
    obtain ⟨ba,c,hv⟩:=hx.nils_inv
    exact fin x 0 none rfl ⟨_,_,hv⟩ (by cases h;rfl) trivial
   ·cases h
  ·rename_i hu
   split at h
   ·rename_i s hm
    obtain ⟨x,rfl,hvx⟩:=toList_one hm
    have hx:=hx x (by simp)
    rw [hvx] at hx
    have hv:a.eval x=.string s:=by generalize hval:a.eval x=val at hx;cases hx;rfl
    cases h
    exact ⟨rfl,rfl,rfl,rfl,_,by simp [execOp,resolve,invoke,builtin,Builtin.len_,ht,hv,run_underlying hu,goInt],.int _ _,trivial⟩
   ·cases h
  ·cases h
theorem s_cap {c:Call} (hc:c.callee=.builtin .cap) (hx:∀ x∈c.args.toList,RdA E (a.eval x) (e x))
 (h:evOp cx P e H n ⟨dst,.call c,ty,pos,after,guard⟩=some r):PureRun P E a ⟨dst,.call c,ty,pos,after,guard⟩ r:=by
 obtain ⟨callee,args,ts⟩:=c
 simp only at hc
 subst hc
 simp only [evOp] at h
 split at h
 ·cases h
 ·rename_i t ht
  split at h
  ·rename_i elem hu
   split at h
   ·rename_i hm
    obtain ⟨x,rfl,hvx⟩:=toList_one hm
    have hx:=hx x (by simp)
    rw [hvx] at hx
    obtain ⟨ba,hv⟩:=hx.cap0_inv
    cases h
    exact ⟨rfl,rfl,rfl,rfl,_,by simp [execOp,resolve,invoke,builtin,Builtin.cap_,ht,hv,run_underlying hu,goInt],.int _ _,trivial⟩
   ·cases h
  ·cases h
theorem s_min {c:Call} (hc:c.callee=.builtin .min) (hx:∀ x∈c.args.toList,RdA E (a.eval x) (e x))
 (h:evOp cx P e H n ⟨dst,.call c,ty,pos,after,guard⟩=some r):PureRun P E a ⟨dst,.call c,ty,pos,after,guard⟩ r:=by
 obtain ⟨callee,args,ts⟩:=c
 simp only at hc
 subst hc
 simp only [evOp] at h
 split at h
 ·rename_i k p k' q hm
  obtain ⟨x,y,rfl,hvx,hvy⟩:=toList_two hm
  have hx1:=hx x (by simp)
  have hx2:=hx y (by simp)
  rw [hvx] at hx1;rw [hvy] at hx2
  split at h
  ·rename_i hk
   have:=kind_eq hk
   subst this
   cases h
   exact ⟨rfl,rfl,rfl,rfl,_,by simp [execOp,resolve,invoke,builtin,hx1.int_inv,hx2.int_inv,run_min_int2],.int _ _,trivial⟩
  ·cases h
 ·cases h
theorem s_max {c:Call} (hc:c.callee=.builtin .max) (hx:∀ x∈c.args.toList,RdA E (a.eval x) (e x))
 (h:evOp cx P e H n ⟨dst,.call c,ty,pos,after,guard⟩=some r):PureRun P E a ⟨dst,.call c,ty,pos,after,guard⟩ r:=by
 obtain ⟨callee,args,ts⟩:=c
 simp only at hc
 subst hc
 simp only [evOp] at h
 split at h
 ·rename_i k p k' q hm
  obtain ⟨x,y,rfl,hvx,hvy⟩:=toList_two hm
  have hx1:=hx x (by simp)
  have hx2:=hx y (by simp)
  rw [hvx] at hx1;rw [hvy] at hx2
  split at h
  ·rename_i hk
   have:=kind_eq hk
   subst this
   cases h
   exact ⟨rfl,rfl,rfl,rfl,_,by simp [execOp,resolve,invoke,builtin,hx1.int_inv,hx2.int_inv,run_max_int2],.int _ _,trivial⟩
  ·cases h
 ·cases h
def CellL (E:Env) (vs:List Value) (cs:List AV):Prop:=vs.length=cs.length∧∀ (i:Nat) v x,vs[i]?=some v→cs[i]?=some x→v.oneCell'=true∧RdA E v x
theorem ofCell_ok {v:Value} (h:v.oneCell'=true):RdA E v (ofCell v):=by
 unfold ofCell
 split
 ·exact .int _ _
 ·exact .bool _
 ·exact .str _
 ·exact .cap0 _
 ·exact .any _
 ·exact .any _
 ·exact .val _ h
theorem cellsOf_ok {v:Value} {x:AV} {cs:List AV} (hx:RdA E v x) (h:cellsOf x=some cs):CellL E v.cells.toList cs:=by
 cases x with
 | agg xs =>
  simp only [cellsOf,Option.some.injEq] at h
  subst h
  obtain ⟨vs,rfl,h1,h2,h3⟩:=hx.agg_inv
  refine ⟨by simpa [Value.cells] using h1,fun i v x hv hx=>?_⟩
  have hv':vs[i]?=some v:=by simpa [Value.cells] using hv
  exact ⟨h2 i v hv',h3 i v x hv' hx⟩
 | any=>simp [cellsOf] at h
 | tup vs=>simp [cellsOf] at h
 | when=>simp [cellsOf] at h
 | yld=>simp [cellsOf] at h
 | rnd=>simp [cellsOf] at h
 | grow=>simp [cellsOf] at h
 | gptr=>simp [cellsOf] at h
 | dmp=>simp [cellsOf] at h
 | _ =>
  have hc:=h
  simp only [cellsOf,Option.some.injEq] at h
  subst h
  have h1:=hx.one_of hc
  have:v.cells=#[v]:=by cases v <;> simp_all [Value.cells,Value.oneCell']
  rw [this]
  refine ⟨rfl,fun i u y hu hy=>?_⟩
  match i,hu,hy with
  | 0,hu,hy=>cases hu;cases hy;exact ⟨h1,hx⟩
theorem splice_eq {α:Type}:∀ (l:List α) (n:Nat) (m:List α),n+m.length≤l.length→splice l n m=l.take n++m++l.drop (n+m.length)
 | [],0,m,h=>by simp [splice]
 | a :: l,0,m,h=>by simp [splice]
 | [],n+1,m,h=>by simp at h
 | a :: l,n+1,m,h=>by
  simp only [List.length_cons] at h
  simp only [splice,List.take_succ_cons,List.cons_append,List.cons.injEq,true_and]
  rw [splice_eq l n m (by omega),Nat.add_right_comm,List.drop_succ_cons]
theorem splice_get {α:Type} {l m:List α} {n i:Nat} (h:n+m.length≤l.length):(splice l n m)[i]?=if n≤i∧i < n+m.length then m[i - n]? else l[i]?:=by
 rw [splice_eq l n m h]
 by_cases h1:i < n
 ·rw [if_neg (by omega),List.getElem?_append_left (by simp;omega),List.getElem?_append_left (by simp;omega),List.getElem?_take_of_lt h1]
 ·by_cases h2:i < n+m.length
  ·rw [if_pos ⟨by omega,h2⟩,List.getElem?_append_left (by simp;omega),List.getElem?_append_right (by simp;omega)]
   simp;congr 1;omega
  ·rw [if_neg (by omega),List.getElem?_append_right (by simp;omega),List.getElem?_drop]
   congr 1
   simp
   omega
theorem splice_length {α:Type} {l m:List α} {n:Nat} (h:n+m.length≤l.length):(splice l n m).length=l.length:=by
 rw [splice_eq l n m h];simp;omega
theorem foldl_set (off:Nat):∀ (us:List Value) (k:Nat) (vs:Array Value),off+k+us.length≤vs.size →
 ((us.zipIdx k).foldl (fun cs (c,j)=>cs.setIfInBounds (off+j) c) vs).toList=splice vs.toList (off+k) us
 | [],k,vs,h=>by
  rw [splice_eq _ _ _ (by simpa using h)]
  simp
 | u :: us,k,vs,h=>by
  simp only [List.zipIdx_cons,List.foldl_cons]
  simp only [List.length_cons] at h
  rw [foldl_set off us (k+1) (vs.setIfInBounds (off+k) u) (by simp;omega)]
  apply List.ext_getElem?
  intro i
  rw [splice_get (by simp;omega),splice_get (by simp;omega)]
  simp only [Array.toList_setIfInBounds,List.length_cons]
  by_cases h1:off+k≤i∧i < off+k+(us.length+1)
  ·rw [if_pos h1]
   by_cases h2:i=off+k
   ·subst h2
    rw [if_neg (by omega),List.getElem?_set_self (by simp;omega),Nat.sub_self,List.getElem?_cons_zero]
   ·rw [if_pos (by omega)]
    have:i - (off+k)=(i - (off+(k+1)))+1:=by omega
    rw [this,List.getElem?_cons_succ]
  ·rw [if_neg h1,if_neg (by omega),List.getElem?_set_ne (by omega)]
theorem CellL.splice {vs us:List Value} {cs ds:List AV} {off:Nat} (h:CellL E vs cs) (h':CellL E us ds) (hle:off+ds.length≤cs.length):CellL E (splice vs off us) (splice cs off ds):=by
 have hle':off+us.length≤vs.length:=by rw [h.1,h'.1];exact hle
 refine ⟨by rw [splice_length hle',splice_length hle,h.1],fun i v x hv hx=>?_⟩
 rw [splice_get hle'] at hv
 rw [splice_get hle,← h'.1] at hx
 split at hv
 ·rename_i hc
  rw [if_pos hc] at hx
  exact h'.2 _ v x hv hx
 ·rename_i hc
  rw [if_neg hc] at hx
  exact h.2 _ v x hv hx
theorem run_mapM_list {α β:Type} {F:α→Sem β} {G:α→β} (w:World):∀ (l:List α),(∀ x∈l,(F x).run P w=.ok (G x) w)→(l.mapM F).run P w=.ok (l.map G) w
 | [],_=>by simp
 | x :: l,h=>by
  rw [List.mapM_cons]
  simp only [Sem.run_bind,h x (by simp),Result.andThen_ok,run_mapM_list w l (fun y hy=>h y (by simp [hy])),Sem.run_pure,List.map_cons]
theorem run_mapM_places {fs:Array Field} (w:World) (hs:∀ fl∈fs.toList,∃ i,P.info? fl.type=some i) :
 ((fs.mapM fun f=>do pure (f.offset,← sizeOf f.type):Sem (Array (Nat × Nat)))).run P w=.ok (fs.map fun f=>(f.offset,sizeT P f.type)) w:=by
 rw [Array.mapM_eq_mapM_toList]
 have key:=run_mapM_list (P:=P) (F:=fun f:Field=>do pure (f.offset,← sizeOf f.type)) (G:=fun f=>(f.offset,sizeT P f.type)) w fs.toList (fun f hf=>by
  obtain ⟨i,hi⟩:=hs f hf
  simp [sizeOf,typeInfo,hi,sizeT])
 simp only [Sem.run_map,key,Result.andThen_ok]
 congr 1
 apply Array.toList_inj.1
 simp
theorem buildGo_ok {t:TypeId} {fs:Array Field} (hu:P.underlying t=some (.struct fs)):∀ (parts:List (Nat × Operand)) (vs:Array Value) (cs ds:List AV),CellL E vs.toList cs→(∀ p∈parts,RdA E (a.eval p.2) (e p.2)) →
 evOp.buildGo P t e parts cs=some ds→∃ us:Array Value,Instr.fill ((fs.map fun f=>(f.offset,sizeT P f.type))[·]?) vs (parts.map fun p=>(p.1,a.eval p.2))=some us∧CellL E us.toList ds
 | [],vs,cs,ds,hc,_,h=>by
  simp only [evOp.buildGo,Option.some.injEq] at h
  subst h
  exact ⟨vs,rfl,hc⟩
 | (f,x) :: rest,vs,cs,ds,hc,hp,h=>by
  simp only [evOp.buildGo] at h
  split at h
  ·rename_i ft d us hf hcs
   split at h
   ·rename_i hcond
    simp only [Bool.and_eq_true] at hcond
    obtain ⟨fs',fl,hu',hfl,h1,h2⟩:=fieldT_some hf
    rw [hu] at hu'
    cases hu'
    have hcell:=cellsOf_ok (hp (f,x) (by simp)) hcs
    have hlen:us.length=sizeT P ft:=Nat.eq_of_beq_eq_true hcond.1
    have hle:d+us.length≤cs.length:=Nat.le_of_ble_eq_true hcond.2
    have hsz:(a.eval x).cells.size=us.length:=by have:=hcell.1;simpa using this
    have hvs:vs.size=cs.length:=by have:=hc.1;simpa using this
    have hfold:=foldl_set d (a.eval x).cells.toList 0 vs (by simp;omega)
    simp only [Nat.add_zero] at hfold
    have hnew:CellL E ((((a.eval x).cells.toList.zipIdx 0).foldl (fun cs (c,j)=>cs.setIfInBounds (d+j) c) vs).toList) (splice cs d us):=by
     rw [hfold];exact hc.splice hcell hle
    obtain ⟨ws,h3,h4⟩:=buildGo_ok hu rest _ _ ds hnew (fun p hp'=>hp p (by simp [hp'])) h
    refine ⟨ws, ?_,h4⟩
    simp only [List.map_cons,Instr.fill]
    rw [show (fs.map fun f=>(f.offset,sizeT P f.type))[f]?=some (d,sizeT P ft) by simp [hfl,h1,h2]]
    simp only
    rw [if_neg (by simp [hsz,hlen];omega)]
    rw [← h3]
    congr 1
    rw [← Array.foldl_toList]
    simp
   ·cases h
  ·cases h
theorem arrGo_ok {sz:Nat}:∀ (parts:List (Nat × Operand)) (vs:Array Value) (cs ds:List AV),CellL E vs.toList cs→(∀ p∈parts,RdA E (a.eval p.2) (e p.2)) →
 evOp.arrGo sz e parts cs=some ds→∃ us:Array Value,Instr.fill (fun i=>some (i * sz,sz)) vs (parts.map fun p=>(p.1,a.eval p.2))=some us∧CellL E us.toList ds
 | [],vs,cs,ds,hc,_,h=>by
  simp only [evOp.arrGo,Option.some.injEq] at h
  subst h
  exact ⟨vs,rfl,hc⟩
 | (i,x) :: rest,vs,cs,ds,hc,hp,h=>by
  simp only [evOp.arrGo] at h
  split at h
  ·rename_i us hcs
   split at h
   ·rename_i hcond
    simp only [Bool.and_eq_true] at hcond
    have hcell:=cellsOf_ok (hp (i,x) (by simp)) hcs
    have hlen:us.length=sz:=Nat.eq_of_beq_eq_true hcond.1
    have hle:i * sz+us.length≤cs.length:=Nat.le_of_ble_eq_true hcond.2
    have hsz:(a.eval x).cells.size=us.length:=by have:=hcell.1;simpa using this
    have hvs:vs.size=cs.length:=by have:=hc.1;simpa using this
    have hfold:=foldl_set (i * sz) (a.eval x).cells.toList 0 vs (by simp;omega)
    simp only [Nat.add_zero] at hfold
    have hnew:CellL E ((((a.eval x).cells.toList.zipIdx 0).foldl (fun cs (c,j)=>cs.setIfInBounds (i * sz+j) c) vs).toList) (splice cs (i * sz) us):=by
     rw [hfold];exact hc.splice hcell hle
    obtain ⟨ws,h3,h4⟩:=arrGo_ok rest _ _ ds hnew (fun p hp'=>hp p (by simp [hp'])) h
    refine ⟨ws, ?_,h4⟩
    simp only [List.map_cons,Instr.fill]
    rw [if_neg (by simp [hsz,hlen];omega)]
    rw [← h3]
    congr 1
    rw [← Array.foldl_toList]
    simp
   ·cases h
  ·cases h
theorem CellL.agg {vs:Array Value} {cs:List AV} (h:CellL E vs.toList cs):RdA E (.agg vs) (.agg cs):=by
 refine .agg vs cs (by have:=h.1;simpa using this) (fun i v hv=>?_) (fun i v x hv hx=>(h.2 i v x (by simpa using hv) hx).2)
 have hlt:i < cs.length:=by
  rw [← h.1];simpa using (Array.getElem?_eq_some_iff.1 hv).1
 exact (h.2 i v _ (by simpa using hv) (List.getElem?_eq_getElem hlt)).1
theorem s_build {t:TypeId} {parts:Array (Nat × Operand)} (hx:∀ p∈parts.toList,RdA E (a.eval p.2) (e p.2))
 (h:evOp cx P e H n ⟨dst,.build t parts,ty,pos,after,guard⟩=some r):PureRun P E a ⟨dst,.build t parts,ty,pos,after,guard⟩ r:=by
 simp only [evOp] at h
 split at h
 ·rename_i z fs hz hu
  split at h
  ·rename_i hok
   split at h
   ·rename_i ds hds
    cases h
    simp only [Bool.and_eq_true,List.all_eq_true] at hok
    have hzc:CellL E z.toList (z.toList.map ofCell):=by
     refine ⟨by simp,fun i v x hv hx=>?_⟩
     simp only [List.getElem?_map,Option.map_eq_some_iff] at hx
     obtain ⟨u,hu',rfl⟩:=hx
     rw [hv] at hu'
     cases hu'
     have:=hok.1 v (List.mem_of_getElem? hv)
     exact ⟨this,ofCell_ok this⟩
    obtain ⟨us,h1,h2⟩:=buildGo_ok hu parts.toList z _ ds hzc hx hds
    have hzero:(zeroValue t).run P E.w=.ok (.agg z) E.w:=by
     unfold zeroT at hz
     split at hz
     ·rename_i i hi
      simp [zeroValue,typeInfo,hi,hz]
     ·cases hz
    have hpl:=run_mapM_places (P:=P) (fs:=fs) E.w (fun fl hfl=>by
     have:=hok.2 fl hfl
     rw [Option.isSome_iff_exists] at this
     exact this)
    refine ⟨rfl,rfl,rfl,rfl,.agg us, ?_,h2.agg,trivial⟩
    have e1:(parts.map fun (i,x)=>(i,a.eval x)).toList=parts.toList.map fun p=>(p.1,a.eval p.2):=by simp
    simp only [execOp,Instr.build,Sem.run_bind,hzero,Result.andThen_ok,run_underlying hu]
    simp only [hpl,Result.andThen_ok,Value.cells,e1,h1]
    simp
   ·cases h
  ·cases h
 ·rename_i z k elem hz hu
  split at h
  ·rename_i hok
   split at h
   ·rename_i ds hds
    cases h
    simp only [Bool.and_eq_true,List.all_eq_true] at hok
    have hzc:CellL E z.toList (z.toList.map ofCell):=by
     refine ⟨by simp,fun i v x hv hx=>?_⟩
     simp only [List.getElem?_map,Option.map_eq_some_iff] at hx
     obtain ⟨u,hu',rfl⟩:=hx
     rw [hv] at hu'
     cases hu'
     have:=hok.1 v (List.mem_of_getElem? hv)
     exact ⟨this,ofCell_ok this⟩
    obtain ⟨us,h1,h2⟩:=arrGo_ok parts.toList z _ ds hzc hx hds
    have hzero:(zeroValue t).run P E.w=.ok (.agg z) E.w:=by
     unfold zeroT at hz
     split at hz
     ·rename_i i hi
      simp [zeroValue,typeInfo,hi,hz]
     ·cases hz
    obtain ⟨i,hi⟩:=Option.isSome_iff_exists.1 hok.2
    have hsize:(sizeOf elem).run P E.w=.ok (sizeT P elem) E.w:=by simp [sizeOf,typeInfo,hi,sizeT]
    refine ⟨rfl,rfl,rfl,rfl,.agg us, ?_,h2.agg,trivial⟩
    have e1:(parts.map fun (i,x)=>(i,a.eval x)).toList=parts.toList.map fun p=>(p.1,a.eval p.2):=by simp
    simp only [execOp,Instr.build,Sem.run_bind,hzero,Result.andThen_ok,run_underlying hu]
    simp only [hsize,Sem.run_bind,Result.andThen_ok,Value.cells,e1,h1]
    simp
   ·cases h
  ·cases h
 ·cases h
end
end Go.Sx
