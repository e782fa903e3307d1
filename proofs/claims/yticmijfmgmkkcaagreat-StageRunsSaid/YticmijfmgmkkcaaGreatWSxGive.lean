import Derived.Test.YticmijfmgmkkcaaGreatWSxFreeze
set_option linter.unusedSimpArgs false
set_option linter.unusedVariables false
set_option maxRecDepth 100000
namespace Go.Sx
open Go.RowKit
section
variable {P:Program} {E:Env} {H:List Ob} {n:Nat}
theorem give_cell (hE:EnvOk E H n) {v:Value} {id:Nat} {cs:List AV} {ps:List PV} {l:List Nat} (h:RdA E v (.ptr id 0)) (hob:getOb H id=.cells cs) (hd:downL H cs=some (ps,l)) :
 RdA (E.give (id :: l)) v (.eptr ps):=by
 have hL:∀ id,E.A id→getOb H id≠.dead→E.L id:=fun id _ hne=>hE.live id hne
 have hH:∀ id,E.L id→getOb H id≠.dead→OkOb E id (getOb H id):=fun id hl hne=>hE.ok id hl hne
 have toG:∀ {v p},RdP E.w (FF E (id :: l)) v p→RdP E.w (E.give (id :: l)).Fz v p:=fun h=>h.monoF fun b o hb=>by
  rcases hb with hb | ⟨id2,hid2,hl2,ho2⟩
  ·exact give_fz hb
  ·obtain ⟨g1,g2⟩:=hE.ltO id2 b hl2 ho2
   refine .inr ⟨g1,g2,fun id3 hW3 ho3=>?_,hE.hid id2 b hl2 ho2⟩
   have e:=hE.injO id3 id2 b (hE.wl id3 hW3.1) hl2 ho3 ho2
   subst e
   exact hW3.2 hid2
 cases h with
 | ptr v id off hA h1 hp =>
  have hne:getOb H id≠.dead:=by rw [hob];simp
  have hl:=hL id hA hne
  have hok:=hH id hl hne
  rw [hob] at hok
  obtain ⟨hd',hρ,arr,el,g1,g2,g3⟩:=hok
  obtain ⟨hd'',hρ',hv⟩:=hp hl
  rw [hρ] at hρ'
  cases hρ'
  have hcl:CellL E arr.toList cs:=⟨by simp [g2],fun i u y hu hy=>g3 i u y (by simpa using hu) hy⟩
  obtain ⟨d1,d2⟩:=downL_ok (ids':=id :: l) hL hH hcl hd (fun i hi=>by simp [hi])
  subst hv
  refine .eptr hd'.blk 0 ps (fun j=>(arr[0+j]?).getD undef) (fun j hj=>⟨?_, ?_⟩) (fun j p hp=>?_)
  ·have ho:E.Own id hd'.blk:=.inl ⟨hd',hρ,rfl⟩
   obtain ⟨k1,k2⟩:=hE.ltO id _ hl ho
   refine .inr ⟨k1,k2,fun id3 hW3 ho3=>?_,hE.hid id _ hl ho⟩
   have e:=hE.injO id3 id _ (hE.wl id3 hW3.1) hl ho3 ho
   subst e
   exact hW3.2 (by simp)
  ·have hlt:0+j < arr.size:=by
    rw [← d1] at hj
    simpa using hj
   simp only [Nat.zero_add] at hlt
   show E.w.cell? _=_
   simp [World.cell?,g1,hlt]
  ·have hlt:j < arr.toList.length:=by rw [d1];exact (List.getElem?_eq_some_iff.1 hp).1
   have hu:arr.toList[j]?=some (arr.toList[j]):=List.getElem?_eq_getElem hlt
   have h3:=(d2 j _ p hu hp).2
   have h4:(arr[0+j]?).getD undef=arr.toList[j]:=by
    have:arr[0+j]?=some (arr.toList[j]):=by simp
    rw [this];rfl
   rw [h4]
   exact toG h3
def finG (r:CR):AV→List Ob→Nat→Prop:=fun x H n =>
 ∃ id f cs ps l,x=.fn f [] [.ptr id 0]∧getOb H id=.cells cs∧downL H cs=some (ps,l)∧finK r (.fn f [] [.eptr ps]) (frzAll (id :: l) H) n
theorem finG_ok {w w':World} {F0:Nat→Nat→Prop} {r:CR} {v:Value} {x:AV} (hE:EnvOk E H n) (hv:RdA E v x) (hevo:Evo 0 (Env.base w F0) E) (hw:E.w=w') (hk:finG r x H n) :
 CallPost w F0 r (.returned v) w':=by
 obtain ⟨id,f,cs,ps,l,rfl,hob,hd,hk⟩:=hk
 refine fin_ok (E:=E.give (id :: l)) hE.give (x:=.fn f [] [.eptr ps]) ?_ (hevo.trans (give_evo 0)) hw hk
 cases hv with
 | fn f vs ws xs ys hv hw h1 h2 =>
  refine .fn f vs ws [] [.eptr ps] hv hw (fun i v x _ hx=>by simp at hx) fun i v x hv hx=>?_
  cases i with
  | zero =>
   simp only [List.getElem?_cons_zero,Option.some.injEq] at hx
   subst hx
   exact give_cell hE (h2 0 v _ hv rfl) hob hd
  | succ i=>simp at hx
def fnV (a:List AK) (need:AK.dens a→Prop) (f:AK.dens a→AV):Ctr:=fun args =>
 match ofAVs a args with
 | some y=>some ⟨⟨some (need y),none,[],f y⟩,fun k=>k (f y)⟩
 | none=>none
theorem goodV {P:Program} {call:CallSem} (hcall:CallOk P call) {g:FuncId} (a:List AK) (need:AK.dens a→Prop) (f:AK.dens a→AV)
 (hfn:∃ fn,P.funcs[g]?=some fn∧fn.body.isSome=true∧(fn.name == "runtime.NumGoroutine")=false)
 (h:∀ y,need y→call g (toAVs a y) [] 0 (finG ⟨none,none,[],f y⟩)):GoodC P g (fnV a need f):=by
 refine ⟨hfn,fun args cg hC k hk=>?_,fun args cr gen hC hn w F0 vs hF hsz hrd=>?_⟩
 ·unfold fnV at hC
  split at hC
  ·cases hC
   exact hk
  ·cases hC
 unfold fnV at hC
 split at hC
 ·rename_i y hy
  cases hC
  obtain ⟨e,hall⟩:=ofAVs_ok (E:=Env.base w F0) a args y hy
  have hrd':∀ (i:Nat) v x,vs[i]?=some v→(toAVs a y)[i]?=some x→RdA (Env.base w F0) v x:=fun i v x hv hx=>hall hrd i v x hv hx vs.toList (fun i u hu=>by simpa using hu) (by simpa using hsz)
  obtain ⟨_,hc⟩:=hcall.1 g (toAVs a y) [] 0 _ (h y hn) (Env.base w F0) vs (base_ok hF) (hsz.trans e.symm) hrd'
  refine hc.mono fun en w' hpost=>?_
  obtain ⟨v,E',x,H',n',rfl,hw,_,hE',hv,hevo,hk⟩:=hpost
  exact finG_ok hE' hv hevo hw hk
 ·cases hC
end
end Go.Sx
