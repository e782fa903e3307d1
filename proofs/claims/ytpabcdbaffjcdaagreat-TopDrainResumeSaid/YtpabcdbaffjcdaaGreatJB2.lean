/- Symbolic steps. -/
import Derived.Test.YtpabcdbaffjcdaaGreatJB1
import Derived.TacticsIn
import Derived.OrdersIn
import Derived.RangeFuncIn
import Derived.RangeFuncRecord
import Derived.Laws.StructEq
set_option linter.unusedSimpArgs false
set_option linter.unusedVariables false
set_option maxRecDepth 100000
namespace Go.Sx
open Go.RowKit
def A7:Option Prop->Prop
 |none=>True
 |some q=>q
def fen(ro:Option Nat):Fence:={ Fence.wide with round:=ro }
theorem Aqb(ro:Option Nat)(f:FuncId):(fen ro).fn f:=trivial
theorem Za(ro:Option Nat)(n:Nat):(fen ro).room n:=λ_ h=>by cases h
theorem P2(ro:Option Nat)(q:Prop):(fen ro).depth.isSome=true->q:=λh=>by cases h
@[reducible] def _root_.Go.Oper.wpI(ro:Option Nat)(P:Program)(o:Oper)(a:Act)(w:World)(next:Act->World->Prop)(Q:Exit->Act->World->Prop):Prop:=o.wpIn (fen ro) 0 P a w next Q
@[reducible] def _root_.Go.Code.wpI(ro:Option Nat)(P:Program)(c:Code)(Q:Exit->Act->World->Prop)(a:Act)(w:World):Prop:=c.wpIn (fen ro) 0 P Q a w
theorem Mh{ro:Option Nat}{P:Program}{o:Oper}{ρ:Operand->Value}{w w':World}{x:Next}(h:(execOp ρ o).run P w=.ok x w')(hx:∀d,x≠.defer d):(o.semAt ro ρ).run P w=.ok x w':=by
 cases ro with
 |none=>exact h
 |some l=>
  rw[Oper.semAt_some]
  ·exact h
  ·intro c hc;obtain⟨dst,op,ty,pos,after,guard⟩:=o;simp only at hc;subst hc;simp only[execOp,Sem.run_bind]at h;cases hr:(resolve ρ c ty).run P w with
   |ok d w2=>
    rw[hr]at h;simp only[Result.andThen_ok,Sem.run_pure,Result.ok.injEq]at h;exact hx _ h.1.symm
   |halt x w2=>rw[hr]at h;cases h
theorem Cu{ro:Option Nat}{P:Program}{o:Oper}{a:Act}{w w':World}{v:Value}{K:Act->World->Prop}{Q:Exit->Act->World->Prop}
 (h:(execOp a.eval o).run P w=.ok (.value v) w')(hK:K (a.put o.dst v) w'):o.wpI ro P a w K Q:=by
 refine⟨λ_ _=>trivial, ?_⟩;rw[show(fen ro).round=ro from rfl,Mh h (λd hd=>by cases hd)];exact hK
theorem J2{ro:Option Nat}{P:Program}{o:Oper}{a:Act}{w w':World}{K:Act->World->Prop}{Q:Exit->Act->World->Prop}
 (h:(execOp a.eval o).run P w=.ok .skip w')(hK:K (a.put o.dst undef) w'):o.wpI ro P a w K Q:=by
 refine⟨λ_ _=>trivial, ?_⟩;rw[show(fen ro).round=ro from rfl,Mh h (λd hd=>by cases hd)];exact hK
theorem Lz{ro:Option Nat}{n:Nat}{P:Program}{f:FuncId}{args:Array Value}{w:World}{R:Ending->World->Prop}:CallsIn (fen ro) n P f args w R<->Calls P f args w R:=by
 constructor
 ·intro h;exact CallsIn.calls h (Za ro)
 ·intro h;have:=(callsIn_wide (n:=n)).2 h;exact⟨trivial,λcs _=>this.2 cs (room_wide _)⟩
theorem Aeg{ro:Option Nat}{P:Program}{o:Oper}{a:Act}{w w':World}{f:FuncId}{args:Array Value}{K:Act->World->Prop}{Q:Exit->Act->World->Prop}
 (h:(execOp a.eval o).run P w=.ok (.enter f args) w')(hK:Calls P f args w' (λe w''=>∃v,e=.returned v/\K (a.put o.dst v) w'')):o.wpI ro P a w K Q:=by
 refine⟨λ_ _=>trivial, ?_⟩;rw[show(fen ro).round=ro from rfl,Mh h (λd hd=>by cases hd)];refine⟨P2 ro _,Lz.2 (hK.mono λe w'' he=>?_)⟩;obtain⟨v,rfl,hk⟩:=he;exact hk
theorem Ai5{ro:Option Nat}{P:Program}{o:Oper}{a:Act}{w w':World}{l:Nat}{f:FuncId}{tmps:Array Value}{x y:Code}{K:Act->World->Prop}{Q:Exit->Act->World->Prop}
 (h:(execOp a.eval o).run P w=.ok (.round l f tmps x y) w')(hK:RoundIn (fen none) 0 P l f tmps x y w' (λe w''=>∃v,e=.returned v/\K (a.put o.dst v) w'')):o.wpI ro P a w K Q:=by
 refine⟨λ_ _=>trivial, ?_⟩;rw[show(fen ro).round=ro from rfl,Mh h (λd hd=>by cases hd)];refine⟨P2 ro _,trivial,λc cs hroom=>?_⟩;obtain⟨e,w'',h1,h2⟩:=hK.2 c cs (Za none _);obtain⟨v,rfl,hk⟩:=h1;exact⟨.returned v,w'',hk,h2⟩
theorem Bn{α:Type}(d:α):∀(l:List α)(n:Nat),Aq d l n=(l[n]?).getD d
 |[],_=>by simp[Aq]
 |a::l,0=>by simp[Aq]
 |a::l,n+1=>by simp[Aq,Bn d l n]
theorem C1{α:Type}{d:α}{l:List α}{n:Nat}(h:n<l.length):l[n]?=some (Aq d l n):=by
 rw[Bn,aR h];rfl
theorem RdA.one_of{E:Env}{v:Value}{x:AV}(h:RdA E v x)(hx:cellsOf x=some [x]):v.oneCell'=true:=by
 cases h with
 |sl=>rename_i h;exact h.one
 |agg vs xs hv h1 h=>
  simp only[cellsOf,aU]at hx;have:=bI (λl:List AV=>SizeOf.sizeOf l) hx;simp at this;omega
 |any=>simp[cellsOf]at hx
 |tup=>simp[cellsOf]at hx
 |when=>simp[cellsOf]at hx
 |yld=>simp[cellsOf]at hx
 |grow=>simp[cellsOf]at hx
 |gptr=>simp[cellsOf]at hx
 |dmp=>simp[cellsOf]at hx
 |ownc=>assumption
 |csl=>assumption
 |slf=>rfl
 |int=>rfl
 |bool=>rfl
 |str=>rfl
 |val h=>assumption
 |nils=>rfl
 |cap0=>rfl
 |ptr=>rename_i h1 _;obtain⟨_,_,rfl⟩:=h1;rfl
 |rptr=>rename_i h1 _;obtain⟨_,_,rfl⟩:=h1;rfl
 |eptr=>rfl
 |own=>assumption
 |ownp=>assumption
 |mp=>assumption
 |fn=>rfl
theorem Zb:∀caps:List FnT,(Py caps).length=caps.length/\∀(i:Nat) x,(Py caps)[i]?=some x->∃c,caps[i]?=some c/\x=.eptr [.fn c]
 |[]=>⟨rfl,λi x h=>by simp[Py]at h⟩
 |c::l=>by
  obtain⟨g1,g2⟩:=Zb l;refine⟨by simp[Py,g1],λi x h=>?_⟩;cases i with
  |zero=>simp only[Py,dP,aU]at h;exact⟨c,rfl,h.symm⟩
  |succ i=>simpa[Py]using g2 i x (by simpa[Py]using h)
theorem RdA.up{E:Env}{v:Value}{p:PV}(h:RdP E.w E.Fz v p):RdA E v (up p):=by
 cases p with
 |int k n=>cases h;exact .int k n
 |bool b=>cases h;exact .bool b
 |str s=>cases h;exact .str s
 |sl t xs=>exact .sl v t xs h
 |nils=>cases h;exact .nils _ _
 |val u=>cases h;exact .val v ‹_›
 |fn T=>
  cases h with
  |fnil=>exact .val _ rfl
  |fn f caps ws g u hw hc hr=>
   obtain⟨g1,g2⟩:=Zb caps;refine .fn (.func f) #[] ws [] (Py caps) rfl (by rw[hw,g1]) (λi v x _ hx=>by simp at hx) (λi v x hv hx=>?_);have hi:i<caps.length:=by
    have:=(aW.1 hx).1;omega
   obtain⟨c,hcc,rfl⟩:=g2 i x hx;obtain⟨h0,h1,h2⟩:=hc i hi;rw[h0]at hv;cases hv;refine .eptr (g i).1 (g i).2 [.fn c] (λ_=>u i) (λj hj=>?_) (λj p hp=>?_)
   ·have:j=0:=by simp at hj;exact hj
    subst this;exact⟨h1,h2⟩
   ·match j,hp with
    |0,hp=>cases hp;exact hr i c hcc
def CellsAt(E:Env)(b o:Nat)(cs:List AV):Prop:=
 ∀j x,cs[j]?=some x->∃v,E.w.cell? ⟨b,o+j,none⟩=some v/\v.oneCell'=true/\RdA E v x
theorem Cm(b o n:Nat):(⟨b,o,none⟩:Addr).add n=⟨b,o+n,none⟩:=by
 unfold Addr.add;split
 ·subst_vars;rfl
 ·rfl
theorem CellsAt.drop{E:Env}{b o:Nat}{cs:List AV}(h:CellsAt E b o cs)(n:Nat):CellsAt E b (o+n) (cs.drop n):=by
 intro j x hx;rw[cK]at hx;obtain⟨v,h1,h2⟩:=h _ _ hx;exact⟨v,by rw[eK];exact h1,h2⟩
theorem Zc{P:Program}{E:Env}{b o:Nat}{cs:List AV}(h:CellsAt E b o cs)(n:Nat)(hn:n<=cs.length):
 ∃vs:Array Value,(loadCells ⟨b,o,none⟩ n).run P E.w=.ok vs E.w/\RdA E (.agg vs) (.agg (cs.take n)):=by
 have hv:∀j,j<n->∃v,E.w.cell? ⟨b,o+j,none⟩=some v/\v.oneCell'=true/\RdA E v (Aq .any cs j):=λj hj=>
  h j _ (C1 (by omega))
 let f:Nat->Value:=λj=>if hj:j<n then(hv j hj).choose else undef
 have hf:∀j (hj:j<n),E.w.cell? ⟨b,o+j,none⟩=some (f j)/\(f j).oneCell'=true/\RdA E (f j) (Aq .any cs j):=λj hj=>by
  simp only[f,dif_pos hj];exact(hv j hj).choose_spec
 refine⟨((List.range n).map f).toArray, ?_, ?_⟩
 ·have hl:=run_loadCells_list (P:=P) (w:=E.w) ⟨b,o,none⟩ ((List.range n).map f) (λj v hjv=>by
   rw[Cm];simp only[cL,bC]at hjv;obtain⟨i,hi,rfl⟩:=hjv;have hlt:j<n:=by
    have:=(aW.1 hi).1;simpa using this
   have:i=j:=by
    have:=eW hlt;rw[this]at hi;exact(Option.some.inj hi).symm
   subst this;exact(hf i hlt).1)
  simpa using hl
 ·refine .agg _ _ (by simp;omega) ?_ ?_
  ·intro i v hv';simp only[List.getElem?_toArray,cL,bC]at hv';obtain⟨k,hk,rfl⟩:=hv';have hlt:i<n:=by have:=(aW.1 hk).1;simpa using this
   have:k=i:=by
    have:=eW hlt;rw[this]at hk;exact(Option.some.inj hk).symm
   subst this;exact(hf k hlt).2.1
  ·intro i v x hv' hx;simp only[List.getElem?_toArray,cL,bC]at hv';obtain⟨k,hk,rfl⟩:=hv';have hlt:i<n:=by have:=(aW.1 hk).1;simpa using this
   have:k=i:=by
    have:=eW hlt;rw[this]at hk;exact(Option.some.inj hk).symm
   subst this;rw[cQ hlt,C1 (d:=AV.any) (by omega)]at hx;cases hx;exact(hf k hlt).2.2
theorem N4{P:Program}{E:Env}{b o off:Nat}{cs:List AV}{t:TypeId}{x:AV}(h:CellsAt E b o cs)(hr:Eu P t cs off=some x):
 ∃v,(loadVar t ⟨b,o+off,none⟩).run P E.w=.ok v E.w/\RdA E v x:=by
 unfold Eu at hr;have agg:∀i,P.info? t=some i->(if Nat.ble (off+i.size) cs.length then some (AV.agg ((cs.drop off).take i.size))else none)=some x->
  ((isAgg t).run P E.w=.ok true E.w)->∃v,(loadVar t ⟨b,o+off,none⟩).run P E.w=.ok v E.w/\RdA E v x:=by
  intro i hi hx ha;split at hx
  ·rename_i hle;cases hx;have hle':off+i.size<=cs.length:=cB hle;obtain⟨vs,h1,h2⟩:=Zc (P:=P) (h.drop off) i.size (by rw[cI];omega);exact⟨_,by simp[loadVar,ha,sizeOf,typeInfo,hi,h1],h2⟩
  ·cases hx
 cases hu:P.underlying t with
 |none=>simp[hu]at hr
 |some d=>
  cases hi:P.info? t with
  |none=>cases d<;>simp[hu,hi]at hr
  |some i=>
   have plain:(∀fs,d≠.struct fs)->(∀n e,d≠.array n e)->(if Nat.blt off cs.length then some (Aq AV.any cs off)else none)=some x->∃v,(loadVar t ⟨b,o+off,none⟩).run P E.w=.ok v E.w/\RdA E v x:=by
    intro h1 h2 hx;split at hx
    ·rename_i hlt;cases hx;have hlt':off<cs.length:=cB hlt;obtain⟨v,h3,h4,h5⟩:=h off _ (C1 hlt');have ha:(isAgg t).run P E.w=.ok false E.w:=by
      simp only[isAgg,Sem.run_bind];rw[run_underlying hu];simp only[Result.andThen_ok];cases d<;>first|rfl|(exact aT rfl (h1 _))|(exact aT rfl (h2 _ _))
     exact⟨v,by simp[loadVar,ha,h3],h5⟩
    ·cases hx
   cases d<;>simp only[hu,hi]at hr<;>first
    |exact plain (λ_=>by simp) (λ_ _=>by simp) hr
    |exact agg i hi hr (by simp[isAgg,run_underlying hu])
end Go.Sx
namespace Go.Sx
open Go.RowKit
structure PureRun(P:Program)(E:Env)(a:Act)(o:Oper)(r:Res):Prop where
 news:r.news=[]
 kill:r.kill=none
 st:r.st=none
 frz:r.frz=[]
 run:∃v,(execOp a.eval o).run P E.w=.ok (.value v) E.w/\RdA E v r.val/\A7 r.given
section
variable {P:Program}{cx:Ctx}{E:Env}{a:Act}{e:Operand->AV}{H:List Ob}{n:Nat}{r:Res}
 {dst:Option Tmp}{ty:TypeId}{pos:String}{after:Array Go.Edge}{guard:Option (Nat×Bool)}
theorem Ai6{x:Operand}(hx:RdA E (a.eval x) (e x))(h:evOp cx P e H n ⟨dst,.move x,ty,pos,after,guard⟩=some r):PureRun P E a ⟨dst,.move x,ty,pos,after,guard⟩ r:=by
 simp only[evOp,aU]at h;subst h;exact⟨rfl,rfl,rfl,rfl,_,rfl,hx,trivial⟩
theorem Zd{x:Operand}(hx:RdA E (a.eval x) (e x))(h:evOp cx P e H n ⟨dst,.assign x,ty,pos,after,guard⟩=some r):PureRun P E a ⟨dst,.assign x,ty,pos,after,guard⟩ r:=by
 simp only[evOp,aU]at h;subst h;exact⟨rfl,rfl,rfl,rfl,_,rfl,hx,trivial⟩
theorem Oq{k k':IntKind}(h:IntKind.beq' k k'=true):k=k':=by
 cases k<;>cases k'<;>first|rfl|cases h
theorem Mi{s:Nat}{w:Bool}{x:Operand}(hx:RdA E (a.eval x) (e x))(hw:∀c w v,e x=.when c s w v->a.eval (.tmp s)=.bool w->c)
 (hs:a.eval (.tmp s)=.bool w):RdA E (a.eval x) (Ku s w (e x)):=by
 cases hv:e x with
 |when c s' w' v=>
  simp only[Ku];split
  ·rename_i hc;simp only[aS,beq_iff_eq]at hc;obtain⟨h1,h2⟩:=hc;have h1':=bB h1;subst h1';subst h2;have hc':=hw _ _ _ hv hs;rw[hv]at hx;exact hx.when_inv.1 hc'
  ·rw[<-hv];exact hx
 |_=>rw[hv]at hx;exact hx
theorem Ai7{q:Bool}{va vb:Value}{x y:AV}(h:Sv q x y=some r)(hx:q=true->RdA E va x)(hy:q=false->RdA E vb y):
 r.news=[]/\r.kill=none/\r.st=none/\r.frz=[]/\RdA E (if q then va else vb) r.val/\A7 r.given:=by
 unfold Sv at h;split at h
 ·cases h;refine⟨rfl,rfl,rfl,rfl, ?_,trivial⟩;cases q
  ·have:=hy rfl;cases this;exact .bool _
  ·have:=hx rfl;cases this;exact .bool _
 ·split at h
  ·rename_i hk;have:=Oq hk;subst this;cases h;refine⟨rfl,rfl,rfl,rfl, ?_,trivial⟩;cases q
   ·have:=hy rfl;cases this;exact .int _ _
   ·have:=hx rfl;cases this;exact .int _ _
  ·cases h
 ·cases h
theorem Aqc{c x y:Operand}(hc:RdA E (a.eval c) (e c))(hx:RdA E (a.eval x) (e x))(hy:RdA E (a.eval y) (e y))
 (hwx:∀s,c=.tmp s->∀q w v,e x=.when q s w v->a.eval (.tmp s)=.bool w->q)(hwy:∀s,c=.tmp s->∀q w v,e y=.when q s w v->a.eval (.tmp s)=.bool w->q)
 (h:evOp cx P e H n ⟨dst,.pick c x y,ty,pos,after,guard⟩=some r):PureRun P E a ⟨dst,.pick c x y,ty,pos,after,guard⟩ r:=by
 simp only[evOp]at h;split at h
 ·rename_i q hq;split at h
  ·rename_i s;rw[hq]at hc;have hs:a.eval (.tmp s)=.bool q:=by
    revert hc
    generalize a.eval (.tmp s)=vv;intro hc;cases hc;rfl
   obtain⟨h1,h2,h3,h4,h5,h6⟩:=Ai7 (va:=a.eval x) (vb:=a.eval y) h (λhq'=>Mi hx (hwx _ rfl) (hq' ▸ hs)) (λhq'=>Mi hy (hwy _ rfl) (hq' ▸ hs));exact⟨h1,h2,h3,h4,_,by simp[execOp,hs,asBool],h5,h6⟩
  ·cases h
 ·cases h
theorem Vk{x:Operand}{i:Nat}(hx:RdA E (a.eval x) (e x))(h:evOp cx P e H n ⟨dst,.extract x i,ty,pos,after,guard⟩=some r):PureRun P E a ⟨dst,.extract x i,ty,pos,after,guard⟩ r:=by
 simp only[evOp]at h;split at h
 ·rename_i vs hv;split at h
  ·rename_i hlt;cases h;rw[hv]at hx;generalize hval:a.eval x=val at hx;cases hx;rename_i us hsz hr;have hlt':i<vs.length:=cB hlt;have h1:us[i]?=some (us[i]'(by omega)):=cF (by omega);refine⟨rfl,rfl,rfl,rfl,us[i]'(by omega), ?_,hr i _ _ h1 (C1 hlt'),trivial⟩;simp[execOp,hval,Instr.extract,h1]
  ·cases h
 ·cases h
theorem P3{l:Array Operand}(h:∀x∈l.toList,RdA E (a.eval x) (e x)):(l.map a.eval).size=(l.toList.map e).length/\
 ∀(i:Nat) v x,(l.map a.eval)[i]?=some v->(l.toList.map e)[i]?=some x->RdA E v x:=by
 refine⟨by simp,λi v x hv hx=>?_⟩;simp only[gB,bC]at hv;obtain⟨y,hy,rfl⟩:=hv;simp only[cL,bC]at hx;obtain⟨z,hz,rfl⟩:=hx;have:l.toList[i]?=some y:=by simpa using hy
 rw[this]at hz;cases hz;exact h y (cR this)
theorem S5{f:Fn}{xs ys:Array Operand}(h1:∀x∈xs.toList,RdA E (a.eval x) (e x))(h2:∀x∈ys.toList,RdA E (a.eval x) (e x))
 (h:evOp cx P e H n ⟨dst,.makeFunc f xs ys,ty,pos,after,guard⟩=some r):PureRun P E a ⟨dst,.makeFunc f xs ys,ty,pos,after,guard⟩ r:=by
 simp only[evOp,aU]at h;subst h;refine⟨rfl,rfl,rfl,rfl,.func f (xs.map a.eval) (ys.map a.eval),by simp[execOp,Instr.makeFunc], ?_,trivial⟩;exact .fn f _ _ _ _ (P3 h1).1 (P3 h2).1 (P3 h1).2 (P3 h2).2
theorem S6{x:Operand}(hx:RdA E (a.eval x) (e x))
 (h:evOp cx P e H n ⟨dst,.nilCheck x,ty,pos,after,guard⟩=some r):PureRun P E a ⟨dst,.nilCheck x,ty,pos,after,guard⟩ r:=by
 simp only[evOp]at h;split at h
 ·rename_i id off hv;cases h;have hx':=hx;rw[hv]at hx;obtain⟨b,o,h3⟩:=hx.ptr_inv.2.1;exact⟨rfl,rfl,rfl,rfl,a.eval x,by simp[execOp,h3],by rw[<-hv];exact hx',trivial⟩
 ·rename_i id k row off hv;cases h;have hx':=hx;rw[hv]at hx;obtain⟨b,o,h3⟩:=hx.rptr_inv.2.1;exact⟨rfl,rfl,rfl,rfl,a.eval x,by simp[execOp,h3],by rw[<-hv];exact hx',trivial⟩
 ·rename_i cs hv;cases h;have hx':=hx;rw[hv]at hx;generalize hval:a.eval x=val at hx;cases hx;exact⟨rfl,rfl,rfl,rfl,a.eval x,by simp[execOp,hval],by rw[<-hv];exact hx',trivial⟩
 ·rename_i f xs ys hv;cases h;have hx':=hx;rw[hv]at hx;generalize hval:a.eval x=val at hx;cases hx;exact⟨rfl,rfl,rfl,rfl,a.eval x,by simp[execOp,hval],by rw[<-hv];exact hx',trivial⟩
 ·cases h
theorem Mj{k:IntKind}{m:Int}(h:inK k m):k.wrap m=m:=by
 cases k<;>simp only[inK]at h<;>simp[IntKind.wrap,IntKind.bits,IntKind.signed]<;>(try split)<;>omega
theorem Ai8{op:BinOp}{k:IntKind}{p q:Int}{t:TypeId}(h:Su op k p q=some r)(hn:A7 r.need):
 r.news=[]/\r.kill=none/\r.st=none/\r.frz=[]/\A7 r.given/\∃v,(binOp op t (.int k p) (.int k q)).run P E.w=.ok v E.w/\RdA E v r.val:=by
 cases op<;>simp only[Su,aU,reduceCtorEq]at h<;>subst h<;>refine⟨rfl,rfl,rfl,rfl,trivial, ?_⟩<;>simp only[A7]at hn
 ·exact⟨_,by simp[binOp,Op.intArith,Mj hn],.int _ _⟩
 ·exact⟨_,by simp[binOp,Op.intArith,Mj hn],.int _ _⟩
 ·exact⟨_,by simp[binOp,Op.intArith,Mj hn],.int _ _⟩
 ·exact⟨_,by simp[binOp,Op.intDiv,Mj hn.2,hn.1],.int _ _⟩
 ·exact⟨_,by simp[binOp,Op.intDiv,hn],.int _ _⟩
 ·exact⟨_,by simp[binOp,Op.intBits,C8],.int _ _⟩
 ·exact⟨_,by simp[binOp,Op.intBits,Dc],.int _ _⟩
 ·exact⟨_,by simp[binOp,Op.intBits,Apg],.int _ _⟩
 ·exact⟨_,by simp[binOp,Op.shift,Dd,fK.2 hn],.int _ _⟩
 ·exact⟨_,by simp[binOp,Op.shift,Nv,fK.2 hn],.int _ _⟩
 ·exact⟨.bool (decide (p=q)),by simp[binOp,Op.intCmp];rw[Bool.eq_iff_iff];simp,.bool _⟩
 ·exact⟨.bool (!decide (p=q)),by simp[binOp,Op.intCmp];rw[Bool.eq_iff_iff];simp,.bool _⟩
 ·exact⟨_,by simp[binOp,Op.intCmp],.bool _⟩
 ·exact⟨_,by simp[binOp,Op.intCmp],.bool _⟩
 ·exact⟨_,by simp[binOp,Op.intCmp],.bool _⟩
 ·exact⟨_,by simp[binOp,Op.intCmp],.bool _⟩
theorem Agj{w:Bool}{op:BinOp}{k:IntKind}{p q:Int}{t:TypeId}(h:Nw w op k p q=some r)(hn:A7 r.need):
 r.news=[]/\r.kill=none/\r.st=none/\r.frz=[]/\A7 r.given/\∃v,(binOp op t (.int k p) (.int k q)).run P E.w=.ok v E.w/\RdA E v r.val:=by
 unfold Nw at h;split at h
 ·cases h;exact⟨rfl,rfl,rfl,rfl,trivial,_,by simp[binOp,Op.intArith],.int _ _⟩
 ·exact Ai8 h hn
theorem Ai9{op:UnOp}{t:TypeId}{x:Operand}(hx:RdA E (a.eval x) (e x))(hn:A7 r.need)
 (h:evOp cx P e H n ⟨dst,.unOp op t x,ty,pos,after,guard⟩=some r):PureRun P E a ⟨dst,.unOp op t x,ty,pos,after,guard⟩ r:=by
 simp only[evOp]at h;split at h
 ·rename_i b hv;cases h;rw[hv]at hx;generalize hval:a.eval x=val at hx;cases hx;exact⟨rfl,rfl,rfl,rfl,_,by simp[execOp,hval,Op.unary],.bool _,trivial⟩
 ·rename_i k m hv;cases h;rw[hv]at hx;generalize hval:a.eval x=val at hx;cases hx;simp only[A7]at hn;refine⟨rfl,rfl,rfl,rfl,.int k (0-m), ?_,.int _ _,trivial⟩;simp only[execOp,hval,Op.unary,Op.intArith,Mj hn];rfl
 ·cases h
theorem Vl{s d:TypeId}{x:Operand}(hx:RdA E (a.eval x) (e x))(hn:A7 r.need)
 (h:evOp cx P e H n ⟨dst,.convert s d x,ty,pos,after,guard⟩=some r):PureRun P E a ⟨dst,.convert s d x,ty,pos,after,guard⟩ r:=by
 simp only[evOp]at h;split at h
 ·rename_i k0 k q m hs hd hv;cases h;rw[hv]at hx;generalize hval:a.eval x=val at hx;cases hx;simp only[A7]at hn;refine⟨rfl,rfl,rfl,rfl,.int k m, ?_,.int _ _,trivial⟩;simp[execOp,hval,convert,run_underlying hs,run_underlying hd,Conv.intToInt,Mj hn]
 ·cases h
end
end Go.Sx
namespace Go.Sx
open Go.RowKit
section
variable {P:Program}{cx:Ctx}{E:Env}{a:Act}{e:Operand->AV}{H:List Ob}{n:Nat}{r:Res}
 {dst:Option Tmp}{ty:TypeId}{pos:String}{after:Array Go.Edge}{guard:Option (Nat×Bool)}
theorem CellsAt.of_box{id:Nat}{cs:List AV}(h:OkOb E id (.cells cs)):∃hd,E.ρ id=some hd/\CellsAt E hd.blk 0 cs:=by
 obtain⟨hd,h1,arr,el,h2,h3,h4⟩:=h;refine⟨hd,h1,λj x hx=>?_⟩;have hj:j<arr.size:=by rw[h3];exact(aW.1 hx).1
 have hv:arr[j]?=some arr[j]:=cF hj;refine⟨arr[j], ?_,h4 j _ x hv hx⟩;simp[World.cell?,h2,hv]
theorem Az(t:Ty)(xs:List t.den):(flat t xs).length=xs.length*t.size:=by
 unfold flat
 induction xs with
 |nil=>simp
 |cons x l ih=>simp[Aw,ih,cS,fN]
theorem Cv(t:Ty)(xs ys:List t.den):flat t (xs++ys)=flat t xs++flat t ys:=by simp[flat]
theorem Dw(t:Ty):∀(xs:List t.den)(m:Nat),flat t (xs.drop m)=(flat t xs).drop (m*t.size)
 |[],m=>by simp[flat]
 |x::l,0=>by simp
 |x::l,m+1=>by
  have h1:flat t (x::l)=enc t x++flat t l:=by simp[flat]
  rw[h1,List.drop_succ_cons,Dw t l m,cS,gY,fN,<-gW,List.drop_left' (Aw t x)]
theorem Dx(t:Ty):∀(xs:List t.den)(m:Nat),flat t (xs.take m)=(flat t xs).take (m*t.size)
 |[],m=>by simp[flat]
 |x::l,0=>by simp[flat]
 |x::l,m+1=>by
  have h1:flat t (x::l)=enc t x++flat t l:=by simp[flat]
  have h2:flat t (x::l.take m)=enc t x++flat t (l.take m):=by simp[flat]
  rw[h1,fJ,h2,Dx t l m,cS,gY,List.take_append,bL (l:=enc t x) (by rw[Aw];omega),Aw,
   Nat.add_sub_cancel]
theorem Ot(t:Ty)(xs:List t.den)(i:Nat)(hi:i<xs.length)(d:t.den):∀j p,(enc t (xs.getD i d))[j]?=some p->(flat t xs)[i*t.size+j]?=some p:=by
 intro j p hp;have h1:=Dw t xs i;have h2:xs.drop i=xs[i]::xs.drop (i+1):=cG hi;have h3:xs.getD i d=xs[i]:=by simp[List.getD,hi]
 rw[h3]at hp;have h4:((flat t xs).drop (i*t.size))[j]?=some p:=by
  rw[<-h1,h2];have:flat t (xs[i]::xs.drop (i+1))=enc t xs[i]++flat t (xs.drop (i+1)):=by simp only[flat,fB]
  rw[this,bX (by exact(aW.1 hp).1)];exact hp
 rw[cK]at h4;exact h4
theorem CellsAt.of_row{t:Ty}{xs:List t.den}{hd:Hdr}(h:RowsAt E t xs (some hd)){i:Nat}(hi:i<hd.len):
 CellsAt E hd.blk (hd.off+i*t.size) ((enc t (xs.getD i (Ab t))).map up):=by
 obtain⟨h1,h2,h3,h3',arr,el,h4,h5,h6⟩:=h;intro j x hx;simp only[cL,bC]at hx;obtain⟨p,hp,rfl⟩:=hx;obtain⟨v,hv,hr⟩:=h6 _ p (Ot t xs i (by omega) (Ab t) j p hp);refine⟨v, ?_,hr.one,.up hr⟩;simp only[World.cell?,h4];simpa[eK]using hv
theorem Aja{t:TypeId}{x:Operand}(hL:∀id,E.A id->Ac H id≠.dead->E.L id)(hH:∀id,E.L id->Ac H id≠.dead->OkOb E id (Ac H id))(hx:RdA E (a.eval x) (e x))(hn:A7 r.need)
 (h:evOp cx P e H n ⟨dst,.load t x,ty,pos,after,guard⟩=some r):PureRun P E a ⟨dst,.load t x,ty,pos,after,guard⟩ r:=by
 have fin:∀(b o off:Nat)(cs:List AV),a.eval x=.pointer (some ⟨b,o+off,none⟩)->CellsAt E b o cs->(Eu P t cs off).map Res.pure=some r->PureRun P E a ⟨dst,.load t x,ty,pos,after,guard⟩ r:=by
  intro b o off cs hv hc hr;simp only[bC]at hr;obtain⟨y,hy,rfl⟩:=hr;obtain⟨v,h1,h2⟩:=N4 (P:=P) hc hy;exact⟨rfl,rfl,rfl,rfl,v,by simp[execOp,hv,Instr.loadAt,Instr.sureAddr,h1],h2,trivial⟩
 have row:∀(id k row off:Nat)(t':Ty)(xs:List t'.den),RowsAt E t' xs (E.ρ id)->E.L id->RdA E (a.eval x) (.rptr id k row off)->
  (if Nat.beq k t'.size then(Eu P t ((enc t' (xs.getD row (Ab t'))).map up) off).map Res.pure else none)=some r->PureRun P E a ⟨dst,.load t x,ty,pos,after,guard⟩ r:=by
  intro id k row off t' xs hrow hl hx h;split at h
  ·rename_i hk;have hk':=bB hk;subst hk';generalize hval:a.eval x=val at hx;obtain⟨hA,h1,hp⟩:=hx.rptr_inv;obtain⟨hd,h2,h3,h4⟩:=hp hl;rw[h2]at hrow;exact fin _ _ _ _ (hval.trans h4) (.of_row hrow h3) h
  ·cases h
 simp only[evOp]at h;split at h
 ·rename_i id off hv;rw[hv]at hx;split at h
  ·rename_i cs hob;generalize hval:a.eval x=val at hx;obtain⟨hA,h1,hp⟩:=hx.ptr_inv;have hne:Ac H id≠.dead:=by rw[hob];simp
   have hl:=hL id hA hne;obtain⟨hd,h2,h3⟩:=hp hl;have hok:=hH id hl hne;rw[hob]at hok;obtain⟨hd',h4,h5⟩:=CellsAt.of_box hok;rw[h2]at h4;cases h4;exact fin _ 0 off cs (by rw[hval,h3,dF]) h5 h
  ·cases h
 ·rename_i id k row' off hv;rw[hv]at hx;have hA:E.A id:=hx.rptr_inv.1;split at h
  ·rename_i t' xs hob;have hne:Ac H id≠.dead:=by rw[hob];simp
   have hl:=hL id hA hne;have hok:=hH id hl hne;rw[hob]at hok;exact row id k row' off t' xs hok hl hx h
  ·rename_i t' xs hob;have hne:Ac H id≠.dead:=by rw[hob];simp
   have hl:=hL id hA hne;have hok:=hH id hl hne;rw[hob]at hok;exact row id k row' off t' xs hok hl hx h
  ·rename_i gt m xss hob;split at h
   ·rename_i hc;have h0:=(Option.some.inj h).symm;subst h0;simp only[aS]at hc;obtain⟨hk,ho,hsl⟩:=hc;have hk':=bB hk;have ho':=bB ho;subst hk';subst ho';have hne:Ac H id≠.dead:=by rw[hob];simp
    have hl:=hL id hA hne;have hok:=hH id hl hne;rw[hob]at hok;obtain⟨hd,hρ,hg⟩:=hok;obtain⟨hd',hρ',hlt,hval⟩:=hx.rptr_inv.2.2 hl;rw[hρ]at hρ';cases hρ';obtain⟨arr,el,g1,g2,g3,g4⟩:=hg.head;obtain⟨o,v,k1,k2,k3⟩:=g3 row' hn;have hone:v.oneCell'=true:=by
     cases o with
     |none=>obtain⟨ba,rfl⟩:=k3;rfl
     |some h'=>have:v=.slice (some ⟨h'.blk,h'.off,none⟩) h'.len h'.cap:=k3;rw[this];rfl
    have hca:CellsAt E hd.blk (hd.off+row') [.grow id row']:=by
     intro j x hx
     match j,hx with
     |0,hx=>
      cases hx;exact⟨v,by simp[World.cell?,g1,k2],hone,.grow v id row' hA hone λ_=>⟨o,k1,k3⟩⟩
    have hread:Eu P t [.grow id row'] 0=some (.grow id row'):=by
     unfold Y3 at hsl;split at hsl
     ·rename_i e1 hu;obtain⟨i,hi⟩:=fG.1 hsl;unfold Eu;rw[hu,hi];rfl
     ·cases hsl
    obtain⟨u,h1,h2⟩:=N4 (P:=P) hca hread;rw[fX,dH]at hval;rw[dH]at h1;exact⟨rfl,rfl,rfl,rfl,u,by simp[execOp,hval,Instr.loadAt,Instr.sureAddr,h1],h2,trivial⟩
   ·cases h
  ·cases h
 ·rename_i id gi gj hv;rw[hv]at hx;have hA:E.A id:=hx.gptr_inv.1;split at h
  ·rename_i gt m xss hob;split at h
   ·rename_i hk;have hne:Ac H id≠.dead:=by rw[hob];simp
    have hl:=hL id hA hne;have hok:=hH id hl hne;rw[hob]at hok;obtain⟨hd,hρ,hg⟩:=hok;obtain⟨h',hK',hlt,hval⟩:=hx.gptr_inv.2.2 hl;have hgi:gi<xss.length:=by
     rcases cN gi xss.length with h|h
     ·exact h
     ·rw[hg.past gi h]at hK';cases hK'
    obtain⟨o,k1,k2⟩:=hg.rows gi _ (aR hgi);rw[hK']at k1;cases k1;have hsz:=bB hk;have hc:=CellsAt.of_row k2 hlt;have hgd:xss.getD gi []=xss[gi]:=by simp[List.getD,hgi]
    rw[hgd]at h;refine fin h'.blk (h'.off+gj*gt.size) 0 _ ?_ hc h;rw[hval,hsz,fX,dH]
   ·cases h
  ·cases h
 ·rename_i cs hv;rw[hv]at hx;generalize hval:a.eval x=val at hx;cases hx;rename_i b o g hcell hrd;refine fin b o 0 (cs.map up) (by rw[hval,dH]) (λj y hy=>?_) h;simp only[cL,bC]at hy;obtain⟨p,hp,rfl⟩:=hy;have hr:=hrd j p hp;exact⟨g j,(hcell j (aW.1 hp).1).2,hr.one,.up hr⟩
 ·cases h
theorem L0{t:TypeId}{f ft d:Nat}(h:Ss P t f=some (ft,d)):∃fs fl,P.underlying t=some (.struct fs)/\fs[f]?=some fl/\fl.type=ft/\fl.offset=d:=by
 unfold Ss at h;split at h
 ·rename_i fs hu;simp only[bC,bG]at h;obtain⟨fl,h1,h2,h3⟩:=h;exact⟨fs,fl,hu,h1,h2,h3⟩
 ·cases h
theorem Agk{t:TypeId}(h:¬(Nat.beq (Bk P t) 0=true)):∃i,P.info? t=some i/\i.size≠0:=by
 unfold Bk at h;split at h
 ·rename_i i hi;exact⟨i,hi,λh0=>h (by rw[h0];rfl)⟩
 ·exact aT rfl h
theorem Q5{t:TypeId}{x:Operand}{f:Nat}(hx:RdA E (a.eval x) (e x))
 (h:evOp cx P e H n ⟨dst,.fieldAddr t x f,ty,pos,after,guard⟩=some r):PureRun P E a ⟨dst,.fieldAddr t x f,ty,pos,after,guard⟩ r:=by
 simp only[evOp]at h;split at h
 ·rename_i ft d hf;obtain⟨fs,fl,hu,hfl,h1,h2⟩:=L0 hf;split at h
  ·cases h
  ·rename_i hz;obtain⟨i,hi,hi0⟩:=Agk hz;have run:∀b o,a.eval x=.pointer (some ⟨b,o,none⟩)->(execOp a.eval ⟨dst,.fieldAddr t x f,ty,pos,after,guard⟩).run P E.w=.ok (.value (.pointer (some ⟨b,o+d,none⟩))) E.w:=by
    intro b o hv;have hs:(sizeOf fl.type).run P E.w=.ok i.size E.w:=by simp[sizeOf,typeInfo,h1,hi]
    simp[execOp,hv,Instr.fieldAt,run_underlying hu,hfl,Instr.sureAddr,fieldPlace,hs,hi0,Cm,h2]
   split at h
   ·rename_i id off hv;cases h;rw[hv]at hx;have hval:∃b o,a.eval x=.pointer (some ⟨b,o,none⟩):=by
     exact hx.ptr_inv.2.1
    obtain⟨b,o,hval⟩:=hval;refine⟨rfl,rfl,rfl,rfl,_,run b o hval, ?_,trivial⟩;rw[hval]at hx;obtain⟨hA,h1,hp⟩:=hx.ptr_inv;refine .ptr _ id (off+d) hA ⟨_,_,rfl⟩ λhl=>?_
    obtain⟨hd,h3,h4⟩:=hp hl;simp only[Value.pointer.injEq,aU,Addr.mk.injEq,and_true]at h4;exact⟨hd,h3,by rw[h4.1,h4.2]⟩
   ·rename_i id k row off hv;cases h;rw[hv]at hx;have hval:∃b o,a.eval x=.pointer (some ⟨b,o,none⟩):=by
     exact hx.rptr_inv.2.1
    obtain⟨b,o,hval⟩:=hval;refine⟨rfl,rfl,rfl,rfl,_,run b o hval, ?_,trivial⟩;rw[hval]at hx;obtain⟨hA,h1,hp⟩:=hx.rptr_inv;refine .rptr _ id k row (off+d) hA ⟨_,_,rfl⟩ λhl=>?_
    obtain⟨hd,h3,h3',h4⟩:=hp hl;simp only[Value.pointer.injEq,aU,Addr.mk.injEq,and_true]at h4;exact⟨hd,h3,h3',by rw[h4.1,h4.2];simp[eK]⟩
   ·rename_i cs hv;cases h;rw[hv]at hx;generalize hval:a.eval x=val at hx;cases hx;rename_i b o g hcell hrd;refine⟨rfl,rfl,rfl,rfl,_,run b o hval, ?_,trivial⟩;refine .eptr b (o+d) (cs.drop d) (λj=>g (d+j)) (λj hj=>?_) (λj p hp=>?_)
    ·rw[cI]at hj;have:=hcell (d+j) (by omega);rw[eK];exact this
    ·rw[cK]at hp;exact hrd _ p hp
   ·cases h
 ·cases h
end
end Go.Sx
namespace Go.Sx
open Go.RowKit
section
variable {P:Program}{cx:Ctx}{E:Env}{a:Act}{e:Operand->AV}{H:List Ob}{n:Nat}{r:Res}
 {dst:Option Tmp}{ty:TypeId}{pos:String}{after:Array Go.Edge}{guard:Option (Nat×Bool)}
theorem L1{t:TypeId}{vs:Array Value}{cs:List AV}{off:Nat}{x:AV}(h:RdA E (.agg vs) (.agg cs))(hr:Eu P t cs off=some x):
 ∃v,(part t vs off).run P E.w=.ok v E.w/\RdA E v x:=by
 obtain⟨vs',hvs,hsz,h1,hrd⟩:=h.agg_inv;cases hvs;unfold Eu at hr;have agg:∀i,P.info? t=some i->(if Nat.ble (off+i.size) cs.length then some (AV.agg ((cs.drop off).take i.size))else none)=some x->
  ((isAgg t).run P E.w=.ok true E.w)->∃v,(part t vs off).run P E.w=.ok v E.w/\RdA E v x:=by
  intro i hi hx ha;split at hx
  ·rename_i hle;cases hx;have hle':off+i.size<=cs.length:=cB hle;refine⟨.agg (vs.extract off (off+i.size)),by simp[part,ha,sizeOf,typeInfo,hi],.agg _ _ ?_ ?_ ?_⟩
   ·simp;omega
   ·intro j v hv;have hj:j<(vs.extract off (off+i.size)).size:=(eH.1 hv).1;simp at hj;rw[Array.getElem?_extract,aP (by omega)]at hv;exact h1 _ _ hv
   ·intro j v y hv hy;have hj:j<(vs.extract off (off+i.size)).size:=(eH.1 hv).1;simp at hj;rw[Array.getElem?_extract,aP (by omega)]at hv;rw[cQ (by omega),cK]at hy;exact hrd _ _ _ hv hy
  ·cases hx
 cases hu:P.underlying t with
 |none=>simp[hu]at hr
 |some d=>
  cases hi:P.info? t with
  |none=>cases d<;>simp[hu,hi]at hr
  |some i=>
   have plain:(∀fs,d≠.struct fs)->(∀n e,d≠.array n e)->(if Nat.blt off cs.length then some (Aq AV.any cs off)else none)=some x->∃v,(part t vs off).run P E.w=.ok v E.w/\RdA E v x:=by
    intro h2 h3 hx;split at hx
    ·rename_i hlt;cases hx;have hlt':off<cs.length:=cB hlt;have hv:vs[off]?=some (vs[off]'(by omega)):=cF (by omega);have ha:(isAgg t).run P E.w=.ok false E.w:=by
      simp only[isAgg,Sem.run_bind];rw[run_underlying hu];simp only[Result.andThen_ok];cases d<;>first|rfl|(exact aT rfl (h2 _))|(exact aT rfl (h3 _ _))
     exact⟨vs[off]'(by omega),by simp[part,ha,hv],hrd _ _ _ hv (C1 hlt')⟩
    ·cases hx
   cases d<;>simp only[hu,hi]at hr<;>first
    |exact plain (λ_=>by simp) (λ_ _=>by simp) hr
    |exact agg i hi hr (by simp[isAgg,run_underlying hu])
theorem Aeh{t:TypeId}{x:Operand}{f:Nat}(hx:RdA E (a.eval x) (e x))
 (h:evOp cx P e H n ⟨dst,.field t x f,ty,pos,after,guard⟩=some r):PureRun P E a ⟨dst,.field t x f,ty,pos,after,guard⟩ r:=by
 simp only[evOp]at h;split at h
 ·rename_i ft d cs hf hv;obtain⟨fs,fl,hu,hfl,h1,h2⟩:=L0 hf;simp only[bC]at h;obtain⟨y,hy,rfl⟩:=h;rw[hv]at hx;generalize hval:a.eval x=val at hx;obtain⟨vs,hvs,_⟩:=hx.agg_inv;subst hvs;obtain⟨v,h3,h4⟩:=L1 hx hy;refine⟨rfl,rfl,rfl,rfl,v, ?_,h4,trivial⟩;subst h1;subst h2;simp[execOp,hval,Instr.field,run_underlying hu,hfl,asAgg,h3]
 ·cases h
theorem Ky{vs us:Array Value}{xs ys:List AV}(hx:RdA E (.agg vs) (.agg xs))(hy:RdA E (.agg us) (.agg ys))(d:Nat):
 ∀(fs:List Field)(b:Bool),fs.any (λf=>f.name == "_")=false->eqF P xs ys fs=some b->(Op.eqFields (d+1) vs us fs).run P E.w=.ok b E.w
 |[],b,_,h=>by
  cases h;simp[Op.eqFields]
 |f::fs,b,hn,h=>by
  simp only[eV,bJ,beq_eq_false_iff_ne,ne_eq]at hn;obtain⟨hn1,hn2⟩:=hn;simp only[eqF]at h;split at h
  ·rename_i k0 k a k' b' hu h1 h2;split at h
   ·rename_i hk;have:=Oq hk;subst this;simp only[bC]at h;obtain⟨r,hr,rfl⟩:=h;obtain⟨v1,e1,f1⟩:=L1 hx h1;obtain⟨v2,e2,f2⟩:=L1 hy h2;cases f1;cases f2;have ih:=Ky hx hy d fs r hn2 hr;by_cases hab:a=b'
    ·simp[Op.eqFields,hn1,e1,e2,run_equalIn_int _ d f.type _ _ _ _ hu,hab,ih]
    ·simp[Op.eqFields,hn1,e1,e2,run_equalIn_int _ d f.type _ _ _ _ hu,hab]
   ·cases h
  ·rename_i a b' hu h1 h2;simp only[bC]at h;obtain⟨r,hr,rfl⟩:=h;obtain⟨v1,e1,f1⟩:=L1 hx h1;obtain⟨v2,e2,f2⟩:=L1 hy h2;cases f1;cases f2;have ih:=Ky hx hy d fs r hn2 hr;by_cases hab:a=b'
   ·simp[Op.eqFields,hn1,e1,e2,run_equalIn_bool _ d f.type _ _ hu,hab,ih]
   ·have hab':(a==b')=false:=by simpa using hab
    simp[Op.eqFields,hn1,e1,e2,run_equalIn_bool _ d f.type _ _ hu,hab']
  ·cases h
theorem Acd(x y:ByteArray):(x.toList==y.toList)=decide (x=y):=by
 rw[ByteArray.toList_eq,ByteArray.toList_eq];by_cases h:x=y
 ·subst h;simp
 ·have:¬x.data.toList=y.data.toList:=λe=>h (by cases x;cases y;simp only[ByteArray.mk.injEq];exact iD.1 e)
  rw[bE h];exact beq_eq_false_iff_ne.2 this
theorem Aqd(x y:ByteArray):Op.bytesLess x.toList y.toList=ltS x y:=by rw[ByteArray.toList_eq,ByteArray.toList_eq];rfl
theorem Ajb{op:BinOp}{t:TypeId}{x y:ByteArray}(h:Vg op x y=some r):
 ∃v b,r=.pure b/\(binOp op t (.string x) (.string y)).run P E.w=.ok v E.w/\RdA E v b:=by
 unfold Vg at h;split at h<;>first
  |(cases h;exact⟨_,_,rfl,by simp[binOp,Op.stringOp,Acd,Aqd],.bool _⟩)
  |cases h
theorem Aei{op:BinOp}{t u:TypeId}{x y:Operand}(hx:RdA E (a.eval x) (e x))(hy:RdA E (a.eval y) (e y))(hn:A7 r.need)
 (h:evOp cx P e H n ⟨dst,.binOp op t x y u,ty,pos,after,guard⟩=some r):PureRun P E a ⟨dst,.binOp op t x y u,ty,pos,after,guard⟩ r:=by
 simp only[evOp]at h;split at h
 ·rename_i k p k' q hvx hvy;split at h
  ·rename_i hk;have:=Oq hk;subst this;rw[hvx]at hx;rw[hvy]at hy;generalize hval:a.eval x=val at hx;generalize hval':a.eval y=val' at hy;cases hx;cases hy;obtain⟨h1,h2,h3,h4,h5,v,h6,h7⟩:=Agj (P:=P) (E:=E) (t:=t) h hn;refine⟨h1,h2,h3,h4,v, ?_,h7,h5⟩;have hg:(eqGuard op t x y (.int k p) (.int k q)).run P E.w=.ok () E.w:=by
    unfold eqGuard;split<;>simp
   simp[execOp,hval,hval',hg,h6]
  ·cases h
 ·rename_i p q hvx hvy;rw[hvx]at hx;rw[hvy]at hy;generalize hval:a.eval x=val at hx;generalize hval':a.eval y=val' at hy;cases hx;cases hy;have hg:(eqGuard op t x y (.bool p) (.bool q)).run P E.w=.ok () E.w:=by
   unfold eqGuard;split<;>simp
  split at h
  ·rename_i hu;cases h;exact⟨rfl,rfl,rfl,rfl,_,by simp[execOp,hval,hval',hg,run_eql_bool _ _ _ _ hu],.bool _,trivial⟩
  ·rename_i hu;cases h;exact⟨rfl,rfl,rfl,rfl,_,by simp[execOp,hval,hval',hg,run_neq_bool _ _ _ _ hu],.bool _,trivial⟩
  ·cases h
 ·rename_i p q hvx hvy;rw[hvx]at hx;rw[hvy]at hy;generalize hval:a.eval x=val at hx;generalize hval':a.eval y=val' at hy;cases hx;cases hy;obtain⟨v,b,rfl,h6,h7⟩:=Ajb (P:=P) (E:=E) (t:=t) h;have hg:(eqGuard op t x y (.string p) (.string q)).run P E.w=.ok () E.w:=by
   unfold eqGuard;split<;>simp
  exact⟨rfl,rfl,rfl,rfl,v,by simp[execOp,hval,hval',hg,h6],h7,trivial⟩
 ·rename_i xs ys hvx hvy;rw[hvx]at hx;rw[hvy]at hy;generalize hval:a.eval x=val at hx;generalize hval':a.eval y=val' at hy;obtain⟨vs,hvs,_⟩:=hx.agg_inv;obtain⟨us,hus,_⟩:=hy.agg_inv;subst hvs;subst hus;split at h
  ·rename_i fs hu;split at h
   ·rename_i b hb;have fin:Aec P t fs.toList=false->(eqGuard op t x y (.agg vs) (.agg us)).run P E.w=.ok () E.w/\(Op.equalIn 10000 t (.agg vs) (.agg us)).run P E.w=.ok b E.w:=by
     intro ho;simp only[Aec,bJ]at ho;obtain⟨o1,o2,o3⟩:=ho;have hf:P.fieldsOf t=fs:=by unfold Program.fieldsOf;rw[hu]
     refine⟨run_eqGuard_agg E.w op t x y vs us o2, ?_⟩;rw[show(10000:Nat)=9999+1 from rfl,run_equalIn_struct E.w 9999 t vs us (by rw[hf];exact hu) o1,hf];exact Ky hx hy 9998 fs.toList b o3 hb
    split at h
    ·cases h;obtain⟨h1,h2⟩:=fin hn;exact⟨rfl,rfl,rfl,rfl,_,by simp[execOp,hval,hval',h1,run_eql_struct,h2],.bool _,trivial⟩
    ·cases h;obtain⟨h1,h2⟩:=fin hn;exact⟨rfl,rfl,rfl,rfl,_,by simp[execOp,hval,hval',h1,run_neq_struct,h2],.bool _,trivial⟩
    ·cases h
   ·cases h
  ·cases h
 ·cases h
theorem Bs{t:TypeId}{m:Nat}(h:Nat.beq (Bk P t) m=true)(hm:0<m):∃i,P.info? t=some i/\i.size=m:=by
 have h':=bB h;unfold Bk at h';split at h'
 ·rename_i i hi;exact⟨i,hi,h'⟩
 ·omega
theorem Aej{t:TypeId}{x ix:Operand}(hx:RdA E (a.eval x) (e x))(hix:RdA E (a.eval ix) (e ix))(hn:A7 r.need)
 (h:evOp cx P e H n ⟨dst,.index t x ix,ty,pos,after,guard⟩=some r):PureRun P E a ⟨dst,.index t x ix,ty,pos,after,guard⟩ r:=by
 simp only[evOp]at h;split at h
 ·rename_i s k i hu hvx hvi;rw[hvx]at hx;rw[hvi]at hix;cases h;simp only[A7]at hn;obtain⟨h0,h1⟩:=hn;have e1:a.eval x=.string s:=by generalize hval:a.eval x=val at hx;cases hx;rfl
  have e2:=hix.int_inv;have hlt:i.toNat<s.size:=by omega
  have hgt:s[i.toNat]?=some (s.data.toList.getD i.toNat 0):=by
   rw[getElem?_pos s i.toNat hlt];have hl:i.toNat<s.data.toList.length:=by simpa using hlt
   simp[List.getD,aR hl];rfl
  exact⟨rfl,rfl,rfl,rfl,_,by simp[execOp,e1,e2,Instr.index,asIntOf,run_underlying hu,h0,hgt],.int _ _,trivial⟩
 ·cases h
theorem Dp{t elem:TypeId}{x ix:Operand}{b o len c sz:Nat}{k:IntKind}{i:Int}{info:TypeInfo}(hu:P.underlying t=some (.slice elem))(hi:P.info? elem=some info)(hs:info.size=sz)
 (hx:a.eval x=.slice (some ⟨b,o,none⟩) len c)(hix:a.eval ix=.int k i)(h0:0<=i)(h1:i<(len:Int)):
 (execOp a.eval ⟨dst,.indexAddr t x ix,ty,pos,after,guard⟩).run P E.w=.ok (.value (.pointer (some ⟨b,o+i.toNat*sz,none⟩))) E.w:=by
 have hs':(sizeOf elem).run P E.w=.ok sz E.w:=by simp[sizeOf,typeInfo,hi,hs]
 simp[execOp,hx,hix,Instr.indexAt,asIntOf,run_underlying hu,h0,h1,hs',Cm]
theorem Q6{t:TypeId}{x ix:Operand}(hL:∀id,E.A id->Ac H id≠.dead->E.L id)(hH:∀id,E.L id->Ac H id≠.dead->OkOb E id (Ac H id))
 (hx:RdA E (a.eval x) (e x))(hix:RdA E (a.eval ix) (e ix))(hn:A7 r.need)
 (h:evOp cx P e H n ⟨dst,.indexAddr t x ix,ty,pos,after,guard⟩=some r):PureRun P E a ⟨dst,.indexAddr t x ix,ty,pos,after,guard⟩ r:=by
 have own:∀(elem:TypeId)(k:IntKind)(i:Int)(id:Nat)(t':Ty)(xs:List t'.den),P.underlying t=some (.slice elem)->e ix=.int k i->e x=.own id->RowsAt E t' xs (E.ρ id)->E.L id->
  (if Nat.beq (Bk P elem) t'.size then some (⟨some (0<=i/\i<(xs.length:Int)),none,.rptr id t'.size i.toNat 0,[],none,none,[]⟩:Res)else none)=some r->PureRun P E a ⟨dst,.indexAddr t x ix,ty,pos,after,guard⟩ r:=by
  intro elem k i id t' xs hu hki hvx hrow hl h;split at h
  ·rename_i hk;cases h;obtain⟨info,hi,hs⟩:=Bs hk (Bh t');simp only[A7]at hn;rw[hvx]at hx;rw[hki]at hix;obtain⟨hA,h1,hp⟩:=hx.own_inv;have hp:=hp hl;cases hρ:E.ρ id with
   |none=>
    rw[hρ]at hrow;have:xs=[]:=hrow;subst this;simp at hn;omega
   |some hd=>
    rw[hρ]at hrow hp;have hlen:hd.len=xs.length:=hrow.1;have hv:a.eval x=.slice (some ⟨hd.blk,hd.off,none⟩) hd.len hd.cap:=hp;have hr:=Dp (dst:=dst) (ty:=ty) (pos:=pos) (after:=after) (guard:=guard) (E:=E) hu hi hs hv hix.int_inv hn.1 (by rw[hlen];exact hn.2);refine⟨rfl,rfl,rfl,rfl,_,hr, ?_,trivial⟩;exact .rptr _ id t'.size i.toNat 0 hA ⟨_,_,rfl⟩ λ_=>⟨hd,hρ,by omega,rfl⟩
  ·cases h
 simp only[evOp]at h;split at h
 ·rename_i elem k i hu hki;split at h
  ·rename_i t' xs hvx;split at h
   ·rename_i hk;cases h;obtain⟨info,hi,hs⟩:=Bs hk (Bh t');simp only[A7]at hn;rw[hvx]at hx;rw[hki]at hix;have hx:=hx.sl_inv;rcases hx.sl_inv with⟨hnil,_⟩|⟨b,o,c,g,hval,hc,hl,hcell,hrd⟩
    ·subst hnil;simp at hn;omega
    ·have hr:=Dp (dst:=dst) (ty:=ty) (pos:=pos) (after:=after) (guard:=guard) (E:=E) hu hi hs hval hix.int_inv hn.1 hn.2;refine⟨rfl,rfl,rfl,rfl,_,hr, ?_,trivial⟩;have hlt:i.toNat<xs.length:=by omega
     refine .eptr _ _ _ (λj=>g (i.toNat*t'.size+j)) (λj hj=>?_) (λj p hp=>hrd _ p (Ot t' xs i.toNat hlt _ j p hp));rw[Aw]at hj;have h1:i.toNat*t'.size+j<(flat t' xs).length:=by
      rw[Az]
      calc i.toNat*t'.size+j<i.toNat*t'.size+t'.size:=by omega
       _=(i.toNat+1)*t'.size:=by rw[cS,gY]
       _<=xs.length*t'.size:=cY _ hlt
     have:=hcell _ h1;rw[eK];exact this
   ·cases h
  ·rename_i id hvx;have hA:E.A id:=by rw[hvx]at hx;exact hx.own_inv.1
   split at h
   ·rename_i t' xs hob;have hne:Ac H id≠.dead:=by rw[hob];simp
    have hl:=hL id hA hne;have hok:=hH id hl hne;rw[hob]at hok;exact own elem k i id t' xs hu hki hvx hok hl h
   ·rename_i t' xs hob;have hne:Ac H id≠.dead:=by rw[hob];simp
    have hl:=hL id hA hne;have hok:=hH id hl hne;rw[hob]at hok;exact own elem k i id t' xs hu hki hvx hok hl h
   ·rename_i gt m xss hob;have hne:Ac H id≠.dead:=by rw[hob];simp
    have hl:=hL id hA hne;have hok:=hH id hl hne;rw[hob]at hok;obtain⟨hd,hρ,hg⟩:=hok;split at h
    ·rename_i hk;cases h;obtain⟨info,hi,hs⟩:=Bs hk (by decide);simp only[A7]at hn;rw[hvx]at hx;rw[hki]at hix;obtain⟨_,h1,hp⟩:=hx.own_inv;have hp:=hp hl;rw[hρ]at hp;have hv:a.eval x=.slice (some ⟨hd.blk,hd.off,none⟩) hd.len hd.cap:=hp;have hr:=Dp (dst:=dst) (ty:=ty) (pos:=pos) (after:=after) (guard:=guard) (E:=E) hu hi hs hv hix.int_inv hn.1 (by rw[hg.len];exact hn.2);refine⟨rfl,rfl,rfl,rfl,_,hr, ?_,trivial⟩;exact .rptr _ id 1 i.toNat 0 hA ⟨_,_,rfl⟩ λ_=>⟨hd,hρ,by rw[hg.len];omega,by simp⟩
    ·cases h
   ·cases h
  ·rename_i id gi hvx;have hA:E.A id:=by rw[hvx]at hx;exact hx.grow_inv.1
   split at h
   ·rename_i gt m xss hob;have hne:Ac H id≠.dead:=by rw[hob];simp
    have hl:=hL id hA hne;have hok:=hH id hl hne;rw[hob]at hok;obtain⟨hd,hρ,hg⟩:=hok;split at h
    ·rename_i hk;simp only[aS]at hk;cases h;obtain⟨info,hi,hs⟩:=Bs hk.1 (by decide);simp only[A7]at hn;obtain⟨n1,n2,n3⟩:=hn;rw[hvx]at hx;rw[hki]at hix;obtain⟨o,k1,k2⟩:=hx.grow_inv.2.2 hl;obtain⟨o',k3,k4⟩:=hg.rows gi _ (aR n1);rw[k1]at k3;cases k3;have hgd:xss.getD gi []=xss[gi]:=by simp[List.getD,n1]
     rw[hgd]at n3;cases o with
     |none=>
      have:xss[gi]=[]:=k4;rw[this]at n3;simp at n3;omega
     |some h'=>
      have hv:a.eval x=.slice (some ⟨h'.blk,h'.off,none⟩) h'.len h'.cap:=k2;have hlen:h'.len=xss[gi].length:=k4.1;have hr:=Dp (dst:=dst) (ty:=ty) (pos:=pos) (after:=after) (guard:=guard) (E:=E) hu hi hs hv hix.int_inv n2 (by rw[hlen];exact n3);refine⟨rfl,rfl,rfl,rfl,_,hr, ?_,trivial⟩;exact .gptr _ id gi i.toNat hA ⟨_,_,rfl⟩ λ_=>⟨h',k1,by omega,by simp⟩
    ·cases h
   ·cases h
  ·rename_i ct id m hvx;split at h
   ·rename_i cs hob;split at h
    ·rename_i hk;cases h;obtain⟨info,hi,hs⟩:=Bs hk (by decide);simp only[A7]at hn;rw[hvx]at hx;rw[hki]at hix;obtain⟨hA,h1,hp⟩:=hx.csl_inv;have hl:=hL id hA (by rw[hob];simp);obtain⟨hd,hρ,hv⟩:=hp hl;have hr:=Dp (dst:=dst) (ty:=ty) (pos:=pos) (after:=after) (guard:=guard) (E:=E) hu hi hs hv hix.int_inv hn.1 hn.2;refine⟨rfl,rfl,rfl,rfl,_,hr, ?_,trivial⟩;exact .ptr _ id _ hA ⟨_,_,rfl⟩ λ_=>⟨hd,hρ,by simp⟩
    ·cases h
   ·cases h
  ·rename_i id k' lo len hvx;split at h
   ·cases h
   ·rename_i hne;split at h
    ·rename_i hk;cases h;simp only[aS]at hk;obtain⟨info,hi,hs⟩:=Bs hk.1 (cB hk.2);simp only[A7]at hn;rw[hvx]at hx;rw[hki]at hix;obtain⟨hA,h1,hp⟩:=hx.ownc_inv;have hl:=hL id hA hne;obtain⟨hd,hρ,h2,hv⟩:=hp hl;have hr:=Dp (dst:=dst) (ty:=ty) (pos:=pos) (after:=after) (guard:=guard) (E:=E) hu hi hs hv hix.int_inv hn.1 hn.2;refine⟨rfl,rfl,rfl,rfl,_,hr, ?_,trivial⟩;refine .rptr _ id k' (lo+i.toNat) 0 hA ⟨_,_,rfl⟩ λ_=>⟨hd,hρ,by omega, ?_⟩
     simp[cS,eK]
    ·cases h
  ·rename_i id k' lo len hvx;split at h
   ·cases h
   ·rename_i hne;split at h
    ·rename_i hk;cases h;simp only[aS]at hk;obtain⟨info,hi,hs⟩:=Bs hk.1 (cB hk.2);simp only[A7]at hn;rw[hvx]at hx;rw[hki]at hix;obtain⟨hA,h1,hp⟩:=hx.ownp_inv;have hl:=hL id hA hne;have hp:=hp hl;cases hρ:E.ρ id with
     |none=>
      rw[hρ]at hp;have:=hp.1;omega
     |some hd=>
      rw[hρ]at hp;obtain⟨h2,o,c,hv,h3,_,h4⟩:=hp;have hr:=Dp (dst:=dst) (ty:=ty) (pos:=pos) (after:=after) (guard:=guard) (E:=E) hu hi hs hv hix.int_inv hn.1 hn.2;refine⟨rfl,rfl,rfl,rfl,_,hr, ?_,trivial⟩;refine .rptr _ id k' (lo+i.toNat) 0 hA ⟨_,_,rfl⟩ λ_=>⟨hd,hρ,by omega, ?_⟩
      have:o=hd.off+lo*k':=h4.resolve_right (by omega);subst this;simp[cS,eK]
    ·cases h
  ·cases h
 ·rename_i len elem k i hu hki;split at h
  ·cases h
  ·rename_i info hi;split at h
   ·rename_i id off hvx;cases h;rw[hvx]at hx;rw[hki]at hix;simp only[A7]at hn;have hix':=hix.int_inv;obtain⟨hA,⟨b,o,hval⟩,hp⟩:=hx.ptr_inv;have hsize:(sizeOf elem).run P E.w=.ok (Bk P elem) E.w:=by simp[sizeOf,typeInfo,hi,Bk]
    refine⟨rfl,rfl,rfl,rfl,.pointer (some ⟨b,o+i.toNat*Bk P elem,none⟩), ?_, ?_,trivial⟩
    ·simp[execOp,hval,hix',Instr.indexAt,asIntOf,run_underlying hu,Instr.sureAddr,hn.1,hn.2,hsize,Cm]
    ·rw[hval]at hp;refine .ptr _ id _ hA ⟨_,_,rfl⟩ λhl=>?_
     obtain⟨hd,h3,h4⟩:=hp hl;simp only[Value.pointer.injEq,aU,Addr.mk.injEq,and_true]at h4;exact⟨hd,h3,by rw[h4.1,h4.2]⟩
   ·cases h
 ·cases h
theorem S7{t elem:TypeId}{x:Operand}{lo hi:Option Operand}{l h len c sz:Nat}{ba:Option Addr}{info:TypeInfo}(hu:P.underlying t=some (.slice elem))(hi':P.info? elem=some info)(hs:info.size=sz)
 (hx:a.eval x=.slice ba len c)(hlo:(lo=none/\l=0)\/∃o k,lo=some o/\a.eval o=.int k (l:Int))(hhi:(hi=none/\h=len)\/∃o k,hi=some o/\a.eval o=.int k (h:Int))(h1:l<=h)(h2:h<=c):
 (execOp a.eval ⟨dst,.slice t x lo hi none,ty,pos,after,guard⟩).run P E.w=.ok (.value (.slice (if c=l then ba else ba.map (·.add (l*sz))) (h-l) (c-l))) E.w:=by
 have hs':(sizeOf elem).run P E.w=.ok sz E.w:=by simp[sizeOf,typeInfo,hi',hs]
 have hb:(Instr.sliceBounds true len c (lo.map a.eval) (hi.map a.eval) none).run P E.w=.ok (l,h,c) E.w:=by
  rcases hlo with⟨rfl,rfl⟩|⟨o,k,rfl,ho⟩<;>rcases hhi with⟨rfl,rfl⟩|⟨o',k',rfl,ho'⟩ <;>
   simp[Instr.sliceBounds,Instr.sliceBound,asIntOf, *]<;>omega
 simp[execOp,hx,Instr.sliceAt,Instr.slice,run_underlying hu,hb,hs']
theorem J3{t elem:TypeId}{x:Operand}{lo hi:Option Operand}{l h len c sz:Nat}{ba:Option Addr}{info:TypeInfo}(hu:P.underlying t=some (.slice elem))(hi':P.info? elem=some info)(hs:info.size=sz)
 (hx:a.eval x=.slice ba len c)(hlo:(lo=none/\l=0)\/∃o k,lo=some o/\a.eval o=.int k (l:Int))(hhi:(hi=none/\h=len)\/∃o k,hi=some o/\a.eval o=.int k (h:Int))(h1:l<=h)(h2:h<=len)(h3:len<=c):
 (execOp a.eval ⟨dst,.slice t x lo hi none,ty,pos,after,guard⟩).run P E.w=.ok (.value (.slice (if c=l then ba else ba.map (·.add (l*sz))) (h-l) (c-l))) E.w:=by
 have hs':(sizeOf elem).run P E.w=.ok sz E.w:=by simp[sizeOf,typeInfo,hi',hs]
 have hb:(Instr.sliceBounds true len c (lo.map a.eval) (hi.map a.eval) none).run P E.w=.ok (l,h,c) E.w:=by
  rcases hlo with⟨rfl,rfl⟩|⟨o,k,rfl,ho⟩<;>rcases hhi with⟨rfl,rfl⟩|⟨o',k',rfl,ho'⟩ <;>
   simp[Instr.sliceBounds,Instr.sliceBound,asIntOf, *]<;>omega
 simp[execOp,hx,Instr.sliceAt,Instr.slice,run_underlying hu,hb,hs']
end
end Go.Sx
namespace Go.Sx
open Go.RowKit
section
variable {P:Program}{cx:Ctx}{E:Env}{a:Act}{e:Operand->AV}{H:List Ob}{n:Nat}{r:Res}
 {dst:Option Tmp}{ty:TypeId}{pos:String}{after:Array Go.Edge}{guard:Option (Nat×Bool)}
theorem Kz{o:Option Hdr}{v:Value}(h:P1 o v)(hle:∀hd,o=some hd->hd.len<=hd.cap):∃ba len c,v=.slice ba len c/\len<=c:=by
 cases o with
 |none=>obtain⟨ba,rfl⟩:=h;exact⟨_,_,_,rfl,bA _⟩
 |some hd=>exact⟨_,_,_,h,hle hd rfl⟩
theorem Mk{t:Ty}{xs:List t.den}{o:Option Hdr}(h:RowsAt E t xs o):∀hd,o=some hd->hd.len<=hd.cap:=by
 intro hd ho;subst ho;exact h.2.1
theorem Ze{t elem:TypeId}{x:Operand}{ba:Option Addr}{len c sz:Nat}{k k':IntKind}{info:TypeInfo}(hu:P.underlying t=some (.slice elem))(hi':P.info? elem=some info)(hs:info.size=sz)(hx:a.eval x=.slice ba len c):
 (execOp a.eval ⟨dst,.slice t x none (some (.const (.int k 0))) (some (.const (.int k' 0))),ty,pos,after,guard⟩).run P E.w=.ok (.value (.slice ba 0 0)) E.w:=by
 have hs':(sizeOf elem).run P E.w=.ok sz E.w:=by simp[sizeOf,typeInfo,hi',hs]
 have e1:a.eval (.const (.int k 0))=.int k 0:=rfl;have e2:a.eval (.const (.int k' 0))=.int k' 0:=rfl;simp[execOp,hx,Instr.sliceAt,Instr.slice,run_underlying hu,Instr.sliceBounds,Instr.sliceBound,asIntOf,hs',e1,e2]
theorem It{α:Type}{xs:List α}{len:Nat}{lo hi:Option Operand}{q:Prop}{l m:Nat}{ys:List α}(hlo:∀o,lo=some o->RdA E (a.eval o) (e o))(hhi:∀o,hi=some o->RdA E (a.eval o) (e o))
 (h:Lq xs len (lo.map e) (hi.map e)=some ⟨q,l,m,ys⟩)(hq:q)(hlen:xs.length=len):
 ∃h',l<=h'/\h'<=len/\m=h'-l/\ys=(xs.drop l).take m/\((lo=none/\l=0)\/∃o k,lo=some o/\a.eval o=.int k (l:Int))/\((hi=none/\h'=len)\/∃o k,hi=some o/\a.eval o=.int k (h':Int)):=by
 cases lo with
 |none=>
  cases hi with
  |none=>
   simp only[Lq,Option.map_none,aU,PartS.mk.injEq]at h;obtain⟨rfl,rfl,rfl,rfl⟩:=h;exact⟨len,by omega,by omega,by omega,by simp[<-hlen],.inl ⟨rfl,rfl⟩,.inl ⟨rfl,rfl⟩⟩
  |some o=>
   simp only[Option.map_none,eO]at h;have ho:=hhi o rfl;generalize heo:e o=eo at h ho;unfold Lq at h;split at h<;>try (first|(cases h;done)|contradiction)
   rename_i k hh h1 h2;cases h2;simp only[aU,PartS.mk.injEq]at h;obtain⟨rfl,rfl,rfl,rfl⟩:=h;refine⟨hh.toNat,by omega,by omega,by omega,by simp,.inl ⟨rfl,rfl⟩,.inr ⟨o,k,rfl, ?_⟩⟩;rw[ho.int_inv];congr 1;omega
 |some o=>
  have ho:=hlo o rfl;cases hi with
  |none=>
   simp only[Option.map_none,eO]at h;generalize heo:e o=eo at h ho;unfold Lq at h;split at h<;>try (first|(cases h;done)|contradiction)
   rename_i k ll h1 h2;cases h1;simp only[aU,PartS.mk.injEq]at h;obtain⟨rfl,rfl,rfl,rfl⟩:=h;refine⟨len,by omega,by omega,by omega, ?_,.inr ⟨o,k,rfl, ?_⟩,.inl ⟨rfl,rfl⟩⟩
   ·rw[bL];rw[cI];omega
   ·rw[ho.int_inv];congr 1;omega
  |some o'=>
   have ho':=hhi o' rfl;simp only[eO]at h;generalize heo:e o=eo at h ho;generalize heo':e o'=eo' at h ho';unfold Lq at h;split at h<;>try (first|(cases h;done)|contradiction)
   rename_i k ll k' hh h1 h2;cases h1;cases h2;simp only[aU,PartS.mk.injEq]at h;obtain⟨rfl,rfl,rfl,rfl⟩:=h;refine⟨hh.toNat,by omega,by omega,by omega,rfl,.inr ⟨o,k,rfl, ?_⟩,.inr ⟨o',k',rfl, ?_⟩⟩
   ·rw[ho.int_inv];congr 1;omega
   ·rw[ho'.int_inv];congr 1;omega
theorem Ajc{w:World}{F:Nat->Nat->Prop}{t:Ty}{xs:List t.den}{ba:Option Addr}{len c l m h':Nat}(hv:RdP w F (.slice ba len c) (.sl t xs))(h1:l<=h')(h2:h'<=len)(hm:m=h'-l)(hlen:xs.length=len):
 RdP w F (.slice (if c=l then ba else ba.map (·.add (l*t.size))) m (c-l)) (.sl t ((xs.drop l).take m)):=by
 rcases hv.sl_inv with⟨hnil,ba',c',hva⟩|⟨b,o,c',g,hva,hc,hl,hcell,hrd⟩
 ·subst hnil;simp only[Value.slice.injEq]at hva;have:m=0:=by omega
  subst this;simp only[hU,List.take_nil];exact .sl0 _ _ _
 ·simp only[Value.slice.injEq]at hva;obtain⟨rfl,rfl,rfl⟩:=hva;by_cases hm0:m=0
  ·subst hm0;simp only[gX];exact .sl0 _ _ _
  ·have hne:¬c=l:=by omega
   rw[aL hne];simp only[eO,Cm];have hfl:∀j p,(flat t ((xs.drop l).take m))[j]?=some p->(flat t xs)[l*t.size+j]?=some p:=by
    intro j p hp;rw[Dx,Dw]at hp;have hj:j<m*t.size:=by
     have:=(aW.1 hp).1;rw[bP]at this;omega
    rw[cQ hj,cK]at hp;exact hp
   refine .sl b (o+l*t.size) m (c-l) t _ (λj=>g (l*t.size+j)) ?_ (by omega) (by omega) (λj hj=>?_) (λj p hp=>hrd _ p (hfl j p hp))
   ·rw[bP,cI];omega
   ·have:=hfl j _ (aR hj);rw[eK];exact hcell _ (aW.1 this).1
theorem Aek{t:TypeId}{x:Operand}{lo hi mx:Option Operand}(hL:∀id,E.A id->Ac H id≠.dead->E.L id)(hH:∀id,E.L id->Ac H id≠.dead->OkOb E id (Ac H id))
 (hx:RdA E (a.eval x) (e x))(hlo:∀o,lo=some o->RdA E (a.eval o) (e o))(hhi:∀o,hi=some o->RdA E (a.eval o) (e o))(hmx:∀o,mx=some o->RdA E (a.eval o) (e o))(hn:A7 r.need)
 (h:evOp cx P e H n ⟨dst,.slice t x lo hi mx,ty,pos,after,guard⟩=some r):PureRun P E a ⟨dst,.slice t x lo hi mx,ty,pos,after,guard⟩ r:=by
 have own:∀(elem:TypeId)(id:Nat)(t':Ty)(xs:List t'.den),mx=none->P.underlying t=some (.slice elem)->e x=.own id->RowsAt E t' xs (E.ρ id)->E.L id->
  (if Nat.beq (Bk P elem) t'.size then(match Lq xs xs.length (lo.map e) (hi.map e)with|some ⟨q,l,m,_⟩=>some (⟨some q,none,.ownp id t'.size l m,[],none,none,[]⟩:Res)|none=>none)else none)=some r->
  PureRun P E a ⟨dst,.slice t x lo hi mx,ty,pos,after,guard⟩ r:=by
  intro elem id t' xs hmx hu hvx hrow hl hq;subst hmx;split at hq
  ·rename_i hk;obtain⟨info,hi',hs⟩:=Bs hk (Bh t');split at hq
   ·rename_i q l m ys hp;cases hq;simp only[A7]at hn;obtain⟨h',h1,h2,h3,h4,h5,h6⟩:=It (a:=a) (E:=E) hlo hhi hp hn rfl;rw[hvx]at hx;obtain⟨hA,_,hown⟩:=hx.own_inv;have hown:=hown hl;cases hρ:E.ρ id with
    |none=>
     rw[hρ]at hown hrow;obtain⟨ba,hba⟩:=hown;have:xs=[]:=hrow;subst this;simp only[List.length_nil]at h2 h6;have hr:=J3 (dst:=dst) (ty:=ty) (pos:=pos) (after:=after) (guard:=guard) (E:=E) hu hi' hs hba h5 h6 h1 h2 (bA _);refine⟨rfl,rfl,rfl,rfl,_,hr, ?_,trivial⟩;refine .ownp _ id _ l m hA rfl λ_=>?_
     rw[hρ];have hz:l=0:=by omega
     subst hz;simp only[Nat.sub_zero,↓reduceIte];exact⟨by omega,ba,by congr 1;omega⟩
    |some hd=>
     rw[hρ]at hown hrow;have hval:a.eval x=.slice (some ⟨hd.blk,hd.off,none⟩) hd.len hd.cap:=hown;have hlen:hd.len=xs.length:=hrow.1;rw[<-hlen]at h2 h6;have hr:=J3 (dst:=dst) (ty:=ty) (pos:=pos) (after:=after) (guard:=guard) (E:=E) hu hi' hs hval h5 h6 h1 h2 hrow.2.1;refine⟨rfl,rfl,rfl,rfl,_,hr, ?_,trivial⟩;refine .ownp _ id _ l m hA rfl λ_=>?_
     rw[hρ];by_cases hc:hd.cap=l
     ·have:=hrow.2.1;exact⟨by omega,hd.off,hd.cap-l,by rw[aP hc,h3],by omega,rfl,.inr ⟨by omega,iE _ _⟩⟩
     ·have:=hrow.2.1;exact⟨by omega,hd.off+l*t'.size,hd.cap-l,by rw[aL hc,h3];simp[Cm],by omega,rfl,.inl rfl⟩
   ·cases hq
  ·cases hq
 simp only[evOp]at h;split at h
 ·rename_i elem hu;split at h
  ·rename_i k';split at h
   ·rename_i k;have fin:(∃ba len c,a.eval x=.slice ba len c/\len<=c)->r=Res.pure .cap0->(∃info,P.info? elem=some info)->PureRun P E a ⟨dst,.slice t x none (some (.const (.int k 0))) (some (.const (.int k' 0))),ty,pos,after,guard⟩ r:=by
     rintro⟨ba,len,c,hv,_⟩ rfl ⟨info,hi'⟩;exact⟨rfl,rfl,rfl,rfl,_,Ze hu hi' rfl hv,.cap0 _,trivial⟩
    split at h
    ·cases h
    rename_i info hi';split at h
    ·rename_i t' xs hvx;rw[hvx]at hx;refine fin ?_ (by cases h;rfl) ⟨info,hi'⟩;rcases hx.sl_inv.sl_inv with⟨_,ba,c,hv⟩|⟨b,o,c,g,hv,hc,_⟩
     ·exact⟨_,_,_,hv,aV _⟩
     ·exact⟨_,_,_,hv,hc⟩
    ·rename_i id hvx;rw[hvx]at hx;have hA:E.A id:=hx.own_inv.1;split at h
     ·rename_i t' xs hob;have hne:Ac H id≠.dead:=by rw[hob];simp
      have hl:=hL id hA hne;have hok:=hH id hl hne;rw[hob]at hok;exact fin (Kz (hx.own_inv.2.2 hl) (Mk hok)) (by cases h;rfl) ⟨info,hi'⟩
     ·rename_i t' xs hob;have hne:Ac H id≠.dead:=by rw[hob];simp
      have hl:=hL id hA hne;have hok:=hH id hl hne;rw[hob]at hok;exact fin (Kz (hx.own_inv.2.2 hl) (Mk hok)) (by cases h;rfl) ⟨info,hi'⟩
     ·cases h
    ·rename_i id k2 lo2 len2 hvx;rw[hvx]at hx;have hA:E.A id:=hx.ownp_inv.1;split at h
     ·cases h
     ·rename_i hne;refine fin ?_ (by cases h;rfl) ⟨info,hi'⟩;have hp:=hx.ownp_inv.2.2 (hL id hA hne);cases hρ:E.ρ id with
      |none=>rw[hρ]at hp;obtain⟨_,ba,hv⟩:=hp;exact⟨_,_,_,hv,bA _⟩
      |some hd=>rw[hρ]at hp;obtain⟨_,o,c,hv,hc,_⟩:=hp;exact⟨_,_,_,hv,hc⟩
    ·rename_i hvx;rw[hvx]at hx;obtain⟨ba,hv⟩:=hx.cap0_inv;exact fin ⟨_,_,_,hv,bA _⟩ (by cases h;rfl) ⟨info,hi'⟩
    ·rename_i hvx;rw[hvx]at hx;obtain⟨ba,c,hv⟩:=hx.nils_inv;exact fin ⟨_,_,_,hv,aV _⟩ (by cases h;rfl) ⟨info,hi'⟩
    ·cases h
   ·cases h
  ·rename_i mo _;split at h
   ·rename_i ho t' xs hvx;split at h
    ·rename_i ka av kb bv hva hvb;split at h
     ·rename_i hk;obtain⟨info,hi',hs⟩:=Bs hk (Bh t');cases h;simp only[A7]at hn;obtain⟨n1,n2,n3⟩:=hn;subst n2;have e1:=hhi ho rfl;rw[hva]at e1;have e2:=hmx mo rfl;rw[hvb]at e2;have v1:=e1.int_inv;have v2:=e2.int_inv;rw[hvx]at hx;have hlen:(xs.take av.toNat).length=av.toNat:=by rw[bP];omega
      have key:∀(ba:Option Addr)(c:Nat),a.eval x=.slice ba xs.length c->xs.length<=c->
       (execOp a.eval ⟨dst,.slice t x none (some ho) (some mo),ty,pos,after,guard⟩).run P E.w=.ok (.value (.slice (if av.toNat=0 then ba else ba.map (·.add (0*info.size))) (av.toNat-0) (av.toNat-0))) E.w:=by
       intro ba c hv hc;have hs':(sizeOf elem).run P E.w=.ok info.size E.w:=by simp[sizeOf,typeInfo,hi']
       have hb:(Instr.sliceBounds true xs.length c none (some (a.eval ho)) (some (a.eval mo))).run P E.w=.ok (0,av.toNat,av.toNat) E.w:=by
        have h4:av<=(c:Int):=by omega
        have h5:av<=max av 0:=by omega
        simp[Instr.sliceBounds,Instr.sliceBound,asIntOf,v1,v2,n1,h4,h5]
       simp[execOp,hv,Instr.sliceAt,Instr.slice,run_underlying hu,hb,hs']
      have hslf:∀(ba:Option Addr),RdP E.w E.Fz (.slice ba av.toNat av.toNat) (.sl t' (xs.take av.toNat))->RdA E (.slice ba (av.toNat-0) (av.toNat-0)) (.slf t' (xs.take av.toNat)):=by
       intro ba hp;have:=RdA.slf (E:=E) t' (xs.take av.toNat) ba (by rw[hlen];exact hp);rw[hlen]at this;simpa using this
      rcases hx.sl_inv.sl_inv with⟨hnil,ba,c,hv⟩|⟨b,o,c,g,hv,hc,hl,hcell,hrd⟩
      ·subst hnil;have h0:av.toNat=0:=by simp at n3;omega
       refine⟨rfl,rfl,rfl,rfl,_,key ba c (by simpa using hv) (aV _),hslf _ ?_,trivial⟩;rw[h0];simp only[gX];exact .sl0 _ _ _
      ·refine⟨rfl,rfl,rfl,rfl,_,key _ c hv hc,hslf _ ?_,trivial⟩;by_cases h0:av.toNat=0
       ·rw[h0];simp only[gX];exact .sl0 _ _ _
       ·rw[aL h0];have hfl:∀(j:Nat)(p:PV),(flat t' (xs.take av.toNat))[j]?=some p->(flat t' xs)[j]?=some p:=by
         intro j p hp;rw[Dx]at hp;have hj:j<av.toNat*t'.size:=by
          have:=(aW.1 hp).1;rw[bP]at this;omega
         rw[cQ hj]at hp;exact hp
        have hadr:(some (⟨b,o,none⟩:Addr)).map (·.add (0*info.size))=some ⟨b,o,none⟩:=by simp[Cm]
        rw[hadr];refine .sl b o av.toNat av.toNat t' _ g hlen.symm (bA _) (by omega) (λj hj=>hcell j ?_) (λj p hp=>hrd j p (hfl j p hp));have hp:=aR hj;exact(aW.1 (hfl j _ hp)).1
     ·cases h
    ·cases h
   ·rename_i lo' ho id hvx;rw[hvx]at hx;split at h
    ·rename_i t' xs hob;split at h
     ·rename_i ka av kb bv kc cv hva hvb hvc;split at h
      ·rename_i hk;obtain⟨info,hi',hs⟩:=Bs hk (Bh t');cases h;simp only[A7]at hn;obtain⟨n1,n2,n3,n4⟩:=hn;have e0:=hlo lo' rfl;rw[hva]at e0;have e1:=hhi ho rfl;rw[hvb]at e1;have e2:=hmx mo rfl;rw[hvc]at e2;have v0:=e0.int_inv;have v1:=e1.int_inv;have v2:=e2.int_inv;have hA:E.A id:=hx.own_inv.1;have hne:Ac H id≠.dead:=by rw[hob];simp
       have hl:=hL id hA hne;have hok:RowsAt E t' xs (E.ρ id):=by
        have:=hH id hl hne;rw[hob]at this;exact this
       have hform:∃ba n c,a.eval x=.slice ba n c/\xs.length<=c:=by
        have hown:=hx.own_inv.2.2 hl;cases hρ:E.ρ id with
        |none=>
         rw[hρ]at hown hok;obtain⟨ba,hv⟩:=hown;have:xs=[]:=hok;subst this;exact⟨_,_,_,hv,bA _⟩
        |some hd=>
         rw[hρ]at hown hok;have hv:a.eval x=.slice (some ⟨hd.blk,hd.off,none⟩) hd.len hd.cap:=hown;have h1:hd.len=xs.length:=hok.1;have h2:=hok.2.1;exact⟨_,_,_,hv,by omega⟩
       obtain⟨ba,nn,c,hv,hc⟩:=hform;have hs':(sizeOf elem).run P E.w=.ok info.size E.w:=by simp[sizeOf,typeInfo,hi']
       have hb:(Instr.sliceBounds true nn c (some (a.eval lo')) (some (a.eval ho)) (some (a.eval mo))).run P E.w=.ok (av.toNat,bv.toNat,cv.toNat) E.w:=by
        have h1:cv<=(c:Int):=by omega
        have h2:0<=cv:=by omega
        have h3:0<=bv:=by omega
        have h4:bv<=max cv 0:=by omega
        have h5:av<=max bv 0:=by omega
        simp[Instr.sliceBounds,Instr.sliceBound,asIntOf,v0,v1,v2,n1,h1,h2,h3,h4,h5]
       refine⟨rfl,rfl,rfl,rfl,.slice (if cv.toNat=av.toNat then ba else ba.map (·.add (av.toNat*info.size))) (bv.toNat-av.toNat) (cv.toNat-av.toNat), ?_,.any _,trivial⟩;simp[execOp,hv,Instr.sliceAt,Instr.slice,run_underlying hu,hb,hs']
      ·cases h
     ·cases h
    ·cases h
   ·cases h
  ·split at h
   ·rename_i id k l0 n0 hvx;rw[hvx]at hx;split at h
    ·rename_i t' xs hob;split at h
     ·rename_i hk;simp only[aS]at hk;obtain⟨info,hi',hs⟩:=Bs hk.1 (Bh t');have hk2:=bB hk.2;subst hk2;split at h
      ·rename_i q l m ys hp;cases h;simp only[A7]at hn;obtain⟨hq,hroom⟩:=hn;obtain⟨h',h1,h2,h3,h4,h5,h6⟩:=It (a:=a) (E:=E) hlo hhi hp hq (by simp);obtain⟨hA,_,hown⟩:=hx.ownp_inv;have hne:Ac H id≠.dead:=by rw[hob];simp
       have hl:=hL id hA hne;have hok:RowsAt E t' xs (E.ρ id):=by
        have:=hH id hl hne;rw[hob]at this;exact this
       have hown:=hown hl;have hlen2:h'<=xs.length-l0:=by
        cases hhi':hi with
        |none=>rw[hhi']at h2;have h2':h'<=n0:=h2;omega
        |some o=>rw[hhi']at h2;exact h2
       have h6':(hi=none/\h'=n0)\/∃o k,hi=some o/\a.eval o=.int k (h':Int):=by
        rcases h6 with⟨e1,e2⟩|h6
        ·left;subst e1;exact⟨rfl,e2⟩
        ·exact .inr h6
       cases hρ:E.ρ id with
       |none=>
        rw[hρ]at hown hok;obtain⟨hn0,ba,hba⟩:=hown;have:xs=[]:=hok;subst this;simp only[List.length_nil]at hlen2 hroom;subst hn0;have hr:=S7 (dst:=dst) (ty:=ty) (pos:=pos) (after:=after) (guard:=guard) (E:=E) hu hi' hs hba h5 h6' h1 (by omega);refine⟨rfl,rfl,rfl,rfl,_,hr, ?_,trivial⟩;refine .ownp _ id _ (l0+l) m hA rfl λ_=>?_
        rw[hρ];have hz:l=0:=by omega
        subst hz;simp only[Nat.sub_zero,↓reduceIte];exact⟨by omega,ba,by congr 1;omega⟩
       |some hd=>
        rw[hρ]at hown hok;obtain⟨k1,o,c,hv,k2,k3,k4⟩:=hown;have hlen:hd.len=xs.length:=hok.1;have hcap:=hok.2.1;have hr:=S7 (dst:=dst) (ty:=ty) (pos:=pos) (after:=after) (guard:=guard) (E:=E) hu hi' hs hv h5 h6' h1 (by omega);refine⟨rfl,rfl,rfl,rfl,_,hr, ?_,trivial⟩;refine .ownp _ id _ (l0+l) m hA rfl λ_=>?_
        rw[hρ];by_cases hc:c=l
        ·refine⟨by omega,o,c-l,by rw[aP hc,h3],by omega,by omega,.inr ⟨by omega, ?_⟩⟩;rcases k4 with k4|k4
         ·rw[k4];exact Nat.add_le_add_left (cY _ (by omega)) _
         ·exact k4.2
        ·refine⟨by omega,o+l*t'.size,c-l,by rw[aL hc,h3];simp[Cm],by omega,by omega, ?_⟩;rcases k4 with k4|k4
         ·left;rw[k4,cS];omega
         ·exact aT k4.1 (by omega)
      ·cases h
     ·cases h
    ·cases h
   ·rename_i t' xs hvx;rw[hvx]at hx;split at h
    ·rename_i hk;obtain⟨info,hi',hs⟩:=Bs hk (Bh t');split at h
     ·rename_i q l m ys hp;cases h;simp only[A7]at hn;obtain⟨h',h1,h2,h3,h4,h5,h6⟩:=It (a:=a) (E:=E) hlo hhi hp hn rfl;have hx':=hx.sl_inv;have hform:∃ba c,a.eval x=.slice ba xs.length c/\xs.length<=c:=by
       rcases hx'.sl_inv with⟨hnil,ba,c,hv⟩|⟨b,o,c,g,hv,hc,_⟩
       ·subst hnil;exact⟨_,_,hv,aV _⟩
       ·exact⟨_,_,hv,hc⟩
      obtain⟨ba,c,hv,hc⟩:=hform;have hr:=J3 (dst:=dst) (ty:=ty) (pos:=pos) (after:=after) (guard:=guard) (E:=E) hu hi' hs hv h5 h6 h1 h2 hc;refine⟨rfl,rfl,rfl,rfl,_,hr, ?_,trivial⟩;rw[hv]at hx';subst h4;rw[<-h3];exact .sl _ _ _ (Ajc hx' h1 h2 h3 rfl)
     ·cases h
    ·cases h
   ·rename_i id hvx;have hA:E.A id:=by rw[hvx]at hx;exact hx.own_inv.1
    split at h
    ·rename_i t' xs hob;have hne:Ac H id≠.dead:=by rw[hob];simp
     have hl:=hL id hA hne;have hok:=hH id hl hne;rw[hob]at hok;exact own elem id t' xs rfl hu hvx hok hl h
    ·rename_i t' xs hob;have hne:Ac H id≠.dead:=by rw[hob];simp
     have hl:=hL id hA hne;have hok:=hH id hl hne;rw[hob]at hok;exact own elem id t' xs rfl hu hvx hok hl h
    ·cases h
   ·rename_i hvx;rw[hvx]at hx;obtain⟨ba,hv⟩:=hx.cap0_inv;split at h
    ·cases h
    rename_i info hi';split at h
    ·rename_i q l m ys hp;cases h;simp only[A7]at hn;obtain⟨h',h1,h2,h3,h4,h5,h6⟩:=It (a:=a) (E:=E) hlo hhi hp hn rfl;have hr:=J3 (dst:=dst) (ty:=ty) (pos:=pos) (after:=after) (guard:=guard) (E:=E) hu hi' rfl hv h5 h6 h1 h2 (bA _);refine⟨rfl,rfl,rfl,rfl,_,hr, ?_,trivial⟩;have hz:l=0:=by omega
     have hz':h'=0:=by omega
     subst hz;subst hz';exact .cap0 _
    ·cases h
   ·rename_i hvx;rw[hvx]at hx;obtain⟨ba,c,hv⟩:=hx.nils_inv;split at h
    ·cases h
    rename_i info hi';split at h
    ·rename_i q l m ys hp;cases h;simp only[A7]at hn;obtain⟨h',h1,h2,h3,h4,h5,h6⟩:=It (a:=a) (E:=E) hlo hhi hp hn rfl;have hr:=J3 (dst:=dst) (ty:=ty) (pos:=pos) (after:=after) (guard:=guard) (E:=E) hu hi' rfl hv h5 h6 h1 h2 (aV _);refine⟨rfl,rfl,rfl,rfl,_,hr, ?_,trivial⟩;have hz':h'=0:=by omega
     subst hz';rw[Nat.zero_sub];exact .nils _ _
    ·cases h
   ·cases h
 ·cases h
end
end Go.Sx
namespace Go.Sx
open Go.RowKit
section
variable {P:Program}{cx:Ctx}{E:Env}{a:Act}{e:Operand->AV}{H:List Ob}{n:Nat}{r:Res}
 {dst:Option Tmp}{ty:TypeId}{pos:String}{after:Array Go.Edge}{guard:Option (Nat×Bool)}
theorem Cq{α β:Type}{l:Array α}{f:α->β}{y:β}(h:l.toList.map f=[y]):∃x,l=#[x]/\f x=y:=by
 obtain⟨l⟩:=l
 match l,h with
 |[x],h=>exact⟨x,rfl,by simpa using h⟩
theorem F5{α β:Type}{l:Array α}{f:α->β}{y z:β}(h:l.toList.map f=[y,z]):∃x x',l=#[x,x']/\f x=y/\f x'=z:=by
 obtain⟨l⟩:=l
 match l,h with
 |[x,x'],h=>exact⟨x,x',rfl,by simpa using h⟩
theorem Xh{α:Type}{l:Array α}{y z:α}(h:l.toList=[y,z]):l=#[y,z]:=by
 obtain⟨l⟩:=l;simp at h;rw[h]
theorem Am4{α:Type}{l:Array α}{y:α}(h:l.toList=[y]):l=#[y]:=by
 obtain⟨l⟩:=l;simp at h;rw[h]
theorem Xi{x:Operand}{ts:Array TypeId}{t elem:TypeId}{ba:Option Addr}{len c:Nat}(ht:ts[0]?=some t)(hu:P.underlying t=some (.slice elem))(hv:a.eval x=.slice ba len c):
 (execOp a.eval ⟨dst,.call { callee:=.builtin .len,args:=#[x],argTypes:=ts },ty,pos,after,guard⟩).run P E.w=.ok (.value (.int .i64 (len:Int))) E.w:=by
 simp[execOp,resolve,invoke,builtin,Builtin.len_,ht,hv,run_underlying hu,goInt]
theorem Api{c:Call}(hc:c.callee=.builtin .len)(hL:∀id,E.A id->Ac H id≠.dead->E.L id)(hH:∀id,E.L id->Ac H id≠.dead->OkOb E id (Ac H id))
 (hx:∀x∈c.args.toList,RdA E (a.eval x) (e x))(hn:A7 r.need)
 (h:evOp cx P e H n ⟨dst,.call c,ty,pos,after,guard⟩=some r):PureRun P E a ⟨dst,.call c,ty,pos,after,guard⟩ r:=by
 obtain⟨callee,args,ts⟩:=c;simp only at hc;subst hc;simp only[evOp]at h;split at h
 ·cases h
 ·rename_i t ht;split at h
  ·rename_i elem hu;have fin:∀(x:Operand)(len:Nat)(q:Option Prop),args=#[x]->(∃ba c,a.eval x=.slice ba len c)->r=⟨r.need,q,.int .i64 (len:Int),[],none,none,[]⟩->A7 q->
    PureRun P E a ⟨dst,.call { callee:=.builtin .len,args:=args,argTypes:=ts },ty,pos,after,guard⟩ r:=by
    rintro x len q rfl ⟨ba,c,hv⟩ hr hq;rw[hr];exact⟨rfl,rfl,rfl,rfl,_,Xi ht hu hv,.int _ _,hq⟩
   split at h
   ·rename_i t' xs hm;obtain⟨x,rfl,hvx⟩:=Cq hm;have hx:=hx x (by simp);rw[hvx]at hx;refine fin x xs.length (some (xs.length<=big)) rfl ?_ (by cases h;rfl) ?_
    ·rcases hx.sl_inv.sl_inv with⟨hnil,ba,c,hv⟩|⟨b,o,c,g,hv,hc,_⟩
     ·subst hnil;exact⟨_,_,hv⟩
     ·exact⟨_,_,hv⟩
    ·rcases hx.sl_inv.sl_inv with⟨hnil,_⟩|⟨b,o,c,g,hv,hc,hl,_⟩
     ·subst hnil;exact aV _
     ·exact hl
   ·rename_i id hm;obtain⟨x,rfl,hvx⟩:=Cq hm;have hx:=hx x (by simp);rw[hvx]at hx;have hA:E.A id:=hx.own_inv.1;have key:∀(t':Ty)(xs:List t'.den),RowsAt E t' xs (E.ρ id)->E.L id->(∃ba c,a.eval x=.slice ba xs.length c)/\xs.length<=lim:=by
     intro t' xs hrow hl;have hown:=hx.own_inv.2.2 hl;cases hρ:E.ρ id with
     |none=>rw[hρ]at hrow hown;obtain⟨ba,hv⟩:=hown;have:xs=[]:=hrow;subst this;exact⟨⟨ba,0,hv⟩,aV _⟩
     |some hd=>rw[hρ]at hrow hown;obtain⟨h1,h2,h3,_⟩:=hrow;exact⟨⟨_,_,by rw[<-h1];exact hown⟩,h1 ▸ h3⟩
    split at h
    ·rename_i t' xs hob;have hne:Ac H id≠.dead:=by rw[hob];simp
     have hl:=hL id hA hne;have hok:=hH id hl hne;rw[hob]at hok;exact fin x xs.length (some (xs.length<=lim)) rfl (key t' xs hok hl).1 (by cases h;rfl) (key t' xs hok hl).2
    ·rename_i t' xs hob;have hne:Ac H id≠.dead:=by rw[hob];simp
     have hl:=hL id hA hne;have hok:=hH id hl hne;rw[hob]at hok;exact fin x xs.length (some (xs.length<=lim)) rfl (key t' xs hok hl).1 (by cases h;rfl) (key t' xs hok hl).2
    ·rename_i gt m xss hob;have hne:Ac H id≠.dead:=by rw[hob];simp
     have hl:=hL id hA hne;have hok:=hH id hl hne;rw[hob]at hok;obtain⟨hd,hρ,hg⟩:=hok;have hown:=hx.own_inv.2.2 hl;rw[hρ]at hown;have hown':a.eval x=.slice (some ⟨hd.blk,hd.off,none⟩) hd.len hd.cap:=hown;rw[hg.len]at hown';exact fin x (xss.length+m) (some (xss.length+m<=lim)) rfl ⟨_,_,hown'⟩ (by cases h;rfl) (by have:=hg.lim;rw[hg.len]at this;exact this)
    ·cases h
   ·rename_i id gi hm;obtain⟨x,rfl,hvx⟩:=Cq hm;have hx:=hx x (by simp);rw[hvx]at hx;have hA:E.A id:=hx.grow_inv.1;split at h
    ·rename_i gt m xss hob;have hne:Ac H id≠.dead:=by rw[hob];simp
     have hl:=hL id hA hne;have hok:=hH id hl hne;rw[hob]at hok;obtain⟨hd,hρ,hg⟩:=hok;have hgi:gi<xss.length:=by cases h;exact hn
     obtain⟨o,k1,k2⟩:=hx.grow_inv.2.2 hl;obtain⟨o',k3,k4⟩:=hg.rows gi _ (aR hgi);rw[k1]at k3;cases k3;have hgd:xss.getD gi []=xss[gi]:=by simp[List.getD,hgi]
     have key:(∃ba c,a.eval x=.slice ba (xss.getD gi []).length c)/\(xss.getD gi []).length<=lim:=by
      rw[hgd];cases o with
      |none=>obtain⟨ba,hv⟩:=k2;have:xss[gi]=[]:=k4;rw[this];exact⟨⟨ba,0,hv⟩,aV _⟩
      |some h'=>exact⟨⟨_,_,by rw[<-k4.1];exact k2⟩,k4.1 ▸ k4.2.2.1⟩
     exact fin x (xss.getD gi []).length (some ((xss.getD gi []).length<=lim)) rfl key.1 (by cases h;rfl) key.2
    ·cases h
   ·rename_i id k lo len hm;obtain⟨x,rfl,hvx⟩:=Cq hm;have hx:=hx x (by simp);rw[hvx]at hx;have hA:E.A id:=hx.ownc_inv.1;split at h
    ·cases h
    ·rename_i hne;refine fin x len none rfl ?_ (by cases h;rfl) trivial;obtain⟨hd,_,_,hv⟩:=hx.ownc_inv.2.2 (hL id hA hne);exact⟨_,_,hv⟩
   ·rename_i ct id m hm;obtain⟨x,rfl,hvx⟩:=Cq hm;have hx:=hx x (by simp);rw[hvx]at hx;have hA:E.A id:=hx.csl_inv.1;split at h
    ·cases h
    ·rename_i hne;refine fin x m none rfl ?_ (by cases h;rfl) trivial;obtain⟨hd,_,hv⟩:=hx.csl_inv.2.2 (hL id hA hne);exact⟨_,_,hv⟩
   ·rename_i t' xs hm;obtain⟨x,rfl,hvx⟩:=Cq hm;have hx:=hx x (by simp);rw[hvx]at hx;obtain⟨⟨ba,hv⟩,h2⟩:=hx.slf_inv;refine fin x xs.length (some (xs.length<=big)) rfl ⟨_,_,hv⟩ (by cases h;rfl) ?_;rcases h2.sl_inv with⟨hnil,_⟩|⟨b,o,c,g,hv,hc,hl,_⟩
    ·subst hnil;exact aV _
    ·exact hl
   ·rename_i id k lo len hm;obtain⟨x,rfl,hvx⟩:=Cq hm;have hx:=hx x (by simp);rw[hvx]at hx;have hA:E.A id:=hx.ownp_inv.1;split at h
    ·cases h
    ·rename_i hne;refine fin x len none rfl ?_ (by cases h;rfl) trivial;have hp:=hx.ownp_inv.2.2 (hL id hA hne);cases hρ:E.ρ id with
     |none=>rw[hρ]at hp;obtain⟨h0,ba,hv⟩:=hp;subst h0;exact⟨_,_,hv⟩
     |some hd=>rw[hρ]at hp;obtain⟨_,o,c,hv,hc,_⟩:=hp;exact⟨_,_,hv⟩
   ·rename_i hm;obtain⟨x,rfl,hvx⟩:=Cq hm;have hx:=hx x (by simp);rw[hvx]at hx;obtain⟨ba,hv⟩:=hx.cap0_inv;exact fin x 0 none rfl ⟨_,_,hv⟩ (by cases h;rfl) trivial
   ·rename_i hm;obtain⟨x,rfl,hvx⟩:=Cq hm;have hx:=hx x (by simp);rw[hvx]at hx;obtain⟨ba,c,hv⟩:=hx.nils_inv;exact fin x 0 none rfl ⟨_,_,hv⟩ (by cases h;rfl) trivial
   ·cases h
  ·rename_i hu;split at h
   ·rename_i s hm;obtain⟨x,rfl,hvx⟩:=Cq hm;have hx:=hx x (by simp);rw[hvx]at hx;have hv:a.eval x=.string s:=by generalize hval:a.eval x=val at hx;cases hx;rfl
    cases h;exact⟨rfl,rfl,rfl,rfl,_,by simp[execOp,resolve,invoke,builtin,Builtin.len_,ht,hv,run_underlying hu,goInt],.int _ _,trivial⟩
   ·cases h
  ·cases h
theorem Ast{c:Call}(hc:c.callee=.builtin .cap)(hx:∀x∈c.args.toList,RdA E (a.eval x) (e x))
 (h:evOp cx P e H n ⟨dst,.call c,ty,pos,after,guard⟩=some r):PureRun P E a ⟨dst,.call c,ty,pos,after,guard⟩ r:=by
 obtain⟨callee,args,ts⟩:=c;simp only at hc;subst hc;simp only[evOp]at h;split at h
 ·cases h
 ·rename_i t ht;split at h
  ·rename_i elem hu;split at h
   ·rename_i hm;obtain⟨x,rfl,hvx⟩:=Cq hm;have hx:=hx x (by simp);rw[hvx]at hx;obtain⟨ba,hv⟩:=hx.cap0_inv;cases h;exact⟨rfl,rfl,rfl,rfl,_,by simp[execOp,resolve,invoke,builtin,Builtin.cap_,ht,hv,run_underlying hu,goInt],.int _ _,trivial⟩
   ·cases h
  ·cases h
theorem Asu{c:Call}(hc:c.callee=.builtin .min)(hx:∀x∈c.args.toList,RdA E (a.eval x) (e x))
 (h:evOp cx P e H n ⟨dst,.call c,ty,pos,after,guard⟩=some r):PureRun P E a ⟨dst,.call c,ty,pos,after,guard⟩ r:=by
 obtain⟨callee,args,ts⟩:=c;simp only at hc;subst hc;simp only[evOp]at h;split at h
 ·rename_i k p k' q hm;obtain⟨x,y,rfl,hvx,hvy⟩:=F5 hm;have hx1:=hx x (by simp);have hx2:=hx y (by simp);rw[hvx]at hx1;rw[hvy]at hx2;split at h
  ·rename_i hk;have:=Oq hk;subst this;cases h;exact⟨rfl,rfl,rfl,rfl,_,by simp[execOp,resolve,invoke,builtin,hx1.int_inv,hx2.int_inv,run_min_int2],.int _ _,trivial⟩
  ·cases h
 ·cases h
theorem Asv{c:Call}(hc:c.callee=.builtin .max)(hx:∀x∈c.args.toList,RdA E (a.eval x) (e x))
 (h:evOp cx P e H n ⟨dst,.call c,ty,pos,after,guard⟩=some r):PureRun P E a ⟨dst,.call c,ty,pos,after,guard⟩ r:=by
 obtain⟨callee,args,ts⟩:=c;simp only at hc;subst hc;simp only[evOp]at h;split at h
 ·rename_i k p k' q hm;obtain⟨x,y,rfl,hvx,hvy⟩:=F5 hm;have hx1:=hx x (by simp);have hx2:=hx y (by simp);rw[hvx]at hx1;rw[hvy]at hx2;split at h
  ·rename_i hk;have:=Oq hk;subst this;cases h;exact⟨rfl,rfl,rfl,rfl,_,by simp[execOp,resolve,invoke,builtin,hx1.int_inv,hx2.int_inv,run_max_int2],.int _ _,trivial⟩
  ·cases h
 ·cases h
def CellL(E:Env)(vs:List Value)(cs:List AV):Prop:=vs.length=cs.length/\∀(i:Nat) v x,vs[i]?=some v->cs[i]?=some x->v.oneCell'=true/\RdA E v x
theorem Ml{v:Value}(h:v.oneCell'=true):RdA E v (Eo v):=by
 unfold Eo;split
 ·exact .int _ _
 ·exact .bool _
 ·exact .str _
 ·exact .cap0 _
 ·exact .any _
 ·exact .any _
 ·exact .val _ h
theorem Iu{v:Value}{x:AV}{cs:List AV}(hx:RdA E v x)(h:cellsOf x=some cs):CellL E v.cells.toList cs:=by
 cases x with
 |agg xs=>
  simp only[cellsOf,aU]at h;subst h;obtain⟨vs,rfl,h1,h2,h3⟩:=hx.agg_inv;refine⟨by simpa[Value.cells]using h1,λi v x hv hx=>?_⟩;have hv':vs[i]?=some v:=by simpa[Value.cells]using hv
  exact⟨h2 i v hv',h3 i v x hv' hx⟩
 |any=>simp[cellsOf]at h
 |tup vs=>simp[cellsOf]at h
 |when=>simp[cellsOf]at h
 |yld=>simp[cellsOf]at h
 |rnd=>simp[cellsOf]at h
 |grow=>simp[cellsOf]at h
 |gptr=>simp[cellsOf]at h
 |dmp=>simp[cellsOf]at h
 |_=>
  have hc:=h;simp only[cellsOf,aU]at h;subst h;have h1:=hx.one_of hc;have:v.cells=#[v]:=by cases v<;>simp_all [Value.cells,Value.oneCell']
  rw[this];refine⟨rfl,λi u y hu hy=>?_⟩
  match i,hu,hy with
  |0,hu,hy=>cases hu;cases hy;exact⟨h1,hx⟩
theorem Hc{α:Type}:∀(l:List α)(n:Nat)(m:List α),n+m.length<=l.length->splice l n m=l.take n++m++l.drop (n+m.length)
 |[],0,m,h=>by simp[splice]
 |a::l,0,m,h=>by simp[splice]
 |[],n+1,m,h=>by simp at h
 |a::l,n+1,m,h=>by
  simp only[List.length_cons]at h;simp only[splice,fJ,List.cons_append,List.cons.injEq,true_and];rw[Hc l n m (by omega),Nat.add_right_comm,List.drop_succ_cons]
theorem Ey{α:Type}{l m:List α}{n i:Nat}(h:n+m.length<=l.length):(splice l n m)[i]?=if n<=i/\i<n+m.length then m[i-n]? else l[i]?:=by
 rw[Hc l n m h];by_cases h1:i<n
 ·rw[aL (by omega),bX (by simp;omega),bX (by simp;omega),cQ h1]
 ·by_cases h2:i<n+m.length
  ·rw[aP ⟨by omega,h2⟩,bX (by simp;omega),cD (by simp;omega)];simp;congr 1;omega
  ·rw[aL (by omega),cD (by simp;omega),cK]
   congr 1
   simp;omega
theorem Fs{α:Type}{l m:List α}{n:Nat}(h:n+m.length<=l.length):(splice l n m).length=l.length:=by
 rw[Hc l n m h];simp;omega
theorem Mm(off:Nat):∀(us:List Value)(k:Nat)(vs:Array Value),off+k+us.length<=vs.size->
 ((us.zipIdx k).foldl (λcs (c,j)=>cs.setIfInBounds (off+j) c) vs).toList=splice vs.toList (off+k) us
 |[],k,vs,h=>by
  rw[Hc _ _ _ (by simpa using h)];simp
 |u::us,k,vs,h=>by
  simp only[List.zipIdx_cons,cM];simp only[List.length_cons]at h;rw[Mm off us (k+1) (vs.setIfInBounds (off+k) u) (by simp;omega)];apply List.ext_getElem?;intro i;rw[Ey (by simp;omega),Ey (by simp;omega)];simp only[fT,List.length_cons];by_cases h1:off+k<=i/\i<off+k+(us.length+1)
  ·rw[aP h1];by_cases h2:i=off+k
   ·subst h2;rw[aL (by omega),List.getElem?_set_self (by simp;omega),fO,dP]
   ·rw[aP (by omega)];have:i-(off+k)=(i-(off+(k+1)))+1:=by omega
    rw[this,gH]
  ·rw[aL h1,aL (by omega),List.getElem?_set_ne (by omega)]
theorem CellL.splice{vs us:List Value}{cs ds:List AV}{off:Nat}(h:CellL E vs cs)(h':CellL E us ds)(hle:off+ds.length<=cs.length):CellL E (splice vs off us) (splice cs off ds):=by
 have hle':off+us.length<=vs.length:=by rw[h.1,h'.1];exact hle
 refine⟨by rw[Fs hle',Fs hle,h.1],λi v x hv hx=>?_⟩;rw[Ey hle']at hv;rw[Ey hle,<-h'.1]at hx;split at hv
 ·rename_i hc;rw[aP hc]at hx;exact h'.2 _ v x hv hx
 ·rename_i hc;rw[aL hc]at hx;exact h.2 _ v x hv hx
theorem Nm{α β:Type}{F:α->Sem β}{G:α->β}(w:World):∀(l:List α),(∀x∈l,(F x).run P w=.ok (G x) w)->(l.mapM F).run P w=.ok (l.map G) w
 |[],_=>by simp
 |x::l,h=>by
  rw[List.mapM_cons];simp only[Sem.run_bind,h x (by simp),Result.andThen_ok,Nm w l (λy hy=>h y (by simp[hy])),Sem.run_pure,eD]
theorem Ru{fs:Array Field}(w:World)(hs:∀fl∈fs.toList,∃i,P.info? fl.type=some i):
 ((fs.mapM λf=>do pure (f.offset,<-sizeOf f.type):Sem (Array (Nat×Nat)))).run P w=.ok (fs.map λf=>(f.offset,Bk P f.type)) w:=by
 rw[Array.mapM_eq_mapM_toList];have key:=Nm (P:=P) (F:=λf:Field=>do pure (f.offset,<-sizeOf f.type)) (G:=λf=>(f.offset,Bk P f.type)) w fs.toList (λf hf=>by
  obtain⟨i,hi⟩:=hs f hf;simp[sizeOf,typeInfo,hi,Bk])
 simp only[Sem.run_map,key,Result.andThen_ok]
 congr 1
 apply iD.1;simp
theorem S8{t:TypeId}{fs:Array Field}(hu:P.underlying t=some (.struct fs)):∀(parts:List (Nat×Operand))(vs:Array Value)(cs ds:List AV),CellL E vs.toList cs->(∀p∈parts,RdA E (a.eval p.2) (e p.2))->
 evOp.buildGo P t e parts cs=some ds->∃us:Array Value,Instr.fill ((fs.map λf=>(f.offset,Bk P f.type))[·]?) vs (parts.map λp=>(p.1,a.eval p.2))=some us/\CellL E us.toList ds
 |[],vs,cs,ds,hc,_,h=>by
  simp only[evOp.buildGo,aU]at h;subst h;exact⟨vs,rfl,hc⟩
 |(f,x)::rest,vs,cs,ds,hc,hp,h=>by
  simp only[evOp.buildGo]at h;split at h
  ·rename_i ft d us hf hcs;split at h
   ·rename_i hcond;simp only[aS]at hcond;obtain⟨fs',fl,hu',hfl,h1,h2⟩:=L0 hf;rw[hu]at hu';cases hu';have hcell:=Iu (hp (f,x) (by simp)) hcs;have hlen:us.length=Bk P ft:=bB hcond.1;have hle:d+us.length<=cs.length:=cB hcond.2;have hsz:(a.eval x).cells.size=us.length:=by have:=hcell.1;simpa using this
    have hvs:vs.size=cs.length:=by have:=hc.1;simpa using this
    have hfold:=Mm d (a.eval x).cells.toList 0 vs (by simp;omega);simp only[dH]at hfold;have hnew:CellL E ((((a.eval x).cells.toList.zipIdx 0).foldl (λcs (c,j)=>cs.setIfInBounds (d+j) c) vs).toList) (splice cs d us):=by
     rw[hfold];exact hc.splice hcell hle
    obtain⟨ws,h3,h4⟩:=S8 hu rest _ _ ds hnew (λp hp'=>hp p (by simp[hp'])) h;refine⟨ws, ?_,h4⟩;simp only[eD,Instr.fill];rw[show(fs.map λf=>(f.offset,Bk P f.type))[f]?=some (d,Bk P ft) by simp[hfl,h1,h2]];simp only;rw[aL (by simp[hsz,hlen];omega)];rw[<-h3]
    congr 1
    rw[<-gC];simp
   ·cases h
  ·cases h
theorem Zf{sz:Nat}:∀(parts:List (Nat×Operand))(vs:Array Value)(cs ds:List AV),CellL E vs.toList cs->(∀p∈parts,RdA E (a.eval p.2) (e p.2))->
 evOp.arrGo sz e parts cs=some ds->∃us:Array Value,Instr.fill (λi=>some (i*sz,sz)) vs (parts.map λp=>(p.1,a.eval p.2))=some us/\CellL E us.toList ds
 |[],vs,cs,ds,hc,_,h=>by
  simp only[evOp.arrGo,aU]at h;subst h;exact⟨vs,rfl,hc⟩
 |(i,x)::rest,vs,cs,ds,hc,hp,h=>by
  simp only[evOp.arrGo]at h;split at h
  ·rename_i us hcs;split at h
   ·rename_i hcond;simp only[aS]at hcond;have hcell:=Iu (hp (i,x) (by simp)) hcs;have hlen:us.length=sz:=bB hcond.1;have hle:i*sz+us.length<=cs.length:=cB hcond.2;have hsz:(a.eval x).cells.size=us.length:=by have:=hcell.1;simpa using this
    have hvs:vs.size=cs.length:=by have:=hc.1;simpa using this
    have hfold:=Mm (i*sz) (a.eval x).cells.toList 0 vs (by simp;omega);simp only[dH]at hfold;have hnew:CellL E ((((a.eval x).cells.toList.zipIdx 0).foldl (λcs (c,j)=>cs.setIfInBounds (i*sz+j) c) vs).toList) (splice cs (i*sz) us):=by
     rw[hfold];exact hc.splice hcell hle
    obtain⟨ws,h3,h4⟩:=Zf rest _ _ ds hnew (λp hp'=>hp p (by simp[hp'])) h;refine⟨ws, ?_,h4⟩;simp only[eD,Instr.fill];rw[aL (by simp[hsz,hlen];omega)];rw[<-h3]
    congr 1
    rw[<-gC];simp
   ·cases h
  ·cases h
theorem CellL.agg{vs:Array Value}{cs:List AV}(h:CellL E vs.toList cs):RdA E (.agg vs) (.agg cs):=by
 refine .agg vs cs (by have:=h.1;simpa using this) (λi v hv=>?_) (λi v x hv hx=>(h.2 i v x (by simpa using hv) hx).2);have hlt:i<cs.length:=by
  rw[<-h.1];simpa using(eH.1 hv).1
 exact(h.2 i v _ (by simpa using hv) (aR hlt)).1
theorem Am5{t:TypeId}{parts:Array (Nat×Operand)}(hx:∀p∈parts.toList,RdA E (a.eval p.2) (e p.2))
 (h:evOp cx P e H n ⟨dst,.build t parts,ty,pos,after,guard⟩=some r):PureRun P E a ⟨dst,.build t parts,ty,pos,after,guard⟩ r:=by
 simp only[evOp]at h;split at h
 ·rename_i z fs hz hu;split at h
  ·rename_i hok;split at h
   ·rename_i ds hds;cases h;simp only[aS,bV]at hok;have hzc:CellL E z.toList (z.toList.map Eo):=by
     refine⟨by simp,λi v x hv hx=>?_⟩;simp only[cL,bC]at hx;obtain⟨u,hu',rfl⟩:=hx;rw[hv]at hu';cases hu';have:=hok.1 v (cR hv);exact⟨this,Ml this⟩
    obtain⟨us,h1,h2⟩:=S8 hu parts.toList z _ ds hzc hx hds;have hzero:(zeroValue t).run P E.w=.ok (.agg z) E.w:=by
     unfold Eg at hz;split at hz
     ·rename_i i hi;simp[zeroValue,typeInfo,hi,hz]
     ·cases hz
    have hpl:=Ru (P:=P) (fs:=fs) E.w (λfl hfl=>by
     have:=hok.2 fl hfl;rw[fG]at this;exact this)
    refine⟨rfl,rfl,rfl,rfl,.agg us, ?_,h2.agg,trivial⟩;have e1:(parts.map λ(i,x)=>(i,a.eval x)).toList=parts.toList.map λp=>(p.1,a.eval p.2):=by simp
    simp only[execOp,Instr.build,Sem.run_bind,hzero,Result.andThen_ok,run_underlying hu];simp only[hpl,Result.andThen_ok,Value.cells,e1,h1];simp
   ·cases h
  ·cases h
 ·rename_i z k elem hz hu;split at h
  ·rename_i hok;split at h
   ·rename_i ds hds;cases h;simp only[aS,bV]at hok;have hzc:CellL E z.toList (z.toList.map Eo):=by
     refine⟨by simp,λi v x hv hx=>?_⟩;simp only[cL,bC]at hx;obtain⟨u,hu',rfl⟩:=hx;rw[hv]at hu';cases hu';have:=hok.1 v (cR hv);exact⟨this,Ml this⟩
    obtain⟨us,h1,h2⟩:=Zf parts.toList z _ ds hzc hx hds;have hzero:(zeroValue t).run P E.w=.ok (.agg z) E.w:=by
     unfold Eg at hz;split at hz
     ·rename_i i hi;simp[zeroValue,typeInfo,hi,hz]
     ·cases hz
    obtain⟨i,hi⟩:=fG.1 hok.2;have hsize:(sizeOf elem).run P E.w=.ok (Bk P elem) E.w:=by simp[sizeOf,typeInfo,hi,Bk]
    refine⟨rfl,rfl,rfl,rfl,.agg us, ?_,h2.agg,trivial⟩;have e1:(parts.map λ(i,x)=>(i,a.eval x)).toList=parts.toList.map λp=>(p.1,a.eval p.2):=by simp
    simp only[execOp,Instr.build,Sem.run_bind,hzero,Result.andThen_ok,run_underlying hu];simp only[hsize,Sem.run_bind,Result.andThen_ok,Value.cells,e1,h1];simp
   ·cases h
  ·cases h
 ·cases h
end
end Go.Sx
namespace Go.Sx
open Go.RowKit
def FF(E:Env)(ids:List Nat)(b o:Nat):Prop:=E.Fz b o\/∃id∈ids,E.L id/\E.Own id b
theorem FF.mono{E:Env}{ids ids':List Nat}(h:∀id∈ids,id∈ids'){b o:Nat}:FF E ids b o->FF E ids' b o
 |.inl h1=>.inl h1
 |.inr ⟨id,h1,h2⟩=>.inr ⟨id,h id h1,h2⟩
theorem RdP.monoF{w:World}{F F':Nat->Nat->Prop}(hF:∀b o,F b o->F' b o){v:Value}{p:PV}(h:RdP w F v p):RdP w F' v p:=
 h.mono λb o hb=>⟨hF b o hb,rfl⟩
theorem RdP.le{w:World}{F:Nat->Nat->Prop}{v:Value}{p q:PV}(h:RdP w F v p)(hle:PV.le p q):RdP w F v q:=by
 rcases hle with rfl|⟨rfl,t,rfl⟩
 ·exact h
 ·cases h;exact .sl0 _ _ _
theorem LeL.get{l m:List PV}(h:LeL l m):l.length=m.length/\∀(i:Nat) p q,l[i]?=some p->m[i]?=some q->PV.le p q:=by
 induction h with
 |nil=>exact⟨rfl,λi p q hp=>by simp at hp⟩
 |cons hle _ ih=>
  refine⟨by simp[ih.1],λi p q hp hq=>?_⟩
  match i,hp,hq with
  |0,hp,hq=>cases hp;cases hq;exact hle
  |i+1,hp,hq=>exact ih.2 i p q (by simpa using hp) (by simpa using hq)
section
variable {P:Program}{cx:Ctx}{E:Env}{a:Act}{e:Operand->AV}{H:List Ob}{n:Nat}{r:Res}
 {dst:Option Tmp}{ty:TypeId}{pos:String}{after:Array Go.Edge}{guard:Option (Nat×Bool)}
theorem P4{id:Nat}{t:Ty}{xs:List t.den}{v:Value}{ids:List Nat}(hrow:RowsAt E t xs (E.ρ id))(hl:E.L id)(hv:P1 (E.ρ id) v)(hid:id∈ids):RdP E.w (FF E ids) v (.sl t xs):=by
 cases hρ:E.ρ id with
 |none=>
  rw[hρ]at hrow hv;have:xs=[]:=hrow;subst this;obtain⟨ba,rfl⟩:=hv;exact .sl0 _ _ _
 |some hd=>
  rw[hρ]at hrow hv;obtain⟨h1,h2,h3,h3',arr,el,h4,h5,h6⟩:=hrow;have hv':v=.slice (some ⟨hd.blk,hd.off,none⟩) hd.len hd.cap:=hv;subst hv';let g:Nat->Value:=λj=>(arr[hd.off+j]?).getD undef
  refine .sl hd.blk hd.off hd.len hd.cap t xs g h1 h2 (Kx h3) (λj hj=>⟨.inr ⟨id,hid,hl,.inl ⟨hd,hρ,rfl⟩⟩, ?_⟩) (λj p hp=>?_)
  ·obtain⟨u,hu,_⟩:=h6 j _ (aR hj);simp[World.cell?,h4,g,hu]
  ·obtain⟨u,hu,hr⟩:=h6 j p hp;have:g j=u:=by simp[g,hu]
   rw[this];exact hr.monoF λb o hb=>.inl hb
theorem Agl{id:Nat}{t:Ty}{m:Nat}{xss:List (List t.den)}{v:Value}{ids:List Nat}{hd:Hdr}(hρ:E.ρ id=some hd)(g:GridAt E t m xss hd (E.K id))(hl:E.L id)(hv:P1 (E.ρ id) v)(hid:id∈ids):
 RdP E.w (FF E ids) v (.sl (.sl t) (xss++List.replicate m [])):=by
 rw[hρ]at hv;have hv':v=.slice (some ⟨hd.blk,hd.off,none⟩) hd.len hd.cap:=hv;subst hv';obtain⟨arr,el,h1,h2,h3,h4⟩:=g.head;have hlen:(xss++List.replicate m ([]:List t.den)).length=hd.len:=by rw[bD,bZ,g.len]
 have hsz:(flat (.sl t) (xss++List.replicate m [])).length=hd.len:=by rw[Az,hlen];simp[Ty.size]
 have cell:∀(j:Nat)(p:PV),(flat (.sl t) (xss++List.replicate m []))[j]?=some p->∃xs,(xss++List.replicate m ([]:List t.den))[j]?=some xs/\p=PV.sl t xs:=by
  intro j p hp;have e:flat (.sl t) (xss++List.replicate m [])=(xss++List.replicate m ([]:List t.den)).map (λxs=>PV.sl t xs):=by
   unfold flat
   rw[List.map_eq_flatMap];rfl
  rw[e,cL,bC]at hp;obtain⟨xs,h5,h6⟩:=hp;exact⟨xs,h5,h6.symm⟩
 refine .sl hd.blk hd.off hd.len hd.cap (.sl t) _ (λj=>(arr[hd.off+j]?).getD undef) hlen.symm g.cap (Kx g.lim) (λj hj=>⟨.inr ⟨id,hid,hl,.inl ⟨hd,hρ,rfl⟩⟩, ?_⟩) (λj p hp=>?_)
 ·rw[hsz]at hj;have hj2:hd.off+j<arr.size:=by have:=g.cap;omega
  simp[World.cell?,h1,hj2]
 ·obtain⟨xs,hx,rfl⟩:=cell j p hp;rw[eA]at hx;split at hx
  ·rename_i hj;obtain⟨o,u,k1,k2,k3⟩:=h3 j hj;obtain⟨o',k4,k5⟩:=g.rows j xs hx;rw[k1]at k4;cases k4;show RdP E.w (FF E ids) ((arr[hd.off+j]?).getD undef) _;rw[k2];cases o with
   |none=>
    obtain⟨ba,rfl⟩:=k3;have:xs=[]:=k5;subst this;exact .sl0 _ _ _
   |some h'=>
    have k3':u=.slice (some ⟨h'.blk,h'.off,none⟩) h'.len h'.cap:=k3;subst k3';obtain⟨g1,g2,g3,g3',arr',el',g4,g5,g6⟩:=k5;let gg:Nat->Value:=λj=>(arr'[h'.off+j]?).getD undef
    refine .sl h'.blk h'.off h'.len h'.cap t xs gg g1 g2 (Kx g3) (λj2 hj2=>⟨.inr ⟨id,hid,hl,.inr ⟨j,h',k1,rfl⟩⟩, ?_⟩) (λj2 p hp=>?_)
    ·obtain⟨u,hu,_⟩:=g6 j2 _ (aR hj2);simp[World.cell?,g4,gg,hu]
    ·obtain⟨u,hu,hr⟩:=g6 j2 p hp;have:gg j2=u:=by simp[gg,hu]
     rw[this];exact hr.monoF λb o hb=>.inl hb
  ·rename_i hj;rw[eP]at hx;split at hx
   ·rename_i hj2;cases hx;obtain⟨ba,k⟩:=h4 j (by omega) (by omega);show RdP E.w (FF E ids) ((arr[hd.off+j]?).getD undef) _;rw[k];exact .sl0 _ _ _
   ·cases hx
def Ajd(E:Env)(ids':List Nat)(rec:AV->Option (FnT×List Nat)):Prop:=
 ∀(v:Value)(x:AV)(T:FnT)(l:List Nat),RdA E v x->rec x=some (T,l)->(∀id∈l,id∈ids')->RdP E.w (FF E ids') v (.fn T)
theorem P5(hL:∀id,E.A id->Ac H id≠.dead->E.L id)(hH:∀id,E.L id->Ac H id≠.dead->OkOb E id (Ac H id)){ids':List Nat}{rec:AV->Option (FnT×List Nat)}(hrec:Ajd E ids' rec):
 ∀(ys:List AV)(cs:List FnT)(ids:List Nat),Kt H rec ys=some (cs,ids)->(∀id∈ids,id∈ids')->ys.length=cs.length/\
  ∀(i:Nat) c y (v:Value),cs[i]?=some c->ys[i]?=some y->RdA E v y->∃b o u,v=.pointer (some ⟨b,o,none⟩)/\FF E ids' b o/\E.w.cell? ⟨b,o,none⟩=some u/\RdP E.w (FF E ids') u (.fn c)
 |[],cs,ids,h,_=>by
  cases h;exact⟨rfl,λi c y v hc=>by simp at hc⟩
 |y::ys,cs,ids,h,hsub=>by
  unfold Kt at h;split at h
  ·rename_i heq;cases heq
  ·rename_i c0 l heq;cases heq;split at h
   ·rename_i cs' ids1 h1;cases h;obtain⟨g1,g2⟩:=P5 hL hH hrec _ _ _ h1 hsub;refine⟨by simp[g1],λi c z v hc hy hv=>?_⟩;cases i with
    |zero=>
     simp only[dP,aU]at hc hy;subst hc;subst hy;cases hv with
     |eptr b o _ g hcell hrd=>
      obtain⟨k1,k2⟩:=hcell 0 (by simp);exact⟨b,o,g 0,rfl,.inl k1,k2,(hrd 0 _ rfl).monoF λb o hb=>.inl hb⟩
    |succ i=>exact g2 i c z v (by simpa using hc) (by simpa using hy) hv
   ·cases h
  ·rename_i id off l heq;cases heq;split at h
   ·rename_i xs hob;split at h
    ·rename_i hlt;have hlt':off<xs.length:=by
      have:=cB hlt;omega
     split at h
     ·rename_i c1 i1 cs' i2 h1 h2;cases h;obtain⟨g1,g2⟩:=P5 hL hH hrec _ _ _ h2 (λid hid=>hsub id (by simp[hid]));refine⟨by simp[g1],λi c z v hc hy hv=>?_⟩;cases i with
      |zero=>
       simp only[dP,aU]at hc hy;subst hc;subst hy;obtain⟨hA,_,hp⟩:=hv.ptr_inv;have hne:Ac H id≠.dead:=by rw[hob];simp
       have hl:=hL id hA hne;have hok:=hH id hl hne;rw[hob]at hok;obtain⟨hd,hρ,arr,el,k1,k2,k3⟩:=hok;obtain⟨hd',hρ',hv'⟩:=hp hl;rw[hρ]at hρ';cases hρ';have hla:off<arr.size:=by omega
       have hx:Aq .any xs off=xs[off]:=by
        have:=C1 (d:=AV.any) hlt';rw[aR hlt']at this;exact(Option.some.inj this).symm
       refine⟨hd.blk,off,arr[off],hv',.inr ⟨id,hsub id (by simp),hl,.inl ⟨hd,hρ,rfl⟩⟩,by simp[World.cell?,k1,hla], ?_⟩;rw[hx]at h1;exact hrec _ _ _ _ (k3 off _ _ (cF hla) (aR hlt')).2 h1 (λid hid=>hsub id (by simp[hid]))
      |succ i=>exact g2 i c z v (by simpa using hc) (by simpa using hy) hv
     ·cases h
    ·cases h
   ·cases h
  ·cases h
theorem P6(hL:∀id,E.A id->Ac H id≠.dead->E.L id)(hH:∀id,E.L id->Ac H id≠.dead->OkOb E id (Ac H id)){ids':List Nat}{rec:AV->Option (FnT×List Nat)}(hrec:Ajd E ids' rec):Ajd E ids' (Lu H rec):=by
 intro v x T l hx h hsub;unfold Lu at h;split at h
 ·cases h;cases hx;exact .fnil
 ·rename_i f ys;split at h
  ·rename_i cs ids hd;cases h;obtain⟨g1,g2⟩:=P5 hL hH hrec _ _ _ hd hsub;cases hx with
   |fn _ vs ws _ _ hv hw h1 h2=>
    have hvs:vs=#[]:=Array.eq_empty_of_size_eq_zero (by simpa using hv);subst hvs;have key:∀i,i<cs.length->∃b o u,ws[i]?=some (.pointer (some ⟨b,o,none⟩))/\FF E ids' b o/\E.w.cell? ⟨b,o,none⟩=some u/\∀c,cs[i]?=some c->RdP E.w (FF E ids') u (.fn c):=by
     intro i hi;have hiw:i<ws.size:=by omega
     have hiy:i<ys.length:=by omega
     obtain⟨b,o,u,k1,k2,k3,k4⟩:=g2 i _ _ _ (aR hi) (aR hiy) (h2 i _ _ (cF hiw) (aR hiy));refine⟨b,o,u,by rw[cF hiw,k1],k2,k3,λc hc=>?_⟩;rw[aR hi]at hc;cases hc;exact k4
    have key':∀i:Nat,∃q:(Nat×Nat)×Value,i<cs.length->ws[i]?=some (.pointer (some ⟨q.1.1,q.1.2,none⟩))/\FF E ids' q.1.1 q.1.2/\E.w.cell? ⟨q.1.1,q.1.2,none⟩=some q.2/\∀c,cs[i]?=some c->RdP E.w (FF E ids') q.2 (.fn c):=by
     intro i;by_cases hi:i<cs.length
     ·obtain⟨b,o,u,k⟩:=key i hi;exact⟨((b,o),u),λ_=>k⟩
     ·exact⟨((0,0),undef),λh=>aT h hi⟩
    obtain⟨q,hq⟩:=Classical.axiomOfChoice key';refine .fn f cs ws (λi=>(q i).1) (λi=>(q i).2) (by omega) (λi hi=>?_) (λi c hc=>?_)
    ·obtain⟨k1,k2,k3,_⟩:=hq i hi;exact⟨k1,k2,k3⟩
    ·exact(hq i (aW.1 hc).1).2.2.2 c hc
  ·cases h
 ·cases h
theorem Aje(hL:∀id,E.A id->Ac H id≠.dead->E.L id)(hH:∀id,E.L id->Ac H id≠.dead->OkOb E id (Ac H id)){ids':List Nat}{v:Value}{x:AV}{T:FnT}{l:List Nat}(hx:RdA E v x)(h:Vf H x=some (T,l))
 (hsub:∀id∈l,id∈ids'):RdP E.w (FF E ids') v (.fn T):=
 P6 hL hH (P6 hL hH (P6 hL hH (λv x T l _ h=>by cases h))) v x T l hx h hsub
theorem Ou(hL:∀id,E.A id->Ac H id≠.dead->E.L id)(hH:∀id,E.L id->Ac H id≠.dead->OkOb E id (Ac H id)){v:Value}{x:AV}{p:PV}{ids ids':List Nat}(hx:RdA E v x)(h:Cl H x=some (p,ids))(hsub:∀id∈ids,id∈ids'):
 RdP E.w (FF E ids') v p:=by
 have part:∀(id k lo len:Nat)(t:Ty)(xs:List t.den),RowsAt E t xs (E.ρ id)->E.L id->id∈ids'->k=t.size->Y9 k lo len (E.ρ id) v->RdP E.w (FF E ids') v (.sl t ((xs.drop lo).take len)):=by
  intro id k lo len t xs hrow hl hid hk hv;subst hk;cases hρ:E.ρ id with
  |none=>
   rw[hρ]at hv hrow;obtain⟨h0,ba,rfl⟩:=hv;have:xs=[]:=hrow;subst this;subst h0;simp only[hU,List.take_nil];exact .sl0 _ _ _
  |some hd=>
   rw[hρ]at hv;obtain⟨h1,o,c,rfl,h2,_,h3⟩:=hv;by_cases h0:len=0
   ·subst h0;simp only[gX];exact .sl0 _ _ _
   ·have ho:o=hd.off+lo*t.size:=h3.resolve_right (by omega);subst ho;rw[hρ]at hrow;obtain⟨hlen,g2,g3,g3',arr,el,g4,g5,g6⟩:=hrow;let g:Nat->Value:=λj=>(arr[hd.off+lo*t.size+j]?).getD undef
    have hfl:∀j p,(flat t ((xs.drop lo).take len))[j]?=some p->(flat t xs)[lo*t.size+j]?=some p:=by
     intro j p hp;rw[Dx,Dw]at hp;have hj:j<len*t.size:=by
      have:=(aW.1 hp).1;rw[bP]at this;omega
     rw[cQ hj,cK]at hp;exact hp
    refine .sl hd.blk _ len c t _ g ?_ h2 (Kx (by omega)) (λj hj=>⟨.inr ⟨id,hid,hl,.inl ⟨hd,hρ,rfl⟩⟩, ?_⟩) (λj p hp=>?_)
    ·rw[bP,cI];omega
    ·obtain⟨u,hu,_⟩:=g6 _ _ (hfl j _ (aR hj));rw[<-eK]at hu;simp[World.cell?,g4,g,hu]
    ·obtain⟨u,hu,hr⟩:=g6 _ p (hfl j p hp);rw[<-eK]at hu;have:g j=u:=by simp[g,hu]
     rw[this];exact hr.monoF λb o hb=>.inl hb
 cases x with
 |int k m=>simp only[Cl,aU,bG]at h;obtain⟨rfl,rfl⟩:=h;cases hx;exact .int _ _
 |bool b=>simp only[Cl,aU,bG]at h;obtain⟨rfl,rfl⟩:=h;cases hx;exact .bool _
 |str s=>simp only[Cl,aU,bG]at h;obtain⟨rfl,rfl⟩:=h;cases hx;exact .str _
 |sl t xs=>simp only[Cl,aU,bG]at h;obtain⟨rfl,rfl⟩:=h;exact hx.sl_inv.monoF λb o hb=>.inl hb
 |nils=>simp only[Cl,aU,bG]at h;obtain⟨rfl,rfl⟩:=h;cases hx;exact .nils _ _
 |cap0=>simp only[Cl,aU,bG]at h;obtain⟨rfl,rfl⟩:=h;cases hx;exact .nils _ _
 |val u=>
  unfold Cl at h;split at h
  case h_1 heq=>cases heq
  case h_2 heq=>cases heq;cases h;cases hx;exact .fnil
  all_goals first
   |(rename_i heq;cases heq;cases h;cases hx;exact .val _ ‹_›)
   |(rename_i heq;cases heq)
   |cases h
 |own id=>
  simp only[Cl]at h;have hA:=hx.own_inv.1;split at h
  ·rename_i t xs hob;simp only[aU,bG]at h;obtain⟨rfl,rfl⟩:=h;have hne:Ac H id≠.dead:=by rw[hob];simp
   have hl:=hL id hA hne;have hok:=hH id hl hne;rw[hob]at hok;exact P4 hok hl (hx.own_inv.2.2 hl) (hsub id (by simp))
  ·rename_i t xs hob;simp only[aU,bG]at h;obtain⟨rfl,rfl⟩:=h;have hne:Ac H id≠.dead:=by rw[hob];simp
   have hl:=hL id hA hne;have hok:=hH id hl hne;rw[hob]at hok;exact P4 hok hl (hx.own_inv.2.2 hl) (hsub id (by simp))
  ·rename_i t m xss hob;simp only[aU,bG]at h;obtain⟨rfl,rfl⟩:=h;have hne:Ac H id≠.dead:=by rw[hob];simp
   have hl:=hL id hA hne;have hok:=hH id hl hne;rw[hob]at hok;obtain⟨hd,hρ,hg⟩:=hok;exact Agl hρ hg hl (hx.own_inv.2.2 hl) (hsub id (by simp))
  ·cases h
 |ownp id k lo len=>
  simp only[Cl]at h;have hA:=hx.ownp_inv.1;split at h
  ·rename_i t xs hob;split at h
   ·rename_i hk;simp only[aU,bG]at h;obtain⟨rfl,rfl⟩:=h;have hne:Ac H id≠.dead:=by rw[hob];simp
    have hl:=hL id hA hne;have hok:=hH id hl hne;rw[hob]at hok;exact part id k lo len t xs hok hl (hsub id (by simp)) (by simpa using hk) (hx.ownp_inv.2.2 hl).q
   ·cases h
  ·rename_i t xs hob;split at h
   ·rename_i hk;simp only[aU,bG]at h;obtain⟨rfl,rfl⟩:=h;have hne:Ac H id≠.dead:=by rw[hob];simp
    have hl:=hL id hA hne;have hok:=hH id hl hne;rw[hob]at hok;exact part id k lo len t xs hok hl (hsub id (by simp)) (by simpa using hk) (hx.ownp_inv.2.2 hl).q
   ·cases h
  ·cases h
 |ownc id k lo len=>
  simp only[Cl]at h;have hA:=hx.ownc_inv.1;have toP:∀{t:Ty}{xs:List t.den},RowsAt E t xs (E.ρ id)->E.L id->Y9 k lo len (E.ρ id) v:=by
   intro t xs hrow hl;obtain⟨hd,hρ,h1,h2⟩:=hx.ownc_inv.2.2 hl;rw[hρ]at hrow ⊢;have:=hrow.2.1;exact⟨h1,_,_,h2,by omega,by omega,.inl rfl⟩
  split at h
  ·rename_i t xs hob;split at h
   ·rename_i hk;simp only[aU,bG]at h;obtain⟨rfl,rfl⟩:=h;have hne:Ac H id≠.dead:=by rw[hob];simp
    have hl:=hL id hA hne;have hok:=hH id hl hne;rw[hob]at hok;exact part id k lo len t xs hok hl (hsub id (by simp)) (by simpa using hk) (toP hok hl)
   ·cases h
  ·rename_i t xs hob;split at h
   ·rename_i hk;simp only[aU,bG]at h;obtain⟨rfl,rfl⟩:=h;have hne:Ac H id≠.dead:=by rw[hob];simp
    have hl:=hL id hA hne;have hok:=hH id hl hne;rw[hob]at hok;exact part id k lo len t xs hok hl (hsub id (by simp)) (by simpa using hk) (toP hok hl)
   ·cases h
  ·cases h
 |slf t xs=>simp only[Cl,aU,bG]at h;obtain⟨rfl,rfl⟩:=h;exact hx.slf_inv.2.monoF λb o hb=>.inl hb
 |csl _ _ _=>simp[Cl]at h
 |dmp _=>simp[Cl]at h
 |yld _=>simp[Cl]at h
 |rnd _=>simp[Cl]at h
 |grow _ _=>simp[Cl]at h
 |gptr _ _ _=>simp[Cl]at h
 |any=>simp[Cl]at h
 |ptr _ _=>simp[Cl]at h
 |rptr _ _ _ _=>simp[Cl]at h
 |eptr _=>simp[Cl]at h
 |fn f x1 y1=>
  simp only[Cl]at h;split at h
  ·rename_i T l hT;simp only[aU,bG]at h;obtain⟨rfl,rfl⟩:=h;exact Aje hL hH hx hT hsub
  ·cases h
 |mp _=>simp[Cl]at h
 |agg _=>simp[Cl]at h
 |tup _=>simp[Cl]at h
 |when=>simp[Cl]at h
theorem S9{rec:AV->Option (FnT×List Nat)}:∀(ys:List AV)(cs:List FnT)(ids:List Nat),Kt [] rec ys=some (cs,ids)->ids=[]
 |[],_,_,h=>by cases h;rfl
 |y::ys,cs,ids,h=>by
  unfold Kt at h;split at h
  ·rename_i heq;cases heq
  ·rename_i c0 l heq;cases heq;split at h
   ·rename_i cs' ids1 h1;cases h;exact S9 _ _ _ h1
   ·cases h
  ·simp[Ac,Aq]at h
  ·cases h
theorem Agm{x:AV}{T:FnT}{l:List Nat}(h:Vf [] x=some (T,l)):l=[]:=by
 unfold Vf Lu at h;split at h
 ·cases h;rfl
 ·split at h
  ·rename_i cs ids hd;cases h;exact S9 _ _ _ hd
  ·cases h
 ·cases h
theorem P7{x:AV}{p:PV}{l:List Nat}(h:Cl [] x=some (p,l)):l=[]:=by
 unfold Cl at h;split at h
 ·split at h
  ·rename_i T l' hT;cases h;exact Agm hT
  ·cases h
 all_goals first
  |(cases h;rfl)
  |cases h
  |(simp[Ac,Aq]at h;done)
theorem Gm(hL:∀id,E.A id->Ac H id≠.dead->E.L id)(hH:∀id,E.L id->Ac H id≠.dead->OkOb E id (Ac H id)){ids':List Nat}:∀{vs:List Value}{cs:List AV}{ps:List PV}{ids:List Nat},CellL E vs cs->Di H cs=some (ps,ids)->(∀id∈ids,id∈ids')->
 vs.length=ps.length/\∀(i:Nat) v p,vs[i]?=some v->ps[i]?=some p->v.oneCell'=true/\RdP E.w (FF E ids') v p
 |vs,[],ps,ids,hc,h,_=>by
  simp only[Di,aU,bG]at h;obtain⟨rfl,rfl⟩:=h;have:=hc.1;refine⟨by simpa using this,λi v p _ hp=>by simp at hp⟩
 |vs,c::cs,ps,ids,hc,h,hsub=>by
  simp only[Di]at h;split at h
  ·rename_i p ia qs ib h1 h2;simp only[aU,bG]at h;obtain⟨rfl,rfl⟩:=h
   match vs,hc with
   |[],hc=>exact aT hc.1 (by simp)
   |v::vs,hc=>
    have hc':CellL E vs cs:=⟨by have:=hc.1;simpa using this,λi u x hu hx=>hc.2 (i+1) u x (by simpa using hu) (by simpa using hx)⟩;have ih:=Gm hL hH hc' h2 (λid hid=>hsub id (by simp[hid]));refine⟨by simp[ih.1],λi u q hu hq=>?_⟩
    match i,hu,hq with
    |0,hu,hq=>
     cases hu;cases hq;have h3:=hc.2 0 v c rfl rfl;exact⟨h3.1,Ou hL hH h3.2 h1 (λid hid=>hsub id (by simp[hid]))⟩
    |i+1,hu,hq=>exact ih.2 i u q (by simpa using hu) (by simpa using hq)
  ·cases h
theorem Step.ff{w':World}{hd:Nat->Option Hdr}{wn:Nat->Prop}(hs:Step E n r w' hd)(hr:Ready E n r.news.length)(hk:r.kill=none)(hst:∀p,r.st=some p->p.1 ∉ r.frz){b o:Nat}(h:FF E r.frz b o):
 (E.ext n r.news.length r.kill r.frz wn w' hd).Fz b o/\w'.cell? ⟨b,o,none⟩=E.w.cell? ⟨b,o,none⟩:=by
 rcases h with h|⟨id,hid,hl,hown⟩
 ·exact(hs.evo hr 0).fz b o h
 ·obtain⟨h1,h2⟩:=hr.ltO id b hl hown;refine⟨.inr ⟨h1,cA h2 hs.below.size,λid' hW ho=>?_,hr.hid id b hl hown⟩,H9 (hs.fr b h2 λid' hW hor ho=>?_)⟩
  ·rcases Env.ext_own ho with⟨hc,h',hρ',hb'⟩|⟨hc,ho⟩
   ·exact hs.apartO hr (by omega) hρ' hl (by rw[hk];simp) hown hb'
   ·rcases hW with⟨hW,_,hnf⟩|⟨g1,g2,_⟩
    ·exact hnf ((hr.injO id' id b (hr.wl id' hW) hl ho hown) ▸ hid)
    ·exact aT ⟨g1,g2⟩ hc
  ·have e:=hr.injO id' id b (hr.wl id' hW) hl ho hown;rcases hor with g|g
   ·rw[hk]at g;cases g
   ·cases hst':r.st with
    |none=>rw[hst']at g;cases g
    |some p=>
     rw[hst']at g;simp at g;exact hst p hst' (by rw[g,e];exact hid)
end
end Go.Sx
namespace Go.Sx
open Go.RowKit
section
variable {P:Program}{cx:Ctx}{E:Env}{a:Act}{e:Operand->AV}{H:List Ob}{n:Nat}{r:Res}
 {dst:Option Tmp}{ty:TypeId}{pos:String}{after:Array Go.Edge}{guard:Option (Nat×Bool)}{wn:Nat->Prop}{K:Act->World->Prop}{Q:Exit->Act->World->Prop}{ro:Option Nat}
theorem J4{w':World}{hd:Hdr}(hm:r.news.length=1)(hk:r.kill=none)(hst:r.st=none)(hb:Below E.B E.w w')(hh:∀b,b<E.w.heap.size->w'.heap[b]?=E.w.heap[b]?)
 (hsz:w'.heap.size=E.w.heap.size+1)(hblk:hd.blk=E.w.heap.size):Step E n r w' (λ_=>some hd):=by
 refine⟨hb,λb hb' _=>hh b hb', ?_, ?_, ?_, ?_⟩
 ·intro j h _ hj;cases hj;exact⟨by omega,.inl (by omega)⟩
 ·intro j j' h h' hj hj' _ _ hne;omega
 ·intro id hid;rw[hk]at hid;cases hid
 ·intro p hp;rw[hst]at hp;cases hp
theorem F6{w:World}{o:Obj}:∀b,b<w.heap.size->(w.alloc o).heap[b]?=w.heap[b]?:=λb hb=>Below.heap_alloc w o b hb
theorem Vm{arr:Array Value}{el:TypeId}{cs:List AV}(hr:Ready E n 1)(hA:∃N,∀id,E.A id->id<N)(hc:CellL E arr.toList cs)(h0:r=⟨none,none,.ptr n 0,[.cells cs],none,none,[]⟩)
 (hK:∀E' v,Ext E n r wn E'->A7 r.given->RdA E' v r.val->K (a.put dst v) E'.w):K (a.put dst (.pointer (some ⟨E.w.heap.size,0,none⟩))) (E.w.alloc (.cells arr el)):=by
 subst h0;have hs:Step E n ⟨none,none,.ptr n 0,[.cells cs],none,none,[]⟩ (E.w.alloc (.cells arr el)) (λ_=>some ⟨E.w.heap.size,0,0,0⟩):=
  J4 rfl rfl rfl ((Below.refl _ _).alloc hr.B _) F6 (by simp) rfl
 obtain⟨N,hN⟩:=hA;have hx:=hs.ext (wn:=wn) hr ⟨N,hN⟩ (λhevo j ob hj=>by
  match j,hj with
  |0,hj=>
   cases hj;refine⟨⟨E.w.heap.size,0,0,0⟩,by simp[Env.ext],arr,el, ?_,by have:=hc.1;simpa using this,λi v x hv hx=>?_⟩
   ·exact heap_alloc_new E.w _
   ·obtain⟨h1,h2⟩:=hc.2 i v x (by simpa using hv) hx;exact⟨h1,h2.mono (hevo N) hN⟩) (λ_ id ob h=>by cases h)
 refine hK _ _ hx trivial (.ptr _ n 0 (.inr ⟨bA _,by simp⟩) ⟨_,_,rfl⟩ λ_=>⟨⟨E.w.heap.size,0,0,0⟩,by simp[Env.ext],rfl⟩)
theorem Agn{t:TypeId}(hr:Ready E n r.news.length)(hA:∃N,∀id,E.A id->id<N)
 (h:evOp cx P e H n ⟨dst,.makeMap t none,ty,pos,after,guard⟩=some r)
 (hK:∀E' v,Ext E n r wn E'->A7 r.given->RdA E' v r.val->K (a.put dst v) E'.w):(⟨dst,.makeMap t none,ty,pos,after,guard⟩:Oper).wpI ro P a E.w K Q:=by
 simp only[evOp]at h;have h0:=(Option.some.inj h).symm;have hr':Ready E n 1:=by rw[h0]at hr;exact hr
 subst h0;refine Cu (w':=E.w.alloc (.map #[] 0)) (v:=.map (some E.w.heap.size)) (by simp[execOp,Instr.makeMap]) ?_;have hs:Step E n ⟨none,none,.mp n,[.fmap []],none,none,[]⟩ (E.w.alloc (.map #[] 0)) (λ_=>some ⟨E.w.heap.size,0,0,0⟩):=
  J4 rfl rfl rfl ((Below.refl _ _).alloc hr'.B _) F6 (by simp) rfl
 have hx:=hs.ext (wn:=wn) hr' hA (λhevo j ob hj=>by
  match j,hj with
  |0,hj=>
   cases hj;exact⟨⟨E.w.heap.size,0,0,0⟩,by simp[Env.ext],#[],0,heap_alloc_new E.w _,rfl,λi m p hm _=>by simp at hm⟩) (λ_ id ob h=>by cases h)
 exact hK _ _ hx trivial (.mp _ n (.inr ⟨bA _,by simp⟩) rfl λ_=>⟨⟨E.w.heap.size,0,0,0⟩,by simp[Env.ext],rfl⟩)
theorem Asw{el:TypeId}{x:Operand}(hr:Ready E n r.news.length)(hA:∃N,∀id,E.A id->id<N)(hx:RdA E (a.eval x) (e x))
 (h:evOp cx P e H n ⟨dst,.box el x,ty,pos,after,guard⟩=some r)
 (hK:∀E' v,Ext E n r wn E'->A7 r.given->RdA E' v r.val->K (a.put dst v) E'.w):(⟨dst,.box el x,ty,pos,after,guard⟩:Oper).wpI ro P a E.w K Q:=by
 simp only[evOp]at h;split at h
 ·rename_i cs hcs;have h0:=(Option.some.inj h).symm;have hc:=Iu hx hcs;have hr':Ready E n 1:=by rw[h0]at hr;exact hr
  refine Cu (w':=E.w.alloc (.cells (a.eval x).cells el)) (v:=.pointer (some ⟨E.w.heap.size,0,none⟩)) (by simp[execOp,Instr.box,newVar,newRow]) (Vm hr' hA hc h0 hK)
 ·cases h
theorem J5{t:TypeId}{z:Value}(h:Eg P t=some z)(w:World):(zeroValue t).run P w=.ok z w:=by
 unfold Eg at h;split at h
 ·rename_i i hi;simp[zeroValue,typeInfo,hi,h]
 ·cases h
theorem Iv{z:List Value}(hz:z.all Ef=true):CellL E z (z.map Eo):=by
 refine⟨by simp,λi v x hv hx=>?_⟩;simp only[cL,bC]at hx;obtain⟨u,hu',rfl⟩:=hx;rw[hv]at hu';cases hu';have:v.oneCell'=true:=by
  have:=bV.1 hz v (cR hv);exact this
 exact⟨this,Ml this⟩
theorem Am6{el:TypeId}(hr:Ready E n r.news.length)(hA:∃N,∀id,E.A id->id<N)
 (h:evOp cx P e H n ⟨dst,.alloc el,ty,pos,after,guard⟩=some r)
 (hK:∀E' v,Ext E n r wn E'->A7 r.given->RdA E' v r.val->K (a.put dst v) E'.w):(⟨dst,.alloc el,ty,pos,after,guard⟩:Oper).wpI ro P a E.w K Q:=by
 simp only[evOp]at h;split at h
 ·rename_i z hz;split at h
  ·rename_i hall;have h0:=(Option.some.inj h).symm;have hr':Ready E n 1:=by rw[h0]at hr;exact hr
   refine Cu (w':=E.w.alloc (.cells z.cells el)) (v:=.pointer (some ⟨E.w.heap.size,0,none⟩)) (by simp[execOp,Instr.alloc,J5 hz,newVar,newRow]) (Vm hr' hA (Iv hall) h0 hK)
  ·cases h
 ·cases h
theorem Zg{arr:Array Value}{el:TypeId}{t:Ty}{xs:List t.den}{cp:Nat}{q:Option Prop}{ids:List Nat}(hr:Ready E n 1)(hA:∃N,∀id,E.A id->id<N)(hlen:xs.length<=cp)(hlim:xs.length<=lim)(hcp:cp<=maxLen)(hsz:cp*t.size<=arr.size)
 (hc:∀(j:Nat) p,(flat t xs)[j]?=some p->∃v,arr[j]?=some v/\RdP E.w (FF E ids) v p)(h0:r=⟨q,none,.own n,[.rows t xs],none,none,ids⟩)
 (hK:∀E' v,Ext E n r wn E'->A7 r.given->RdA E' v r.val->K (a.put dst v) E'.w):K (a.put dst (.slice (some ⟨E.w.heap.size,0,none⟩) xs.length cp)) (E.w.alloc (.cells arr el)):=by
 subst h0;have hs:Step E n ⟨q,none,.own n,[.rows t xs],none,none,ids⟩ (E.w.alloc (.cells arr el)) (λ_=>some ⟨E.w.heap.size,0,xs.length,cp⟩):=
  J4 rfl rfl rfl ((Below.refl _ _).alloc hr.B _) F6 (by simp) rfl
 have hx:=hs.ext (wn:=wn) hr hA (λhevo j ob hj=>by
  match j,hj with
  |0,hj=>
   cases hj;show RowsAt _ t xs _;have hρ:(E.ext n 1 none ids wn (E.w.alloc (.cells arr el)) (λ_=>some ⟨E.w.heap.size,0,xs.length,cp⟩)).ρ (n+0)=some ⟨E.w.heap.size,0,xs.length,cp⟩:=by simp[Env.ext]
   rw[show(E.ext n (List.length [Ob.rows t xs]) none ids wn (E.w.alloc (.cells arr el)) (λ_=>some ⟨E.w.heap.size,0,xs.length,cp⟩)).ρ (n+0)=some ⟨E.w.heap.size,0,xs.length,cp⟩from hρ];refine⟨rfl,hlen,hlim,hcp,arr,el,heap_alloc_new E.w _,by simpa using hsz,λj p hp=>?_⟩;obtain⟨v,h1,h2⟩:=hc j p hp;exact⟨v,by simpa using h1,h2.mono λb o hb=>hs.ff hr rfl (λp hp=>by cases hp) hb⟩) (λ_ id ob h=>by cases h)
 refine hK _ _ hx trivial (.own _ n (.inr ⟨bA _,by simp⟩) rfl λ_=>?_);have hρ:(E.ext n 1 none ids wn (E.w.alloc (.cells arr el)) (λ_=>some ⟨E.w.heap.size,0,xs.length,cp⟩)).ρ n=some ⟨E.w.heap.size,0,xs.length,cp⟩:=by simp[Env.ext]
 rw[show(E.ext n (List.length [Ob.rows t xs]) none ids wn (E.w.alloc (.cells arr el)) (λ_=>some ⟨E.w.heap.size,0,xs.length,cp⟩)).ρ n=some ⟨E.w.heap.size,0,xs.length,cp⟩from hρ];rfl
theorem Gn(t:Ty)(y:t.den):∀(m j:Nat) p,(flat t (List.replicate m y))[j]?=some p->(enc t y)[j % t.size]?=some p
 |0,j,p,h=>by simp[flat]at h
 |m+1,j,p,h=>by
  have h1:flat t (List.replicate (m+1) y)=enc t y++flat t (List.replicate m y):=by simp[flat,List.replicate_succ]
  rw[h1]at h;by_cases hj:j<t.size
  ·rw[bX (by rw[Aw];exact hj)]at h;rw[Nat.mod_eq_of_lt hj];exact h
  ·rw[cD (by rw[Aw];omega),Aw]at h;have:=Gn t y m (j-t.size) p h
   rwa [<-Nat.mod_eq_sub_mod (by omega)]at this
theorem Zh:∀(l:List AV) ps ids,Di [] l=some (ps,ids)->ids=[]
 |[],ps,ids,h=>by simp[Di]at h;exact h.2
 |x::l,ps,ids,h=>by
  simp only[Di]at h;split at h
  ·rename_i p ia qs ib h1 h2;simp only[aU,bG]at h;obtain⟨_,rfl⟩:=h;have hib:=Zh l _ _ h2;subst hib;rw[P7 h1];rfl
  ·cases h
theorem Zi{z:Value}{t':Ty}{ps:List PV}{ids:List Nat}{y:t'.den}{info:TypeInfo}(hk:z.cells.toList.all Ef=true)(hd:Di [] (z.cells.toList.map Eo)=some (ps,ids))(hy:dec t' ps=some y)(hs:info.size=t'.size):
 ∀(N cp:Nat),N<=cp->∀(j:Nat) p,(flat t' (List.replicate N y))[j]?=some p->∃v,(madeCells z.cells (cp*info.size))[j]?=some v/\RdP E.w (FF E []) v p:=by
 intro N cp hN j p hp;have hzc:=Iv (E:=E) hk;obtain⟨g1,g2⟩:=Gm (ids':=[]) (H:=[]) (E:=E) (λid _ hne=>aT rfl hne) (λid _ hne=>aT rfl hne) hzc hd (λid hid=>by
  have:=Zh _ _ _ hd;subst this;exact hid)
 have hle:=Ir t' ps y hy;have hlen:(List.replicate N y).length=N:=by simp
 have hz':z.cells.size=t'.size:=by
  have h1:=hle.get.1;rw[Aw]at h1;simp at g1;omega
 have hj:j<N*t'.size:=by
  have:=(aW.1 hp).1;rw[Az,hlen]at this;exact this
 have hp':=Gn t' y _ j p hp;have hmod:j % t'.size<t'.size:=Nat.mod_lt _ (Bh t');have hcp:j<cp*info.size:=by
  rw[hs];exact cA hj (cY _ hN)
 have hzl:z.cells.toList.length=t'.size:=by simpa using hz'
 have hu':z.cells.toList[j % t'.size]?=some (z.cells.toList[j % t'.size]'(by omega)):=aR (by omega);refine⟨z.cells.toList[j % t'.size]'(by omega), ?_, ?_⟩
 ·simp only[madeCells,gB,gS,hcp,hz'];simp;rw[getElem!_pos z.cells _ (by omega)]
 ·have hpl:ps[j % t'.size]?=some (ps[j % t'.size]'(by rw[<-g1];omega)):=aR (by rw[<-g1];omega);exact(g2 _ _ _ hu' hpl).2.le (hle.get.2 _ _ _ hpl hp')
theorem Ago{arr:Array Value}{el:TypeId}{t:Ty}{xs:List t.den}{k len:Nat}{q:Option Prop}(hr:Ready E n 1)(hA:∃N,∀id,E.A id->id<N)(hlen:len<=xs.length)(hlim:xs.length<=lim)(hcp:xs.length<=maxLen)(hsz:xs.length*t.size<=arr.size)
 (hc:∀(j:Nat) p,(flat t xs)[j]?=some p->∃v,arr[j]?=some v/\RdP E.w (FF E []) v p)(h0:r=⟨q,none,.ownc n k 0 len,[.rows t xs],none,none,[]⟩)
 (hK:∀E' v,Ext E n r wn E'->A7 r.given->RdA E' v r.val->K (a.put dst v) E'.w):K (a.put dst (.slice (some ⟨E.w.heap.size,0,none⟩) len xs.length)) (E.w.alloc (.cells arr el)):=by
 subst h0;have hs:Step E n ⟨q,none,.ownc n k 0 len,[.rows t xs],none,none,[]⟩ (E.w.alloc (.cells arr el)) (λ_=>some ⟨E.w.heap.size,0,xs.length,xs.length⟩):=
  J4 rfl rfl rfl ((Below.refl _ _).alloc hr.B _) F6 (by simp) rfl
 have hρ:(E.ext n (List.length [Ob.rows t xs]) none [] wn (E.w.alloc (.cells arr el)) (λ_=>some ⟨E.w.heap.size,0,xs.length,xs.length⟩)).ρ n=some ⟨E.w.heap.size,0,xs.length,xs.length⟩:=by simp[Env.ext]
 have hx:=hs.ext (wn:=wn) hr hA (λhevo j ob hj=>by
  match j,hj with
  |0,hj=>
   cases hj;show RowsAt _ t xs _;rw[dH,hρ];refine⟨rfl,bA _,hlim,hcp,arr,el,heap_alloc_new E.w _,by simpa using hsz,λj p hp=>?_⟩;obtain⟨v,h1,h2⟩:=hc j p hp;exact⟨v,by simpa using h1,h2.mono λb o hb=>hs.ff hr rfl (λp hp=>by cases hp) hb⟩) (λ_ id ob h=>by cases h)
 refine hK _ _ hx trivial (.ownc _ n k 0 len (.inr ⟨bA _,by simp⟩) rfl λ_=>⟨_,hρ,by simpa using hlen,by simp⟩)
theorem Ajf{arr:Array Value}{el:TypeId}{t:Ty}{len cp:Nat}{q:Option Prop}(hr:Ready E n 1)(hA:∃N,∀id,E.A id->id<N)(hlen:len<=cp)(hlim:len<=lim)(hcp:cp<=maxLen)(hsz:cp<=arr.size)
 (hc:∀(j:Nat),j<cp->arr[j]?=some (.slice none 0 0))(h0:r=⟨q,none,.own n,[.grid t len []],none,none,[]⟩)
 (hK:∀E' v,Ext E n r wn E'->A7 r.given->RdA E' v r.val->K (a.put dst v) E'.w):K (a.put dst (.slice (some ⟨E.w.heap.size,0,none⟩) len cp)) (E.w.alloc (.cells arr el)):=by
 subst h0;have hs:Step E n ⟨q,none,.own n,[.grid t len []],none,none,[]⟩ (E.w.alloc (.cells arr el)) (λ_=>some ⟨E.w.heap.size,0,len,cp⟩):=
  J4 rfl rfl rfl ((Below.refl _ _).alloc hr.B _) F6 (by simp) rfl
 have hρ:(E.ext n (List.length [Ob.grid t len []]) none [] wn (E.w.alloc (.cells arr el)) (λ_=>some ⟨E.w.heap.size,0,len,cp⟩)).ρ n=some ⟨E.w.heap.size,0,len,cp⟩:=by simp[Env.ext]
 have hKn:(E.ext n (List.length [Ob.grid t len []]) none [] wn (E.w.alloc (.cells arr el)) (λ_=>some ⟨E.w.heap.size,0,len,cp⟩)).K n=λ_=>none:=by simp[Env.ext]
 have hx:=hs.ext (wn:=wn) hr hA (λhevo j ob hj=>by
  match j,hj with
  |0,hj=>
   cases hj;rw[dH];refine⟨_,hρ, ?_⟩;rw[hKn];refine⟨by simp,hlen,hlim,hcp,⟨arr,el,heap_alloc_new E.w _,by simpa using hsz,λi hi=>(by simp at hi),λi _ hi=>⟨none, ?_⟩⟩,λi xs hi=>(by simp at hi),λ_ _=>rfl,λi h' hi=>(by cases hi),λi j h1 h2 hi=>(by cases hi)⟩;have:=hc i (by simp at hi;omega);simpa using this) (λ_ id ob h=>by cases h)
 refine hK _ _ hx trivial (.own _ n (.inr ⟨bA _,by simp⟩) rfl λ_=>?_);rw[hρ];rfl
theorem Am7{arr:Array Value}{el:TypeId}{ct:Ty}{m:Nat}{q:Option Prop}(hr:Ready E n 1)(hA:∃N,∀id,E.A id->id<N)(hsz:arr.size=m)
 (hc:∀(j:Nat),j<m->arr[j]?=some (.slice none 0 0))(h0:r=⟨q,none,.csl ct n m,[.cells (List.replicate m .cap0)],none,none,[]⟩)
 (hK:∀E' v,Ext E n r wn E'->A7 r.given->RdA E' v r.val->K (a.put dst v) E'.w):K (a.put dst (.slice (some ⟨E.w.heap.size,0,none⟩) m m)) (E.w.alloc (.cells arr el)):=by
 subst h0;have hs:Step E n ⟨q,none,.csl ct n m,[.cells (List.replicate m .cap0)],none,none,[]⟩ (E.w.alloc (.cells arr el)) (λ_=>some ⟨E.w.heap.size,0,0,0⟩):=
  J4 rfl rfl rfl ((Below.refl _ _).alloc hr.B _) F6 (by simp) rfl
 have hx:=hs.ext (wn:=wn) hr hA (λhevo j ob hj=>by
  match j,hj with
  |0,hj=>
   cases hj;refine⟨⟨E.w.heap.size,0,0,0⟩,by simp[Env.ext],arr,el,heap_alloc_new E.w _,by simpa using hsz,λi v x hv hx=>?_⟩;have hi:i<m:=by
    have:=(aW.1 hx).1;simpa using this
   rw[hc i hi]at hv;cases hv;have hx':x=.cap0:=by
    rw[eP,aP hi]at hx;cases hx;rfl
   subst hx';exact⟨rfl,.cap0 _⟩) (λ_ id ob h=>by cases h)
 exact hK _ _ hx trivial (.csl _ ct n m (.inr ⟨bA _,by simp⟩) rfl λ_=>⟨⟨E.w.heap.size,0,0,0⟩,by simp[Env.ext],rfl⟩)
theorem Zj{t:TypeId}{l c:Operand}(hr:Ready E n r.news.length)(hA:∃N,∀id,E.A id->id<N)
 (hl:RdA E (a.eval l) (e l))(hc:RdA E (a.eval c) (e c))(hn:A7 r.need)
 (h:evOp cx P e H n ⟨dst,.makeSlice t l c,ty,pos,after,guard⟩=some r)
 (hK:∀E' v,Ext E n r wn E'->A7 r.given->RdA E' v r.val->K (a.put dst v) E'.w):(⟨dst,.makeSlice t l c,ty,pos,after,guard⟩:Oper).wpI ro P a E.w K Q:=by
 simp only[evOp]at h;split at h
 ·rename_i elem k len k' cp hu hvl hvc;rw[hvl]at hl;rw[hvc]at hc;have hlimv:(lim:Int)=140737488355328:=rfl;have run:∀(info:TypeInfo)(z:Value),P.info? elem=some info->Eg P elem=some z->0<=len->len<=cp->cp*(C0 P elem:Int)<=(lim:Int)->cp<=(lim:Int)->
   (execOp a.eval ⟨dst,.makeSlice t l c,ty,pos,after,guard⟩).run P E.w=.ok (.value (.slice (some ⟨E.w.heap.size,0,none⟩) len.toNat cp.toNat)) (E.w.alloc (.cells (madeCells z.cells (cp.toNat*info.size)) elem)):=by
   intro info z hi hz n1 n2 n3 n4;have hb:C0 P elem=info.bytes:=by simp[C0,hi]
   have hiz:info.zero=some z:=by simpa[Eg,hi]using hz
   have hrun:=run_make (P:=P) E.w t elem info z hu hi hiz k k' len cp n1 n2 (by rw[<-hb,Int.mul_comm];omega) (by omega);simp[execOp,hl.int_inv,hc.int_inv,hrun]
  split at h
  ·rename_i ct hgl;split at h
   ·rename_i bs hz hbs;have hbs':=Jg hbs;subst hbs';split at h
    ·rename_i hk;obtain⟨info,hi,hs⟩:=Bs hk (by decide);have h0:=(Option.some.inj h).symm;have hr':Ready E n 1:=by rw[h0]at hr;exact hr
     have hn':0<=len/\len=cp/\cp*(C0 P elem:Int)<=(lim:Int)/\cp<=(lim:Int):=by rw[h0]at hn;exact hn
     obtain⟨n1,n2,n3,n4⟩:=hn';refine Cu (run info _ hi hz n1 (by omega) n3 n4) ?_;subst n2;refine Am7 (a:=a) (dst:=dst) (K:=K) (r:=r) (wn:=wn) hr' hA (by rw[size_madeCells,hs,fX]) (λj hj=>?_) h0 hK;simp[madeCells,hs,hj,Value.cells,Nat.mod_one]
    ·cases h
   ·cases h
  split at h
  ·rename_i gt hgl;split at h
   ·rename_i bs hz hbs;have hbs':=Jg hbs;subst hbs';split at h
    ·rename_i hk;obtain⟨info,hi,hs⟩:=Bs hk (by decide);have h0:=(Option.some.inj h).symm;have hr':Ready E n 1:=by rw[h0]at hr;exact hr
     have hn':0<=len/\len<=cp/\cp*(C0 P elem:Int)<=(lim:Int)/\cp<=(lim:Int):=by rw[h0]at hn;exact hn
     obtain⟨n1,n2,n3,n4⟩:=hn';refine Cu (run info _ hi hz n1 n2 n3 n4) ?_;refine Ajf (a:=a) (dst:=dst) (K:=K) (r:=r) (wn:=wn) hr' hA (by omega) (by simp[lim];omega) (by simp only[maxLen];omega) (by rw[size_madeCells,hs];omega) (λj hj=>?_) h0 hK;simp[madeCells,hs,hj,Value.cells,Nat.mod_one]
    ·cases h
   ·cases h
  ·split at h
   ·rename_i t' z hlook hz;split at h
    ·rename_i hk;simp only[aS]at hk;obtain⟨info,hi,hs⟩:=Bs hk.1 (Bh t');split at h
     ·rename_i ps ids hd;split at h
      ·rename_i y bs hy hbs;have hbs':=Jg hbs;subst hbs';have h0:=(Option.some.inj h).symm;have hr':Ready E n 1:=by rw[h0]at hr;exact hr
       have hn':0<=len/\len<=cp/\cp*(C0 P elem:Int)<=(lim:Int)/\cp<=(lim:Int):=by rw[h0]at hn;exact hn
       obtain⟨n1,n2,n3,n4⟩:=hn';have hlen:(List.replicate cp.toNat y).length=cp.toNat:=by simp
       have hm:=Zi (E:=E) hk.2 hd hy hs;refine Cu (run info z hi hz n1 n2 n3 n4) ?_;have:=Ago (a:=a) (dst:=dst) (arr:=madeCells z.cells (cp.toNat*info.size)) (el:=elem) (t:=t') (xs:=List.replicate cp.toNat y) (k:=t'.size) (len:=len.toNat) (K:=K) (r:=r) (wn:=wn) hr' hA (by rw[hlen];omega) (by rw[hlen];simp[lim];omega) (by rw[hlen];simp only[maxLen];omega)
        (by rw[size_madeCells,hs,hlen];exact bA _) (λj p hp=>hm _ _ (bA _) j p hp) h0 hK
       rw[hlen]at this;exact this
      ·cases h
     ·cases h
    ·cases h
   ·split at h
    ·rename_i t' z hlook hz;split at h
     ·rename_i hk;simp only[aS]at hk;obtain⟨info,hi,hs⟩:=Bs hk.1 (Bh t');split at h
      ·rename_i ps ids hd;split at h
       ·rename_i y bs hy hbs;have hbs':=Jg hbs;subst hbs';have h0:=(Option.some.inj h).symm;have hr':Ready E n 1:=by rw[h0]at hr;exact hr
        have hn':0<=len/\len<=cp/\cp*(C0 P elem:Int)<=(lim:Int)/\cp<=(lim:Int):=by rw[h0]at hn;exact hn
        obtain⟨n1,n2,n3,n4⟩:=hn';have hlen:(List.replicate len.toNat y).length=len.toNat:=by simp
        have hm:=Zi (E:=E) hk.2 hd hy hs;refine Cu (run info z hi hz n1 n2 n3 n4) ?_;have:=Zg (a:=a) (dst:=dst) (arr:=madeCells z.cells (cp.toNat*info.size)) (el:=elem) (t:=t') (xs:=List.replicate len.toNat y) (cp:=cp.toNat) (ids:=[]) (K:=K) (r:=r) (wn:=wn) hr' hA (by simp;omega) (by simp[lim];omega) (by simp only[maxLen];omega)
         (by rw[size_madeCells,hs];exact bA _) (λj p hp=>hm _ _ (by omega) j p hp) h0 hK
        rw[hlen]at this;exact this
       ·cases h
      ·cases h
     ·cases h
    ·cases h
 ·cases h
end
end Go.Sx
namespace Go.Sx
open Go.RowKit
section
variable {P:Program}{cx:Ctx}{E:Env}{a:Act}{e:Operand->AV}{H:List Ob}{n:Nat}{r:Res}
 {dst:Option Tmp}{ty:TypeId}{pos:String}{after:Array Go.Edge}{guard:Option (Nat×Bool)}{wn:Nat->Prop}{K:Act->World->Prop}{Q:Exit->Act->World->Prop}{ro:Option Nat}
theorem Vn(hL:∀id,E.A id->Ac H id≠.dead->E.L id)(hH:∀id,E.L id->Ac H id≠.dead->OkOb E id (Ac H id)){t:Ty}{ids':List Nat}:∀(parts:List (Nat×Operand))(i:Nat)(vs:Array Value)(xs:List t.den)(ids:List Nat),
 evOp.rowsGo H t e i parts=some (xs,ids)->(∀p∈parts,RdA E (a.eval p.2) (e p.2))->(∀id∈ids,id∈ids')->(i+xs.length)*t.size<=vs.size->
 ∃us:Array Value,Instr.fill (λi=>some (i*t.size,t.size)) vs (parts.map λp=>(p.1,a.eval p.2))=some us/\us.size=vs.size/\(∀j,j<i*t.size->us[j]?=vs[j]?)/\
  ∀(j:Nat) p,(flat t xs)[j]?=some p->∃v,us[i*t.size+j]?=some v/\RdP E.w (FF E ids') v p
 |[],i,vs,xs,ids,h,_,_,_=>by
  simp only[evOp.rowsGo,aU,bG]at h;obtain⟨rfl,rfl⟩:=h;exact⟨vs,rfl,rfl,λ_ _=>rfl,λj p hp=>by simp[flat]at hp⟩
 |(k,x)::rest,i,vs,xs,ids,h,hp,hsub,hsz=>by
  simp only[evOp.rowsGo]at h;split at h
  ·rename_i hik;have hik':=bB hik;subst hik';split at h
   ·rename_i cs hcs;split at h
    ·rename_i ps ia hd;split at h
     ·rename_i y ys ib hy hrest;simp only[aU,bG]at h;obtain⟨rfl,rfl⟩:=h;have hc:=Iu (hp (i,x) (by simp)) hcs;obtain⟨g1,g2⟩:=Gm (ids':=ids') hL hH hc hd (λid hid=>hsub id (by simp[hid]));have hle:=Ir t ps y hy;have hlen:(a.eval x).cells.toList.length=t.size:=by rw[g1,hle.get.1,Aw]
      have hlen':(a.eval x).cells.size=t.size:=by simpa using hlen
      simp only[List.length_cons]at hsz;have hroom:i*t.size+t.size<=vs.size:=by
       have:i*t.size+t.size=(i+1)*t.size:=by rw[cS,gY]
       rw[this];exact cP (cY _ (by omega)) hsz
      have hfold:=Mm (i*t.size) (a.eval x).cells.toList 0 vs (by rw[hlen];omega);simp only[dH]at hfold;generalize hvs':((a.eval x).cells.toList.zipIdx 0).foldl (λcs (c,j)=>cs.setIfInBounds (i*t.size+j) c) vs=vs' at hfold;have hsz':vs'.size=vs.size:=by
       have:=bI List.length hfold;rw[Fs (by simp[hlen'];omega)]at this;simpa using this
      have hget:∀j,vs'[j]?=if i*t.size<=j/\j<i*t.size+t.size then(a.eval x).cells.toList[j-i*t.size]? else vs[j]?:=by
       intro j;have h1:vs'[j]?=vs'.toList[j]?:=by simp
       rw[h1,hfold,Ey (by simp[hlen'];omega),hlen];simp
      obtain⟨us,u1,u2,u3,u4⟩:=Vn hL hH rest (i+1) vs' ys ib hrest (λp hp'=>hp p (by simp[hp'])) (λid hid=>hsub id (by simp[hid])) (by rw[hsz'];rw[show i+1+ys.length=i+(ys.length+1) by omega];exact hsz);refine⟨us, ?_,u2.trans hsz',λj hj=>?_,λj p hp=>?_⟩
      ·simp only[eD,Instr.fill];rw[aL (by simp[hlen'];omega),<-u1]
       congr 1
       rw[<-hvs',<-gC];simp
      ·rw[u3 j (by rw[cS];omega),hget,aL (by omega)]
      ·have hflat:flat t (y::ys)=enc t y++flat t ys:=by simp[flat]
       rw[hflat]at hp;by_cases hj:j<t.size
       ·rw[bX (by rw[Aw];exact hj)]at hp;have hcell:(a.eval x).cells.toList[j]?=some ((a.eval x).cells.toList[j]'(by rw[hlen];exact hj)):=aR (by rw[hlen];exact hj);refine⟨(a.eval x).cells.toList[j]'(by rw[hlen];exact hj), ?_, ?_⟩
        ·rw[u3 _ (by rw[cS];omega),hget,aP (by omega),eM,hcell]
        ·have hpl:ps[j]?=some (ps[j]'(by rw[<-g1,hlen];exact hj)):=aR (by rw[<-g1,hlen];exact hj);exact(g2 _ _ _ hcell hpl).2.le (hle.get.2 _ _ _ hpl hp)
       ·rw[cD (by rw[Aw];omega),Aw]at hp;obtain⟨v,h1,h2⟩:=u4 _ p hp;refine⟨v, ?_,h2⟩;rw[<-h1]
        congr 1
        rw[cS];omega
     ·cases h
    ·cases h
   ·cases h
  ·cases h
theorem Xj{t:TypeId}{len:Nat}{parts:Array (Nat×Operand)}(hr:Ready E n r.news.length)(hA:∃N,∀id,E.A id->id<N)(hL:∀id,E.A id->Ac H id≠.dead->E.L id)(hH:∀id,E.L id->Ac H id≠.dead->OkOb E id (Ac H id))
 (hx:∀p∈parts.toList,RdA E (a.eval p.2) (e p.2))
 (h:evOp cx P e H n ⟨dst,.buildSlice t len parts,ty,pos,after,guard⟩=some r)
 (hK:∀E' v,Ext E n r wn E'->A7 r.given->RdA E' v r.val->K (a.put dst v) E'.w):(⟨dst,.buildSlice t len parts,ty,pos,after,guard⟩:Oper).wpI ro P a E.w K Q:=by
 simp only[evOp]at h;split at h
 ·rename_i elem hu;split at h
  ·rename_i t' z hlook hz;split at h
   ·rename_i h0;have h0':=bB h0;subst h0';split at h
    ·rename_i hc;simp only[aS,List.isEmpty_iff]at hc;obtain⟨hc,hsz⟩:=hc;obtain⟨info,hi,hs⟩:=Bs hsz (Bh t');have hp:parts=#[]:=by apply iD.1;simpa using hc
     subst hp;have hr0:=(Option.some.inj h).symm;subst hr0;have hst:Step E n (Res.pure .cap0) (E.w.alloc (.cells #[] elem)) (λ_=>none):=by
      refine⟨(Below.refl _ _).alloc hr.B _,λb hb _=>F6 b hb, ?_, ?_, ?_, ?_⟩
      ·intro j h hj;simp at hj
      ·intro j j' h h' hj;simp at hj
      ·intro id hid;cases hid
      ·intro p hp;cases hp
     have hx:=hst.ext (wn:=wn) hr hA (λ_ j ob hj=>by simp at hj) (λ_ id ob h=>by cases h);refine Cu (w':=E.w.alloc (.cells #[] elem)) (v:=.slice (some ⟨E.w.heap.size,0,none⟩) 0 0) ?_ (hK _ _ hx trivial (.cap0 _));simp[execOp,Instr.buildSlice,run_underlying hu,sizeOf,typeInfo,hi,Instr.fill,newRow,Array.range_zero']
    ·cases h
   ·rename_i hne;split at h
    ·rename_i hc;simp only[aS]at hc;obtain⟨info,hi,hs⟩:=Bs hc.1 (Bh t');have hle:len*info.size<=1000:=by
      have:=cB hc.2;simpa[Bk,hi]using this
     split at h
     ·rename_i xs ids hrows;split at h
      ·rename_i hxl;have hxl':xs.length=len:=bB hxl;have hr0:=(Option.some.inj h).symm;have hr':Ready E n 1:=by rw[hr0]at hr;exact hr
       have hlen0:len≠0:=λe=>hne (by rw[e];rfl)
       have hbase:((Array.range (len*info.size)).map (z.cells[· % z.cells.size]!)).size=len*t'.size:=by simp[hs]
       obtain⟨us,u1,u2,_,u4⟩:=Vn (a:=a) (ids':=ids) hL hH parts.toList 0 _ xs ids hrows hx (λ_ h=>h) (by rw[hbase,hxl'];simp);have hne0:¬(len*info.size=0):=by
        rw[hs];have:=Bh t';intro h;rcases Nat.mul_eq_zero.1 h with h|h<;>omega
       have e1:(parts.map λ(i,x)=>(i,a.eval x)).toList=parts.toList.map λp=>(p.1,a.eval p.2):=by simp
       refine Cu (w':=E.w.alloc (.cells us elem)) (v:=.slice (some ⟨E.w.heap.size,0,none⟩) len len) ?_ ?_
       ·simp only[execOp,Instr.buildSlice,Sem.run_bind,run_underlying hu,Result.andThen_ok];have hsr:(sizeOf elem).run P E.w=.ok info.size E.w:=by simp[sizeOf,typeInfo,hi]
        simp only[hsr,Result.andThen_ok,Sem.run_ite];rw[aL (by omega)];simp only[Sem.run_pure,Result.andThen_ok,hne0,if_false,Sem.run_bind,J5 hz];simp only[hs]at u1 ⊢;simp only[e1,u1];simp[newRow]
       ·have:=Zg (a:=a) (dst:=dst) (arr:=us) (el:=elem) (t:=t') (xs:=xs) (cp:=len) (ids:=ids) (K:=K) (r:=r) (wn:=wn) hr' hA (by omega) (by simp[lim];have:=Bh t';rw[hs]at hle;have:=fY len this;omega)
         (by simp only[maxLen];have:=Bh t';rw[hs]at hle;have:=fY len this;omega) (by rw[u2,hbase];exact bA _) (λj p hp=>by have:=u4 j p hp;simpa using this) hr0 hK
        rw[hxl']at this;exact this
      ·cases h
     ·cases h
    ·cases h
  ·cases h
 ·cases h
end
end Go.Sx
