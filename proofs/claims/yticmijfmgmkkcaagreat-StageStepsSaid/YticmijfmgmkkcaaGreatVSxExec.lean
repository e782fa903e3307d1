import Derived.Test.YticmijfmgmkkcaaGreatVSxCore
set_option linter.unusedSimpArgs false
set_option linter.unusedVariables false
set_option maxRecDepth 100000
namespace Go.Sx
def ev (sl:List AV):Operand→AV
 | .tmp t=>getN .any sl t
 | .const v=>ofConst v
 | .func f=>.fn (.func f) [] []
 | .global _=>.any
def setK {α:Type} (v:α):(List α→Prop)→List α→Nat→Prop
 | k,[],_=>k []
 | k,_ :: l,0=>k (v :: l)
 | k,a :: l,n+1=>setK v (fun l'=>k (a :: l')) l n
def lits:List Nat:=[0,1,2,3,4,5,6,7,8,9,10,11,12,13,14,15,16,17,18,19,20,21,22,23,24,25,26,27,28,29,30,31,32,33,34,35,36,37,38,39,40,41,42,43,44,45,46,47,48,49,50,51,52,53,54,55,56,57,58,59,60,61,62,63,64,65,66,67,68,69,70,71,72,73,74,75,76,77,78,79,80,81,82,83,84,85,86,87,88,89,90,91,92,93,94,95,96,97,98,99,100,101,102,103,104,105,106,107,108,109,110,111,112,113,114,115,116,117,118,119]
def forceNat (n:Nat) (k:Nat→Prop):List Nat→Prop
 | []=>k n
 | a :: l=>if Nat.beq a n then k a else forceNat n k l
def forceN (n:Nat) (k:Nat→Prop):Prop:=forceNat n k lits
def forceP:List PV→(List PV→Prop)→Prop
 | [],k=>k []
 | .int q n :: l,k=>forceP l (fun l'=>k (.int q n :: l'))
 | .bool b :: l,k=>forceP l (fun l'=>k (.bool b :: l'))
 | .str s :: l,k=>forceP l (fun l'=>k (.str s :: l'))
 | .sl t xs :: l,k=>forceP l (fun l'=>k (.sl t xs :: l'))
 | .nils :: l,k=>forceP l (fun l'=>k (.nils :: l'))
 | .val v :: l,k=>forceP l (fun l'=>k (.val v :: l'))
 | .fn T :: l,k=>forceP l (fun l'=>k (.fn T :: l'))
mutual
def forceA:AV→(AV→Prop)→Prop
 | .any,k=>k .any
 | .int q n,k=>k (.int q n)
 | .bool b,k=>k (.bool b)
 | .str s,k=>k (.str s)
 | .val v,k=>k (.val v)
 | .nils,k=>k .nils
 | .cap0,k=>k .cap0
 | .sl t xs,k=>k (.sl t xs)
 | .ptr id off,k=>forceN id (fun id'=>forceN off (fun off'=>k (.ptr id' off')))
 | .rptr id q row off,k=>forceN id (fun id'=>forceN off (fun off'=>k (.rptr id' q row off')))
 | .eptr cs,k=>forceP cs (fun cs'=>k (.eptr cs'))
 | .own id,k=>forceN id (fun id'=>k (.own id'))
 | .ownp id q lo len,k=>forceN id (fun id'=>k (.ownp id' q lo len))
 | .mp id,k=>forceN id (fun id'=>k (.mp id'))
 | .fn f a b,k=>forceL a (fun a'=>forceL b (fun b'=>k (.fn f a' b')))
 | .agg cs,k=>forceL cs (fun cs'=>k (.agg cs'))
 | .tup vs,k=>forceL vs (fun vs'=>k (.tup vs'))
 | .when c s w v,k=>forceA v (fun v'=>k (.when c s w v'))
 | .yld id,k=>forceN id (fun id'=>k (.yld id'))
 | .rnd id,k=>forceN id (fun id'=>k (.rnd id'))
 | .grow id i,k=>forceN id (fun id'=>k (.grow id' i))
 | .gptr id i j,k=>forceN id (fun id'=>k (.gptr id' i j))
 | .ownc id q lo len,k=>forceN id (fun id'=>k (.ownc id' q lo len))
 | .slf t xs,k=>k (.slf t xs)
 | .csl t id m,k=>forceN id (fun id'=>k (.csl t id' m))
 | .dmp es,k=>k (.dmp es)
def forceL:List AV→(List AV→Prop)→Prop
 | [],k=>k []
 | x :: l,k=>forceA x (fun x'=>forceL l (fun l'=>k (x' :: l')))
end
def forceM:List (Int × AV)→(List (Int × AV)→Prop)→Prop
 | [],k=>k []
 | (q,x) :: l,k=>forceA x (fun x'=>forceM l (fun l'=>k ((q,x') :: l')))
def forceH:List Ob→(List Ob→Prop)→Prop
 | [],k=>k []
 | .dead :: l,k=>forceH l (fun l'=>k (.dead :: l'))
 | .cells cs :: l,k=>forceL cs (fun cs'=>forceH l (fun l'=>k (.cells cs' :: l')))
 | .rows t xs :: l,k=>forceH l (fun l'=>k (.rows t xs :: l'))
 | .froz t xs :: l,k=>forceH l (fun l'=>k (.froz t xs :: l'))
 | .fmap es :: l,k=>forceM es (fun es'=>forceH l (fun l'=>k (.fmap es' :: l')))
 | .grid t m xss :: l,k=>forceH l (fun l'=>k (.grid t m xss :: l'))
 | .loop st pe ps x y sl :: l,k=>forceL sl (fun sl'=>forceH l (fun l'=>k (.loop st pe ps x y sl' :: l')))
def needP (o:Option Prop) (p:Prop):Prop:=match o with | none=>p | some q=>q∧p
def givenP (o:Option Prop) (p:Prop):Prop:=match o with | none=>p | some q=>q→p
def frzOb (H:List Ob) (id:Nat):List Ob:=match getOb H id with
 | .rows t xs=>setN (.froz t xs) H id
 | .cells _=>setN .dead H id
 | .fmap _=>setN .dead H id
 | .grid _ _ _=>setN .dead H id
 | .loop _ _ _ _ _ _=>setN .dead H id
 | _=>H
def frzAll:List Nat→List Ob→List Ob
 | [],H=>H
 | id :: l,H=>frzAll l (frzOb H id)
def stH (st:Option (Nat × Ob)) (H:List Ob):List Ob:=match st with | none=>H | some (id,ob)=>setN ob H id
def killH (k:Option Nat) (H:List Ob):List Ob:=match k with | none=>H | some id=>setN .dead H id
def Res.heap (r:Res) (H:List Ob):List Ob:=frzAll r.frz (killH r.kill (stH r.st H))++r.news
def Res.quiet (r:Res):Bool:=r.news.isEmpty && r.kill.isNone && r.st.isNone && r.frz.isEmpty
def condOf (sl:List AV) (s:Nat) (w:Bool):Option Prop :=
 match getN .any sl s with
 | .bool e=>some (e=w)
 | .when c _ _ (.bool e)=>some (c∧e=w)
 | _=>none
mutual
def asSl (n:Nat) (news:List Ob):AV→Option AV
 | .own id=>if Nat.ble n id then (match getOb news (id - n) with | .rows t xs=>some (.sl t xs) | _=>none) else some (.own id)
 | .ownp _ _ _ _=>none
 | .ownc _ _ _ _=>none
 | .csl t id m=>if Nat.ble n id then none else some (.csl t id m)
 | .dmp _=>none
 | .yld id=>if Nat.ble n id then none else some (.yld id)
 | .rnd _=>none
 | .grow _ _=>none
 | .gptr _ _ _=>none
 | .ptr id off=>if Nat.ble n id then none else some (.ptr id off)
 | .rptr id k row off=>if Nat.ble n id then none else some (.rptr id k row off)
 | .mp id=>if Nat.ble n id then none else some (.mp id)
 | .fn f a b=>match asSlL n news a,asSlL n news b with
  | some a',some b'=>some (.fn f a' b')
  | _,_=>none
 | .agg cs=>(asSlL n news cs).map .agg
 | .tup vs=>(asSlL n news vs).map .tup
 | .when _ _ _ _=>none
 | v=>some v
def asSlL (n:Nat) (news:List Ob):List AV→Option (List AV)
 | []=>some []
 | x :: l=>match asSl n news x,asSlL n news l with
  | some y,some ys=>some (y :: ys)
  | _,_=>none
end
abbrev Kont:=List AV→List Ob→Nat→Prop
abbrev CallSem:=FuncId→List AV→List Ob→Nat→(AV→List Ob→Nat→Prop)→Prop
def noRef (d:Nat):List AV→Bool
 | []=>true
 | .when _ s _ _ :: l=>if Nat.beq s d then false else noRef d l
 | _ :: l=>noRef d l
def notSelf (d:Nat):AV→Bool
 | .when _ s _ _=>!Nat.beq s d
 | _=>true
def putK (dst:Option Tmp) (v:AV) (sl:List AV) (K:List AV→Prop):Prop :=
 match dst with
 | none=>K sl
 | some d=>if Nat.blt d sl.length && (noRef d sl && notSelf d v) then setK v K sl d else False
def applyK (r:Res) (H:List Ob) (n:Nat) (K:List Ob→Nat→Prop):Prop :=
 if r.quiet then K H n else forceH (r.heap H) (fun H'=>forceN (n+r.news.length) (fun n'=>K H' n'))
def guardSlot (ops:List Oper) (j:Nat):Option Nat:=match ops[j]? with | some o=>o.dst | none=>none
def noW:AV→AV
 | .when _ _ _ _=>.any
 | v=>v
def opRes (cx:Ctx) (P:Program) (dr:Bool) (ops:List Oper) (o:Oper) (sl:List AV) (H:List Ob) (n:Nat):Option Res :=
 match o.guard with
 | none=>(match evOp cx P (ev sl) H n o with
  | some ⟨q,g,v,news,kill,st,frz⟩=>some ⟨q,g,noW v,news,kill,st,frz⟩
  | none=>none)
 | some (j,w)=>(match guardSlot ops j with
  | none=>none
  | some s=>(match condOf sl s w with
   | none=>none
   | some c=>(match evOp cx P (fun x=>unwrap s w (ev sl x)) H n o with
    | some ⟨q,g,v,news,none,none,[]⟩=>if dr && !news.isEmpty then none else (match asSl n news (noW v) with
     | some v'=>some ⟨q.map (fun q=>c→q),g.map (fun q=>c→q),.when c s w v',[],none,none,[]⟩
     | none=>none)
    | _=>none)))
def nilQ (P:Program) (H:List Ob) (op:BinOp) (t:TypeId) (x:AV):Option (Bool × Prop) :=
 match P.underlying t with
 | some (.slice _)=>(match op with
  | .eql=>(nilF H x).map fun q=>(true,q)
  | .neq=>(nilF H x).map fun q=>(false,q)
  | _=>none)
 | _=>none
where
 nilF (H:List Ob):AV→Option Prop
  | .sl _ xs=>some (xs=[])
  | .cap0=>some True
  | .nils=>some True
  | .own id=>(match getOb H id with
   | .rows _ xs=>some (xs=[])
   | .froz _ xs=>some (xs=[])
   | _=>none)
  | _=>none
def mapQ (P:Program) (H:List Ob) (t:TypeId) (m k:AV):Option (List (Int × AV) × Int) :=
 match P.underlying t with
 | some (.map kt et)=>(match P.underlying kt,zeroT P et,m,k with
  | some (.int _),some _,.mp id,.int .i64 q=>(match getOb H id with
   | .fmap es=>some (es,q)
   | _=>none)
  | _,_,_,_=>none)
 | _=>none
def lookK (ok:Bool) (q:Int) (z:AV) (K:AV→Prop):List (Int × AV)→Prop
 | []=>K (match ok with | true=>.tup [z,.bool false] | false=>z)
 | (p,v) :: l=>(decide (q=p)=true→K (match ok with | true=>.tup [v,.bool true] | false=>v))∧(decide (q=p)=false→lookK ok q z K l)
def lookZ (P:Program) (t:TypeId):AV:=match P.underlying t with
 | some (.map _ et)=>(match zeroT P et with | some z=>ofConst z | none=>.any)
 | _=>.any
def genK (cx:Ctx) (H:List Ob) (n:Nat) (o:Oper) (sl:List AV) (val:AV) (k:AV→Prop):Prop :=
 match o.guard,o.op with
 | none,.call c=>(match c.callee with
  | .value f=>(match ev sl f with
   | .fn (.func g) first captured=>(match lookL cx.tab g with
    | some (shs,C)=>(match lowerArgs H (first++c.args.toList.map (ev sl)++captured) with
     | some (args',_)=>(match C (fitL shs args') with
      | some ⟨_,gen⟩=>gen (fun x=>k (noW (shift n x)))
      | none=>k val)
     | none=>k val)
    | none=>k val)
   | _=>k val)
  | _=>k val)
 | _,_=>k val
def callA (call:CallSem) (f:AV) (args:List AV) (H:List Ob) (n:Nat) (K:AV→List Ob→Nat→Prop):Prop :=
 match f with
 | .fn (.func g) first captured=>call g (first++args++captured) H n K
 | .yld id=>call 0 (.rnd id :: args) H n K
 | _=>False
def shapeT (P:Program) (t:TypeId):AV:=match P.underlying t with
 | some .bool=>.bool false
 | some (.int k)=>.int k 0
 | _=>.any
def runOp (cx:Ctx) (P:Program) (call:CallSem) (ops:List Oper) (o:Oper) (sl:List AV) (H:List Ob) (n:Nat) (K:Kont):Prop :=
 match opRes cx P false ops o sl H n with
 | some r=>needP r.need (givenP r.given (applyK r H n (fun H' n'=>genK cx H n o sl r.val (fun x=>forceA x (fun v=>putK o.dst v sl (fun sl'=>K sl' H' n'))))))
 | none=>(match o.guard,o.op with
  | none,.call c=>(match c.callee with
   | .value f=>callA call (ev sl f) (c.args.toList.map (ev sl)) H n (fun v H' n'=>putK o.dst (noW v) sl (fun sl'=>K sl' H' n'))
   | _=>False)
  | some (j,w),.call c=>(match c.callee with
   | .value f=>(match guardSlot ops j with
    | none=>False
    | some s=>(match getN .any sl s with
     | .bool e =>
      (e=w→callA call (unwrap s w (ev sl f)) (c.args.toList.map (fun x=>unwrap s w (ev sl x))) H n (fun v H' n'=>putK o.dst (.when (e=w) s w (noW v)) sl (fun sl'=>K sl' H' n'))) ∧
      (e=!w→putK o.dst (.when (e=w) s w (shapeT P o.type)) sl (fun sl'=>K sl' H n))
     | _=>False))
   | _=>False)
  | none,.binOp op t x (.const (.slice none 0 0)) _=>(match nilQ P H op t (ev sl x) with
   | some (eq,q)=>∀ b:Bool,(b=eq→q)→putK o.dst (.bool b) sl (fun sl'=>K sl' H n)
   | none=>False)
  | none,.lookup t m k ok=>(match mapQ P H t (ev sl m) (ev sl k) with
   | some (es,q)=>lookK ok q (lookZ P t) (fun v=>forceA (noW v) (fun v'=>putK o.dst v' sl (fun sl'=>K sl' H n))) es ∨
    ∃ v,mergeV q (lookZ P t) es=some v∧forceA (lookR ok v (memD q es)) (fun v'=>putK o.dst v' sl (fun sl'=>K sl' H n))
   | none=>False)
  | _,_=>False)
def runOps (cx:Ctx) (P:Program) (call:CallSem) (ops:List Oper):List Oper→List AV→List Ob→Nat→Kont→Prop
 | [],sl,H,n,K=>K sl H n
 | o :: rest,sl,H,n,K=>runOp cx P call ops o sl H n (fun sl' H' n'=>runOps cx P call ops rest sl' H' n' K)
def dropWhen:List AV→(List AV→Prop)→Prop
 | [],k=>k []
 | .when _ _ _ _ :: l,k=>dropWhen l (fun l'=>k (.any :: l'))
 | v :: l,k=>dropWhen l (fun l'=>k (v :: l'))
def silent:Op→Bool
 | .move _=>true
 | .assign _=>true
 | .pick _ _ _=>true
 | .extract _ _=>true
 | .makeFunc _ _ _=>true
 | .build _ _=>true
 | .binOp _ _ _ _ _=>true
 | .unOp _ _ _=>true
 | .convert _ _ _=>true
 | .fieldAddr _ _ _=>true
 | .nilCheck _=>true
 | .field _ _ _=>true
 | _=>false
def edgeBinds (e:Go.Edge):Bool:=match e.ground with | .textOnly _=>false | .gcOnly _=>false | _=>true
def befE (acc:List Nat):List Go.Edge→Nat
 | []=>0
 | e :: l=>if edgeBinds e then Nat.lor (Nat.lor (Nat.pow 2 e.on) (getN 0 acc e.on)) (befE acc l) else befE acc l
def befL:List Nat→List Oper→List Nat
 | acc,[]=>acc
 | acc,o :: l=>befL (acc++[befE acc o.after.toList]) l
def louds:Nat→List Oper→Nat
 | _,[]=>0
 | i,o :: l=>if silent o.op then louds (i+1) l else Nat.lor (Nat.pow 2 i) (louds (i+1) l)
def hasB (b j:Nat):Bool:=Nat.beq (Nat.lor (Nat.pow 2 j) b) b
def isLate (L b i:Nat):Bool:=Nat.beq (Nat.lor (L % Nat.pow 2 i) b) b
structure DrawOp where
 o:Oper
 bef:Nat
 late:Bool
 bar:Bool
def flagsGo (L:Nat):Nat→List (Oper × Nat)→List DrawOp
 | _,[]=>[]
 | i,(o,b) :: l=>(match flagsGo L (i+1) l with
  | []=>[⟨o,b,isLate L b i,isLate L b i⟩]
  | d :: r=>⟨o,b,isLate L b i,(isLate L b i) && d.bar⟩ :: d :: r)
def flags (ops:List Oper):List DrawOp:=flagsGo (louds 0 ops) 0 (ops.zip (befL [] ops))
def opLooks (ops:List Oper) (o:Oper):List Nat :=
 o.op.operands.toList.filterMap (fun x=>match x with | .tmp t=>some t | _=>none)++(match o.guard with | some (j,_)=>(guardSlot ops j).toList | none=>[])
def meets (ops:List Oper) (x y:Oper):Bool :=
 (match x.dst with | some d=>(opLooks ops y).contains d || (match y.dst with | some d'=>Nat.beq d d' | none=>false) | none=>false) ||
 (match y.dst with | some d=>(opLooks ops x).contains d | none=>false)
def ordOk (ops:List Oper):Nat→List DrawOp→Bool
 | _,[]=>true
 | j,d :: l=>((ops.take j).zipIdx.all (fun p=>!meets ops p.1 d.o || hasB d.bef p.2) && d.o.after.toList.all (fun e=>!edgeBinds e || Nat.blt e.on j)) && ordOk ops (j+1) l
def hyps (b:Nat) (q:Prop):List (Nat × Prop)→Prop
 | []=>q
 | (j,g) :: l=>if hasB b j then g→hyps b q l else hyps b q l
def hypsK (b:Nat) (q:Prop):List (Nat × Prop)→(Prop→Prop)→Prop
 | [],k=>k q
 | (j,g) :: l,k=>if hasB b j then hypsK b q l (fun q'=>k (g→q')) else hypsK b q l k
def needD (G:List (Nat × Prop)) (b:Nat) (o:Option Prop) (p:Prop):Prop:=match o with | none=>p | some q=>hypsK b q G (fun q'=>q'∧p)
def allG (q:Prop):List (Nat × Prop)→Prop
 | []=>q
 | (_,g) :: l=>g→allG q l
def addG (i:Nat) (o:Option Prop) (G:List (Nat × Prop)):List (Nat × Prop):=match o with | none=>G | some q=>(i,q) :: G
def earlySt (ops:List Oper) (i:Nat) (ms:List Nat) (d:DrawOp) (rest:List DrawOp) (st:Option (Nat × Ob)):Bool:=match st with
 | none=>true
 | some (id,_)=>(ms.zip ops).zipIdx.all (fun p=>silent p.1.2.op || (hasB d.bef p.2 || Nat.ble p.1.1 id)) && rest.all (fun d'=>silent d'.o.op || hasB d'.bef i)
def runDraw (cx:Ctx) (P:Program) (ops:List Oper):List DrawOp→Nat→List Nat→List (Nat × Prop)→List AV→List Ob→Nat→Kont→Prop
 | [],_,_,G,sl,H,n,K=>allG (K sl H n) G
 | d :: rest,i,ms,G,sl,H,n,K=>(match opRes cx P true ops d.o sl H n with
  | some r =>
   if (r.kill.isNone || d.late) && (d.bar || earlySt ops i ms d rest r.st) then
    needD G d.bef r.need (applyK r H n (fun H' n'=>forceA r.val (fun v=>putK d.o.dst v sl (fun sl'=>runDraw cx P ops rest (i+1) (ms++[n]) (addG i r.given G) sl' H' n' K))))
   else False
  | none=>False)
inductive Ex where
 | normal
 | ret
 | exit (n:Nat)
structure St where
 sl:List AV
 H:List Ob
 n:Nat
def bad:AV:=.val (.agg #[])
mutual
def ren (σ:List (Option Nat)):AV→AV
 | .ptr id off=>match getN none σ id with | some j=>.ptr j off | none=>bad
 | .rptr id k row off=>match getN none σ id with | some j=>.rptr j k row off | none=>bad
 | .own id=>if Nat.blt id σ.length then (match getN none σ id with | some j=>.own j | none=>.cap0) else bad
 | .ownp id k lo len=>match getN none σ id with | some j=>.ownp j k lo len | none=>bad
 | .mp id=>match getN none σ id with | some j=>.mp j | none=>bad
 | .yld id=>match getN none σ id with | some j=>.yld j | none=>bad
 | .rnd _=>bad
 | .grow id i=>match getN none σ id with | some j=>.grow j i | none=>bad
 | .gptr id i k=>match getN none σ id with | some j=>.gptr j i k | none=>bad
 | .ownc id k lo len=>match getN none σ id with | some j=>.ownc j k lo len | none=>bad
 | .csl t id m=>match getN none σ id with | some j=>.csl t j m | none=>bad
 | .fn f a b=>.fn f (renL σ a) (renL σ b)
 | .agg cs=>.agg (renL σ cs)
 | .tup vs=>.tup (renL σ vs)
 | .when _ _ _ _=>bad
 | v=>v
def renL (σ:List (Option Nat)):List AV→List AV
 | []=>[]
 | x :: l=>ren σ x :: renL σ l
end
def mask:List AV→List AV→List AV
 | .any :: l,_ :: m=>.any :: mask l m
 | .sl t _ :: l,.cap0 :: m=>.sl t [] :: mask l m
 | _ :: l,y :: m=>y :: mask l m
 | _,_=>[]
def okObs (σ:List (Option Nat)) (H:List Ob):List (Option Nat)→List Ob→Prop
 | _,[]=>True
 | some j :: τ,.cells cs :: l=>(match getOb H j with | .cells ds=>mask cs ds=renL σ cs∧cs.length=ds.length | _=>False)∧okObs σ H τ l
 | some j :: τ,.rows t xs :: l=>getOb H j=.rows t xs∧okObs σ H τ l
 | some j :: τ,.froz t xs :: l=>(match getOb H j with | .rows t' ys=>Ob.froz t' ys=.froz t xs | .froz t' ys=>Ob.froz t' ys=.froz t xs | _=>False)∧okObs σ H τ l
 | some j :: τ,.grid t m xss :: l=>getOb H j=.grid t m xss∧okObs σ H τ l
 | some j :: τ,.loop st pe ps x y sl :: l=>(match getOb H j with | .loop st' pe' ps' x' y' sl'=>(st=st'∧pe=pe'∧ps=ps'∧x=x'∧y=y')∧mask sl sl'=renL σ sl∧sl.length=sl'.length | _=>False)∧okObs σ H τ l
 | none :: τ,.rows _ xs :: l=>xs=[]∧okObs σ H τ l
 | _ :: τ,.dead :: l=>okObs σ H τ l
 | _,_=>False
def distinct:List (Option Nat)→List Ob→List Nat→Bool
 | some j :: τ,ob :: l,seen=>(match ob with | .dead=>distinct τ l seen | _=>!seen.contains j && distinct τ l (j :: seen))
 | none :: τ,_ :: l,seen=>distinct τ l seen
 | [],[],_=>true
 | _,_,_=>false
def keeps:Nat→Nat→List (Option Nat)→List Ob→Bool
 | 0,_,_,_=>true
 | _+1,_,_,[]=>true
 | n0+1,i,some j :: τ,ob :: l=>(match ob with | .dead=>true | _=>Nat.beq i j) && keeps n0 (i+1) τ l
 | n0+1,i,none :: τ,ob :: l=>(match ob with | .dead=>true | _=>false) && keeps n0 (i+1) τ l
 | _+1,_,[],_ :: _=>false
def weak (n0:Nat) (σ:List (Option Nat)) (sl:List AV) (H:List Ob) (n:Nat) (T:St):Prop :=
 mask T.sl sl=renL σ T.sl∧T.sl.length=sl.length∧okObs σ H σ T.H∧(distinct σ T.H [] && keeps n0 0 σ T.H && Nat.beq T.H.length T.n && Nat.ble n0 T.n && Nat.ble n0 n)=true
def stillOp:Op→Bool
 | .move _=>true
 | .assign _=>true
 | .extract _ _=>true
 | .makeFunc _ _ _=>true
 | .load _ _=>true
 | .nilCheck _=>true
 | .binOp _ _ _ _ _=>true
 | .unOp _ _ _=>true
 | .convert _ _ _=>true
 | .fieldAddr _ _ _=>true
 | .field _ _ _=>true
 | .index _ _ _=>true
 | .indexAddr _ _ _=>true
 | .slice _ _ _ _ _=>true
 | .call c=>(match c.callee with | .builtin .len=>true | _=>false)
 | _=>false
def isCall (o:Oper):Bool:=match o.op with | .call c=>(match c.callee with | .value _=>true | _=>false) | _=>false
def callAt:List Oper→Nat
 | []=>0
 | o :: l=>if isCall o then 0 else callAt l+1
def inlineCall (cx:Ctx) (o:Oper):Bool:=match o.op with
 | .call c=>(match c.callee with
  | .value (.func g)=>(lookL cx.tab g).isNone
  | .value (.tmp _)=>true
  | _=>false)
 | _=>false
def lateOff (ops:List Oper):Bool:=ops.all (fun o=>o.guard.isNone) && (flags ops).any (fun d=>!d.late && (match d.o.op with | .call c=>(match c.callee with | .builtin .append=>true | _=>false) | _=>false))
def retOff (ops:List Oper):Bool :=
 ops.all (fun o=>o.guard.isNone && (silent o.op || match o.op with | .load _ _=>true | .store _ _ _=>true | _=>false)) &&
  (flags ops).zipIdx.any (fun p=>(match p.1.o.op with | .store _ _ _=>true | _=>false) && (!p.1.bar && (ops.take p.2).zipIdx.any (fun q=>!silent q.1.op && !hasB p.1.bef q.2)))
def retCall (ops:List Oper):Bool :=
 ops.all (fun o=>o.guard.isNone) && (ops.any isCall && (flags ops).zipIdx.any (fun p=>(match p.1.o.op with | .store _ _ _=>true | _=>false) && (!p.1.bar && (ops.take p.2).zipIdx.any (fun q=>Nat.blt (callAt ops) q.2 && (!silent q.1.op && !hasB p.1.bef q.2)))))
def mixed (cx:Ctx) (ops:List Oper):Bool:=(ops.any (inlineCall cx) && !ops.any (fun o=>isCall o && o.guard.isSome)) || (lateOff ops || (retOff ops || retCall ops))
def okRound (cx:Ctx):Code→Bool
 | .rangeFunc _ _ _ _=>false
 | .seq a b=>okRound cx a && okRound cx b
 | .cond _ a b=>okRound cx a && okRound cx b
 | .block _ a=>okRound cx a
 | .loop a=>okRound cx a
 | _=>true
def runHead (cx:Ctx) (P:Program):List Oper→List AV→List Ob→Nat→(List AV→Prop)→Prop
 | [],sl,_,_,K=>K sl
 | o :: rest,sl,H,n,K=>match o.guard,stillOp o.op,evOp cx P (ev sl) H n o with
  | none,true,some r=>needP r.need (givenP r.given (forceA (noW r.val) (fun v=>putK o.dst v sl (fun sl'=>runHead cx P rest sl' H n K))))
  | _,_,_=>False
def floatOp (o:Oper):Bool:=stillOp o.op && (o.guard.isNone && !(match o.op with | .assign _=>true | _=>false))
def edgesIn (S:List Nat) (o:Oper):Bool:=o.after.toList.all (fun e=>!edgeBinds e || S.contains e.on)
structure Lev where
 new:List Nat
 pend:List Nat
 main:Option Nat
def planNew (S:List Nat):Nat→List Oper→List Nat→List Nat
 | _,[],acc=>acc
 | i,o :: l,acc=>if floatOp o && (!(S.contains i) && edgesIn (acc++S) o) then planNew S (i+1) l (acc++[i]) else planNew S (i+1) l acc
def planMain (S:List Nat):Nat→List Oper→Option Nat
 | _,[]=>none
 | i,o :: l=>if !(S.contains i) && edgesIn S o then some i else planMain S (i+1) l
def plan (ops:List Oper) (bef:List Nat):Nat→List Nat→List Nat→List Lev
 | 0,_,_=>[]
 | f+1,S,pend =>
  let nw:=planNew S 0 ops []
  let S1:=nw++S
  match planMain S1 0 ops with
  | none=>[⟨nw,nw++pend,none⟩]
  | some m=>⟨nw,nw++pend,some m⟩ :: plan ops bef f (m :: S1) ((nw++pend).filter (fun i=>!hasB (getN 0 bef m) i))
def planOf (ops:List Oper):List Lev:=plan ops (befL [] ops) (ops.length+1) [] []
def isFloat (ops:List Oper) (i:Nat):Bool:=match ops[i]? with | some o=>floatOp o | none=>false
def clearOf (ops:List Oper) (bef:List Nat) (i j:Nat):Bool:=hasB (getN 0 bef j) i || (match ops[i]?,ops[j]? with | some x,some y=>(match x.dst with | some d=>!(opLooks ops y).contains d | none=>true) | _,_=>false)
def planOk (ops:List Oper) (bef:List Nat):List Nat→List Nat→List Lev→Bool
 | _,_,[]=>false
 | S,pend,⟨nw,pd,main⟩ :: rest =>
  (nw.all (fun i=>pd.contains i && !(S.contains i)) && (pend.all pd.contains && pd.all (fun i=>isFloat ops i && (nw++S).contains i))) &&
  ((ops.zipIdx.all (fun p=>(nw++S).contains p.2 || (!edgesIn (nw++S) p.1 || main == some p.2)) && pd.all (fun i=>pd.all (fun j=>clearOf ops bef i j))) &&
  (match main with
  | none=>true
  | some m=>!((nw++S).contains m) && ((match ops[m]? with | some o=>o.guard.isNone | none=>false) && (pd.all (fun i=>clearOf ops bef i m) && planOk ops bef (m :: (nw++S)) (pd.filter (fun i=>!hasB (getN 0 bef m) i)) rest))))
def ahead:Nat→List Oper→Bool
 | _,[]=>true
 | j,o :: l=>o.after.toList.all (fun e=>!edgeBinds e || Nat.blt e.on j) && ahead (j+1) l
def mixB (ops:List Oper):Bool:=ahead 0 ops && planOk ops (befL [] ops) [] [] (planOf ops)
def recheck (cx:Ctx) (P:Program) (ops:List Oper) (sl:List AV) (H:List Ob) (n:Nat) (k:Prop):List Nat→Prop
 | []=>k
 | i :: l=>match ops[i]? with
  | some o=>(match evOp cx P (ev sl) H n o with
   | some r=>needP r.need ((match o.dst with | some d=>noW r.val=getN .any sl d | none=>True)∧recheck cx P ops sl H n k l)
   | none=>False)
  | none=>False
def runMix (cx:Ctx) (P:Program) (call:CallSem) (ops:List Oper):List Lev→List AV→List Ob→Nat→Kont→Prop
 | [],_,_,_,_=>False
 | ⟨nw,pd,main⟩ :: rest,sl,H,n,K =>
  runHead cx P (nw.filterMap (fun i=>ops[i]?)) sl H n (fun sl1=>recheck cx P ops sl1 H n (match main with
   | none=>K sl1 H n
   | some m=>(match ops[m]? with
    | some o=>runOp cx P call ops o sl1 H n (fun sl' H' n'=>runMix cx P call ops rest sl' H' n' K)
    | none=>False)) pd)
def execDraw (cx:Ctx) (P:Program) (call:CallSem) (ops:Array Oper) (sl:List AV) (H:List Ob) (n:Nat) (K:Kont):Prop :=
 if mixed cx ops.toList then
  (P.follows .mixedOrders && mixB ops.toList)=true∧runMix cx P call ops.toList (planOf ops.toList) sl H n K
 else (P.follows .mixedOrders && ordOk ops.toList 0 (flags ops.toList))=true∧runDraw cx P ops.toList (flags ops.toList) 0 [] [] sl H n K
def exec (cx:Ctx) (P:Program) (call:CallSem) (n0:Nat):Code→List AV→List Ob→Nat→(Ex→Kont)→Prop
 | .skip,sl,H,n,K=>K .normal sl H n
 | .region _ ops false,sl,H,n,K=>runOps cx P call ops.toList ops.toList sl H n (fun sl' H' n'=>dropWhen sl' (fun sl''=>K .normal sl'' H' n'))
 | .region _ ops true,sl,H,n,K=>execDraw cx P call ops sl H n (fun sl' H' n'=>dropWhen sl' (fun sl''=>K .normal sl'' H' n'))
 | .seq a b,sl,H,n,K=>exec cx P call n0 a sl H n (fun e sl' H' n'=>match e with
  | .normal=>exec cx P call n0 b sl' H' n' K
  | e=>K e sl' H' n')
 | .cond c a b,sl,H,n,K=>(match ev sl c with
  | .bool q=>(q=true→exec cx P call n0 a sl H n K)∧(q=false→exec cx P call n0 b sl H n K)
  | _=>False)
 | .block id a,sl,H,n,K=>exec cx P call n0 a sl H n (fun e sl' H' n'=>match e with
  | .exit m=>if Nat.beq m id then K .normal sl' H' n' else K (.exit m) sl' H' n'
  | e=>K e sl' H' n')
 | .loop a,sl,H,n,K=>∃ (ι:Type) (S:ι→St) (I:ι→Prop) (μ:ι→Nat),
  (∃ i σ,I i∧weak n0 σ sl H n (S i)) ∧
  ∀ i,I i→exec cx P call n0 a (S i).sl (S i).H (S i).n (fun e sl' H' n'=>match e with
   | .normal=>∃ j σ,I j∧μ j < μ i∧weak n0 σ sl' H' n' (S j)
   | e=>K e sl' H' n')
 | .rangeFunc f ps x y,sl,H,n,K=>(match ev sl f with
  | .fn (.func g) first captured=>(okRound cx x && okRound cx y)=true∧forceH (H++[.loop .ready .no ps.toList x y sl]) (fun H1=>forceN (n+1) (fun n1 =>
   call g (first++[.yld n]++captured) H1 n1 (fun _ H' n'=>(match getOb H' n with
    | .loop .ready .no _ _ _ _=>forceH (setN .dead H' n) (fun H2=>K .normal sl H2 n')
    | .loop .done .ret _ _ _ _=>forceH (setN .dead H' n) (fun H2=>K .ret sl H2 n')
    | .loop .done (.exit m) _ _ _ _=>forceH (setN .dead H' n) (fun H2=>K (.exit m) sl H2 n')
    | _=>False))))
  | _=>False)
 | .ret,sl,H,n,K=>K .ret sl H n
 | .exit m,sl,H,n,K=>K (.exit m) sl H n
 | _,_,_,_,_=>False
def resultsK (P:Program) (sl:List AV) (H:List Ob):List ResultVar→(List AV→Prop)→Prop
 | [],k=>k []
 | .tmp t :: l,k=>forceA (noW (getN .any sl t)) (fun v=>resultsK P sl H l (fun vs=>k (v :: vs)))
 | .cell a t :: l,k=>(match getN .any sl a with
  | .ptr id off=>(match getOb H id with
   | .cells cs=>(match readAt P t cs off with
    | some v=>forceA v (fun v'=>resultsK P sl H l (fun vs=>k (v' :: vs)))
    | none=>False)
   | _=>False)
  | _=>False)
def oneK:List AV→(AV→Prop)→Prop
 | [v],k=>k v
 | vs,k=>k (.tup vs)
def endK (P:Program) (fn:Func) (K:AV→List Ob→Nat→Prop):Ex→Kont
 | .normal,sl,H,n=>resultsK P sl H fn.results.toList (fun vs=>oneK vs (fun v=>K v H n))
 | .ret,sl,H,n=>resultsK P sl H fn.results.toList (fun vs=>oneK vs (fun v=>K v H n))
 | .exit _,_,_,_=>False
def padTo:Nat→List AV→List AV
 | 0,l=>l
 | n+1,[]=>.any :: padTo n []
 | n+1,x :: l=>x :: padTo n l
def setMany:List Nat→List AV→List AV→List AV
 | p :: ps,v :: vs,sl=>setMany ps vs (setN (noW v) sl p)
 | _,_,sl=>sl
def roundS (cx:Ctx) (P:Program) (sem:CallSem) (id:Nat) (args:List AV) (H:List Ob) (n:Nat) (K:AV→List Ob→Nat→Prop):Prop :=
 match getOb H id with
 | .loop .ready .no ps x y sl =>
  if (Nat.beq ps.length args.length && (ps.all (fun p=>Nat.blt p sl.length))) && (okRound cx x && okRound cx y) then
   forceL (setMany ps args (sl.map noW)) (fun sl0=>exec cx P sem n x sl0 H n (fun e sl1 H1 n1=>match e with
    | .normal=>(match getOb H1 id with
     | .loop .ready .no ps' x' y' sl'=>forceH (setN (.loop .busy .no ps' x' y' sl') H1 id) (fun H2=>exec cx P sem n y sl1 H2 n1 (fun e _ H3 n3=>(match getOb H3 id with
      | .loop .busy .no ps' x' y' sl'=>(match e with
       | .normal=>forceH (setN (.loop .ready .no ps' x' y' sl') H3 id) (fun H4=>K (.bool true) H4 n3)
       | .ret=>forceH (setN (.loop .done .ret ps' x' y' sl') H3 id) (fun H4=>K (.bool false) H4 n3)
       | .exit m=>forceH (setN (.loop .done (.exit m) ps' x' y' sl') H3 id) (fun H4=>K (.bool false) H4 n3))
      | _=>False)))
     | _=>False)
    | _=>False))
  else False
 | _=>False
def callS (cx:Ctx) (P:Program) (sem:CallSem):CallSem:=fun g args H n K=>match args with
 | .rnd id :: args=>roundS cx P sem id args H n K
 | args=>(match P.funcs[g]? with
  | some fn=>(match fn.body with
   | some c=>if Nat.ble args.length fn.ntmps then (fn.name == "runtime.NumGoroutine")=false∧forceL (padTo fn.ntmps (args.map noW)) (fun sl=>exec cx P sem n c sl H n (endK P fn K)) else False
   | none=>False)
  | none=>False)
def callN (cx:Ctx) (P:Program) (d:Nat):CallSem:=Nat.rec (motive:=fun _=>CallSem) (fun _ _ _ _ _=>False) (fun _ sem=>callS cx P sem) d
def frOne (ids:List Nat) (H:List Ob) (x:AV):AV:=match down H x with
 | some (p,l)=>if l.all ids.contains then up p else x
 | none=>x
def frCsl (ids:List Nat) (H:List Ob) (x:AV):AV:=match lowerArg H x with
 | some (y,l)=>if l.all ids.contains then y else x
 | none=>x
def plainC:AV→Option PV
 | .int k n=>some (.int k n)
 | .bool b=>some (.bool b)
 | .str s=>some (.str s)
 | _=>none
def plainE:List (Int × AV)→Option (List (Int × List (Option PV)))
 | []=>some []
 | (p,.agg cs) :: l=>(match plainE l with | some r=>some ((p,cs.map plainC) :: r) | none=>none)
 | _=>none
def frMp (ids:List Nat) (H:List Ob) (id:Nat):AV:=match getOb H id with
 | .fmap es=>if ids.contains id then (match plainE es with | some es'=>.dmp es' | none=>.mp id) else .mp id
 | _=>.mp id
mutual
def frV (ids:List Nat) (H:List Ob):AV→AV
 | .own id=>frOne ids H (.own id)
 | .ownc id k lo len=>frOne ids H (.ownc id k lo len)
 | .csl t id m=>frCsl ids H (.csl t id m)
 | .mp id=>frMp ids H id
 | .fn f a b=>frOne ids H (.fn f a b)
 | .slf t xs=>.sl t xs
 | .ownp id k lo len=>frOne ids H (.ownp id k lo len)
 | .agg cs=>.agg (frVL ids H cs)
 | .tup vs=>.tup (frVL ids H vs)
 | v=>v
def frVL (ids:List Nat) (H:List Ob):List AV→List AV
 | []=>[]
 | x :: l=>frV ids H x :: frVL ids H l
end
def finK (r:CR):AV→List Ob→Nat→Prop:=fun x H n =>
 givenAll r.given∧r.news.all fineOb=true∧∃ ids σ,weak 0 σ [fit (shOf r.res) (noW (frV ids H x))] (frzAll ids H) n ⟨[r.res],r.news,r.news.length⟩
where
 givenAll:Option Prop→Prop
  | none=>True
  | some q=>q
end Go.Sx
