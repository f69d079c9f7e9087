/-
From the loaded code to the code that the evaluator goes by. Definitions only.
-/
import Derived.Test.YtcpgkdaicglogaaGreatDoorPvA
import Derived.ChangeKeysEq
namespace Go.Proofs.YtcpgkdaicglogaaGreatDoorPv
open Go

def const1 : Value → Bool
  | .slice none 0 0 => true
  | v => simple v

/-- A map that was not made: nothing is told of it. -/
def nilMap : Value → Bool
  | .map none => true
  | _ => false

def constOk : Value → Bool
  | .agg cs => cs.toList.all const1
  | v => const1 v

structure Ann where
  rk : Nat → Option Nat
  md : Nat → Mode
  vm : Mode
  kw : Bool
  bt : TypeId
  bb : Option TypeId
  /-- the types that stand behind interfaces -/
  it : List TypeId := []

def sizeB (P : Program) (t : TypeId) : Option Nat := (P.info? t).map (·.size)
def bytesB (P : Program) (t : TypeId) : Option Nat := (P.info? t).map (·.bytes)
def zeroB (P : Program) (t : TypeId) : Option Value := (P.info? t).bind (·.zero)
def aggB (P : Program) (t : TypeId) : Option Bool := match P.underlying t with
  | some (.struct _) | some (.array _ _) => some true
  | some _ => some false
  | none => none
/-- As an aggregate (how many cells), or as one cell. -/
def loadB (P : Program) (t : TypeId) : Option (Option Nat) := (aggB P t).bind fun b => if b then (sizeB P t).map some else some none

def pickZero (z : Value) : Option Value := if constOk z then some z else none

def opnd (A : Ann) : Operand → Option PA
  | .tmp t => some (.t t)
  | .const v => if constOk v || nilMap v then some (.c v) else none
  | .func f => (A.rk f).map .f
  | .global _ => none

def opndO (A : Ann) : Option Operand → Option (Option PA)
  | some x => (opnd A x).map some
  | none => some none

def opnds (A : Ann) (xs : Array Operand) : Option (List PA) := xs.toList.mapM (opnd A)

def kindT (P : Program) (t : TypeId) : Option Nat := match P.underlying t with
  | some .bool => some 0
  | some (.int _) => some 1
  | some .string => some 2
  | _ => none

/-- The kinds of a struct's fields: numbers, bools and strings, one cell each, in order. -/
def plainFields (P : Program) : Nat → List Field → Option (List Nat)
  | _, [] => some []
  | k, f :: r => if f.offset = k ∧ f.name ≠ "_" then (kindT P f.type).bind fun q => (plainFields P (k + 1) r).map fun l => q :: l else none

def compBin (P : Program) (A : Ann) (op : BinOp) (t : TypeId) (x y : Operand) : Option PO :=
  match P.underlying t with
  | some (.int _) | some .string => (opnd A x).bind fun x' => (opnd A y).map fun y' => .bin op x' y'
  | some .bool => match op with
      | .eql => (opnd A x).bind fun x' => (opnd A y).map fun y' => .beq false x' y'
      | .neq => (opnd A x).bind fun x' => (opnd A y).map fun y' => .beq true x' y'
      | _ => none
  | some (.struct fs) => (plainFields P 0 fs.toList).bind fun ks => if !P.stoodInHeld t && !P.eqGuardType P.depth t then match op with
      | .eql => (opnd A x).bind fun x' => (opnd A y).map fun y' => .eqs false ks x' y'
      | .neq => (opnd A x).bind fun x' => (opnd A y).map fun y' => .eqs true ks x' y'
      | _ => none else none
  | some (.array n e) => (kindT P e).bind fun q => if (P.info? e).isSome && P.cellsOf e == 1 && !P.eqGuardType P.depth t then match op with
      | .eql => (opnd A x).bind fun x' => (opnd A y).map fun y' => .eqs false (List.replicate n q) x' y'
      | .neq => (opnd A x).bind fun x' => (opnd A y).map fun y' => .eqs true (List.replicate n q) x' y'
      | _ => none else none
  | some (.interface _) => match y with
      | .const .nilIface => match op with
        | .eql => (opnd A x).map (.inil false)
        | .neq => (opnd A x).map (.inil true)
        | _ => none
      | _ => none
  | _ => none

def compConv (P : Program) (A : Ann) (src dst : TypeId) (x : Operand) : Option PO :=
  (opnd A x).bind fun x' => match P.underlying src, P.underlying dst with
    | some (.int _), some (.int k) => some (.cvi k x')
    | some .string, some .string => some (.str x')
    | some .string, some (.slice e) => match P.underlying e with
      | some (.int .u8) => some (.s2b x')
      | _ => none
    | some (.slice e), some .string => match P.underlying e with
      | some (.int .u8) => some (.b2s x')
      | _ => none
    | _, _ => none

def compG (A : Ann) (g : Nat → Option (Nat × Nat)) : List (Nat × Operand) → Option (List (Nat × Nat × PA))
  | [] => some []
  | (i, x) :: r => (g i).bind fun q => (opnd A x).bind fun x' => (compG A g r).map fun l => (q.1, q.2, x') :: l

def compI (A : Ann) : List (Nat × Operand) → Option (List (Nat × PA))
  | [] => some []
  | (i, x) :: r => (opnd A x).bind fun x' => (compI A r).map fun l => (i, x') :: l

def placesB (P : Program) (fs : List Field) : Option (List (Nat × Nat)) := fs.mapM fun f => (P.info? f.type).map fun i => (f.offset, i.size)

/-- The kind of a map's keys. -/
def keyKind (P : Program) (t : TypeId) : Option Nat := match P.underlying t with
  | some (.int _) => some 1
  | some .string => some 2
  | _ => none

/-- A map's room, told ahead: nothing, or a number that stands there. -/
def roomOk : Option Operand → Bool
  | none => true
  | some (.const (.int _ _)) => true
  | _ => false

/-- The method of a type, if it is the type's own and is handed the value itself. -/
def methB (P : Program) (t : TypeId) (name : String) : Option FuncId := (P.info? t).bind fun i => (i.methods.find? (·.name == name)).bind fun m => if m.path.isEmpty then m.func.bind fun q => match P.underlying t with
    | some (.pointer _) => if q.2 then some q.1 else none
    | some _ => if q.2 then none else some q.1
    | none => none else none

def tblB (P : Program) (A : Ann) (name : String) : List (Nat × Nat) := A.it.filterMap fun t => (methB P t name).bind fun f => (A.rk f).map fun k => (t, k)

@[noinline] def compCall (P : Program) (A : Ann) (c : Call) : Option PO :=
  match c.callee with
  | .value (.func f) => (A.rk f).bind fun k => (opnds A c.args).map fun as => if A.md k = .imp then .icall k as else .call k (A.md k) as
  | .value (.tmp t) => (opnds A c.args).map fun as => .callv (.t t) A.vm as
  | .value _ => none
  | .invoke x name => (opnd A x).bind fun x' => (opnds A c.args).map fun as => .inv (tblB P A name) A.vm x' as
  | .builtin b => match b with
    | .len => match c.args.toList, c.argTypes[0]? with
      | [x], some t => match P.underlying t with
        | some .string => (opnd A x).map .lenS
        | some (.slice _) => (opnd A x).map .lenL
        | some (.map _ _) => (opnd A x).map .mlen
        | _ => none
      | _, _ => none
    | .delete => match c.args.toList, c.argTypes.toList with
      | [x, y], [t, _] => match P.underlying t with
        | some (.map k _) => (keyKind P k).bind fun kd => (opnd A x).bind fun x' => (opnd A y).map fun y' => .mdel kd x' y'
        | _ => none
      | _, _ => none
    | .min => (opnds A c.args).map (.mnmx false)
    | .max => (opnds A c.args).map (.mnmx true)
    | .append => match c.args.toList, c.argTypes.toList with
      | [s, x], [t, u] => match P.underlying t, P.underlying u with
        | some (.slice e), some (.slice _) | some (.slice e), some .string =>
          (sizeB P e).bind fun es => (bytesB P e).bind fun by_ => (zeroB P e).bind fun z => (opnd A s).bind fun s' => (opnd A x).bind fun x' => if 0 < es ∧ 0 < by_ ∧ z.cells.size = es then (if A.bb = some e then (if es = 1 ∧ by_ = 1 then some (.appb A.kw s' x') else none) else some (.app es by_ (A.kw && es != 1) s' x')) else none
        | _, _ => none
      | _, _ => none
    | .clear => match c.args.toList, c.argTypes.toList with
      | [x], [t] => match P.underlying t with
        | some (.slice e) => (sizeB P e).bind fun es => (zeroB P e).bind fun z => (pickZero z).bind fun z => (opnd A x).bind fun x' => if 0 < es ∧ z.cells.size = es then some (.clr es z x') else none
        | _ => none
      | _, _ => none
    | _ => none

/-- A fresh strings.Builder. -/
def bldZ : Option Value → Bool
  | some (.agg cs) => match cs.toList with
    | [.pointer none, .slice none 0 0] => true
    | _ => false
  | _ => false

@[noinline] def compO (P : Program) (A : Ann) (o : Oper) : Option PO :=
  match o.op with
  | .move x | .assign x => (opnd A x).map .mv
  | .pick c a b => (opnd A c).bind fun c' => (opnd A a).bind fun a' => (opnd A b).map fun b' => .pick c' a' b'
  | .alloc t => if t = A.bt then (if bldZ (zeroB P t) then some .bbx else none) else (zeroB P t).bind fun z => (pickZero z).map fun z => .box (.c z)
  | .box _ x => (opnd A x).map .box
  | .build t parts => (zeroB P t).bind fun z => (pickZero z).bind fun z => match P.underlying t with
    | some (.struct fs) => (placesB P fs.toList).bind fun pl => (compG A (fun i => pl[i]?) parts.toList).map (.build z)
    | some (.array _ e) => (sizeB P e).bind fun es => (compG A (fun i => some (i * es, es)) parts.toList).map (.build z)
    | _ => none
  | .buildSlice t n parts => match P.underlying t with
    | some (.slice e) => (sizeB P e).bind fun es => (zeroB P e).bind fun z => (pickZero z).bind fun z =>
      (compI A parts.toList).bind fun ps => if 0 < es ∧ n * es ≤ 16777216 ∧ z.cells.size = es then some (if n = 0 && ps.isEmpty then .mv (.c (.slice none 0 0)) else .bsl es z n ps) else none
    | _ => none
  | .load t a => (loadB P t).bind fun s => (opnd A a).map (.ld s)
  | .store t a x => (sizeB P t).bind fun n => (opnd A a).bind fun a' => (opnd A x).map fun x' => .st n a' x'
  | .nilCheck x => (opnd A x).map .nck
  | .binOp op t x y _ => compBin P A op t x y
  | .unOp op _ x => (opnd A x).map (.un op)
  | .convert s d x => compConv P A s d x
  | .makeFunc (.func f) a b => (A.rk f).bind fun k => (opnds A a).bind fun a' => (opnds A b).map fun b' => .mkf k a' b'
  | .slice t x lo hi none => (opndO A lo).bind fun l => (opndO A hi).bind fun h => (opnd A x).bind fun x' => match P.underlying t with
    | some .string => some (.slcS x' l h)
    | some (.slice e) => (sizeB P e).map fun es => .slcL es x' l h
    | some (.array n e) => match aggB P e, l, h with
      | some true, none, none => (sizeB P e).map fun es => .slcA es n x'
      | _, _, _ => none
    | _ => none
  | .fieldAddr t x f => match P.underlying t with
    | some (.struct fs) => (fs[f]?).bind fun fd => (sizeB P fd.type).bind fun n => (opnd A x).bind fun x' => if n = 0 then none else some (.fa fd.offset x')
    | _ => none
  | .field t x f => match P.underlying t with
    | some (.struct fs) => (fs[f]?).bind fun fd => (loadB P fd.type).bind fun s => (opnd A x).map (.fld fd.offset s)
    | _ => none
  | .indexAddr t x i => match P.underlying t with
    | some (.slice e) => (sizeB P e).bind fun es => (opnd A x).bind fun x' => (opnd A i).map fun i' => .ia es x' i'
    | some (.array n e) => (sizeB P e).bind fun es => (opnd A x).bind fun x' => (opnd A i).map fun i' => .iaa es n x' i'
    | _ => none
  | .index t x i => match P.underlying t with
    | some .string => (opnd A x).bind fun x' => (opnd A i).map fun i' => .ix x' i'
    | some (.array n e) => (sizeB P e).bind fun es => (loadB P e).bind fun s => (opnd A x).bind fun x' => (opnd A i).map fun i' => .ixa es n s x' i'
    | _ => none
  | .extract x i => (opnd A x).map fun x' => .ext x' i
  | .makeSlice t n c => match P.underlying t with
    | some (.slice e) => (sizeB P e).bind fun es => (bytesB P e).bind fun by_ => (zeroB P e).bind fun z => (pickZero z).bind fun z => (opnd A n).bind fun n' => (opnd A c).bind fun c' => if 0 < es ∧ 0 < by_ ∧ z.cells.size = es then some (.msl es by_ z n' c') else none
    | _ => none
  | .call c => compCall P A c
  | .makeMap t r => match P.underlying t with
    | some (.map _ _) => if roomOk r then some .mkm else none
    | _ => none
  | .mapUpdate t m k v | .insert t m k v => match P.underlying t with
    | some (.map kt _) => (keyKind P kt).bind fun kd => (opnd A m).bind fun m' => (opnd A k).bind fun k' => (opnd A v).map fun v' => .mput kd m' k' v'
    | _ => none
  | .lookup t m k ok => match P.underlying t with
    | some (.map kt e) => (keyKind P kt).bind fun kd => (zeroB P e).bind fun z => (pickZero z).bind fun z => (opnd A m).bind fun m' => (opnd A k).map fun k' => .mget kd z ok m' k'
    | _ => none
  | .makeInterface t x => match P.underlying t with
    | some (.interface _) => none
    | some _ => (opnd A x).map (.mki t)
    | none => none
  | .typeAssert x _ t ok => match P.underlying t with
    | some (.interface _) => none
    | some _ => (zeroB P t).bind fun z => (pickZero z).bind fun z => (opnd A x).map (.tas t z ok)
    | none => none
  | _ => none

@[noinline] def compOp (P : Program) (A : Ann) (nt : Nat) (ops : Array Oper) (o : Oper) : Option POp :=
  if (match o.dst with | some d => decide (d < nt) && decide (d < 1000000) | none => true) then
    (match o.guard with
      | none => some none
      | some (j, w) => match (ops[j]?).bind (·.dst) with
        | some d => some (some (d, w))
        | none => none).bind fun g => (compO P A o).map fun p => ⟨o.dst, g, p⟩
  else none

/-- What an operation does to memory: nothing; it reads; it makes; it appends; it writes, or may do anything. -/
inductive Cls where
  | p | r | n | a | w
  deriving DecidableEq

def clsO : PO → Cls
  | .mv _ | .pick .. | .bin .. | .eqs .. | .beq .. | .un .. | .cvi .. | .str _ | .s2b _ | .build .. | .nck _ | .mkf .. | .slcS .. | .slcL .. | .fa .. | .fld .. | .iaa .. | .ix .. | .ixa .. | .ext .. | .lenS _ | .lenL _ | .mnmx .. | .ia .. | .mki .. | .tas .. | .inil .. => .p
  | .ld .. | .b2s _ | .mget .. | .mlen _ => .r
  | .call _ .strict _ | .callv _ .strict _ | .inv _ .strict _ _ => .r
  | .box _ | .bsl .. | .msl .. => .n
  | .app _ _ false .. => .a
  | .icall .. => .a
  | _ => .w

/-- Of two operations of which the first was reckoned ahead: may the second come first? -/
def indCls : Cls → Cls → Bool
  | .p, _ | _, .p => true
  | .r, .r | .r, .n | .r, .a | .n, .n | .a, .n => true
  | _, _ => false

def paT : PA → List Nat
  | .t n => [n]
  | _ => []

/-- The temporaries that an operation looks at. -/
def looks : PO → List Nat
  | .bbx | .mkm => []
  | .mput _ a b c => paT a ++ paT b ++ paT c
  | .mget _ _ _ x y | .mdel _ x y => paT x ++ paT y
  | .mv x | .un _ x | .cvi _ x | .str x | .s2b x | .b2s x | .box x | .ld _ x | .nck x | .fa _ x | .fld _ _ x | .ext x _ | .lenS x | .lenL x | .clr _ _ x | .mlen x | .slcA _ _ x | .mki _ x | .tas _ _ _ x | .inil _ x => paT x
  | .pick a b c => paT a ++ paT b ++ paT c
  | .bin _ x y | .eqs _ _ x y | .beq _ x y | .st _ x y | .ia _ x y | .iaa _ _ x y | .ix x y | .ixa _ _ _ x y | .app _ _ _ x y | .appb _ x y | .msl _ _ _ x y => paT x ++ paT y
  | .build _ ps => ps.flatMap fun p => paT p.2.2
  | .bsl _ _ _ ps => ps.flatMap fun p => paT p.2
  | .mkf _ a b => a.flatMap paT ++ b.flatMap paT
  | .slcS x a b | .slcL _ x a b => paT x ++ (match a with | some y => paT y | none => []) ++ (match b with | some y => paT y | none => [])
  | .mnmx _ xs => xs.flatMap paT
  | .call _ _ as => as.flatMap paT
  | .callv f _ as => paT f ++ as.flatMap paT
  | .inv _ _ f as => paT f ++ as.flatMap paT
  | .icall _ as => as.flatMap paT

def looksP (o : POp) : List Nat := (match o.guard with | some (t, _) => [t] | none => []) ++ looks o.op
def dstL (o : POp) : List Nat := match o.dst with | some d => [d] | none => []

/-- 'y' hangs on nothing that 'x' does, nor the other way round. -/
def indep (x y : POp) : Bool :=
  indCls (clsO x.op) (clsO y.op) && (dstL x).all (fun d => !(looksP y).contains d && !(dstL y).contains d) && (dstL y).all (fun d => !(looksP x).contains d) && (clsO x.op == .p || clsO y.op == .p || (x.dst.isSome && y.dst.isSome && (dstL x).all (fun d => decide (d < 1000000)) && (dstL y).all (fun d => decide (d < 1000000))))

/-- The operations that each one waits for. -/
def direct (ops : Array Oper) (i : Nat) : List Nat := match ops[i]? with
  | some o => (o.after.toList.filter (Region.binds .any)).map (·.on)
  | none => []

def predsStep (ops : Array Oper) (pr : List (List Nat)) : List (List Nat) := (List.range ops.size).map fun i => ((direct ops i).flatMap fun k => k :: pr.getD k []).eraseDups

def preds (ops : Array Oper) : List (List Nat) :=
  predsStep ops (predsStep ops ((List.range ops.size).foldl (fun acc i => acc ++ [((direct ops i).flatMap fun k => k :: acc.getD k []).eraseDups]) []))

def predsOk (ops : Array Oper) (pr : List (List Nat)) : Bool :=
  (List.range ops.size).all fun i => (pr.getD i []).all fun j => (direct ops i).any fun k => k == j || (pr.getD k []).contains j

/-- The next to be taken: of those that wait for nothing more, one that makes no memory, if there is one. -/
def pickNext (ps : List POp) (pr : List (List Nat)) (done : List Nat) (rest : List Nat) : Option Nat :=
  let ready := rest.filter fun i => (pr.getD i []).all fun j => done.contains j
  match ready.find? (fun i => clsO (ps.getD i default).op == .p || clsO (ps.getD i default).op == .r) with
  | some i => some i
  | none => ready.head?

def ordOf (ps : List POp) (pr : List (List Nat)) : Nat → List Nat → List Nat → List Nat
  | 0, _, _ => []
  | n + 1, done, rest => match pickNext ps pr done rest with
    | some i => i :: ordOf ps pr n (i :: done) (rest.erase i)
    | none => []

def pairsOk (ops : Array Oper) (ps : List POp) (pr : List (List Nat)) : List Nat → Bool
  | [] => true
  | i :: r => !(direct ops i).contains i && !r.contains i && (r.all fun j => ((pr.getD j []).contains i || indep (ps.getD i default) (ps.getD j default)) && !(direct ops i).contains j) && pairsOk ops ps pr r

/-- In which order a drawn region's operations are reckoned, if it doesn't matter. -/
def drawn (ops : Array Oper) (ps : List POp) : Option (List POp) :=
  let pr := preds ops
  let l := ordOf ps pr ps.length [] (List.range ps.length)
  if predsOk ops pr && l.length == ps.length && (List.range ps.length).all (fun i => l.contains i) && l.all (fun i => decide (i < ps.length)) && pairsOk ops ps pr l && ops.toList.all (fun o => o.after.toList.all fun e => decide (e.on < ops.size)) then some (l.map fun i => ps.getD i default) else none

/-- Of a drawn region's order: the first two operations that are not known to be free of one another, though any of them may come first. -/
def badPair (ps : List POp) (pr : List (List Nat)) : List Nat → Option (Nat × Nat)
  | [] => none
  | i :: r => match r.find? fun j => !((pr.getD j []).contains i || indep (ps.getD i default) (ps.getD j default)) with
    | some j => some (i, j)
    | none => badPair ps pr r

/-- As pairsOk, but for pairs of one of U and y. -/
def pairsOk2 (ops : Array Oper) (ps : List POp) (pr : List (List Nat)) (U : List Nat) (y : Nat) : List Nat → Bool
  | [] => true
  | i :: r => !(direct ops i).contains i && !r.contains i && (r.all fun j => (((pr.getD j []).contains i || indep (ps.getD i default) (ps.getD j default)) || (U.contains i && j == y)) && !(direct ops i).contains j) && pairsOk2 ops ps pr U y r

def ordOk (ops : Array Oper) (ps : List POp) (l : List Nat) : Bool := l.length == ps.length && (List.range ps.length).all (fun i => l.contains i) && l.all (fun i => decide (i < ps.length))

/-- Two orders of a drawn region's operations, of which one comes to the same as any, if both come to the same. -/
def drawn2 (ops : Array Oper) (ps : List POp) : Option (List POp × List POp) :=
  let pr := preds ops
  let l := ordOf ps pr ps.length [] (List.range ps.length)
  (badPair ps pr l).bind fun (x, y) =>
  let up := y :: pr.getD y []
  let pr2 := pr.mapIdx fun i q => if i = x || q.contains x then (q ++ up).eraseDups else q
  let m := ordOf ps pr2 ps.length [] (List.range ps.length)
  if predsOk ops pr && ordOk ops ps l && ordOk ops ps m && pairsOk2 ops ps pr [x] y l && pairsOk2 ops ps pr up x m && (x != y) && ops.toList.all (fun o => o.after.toList.all fun e => decide (e.on < ops.size)) then some (l.map fun i => ps.getD i default, m.map fun i => ps.getD i default) else none

def Ann.strictly (A : Ann) : Ann := { A with md := fun k => if A.kw then A.md k else match A.md k with | .pure => .strict | m => m, vm := if A.kw then A.vm else match A.vm with | .pure => .strict | m => m }

def compC (P : Program) (A : Ann) (nt : Nat) : Code → Option PC
  | .skip => some .skip
  | .region _ ops draw => if draw then (ops.toList.mapM (compOp P A.strictly nt ops)).bind fun ps => match drawn ops ps with | some l => some (.rg true l) | none => (drawn2 ops ps).map fun q => .rg2 q.1 q.2 else (ops.toList.mapM (compOp P A nt ops)).map (.rg false)
  | .seq a b => (compC P A nt a).bind fun a' => (compC P A nt b).map fun b' => .seq a' b'
  | .cond c t e => (opnd A c).bind fun c' => (compC P A nt t).bind fun t' => (compC P A nt e).map fun e' => .cond c' t' e'
  | .block id b => (compC P A nt b).map (.block id)
  | .loop b => (compC P A nt b).map .loop
  | .exit id => some (.exit id)
  | .ret => some .ret
  | _ => none

def compR (P : Program) : ResultVar → Option PR
  | .tmp t => some (.tmp t)
  | .cell a t => (loadB P t).map (.cell a)

def compF (P : Program) (A : Ann) (fn : Func) : Option Def :=
  (fn.results.toList.mapM (compR P)).bind fun res => match fn.body with
    | some c => (compC P A fn.ntmps c).bind fun body => if fn.params.size + fn.nfree ≤ fn.ntmps ∧ fn.name ≠ "runtime.NumGoroutine" then some (.code (fn.params.size + fn.nfree) res body) else none
    | none => none

end Go.Proofs.YtcpgkdaicglogaaGreatDoorPv
