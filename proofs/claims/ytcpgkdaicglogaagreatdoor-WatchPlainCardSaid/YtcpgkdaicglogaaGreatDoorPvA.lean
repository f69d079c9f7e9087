/-
The evaluator: what a Go function answers, told on values without memory (see wip/pv/README.md). Definitions only.
-/
import Derived.Below
import Derived.Orders
namespace Go.Proofs.YtcpgkdaicglogaaGreatDoorPv
open Go

/-- A value as it is told here. -/
inductive PV where
  | jk
  | sc (v : Value)
  | em
  | sl (xs : List PV)
  | ob (o g es i n : Nat)
  | fp (xs : List PV) (i j : Nat)
  | bx (o g es i j : Nat)
  | fn (f : Nat) (first caps : List PV)
  | agg (cs : List PV)
  | tu (vs : List PV)
  | ifc (t : Nat) (v : PV)
  | mp (o g : Nat)
  deriving Inhabited

def cellsOf : PV → List PV
  | .agg cs => cs
  | p => [p]

/-- Values that are told as themselves. -/
def simple : Value → Bool
  | .bool _ | .int _ _ | .string _ | .nilFunc | .nilIface | .pointer none | .slice none 0 0 => true
  | _ => false

def pv1 : Value → PV
  | .slice none 0 0 => .em
  | .agg _ => .jk
  | v => if simple v then .sc v else .jk

def pv : Value → PV
  | .agg cs => .agg (cs.toList.map pv1)
  | v => pv1 v

/-- A row of memory: elements of 'es' cells each; may it be appended to; may it be written. -/
structure Obj where
  es : Nat
  xs : List PV
  al : Bool
  wr : Bool

structure St where
  m : Nat → Nat → Option Obj
  c : Nat → Nat
  /-- maps: what stands in them, in order -/
  mm : Nat → Nat → Option (List (Value × PV))

def St.nil : St := ⟨fun _ _ => none, fun _ => 0, fun _ _ => none⟩
def St.put (σ : St) (o g : Nat) (x : Option Obj) : St := { σ with m := fun o' g' => if o' = o ∧ g' = g then x else σ.m o' g' }
def St.new (σ : St) (s : Nat) (x : Obj) : St := { mm := σ.mm, m := fun o' g' => if o' = s ∧ g' = σ.c s then some x else σ.m o' g', c := fun s' => if s' = s then σ.c s + 1 else σ.c s' }
def St.putM (σ : St) (o g : Nat) (x : List (Value × PV)) : St := { σ with mm := fun o' g' => if o' = o ∧ g' = g then some x else σ.mm o' g' }
def St.newM (σ : St) (s : Nat) : St := { m := σ.m, mm := fun o' g' => if o' = s ∧ g' = σ.c s then some [] else σ.mm o' g', c := fun s' => if s' = s then σ.c s + 1 else σ.c s' }
def St.lock (σ : St) : St := { σ with m := fun o g => (σ.m o g).map fun x => { x with wr := false } }

abbrev Fr := Nat → PV
def Fr.set (fr : Fr) (d : Nat) (v : PV) : Fr := fun t => if t = d then v else fr t
def Fr.put (fr : Fr) : Option Nat → PV → Fr
  | none, _ => fr
  | some d, v => fr.set d v

inductive PA where
  | t (n : Nat)
  | c (v : Value)
  | f (k : Nat)
  deriving Inhabited

def pa (fr : Fr) : PA → PV
  | .t n => fr n
  | .c v => pv v
  | .f k => .fn k [] []

inductive Mode where
  | strict
  | pure
  | opn
  | imp
  deriving DecidableEq, Inhabited

/-- The place of maps: no operation's own place. -/
def mapAt : Nat := 4000000

/-- The place of objects that are a strings.Builder: no operation's own place. -/
def bldAt : Nat := 3000003

/-- The place of a builder's bytes. -/
def bufAt : Nat := 1000033

inductive PO where
  | mv (x : PA)
  | pick (c a b : PA)
  | bin (op : BinOp) (x y : PA)
  | eqs (neg : Bool) (ks : List Nat) (x y : PA)
  | beq (neg : Bool) (x y : PA)
  | un (op : UnOp) (x : PA)
  | cvi (k : IntKind) (x : PA)
  | str (x : PA)
  | s2b (x : PA)
  | b2s (x : PA)
  | box (x : PA)
  | bbx
  | build (z : Value) (parts : List (Nat × Nat × PA))
  | bsl (es : Nat) (z : Value) (n : Nat) (parts : List (Nat × PA))
  | ld (sz : Option Nat) (a : PA)
  | st (sz : Nat) (a x : PA)
  | nck (x : PA)
  | mkf (f : Nat) (first caps : List PA)
  | slcS (x : PA) (lo hi : Option PA)
  | slcL (es : Nat) (x : PA) (lo hi : Option PA)
  | fa (off : Nat) (x : PA)
  | fld (off : Nat) (sz : Option Nat) (x : PA)
  | ia (es : Nat) (x i : PA)
  | iaa (es len : Nat) (x i : PA)
  | ix (x i : PA)
  | ixa (es len : Nat) (sz : Option Nat) (x i : PA)
  | ext (x : PA) (i : Nat)
  | lenS (x : PA)
  | lenL (x : PA)
  | mnmx (mx : Bool) (xs : List PA)
  | app (es by_ : Nat) (kw : Bool) (s x : PA)
  | appb (kw : Bool) (s x : PA)
  | msl (es by_ : Nat) (z : Value) (n c : PA)
  | clr (es : Nat) (z : Value) (x : PA)
  | call (f : Nat) (md : Mode) (args : List PA)
  | callv (f : PA) (md : Mode) (args : List PA)
  | icall (f : Nat) (args : List PA)
  | mkm
  | mput (kd : Nat) (m k v : PA)
  | mget (kd : Nat) (z : Value) (ok : Bool) (m k : PA)
  | mlen (m : PA)
  | mdel (kd : Nat) (m k : PA)
  | slcA (es n : Nat) (x : PA)
  | mki (t : Nat) (x : PA)
  | tas (t : Nat) (z : Value) (ok : Bool) (x : PA)
  | inil (neg : Bool) (x : PA)
  | inv (tbl : List (Nat × Nat)) (md : Mode) (x : PA) (args : List PA)
  deriving Inhabited

structure POp where
  dst : Option Nat
  guard : Option (Nat × Bool)
  op : PO
  deriving Inhabited

inductive PC where
  | skip
  | seq (a b : PC)
  | cond (c : PA) (t e : PC)
  | block (id : Nat) (b : PC)
  | loop (b : PC)
  | exit (id : Nat)
  | ret
  | rg (draw : Bool) (ops : List POp)
  | rg2 (a b : List POp)
  deriving Inhabited

inductive X where
  | normal
  | exit (id : Nat)
  | ret
  deriving DecidableEq, Inhabited

/-! ### values -/
mutual
/-- Does a value lead to no object? -/
def cl : PV → Bool
  | .ob .. | .bx .. | .mp .. => false
  | .fn _ a b => clL a && clL b
  | .agg cs => clL cs
  | .tu cs => clL cs
  | .ifc _ v => cl v
  | _ => true
def clL : List PV → Bool
  | [] => true
  | x :: r => cl x && clL r
end
mutual
/-- Does a value lead to no memory at all? -/
def flat : PV → Bool
  | .jk | .sc _ | .em => true
  | .sl xs => xs.isEmpty
  | .agg cs => flatL cs
  | .tu cs => flatL cs
  | .ifc _ v => flat v
  | _ => false
def flatL : List PV → Bool
  | [] => true
  | x :: r => flat x && flatL r
end

/-- A value as it stands: objects are told by what they hold. -/
def fz (σ : St) : Nat → PV → Option PV
  | 0, _ => none
  | d + 1, p => match p with
    | .em => some (.sl [])
    | .ob o g es i n => match σ.m o g with
      | some x => if x.es = es ∧ i + n ≤ x.xs.length then (((x.xs.drop i).take n).mapM (fz σ d)).map .sl else none
      | none => none
    | .bx o g es i j => match σ.m o g with
      | some x => if x.es = es ∧ i < x.xs.length ∧ j < es then (x.xs.mapM (fz σ d)).map fun l => .fp l i j else none
      | none => none
    | .fn f a b => (a.mapM (fz σ d)).bind fun a' => (b.mapM (fz σ d)).map fun b' => .fn f a' b'
    | .agg cs => (cs.mapM (fz σ d)).map .agg
    | .tu cs => (cs.mapM (fz σ d)).map .tu
    | .ifc t v => (fz σ d v).map (.ifc t)
    | .mp _ _ => none
    | p => some p

def dep : Nat := 12

/-! ### operations -/
def pbin (op : BinOp) : Value → Value → Option Value
  | .int k a, .int k' b => match op with
    | .shl => if b < 0 then none else some (.int k (k.wrap (a * 2 ^ (min b.toNat k.bits))))
    | .shr => if b < 0 then none else some (.int k (a.fdiv (2 ^ (min b.toNat k.bits))))
    | op => if k = k' then match op with
      | .add => some (.int k (k.wrap (a + b)))
      | .sub => some (.int k (k.wrap (a - b)))
      | .mul => some (.int k (k.wrap (a * b)))
      | .quo => if b = 0 then none else some (.int k (k.wrap (a.tdiv b)))
      | .rem => if b = 0 then none else some (.int k (a.tmod b))
      | .and => some (.int k (k.wrap ((BitVec.ofInt k.bits a &&& BitVec.ofInt k.bits b).toNat)))
      | .or => some (.int k (k.wrap ((BitVec.ofInt k.bits a ||| BitVec.ofInt k.bits b).toNat)))
      | .xor => some (.int k (k.wrap ((BitVec.ofInt k.bits a ^^^ BitVec.ofInt k.bits b).toNat)))
      | .andNot => some (.int k (k.wrap ((BitVec.ofInt k.bits a &&& ~~~ (BitVec.ofInt k.bits b)).toNat)))
      | .eql => some (.bool (a == b))
      | .neq => some (.bool (a != b))
      | .lss => some (.bool (a < b))
      | .leq => some (.bool (a ≤ b))
      | .gtr => some (.bool (a > b))
      | .geq => some (.bool (a ≥ b))
      | _ => none
      else none
  | .string a, .string b => match op with
    | .add => if a.size + b.size ≤ 9223372036854775807 then some (.string (a ++ b)) else none
    | .eql => some (.bool (a.toList == b.toList))
    | .neq => some (.bool !(a.toList == b.toList))
    | .lss => some (.bool (Op.bytesLess a.toList b.toList))
    | .leq => some (.bool (Op.bytesLess a.toList b.toList || a.toList == b.toList))
    | .gtr => some (.bool !(Op.bytesLess a.toList b.toList || a.toList == b.toList))
    | .geq => some (.bool !(Op.bytesLess a.toList b.toList))
    | _ => none
  | _, _ => none

/-- '==' of two cells of one kind (0: bools, 1: numbers, 2: strings). -/
def eq1 : Nat → PV → PV → Option Bool
  | 0, .sc (.bool a), .sc (.bool b) => some (a == b)
  | 1, .sc (.int k a), .sc (.int k' b) => if k = k' then some (a == b) else none
  | 2, .sc (.string a), .sc (.string b) => some (a.toList == b.toList)
  | _, _, _ => none

def eqL : List Nat → List PV → List PV → Option Bool
  | [], _, _ => some true
  | k :: ks, x :: r, y :: s => (eq1 k x y).bind fun b => if b then eqL ks r s else some false
  | _, _, _ => none

def punary (op : UnOp) : Value → Option Value
  | .int k n => match op with
    | .neg => some (.int k (k.wrap (0 - n)))
    | _ => none
  | .bool b => match op with
    | .not => some (.bool !b)
    | _ => none
  | _ => none

def bytesPV (s : ByteArray) : List PV := s.data.toList.map fun b => .sc (.int .u8 b.toNat)

def byteOf : PV → Option UInt8
  | .sc (.int .u8 n) => some (UInt8.ofNat n.toNat)
  | _ => none

/-- May a value be laid into memory? -/
def okc : PV → Bool
  | .jk | .tu _ | .mp _ _ => false
  | _ => true

def splice (cs : List PV) (j : Nat) (vs : List PV) : List PV := cs.take j ++ vs ++ cs.drop (j + vs.length)

def elemsOf (σ : St) : PV → Option (List PV)
  | .em => some []
  | .sl xs => some xs
  | .ob o g es i n => match σ.m o g with
    | some x => if x.es = es ∧ i + n ≤ x.xs.length then some ((x.xs.drop i).take n) else none
    | none => none
  | _ => none

/-- What is appended. -/
def srcOf (σ : St) (es : Nat) (p : PV) : Option (List PV) := match p with
  | .sc (.string b) => if es = 1 then some (bytesPV b) else none
  | p => elemsOf σ p

/-- The element and the cell that a pointer leads to. -/
def deref (σ : St) : PV → Option (PV × Nat)
  | .fp xs i j => xs[i]?.map fun x => (x, j)
  | .bx o g es i j => match σ.m o g with
    | some x => if x.es = es then x.xs[i]?.map fun x => (x, j) else none
    | none => none
  | _ => none

def fillP : List PV → List (Nat × Nat × PV) → Option (List PV)
  | cs, [] => some cs
  | cs, (off, sz, x) :: r => if (cellsOf x).length = sz ∧ off + sz ≤ cs.length ∧ okc x = true then fillP (splice cs off (cellsOf x)) r else none

def fillE (es : Nat) : List PV → List (Nat × PV) → Option (List PV)
  | xs, [] => some xs
  | xs, (i, x) :: r => if (cellsOf x).length = es ∧ i < xs.length ∧ okc x = true then fillE es (xs.set i x) r else none

def mn1 (mx : Bool) : PV → PV → Option PV
  | .sc (.int k x), .sc (.int k' y) => if k = k' then some (.sc (.int k (if mx then (if y > x then y else x) else (if y < x then y else x)))) else none
  | _, _ => none

def mnmx (mx : Bool) : List PV → Option PV
  | [] => none
  | x :: r => r.foldlM (mn1 mx) x

def bound (n : Nat) : PV → Option Nat
  | .sc (.int _ i) => if 0 ≤ i ∧ i ≤ (n : Int) then some i.toNat else none
  | _ => none

def hiOf (n : Nat) (fr : Fr) : Option PA → Option Nat
  | some h => bound n (pa fr h)
  | none => some n

def loOf (h : Nat) (fr : Fr) : Option PA → Option Nat
  | some l => bound h (pa fr l)
  | none => some 0

def slcSP (fr : Fr) (x : PV) (lo hi : Option PA) : Option PV :=
  match x with
  | .sc (.string s) => (hiOf s.size fr hi).bind fun h => (loOf h fr lo).bind fun l => some (.sc (.string (s.extract l h)))
  | _ => none

def slcLP (es : Nat) (fr : Fr) (x : PV) (lo hi : Option PA) : Option PV :=
  match x with
  | .em => (hiOf 0 fr hi).bind fun h => (loOf h fr lo).bind fun _ => some .em
  | .sl xs => if xs.all (fun x => (cellsOf x).length == es) then (hiOf xs.length fr hi).bind fun h => (loOf h fr lo).bind fun l => some (.sl ((xs.take h).drop l)) else none
  | .ob o g es' i n => if es' = es then (hiOf n fr hi).bind fun h => (loOf h fr lo).bind fun l => some (.ob o g es (i + l) (h - l)) else none
  | _ => none

abbrev Ev := Nat → List PV → St → Option (PV × St)

/-- A call whose callee is handed values as they stand, and answers one as it stands. What it answers may lead to the caller's objects: then these are written no more (strict: then it has no value). -/
def pcall (E : Ev) (strict : Bool) (f : Nat) (args : List PV) (σ : St) : Option (PV × St) :=
  (args.mapM (fz σ dep)).bind fun as => (E f as St.nil).bind fun (r, σ') => (fz σ' dep r).bind fun r' => if flat r' || clL args then some (r', σ) else if strict then none else some (r', σ.lock)

def callE (E : Ev) (f : Nat) (md : Mode) (args : List PV) (σ : St) : Option (PV × St) :=
  match md with
  | .strict => pcall E true f args σ
  | .pure => pcall E false f args σ
  | .opn => E f args σ
  | .imp => none

/-- A call whose callee is handed values as they stand, and answers a row of its own that it has just made: it is the caller's then. -/
def icallE (E : Ev) (s : Nat) (f : Nat) (args : List PV) (σ : St) : Option (PV × St) :=
  (args.mapM (fz σ dep)).bind fun as => (E f as St.nil).bind fun q => match q.1 with
    | .em => some (.em, σ)
    | .ob o g es i n => (q.2.m o g).bind fun x => if x.es = es ∧ i = 0 ∧ n = x.xs.length ∧ x.al = true ∧ x.wr = true ∧ (flatL x.xs || (clL args && clL x.xs)) = true then some (.ob s (σ.c s) es 0 n, σ.new s x) else none
    | _ => none

/-- Is a value a key of a kind (1: numbers, 2: strings)? -/
def mkeyV : Nat → Value → Bool
  | 1, .int _ _ => true
  | 2, .string _ => true
  | _, _ => false

def same1 : Value → Value → Option Bool
  | .int k a, .int k' b => if k = k' then some (decide (a = b)) else none
  | .string a, .string b => some (decide (a = b))
  | _, _ => none

def mfind (k : Value) : List (Value × PV) → Option (Option PV)
  | [] => some none
  | (k', v) :: r => match same1 k k' with
    | some true => some (some v)
    | some false => mfind k r
    | none => none

def mset (k : Value) (v : PV) : List (Value × PV) → Option (List (Value × PV))
  | [] => some [(k, v)]
  | (k', v') :: r => match same1 k k' with
    | some true => some ((k, v) :: r)
    | some false => (mset k v r).map ((k', v') :: ·)
    | none => none

def mrem (k : Value) : List (Value × PV) → Option (List (Value × PV))
  | [] => some []
  | (k', v') :: r => match same1 k k' with
    | some true => some r
    | some false => (mrem k r).map ((k', v') :: ·)
    | none => none

/-- Structs of es cells, n of them, out of a row of cells. -/
def chunks (es n : Nat) (cs : List PV) : List PV := (List.range n).map fun k => .agg ((cs.drop (k * es)).take es)

def evO (E : Ev) (s : Nat) (fr : Fr) (σ : St) : PO → Option (PV × St)
  | .mv x => some (pa fr x, σ)
  | .pick c a b => match pa fr c with
    | .sc (.bool t) => some (if t then pa fr a else pa fr b, σ)
    | _ => none
  | .bin op x y => match pa fr x, pa fr y with
    | .sc a, .sc b => (pbin op a b).map fun v => (.sc v, σ)
    | _, _ => none
  | .eqs neg ks x y => match pa fr x, pa fr y with
    | .agg a, .agg b => (eqL ks a b).map fun v => (.sc (.bool (v != neg)), σ)
    | _, _ => none
  | .beq neg x y => match pa fr x, pa fr y with
    | .sc (.bool a), .sc (.bool b) => some (.sc (.bool ((a == b) != neg)), σ)
    | _, _ => none
  | .un op x => match pa fr x with
    | .sc a => (punary op a).map fun v => (.sc v, σ)
    | _ => none
  | .cvi k x => match pa fr x with
    | .sc (.int _ n) => some (.sc (.int k (k.wrap n)), σ)
    | _ => none
  | .str x => match pa fr x with
    | .sc (.string b) => some (.sc (.string b), σ)
    | _ => none
  | .s2b x => match pa fr x with
    | .sc (.string b) => some (.sl (bytesPV b), σ)
    | _ => none
  | .b2s x => (elemsOf σ (pa fr x)).bind fun xs => (xs.mapM byteOf).map fun l => (.sc (.string ⟨l.toArray⟩), σ)
  | .box x => if okc (pa fr x) then some (.bx (2000000 + s) (σ.c (2000000 + s)) (cellsOf (pa fr x)).length 0 0, σ.new (2000000 + s) ⟨(cellsOf (pa fr x)).length, [pa fr x], true, true⟩) else none
  | .bbx => some (.bx bldAt (σ.c bldAt) 2 0 0, σ.new bldAt ⟨2, [.agg [.sc (.pointer none), .sc (.slice none 0 0)]], true, true⟩)
  | .build z parts => (fillP (cellsOf (pv z)) (parts.map fun (o, n, x) => (o, n, pa fr x))).map fun cs => (.agg cs, σ)
  | .bsl es z n parts => (fillE es (List.replicate n (pv z)) (parts.map fun (i, x) => (i, pa fr x))).map fun xs => (.ob s (σ.c s) es 0 n, σ.new s ⟨es, xs, true, true⟩)
  | .ld sz a => (deref σ (pa fr a)).bind fun (x, j) => match sz with
    | none => (cellsOf x)[j]?.map fun p => (p, σ)
    | some n => if j + n ≤ (cellsOf x).length then some (.agg (((cellsOf x).drop j).take n), σ) else none
  | .st sz a x => match pa fr a with
    | .bx o g es i j => match σ.m o g with
      | some y => if y.es = es ∧ y.al = true ∧ y.wr = true ∧ (cellsOf (pa fr x)).length = sz ∧ j + sz ≤ es ∧ okc (pa fr x) = true ∧ i < y.xs.length then
          some (.jk, σ.put o g (some { y with xs := y.xs.modify i fun e => if sz = es then pa fr x else .agg (splice (cellsOf e) j (cellsOf (pa fr x))) })) else none
      | none => none
    | _ => none
  | .nck x => match pa fr x with
    | .bx o g es i j => some (.bx o g es i j, σ)
    | .fp xs i j => some (.fp xs i j, σ)
    | .fn f a b => some (.fn f a b, σ)
    | _ => none
  | .mkf f a b => some (.fn f (a.map (pa fr)) (b.map (pa fr)), σ)
  | .slcS x lo hi => (slcSP fr (pa fr x) lo hi).map fun r => (r, σ)
  | .slcL es x lo hi => (slcLP es fr (pa fr x) lo hi).map fun r => (r, σ)
  | .fa off x => match pa fr x with
    | .bx o g es i j => some (.bx o g es i (j + off), σ)
    | .fp xs i j => some (.fp xs i (j + off), σ)
    | _ => none
  | .fld off sz x => match pa fr x with
    | .agg cs => match sz with
      | none => cs[off]?.map fun p => (p, σ)
      | some n => if off + n ≤ cs.length then some (.agg ((cs.drop off).take n), σ) else none
    | _ => none
  | .ia es x i => match pa fr x, pa fr i with
    | .sl xs, .sc (.int _ n) => if 0 ≤ n ∧ n < xs.length then (match xs[n.toNat]? with | some e => if (cellsOf e).length = es then some (.fp xs n.toNat 0, σ) else none | none => none) else none
    | .ob o g es' b c, .sc (.int _ n) => if 0 ≤ n ∧ n < c ∧ es' = es then some (.bx o g es (b + n.toNat) 0, σ) else none
    | _, _ => none
  | .iaa es len x i => match pa fr x, pa fr i with
    | .bx o g e b j, .sc (.int _ n) => if 0 ≤ n ∧ n < len then some (.bx o g e b (j + n.toNat * es), σ) else none
    | .fp xs b j, .sc (.int _ n) => if 0 ≤ n ∧ n < len then some (.fp xs b (j + n.toNat * es), σ) else none
    | _, _ => none
  | .ix x i => match pa fr x, pa fr i with
    | .sc (.string b), .sc (.int _ n) => if 0 ≤ n then (b.data.toList[n.toNat]?).map fun u => (.sc (.int .u8 u.toNat), σ) else none
    | _, _ => none
  | .ixa es len sz x i => match pa fr x, pa fr i with
    | .agg cs, .sc (.int _ n) => if 0 ≤ n ∧ n < len then match sz with
        | none => cs[n.toNat * es]?.map fun p => (p, σ)
        | some k => if n.toNat * es + k ≤ cs.length then some (.agg ((cs.drop (n.toNat * es)).take k), σ) else none
      else none
    | _, _ => none
  | .ext x i => match pa fr x with
    | .tu vs => vs[i]?.map fun p => (p, σ)
    | _ => none
  | .lenS x => match pa fr x with
    | .sc (.string b) => some (.sc (.int .i64 b.size), σ)
    | _ => none
  | .lenL x => match pa fr x with
    | .em => some (.sc (.int .i64 0), σ)
    | .sc (.slice none 0 0) => some (.sc (.int .i64 0), σ)
    | .sl xs => some (.sc (.int .i64 xs.length), σ)
    | .ob _ _ _ _ n => some (.sc (.int .i64 n), σ)
    | _ => none
  | .mnmx mx xs => (mnmx mx (xs.map (pa fr))).map fun p => (p, σ)
  | .app es by_ kw s' x =>
    (srcOf σ es (pa fr x)).bind fun ys =>
    if ys.all (fun y => okc y && (cellsOf y).length == es) then
      match pa fr s' with
      | .em => if ys.length * by_ ≤ 70368744177664 then (if ys.isEmpty then some (.em, σ) else some (.ob s (σ.c s) es 0 ys.length, σ.new s ⟨es, ys, true, true⟩)) else none
      | .sc (.slice none 0 0) => if ys.length * by_ ≤ 70368744177664 then (if ys.isEmpty then some (.sc (.slice none 0 0), σ) else some (.ob s (σ.c s) es 0 ys.length, σ.new s ⟨es, ys, true, true⟩)) else none
      | .ob o g es' i n => match σ.m o g with
        | some y => if y.es = es ∧ es' = es ∧ i = 0 ∧ n = y.xs.length ∧ y.al = true ∧ (n + ys.length) * by_ ≤ 70368744177664 then
            some (.ob s (σ.c s) es 0 (n + ys.length), (σ.put o g (if kw then none else some { y with al := false, wr := false })).new s ⟨es, y.xs ++ ys, true, y.wr && kw⟩) else none
        | none => none
      | _ => none
    else none
  | .appb kw s' x =>
    (srcOf σ 1 (pa fr x)).bind fun ys =>
    if ys.all (fun y => okc y && (cellsOf y).length == 1) then
      match pa fr s' with
      | .sc (.slice none 0 0) => if ys.length * 1 ≤ 70368744177664 then (if ys.isEmpty then some (.sc (.slice none 0 0), σ) else some (.ob bufAt (σ.c bufAt) 1 0 ys.length, σ.new bufAt ⟨1, ys, true, true⟩)) else none
      | .ob o g es' i n => match σ.m o g with
        | some y => if o = bufAt ∧ y.es = 1 ∧ es' = 1 ∧ i = 0 ∧ n = y.xs.length ∧ y.al = true ∧ (n + ys.length) * 1 ≤ 70368744177664 then
            some (.ob bufAt (σ.c bufAt) 1 0 (n + ys.length), (σ.put o g (if kw then none else some { y with al := false, wr := false })).new bufAt ⟨1, y.xs ++ ys, true, y.wr && kw⟩) else none
        | none => none
      | _ => none
    else none
  | .msl es by_ z n c => match pa fr n, pa fr c with
    | .sc (.int _ a), .sc (.int _ b) => if 0 ≤ a ∧ a ≤ b ∧ b * by_ ≤ 70368744177664 ∧ b ≤ 70368744177664 ∧ okc (pv z) = true ∧ (cellsOf (pv z)).length = es then
        some (.ob s (σ.c s) es 0 a.toNat, σ.new s ⟨es, List.replicate a.toNat (pv z), true, true⟩) else none
    | _, _ => none
  | .clr es z x => match pa fr x with
    | .em => some (.tu [], σ)
    | .ob o g es' i n => match σ.m o g with
      | some y => if y.es = es ∧ es' = es ∧ y.al = true ∧ y.wr = true ∧ i + n ≤ y.xs.length then
          some (.tu [], σ.put o g (some { y with xs := y.xs.take i ++ List.replicate n (pv z) ++ y.xs.drop (i + n) })) else none
      | none => none
    | _ => none
  | .call f md args => callE E f md (args.map (pa fr)) σ
  | .icall f args => icallE E s f (args.map (pa fr)) σ
  | .callv f md args => match pa fr f with
    | .fn k a b => callE E k md (a ++ args.map (pa fr) ++ b) σ
    | _ => none
  | .slcA es n x => match pa fr x with
    | .bx o g e i j => match σ.m o g with
      | some y => match y.xs[i]? with
        | some c => if y.es = e ∧ j + n * es ≤ (cellsOf c).length ∧ 0 < n ∧ 0 < es ∧ clL (cellsOf c) = true then some (.sl (chunks es n ((cellsOf c).drop j)), σ.put o g (some { y with wr := false })) else none
        | none => none
      | none => none
    | _ => none
  | .mkm => some (.mp (mapAt + s) (σ.c (mapAt + s)), σ.newM (mapAt + s))
  | .mput kd m k v => match pa fr m, pa fr k with
    | .mp o g, .sc kv => if mkeyV kd kv = true then (σ.mm o g).bind fun l => (mset kv (pa fr v) l).map fun l' => (.jk, σ.putM o g l') else none
    | _, _ => none
  | .mget kd z ok m k => match pa fr m, pa fr k with
    | .mp o g, .sc kv => if mkeyV kd kv = true then (σ.mm o g).bind fun l => (mfind kv l).map fun r => (if ok then .tu [r.getD (pv z), .sc (.bool r.isSome)] else r.getD (pv z), σ) else none
    | _, _ => none
  | .mlen m => match pa fr m with
    | .mp o g => (σ.mm o g).bind fun l => if l.length ≤ 9223372036854775807 then some (.sc (.int .i64 l.length), σ) else none
    | _ => none
  | .mdel kd m k => match pa fr m, pa fr k with
    | .mp o g, .sc kv => if mkeyV kd kv = true then (σ.mm o g).bind fun l => (mrem kv l).map fun l' => (.tu [], σ.putM o g l') else none
    | _, _ => none
  | .mki t x => some (.ifc t (pa fr x), σ)
  | .tas t z ok x => match pa fr x with
    | .sc .nilIface => if ok then some (.tu [pv z, .sc (.bool false)], σ) else none
    | .ifc t' p => if t' = t then some (if ok then .tu [p, .sc (.bool true)] else p, σ) else if ok then some (.tu [pv z, .sc (.bool false)], σ) else none
    | _ => none
  | .inil neg x => match pa fr x with
    | .sc .nilIface => some (.sc (.bool (!neg)), σ)
    | .ifc _ _ => some (.sc (.bool neg), σ)
    | _ => none
  | .inv tbl md x args => match pa fr x with
    | .ifc t p => match tbl.lookup t with
      | some k => callE E k md (p :: args.map (pa fr)) σ
      | none => none
    | _ => none

/-- An operation whose guard does not hold is skipped, and yields nothing; so does one whose guard was skipped. -/
def stp (E : Ev) (o : POp) (fr : Fr) (σ : St) : Option (PV × St) :=
  match o.guard with
  | none => evO E (o.dst.getD 0) fr σ o.op
  | some (t, want) => match fr t with
    | .sc (.bool b) => if b = want then evO E (o.dst.getD 0) fr σ o.op else some (.tu [], σ)
    | .tu [] => some (.tu [], σ)
    | _ => none

def ev1 (E : Ev) (o : POp) (fr : Fr) (σ : St) : Option (Fr × St) := (stp E o fr σ).map fun (v, σ') => (fr.put o.dst v, σ')

def evOs (E : Ev) : List POp → Fr → St → Option (Fr × St)
  | [], fr, σ => some (fr, σ)
  | o :: r, fr, σ => (ev1 E o fr σ).bind fun (fr', σ') => evOs E r fr' σ'

def rounds (f : Fr → St → Option (X × Fr × St)) : Nat → Fr → St → Option (X × Fr × St)
  | 0, _, _ => none
  | k + 1, fr, σ => (f fr σ).bind fun
    | (.normal, fr', σ') => rounds f k fr' σ'
    | r => some r

open Classical in
/-- Of two orders of operations: what both come to. -/
noncomputable def evBoth (E : Ev) (a b : List POp) (fr : Fr) (σ : St) : Option (Fr × St) := (evOs E a fr σ).bind fun r => if evOs E b fr σ = some r then some r else none

theorem both_some {E : Ev} {a b : List POp} {fr : Fr} {σ : St} {r : Fr × St} : evBoth E a b fr σ = some r ↔ evOs E a fr σ = some r ∧ evOs E b fr σ = some r := by
  unfold evBoth
  constructor
  · intro h
    obtain ⟨q, hq, h⟩ := Option.bind_eq_some_iff.1 h
    split at h
    · rename_i hb
      simp only [Option.some.injEq] at h
      subst h
      exact ⟨hq, hb⟩
    · cases h
  · rintro ⟨h1, h2⟩
    rw [h1]
    simp only [Option.bind_some]
    rw [if_pos h2]

noncomputable def evC (E : Ev) (k : Nat) : PC → Fr → St → Option (X × Fr × St)
  | .skip, fr, σ => some (.normal, fr, σ)
  | .seq a b, fr, σ => (evC E k a fr σ).bind fun
    | (.normal, fr', σ') => evC E k b fr' σ'
    | r => some r
  | .cond c t e, fr, σ => match pa fr c with
    | .sc (.bool true) => evC E k t fr σ
    | .sc (.bool false) => evC E k e fr σ
    | _ => none
  | .block id b, fr, σ => (evC E k b fr σ).map fun
    | (.exit i, fr', σ') => (if i = id then .normal else .exit i, fr', σ')
    | r => r
  | .loop b, fr, σ => rounds (evC E k b) k fr σ
  | .exit id, fr, σ => some (.exit id, fr, σ)
  | .ret, fr, σ => some (.ret, fr, σ)
  | .rg _ ops, fr, σ => (evOs E ops fr σ).map fun (fr', σ') => (.normal, fr', σ')
  | .rg2 a b, fr, σ => (evBoth E a b fr σ).map fun (fr', σ') => (.normal, fr', σ')

inductive PR where
  | tmp (t : Nat)
  | cell (a : Nat) (sz : Option Nat)
  deriving Inhabited

inductive Def where
  | code (np : Nat) (res : List PR) (body : PC)
  | prim (f : List PV → St → Option (PV × St))

def frOf (args : List PV) : Fr := fun t => (args[t]?).getD .jk

def resOf (fr : Fr) (σ : St) : PR → Option PV
  | .tmp t => some (fr t)
  | .cell a sz => (deref σ (fr a)).bind fun (x, j) => match sz with
    | none => (cellsOf x)[j]?
    | some n => if j + n ≤ (cellsOf x).length then some (.agg (((cellsOf x).drop j).take n)) else none

def retOf (fr : Fr) (σ : St) (res : List PR) : Option PV :=
  (res.mapM (resOf fr σ)).map fun
    | [v] => v
    | vs => .tu vs

noncomputable def evF (env : Nat → Option Def) : Nat → Ev
  | 0 => fun _ _ _ => none
  | n + 1 => fun f args σ => match env f with
    | none => none
    | some (.prim p) => p args σ
    | some (.code np res body) => if args.length = np then
        (evC (evF env n) n body (frOf args) σ).bind fun
        | (.normal, fr, σ') | (.ret, fr, σ') => (retOf fr σ' res).map fun v => (v, σ')
        | _ => none
      else none

end Go.Proofs.YtcpgkdaicglogaaGreatDoorPv
