/-
Reasoning about what the evaluator comes to: weakest preconditions. No program in sight.
-/
import Derived.Test.YtcpgkdaicglogaaGreatDoorPvX
namespace Go.Proofs.YtcpgkdaicglogaaGreatDoorPv
open Go

section
variable {env : Nat → Option Def} {fr : Fr} {σ : St} {Q : X → Fr → St → Prop}

/-- Code ends, and then Q. -/
def Wp (env : Nat → Option Def) (pc : PC) (Q : X → Fr → St → Prop) (fr : Fr) (σ : St) : Prop := ∃ x fr' σ', EC env pc fr σ = some (x, fr', σ') ∧ Q x fr' σ'

/-- Operations end, and then K. -/
def Wos (env : Nat → Option Def) (ops : List POp) (K : Fr → St → Prop) (fr : Fr) (σ : St) : Prop := ∃ fr' σ', evOs (EV env) ops fr σ = some (fr', σ') ∧ K fr' σ'

theorem Wp.mono {Q' : X → Fr → St → Prop} {pc : PC} (h : Wp env pc Q fr σ) (hq : ∀ x fr σ, Q x fr σ → Q' x fr σ) : Wp env pc Q' fr σ :=
  let ⟨x, f, s, h1, h2⟩ := h; ⟨x, f, s, h1, hq _ _ _ h2⟩

theorem w_skip (h : Q .normal fr σ) : Wp env .skip Q fr σ := ⟨_, _, _, EC_skip, h⟩
theorem w_exit {id : Nat} (h : Q (.exit id) fr σ) : Wp env (.exit id) Q fr σ := ⟨_, _, _, EC_exit id, h⟩
theorem w_ret (h : Q .ret fr σ) : Wp env .ret Q fr σ := ⟨_, _, _, EC_ret, h⟩
theorem w_rg {d : Bool} {ops : List POp} (h : Wos env ops (Q .normal) fr σ) : Wp env (.rg d ops) Q fr σ :=
  let ⟨f, s, h1, h2⟩ := h; ⟨.normal, f, s, by rw [EC_rg, h1]; rfl, h2⟩

/-- Two orders: both come to the same. -/
theorem w_rg2 {a b : List POp} (fr1 : Fr) (σ1 : St) (h1 : Wos env a (fun f s => f = fr1 ∧ s = σ1) fr σ) (h2 : Wos env b (fun f s => f = fr1 ∧ s = σ1) fr σ) (hq : Q .normal fr1 σ1) : Wp env (.rg2 a b) Q fr σ := by
  obtain ⟨f, s, e1, rfl, rfl⟩ := h1
  obtain ⟨f', s', e2, rfl, rfl⟩ := h2
  exact ⟨.normal, _, _, by rw [EC_rg2, both_some.2 ⟨e1, e2⟩]; rfl, hq⟩

theorem w_seq {a b : PC} (h : Wp env a (fun x fr σ => match x with | .normal => Wp env b Q fr σ | x => Q x fr σ) fr σ) : Wp env (.seq a b) Q fr σ := by
  obtain ⟨x, f, s, h1, h2⟩ := h
  cases x with
  | normal =>
    obtain ⟨x, f', s', h3, h4⟩ := h2
    exact ⟨x, f', s', by rw [EC_seq, h1]; exact h3, h4⟩
  | exit id => exact ⟨.exit id, f, s, by rw [EC_seq, h1]; rfl, h2⟩
  | ret => exact ⟨.ret, f, s, by rw [EC_seq, h1]; rfl, h2⟩

theorem w_cond {c : PA} {t e : PC} {b : Bool} (hc : pa fr c = .sc (.bool b)) (h : if b = true then Wp env t Q fr σ else Wp env e Q fr σ) : Wp env (.cond c t e) Q fr σ := by
  cases b with
  | true => obtain ⟨x, f, s, h1, h2⟩ := (show Wp env t Q fr σ from h); exact ⟨x, f, s, by rw [EC_cond, hc]; exact h1, h2⟩
  | false => obtain ⟨x, f, s, h1, h2⟩ := (show Wp env e Q fr σ from h); exact ⟨x, f, s, by rw [EC_cond, hc]; exact h1, h2⟩

theorem w_block {id : Nat} {b : PC} (h : Wp env b (fun x fr σ => match x with | .exit i => if i = id then Q .normal fr σ else Q (.exit i) fr σ | x => Q x fr σ) fr σ) : Wp env (.block id b) Q fr σ := by
  obtain ⟨x, f, s, h1, h2⟩ := h
  cases x with
  | exit i =>
    refine ⟨if i = id then .normal else .exit i, f, s, by rw [EC_block, h1]; rfl, ?_⟩
    simp only at h2
    split at h2
    · rename_i hi; rw [if_pos hi]; exact h2
    · rename_i hi; rw [if_neg hi]; exact h2
  | normal => exact ⟨.normal, f, s, by rw [EC_block, h1]; rfl, h2⟩
  | ret => exact ⟨.ret, f, s, by rw [EC_block, h1]; rfl, h2⟩

/-- A loop, of which each round makes a number smaller. -/
theorem w_loop {b : PC} (I : Nat → Fr → St → Prop) (hI : ∀ n fr σ, I n fr σ → Wp env b (fun x fr' σ' => match x with | .normal => ∃ m, m < n ∧ I m fr' σ' | x => Q x fr' σ') fr σ) : ∀ n fr σ, I n fr σ → Wp env (.loop b) Q fr σ := by
  intro n
  induction n using Nat.strongRecOn with
  | _ n ih =>
    intro fr σ h
    obtain ⟨x, f, s, h1, h2⟩ := hI n fr σ h
    cases x with
    | normal =>
      obtain ⟨m, hm, h2⟩ := h2
      obtain ⟨x, f', s', h3, h4⟩ := ih m hm f s h2
      exact ⟨x, f', s', by rw [EC_loop, h1]; exact h3, h4⟩
    | exit id => exact ⟨.exit id, f, s, by rw [EC_loop, h1]; rfl, h2⟩
    | ret => exact ⟨.ret, f, s, by rw [EC_loop, h1]; rfl, h2⟩

theorem wo_nil {K : Fr → St → Prop} (h : K fr σ) : Wos env [] K fr σ := ⟨fr, σ, rfl, h⟩

theorem wo_cons {o : POp} {ops : List POp} {K : Fr → St → Prop} {v : PV} {σ' : St} (h1 : stp (EV env) o fr σ = some (v, σ')) (h2 : Wos env ops K (fr.put o.dst v) σ') : Wos env (o :: ops) K fr σ := by
  obtain ⟨f, s, h3, h4⟩ := h2
  exact ⟨f, s, by simp only [evOs, ev1, h1, Option.map_some, Option.bind_some]; exact h3, h4⟩

theorem w_condT {c : PA} {t e : PC} (hc : pa fr c = .sc (.bool true)) (h : Wp env t Q fr σ) : Wp env (.cond c t e) Q fr σ := w_cond hc (by rw [if_pos rfl]; exact h)
theorem w_condF {c : PA} {t e : PC} (hc : pa fr c = .sc (.bool false)) (h : Wp env e Q fr σ) : Wp env (.cond c t e) Q fr σ := w_cond hc (by rw [if_neg (by decide)]; exact h)

/-- A condition, of which it is known what it is. -/
def Wcd (env : Nat → Option Def) (b : Bool) (t e : PC) (Q : X → Fr → St → Prop) (fr : Fr) (σ : St) : Prop := if b = true then Wp env t Q fr σ else Wp env e Q fr σ
theorem w_condX {c : PA} {t e : PC} {b : Bool} (hc : pa fr c = .sc (.bool b)) (h : Wcd env b t e Q fr σ) : Wp env (.cond c t e) Q fr σ := w_cond hc h
theorem wcd_T {t e : PC} (h : Wp env t Q fr σ) : Wcd env true t e Q fr σ := h
theorem wcd_F {t e : PC} (h : Wp env e Q fr σ) : Wcd env false t e Q fr σ := h

/-- A comparison: both ways. -/
theorem wo_bin {d : Option Nat} {g : Option (Nat × Bool)} {op : BinOp} {x y : PA} {ops : List POp} {K : Fr → St → Prop} {b : Bool} {σ' : St} (h1 : stp (EV env) ⟨d, g, .bin op x y⟩ fr σ = some (.sc (.bool b), σ'))
    (ht : b = true → Wos env ops K (fr.put d (.sc (.bool true))) σ') (hf : b = false → Wos env ops K (fr.put d (.sc (.bool false))) σ') : Wos env (⟨d, g, .bin op x y⟩ :: ops) K fr σ := by
  cases b with
  | true => exact wo_cons h1 (ht rfl)
  | false => exact wo_cons h1 (hf rfl)

/-- What a function answers. -/
theorem EV_wp {f np : Nat} {res : List PR} {body : PC} {as : List PV} {r : PV} {σ' : St} (h : env f = some (.code np res body)) (hl : as.length = np)
    (hw : Wp env body (fun x fr τ => (x = .normal ∨ x = .ret) ∧ retOf fr τ res = some r ∧ τ = σ') (frOf as) σ) : EV env f as σ = some (r, σ') := by
  obtain ⟨x, fr', τ, h1, h2, h3, rfl⟩ := hw
  rw [EV_code h as hl, h1]
  rcases h2 with rfl | rfl <;> simp [backOf, h3]

/-- What a function answers, whatever it leaves behind. -/
theorem EV_wp' {f np : Nat} {res : List PR} {body : PC} {as : List PV} {R : PV → St → Prop} (h : env f = some (.code np res body)) (hl : as.length = np)
    (hw : Wp env body (fun x fr τ => (x = .normal ∨ x = .ret) ∧ ∃ r, retOf fr τ res = some r ∧ R r τ) (frOf as) σ) : ∃ r σ', EV env f as σ = some (r, σ') ∧ R r σ' := by
  obtain ⟨x, fr', τ, h1, h2, r, h3, h4⟩ := hw
  refine ⟨r, τ, ?_, h4⟩
  rw [EV_code h as hl, h1]
  rcases h2 with rfl | rfl <;> simp [backOf, h3]

/-- A call of values as they stand: of its answer only what it comes to. -/
def Ans (env : Nat → Option Def) (f : Nat) (as : List PV) (r : PV) : Prop := ∃ r0 σ', EV env f as St.nil = some (r0, σ') ∧ fz σ' dep r0 = some r

theorem Ans.of {f : Nat} {as : List PV} {r : PV} {σ' : St} (h : EV env f as St.nil = some (r, σ')) (_hf : flat r = true ∨ True) (hz : fz σ' dep r = some r) : Ans env f as r := ⟨r, σ', h, hz⟩

theorem pcall_ans {b : Bool} {f : Nat} {as as' : List PV} {r : PV} (h : Ans env f as' r) (ha : as.mapM (fz σ dep) = some as') (hr : flat r = true ∨ clL as = true) : pcall (EV env) b f as σ = some (r, σ) := by
  obtain ⟨r0, σ', h1, h2⟩ := h
  unfold pcall
  rw [ha]
  simp only [Option.bind_some, h1, h2]
  rw [if_pos (by rcases hr with h | h <;> simp [h])]

end

/-- A call that makes a row. -/
theorem icall_ob {env : Nat → Option Def} {s f o g : Nat} {args as : List PV} {x : Obj} {σ σ1 : St} (ha : args.mapM (fz σ dep) = some as) (h : EV env f as St.nil = some (.ob o g x.es 0 x.xs.length, σ1)) (hm : σ1.m o g = some x)
    (hal : x.al = true) (hwr : x.wr = true) (hf : (flatL x.xs || (clL args && clL x.xs)) = true) : icallE (EV env) s f args σ = some (.ob s (σ.c s) x.es 0 x.xs.length, σ.new s x) := by
  unfold icallE
  rw [ha, Option.bind_some, h, Option.bind_some]
  simp only [hm, Option.bind_some]
  rw [if_pos ⟨trivial, trivial, trivial, hal, hwr, hf⟩]

theorem icall_em {env : Nat → Option Def} {s f : Nat} {args as : List PV} {σ σ1 : St} (ha : args.mapM (fz σ dep) = some as) (h : EV env f as St.nil = some (.em, σ1)) : icallE (EV env) s f args σ = some (.em, σ) := by
  unfold icallE
  rw [ha, Option.bind_some, h, Option.bind_some]

theorem pa_t (fr : Fr) (n : Nat) : pa fr (.t n) = fr n := rfl
theorem pa_c (fr : Fr) (v : Value) : pa fr (.c v) = pv v := rfl
theorem pa_f (fr : Fr) (k : Nat) : pa fr (.f k) = .fn k [] [] := rfl
theorem e_slcA (E : Ev) (s : Nat) (fr : Fr) (σ : St) (es n : Nat) (x : PA) : evO E s fr σ (.slcA es n x) = (match pa fr x with
    | .bx o g e i j => match σ.m o g with
      | some y => match y.xs[i]? with
        | some c => if y.es = e ∧ j + n * es ≤ (cellsOf c).length ∧ 0 < n ∧ 0 < es ∧ clL (cellsOf c) = true then some (.sl (chunks es n ((cellsOf c).drop j)), σ.put o g (some { y with wr := false })) else none
        | none => none
      | none => none
    | _ => none) := rfl
theorem e_mkm (E : Ev) (s : Nat) (fr : Fr) (σ : St) : evO E s fr σ .mkm = some (.mp (mapAt + s) (σ.c (mapAt + s)), σ.newM (mapAt + s)) := rfl
theorem e_mput (E : Ev) (s : Nat) (fr : Fr) (σ : St) (kd : Nat) (m k v : PA) : evO E s fr σ (.mput kd m k v) = (match pa fr m, pa fr k with
    | .mp o g, .sc kv => if mkeyV kd kv = true then (σ.mm o g).bind fun l => (mset kv (pa fr v) l).map fun l' => (.jk, σ.putM o g l') else none
    | _, _ => none) := rfl
theorem e_mget (E : Ev) (s : Nat) (fr : Fr) (σ : St) (kd : Nat) (z : Value) (ok : Bool) (m k : PA) : evO E s fr σ (.mget kd z ok m k) = (match pa fr m, pa fr k with
    | .mp o g, .sc kv => if mkeyV kd kv = true then (σ.mm o g).bind fun l => (mfind kv l).map fun r => (if ok then .tu [r.getD (pv z), .sc (.bool r.isSome)] else r.getD (pv z), σ) else none
    | _, _ => none) := rfl
theorem e_mlen (E : Ev) (s : Nat) (fr : Fr) (σ : St) (m : PA) : evO E s fr σ (.mlen m) = (match pa fr m with
    | .mp o g => (σ.mm o g).bind fun l => if l.length ≤ 9223372036854775807 then some (.sc (.int .i64 l.length), σ) else none
    | _ => none) := rfl
theorem e_mdel (E : Ev) (s : Nat) (fr : Fr) (σ : St) (kd : Nat) (m k : PA) : evO E s fr σ (.mdel kd m k) = (match pa fr m, pa fr k with
    | .mp o g, .sc kv => if mkeyV kd kv = true then (σ.mm o g).bind fun l => (mrem kv l).map fun l' => (.tu [], σ.putM o g l') else none
    | _, _ => none) := rfl
theorem e_mki (E : Ev) (s : Nat) (fr : Fr) (σ : St) (t : Nat) (x : PA) : evO E s fr σ (.mki t x) = some (.ifc t (pa fr x), σ) := rfl
/-- What a type assertion comes to. -/
def tasP (t : Nat) (z : Value) (ok : Bool) : PV → Option PV
  | .sc .nilIface => if ok then some (.tu [pv z, .sc (.bool false)]) else none
  | .ifc t' p => if t' = t then some (if ok then .tu [p, .sc (.bool true)] else p) else if ok then some (.tu [pv z, .sc (.bool false)]) else none
  | _ => none
theorem tasP_nil (t : Nat) (z : Value) : tasP t z true (.sc .nilIface) = some (.tu [pv z, .sc (.bool false)]) := rfl
theorem tasP_ifc (t t' : Nat) (z : Value) (p : PV) : tasP t z true (.ifc t' p) = if t' = t then some (.tu [p, .sc (.bool true)]) else some (.tu [pv z, .sc (.bool false)]) := rfl
theorem tasP_ifc1 (t t' : Nat) (z : Value) (p : PV) : tasP t z false (.ifc t' p) = if t' = t then some p else none := rfl
theorem e_tas (E : Ev) (s : Nat) (fr : Fr) (σ : St) (t : Nat) (z : Value) (ok : Bool) (x : PA) : evO E s fr σ (.tas t z ok x) = (tasP t z ok (pa fr x)).map fun p => (p, σ) := by
  simp only [evO]
  generalize pa fr x = p
  cases p with
  | sc v =>
    cases v with
    | nilIface => cases ok <;> rfl
    | _ => rfl
  | ifc t' p =>
    simp only [tasP]
    by_cases h : t' = t
    · rw [if_pos h, if_pos h]; rfl
    · rw [if_neg h, if_neg h]; cases ok <;> rfl
  | _ => rfl
/-- Is it nil? -/
def inilP (neg : Bool) : PV → Option PV
  | .sc .nilIface => some (.sc (.bool (!neg)))
  | .ifc _ _ => some (.sc (.bool neg))
  | _ => none
theorem inilP_nil (neg : Bool) : inilP neg (.sc .nilIface) = some (.sc (.bool (!neg))) := rfl
theorem inilP_ifc (neg : Bool) (t : Nat) (p : PV) : inilP neg (.ifc t p) = some (.sc (.bool neg)) := rfl
theorem e_inil (E : Ev) (s : Nat) (fr : Fr) (σ : St) (neg : Bool) (x : PA) : evO E s fr σ (.inil neg x) = (inilP neg (pa fr x)).map fun p => (p, σ) := by
  simp only [evO]
  generalize pa fr x = p
  cases p with
  | sc v => cases v <;> rfl
  | _ => rfl
theorem e_inv (E : Ev) (s : Nat) (fr : Fr) (σ : St) (tbl : List (Nat × Nat)) (md : Mode) (x : PA) (args : List PA) : evO E s fr σ (.inv tbl md x args) = (match pa fr x with
    | .ifc t p => match tbl.lookup t with
      | some k => callE E k md (p :: args.map (pa fr)) σ
      | none => none
    | _ => none) := rfl
theorem mkeyV_1 (k : IntKind) (n : Int) : mkeyV 1 (.int k n) = true := rfl
theorem mkeyV_2 (b : ByteArray) : mkeyV 2 (.string b) = true := rfl
theorem mapAt_eq : mapAt = 4000000 := rfl
theorem e_mv (E : Ev) (s : Nat) (fr : Fr) (σ : St) (x : PA) : evO E s fr σ (.mv x) = (some (pa fr x, σ)) := rfl
theorem e_pick (E : Ev) (s : Nat) (fr : Fr) (σ : St) (c : PA) (a : PA) (b : PA) : evO E s fr σ (.pick c a b) = (match pa fr c with
    | .sc (.bool t) => some (if t then pa fr a else pa fr b, σ)
    | _ => none) := rfl
theorem e_bin (E : Ev) (s : Nat) (fr : Fr) (σ : St) (op : BinOp) (x : PA) (y : PA) : evO E s fr σ (.bin op x y) = (match pa fr x, pa fr y with
    | .sc a, .sc b => (pbin op a b).map fun v => (.sc v, σ)
    | _, _ => none) := rfl
theorem e_eqs (E : Ev) (s : Nat) (fr : Fr) (σ : St) (neg : Bool) (ks : List Nat) (x : PA) (y : PA) : evO E s fr σ (.eqs neg ks x y) = (match pa fr x, pa fr y with
    | .agg a, .agg b => (eqL ks a b).map fun v => (.sc (.bool (v != neg)), σ)
    | _, _ => none) := rfl
theorem e_beq (E : Ev) (s : Nat) (fr : Fr) (σ : St) (neg : Bool) (x : PA) (y : PA) : evO E s fr σ (.beq neg x y) = (match pa fr x, pa fr y with
    | .sc (.bool a), .sc (.bool b) => some (.sc (.bool ((a == b) != neg)), σ)
    | _, _ => none) := rfl
theorem e_un (E : Ev) (s : Nat) (fr : Fr) (σ : St) (op : UnOp) (x : PA) : evO E s fr σ (.un op x) = (match pa fr x with
    | .sc a => (punary op a).map fun v => (.sc v, σ)
    | _ => none) := rfl
theorem e_cvi (E : Ev) (s : Nat) (fr : Fr) (σ : St) (k : IntKind) (x : PA) : evO E s fr σ (.cvi k x) = (match pa fr x with
    | .sc (.int _ n) => some (.sc (.int k (k.wrap n)), σ)
    | _ => none) := rfl
theorem e_str (E : Ev) (s : Nat) (fr : Fr) (σ : St) (x : PA) : evO E s fr σ (.str x) = (match pa fr x with
    | .sc (.string b) => some (.sc (.string b), σ)
    | _ => none) := rfl
theorem e_s2b (E : Ev) (s : Nat) (fr : Fr) (σ : St) (x : PA) : evO E s fr σ (.s2b x) = (match pa fr x with
    | .sc (.string b) => some (.sl (bytesPV b), σ)
    | _ => none) := rfl
theorem e_b2s (E : Ev) (s : Nat) (fr : Fr) (σ : St) (x : PA) : evO E s fr σ (.b2s x) = ((elemsOf σ (pa fr x)).bind fun xs => (xs.mapM byteOf).map fun l => (.sc (.string ⟨l.toArray⟩), σ)) := rfl
theorem e_box (E : Ev) (s : Nat) (fr : Fr) (σ : St) (x : PA) : evO E s fr σ (.box x) = (if okc (pa fr x) then some (.bx (2000000 + s) (σ.c (2000000 + s)) (cellsOf (pa fr x)).length 0 0, σ.new (2000000 + s) ⟨(cellsOf (pa fr x)).length, [pa fr x], true, true⟩) else none) := rfl
theorem e_build (E : Ev) (s : Nat) (fr : Fr) (σ : St) (z : Value) (parts : List (Nat × Nat × PA)) : evO E s fr σ (.build z parts) = ((fillP (cellsOf (pv z)) (parts.map fun (o, n, x) => (o, n, pa fr x))).map fun cs => (.agg cs, σ)) := rfl
theorem e_bsl (E : Ev) (s : Nat) (fr : Fr) (σ : St) (es : Nat) (z : Value) (n : Nat) (parts : List (Nat × PA)) : evO E s fr σ (.bsl es z n parts) = ((fillE es (List.replicate n (pv z)) (parts.map fun (i, x) => (i, pa fr x))).map fun xs => (.ob s (σ.c s) es 0 n, σ.new s ⟨es, xs, true, true⟩)) := rfl
theorem e_ld (E : Ev) (s : Nat) (fr : Fr) (σ : St) (sz : Option Nat) (a : PA) : evO E s fr σ (.ld sz a) = ((deref σ (pa fr a)).bind fun (x, j) => match sz with
    | none => (cellsOf x)[j]?.map fun p => (p, σ)
    | some n => if j + n ≤ (cellsOf x).length then some (.agg (((cellsOf x).drop j).take n), σ) else none) := rfl
theorem e_st (E : Ev) (s : Nat) (fr : Fr) (σ : St) (sz : Nat) (a : PA) (x : PA) : evO E s fr σ (.st sz a x) = (match pa fr a with
    | .bx o g es i j => match σ.m o g with
      | some y => if y.es = es ∧ y.al = true ∧ y.wr = true ∧ (cellsOf (pa fr x)).length = sz ∧ j + sz ≤ es ∧ okc (pa fr x) = true ∧ i < y.xs.length then
          some (.jk, σ.put o g (some { y with xs := y.xs.modify i fun e => if sz = es then pa fr x else .agg (splice (cellsOf e) j (cellsOf (pa fr x))) })) else none
      | none => none
    | _ => none) := rfl
theorem e_nck (E : Ev) (s : Nat) (fr : Fr) (σ : St) (x : PA) : evO E s fr σ (.nck x) = (match pa fr x with
    | .bx o g es i j => some (.bx o g es i j, σ)
    | .fp xs i j => some (.fp xs i j, σ)
    | .fn f a b => some (.fn f a b, σ)
    | _ => none) := rfl
theorem e_mkf (E : Ev) (s : Nat) (fr : Fr) (σ : St) (f : Nat) (a : List PA) (b : List PA) : evO E s fr σ (.mkf f a b) = (some (.fn f (a.map (pa fr)) (b.map (pa fr)), σ)) := rfl
theorem e_slcS (E : Ev) (s : Nat) (fr : Fr) (σ : St) (x : PA) (lo : Option PA) (hi : Option PA) : evO E s fr σ (.slcS x lo hi) = ((slcSP fr (pa fr x) lo hi).map fun r => (r, σ)) := rfl
theorem e_slcL (E : Ev) (s : Nat) (fr : Fr) (σ : St) (es : Nat) (x : PA) (lo : Option PA) (hi : Option PA) : evO E s fr σ (.slcL es x lo hi) = ((slcLP es fr (pa fr x) lo hi).map fun r => (r, σ)) := rfl
theorem e_fa (E : Ev) (s : Nat) (fr : Fr) (σ : St) (off : Nat) (x : PA) : evO E s fr σ (.fa off x) = (match pa fr x with
    | .bx o g es i j => some (.bx o g es i (j + off), σ)
    | .fp xs i j => some (.fp xs i (j + off), σ)
    | _ => none) := rfl
theorem e_fld (E : Ev) (s : Nat) (fr : Fr) (σ : St) (off : Nat) (sz : Option Nat) (x : PA) : evO E s fr σ (.fld off sz x) = (match pa fr x with
    | .agg cs => match sz with
      | none => cs[off]?.map fun p => (p, σ)
      | some n => if off + n ≤ cs.length then some (.agg ((cs.drop off).take n), σ) else none
    | _ => none) := rfl
theorem e_ia (E : Ev) (s : Nat) (fr : Fr) (σ : St) (es : Nat) (x : PA) (i : PA) : evO E s fr σ (.ia es x i) = (match pa fr x, pa fr i with
    | .sl xs, .sc (.int _ n) => if 0 ≤ n ∧ n < xs.length then (match xs[n.toNat]? with | some e => if (cellsOf e).length = es then some (.fp xs n.toNat 0, σ) else none | none => none) else none
    | .ob o g es' b c, .sc (.int _ n) => if 0 ≤ n ∧ n < c ∧ es' = es then some (.bx o g es (b + n.toNat) 0, σ) else none
    | _, _ => none) := rfl
theorem e_iaa (E : Ev) (s : Nat) (fr : Fr) (σ : St) (es : Nat) (len : Nat) (x : PA) (i : PA) : evO E s fr σ (.iaa es len x i) = (match pa fr x, pa fr i with
    | .bx o g e b j, .sc (.int _ n) => if 0 ≤ n ∧ n < len then some (.bx o g e b (j + n.toNat * es), σ) else none
    | .fp xs b j, .sc (.int _ n) => if 0 ≤ n ∧ n < len then some (.fp xs b (j + n.toNat * es), σ) else none
    | _, _ => none) := rfl
theorem e_ix (E : Ev) (s : Nat) (fr : Fr) (σ : St) (x : PA) (i : PA) : evO E s fr σ (.ix x i) = (match pa fr x, pa fr i with
    | .sc (.string b), .sc (.int _ n) => if 0 ≤ n then (b.data.toList[n.toNat]?).map fun u => (.sc (.int .u8 u.toNat), σ) else none
    | _, _ => none) := rfl
theorem e_ixa (E : Ev) (s : Nat) (fr : Fr) (σ : St) (es : Nat) (len : Nat) (sz : Option Nat) (x : PA) (i : PA) : evO E s fr σ (.ixa es len sz x i) = (match pa fr x, pa fr i with
    | .agg cs, .sc (.int _ n) => if 0 ≤ n ∧ n < len then match sz with
        | none => cs[n.toNat * es]?.map fun p => (p, σ)
        | some k => if n.toNat * es + k ≤ cs.length then some (.agg ((cs.drop (n.toNat * es)).take k), σ) else none
      else none
    | _, _ => none) := rfl
theorem e_ext (E : Ev) (s : Nat) (fr : Fr) (σ : St) (x : PA) (i : Nat) : evO E s fr σ (.ext x i) = (match pa fr x with
    | .tu vs => vs[i]?.map fun p => (p, σ)
    | _ => none) := rfl
theorem e_lenS (E : Ev) (s : Nat) (fr : Fr) (σ : St) (x : PA) : evO E s fr σ (.lenS x) = (match pa fr x with
    | .sc (.string b) => some (.sc (.int .i64 b.size), σ)
    | _ => none) := rfl
def lenP : PV → Option Nat
  | .em => some 0
  | .sc (.slice none 0 0) => some 0
  | .sl xs => some xs.length
  | .ob _ _ _ _ n => some n
  | _ => none
theorem lenP_em : lenP .em = some 0 := rfl
theorem lenP_nil : lenP (.sc (.slice none 0 0)) = some 0 := rfl
theorem lenP_sl (xs : List PV) : lenP (.sl xs) = some xs.length := rfl
theorem lenP_ob (o g es i n : Nat) : lenP (.ob o g es i n) = some n := rfl
theorem e_lenL (E : Ev) (s : Nat) (fr : Fr) (σ : St) (x : PA) : evO E s fr σ (.lenL x) = (lenP (pa fr x)).map fun n => (.sc (.int .i64 n), σ) := by
  simp only [evO]
  generalize pa fr x = p
  cases p with
  | sc v =>
    cases v with
    | slice a n c => cases a <;> cases n <;> cases c <;> rfl
    | _ => rfl
  | _ => rfl
theorem e_mnmx (E : Ev) (s : Nat) (fr : Fr) (σ : St) (mx : Bool) (xs : List PA) : evO E s fr σ (.mnmx mx xs) = ((mnmx mx (xs.map (pa fr))).map fun p => (p, σ)) := rfl
theorem e_app (E : Ev) (s : Nat) (fr : Fr) (σ : St) (es : Nat) (by_ : Nat) (kw : Bool) (s' : PA) (x : PA) : evO E s fr σ (.app es by_ kw s' x) = (
    (srcOf σ es (pa fr x)).bind fun ys =>
    if ys.all (fun y => okc y && (cellsOf y).length == es) then
      match pa fr s' with
      | .em => if ys.length * by_ ≤ 70368744177664 then (if ys.isEmpty then some (.em, σ) else some (.ob s (σ.c s) es 0 ys.length, σ.new s ⟨es, ys, true, true⟩)) else none
      | .sc (.slice none 0 0) => if ys.length * by_ ≤ 70368744177664 then (if ys.isEmpty then some (.sc (.slice none 0 0), σ) else some (.ob s (σ.c s) es 0 ys.length, σ.new s ⟨es, ys, true, true⟩)) else none
      | .ob o g es' i n => match σ.m o g with
        | some y => if y.es = es ∧ es' = es ∧ i = 0 ∧ n = y.xs.length ∧ y.al = true ∧ (n + ys.length) * by_ ≤ 70368744177664 then
            some (.ob s (σ.c s) es 0 (n + ys.length), (σ.put o g (if kw then none else some { y with al := false, wr := false })).new s ⟨es, y.xs ++ ys, true, y.wr && kw⟩) else none
        | none => none
      | _ => none
    else none) := rfl
theorem e_appb (E : Ev) (s : Nat) (fr : Fr) (σ : St) (kw : Bool) (s' : PA) (x : PA) : evO E s fr σ (.appb kw s' x) = (
    (srcOf σ 1 (pa fr x)).bind fun ys =>
    if ys.all (fun y => okc y && (cellsOf y).length == 1) then
      match pa fr s' with
      | .sc (.slice none 0 0) => if ys.length * 1 ≤ 70368744177664 then (if ys.isEmpty then some (.sc (.slice none 0 0), σ) else some (.ob bufAt (σ.c bufAt) 1 0 ys.length, σ.new bufAt ⟨1, ys, true, true⟩)) else none
      | .ob o g es' i n => match σ.m o g with
        | some y => if o = bufAt ∧ y.es = 1 ∧ es' = 1 ∧ i = 0 ∧ n = y.xs.length ∧ y.al = true ∧ (n + ys.length) * 1 ≤ 70368744177664 then
            some (.ob bufAt (σ.c bufAt) 1 0 (n + ys.length), (σ.put o g (if kw then none else some { y with al := false, wr := false })).new bufAt ⟨1, y.xs ++ ys, true, y.wr && kw⟩) else none
        | none => none
      | _ => none
    else none) := rfl
theorem e_bbx (E : Ev) (s : Nat) (fr : Fr) (σ : St) : evO E s fr σ .bbx = some (.bx bldAt (σ.c bldAt) 2 0 0, σ.new bldAt ⟨2, [.agg [.sc (.pointer none), .sc (.slice none 0 0)]], true, true⟩) := rfl
theorem e_msl (E : Ev) (s : Nat) (fr : Fr) (σ : St) (es : Nat) (by_ : Nat) (z : Value) (n : PA) (c : PA) : evO E s fr σ (.msl es by_ z n c) = (match pa fr n, pa fr c with
    | .sc (.int _ a), .sc (.int _ b) => if 0 ≤ a ∧ a ≤ b ∧ b * by_ ≤ 70368744177664 ∧ b ≤ 70368744177664 ∧ okc (pv z) = true ∧ (cellsOf (pv z)).length = es then
        some (.ob s (σ.c s) es 0 a.toNat, σ.new s ⟨es, List.replicate a.toNat (pv z), true, true⟩) else none
    | _, _ => none) := rfl
theorem e_clr (E : Ev) (s : Nat) (fr : Fr) (σ : St) (es : Nat) (z : Value) (x : PA) : evO E s fr σ (.clr es z x) = (match pa fr x with
    | .em => some (.tu [], σ)
    | .ob o g es' i n => match σ.m o g with
      | some y => if y.es = es ∧ es' = es ∧ y.al = true ∧ y.wr = true ∧ i + n ≤ y.xs.length then
          some (.tu [], σ.put o g (some { y with xs := y.xs.take i ++ List.replicate n (pv z) ++ y.xs.drop (i + n) })) else none
      | none => none
    | _ => none) := rfl
theorem e_call (E : Ev) (s : Nat) (fr : Fr) (σ : St) (f : Nat) (md : Mode) (args : List PA) : evO E s fr σ (.call f md args) = (callE E f md (args.map (pa fr)) σ) := rfl
theorem e_icall (E : Ev) (s : Nat) (fr : Fr) (σ : St) (f : Nat) (args : List PA) : evO E s fr σ (.icall f args) = (icallE E s f (args.map (pa fr)) σ) := rfl
theorem e_callv (E : Ev) (s : Nat) (fr : Fr) (σ : St) (f : PA) (md : Mode) (args : List PA) : evO E s fr σ (.callv f md args) = (match pa fr f with
    | .fn k a b => callE E k md (a ++ args.map (pa fr) ++ b) σ
    | _ => none) := rfl

theorem slcSP_str (fr : Fr) (s : ByteArray) (lo hi : Option PA) : slcSP fr (.sc (.string s)) lo hi = (hiOf s.size fr hi).bind fun h => (loOf h fr lo).bind fun l => some (.sc (.string (s.extract l h))) := rfl
theorem hiOf_some (n : Nat) (fr : Fr) (h : PA) : hiOf n fr (some h) = bound n (pa fr h) := rfl
theorem hiOf_none (n : Nat) (fr : Fr) : hiOf n fr none = some n := rfl
theorem loOf_some (n : Nat) (fr : Fr) (h : PA) : loOf n fr (some h) = bound n (pa fr h) := rfl
theorem loOf_none (n : Nat) (fr : Fr) : loOf n fr none = some 0 := rfl
theorem bound_min {n m : Nat} {k : IntKind} {z : Int} (hz : z = m) : bound n (.sc (.int k (min (n : Int) z))) = some (min n m) := by
  subst hz
  have e : min (n : Int) (m : Int) = ((min n m : Nat) : Int) := by omega
  rw [e]
  simp only [bound]
  rw [if_pos (by omega)]
  rfl

theorem Fr.set_eq' (fr : Fr) (d : Nat) (v : PV) : (fr.set d v) d = v := by simp [Fr.set]
theorem Fr.set_ne' (fr : Fr) {d t : Nat} (v : PV) (h : t ≠ d) : (fr.set d v) t = fr t := by simp [Fr.set, h]

/-- A value that is there if something holds. -/
def opt (e : Bool) (v : PV) : PV := if e = true then v else .tu []

theorem opt_true (v : PV) : opt true v = v := rfl
theorem pick_and (b y : Bool) : (if b = true then opt b (.sc (.bool y)) else .sc (.bool false)) = .sc (.bool (b && y)) := by cases b <;> rfl
theorem pick_or (b y : Bool) : (if b = true then .sc (.bool true) else opt (!b) (.sc (.bool y))) = .sc (.bool (b || y)) := by cases b <;> rfl

section
variable {env : Nat → Option Def} {fr : Fr} {σ σ' : St} {K : Fr → St → Prop} {d t : Nat} {op : PO} {ops : List POp} {v : PV} {b c : Bool}

theorem s_plain (h1 : evO (EV env) d fr σ op = some (v, σ')) (h2 : Wos env ops K (fr.set d v) σ') : Wos env (⟨some d, none, op⟩ :: ops) K fr σ := wo_cons h1 h2
theorem s_void (h1 : evO (EV env) 0 fr σ op = some (v, σ')) (h2 : Wos env ops K fr σ') : Wos env (⟨none, none, op⟩ :: ops) K fr σ := wo_cons h1 h2

theorem s_goT (hg : fr t = .sc (.bool true)) (h1 : evO (EV env) d fr σ op = some (v, σ')) (h2 : Wos env ops K (fr.set d v) σ') : Wos env (⟨some d, some (t, true), op⟩ :: ops) K fr σ :=
  wo_cons (by simp only [stp, hg, if_true, Option.getD_some]; exact h1) h2
theorem s_goF (hg : fr t = .sc (.bool false)) (h1 : evO (EV env) d fr σ op = some (v, σ')) (h2 : Wos env ops K (fr.set d v) σ') : Wos env (⟨some d, some (t, false), op⟩ :: ops) K fr σ :=
  wo_cons (by simp only [stp, hg, if_true, Option.getD_some]; exact h1) h2
theorem s_skT (hg : fr t = .sc (.bool false)) (h2 : Wos env ops K (fr.set d (.tu [])) σ) : Wos env (⟨some d, some (t, true), op⟩ :: ops) K fr σ :=
  wo_cons (σ' := σ) (by simp only [stp, hg]; rfl) h2
theorem s_skF (hg : fr t = .sc (.bool true)) (h2 : Wos env ops K (fr.set d (.tu [])) σ) : Wos env (⟨some d, some (t, false), op⟩ :: ops) K fr σ :=
  wo_cons (σ' := σ) (by simp only [stp, hg]; rfl) h2
theorem s_skU {want : Bool} (hg : fr t = .tu []) (h2 : Wos env ops K (fr.set d (.tu [])) σ) : Wos env (⟨some d, some (t, want), op⟩ :: ops) K fr σ :=
  wo_cons (σ' := σ) (by simp only [stp, hg]) h2

theorem s_gT (hg : fr t = .sc (.bool b)) (h1 : b = true → evO (EV env) d fr σ op = some (v, σ)) (h2 : Wos env ops K (fr.set d (opt b v)) σ) : Wos env (⟨some d, some (t, true), op⟩ :: ops) K fr σ := by
  refine wo_cons (v := opt b v) (σ' := σ) ?_ h2
  simp only [stp, hg]
  cases b with
  | true => simp only [if_true, Option.getD_some]; exact h1 rfl
  | false => rfl

theorem s_gF (hg : fr t = .sc (.bool b)) (h1 : b = false → evO (EV env) d fr σ op = some (v, σ)) (h2 : Wos env ops K (fr.set d (opt (!b) v)) σ) : Wos env (⟨some d, some (t, false), op⟩ :: ops) K fr σ := by
  refine wo_cons (v := opt (!b) v) (σ' := σ) ?_ h2
  simp only [stp, hg]
  cases b with
  | false => simp only [if_true, Option.getD_some]; exact h1 rfl
  | true => rfl

theorem s_ggT (hg : fr t = opt c (.sc (.bool b))) (h1 : c = true → b = true → evO (EV env) d fr σ op = some (v, σ)) (h2 : Wos env ops K (fr.set d (opt (c && b) v)) σ) : Wos env (⟨some d, some (t, true), op⟩ :: ops) K fr σ := by
  refine wo_cons (v := opt (c && b) v) (σ' := σ) ?_ h2
  simp only [stp, hg]
  cases c with
  | true =>
    cases b with
    | true => simp only [opt, if_true, Option.getD_some, Bool.and_self]; exact h1 rfl rfl
    | false => rfl
  | false => rfl

theorem s_ggF (hg : fr t = opt c (.sc (.bool b))) (h1 : c = true → b = false → evO (EV env) d fr σ op = some (v, σ)) (h2 : Wos env ops K (fr.set d (opt (c && !b) v)) σ) : Wos env (⟨some d, some (t, false), op⟩ :: ops) K fr σ := by
  refine wo_cons (v := opt (c && !b) v) (σ' := σ) ?_ h2
  simp only [stp, hg]
  cases c with
  | true =>
    cases b with
    | false => simp only [opt, if_true, Option.getD_some, Bool.not_false, Bool.and_self]; exact h1 rfl rfl
    | true => rfl
  | false => rfl
/-- A guarded operation, of whose guard it is known what it is. -/
def Wgd (env : Nat → Option Def) (g : PV) (want : Bool) (d : Nat) (op : PO) (ops : List POp) (K : Fr → St → Prop) (t : Nat) (fr : Fr) (σ : St) : Prop := fr t = g → Wos env (⟨some d, some (t, want), op⟩ :: ops) K fr σ
theorem s_guard {g : PV} {want : Bool} (hg : fr t = g) (h : Wgd env g want d op ops K t fr σ) : Wos env (⟨some d, some (t, want), op⟩ :: ops) K fr σ := h hg
theorem g_goT (h1 : evO (EV env) d fr σ op = some (v, σ')) (h2 : Wos env ops K (fr.set d v) σ') : Wgd env (.sc (.bool true)) true d op ops K t fr σ := fun hg => s_goT hg h1 h2
theorem g_goF (h1 : evO (EV env) d fr σ op = some (v, σ')) (h2 : Wos env ops K (fr.set d v) σ') : Wgd env (.sc (.bool false)) false d op ops K t fr σ := fun hg => s_goF hg h1 h2
theorem g_skT (h2 : Wos env ops K (fr.set d (.tu [])) σ) : Wgd env (.sc (.bool false)) true d op ops K t fr σ := fun hg => s_skT hg h2
theorem g_skF (h2 : Wos env ops K (fr.set d (.tu [])) σ) : Wgd env (.sc (.bool true)) false d op ops K t fr σ := fun hg => s_skF hg h2
theorem g_skU {want : Bool} (h2 : Wos env ops K (fr.set d (.tu [])) σ) : Wgd env (.tu []) want d op ops K t fr σ := fun hg => s_skU hg h2
theorem g_T (h1 : b = true → evO (EV env) d fr σ op = some (v, σ)) (h2 : Wos env ops K (fr.set d (opt b v)) σ) : Wgd env (.sc (.bool b)) true d op ops K t fr σ := fun hg => s_gT hg h1 h2
theorem g_F (h1 : b = false → evO (EV env) d fr σ op = some (v, σ)) (h2 : Wos env ops K (fr.set d (opt (!b) v)) σ) : Wgd env (.sc (.bool b)) false d op ops K t fr σ := fun hg => s_gF hg h1 h2
theorem g_gT (h1 : c = true → b = true → evO (EV env) d fr σ op = some (v, σ)) (h2 : Wos env ops K (fr.set d (opt (c && b) v)) σ) : Wgd env (opt c (.sc (.bool b))) true d op ops K t fr σ := fun hg => s_ggT hg h1 h2
theorem g_gF (h1 : c = true → b = false → evO (EV env) d fr σ op = some (v, σ)) (h2 : Wos env ops K (fr.set d (opt (c && !b) v)) σ) : Wgd env (opt c (.sc (.bool b))) false d op ops K t fr σ := fun hg => s_ggF hg h1 h2
end
attribute [irreducible] Wgd

/-- What a call of values as they stand comes to, as it stands. -/
noncomputable def AV (env : Nat → Option Def) (f : Nat) (as : List PV) : Option PV := (EV env f as St.nil).bind fun q => fz q.2 dep q.1

theorem AV_of {env : Nat → Option Def} {f : Nat} {as : List PV} {r r' : PV} {σ : St} (h : EV env f as St.nil = some (r, σ)) (hz : fz σ dep r = some r') : AV env f as = some r' := by
  unfold AV; rw [h]; exact hz

theorem pcall_eq {env : Nat → Option Def} {b : Bool} {f : Nat} {as : List PV} {σ : St} : pcall (EV env) b f as σ =
    (as.mapM (fz σ dep)).bind fun as' => (AV env f as').bind fun r => if (flat r || clL as) = true then some (r, σ) else if b = true then none else some (r, σ.lock) := by
  unfold pcall AV
  congr 1
  funext as'
  cases h : EV env f as' St.nil with
  | none => rfl
  | some q => obtain ⟨r, τ⟩ := q; rfl

/-- The answer of a function. -/
theorem AV_wp {env : Nat → Option Def} {f np : Nat} {res : List PR} {body : PC} {as : List PV} {r : PV} (h : env f = some (.code np res body)) (hl : as.length = np)
    (hw : Wp env body (fun x fr τ => (x = .normal ∨ x = .ret) ∧ (retOf fr τ res).bind (fz τ dep) = some r) (frOf as) St.nil) : AV env f as = some r := by
  obtain ⟨x, fr', τ, h1, h2, h3⟩ := hw
  obtain ⟨r0, h4, h5⟩ := Option.bind_eq_some_iff.1 h3
  refine AV_of (r := r0) (σ := τ) ?_ h5
  rw [EV_code h as hl, h1]
  rcases h2 with rfl | rfl <;> simp [backOf, h4]

theorem fz_sc (σ : St) (d : Nat) (v : Value) : fz σ (d + 1) (.sc v) = some (.sc v) := rfl
theorem fz_sl (σ : St) (d : Nat) (v : List PV) : fz σ (d + 1) (.sl v) = some (.sl v) := rfl
theorem fz_em (σ : St) (d : Nat) : fz σ (d + 1) .em = some (.sl []) := rfl
theorem fz_fp (σ : St) (d : Nat) (v : List PV) (i j : Nat) : fz σ (d + 1) (.fp v i j) = some (.fp v i j) := rfl
theorem fz_agg (σ : St) (d : Nat) (cs : List PV) : fz σ (d + 1) (.agg cs) = (cs.mapM (fz σ d)).map .agg := rfl
theorem fz_tu (σ : St) (d : Nat) (cs : List PV) : fz σ (d + 1) (.tu cs) = (cs.mapM (fz σ d)).map .tu := rfl
theorem fz_fn (σ : St) (d f : Nat) (a b : List PV) : fz σ (d + 1) (.fn f a b) = (a.mapM (fz σ d)).bind fun a' => (b.mapM (fz σ d)).map fun b' => .fn f a' b' := rfl
theorem fz_ob (σ : St) (d o g es i n : Nat) : fz σ (d + 1) (.ob o g es i n) = match σ.m o g with
      | some x => if x.es = es ∧ i + n ≤ x.xs.length then (((x.xs.drop i).take n).mapM (fz σ d)).map .sl else none
      | none => none := rfl
theorem fz_bx (σ : St) (d o g es i j : Nat) : fz σ (d + 1) (.bx o g es i j) = match σ.m o g with
      | some x => if x.es = es ∧ i < x.xs.length ∧ j < es then (x.xs.mapM (fz σ d)).map fun l => .fp l i j else none
      | none => none := rfl
theorem okc_sc (v : Value) : okc (.sc v) = true := rfl
theorem okc_em : okc .em = true := rfl
theorem okc_sl (v : List PV) : okc (.sl v) = true := rfl
theorem okc_ob (o g es i n : Nat) : okc (.ob o g es i n) = true := rfl
theorem okc_bx (o g es i n : Nat) : okc (.bx o g es i n) = true := rfl
theorem okc_fp (v : List PV) (i n : Nat) : okc (.fp v i n) = true := rfl
theorem okc_fn (f : Nat) (a b : List PV) : okc (.fn f a b) = true := rfl
theorem okc_agg (cs : List PV) : okc (.agg cs) = true := rfl
theorem okc_ifc (t : Nat) (v : PV) : okc (.ifc t v) = true := rfl
theorem cells_agg (cs : List PV) : cellsOf (.agg cs) = cs := rfl
theorem cells_sc (v : Value) : cellsOf (.sc v) = [.sc v] := rfl
theorem cells_sl (v : List PV) : cellsOf (.sl v) = [.sl v] := rfl
theorem cells_em : cellsOf .em = [.em] := rfl
theorem cells_ob (o g es i n : Nat) : cellsOf (.ob o g es i n) = [.ob o g es i n] := rfl
theorem cells_bx (o g es i n : Nat) : cellsOf (.bx o g es i n) = [.bx o g es i n] := rfl
theorem cells_fp (v : List PV) (i n : Nat) : cellsOf (.fp v i n) = [.fp v i n] := rfl
theorem cells_fn (f : Nat) (a b : List PV) : cellsOf (.fn f a b) = [.fn f a b] := rfl
theorem dep_eq : dep = 12 := rfl
theorem mapM_nil' {α β : Type} (f : α → Option β) : List.mapM f [] = some [] := rfl
theorem mapM_cons' {α β : Type} (f : α → Option β) (x : α) (l : List α) : List.mapM f (x :: l) = (f x).bind fun y => (List.mapM f l).bind fun r => some (y :: r) := by simp [List.mapM_cons]
theorem new_m (σ : St) (s o g : Nat) (x : Obj) : (σ.new s x).m o g = if o = s ∧ g = σ.c s then some x else σ.m o g := rfl
theorem new_c (σ : St) (s o : Nat) (x : Obj) : (σ.new s x).c o = if o = s then σ.c s + 1 else σ.c o := rfl
theorem put_m (σ : St) (s k o g : Nat) (x : Option Obj) : (σ.put s k x).m o g = if o = s ∧ g = k then x else σ.m o g := rfl
theorem put_c (σ : St) (s k o : Nat) (x : Option Obj) : (σ.put s k x).c o = σ.c o := rfl
theorem nil_m (o g : Nat) : St.nil.m o g = none := rfl
theorem nil_c (o : Nat) : St.nil.c o = 0 := rfl
theorem nil_mm (o g : Nat) : St.nil.mm o g = none := rfl
theorem new_mm (σ : St) (s o g : Nat) (x : Obj) : (σ.new s x).mm o g = σ.mm o g := rfl
theorem put_mm (σ : St) (s k o g : Nat) (x : Option Obj) : (σ.put s k x).mm o g = σ.mm o g := rfl
theorem newM_m (σ : St) (s o g : Nat) : (σ.newM s).m o g = σ.m o g := rfl
theorem newM_c (σ : St) (s o : Nat) : (σ.newM s).c o = if o = s then σ.c s + 1 else σ.c o := rfl
theorem newM_mm (σ : St) (s o g : Nat) : (σ.newM s).mm o g = if o = s ∧ g = σ.c s then some [] else σ.mm o g := rfl
theorem putM_m (σ : St) (s k o g : Nat) (x : List (Value × PV)) : (σ.putM s k x).m o g = σ.m o g := rfl
theorem putM_c (σ : St) (s k o : Nat) (x : List (Value × PV)) : (σ.putM s k x).c o = σ.c o := rfl
theorem putM_mm (σ : St) (s k o g : Nat) (x : List (Value × PV)) : (σ.putM s k x).mm o g = if o = s ∧ g = k then some x else σ.mm o g := rfl

/-- A range loop: 'for ti := range n'. -/
theorem w_range {env : Nat → Option Def} {id : Nat} {tc ti tn tk : Nat} {body : PC} {Q : X → Fr → St → Prop} (n : Nat) (hn : n ≤ 9223372036854775807) (J : Nat → Fr → St → Prop) (hd : tc ≠ ti ∧ tc ≠ tn ∧ tk ≠ ti ∧ tk ≠ tn ∧ ti ≠ tn)
    (hs : ∀ i fr σ v, J i fr σ → J i (fr.set tc v) σ ∧ J i (fr.set tk v) σ ∧ J i (fr.set ti v) σ)
    (hb : ∀ i fr σ, i < n → J i fr σ → fr ti = .sc (.int .i64 i) → fr tn = .sc (.int .i64 n) → Wp env body (fun x fr' σ' => match x with | .normal => J (i + 1) fr' σ' ∧ fr' ti = .sc (.int .i64 i) ∧ fr' tn = .sc (.int .i64 n) | x => Q x fr' σ') fr σ)
    (he : ∀ fr σ, J n fr σ → Q (.exit id) fr σ) : ∀ fr σ, J 0 fr σ → fr ti = .sc (.int .i64 0) → fr tn = .sc (.int .i64 n) →
    Wp env (.loop (.seq (.rg false [⟨some tc, none, .bin .lss (.t ti) (.t tn)⟩]) (.seq (.cond (.t tc) .skip (.exit id)) (.seq body (.rg false [⟨some tk, none, .bin .add (.t ti) (.c (.int .i64 1))⟩, ⟨some ti, none, .mv (.t tk)⟩]))))) Q fr σ := by
  obtain ⟨d1, d2, d3, d4, d5⟩ := hd
  intro fr σ h0 hi0 hn0
  refine w_loop (fun m fr σ => ∃ i, m = n - i ∧ i ≤ n ∧ J i fr σ ∧ fr ti = .sc (.int .i64 i) ∧ fr tn = .sc (.int .i64 n)) ?_ n fr σ ⟨0, rfl, Nat.zero_le _, h0, hi0, hn0⟩
  rintro m fr σ ⟨i, rfl, hi, hJ, hti, htn⟩
  refine w_seq (w_rg (s_plain (v := .sc (.bool (decide ((i : Int) < n)))) (σ' := σ) (by simp only [evO, pa, hti, htn, pbin, if_true, Option.map_some]) (wo_nil ?_)))
  have hJ1 := (hs i fr σ (.sc (.bool (decide ((i : Int) < n)))) hJ).1
  have hti1 : (fr.set tc (.sc (.bool (decide ((i : Int) < n))))) ti = .sc (.int .i64 i) := by rw [Fr.set_ne' fr _ (Ne.symm d1)]; exact hti
  have htn1 : (fr.set tc (.sc (.bool (decide ((i : Int) < n))))) tn = .sc (.int .i64 n) := by rw [Fr.set_ne' fr _ (Ne.symm d2)]; exact htn
  by_cases hlt : i < n
  · have hlt' : decide ((i : Int) < n) = true := by simp; omega
    rw [hlt'] at hJ1 hti1 htn1 ⊢
    refine w_seq (w_condT (by simp only [pa, Fr.set_eq']) (w_skip ?_))
    refine w_seq ((hb i _ σ hlt hJ1 hti1 htn1).mono ?_)
    intro x fr' σ' hq
    cases x with
    | normal =>
      obtain ⟨g1, g2, g3⟩ := hq
      have hw : IntKind.i64.wrap ((i : Int) + 1) = ((i + 1 : Nat) : Int) := by
        rw [IntKind.wrap_i64]; omega
      refine w_rg (s_plain (v := .sc (.int .i64 ((i + 1 : Nat) : Int))) (σ' := σ') (by simp only [evO, pa, pv, pv1, simple, g2, pbin, if_true, Option.map_some, hw]) ?_)
      refine s_plain (v := .sc (.int .i64 ((i + 1 : Nat) : Int))) (σ' := σ') (by simp only [evO, pa, Fr.set_eq']) (wo_nil ?_)
      refine ⟨n - (i + 1), by omega, i + 1, rfl, hlt, ?_, Fr.set_eq' _ _ _, ?_⟩
      · exact (hs (i + 1) _ σ' _ (hs (i + 1) fr' σ' (.sc (.int .i64 ((i + 1 : Nat) : Int))) g1).2.1).2.2
      · rw [Fr.set_ne' _ _ (Ne.symm d5), Fr.set_ne' _ _ (Ne.symm d4)]; exact g3
    | exit id => exact hq
    | ret => exact hq
  · have hlt' : decide ((i : Int) < n) = false := by simp; omega
    rw [hlt'] at hJ1 ⊢
    have : i = n := by omega
    subst this
    exact w_seq (w_condF (by simp only [pa, Fr.set_eq']) (w_exit (he _ σ hJ1)))

section
variable {env : Nat → Option Def} {fr : Fr} {σ : St} {Q : X → Fr → St → Prop}
theorem w_loop_step {b : PC} (h : Wp env b (fun x fr' σ' => match x with | .normal => Wp env (.loop b) Q fr' σ' | x => Q x fr' σ') fr σ) : Wp env (.loop b) Q fr σ := by
  obtain ⟨x, f, s, h1, h2⟩ := h
  cases x with
  | normal =>
    obtain ⟨x, f', s', h3, h4⟩ := h2
    exact ⟨x, f', s', by rw [EC_loop, h1]; exact h3, h4⟩
  | exit id => exact ⟨.exit id, f, s, by rw [EC_loop, h1]; rfl, h2⟩
  | ret => exact ⟨.ret, f, s, by rw [EC_loop, h1]; rfl, h2⟩

theorem w_gen {pc : PC} {J : Fr → St → Prop} (h : J fr σ) (h2 : ∀ fr σ, J fr σ → Wp env pc Q fr σ) : Wp env pc Q fr σ := h2 _ _ h

end

theorem set_eq (fr : Fr) (d : Nat) (v : PV) : (fr.set d v) d = v := by simp [Fr.set]
theorem set_ne (fr : Fr) {d t : Nat} (v : PV) (h : t ≠ d) : (fr.set d v) t = fr t := by simp [Fr.set, h]
theorem put_some (fr : Fr) (d : Nat) (v : PV) : fr.put (some d) v = fr.set d v := rfl
theorem put_none (fr : Fr) (v : PV) : fr.put none v = fr := rfl

theorem frOf_0 (a : PV) (l : List PV) : frOf (a :: l) 0 = a := rfl
theorem frOf_1 (a b : PV) (l : List PV) : frOf (a :: b :: l) 1 = b := rfl
theorem frOf_2 (a b c : PV) (l : List PV) : frOf (a :: b :: c :: l) 2 = c := rfl
theorem frOf_3 (a b c d : PV) (l : List PV) : frOf (a :: b :: c :: d :: l) 3 = d := rfl
theorem frOf_4 (a b c d e : PV) (l : List PV) : frOf (a :: b :: c :: d :: e :: l) 4 = e := rfl
theorem frOf_5 (a b c d e f : PV) (l : List PV) : frOf (a :: b :: c :: d :: e :: f :: l) 5 = f := rfl

end Go.Proofs.YtcpgkdaicglogaaGreatDoorPv
