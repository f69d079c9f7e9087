/-
Each operation of the model does what the evaluator tells: operations that leave memory alone.
-/
import Derived.Test.YtcpgkdaicglogaaGreatDoorPvD
import Derived.Laws.Entries
import Derived.Laws.StructEq
import Derived.ChangeKeysEq
namespace Go.Proofs.YtcpgkdaicglogaaGreatDoorPv
open Go Go.RowKit

/-- What lies in a temporary behind an operation. -/
def nextVal : Next → Option Value
  | .value v => some v
  | .skip => some undef
  | _ => none

theorem list_of {α : Type} {n : Nat} {p : Nat → α → Prop} (h : ∀ j, j < n → ∃ u, p j u) : ∃ us : List α, us.length = n ∧ ∀ j u, us[j]? = some u → p j u := by
  induction n with
  | zero => exact ⟨[], rfl, fun j u h => by simp at h⟩
  | succ n ih =>
    obtain ⟨us, h1, h2⟩ := ih fun j hj => h j (by omega)
    obtain ⟨u, hu⟩ := h n (by omega)
    refine ⟨us ++ [u], by simp [h1], fun j v hj => ?_⟩
    by_cases hlt : j < us.length
    · rw [List.getElem?_append_left hlt] at hj; exact h2 j v hj
    · rw [List.getElem?_append_right (by omega)] at hj
      have : j = n := by
        have := (List.getElem?_eq_some_iff.1 hj).1
        simp at this; omega
      subst this
      simp [h1] at hj
      exact hj ▸ hu

section
variable {km : Km} {P : Program} {A : Ann} {cx : Cx km} {K : Nat → Nat → Option Nat} {σ : St} {w : World}

theorem Rep.inv_sc {L : Addr → Option Value} {S : Addr → Prop} {v u : Value} (h : Rep km L S K v (.sc u)) : v = u ∧ simple u = true := by
  cases h with
  | sc _ h => exact ⟨rfl, h⟩

theorem rep_const1 {L : Addr → Option Value} {S : Addr → Prop} {v : Value} (h : const1 v = true) : Rep km L S K v (pv1 v) ∧ v.oneCell' = true := by
  unfold const1 at h
  split at h
  · exact ⟨.em none, rfl⟩
  · rename_i hne
    have h1 : pv1 v = .sc v := by
      unfold pv1
      split
      · exact absurd rfl (hne)
      · simp [simple] at h
      · rw [if_pos h]
    rw [h1]
    exact ⟨.sc v h, by cases v <;> first | rfl | simp [simple] at h⟩

theorem rep_pv {L : Addr → Option Value} {S : Addr → Prop} {v : Value} (h : constOk v = true) : Rep km L S K v (pv v) := by
  unfold constOk at h
  split at h
  · rename_i cs
    have ha : ∀ (i : Nat) u, cs.toList[i]? = some u → const1 u = true := fun i u hu => by
      have := List.all_eq_true.1 h u (List.mem_of_getElem? hu)
      exact this
    have := Rep.agg (km := km) (L := L) (S := S) (K := K) cs.toList (cs.toList.map pv1) (by simp) (fun u hu => by
        obtain ⟨i, hi⟩ := List.getElem?_of_mem hu
        exact (rep_const1 (km := km) (L := L) (S := S) (K := K) (ha i u hi)).2)
      (fun i u p hu hp => by
        rw [List.getElem?_map, hu] at hp
        simp at hp
        subst hp
        exact (rep_const1 (ha i u hu)).1)
    simpa [pv] using this
  · rename_i hne
    have : pv v = pv1 v := by
      unfold pv
      split
      · rename_i cs; exact absurd rfl (hne cs)
      · rfl
    rw [this]
    exact (rep_const1 h).1

/-- The frame stands for what is told of it. -/
def FrR (km : Km) (cx : Cx km) (K : Nat → Nat → Option Nat) (σ : St) (w : World) (tmps : Array Value) (fr : Fr) : Prop := ∀ t, RepS km cx K σ w (tmps.getD t undef) (fr t)

structure LinkOk (km : Km) (A : Ann) : Prop where
  fn : ∀ f k, A.rk f = some k → km k = f
  bt : km.bt = A.bt
  bb : ∀ t, A.bb = some t → km.bb = t

theorem opnd_rep {a : Act} {fr : Fr} (hA : LinkOk km A) (hf : FrR km cx K σ w a.tmps fr) {x : Operand} {x' : PA} (h : opnd A x = some x') : RepS km cx K σ w (a.eval x) (pa fr x') := by
  cases x with
  | tmp t => simp only [opnd, Option.some.injEq] at h; subst h; exact hf t
  | const v =>
    simp only [opnd] at h
    split at h
    · rename_i hc
      simp only [Option.some.injEq] at h
      subst h
      rw [Bool.or_eq_true] at hc
      rcases hc with hc | hc
      · exact rep_pv hc
      · unfold nilMap at hc
        split at hc
        · exact .jk _
        · cases hc
    · cases h
  | func f =>
    simp only [opnd, Option.map_eq_some_iff] at h
    obtain ⟨k, hk, rfl⟩ := h
    have := Rep.fn (km := km) (L := w.cell?) (S := Stab cx K σ w) (K := K) k [] [] [] [] rfl rfl (fun i v p h => by simp at h) (fun i v p h => by simp at h)
    rw [hA.fn f k hk] at this
    exact this
  | global g => simp [opnd] at h

theorem opnds_rep {a : Act} {fr : Fr} (hA : LinkOk km A) (hf : FrR km cx K σ w a.tmps fr) {xs : List Operand} {xs' : List PA} (h : xs.mapM (opnd A) = some xs') :
    (xs.map a.eval).length = (xs'.map (pa fr)).length ∧ ∀ (i : Nat) v p, (xs.map a.eval)[i]? = some v → (xs'.map (pa fr))[i]? = some p → RepS km cx K σ w v p := by
  induction xs generalizing xs' with
  | nil => simp at h; subst h; exact ⟨rfl, fun i v p hv => by simp at hv⟩
  | cons x r ih =>
    simp only [List.mapM_cons, Option.bind_eq_bind, Option.bind_eq_some_iff] at h
    obtain ⟨x', hx, r', hr, h⟩ := h
    simp at h
    subst h
    obtain ⟨h1, h2⟩ := ih hr
    refine ⟨by simpa using h1, fun i v p hv hp => ?_⟩
    cases i with
    | zero => simp at hv hp; subst hv hp; exact opnd_rep hA hf hx
    | succ i => exact h2 i v p (by simpa using hv) (by simpa using hp)

theorem run_info {t : TypeId} {i : TypeInfo} (h : P.info? t = some i) : (typeInfo t).run P w = .ok i w := by simp [typeInfo, h]

theorem sizeB_of {t : TypeId} {i : TypeInfo} (h : P.info? t = some i) : sizeB P t = some i.size := by simp [sizeB, h]

theorem run_size {t : TypeId} {n : Nat} (h : sizeB P t = some n) : (sizeOf t).run P w = .ok n w := by
  unfold sizeB at h
  obtain ⟨i, hi, rfl⟩ := Option.map_eq_some_iff.1 h
  simp [sizeOf, run_info hi]

theorem run_zero {t : TypeId} {z : Value} (h : zeroB P t = some z) : (zeroValue t).run P w = .ok z w := by
  unfold zeroB at h
  obtain ⟨i, hi, hz⟩ := Option.bind_eq_some_iff.1 h
  simp [zeroValue, run_info hi, hz]

theorem run_agg {t : TypeId} {b : Bool} (h : aggB P t = some b) : (isAgg t).run P w = .ok b w := by
  unfold aggB at h
  unfold isAgg
  split at h <;> simp_all [run_underlying]

theorem loadB_some {t : TypeId} {s : Option Nat} (h : loadB P t = some s) : (s = none ∧ aggB P t = some false) ∨ ∃ n, s = some n ∧ aggB P t = some true ∧ sizeB P t = some n := by
  unfold loadB at h
  obtain ⟨b, hb, h⟩ := Option.bind_eq_some_iff.1 h
  cases b with
  | false => simp at h; exact .inl ⟨h.symm, hb⟩
  | true =>
    simp at h
    obtain ⟨n, hn, rfl⟩ := h
    exact .inr ⟨n, rfl, hb, hn⟩

/-- The operation ends, and what it leaves is what is told. -/
def OpDone (km : Km) (P : Program) (cx : Cx km) (K : Nat → Nat → Option Nat) (σ : St) (w : World) (o : Oper) (a : Act) (r : PV) (σ' : St) : Prop :=
  ∃ res v w' K', (execOp a.eval o).run P w = .ok res w' ∧ nextVal res = some v ∧ RepS km cx K' σ' w' v r ∧ Inv km cx K' σ' w' ∧ Ext cx K σ w K' σ' w'

theorem OpDone.val {o : Oper} {a : Act} {r : PV} {v : Value} (hi : Inv km cx K σ w) (hr : (execOp a.eval o).run P w = .ok (.value v) w) (h : RepS km cx K σ w v r) : OpDone km P cx K σ w o a r σ :=
  ⟨_, v, w, K, hr, rfl, h, hi, Ext.refl⟩

theorem Rep.inv_bool {L : Addr → Option Value} {S : Addr → Prop} {v : Value} {b : Bool} (h : Rep km L S K v (.sc (.bool b))) : v = .bool b := h.inv_sc.1

theorem pbin_run {op : BinOp} {u v r : Value} (h : pbin op u v = some r) (t : TypeId) (x y : Operand) :
    ((do eqGuard op t x y u v; binOp op t u v : Sem Value)).run P w = .ok r w ∧ simple r = true := by
  unfold pbin at h
  split at h
  · rename_i k a k' b
    have hg : (eqGuard op t x y (.int k a) (.int k' b)).run P w = .ok () w := by cases op <;> simp [eqGuard]
    simp only [Sem.run_bind, hg, Result.andThen_ok]
    split at h
    · split at h
      · cases h
      · rename_i hb; simp only [Option.some.injEq] at h; subst h
        exact ⟨by simp [binOp, Op.shift, hb], rfl⟩
    · split at h
      · cases h
      · rename_i hb; simp only [Option.some.injEq] at h; subst h
        exact ⟨by simp [binOp, Op.shift, hb], rfl⟩
    · split at h
      · rename_i hk
        subst hk
        split at h <;> first
          | (simp only [Option.some.injEq] at h; subst h; exact ⟨by simp [binOp, Op.intArith, Op.intBits, Op.intCmp], rfl⟩)
          | (split at h
             · cases h
             · rename_i hb; simp only [Option.some.injEq] at h; subst h
               exact ⟨by simp [binOp, Op.intDiv, hb], rfl⟩)
          | cases h
      · cases h
  · rename_i a b
    have hg : (eqGuard op t x y (.string a) (.string b)).run P w = .ok () w := by cases op <;> simp [eqGuard]
    simp only [Sem.run_bind, hg, Result.andThen_ok]
    split at h <;> first
      | (simp only [Option.some.injEq] at h; subst h; exact ⟨by simp [binOp, Op.stringOp], rfl⟩)
      | (split at h
         · rename_i hb; simp only [Option.some.injEq] at h; subst h
           refine ⟨?_, rfl⟩
           have hb' : ¬ (((a.size + b.size : Nat) : Int) > IntKind.i64.max) := by show ¬ (_ > (9223372036854775807 : Int)); omega
           simp only [binOp, Op.stringOp, if_neg hb', Sem.run_pure]
         · cases h)
      | cases h
  · cases h

theorem punary_run {op : UnOp} {u r : Value} (h : punary op u = some r) : (Op.unary op u).run P w = .ok r w ∧ simple r = true := by
  unfold punary at h
  split at h
  · split at h
    · simp only [Option.some.injEq] at h; subst h; exact ⟨by simp [Op.unary, Op.intArith], rfl⟩
    · cases h
  · split at h
    · simp only [Option.some.injEq] at h; subst h; exact ⟨by simp [Op.unary], rfl⟩
    · cases h
  · cases h

theorem kindT_eq1 {d : Nat} {t : TypeId} {q : Nat} {p p' : PV} {b : Bool} {u v : Value} {L : Addr → Option Value} {S : Addr → Prop} (hk : kindT P t = some q) (h : eq1 q p p' = some b) (hu : Rep km L S K u p) (hv : Rep km L S K v p') :
    (Op.equalIn (d + 1) t u v).run P w = .ok b w ∧ aggB P t = some false := by
  unfold kindT at hk
  unfold eq1 at h
  split at h
  · simp only [Option.some.injEq] at h
    obtain ⟨rfl, _⟩ := hu.inv_sc
    obtain ⟨rfl, _⟩ := hv.inv_sc
    split at hk <;> simp at hk
    rename_i ht
    rw [← h]
    exact ⟨run_equalIn_bool' w d t _ _ ht, by simp [aggB, ht]⟩
  · split at h
    · rename_i hkk
      subst hkk
      simp only [Option.some.injEq] at h
      obtain ⟨rfl, _⟩ := hu.inv_sc
      obtain ⟨rfl, _⟩ := hv.inv_sc
      split at hk <;> simp at hk
      rename_i kk ht
      rw [← h]
      exact ⟨run_equalIn_int w d t _ kk _ _ ht, by simp [aggB, ht]⟩
    · cases h
  · simp only [Option.some.injEq] at h
    obtain ⟨rfl, _⟩ := hu.inv_sc
    obtain ⟨rfl, _⟩ := hv.inv_sc
    split at hk <;> simp at hk
    rename_i ht
    rw [← h]
    exact ⟨run_equalIn_string w d t _ _ ht, by simp [aggB, ht]⟩
  · cases h

theorem run_part1 {t : TypeId} {xs : Array Value} {off : Nat} {v : Value} (ht : aggB P t = some false) (h : xs[off]? = some v) : (part t xs off).run P w = .ok v w := by
  simp [part, run_agg ht, h]

theorem eqL_run {d : Nat} {us vs : List Value} {L : Addr → Option Value} {S : Addr → Prop} : ∀ (fs : List Field) (k : Nat) (ks : List Nat) (ps qs : List PV) (b : Bool), plainFields P k fs = some ks → eqL ks ps qs = some b →
    (∀ (i : Nat) p, ps[i]? = some p → ∃ u, us[k + i]? = some u ∧ Rep km L S K u p) → (∀ (i : Nat) p, qs[i]? = some p → ∃ u, vs[k + i]? = some u ∧ Rep km L S K u p) →
    (Op.eqFields (d + 1) us.toArray vs.toArray fs).run P w = .ok b w
  | [], k, ks, ps, qs, b, h1, h2, _, _ => by
    simp [plainFields] at h1
    subst h1
    simp [eqL] at h2
    subst h2
    simp [Op.eqFields]
  | f :: fs, k, ks, ps, qs, b, h1, h2, hp, hq => by
    simp only [plainFields] at h1
    split at h1
    · rename_i hf
      obtain ⟨ho, hn⟩ := hf
      obtain ⟨q, hk, h1⟩ := Option.bind_eq_some_iff.1 h1
      obtain ⟨l, hl, rfl⟩ := Option.map_eq_some_iff.1 h1
      cases ps with
      | nil => simp [eqL] at h2
      | cons p ps =>
        cases qs with
        | nil => simp [eqL] at h2
        | cons p' qs =>
          simp only [eqL] at h2
          obtain ⟨c, hc, h2⟩ := Option.bind_eq_some_iff.1 h2
          obtain ⟨u, hu, ru⟩ := hp 0 p rfl
          obtain ⟨v, hv, rv⟩ := hq 0 p' rfl
          obtain ⟨he, ha⟩ := kindT_eq1 (w := w) (d := d) hk hc ru rv
          simp only [Nat.add_zero] at hu hv
          have e1 : (part f.type us.toArray f.offset).run P w = .ok u w := run_part1 ha (by simpa [ho] using hu)
          have e2 : (part f.type vs.toArray f.offset).run P w = .ok v w := run_part1 ha (by simpa [ho] using hv)
          simp only [Op.eqFields, ne_eq, hn, not_false_eq_true, if_true, Sem.run_bind, e1, e2, he, Result.andThen_ok]
          cases c with
          | false => simp at h2; subst h2; simp
          | true =>
            simp at h2
            simp only [Bool.not_true, Bool.false_eq_true, if_false]
            exact eqL_run fs (k + 1) l ps qs b hl h2 (fun i p h => by
              obtain ⟨u, h1, h2⟩ := hp (i + 1) p (by simpa using h)
              exact ⟨u, by rw [show k + 1 + i = k + (i + 1) by omega]; exact h1, h2⟩) (fun i p h => by
              obtain ⟨u, h1, h2⟩ := hq (i + 1) p (by simpa using h)
              exact ⟨u, by rw [show k + 1 + i = k + (i + 1) by omega]; exact h1, h2⟩)
    · cases h1

theorem Rep.inv_agg {L : Addr → Option Value} {S : Addr → Prop} {v : Value} {ps : List PV} (h : Rep km L S K v (.agg ps)) : ∃ cs : List Value, v = .agg cs.toArray ∧ cs.length = ps.length ∧ (∀ v ∈ cs, v.oneCell' = true) ∧ ∀ (i : Nat) v p, cs[i]? = some v → ps[i]? = some p → Rep km L S K v p := by
  cases h with
  | agg cs ps h1 h2 h3 => exact ⟨cs, rfl, h1, h2, h3⟩

theorem agg_get {L : Addr → Option Value} {S : Addr → Prop} {cs : List Value} {ps : List PV} (h1 : cs.length = ps.length) (h3 : ∀ (i : Nat) v p, cs[i]? = some v → ps[i]? = some p → Rep km L S K v p) {i : Nat} {p : PV} (hp : ps[i]? = some p) : ∃ u, cs[i]? = some u ∧ Rep km L S K u p := by
  have hlt : i < cs.length := by rw [h1]; exact (List.getElem?_eq_some_iff.1 hp).1
  exact ⟨cs[i], List.getElem?_eq_getElem hlt, h3 i _ _ (List.getElem?_eq_getElem hlt) hp⟩

theorem eqI_run {d : Nat} {us vs : List Value} {L : Addr → Option Value} {S : Addr → Prop} {e : TypeId} {q : Nat} (hk : kindT P e = some q) : ∀ (m k : Nat) (ps qs : List PV) (b : Bool), eqL (List.replicate m q) ps qs = some b →
    (∀ (i : Nat) p, ps[i]? = some p → ∃ u, us[k + i]? = some u ∧ Rep km L S K u p) → (∀ (i : Nat) p, qs[i]? = some p → ∃ u, vs[k + i]? = some u ∧ Rep km L S K u p) →
    (Op.eqItems (d + 1) e 1 us.toArray vs.toArray (List.range' k m)).run P w = .ok b w
  | 0, k, ps, qs, b, h2, _, _ => by
    simp [eqL] at h2
    subst h2
    simp [Op.eqItems]
  | m + 1, k, ps, qs, b, h2, hp, hq => by
    cases ps with
    | nil => simp [List.replicate_succ, eqL] at h2
    | cons p ps =>
      cases qs with
      | nil => simp [List.replicate_succ, eqL] at h2
      | cons p' qs =>
        simp only [List.replicate_succ, eqL] at h2
        obtain ⟨c, hc, h2⟩ := Option.bind_eq_some_iff.1 h2
        obtain ⟨u, hu, ru⟩ := hp 0 p rfl
        obtain ⟨v, hv, rv⟩ := hq 0 p' rfl
        obtain ⟨he, ha⟩ := kindT_eq1 (w := w) (d := d) hk hc ru rv
        simp only [Nat.add_zero] at hu hv
        have e1 : (part e us.toArray (k * 1)).run P w = .ok u w := run_part1 ha (by simpa using hu)
        have e2 : (part e vs.toArray (k * 1)).run P w = .ok v w := run_part1 ha (by simpa using hv)
        simp only [List.range'_succ, Op.eqItems, Sem.run_bind, e1, e2, he, Result.andThen_ok]
        cases c with
        | false => simp at h2; subst h2; simp
        | true =>
          simp at h2
          simp only [Bool.not_true, Bool.false_eq_true, if_false]
          exact eqI_run hk m (k + 1) ps qs b h2 (fun i p h => by
            obtain ⟨u, h1, h2⟩ := hp (i + 1) p (by simpa using h)
            exact ⟨u, by rw [show k + 1 + i = k + (i + 1) by omega]; exact h1, h2⟩) (fun i p h => by
            obtain ⟨u, h1, h2⟩ := hq (i + 1) p (by simpa using h)
            exact ⟨u, by rw [show k + 1 + i = k + (i + 1) by omega]; exact h1, h2⟩)

theorem eqa_run {neg : Bool} {t e : TypeId} {n q : Nat} {u v : Value} {ps qs : List PV} {b : Bool} (ht : P.underlying t = some (.array n e)) (hk : kindT P e = some q) (hi : (P.info? e).isSome = true) (hc1 : P.cellsOf e = 1) (hg : P.eqGuardType P.depth t = false)
    (hu : RepS km cx K σ w u (.agg ps)) (hv : RepS km cx K σ w v (.agg qs)) (h : eqL (List.replicate n q) ps qs = some b) (x y : Operand) :
    ((do eqGuard (if neg then .neq else .eql) t x y u v; binOp (if neg then .neq else .eql) t u v : Sem Value)).run P w = .ok (.bool (b != neg)) w := by
  obtain ⟨us, rfl, l1, _, r1⟩ := hu.inv_agg
  obtain ⟨vs, rfl, l2, _, r2⟩ := hv.inv_agg
  obtain ⟨ie, hie⟩ := Option.isSome_iff_exists.1 hi
  have he : (Op.equalIn (9999 + 1) t (.agg us.toArray) (.agg vs.toArray)).run P w = .ok b w := by
    rw [run_equalIn_array w 9999 us.toArray vs.toArray ht hie, hc1, List.range_eq_range']
    exact eqI_run (d := 9998) hk n 0 ps qs b h (fun i p hp => by simpa using agg_get l1 r1 hp) (fun i p hp => by simpa using agg_get l2 r2 hp)
  have he' : (Op.equalIn 10000 t (.agg us.toArray) (.agg vs.toArray)).run P w = .ok b w := he
  cases neg
  · simp only [Bool.false_eq_true, if_false, Sem.run_bind, run_eqGuard_agg w .eql t x y _ _ hg, Result.andThen_ok, run_eql_struct, he']
    simp
  · simp only [if_true, Sem.run_bind, run_eqGuard_agg w .neq t x y _ _ hg, Result.andThen_ok, run_neq_struct, he']
    simp

theorem eqs_run {neg : Bool} {t : TypeId} {fs : Array Field} {ks : List Nat} {u v : Value} {ps qs : List PV} {b : Bool} (ht : P.underlying t = some (.struct fs)) (hk : plainFields P 0 fs.toList = some ks) (hs : P.stoodInHeld t = false) (hg : P.eqGuardType P.depth t = false)
    (hu : RepS km cx K σ w u (.agg ps)) (hv : RepS km cx K σ w v (.agg qs)) (h : eqL ks ps qs = some b) (x y : Operand) :
    ((do eqGuard (if neg then .neq else .eql) t x y u v; binOp (if neg then .neq else .eql) t u v : Sem Value)).run P w = .ok (.bool (b != neg)) w := by
  obtain ⟨us, rfl, l1, _, r1⟩ := hu.inv_agg
  obtain ⟨vs, rfl, l2, _, r2⟩ := hv.inv_agg
  have hf : P.fieldsOf t = fs := by simp [Program.fieldsOf, ht]
  have he : (Op.equalIn (9999 + 1) t (.agg us.toArray) (.agg vs.toArray)).run P w = .ok b w := by
    rw [run_equalIn_struct w 9999 t us.toArray vs.toArray (by rw [hf]; exact ht) hs, hf]
    exact eqL_run (d := 9998) fs.toList 0 ks ps qs b hk h (fun i p hp => by simpa using agg_get l1 r1 hp) (fun i p hp => by simpa using agg_get l2 r2 hp)
  have he' : (Op.equalIn 10000 t (.agg us.toArray) (.agg vs.toArray)).run P w = .ok b w := he
  cases neg
  · simp only [Bool.false_eq_true, if_false, Sem.run_bind, run_eqGuard_agg w .eql t x y _ _ hg, Result.andThen_ok, run_eql_struct, he']
    simp
  · simp only [if_true, Sem.run_bind, run_eqGuard_agg w .neq t x y _ _ hg, Result.andThen_ok, run_neq_struct, he']
    simp

end
end Go.Proofs.YtcpgkdaicglogaaGreatDoorPv
