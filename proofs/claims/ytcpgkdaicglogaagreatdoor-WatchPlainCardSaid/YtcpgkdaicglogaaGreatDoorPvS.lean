/-
Regions.
-/
import Derived.Test.YtcpgkdaicglogaaGreatDoorPvR
import Derived.Orders
namespace Go.Proofs.YtcpgkdaicglogaaGreatDoorPv
open Go Go.RowKit

section
variable {km : Km} {P : Program} {A : Ann} {cx : Cx km} {K : Nat → Nat → Option Nat} {σ σ' : St} {w : World} {E : Ev} {s : Nat} {fr : Fr} {a : Act} {o : Oper} {po : PO} {r : PV} {nt : Nat} {D : List Deferred} {ops : Array Oper} {Q : Exit → Act → World → Prop}

/-- Frame and memory stand for what is told of them. -/
structure Ok (km : Km) (cx : Cx km) (nt : Nat) (D : List Deferred) (K : Nat → Nat → Option Nat) (fr : Fr) (σ : St) (a : Act) (w : World) : Prop where
  fr : FrR km cx K σ w a.tmps fr
  inv : Inv km cx K σ w
  size : nt ≤ a.tmps.size
  dfs : a.defers = D

/-- What follows holds, whatever the memory that stands for what is told. -/
def Then (km : Km) (cx : Cx km) (nt : Nat) (D : List Deferred) (K : Nat → Nat → Option Nat) (σ : St) (w : World) (fr' : Fr) (σ' : St) (Q : Act → World → Prop) : Prop :=
  ∀ a' w' K', Ok km cx nt D K' fr' σ' a' w' → Ext cx K σ w K' σ' w' → Q a' w'

theorem FrR.put {tmps : Array Value} {d : Option Nat} {v : Value} {p : PV} (hf : FrR km cx K σ w tmps fr) (hr : RepS km cx K σ w v p) (hd : ∀ t, d = some t → t < tmps.size) :
    FrR km cx K σ w ((({ tmps, defers := [] } : Act).put d v).tmps) (fr.put d p) := by
  cases d with
  | none => exact hf
  | some d =>
    intro t
    simp only [Act.put, Fr.put, Fr.set]
    have hlt := hd d rfl
    by_cases ht : t = d
    · subst ht
      rw [if_pos rfl]
      simp [hlt]; exact hr
    · rw [if_neg ht]
      have := hf t
      rwa [show (tmps.setIfInBounds d v).getD t undef = tmps.getD t undef by simp [Array.getElem?_setIfInBounds_ne (Ne.symm ht)]]

theorem FrR.ext {tmps : Array Value} {K' : Nat → Nat → Option Nat} {σ' : St} {w' : World} (hf : FrR km cx K σ w tmps fr) (hx : Ext cx K σ w K' σ' w') : FrR km cx K' σ' w' tmps fr := fun t => hx.rep (hf t)

theorem put_size (a : Act) (d : Option Nat) (v : Value) : (a.put d v).tmps.size = a.tmps.size := by cases d <;> simp [Act.put]
theorem put_defers (a : Act) (d : Option Nat) (v : Value) : (a.put d v).defers = a.defers := by cases d <;> rfl
theorem put_tmps (a : Act) (d : Option Nat) (v : Value) : (a.put d v).tmps = (({ tmps := a.tmps, defers := [] } : Act).put d v).tmps := by cases d <;> rfl

theorem Ok.put {K' : Nat → Nat → Option Nat} {w' : World} {v : Value} {p : PV} {d : Option Nat} (h : Ok km cx nt D K fr σ a w) (hx : Ext cx K σ w K' σ' w') (hi : Inv km cx K' σ' w') (hr : RepS km cx K' σ' w' v p) (hd : ∀ t, d = some t → t < nt) :
    Ok km cx nt D K' (fr.put d p) σ' (a.put d v) w' :=
  ⟨by rw [put_tmps]; exact (h.fr.ext hx).put hr fun t ht => Nat.lt_of_lt_of_le (hd t ht) h.size, hi, by rw [put_size]; exact h.size, by rw [put_defers]; exact h.dfs⟩

theorem compOp_inv {o : Oper} {p : POp} (h : compOp P A nt ops o = some p) : p.dst = o.dst ∧ (∀ t, o.dst = some t → t < nt ∧ Plain t) ∧ compO P A o = some p.op ∧
    ((o.guard = none ∧ p.guard = none) ∨ ∃ j want d, o.guard = some (j, want) ∧ (ops[j]?).bind (·.dst) = some d ∧ p.guard = some (d, want)) := by
  unfold compOp at h
  have key : ∀ {b : Bool}, (if b = true then (match o.guard with
      | none => some none
      | some (j, w) => match (ops[j]?).bind (·.dst) with
        | some d => some (some (d, w))
        | none => none).bind (fun g => (compO P A o).map fun q => (⟨o.dst, g, q⟩ : POp)) else none) = some p → b = true ∧ p.dst = o.dst ∧ compO P A o = some p.op ∧
    ((o.guard = none ∧ p.guard = none) ∨ ∃ j want d, o.guard = some (j, want) ∧ (ops[j]?).bind (·.dst) = some d ∧ p.guard = some (d, want)) := by
    intro b h
    split at h
    · rename_i hb
      refine ⟨hb, ?_⟩
      obtain ⟨g, hg, h⟩ := Option.bind_eq_some_iff.1 h
      obtain ⟨q, hq, rfl⟩ := Option.map_eq_some_iff.1 h
      refine ⟨rfl, hq, ?_⟩
      split at hg
      · rename_i hn
        simp only [Option.some.injEq] at hg
        exact .inl ⟨hn, hg.symm⟩
      · rename_i j w hs
        split at hg
        · rename_i d hd
          simp only [Option.some.injEq] at hg
          exact .inr ⟨j, w, d, hs, hd, hg.symm⟩
        · cases hg
    · cases h
  obtain ⟨h1, h2, h3, h4⟩ := key h
  refine ⟨h2, fun t ht => ?_, h3, h4⟩
  rw [ht] at h1
  simp only [Bool.and_eq_true, decide_eq_true_eq] at h1
  exact h1

theorem getD_bool {tmps : Array Value} {d : Nat} {b : Bool} (h : tmps.getD d undef = .bool b) : tmps[d]? = some (.bool b) := by
  rw [Array.getD_eq_getD_getElem?] at h
  cases hd : tmps[d]? with
  | none => rw [hd] at h; cases h
  | some v => rw [hd] at h; simp at h; rw [h]

/-- One operation, guarded or not. -/
theorem op1 (hE : SoundE km P E) (hA : LinkOk km A) {i : Nat} {o : Oper} {p : POp} {fr1 : Fr} {σ1 : St} {next : Act → World → Prop} (h : Ok km cx nt D K fr σ a w) (ho : ops[i]? = some o) (hc : compOp P A nt ops o = some p)
    (he : ev1 E p fr σ = some (fr1, σ1)) (hn : Then km cx nt D K σ w fr1 σ1 next) : wpOp P ops Q i next a w := by
  obtain ⟨h1, h2, h3, h4⟩ := compOp_inv hc
  unfold ev1 at he
  obtain ⟨⟨v, σ'⟩, hst, h5⟩ := Option.map_eq_some_iff.1 he
  clear he
  simp only [Prod.mk.injEq] at h5
  obtain ⟨rfl, rfl⟩ := h5
  have run : Region.wanted o (yielded ops a.tmps) = true → evO E (p.dst.getD 0) fr σ p.op = some (v, σ') → wpOp P ops Q i next a w := by
    intro hw hv
    unfold wpOp
    simp only [ho, hw, if_true]
    refine .inl (op_step (s := p.dst.getD 0) (by rw [h1]; cases hd : o.dst with | none => (show 0 < 1000000; decide) | some t => exact (h2 t hd).2) hE hA h.fr h.inv h3 hv fun v w' K' q1 q2 q3 => ?_)
    exact hn _ _ K' (by rw [h1]; exact h.put q3 q2 q1 fun t ht => (h2 t ht).1) q3
  have skip : Region.wanted o (yielded ops a.tmps) = false → some (PV.tu [], σ) = some (v, σ') → wpOp P ops Q i next a w := by
    intro hw hv
    simp only [Option.some.injEq, Prod.mk.injEq] at hv
    obtain ⟨rfl, rfl⟩ := hv
    unfold wpOp
    simp only [ho, hw, Bool.false_eq_true, if_false]
    exact hn _ _ K (by rw [h1]; exact h.put Ext.refl h.inv (.tu [] [] rfl fun i v p h => by simp at h) fun t ht => (h2 t ht).1) Ext.refl
  unfold stp at hst
  rcases h4 with ⟨g1, g2⟩ | ⟨j, want, d, g1, g2, g3⟩
  · rw [g2] at hst
    exact run (by simp [Region.wanted, g1]) hst
  · rw [g3] at hst
    simp only at hst
    split at hst
    · rename_i b hb
      have hfd := h.fr d
      rw [hb] at hfd
      have hyl : yielded ops a.tmps j = some b := by
        unfold yielded
        simp only [g2, Option.bind_some, getD_bool hfd.inv_bool]
      split at hst
      · rename_i hbw
        exact run (by simp [Region.wanted, g1, hyl, hbw]) hst
      · rename_i hbw
        exact skip (by simp [Region.wanted, g1, hyl, hbw]) hst
    · rename_i hb
      have hfd := h.fr d
      rw [hb] at hfd
      have hyl : yielded ops a.tmps j = none := by
        unfold yielded
        simp only [g2, Option.bind_some]
        cases hd : a.tmps[d]? with
        | none => rfl
        | some v =>
          have e1 : a.tmps.getD d undef = v := by rw [Array.getD_eq_getD_getElem?, hd]; rfl
          rw [e1] at hfd
          cases hfd with
          | tu cs _ _ _ => rfl
      exact skip (by simp [Region.wanted, g1, hyl]) hst
    · cases hst

theorem Then.mono {fr' : Fr} {K1 : Nat → Nat → Option Nat} {σ1 : St} {w1 : World} {Q Q' : Act → World → Prop} (h : Then km cx nt D K σ w fr' σ' Q) (hx : Ext cx K σ w K1 σ1 w1) (hq : ∀ a w, Q a w → Q' a w) : Then km cx nt D K1 σ1 w1 fr' σ' Q' :=
  fun a' w' K' h1 h2 => hq _ _ (h a' w' K' h1 (hx.trans h2))

theorem ops_sound (hE : SoundE km P E) (hA : LinkOk km A) : ∀ (is : List Nat) (ps : List POp) (fr : Fr) (σ : St) (a : Act) (w : World) (K : Nat → Nat → Option Nat) (fr' : Fr) (σ' : St), Ok km cx nt D K fr σ a w →
    is.length = ps.length → (∀ (n i : Nat) p, is[n]? = some i → ps[n]? = some p → ∃ o, ops[i]? = some o ∧ compOp P A nt ops o = some p) → evOs E ps fr σ = some (fr', σ') →
    Then km cx nt D K σ w fr' σ' (Q .normal) → wpOps P ops Q is a w
  | [], ps, fr, σ, a, w, K, fr', σ', h, hl, _, he, hq => by
    have : ps = [] := List.eq_nil_of_length_eq_zero (by simpa using hl.symm)
    subst this
    simp only [evOs, Option.some.injEq, Prod.mk.injEq] at he
    obtain ⟨rfl, rfl⟩ := he
    exact hq a w K h Ext.refl
  | i :: is, ps, fr, σ, a, w, K, fr', σ', h, hl, hc, he, hq => by
    cases ps with
    | nil => simp at hl
    | cons p ps =>
      simp only [evOs] at he
      obtain ⟨⟨fr1, σ1⟩, h1, he⟩ := Option.bind_eq_some_iff.1 he
      obtain ⟨o, ho, hco⟩ := hc 0 i p rfl rfl
      rw [wpOps_cons]
      refine op1 hE hA h ho hco h1 fun a1 w1 K1 g1 g2 => ?_
      exact ops_sound hE hA is ps fr1 σ1 a1 w1 K1 fr' σ' g1 (by simpa using hl) (fun n i p h1 h2 => hc (n + 1) i p (by simpa using h1) (by simpa using h2)) he (hq.mono g2 fun _ _ h => h)

theorem region_sound (hE : SoundE km P E) (hA : LinkOk km A) {id : Nat} {ps : List POp} {fr' : Fr} {σ' : St} (h : Ok km cx nt D K fr σ a w) (hc : ops.toList.mapM (compOp P A nt ops) = some ps) (he : evOs E ps fr σ = some (fr', σ'))
    (hq : Then km cx nt D K σ w fr' σ' (Q .normal)) : (Code.region id ops false).wp P Q a w := by
  obtain ⟨m1, m2⟩ := mapM_get hc
  refine wp_region (ops_sound hE hA _ ps fr σ a w K fr' σ' h (by simp [m1]) (fun n i p h1 h2 => ?_) he hq)
  obtain ⟨o, ho, hco⟩ := mapM_get' hc h2
  have hn : n = i := by
    have := (List.getElem?_eq_some_iff.1 h1)
    obtain ⟨h3, h4⟩ := this
    simpa using h4
  subst hn
  exact ⟨o, by simpa using ho, hco⟩

end
end Go.Proofs.YtcpgkdaicglogaaGreatDoorPv
