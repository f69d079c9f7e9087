/-
Arguments of the laws: rows of texts, by their bytes; blocks.
-/
import Derived.Test.YtdlfomiclkpibaaDoorPkBlockNotesD
namespace Go.Proofs.YtdlfomiclkpibaaDoorPv
open Go

section
variable {P : Program}

/-- A type of slices of texts. -/
def isTxts (P : Program) (t : TypeId) : Bool := match P.underlying t with
  | some (.slice e) => (match P.underlying e with | some .string => true | _ => false) && decide (0 < P.bytesOf e)
  | _ => false

theorem txts_of {t : TypeId} {ps : List PV} (h : Is P t ps) (hk : isTxts P t = true) : ∃ l : List (List UInt8), ps = [.sl (txts l)] ∧ l.length ≤ reachBytes := by
  unfold isTxts at hk
  split at hk
  · rename_i e he
    simp only [Bool.and_eq_true, decide_eq_true_eq] at hk
    obtain ⟨hs, hb⟩ := hk
    split at hs
    · rename_i hu
      have hag : isAgg P e = false := by unfold isAgg; rw [hu]
      obtain ⟨yss, rfl, h1, h2⟩ := h.sl' he
      have : ∀ zss : List (List PV), (∀ ys ∈ zss, Is P e ys) → ∃ l : List (List UInt8), zss.map (mkPV (isAgg P e)) = txts l ∧ l.length = zss.length := by
        intro zss
        induction zss with
        | nil => intro _; exact ⟨[], rfl, rfl⟩
        | cons ys r ih =>
          intro hz
          obtain ⟨l, e1, e2⟩ := ih fun y hy => hz y (by simp [hy])
          obtain ⟨s, g1, g2⟩ := (hz ys (by simp)).str' hu
          refine ⟨s.data.toList :: l, ?_, by simp [e2]⟩
          show mkPV (isAgg P e) ys :: r.map (mkPV (isAgg P e)) = txt s.data.toList :: txts l
          rw [e1, g1, hag]
          rfl
      obtain ⟨l, e1, e2⟩ := this yss h2
      refine ⟨l, by rw [e1], ?_⟩
      rw [e2]
      exact Nat.le_trans (Nat.le_mul_of_pos_right _ hb) h1
    · cases hs
  · cases hk

/-- The type of a block. -/
def isDf (P : Program) (t : TypeId) : Bool := match fieldsOf P t with
  | [(0, a), (1, b), (2, c)] => isAgg P t && P.cellsOf t == 3 && [a, b, c].all (fun x => P.cellsOf x == 1) && (match P.underlying a with | some .string => true | _ => false) && isTxts P b && isTxts P c
  | _ => false

theorem df_of {t : TypeId} {ps : List PV} (h : Is P t ps) (hk : isDf P t = true) : ∃ d : Df, mkPV (isAgg P t) ps = df d := by
  unfold isDf at hk
  split at hk
  · rename_i a b c hf
    simp only [Bool.and_eq_true, beq_iff_eq, List.all_cons, List.all_nil, Bool.and_true] at hk
    obtain ⟨⟨⟨⟨⟨k1, k2⟩, ka, kb, kc⟩, hs⟩, hb⟩, hc⟩ := hk
    obtain ⟨h1, h2⟩ := h.fields k1
    match ps, h1.trans k2 with
    | [p, q, r], _ =>
      have e1 := h2 (0, a) (by rw [hf]; simp)
      have e2 := h2 (1, b) (by rw [hf]; simp)
      have e3 := h2 (2, c) (by rw [hf]; simp)
      simp only [ka, kb, kc, List.drop_zero, List.take_succ_cons, List.take_zero, List.drop_succ_cons] at e1 e2 e3
      obtain ⟨s, hs, _⟩ := str_of e1 hs
      obtain ⟨u, hu, _⟩ := txts_of e2 hb
      obtain ⟨v, hv, _⟩ := txts_of e3 hc
      simp only [List.cons.injEq, and_true] at hu hv
      subst hs; subst hu; subst hv
      exact ⟨⟨s.data.toList, u, v⟩, by simp [mkPV, k1, df, txt]⟩
  · cases hk

/-- A type of slices of blocks. -/
def isDfs (P : Program) (t : TypeId) : Bool := match P.underlying t with
  | some (.slice e) => isDf P e && decide (0 < P.bytesOf e)
  | _ => false

theorem dfs_of {t : TypeId} {ps : List PV} (h : Is P t ps) (hk : isDfs P t = true) : ∃ l : List Df, ps = [.sl (dfs l)] ∧ l.length ≤ reachBytes := by
  unfold isDfs at hk
  split at hk
  · rename_i e he
    simp only [Bool.and_eq_true, decide_eq_true_eq] at hk
    obtain ⟨yss, rfl, h1, h2⟩ := h.sl' he
    have : ∀ zss : List (List PV), (∀ ys ∈ zss, Is P e ys) → ∃ l : List Df, zss.map (mkPV (isAgg P e)) = dfs l ∧ l.length = zss.length := by
      intro zss
      induction zss with
      | nil => intro _; exact ⟨[], rfl, rfl⟩
      | cons ys r ih =>
        intro hz
        obtain ⟨l, e1, e2⟩ := ih fun y hy => hz y (by simp [hy])
        obtain ⟨m, g1⟩ := df_of (hz ys (by simp)) hk.1
        exact ⟨m :: l, by simp [dfs, g1] at e1 ⊢; exact e1, by simp [e2]⟩
    obtain ⟨l, e1, e2⟩ := this yss h2
    refine ⟨l, by rw [e1], ?_⟩
    rw [e2]
    exact Nat.le_trans (Nat.le_mul_of_pos_right _ hk.2) h1
  · cases hk
end
end Go.Proofs.YtdlfomiclkpibaaDoorPv
