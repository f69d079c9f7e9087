/-
Own text of the proof.
-/
import Derived.Test.YtemoboghbdcjkaaDoorPkStoreTearsB
namespace Go.Proofs.YtemoboghbdcjkaaDoorPv
open Go
section
variable {P : Program}
def isTxts (P : Program) (t : TypeId) : Bool := match P.underlying t with
  | some (.slice e) => (match P.underlying e with | some .string => true | _ => false) && decide (0 < P.bytesOf e)
  | _ => false
theorem txts_of {t : TypeId} {ps : List PV} (h : Is P t ps) (hk : isTxts P t = true) : ∃ l : List (List UInt8), ps = [.sl (txts l)] ∧ l.length ≤ reachBytes := by
  unfold isTxts at hk
  split at hk
  · rename_i e he
    simp only [Bool.and_eq_true, decide_eq_true_eq] at hk
    obtain ⟨hs, hb⟩ := hk
    split at hs
    · rename_i hu
      have hag : isAgg P e = false := by unfold isAgg; rw [hu]
      obtain ⟨yss, rfl, h1, h2⟩ := h.sl' he
      have : ∀ zss : List (List PV), (∀ ys ∈ zss, Is P e ys) → ∃ l : List (List UInt8), zss.map (mkPV (isAgg P e)) = txts l ∧ l.length = zss.length := by
        intro zss
        induction zss with
        | nil => intro _; exact ⟨[], rfl, rfl⟩
        | cons ys r ih =>
          intro hz
          obtain ⟨l, e1, e2⟩ := ih fun y hy => hz y (by simp [hy])
          obtain ⟨s, g1, g2⟩ := (hz ys (by simp)).str' hu
          refine ⟨s.data.toList :: l, ?_, by simp [e2]⟩
          show mkPV (isAgg P e) ys :: r.map (mkPV (isAgg P e)) = txt s.data.toList :: txts l
          rw [e1, g1, hag]
          rfl
      obtain ⟨l, e1, e2⟩ := this yss h2
      refine ⟨l, by rw [e1], ?_⟩
      rw [e2]
      exact Nat.le_trans (Nat.le_mul_of_pos_right _ hb) h1
    · cases hs
  · cases hk
end
end Go.Proofs.YtemoboghbdcjkaaDoorPv

