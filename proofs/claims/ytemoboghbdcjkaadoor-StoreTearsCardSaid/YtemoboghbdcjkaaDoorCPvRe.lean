/-
Own text of the proof.
-/
import Derived.Test.YtemoboghbdcjkaaDoorCPvRd
import Derived.Test.YtemoboghbdcjkaaDoorPkStoreTearsB
namespace Go.Proofs.YtemoboghbdcjkaaDoorPv
open Go
section
variable {P : Program}
theorem row_of {α : Type} {e : TypeId} (f : α → PV) (hf : ∀ ys, Is P e ys → ∃ a, mkPV (isAgg P e) ys = f a) : ∀ yss : List (List PV), (∀ ys ∈ yss, Is P e ys) → ∃ l : List α, yss.map (mkPV (isAgg P e)) = l.map f ∧ l.length = yss.length
  | [], _ => ⟨[], rfl, rfl⟩
  | ys :: r, hz => by
    obtain ⟨l, e1, e2⟩ := row_of f hf r fun y hy => hz y (by simp [hy])
    obtain ⟨m, g1⟩ := hf ys (hz ys (by simp))
    exact ⟨m :: l, by simp [g1, e1], by simp [e2]⟩
theorem slice_of {α : Type} {t e : TypeId} {ps : List PV} (h : Is P t ps) (he : P.underlying t = some (.slice e)) (hb : 0 < P.bytesOf e) (f : α → PV) (hf : ∀ ys, Is P e ys → ∃ a, mkPV (isAgg P e) ys = f a) :
    ∃ l : List α, ps = [.sl (l.map f)] ∧ l.length ≤ reachBytes := by
  obtain ⟨yss, rfl, h1, h2⟩ := h.sl' he
  obtain ⟨l, e1, e2⟩ := row_of f hf yss h2
  refine ⟨l, by rw [e1], ?_⟩
  rw [e2]
  exact Nat.le_trans (Nat.le_mul_of_pos_right _ hb) h1
def isBools (P : Program) (t : TypeId) : Bool := match P.underlying t with
  | some (.slice e) => decide (0 < P.bytesOf e) && !isAgg P e && (match P.underlying e with | some .bool => true | _ => false)
  | _ => false
theorem bools_of {t : TypeId} {ps : List PV} (h : Is P t ps) (hk : isBools P t = true) : ∃ l : List Bool, ps = [.sl (bls l)] ∧ l.length ≤ reachBytes := by
  unfold isBools at hk
  split at hk
  · rename_i e he
    simp only [Bool.and_eq_true, decide_eq_true_eq, Bool.not_eq_true'] at hk
    obtain ⟨⟨hb, ha⟩, hs⟩ := hk
    split at hs
    · rename_i hu
      exact slice_of h he hb (fun b => .sc (.bool b)) fun ys hy => by
        obtain ⟨s, rfl⟩ := hy.bool' hu
        exact ⟨s, by rw [ha]; simp [mkPV]⟩
    · cases hs
  · cases hk
end
end Go.Proofs.YtemoboghbdcjkaaDoorPv

