/-
Own text of the proof.
-/
import Derived.Test.YthkjlpjogojfiaaDoorCPvRa
import Derived.Test.YthkjlpjogojfiaaDoorPkRoutesMoreB
namespace Go.Proofs.YthkjlpjogojfiaaDoorPv
open Go
section
variable {P : Program}
def isStrs (P : Program) (t : TypeId) : Bool := match P.underlying t with
  | some (.slice e) => (match P.underlying e with | some .string => true | _ => false) && decide (0 < P.bytesOf e)
  | _ => false
def StrsHeld (l : List ByteArray) : Prop := l.length ≤ reachBytes ∧ ∀ s ∈ l, s.size ≤ reachBytes
theorem strs_of {t : TypeId} {ps : List PV} (h : Is P t ps) (hk : isStrs P t = true) : ∃ l : List ByteArray, ps = [.sl (strs l)] ∧ StrsHeld l := by
  unfold isStrs at hk
  split at hk
  · rename_i e he
    simp only [Bool.and_eq_true, decide_eq_true_eq] at hk
    obtain ⟨hs, hb⟩ := hk
    split at hs
    · rename_i hu
      have hag : isAgg P e = false := by unfold isAgg; rw [hu]
      obtain ⟨yss, rfl, h1, h2⟩ := h.sl' he
      have : ∀ zss : List (List PV), (∀ ys ∈ zss, Is P e ys) → ∃ l : List ByteArray, zss.map (mkPV (isAgg P e)) = strs l ∧ l.length = zss.length ∧ ∀ s ∈ l, s.size ≤ reachBytes := by
        intro zss
        induction zss with
        | nil => intro _; exact ⟨[], rfl, rfl, fun m hm => by simp at hm⟩
        | cons ys r ih =>
          intro hz
          obtain ⟨l, e1, e2, e3⟩ := ih fun y hy => hz y (by simp [hy])
          obtain ⟨s, g1, g2⟩ := (hz ys (by simp)).str' hu
          refine ⟨s :: l, by simp [strs, hag, mkPV, g1] at e1 ⊢; exact e1, by simp [e2], fun x hx => ?_⟩
          rcases List.mem_cons.1 hx with rfl | hx
          · exact g2
          · exact e3 x hx
      obtain ⟨l, e1, e2, e3⟩ := this yss h2
      refine ⟨l, by rw [e1], ?_, e3⟩
      rw [e2]
      exact Nat.le_trans (Nat.le_mul_of_pos_right _ hb) h1
    · cases hs
  · cases hk
end
end Go.Proofs.YthkjlpjogojfiaaDoorPv

