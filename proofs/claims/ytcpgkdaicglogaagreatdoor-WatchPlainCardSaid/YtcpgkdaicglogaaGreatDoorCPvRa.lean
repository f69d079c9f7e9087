/-
Own text of the proof.
-/
import Derived.Test.YtcpgkdaicglogaaGreatDoorPkWatchPlainD
import Derived.HandedShaped
namespace Go.Proofs.YtcpgkdaicglogaaGreatDoorPv
open Go
section
variable {P : Program}
def isLab (P : Program) (t : TypeId) : Bool := match fieldsOf P t with
  | [(0, a), (1, b)] => isAgg P t && P.cellsOf t == 2 && P.cellsOf a == 1 && P.cellsOf b == 1 && (match P.underlying a, P.underlying b with | some .string, some .string => true | _, _ => false)
  | _ => false
theorem lab_of {t : TypeId} {ps : List PV} (h : Is P t ps) (hk : isLab P t = true) : ∃ m : Lab, mkPV (isAgg P t) ps = lab m ∧ m.1.size ≤ reachBytes ∧ m.2.size ≤ reachBytes := by
  unfold isLab at hk
  split at hk
  · rename_i a b hf
    simp only [Bool.and_eq_true, beq_iff_eq] at hk
    obtain ⟨⟨⟨⟨k1, k2⟩, k3⟩, k4⟩, k5⟩ := hk
    obtain ⟨h1, h2⟩ := h.fields k1
    split at k5
    · rename_i ha hb
      match ps, h1.trans k2 with
      | [p, q], _ =>
        have e1 := h2 (0, a) (by rw [hf]; simp)
        have e2 := h2 (1, b) (by rw [hf]; simp)
        simp only [k3, k4, List.drop_zero, List.take_succ_cons, List.take_zero, List.drop_succ_cons] at e1 e2
        obtain ⟨s, hs, hs'⟩ := e1.str' ha
        obtain ⟨u, hu, hu'⟩ := e2.str' hb
        simp only [List.cons.injEq, and_true] at hs hu
        subst hs; subst hu
        exact ⟨(s, u), by simp [mkPV, k1, lab], hs', hu'⟩
    · cases k5
  · cases hk
def isLabs (P : Program) (t : TypeId) : Bool := match P.underlying t with
  | some (.slice e) => isLab P e && decide (0 < P.bytesOf e)
  | _ => false
def LabsHeld (l : List Lab) : Prop := l.length ≤ reachBytes ∧ ∀ m ∈ l, m.1.size ≤ reachBytes ∧ m.2.size ≤ reachBytes
theorem labs_of {t : TypeId} {ps : List PV} (h : Is P t ps) (hk : isLabs P t = true) : ∃ l : List Lab, ps = [.sl (labs l)] ∧ LabsHeld l := by
  unfold isLabs at hk
  split at hk
  · rename_i e he
    simp only [Bool.and_eq_true, decide_eq_true_eq] at hk
    obtain ⟨yss, rfl, h1, h2⟩ := h.sl' he
    have : ∀ zss : List (List PV), (∀ ys ∈ zss, Is P e ys) → ∃ l : List Lab, zss.map (mkPV (isAgg P e)) = labs l ∧ l.length = zss.length ∧ ∀ m ∈ l, m.1.size ≤ reachBytes ∧ m.2.size ≤ reachBytes := by
      intro zss
      induction zss with
      | nil => intro _; exact ⟨[], rfl, rfl, fun m hm => by simp at hm⟩
      | cons ys r ih =>
        intro hz
        obtain ⟨l, e1, e2, e3⟩ := ih fun y hy => hz y (by simp [hy])
        obtain ⟨m, g1, g2, g3⟩ := lab_of (hz ys (by simp)) hk.1
        refine ⟨m :: l, by simp [labs, g1] at e1 ⊢; exact e1, by simp [e2], fun x hx => ?_⟩
        rcases List.mem_cons.1 hx with rfl | hx
        · exact ⟨g2, g3⟩
        · exact e3 x hx
    obtain ⟨l, e1, e2, e3⟩ := this yss h2
    refine ⟨l, by rw [e1], ?_, e3⟩
    rw [e2]
    exact Nat.le_trans (Nat.le_mul_of_pos_right _ hk.2) h1
  · cases hk
def isRule (P : Program) (t : TypeId) : Bool := match fieldsOf P t with
  | [(0, a), (1, b), (2, c), (3, d), (4, e), (5, f), (6, g), (7, l)] => isAgg P t && P.cellsOf t == 8 && [a, b, c, d, e, f, g, l].all (fun x => P.cellsOf x == 1) && [a, b].all (fun x => match P.underlying x with | some .string => true | _ => false) &&
      [c, d, e, f, g].all (fun x => match P.underlying x with | some (.int .i64) => true | _ => false) && isLabs P l
  | _ => false
structure Rule.Held (r : Rule) : Prop where
  n : r.name.size ≤ reachBytes
  m : r.metric.size ≤ reachBytes
  l : LabsHeld r.labels
theorem int_of {t : TypeId} {p : PV} (h : Is P t [p]) (hk : (match P.underlying t with | some (.int .i64) => true | _ => false) = true) : ∃ n : Int, p = .sc (.int .i64 n) ∧ (Lit.int .i64 n).wf = true := by
  split at hk
  · rename_i hu
    obtain ⟨s, hs, h2⟩ := h.int' hu
    simp only [List.cons.injEq, and_true] at hs
    exact ⟨s, hs, h2⟩
  · cases hk
theorem rule_of {t : TypeId} {ps : List PV} (h : Is P t ps) (hk : isRule P t = true) : ∃ r : Rule, mkPV (isAgg P t) ps = rule r ∧ r.Held := by
  unfold isRule at hk
  split at hk
  · rename_i a b c d e f g l hf
    simp only [Bool.and_eq_true, beq_iff_eq, List.all_cons, List.all_nil, Bool.and_true] at hk
    obtain ⟨⟨⟨⟨⟨k1, k2⟩, ka, kb, kc, kd, ke, kf, kg, kl⟩, sa, sb⟩, ic, id, ie, if_, ig⟩, hl⟩ := hk
    obtain ⟨h1, h2⟩ := h.fields k1
    rw [hf] at h2
    match ps, h1.trans k2 with
    | [p0, p1, p2, p3, p4, p5, p6, p7], _ =>
      have e0 := h2 (0, a) (by simp)
      have e1 := h2 (1, b) (by simp)
      have e2 := h2 (2, c) (by simp)
      have e3 := h2 (3, d) (by simp)
      have e4 := h2 (4, e) (by simp)
      have e5 := h2 (5, f) (by simp)
      have e6 := h2 (6, g) (by simp)
      have e7 := h2 (7, l) (by simp)
      simp only [ka, kb, kc, kd, ke, kf, kg, kl, List.drop_zero, List.take_succ_cons, List.take_zero, List.drop_succ_cons] at e0 e1 e2 e3 e4 e5 e6 e7
      obtain ⟨s0, rfl, b0⟩ := str_of e0 sa
      obtain ⟨s1, rfl, b1⟩ := str_of e1 sb
      obtain ⟨n2, rfl, _⟩ := int_of e2 ic
      obtain ⟨n3, rfl, _⟩ := int_of e3 id
      obtain ⟨n4, rfl, _⟩ := int_of e4 ie
      obtain ⟨n5, rfl, _⟩ := int_of e5 if_
      obtain ⟨n6, rfl, _⟩ := int_of e6 ig
      obtain ⟨ll, hll, b7⟩ := labs_of e7 hl
      simp only [List.cons.injEq, and_true] at hll
      subst hll
      exact ⟨⟨s0, s1, n2, n3, n4, n5, n6, ll⟩, by simp [mkPV, k1, rule], b0, b1, b7⟩
  · cases hk
end
end Go.Proofs.YtcpgkdaicglogaaGreatDoorPv

