/-
Own text of the proof.
-/
import Derived.Test.YtemoboghbdcjkaaDoorCPvRc
import Derived.Test.YtemoboghbdcjkaaDoorPkStoreTurnsB
namespace Go.Proofs.YtemoboghbdcjkaaDoorPv
open Go
section
variable {P : Program}
theorem int_of9 {t : TypeId} {p : PV} (h : Is P t [p]) (hk : (match P.underlying t with | some (.int .i64) => true | _ => false) = true) : ∃ n : Int, p = .sc (.int .i64 n) := by
  split at hk
  · rename_i hu
    obtain ⟨s, hs, _⟩ := h.int' hu
    simp only [List.cons.injEq, and_true] at hs
    exact ⟨s, hs⟩
  · cases hk
def isFl (P : Program) (t : TypeId) : Bool := match fieldsOf P t with
  | [(0, a), (1, b), (2, c)] => isAgg P t && P.cellsOf t == 3 && [a, b, c].all (fun x => P.cellsOf x == 1 && (match P.underlying x with | some .string => true | _ => false))
  | _ => false
theorem fl_of {t : TypeId} {ps : List PV} (h : Is P t ps) (hk : isFl P t = true) : ∃ d : Fl, mkPV (isAgg P t) ps = fl d := by
  unfold isFl at hk
  split at hk
  · rename_i a b c hf
    simp only [Bool.and_eq_true, beq_iff_eq, List.all_cons, List.all_nil, Bool.and_true] at hk
    obtain ⟨⟨k1, k2⟩, ⟨ka, sa⟩, ⟨kb, sb⟩, ⟨kc, sc⟩⟩ := hk
    obtain ⟨h1, h2⟩ := h.fields k1
    match ps, h1.trans k2 with
    | [p, q, r], _ =>
      have e1 := h2 (0, a) (by rw [hf]; simp)
      have e2 := h2 (1, b) (by rw [hf]; simp)
      have e3 := h2 (2, c) (by rw [hf]; simp)
      simp only [ka, kb, kc, List.drop_zero, List.take_succ_cons, List.take_zero, List.drop_succ_cons] at e1 e2 e3
      obtain ⟨s, hs, _⟩ := str_of e1 sa
      obtain ⟨u, hu, _⟩ := str_of e2 sb
      obtain ⟨v, hv, _⟩ := str_of e3 sc
      subst hs; subst hu; subst hv
      exact ⟨⟨s.data.toList, u.data.toList, v.data.toList⟩, by simp [mkPV, k1, fl, txt]⟩
  · cases hk
def isFls (P : Program) (t : TypeId) : Bool := match P.underlying t with
  | some (.slice e) => isFl P e && decide (0 < P.bytesOf e)
  | _ => false
theorem fls_of {t : TypeId} {ps : List PV} (h : Is P t ps) (hk : isFls P t = true) : ∃ l : List Fl, ps = [.sl (fls l)] ∧ l.length ≤ reachBytes := by
  unfold isFls at hk
  split at hk
  · rename_i e he
    simp only [Bool.and_eq_true, decide_eq_true_eq] at hk
    obtain ⟨yss, rfl, h1, h2⟩ := h.sl' he
    have : ∀ zss : List (List PV), (∀ ys ∈ zss, Is P e ys) → ∃ l : List Fl, zss.map (mkPV (isAgg P e)) = fls l ∧ l.length = zss.length := by
      intro zss
      induction zss with
      | nil => intro _; exact ⟨[], rfl, rfl⟩
      | cons ys r ih =>
        intro hz
        obtain ⟨l, e1, e2⟩ := ih fun y hy => hz y (by simp [hy])
        obtain ⟨m, g1⟩ := fl_of (hz ys (by simp)) hk.1
        exact ⟨m :: l, by simp [fls, g1] at e1 ⊢; exact e1, by simp [e2]⟩
    obtain ⟨l, e1, e2⟩ := this yss h2
    refine ⟨l, by rw [e1], ?_⟩
    rw [e2]
    exact Nat.le_trans (Nat.le_mul_of_pos_right _ hk.2) h1
  · cases hk
def isStore (P : Program) (t : TypeId) : Bool := match fieldsOf P t with
  | [(0, a)] => isAgg P t && P.cellsOf t == 1 && P.cellsOf a == 1 && isFls P a
  | _ => false
theorem store_of {t : TypeId} {ps : List PV} (h : Is P t ps) (hk : isStore P t = true) : ∃ l : List Fl, mkPV (isAgg P t) ps = .agg [.sl (fls l)] ∧ l.length ≤ reachBytes := by
  unfold isStore at hk
  split at hk
  · rename_i a hf
    simp only [Bool.and_eq_true, beq_iff_eq] at hk
    obtain ⟨⟨⟨k1, k2⟩, ka⟩, sa⟩ := hk
    obtain ⟨h1, h2⟩ := h.fields k1
    match ps, h1.trans k2 with
    | [p], _ =>
      have e1 := h2 (0, a) (by rw [hf]; simp)
      simp only [ka, List.drop_zero, List.take_succ_cons, List.take_zero] at e1
      obtain ⟨l, hl, hn⟩ := fls_of e1 sa
      simp only [List.cons.injEq, and_true] at hl
      subst hl
      exact ⟨l, by simp [mkPV, k1], hn⟩
  · cases hk
def isOp9 (P : Program) (t : TypeId) : Bool := match fieldsOf P t with
  | [(0, a), (1, b), (2, c)] => isAgg P t && P.cellsOf t == 3 && [b, c].all (fun x => P.cellsOf x == 1 && (match P.underlying x with | some .string => true | _ => false)) && P.cellsOf a == 1 && (match P.underlying a with | some (.int .i64) => true | _ => false)
  | _ => false
theorem op_of {t : TypeId} {ps : List PV} (h : Is P t ps) (hk : isOp9 P t = true) : ∃ o : Op9, mkPV (isAgg P t) ps = opV o ∧ True := by
  unfold isOp9 at hk
  split at hk
  · rename_i a b c hf
    simp only [Bool.and_eq_true, beq_iff_eq, List.all_cons, List.all_nil, Bool.and_true] at hk
    obtain ⟨⟨⟨⟨k1, k2⟩, ⟨kb, sb⟩, ⟨kc, sc⟩⟩, ka⟩, sa⟩ := hk
    obtain ⟨h1, h2⟩ := h.fields k1
    match ps, h1.trans k2 with
    | [p, q, r], _ =>
      have e1 := h2 (0, a) (by rw [hf]; simp)
      have e2 := h2 (1, b) (by rw [hf]; simp)
      have e3 := h2 (2, c) (by rw [hf]; simp)
      simp only [ka, kb, kc, List.drop_zero, List.take_succ_cons, List.take_zero, List.drop_succ_cons] at e1 e2 e3
      obtain ⟨n, hn⟩ := int_of9 e1 sa
      obtain ⟨u, hu, _⟩ := str_of e2 sb
      obtain ⟨v, hv, _⟩ := str_of e3 sc
      subst hn; subst hu; subst hv
      exact ⟨⟨n, u.data.toList, v.data.toList⟩, by simp [mkPV, k1, opV, txt], trivial⟩
  · cases hk
end
end Go.Proofs.YtemoboghbdcjkaaDoorPv

