/-
Plain laws of sets of labels: orders, sorted rows, sets laid over one another.
-/
import Derived.Test.YtjijlmfhnkipmaaDoorPvSr
import Derived.WideAt
namespace Go.Proofs.YtjijlmfhnkipmaaDoorPv
open Go
set_option linter.unusedSimpArgs false
set_option linter.unusedVariables false
set_option maxHeartbeats 4000000
attribute [local go_sem ↓] e_mv e_pick e_bin e_eqs e_beq e_un e_cvi e_str e_s2b e_b2s e_box e_build e_bsl e_ld e_st e_nck e_mkf e_slcS e_slcL e_fa e_fld e_ia e_iaa e_ix e_ixa e_ext e_lenS e_lenL e_mnmx e_app e_msl e_clr e_call e_callv pa_t pa_c pa_f slcSP_str hiOf_some hiOf_none loOf_some loOf_none set_eq set_ne
attribute [local go_sem] pv pv1 simple frOf_0 frOf_1 frOf_2 frOf_3 frOf_4 frOf_5 ne_eq not_false_eq_true if_true Bool.false_eq_true if_false pbin punary Option.map_some Option.bind_some pick_and pick_or opt_true Bool.true_and Bool.and_self Bool.and_true Bool.true_or Bool.false_or Bool.not_true Bool.not_false callE pcall_eq List.map_cons List.map_nil List.append_nil List.nil_append List.cons_append mapM_cons' mapM_nil' dep_eq fz_sc fz_sl fz_em fz_fn fz_fp fz_agg fz_bx fz_ob Nat.lt_irrefl Nat.zero_lt_one Nat.lt_add_one flat clL cl Bool.or_true okc cells_agg cells_sc cells_sl cells_em cells_ob cells_fn cells_bx cells_fp List.length_cons List.length_nil Nat.zero_add and_self true_and and_true new_m new_c put_m put_c nil_m nil_c deref List.getElem?_cons_zero List.getElem?_cons_succ List.drop_zero List.drop_succ_cons List.take_succ_cons List.take_zero Nat.le_refl false_and and_false
set_option maxRecDepth 8000

theorem less_before : ∀ a b : List UInt8, Op.bytesLess a b = bytesBefore a b
  | [], [] => rfl
  | [], _ :: _ => rfl
  | _ :: _, [] => rfl
  | a :: x, b :: y => by simp only [Op.bytesLess, bytesBefore, less_before x y]

theorem lessB_eq (a b : ByteArray) : lessB a b = bytesBefore a.data.toList b.data.toList := by
  unfold lessB; rw [less_before, ByteArray.toList_eq, ByteArray.toList_eq]

theorem lessB_trans {a b c : ByteArray} (h1 : lessB a b = true) (h2 : lessB b c = true) : lessB a c = true := by
  rw [lessB_eq] at *
  exact Go.WideShapes.bytes_trans _ _ _ h1 h2

theorem lessB_irrefl (a : ByteArray) : lessB a a = false := by rw [lessB_eq]; exact Go.WideAt.bytes_irrefl _

theorem lessB_total {a b : ByteArray} (h : a ≠ b) : lessB a b = true ∨ lessB b a = true := by
  rw [lessB_eq, lessB_eq]
  exact Go.WideAt.bytes_total _ _ fun he => h (Go.WideShapes.bytes_inj he)

def Rising (l : List Lab) : Prop := l.Pairwise fun a b => lessB a.1 b.1 = true
def Apart (l : List Lab) : Prop := l.Pairwise fun a b => a.1 ≠ b.1

theorem Rising.apart {l : List Lab} (h : Rising l) : Apart l := h.imp fun hab he => by
  rw [he, lessB_irrefl] at hab
  cases hab

theorem nth_eq {l : List Lab} {i : Nat} (hi : i < l.length) : nth l i = l[i] := by unfold nth; rw [List.getElem?_eq_getElem hi]; rfl

theorem right_iff {l : List Lab} : rightL l = true ↔ (∀ m ∈ l, mayB m = true) ∧ Rising l ∧ l.length ≤ 8 := by
  constructor
  · intro h
    have h8 := right_len h
    refine ⟨fun m hm => ?_, ?_, h8⟩
    · obtain ⟨i, hi⟩ := List.getElem?_of_mem hm
      have hlt := (List.getElem?_eq_some_iff.1 hi).1
      have := rightL_may h hlt
      have e : nth l i = m := by unfold nth; rw [hi]; rfl
      rwa [e] at this
    · unfold rightL at h
      simp only [Bool.and_eq_true, Bool.not_eq_true', decide_eq_false_iff_not] at h
      have hb := found_no h.1
      have step : ∀ j, j + 1 < l.length → lessB (nth l j).1 (nth l (j + 1)).1 = true := by
        intro j hj
        have := hb (j + 1) hj
        unfold badL at this
        simp only [Bool.or_eq_false_iff, Bool.and_eq_false_iff, Bool.not_eq_false', decide_eq_false_iff_not] at this
        rcases this.2 with h2 | h2
        · omega
        · exact h2
      have far : ∀ d i, i + d + 1 < l.length → lessB (nth l i).1 (nth l (i + d + 1)).1 = true := by
        intro d
        induction d with
        | zero => intro i hi; exact step i hi
        | succ d ih => intro i hi; exact lessB_trans (ih i (by omega)) (step (i + d + 1) (by omega))
      unfold Rising
      rw [List.pairwise_iff_getElem]
      intro i j hi hj hij
      have := far (j - i - 1) i (by omega)
      rw [show i + (j - i - 1) + 1 = j from by omega, nth_eq hi, nth_eq hj] at this
      exact this
  · rintro ⟨h1, h2, h3⟩
    unfold rightL
    simp only [Bool.and_eq_true, Bool.not_eq_true', decide_eq_false_iff_not, decide_eq_true_eq]
    refine ⟨?_, by omega⟩
    have : found (badL l) l.length = -1 := by
      refine found_none fun j hj => ?_
      unfold badL
      rw [nth_eq hj, h1 _ (List.getElem_mem hj)]
      simp only [Bool.not_true, Bool.false_or, Bool.and_eq_false_iff, decide_eq_false_iff_not, Bool.not_eq_false']
      cases j with
      | zero => exact .inl (by omega)
      | succ j =>
        right
        have := List.pairwise_iff_getElem.1 h2 j (j + 1) (by omega) hj (by omega)
        rw [show j + 1 - 1 = j from rfl, nth_eq (show j < l.length by omega)]
        exact this
    rw [this]
    omega

theorem insAt_perm (m : Lab) (a : List Lab) : ∀ k, k ≤ a.length → (insAt m a k).Perm (m :: a)
  | 0, _ => .refl _
  | k + 1, h => by
    simp only [insAt]
    split
    · exact insAt_perm m a k (by omega)
    · refine List.perm_middle.trans ?_
      rw [List.take_append_drop]

theorem insR_perm (a : List Lab) (m : Lab) : (insR a m).Perm (m :: a) := insAt_perm m a a.length (Nat.le_refl _)

theorem foldl_perm : ∀ (l a : List Lab), (l.foldl insR a).Perm (a ++ l)
  | [], a => by simp
  | m :: l, a => by
    refine (foldl_perm l (insR a m)).trans ?_
    refine ((insR_perm a m).append_right l).trans ?_
    simpa using (List.perm_middle (a := m) (l₁ := a) (l₂ := l)).symm

theorem sorted_perm (l : List Lab) : (sortedL l).Perm l := by simpa [sortedL] using foldl_perm l []

theorem insAt_rising {m : Lab} {a : List Lab} (ha : Rising a) (hne : ∀ x ∈ a, x.1 ≠ m.1) : ∀ k, k ≤ a.length → (∀ i (h : i < a.length), k ≤ i → lessB m.1 a[i].1 = true) → Rising (insAt m a k)
  | 0, _, hg => by
    unfold Rising insAt
    rw [List.pairwise_cons]
    refine ⟨fun x hx => ?_, ha⟩
    obtain ⟨i, hi, rfl⟩ := List.getElem_of_mem hx
    exact hg i hi (Nat.zero_le _)
  | k + 1, hk, hg => by
    unfold insAt
    split
    · rename_i hl
      refine insAt_rising ha hne k (by omega) fun i hi hki => ?_
      by_cases hik : i = k
      · subst hik
        rw [nth_eq hi] at hl
        exact hl
      · exact hg i hi (by omega)
    · rename_i hl
      have hlt : k < a.length := by omega
      rw [nth_eq hlt] at hl
      have hkm : lessB a[k].1 m.1 = true := by
        rcases lessB_total (hne _ (List.getElem_mem hlt)) with h | h
        · exact h
        · exact absurd h hl
      have hle : ∀ i (h : i < a.length), i ≤ k → lessB a[i].1 m.1 = true := by
        intro i hi hik
        by_cases he : i = k
        · subst he; exact hkm
        · exact lessB_trans (List.pairwise_iff_getElem.1 ha i k hi hlt (by omega)) hkm
      unfold Rising
      rw [List.pairwise_append]
      refine ⟨ha.sublist (List.take_sublist _ _), ?_, ?_⟩
      · rw [List.pairwise_cons]
        refine ⟨fun x hx => ?_, ha.sublist (List.drop_sublist _ _)⟩
        obtain ⟨i, hi, rfl⟩ := List.getElem_of_mem hx
        rw [List.getElem_drop]
        exact hg _ _ (by omega)
      · intro x hx y hy
        obtain ⟨i, hi, rfl⟩ := List.getElem_of_mem hx
        have hi' : i < k + 1 := by rw [List.length_take] at hi; omega
        rw [List.getElem_take]
        have hxm := hle i (by omega) (by omega)
        rcases List.mem_cons.1 hy with rfl | hy
        · exact hxm
        · obtain ⟨j, hj, rfl⟩ := List.getElem_of_mem hy
          rw [List.getElem_drop]
          exact lessB_trans hxm (hg _ _ (by omega))

theorem foldl_rising : ∀ (l a : List Lab), Rising a → Apart (a ++ l) → Rising (l.foldl insR a)
  | [], a, ha, _ => ha
  | m :: l, a, ha, hp => by
    have hperm : (a ++ m :: l).Perm (insR a m ++ l) := by
      refine List.perm_middle.trans ?_
      exact ((insR_perm a m).symm.append_right l)
    have hp' : Apart (insR a m ++ l) := (hperm.pairwise_iff (fun h => Ne.symm h)).1 hp
    refine foldl_rising l (insR a m) ?_ hp'
    refine insAt_rising ha (fun x hx => ?_) a.length (Nat.le_refl _) (fun i hi h => by omega)
    unfold Apart at hp
    rw [List.pairwise_append] at hp
    exact hp.2.2 x hx m (by simp)

theorem sorted_rising {l : List Lab} (h : Apart l) : Rising (sortedL l) := foldl_rising l [] List.Pairwise.nil (by simpa using h)

theorem sorted_right {l : List Lab} (h1 : ∀ m ∈ l, mayB m = true) (h2 : Apart l) (h3 : l.length ≤ 8) : rightL (sortedL l) = true :=
  right_iff.2 ⟨fun m hm => h1 m (mem_sorted hm), sorted_rising h2, by rw [sortedL_len]; exact h3⟩

theorem may_value {m : Lab} (h : mayB m = true) : (m.2.toList == (⟨#[]⟩ : ByteArray).toList) = false := by
  unfold mayB valueB filled at h
  simp only [Bool.and_eq_true, Bool.not_eq_true'] at h
  exact h.2.1.1

theorem miss_apart {over : List Lab} (hr : ∀ m ∈ over, mayB m = true) {m x : Lab} (hm : missB over m = true) (hx : x ∈ over) : x.1 ≠ m.1 := by
  intro he
  obtain ⟨i, hi, rfl⟩ := List.getElem_of_mem hx
  have his : isN over m.1 i = true := by unfold isN; rw [nth_eq hi, he]; simp
  obtain ⟨j, h1, h2, _⟩ := found_is hi his
  have hg : getB over m.1 = (nth over j).2 := by
    unfold getB
    rw [h1, if_neg (by omega)]
    rfl
  unfold missB at hm
  rw [hg, nth_eq h2, may_value (hr _ (List.getElem_mem h2))] at hm
  cases hm

theorem over_apart {l over : List Lab} (h1 : rightL l = true) (h2 : rightL over = true) : Apart (overL l over) := by
  obtain ⟨a1, a2, a3⟩ := right_iff.1 h1
  obtain ⟨b1, b2, b3⟩ := right_iff.1 h2
  unfold Apart overL
  rw [List.pairwise_append]
  refine ⟨b2.apart, a2.apart.sublist List.filter_sublist, fun x hx y hy => ?_⟩
  exact miss_apart b1 (List.mem_filter.1 hy).2 hx

theorem over_may {l over : List Lab} (h1 : rightL l = true) (h2 : rightL over = true) : ∀ m ∈ overL l over, mayB m = true := by
  intro m hm
  simp only [overL, List.mem_append, List.mem_filter] at hm
  rcases hm with hm | hm
  · exact (right_iff.1 h2).1 m hm
  · exact (right_iff.1 h1).1 m hm.1

theorem wrong_none {l : List Lab} (h : ∀ m ∈ l, mayB m = true) : wrongB l = false := by
  unfold wrongB
  rw [found_none fun j hj => by rw [nth_eq hj, h _ (List.getElem_mem hj)]; rfl]
  rfl

/-- With, of sets that may be. -/
theorem withL_right {l over : List Lab} (h1 : rightL l = true) (h2 : rightL over = true) : withL l over = if (overL l over).length > 8 then ([], 2) else (sortedL (overL l over), 0) := by
  unfold withL newL
  rw [h1, h2, wrong_none (over_may h1 h2)]
  simp only [Bool.not_true, Bool.or_self, Bool.false_eq_true, if_false]
  by_cases h : (overL l over).length > 8
  · rw [if_pos (by omega), if_pos h]
  · rw [if_neg (by omega), if_neg h, sorted_right (over_may h1 h2) (over_apart h1 h2) (by omega)]
    rfl

end Go.Proofs.YtjijlmfhnkipmaaDoorPv
