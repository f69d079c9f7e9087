/-
Plain laws of sets of labels: what is got, what is kept, what is laid over.
-/
import Derived.Test.YtjijlmfhnkipmaaDoorPvSy
import Derived.Test.YtjijlmfhnkipmaaDoorPvSs
namespace Go.Proofs.YtjijlmfhnkipmaaDoorPv
open Go
set_option linter.unusedSimpArgs false
set_option linter.unusedVariables false
set_option maxHeartbeats 4000000
attribute [local go_sem ↓] e_mv e_pick e_bin e_eqs e_beq e_un e_cvi e_str e_s2b e_b2s e_box e_build e_bsl e_ld e_st e_nck e_mkf e_slcS e_slcL e_fa e_fld e_ia e_iaa e_ix e_ixa e_ext e_lenS e_lenL e_mnmx e_app e_msl e_clr e_call e_callv pa_t pa_c pa_f slcSP_str hiOf_some hiOf_none loOf_some loOf_none set_eq set_ne
attribute [local go_sem] pv pv1 simple frOf_0 frOf_1 frOf_2 frOf_3 frOf_4 frOf_5 ne_eq not_false_eq_true if_true Bool.false_eq_true if_false pbin punary Option.map_some Option.bind_some pick_and pick_or opt_true Bool.true_and Bool.and_self Bool.and_true Bool.true_or Bool.false_or Bool.not_true Bool.not_false callE pcall_eq List.map_cons List.map_nil List.append_nil List.nil_append List.cons_append mapM_cons' mapM_nil' dep_eq fz_sc fz_sl fz_em fz_fn fz_fp fz_agg fz_bx fz_ob Nat.lt_irrefl Nat.zero_lt_one Nat.lt_add_one flat clL cl Bool.or_true okc cells_agg cells_sc cells_sl cells_em cells_ob cells_fn cells_bx cells_fp List.length_cons List.length_nil Nat.zero_add and_self true_and and_true new_m new_c put_m put_c nil_m nil_c deref List.getElem?_cons_zero List.getElem?_cons_succ List.drop_zero List.drop_succ_cons List.take_succ_cons List.take_zero Nat.le_refl false_and and_false
set_option maxRecDepth 8000

theorem toList_inj {a b : ByteArray} (h : a.toList = b.toList) : a = b := by
  rw [ByteArray.toList_eq, ByteArray.toList_eq] at h
  exact Go.WideShapes.bytes_inj h

theorem names_of (l : List Lab) (i : Nat) (n : ByteArray) : isN l n i = true ↔ (nth l i).1 = n := by
  unfold isN
  rw [beq_iff_eq]
  exact ⟨toList_inj, fun h => by rw [h]⟩

theorem rising_unique {l l' : List Lab} (h1 : Rising l) (h2 : Rising l') (hp : l.Perm l') : l = l' :=
  List.Perm.eq_of_pairwise (fun a b _ _ hab hba => by
    have := lessB_trans hab hba
    rw [lessB_irrefl] at this
    cases this) h1 h2 hp

theorem sorted_id {l : List Lab} (h : Rising l) : sortedL l = l := rising_unique (sorted_rising h.apart) h (sorted_perm l)

theorem Apart.perm {l l' : List Lab} (h : Apart l) (hp : l.Perm l') : Apart l' := (hp.pairwise_iff (fun h => Ne.symm h)).1 h

theorem sorted_perm_eq {l l' : List Lab} (h : Apart l) (hp : l.Perm l') : sortedL l = sortedL l' :=
  rising_unique (sorted_rising h) (sorted_rising (h.perm hp)) ((sorted_perm l).trans (hp.trans (sorted_perm l').symm))

theorem get_hit {l : List Lab} (h : Apart l) {m : Lab} (hm : m ∈ l) : getB l m.1 = m.2 := by
  obtain ⟨i, hi, rfl⟩ := List.getElem_of_mem hm
  obtain ⟨j, h1, h2, h3⟩ := found_is (p := isN l l[i].1) hi ((names_of _ _ _).2 (by rw [nth_eq hi]))
  rw [names_of, nth_eq h2] at h3
  have hij : j = i := by
    rcases Nat.lt_trichotomy j i with hlt | he | hgt
    · exact absurd h3 (List.pairwise_iff_getElem.1 h j i h2 hi hlt)
    · exact he
    · exact absurd h3.symm (List.pairwise_iff_getElem.1 h i j hi h2 hgt)
  subst hij
  unfold getB
  rw [h1, if_neg (by omega)]
  show (nth l ((j : Int)).toNat).2 = _
  rw [Int.toNat_natCast, nth_eq hi]

theorem get_miss {l : List Lab} {n : ByteArray} (h : ∀ m ∈ l, m.1 ≠ n) : getB l n = ⟨#[]⟩ := by
  unfold getB
  rw [found_none fun j hj => ?_]
  · rfl
  · cases hb : isN l n j with
    | false => rfl
    | true =>
      rw [names_of, nth_eq hj] at hb
      exact absurd hb (h _ (List.getElem_mem hj))

theorem hasN_iff {ns : List ByteArray} {s : ByteArray} : hasN ns s = true ↔ s ∈ ns := by
  rw [← anyN_all]
  unfold anyN
  rw [List.take_of_length_le (Nat.le_refl _), List.any_eq_true]
  constructor
  · rintro ⟨n, hn, he⟩
    rw [beq_iff_eq] at he
    exact toList_inj he ▸ hn
  · exact fun h => ⟨s, h, by simp⟩

theorem get_over {a b : List Lab} (h1 : rightL a = true) (h2 : rightL b = true) (n : ByteArray) : getB (sortedL (overL a b)) n = if ((getB b n).toList == (⟨#[]⟩ : ByteArray).toList) = true then getB a n else getB b n := by
  have hap := (over_apart h1 h2).perm (sorted_perm _).symm
  obtain ⟨m1, r1, _⟩ := right_iff.1 h1
  obtain ⟨m2, r2, _⟩ := right_iff.1 h2
  have hin : ∀ m, m ∈ overL a b → m ∈ sortedL (overL a b) := fun m hm => (sorted_perm _).symm.subset hm
  by_cases hb : ∃ m ∈ b, m.1 = n
  · obtain ⟨m, hm, rfl⟩ := hb
    rw [get_hit r2.apart hm, if_neg (by rw [may_value (m2 m hm)]; decide), get_hit hap (hin m (by simp [overL, hm]))]
  · have hbn : getB b n = ⟨#[]⟩ := get_miss fun m hm he => hb ⟨m, hm, he⟩
    rw [hbn, if_pos (by simp)]
    by_cases ha : ∃ m ∈ a, m.1 = n
    · obtain ⟨m, hm, rfl⟩ := ha
      have hmiss : missB b m = true := by unfold missB; rw [hbn]; simp
      rw [get_hit r1.apart hm, get_hit hap (hin m (by simp [overL, hm, hmiss]))]
    · rw [get_miss fun m hm he => ha ⟨m, hm, he⟩, get_miss fun m hm he => ?_]
      have := (sorted_perm _).subset hm
      simp only [overL, List.mem_append, List.mem_filter] at this
      rcases this with h | h
      · exact hb ⟨m, h, he⟩
      · exact ha ⟨m, h.1, he⟩

theorem keep_all (a : List Lab) : keepL a (a.map (·.1)) = a := by
  unfold keepL
  rw [List.filter_eq_self]
  exact fun m hm => hasN_iff.2 (List.mem_map.2 ⟨m, hm, rfl⟩)

theorem keep_none (a : List Lab) : keepL a [] = [] := by
  unfold keepL
  rw [List.filter_eq_nil_iff]
  intro m _ h
  have := hasN_iff.1 h
  simp at this

theorem over_miss {a b : List Lab} (h : ∀ m ∈ a, missB b m = true) : overL a b = b ++ a := by
  unfold overL
  rw [List.filter_eq_self.2 h]

/-- Names that the one has not: nor has the other one those of the one. -/
theorem miss_sym {a b : List Lab} (h1 : rightL a = true) (h2 : rightL b = true) (h : ∀ m ∈ a, missB b m = true) : ∀ m ∈ b, missB a m = true := by
  intro m hm
  obtain ⟨m1, r1, _⟩ := right_iff.1 h1
  obtain ⟨m2, r2, _⟩ := right_iff.1 h2
  unfold missB
  rw [get_miss fun x hx he => ?_]
  · simp
  · exact miss_apart m2 (h x hx) hm he.symm

theorem with_apart {a b : List Lab} (h : ∀ m ∈ a, missB b m = true) : withL a b = withL b a := by
  cases h1 : rightL a with
  | false => unfold withL; rw [h1]; simp
  | true =>
    cases h2 : rightL b with
    | false => unfold withL; rw [h2]; simp
    | true =>
      have h' := miss_sym h1 h2 h
      rw [withL_right h1 h2, withL_right h2 h1]
      have hp : (overL a b).Perm (overL b a) := by rw [over_miss h, over_miss h']; exact List.perm_append_comm
      rw [hp.length_eq, sorted_perm_eq (over_apart h1 h2) hp]

theorem keep_apart {a b : List Lab} (h1 : rightL a = true) (h2 : rightL b = true) (h : ∀ m ∈ a, missB b m = true) : keepL (sortedL (overL a b)) (a.map (·.1)) = a := by
  obtain ⟨m1, r1, _⟩ := right_iff.1 h1
  obtain ⟨m2, r2, _⟩ := right_iff.1 h2
  refine rising_unique ((sorted_rising (over_apart h1 h2)).sublist List.filter_sublist) r1 ?_
  refine ((sorted_perm _).filter _).trans ?_
  rw [over_miss h, List.filter_append]
  have e1 : b.filter (fun m => hasN (a.map (·.1)) m.1) = [] := by
    rw [List.filter_eq_nil_iff]
    intro m hm hh
    obtain ⟨x, hx, he⟩ := List.mem_map.1 (hasN_iff.1 hh)
    exact miss_apart m2 (h x hx) hm he.symm
  have e2 : a.filter (fun m => hasN (a.map (·.1)) m.1) = a := keep_all a
  rw [e1, e2, List.nil_append]

theorem keep_right {l : List Lab} (h : rightL l = true) (ns : List ByteArray) : rightL (keepL l ns) = true := by
  obtain ⟨m1, r1, h8⟩ := right_iff.1 h
  refine right_iff.2 ⟨fun m hm => m1 m (List.mem_filter.1 hm).1, r1.sublist List.filter_sublist, ?_⟩
  have := keepL_len l ns
  omega

theorem keep_twice (l : List Lab) (ns : List ByteArray) : keepL (keepL l ns) ns = keepL l ns := by
  unfold keepL
  rw [List.filter_filter]
  congr 1
  funext m
  simp

/-- Labels of x that k has no value of. -/
def restL (x k : List Lab) : List Lab := x.filter (missB k)

theorem rest_keep {x : List Lab} (h : rightL x = true) (ns : List ByteArray) : keepL x ((restL x (keepL x ns)).map (·.1)) = restL x (keepL x ns) := by
  obtain ⟨m1, r1, _⟩ := right_iff.1 h
  unfold keepL restL
  apply List.filter_congr
  intro m hm
  rw [Bool.eq_iff_iff, hasN_iff]
  constructor
  · intro hh
    obtain ⟨y, hy, he⟩ := List.mem_map.1 hh
    obtain ⟨hy1, hy2⟩ := List.mem_filter.1 hy
    have : y = m := by
      obtain ⟨i, hi, rfl⟩ := List.getElem_of_mem hy1
      obtain ⟨j, hj, rfl⟩ := List.getElem_of_mem hm
      have hij : i = j := by
        rcases Nat.lt_trichotomy i j with hlt | he' | hgt
        · exact absurd he (List.pairwise_iff_getElem.1 r1.apart i j hi hj hlt)
        · exact he'
        · exact absurd he.symm (List.pairwise_iff_getElem.1 r1.apart j i hj hi hgt)
      subst hij
      rfl
    rw [← this]
    exact hy2
  · intro hh
    exact List.mem_map.2 ⟨m, List.mem_filter.2 ⟨hm, hh⟩, rfl⟩

theorem rest_with {x : List Lab} (h : rightL x = true) (ns : List ByteArray) : withL (restL x (keepL x ns)) (keepL x ns) = (x, 0) := by
  obtain ⟨m1, r1, h8⟩ := right_iff.1 h
  have hk := keep_right h ns
  have hr : rightL (restL x (keepL x ns)) = true :=
    right_iff.2 ⟨fun m hm => m1 m (List.mem_filter.1 hm).1, r1.sublist List.filter_sublist, Nat.le_trans (List.length_filter_le _ _) h8⟩
  have hov : overL (restL x (keepL x ns)) (keepL x ns) = keepL x ns ++ restL x (keepL x ns) := over_miss fun m hm => (List.mem_filter.1 hm).2
  have hrest : restL x (keepL x ns) = x.filter (fun m => !hasN ns m.1) := by
    unfold restL
    apply List.filter_congr
    intro m hm
    cases hh : hasN ns m.1 with
    | true =>
      have hmk : m ∈ keepL x ns := List.mem_filter.2 ⟨hm, hh⟩
      unfold missB
      rw [get_hit ((right_iff.1 hk).2.1.apart) hmk, may_value (m1 m hm)]
      rfl
    | false =>
      unfold missB
      rw [get_miss fun y hy he => ?_]
      · simp
      · have := (List.mem_filter.1 hy).2
        rw [he, hh] at this
        cases this
  have hp : (overL (restL x (keepL x ns)) (keepL x ns)).Perm x := by
    rw [hov, hrest]
    exact List.filter_append_perm _ _
  have hlen := hp.length_eq
  rw [withL_right hr hk, if_neg (by omega), sorted_perm_eq ((over_apart hr hk)) hp, sorted_id r1]

theorem wrong_perm {l l' : List Lab} (hp : l.Perm l') : wrongB l = wrongB l' := by
  have key : ∀ l : List Lab, wrongB l = true ↔ ∃ m ∈ l, mayB m = false := by
    intro l
    unfold wrongB
    rw [decide_eq_true_iff]
    constructor
    · intro h
      rcases found_cases (fun i => !mayB (nth l i)) l.length with h0 | ⟨i, h0⟩
      · omega
      · obtain ⟨h1, h2, _⟩ := found_min h0
        rw [nth_eq h1] at h2
        exact ⟨_, List.getElem_mem h1, by simpa using h2⟩
    · rintro ⟨m, hm, he⟩
      obtain ⟨i, hi, rfl⟩ := List.getElem_of_mem hm
      obtain ⟨j, h1, _⟩ := found_is (p := fun i => !mayB (nth l i)) hi (by rw [nth_eq hi, he]; rfl)
      rw [h1]; omega
  rw [Bool.eq_iff_iff, key, key]
  exact ⟨fun ⟨m, hm, he⟩ => ⟨m, hp.subset hm, he⟩, fun ⟨m, hm, he⟩ => ⟨m, hp.symm.subset hm, he⟩⟩

theorem new_perm {l l' : List Lab} (hp : l.Perm l') : newL l = newL l' := by
  unfold newL
  rw [hp.length_eq, wrong_perm hp]
  have hr : ∀ {l l' : List Lab}, l.Perm l' → rightL (sortedL l) = true → sortedL l = sortedL l' := fun {l l'} hp h => by
    have hap : Apart l := ((right_iff.1 h).2.1.apart).perm (sorted_perm l)
    exact sorted_perm_eq hap hp
  cases h1 : rightL (sortedL l) with
  | true => rw [← hr hp h1, h1]
  | false =>
    cases h2 : rightL (sortedL l') with
    | true => rw [← hr hp.symm h2, h2] at h1; cases h1
    | false => rfl

theorem new_err (l : List Lab) (h : (newL l).2 ≠ 0) : (newL l).1 = [] := by
  revert h
  unfold newL
  split
  · exact fun _ => rfl
  · split
    · exact fun _ => rfl
    · split
      · exact fun h => absurd rfl h
      · exact fun _ => rfl

theorem new_right {x : List Lab} (h : rightL x = true) : newL x = (x, 0) := by
  obtain ⟨m1, r1, h8⟩ := right_iff.1 h
  unfold newL
  rw [if_neg (by omega), wrong_none m1, sorted_id r1, h]
  rfl

theorem names_succ {l : List Lab} {i : Nat} (hi : i < l.length) : strs ((l.take (i + 1)).map (·.1)) = strs ((l.take i).map (·.1)) ++ [.sc (.string l[i].1)] := by
  rw [List.take_succ_eq_append_getElem hi]
  unfold strs
  rw [List.map_append, List.map_append]
  rfl

theorem names_len (l : List Lab) (i : Nat) : (strs ((l.take i).map (·.1))).length ≤ l.length := by
  rw [strs_len, List.length_map, List.length_take]; omega

theorem with_codes (a b : List Lab) (h : (withL a b).2 ≠ 0) : (withL a b).2 = 1 ∨ (withL a b).2 = 2 := by
  cases h1 : rightL a with
  | false => left; unfold withL; rw [h1]; rfl
  | true =>
    cases h2 : rightL b with
    | false => left; unfold withL; rw [h2]; simp
    | true =>
      rw [withL_right h1 h2] at h ⊢
      split
      · right; rfl
      · rename_i h8; rw [if_neg h8] at h; exact absurd rfl h

theorem with_err (a b : List Lab) (h : (withL a b).2 ≠ 0) : (withL a b).1 = [] := by
  unfold withL at h ⊢
  split
  · rfl
  · rename_i hc; rw [if_neg hc] at h; exact new_err _ h

theorem with_zero {a b : List Lab} (h : (withL a b).2 = 0) : rightL a = true ∧ rightL b = true ∧ withL a b = (sortedL (overL a b), 0) ∧ (overL a b).length ≤ 8 := by
  cases h1 : rightL a with
  | false => unfold withL at h; rw [h1] at h; simp at h
  | true =>
    cases h2 : rightL b with
    | false => unfold withL at h; rw [h2] at h; simp at h
    | true =>
      rw [withL_right h1 h2] at h ⊢
      split
      · rename_i h8; rw [if_pos h8] at h; simp at h
      · exact ⟨rfl, rfl, rfl, by omega⟩

theorem same_refl (a : List Lab) : sameL a a = true := by unfold sameL; exact decide_eq_true rfl

end Go.Proofs.YtjijlmfhnkipmaaDoorPv
