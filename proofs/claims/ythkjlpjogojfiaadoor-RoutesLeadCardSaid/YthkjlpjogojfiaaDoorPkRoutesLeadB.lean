/-
Own texts of the proof, merged: part 2.
-/
import Derived.Test.YthkjlpjogojfiaaDoorPkRoutesLeadA
import Derived.Test.YthkjlpjogojfiaaDoorPvL
import Derived.HandedShaped
namespace Go.Proofs.YthkjlpjogojfiaaDoorPv
open Go
set_option linter.unusedSimpArgs false
set_option linter.unusedVariables false
set_option maxHeartbeats 4000000
set_option maxRecDepth 8000
section
attribute [local go_sem ↓] e_mv e_pick e_bin e_eqs e_beq e_un e_cvi e_str e_s2b e_b2s e_box e_build e_bsl e_ld e_st e_nck e_mkf e_slcS e_slcL e_fa e_fld e_ia e_iaa e_ix e_ixa e_ext e_lenS e_lenL e_mnmx e_app e_appb e_bbx e_msl e_clr e_call e_callv e_icall e_slcA e_mkm e_mput e_mget e_mlen e_mdel pa_t pa_c pa_f slcSP_str hiOf_some hiOf_none loOf_some loOf_none set_eq set_ne
attribute [local go_sem] pv pv1 simple frOf_0 frOf_1 frOf_2 frOf_3 frOf_4 frOf_5 ne_eq not_false_eq_true if_true Bool.false_eq_true if_false pbin punary Option.map_some Option.bind_some pick_and pick_or opt_true Bool.true_and Bool.and_self Bool.and_true Bool.true_or Bool.false_or Bool.not_true Bool.not_false callE pcall_eq List.map_cons List.map_nil List.append_nil List.nil_append List.cons_append mapM_cons' mapM_nil' dep_eq fz_sc fz_sl fz_em fz_fn fz_fp fz_agg fz_tu fz_bx fz_ob Nat.lt_irrefl Nat.zero_lt_one Nat.lt_add_one flat clL cl Bool.or_true okc_sc okc_em okc_sl okc_ob okc_bx okc_fp okc_fn okc_agg okc_ifc cells_agg cells_sc cells_sl cells_em cells_ob cells_fn cells_bx cells_fp List.length_cons List.length_nil Nat.zero_add and_self true_and and_true new_m new_c put_m put_c nil_m nil_c nil_mm new_mm put_mm newM_m newM_c newM_mm putM_m putM_c putM_mm mkeyV_1 mkeyV_2 mapAt_eq deref List.getElem?_cons_zero List.getElem?_cons_succ List.drop_zero List.drop_succ_cons List.take_succ_cons List.take_zero Nat.le_refl false_and and_false decide_true decide_false lenP_em lenP_nil lenP_sl lenP_ob Int.ofNat_zero splice fillP fillE List.modify_zero_cons List.replicate_succ List.replicate_zero List.set_cons_zero List.drop_zero ba_data ba_size ba_toList ba_extract ba_append List.toList_toArray
section
variable {env : Nat → Option Def} {fr : Fr} {σ σ' σ'' : St} {K : Fr → St → Prop} {Q : X → Fr → St → Prop} {p : PV} {bs : List UInt8}
theorem a113n (L : Has la0 env) (C : Has lc env) {n : ByteArray} (hn : Small n) : AV env 113 [.sl [.agg [.sc (.string n), .sc (.string ⟨#[120]⟩)]]] = some (.sc (.bool (nameB n))) := by
  have h := a113 L C (l := [(n, ⟨#[120]⟩)]) (by simp) (by intro m hm; simp only [List.mem_singleton] at hm; subst hm; exact ⟨hn, by show (1 : Nat) ≤ _; decide⟩)
  have hv : valueB ⟨#[120]⟩ = true := by decide +kernel
  have e : rightL [(n, ⟨#[120]⟩)] = nameB n := by
    have h0 : badL [(n, ⟨#[120]⟩)] 0 = !nameB n := by unfold badL; simp [nth, mayB, hv]
    unfold rightL
    cases hb : nameB n with
    | true =>
      rw [hb] at h0
      rw [found_none (n := [(n, (⟨#[120]⟩ : ByteArray))].length) (p := badL [(n, ⟨#[120]⟩)]) (fun j hj => by
        have : j = 0 := by simpa using hj
        subst this; exact h0)]
      rfl
    | false =>
      rw [hb] at h0
      rw [found_hit (n := [(n, (⟨#[120]⟩ : ByteArray))].length) (p := badL [(n, ⟨#[120]⟩)]) (i := 0) (by simp) (fun j hj => by omega) h0]
      rfl
  rw [e] at h
  exact h
theorem sign_find (how : Int) : ∃ r, mfind (.int .i64 how) signsL = some r ∧ r.isSome = (decide (1 ≤ how) && decide (how ≤ 4)) := by
  unfold signsL
  by_cases h1 : how = 1
  · subst h1; exact ⟨some (.sc (.string ⟨#[61]⟩)), by simp [mfind, same1], by decide⟩
  by_cases h2 : how = 2
  · subst h2; exact ⟨some (.sc (.string ⟨#[33, 61]⟩)), by simp [mfind, same1], by decide⟩
  by_cases h3 : how = 3
  · subst h3; exact ⟨some (.sc (.string ⟨#[61, 126]⟩)), by simp [mfind, same1], by decide⟩
  by_cases h4 : how = 4
  · subst h4; exact ⟨some (.sc (.string ⟨#[33, 126]⟩)), by simp [mfind, same1], by decide⟩
  · refine ⟨none, by simp [mfind, same1, h1, h2, h3, h4], ?_⟩
    have : (decide (1 ≤ how) && decide (how ≤ 4)) = false := by
      rw [Bool.and_eq_false_iff, decide_eq_false_iff_not, decide_eq_false_iff_not]; omega
    rw [this]; rfl
theorem a306 (H : Mm4 env) {m : Mt} (hm : m.Held) : AV env 306 [mt m] = some (.sc (.bool (rightM m))) := by
  obtain ⟨n, how, ws⟩ := m
  obtain ⟨hn, hw, hws⟩ := hm
  simp only at hn hw hws
  have hll := strs_len ws
  have h113 := a113n H.l H.c hn
  have hmt : mt ⟨n, how, ws⟩ = .agg [.sc (.string n), .sc (.int .i64 how), .sl (strs ws)] := rfl
  have hmost : ∀ (fr : Fr), fr 1 = .bx 2000001 0 3 0 0 → fr 3 = .sc (.int .i64 (mostM how : Int)) → True := fun _ _ _ => trivial
  rw [hmt]
  refine AV_wp (H.a (306, d306) (by simp [lka])) rfl ?_
  (repeat' first
    | refine w_seq ?_ | refine w_rg ?_ | refine wo_nil ?_ | refine g_skU ?_ | refine g_skT ?_ | refine g_skF ?_
    | ((first | apply s_plain | apply s_void | apply s_guard | apply g_goT | apply g_goF); · simp only [go_sem, Nat.reduceEqDiff, Nat.reduceAdd, Nat.reduceLeDiff]; (first | done | rfl))
    | ((first | apply g_T | apply g_F | apply g_gT | apply g_gF); · intro q1_; (first | intro q2_ | have q2_ := q1_); simp only [go_sem, Nat.reduceEqDiff, Nat.reduceAdd, Nat.reduceLeDiff, q1_, q2_]; (first | done | rfl))
    | fail
    )
  refine w_mid (fun fr σ => (fr 1 = .bx 2000001 0 3 0 0 ∧ fr 3 = .sc (.int .i64 (mostM how : Int))) ∧ σ.m 2000001 0 = some ⟨3, [.agg [.sc (.string n), .sc (.int .i64 how), .sl (strs ws)]], true, true⟩) ?_ ?_
  · (repeat' first
    | refine w_seq ?_ | refine w_rg ?_ | refine wo_nil ?_ | refine g_skU ?_ | refine g_skT ?_ | refine g_skF ?_
    | ((first | apply s_plain | apply s_void | apply s_guard | apply g_goT | apply g_goF); · simp only [go_sem, Nat.reduceEqDiff, Nat.reduceAdd, Nat.reduceLeDiff]; (first | done | rfl))
    | ((first | apply g_T | apply g_F | apply g_gT | apply g_gF); · intro q1_; (first | intro q2_ | have q2_ := q1_); simp only [go_sem, Nat.reduceEqDiff, Nat.reduceAdd, Nat.reduceLeDiff, q1_, q2_]; (first | done | rfl))
    | fail
    )
    refine w_condB (by simp only [go_sem, Nat.reduceEqDiff, Nat.reduceAdd, Nat.reduceLeDiff]; first | done | rfl) (fun hc => ?_) (fun hc => ?_)
    · (repeat' first
    | refine w_seq ?_ | refine w_rg ?_ | refine wo_nil ?_ | refine g_skU ?_ | refine g_skT ?_ | refine g_skF ?_
    | ((first | apply s_plain | apply s_void | apply s_guard | apply g_goT | apply g_goF); · simp only [go_sem, Nat.reduceEqDiff, Nat.reduceAdd, Nat.reduceLeDiff]; (first | done | rfl))
    | ((first | apply g_T | apply g_F | apply g_gT | apply g_gF); · intro q1_; (first | intro q2_ | have q2_ := q1_); simp only [go_sem, Nat.reduceEqDiff, Nat.reduceAdd, Nat.reduceLeDiff, q1_, q2_]; (first | done | rfl))
    | (apply w_condX; · simp only [go_sem, Nat.reduceEqDiff, Nat.reduceAdd, Nat.reduceLeDiff]; (first | done | rfl)); (first | refine wcd_T ?_ | refine wcd_F ?_)
    | refine w_skip ?_ | refine w_exit ?_ | refine w_ret ?_
    | fail
    )
      exact ⟨rfl, ⟨by simp only [go_sem, Nat.reduceEqDiff, Nat.reduceAdd, Nat.reduceLeDiff], by simp only [go_sem, Nat.reduceEqDiff, Nat.reduceAdd, Nat.reduceLeDiff]; unfold mostM; rw [if_pos (by simpa using hc)]; rfl⟩, by simp only [go_sem, Nat.reduceEqDiff, Nat.reduceAdd, Nat.reduceLeDiff]⟩
    · (repeat' first
    | refine w_seq ?_ | refine w_rg ?_ | refine wo_nil ?_ | refine g_skU ?_ | refine g_skT ?_ | refine g_skF ?_
    | ((first | apply s_plain | apply s_void | apply s_guard | apply g_goT | apply g_goF); · simp only [go_sem, Nat.reduceEqDiff, Nat.reduceAdd, Nat.reduceLeDiff]; (first | done | rfl))
    | ((first | apply g_T | apply g_F | apply g_gT | apply g_gF); · intro q1_; (first | intro q2_ | have q2_ := q1_); simp only [go_sem, Nat.reduceEqDiff, Nat.reduceAdd, Nat.reduceLeDiff, q1_, q2_]; (first | done | rfl))
    | (apply w_condX; · simp only [go_sem, Nat.reduceEqDiff, Nat.reduceAdd, Nat.reduceLeDiff]; (first | done | rfl)); (first | refine wcd_T ?_ | refine wcd_F ?_)
    | refine w_skip ?_ | refine w_exit ?_ | refine w_ret ?_
    | fail
    )
      exact ⟨rfl, ⟨by simp only [go_sem, Nat.reduceEqDiff, Nat.reduceAdd, Nat.reduceLeDiff], by simp only [go_sem, Nat.reduceEqDiff, Nat.reduceAdd, Nat.reduceLeDiff]; unfold mostM; rw [if_neg (by simpa using hc)]; rfl⟩, by simp only [go_sem, Nat.reduceEqDiff, Nat.reduceAdd, Nat.reduceLeDiff]⟩
  rintro fr1 σ1 ⟨⟨g1, g3⟩, hm1⟩
  try simp only []
  (repeat' first
    | refine w_seq ?_ | refine w_rg ?_ | refine wo_nil ?_ | refine g_skU ?_ | refine g_skT ?_ | refine g_skF ?_
    | ((first | apply s_plain | apply s_void | apply s_guard | apply g_goT | apply g_goF); · simp only [go_sem, Nat.reduceEqDiff, Nat.reduceAdd, Nat.reduceLeDiff, g1, hm1, hll]; (first | done | rfl))
    | ((first | apply g_T | apply g_F | apply g_gT | apply g_gF); · intro q1_; (first | intro q2_ | have q2_ := q1_); simp only [go_sem, Nat.reduceEqDiff, Nat.reduceAdd, Nat.reduceLeDiff, g1, hm1, hll, q1_, q2_]; (first | done | rfl))
    | (apply w_condX; · simp only [go_sem, Nat.reduceEqDiff, Nat.reduceAdd, Nat.reduceLeDiff, g1, hm1, hll]; (first | done | rfl)); (first | refine wcd_T ?_ | refine wcd_F ?_)
    | refine w_skip ?_ | refine w_exit ?_ | refine w_ret ?_
    | fail
    )
  refine w_block (w_rangeF ws.length hw (fun i fr σ => σ1 = σ ∧ ∀ j, j < i → badW wordM ws j = false) ⟨by decide, rfl, rfl⟩ (fun _ _ _ _ h => ⟨h, h, h⟩) ⟨rfl, fun j hj => by omega⟩ (by simp only [go_sem, Nat.reduceEqDiff, Nat.reduceAdd, Nat.reduceLeDiff]; first | done | rfl) (by simp only [go_sem, Nat.reduceEqDiff, Nat.reduceAdd, Nat.reduceLeDiff, hll]; first | done | rfl) ?_ ?_)
  · rintro i fr2 _ hi ⟨rfl, h3⟩ hti hfr
    have f0_1 := hfr 1 rfl; have f0_12 := hfr 12 rfl; have f0_13 := hfr 13 rfl; try (simp only [go_sem, Nat.reduceEqDiff, Nat.reduceAdd, Nat.reduceLeDiff, g1] at f0_1); try (simp only [go_sem, Nat.reduceEqDiff, Nat.reduceAdd, Nat.reduceLeDiff, g1] at f0_12); try (simp only [go_sem, Nat.reduceEqDiff, Nat.reduceAdd, Nat.reduceLeDiff, g1] at f0_13)
    have hx := List.getElem?_eq_getElem hi
    have hy := strs_at hx
    have hni := nthS_eq hi
    have e1 : (0 : Int) ≤ (i : Int) ∧ (i : Int) < (ws.length : Int) := by omega
    have hwd := a320 H.w H.a (hws _ (List.getElem_mem hi))
    refine w_block ?_
    (repeat' first
    | refine w_seq ?_ | refine w_rg ?_ | refine wo_nil ?_ | refine g_skU ?_ | refine g_skT ?_ | refine g_skF ?_
    | ((first | apply s_plain | apply s_void | apply s_guard | apply g_goT | apply g_goF); · simp only [go_sem, Nat.reduceEqDiff, Nat.reduceAdd, Nat.reduceLeDiff, f0_1, f0_12, f0_13, hti, e1, hll, Int.toNat_natCast, hy, hwd, hm1]; (first | done | rfl))
    | ((first | apply g_T | apply g_F | apply g_gT | apply g_gF); · intro q1_; (first | intro q2_ | have q2_ := q1_); simp only [go_sem, Nat.reduceEqDiff, Nat.reduceAdd, Nat.reduceLeDiff, f0_1, f0_12, f0_13, hti, e1, hll, Int.toNat_natCast, hy, hwd, hm1, q1_, q2_]; (first | done | rfl))
    | fail
    )
    have hx' : ws[i - 1]? = some (nthS ws (i - 1)) := by
      have : i - 1 < ws.length := by omega
      unfold nthS; rw [List.getElem?_eq_getElem this]; rfl
    have hy' := strs_at hx'
    refine g_gT (v := .fp (strs ws) (i - 1) 0) (by
      intro hb hc
      have hpos : 0 < i := by simpa using hc
      have e2 : IntKind.i64.wrap ((i : Int) - 1) = ((i - 1 : Nat) : Int) := by rw [IntKind.wrap_i64]; omega
      have e3 : (0 : Int) ≤ ((i - 1 : Nat) : Int) ∧ ((i - 1 : Nat) : Int) < (ws.length : Int) := by omega
      simp only [go_sem, Nat.reduceEqDiff, Nat.reduceAdd, Nat.reduceLeDiff, f0_1, f0_12, f0_13, hb, hc, e2, e3, hll, Int.toNat_natCast, hy', hm1]) ?_
    (repeat' first
    | refine w_seq ?_ | refine w_rg ?_ | refine wo_nil ?_ | refine g_skU ?_ | refine g_skT ?_ | refine g_skF ?_
    | ((first | apply s_plain | apply s_void | apply s_guard | apply g_goT | apply g_goF); · simp only [go_sem, Nat.reduceEqDiff, Nat.reduceAdd, Nat.reduceLeDiff, f0_1, f0_12, f0_13, hy', hm1]; (first | done | rfl))
    | ((first | apply g_T | apply g_F | apply g_gT | apply g_gF); · intro q1_; (first | intro q2_ | have q2_ := q1_); simp only [go_sem, Nat.reduceEqDiff, Nat.reduceAdd, Nat.reduceLeDiff, f0_1, f0_12, f0_13, hy', hm1, q1_, q2_]; (first | done | rfl))
    | fail
    )
    have hbad : badW wordM ws i = (!wordM ws[i] || (decide ((i : Int) > 0) && !Op.bytesLess (nthS ws (i - 1)).toList ws[i].toList)) := by unfold badW lessB; rw [hni]
    cases hpi : badW wordM ws i with
    | true =>
      refine w_condT (by simp only [go_sem, Nat.reduceEqDiff, Nat.reduceAdd, Nat.reduceLeDiff]; rw [hbad] at hpi; exact congrArg (fun b => PV.sc (.bool b)) hpi) ?_
      (repeat' first
    | refine w_seq ?_ | refine w_rg ?_ | refine wo_nil ?_ | refine g_skU ?_ | refine g_skT ?_ | refine g_skF ?_
    | ((first | apply s_plain | apply s_void | apply s_guard | apply g_goT | apply g_goF); · simp only [go_sem, Nat.reduceEqDiff, Nat.reduceAdd, Nat.reduceLeDiff]; (first | done | rfl))
    | ((first | apply g_T | apply g_F | apply g_gT | apply g_gF); · intro q1_; (first | intro q2_ | have q2_ := q1_); simp only [go_sem, Nat.reduceEqDiff, Nat.reduceAdd, Nat.reduceLeDiff, q1_, q2_]; (first | done | rfl))
    | (apply w_condX; · simp only [go_sem, Nat.reduceEqDiff, Nat.reduceAdd, Nat.reduceLeDiff]; (first | done | rfl)); (first | refine wcd_T ?_ | refine wcd_F ?_)
    | refine w_skip ?_ | refine w_exit ?_ | refine w_ret ?_
    | fail
    )
      have hr : rightM ⟨n, how, ws⟩ = false := by unfold rightM; rw [rise_hit hi hpi]; rfl
      exact ⟨by first | exact .inr rfl | exact .inr trivial | exact .inl rfl, by simp only [go_sem, Nat.reduceEqDiff, Nat.reduceAdd, Nat.reduceLeDiff, retOf, resOf, hr]; first | done | rfl⟩
    | false =>
      refine w_condF (by simp only [go_sem, Nat.reduceEqDiff, Nat.reduceAdd, Nat.reduceLeDiff]; rw [hbad] at hpi; exact congrArg (fun b => PV.sc (.bool b)) hpi) ?_
      (repeat' first
    | refine w_seq ?_ | refine w_rg ?_ | refine wo_nil ?_ | refine g_skU ?_ | refine g_skT ?_ | refine g_skF ?_
    | ((first | apply s_plain | apply s_void | apply s_guard | apply g_goT | apply g_goF); · simp only [go_sem, Nat.reduceEqDiff, Nat.reduceAdd, Nat.reduceLeDiff]; (first | done | rfl))
    | ((first | apply g_T | apply g_F | apply g_gT | apply g_gF); · intro q1_; (first | intro q2_ | have q2_ := q1_); simp only [go_sem, Nat.reduceEqDiff, Nat.reduceAdd, Nat.reduceLeDiff, q1_, q2_]; (first | done | rfl))
    | (apply w_condX; · simp only [go_sem, Nat.reduceEqDiff, Nat.reduceAdd, Nat.reduceLeDiff]; (first | done | rfl)); (first | refine wcd_T ?_ | refine wcd_F ?_)
    | refine w_skip ?_ | refine w_exit ?_ | refine w_ret ?_
    | fail
    )
      refine ⟨rfl, fun j hj => ?_⟩
      by_cases hji : j = i
      · rw [hji]; exact hpi
      · exact h3 j (by omega)
  · rintro fr2 _ ⟨rfl, h3⟩ hfr
    have e0_1 := hfr 1 rfl; have e0_3 := hfr 3 rfl; try (simp only [go_sem, Nat.reduceEqDiff, Nat.reduceAdd, Nat.reduceLeDiff, g1, g3] at e0_1); try (simp only [go_sem, Nat.reduceEqDiff, Nat.reduceAdd, Nat.reduceLeDiff, g1, g3] at e0_3)
    try simp only [if_true]
    obtain ⟨r, hr1, hr2⟩ := sign_find how
    obtain ⟨τ, hτ, hτm, hτM⟩ := a321 H.a (σ := σ1)
    have hmτ : τ.m 2000001 0 = some ⟨3, [.agg [.sc (.string n), .sc (.int .i64 how), .sl (strs ws)]], true, true⟩ := by rw [hτm]; exact hm1
    have hrise := rise_all (ok := wordM) h3
    (repeat' first
    | refine w_seq ?_ | refine w_rg ?_ | refine wo_nil ?_ | refine g_skU ?_ | refine g_skT ?_ | refine g_skF ?_
    | ((first | apply s_plain | apply s_void | apply s_guard | apply g_goT | apply g_goF); · simp only [go_sem, Nat.reduceEqDiff, Nat.reduceAdd, Nat.reduceLeDiff]; (first | done | rfl))
    | ((first | apply g_T | apply g_F | apply g_gT | apply g_gF); · intro q1_; (first | intro q2_ | have q2_ := q1_); simp only [go_sem, Nat.reduceEqDiff, Nat.reduceAdd, Nat.reduceLeDiff, q1_, q2_]; (first | done | rfl))
    | (apply w_condX; · simp only [go_sem, Nat.reduceEqDiff, Nat.reduceAdd, Nat.reduceLeDiff]; (first | done | rfl)); (first | refine wcd_T ?_ | refine wcd_F ?_)
    | refine w_skip ?_ | refine w_exit ?_ | refine w_ret ?_
    | fail
    )
    apply w_rg2
    · (repeat' first
    | refine w_seq ?_ | refine w_rg ?_ | refine wo_nil ?_ | refine g_skU ?_ | refine g_skT ?_ | refine g_skF ?_
    | ((first | apply s_plain | apply s_void | apply s_guard | apply g_goT | apply g_goF); · simp only [go_sem, Nat.reduceEqDiff, Nat.reduceAdd, Nat.reduceLeDiff, e0_1, e0_3, g1, g3, hm1, hτ, hmτ, hτM, hr1, hr2]; (first | done | rfl))
    | ((first | apply g_T | apply g_F | apply g_gT | apply g_gF); · intro q1_; (first | intro q2_ | have q2_ := q1_); simp only [go_sem, Nat.reduceEqDiff, Nat.reduceAdd, Nat.reduceLeDiff, e0_1, e0_3, g1, g3, hm1, hτ, hmτ, hτM, hr1, hr2, q1_, q2_]; (first | done | rfl))
    | fail
    )
      exact ⟨rfl, rfl⟩
    · (repeat' first
    | refine w_seq ?_ | refine w_rg ?_ | refine wo_nil ?_ | refine g_skU ?_ | refine g_skT ?_ | refine g_skF ?_
    | ((first | apply s_plain | apply s_void | apply s_guard | apply g_goT | apply g_goF); · simp only [go_sem, Nat.reduceEqDiff, Nat.reduceAdd, Nat.reduceLeDiff, e0_1, e0_3, g1, g3, hm1, hτ, hmτ, hτM, hr1, hr2]; (first | done | rfl))
    | ((first | apply g_T | apply g_F | apply g_gT | apply g_gF); · intro q1_; (first | intro q2_ | have q2_ := q1_); simp only [go_sem, Nat.reduceEqDiff, Nat.reduceAdd, Nat.reduceLeDiff, e0_1, e0_3, g1, g3, hm1, hτ, hmτ, hτM, hr1, hr2, q1_, q2_]; (first | done | rfl))
    | fail
    )
      refine ⟨?_, rfl⟩
      rw [set_swap _ (show (38 : Nat) ≠ 40 by decide)]
    · cases hb : (decide (1 ≤ how) && decide (how ≤ 4)) with
      | true =>
        (repeat' first
    | refine w_seq ?_ | refine w_rg ?_ | refine wo_nil ?_ | refine g_skU ?_ | refine g_skT ?_ | refine g_skF ?_
    | ((first | apply s_plain | apply s_void | apply s_guard | apply g_goT | apply g_goF); · simp only [go_sem, Nat.reduceEqDiff, Nat.reduceAdd, Nat.reduceLeDiff, e0_1, e0_3, g1, g3, hmτ, h113, hll, hb]; (first | done | rfl))
    | ((first | apply g_T | apply g_F | apply g_gT | apply g_gF); · intro q1_; (first | intro q2_ | have q2_ := q1_); simp only [go_sem, Nat.reduceEqDiff, Nat.reduceAdd, Nat.reduceLeDiff, e0_1, e0_3, g1, g3, hmτ, h113, hll, hb, q1_, q2_]; (first | done | rfl))
    | (apply w_condX; · simp only [go_sem, Nat.reduceEqDiff, Nat.reduceAdd, Nat.reduceLeDiff, e0_1, e0_3, g1, g3, hmτ, h113, hll, hb]; (first | done | rfl)); (first | refine wcd_T ?_ | refine wcd_F ?_)
    | refine w_skip ?_ | refine w_exit ?_ | refine w_ret ?_
    | fail
    )
        have hr : rightM ⟨n, how, ws⟩ = (nameB n && decide ((ws.length : Int) ≥ 1) && decide ((ws.length : Int) ≤ (mostM how : Int))) := by
          unfold rightM
          rw [hrise, hb]
          simp only [Bool.true_and]
          congr 1
          · congr 1
            rw [decide_eq_decide]; omega
          · rw [decide_eq_decide]; omega
        exact ⟨by first | exact .inr rfl | exact .inr trivial | exact .inl rfl, by simp only [go_sem, Nat.reduceEqDiff, Nat.reduceAdd, Nat.reduceLeDiff, retOf, resOf, hr]; first | done | rfl⟩
      | false =>
        (repeat' first
    | refine w_seq ?_ | refine w_rg ?_ | refine wo_nil ?_ | refine g_skU ?_ | refine g_skT ?_ | refine g_skF ?_
    | ((first | apply s_plain | apply s_void | apply s_guard | apply g_goT | apply g_goF); · simp only [go_sem, Nat.reduceEqDiff, Nat.reduceAdd, Nat.reduceLeDiff, e0_1, e0_3, g1, g3, hmτ, h113, hll, hb]; (first | done | rfl))
    | ((first | apply g_T | apply g_F | apply g_gT | apply g_gF); · intro q1_; (first | intro q2_ | have q2_ := q1_); simp only [go_sem, Nat.reduceEqDiff, Nat.reduceAdd, Nat.reduceLeDiff, e0_1, e0_3, g1, g3, hmτ, h113, hll, hb, q1_, q2_]; (first | done | rfl))
    | (apply w_condX; · simp only [go_sem, Nat.reduceEqDiff, Nat.reduceAdd, Nat.reduceLeDiff, e0_1, e0_3, g1, g3, hmτ, h113, hll, hb]; (first | done | rfl)); (first | refine wcd_T ?_ | refine wcd_F ?_)
    | refine w_skip ?_ | refine w_exit ?_ | refine w_ret ?_
    | fail
    )
        have hr : rightM ⟨n, how, ws⟩ = false := by unfold rightM; rw [hrise, hb]; rfl
        exact ⟨by first | exact .inr rfl | exact .inr trivial | exact .inl rfl, by simp only [go_sem, Nat.reduceEqDiff, Nat.reduceAdd, Nat.reduceLeDiff, retOf, resOf, hr]; first | done | rfl⟩
theorem a305 (H : Mm4 env) {m : Mt} (hm : m.Held) : AV env 305 [mt m] = some (.sc (.bool (!rightM m))) := by
  have h := a306 H hm
  refine AV_wp (H.a (305, d305) (by simp [lka])) rfl ?_
  unfold mt at h ⊢
  (repeat' first
    | refine w_seq ?_ | refine w_rg ?_ | refine wo_nil ?_ | refine g_skU ?_ | refine g_skT ?_ | refine g_skF ?_
    | ((first | apply s_plain | apply s_void | apply s_guard | apply g_goT | apply g_goF); · simp only [go_sem, Nat.reduceEqDiff, Nat.reduceAdd, Nat.reduceLeDiff, h]; (first | done | rfl))
    | ((first | apply g_T | apply g_F | apply g_gT | apply g_gF); · intro q1_; (first | intro q2_ | have q2_ := q1_); simp only [go_sem, Nat.reduceEqDiff, Nat.reduceAdd, Nat.reduceLeDiff, h, q1_, q2_]; (first | done | rfl))
    | (apply w_condX; · simp only [go_sem, Nat.reduceEqDiff, Nat.reduceAdd, Nat.reduceLeDiff, h]; (first | done | rfl)); (first | refine wcd_T ?_ | refine wcd_F ?_)
    | refine w_skip ?_ | refine w_exit ?_ | refine w_ret ?_
    | fail
    )
  exact ⟨.inr rfl, by simp only [go_sem, Nat.reduceEqDiff, Nat.reduceAdd, Nat.reduceLeDiff, retOf, resOf]⟩
theorem found_not {α : Type} (l : List α) (ok : α → Bool) (p : Nat → Bool) (hp : ∀ (i : Nat) x, l[i]? = some x → p i = !ok x) : decide (found p l.length ≥ 0) = !l.all ok := by
  cases h : l.all ok with
  | true =>
    rw [found_none (fun j hj => by
      have hx := List.getElem?_eq_getElem hj
      rw [hp j _ hx, List.all_eq_true.1 h _ (List.getElem_mem hj)]; rfl)]
    rfl
  | false =>
    obtain ⟨x, hx, hb⟩ := List.all_eq_false.1 h
    obtain ⟨i, hi⟩ := List.getElem?_of_mem hx
    have hlt := (List.getElem?_eq_some_iff.1 hi).1
    have : found p l.length ≥ 0 := by
      rcases Int.lt_or_le (found p l.length) 0 with hneg | hpos
      · exfalso
        have hall : ∀ j, j < l.length → p j = false := by
          intro j hj
          unfold found at hneg
          cases hf : (List.range l.length).find? p with
          | none =>
            rw [List.find?_range_eq_none] at hf
            simpa using hf j hj
          | some k => rw [hf] at hneg; simp at hneg; omega
        have h2 := hall i hlt
        rw [hp i x hi] at h2
        simp at h2
        rw [h2] at hb
        exact hb rfl
      · exact hpos
    rw [decide_eq_true this]; rfl
theorem a307 (H : Mm4 env) {l : List Mt} {k : Nat} {b : List PV} (ok : Mt → Bool) (hn : l.length ≤ 9223372036854775807) (hz : ∀ σ, b.mapM (fz σ 11) = some b) (hz' : ∀ σ, b.mapM (fz σ 12) = some b)
    (hp : ∀ m ∈ l, AV env k (mt m :: b) = some (.sc (.bool (!ok m)))) : AV env 307 [.sl (mts l), .fn k [] b] = some (.sc (.bool (!l.all ok))) := by
  have hll := mts_len l
  have h322 : AV env 322 [.sl (mts l), .fn k [] b] = some (.sc (.int .i64 (found (fun i => !ok (l.getD i ⟨⟨#[]⟩, 0, []⟩)) l.length))) := by
    rw [← hll]
    refine idxS (es := 3) (k := k) (a := []) (b := b) (p := fun i => !ok (l.getD i ⟨⟨#[]⟩, 0, []⟩)) (by rw [← dIF_3]; exact H.a (322, d322) (by simp [lka])) (by rw [hll]; exact hn) (fun i e h => ?_) (fun i e h σ => ?_) (fun i e h => ?_)
    · unfold mts at h
      rw [List.getElem?_map] at h
      obtain ⟨m, _, rfl⟩ := Option.map_eq_some_iff.1 h
      exact ⟨_, rfl, rfl⟩
    · unfold mts at h
      rw [List.getElem?_map] at h
      obtain ⟨m, _, rfl⟩ := Option.map_eq_some_iff.1 h
      rw [List.nil_append, List.singleton_append, mapM_cons', hz' σ]
      rfl
    · unfold mts at h
      rw [List.getElem?_map] at h
      obtain ⟨m, hm, rfl⟩ := Option.map_eq_some_iff.1 h
      have hg : l.getD i ⟨⟨#[]⟩, 0, []⟩ = m := by rw [List.getD_eq_getElem?_getD, hm]; rfl
      simp only [hg]
      exact hp m (List.mem_of_getElem? hm)
  have hf := found_not l ok (fun i => !ok (l.getD i ⟨⟨#[]⟩, 0, []⟩)) (fun i x hx => by rw [List.getD_eq_getElem?_getD, hx]; rfl)
  refine AV_wp (H.a (307, d307) (by simp [lka])) rfl ?_
  (repeat' first
    | refine w_seq ?_ | refine w_rg ?_ | refine wo_nil ?_ | refine g_skU ?_ | refine g_skT ?_ | refine g_skF ?_
    | ((first | apply s_plain | apply s_void | apply s_guard | apply g_goT | apply g_goF); · simp only [go_sem, Nat.reduceEqDiff, Nat.reduceAdd, Nat.reduceLeDiff, h322, hz]; (first | done | rfl))
    | ((first | apply g_T | apply g_F | apply g_gT | apply g_gF); · intro q1_; (first | intro q2_ | have q2_ := q1_); simp only [go_sem, Nat.reduceEqDiff, Nat.reduceAdd, Nat.reduceLeDiff, h322, hz, q1_, q2_]; (first | done | rfl))
    | (apply w_condX; · simp only [go_sem, Nat.reduceEqDiff, Nat.reduceAdd, Nat.reduceLeDiff, h322, hz]; (first | done | rfl)); (first | refine wcd_T ?_ | refine wcd_F ?_)
    | refine w_skip ?_ | refine w_exit ?_ | refine w_ret ?_
    | fail
    )
  exact ⟨.inr rfl, by simp only [go_sem, Nat.reduceEqDiff, Nat.reduceAdd, Nat.reduceLeDiff, retOf, resOf, hf]⟩
theorem hasN_eq (l : List ByteArray) (s : ByteArray) : hasN l s = memB l s := by
  unfold hasN
  have := found_not l (fun x => !decide (s = x)) (isS l s) (fun i x hx => by
    unfold isS nthS
    rw [hx, Option.getD_some, ba_beq, Bool.not_not])
  rw [this]
  unfold memB
  rw [List.not_all_eq_any_not]
  congr 1
  funext y
  exact Bool.not_not _
theorem a308 (H : Mm4 env) {m : Mt} {l : List Lab} (hm : m.Held) (hl : l.length ≤ 9223372036854775807) : AV env 308 [mt m, .fp [.sl (labs l)] 0 0] = some (.sc (.bool (!holdsM l m))) := by
  have h1 := a114 H.c (l := l) (n := m.n) hl
  have h2 := a50 H.x (l := m.ws) hm.ws (getB l m.n)
  rw [hasN_eq] at h2
  refine AV_wp (H.a (308, d308) (by simp [lka])) rfl ?_
  unfold mt
  (repeat' first
    | refine w_seq ?_ | refine w_rg ?_ | refine wo_nil ?_ | refine g_skU ?_ | refine g_skT ?_ | refine g_skF ?_
    | ((first | apply s_plain | apply s_void | apply s_guard | apply g_goT | apply g_goF); · simp only [go_sem, Nat.reduceEqDiff, Nat.reduceAdd, Nat.reduceLeDiff, h1, h2]; (first | done | rfl))
    | ((first | apply g_T | apply g_F | apply g_gT | apply g_gF); · intro q1_; (first | intro q2_ | have q2_ := q1_); simp only [go_sem, Nat.reduceEqDiff, Nat.reduceAdd, Nat.reduceLeDiff, h1, h2, q1_, q2_]; (first | done | rfl))
    | (apply w_condX; · simp only [go_sem, Nat.reduceEqDiff, Nat.reduceAdd, Nat.reduceLeDiff, h1, h2]; (first | done | rfl)); (first | refine wcd_T ?_ | refine wcd_F ?_)
    | refine w_skip ?_ | refine w_exit ?_ | refine w_ret ?_
    | fail
    )
  have e : (!holdsM l m) = (memB m.ws (getB l m.n) == (m.how == 2 || m.how == 4)) := by unfold holdsM; rw [Bool.not_not]
  exact ⟨by first | exact .inr rfl | exact .inr trivial | exact .inl rfl, by simp only [go_sem, Nat.reduceEqDiff, Nat.reduceAdd, Nat.reduceLeDiff, retOf, resOf, e, Bool.bne_false]; first | done | rfl⟩
theorem a299 (H : Mm4 env) {ms : List Mt} {l : List Lab} (hms : ms.length ≤ 9223372036854775807) (hm : ∀ m ∈ ms, m.Held) (hl : l.length ≤ 9223372036854775807) (hs : Smalls l) :
    AV env 299 [.sl (labs l), .sl (mts ms)] = some (if rightL l && ms.all rightM then .tu [.sc (.bool (holdsA l ms)), .sc (.int .i64 0)] else .tu [.sc (.bool false), .sc (.int .i64 1)]) := by
  have h1 := a113 H.l H.c hl hs
  have h2 := a307 H (l := ms) (k := 305) (b := []) rightM hms (fun _ => rfl) (fun _ => rfl) (fun m h => a305 H (hm m h))
  have h3 := a307 H (l := ms) (k := 308) (b := [.fp [.sl (labs l)] 0 0]) (holdsM l) hms (fun _ => rfl) (fun _ => rfl) (fun m h => a308 H (hm m h) hl)
  refine AV_wp (H.a (299, d299) (by simp [lka])) rfl ?_
  (repeat' first
    | refine w_seq ?_ | refine w_rg ?_ | refine wo_nil ?_ | refine g_skU ?_ | refine g_skT ?_ | refine g_skF ?_
    | ((first | apply s_plain | apply s_void | apply s_guard | apply g_goT | apply g_goF); · simp only [go_sem, Nat.reduceEqDiff, Nat.reduceAdd, Nat.reduceLeDiff, h1, h2]; (first | done | rfl))
    | ((first | apply g_T | apply g_F | apply g_gT | apply g_gF); · intro q1_; (first | intro q2_ | have q2_ := q1_); simp only [go_sem, Nat.reduceEqDiff, Nat.reduceAdd, Nat.reduceLeDiff, h1, h2, q1_, q2_]; (first | done | rfl))
    | fail
    )
  cases hr : rightL l with
  | false =>
    (repeat' first
    | refine w_seq ?_ | refine w_rg ?_ | refine wo_nil ?_ | refine g_skU ?_ | refine g_skT ?_ | refine g_skF ?_
    | ((first | apply s_plain | apply s_void | apply s_guard | apply g_goT | apply g_goF); · simp only [go_sem, Nat.reduceEqDiff, Nat.reduceAdd, Nat.reduceLeDiff, hr]; (first | done | rfl))
    | ((first | apply g_T | apply g_F | apply g_gT | apply g_gF); · intro q1_; (first | intro q2_ | have q2_ := q1_); simp only [go_sem, Nat.reduceEqDiff, Nat.reduceAdd, Nat.reduceLeDiff, hr, q1_, q2_]; (first | done | rfl))
    | (apply w_condX; · simp only [go_sem, Nat.reduceEqDiff, Nat.reduceAdd, Nat.reduceLeDiff, hr]; (first | done | rfl)); (first | refine wcd_T ?_ | refine wcd_F ?_)
    | refine w_skip ?_ | refine w_exit ?_ | refine w_ret ?_
    | fail
    )
    exact ⟨.inr rfl, by simp only [go_sem, Nat.reduceEqDiff, Nat.reduceAdd, Nat.reduceLeDiff, retOf, resOf, Bool.false_and]⟩
  | true =>
    cases hm2 : ms.all rightM with
    | false =>
      (repeat' first
    | refine w_seq ?_ | refine w_rg ?_ | refine wo_nil ?_ | refine g_skU ?_ | refine g_skT ?_ | refine g_skF ?_
    | ((first | apply s_plain | apply s_void | apply s_guard | apply g_goT | apply g_goF); · simp only [go_sem, Nat.reduceEqDiff, Nat.reduceAdd, Nat.reduceLeDiff, hr, hm2]; (first | done | rfl))
    | ((first | apply g_T | apply g_F | apply g_gT | apply g_gF); · intro q1_; (first | intro q2_ | have q2_ := q1_); simp only [go_sem, Nat.reduceEqDiff, Nat.reduceAdd, Nat.reduceLeDiff, hr, hm2, q1_, q2_]; (first | done | rfl))
    | (apply w_condX; · simp only [go_sem, Nat.reduceEqDiff, Nat.reduceAdd, Nat.reduceLeDiff, hr, hm2]; (first | done | rfl)); (first | refine wcd_T ?_ | refine wcd_F ?_)
    | refine w_skip ?_ | refine w_exit ?_ | refine w_ret ?_
    | fail
    )
      exact ⟨.inr rfl, by simp only [go_sem, Nat.reduceEqDiff, Nat.reduceAdd, Nat.reduceLeDiff, retOf, resOf, Bool.and_false]⟩
    | true =>
      (repeat' first
    | refine w_seq ?_ | refine w_rg ?_ | refine wo_nil ?_ | refine g_skU ?_ | refine g_skT ?_ | refine g_skF ?_
    | ((first | apply s_plain | apply s_void | apply s_guard | apply g_goT | apply g_goF); · simp only [go_sem, Nat.reduceEqDiff, Nat.reduceAdd, Nat.reduceLeDiff, hr, hm2, h3]; (first | done | rfl))
    | ((first | apply g_T | apply g_F | apply g_gT | apply g_gF); · intro q1_; (first | intro q2_ | have q2_ := q1_); simp only [go_sem, Nat.reduceEqDiff, Nat.reduceAdd, Nat.reduceLeDiff, hr, hm2, h3, q1_, q2_]; (first | done | rfl))
    | (apply w_condX; · simp only [go_sem, Nat.reduceEqDiff, Nat.reduceAdd, Nat.reduceLeDiff, hr, hm2, h3]; (first | done | rfl)); (first | refine wcd_T ?_ | refine wcd_F ?_)
    | refine w_skip ?_ | refine w_exit ?_ | refine w_ret ?_
    | fail
    )
      exact ⟨.inr rfl, by simp only [go_sem, Nat.reduceEqDiff, Nat.reduceAdd, Nat.reduceLeDiff, retOf, resOf, holdsA, Bool.not_not]⟩
end

def intsR (l : List Int) : List PV := l.map fun n => .sc (.int .i64 n)
section
variable {env : Nat → Option Def} {fr : Fr} {σ σ' σ'' : St} {K : Fr → St → Prop} {Q : X → Fr → St → Prop} {p : PV} {bs : List UInt8}
theorem a325 (B : Has lkb env) (n least : Int) : AV env 325 [.sc (.int .i64 n), .fp [.sc (.int .i64 least)] 0 0] = some (.sc (.bool (!inT n least))) := by
  refine AV_wp (B (325, d325) (by simp [lkb])) rfl ?_
  (repeat' first
    | refine w_seq ?_ | refine w_rg ?_ | refine wo_nil ?_ | refine g_skU ?_ | refine g_skT ?_ | refine g_skF ?_
    | ((first | apply s_plain | apply s_void | apply s_guard | apply g_goT | apply g_goF); · simp only [go_sem, Nat.reduceEqDiff, Nat.reduceAdd, Nat.reduceLeDiff]; (first | done | rfl))
    | ((first | apply g_T | apply g_F | apply g_gT | apply g_gF); · intro q1_; (first | intro q2_ | have q2_ := q1_); simp only [go_sem, Nat.reduceEqDiff, Nat.reduceAdd, Nat.reduceLeDiff, q1_, q2_]; (first | done | rfl))
    | (apply w_condX; · simp only [go_sem, Nat.reduceEqDiff, Nat.reduceAdd, Nat.reduceLeDiff]; (first | done | rfl)); (first | refine wcd_T ?_ | refine wcd_F ?_)
    | refine w_skip ?_ | refine w_exit ?_ | refine w_ret ?_
    | fail
    )
  have e : (!inT n least) = (decide (n < least) || decide (n > 1099511627776)) := by
    unfold inT
    rw [Bool.not_and, ← decide_not, ← decide_not]
    congr 1
    · rw [decide_eq_decide]; omega
    · rw [decide_eq_decide]; omega
  exact ⟨by first | exact .inr rfl | exact .inr trivial | exact .inl rfl, by simp only [go_sem, Nat.reduceEqDiff, Nat.reduceAdd, Nat.reduceLeDiff, retOf, resOf, e]; first | done | rfl⟩
theorem d329_eq : d329 = d85 := rfl
theorem a317 (B : Has lkb env) {l : List Int} (hn : l.length ≤ 9223372036854775807) (least : Int) : AV env 317 [.sc (.int .i64 least), .sl (intsR l)] = some (.sc (.bool (l.all fun n => inT n least))) := by
  have hll : (intsR l).length = l.length := by simp [intsR]
  have h329 : AV env 329 [.sl (intsR l), .fn 325 [] [.fp [.sc (.int .i64 least)] 0 0]] = some (.sc (.int .i64 (found (fun i => !inT (l.getD i 0) least) l.length))) := by
    rw [← hll]
    refine a85g (k := 325) (a := []) (b := [.fp [.sc (.int .i64 least)] 0 0]) (p := fun i => !inT (l.getD i 0) least) (by rw [← d329_eq]; exact B (329, d329) (by simp [lkb])) (by rw [hll]; exact hn) (fun i e h => ?_) (fun i e h σ => ?_) (fun i e h => ?_)
    · unfold intsR at h
      rw [List.getElem?_map] at h
      obtain ⟨m, _, rfl⟩ := Option.map_eq_some_iff.1 h
      rfl
    · unfold intsR at h
      rw [List.getElem?_map] at h
      obtain ⟨m, _, rfl⟩ := Option.map_eq_some_iff.1 h
      rfl
    · unfold intsR at h
      rw [List.getElem?_map] at h
      obtain ⟨m, hm, rfl⟩ := Option.map_eq_some_iff.1 h
      have hg : l.getD i 0 = m := by rw [List.getD_eq_getElem?_getD, hm]; rfl
      simp only [hg]
      exact a325 B m least
  have hf := found_not l (fun n => inT n least) (fun i => !inT (l.getD i 0) least) (fun i x hx => by rw [List.getD_eq_getElem?_getD, hx]; rfl)
  have h324 : AV env 324 [.sl (intsR l), .fn 325 [] [.fp [.sc (.int .i64 least)] 0 0]] = some (.sc (.bool (!l.all fun n => inT n least))) := by
    refine AV_wp (B (324, d324) (by simp [lkb])) rfl ?_
    (repeat' first
    | refine w_seq ?_ | refine w_rg ?_ | refine wo_nil ?_ | refine g_skU ?_ | refine g_skT ?_ | refine g_skF ?_
    | ((first | apply s_plain | apply s_void | apply s_guard | apply g_goT | apply g_goF); · simp only [go_sem, Nat.reduceEqDiff, Nat.reduceAdd, Nat.reduceLeDiff, h329]; (first | done | rfl))
    | ((first | apply g_T | apply g_F | apply g_gT | apply g_gF); · intro q1_; (first | intro q2_ | have q2_ := q1_); simp only [go_sem, Nat.reduceEqDiff, Nat.reduceAdd, Nat.reduceLeDiff, h329, q1_, q2_]; (first | done | rfl))
    | (apply w_condX; · simp only [go_sem, Nat.reduceEqDiff, Nat.reduceAdd, Nat.reduceLeDiff, h329]; (first | done | rfl)); (first | refine wcd_T ?_ | refine wcd_F ?_)
    | refine w_skip ?_ | refine w_exit ?_ | refine w_ret ?_
    | fail
    )
    exact ⟨.inr rfl, by simp only [go_sem, Nat.reduceEqDiff, Nat.reduceAdd, Nat.reduceLeDiff, retOf, resOf, hf]⟩
  refine AV_wp (B (317, d317) (by simp [lkb])) rfl ?_
  (repeat' first
    | refine w_seq ?_ | refine w_rg ?_ | refine wo_nil ?_ | refine g_skU ?_ | refine g_skT ?_ | refine g_skF ?_
    | ((first | apply s_plain | apply s_void | apply s_guard | apply g_goT | apply g_goF); · simp only [go_sem, Nat.reduceEqDiff, Nat.reduceAdd, Nat.reduceLeDiff, h324]; (first | done | rfl))
    | ((first | apply g_T | apply g_F | apply g_gT | apply g_gF); · intro q1_; (first | intro q2_ | have q2_ := q1_); simp only [go_sem, Nat.reduceEqDiff, Nat.reduceAdd, Nat.reduceLeDiff, h324, q1_, q2_]; (first | done | rfl))
    | (apply w_condX; · simp only [go_sem, Nat.reduceEqDiff, Nat.reduceAdd, Nat.reduceLeDiff, h324]; (first | done | rfl)); (first | refine wcd_T ?_ | refine wcd_F ?_)
    | refine w_skip ?_ | refine w_exit ?_ | refine w_ret ?_
    | fail
    )
  exact ⟨.inr rfl, by simp only [go_sem, Nat.reduceEqDiff, Nat.reduceAdd, Nat.reduceLeDiff, retOf, resOf, Bool.not_not]⟩
theorem a314 (H : Mm4 env) (B : Has lkb env) {s : ByteArray} (hs : Small s) : AV env 314 [.sc (.string s)] = some (.sc (.bool (wordB s))) := by
  have h9 := a9e H.w H.f hs
  unfold bare at h9
  refine AV_wp (B (314, d314) (by simp [lkb])) rfl ?_
  (repeat' first
    | refine w_seq ?_ | refine w_rg ?_ | refine wo_nil ?_ | refine g_skU ?_ | refine g_skT ?_ | refine g_skF ?_
    | ((first | apply s_plain | apply s_void | apply s_guard | apply g_goT | apply g_goF); · simp only [go_sem, Nat.reduceEqDiff, Nat.reduceAdd, Nat.reduceLeDiff, h9]; (first | done | rfl))
    | ((first | apply g_T | apply g_F | apply g_gT | apply g_gF); · intro q1_; (first | intro q2_ | have q2_ := q1_); simp only [go_sem, Nat.reduceEqDiff, Nat.reduceAdd, Nat.reduceLeDiff, h9, q1_, q2_]; (first | done | rfl))
    | (apply w_condX; · simp only [go_sem, Nat.reduceEqDiff, Nat.reduceAdd, Nat.reduceLeDiff, h9]; (first | done | rfl)); (first | refine wcd_T ?_ | refine wcd_F ?_)
    | refine w_skip ?_ | refine w_exit ?_ | refine w_ret ?_
    | fail
    )
  exact ⟨.inr rfl, by simp only [go_sem, Nat.reduceEqDiff, Nat.reduceAdd, Nat.reduceLeDiff, retOf, resOf]⟩
theorem a316 (H : Mm4 env) (B : Has lkb env) {s : ByteArray} (hs : Small s) : AV env 316 [.sc (.string s)] = some (.sc (.bool (nameB s))) := by
  have h9 := a113n H.l H.c hs
  refine AV_wp (B (316, d316) (by simp [lkb])) rfl ?_
  (repeat' first
    | refine w_seq ?_ | refine w_rg ?_ | refine wo_nil ?_ | refine g_skU ?_ | refine g_skT ?_ | refine g_skF ?_
    | ((first | apply s_plain | apply s_void | apply s_guard | apply g_goT | apply g_goF); · simp only [go_sem, Nat.reduceEqDiff, Nat.reduceAdd, Nat.reduceLeDiff, h9]; (first | done | rfl))
    | ((first | apply g_T | apply g_F | apply g_gT | apply g_gF); · intro q1_; (first | intro q2_ | have q2_ := q1_); simp only [go_sem, Nat.reduceEqDiff, Nat.reduceAdd, Nat.reduceLeDiff, h9, q1_, q2_]; (first | done | rfl))
    | (apply w_condX; · simp only [go_sem, Nat.reduceEqDiff, Nat.reduceAdd, Nat.reduceLeDiff, h9]; (first | done | rfl)); (first | refine wcd_T ?_ | refine wcd_F ?_)
    | refine w_skip ?_ | refine w_exit ?_ | refine w_ret ?_
    | fail
    )
  exact ⟨.inr rfl, by simp only [go_sem, Nat.reduceEqDiff, Nat.reduceAdd, Nat.reduceLeDiff, retOf, resOf]⟩
theorem a315 (B : Has lkb env) {l : List ByteArray} {k : Nat} (ok : ByteArray → Bool) (hn : l.length ≤ 9223372036854775807) (hp : ∀ s ∈ l, AV env k [.sc (.string s)] = some (.sc (.bool (ok s)))) :
    AV env 315 [.sl (strs l), .fn k [] []] = some (.sc (.bool (riseB ok l && decide ((l.length : Int) ≤ 8)))) := by
  have hll := strs_len l
  refine AV_wp (B (315, d315) (by simp [lkb])) rfl ?_
  (repeat' first
    | refine w_seq ?_ | refine w_rg ?_ | refine wo_nil ?_ | refine g_skU ?_ | refine g_skT ?_ | refine g_skF ?_
    | ((first | apply s_plain | apply s_void | apply s_guard | apply g_goT | apply g_goF); · simp only [go_sem, Nat.reduceEqDiff, Nat.reduceAdd, Nat.reduceLeDiff, hll]; (first | done | rfl))
    | ((first | apply g_T | apply g_F | apply g_gT | apply g_gF); · intro q1_; (first | intro q2_ | have q2_ := q1_); simp only [go_sem, Nat.reduceEqDiff, Nat.reduceAdd, Nat.reduceLeDiff, hll, q1_, q2_]; (first | done | rfl))
    | fail
    )
  refine w_block (w_rangeF l.length hn (fun i fr σ => ∀ j, j < i → badW ok l j = false) ⟨by decide, rfl, rfl⟩ (fun _ _ _ _ h => ⟨h, h, h⟩) (fun j hj => by omega) (by simp only [go_sem, Nat.reduceEqDiff, Nat.reduceAdd, Nat.reduceLeDiff]; first | done | rfl) (by simp only [go_sem, Nat.reduceEqDiff, Nat.reduceAdd, Nat.reduceLeDiff, hll]; first | done | rfl) ?_ ?_)
  · rintro i fr2 σ2 hi h3 hti hfr
    have f0_0 := hfr 0 rfl; have f0_1 := hfr 1 rfl; have f0_7 := hfr 7 rfl; have f0_8 := hfr 8 rfl; try (simp only [go_sem, Nat.reduceEqDiff, Nat.reduceAdd, Nat.reduceLeDiff] at f0_0); try (simp only [go_sem, Nat.reduceEqDiff, Nat.reduceAdd, Nat.reduceLeDiff] at f0_1); try (simp only [go_sem, Nat.reduceEqDiff, Nat.reduceAdd, Nat.reduceLeDiff] at f0_7); try (simp only [go_sem, Nat.reduceEqDiff, Nat.reduceAdd, Nat.reduceLeDiff] at f0_8)
    have hx := List.getElem?_eq_getElem hi
    have hy := strs_at hx
    have hni := nthS_eq hi
    have e1 : (0 : Int) ≤ (i : Int) ∧ (i : Int) < (l.length : Int) := by omega
    have hwd := hp _ (List.getElem_mem hi)
    refine w_block ?_
    (repeat' first
    | refine w_seq ?_ | refine w_rg ?_ | refine wo_nil ?_ | refine g_skU ?_ | refine g_skT ?_ | refine g_skF ?_
    | ((first | apply s_plain | apply s_void | apply s_guard | apply g_goT | apply g_goF); · simp only [go_sem, Nat.reduceEqDiff, Nat.reduceAdd, Nat.reduceLeDiff, f0_0, f0_1, f0_7, f0_8, hti, e1, hll, Int.toNat_natCast, hy, hwd]; (first | done | rfl))
    | ((first | apply g_T | apply g_F | apply g_gT | apply g_gF); · intro q1_; (first | intro q2_ | have q2_ := q1_); simp only [go_sem, Nat.reduceEqDiff, Nat.reduceAdd, Nat.reduceLeDiff, f0_0, f0_1, f0_7, f0_8, hti, e1, hll, Int.toNat_natCast, hy, hwd, q1_, q2_]; (first | done | rfl))
    | fail
    )
    have hx' : l[i - 1]? = some (nthS l (i - 1)) := by
      have : i - 1 < l.length := by omega
      unfold nthS; rw [List.getElem?_eq_getElem this]; rfl
    have hy' := strs_at hx'
    refine g_gT (v := .fp (strs l) (i - 1) 0) (by
      intro hb hc
      have hpos : 0 < i := by simpa using hc
      have e2 : IntKind.i64.wrap ((i : Int) - 1) = ((i - 1 : Nat) : Int) := by rw [IntKind.wrap_i64]; omega
      have e3 : (0 : Int) ≤ ((i - 1 : Nat) : Int) ∧ ((i - 1 : Nat) : Int) < (l.length : Int) := by omega
      simp only [go_sem, Nat.reduceEqDiff, Nat.reduceAdd, Nat.reduceLeDiff, f0_0, f0_1, f0_7, f0_8, hb, hc, e2, e3, hll, Int.toNat_natCast, hy']) ?_
    (repeat' first
    | refine w_seq ?_ | refine w_rg ?_ | refine wo_nil ?_ | refine g_skU ?_ | refine g_skT ?_ | refine g_skF ?_
    | ((first | apply s_plain | apply s_void | apply s_guard | apply g_goT | apply g_goF); · simp only [go_sem, Nat.reduceEqDiff, Nat.reduceAdd, Nat.reduceLeDiff, f0_0, f0_1, f0_7, f0_8, hy']; (first | done | rfl))
    | ((first | apply g_T | apply g_F | apply g_gT | apply g_gF); · intro q1_; (first | intro q2_ | have q2_ := q1_); simp only [go_sem, Nat.reduceEqDiff, Nat.reduceAdd, Nat.reduceLeDiff, f0_0, f0_1, f0_7, f0_8, hy', q1_, q2_]; (first | done | rfl))
    | fail
    )
    have hbad : badW ok l i = (!ok l[i] || (decide ((i : Int) > 0) && !Op.bytesLess (nthS l (i - 1)).toList l[i].toList)) := by unfold badW lessB; rw [hni]
    cases hpi : badW ok l i with
    | true =>
      refine w_condT (by simp only [go_sem, Nat.reduceEqDiff, Nat.reduceAdd, Nat.reduceLeDiff]; rw [hbad] at hpi; exact congrArg (fun b => PV.sc (.bool b)) hpi) ?_
      (repeat' first
    | refine w_seq ?_ | refine w_rg ?_ | refine wo_nil ?_ | refine g_skU ?_ | refine g_skT ?_ | refine g_skF ?_
    | ((first | apply s_plain | apply s_void | apply s_guard | apply g_goT | apply g_goF); · simp only [go_sem, Nat.reduceEqDiff, Nat.reduceAdd, Nat.reduceLeDiff]; (first | done | rfl))
    | ((first | apply g_T | apply g_F | apply g_gT | apply g_gF); · intro q1_; (first | intro q2_ | have q2_ := q1_); simp only [go_sem, Nat.reduceEqDiff, Nat.reduceAdd, Nat.reduceLeDiff, q1_, q2_]; (first | done | rfl))
    | (apply w_condX; · simp only [go_sem, Nat.reduceEqDiff, Nat.reduceAdd, Nat.reduceLeDiff]; (first | done | rfl)); (first | refine wcd_T ?_ | refine wcd_F ?_)
    | refine w_skip ?_ | refine w_exit ?_ | refine w_ret ?_
    | fail
    )
      exact ⟨by first | exact .inr rfl | exact .inr trivial | exact .inl rfl, by simp only [go_sem, Nat.reduceEqDiff, Nat.reduceAdd, Nat.reduceLeDiff, retOf, resOf, rise_hit hi hpi, Bool.false_and]; first | done | rfl⟩
    | false =>
      refine w_condF (by simp only [go_sem, Nat.reduceEqDiff, Nat.reduceAdd, Nat.reduceLeDiff]; rw [hbad] at hpi; exact congrArg (fun b => PV.sc (.bool b)) hpi) ?_
      (repeat' first
    | refine w_seq ?_ | refine w_rg ?_ | refine wo_nil ?_ | refine g_skU ?_ | refine g_skT ?_ | refine g_skF ?_
    | ((first | apply s_plain | apply s_void | apply s_guard | apply g_goT | apply g_goF); · simp only [go_sem, Nat.reduceEqDiff, Nat.reduceAdd, Nat.reduceLeDiff]; (first | done | rfl))
    | ((first | apply g_T | apply g_F | apply g_gT | apply g_gF); · intro q1_; (first | intro q2_ | have q2_ := q1_); simp only [go_sem, Nat.reduceEqDiff, Nat.reduceAdd, Nat.reduceLeDiff, q1_, q2_]; (first | done | rfl))
    | (apply w_condX; · simp only [go_sem, Nat.reduceEqDiff, Nat.reduceAdd, Nat.reduceLeDiff]; (first | done | rfl)); (first | refine wcd_T ?_ | refine wcd_F ?_)
    | refine w_skip ?_ | refine w_exit ?_ | refine w_ret ?_
    | fail
    )
      intro j hj
      by_cases hji : j = i
      · rw [hji]; exact hpi
      · exact h3 j (by omega)
  · rintro fr2 σ2 h3 hfr
    have e0_0 := hfr 0 rfl; try (simp only [go_sem, Nat.reduceEqDiff, Nat.reduceAdd, Nat.reduceLeDiff] at e0_0)
    try simp only [if_true]
    (repeat' first
    | refine w_seq ?_ | refine w_rg ?_ | refine wo_nil ?_ | refine g_skU ?_ | refine g_skT ?_ | refine g_skF ?_
    | ((first | apply s_plain | apply s_void | apply s_guard | apply g_goT | apply g_goF); · simp only [go_sem, Nat.reduceEqDiff, Nat.reduceAdd, Nat.reduceLeDiff, e0_0, hll]; (first | done | rfl))
    | ((first | apply g_T | apply g_F | apply g_gT | apply g_gF); · intro q1_; (first | intro q2_ | have q2_ := q1_); simp only [go_sem, Nat.reduceEqDiff, Nat.reduceAdd, Nat.reduceLeDiff, e0_0, hll, q1_, q2_]; (first | done | rfl))
    | (apply w_condX; · simp only [go_sem, Nat.reduceEqDiff, Nat.reduceAdd, Nat.reduceLeDiff, e0_0, hll]; (first | done | rfl)); (first | refine wcd_T ?_ | refine wcd_F ?_)
    | refine w_skip ?_ | refine w_exit ?_ | refine w_ret ?_
    | fail
    )
    exact ⟨by first | exact .inr rfl | exact .inr trivial | exact .inl rfl, by simp only [go_sem, Nat.reduceEqDiff, Nat.reduceAdd, Nat.reduceLeDiff, retOf, resOf, rise_all (ok := ok) h3]; first | done | rfl⟩
theorem a313 (H : Mm4 env) (B : Has lkb env) {m : Mt} (hm : m.Held) : AV env 313 [mt m] = some (.sc (.bool (!rightM m))) := by
  have h := a306 H hm
  refine AV_wp (B (313, d313) (by simp [lkb])) rfl ?_
  unfold mt at h ⊢
  (repeat' first
    | refine w_seq ?_ | refine w_rg ?_ | refine wo_nil ?_ | refine g_skU ?_ | refine g_skT ?_ | refine g_skF ?_
    | ((first | apply s_plain | apply s_void | apply s_guard | apply g_goT | apply g_goF); · simp only [go_sem, Nat.reduceEqDiff, Nat.reduceAdd, Nat.reduceLeDiff, h]; (first | done | rfl))
    | ((first | apply g_T | apply g_F | apply g_gT | apply g_gF); · intro q1_; (first | intro q2_ | have q2_ := q1_); simp only [go_sem, Nat.reduceEqDiff, Nat.reduceAdd, Nat.reduceLeDiff, h, q1_, q2_]; (first | done | rfl))
    | (apply w_condX; · simp only [go_sem, Nat.reduceEqDiff, Nat.reduceAdd, Nat.reduceLeDiff, h]; (first | done | rfl)); (first | refine wcd_T ?_ | refine wcd_F ?_)
    | refine w_skip ?_ | refine w_exit ?_ | refine w_ret ?_
    | fail
    )
  exact ⟨.inr rfl, by simp only [go_sem, Nat.reduceEqDiff, Nat.reduceAdd, Nat.reduceLeDiff, retOf, resOf]⟩
theorem a318 (B : Has lkb env) {l : List Rt} {k : Nat} {b : List PV} (ok : Rt → Bool) (hn : l.length ≤ 9223372036854775807) (hz : ∀ σ, b.mapM (fz σ 11) = some b) (hz' : ∀ σ, b.mapM (fz σ 12) = some b)
    (hp : ∀ m ∈ l, AV env k (rt m :: b) = some (.sc (.bool (!ok m)))) : AV env 318 [.sl (rts l), .fn k [] b] = some (.sc (.bool (!l.all ok))) := by
  have hll := rts_len l
  have h326 : AV env 326 [.sl (rts l), .fn k [] b] = some (.sc (.int .i64 (found (fun i => match l[i]? with | some m => !ok m | none => false) l.length))) := by
    rw [← hll]
    refine idxS (es := 9) (k := k) (a := []) (b := b) (p := fun i => match l[i]? with | some m => !ok m | none => false) (by rw [← dIF_9]; exact B (326, d326) (by simp [lkb])) (by rw [hll]; exact hn) (fun i e h => ?_) (fun i e h σ => ?_) (fun i e h => ?_)
    · rw [rts_map, List.getElem?_map] at h
      obtain ⟨m, _, rfl⟩ := Option.map_eq_some_iff.1 h
      exact ⟨_, rt_eq m, rfl⟩
    · rw [rts_map, List.getElem?_map] at h
      obtain ⟨m, _, rfl⟩ := Option.map_eq_some_iff.1 h
      rw [List.nil_append, List.singleton_append, mapM_cons', hz' σ, rt_eq m]
      rfl
    · rw [rts_map, List.getElem?_map] at h
      obtain ⟨m, hm, rfl⟩ := Option.map_eq_some_iff.1 h
      simp only [hm]
      exact hp m (List.mem_of_getElem? hm)
  have hf := found_not l ok (fun i => match l[i]? with | some m => !ok m | none => false) (fun i x hx => by simp only [hx])
  refine AV_wp (B (318, d318) (by simp [lkb])) rfl ?_
  (repeat' first
    | refine w_seq ?_ | refine w_rg ?_ | refine wo_nil ?_ | refine g_skU ?_ | refine g_skT ?_ | refine g_skF ?_
    | ((first | apply s_plain | apply s_void | apply s_guard | apply g_goT | apply g_goF); · simp only [go_sem, Nat.reduceEqDiff, Nat.reduceAdd, Nat.reduceLeDiff, h326, hz]; (first | done | rfl))
    | ((first | apply g_T | apply g_F | apply g_gT | apply g_gF); · intro q1_; (first | intro q2_ | have q2_ := q1_); simp only [go_sem, Nat.reduceEqDiff, Nat.reduceAdd, Nat.reduceLeDiff, h326, hz, q1_, q2_]; (first | done | rfl))
    | (apply w_condX; · simp only [go_sem, Nat.reduceEqDiff, Nat.reduceAdd, Nat.reduceLeDiff, h326, hz]; (first | done | rfl)); (first | refine wcd_T ?_ | refine wcd_F ?_)
    | refine w_skip ?_ | refine w_exit ?_ | refine w_ret ?_
    | fail
    )
  exact ⟨.inr rfl, by simp only [go_sem, Nat.reduceEqDiff, Nat.reduceAdd, Nat.reduceLeDiff, retOf, resOf, hf]⟩
theorem a319 (B : Has lkb env) {d : Nat} (hd : d < 1000) {r : Rt} (h : AV env 304 [rt r, .sc (.int .i64 (d : Int))] = some (.sc (.bool (mayR d r)))) : AV env 319 [rt r, .fp [.sc (.int .i64 ((d + 1 : Nat) : Int))] 0 0] = some (.sc (.bool (!mayR d r))) := by
  have e2 : IntKind.i64.wrap (((d + 1 : Nat) : Int) - 1) = (d : Int) := by rw [IntKind.wrap_i64]; omega
  refine AV_wp (B (319, d319) (by simp [lkb])) rfl ?_
  rw [rt_eq] at h ⊢
  unfold rhd at h ⊢
  (repeat' first
    | refine w_seq ?_ | refine w_rg ?_ | refine wo_nil ?_ | refine g_skU ?_ | refine g_skT ?_ | refine g_skF ?_
    | ((first | apply s_plain | apply s_void | apply s_guard | apply g_goT | apply g_goF); · simp only [go_sem, Nat.reduceEqDiff, Nat.reduceAdd, Nat.reduceLeDiff, e2, h]; (first | done | rfl))
    | ((first | apply g_T | apply g_F | apply g_gT | apply g_gF); · intro q1_; (first | intro q2_ | have q2_ := q1_); simp only [go_sem, Nat.reduceEqDiff, Nat.reduceAdd, Nat.reduceLeDiff, e2, h, q1_, q2_]; (first | done | rfl))
    | (apply w_condX; · simp only [go_sem, Nat.reduceEqDiff, Nat.reduceAdd, Nat.reduceLeDiff, e2, h]; (first | done | rfl)); (first | refine wcd_T ?_ | refine wcd_F ?_)
    | refine w_skip ?_ | refine w_exit ?_ | refine w_ret ?_
    | fail
    )
  exact ⟨.inr rfl, by simp only [go_sem, Nat.reduceEqDiff, Nat.reduceAdd, Nat.reduceLeDiff, retOf, resOf]⟩
theorem a304 (H : Mm4 env) (B : Has lkb env) : ∀ (d : Nat), d < 1000 → ∀ r : Rt, r.Held → AV env 304 [rt r, .sc (.int .i64 (d : Int))] = some (.sc (.bool (mayR d r)))
  | 0, _, r, hr => by
    refine AV_wp (B (304, d304) (by simp [lkb])) rfl ?_
    rw [rt_eq]
    unfold rhd
    have e0 : (((0 : Nat) : Int) == 0) = true := rfl
    (repeat' first
    | refine w_seq ?_ | refine w_rg ?_ | refine wo_nil ?_ | refine g_skU ?_ | refine g_skT ?_ | refine g_skF ?_
    | ((first | apply s_plain | apply s_void | apply s_guard | apply g_goT | apply g_goF); · simp only [go_sem, Nat.reduceEqDiff, Nat.reduceAdd, Nat.reduceLeDiff, e0]; (first | done | rfl))
    | ((first | apply g_T | apply g_F | apply g_gT | apply g_gF); · intro q1_; (first | intro q2_ | have q2_ := q1_); simp only [go_sem, Nat.reduceEqDiff, Nat.reduceAdd, Nat.reduceLeDiff, e0, q1_, q2_]; (first | done | rfl))
    | (apply w_condX; · simp only [go_sem, Nat.reduceEqDiff, Nat.reduceAdd, Nat.reduceLeDiff, e0]; (first | done | rfl)); (first | refine wcd_T ?_ | refine wcd_F ?_)
    | refine w_skip ?_ | refine w_exit ?_ | refine w_ret ?_
    | fail
    )
    exact ⟨by first | exact .inr rfl | exact .inr trivial | exact .inl rfl, by simp only [go_sem, Nat.reduceEqDiff, Nat.reduceAdd, Nat.reduceLeDiff, retOf, resOf, mayR]; first | done | rfl⟩
  | d + 1, hd, r, hr => by
    have ih := fun k hk => a319 B (d := d) (by omega) (a304 H B d (by omega) k hk)
    obtain ⟨h, ks, hh, hkl, hkh⟩ := hr
    have h318 := a318 B (l := ks) (k := 319) (b := [.fp [.sc (.int .i64 ((d + 1 : Nat) : Int))] 0 0]) (mayR d) hkl (fun _ => rfl) (fun _ => rfl) (fun k hk => ih k (hkh k hk))
    have h307 := a307 H (l := h.ms) (k := 313) (b := []) rightM hh.ms (fun _ => rfl) (fun _ => rfl) (fun m hm => a313 H B (hh.mss m hm))
    have h314 := a314 H B hh.recv
    have h315a := a315 B (l := h.bys) (k := 316) nameB hh.bys (fun s hs => a316 H B (hh.byss s hs))
    have h315b := a315 B (l := h.mute) (k := 314) wordB hh.mute (fun s hs => a314 H B (hh.mutes s hs))
    have h317a := a317 B (l := [h.wait]) (by simp) 0
    have h317b := a317 B (l := [h.every, h.rep]) (by simp) 1
    have hml := mts_len h.ms
    have hkl' := rts_len ks
    have hmay : mayR (d + 1) (.mk h ks) = (headR h ks.length && ks.all (mayR d)) := rfl
    have e0 : (((d + 1 : Nat) : Int) == 0) = false := by rw [beq_eq_false_iff_ne]; omega
    simp only [intsR, List.map_cons, List.map_nil] at h317a h317b
    refine AV_wp (B (304, d304) (by simp [lkb])) rfl ?_
    rw [rt]
    unfold rhd
    (repeat' first
    | refine w_seq ?_ | refine w_rg ?_ | refine wo_nil ?_ | refine g_skU ?_ | refine g_skT ?_ | refine g_skF ?_
    | ((first | apply s_plain | apply s_void | apply s_guard | apply g_goT | apply g_goF); · simp only [go_sem, Nat.reduceEqDiff, Nat.reduceAdd, Nat.reduceLeDiff, e0, h314, h307, hml, hkl']; (first | done | rfl))
    | ((first | apply g_T | apply g_F | apply g_gT | apply g_gF); · intro q1_; (first | intro q2_ | have q2_ := q1_); simp only [go_sem, Nat.reduceEqDiff, Nat.reduceAdd, Nat.reduceLeDiff, e0, h314, h307, hml, hkl', q1_, q2_]; (first | done | rfl))
    | fail
    )
    refine w_condB (by simp only [go_sem, Nat.reduceEqDiff, Nat.reduceAdd, Nat.reduceLeDiff]; first | done | rfl) (fun hc => ?_) (fun hc => ?_)
    · have hf : mayR (d + 1) (.mk h ks) = false := by rw [hmay]; unfold headR; rw [hc]; rfl
      (repeat' first
    | refine w_seq ?_ | refine w_rg ?_ | refine wo_nil ?_ | refine g_skU ?_ | refine g_skT ?_ | refine g_skF ?_
    | ((first | apply s_plain | apply s_void | apply s_guard | apply g_goT | apply g_goF); · simp only [go_sem, Nat.reduceEqDiff, Nat.reduceAdd, Nat.reduceLeDiff]; (first | done | rfl))
    | ((first | apply g_T | apply g_F | apply g_gT | apply g_gF); · intro q1_; (first | intro q2_ | have q2_ := q1_); simp only [go_sem, Nat.reduceEqDiff, Nat.reduceAdd, Nat.reduceLeDiff, q1_, q2_]; (first | done | rfl))
    | (apply w_condX; · simp only [go_sem, Nat.reduceEqDiff, Nat.reduceAdd, Nat.reduceLeDiff]; (first | done | rfl)); (first | refine wcd_T ?_ | refine wcd_F ?_)
    | refine w_skip ?_ | refine w_exit ?_ | refine w_ret ?_
    | fail
    )
      exact ⟨by first | exact .inr rfl | exact .inr trivial | exact .inl rfl, by simp only [go_sem, Nat.reduceEqDiff, Nat.reduceAdd, Nat.reduceLeDiff, retOf, resOf, hf]; first | done | rfl⟩
    · (repeat' first
    | refine w_seq ?_ | refine w_rg ?_ | refine wo_nil ?_ | refine g_skU ?_ | refine g_skT ?_ | refine g_skF ?_
    | ((first | apply s_plain | apply s_void | apply s_guard | apply g_goT | apply g_goF); · simp only [go_sem, Nat.reduceEqDiff, Nat.reduceAdd, Nat.reduceLeDiff]; (first | done | rfl))
    | ((first | apply g_T | apply g_F | apply g_gT | apply g_gF); · intro q1_; (first | intro q2_ | have q2_ := q1_); simp only [go_sem, Nat.reduceEqDiff, Nat.reduceAdd, Nat.reduceLeDiff, q1_, q2_]; (first | done | rfl))
    | (apply w_condX; · simp only [go_sem, Nat.reduceEqDiff, Nat.reduceAdd, Nat.reduceLeDiff]; (first | done | rfl)); (first | refine wcd_T ?_ | refine wcd_F ?_)
    | refine w_skip ?_ | refine w_exit ?_ | refine w_ret ?_
    | fail
    )
      try simp only []
      have hhd : headR h ks.length = ((riseB nameB h.bys && decide ((h.bys.length : Int) ≤ 8)) && (riseB wordB h.mute && decide ((h.mute.length : Int) ≤ 8)) && ([h.wait].all fun n => inT n 0) && ([h.every, h.rep].all fun n => inT n 1)) := by
        unfold headR
        rw [hc]
        rfl
      rw [hhd] at hmay
      cases h1 : (riseB nameB h.bys && decide ((h.bys.length : Int) ≤ 8)) with
      | false =>
        rw [h1] at h315a hmay
        have hf : mayR (d + 1) (.mk h ks) = false := hmay
        (repeat' first
    | refine w_seq ?_ | refine w_rg ?_ | refine wo_nil ?_ | refine g_skU ?_ | refine g_skT ?_ | refine g_skF ?_
    | ((first | apply s_plain | apply s_void | apply s_guard | apply g_goT | apply g_goF); · simp only [go_sem, Nat.reduceEqDiff, Nat.reduceAdd, Nat.reduceLeDiff, h315a]; (first | done | rfl))
    | ((first | apply g_T | apply g_F | apply g_gT | apply g_gF); · intro q1_; (first | intro q2_ | have q2_ := q1_); simp only [go_sem, Nat.reduceEqDiff, Nat.reduceAdd, Nat.reduceLeDiff, h315a, q1_, q2_]; (first | done | rfl))
    | (apply w_condX; · simp only [go_sem, Nat.reduceEqDiff, Nat.reduceAdd, Nat.reduceLeDiff, h315a]; (first | done | rfl)); (first | refine wcd_T ?_ | refine wcd_F ?_)
    | refine w_skip ?_ | refine w_exit ?_ | refine w_ret ?_
    | fail
    )
        exact ⟨by first | exact .inr rfl | exact .inr trivial | exact .inl rfl, by simp only [go_sem, Nat.reduceEqDiff, Nat.reduceAdd, Nat.reduceLeDiff, retOf, resOf, hf]; first | done | rfl⟩
      | true =>
        rw [h1] at h315a hmay
        cases h2 : (riseB wordB h.mute && decide ((h.mute.length : Int) ≤ 8)) with
        | false =>
          rw [h2] at h315b hmay
          have hf : mayR (d + 1) (.mk h ks) = false := hmay
          (repeat' first
    | refine w_seq ?_ | refine w_rg ?_ | refine wo_nil ?_ | refine g_skU ?_ | refine g_skT ?_ | refine g_skF ?_
    | ((first | apply s_plain | apply s_void | apply s_guard | apply g_goT | apply g_goF); · simp only [go_sem, Nat.reduceEqDiff, Nat.reduceAdd, Nat.reduceLeDiff, h315a, h315b]; (first | done | rfl))
    | ((first | apply g_T | apply g_F | apply g_gT | apply g_gF); · intro q1_; (first | intro q2_ | have q2_ := q1_); simp only [go_sem, Nat.reduceEqDiff, Nat.reduceAdd, Nat.reduceLeDiff, h315a, h315b, q1_, q2_]; (first | done | rfl))
    | (apply w_condX; · simp only [go_sem, Nat.reduceEqDiff, Nat.reduceAdd, Nat.reduceLeDiff, h315a, h315b]; (first | done | rfl)); (first | refine wcd_T ?_ | refine wcd_F ?_)
    | refine w_skip ?_ | refine w_exit ?_ | refine w_ret ?_
    | fail
    )
          exact ⟨by first | exact .inr rfl | exact .inr trivial | exact .inl rfl, by simp only [go_sem, Nat.reduceEqDiff, Nat.reduceAdd, Nat.reduceLeDiff, retOf, resOf, hf]; first | done | rfl⟩
        | true =>
          rw [h2] at h315b hmay
          cases h3 : ([h.wait].all fun n => inT n 0) with
          | false =>
            rw [h3] at h317a hmay
            have hf : mayR (d + 1) (.mk h ks) = false := hmay
            (repeat' first
    | refine w_seq ?_ | refine w_rg ?_ | refine wo_nil ?_ | refine g_skU ?_ | refine g_skT ?_ | refine g_skF ?_
    | ((first | apply s_plain | apply s_void | apply s_guard | apply g_goT | apply g_goF); · simp only [go_sem, Nat.reduceEqDiff, Nat.reduceAdd, Nat.reduceLeDiff, h315a, h315b, h317a]; (first | done | rfl))
    | ((first | apply g_T | apply g_F | apply g_gT | apply g_gF); · intro q1_; (first | intro q2_ | have q2_ := q1_); simp only [go_sem, Nat.reduceEqDiff, Nat.reduceAdd, Nat.reduceLeDiff, h315a, h315b, h317a, q1_, q2_]; (first | done | rfl))
    | (apply w_condX; · simp only [go_sem, Nat.reduceEqDiff, Nat.reduceAdd, Nat.reduceLeDiff, h315a, h315b, h317a]; (first | done | rfl)); (first | refine wcd_T ?_ | refine wcd_F ?_)
    | refine w_skip ?_ | refine w_exit ?_ | refine w_ret ?_
    | fail
    )
            exact ⟨by first | exact .inr rfl | exact .inr trivial | exact .inl rfl, by simp only [go_sem, Nat.reduceEqDiff, Nat.reduceAdd, Nat.reduceLeDiff, retOf, resOf, hf]; first | done | rfl⟩
          | true =>
            rw [h3] at h317a hmay
            cases h4 : ([h.every, h.rep].all fun n => inT n 1) with
            | false =>
              rw [h4] at h317b hmay
              have hf : mayR (d + 1) (.mk h ks) = false := hmay
              (repeat' first
    | refine w_seq ?_ | refine w_rg ?_ | refine wo_nil ?_ | refine g_skU ?_ | refine g_skT ?_ | refine g_skF ?_
    | ((first | apply s_plain | apply s_void | apply s_guard | apply g_goT | apply g_goF); · simp only [go_sem, Nat.reduceEqDiff, Nat.reduceAdd, Nat.reduceLeDiff, h315a, h315b, h317a, h317b, List.set_cons_succ]; (first | done | rfl))
    | ((first | apply g_T | apply g_F | apply g_gT | apply g_gF); · intro q1_; (first | intro q2_ | have q2_ := q1_); simp only [go_sem, Nat.reduceEqDiff, Nat.reduceAdd, Nat.reduceLeDiff, h315a, h315b, h317a, h317b, List.set_cons_succ, q1_, q2_]; (first | done | rfl))
    | (apply w_condX; · simp only [go_sem, Nat.reduceEqDiff, Nat.reduceAdd, Nat.reduceLeDiff, h315a, h315b, h317a, h317b, List.set_cons_succ]; (first | done | rfl)); (first | refine wcd_T ?_ | refine wcd_F ?_)
    | refine w_skip ?_ | refine w_exit ?_ | refine w_ret ?_
    | fail
    )
              exact ⟨by first | exact .inr rfl | exact .inr trivial | exact .inl rfl, by simp only [go_sem, Nat.reduceEqDiff, Nat.reduceAdd, Nat.reduceLeDiff, retOf, resOf, hf]; first | done | rfl⟩
            | true =>
              rw [h4] at h317b hmay
              have hf : mayR (d + 1) (.mk h ks) = ks.all (mayR d) := hmay
              (repeat' first
    | refine w_seq ?_ | refine w_rg ?_ | refine wo_nil ?_ | refine g_skU ?_ | refine g_skT ?_ | refine g_skF ?_
    | ((first | apply s_plain | apply s_void | apply s_guard | apply g_goT | apply g_goF); · simp only [go_sem, Nat.reduceEqDiff, Nat.reduceAdd, Nat.reduceLeDiff, h315a, h315b, h317a, h317b, h318, List.set_cons_succ]; (first | done | rfl))
    | ((first | apply g_T | apply g_F | apply g_gT | apply g_gF); · intro q1_; (first | intro q2_ | have q2_ := q1_); simp only [go_sem, Nat.reduceEqDiff, Nat.reduceAdd, Nat.reduceLeDiff, h315a, h315b, h317a, h317b, h318, List.set_cons_succ, q1_, q2_]; (first | done | rfl))
    | (apply w_condX; · simp only [go_sem, Nat.reduceEqDiff, Nat.reduceAdd, Nat.reduceLeDiff, h315a, h315b, h317a, h317b, h318, List.set_cons_succ]; (first | done | rfl)); (first | refine wcd_T ?_ | refine wcd_F ?_)
    | refine w_skip ?_ | refine w_exit ?_ | refine w_ret ?_
    | fail
    )
              exact ⟨by first | exact .inr rfl | exact .inr trivial | exact .inl rfl, by simp only [go_sem, Nat.reduceEqDiff, Nat.reduceAdd, Nat.reduceLeDiff, retOf, resOf, hf, Bool.not_not]; first | done | rfl⟩
theorem a298 (H : Mm4 env) (B : Has lkb env) {r : Rt} (hr : r.Held) : AV env 298 [rt r] = some (.sc (.bool (mayR 4 r))) := by
  have h : AV env 304 [rt r, .sc (.int .i64 4)] = some (.sc (.bool (mayR 4 r))) := a304 H B 4 (by omega) r hr
  refine AV_wp (B (298, d298) (by simp [lkb])) rfl ?_
  rw [rt_eq] at h ⊢
  unfold rhd at h ⊢
  (repeat' first
    | refine w_seq ?_ | refine w_rg ?_ | refine wo_nil ?_ | refine g_skU ?_ | refine g_skT ?_ | refine g_skF ?_
    | ((first | apply s_plain | apply s_void | apply s_guard | apply g_goT | apply g_goF); · simp only [go_sem, Nat.reduceEqDiff, Nat.reduceAdd, Nat.reduceLeDiff, h]; (first | done | rfl))
    | ((first | apply g_T | apply g_F | apply g_gT | apply g_gF); · intro q1_; (first | intro q2_ | have q2_ := q1_); simp only [go_sem, Nat.reduceEqDiff, Nat.reduceAdd, Nat.reduceLeDiff, h, q1_, q2_]; (first | done | rfl))
    | (apply w_condX; · simp only [go_sem, Nat.reduceEqDiff, Nat.reduceAdd, Nat.reduceLeDiff, h]; (first | done | rfl)); (first | refine wcd_T ?_ | refine wcd_F ?_)
    | refine w_skip ?_ | refine w_exit ?_ | refine w_ret ?_
    | fail
    )
  exact ⟨by first | exact .inr rfl | exact .inr trivial | exact .inl rfl, by simp only [go_sem, Nat.reduceEqDiff, Nat.reduceAdd, Nat.reduceLeDiff, retOf, resOf]; first | done | rfl⟩
end

end
section
section
variable {env : Nat → Option Def} {fr : Fr} {σ σ' σ'' : St} {K : Fr → St → Prop} {Q : X → Fr → St → Prop} {p : PV} {P : Nat → Bool}
def SubP (P : Nat → Bool) (σ σ' : St) : Prop := ∀ o g x, P o = true → σ.m o g = some x → ∃ x', σ'.m o g = some x' ∧ x'.es = x.es ∧ x'.xs = x.xs
theorem SubP.refl (σ : St) : SubP P σ σ := fun _ _ x _ h => ⟨x, h, rfl, rfl⟩
theorem SubP.trans (h : SubP P σ σ') (h' : SubP P σ' σ'') : SubP P σ σ'' := fun o g x ho hx =>
  let ⟨y, h1, h2, h3⟩ := h o g x ho hx
  let ⟨z, h4, h5, h6⟩ := h' o g y ho h1
  ⟨z, h4, h5.trans h2, h6.trans h3⟩
theorem SubP.put (h : SubP P σ σ') {o g : Nat} (ho : P o = false) (y : Option Obj) : SubP P σ (σ'.put o g y) := fun o' g' x ho' hx => by
  obtain ⟨z, h1, h2⟩ := h o' g' x ho' hx
  refine ⟨z, ?_, h2⟩
  simp only [put_m]
  rw [if_neg (fun h => by rw [h.1, ho] at ho'; cases ho')]
  exact h1
theorem SubP.new (h : SubP P σ σ') (hF : Fresh σ') (s : Nat) (y : Obj) : SubP P σ (σ'.new s y) := fun o' g' x ho' hx => by
  obtain ⟨z, h1, h2⟩ := h o' g' x ho' hx
  refine ⟨z, ?_, h2⟩
  simp only [new_m]
  rw [if_neg]
  · exact h1
  · rintro ⟨rfl, rfl⟩
    rw [hF.none] at h1; cases h1
theorem SubP.same (h : SubP P σ σ') {o g : Nat} {x y : Obj} (hx : σ'.m o g = some x) (h1 : y.es = x.es) (h2 : y.xs = x.xs) : SubP P σ (σ'.put o g (some y)) := fun o' g' z ho' hz => by
  obtain ⟨u, q1, q2, q3⟩ := h o' g' z ho' hz
  simp only [put_m]
  by_cases hq : o' = o ∧ g' = g
  · obtain ⟨rfl, rfl⟩ := hq
    rw [hx] at q1
    simp only [Option.some.injEq] at q1
    subst q1
    exact ⟨y, by simp, h1.trans q2, h2.trans q3⟩
  · exact ⟨u, by rw [if_neg hq]; exact q1, q2, q3⟩
theorem SubP.of (h : ∀ o g, P o = true → σ'.m o g = σ.m o g) : SubP P σ σ' := fun o g x ho hx => ⟨x, by rw [h o g ho]; exact hx, rfl, rfl⟩
theorem gat_app2 {E : Ev} {d es by_ : Nat} {s' x : PA} {xs : List PV} {e : PV} (hg : Gat σ [d] es false (pa fr s') xs) (hF : Fresh σ) (hsrc : srcOf σ es (pa fr x) = some [e]) (hok : okc e = true) (hl : (cellsOf e).length = es) (hb : (xs.length + 1) * by_ ≤ 70368744177664) :
    ∃ p σ', evO E d fr σ (.app es by_ false s' x) = some (p, σ') ∧ Gat σ' [d] es false p (xs ++ [e]) ∧ Fresh σ' ∧ (∀ P, SubP P σ σ') ∧ (∀ o g, o ≠ d → σ'.m o g = σ.m o g) ∧ (∀ o, o ≠ d → σ'.c o = σ.c o) ∧ σ.c d ≤ σ'.c d := by
  have hall : ([e].all fun y => okc y && (cellsOf y).length == es) = true := by simp [hok, hl]
  rcases hg with ⟨h1, rfl⟩ | ⟨o, g, wr, h0, h1, h2, h3, h4, h5⟩
  · refine ⟨.ob d (σ.c d) es 0 1, σ.new d ⟨es, [e], true, true⟩, ?_, .inr ⟨d, σ.c d, true, by simp, rfl, by simp [new_m], by simp [new_c], by simp, fun _ => rfl⟩, hF.new _ _, fun P => (SubP.refl σ).new hF _ _, fun o g ho => ?_, fun o ho => ?_, new_c_le _ _ _ _⟩
    · simp only [evO, hsrc, Option.bind_some, hall, if_true, h1]
      rw [if_pos (by simpa using hb)]
      rfl
    · simp only [new_m]; rw [if_neg (fun h => ho h.1)]
    · simp only [new_c]; rw [if_neg (fun h => ho h)]
  · simp only [List.mem_singleton] at h0
    subst h0
    refine ⟨.ob o (σ.c o) es 0 (xs.length + 1), (σ.put o g (some ⟨es, xs, false, false⟩)).new o ⟨es, xs ++ [e], true, false⟩, ?_, .inr ⟨o, σ.c o, false, by simp, by simp, by simp [new_m, put_c], by simp [new_c, put_c], by simp, fun h => by cases h⟩,
      (hF.put h2 _).new _ _, fun P => ((SubP.refl σ).same (y := ⟨es, xs, false, false⟩) h2 rfl rfl).new (hF.put h2 _) _ _, fun o' g' ho => ?_, fun o' ho => ?_, new_c_le (σ.put o g (some ⟨es, xs, false, false⟩)) o ⟨es, xs ++ [e], true, false⟩ o⟩
    · simp only [evO, hsrc, Option.bind_some, hall, if_true, h1, h2]
      simp
      simpa using hb
    · simp only [new_m, put_m]; rw [if_neg (fun h => ho h.1), if_neg (fun h => ho h.1)]
    · simp only [new_c, put_c]; rw [if_neg (fun h => ho h)]
theorem s_gat2 {d t es by_ : Nat} {x : PA} {xs : List PV} {e : PV} {ops : List POp} (hg : Gat σ [d] es false (fr t) xs) (hF : Fresh σ) (hsrc : srcOf σ es (pa fr x) = some [e]) (hok : okc e = true) (hl : (cellsOf e).length = es) (hb : (xs.length + 1) * by_ ≤ 70368744177664)
    (h2 : ∀ p σ', Gat σ' [d] es false p (xs ++ [e]) → Fresh σ' → (∀ P, SubP P σ σ') → (∀ o g, o ≠ d → σ'.m o g = σ.m o g) → (∀ o, o ≠ d → σ'.c o = σ.c o) → σ.c d ≤ σ'.c d → Wos env ops K (fr.set d p) σ') : Wos env (⟨some d, none, .app es by_ false (.t t) x⟩ :: ops) K fr σ := by
  obtain ⟨p, σ', h3, h4, h5, h6, h7, h8, h9⟩ := gat_app2 (E := EV env) (fr := fr) (s' := .t t) (x := x) hg hF hsrc hok hl hb
  exact s_plain h3 (h2 p σ' h4 h5 h6 h7 h8 h9)
structure Kp (P : Nat → Prop) (σ σ' : St) : Prop where
  f : Fresh σ'
  m : ∀ o g, P o → g < σ.c o → σ'.m o g = σ.m o g
  c : ∀ o, σ.c o ≤ σ'.c o
theorem Kp.refl {P : Nat → Prop} (hF : Fresh σ) : Kp P σ σ := ⟨hF, fun _ _ _ _ => rfl, fun _ => Nat.le_refl _⟩
theorem Kp.trans {P : Nat → Prop} (h : Kp P σ σ') (h' : Kp P σ' σ'') : Kp P σ σ'' :=
  ⟨h'.f, fun o g hp hg => by rw [h'.m o g hp (Nat.lt_of_lt_of_le hg (h.c o)), h.m o g hp hg], fun o => Nat.le_trans (h.c o) (h'.c o)⟩
theorem Kp.new {P : Nat → Prop} (h : Kp P σ σ') (o : Nat) (y : Obj) : Kp P σ (σ'.new o y) :=
  ⟨h.f.new _ _, fun o' g' hp hg => by
    simp only [new_m]; rw [if_neg (fun e => by obtain ⟨rfl, rfl⟩ := e; have := h.c o'; omega)]; exact h.m o' g' hp hg, fun o' => Nat.le_trans (h.c o') (new_c_le _ _ _ _)⟩
theorem Kp.put {P : Nat → Prop} (h : Kp P σ σ') {o g : Nat} {x : Obj} (hx : σ'.m o g = some x) (ho : ¬ P o ∨ σ.c o ≤ g) (y : Option Obj) : Kp P σ (σ'.put o g y) :=
  ⟨h.f.put hx y, fun o' g' hp hg => by
    simp only [put_m]; rw [if_neg (fun e => by obtain ⟨rfl, rfl⟩ := e; rcases ho with ho | ho; exact ho hp; omega)]; exact h.m o' g' hp hg, h.c⟩
theorem Kp.app {P : Nat → Prop} (h : Kp P σ σ') {d : Nat} (hF : Fresh σ'') (hm : ∀ o g, o ≠ d → σ''.m o g = σ'.m o g) (hc : ∀ o, o ≠ d → σ''.c o = σ'.c o) (hd : ¬ P d) (hcd : σ'.c d ≤ σ''.c d) : Kp P σ σ'' :=
  ⟨hF, fun o g hp hg => by rw [hm o g (fun e => hd (e ▸ hp))]; exact h.m o g hp hg, fun o => by
    by_cases e : o = d
    · rw [e]; exact Nat.le_trans (h.c d) hcd
    · rw [hc o e]; exact h.c o⟩
theorem Kp.mono {P P' : Nat → Prop} (h : Kp P σ σ') (hp : ∀ o, P' o → P o) : Kp P' σ σ' := ⟨h.f, fun o g h1 h2 => h.m o g (hp o h1) h2, h.c⟩
end

end
section
attribute [local go_sem ↓] e_mv e_pick e_bin e_eqs e_beq e_un e_cvi e_str e_s2b e_b2s e_box e_build e_bsl e_ld e_st e_nck e_mkf e_slcS e_slcL e_fa e_fld e_ia e_iaa e_ix e_ixa e_ext e_lenS e_lenL e_mnmx e_app e_appb e_bbx e_msl e_clr e_call e_callv e_icall e_slcA e_mkm e_mput e_mget e_mlen e_mdel pa_t pa_c pa_f slcSP_str hiOf_some hiOf_none loOf_some loOf_none set_eq set_ne
attribute [local go_sem] pv pv1 simple frOf_0 frOf_1 frOf_2 frOf_3 frOf_4 frOf_5 ne_eq not_false_eq_true if_true Bool.false_eq_true if_false pbin punary Option.map_some Option.bind_some pick_and pick_or opt_true Bool.true_and Bool.and_self Bool.and_true Bool.true_or Bool.false_or Bool.not_true Bool.not_false callE pcall_eq List.map_cons List.map_nil List.append_nil List.nil_append List.cons_append mapM_cons' mapM_nil' dep_eq fz_sc fz_sl fz_em fz_fn fz_fp fz_agg fz_tu fz_bx fz_ob Nat.lt_irrefl Nat.zero_lt_one Nat.lt_add_one flat clL cl Bool.or_true okc_sc okc_em okc_sl okc_ob okc_bx okc_fp okc_fn okc_agg okc_ifc cells_agg cells_sc cells_sl cells_em cells_ob cells_fn cells_bx cells_fp List.length_cons List.length_nil Nat.zero_add and_self true_and and_true new_m new_c put_m put_c nil_m nil_c nil_mm new_mm put_mm newM_m newM_c newM_mm putM_m putM_c putM_mm mkeyV_1 mkeyV_2 mapAt_eq deref List.getElem?_cons_zero List.getElem?_cons_succ List.drop_zero List.drop_succ_cons List.take_succ_cons List.take_zero Nat.le_refl false_and and_false decide_true decide_false lenP_em lenP_nil lenP_sl lenP_ob Int.ofNat_zero splice fillP fillE List.modify_zero_cons List.replicate_succ List.replicate_zero List.set_cons_zero List.drop_zero ba_data ba_size ba_toList ba_extract ba_append List.toList_toArray
def d303 : Def := (.code 5 [] (.seq (.rg false [⟨.some 5, .none, .box (.t 0)⟩]) (.seq (.rg false [⟨.some 7, .none, .mv (.c (.bool false))⟩]) (.seq (.seq (.rg false [⟨.some 12, .none, .fa 8 (.t 5)⟩, ⟨.some 13, .none, .ld .none (.t 12)⟩, ⟨.some 14, .none, .lenL (.t 13)⟩, ⟨.some 15, .none, .mv (.c (.int .i64 0))⟩]) (.block 0 (.loop (.seq (.rg false [⟨.some 16, .none, .bin .lss (.t 15) (.t 14)⟩]) (.seq (.cond (.t 16) .skip (.exit 0)) (.seq (.block 1 (.seq (.rg false [⟨.some 17, .none, .mv (.t 15)⟩, ⟨.some 18, .none, .ia 9 (.t 13) (.t 15)⟩, ⟨.some 19, .none, .ld (.some 9) (.t 18)⟩, ⟨.some 9, .none, .box (.c (.agg #[.string ⟨#[]⟩, .slice .none 0 0, .slice .none 0 0, .int .i64 0, .int .i64 0, .int .i64 0, .slice .none 0 0, .bool false, .slice .none 0 0]))⟩, ⟨.some 8, .none, .mv (.t 17)⟩, ⟨.none, .none, .st 9 (.t 9) (.t 19)⟩]) (.seq (.seq (.rg false [⟨.some 21, .none, .ld .none (.t 2)⟩, ⟨.some 22, .none, .fa 1 (.t 9)⟩, ⟨.some 23, .none, .ld .none (.t 22)⟩, ⟨.some 24, .none, .call 299 .pure [.t 21, .t 23]⟩, ⟨.some 20, .none, .mv (.t 24)⟩, ⟨.some 25, .none, .ext (.t 20) 0⟩, ⟨.some 26, .none, .ext (.t 20) 1⟩, ⟨.some 10, .none, .mv (.t 25)⟩, ⟨.some 11, .none, .mv (.t 26)⟩]) (.seq (.rg false [⟨.some 27, .none, .mv (.t 10)⟩, ⟨.some 28, .none, .un .not (.t 27)⟩]) (.cond (.t 28) (.exit 1) .skip))) (.seq (.rg false [⟨.some 7, .none, .mv (.c (.bool true))⟩]) (.seq (.rg true [⟨.some 29, .none, .ld .none (.t 3)⟩, ⟨.some 30, .none, .ld (.some 9) (.t 9)⟩, ⟨.some 31, .none, .mv (.t 1)⟩, ⟨.some 32, .none, .bin .add (.t 31) (.c (.string ⟨#[46]⟩))⟩, ⟨.some 33, .none, .mv (.t 8)⟩, ⟨.some 34, .none, .call 203 .strict [.t 33]⟩, ⟨.some 35, .none, .bin .add (.t 32) (.t 34)⟩, ⟨.some 36, .none, .callv (.t 29) .opn [.t 30, .t 35]⟩]) (.seq (.rg false [⟨.some 37, .none, .fa 7 (.t 9)⟩, ⟨.some 38, .none, .ld .none (.t 37)⟩, ⟨.some 39, .none, .un .not (.t 38)⟩]) (.cond (.t 39) (.exit 0) .skip))))))) (.rg false [⟨.some 40, .none, .bin .add (.t 15) (.c (.int .i64 1))⟩, ⟨.some 15, .none, .mv (.t 40)⟩]))))))) (.seq (.rg false [⟨.some 41, .none, .mv (.t 7)⟩, ⟨.some 42, .none, .un .not (.t 41)⟩]) (.cond (.t 42) (.seq (.rg false [⟨.some 43, .none, .fa 8 (.t 5)⟩, ⟨.none, .none, .st 1 (.t 43) (.c (.slice .none 0 0))⟩]) (.rg false [⟨.some 44, .none, .ld .none (.t 4)⟩, ⟨.some 45, .none, .mv (.t 1)⟩, ⟨.some 46, .none, .ld (.some 9) (.t 5)⟩, ⟨.some 47, .none, .build (.agg #[.string ⟨#[]⟩, .string ⟨#[]⟩, .slice .none 0 0, .slice .none 0 0, .int .i64 0, .int .i64 0, .int .i64 0, .slice .none 0 0, .bool false, .slice .none 0 0]) [(0, (1, .t 45)), (1, (9, .t 46))]⟩, ⟨.some 48, .none, .bsl 10 (.agg #[.string ⟨#[]⟩, .string ⟨#[]⟩, .slice .none 0 0, .slice .none 0 0, .int .i64 0, .int .i64 0, .int .i64 0, .slice .none 0 0, .bool false, .slice .none 0 0]) 1 [(0, .t 47)]⟩, ⟨.some 49, .none, .app 10 160 false (.t 44) (.t 48)⟩, ⟨.none, .none, .st 1 (.t 4) (.t 49)⟩])) .skip))))))
def d296 : Def := (.code 2 [.tmp 4, .tmp 5] (.seq (.rg false [⟨.some 2, .none, .box (.t 0)⟩, ⟨.some 3, .none, .box (.t 1)⟩, ⟨.some 4, .none, .mv (.c (.slice .none 0 0))⟩, ⟨.some 5, .none, .mv (.c (.int .i64 0))⟩]) (.seq (.seq (.rg false [⟨.some 8, .none, .ld (.some 9) (.t 2)⟩, ⟨.some 9, .none, .call 298 .pure [.t 8]⟩, ⟨.some 10, .none, .un .not (.t 9)⟩, ⟨.some 11, .none, .mv (.t 10)⟩, ⟨.some 12, .some (11, false), .ld .none (.t 3)⟩, ⟨.some 13, .some (11, false), .call 113 .pure [.t 12]⟩, ⟨.some 14, .some (11, false), .un .not (.t 13)⟩, ⟨.some 15, .none, .pick (.t 11) (.c (.bool true)) (.t 14)⟩]) (.cond (.t 15) (.seq (.rg false [⟨.some 4, .none, .mv (.c (.slice .none 0 0))⟩, ⟨.some 5, .none, .mv (.c (.int .i64 1))⟩]) .ret) .skip)) (.seq (.rg false [⟨.some 6, .none, .box (.c (.slice .none 0 0))⟩]) (.seq (.rg false [⟨.some 7, .none, .box (.c .nilFunc)⟩]) (.seq (.rg false [⟨.some 16, .none, .mkf 303 [] [.t 3, .t 7, .t 6]⟩, ⟨.none, .none, .st 1 (.t 7) (.t 16)⟩]) (.seq (.rg false [⟨.some 17, .none, .ld .none (.t 7)⟩, ⟨.some 18, .none, .ld (.some 9) (.t 2)⟩, ⟨.some 19, .none, .callv (.t 17) .opn [.t 18, .c (.string ⟨#[]⟩)]⟩]) (.seq (.rg false [⟨.some 20, .none, .ld .none (.t 6)⟩, ⟨.some 4, .none, .mv (.t 20)⟩, ⟨.some 5, .none, .mv (.c (.int .i64 0))⟩]) .ret))))))))
def lkc : List (Nat × Def) := [(303, d303), (296, d296)]
theorem findL_nil (l : List Lab) (p : ByteArray) (i : Nat) : findL l [] p i = [] := by rw [findL]
theorem findL_cons (l : List Lab) (k : Rt) (r : List Rt) (p : ByteArray) (i : Nat) : findL l (k :: r) p i = if holdsA l k.h.ms then findR l k (stepP p i) ++ (if k.h.on then findL l r p (i + 1) else []) else findL l r p (i + 1) := by rw [findL]
theorem findR_mk (l : List Lab) (h : Rh) (ks : List Rt) (p : ByteArray) : findR l (.mk h ks) p = if ks.any (fun k => holdsA l k.h.ms) then findL l ks p 0 else [(p, h)] := by rw [findR]
theorem findL_none (l : List Lab) : ∀ (ks : List Rt) (p : ByteArray) (i : Nat), ks.any (fun k => holdsA l k.h.ms) = false → findL l ks p i = []
  | [], p, i, _ => findL_nil l p i
  | k :: r, p, i, h => by
    rw [List.any_cons, Bool.or_eq_false_iff] at h
    rw [findL_cons, h.1]
    simp only [Bool.false_eq_true, if_false]
    exact findL_none l r p (i + 1) h.2
theorem cntL_take_le (ks : List Rt) (i : Nat) : cntL (ks.take i) ≤ cntL ks := by
  have := cntL_append (ks.take i) (ks.drop i)
  rw [List.take_append_drop] at this
  omega
theorem Rt.Held.hd {r : Rt} (h : r.Held) : r.h.Held := by
  obtain ⟨a, ks, h1, _, _⟩ := h
  exact h1
theorem mayR_ms {d : Nat} {r : Rt} (h : mayR d r = true) : r.h.ms.all rightM = true := by
  cases d with
  | zero => simp [mayR] at h
  | succ d =>
    have h2 : headR r.h r.ks.length = true := by
      have : mayR (d + 1) r = (headR r.h r.ks.length && r.ks.all (mayR d)) := rfl
      rw [this, Bool.and_eq_true] at h
      exact h.1
    unfold headR at h2
    simp only [Bool.and_eq_true, Bool.not_eq_true', Bool.or_eq_false_iff, Bool.not_eq_false'] at h2
    exact h2.1.1.1.1.1.2
theorem findR_len (l : List Lab) : ∀ (r : Rt) (p : ByteArray), (findR l r p).length ≤ cntR r := by
  refine Rt.induct fun h ks ih p => ?_
  rw [cntR_mk, findR]
  have : ∀ (ks : List Rt) (i : Nat), (∀ k ∈ ks, ∀ p, (findR l k p).length ≤ cntR k) → (findL l ks p i).length ≤ cntL ks := by
    intro ks
    induction ks with
    | nil => intro i _; rw [findL]; simp
    | cons k r ih2 =>
      intro i hi
      have h1 := hi k (by simp) (stepP p i)
      have h2 := ih2 (i + 1) fun x hx => hi x (by simp [hx])
      rw [findL, cntL]
      split
      · rw [List.length_append]
        split
        · omega
        · simp; omega
      · omega
  have := this ks 0 ih
  split
  · omega
  · simp
def tgV (q : ByteArray × Rh) : PV := .agg (.sc (.string q.1) :: cellsOf (rhd q.2 .em))
def tgs (l : List (ByteArray × Rh)) : List PV := l.map tgV
theorem tgs_len (l : List (ByteArray × Rh)) : (tgs l).length = l.length := by simp [tgs]
structure LeadP (l : List Lab) (xs : List (ByteArray × Rh)) (σ : St) : Prop where
  fr : Fresh σ
  l : σ.m 2000003 0 = some ⟨1, [.sl (labs l)], true, true⟩
  f : σ.m 2000007 0 = some ⟨1, [.fn 303 [] [.bx 2000003 0 1 0 0, .bx 2000007 0 1 0 0, .bx 2000006 0 1 0 0]], true, true⟩
  o : ∃ p, σ.m 2000006 0 = some ⟨1, [p], true, true⟩ ∧ Gat σ [49] 10 false p (tgs xs)
abbrev LeadK (o : Nat) : Prop := o ≠ 49 ∧ o ≠ 2000006
theorem itoa16 {i : Nat} (h : i < 16) : (itoaS (i : Int)).size ≤ 2 := by
  have : ∀ j ∈ List.range 16, (itoaS (j : Int)).size ≤ 2 := by decide +kernel
  exact this i (by simpa using h)
theorem stepP_size (p : ByteArray) {i : Nat} (h : i < 16) : (stepP p i).size ≤ p.size + 3 := by
  have := itoa16 h
  unfold stepP
  rw [ByteArray.size_append, ByteArray.size_append]
  have : (⟨#[46]⟩ : ByteArray).size = 1 := rfl
  omega
section
variable {env : Nat → Option Def} {fr : Fr} {σ σ' σ'' : St} {K : Fr → St → Prop} {Q : X → Fr → St → Prop} {p : PV} {bs : List UInt8}
theorem Gat.ok {os : List Nat} {es : Nat} {w : Bool} {p : PV} {xs : List PV} (h : Gat σ os es w p xs) : cellsOf p = [p] ∧ okc p = true := by
  rcases h with ⟨rfl, _⟩ | ⟨o, g, wr, _, rfl, _⟩
  · exact ⟨rfl, rfl⟩
  · exact ⟨rfl, rfl⟩
theorem s_some {d : Nat} {op : PO} {ops : List POp} (P : St → Prop) (hP : P σ) (h1 : ∀ σ, P σ → ∃ v σ', evO (EV env) d fr σ op = some (v, σ') ∧ Wos env ops K (fr.set d v) σ') : Wos env (⟨some d, none, op⟩ :: ops) K fr σ := by
  obtain ⟨v, σ', h2, h3⟩ := h1 σ hP
  exact s_plain h2 h3
theorem lead_new {l : List Lab} {xs : List (ByteArray × Rh)} (h : LeadP l xs σ) {d : Nat} (y : Obj) (hd : d ≠ 2000003 ∧ d ≠ 2000006 ∧ d ≠ 2000007 ∧ d ≠ 49) : LeadP l xs (σ.new d y) := by
  obtain ⟨h1, h2, h3, q, h4, h5⟩ := h
  refine ⟨h1.new _ _, ?_, ?_, q, ?_, h5.new y⟩
  · rw [new_m, if_neg (by omega)]; exact h2
  · rw [new_m, if_neg (by omega)]; exact h3
  · rw [new_m, if_neg (by omega)]; exact h4
theorem lead_put {l : List Lab} {xs : List (ByteArray × Rh)} (h : LeadP l xs σ) {d g : Nat} {x : Obj} (hx : σ.m d g = some x) (y : Option Obj) (hd : d ≠ 2000003 ∧ d ≠ 2000006 ∧ d ≠ 2000007 ∧ d ≠ 49) : LeadP l xs (σ.put d g y) := by
  obtain ⟨h1, h2, h3, q, h4, h5⟩ := h
  refine ⟨h1.put hx y, ?_, ?_, q, ?_, h5.put (by simp; omega) y⟩
  · rw [put_m, if_neg (by omega)]; exact h2
  · rw [put_m, if_neg (by omega)]; exact h3
  · rw [put_m, if_neg (by omega)]; exact h4
theorem a303 (H : Mm4 env) (A : Has lha env) (F : Has lkc env) {l : List Lab} (hr : rightL l = true) (hln : l.length ≤ 9223372036854775807) (hls : Smalls l) : ∀ (d : Nat), d < 100 → ∀ r : Rt, r.Held → mayR d r = true → ∀ (p : ByteArray) (σ : St) (xs : List (ByteArray × Rh)),
    p.size + 3 * d ≤ 1000 → xs.length + cntR r ≤ 1000000 → LeadP l xs σ →
    ∃ σ', EV env 303 [rt r, .sc (.string p), .bx 2000003 0 1 0 0, .bx 2000007 0 1 0 0, .bx 2000006 0 1 0 0] σ = some (.tu [], σ') ∧ LeadP l (xs ++ findR l r p) σ' ∧ Kp LeadK σ σ'
  | 0, _, r, _, hm, _, _, _, _, _, _ => by simp [mayR] at hm
  | d + 1, hd, r, hrh, hm, p, σ0, xs, hps, hcn, hP => by
    obtain ⟨h, ks, hh, hkl, hkh⟩ := hrh
    have hmk : headR h ks.length = true ∧ ks.all (mayR d) = true := by
      have : mayR (d + 1) (.mk h ks) = (headR h ks.length && ks.all (mayR d)) := rfl
      rw [this, Bool.and_eq_true] at hm
      exact hm
    obtain ⟨hhd, hka⟩ := hmk
    have hk16 : ks.length ≤ 16 := by
      unfold headR at hhd
      simp only [Bool.and_eq_true, Bool.not_eq_true', Bool.or_eq_false_iff, decide_eq_false_iff_not] at hhd
      omega
    have hkl' := rts_len ks
    obtain ⟨r0, σ', hE, hr0, hP', hK⟩ := EV_wp' (σ := σ0) (R := fun r0 τ => r0 = .tu [] ∧ LeadP l (xs ++ findR l (.mk h ks) p) τ ∧ Kp LeadK σ0 τ) (F (303, d303) (by simp [lkc])) (as := [rt (.mk h ks), .sc (.string p), .bx 2000003 0 1 0 0, .bx 2000007 0 1 0 0, .bx 2000006 0 1 0 0]) rfl (by
      rw [rt]
      unfold rhd
      (repeat' first
    | refine w_seq ?_ | refine w_rg ?_ | refine wo_nil ?_ | refine g_skU ?_ | refine g_skT ?_ | refine g_skF ?_
    | ((first | apply s_plain | apply s_void | apply s_guard | apply g_goT | apply g_goF); · simp only [go_sem, Nat.reduceEqDiff, Nat.reduceAdd, Nat.reduceLeDiff, hkl']; (first | done | rfl))
    | ((first | apply g_T | apply g_F | apply g_gT | apply g_gF); · intro q1_; (first | intro q2_ | have q2_ := q1_); simp only [go_sem, Nat.reduceEqDiff, Nat.reduceAdd, Nat.reduceLeDiff, hkl', q1_, q2_]; (first | done | rfl))
    | fail
    )
      refine w_cutB (fun fr σ => fr 1 = .sc (.string p) ∧ fr 4 = .bx 2000006 0 1 0 0 ∧ fr 5 = .bx 2000005 (σ0.c 2000005) 9 0 0 ∧ fr 7 = .sc (.bool (ks.any fun k => holdsA l k.h.ms)) ∧ LeadP l (xs ++ findL l ks p 0) σ ∧ Kp LeadK σ0 σ ∧
        σ.m 2000005 (σ0.c 2000005) = some ⟨9, [rhd h (.sl (rts ks))], true, true⟩) ?_ ?_
      · refine w_rangeF ks.length hkl (fun i fr σ => fr 7 = .sc (.bool ((ks.take i).any fun k => holdsA l k.h.ms)) ∧ (∃ acc, (findL l ks p 0 = acc ++ findL l (ks.drop i) p i ∧ acc.length ≤ cntL (ks.take i)) ∧ LeadP l (xs ++ acc) σ) ∧ Kp LeadK σ0 σ ∧
            σ.m 2000005 (σ0.c 2000005) = some ⟨9, [rhd h (.sl (rts ks))], true, true⟩) ⟨by decide, rfl, rfl⟩ ?_ ?_ (by simp only [go_sem, Nat.reduceEqDiff, Nat.reduceAdd, Nat.reduceLeDiff]; first | done | rfl) (by simp only [go_sem, Nat.reduceEqDiff, Nat.reduceAdd, Nat.reduceLeDiff, hkl']; first | done | rfl) ?_ ?_
        · rintro i fr1 σ1 v ⟨h7, h2⟩
          refine ⟨⟨?_, h2⟩, ⟨?_, h2⟩, ⟨?_, h2⟩⟩ <;> simp only [go_sem, Nat.reduceEqDiff, Nat.reduceAdd, Nat.reduceLeDiff, h7]
        · refine ⟨by simp only [go_sem, Nat.reduceEqDiff, Nat.reduceAdd, Nat.reduceLeDiff, List.any_nil], ⟨[], ⟨by simp, by simp⟩, by rw [List.append_nil]; exact lead_new hP _ (by decide)⟩, (Kp.refl hP.fr).new _ _, by simp only [go_sem, Nat.reduceEqDiff, Nat.reduceAdd, Nat.reduceLeDiff, rhd]⟩
        · rintro i fr1 σ1 hi ⟨h7, ⟨acc, ⟨hacc, hal⟩, hL⟩, hK, hX⟩ hti hfr
          have f0_1 := hfr 1 rfl; have f0_2 := hfr 2 rfl; have f0_3 := hfr 3 rfl; have f0_13 := hfr 13 rfl; have f0_14 := hfr 14 rfl; try (simp only [go_sem, Nat.reduceEqDiff, Nat.reduceAdd, Nat.reduceLeDiff] at f0_1); try (simp only [go_sem, Nat.reduceEqDiff, Nat.reduceAdd, Nat.reduceLeDiff] at f0_2); try (simp only [go_sem, Nat.reduceEqDiff, Nat.reduceAdd, Nat.reduceLeDiff] at f0_3); try (simp only [go_sem, Nat.reduceEqDiff, Nat.reduceAdd, Nat.reduceLeDiff] at f0_13); try (simp only [go_sem, Nat.reduceEqDiff, Nat.reduceAdd, Nat.reduceLeDiff] at f0_14)
          have hx := List.getElem?_eq_getElem hi
          have hy := rts_at hx
          rw [rt_eq] at hy
          have e1 : (0 : Int) ≤ (i : Int) ∧ (i : Int) < (ks.length : Int) := by omega
          have hkm : mayR d ks[i] = true := List.all_eq_true.1 hka _ (List.getElem_mem hi)
          have hkd := hkh _ (List.getElem_mem hi)
          have hdrop : ks.drop i = ks[i] :: ks.drop (i + 1) := List.drop_eq_getElem_cons hi
          have htake : (ks.take (i + 1)).any (fun k => holdsA l k.h.ms) = ((ks.take i).any (fun k => holdsA l k.h.ms) || holdsA l ks[i].h.ms) := by
            rw [List.take_succ_eq_append_getElem hi, List.any_append, List.any_cons, List.any_nil, Bool.or_false]
          have hany : holdsA l ks[i].h.ms = true → ks.any (fun k => holdsA l k.h.ms) = true := fun hh => List.any_eq_true.2 ⟨_, List.getElem_mem hi, hh⟩
          have hcnt0 := cntL_take hi
          have hcnt1 := cntL_take_le ks (i + 1)
          rw [cntR_mk] at hcn
          rw [hdrop, findL_cons] at hacc
          generalize ks[i] = k at hx hy hkm hkd hdrop htake hany hcnt0 hacc
          have h299 : AV env 299 [.sl (labs l), .sl (mts k.h.ms)] = some (.tu [.sc (.bool (holdsA l k.h.ms)), .sc (.int .i64 0)]) := by
            have := a299 H (ms := k.h.ms) (l := l) hkd.hd.ms hkd.hd.mss hln hls
            rw [hr, mayR_ms hkm] at this
            exact this
          have hkn := findR_len l k (stepP p i)
          have ho := hL.l
          unfold rhd at hy
          refine w_block ?_
          (repeat' first
    | refine w_seq ?_ | refine w_rg ?_ | refine wo_nil ?_ | refine g_skU ?_ | refine g_skT ?_ | refine g_skF ?_
    | ((first | apply s_plain | apply s_void | apply s_guard | apply g_goT | apply g_goF); · simp only [go_sem, Nat.reduceEqDiff, Nat.reduceAdd, Nat.reduceLeDiff, f0_1, f0_2, f0_3, f0_13, f0_14, hti, e1, hkl', Int.toNat_natCast, hy, ho, h299, List.set_cons_succ]; (first | done | rfl))
    | ((first | apply g_T | apply g_F | apply g_gT | apply g_gF); · intro q1_; (first | intro q2_ | have q2_ := q1_); simp only [go_sem, Nat.reduceEqDiff, Nat.reduceAdd, Nat.reduceLeDiff, f0_1, f0_2, f0_3, f0_13, f0_14, hti, e1, hkl', Int.toNat_natCast, hy, ho, h299, List.set_cons_succ, q1_, q2_]; (first | done | rfl))
    | fail
    )
          have hL1 : LeadP l (xs ++ acc) ((σ1.new 2000009 ⟨9, [.agg [.sc (.string ⟨#[]⟩), .em, .em, .sc (.int .i64 0), .sc (.int .i64 0), .sc (.int .i64 0), .em, .sc (.bool false), .em]], true, true⟩).put 2000009 (σ1.c 2000009) (some ⟨9, [rhd k.h (.sl (rts k.ks))], true, true⟩)) := lead_put (lead_new hL _ (by decide)) (by simp only [go_sem, Nat.reduceEqDiff, Nat.reduceAdd, Nat.reduceLeDiff]; rfl) _ (by decide)
          have hK1 : Kp LeadK σ0 ((σ1.new 2000009 ⟨9, [.agg [.sc (.string ⟨#[]⟩), .em, .em, .sc (.int .i64 0), .sc (.int .i64 0), .sc (.int .i64 0), .em, .sc (.bool false), .em]], true, true⟩).put 2000009 (σ1.c 2000009) (some ⟨9, [rhd k.h (.sl (rts k.ks))], true, true⟩)) := (hK.new _ _).put (x := ⟨9, [.agg [.sc (.string ⟨#[]⟩), .em, .em, .sc (.int .i64 0), .sc (.int .i64 0), .sc (.int .i64 0), .em, .sc (.bool false), .em]], true, true⟩) (by simp only [go_sem, Nat.reduceEqDiff, Nat.reduceAdd, Nat.reduceLeDiff]) (.inr (hK.c _)) _
          have hX1 : ((σ1.new 2000009 ⟨9, [.agg [.sc (.string ⟨#[]⟩), .em, .em, .sc (.int .i64 0), .sc (.int .i64 0), .sc (.int .i64 0), .em, .sc (.bool false), .em]], true, true⟩).put 2000009 (σ1.c 2000009) (some ⟨9, [rhd k.h (.sl (rts k.ks))], true, true⟩)).m 2000005 (σ0.c 2000005) = some ⟨9, [rhd h (.sl (rts ks))], true, true⟩ := by simp only [go_sem, Nat.reduceEqDiff, Nat.reduceAdd, Nat.reduceLeDiff, hX]
          have hB1 : ((σ1.new 2000009 ⟨9, [.agg [.sc (.string ⟨#[]⟩), .em, .em, .sc (.int .i64 0), .sc (.int .i64 0), .sc (.int .i64 0), .em, .sc (.bool false), .em]], true, true⟩).put 2000009 (σ1.c 2000009) (some ⟨9, [rhd k.h (.sl (rts k.ks))], true, true⟩)).m 2000009 (σ1.c 2000009) = some ⟨9, [rhd k.h (.sl (rts k.ks))], true, true⟩ := by simp only [go_sem, Nat.reduceEqDiff, Nat.reduceAdd, Nat.reduceLeDiff]
          unfold rhd at hL1 hK1 hX1 hB1
          generalize ((σ1.new 2000009 ⟨9, [.agg [.sc (.string ⟨#[]⟩), .em, .em, .sc (.int .i64 0), .sc (.int .i64 0), .sc (.int .i64 0), .em, .sc (.bool false), .em]], true, true⟩).put 2000009 (σ1.c 2000009) _) = σ2 at hL1 hK1 hX1 hB1 ⊢
          refine w_condB (by simp only [go_sem, Nat.reduceEqDiff, Nat.reduceAdd, Nat.reduceLeDiff]; first | done | rfl) (fun hc => ?_) (fun hc => ?_)
          · have hb : holdsA l k.h.ms = false := by simpa using hc
            rw [hb] at htake hacc
            simp only [Bool.false_eq_true, if_false, Bool.or_false] at hacc htake
            (repeat' first
    | refine w_seq ?_ | refine w_rg ?_ | refine wo_nil ?_ | refine g_skU ?_ | refine g_skT ?_ | refine g_skF ?_
    | ((first | apply s_plain | apply s_void | apply s_guard | apply g_goT | apply g_goF); · simp only [go_sem, Nat.reduceEqDiff, Nat.reduceAdd, Nat.reduceLeDiff]; (first | done | rfl))
    | ((first | apply g_T | apply g_F | apply g_gT | apply g_gF); · intro q1_; (first | intro q2_ | have q2_ := q1_); simp only [go_sem, Nat.reduceEqDiff, Nat.reduceAdd, Nat.reduceLeDiff, q1_, q2_]; (first | done | rfl))
    | (apply w_condX; · simp only [go_sem, Nat.reduceEqDiff, Nat.reduceAdd, Nat.reduceLeDiff]; (first | done | rfl)); (first | refine wcd_T ?_ | refine wcd_F ?_)
    | refine w_skip ?_ | refine w_exit ?_ | refine w_ret ?_
    | fail
    )
            try simp only [if_true]
            refine ⟨?_, ⟨acc, ⟨hacc, by omega⟩, hL1⟩, hK1, hX1⟩
            simp only [go_sem, Nat.reduceEqDiff, Nat.reduceAdd, Nat.reduceLeDiff, h7, htake]
          · have hb : holdsA l k.h.ms = true := by simpa using hc
            rw [hb] at htake hacc
            simp only [if_true, Bool.or_true] at hacc htake
            have hi16 : i < 16 := by omega
            have hsz := stepP_size p hi16
            have h203 := a203 A (n := (i : Int)) (by omega) (by omega)
            have hit := itoa16 hi16
            obtain ⟨τ, hτ, hLτ, hKτ⟩ := a303 H A F hr hln hls d (by omega) k hkd hkm (stepP p i) σ2 (xs ++ acc) (by omega) (by rw [List.length_append]; omega) hL1
            rw [rt_eq] at hτ
            unfold rhd stepP at hτ
            have hs1 : p.size + 1 ≤ 9223372036854775807 := by omega
            have hs2 : (p ++ (⟨#[46]⟩ : ByteArray)).size + (itoaS (i : Int)).size ≤ 9223372036854775807 := by
              rw [ByteArray.size_append]
              have : (⟨#[46]⟩ : ByteArray).size = 1 := rfl
              omega
            have hf2 := hL1.f
            have hgc : σ1.c 2000009 < σ2.c 2000009 := hL1.fr 2000009 _ (by rw [hB1]; rfl)
            have hg5 : σ0.c 2000005 < σ2.c 2000005 := hL1.fr 2000005 _ (by rw [hX1]; rfl)
            have hBτ := hKτ.m 2000009 (σ1.c 2000009) (by decide) hgc
            rw [hB1] at hBτ
            have hXτ := hKτ.m 2000005 (σ0.c 2000005) (by decide) hg5
            rw [hX1] at hXτ
            (repeat' first
    | refine w_seq ?_ | refine w_rg ?_ | refine wo_nil ?_ | refine g_skU ?_ | refine g_skT ?_ | refine g_skF ?_
    | ((first | apply s_plain | apply s_void | apply s_guard | apply g_goT | apply g_goF); · simp only [go_sem, Nat.reduceEqDiff, Nat.reduceAdd, Nat.reduceLeDiff, f0_1, f0_2, f0_3, f0_13, f0_14, hB1, hf2, h203, hs1, hs2, hτ, hBτ]; (first | done | rfl))
    | ((first | apply g_T | apply g_F | apply g_gT | apply g_gF); · intro q1_; (first | intro q2_ | have q2_ := q1_); simp only [go_sem, Nat.reduceEqDiff, Nat.reduceAdd, Nat.reduceLeDiff, f0_1, f0_2, f0_3, f0_13, f0_14, hB1, hf2, h203, hs1, hs2, hτ, hBτ, q1_, q2_]; (first | done | rfl))
    | (apply w_condX; · simp only [go_sem, Nat.reduceEqDiff, Nat.reduceAdd, Nat.reduceLeDiff, f0_1, f0_2, f0_3, f0_13, f0_14, hB1, hf2, h203, hs1, hs2, hτ, hBτ]; (first | done | rfl)); (first | refine wcd_T ?_ | refine wcd_F ?_)
    | refine w_skip ?_ | refine w_exit ?_ | refine w_ret ?_
    | fail
    )
            cases hon : k.h.on with
            | true =>
              rw [hon] at hacc
              simp only [if_true] at hacc
              (repeat' first
    | refine w_seq ?_ | refine w_rg ?_ | refine wo_nil ?_ | refine g_skU ?_ | refine g_skT ?_ | refine g_skF ?_
    | ((first | apply s_plain | apply s_void | apply s_guard | apply g_goT | apply g_goF); · simp only [go_sem, Nat.reduceEqDiff, Nat.reduceAdd, Nat.reduceLeDiff, hon]; (first | done | rfl))
    | ((first | apply g_T | apply g_F | apply g_gT | apply g_gF); · intro q1_; (first | intro q2_ | have q2_ := q1_); simp only [go_sem, Nat.reduceEqDiff, Nat.reduceAdd, Nat.reduceLeDiff, hon, q1_, q2_]; (first | done | rfl))
    | (apply w_condX; · simp only [go_sem, Nat.reduceEqDiff, Nat.reduceAdd, Nat.reduceLeDiff, hon]; (first | done | rfl)); (first | refine wcd_T ?_ | refine wcd_F ?_)
    | refine w_skip ?_ | refine w_exit ?_ | refine w_ret ?_
    | fail
    )
              try simp only [if_true]
              refine ⟨?_, ⟨acc ++ findR l k (stepP p i), ⟨by rw [hacc, List.append_assoc], by rw [List.length_append]; omega⟩, by rw [← List.append_assoc]; exact hLτ⟩, hK1.trans hKτ, hXτ⟩
              simp only [go_sem, Nat.reduceEqDiff, Nat.reduceAdd, Nat.reduceLeDiff, htake]
            | false =>
              rw [hon] at hacc
              simp only [Bool.false_eq_true, if_false, List.append_nil] at hacc
              (repeat' first
    | refine w_seq ?_ | refine w_rg ?_ | refine wo_nil ?_ | refine g_skU ?_ | refine g_skT ?_ | refine g_skF ?_
    | ((first | apply s_plain | apply s_void | apply s_guard | apply g_goT | apply g_goF); · simp only [go_sem, Nat.reduceEqDiff, Nat.reduceAdd, Nat.reduceLeDiff, hon]; (first | done | rfl))
    | ((first | apply g_T | apply g_F | apply g_gT | apply g_gF); · intro q1_; (first | intro q2_ | have q2_ := q1_); simp only [go_sem, Nat.reduceEqDiff, Nat.reduceAdd, Nat.reduceLeDiff, hon, q1_, q2_]; (first | done | rfl))
    | (apply w_condX; · simp only [go_sem, Nat.reduceEqDiff, Nat.reduceAdd, Nat.reduceLeDiff, hon]; (first | done | rfl)); (first | refine wcd_T ?_ | refine wcd_F ?_)
    | refine w_skip ?_ | refine w_exit ?_ | refine w_ret ?_
    | fail
    )
              try simp only [if_true]
              refine ⟨by simp only [go_sem, Nat.reduceEqDiff, Nat.reduceAdd, Nat.reduceLeDiff, f0_1, f0_2, f0_3, f0_13, f0_14], by simp only [go_sem, Nat.reduceEqDiff, Nat.reduceAdd, Nat.reduceLeDiff]; exact (hfr 4 rfl).trans (by simp only [go_sem, Nat.reduceEqDiff, Nat.reduceAdd, Nat.reduceLeDiff]), by simp only [go_sem, Nat.reduceEqDiff, Nat.reduceAdd, Nat.reduceLeDiff]; exact (hfr 5 rfl).trans (by simp only [go_sem, Nat.reduceEqDiff, Nat.reduceAdd, Nat.reduceLeDiff]), by simp only [go_sem, Nat.reduceEqDiff, Nat.reduceAdd, Nat.reduceLeDiff, hany hb], by rw [hacc, ← List.append_assoc]; exact hLτ, hK1.trans hKτ, hXτ⟩
        · rintro fr1 σ1 ⟨h7, ⟨acc, ⟨hacc, hal⟩, hL⟩, hK, hX⟩ hfr
          have e0_1 := hfr 1 rfl; have e0_4 := hfr 4 rfl; have e0_5 := hfr 5 rfl; try (simp only [go_sem, Nat.reduceEqDiff, Nat.reduceAdd, Nat.reduceLeDiff] at e0_1); try (simp only [go_sem, Nat.reduceEqDiff, Nat.reduceAdd, Nat.reduceLeDiff] at e0_4); try (simp only [go_sem, Nat.reduceEqDiff, Nat.reduceAdd, Nat.reduceLeDiff] at e0_5)
          try simp only [if_true]
          rw [List.drop_length, findL_nil, List.append_nil] at hacc
          rw [List.take_length] at h7
          rw [← hacc] at hL
          exact ⟨by simp only [e0_1, e0_4, e0_5], by simp only [e0_1, e0_4, e0_5], by simp only [e0_1, e0_4, e0_5], h7, hL, hK, hX⟩
      · rintro fr1 σ1 ⟨g1, g4, g5, g7, hL, hK, hX⟩
        try simp only [if_true]
        obtain ⟨q, ho, hg⟩ := hL.o
        unfold rhd at hX
        cases ha : ks.any (fun k => holdsA l k.h.ms) with
        | true =>
          rw [ha] at g7
          have hfR : findR l (.mk h ks) p = findL l ks p 0 := by rw [findR_mk, if_pos ha]
          rw [hfR]
          (repeat' first
    | refine w_seq ?_ | refine w_rg ?_ | refine wo_nil ?_ | refine g_skU ?_ | refine g_skT ?_ | refine g_skF ?_
    | ((first | apply s_plain | apply s_void | apply s_guard | apply g_goT | apply g_goF); · simp only [go_sem, Nat.reduceEqDiff, Nat.reduceAdd, Nat.reduceLeDiff, g7]; (first | done | rfl))
    | ((first | apply g_T | apply g_F | apply g_gT | apply g_gF); · intro q1_; (first | intro q2_ | have q2_ := q1_); simp only [go_sem, Nat.reduceEqDiff, Nat.reduceAdd, Nat.reduceLeDiff, g7, q1_, q2_]; (first | done | rfl))
    | (apply w_condX; · simp only [go_sem, Nat.reduceEqDiff, Nat.reduceAdd, Nat.reduceLeDiff, g7]; (first | done | rfl)); (first | refine wcd_T ?_ | refine wcd_F ?_)
    | refine w_skip ?_ | refine w_exit ?_ | refine w_ret ?_
    | fail
    )
          exact ⟨.inl rfl, .tu [], rfl, rfl, hL, hK⟩
        | false =>
          rw [ha] at g7
          have hfR : findR l (.mk h ks) p = [(p, h)] := by rw [findR_mk, ha]; rfl
          have hfL : findL l ks p 0 = [] := findL_none l ks p 0 ha
          rw [hfL, List.append_nil] at hL hg
          rw [hfR]
          (repeat' first
    | refine w_seq ?_ | refine w_rg ?_ | refine wo_nil ?_ | refine g_skU ?_ | refine g_skT ?_ | refine g_skF ?_
    | ((first | apply s_plain | apply s_void | apply s_guard | apply g_goT | apply g_goF); · simp only [go_sem, Nat.reduceEqDiff, Nat.reduceAdd, Nat.reduceLeDiff, g7, g5, g4, g1, hX, ho, List.set_cons_succ]; (first | done | rfl))
    | ((first | apply g_T | apply g_F | apply g_gT | apply g_gF); · intro q1_; (first | intro q2_ | have q2_ := q1_); simp only [go_sem, Nat.reduceEqDiff, Nat.reduceAdd, Nat.reduceLeDiff, g7, g5, g4, g1, hX, ho, List.set_cons_succ, q1_, q2_]; (first | done | rfl))
    | (apply w_condX; · simp only [go_sem, Nat.reduceEqDiff, Nat.reduceAdd, Nat.reduceLeDiff, g7, g5, g4, g1, hX, ho, List.set_cons_succ]; (first | done | rfl)); (first | refine wcd_T ?_ | refine wcd_F ?_)
    | refine w_skip ?_ | refine w_exit ?_ | refine w_ret ?_
    | fail
    )
          have hL2 := lead_put hL hX (some ⟨9, [.agg [.sc (.string h.recv), .sl (mts h.ms), .sl (strs h.bys), .sc (.int .i64 h.wait), .sc (.int .i64 h.every), .sc (.int .i64 h.rep), .sl (strs h.mute), .sc (.bool h.on), .em]], true, true⟩) (by decide)
          have hK2 := hK.put hX (.inr (Nat.le_refl _)) (some ⟨9, [.agg [.sc (.string h.recv), .sl (mts h.ms), .sl (strs h.bys), .sc (.int .i64 h.wait), .sc (.int .i64 h.every), .sc (.int .i64 h.rep), .sl (strs h.mute), .sc (.bool h.on), .em]], true, true⟩)
          have hX2 : (σ1.put 2000005 (σ0.c 2000005) (some ⟨9, [.agg [.sc (.string h.recv), .sl (mts h.ms), .sl (strs h.bys), .sc (.int .i64 h.wait), .sc (.int .i64 h.every), .sc (.int .i64 h.rep), .sl (strs h.mute), .sc (.bool h.on), .em]], true, true⟩)).m 2000005 (σ0.c 2000005) = some ⟨9, [.agg [.sc (.string h.recv), .sl (mts h.ms), .sl (strs h.bys), .sc (.int .i64 h.wait), .sc (.int .i64 h.every), .sc (.int .i64 h.rep), .sl (strs h.mute), .sc (.bool h.on), .em]], true, true⟩ := by simp only [go_sem, Nat.reduceEqDiff, Nat.reduceAdd, Nat.reduceLeDiff]
          clear ho hg
          generalize σ1.put 2000005 (σ0.c 2000005) _ = σ2 at hL2 hK2 hX2 ⊢
          obtain ⟨q, ho, hg⟩ := hL2.o
          obtain ⟨cq, okq⟩ := hg.ok
          (repeat' first
    | refine w_seq ?_ | refine w_rg ?_ | refine wo_nil ?_ | refine g_skU ?_ | refine g_skT ?_ | refine g_skF ?_
    | ((first | apply s_plain | apply s_void | apply s_guard | apply g_goT | apply g_goF); · simp only [go_sem, Nat.reduceEqDiff, Nat.reduceAdd, Nat.reduceLeDiff, g5, g4, g1, hX2, ho, cq, List.set_cons_succ]; (first | done | rfl))
    | ((first | apply g_T | apply g_F | apply g_gT | apply g_gF); · intro q1_; (first | intro q2_ | have q2_ := q1_); simp only [go_sem, Nat.reduceEqDiff, Nat.reduceAdd, Nat.reduceLeDiff, g5, g4, g1, hX2, ho, cq, List.set_cons_succ, q1_, q2_]; (first | done | rfl))
    | fail
    )
          refine s_gat2 (d := 49) (t := 44) (x := .t 48) (xs := tgs xs) (e := tgV (p, h)) (by simp only [go_sem, Nat.reduceEqDiff, Nat.reduceAdd, Nat.reduceLeDiff]; exact hg.new _) (hL2.fr.new _ _) (by simp only [go_sem, Nat.reduceEqDiff, Nat.reduceAdd, Nat.reduceLeDiff, srcOf, elemsOf, List.set_cons_succ, tgV, rhd]) rfl rfl (by rw [tgs_len]; rw [cntR_mk] at hcn; omega) ?_
          intro p2 σ3 hg2 hF2 _ hm2 hc2 hd2
          have n6 : σ3.m 2000006 0 = some ⟨1, [q], true, true⟩ := by rw [hm2 _ _ (by decide)]; simp only [go_sem, Nat.reduceEqDiff, Nat.reduceAdd, Nat.reduceLeDiff, ho]
          obtain ⟨cq2, okq2⟩ := hg2.ok
          (repeat' first
    | refine w_seq ?_ | refine w_rg ?_ | refine wo_nil ?_ | refine g_skU ?_ | refine g_skT ?_ | refine g_skF ?_
    | ((first | apply s_plain | apply s_void | apply s_guard | apply g_goT | apply g_goF); · simp only [go_sem, Nat.reduceEqDiff, Nat.reduceAdd, Nat.reduceLeDiff, g4, n6, cq2, okq2, List.set_cons_succ]; (first | done | rfl))
    | ((first | apply g_T | apply g_F | apply g_gT | apply g_gF); · intro q1_; (first | intro q2_ | have q2_ := q1_); simp only [go_sem, Nat.reduceEqDiff, Nat.reduceAdd, Nat.reduceLeDiff, g4, n6, cq2, okq2, List.set_cons_succ, q1_, q2_]; (first | done | rfl))
    | fail
    )
          refine ⟨.inl rfl, .tu [], rfl, rfl, ⟨hF2.put n6 _, ?_, ?_, p2, by simp only [go_sem, Nat.reduceEqDiff, Nat.reduceAdd, Nat.reduceLeDiff], ?_⟩, ?_⟩
          · rw [put_m, if_neg (by decide), hm2 _ _ (by decide), new_m, if_neg (by omega)]; exact hL2.l
          · rw [put_m, if_neg (by decide), hm2 _ _ (by decide), new_m, if_neg (by omega)]; exact hL2.f
          · have : tgs (xs ++ [(p, h)]) = tgs xs ++ [tgV (p, h)] := by simp [tgs]
            rw [this]
            exact hg2.put (by decide) _
          · exact (((hK2.new 48 _).app (d := 49) hF2 hm2 hc2 (by decide) hd2).put n6 (.inl (by decide)) _))
    exact ⟨σ', by rw [hE, hr0], hP', hK⟩
def tgF (q : ByteArray × Rh) : PV := .agg (.sc (.string q.1) :: cellsOf (rhd q.2 (.sl [])))
def tgFs (l : List (ByteArray × Rh)) : List PV := l.map tgF
theorem tgFs_len (l : List (ByteArray × Rh)) : (tgFs l).length = l.length := by simp [tgFs]
theorem tgFs_at {l : List (ByteArray × Rh)} {i : Nat} {q : ByteArray × Rh} (h : l[i]? = some q) : (tgFs l)[i]? = some (tgF q) := by simp [tgFs, h]
theorem tgs_fz (σ : St) (d : Nat) (l : List (ByteArray × Rh)) : (tgs l).mapM (fz σ (d + 2)) = some (tgFs l) := by
  induction l with
  | nil => rfl
  | cons m r ih =>
    show List.mapM (fz σ (d + 2)) (tgV m :: tgs r) = _
    rw [mapM_cons', ih]
    rfl
theorem gat_fz2 {os : List Nat} {es d : Nat} {w : Bool} {p : PV} {xs ys : List PV} (h : Gat σ os es w p xs) (hx : xs.mapM (fz σ d) = some ys) : fz σ (d + 1) p = some (.sl ys) := by
  rcases h with ⟨rfl, rfl⟩ | ⟨o, g, wr, _, rfl, h2, _⟩
  · rw [mapM_nil'] at hx
    simp only [Option.some.injEq] at hx
    subst hx
    rfl
  · rw [fz_ob, h2]
    simp only
    rw [if_pos ⟨trivial, by omega⟩, List.drop_zero, List.take_length, hx]
    rfl
theorem a296 (H : Mm4 env) (B : Has lkb env) (A : Has lha env) (F : Has lkc env) {r : Rt} {l : List Lab} (hrh : r.Held) (hc : cntR r ≤ 1000000) (hln : l.length ≤ 9223372036854775807) (hls : Smalls l) :
    AV env 296 [rt r, .sl (labs l)] = some (if mayR 4 r && rightL l then .tu [.sl (tgFs (findR l r ⟨#[]⟩)), .sc (.int .i64 0)] else .tu [.sl [], .sc (.int .i64 1)]) := by
  have h298 := a298 H B hrh
  have h113 := a113 H.l H.c hln hls
  refine AV_wp (F (296, d296) (by simp [lkc])) rfl ?_
  rw [rt_eq] at h298
  rw [rt_eq r]
  unfold rhd at h298 ⊢
  cases hm : mayR 4 r with
  | false =>
    rw [hm] at h298
    (repeat' first
    | refine w_seq ?_ | refine w_rg ?_ | refine wo_nil ?_ | refine g_skU ?_ | refine g_skT ?_ | refine g_skF ?_
    | ((first | apply s_plain | apply s_void | apply s_guard | apply g_goT | apply g_goF); · simp only [go_sem, Nat.reduceEqDiff, Nat.reduceAdd, Nat.reduceLeDiff, h298]; (first | done | rfl))
    | ((first | apply g_T | apply g_F | apply g_gT | apply g_gF); · intro q1_; (first | intro q2_ | have q2_ := q1_); simp only [go_sem, Nat.reduceEqDiff, Nat.reduceAdd, Nat.reduceLeDiff, h298, q1_, q2_]; (first | done | rfl))
    | (apply w_condX; · simp only [go_sem, Nat.reduceEqDiff, Nat.reduceAdd, Nat.reduceLeDiff, h298]; (first | done | rfl)); (first | refine wcd_T ?_ | refine wcd_F ?_)
    | refine w_skip ?_ | refine w_exit ?_ | refine w_ret ?_
    | fail
    )
    exact ⟨by first | exact .inr rfl | exact .inr trivial | exact .inl rfl, by simp only [go_sem, Nat.reduceEqDiff, Nat.reduceAdd, Nat.reduceLeDiff, retOf, resOf, Bool.false_and]; first | done | rfl⟩
  | true =>
    rw [hm] at h298
    cases hr : rightL l with
    | false =>
      rw [hr] at h113
      (repeat' first
    | refine w_seq ?_ | refine w_rg ?_ | refine wo_nil ?_ | refine g_skU ?_ | refine g_skT ?_ | refine g_skF ?_
    | ((first | apply s_plain | apply s_void | apply s_guard | apply g_goT | apply g_goF); · simp only [go_sem, Nat.reduceEqDiff, Nat.reduceAdd, Nat.reduceLeDiff, h298, h113]; (first | done | rfl))
    | ((first | apply g_T | apply g_F | apply g_gT | apply g_gF); · intro q1_; (first | intro q2_ | have q2_ := q1_); simp only [go_sem, Nat.reduceEqDiff, Nat.reduceAdd, Nat.reduceLeDiff, h298, h113, q1_, q2_]; (first | done | rfl))
    | (apply w_condX; · simp only [go_sem, Nat.reduceEqDiff, Nat.reduceAdd, Nat.reduceLeDiff, h298, h113]; (first | done | rfl)); (first | refine wcd_T ?_ | refine wcd_F ?_)
    | refine w_skip ?_ | refine w_exit ?_ | refine w_ret ?_
    | fail
    )
      exact ⟨by first | exact .inr rfl | exact .inr trivial | exact .inl rfl, by simp only [go_sem, Nat.reduceEqDiff, Nat.reduceAdd, Nat.reduceLeDiff, retOf, resOf, Bool.and_false]; first | done | rfl⟩
    | true =>
      rw [hr] at h113
      (repeat' first
    | refine w_seq ?_ | refine w_rg ?_ | refine wo_nil ?_ | refine g_skU ?_ | refine g_skT ?_ | refine g_skF ?_
    | ((first | apply s_plain | apply s_void | apply s_guard | apply g_goT | apply g_goF); · simp only [go_sem, Nat.reduceEqDiff, Nat.reduceAdd, Nat.reduceLeDiff, h298, h113, List.set_cons_succ]; (first | done | rfl))
    | ((first | apply g_T | apply g_F | apply g_gT | apply g_gF); · intro q1_; (first | intro q2_ | have q2_ := q1_); simp only [go_sem, Nat.reduceEqDiff, Nat.reduceAdd, Nat.reduceLeDiff, h298, h113, List.set_cons_succ, q1_, q2_]; (first | done | rfl))
    | (apply w_condX; · simp only [go_sem, Nat.reduceEqDiff, Nat.reduceAdd, Nat.reduceLeDiff, h298, h113, List.set_cons_succ]; (first | done | rfl)); (first | refine wcd_T ?_ | refine wcd_F ?_)
    | refine w_skip ?_ | refine w_exit ?_ | refine w_ret ?_
    | fail
    )
      refine s_some (LeadP l []) ⟨?_, by simp only [go_sem, Nat.reduceEqDiff, Nat.reduceAdd, Nat.reduceLeDiff, List.set_cons_succ], by simp only [go_sem, Nat.reduceEqDiff, Nat.reduceAdd, Nat.reduceLeDiff, List.set_cons_succ], .em, by simp only [go_sem, Nat.reduceEqDiff, Nat.reduceAdd, Nat.reduceLeDiff, List.set_cons_succ], .em⟩ ?_
      · exact Fresh.put (((((Fresh.nil.new _ _).new _ _).new _ _).new _ _)) (x := ⟨1, [.sc .nilFunc], true, true⟩) (by simp only [go_sem, Nat.reduceEqDiff, Nat.reduceAdd, Nat.reduceLeDiff]) _
      intro σ1 hL
      obtain ⟨τ, hτ, hLτ, hKτ⟩ := a303 H A F hr hln hls 4 (by omega) r hrh hm ⟨#[]⟩ σ1 [] (by show (0 : Nat) + 12 ≤ 1000; omega) (by simpa using hc) hL
      rw [rt_eq] at hτ
      unfold rhd at hτ
      refine ⟨.tu [], τ, by simp only [go_sem, Nat.reduceEqDiff, Nat.reduceAdd, Nat.reduceLeDiff, hτ], ?_⟩
      obtain ⟨q, ho, hg⟩ := hLτ.o
      obtain ⟨cq, okq⟩ := hg.ok
      rw [List.nil_append] at hg
      have hz := gat_fz2 hg (tgs_fz τ 8 _)
      (repeat' first
    | refine w_seq ?_ | refine w_rg ?_ | refine wo_nil ?_ | refine g_skU ?_ | refine g_skT ?_ | refine g_skF ?_
    | ((first | apply s_plain | apply s_void | apply s_guard | apply g_goT | apply g_goF); · simp only [go_sem, Nat.reduceEqDiff, Nat.reduceAdd, Nat.reduceLeDiff, ho, cq]; (first | done | rfl))
    | ((first | apply g_T | apply g_F | apply g_gT | apply g_gF); · intro q1_; (first | intro q2_ | have q2_ := q1_); simp only [go_sem, Nat.reduceEqDiff, Nat.reduceAdd, Nat.reduceLeDiff, ho, cq, q1_, q2_]; (first | done | rfl))
    | (apply w_condX; · simp only [go_sem, Nat.reduceEqDiff, Nat.reduceAdd, Nat.reduceLeDiff, ho, cq]; (first | done | rfl)); (first | refine wcd_T ?_ | refine wcd_F ?_)
    | refine w_skip ?_ | refine w_exit ?_ | refine w_ret ?_
    | fail
    )
      exact ⟨by first | exact .inr rfl | exact .inr trivial | exact .inl rfl, by simp only [go_sem, Nat.reduceEqDiff, Nat.reduceAdd, Nat.reduceLeDiff, retOf, resOf, hz]; first | done | rfl⟩
end

end
section
attribute [local go_sem ↓] e_mv e_pick e_bin e_eqs e_beq e_un e_cvi e_str e_s2b e_b2s e_box e_build e_bsl e_ld e_st e_nck e_mkf e_slcS e_slcL e_fa e_fld e_ia e_iaa e_ix e_ixa e_ext e_lenS e_lenL e_mnmx e_app e_appb e_bbx e_msl e_clr e_call e_callv e_icall e_slcA e_mkm e_mput e_mget e_mlen e_mdel pa_t pa_c pa_f slcSP_str hiOf_some hiOf_none loOf_some loOf_none set_eq set_ne
attribute [local go_sem] pv pv1 simple frOf_0 frOf_1 frOf_2 frOf_3 frOf_4 frOf_5 ne_eq not_false_eq_true if_true Bool.false_eq_true if_false pbin punary Option.map_some Option.bind_some pick_and pick_or opt_true Bool.true_and Bool.and_self Bool.and_true Bool.true_or Bool.false_or Bool.not_true Bool.not_false callE pcall_eq List.map_cons List.map_nil List.append_nil List.nil_append List.cons_append mapM_cons' mapM_nil' dep_eq fz_sc fz_sl fz_em fz_fn fz_fp fz_agg fz_tu fz_bx fz_ob Nat.lt_irrefl Nat.zero_lt_one Nat.lt_add_one flat clL cl Bool.or_true okc_sc okc_em okc_sl okc_ob okc_bx okc_fp okc_fn okc_agg okc_ifc cells_agg cells_sc cells_sl cells_em cells_ob cells_fn cells_bx cells_fp List.length_cons List.length_nil Nat.zero_add and_self true_and and_true new_m new_c put_m put_c nil_m nil_c nil_mm new_mm put_mm newM_m newM_c newM_mm putM_m putM_c putM_mm mkeyV_1 mkeyV_2 mapAt_eq deref List.getElem?_cons_zero List.getElem?_cons_succ List.drop_zero List.drop_succ_cons List.take_succ_cons List.take_zero Nat.le_refl false_and and_false decide_true decide_false lenP_em lenP_nil lenP_sl lenP_ob Int.ofNat_zero
section
variable {env : Nat → Option Def} {fr : Fr} {σ : St} {K : Fr → St → Prop} {Q : X → Fr → St → Prop}
structure At102 (r : Rule) (v : Int) (i : Int) (h : Int) (a b : List PV) (fr : Fr) (σ : St) : Prop where
  f1 : fr 1 = .sc (.int .i64 v)
  f2 : fr 2 = .bx 2000002 0 8 0 0
  f5 : fr 5 = .bx 2000005 0 6 0 0
  f6 : fr 6 = .bx 2000006 0 6 0 0
  f7 : fr 7 = .sc (.int .i64 i)
  m2 : σ.m 2000002 0 = some ⟨8, [rule { r with how := h }], true, true⟩
  m5 : σ.m 2000005 0 = some ⟨6, [.agg a], true, true⟩
  m6 : σ.m 2000006 0 = some ⟨6, [.agg b], true, true⟩
end

end
section
attribute [local go_sem ↓] e_mv e_pick e_bin e_eqs e_beq e_un e_cvi e_str e_s2b e_b2s e_box e_build e_bsl e_ld e_st e_nck e_mkf e_slcS e_slcL e_fa e_fld e_ia e_iaa e_ix e_ixa e_ext e_lenS e_lenL e_mnmx e_app e_appb e_bbx e_msl e_clr e_call e_callv e_icall e_slcA e_mkm e_mput e_mget e_mlen e_mdel pa_t pa_c pa_f slcSP_str hiOf_some hiOf_none loOf_some loOf_none set_eq set_ne
attribute [local go_sem] pv pv1 simple frOf_0 frOf_1 frOf_2 frOf_3 frOf_4 frOf_5 ne_eq not_false_eq_true if_true Bool.false_eq_true if_false pbin punary Option.map_some Option.bind_some pick_and pick_or opt_true Bool.true_and Bool.and_self Bool.and_true Bool.true_or Bool.false_or Bool.not_true Bool.not_false callE pcall_eq List.map_cons List.map_nil List.append_nil List.nil_append List.cons_append mapM_cons' mapM_nil' dep_eq fz_sc fz_sl fz_em fz_fn fz_fp fz_agg fz_tu fz_bx fz_ob Nat.lt_irrefl Nat.zero_lt_one Nat.lt_add_one flat clL cl Bool.or_true okc_sc okc_em okc_sl okc_ob okc_bx okc_fp okc_fn okc_agg okc_ifc cells_agg cells_sc cells_sl cells_em cells_ob cells_fn cells_bx cells_fp List.length_cons List.length_nil Nat.zero_add and_self true_and and_true new_m new_c put_m put_c nil_m nil_c nil_mm new_mm put_mm newM_m newM_c newM_mm putM_m putM_c putM_mm mkeyV_1 mkeyV_2 mapAt_eq deref List.getElem?_cons_zero List.getElem?_cons_succ List.drop_zero List.drop_succ_cons List.take_succ_cons List.take_zero Nat.le_refl false_and and_false decide_true decide_false lenP_em lenP_nil lenP_sl lenP_ob Int.ofNat_zero splice fillP fillE List.modify_zero_cons List.replicate_succ List.replicate_zero List.set_cons_zero List.drop_zero ba_data ba_size ba_toList ba_extract ba_append List.toList_toArray
def d293 : Def := (.code 1 [.tmp 2] (.seq (.rg false [⟨.some 2, .none, .mv (.c (.slice .none 0 0))⟩]) (.seq (.rg false [⟨.some 3, .none, .mv (.c (.slice .none 0 0))⟩]) (.seq (.seq (.rg false [⟨.some 6, .none, .mv (.t 0)⟩, ⟨.some 7, .none, .mv (.t 0)⟩, ⟨.some 8, .none, .lenL (.t 7)⟩, ⟨.some 9, .none, .mnmx false [.t 8, .c (.int .i64 10)]⟩, ⟨.some 10, .none, .slcL 2 (.t 6) .none (.some (.t 9))⟩, ⟨.some 11, .none, .lenL (.t 10)⟩, ⟨.some 12, .none, .mv (.c (.int .i64 0))⟩]) (.block 0 (.loop (.seq (.rg false [⟨.some 13, .none, .bin .lss (.t 12) (.t 11)⟩]) (.seq (.cond (.t 13) .skip (.exit 0)) (.seq (.block 1 (.seq (.rg false [⟨.some 14, .none, .ia 2 (.t 10) (.t 12)⟩, ⟨.some 15, .none, .ld (.some 2) (.t 14)⟩, ⟨.some 5, .none, .box (.c (.agg #[.string ⟨#[]⟩, .string ⟨#[]⟩]))⟩, ⟨.none, .none, .st 2 (.t 5) (.t 15)⟩]) (.rg true [⟨.some 16, .none, .mv (.t 3)⟩, ⟨.some 17, .none, .fa 0 (.t 5)⟩, ⟨.some 18, .none, .ld .none (.t 17)⟩, ⟨.some 19, .none, .fa 0 (.t 5)⟩, ⟨.some 20, .none, .ld .none (.t 19)⟩, ⟨.some 21, .none, .lenS (.t 20)⟩, ⟨.some 22, .none, .mnmx false [.t 21, .c (.int .i64 70)]⟩, ⟨.some 23, .none, .slcS (.t 18) .none (.some (.t 22))⟩, ⟨.some 24, .none, .fa 1 (.t 5)⟩, ⟨.some 25, .none, .ld .none (.t 24)⟩, ⟨.some 26, .none, .fa 1 (.t 5)⟩, ⟨.some 27, .none, .ld .none (.t 26)⟩, ⟨.some 28, .none, .lenS (.t 27)⟩, ⟨.some 29, .none, .mnmx false [.t 28, .c (.int .i64 70)]⟩, ⟨.some 30, .none, .slcS (.t 25) .none (.some (.t 29))⟩, ⟨.some 31, .none, .build (.agg #[.string ⟨#[]⟩, .string ⟨#[]⟩]) [(0, (1, .t 23)), (1, (1, .t 30))]⟩, ⟨.some 32, .none, .bsl 2 (.agg #[.string ⟨#[]⟩, .string ⟨#[]⟩]) 1 [(0, .t 31)]⟩, ⟨.some 33, .none, .app 2 32 false (.t 16) (.t 32)⟩, ⟨.some 3, .none, .mv (.t 33)⟩]))) (.rg false [⟨.some 34, .none, .bin .add (.t 12) (.c (.int .i64 1))⟩, ⟨.some 12, .none, .mv (.t 34)⟩]))))))) (.seq (.rg false [⟨.some 35, .none, .mv (.t 3)⟩, ⟨.some 2, .none, .mv (.t 35)⟩]) .ret)))))
def d294 : Def := (.code 2 [.tmp 4] (.seq (.rg false [⟨.some 2, .none, .box (.t 0)⟩, ⟨.some 4, .none, .mv (.c (.int .i64 0))⟩]) (.seq (.rg false [⟨.some 5, .none, .mv (.c (.int .i64 1))⟩]) (.seq (.seq (.rg false [⟨.some 8, .none, .fa 8 (.t 2)⟩, ⟨.some 9, .none, .ld .none (.t 8)⟩, ⟨.some 10, .none, .lenL (.t 9)⟩, ⟨.some 11, .none, .mv (.c (.int .i64 0))⟩]) (.block 0 (.loop (.seq (.rg false [⟨.some 12, .none, .bin .lss (.t 11) (.t 10)⟩]) (.seq (.cond (.t 12) .skip (.exit 0)) (.seq (.block 1 (.seq (.rg false [⟨.some 13, .none, .ia 9 (.t 9) (.t 11)⟩, ⟨.some 14, .none, .ld (.some 9) (.t 13)⟩, ⟨.some 7, .none, .box (.c (.agg #[.string ⟨#[]⟩, .slice .none 0 0, .slice .none 0 0, .int .i64 0, .int .i64 0, .int .i64 0, .slice .none 0 0, .bool false, .slice .none 0 0]))⟩, ⟨.none, .none, .st 9 (.t 7) (.t 14)⟩]) (.seq (.seq (.rg false [⟨.some 15, .none, .mv (.t 5)⟩, ⟨.some 16, .none, .mv (.t 1)⟩, ⟨.some 17, .none, .bin .gtr (.t 15) (.t 16)⟩]) (.cond (.t 17) (.exit 0) .skip)) (.rg false [⟨.some 18, .none, .mv (.t 5)⟩, ⟨.some 19, .none, .ld (.some 9) (.t 7)⟩, ⟨.some 20, .none, .mv (.t 1)⟩, ⟨.some 21, .none, .mv (.t 5)⟩, ⟨.some 22, .none, .bin .sub (.t 20) (.t 21)⟩, ⟨.some 23, .none, .call 294 .pure [.t 19, .t 22]⟩, ⟨.some 24, .none, .bin .add (.t 18) (.t 23)⟩, ⟨.some 5, .none, .mv (.t 24)⟩])))) (.rg false [⟨.some 25, .none, .bin .add (.t 11) (.c (.int .i64 1))⟩, ⟨.some 11, .none, .mv (.t 25)⟩]))))))) (.seq (.rg false [⟨.some 26, .none, .mv (.t 5)⟩, ⟨.some 4, .none, .mv (.t 26)⟩]) .ret)))))
def d297 : Def := (.code 1 [.tmp 2] (.seq (.rg false [⟨.some 1, .none, .box (.t 0)⟩, ⟨.some 2, .none, .mv (.c (.slice .none 0 0))⟩]) (.seq (.rg false [⟨.some 6, .none, .ld (.some 9) (.t 1)⟩, ⟨.some 7, .none, .bsl 9 (.agg #[.string ⟨#[]⟩, .slice .none 0 0, .slice .none 0 0, .int .i64 0, .int .i64 0, .int .i64 0, .slice .none 0 0, .bool false, .slice .none 0 0]) 1 [(0, .t 6)]⟩, ⟨.some 3, .none, .mv (.t 7)⟩]) (.seq (.seq (.rg false [⟨.some 8, .none, .fa 8 (.t 1)⟩, ⟨.some 9, .none, .ld .none (.t 8)⟩, ⟨.some 10, .none, .lenL (.t 9)⟩, ⟨.some 11, .none, .mv (.c (.int .i64 0))⟩]) (.block 0 (.loop (.seq (.rg false [⟨.some 12, .none, .bin .lss (.t 11) (.t 10)⟩]) (.seq (.cond (.t 12) .skip (.exit 0)) (.seq (.block 1 (.seq (.rg false [⟨.some 13, .none, .ia 9 (.t 9) (.t 11)⟩, ⟨.some 14, .none, .ld (.some 9) (.t 13)⟩, ⟨.some 5, .none, .box (.c (.agg #[.string ⟨#[]⟩, .slice .none 0 0, .slice .none 0 0, .int .i64 0, .int .i64 0, .int .i64 0, .slice .none 0 0, .bool false, .slice .none 0 0]))⟩, ⟨.none, .none, .st 9 (.t 5) (.t 14)⟩]) (.rg false [⟨.some 15, .none, .mv (.t 3)⟩, ⟨.some 16, .none, .ld (.some 9) (.t 5)⟩, ⟨.some 17, .none, .call 297 .pure [.t 16]⟩, ⟨.some 18, .none, .app 9 144 false (.t 15) (.t 17)⟩, ⟨.some 3, .none, .mv (.t 18)⟩]))) (.rg false [⟨.some 19, .none, .bin .add (.t 11) (.c (.int .i64 1))⟩, ⟨.some 11, .none, .mv (.t 19)⟩]))))))) (.seq (.rg false [⟨.some 20, .none, .mv (.t 3)⟩, ⟨.some 2, .none, .mv (.t 20)⟩]) .ret)))))
def d309 : Def := (.code 2 [.tmp 4] (.seq (.rg false [⟨.some 2, .none, .box (.t 0)⟩, ⟨.some 3, .none, .box (.t 1)⟩, ⟨.some 4, .none, .mv (.c (.bool false))⟩]) (.seq (.rg false [⟨.some 5, .none, .fa 0 (.t 2)⟩, ⟨.some 6, .none, .ld .none (.t 5)⟩, ⟨.some 7, .none, .fa 0 (.t 3)⟩, ⟨.some 8, .none, .ld .none (.t 7)⟩, ⟨.some 9, .none, .bin .eql (.t 6) (.t 8)⟩, ⟨.some 10, .none, .mv (.t 9)⟩, ⟨.some 11, .some (10, true), .fa 1 (.t 2)⟩, ⟨.some 12, .some (10, true), .ld .none (.t 11)⟩, ⟨.some 13, .some (10, true), .fa 1 (.t 3)⟩, ⟨.some 14, .some (10, true), .ld .none (.t 13)⟩, ⟨.some 15, .some (10, true), .bin .eql (.t 12) (.t 14)⟩, ⟨.some 16, .none, .pick (.t 10) (.t 15) (.c (.bool false))⟩, ⟨.some 17, .none, .mv (.t 16)⟩, ⟨.some 18, .some (17, true), .fa 2 (.t 2)⟩, ⟨.some 19, .some (17, true), .ld .none (.t 18)⟩, ⟨.some 20, .some (17, true), .fa 2 (.t 3)⟩, ⟨.some 21, .some (17, true), .ld .none (.t 20)⟩, ⟨.some 22, .some (17, true), .call 36 .pure [.t 19, .t 21]⟩, ⟨.some 23, .none, .pick (.t 17) (.t 22) (.c (.bool false))⟩, ⟨.some 4, .none, .mv (.t 23)⟩]) .ret)))
def d300 : Def := (.code 2 [.tmp 4] (.seq (.rg false [⟨.some 2, .none, .box (.t 0)⟩, ⟨.some 3, .none, .box (.t 1)⟩, ⟨.some 4, .none, .mv (.c (.bool false))⟩]) (.seq (.seq (.rg false [⟨.some 7, .none, .fa 0 (.t 2)⟩, ⟨.some 8, .none, .ld .none (.t 7)⟩, ⟨.some 9, .none, .fa 0 (.t 3)⟩, ⟨.some 10, .none, .ld .none (.t 9)⟩, ⟨.some 11, .none, .bin .neq (.t 8) (.t 10)⟩, ⟨.some 12, .none, .mv (.t 11)⟩, ⟨.some 13, .some (12, false), .fa 3 (.t 2)⟩, ⟨.some 14, .some (12, false), .ld .none (.t 13)⟩, ⟨.some 15, .some (12, false), .fa 3 (.t 3)⟩, ⟨.some 16, .some (12, false), .ld .none (.t 15)⟩, ⟨.some 17, .some (12, false), .bin .neq (.t 14) (.t 16)⟩, ⟨.some 18, .none, .pick (.t 12) (.c (.bool true)) (.t 17)⟩, ⟨.some 19, .none, .mv (.t 18)⟩, ⟨.some 20, .some (19, false), .fa 4 (.t 2)⟩, ⟨.some 21, .some (19, false), .ld .none (.t 20)⟩, ⟨.some 22, .some (19, false), .fa 4 (.t 3)⟩, ⟨.some 23, .some (19, false), .ld .none (.t 22)⟩, ⟨.some 24, .some (19, false), .bin .neq (.t 21) (.t 23)⟩, ⟨.some 25, .none, .pick (.t 19) (.c (.bool true)) (.t 24)⟩, ⟨.some 26, .none, .mv (.t 25)⟩, ⟨.some 27, .some (26, false), .fa 5 (.t 2)⟩, ⟨.some 28, .some (26, false), .ld .none (.t 27)⟩, ⟨.some 29, .some (26, false), .fa 5 (.t 3)⟩, ⟨.some 30, .some (26, false), .ld .none (.t 29)⟩, ⟨.some 31, .some (26, false), .bin .neq (.t 28) (.t 30)⟩, ⟨.some 32, .none, .pick (.t 26) (.c (.bool true)) (.t 31)⟩, ⟨.some 33, .none, .mv (.t 32)⟩, ⟨.some 34, .some (33, false), .fa 7 (.t 2)⟩, ⟨.some 35, .some (33, false), .ld .none (.t 34)⟩, ⟨.some 36, .some (33, false), .fa 7 (.t 3)⟩, ⟨.some 37, .some (33, false), .ld .none (.t 36)⟩, ⟨.some 38, .some (33, false), .beq true (.t 35) (.t 37)⟩, ⟨.some 39, .none, .pick (.t 33) (.c (.bool true)) (.t 38)⟩, ⟨.some 40, .none, .mv (.t 39)⟩, ⟨.some 41, .some (40, false), .fa 1 (.t 2)⟩, ⟨.some 42, .some (40, false), .ld .none (.t 41)⟩, ⟨.some 43, .some (40, false), .lenL (.t 42)⟩, ⟨.some 44, .some (40, false), .fa 1 (.t 3)⟩, ⟨.some 45, .some (40, false), .ld .none (.t 44)⟩, ⟨.some 46, .some (40, false), .lenL (.t 45)⟩, ⟨.some 47, .some (40, false), .bin .neq (.t 43) (.t 46)⟩, ⟨.some 48, .none, .pick (.t 40) (.c (.bool true)) (.t 47)⟩, ⟨.some 49, .none, .mv (.t 48)⟩, ⟨.some 50, .some (49, false), .fa 8 (.t 2)⟩, ⟨.some 51, .some (49, false), .ld .none (.t 50)⟩, ⟨.some 52, .some (49, false), .lenL (.t 51)⟩, ⟨.some 53, .some (49, false), .fa 8 (.t 3)⟩, ⟨.some 54, .some (49, false), .ld .none (.t 53)⟩, ⟨.some 55, .some (49, false), .lenL (.t 54)⟩, ⟨.some 56, .some (49, false), .bin .neq (.t 52) (.t 55)⟩, ⟨.some 57, .none, .pick (.t 49) (.c (.bool true)) (.t 56)⟩]) (.cond (.t 57) (.seq (.rg false [⟨.some 4, .none, .mv (.c (.bool false))⟩]) .ret) .skip)) (.seq (.seq (.rg false [⟨.some 58, .none, .fa 1 (.t 2)⟩, ⟨.some 59, .none, .ld .none (.t 58)⟩, ⟨.some 60, .none, .lenL (.t 59)⟩, ⟨.some 61, .none, .mv (.c (.int .i64 0))⟩]) (.block 0 (.loop (.seq (.rg false [⟨.some 62, .none, .bin .lss (.t 61) (.t 60)⟩]) (.seq (.cond (.t 62) .skip (.exit 0)) (.seq (.block 1 (.seq (.rg false [⟨.some 63, .none, .mv (.t 61)⟩, ⟨.some 5, .none, .mv (.t 63)⟩]) (.seq (.rg true [⟨.some 64, .none, .fa 1 (.t 2)⟩, ⟨.some 65, .none, .ld .none (.t 64)⟩, ⟨.some 66, .none, .mv (.t 5)⟩, ⟨.some 67, .none, .ia 3 (.t 65) (.t 66)⟩, ⟨.some 68, .none, .ld (.some 3) (.t 67)⟩, ⟨.some 69, .none, .fa 1 (.t 3)⟩, ⟨.some 70, .none, .ld .none (.t 69)⟩, ⟨.some 71, .none, .mv (.t 5)⟩, ⟨.some 72, .none, .ia 3 (.t 70) (.t 71)⟩, ⟨.some 73, .none, .ld (.some 3) (.t 72)⟩, ⟨.some 74, .none, .call 309 .strict [.t 68, .t 73]⟩, ⟨.some 75, .none, .un .not (.t 74)⟩]) (.cond (.t 75) (.seq (.rg false [⟨.some 4, .none, .mv (.c (.bool false))⟩]) .ret) .skip)))) (.rg false [⟨.some 76, .none, .bin .add (.t 61) (.c (.int .i64 1))⟩, ⟨.some 61, .none, .mv (.t 76)⟩]))))))) (.seq (.seq (.rg false [⟨.some 77, .none, .fa 8 (.t 2)⟩, ⟨.some 78, .none, .ld .none (.t 77)⟩, ⟨.some 79, .none, .lenL (.t 78)⟩, ⟨.some 80, .none, .mv (.c (.int .i64 0))⟩]) (.block 2 (.loop (.seq (.rg false [⟨.some 81, .none, .bin .lss (.t 80) (.t 79)⟩]) (.seq (.cond (.t 81) .skip (.exit 2)) (.seq (.block 3 (.seq (.rg false [⟨.some 82, .none, .mv (.t 80)⟩, ⟨.some 6, .none, .mv (.t 82)⟩]) (.seq (.rg true [⟨.some 83, .none, .fa 8 (.t 2)⟩, ⟨.some 84, .none, .ld .none (.t 83)⟩, ⟨.some 85, .none, .mv (.t 6)⟩, ⟨.some 86, .none, .ia 9 (.t 84) (.t 85)⟩, ⟨.some 87, .none, .ld (.some 9) (.t 86)⟩, ⟨.some 88, .none, .fa 8 (.t 3)⟩, ⟨.some 89, .none, .ld .none (.t 88)⟩, ⟨.some 90, .none, .mv (.t 6)⟩, ⟨.some 91, .none, .ia 9 (.t 89) (.t 90)⟩, ⟨.some 92, .none, .ld (.some 9) (.t 91)⟩, ⟨.some 93, .none, .call 300 .strict [.t 87, .t 92]⟩, ⟨.some 94, .none, .un .not (.t 93)⟩]) (.cond (.t 94) (.seq (.rg false [⟨.some 4, .none, .mv (.c (.bool false))⟩]) .ret) .skip)))) (.rg false [⟨.some 95, .none, .bin .add (.t 80) (.c (.int .i64 1))⟩, ⟨.some 80, .none, .mv (.t 95)⟩]))))))) (.seq (.rg false [⟨.some 96, .none, .fa 2 (.t 2)⟩, ⟨.some 97, .none, .ld .none (.t 96)⟩, ⟨.some 98, .none, .fa 2 (.t 3)⟩, ⟨.some 99, .none, .ld .none (.t 98)⟩, ⟨.some 100, .none, .call 36 .pure [.t 97, .t 99]⟩, ⟨.some 101, .none, .mv (.t 100)⟩, ⟨.some 102, .some (101, true), .fa 6 (.t 2)⟩, ⟨.some 103, .some (101, true), .ld .none (.t 102)⟩, ⟨.some 104, .some (101, true), .fa 6 (.t 3)⟩, ⟨.some 105, .some (101, true), .ld .none (.t 104)⟩, ⟨.some 106, .some (101, true), .call 36 .pure [.t 103, .t 105]⟩, ⟨.some 107, .none, .pick (.t 101) (.t 106) (.c (.bool false))⟩, ⟨.some 4, .none, .mv (.t 107)⟩]) .ret))))))
def lkd : List (Nat × Def) := [(293, d293), (294, d294)]
def lke : List (Nat × Def) := [(297, d297)]
def lkf : List (Nat × Def) := [(309, d309), (300, d300)]
theorem d293_eq : d293 = d108 := rfl
mutual
theorem allR_len : ∀ r : Rt, (allR r).length = cntR r
  | .mk h ks => by rw [allR, cntR, List.length_cons, allL_len ks]; omega
theorem allL_len : ∀ l : List Rt, (allL l).length = cntL l
  | [] => by rw [allL, cntL]; rfl
  | k :: l => by rw [allL, cntL, List.length_append, allR_len k, allL_len l]
end
theorem allL_append : ∀ a b : List Rt, allL (a ++ b) = allL a ++ allL b
  | [], b => by rw [allL]; rfl
  | k :: a, b => by rw [List.cons_append, allL, allL, allL_append a b, List.append_assoc]
theorem allL_take {l : List Rt} {i : Nat} (h : i < l.length) : allL (l.take (i + 1)) = allL (l.take i) ++ allR l[i] := by
  rw [List.take_succ_eq_append_getElem h, allL_append]
  congr 1
  rw [allL, allL, List.append_nil]
section
variable {env : Nat → Option Def} {fr : Fr} {σ σ' σ'' : St} {K : Fr → St → Prop} {Q : X → Fr → St → Prop} {p : PV} {bs : List UInt8}
theorem a293 (D : Has lkd env) {l : List Lab} (hn : l.length ≤ 9223372036854775807) : AV env 293 [.sl (labs l)] = some (.sl (labs (fewL l))) := few_g (by rw [← d293_eq]; exact D (293, d293) (by simp [lkd])) hn
theorem a294 (D : Has lkd env) : ∀ (r : Rt), r.Held → ∀ m : Nat, m ≤ 1000000 → AV env 294 [rt r, .sc (.int .i64 (m : Int))] = some (.sc (.int .i64 ((min (cntR r) (m + 1) : Nat) : Int))) := by
  refine Rt.induct fun h ks ih => ?_
  intro hr m hm
  obtain ⟨_, _, hh, hkl, hkh⟩ := hr
  have hkl' := rts_len ks
  refine AV_wp (D (294, d294) (by simp [lkd])) rfl ?_
  rw [rt]
  unfold rhd
  (repeat' first
    | refine w_seq ?_ | refine w_rg ?_ | refine wo_nil ?_ | refine g_skU ?_ | refine g_skT ?_ | refine g_skF ?_
    | ((first | apply s_plain | apply s_void | apply s_guard | apply g_goT | apply g_goF); · simp only [go_sem, Nat.reduceEqDiff, Nat.reduceAdd, Nat.reduceLeDiff, hkl']; (first | done | rfl))
    | ((first | apply g_T | apply g_F | apply g_gT | apply g_gF); · intro q1_; (first | intro q2_ | have q2_ := q1_); simp only [go_sem, Nat.reduceEqDiff, Nat.reduceAdd, Nat.reduceLeDiff, hkl', q1_, q2_]; (first | done | rfl))
    | fail
    )
  refine w_cutB (fun fr σ => fr 5 = .sc (.int .i64 ((min (cntR (.mk h ks)) (m + 1) : Nat) : Int))) ?_ ?_
  · refine w_rangeF ks.length hkl (fun i fr σ => fr 5 = .sc (.int .i64 ((min (1 + cntL (ks.take i)) (m + 1) : Nat) : Int))) ⟨by decide, rfl, rfl⟩ ?_ ?_ (by simp only [go_sem, Nat.reduceEqDiff, Nat.reduceAdd, Nat.reduceLeDiff]; first | done | rfl) (by simp only [go_sem, Nat.reduceEqDiff, Nat.reduceAdd, Nat.reduceLeDiff, hkl']; first | done | rfl) ?_ ?_
    · rintro i fr1 σ1 v h5
      refine ⟨?_, ?_, ?_⟩ <;> simp only [go_sem, Nat.reduceEqDiff, Nat.reduceAdd, Nat.reduceLeDiff, h5]
    · have : min (1 + cntL (ks.take 0)) (m + 1) = 1 := by rw [List.take_zero, cntL]; omega
      rw [this]
      simp only [go_sem, Nat.reduceEqDiff, Nat.reduceAdd, Nat.reduceLeDiff]
      rfl
    · rintro i fr1 σ1 hi h5 hti hfr
      have f0_1 := hfr 1 rfl; have f0_9 := hfr 9 rfl; have f0_10 := hfr 10 rfl; try (simp only [go_sem, Nat.reduceEqDiff, Nat.reduceAdd, Nat.reduceLeDiff] at f0_1); try (simp only [go_sem, Nat.reduceEqDiff, Nat.reduceAdd, Nat.reduceLeDiff] at f0_9); try (simp only [go_sem, Nat.reduceEqDiff, Nat.reduceAdd, Nat.reduceLeDiff] at f0_10)
      have hx := List.getElem?_eq_getElem hi
      have hy := rts_at hx
      rw [rt_eq] at hy
      have e1 : (0 : Int) ≤ (i : Int) ∧ (i : Int) < (ks.length : Int) := by omega
      have hcnt0 := cntL_take hi
      have hcnt1 := cntL_take_le ks (i + 1)
      have hrec := ih _ (List.getElem_mem hi) (hkh _ (List.getElem_mem hi))
      generalize ks[i] = k at hx hy hcnt0 hrec
      unfold rhd at hy
      refine w_block ?_
      (repeat' first
    | refine w_seq ?_ | refine w_rg ?_ | refine wo_nil ?_ | refine g_skU ?_ | refine g_skT ?_ | refine g_skF ?_
    | ((first | apply s_plain | apply s_void | apply s_guard | apply g_goT | apply g_goF); · simp only [go_sem, Nat.reduceEqDiff, Nat.reduceAdd, Nat.reduceLeDiff, f0_1, f0_9, f0_10, hti, e1, hkl', Int.toNat_natCast, hy, h5, List.set_cons_succ]; (first | done | rfl))
    | ((first | apply g_T | apply g_F | apply g_gT | apply g_gF); · intro q1_; (first | intro q2_ | have q2_ := q1_); simp only [go_sem, Nat.reduceEqDiff, Nat.reduceAdd, Nat.reduceLeDiff, f0_1, f0_9, f0_10, hti, e1, hkl', Int.toNat_natCast, hy, h5, List.set_cons_succ, q1_, q2_]; (first | done | rfl))
    | fail
    )
      refine w_condB (by simp only [go_sem, Nat.reduceEqDiff, Nat.reduceAdd, Nat.reduceLeDiff]; first | done | rfl) (fun hc => ?_) (fun hc => ?_)
      · have hc' : m + 1 ≤ 1 + cntL (ks.take i) := by
          rw [decide_eq_true_eq] at hc
          omega
        (repeat' first
    | refine w_seq ?_ | refine w_rg ?_ | refine wo_nil ?_ | refine g_skU ?_ | refine g_skT ?_ | refine g_skF ?_
    | ((first | apply s_plain | apply s_void | apply s_guard | apply g_goT | apply g_goF); · simp only [go_sem, Nat.reduceEqDiff, Nat.reduceAdd, Nat.reduceLeDiff]; (first | done | rfl))
    | ((first | apply g_T | apply g_F | apply g_gT | apply g_gF); · intro q1_; (first | intro q2_ | have q2_ := q1_); simp only [go_sem, Nat.reduceEqDiff, Nat.reduceAdd, Nat.reduceLeDiff, q1_, q2_]; (first | done | rfl))
    | (apply w_condX; · simp only [go_sem, Nat.reduceEqDiff, Nat.reduceAdd, Nat.reduceLeDiff]; (first | done | rfl)); (first | refine wcd_T ?_ | refine wcd_F ?_)
    | refine w_skip ?_ | refine w_exit ?_ | refine w_ret ?_
    | fail
    )
        try simp only [if_true]
        simp only [go_sem, Nat.reduceEqDiff, Nat.reduceAdd, Nat.reduceLeDiff, h5]
        rw [cntR_mk, show min (1 + cntL (ks.take i)) (m + 1) = min (1 + cntL ks) (m + 1) by have := cntL_take_le ks i; omega]
      · have hc' : 1 + cntL (ks.take i) ≤ m := by
          rw [decide_eq_false_iff_not] at hc
          omega
        have e2 : min (1 + cntL (ks.take i)) (m + 1) = 1 + cntL (ks.take i) := by omega
        rw [e2] at h5
        have hrec := hrec (m - (1 + cntL (ks.take i))) (by omega)
        have e3 : IntKind.i64.wrap ((m : Int) - ((1 + cntL (ks.take i) : Nat) : Int)) = ((m - (1 + cntL (ks.take i)) : Nat) : Int) := by rw [IntKind.wrap_i64]; omega
        have e4 : IntKind.i64.wrap (((1 + cntL (ks.take i) : Nat) : Int) + ((min (cntR k) (m - (1 + cntL (ks.take i)) + 1) : Nat) : Int)) = ((min (1 + cntL (ks.take (i + 1))) (m + 1) : Nat) : Int) := by rw [IntKind.wrap_i64]; omega
        rw [rt_eq] at hrec
        unfold rhd at hrec
        (repeat' first
    | refine w_seq ?_ | refine w_rg ?_ | refine wo_nil ?_ | refine g_skU ?_ | refine g_skT ?_ | refine g_skF ?_
    | ((first | apply s_plain | apply s_void | apply s_guard | apply g_goT | apply g_goF); · simp only [go_sem, Nat.reduceEqDiff, Nat.reduceAdd, Nat.reduceLeDiff, f0_1, f0_9, f0_10, h5, e3, hrec, e4, List.set_cons_succ]; (first | done | rfl))
    | ((first | apply g_T | apply g_F | apply g_gT | apply g_gF); · intro q1_; (first | intro q2_ | have q2_ := q1_); simp only [go_sem, Nat.reduceEqDiff, Nat.reduceAdd, Nat.reduceLeDiff, f0_1, f0_9, f0_10, h5, e3, hrec, e4, List.set_cons_succ, q1_, q2_]; (first | done | rfl))
    | (apply w_condX; · simp only [go_sem, Nat.reduceEqDiff, Nat.reduceAdd, Nat.reduceLeDiff, f0_1, f0_9, f0_10, h5, e3, hrec, e4, List.set_cons_succ]; (first | done | rfl)); (first | refine wcd_T ?_ | refine wcd_F ?_)
    | refine w_skip ?_ | refine w_exit ?_ | refine w_ret ?_
    | fail
    )
        try simp only [if_true]
        simp only [go_sem, Nat.reduceEqDiff, Nat.reduceAdd, Nat.reduceLeDiff]
    · rintro fr1 σ1 h5 hfr
      have e0_4 := hfr 4 rfl; try (simp only [go_sem, Nat.reduceEqDiff, Nat.reduceAdd, Nat.reduceLeDiff] at e0_4)
      try simp only [if_true]
      rw [List.take_length] at h5
      rw [cntR_mk]
      exact h5
  · rintro fr1 σ1 h5
    (repeat' first
    | refine w_seq ?_ | refine w_rg ?_ | refine wo_nil ?_ | refine g_skU ?_ | refine g_skT ?_ | refine g_skF ?_
    | ((first | apply s_plain | apply s_void | apply s_guard | apply g_goT | apply g_goF); · simp only [go_sem, Nat.reduceEqDiff, Nat.reduceAdd, Nat.reduceLeDiff, h5]; (first | done | rfl))
    | ((first | apply g_T | apply g_F | apply g_gT | apply g_gF); · intro q1_; (first | intro q2_ | have q2_ := q1_); simp only [go_sem, Nat.reduceEqDiff, Nat.reduceAdd, Nat.reduceLeDiff, h5, q1_, q2_]; (first | done | rfl))
    | (apply w_condX; · simp only [go_sem, Nat.reduceEqDiff, Nat.reduceAdd, Nat.reduceLeDiff, h5]; (first | done | rfl)); (first | refine wcd_T ?_ | refine wcd_F ?_)
    | refine w_skip ?_ | refine w_exit ?_ | refine w_ret ?_
    | fail
    )
    exact ⟨by first | exact .inr rfl | exact .inr trivial | exact .inl rfl, by simp only [go_sem, Nat.reduceEqDiff, Nat.reduceAdd, Nat.reduceLeDiff, retOf, resOf]; first | done | rfl⟩
theorem rts_fz (σ : St) (d : Nat) (l : List Rt) : (rts l).mapM (fz σ (d + 2)) = some (rts l) := by
  induction l with
  | nil => rfl
  | cons m r ih =>
    rw [rts, mapM_cons', ih, rt_eq]
    rfl
theorem rts_all (l : List Rt) : ((rts l).all fun y => okc y && (cellsOf y).length == 9) = true := by
  rw [rts_map, List.all_eq_true]
  intro y hy
  obtain ⟨r, _, rfl⟩ := List.mem_map.1 hy
  rw [rt_eq]
  rfl
theorem rts_append (a b : List Rt) : rts (a ++ b) = rts a ++ rts b := by rw [rts_map, rts_map, rts_map, List.map_append]
theorem a297 (D : Has lke env) : ∀ (r : Rt), r.Held → cntR r ≤ 1000000 → AV env 297 [rt r] = some (.sl (rts (allR r))) := by
  refine Rt.induct fun h ks ih => ?_
  intro hr hc
  obtain ⟨_, _, hh, hkl, hkh⟩ := hr
  have hkl' := rts_len ks
  rw [cntR_mk] at hc
  refine AV_wp (D (297, d297) (by simp [lke])) rfl ?_
  have hrt : rt (.mk h ks) = rhd h (.sl (rts ks)) := rt_eq _
  have hall1 : rts [Rt.mk h ks] = [rhd h (.sl (rts ks))] := by rw [rts, rts, hrt]
  rw [hrt]
  unfold rhd at hall1 ⊢
  (repeat' first
    | refine w_seq ?_ | refine w_rg ?_ | refine wo_nil ?_ | refine g_skU ?_ | refine g_skT ?_ | refine g_skF ?_
    | ((first | apply s_plain | apply s_void | apply s_guard | apply g_goT | apply g_goF); · simp only [go_sem, Nat.reduceEqDiff, Nat.reduceAdd, Nat.reduceLeDiff, hkl', List.set_cons_succ]; (first | done | rfl))
    | ((first | apply g_T | apply g_F | apply g_gT | apply g_gF); · intro q1_; (first | intro q2_ | have q2_ := q1_); simp only [go_sem, Nat.reduceEqDiff, Nat.reduceAdd, Nat.reduceLeDiff, hkl', List.set_cons_succ, q1_, q2_]; (first | done | rfl))
    | fail
    )
  refine w_block (w_rangeF ks.length hkl (fun i fr σ => Gat σ [7, 18] 9 false (fr 3) (rts (.mk h ks :: allL (ks.take i)))) ⟨by decide, rfl, rfl⟩ ?_ ?_ (by simp only [go_sem, Nat.reduceEqDiff, Nat.reduceAdd, Nat.reduceLeDiff]; first | done | rfl) (by simp only [go_sem, Nat.reduceEqDiff, Nat.reduceAdd, Nat.reduceLeDiff, hkl']; first | done | rfl) ?_ ?_)
  · rintro i fr1 σ1 v h5
    refine ⟨?_, ?_, ?_⟩ <;> simp only [go_sem, Nat.reduceEqDiff, Nat.reduceAdd, Nat.reduceLeDiff] <;> exact h5
  · simp only [go_sem, Nat.reduceEqDiff, Nat.reduceAdd, Nat.reduceLeDiff]
    rw [show allL [] = [] by rw [allL], hall1]
    exact .inr ⟨7, 0, true, by simp, rfl, by simp only [go_sem, Nat.reduceEqDiff, Nat.reduceAdd, Nat.reduceLeDiff], by simp only [go_sem, Nat.reduceEqDiff, Nat.reduceAdd, Nat.reduceLeDiff], by simp, fun e => by cases e⟩
  · rintro i fr1 σ1 hi h5 hti hfr
    have f0_9 := hfr 9 rfl; have f0_10 := hfr 10 rfl; try (simp only [go_sem, Nat.reduceEqDiff, Nat.reduceAdd, Nat.reduceLeDiff] at f0_9); try (simp only [go_sem, Nat.reduceEqDiff, Nat.reduceAdd, Nat.reduceLeDiff] at f0_10)
    have hx := List.getElem?_eq_getElem hi
    have hy := rts_at hx
    rw [rt_eq] at hy
    have e1 : (0 : Int) ≤ (i : Int) ∧ (i : Int) < (ks.length : Int) := by omega
    have hcnt0 := cntL_take hi
    have hcnt1 := cntL_take_le ks (i + 1)
    have hrec := ih _ (List.getElem_mem hi) (hkh _ (List.getElem_mem hi)) (by omega)
    have hal := allL_take hi
    rw [hal]
    generalize ks[i] = k at hx hy hcnt0 hrec
    have hlen1 := allL_len (ks.take i)
    have hlen2 := allR_len k
    rw [rt_eq] at hrec
    unfold rhd at hy hrec
    refine w_block ?_
    (repeat' first
    | refine w_seq ?_ | refine w_rg ?_ | refine wo_nil ?_ | refine g_skU ?_ | refine g_skT ?_ | refine g_skF ?_
    | ((first | apply s_plain | apply s_void | apply s_guard | apply g_goT | apply g_goF); · simp only [go_sem, Nat.reduceEqDiff, Nat.reduceAdd, Nat.reduceLeDiff, f0_9, f0_10, hti, e1, hkl', Int.toNat_natCast, hy, hrec, List.set_cons_succ]; (first | done | rfl))
    | ((first | apply g_T | apply g_F | apply g_gT | apply g_gF); · intro q1_; (first | intro q2_ | have q2_ := q1_); simp only [go_sem, Nat.reduceEqDiff, Nat.reduceAdd, Nat.reduceLeDiff, f0_9, f0_10, hti, e1, hkl', Int.toNat_natCast, hy, hrec, List.set_cons_succ, q1_, q2_]; (first | done | rfl))
    | fail
    )
    refine s_gatL (d := 18) (t := 15) (x := .t 17) (os := [7, 18]) (xs := rts (.mk h ks :: allL (ks.take i))) (ys := rts (allR k)) (by simp only [go_sem, Nat.reduceEqDiff, Nat.reduceAdd, Nat.reduceLeDiff]; exact (h5.new _).put (by decide) _) (by simp only [go_sem, Nat.reduceEqDiff, Nat.reduceAdd, Nat.reduceLeDiff, srcOf, elemsOf]) (rts_all _) (by rw [rts_len, rts_len, List.length_cons]; omega) ?_
    intro p2 σ2 hg2 hk2
    (repeat' first
    | refine w_seq ?_ | refine w_rg ?_ | refine wo_nil ?_ | refine g_skU ?_ | refine g_skT ?_ | refine g_skF ?_
    | ((first | apply s_plain | apply s_void | apply s_guard | apply g_goT | apply g_goF); · simp only [go_sem, Nat.reduceEqDiff, Nat.reduceAdd, Nat.reduceLeDiff]; (first | done | rfl))
    | ((first | apply g_T | apply g_F | apply g_gT | apply g_gF); · intro q1_; (first | intro q2_ | have q2_ := q1_); simp only [go_sem, Nat.reduceEqDiff, Nat.reduceAdd, Nat.reduceLeDiff, q1_, q2_]; (first | done | rfl))
    | fail
    )
    simp only [go_sem, Nat.reduceEqDiff, Nat.reduceAdd, Nat.reduceLeDiff]
    rw [← List.cons_append, rts_append]
    exact hg2.mono (by simp)
  · rintro fr1 σ1 h5 hfr
    have e0_2 := hfr 2 rfl; try (simp only [go_sem, Nat.reduceEqDiff, Nat.reduceAdd, Nat.reduceLeDiff] at e0_2)
    try simp only [if_true]
    rw [List.take_length] at h5
    have hz := gat_fzd h5 (rts_fz σ1 9 _)
    have hal : allR (.mk h ks) = .mk h ks :: allL ks := by rw [allR]
    rw [← hal] at hz
    (repeat' first
    | refine w_seq ?_ | refine w_rg ?_ | refine wo_nil ?_ | refine g_skU ?_ | refine g_skT ?_ | refine g_skF ?_
    | ((first | apply s_plain | apply s_void | apply s_guard | apply g_goT | apply g_goF); · simp only [go_sem, Nat.reduceEqDiff, Nat.reduceAdd, Nat.reduceLeDiff]; (first | done | rfl))
    | ((first | apply g_T | apply g_F | apply g_gT | apply g_gF); · intro q1_; (first | intro q2_ | have q2_ := q1_); simp only [go_sem, Nat.reduceEqDiff, Nat.reduceAdd, Nat.reduceLeDiff, q1_, q2_]; (first | done | rfl))
    | (apply w_condX; · simp only [go_sem, Nat.reduceEqDiff, Nat.reduceAdd, Nat.reduceLeDiff]; (first | done | rfl)); (first | refine wcd_T ?_ | refine wcd_F ?_)
    | refine w_skip ?_ | refine w_exit ?_ | refine w_ret ?_
    | fail
    )
    exact ⟨by first | exact .inr rfl | exact .inr trivial | exact .inl rfl, by simp only [go_sem, Nat.reduceEqDiff, Nat.reduceAdd, Nat.reduceLeDiff, retOf, resOf, hz]; first | done | rfl⟩
end

end
section
abbrev byt (s : ByteArray) : List UInt8 := s.data.toList
theorem byt_append (a b : ByteArray) : byt (a ++ b) = byt a ++ byt b := by simp [byt, ByteArray.data_append]
theorem byt_step (p : ByteArray) (i : Nat) : byt (stepP p i) = byt p ++ 46 :: Lib.itoa (i : Int) := by
  unfold stepP
  rw [byt_append, byt_append, List.append_assoc]
  rfl
section
variable (l : List Lab)
theorem findR_ne : ∀ (r : Rt) (p : ByteArray), findR l r p ≠ [] := by
  refine Rt.induct fun h ks ih p => ?_
  rw [findR_mk]
  split
  · rename_i ha
    have : ∀ (ks : List Rt) (i : Nat), (∀ k ∈ ks, ∀ p, findR l k p ≠ []) → ks.any (fun k => holdsA l k.h.ms) = true → findL l ks p i ≠ [] := by
      intro ks
      induction ks with
      | nil => intro i _ h; simp at h
      | cons k r ih2 =>
        intro i hi ha
        rw [findL_cons]
        split
        · intro h
          exact hi k (by simp) _ (List.append_eq_nil_iff.1 h).1
        · rename_i hk
          rw [List.any_cons, show holdsA l k.h.ms = false from by simpa using hk, Bool.false_or] at ha
          exact ih2 (i + 1) (fun x hx => hi x (by simp [hx])) ha
    exact this ks 0 ih ha
  · simp
theorem findL_all {P : ByteArray × Rh → Prop} (p : ByteArray) : ∀ (ks : List Rt) (i : Nat), (∀ (j : Nat) k, ks[j]? = some k → holdsA l k.h.ms = true → ∀ q ∈ findR l k (stepP p (i + j)), P q) → ∀ q ∈ findL l ks p i, P q
  | [], i, _, q, hq => by rw [findL_nil] at hq; simp at hq
  | k :: r, i, h, q, hq => by
    have hr := findL_all p r (i + 1) fun j x hx hh y hy => h (j + 1) x (by simpa using hx) hh y (by rw [show i + (j + 1) = i + 1 + j by omega]; exact hy)
    rw [findL_cons] at hq
    split at hq
    · rename_i hk
      rcases List.mem_append.1 hq with hq | hq
      · exact h 0 k rfl hk q hq
      · split at hq
        · exact hr q hq
        · simp at hq
    · exact hr q hq
def GoesOn (p : ByteArray) (q : ByteArray) : Prop := ∃ s, byt q = byt p ++ s ∧ (s = [] ∨ ∃ t, s = 46 :: t)
theorem GoesOn.step {p q : ByteArray} {i : Nat} (h : GoesOn (stepP p i) q) : GoesOn p q := by
  obtain ⟨s, h1, _⟩ := h
  rw [byt_step] at h1
  exact ⟨46 :: Lib.itoa (i : Int) ++ s, by rw [h1]; simp, .inr ⟨_, rfl⟩⟩
theorem findR_goes : ∀ (r : Rt) (p : ByteArray), ∀ q ∈ findR l r p, GoesOn p q.1 := by
  refine Rt.induct fun h ks ih p => ?_
  rw [findR_mk]
  split
  · exact findL_all l p ks 0 fun j k hk _ q hq => (ih k (List.mem_of_getElem? hk) _ q hq).step
  · intro q hq
    simp only [List.mem_singleton] at hq
    subst hq
    exact ⟨[], by simp, .inl rfl⟩
theorem findR_led : ∀ (r : Rt) (p : ByteArray), findR l r p = [(p, r.h)] ∨ ∀ q ∈ findR l r p, byt q.1 ≠ byt p ∧ holdsA l q.2.ms = true := by
  refine Rt.induct fun h ks ih p => ?_
  rw [findR_mk]
  split
  · right
    refine findL_all l p ks 0 fun j k hk hh q hq => ?_
    have hne : byt q.1 ≠ byt p := by
      obtain ⟨s, h1, _⟩ := findR_goes l k _ q hq
      rw [byt_step] at h1
      intro e
      rw [e] at h1
      have := congrArg List.length h1
      simp at this
    refine ⟨hne, ?_⟩
    rcases ih k (List.mem_of_getElem? hk) (stepP p (0 + j)) with h1 | h1
    · rw [h1] at hq
      simp only [List.mem_singleton] at hq
      subst hq
      exact hh
    · exact (h1 q hq).2
  · exact .inl rfl
theorem mayR_kid {d : Nat} {r : Rt} (h : mayR d r = true) : ∃ e, d = e + 1 ∧ headR r.h r.ks.length = true ∧ r.ks.all (mayR e) = true := by
  cases d with
  | zero => simp [mayR] at h
  | succ d =>
    have : mayR (d + 1) r = (headR r.h r.ks.length && r.ks.all (mayR d)) := rfl
    rw [this, Bool.and_eq_true] at h
    exact ⟨d, rfl, h⟩
theorem head_0 {h : Rh} {k : Nat} (hh : headR h k = true) : headR h 0 = true := by
  unfold headR at hh ⊢
  simp only [Bool.and_eq_true, Bool.not_eq_true', Bool.or_eq_false_iff, decide_eq_false_iff_not] at hh ⊢
  obtain ⟨⟨⟨⟨⟨⟨⟨a, b⟩, c⟩, _⟩, d⟩, e⟩, f⟩, g⟩ := hh
  exact ⟨⟨⟨⟨⟨⟨⟨a, b⟩, c⟩, by omega⟩, d⟩, e⟩, f⟩, g⟩
theorem head_16 {h : Rh} {k : Nat} (hh : headR h k = true) : k ≤ 16 := by
  unfold headR at hh
  simp only [Bool.and_eq_true, Bool.not_eq_true', Bool.or_eq_false_iff, decide_eq_false_iff_not] at hh
  omega
theorem may_leaf {h : Rh} (hh : headR h 0 = true) : mayR 4 (.mk h []) = true := by
  have : mayR 4 (.mk h []) = (headR h 0 && true) := rfl
  rw [this, hh]; rfl
theorem findR_may : ∀ (r : Rt) (d : Nat), mayR d r = true → ∀ (p : ByteArray), ∀ q ∈ findR l r p, headR q.2 0 = true ∧ q.1.size ≤ p.size + 3 * d := by
  refine Rt.induct fun h ks ih d hm p => ?_
  obtain ⟨e, rfl, hh, hk⟩ := mayR_kid hm
  rw [findR_mk]
  split
  · refine findL_all l p ks 0 fun j k hj _ q hq => ?_
    have hkm := List.mem_of_getElem? hj
    have hlt := (List.getElem?_eq_some_iff.1 hj).1
    have := head_16 hh
    obtain ⟨h1, h2⟩ := ih k hkm e (List.all_eq_true.1 hk k hkm) (stepP p (0 + j)) q hq
    have := stepP_size p (show 0 + j < 16 by simp only [Rt.ks] at *; omega)
    exact ⟨h1, by omega⟩
  · intro q hq
    simp only [List.mem_singleton] at hq
    subst hq
    exact ⟨head_0 hh, by simp⟩
theorem findR_held : ∀ (r : Rt), r.Held → ∀ (p : ByteArray), ∀ q ∈ findR l r p, q.2.Held := by
  refine Rt.induct fun h ks ih hr p => ?_
  obtain ⟨_, _, hh, _, hk⟩ := hr
  rw [findR_mk]
  split
  · exact findL_all l p ks 0 fun j k hj _ q hq => ih k (List.mem_of_getElem? hj) (hk k (List.mem_of_getElem? hj)) _ q hq
  · intro q hq
    simp only [List.mem_singleton] at hq
    subst hq
    exact hh
theorem findL_one (p : ByteArray) : ∀ (ks : List Rt) (i : Nat), (∀ k ∈ ks, k.h.on = false ∧ ∀ p, (findR l k p).length = 1) → ks.any (fun k => holdsA l k.h.ms) = true → (findL l ks p i).length = 1
  | [], i, _, h => by simp at h
  | k :: r, i, h, ha => by
    rw [findL_cons]
    split
    · obtain ⟨h1, h2⟩ := h k (by simp)
      rw [h1]
      simp [h2]
    · rename_i hk
      rw [List.any_cons, show holdsA l k.h.ms = false from by simpa using hk, Bool.false_or] at ha
      exact findL_one p r (i + 1) (fun x hx => h x (by simp [hx])) ha
theorem allL_on {ks : List Rt} (h : (allL ks).any (fun k => k.h.on) = false) : ∀ k ∈ ks, k.h.on = false ∧ (allL k.ks).any (fun k => k.h.on) = false := by
  induction ks with
  | nil => intro k hk; simp at hk
  | cons a r ih =>
    obtain ⟨ha, hk⟩ := a
    rw [allL, List.any_append, Bool.or_eq_false_iff, allR, List.any_cons, Bool.or_eq_false_iff] at h
    intro k hk
    rcases List.mem_cons.1 hk with rfl | hk
    · exact h.1
    · exact ih h.2 k hk
theorem findR_one : ∀ (r : Rt), (allL r.ks).any (fun k => k.h.on) = false → ∀ (p : ByteArray), (findR l r p).length = 1 := by
  refine Rt.induct fun h ks ih ho p => ?_
  rw [findR_mk]
  split
  · rename_i ha
    refine findL_one l p ks 0 (fun k hk => ?_) ha
    obtain ⟨h1, h2⟩ := allL_on ho k hk
    exact ⟨h1, ih k hk h2⟩
  · rfl
/-! No path twice. -/
theorem itoa_plain {i : Nat} (h : i < 16) : (Lib.itoa (i : Int)).all (fun c => c != 46) = true := by
  have : ∀ j ∈ List.range 16, (Lib.itoa (j : Int)).all (fun c => c != 46) = true := by decide +kernel
  exact this i (by simpa using h)
theorem itoa_inj {i j : Nat} (hi : i < 16) (hj : j < 16) (h : Lib.itoa (i : Int) = Lib.itoa (j : Int)) : i = j := by
  have : ∀ a ∈ List.range 16, ∀ b ∈ List.range 16, Lib.itoa (a : Int) = Lib.itoa (b : Int) → a = b := by decide +kernel
  exact this i (by simpa using hi) j (by simpa using hj) h
theorem first_word {w s : List UInt8} (hw : w.all (fun c => c != 46) = true) (hs : s = [] ∨ ∃ t, s = 46 :: t) : (w ++ s).takeWhile (fun c => c != 46) = w := by
  rw [List.takeWhile_append_of_pos (fun c hc => List.all_eq_true.1 hw c hc)]
  rcases hs with rfl | ⟨t, rfl⟩
  · simp
  · simp
theorem goes_word {p q : ByteArray} {i : Nat} (hi : i < 16) (h : GoesOn (stepP p i) q) : ((byt q).drop (byt p).length).drop 1 = Lib.itoa (i : Int) ++ ((byt q).drop (byt p).length).drop (1 + (Lib.itoa (i : Int)).length) ∧ (((byt q).drop (byt p).length).drop 1).takeWhile (fun c => c != 46) = Lib.itoa (i : Int) := by
  obtain ⟨s, h1, h2⟩ := h
  rw [byt_step, List.append_assoc] at h1
  have e : (byt q).drop (byt p).length = 46 :: (Lib.itoa (i : Int) ++ s) := by rw [h1, List.drop_left]; rfl
  rw [e]
  refine ⟨?_, ?_⟩
  · rw [List.drop_succ_cons, List.drop_zero, Nat.add_comm, List.drop_succ_cons, List.drop_left]
  · rw [List.drop_succ_cons, List.drop_zero]
    exact first_word (itoa_plain hi) h2
theorem findL_idx (p : ByteArray) (ks : List Rt) (i : Nat) : ∀ q ∈ findL l ks p i, ∃ j, i ≤ j ∧ j < i + ks.length ∧ GoesOn (stepP p j) q.1 :=
  findL_all l p ks i fun j k hk _ q hq => ⟨i + j, by omega, by have := (List.getElem?_eq_some_iff.1 hk).1; omega, findR_goes l k _ q hq⟩
theorem findL_nodup (p : ByteArray) : ∀ (ks : List Rt) (i : Nat), i + ks.length ≤ 16 → (∀ k ∈ ks, ∀ p, ((findR l k p).map (·.1)).Nodup) → ((findL l ks p i).map (·.1)).Nodup
  | [], i, _, _ => by rw [findL_nil]; exact .nil
  | k :: r, i, hi, h => by
    simp only [List.length_cons] at hi
    have hr := findL_nodup p r (i + 1) (by omega) fun x hx => h x (by simp [hx])
    rw [findL_cons]
    split
    · rw [List.map_append]
      refine List.nodup_append.2 ⟨h k (by simp) _, ?_, ?_⟩
      · split
        · exact hr
        · exact .nil
      · intro a ha b hb e
        subst e
        obtain ⟨x, hx, rfl⟩ := List.mem_map.1 ha
        obtain ⟨y, hy, hxy⟩ := List.mem_map.1 hb
        split at hy
        · obtain ⟨j, h1, h2, h3⟩ := findL_idx l p r (i + 1) y hy
          have g1 := (goes_word (by omega) (findR_goes l k _ x hx)).2
          have g2 := (goes_word (by omega) h3).2
          rw [hxy] at g2
          have := itoa_inj (show i < 16 by omega) (show j < 16 by omega) (g1.symm.trans g2)
          omega
        · simp at hy
    · exact hr
theorem findR_nodup : ∀ (r : Rt) (d : Nat), mayR d r = true → ∀ (p : ByteArray), ((findR l r p).map (·.1)).Nodup := by
  refine Rt.induct fun h ks ih d hm p => ?_
  obtain ⟨e, rfl, hh, hk⟩ := mayR_kid hm
  rw [findR_mk]
  split
  · exact findL_nodup l p ks 0 (by have := head_16 hh; simp only [Rt.ks] at this; omega) fun k hkm => ih k hkm e (List.all_eq_true.1 hk k hkm)
  · simp
end

end
section
attribute [local go_sem ↓] e_mv e_pick e_bin e_eqs e_beq e_un e_cvi e_str e_s2b e_b2s e_box e_build e_bsl e_ld e_st e_nck e_mkf e_slcS e_slcL e_fa e_fld e_ia e_iaa e_ix e_ixa e_ext e_lenS e_lenL e_mnmx e_app e_appb e_bbx e_msl e_clr e_call e_callv e_icall e_slcA e_mkm e_mput e_mget e_mlen e_mdel pa_t pa_c pa_f slcSP_str hiOf_some hiOf_none loOf_some loOf_none set_eq set_ne
attribute [local go_sem] pv pv1 simple frOf_0 frOf_1 frOf_2 frOf_3 frOf_4 frOf_5 ne_eq not_false_eq_true if_true Bool.false_eq_true if_false pbin punary Option.map_some Option.bind_some pick_and pick_or opt_true Bool.true_and Bool.and_self Bool.and_true Bool.true_or Bool.false_or Bool.not_true Bool.not_false callE pcall_eq List.map_cons List.map_nil List.append_nil List.nil_append List.cons_append mapM_cons' mapM_nil' dep_eq fz_sc fz_sl fz_em fz_fn fz_fp fz_agg fz_tu fz_bx fz_ob Nat.lt_irrefl Nat.zero_lt_one Nat.lt_add_one flat clL cl Bool.or_true okc_sc okc_em okc_sl okc_ob okc_bx okc_fp okc_fn okc_agg okc_ifc cells_agg cells_sc cells_sl cells_em cells_ob cells_fn cells_bx cells_fp List.length_cons List.length_nil Nat.zero_add and_self true_and and_true new_m new_c put_m put_c nil_m nil_c nil_mm new_mm put_mm newM_m newM_c newM_mm putM_m putM_c putM_mm mkeyV_1 mkeyV_2 mapAt_eq deref List.getElem?_cons_zero List.getElem?_cons_succ List.drop_zero List.drop_succ_cons List.take_succ_cons List.take_zero Nat.le_refl false_and and_false decide_true decide_false lenP_em lenP_nil lenP_sl lenP_ob Int.ofNat_zero splice fillP fillE List.modify_zero_cons List.replicate_succ List.replicate_zero List.set_cons_zero List.drop_zero ba_data ba_size ba_toList ba_extract ba_append List.toList_toArray
structure Rr9 (env : Nat → Option Def) : Prop where
  m : Mm4 env
  b : Has lkb env
  a : Has lha env
  f : Has lkc env
  d : Has lkd env
  e : Has lke env
  s : Has lhd env
  k : Has lkf env
  al : AV env 295 [] = some (.sc (.bool true))
section
variable (l : List Lab)
end
section
variable {env : Nat → Option Def} {fr : Fr} {σ σ' σ'' : St} {K : Fr → St → Prop} {Q : X → Fr → St → Prop} {p : PV} {bs : List UInt8}
end

def d288 : Def := (.code 2 [.tmp 4] (.seq (.rg false [⟨.some 2, .none, .box (.t 0)⟩, ⟨.some 4, .none, .mv (.c (.bool false))⟩]) (.seq (.seq (.rg false [⟨.some 15, .none, .mv (.t 1)⟩, ⟨.some 16, .none, .call 293 .pure [.t 15]⟩, ⟨.some 1, .none, .mv (.t 16)⟩]) (.seq (.rg false [⟨.some 17, .none, .ld (.some 9) (.t 2)⟩, ⟨.some 18, .none, .call 294 .pure [.t 17, .c (.int .i64 60)]⟩, ⟨.some 19, .none, .bin .gtr (.t 18) (.c (.int .i64 60))⟩]) (.cond (.t 19) (.seq (.rg false [⟨.some 20, .none, .call 295 .pure []⟩, ⟨.some 4, .none, .mv (.t 20)⟩]) .ret) .skip))) (.seq (.rg false [⟨.some 22, .none, .ld (.some 9) (.t 2)⟩, ⟨.some 23, .none, .mv (.t 1)⟩, ⟨.some 24, .none, .call 296 .pure [.t 22, .t 23]⟩, ⟨.some 21, .none, .mv (.t 24)⟩, ⟨.some 25, .none, .ext (.t 21) 0⟩, ⟨.some 26, .none, .ext (.t 21) 1⟩, ⟨.some 5, .none, .mv (.t 25)⟩, ⟨.some 6, .none, .mv (.t 26)⟩]) (.seq (.seq (.rg false [⟨.some 27, .none, .mv (.t 6)⟩, ⟨.some 28, .none, .bin .neq (.t 27) (.c (.int .i64 0))⟩]) (.cond (.t 28) (.seq (.rg false [⟨.some 29, .none, .call 295 .pure []⟩, ⟨.some 30, .none, .mv (.t 29)⟩, ⟨.some 31, .some (30, true), .mv (.t 6)⟩, ⟨.some 32, .some (30, true), .bin .eql (.t 31) (.c (.int .i64 1))⟩, ⟨.some 33, .none, .pick (.t 30) (.t 32) (.c (.bool false))⟩, ⟨.some 34, .none, .mv (.t 33)⟩, ⟨.some 35, .some (34, true), .mv (.t 5)⟩, ⟨.some 36, .some (34, true), .lenL (.t 35)⟩, ⟨.some 37, .some (34, true), .bin .eql (.t 36) (.c (.int .i64 0))⟩, ⟨.some 38, .none, .pick (.t 34) (.t 37) (.c (.bool false))⟩, ⟨.some 4, .none, .mv (.t 38)⟩]) .ret) .skip)) (.seq (.rg false [⟨.some 7, .none, .mv (.c (.bool false))⟩]) (.seq (.seq (.rg false [⟨.some 39, .none, .ld (.some 9) (.t 2)⟩, ⟨.some 40, .none, .call 297 .pure [.t 39]⟩, ⟨.some 41, .none, .slcL 9 (.t 40) (.some (.c (.int .i64 1))) .none⟩, ⟨.some 42, .none, .lenL (.t 41)⟩, ⟨.some 43, .none, .mv (.c (.int .i64 0))⟩]) (.block 0 (.loop (.seq (.rg false [⟨.some 44, .none, .bin .lss (.t 43) (.t 42)⟩]) (.seq (.cond (.t 44) .skip (.exit 0)) (.seq (.block 1 (.seq (.rg false [⟨.some 45, .none, .ia 9 (.t 41) (.t 43)⟩, ⟨.some 46, .none, .ld (.some 9) (.t 45)⟩, ⟨.some 9, .none, .box (.c (.agg #[.string ⟨#[]⟩, .slice .none 0 0, .slice .none 0 0, .int .i64 0, .int .i64 0, .int .i64 0, .slice .none 0 0, .bool false, .slice .none 0 0]))⟩, ⟨.none, .none, .st 9 (.t 9) (.t 46)⟩]) (.rg false [⟨.some 47, .none, .mv (.t 7)⟩, ⟨.some 48, .none, .mv (.t 47)⟩, ⟨.some 49, .some (48, false), .fa 7 (.t 9)⟩, ⟨.some 50, .some (48, false), .ld .none (.t 49)⟩, ⟨.some 51, .none, .pick (.t 48) (.c (.bool true)) (.t 50)⟩, ⟨.some 7, .none, .mv (.t 51)⟩]))) (.rg false [⟨.some 52, .none, .bin .add (.t 43) (.c (.int .i64 1))⟩, ⟨.some 43, .none, .mv (.t 52)⟩]))))))) (.seq (.rg false [⟨.some 53, .none, .mkm⟩, ⟨.some 10, .none, .mv (.t 53)⟩]) (.seq (.seq (.rg false [⟨.some 54, .none, .mv (.t 5)⟩, ⟨.some 55, .none, .lenL (.t 54)⟩, ⟨.some 56, .none, .mv (.c (.int .i64 0))⟩]) (.block 2 (.loop (.seq (.rg false [⟨.some 57, .none, .bin .lss (.t 56) (.t 55)⟩]) (.seq (.cond (.t 57) .skip (.exit 2)) (.seq (.block 3 (.seq (.rg false [⟨.some 58, .none, .ia 10 (.t 54) (.t 56)⟩, ⟨.some 59, .none, .ld (.some 10) (.t 58)⟩, ⟨.some 12, .none, .box (.c (.agg #[.string ⟨#[]⟩, .string ⟨#[]⟩, .slice .none 0 0, .slice .none 0 0, .int .i64 0, .int .i64 0, .int .i64 0, .slice .none 0 0, .bool false, .slice .none 0 0]))⟩, ⟨.none, .none, .st 10 (.t 12) (.t 59)⟩]) (.seq (.seq (.rg false [⟨.some 60, .none, .mv (.t 10)⟩, ⟨.some 61, .none, .fa 0 (.t 12)⟩, ⟨.some 62, .none, .ld .none (.t 61)⟩, ⟨.some 63, .none, .mget 2 (.bool false) false (.t 60) (.t 62)⟩, ⟨.some 64, .none, .mv (.t 63)⟩, ⟨.some 65, .some (64, false), .fa 1 (.t 12)⟩, ⟨.some 66, .some (64, false), .fa 8 (.t 65)⟩, ⟨.some 67, .some (64, false), .ld .none (.t 66)⟩, ⟨.some 68, .some (64, false), .lenL (.t 67)⟩, ⟨.some 69, .some (64, false), .bin .neq (.t 68) (.c (.int .i64 0))⟩, ⟨.some 70, .none, .pick (.t 64) (.c (.bool true)) (.t 69)⟩, ⟨.some 71, .none, .mv (.t 70)⟩, ⟨.some 72, .some (71, false), .fa 1 (.t 12)⟩, ⟨.some 73, .some (71, false), .ld (.some 9) (.t 72)⟩, ⟨.some 74, .some (71, false), .call 298 .pure [.t 73]⟩, ⟨.some 75, .some (71, false), .un .not (.t 74)⟩, ⟨.some 76, .none, .pick (.t 71) (.c (.bool true)) (.t 75)⟩]) (.cond (.t 76) (.seq (.rg false [⟨.some 4, .none, .mv (.c (.bool false))⟩]) .ret) .skip)) (.seq (.rg false [⟨.some 77, .none, .mv (.t 10)⟩, ⟨.some 78, .none, .fa 0 (.t 12)⟩, ⟨.some 79, .none, .ld .none (.t 78)⟩, ⟨.none, .none, .mput 2 (.t 77) (.t 79) (.c (.bool true))⟩]) (.seq (.seq (.rg false [⟨.some 80, .none, .fa 0 (.t 12)⟩, ⟨.some 81, .none, .ld .none (.t 80)⟩, ⟨.some 82, .none, .bin .eql (.t 81) (.c (.string ⟨#[]⟩))⟩]) (.cond (.t 82) (.exit 3) .skip)) (.seq (.rg false [⟨.some 84, .none, .mv (.t 1)⟩, ⟨.some 85, .none, .fa 1 (.t 12)⟩, ⟨.some 86, .none, .fa 1 (.t 85)⟩, ⟨.some 87, .none, .ld .none (.t 86)⟩, ⟨.some 88, .none, .call 299 .pure [.t 84, .t 87]⟩, ⟨.some 83, .none, .mv (.t 88)⟩, ⟨.some 89, .none, .ext (.t 83) 0⟩, ⟨.some 90, .none, .ext (.t 83) 1⟩, ⟨.some 13, .none, .mv (.t 89)⟩, ⟨.some 14, .none, .mv (.t 90)⟩]) (.seq (.rg false [⟨.some 91, .none, .mv (.t 14)⟩, ⟨.some 92, .none, .bin .neq (.t 91) (.c (.int .i64 0))⟩, ⟨.some 93, .none, .mv (.t 92)⟩, ⟨.some 94, .some (93, false), .mv (.t 13)⟩, ⟨.some 95, .some (93, false), .un .not (.t 94)⟩, ⟨.some 96, .none, .pick (.t 93) (.c (.bool true)) (.t 95)⟩]) (.cond (.t 96) (.seq (.rg false [⟨.some 4, .none, .mv (.c (.bool false))⟩]) .ret) .skip)))))))) (.rg false [⟨.some 97, .none, .bin .add (.t 56) (.c (.int .i64 1))⟩, ⟨.some 56, .none, .mv (.t 97)⟩]))))))) (.seq (.rg false [⟨.some 98, .none, .call 295 .pure []⟩, ⟨.some 99, .none, .mv (.t 98)⟩, ⟨.some 100, .some (99, true), .mv (.t 5)⟩, ⟨.some 101, .some (99, true), .lenL (.t 100)⟩, ⟨.some 102, .some (99, true), .bin .geq (.t 101) (.c (.int .i64 1))⟩, ⟨.some 103, .none, .pick (.t 99) (.t 102) (.c (.bool false))⟩, ⟨.some 104, .none, .mv (.t 103)⟩, ⟨.some 105, .some (104, true), .mv (.t 7)⟩, ⟨.some 106, .some (104, true), .mv (.t 105)⟩, ⟨.some 107, .some (106, false), .mv (.t 5)⟩, ⟨.some 108, .some (106, false), .lenL (.t 107)⟩, ⟨.some 109, .some (106, false), .bin .eql (.t 108) (.c (.int .i64 1))⟩, ⟨.some 110, .some (104, true), .pick (.t 106) (.c (.bool true)) (.t 109)⟩, ⟨.some 111, .none, .pick (.t 104) (.t 110) (.c (.bool false))⟩, ⟨.some 112, .none, .mv (.t 111)⟩, ⟨.some 113, .some (112, true), .mv (.t 10)⟩, ⟨.some 114, .some (112, true), .mget 2 (.bool false) false (.t 113) (.c (.string ⟨#[]⟩))⟩, ⟨.some 115, .some (112, true), .un .not (.t 114)⟩, ⟨.some 116, .some (112, true), .mv (.t 115)⟩, ⟨.some 117, .some (116, false), .mv (.t 5)⟩, ⟨.some 118, .some (116, false), .lenL (.t 117)⟩, ⟨.some 119, .some (116, false), .bin .eql (.t 118) (.c (.int .i64 1))⟩, ⟨.some 120, .some (112, true), .pick (.t 116) (.c (.bool true)) (.t 119)⟩, ⟨.some 121, .none, .pick (.t 112) (.t 120) (.c (.bool false))⟩, ⟨.some 4, .none, .mv (.t 121)⟩]) .ret))))))))))
def lkh : List (Nat × Def) := [(288, d288)]
def seenP (l : List ByteArray) : List (Value × PV) := l.map fun s => (.string s, .sc (.bool true))
theorem mfind_seen (s : ByteArray) : ∀ l : List ByteArray, mfind (.string s) (seenP l) = some (if memB l s = true then some (.sc (.bool true)) else none)
  | [] => rfl
  | a :: l => by
    have ih := mfind_seen s l
    show (match same1 (.string s) (.string a) with | some true => some (some (PV.sc (.bool true))) | some false => mfind (.string s) (seenP l) | none => none) = _
    simp only [same1]
    by_cases h : s = a
    · subst h
      rw [decide_eq_true rfl, if_pos (memB_iff.2 (by simp))]
    · rw [decide_eq_false h]
      simp only
      rw [ih]
      have : memB (a :: l) s = memB l s := by
        rw [Bool.eq_iff_iff, memB_iff, memB_iff, List.mem_cons]
        exact ⟨fun hh => hh.resolve_left h, .inr⟩
      rw [this]
theorem mset_seen {s : ByteArray} : ∀ {l : List ByteArray}, s ∉ l → mset (.string s) (.sc (.bool true)) (seenP l) = some (seenP (l ++ [s]))
  | [], _ => rfl
  | a :: l, h => by
    have h1 : s ≠ a := fun e => h (by simp [e])
    have ih := mset_seen (s := s) (l := l) fun e => h (by simp [e])
    show (match same1 (.string s) (.string a) with | some true => some ((Value.string s, PV.sc (.bool true)) :: seenP l) | some false => (mset (.string s) (.sc (.bool true)) (seenP l)).map ((Value.string a, PV.sc (.bool true)) :: ·) | none => none) = _
    simp only [same1, decide_eq_false h1]
    rw [ih]
    rfl
section
variable {env : Nat → Option Def} {fr : Fr} {σ σ' σ'' : St} {K : Fr → St → Prop} {Q : X → Fr → St → Prop} {p : PV} {bs : List UInt8}
theorem slc_rest (fr : Fr) (r : Rt) (l : List Rt) : slcLP 9 fr (.sl (rts (r :: l))) (some (.c (.int .i64 1))) none = some (.sl (rts l)) := by
  have hall : (rts (r :: l)).all (fun x => (cellsOf x).length == 9) = true := by
    rw [List.all_eq_true]
    intro x hx
    have := List.all_eq_true.1 (rts_all (r :: l)) x hx
    rw [Bool.and_eq_true] at this
    exact this.2
  simp only [slcLP, hall, if_true, hiOf, loOf, Option.bind_some]
  rw [show pa fr (.c (.int .i64 1)) = .sc (.int .i64 1) from rfl]
  simp only [bound]
  rw [if_pos (by rw [rts_len, List.length_cons]; omega)]
  simp only [Option.bind_some, List.take_length]
  rw [rts]
  rfl
theorem a288 (H : Rr9 env) (G : Has lkh env) {r : Rt} {l0 : List Lab} (hr : r.Held) (hl0 : l0.length ≤ 9223372036854775807) : AV env 288 [rt r, .sl (labs l0)] = some (.sc (.bool true)) := by
  have h293 := a293 H.d hl0
  have hls := fewL_smalls l0
  have hln : (fewL l0).length ≤ 10 := by rw [fewL_len]; omega
  have h294 : AV env 294 [rt r, .sc (.int .i64 60)] = some (.sc (.int .i64 ((min (cntR r) 61 : Nat) : Int))) := a294 H.d r hr 60 (by omega)
  have hal := H.al
  generalize fewL l0 = l at h293 hls hln
  have hal2 := allR_len r
  refine AV_wp (G (288, d288) (by simp [lkh])) rfl ?_
  have hrt := rt_eq r
  rw [hrt] at h294 ⊢
  unfold rhd at h294 ⊢
  (repeat' first
    | refine w_seq ?_ | refine w_rg ?_ | refine wo_nil ?_ | refine g_skU ?_ | refine g_skT ?_ | refine g_skF ?_
    | ((first | apply s_plain | apply s_void | apply s_guard | apply g_goT | apply g_goF); · simp only [go_sem, Nat.reduceEqDiff, Nat.reduceAdd, Nat.reduceLeDiff, h293, h294]; (first | done | rfl))
    | ((first | apply g_T | apply g_F | apply g_gT | apply g_gF); · intro q1_; (first | intro q2_ | have q2_ := q1_); simp only [go_sem, Nat.reduceEqDiff, Nat.reduceAdd, Nat.reduceLeDiff, h293, h294, q1_, q2_]; (first | done | rfl))
    | fail
    )
  refine w_condB (by simp only [go_sem, Nat.reduceEqDiff, Nat.reduceAdd, Nat.reduceLeDiff]; first | done | rfl) (fun hc => ?_) (fun hc => ?_)
  · (repeat' first
    | refine w_seq ?_ | refine w_rg ?_ | refine wo_nil ?_ | refine g_skU ?_ | refine g_skT ?_ | refine g_skF ?_
    | ((first | apply s_plain | apply s_void | apply s_guard | apply g_goT | apply g_goF); · simp only [go_sem, Nat.reduceEqDiff, Nat.reduceAdd, Nat.reduceLeDiff, hal]; (first | done | rfl))
    | ((first | apply g_T | apply g_F | apply g_gT | apply g_gF); · intro q1_; (first | intro q2_ | have q2_ := q1_); simp only [go_sem, Nat.reduceEqDiff, Nat.reduceAdd, Nat.reduceLeDiff, hal, q1_, q2_]; (first | done | rfl))
    | (apply w_condX; · simp only [go_sem, Nat.reduceEqDiff, Nat.reduceAdd, Nat.reduceLeDiff, hal]; (first | done | rfl)); (first | refine wcd_T ?_ | refine wcd_F ?_)
    | refine w_skip ?_ | refine w_exit ?_ | refine w_ret ?_
    | fail
    )
    exact ⟨by first | exact .inr rfl | exact .inr trivial | exact .inl rfl, by simp only [go_sem, Nat.reduceEqDiff, Nat.reduceAdd, Nat.reduceLeDiff, retOf, resOf]; first | done | rfl⟩
  · have hc' : cntR r ≤ 60 := by
      rw [decide_eq_false_iff_not] at hc
      omega
    have ht := a296 H.m H.b H.a H.f hr (l := l) (by omega) (by omega) hls
    have hall := a297 H.e r hr (by omega)
    have hcons : allR r = r :: allL r.ks := by cases r; rw [allR]; rfl
    rw [hrt] at ht hall
    unfold rhd at ht hall
    cases hA : (mayR 4 r && rightL l) with
    | false =>
      rw [hA] at ht
      simp only [Bool.false_eq_true, if_false] at ht
      (repeat' first
    | refine w_seq ?_ | refine w_rg ?_ | refine wo_nil ?_ | refine g_skU ?_ | refine g_skT ?_ | refine g_skF ?_
    | ((first | apply s_plain | apply s_void | apply s_guard | apply g_goT | apply g_goF); · simp only [go_sem, Nat.reduceEqDiff, Nat.reduceAdd, Nat.reduceLeDiff, ht, hal]; (first | done | rfl))
    | ((first | apply g_T | apply g_F | apply g_gT | apply g_gF); · intro q1_; (first | intro q2_ | have q2_ := q1_); simp only [go_sem, Nat.reduceEqDiff, Nat.reduceAdd, Nat.reduceLeDiff, ht, hal, q1_, q2_]; (first | done | rfl))
    | (apply w_condX; · simp only [go_sem, Nat.reduceEqDiff, Nat.reduceAdd, Nat.reduceLeDiff, ht, hal]; (first | done | rfl)); (first | refine wcd_T ?_ | refine wcd_F ?_)
    | refine w_skip ?_ | refine w_exit ?_ | refine w_ret ?_
    | fail
    )
      exact ⟨by first | exact .inr rfl | exact .inr trivial | exact .inl rfl, by simp only [go_sem, Nat.reduceEqDiff, Nat.reduceAdd, Nat.reduceLeDiff, retOf, resOf]; first | done | rfl⟩
    | true =>
      rw [hA] at ht
      simp only [if_true] at ht
      rw [Bool.and_eq_true] at hA
      obtain ⟨hm, hrl⟩ := hA
      have fnd := findR_nodup l r 4 hm ⟨#[]⟩
      have fmay := findR_may l r 4 hm ⟨#[]⟩
      have fled := findR_led l r ⟨#[]⟩
      have fheld := findR_held l r hr ⟨#[]⟩
      have fone := findR_one l r
      have fne := findR_ne l r ⟨#[]⟩
      have flen := findR_len l r ⟨#[]⟩
      replace fone := fun h => fone h ⟨#[]⟩
      generalize findR l r ⟨#[]⟩ = T at ht fnd fmay fled fheld fone fne flen
      have hslc := fun fr => slc_rest fr r (allL r.ks)
      rw [hcons] at hall
      have hcl : (allL r.ks).length ≤ 60 := by rw [hcons, List.length_cons] at hal2; omega
      have hrl2 := rts_len (allL r.ks)
      generalize allL r.ks = A at hall hslc fone hcl hrl2
      have hTl := tgFs_len T
      have fledq : ∀ q ∈ T, q.1 ≠ ⟨#[]⟩ → holdsA l q.2.ms = true := by
        intro q hq hne
        rcases fled with hl1 | hl1
        · exfalso
          rw [hl1, List.mem_singleton] at hq
          exact hne (by rw [hq])
        · exact (hl1 q hq).2
      (repeat' first
    | refine w_seq ?_ | refine w_rg ?_ | refine wo_nil ?_ | refine g_skU ?_ | refine g_skT ?_ | refine g_skF ?_
    | ((first | apply s_plain | apply s_void | apply s_guard | apply g_goT | apply g_goF); · simp only [go_sem, Nat.reduceEqDiff, Nat.reduceAdd, Nat.reduceLeDiff, ht, hall, hslc, hrl2, List.set_cons_succ]; (first | done | rfl))
    | ((first | apply g_T | apply g_F | apply g_gT | apply g_gF); · intro q1_; (first | intro q2_ | have q2_ := q1_); simp only [go_sem, Nat.reduceEqDiff, Nat.reduceAdd, Nat.reduceLeDiff, ht, hall, hslc, hrl2, List.set_cons_succ, q1_, q2_]; (first | done | rfl))
    | (apply w_condX; · simp only [go_sem, Nat.reduceEqDiff, Nat.reduceAdd, Nat.reduceLeDiff, ht, hall, hslc, hrl2, List.set_cons_succ]; (first | done | rfl)); (first | refine wcd_T ?_ | refine wcd_F ?_)
    | refine w_skip ?_ | refine w_exit ?_ | refine w_ret ?_
    | fail
    )
      refine w_cutB (fun fr σ => fr 1 = .sl (labs l) ∧ fr 5 = .sl (tgFs T) ∧ fr 7 = .sc (.bool (A.any fun k => k.h.on))) ?_ ?_
      · refine w_rangeF A.length (by omega) (fun i fr σ => fr 7 = .sc (.bool ((A.take i).any fun k => k.h.on))) ⟨by decide, rfl, rfl⟩ ?_ ?_ (by simp only [go_sem, Nat.reduceEqDiff, Nat.reduceAdd, Nat.reduceLeDiff]; first | done | rfl) (by simp only [go_sem, Nat.reduceEqDiff, Nat.reduceAdd, Nat.reduceLeDiff, hrl2]; first | done | rfl) ?_ ?_
        · rintro i fr1 σ1 v h7
          refine ⟨?_, ?_, ?_⟩ <;> simp only [go_sem, Nat.reduceEqDiff, Nat.reduceAdd, Nat.reduceLeDiff, h7]
        · simp only [go_sem, Nat.reduceEqDiff, Nat.reduceAdd, Nat.reduceLeDiff, List.any_nil]
        · rintro i fr1 σ1 hi h7 hti hfr
          have f0_41 := hfr 41 rfl; have f0_42 := hfr 42 rfl; try (simp only [go_sem, Nat.reduceEqDiff, Nat.reduceAdd, Nat.reduceLeDiff] at f0_41); try (simp only [go_sem, Nat.reduceEqDiff, Nat.reduceAdd, Nat.reduceLeDiff] at f0_42)
          have hx := List.getElem?_eq_getElem hi
          have hy := rts_at hx
          rw [rt_eq] at hy
          unfold rhd at hy
          have e1 : (0 : Int) ≤ (i : Int) ∧ (i : Int) < (A.length : Int) := by omega
          have htk : (A.take (i + 1)).any (fun k => k.h.on) = ((A.take i).any (fun k => k.h.on) || A[i].h.on) := by
            rw [List.take_succ_eq_append_getElem hi, List.any_append, List.any_cons, List.any_nil, Bool.or_false]
          rw [htk]
          generalize A[i] = k at hy
          refine w_block ?_
          (repeat' first
    | refine w_seq ?_ | refine w_rg ?_ | refine wo_nil ?_ | refine g_skU ?_ | refine g_skT ?_ | refine g_skF ?_
    | ((first | apply s_plain | apply s_void | apply s_guard | apply g_goT | apply g_goF); · simp only [go_sem, Nat.reduceEqDiff, Nat.reduceAdd, Nat.reduceLeDiff, f0_41, f0_42, hti, e1, hrl2, Int.toNat_natCast, hy, h7, List.set_cons_succ]; (first | done | rfl))
    | ((first | apply g_T | apply g_F | apply g_gT | apply g_gF); · intro q1_; (first | intro q2_ | have q2_ := q1_); simp only [go_sem, Nat.reduceEqDiff, Nat.reduceAdd, Nat.reduceLeDiff, f0_41, f0_42, hti, e1, hrl2, Int.toNat_natCast, hy, h7, List.set_cons_succ, q1_, q2_]; (first | done | rfl))
    | (apply w_condX; · simp only [go_sem, Nat.reduceEqDiff, Nat.reduceAdd, Nat.reduceLeDiff, f0_41, f0_42, hti, e1, hrl2, Int.toNat_natCast, hy, h7, List.set_cons_succ]; (first | done | rfl)); (first | refine wcd_T ?_ | refine wcd_F ?_)
    | refine w_skip ?_ | refine w_exit ?_ | refine w_ret ?_
    | fail
    )
          simp only [go_sem, Nat.reduceEqDiff, Nat.reduceAdd, Nat.reduceLeDiff]
        · rintro fr1 σ1 h7 hfr
          have e0_1 := hfr 1 rfl; have e0_4 := hfr 4 rfl; have e0_5 := hfr 5 rfl; try (simp only [go_sem, Nat.reduceEqDiff, Nat.reduceAdd, Nat.reduceLeDiff] at e0_1); try (simp only [go_sem, Nat.reduceEqDiff, Nat.reduceAdd, Nat.reduceLeDiff] at e0_4); try (simp only [go_sem, Nat.reduceEqDiff, Nat.reduceAdd, Nat.reduceLeDiff] at e0_5)
          try simp only [if_true]
          rw [List.take_length] at h7
          exact ⟨by simp only [e0_1, e0_4, e0_5], by simp only [e0_1, e0_4, e0_5], h7⟩
      · rintro fr1 σ1 ⟨g1, g5, g7⟩
        (repeat' first
    | refine w_seq ?_ | refine w_rg ?_ | refine wo_nil ?_ | refine g_skU ?_ | refine g_skT ?_ | refine g_skF ?_
    | ((first | apply s_plain | apply s_void | apply s_guard | apply g_goT | apply g_goF); · simp only [go_sem, Nat.reduceEqDiff, Nat.reduceAdd, Nat.reduceLeDiff, g5, hTl]; (first | done | rfl))
    | ((first | apply g_T | apply g_F | apply g_gT | apply g_gF); · intro q1_; (first | intro q2_ | have q2_ := q1_); simp only [go_sem, Nat.reduceEqDiff, Nat.reduceAdd, Nat.reduceLeDiff, g5, hTl, q1_, q2_]; (first | done | rfl))
    | (apply w_condX; · simp only [go_sem, Nat.reduceEqDiff, Nat.reduceAdd, Nat.reduceLeDiff, g5, hTl]; (first | done | rfl)); (first | refine wcd_T ?_ | refine wcd_F ?_)
    | refine w_skip ?_ | refine w_exit ?_ | refine w_ret ?_
    | fail
    )
        refine w_cutB (fun fr σ => (fr 5 = .sl (tgFs T) ∧ fr 7 = .sc (.bool (A.any fun k => k.h.on)) ∧ fr 10 = .mp 4000053 (σ1.c 4000053)) ∧ σ.mm 4000053 (σ1.c 4000053) = some (seenP (T.map (·.1)))) ?_ ?_
        · refine w_rangeF T.length (by omega) (fun i fr σ => σ.mm 4000053 (σ1.c 4000053) = some (seenP ((T.take i).map (·.1)))) ⟨by decide, rfl, rfl⟩ (fun _ _ _ _ h => ⟨h, h, h⟩) (by simp only [go_sem, Nat.reduceEqDiff, Nat.reduceAdd, Nat.reduceLeDiff]; rfl) (by simp only [go_sem, Nat.reduceEqDiff, Nat.reduceAdd, Nat.reduceLeDiff]; first | done | rfl) (by simp only [go_sem, Nat.reduceEqDiff, Nat.reduceAdd, Nat.reduceLeDiff, hTl]; first | done | rfl) ?_ ?_
          · rintro i fr2 σ2 hi hM hti hfr
            have f1_1 := hfr 1 rfl; have f1_10 := hfr 10 rfl; have f1_54 := hfr 54 rfl; have f1_55 := hfr 55 rfl; try (simp only [go_sem, Nat.reduceEqDiff, Nat.reduceAdd, Nat.reduceLeDiff, g1, g5] at f1_1); try (simp only [go_sem, Nat.reduceEqDiff, Nat.reduceAdd, Nat.reduceLeDiff, g1, g5] at f1_10); try (simp only [go_sem, Nat.reduceEqDiff, Nat.reduceAdd, Nat.reduceLeDiff, g1, g5] at f1_54); try (simp only [go_sem, Nat.reduceEqDiff, Nat.reduceAdd, Nat.reduceLeDiff, g1, g5] at f1_55)
            have hx := List.getElem?_eq_getElem hi
            have hy := tgFs_at hx
            have e1 : (0 : Int) ≤ (i : Int) ∧ (i : Int) < (T.length : Int) := by omega
            have hmem := List.getElem_mem hi
            have hnot : T[i].1 ∉ (T.take i).map (·.1) := by
              intro hin
              obtain ⟨q, hq, hqe⟩ := List.mem_map.1 hin
              obtain ⟨j, hj⟩ := List.getElem?_of_mem hq
              have hj2 := (List.getElem?_eq_some_iff.1 hj).1
              rw [List.length_take] at hj2
              rw [List.getElem?_take, if_pos (by omega)] at hj
              have n1 : (T.map (·.1))[j]? = some T[i].1 := by rw [List.getElem?_map, hj]; simp [hqe]
              have n2 : (T.map (·.1))[i]? = some T[i].1 := by rw [List.getElem?_map, hx]; rfl
              have := (List.getElem?_inj (i := j) (j := i) (by rw [List.length_map]; omega) fnd).1 (n1.trans n2.symm)
              omega
            have hput := mset_seen hnot
            have hget := mfind_seen T[i].1 ((T.take i).map (·.1))
            rw [if_neg (fun h => hnot (memB_iff.1 h))] at hget
            have hsucc : (T.take (i + 1)).map (·.1) = (T.take i).map (·.1) ++ [T[i].1] := by rw [List.take_succ_eq_append_getElem hi, List.map_append]; rfl
            rw [hsucc]
            have hmay := may_leaf (fmay _ hmem).1
            have hhd := fheld _ hmem
            have hms : T[i].2.ms.all rightM = true := mayR_ms (r := .mk T[i].2 []) hmay
            have h298 := a298 H.m H.b (r := .mk T[i].2 []) ⟨_, _, hhd, by simp, by simp⟩
            rw [hmay, rt_eq] at h298
            have h299 := a299 H.m (ms := T[i].2.ms) (l := l) hhd.ms hhd.mss (by omega) hls
            rw [hrl, hms] at h299
            simp only [Bool.and_self, if_true] at h299
            have hled := fledq _ hmem
            generalize T[i] = q at hy hput hget h298 h299 hled
            obtain ⟨q1, q2⟩ := q
            unfold tgF rhd at hy
            unfold rhd at h298
            have e3 : Rt.h (.mk q2 []) = q2 := rfl
            have e4 : rts (Rt.ks (.mk q2 [])) = [] := by show rts [] = []; rw [rts]
            rw [e3, e4] at h298
            simp only [cells_agg] at hy
            simp only at hput hget h299 hled
            refine w_block ?_
            (repeat' first
    | refine w_seq ?_ | refine w_rg ?_ | refine wo_nil ?_ | refine g_skU ?_ | refine g_skT ?_ | refine g_skF ?_
    | ((first | apply s_plain | apply s_void | apply s_guard | apply g_goT | apply g_goF); · simp only [go_sem, Nat.reduceEqDiff, Nat.reduceAdd, Nat.reduceLeDiff, f1_1, f1_10, f1_54, f1_55, hti, e1, hTl, Int.toNat_natCast, hy, hM, hget, hput, h298, List.set_cons_succ, ba_beq]; (first | done | rfl))
    | ((first | apply g_T | apply g_F | apply g_gT | apply g_gF); · intro q1_; (first | intro q2_ | have q2_ := q1_); simp only [go_sem, Nat.reduceEqDiff, Nat.reduceAdd, Nat.reduceLeDiff, f1_1, f1_10, f1_54, f1_55, hti, e1, hTl, Int.toNat_natCast, hy, hM, hget, hput, h298, List.set_cons_succ, ba_beq, q1_, q2_]; (first | done | rfl))
    | (apply w_condX; · simp only [go_sem, Nat.reduceEqDiff, Nat.reduceAdd, Nat.reduceLeDiff, f1_1, f1_10, f1_54, f1_55, hti, e1, hTl, Int.toNat_natCast, hy, hM, hget, hput, h298, List.set_cons_succ, ba_beq]; (first | done | rfl)); (first | refine wcd_T ?_ | refine wcd_F ?_)
    | refine w_skip ?_ | refine w_exit ?_ | refine w_ret ?_
    | fail
    )
            by_cases hq : q1 = ⟨#[]⟩
            · have hqd : (q1.toList == []) = true := by rw [hq, ByteArray.toList_eq]; rfl
              (repeat' first
    | refine w_seq ?_ | refine w_rg ?_ | refine wo_nil ?_ | refine g_skU ?_ | refine g_skT ?_ | refine g_skF ?_
    | ((first | apply s_plain | apply s_void | apply s_guard | apply g_goT | apply g_goF); · simp only [go_sem, Nat.reduceEqDiff, Nat.reduceAdd, Nat.reduceLeDiff, hqd]; (first | done | rfl))
    | ((first | apply g_T | apply g_F | apply g_gT | apply g_gF); · intro q1_; (first | intro q2_ | have q2_ := q1_); simp only [go_sem, Nat.reduceEqDiff, Nat.reduceAdd, Nat.reduceLeDiff, hqd, q1_, q2_]; (first | done | rfl))
    | (apply w_condX; · simp only [go_sem, Nat.reduceEqDiff, Nat.reduceAdd, Nat.reduceLeDiff, hqd]; (first | done | rfl)); (first | refine wcd_T ?_ | refine wcd_F ?_)
    | refine w_skip ?_ | refine w_exit ?_ | refine w_ret ?_
    | fail
    )
              try simp only [if_true]
              simp only [go_sem, Nat.reduceEqDiff, Nat.reduceAdd, Nat.reduceLeDiff]
            · have hqe : q1.toList ≠ [] := fun e => hq (ba_inj (by rw [e, ByteArray.toList_eq]))
              have hqd : (q1.toList == []) = false := by simpa using hqe
              rw [hled hq] at h299
              (repeat' first
    | refine w_seq ?_ | refine w_rg ?_ | refine wo_nil ?_ | refine g_skU ?_ | refine g_skT ?_ | refine g_skF ?_
    | ((first | apply s_plain | apply s_void | apply s_guard | apply g_goT | apply g_goF); · simp only [go_sem, Nat.reduceEqDiff, Nat.reduceAdd, Nat.reduceLeDiff, f1_1, f1_10, f1_54, f1_55, hqd, h299, List.set_cons_succ]; (first | done | rfl))
    | ((first | apply g_T | apply g_F | apply g_gT | apply g_gF); · intro q1_; (first | intro q2_ | have q2_ := q1_); simp only [go_sem, Nat.reduceEqDiff, Nat.reduceAdd, Nat.reduceLeDiff, f1_1, f1_10, f1_54, f1_55, hqd, h299, List.set_cons_succ, q1_, q2_]; (first | done | rfl))
    | (apply w_condX; · simp only [go_sem, Nat.reduceEqDiff, Nat.reduceAdd, Nat.reduceLeDiff, f1_1, f1_10, f1_54, f1_55, hqd, h299, List.set_cons_succ]; (first | done | rfl)); (first | refine wcd_T ?_ | refine wcd_F ?_)
    | refine w_skip ?_ | refine w_exit ?_ | refine w_ret ?_
    | fail
    )
              try simp only [if_true]
              simp only [go_sem, Nat.reduceEqDiff, Nat.reduceAdd, Nat.reduceLeDiff]
          · rintro fr2 σ2 hM hfr
            have e1_5 := hfr 5 rfl; have e1_7 := hfr 7 rfl; have e1_10 := hfr 10 rfl; try (simp only [go_sem, Nat.reduceEqDiff, Nat.reduceAdd, Nat.reduceLeDiff, g5, g7] at e1_5); try (simp only [go_sem, Nat.reduceEqDiff, Nat.reduceAdd, Nat.reduceLeDiff, g5, g7] at e1_7); try (simp only [go_sem, Nat.reduceEqDiff, Nat.reduceAdd, Nat.reduceLeDiff, g5, g7] at e1_10)
            try simp only [if_true]
            rw [List.take_length] at hM
            exact ⟨⟨by simp only [e1_5, e1_7, e1_10], by simp only [e1_5, e1_7, e1_10], by simp only [e1_5, e1_7, e1_10]⟩, hM⟩
        · rintro fr3 σ3 ⟨⟨k5, k7, k10⟩, hM⟩
          have hget := mfind_seen ⟨#[]⟩ (T.map (·.1))
          have hpos : T.length ≥ 1 := by
            cases T with
            | nil => exact absurd rfl fne
            | cons a b => simp
          have hpd : decide ((T.length : Int) ≥ 1) = true := decide_eq_true (by omega)
          have hmemb : memB (T.map (·.1)) ⟨#[]⟩ = true → T.length = 1 := by
            intro h
            obtain ⟨q, hq, hq1⟩ := List.mem_map.1 (memB_iff.1 h)
            rcases fled with hl1 | hl1
            · rw [hl1]; rfl
            · exact absurd (by rw [hq1]) (hl1 q hq).1
          have hone : (A.any fun k => k.h.on) = false → ((T.length : Int) == 1) = true := fun ho => by rw [fone ho]; rfl
          have hone2 : memB (T.map (·.1)) ⟨#[]⟩ = true → ((T.length : Int) == 1) = true := fun ho => by rw [hmemb ho]; rfl
          cases ho : A.any fun k => k.h.on with
          | true =>
            rw [ho] at k7
            cases hb : memB (T.map (·.1)) ⟨#[]⟩ with
            | true =>
              rw [if_pos hb] at hget
              (repeat' first
    | refine w_seq ?_ | refine w_rg ?_ | refine wo_nil ?_ | refine g_skU ?_ | refine g_skT ?_ | refine g_skF ?_
    | ((first | apply s_plain | apply s_void | apply s_guard | apply g_goT | apply g_goF); · simp only [go_sem, Nat.reduceEqDiff, Nat.reduceAdd, Nat.reduceLeDiff, k5, k7, k10, hM, hget, hal, hTl, hpd, hone2 hb, Option.getD_some, Option.getD_none]; (first | done | rfl))
    | ((first | apply g_T | apply g_F | apply g_gT | apply g_gF); · intro q1_; (first | intro q2_ | have q2_ := q1_); simp only [go_sem, Nat.reduceEqDiff, Nat.reduceAdd, Nat.reduceLeDiff, k5, k7, k10, hM, hget, hal, hTl, hpd, hone2 hb, Option.getD_some, Option.getD_none, q1_, q2_]; (first | done | rfl))
    | (apply w_condX; · simp only [go_sem, Nat.reduceEqDiff, Nat.reduceAdd, Nat.reduceLeDiff, k5, k7, k10, hM, hget, hal, hTl, hpd, hone2 hb, Option.getD_some, Option.getD_none]; (first | done | rfl)); (first | refine wcd_T ?_ | refine wcd_F ?_)
    | refine w_skip ?_ | refine w_exit ?_ | refine w_ret ?_
    | fail
    )
              exact ⟨by first | exact .inr rfl | exact .inr trivial | exact .inl rfl, by simp only [go_sem, Nat.reduceEqDiff, Nat.reduceAdd, Nat.reduceLeDiff, retOf, resOf]; first | done | rfl⟩
            | false =>
              rw [hb] at hget
              simp only [Bool.false_eq_true, if_false] at hget
              (repeat' first
    | refine w_seq ?_ | refine w_rg ?_ | refine wo_nil ?_ | refine g_skU ?_ | refine g_skT ?_ | refine g_skF ?_
    | ((first | apply s_plain | apply s_void | apply s_guard | apply g_goT | apply g_goF); · simp only [go_sem, Nat.reduceEqDiff, Nat.reduceAdd, Nat.reduceLeDiff, k5, k7, k10, hM, hget, hal, hTl, hpd, Option.getD_some, Option.getD_none]; (first | done | rfl))
    | ((first | apply g_T | apply g_F | apply g_gT | apply g_gF); · intro q1_; (first | intro q2_ | have q2_ := q1_); simp only [go_sem, Nat.reduceEqDiff, Nat.reduceAdd, Nat.reduceLeDiff, k5, k7, k10, hM, hget, hal, hTl, hpd, Option.getD_some, Option.getD_none, q1_, q2_]; (first | done | rfl))
    | (apply w_condX; · simp only [go_sem, Nat.reduceEqDiff, Nat.reduceAdd, Nat.reduceLeDiff, k5, k7, k10, hM, hget, hal, hTl, hpd, Option.getD_some, Option.getD_none]; (first | done | rfl)); (first | refine wcd_T ?_ | refine wcd_F ?_)
    | refine w_skip ?_ | refine w_exit ?_ | refine w_ret ?_
    | fail
    )
              exact ⟨by first | exact .inr rfl | exact .inr trivial | exact .inl rfl, by simp only [go_sem, Nat.reduceEqDiff, Nat.reduceAdd, Nat.reduceLeDiff, retOf, resOf]; first | done | rfl⟩
          | false =>
            rw [ho] at k7
            cases hb : memB (T.map (·.1)) ⟨#[]⟩ with
            | true =>
              rw [if_pos hb] at hget
              (repeat' first
    | refine w_seq ?_ | refine w_rg ?_ | refine wo_nil ?_ | refine g_skU ?_ | refine g_skT ?_ | refine g_skF ?_
    | ((first | apply s_plain | apply s_void | apply s_guard | apply g_goT | apply g_goF); · simp only [go_sem, Nat.reduceEqDiff, Nat.reduceAdd, Nat.reduceLeDiff, k5, k7, k10, hM, hget, hal, hTl, hpd, hone ho, Option.getD_some, Option.getD_none]; (first | done | rfl))
    | ((first | apply g_T | apply g_F | apply g_gT | apply g_gF); · intro q1_; (first | intro q2_ | have q2_ := q1_); simp only [go_sem, Nat.reduceEqDiff, Nat.reduceAdd, Nat.reduceLeDiff, k5, k7, k10, hM, hget, hal, hTl, hpd, hone ho, Option.getD_some, Option.getD_none, q1_, q2_]; (first | done | rfl))
    | (apply w_condX; · simp only [go_sem, Nat.reduceEqDiff, Nat.reduceAdd, Nat.reduceLeDiff, k5, k7, k10, hM, hget, hal, hTl, hpd, hone ho, Option.getD_some, Option.getD_none]; (first | done | rfl)); (first | refine wcd_T ?_ | refine wcd_F ?_)
    | refine w_skip ?_ | refine w_exit ?_ | refine w_ret ?_
    | fail
    )
              exact ⟨by first | exact .inr rfl | exact .inr trivial | exact .inl rfl, by simp only [go_sem, Nat.reduceEqDiff, Nat.reduceAdd, Nat.reduceLeDiff, retOf, resOf]; first | done | rfl⟩
            | false =>
              rw [hb] at hget
              simp only [Bool.false_eq_true, if_false] at hget
              (repeat' first
    | refine w_seq ?_ | refine w_rg ?_ | refine wo_nil ?_ | refine g_skU ?_ | refine g_skT ?_ | refine g_skF ?_
    | ((first | apply s_plain | apply s_void | apply s_guard | apply g_goT | apply g_goF); · simp only [go_sem, Nat.reduceEqDiff, Nat.reduceAdd, Nat.reduceLeDiff, k5, k7, k10, hM, hget, hal, hTl, hpd, hone ho, Option.getD_some, Option.getD_none]; (first | done | rfl))
    | ((first | apply g_T | apply g_F | apply g_gT | apply g_gF); · intro q1_; (first | intro q2_ | have q2_ := q1_); simp only [go_sem, Nat.reduceEqDiff, Nat.reduceAdd, Nat.reduceLeDiff, k5, k7, k10, hM, hget, hal, hTl, hpd, hone ho, Option.getD_some, Option.getD_none, q1_, q2_]; (first | done | rfl))
    | (apply w_condX; · simp only [go_sem, Nat.reduceEqDiff, Nat.reduceAdd, Nat.reduceLeDiff, k5, k7, k10, hM, hget, hal, hTl, hpd, hone ho, Option.getD_some, Option.getD_none]; (first | done | rfl)); (first | refine wcd_T ?_ | refine wcd_F ?_)
    | refine w_skip ?_ | refine w_exit ?_ | refine w_ret ?_
    | fail
    )
              exact ⟨by first | exact .inr rfl | exact .inr trivial | exact .inl rfl, by simp only [go_sem, Nat.reduceEqDiff, Nat.reduceAdd, Nat.reduceLeDiff, retOf, resOf]; first | done | rfl⟩
end

end
section
section
variable {P : Program}
def fieldsOf (P : Program) (t : TypeId) : List (Nat × TypeId) := match P.underlying t with
  | some (.struct fs) => fs.toList.map fun f => (f.offset, f.type)
  | _ => []
theorem Is.fields {t : TypeId} {ps : List PV} (h : Is P t ps) (ha : isAgg P t = true) : ps.length = P.cellsOf t ∧ ∀ q ∈ fieldsOf P t, Is P q.2 ((ps.drop q.1).take (P.cellsOf q.2)) := by
  unfold isAgg at ha
  split at ha
  · rename_i fs hu
    obtain ⟨h1, h2⟩ := h.st' hu
    refine ⟨h1, fun q hq => ?_⟩
    simp only [fieldsOf, hu, List.mem_map] at hq
    obtain ⟨f, hf, rfl⟩ := hq
    obtain ⟨i, hi⟩ := List.getElem?_of_mem hf
    exact h2 i f (by simpa using hi)
  · cases ha
theorem str_of {t : TypeId} {p : PV} (h : Is P t [p]) (hk : (match P.underlying t with | some .string => true | _ => false) = true) : ∃ s : ByteArray, p = .sc (.string s) ∧ s.size ≤ reachBytes := by
  split at hk
  · rename_i hu
    obtain ⟨s, hs, h2⟩ := h.str' hu
    simp only [List.cons.injEq, and_true] at hs
    exact ⟨s, hs, h2⟩
  · cases hk
end

end
end Go.Proofs.YthkjlpjogojfiaaDoorPv
