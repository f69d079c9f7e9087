/-
Own texts of the proof, merged: part 2.
-/
import Derived.Test.YtdlfomiclkpibaaDoorPkBlockNotesA
namespace Go.Proofs.YtdlfomiclkpibaaDoorPv
open Go
set_option linter.unusedSimpArgs false
set_option linter.unusedVariables false
set_option maxHeartbeats 4000000
attribute [local go_sem ↓] e_mv e_pick e_bin e_eqs e_beq e_un e_cvi e_str e_s2b e_b2s e_box e_build e_bsl e_ld e_st e_nck e_mkf e_slcS e_slcL e_fa e_fld e_ia e_iaa e_ix e_ixa e_ext e_lenS e_lenL e_mnmx e_app e_appb e_bbx e_msl e_clr e_call e_callv pa_t pa_c pa_f slcSP_str hiOf_some hiOf_none loOf_some loOf_none set_eq set_ne
attribute [local go_sem] pv pv1 simple frOf_0 frOf_1 frOf_2 frOf_3 frOf_4 frOf_5 ne_eq not_false_eq_true if_true Bool.false_eq_true if_false pbin punary Option.map_some Option.bind_some pick_and pick_or opt_true Bool.true_and Bool.and_self Bool.and_true Bool.true_or Bool.false_or Bool.not_true Bool.not_false callE pcall_eq List.map_cons List.map_nil List.append_nil List.nil_append List.cons_append mapM_cons' mapM_nil' dep_eq fz_sc fz_sl fz_em fz_fn fz_fp fz_agg fz_tu fz_bx fz_ob Nat.lt_irrefl Nat.zero_lt_one Nat.lt_add_one flat clL cl Bool.or_true okc_sc okc_em okc_sl okc_ob okc_bx okc_fp okc_fn okc_agg okc_ifc cells_agg cells_sc cells_sl cells_em cells_ob cells_fn cells_bx cells_fp List.length_cons List.length_nil Nat.zero_add and_self true_and and_true new_m new_c put_m put_c nil_m nil_c deref List.getElem?_cons_zero List.getElem?_cons_succ List.drop_zero List.drop_succ_cons List.take_succ_cons List.take_zero Nat.le_refl false_and and_false decide_true decide_false lenP_em lenP_nil lenP_sl lenP_ob Int.ofNat_zero
set_option maxRecDepth 8000
/-- transhipment/transhipmentref06.Right -/
def d10 : Def := (.code 1 [.tmp 2] (.seq (.rg false [⟨.some 2, .none, .mv (.c (.bool false))⟩]) (.seq (.seq (.rg false [⟨.some 7, .none, .mv (.t 0)⟩, ⟨.some 8, .none, .lenL (.t 7)⟩, ⟨.some 9, .none, .mv (.c (.int .i64 0))⟩]) (.block 0 (.loop (.seq (.rg false [⟨.some 10, .none, .bin .lss (.t 9) (.t 8)⟩]) (.seq (.cond (.t 10) .skip (.exit 0)) (.seq (.block 1 (.seq (.rg false [⟨.some 11, .none, .ia 3 (.t 7) (.t 9)⟩, ⟨.some 12, .none, .ld (.some 3) (.t 11)⟩, ⟨.some 4, .none, .box (.c (.agg #[.string ⟨#[]⟩, .slice .none 0 0, .slice .none 0 0]))⟩, ⟨.none, .none, .st 3 (.t 4) (.t 12)⟩]) (.seq (.seq (.rg false [⟨.some 13, .none, .fa 0 (.t 4)⟩, ⟨.some 14, .none, .ld .none (.t 13)⟩, ⟨.some 15, .none, .call 30 .pure [.t 14]⟩, ⟨.some 16, .none, .un .not (.t 15)⟩, ⟨.some 17, .none, .mv (.t 16)⟩, ⟨.some 18, .some (17, false), .fa 1 (.t 4)⟩, ⟨.some 19, .some (17, false), .ld .none (.t 18)⟩, ⟨.some 20, .some (17, false), .lenL (.t 19)⟩, ⟨.some 21, .some (17, false), .bin .gtr (.t 20) (.c (.int .i64 64))⟩, ⟨.some 22, .none, .pick (.t 17) (.c (.bool true)) (.t 21)⟩, ⟨.some 23, .none, .mv (.t 22)⟩, ⟨.some 24, .some (23, false), .fa 1 (.t 4)⟩, ⟨.some 25, .some (23, false), .ld .none (.t 24)⟩, ⟨.some 26, .some (23, false), .lenL (.t 25)⟩, ⟨.some 27, .some (23, false), .fa 2 (.t 4)⟩, ⟨.some 28, .some (23, false), .ld .none (.t 27)⟩, ⟨.some 29, .some (23, false), .lenL (.t 28)⟩, ⟨.some 30, .some (23, false), .bin .neq (.t 26) (.t 29)⟩, ⟨.some 31, .none, .pick (.t 23) (.c (.bool true)) (.t 30)⟩]) (.cond (.t 31) (.seq (.rg false [⟨.some 2, .none, .mv (.c (.bool false))⟩]) .ret) .skip)) (.seq (.rg false [⟨.some 32, .none, .fa 1 (.t 4)⟩, ⟨.some 33, .none, .ld .none (.t 32)⟩, ⟨.some 34, .none, .lenL (.t 33)⟩, ⟨.some 35, .none, .mv (.c (.int .i64 0))⟩]) (.block 2 (.loop (.seq (.rg false [⟨.some 36, .none, .bin .lss (.t 35) (.t 34)⟩]) (.seq (.cond (.t 36) .skip (.exit 2)) (.seq (.block 3 (.seq (.rg false [⟨.some 37, .none, .mv (.t 35)⟩, ⟨.some 38, .none, .ia 1 (.t 33) (.t 35)⟩, ⟨.some 39, .none, .ld .none (.t 38)⟩, ⟨.some 5, .none, .mv (.t 37)⟩, ⟨.some 6, .none, .mv (.t 39)⟩]) (.seq (.rg false [⟨.some 40, .none, .mv (.t 6)⟩, ⟨.some 41, .none, .call 30 .pure [.t 40]⟩, ⟨.some 42, .none, .un .not (.t 41)⟩, ⟨.some 43, .none, .mv (.t 42)⟩, ⟨.some 44, .some (43, false), .fa 1 (.t 4)⟩, ⟨.some 45, .some (43, false), .ld .none (.t 44)⟩, ⟨.some 46, .some (43, false), .mv (.t 5)⟩, ⟨.some 47, .some (43, false), .slcL 1 (.t 45) .none (.some (.t 46))⟩, ⟨.some 48, .some (43, false), .mv (.t 6)⟩, ⟨.some 49, .some (43, false), .call 31 .pure [.t 47, .t 48]⟩, ⟨.some 50, .none, .pick (.t 43) (.c (.bool true)) (.t 49)⟩, ⟨.some 51, .none, .mv (.t 50)⟩, ⟨.some 52, .some (51, false), .fa 2 (.t 4)⟩, ⟨.some 53, .some (51, false), .ld .none (.t 52)⟩, ⟨.some 54, .some (51, false), .mv (.t 5)⟩, ⟨.some 55, .some (51, false), .ia 1 (.t 53) (.t 54)⟩, ⟨.some 56, .some (51, false), .ld .none (.t 55)⟩, ⟨.some 57, .some (51, false), .call 32 .pure [.t 56]⟩, ⟨.some 58, .some (51, false), .un .not (.t 57)⟩, ⟨.some 59, .none, .pick (.t 51) (.c (.bool true)) (.t 58)⟩]) (.cond (.t 59) (.seq (.rg false [⟨.some 2, .none, .mv (.c (.bool false))⟩]) .ret) .skip)))) (.rg false [⟨.some 60, .none, .bin .add (.t 35) (.c (.int .i64 1))⟩, ⟨.some 35, .none, .mv (.t 60)⟩])))))))))) (.rg false [⟨.some 61, .none, .bin .add (.t 9) (.c (.int .i64 1))⟩, ⟨.some 9, .none, .mv (.t 61)⟩]))))))) (.seq (.rg false [⟨.some 62, .none, .mv (.t 0)⟩, ⟨.some 63, .none, .lenL (.t 62)⟩, ⟨.some 64, .none, .bin .leq (.t 63) (.c (.int .i64 64))⟩, ⟨.some 2, .none, .mv (.t 64)⟩]) .ret))))
def ldh : List (Nat × Def) := [(10, d10)]
section
variable {env : Nat → Option Def} {fr : Fr} {σ σ' σ'' : St} {K : Fr → St → Prop} {Q : X → Fr → St → Prop} {p : PV} {bs : List UInt8}
def keyR (d : Df) (i : Nat) : Bool := wordD (d.ks.getD i []) && !(d.ks.take i).contains (d.ks.getD i []) && valD (d.vs.getD i [])
def mayR (d : Df) : Bool := wordD d.ty && decide (d.ks.length ≤ 64) && decide (d.ks.length = d.vs.length) && (List.range d.ks.length).all (keyR d)
theorem mayR_mayD (d : Df) : mayR d = mayD d := by
  unfold mayR mayD keysOk
  by_cases h : d.ks.length = d.vs.length
  · have hv : d.vs.all valD = (List.range d.ks.length).all fun i => valD (d.vs.getD i []) := by
      rw [Bool.eq_iff_iff, List.all_eq_true, List.all_eq_true]
      constructor
      · intro hh i hi
        have hi2 : i < d.vs.length := by rw [← h]; exact List.mem_range.1 hi
        rw [List.getD_eq_getElem?_getD, List.getElem?_eq_getElem hi2]
        exact hh _ (List.getElem_mem hi2)
      · intro hh v hv
        obtain ⟨i, hi, rfl⟩ := List.getElem_of_mem hv
        have := hh i (List.mem_range.2 (by omega))
        rwa [List.getD_eq_getElem?_getD, List.getElem?_eq_getElem hi] at this
    have ha : (List.range d.ks.length).all (keyR d) = ((List.range d.ks.length).all (fun i => wordD (d.ks.getD i []) && !(d.ks.take i).contains (d.ks.getD i [])) && d.vs.all valD) := by
      rw [hv, Bool.eq_iff_iff]
      simp only [keyR, List.all_eq_true, Bool.and_eq_true]
      exact ⟨fun hh => ⟨fun i hi => (hh i hi).1, fun i hi => (hh i hi).2⟩, fun hh i hi => ⟨hh.1 i hi, hh.2 i hi⟩⟩
    rw [ha]
    generalize (List.range d.ks.length).all (fun i => wordD (d.ks.getD i []) && !(d.ks.take i).contains (d.ks.getD i [])) = x1
    generalize wordD d.ty = x2
    generalize decide (d.ks.length ≤ 64) = x3
    generalize decide (d.ks.length = d.vs.length) = x4
    generalize d.vs.all valD = x5
    cases x1 <;> cases x2 <;> cases x3 <;> cases x4 <;> cases x5 <;> rfl
  · simp [h]
theorem a10 (L : Has lle env) (F : Has ldf env) (H : Has ldh env) {l : List Df} (hl : Sms l) : AV env 10 [.sl (dfs l)] = some (.sc (.bool (rightD l))) := by
  have hln := dfs_len l
  refine AV_wp (H (10, d10) (by simp [ldh])) rfl ?_
  (repeat' first
    | refine w_seq ?_ | refine w_rg ?_ | refine wo_nil ?_ | refine g_skU ?_
    | ((first | apply s_plain | apply s_void | apply s_guard); · simp only [go_sem, Nat.reduceEqDiff, Nat.reduceAdd, Nat.reduceLeDiff, hln]; (first | done | rfl))
    | ((first | apply g_T | apply g_F); · intro hb; simp only [go_sem, Nat.reduceEqDiff, Nat.reduceAdd, Nat.reduceLeDiff, hln, hb]; (first | done | rfl))
    | ((first | apply g_gT | apply g_gF); · intro hb hc; simp only [go_sem, Nat.reduceEqDiff, Nat.reduceAdd, Nat.reduceLeDiff, hln, hb, hc]; (first | done | rfl))
    | refine g_skT ?_ | refine g_skF ?_
    | ((first | apply g_goT | apply g_goF); · simp only [go_sem, Nat.reduceEqDiff, Nat.reduceAdd, Nat.reduceLeDiff, hln]; (first | done | rfl))
    | fail
    )
  refine w_block (w_rangeF l.length (by have := hl.1; omega) (fun i fr σ => ∀ j, j < i → mayD (l.getD j ⟨[], [], []⟩) = true) ⟨by decide, rfl, rfl⟩ (fun _ _ _ _ h => ⟨h, h, h⟩) (fun j hj => by omega) (by simp only [go_sem, Nat.reduceEqDiff, Nat.reduceAdd, Nat.reduceLeDiff]; first | done | rfl) (by simp only [go_sem, Nat.reduceEqDiff, Nat.reduceAdd, Nat.reduceLeDiff, hln]; first | done | rfl) ?_ ?_)
  · rintro i fr1 σ1 hi h3 hti hfr
    have f0_7 := hfr 7 rfl; have f0_8 := hfr 8 rfl; try (simp only [go_sem, Nat.reduceEqDiff, Nat.reduceAdd, Nat.reduceLeDiff] at f0_7); try (simp only [go_sem, Nat.reduceEqDiff, Nat.reduceAdd, Nat.reduceLeDiff] at f0_8)
    have hqd := List.getElem?_eq_getElem hi
    have hx := dfs_at hqd
    have sm := hl.2 _ (List.getElem_mem hi)
    have e1 : (0 : Int) ≤ (i : Int) ∧ (i : Int) < (l.length : Int) := by omega
    have hgd : l.getD i ⟨[], [], []⟩ = l[i] := by rw [List.getD_eq_getElem?_getD, hqd]; rfl
    have hany : mayD l[i] = false → l.all mayD = false := fun h => by rw [List.all_eq_false]; exact ⟨l[i], List.getElem_mem hi, by simp [h]⟩
    rw [← hgd] at hany
    generalize hd : l[i] = d at sm hx hgd
    rw [hgd] at hany
    have hll := txts_len d.ks
    have hlv := txts_len d.vs
    have hty := a30t L sm.ty
    unfold df at hx
    refine w_block ?_
    (repeat' first
    | refine w_seq ?_ | refine w_rg ?_ | refine wo_nil ?_ | refine g_skU ?_
    | ((first | apply s_plain | apply s_void | apply s_guard); · simp only [go_sem, Nat.reduceEqDiff, Nat.reduceAdd, Nat.reduceLeDiff, f0_7, f0_8, hti, e1, hln, Int.toNat_natCast, hx, hll, hlv, hty]; (first | done | rfl))
    | ((first | apply g_T | apply g_F); · intro hb; simp only [go_sem, Nat.reduceEqDiff, Nat.reduceAdd, Nat.reduceLeDiff, f0_7, f0_8, hti, e1, hln, Int.toNat_natCast, hx, hll, hlv, hty, hb]; (first | done | rfl))
    | ((first | apply g_gT | apply g_gF); · intro hb hc; simp only [go_sem, Nat.reduceEqDiff, Nat.reduceAdd, Nat.reduceLeDiff, f0_7, f0_8, hti, e1, hln, Int.toNat_natCast, hx, hll, hlv, hty, hb, hc]; (first | done | rfl))
    | refine g_skT ?_ | refine g_skF ?_
    | ((first | apply g_goT | apply g_goF); · simp only [go_sem, Nat.reduceEqDiff, Nat.reduceAdd, Nat.reduceLeDiff, f0_7, f0_8, hti, e1, hln, Int.toNat_natCast, hx, hll, hlv, hty]; (first | done | rfl))
    | fail
    )
    have hbad : (((!wordD d.ty) || decide ((d.ks.length : Int) > 64)) || ((d.ks.length : Int) != (d.vs.length : Int))) = !(wordD d.ty && decide (d.ks.length ≤ 64) && decide (d.ks.length = d.vs.length)) := by
      have q1 : decide ((d.ks.length : Int) > 64) = !decide (d.ks.length ≤ 64) := by rw [Bool.eq_iff_iff]; simp; omega
      have q2 : ((d.ks.length : Int) != (d.vs.length : Int)) = !decide (d.ks.length = d.vs.length) := by rw [Bool.eq_iff_iff]; simp [Int.natCast_inj]
      rw [q1, q2]
      cases wordD d.ty <;> cases decide (d.ks.length ≤ 64) <;> cases decide (d.ks.length = d.vs.length) <;> rfl
    cases hpi : (wordD d.ty && decide (d.ks.length ≤ 64) && decide (d.ks.length = d.vs.length)) with
    | false =>
      rw [hpi] at hbad
      (repeat' first
    | refine w_seq ?_ | refine w_rg ?_ | refine wo_nil ?_ | refine g_skU ?_
    | ((first | apply s_plain | apply s_void | apply s_guard); · simp only [go_sem, Nat.reduceEqDiff, Nat.reduceAdd, Nat.reduceLeDiff, hbad, Bool.not_false]; (first | done | rfl))
    | ((first | apply g_T | apply g_F); · intro hb; simp only [go_sem, Nat.reduceEqDiff, Nat.reduceAdd, Nat.reduceLeDiff, hbad, Bool.not_false, hb]; (first | done | rfl))
    | ((first | apply g_gT | apply g_gF); · intro hb hc; simp only [go_sem, Nat.reduceEqDiff, Nat.reduceAdd, Nat.reduceLeDiff, hbad, Bool.not_false, hb, hc]; (first | done | rfl))
    | refine g_skT ?_ | refine g_skF ?_
    | ((first | apply g_goT | apply g_goF); · simp only [go_sem, Nat.reduceEqDiff, Nat.reduceAdd, Nat.reduceLeDiff, hbad, Bool.not_false]; (first | done | rfl))
    | (refine w_condT ?_ ?_; · simp only [go_sem, Nat.reduceEqDiff, Nat.reduceAdd, Nat.reduceLeDiff, hbad, Bool.not_false]; (first | done | rfl))
    | (refine w_condF ?_ ?_; · simp only [go_sem, Nat.reduceEqDiff, Nat.reduceAdd, Nat.reduceLeDiff, hbad, Bool.not_false]; (first | done | rfl))
    | refine w_skip ?_ | refine w_exit ?_ | refine w_ret ?_
    | fail
    )
      have hm : mayD d = false := by rw [← mayR_mayD]; unfold mayR; rw [hpi, Bool.false_and]
      exact ⟨by first | exact .inr rfl | exact .inr trivial | exact .inl rfl, by simp only [go_sem, Nat.reduceEqDiff, Nat.reduceAdd, Nat.reduceLeDiff, retOf, resOf, rightD, hany hm, Bool.and_false]; first | done | rfl⟩
    | true =>
      rw [hpi] at hbad
      (repeat' first
    | refine w_seq ?_ | refine w_rg ?_ | refine wo_nil ?_ | refine g_skU ?_
    | ((first | apply s_plain | apply s_void | apply s_guard); · simp only [go_sem, Nat.reduceEqDiff, Nat.reduceAdd, Nat.reduceLeDiff, hbad, Bool.not_true]; (first | done | rfl))
    | ((first | apply g_T | apply g_F); · intro hb; simp only [go_sem, Nat.reduceEqDiff, Nat.reduceAdd, Nat.reduceLeDiff, hbad, Bool.not_true, hb]; (first | done | rfl))
    | ((first | apply g_gT | apply g_gF); · intro hb hc; simp only [go_sem, Nat.reduceEqDiff, Nat.reduceAdd, Nat.reduceLeDiff, hbad, Bool.not_true, hb, hc]; (first | done | rfl))
    | refine g_skT ?_ | refine g_skF ?_
    | ((first | apply g_goT | apply g_goF); · simp only [go_sem, Nat.reduceEqDiff, Nat.reduceAdd, Nat.reduceLeDiff, hbad, Bool.not_true]; (first | done | rfl))
    | (refine w_condT ?_ ?_; · simp only [go_sem, Nat.reduceEqDiff, Nat.reduceAdd, Nat.reduceLeDiff, hbad, Bool.not_true]; (first | done | rfl))
    | (refine w_condF ?_ ?_; · simp only [go_sem, Nat.reduceEqDiff, Nat.reduceAdd, Nat.reduceLeDiff, hbad, Bool.not_true]; (first | done | rfl))
    | refine w_skip ?_ | refine w_exit ?_ | refine w_ret ?_
    | fail
    )
      (repeat' first
    | refine w_seq ?_ | refine w_rg ?_ | refine wo_nil ?_ | refine g_skU ?_
    | ((first | apply s_plain | apply s_void | apply s_guard); · simp only [go_sem, Nat.reduceEqDiff, Nat.reduceAdd, Nat.reduceLeDiff, hll]; (first | done | rfl))
    | ((first | apply g_T | apply g_F); · intro hb; simp only [go_sem, Nat.reduceEqDiff, Nat.reduceAdd, Nat.reduceLeDiff, hll, hb]; (first | done | rfl))
    | ((first | apply g_gT | apply g_gF); · intro hb hc; simp only [go_sem, Nat.reduceEqDiff, Nat.reduceAdd, Nat.reduceLeDiff, hll, hb, hc]; (first | done | rfl))
    | refine g_skT ?_ | refine g_skF ?_
    | ((first | apply g_goT | apply g_goF); · simp only [go_sem, Nat.reduceEqDiff, Nat.reduceAdd, Nat.reduceLeDiff, hll]; (first | done | rfl))
    | fail
    )
      have hle : d.ks.length ≤ 64 ∧ d.ks.length = d.vs.length := by
        simp only [Bool.and_eq_true, decide_eq_true_eq] at hpi
        exact ⟨hpi.1.2, hpi.2⟩
      refine w_block (w_rangeF d.ks.length (by omega) (fun i fr σ => (∀ j, j < i → keyR d j = true) ∧ σ.m 2000004 (σ1.c 2000004) = some ⟨3, [df d], true, true⟩) ⟨by decide, rfl, rfl⟩ (fun _ _ _ _ h => ⟨h, h, h⟩) ⟨fun j hj => by omega, by simp only [go_sem, Nat.reduceEqDiff, Nat.reduceAdd, Nat.reduceLeDiff]; rfl⟩ (by simp only [go_sem, Nat.reduceEqDiff, Nat.reduceAdd, Nat.reduceLeDiff]; first | done | rfl) (by simp only [go_sem, Nat.reduceEqDiff, Nat.reduceAdd, Nat.reduceLeDiff, hll]; first | done | rfl) ?_ ?_)
      · rintro j fr2 σ2 hj ⟨g3, hm⟩ gti hfr
        have e1_0 := hfr 0 rfl; have e1_4 := hfr 4 rfl; have e1_7 := hfr 7 rfl; have e1_8 := hfr 8 rfl; have e1_9 := hfr 9 rfl; have e1_10 := hfr 10 rfl; have e1_11 := hfr 11 rfl; have e1_12 := hfr 12 rfl; have e1_13 := hfr 13 rfl; have e1_14 := hfr 14 rfl; have e1_15 := hfr 15 rfl; have e1_16 := hfr 16 rfl; have e1_17 := hfr 17 rfl; have e1_18 := hfr 18 rfl; have e1_19 := hfr 19 rfl; have e1_20 := hfr 20 rfl; have e1_21 := hfr 21 rfl; have e1_22 := hfr 22 rfl; have e1_23 := hfr 23 rfl; have e1_24 := hfr 24 rfl; have e1_25 := hfr 25 rfl; have e1_26 := hfr 26 rfl; have e1_27 := hfr 27 rfl; have e1_28 := hfr 28 rfl; have e1_29 := hfr 29 rfl; have e1_30 := hfr 30 rfl; have e1_31 := hfr 31 rfl; have e1_32 := hfr 32 rfl; have e1_33 := hfr 33 rfl; have e1_34 := hfr 34 rfl; try (simp only [go_sem, Nat.reduceEqDiff, Nat.reduceAdd, Nat.reduceLeDiff] at e1_0); try (simp only [go_sem, Nat.reduceEqDiff, Nat.reduceAdd, Nat.reduceLeDiff] at e1_4); try (simp only [go_sem, Nat.reduceEqDiff, Nat.reduceAdd, Nat.reduceLeDiff] at e1_7); try (simp only [go_sem, Nat.reduceEqDiff, Nat.reduceAdd, Nat.reduceLeDiff] at e1_8); try (simp only [go_sem, Nat.reduceEqDiff, Nat.reduceAdd, Nat.reduceLeDiff] at e1_9); try (simp only [go_sem, Nat.reduceEqDiff, Nat.reduceAdd, Nat.reduceLeDiff] at e1_10); try (simp only [go_sem, Nat.reduceEqDiff, Nat.reduceAdd, Nat.reduceLeDiff] at e1_11); try (simp only [go_sem, Nat.reduceEqDiff, Nat.reduceAdd, Nat.reduceLeDiff] at e1_12); try (simp only [go_sem, Nat.reduceEqDiff, Nat.reduceAdd, Nat.reduceLeDiff] at e1_13); try (simp only [go_sem, Nat.reduceEqDiff, Nat.reduceAdd, Nat.reduceLeDiff] at e1_14); try (simp only [go_sem, Nat.reduceEqDiff, Nat.reduceAdd, Nat.reduceLeDiff] at e1_15); try (simp only [go_sem, Nat.reduceEqDiff, Nat.reduceAdd, Nat.reduceLeDiff] at e1_16); try (simp only [go_sem, Nat.reduceEqDiff, Nat.reduceAdd, Nat.reduceLeDiff] at e1_17); try (simp only [go_sem, Nat.reduceEqDiff, Nat.reduceAdd, Nat.reduceLeDiff] at e1_18); try (simp only [go_sem, Nat.reduceEqDiff, Nat.reduceAdd, Nat.reduceLeDiff] at e1_19); try (simp only [go_sem, Nat.reduceEqDiff, Nat.reduceAdd, Nat.reduceLeDiff] at e1_20); try (simp only [go_sem, Nat.reduceEqDiff, Nat.reduceAdd, Nat.reduceLeDiff] at e1_21); try (simp only [go_sem, Nat.reduceEqDiff, Nat.reduceAdd, Nat.reduceLeDiff] at e1_22); try (simp only [go_sem, Nat.reduceEqDiff, Nat.reduceAdd, Nat.reduceLeDiff] at e1_23); try (simp only [go_sem, Nat.reduceEqDiff, Nat.reduceAdd, Nat.reduceLeDiff] at e1_24); try (simp only [go_sem, Nat.reduceEqDiff, Nat.reduceAdd, Nat.reduceLeDiff] at e1_25); try (simp only [go_sem, Nat.reduceEqDiff, Nat.reduceAdd, Nat.reduceLeDiff] at e1_26); try (simp only [go_sem, Nat.reduceEqDiff, Nat.reduceAdd, Nat.reduceLeDiff] at e1_27); try (simp only [go_sem, Nat.reduceEqDiff, Nat.reduceAdd, Nat.reduceLeDiff] at e1_28); try (simp only [go_sem, Nat.reduceEqDiff, Nat.reduceAdd, Nat.reduceLeDiff] at e1_29); try (simp only [go_sem, Nat.reduceEqDiff, Nat.reduceAdd, Nat.reduceLeDiff] at e1_30); try (simp only [go_sem, Nat.reduceEqDiff, Nat.reduceAdd, Nat.reduceLeDiff] at e1_31); try (simp only [go_sem, Nat.reduceEqDiff, Nat.reduceAdd, Nat.reduceLeDiff] at e1_32); try (simp only [go_sem, Nat.reduceEqDiff, Nat.reduceAdd, Nat.reduceLeDiff] at e1_33); try (simp only [go_sem, Nat.reduceEqDiff, Nat.reduceAdd, Nat.reduceLeDiff] at e1_34)
        have z4 : fr2 4 = .bx 2000004 (σ1.c 2000004) 3 0 0 := by rw [hfr 4 rfl]; simp only [go_sem, Nat.reduceEqDiff, Nat.reduceAdd, Nat.reduceLeDiff]
        have hjv : j < d.vs.length := by omega
        have hqk := List.getElem?_eq_getElem hj
        have hqv := List.getElem?_eq_getElem hjv
        have hxk := txts_at hqk
        have hxv := txts_at hqv
        have f1 : (0 : Int) ≤ (j : Int) ∧ (j : Int) < (d.ks.length : Int) := by omega
        have f2 : (0 : Int) ≤ (j : Int) ∧ (j : Int) < (d.vs.length : Int) := by omega
        have b1 : (0 : Int) ≤ (j : Int) ∧ (j : Int) ≤ (d.ks.length : Int) := by omega
        have hw := a30t L (sm.ks.2 _ (List.getElem_mem hj))
        have hc := a31 F (l := d.ks.take j) (by rw [List.length_take]; omega) d.ks[j]
        have hv := a32 F (sm.vs.2 _ (List.getElem_mem hjv))
        have htk : (txts d.ks).take j = txts (d.ks.take j) := by simp [txts]
        have hall := txts_all d.ks
        have gk : d.ks.getD j [] = d.ks[j] := by rw [List.getD_eq_getElem?_getD, hqk]; rfl
        have gv : d.vs.getD j [] = d.vs[j] := by rw [List.getD_eq_getElem?_getD, hqv]; rfl
        refine w_block ?_
        unfold df at hm
        (repeat' first
    | refine w_seq ?_ | refine w_rg ?_ | refine wo_nil ?_ | refine g_skU ?_
    | ((first | apply s_plain | apply s_void | apply s_guard); · simp only [go_sem, Nat.reduceEqDiff, Nat.reduceAdd, Nat.reduceLeDiff, e1_0, e1_4, e1_7, e1_8, e1_9, e1_10, e1_11, e1_12, e1_13, e1_14, e1_15, e1_16, e1_17, e1_18, e1_19, e1_20, e1_21, e1_22, e1_23, e1_24, e1_25, e1_26, e1_27, e1_28, e1_29, e1_30, e1_31, e1_32, e1_33, e1_34, z4, gti, f1, hll, Int.toNat_natCast, hxk, hw, hm]; (first | done | rfl))
    | ((first | apply g_T | apply g_F); · intro hb; simp only [go_sem, Nat.reduceEqDiff, Nat.reduceAdd, Nat.reduceLeDiff, e1_0, e1_4, e1_7, e1_8, e1_9, e1_10, e1_11, e1_12, e1_13, e1_14, e1_15, e1_16, e1_17, e1_18, e1_19, e1_20, e1_21, e1_22, e1_23, e1_24, e1_25, e1_26, e1_27, e1_28, e1_29, e1_30, e1_31, e1_32, e1_33, e1_34, z4, gti, f1, hll, Int.toNat_natCast, hxk, hw, hm, hb]; (first | done | rfl))
    | ((first | apply g_gT | apply g_gF); · intro hb hc; simp only [go_sem, Nat.reduceEqDiff, Nat.reduceAdd, Nat.reduceLeDiff, e1_0, e1_4, e1_7, e1_8, e1_9, e1_10, e1_11, e1_12, e1_13, e1_14, e1_15, e1_16, e1_17, e1_18, e1_19, e1_20, e1_21, e1_22, e1_23, e1_24, e1_25, e1_26, e1_27, e1_28, e1_29, e1_30, e1_31, e1_32, e1_33, e1_34, z4, gti, f1, hll, Int.toNat_natCast, hxk, hw, hm, hb, hc]; (first | done | rfl))
    | refine g_skT ?_ | refine g_skF ?_
    | ((first | apply g_goT | apply g_goF); · simp only [go_sem, Nat.reduceEqDiff, Nat.reduceAdd, Nat.reduceLeDiff, e1_0, e1_4, e1_7, e1_8, e1_9, e1_10, e1_11, e1_12, e1_13, e1_14, e1_15, e1_16, e1_17, e1_18, e1_19, e1_20, e1_21, e1_22, e1_23, e1_24, e1_25, e1_26, e1_27, e1_28, e1_29, e1_30, e1_31, e1_32, e1_33, e1_34, z4, gti, f1, hll, Int.toNat_natCast, hxk, hw, hm]; (first | done | rfl))
    | fail
    )
        refine g_F (v := .sl (txts (d.ks.take j))) (by
          intro hb
          simp only [go_sem, Nat.reduceEqDiff, Nat.reduceAdd, Nat.reduceLeDiff, hb, slcLP_sl, hall, hll, bound, b1, Int.toNat_natCast, htk, Bool.not_false]) ?_
        (repeat' first
    | refine w_seq ?_ | refine w_rg ?_ | refine wo_nil ?_ | refine g_skU ?_
    | ((first | apply s_plain | apply s_void | apply s_guard); · simp only [go_sem, Nat.reduceEqDiff, Nat.reduceAdd, Nat.reduceLeDiff, hc, z4, hm, f2, hlv, hxv, hv, Int.toNat_natCast]; (first | done | rfl))
    | ((first | apply g_T | apply g_F); · intro hb; simp only [go_sem, Nat.reduceEqDiff, Nat.reduceAdd, Nat.reduceLeDiff, hc, z4, hm, f2, hlv, hxv, hv, Int.toNat_natCast, hb]; (first | done | rfl))
    | ((first | apply g_gT | apply g_gF); · intro hb hc; simp only [go_sem, Nat.reduceEqDiff, Nat.reduceAdd, Nat.reduceLeDiff, hc, z4, hm, f2, hlv, hxv, hv, Int.toNat_natCast, hb, hc]; (first | done | rfl))
    | refine g_skT ?_ | refine g_skF ?_
    | ((first | apply g_goT | apply g_goF); · simp only [go_sem, Nat.reduceEqDiff, Nat.reduceAdd, Nat.reduceLeDiff, hc, z4, hm, f2, hlv, hxv, hv, Int.toNat_natCast]; (first | done | rfl))
    | fail
    )
        have hk : (((!wordD d.ks[j]) || (d.ks.take j).contains d.ks[j]) || !valD d.vs[j]) = !keyR d j := by
          unfold keyR
          rw [gk, gv]
          cases wordD d.ks[j] <;> cases (d.ks.take j).contains d.ks[j] <;> cases valD d.vs[j] <;> rfl
        cases hkj : keyR d j with
        | false =>
          rw [hkj] at hk
          (repeat' first
    | refine w_seq ?_ | refine w_rg ?_ | refine wo_nil ?_ | refine g_skU ?_
    | ((first | apply s_plain | apply s_void | apply s_guard); · simp only [go_sem, Nat.reduceEqDiff, Nat.reduceAdd, Nat.reduceLeDiff, hk, Bool.not_false]; (first | done | rfl))
    | ((first | apply g_T | apply g_F); · intro hb; simp only [go_sem, Nat.reduceEqDiff, Nat.reduceAdd, Nat.reduceLeDiff, hk, Bool.not_false, hb]; (first | done | rfl))
    | ((first | apply g_gT | apply g_gF); · intro hb hc; simp only [go_sem, Nat.reduceEqDiff, Nat.reduceAdd, Nat.reduceLeDiff, hk, Bool.not_false, hb, hc]; (first | done | rfl))
    | refine g_skT ?_ | refine g_skF ?_
    | ((first | apply g_goT | apply g_goF); · simp only [go_sem, Nat.reduceEqDiff, Nat.reduceAdd, Nat.reduceLeDiff, hk, Bool.not_false]; (first | done | rfl))
    | (refine w_condT ?_ ?_; · simp only [go_sem, Nat.reduceEqDiff, Nat.reduceAdd, Nat.reduceLeDiff, hk, Bool.not_false]; (first | done | rfl))
    | (refine w_condF ?_ ?_; · simp only [go_sem, Nat.reduceEqDiff, Nat.reduceAdd, Nat.reduceLeDiff, hk, Bool.not_false]; (first | done | rfl))
    | refine w_skip ?_ | refine w_exit ?_ | refine w_ret ?_
    | fail
    )
          have hm2 : mayD d = false := by rw [← mayR_mayD]; unfold mayR; rw [all_hit hj hkj, Bool.and_false]
          exact ⟨by first | exact .inr rfl | exact .inr trivial | exact .inl rfl, by simp only [go_sem, Nat.reduceEqDiff, Nat.reduceAdd, Nat.reduceLeDiff, retOf, resOf, rightD, hany hm2, Bool.and_false]; first | done | rfl⟩
        | true =>
          rw [hkj] at hk
          (repeat' first
    | refine w_seq ?_ | refine w_rg ?_ | refine wo_nil ?_ | refine g_skU ?_
    | ((first | apply s_plain | apply s_void | apply s_guard); · simp only [go_sem, Nat.reduceEqDiff, Nat.reduceAdd, Nat.reduceLeDiff, hk, Bool.not_true]; (first | done | rfl))
    | ((first | apply g_T | apply g_F); · intro hb; simp only [go_sem, Nat.reduceEqDiff, Nat.reduceAdd, Nat.reduceLeDiff, hk, Bool.not_true, hb]; (first | done | rfl))
    | ((first | apply g_gT | apply g_gF); · intro hb hc; simp only [go_sem, Nat.reduceEqDiff, Nat.reduceAdd, Nat.reduceLeDiff, hk, Bool.not_true, hb, hc]; (first | done | rfl))
    | refine g_skT ?_ | refine g_skF ?_
    | ((first | apply g_goT | apply g_goF); · simp only [go_sem, Nat.reduceEqDiff, Nat.reduceAdd, Nat.reduceLeDiff, hk, Bool.not_true]; (first | done | rfl))
    | (refine w_condT ?_ ?_; · simp only [go_sem, Nat.reduceEqDiff, Nat.reduceAdd, Nat.reduceLeDiff, hk, Bool.not_true]; (first | done | rfl))
    | (refine w_condF ?_ ?_; · simp only [go_sem, Nat.reduceEqDiff, Nat.reduceAdd, Nat.reduceLeDiff, hk, Bool.not_true]; (first | done | rfl))
    | refine w_skip ?_ | refine w_exit ?_ | refine w_ret ?_
    | fail
    )
          refine ⟨fun k hk2 => ?_, by simp only [go_sem, Nat.reduceEqDiff, Nat.reduceAdd, Nat.reduceLeDiff, hm, df]⟩
          by_cases hkk : k = j
          · rw [hkk]; exact hkj
          · exact g3 k (by omega)
      · rintro fr2 σ2 ⟨g3, hm⟩ hfr
        try simp only [if_true]
        intro j hj
        by_cases hji : j = i
        · rw [hji, hgd, ← mayR_mayD]
          unfold mayR
          rw [hpi, all_all g3]; rfl
        · exact h3 j (by omega)
  · rintro fr1 σ1 h3 hfr
    have e0_0 := hfr 0 rfl; try (simp only [go_sem, Nat.reduceEqDiff, Nat.reduceAdd, Nat.reduceLeDiff] at e0_0)
    try simp only [if_true]
    (repeat' first
    | refine w_seq ?_ | refine w_rg ?_ | refine wo_nil ?_ | refine g_skU ?_
    | ((first | apply s_plain | apply s_void | apply s_guard); · simp only [go_sem, Nat.reduceEqDiff, Nat.reduceAdd, Nat.reduceLeDiff, e0_0, hln]; (first | done | rfl))
    | ((first | apply g_T | apply g_F); · intro hb; simp only [go_sem, Nat.reduceEqDiff, Nat.reduceAdd, Nat.reduceLeDiff, e0_0, hln, hb]; (first | done | rfl))
    | ((first | apply g_gT | apply g_gF); · intro hb hc; simp only [go_sem, Nat.reduceEqDiff, Nat.reduceAdd, Nat.reduceLeDiff, e0_0, hln, hb, hc]; (first | done | rfl))
    | refine g_skT ?_ | refine g_skF ?_
    | ((first | apply g_goT | apply g_goF); · simp only [go_sem, Nat.reduceEqDiff, Nat.reduceAdd, Nat.reduceLeDiff, e0_0, hln]; (first | done | rfl))
    | (refine w_condT ?_ ?_; · simp only [go_sem, Nat.reduceEqDiff, Nat.reduceAdd, Nat.reduceLeDiff, e0_0, hln]; (first | done | rfl))
    | (refine w_condF ?_ ?_; · simp only [go_sem, Nat.reduceEqDiff, Nat.reduceAdd, Nat.reduceLeDiff, e0_0, hln]; (first | done | rfl))
    | refine w_skip ?_ | refine w_exit ?_ | refine w_ret ?_
    | fail
    )
    have ha : l.all mayD = true := by
      rw [List.all_eq_true]
      intro x hx
      obtain ⟨i, hi, rfl⟩ := List.getElem_of_mem hx
      have := h3 i hi
      rwa [List.getD_eq_getElem?_getD, List.getElem?_eq_getElem hi] at this
    have e : decide ((l.length : Int) ≤ 64) = rightD l := by
      unfold rightD
      rw [ha, Bool.and_true, Bool.eq_iff_iff]; simp; omega
    exact ⟨by first | exact .inr rfl | exact .inr trivial | exact .inl rfl, by simp only [go_sem, Nat.reduceEqDiff, Nat.reduceAdd, Nat.reduceLeDiff, retOf, resOf, e]; first | done | rfl⟩
end
end Go.Proofs.YtdlfomiclkpibaaDoorPv
namespace Go.Proofs.YtdlfomiclkpibaaDoorPv
open Go
set_option linter.unusedSimpArgs false
set_option linter.unusedVariables false
set_option maxHeartbeats 4000000
attribute [local go_sem ↓] e_mv e_pick e_bin e_eqs e_beq e_un e_cvi e_str e_s2b e_b2s e_box e_build e_bsl e_ld e_st e_nck e_mkf e_slcS e_slcL e_fa e_fld e_ia e_iaa e_ix e_ixa e_ext e_lenS e_lenL e_mnmx e_app e_appb e_bbx e_msl e_clr e_call e_callv pa_t pa_c pa_f slcSP_str hiOf_some hiOf_none loOf_some loOf_none set_eq set_ne
attribute [local go_sem] pv pv1 simple frOf_0 frOf_1 frOf_2 frOf_3 frOf_4 frOf_5 ne_eq not_false_eq_true if_true Bool.false_eq_true if_false pbin punary Option.map_some Option.bind_some pick_and pick_or opt_true Bool.true_and Bool.and_self Bool.and_true Bool.true_or Bool.false_or Bool.not_true Bool.not_false callE pcall_eq List.map_cons List.map_nil List.append_nil List.nil_append List.cons_append mapM_cons' mapM_nil' dep_eq fz_sc fz_sl fz_em fz_fn fz_fp fz_agg fz_tu fz_bx fz_ob Nat.lt_irrefl Nat.zero_lt_one Nat.lt_add_one flat clL cl Bool.or_true okc_sc okc_em okc_sl okc_ob okc_bx okc_fp okc_fn okc_agg okc_ifc cells_agg cells_sc cells_sl cells_em cells_ob cells_fn cells_bx cells_fp List.length_cons List.length_nil Nat.zero_add and_self true_and and_true new_m new_c put_m put_c nil_m nil_c deref List.getElem?_cons_zero List.getElem?_cons_succ List.drop_zero List.drop_succ_cons List.take_succ_cons List.take_zero Nat.le_refl false_and and_false decide_true decide_false lenP_em lenP_nil lenP_sl lenP_ob Int.ofNat_zero
set_option maxRecDepth 8000
/-- transhipment/transhipmentref06.Text -/
def d15 : Def := (.code 1 [.tmp 2] (.seq (.rg false [⟨.some 2, .none, .mv (.c (.string ⟨#[]⟩))⟩]) (.seq (.rg false [⟨.some 3, .none, .mv (.c (.string ⟨#[]⟩))⟩]) (.seq (.seq (.rg false [⟨.some 8, .none, .mv (.t 0)⟩, ⟨.some 9, .none, .lenL (.t 8)⟩, ⟨.some 10, .none, .mv (.c (.int .i64 0))⟩]) (.block 0 (.loop (.seq (.rg false [⟨.some 11, .none, .bin .lss (.t 10) (.t 9)⟩]) (.seq (.cond (.t 11) .skip (.exit 0)) (.seq (.block 1 (.seq (.rg false [⟨.some 12, .none, .ia 3 (.t 8) (.t 10)⟩, ⟨.some 13, .none, .ld (.some 3) (.t 12)⟩, ⟨.some 5, .none, .box (.c (.agg #[.string ⟨#[]⟩, .slice .none 0 0, .slice .none 0 0]))⟩, ⟨.none, .none, .st 3 (.t 5) (.t 13)⟩]) (.seq (.rg false [⟨.some 14, .none, .mv (.t 3)⟩, ⟨.some 15, .none, .bin .add (.t 14) (.c (.string ⟨#[100, 101, 102, 105, 110, 101, 32]⟩))⟩, ⟨.some 16, .none, .fa 0 (.t 5)⟩, ⟨.some 17, .none, .ld .none (.t 16)⟩, ⟨.some 18, .none, .bin .add (.t 15) (.t 17)⟩, ⟨.some 19, .none, .bin .add (.t 18) (.c (.string ⟨#[32, 123, 10]⟩))⟩, ⟨.some 3, .none, .mv (.t 19)⟩]) (.seq (.seq (.rg false [⟨.some 20, .none, .fa 1 (.t 5)⟩, ⟨.some 21, .none, .ld .none (.t 20)⟩, ⟨.some 22, .none, .lenL (.t 21)⟩, ⟨.some 23, .none, .mv (.c (.int .i64 0))⟩]) (.block 2 (.loop (.seq (.rg false [⟨.some 24, .none, .bin .lss (.t 23) (.t 22)⟩]) (.seq (.cond (.t 24) .skip (.exit 2)) (.seq (.block 3 (.seq (.rg false [⟨.some 25, .none, .mv (.t 23)⟩, ⟨.some 26, .none, .ia 1 (.t 21) (.t 23)⟩, ⟨.some 27, .none, .ld .none (.t 26)⟩, ⟨.some 6, .none, .mv (.t 25)⟩, ⟨.some 7, .none, .mv (.t 27)⟩]) (.rg false [⟨.some 28, .none, .mv (.t 3)⟩, ⟨.some 29, .none, .bin .add (.t 28) (.c (.string ⟨#[9]⟩))⟩, ⟨.some 30, .none, .mv (.t 7)⟩, ⟨.some 31, .none, .bin .add (.t 29) (.t 30)⟩, ⟨.some 32, .none, .bin .add (.t 31) (.c (.string ⟨#[9]⟩))⟩, ⟨.some 33, .none, .fa 2 (.t 5)⟩, ⟨.some 34, .none, .ld .none (.t 33)⟩, ⟨.some 35, .none, .mv (.t 6)⟩, ⟨.some 36, .none, .ia 1 (.t 34) (.t 35)⟩, ⟨.some 37, .none, .ld .none (.t 36)⟩, ⟨.some 38, .none, .bin .add (.t 32) (.t 37)⟩, ⟨.some 39, .none, .bin .add (.t 38) (.c (.string ⟨#[10]⟩))⟩, ⟨.some 3, .none, .mv (.t 39)⟩]))) (.rg false [⟨.some 40, .none, .bin .add (.t 23) (.c (.int .i64 1))⟩, ⟨.some 23, .none, .mv (.t 40)⟩]))))))) (.rg false [⟨.some 41, .none, .mv (.t 3)⟩, ⟨.some 42, .none, .bin .add (.t 41) (.c (.string ⟨#[125, 10]⟩))⟩, ⟨.some 3, .none, .mv (.t 42)⟩]))))) (.rg false [⟨.some 43, .none, .bin .add (.t 10) (.c (.int .i64 1))⟩, ⟨.some 10, .none, .mv (.t 43)⟩]))))))) (.seq (.rg false [⟨.some 44, .none, .mv (.t 3)⟩, ⟨.some 2, .none, .mv (.t 44)⟩]) .ret)))))
def ldi : List (Nat × Def) := [(15, d15)]
section
variable {env : Nat → Option Def} {fr : Fr} {σ σ' σ'' : St} {K : Fr → St → Prop} {Q : X → Fr → St → Prop} {p : PV} {bs : List UInt8}
/-- A key's line; the lines of the first keys; a block's text; the text of blocks. -/
def rowD (d : Df) (i : Nat) : List UInt8 := [9] ++ d.ks.getD i [] ++ [9] ++ d.vs.getD i [] ++ [10]
def rowsD (d : Df) (n : Nat) : List UInt8 := (List.range n).flatMap (rowD d)
def headD (d : Df) : List UInt8 := [100, 101, 102, 105, 110, 101, 32] ++ d.ty ++ [32, 123, 10]
def blockD (d : Df) : List UInt8 := headD d ++ rowsD d d.ks.length ++ [125, 10]
def textD (l : List Df) : List UInt8 := l.flatMap blockD
theorem rowsD_zero (d : Df) : rowsD d 0 = [] := rfl
theorem rowsD_succ (d : Df) (n : Nat) : rowsD d (n + 1) = rowsD d n ++ rowD d n := by
  unfold rowsD; rw [List.range_succ, List.flatMap_append]; simp
theorem wordD_le {l : List UInt8} (h : wordD l = true) : l.length ≤ 64 := by
  unfold wordD at h; simp only [Bool.and_eq_true, decide_eq_true_eq] at h; exact h.1.2
theorem valD_le {l : List UInt8} (h : valD l = true) : l.length ≤ 200 := by
  unfold valD at h; simp only [Bool.and_eq_true, decide_eq_true_eq] at h; exact h.1.1.2
structure Df.May (d : Df) : Prop where
  ty : wordD d.ty = true
  n : d.ks.length ≤ 64
  e : d.ks.length = d.vs.length
  ks : ∀ i, i < d.ks.length → wordD (d.ks.getD i []) = true ∧ (d.ks.take i).contains (d.ks.getD i []) = false
  vs : ∀ v ∈ d.vs, valD v = true
theorem mayD_iff (d : Df) : mayD d = true ↔ d.May := by
  unfold mayD keysOk
  simp only [Bool.and_eq_true, decide_eq_true_eq, List.all_eq_true, List.mem_range, Bool.not_eq_true']
  exact ⟨fun h => ⟨h.1.1.1.2, h.1.1.2, h.1.2, h.1.1.1.1, h.2⟩, fun h => ⟨⟨⟨⟨h.ks, h.ty⟩, h.n⟩, h.e⟩, h.vs⟩⟩
theorem Df.May.val {d : Df} (h : d.May) {i : Nat} (hi : i < d.ks.length) : valD (d.vs.getD i []) = true := by
  have hi2 : i < d.vs.length := by rw [← h.e]; exact hi
  rw [List.getD_eq_getElem?_getD, List.getElem?_eq_getElem hi2]
  exact h.vs _ (List.getElem_mem hi2)
theorem rowD_le {d : Df} (h : d.May) {i : Nat} (hi : i < d.ks.length) : (rowD d i).length ≤ 267 := by
  have h1 := wordD_le (h.ks i hi).1
  have h2 := valD_le (h.val hi)
  simp only [rowD, List.length_append, List.length_cons, List.length_nil]
  omega
theorem rowsD_le {d : Df} (h : d.May) {i : Nat} (hi : i ≤ d.ks.length) : (rowsD d i).length ≤ 267 * i := by
  induction i with
  | zero => simp [rowsD_zero]
  | succ n ih =>
    have h1 := ih (by omega)
    have h2 := rowD_le h (i := n) (by omega)
    rw [rowsD_succ, List.length_append]; omega
theorem blockD_le {d : Df} (h : d.May) : (blockD d).length ≤ 20000 := by
  have h1 := wordD_le h.ty
  have h2 := rowsD_le h (Nat.le_refl _)
  have h3 := h.n
  simp only [blockD, headD, List.length_append, List.length_cons, List.length_nil]
  omega
theorem rightD_may {l : List Df} (h : rightD l = true) : l.length ≤ 64 ∧ ∀ d ∈ l, d.May := by
  unfold rightD at h
  simp only [Bool.and_eq_true, decide_eq_true_eq, List.all_eq_true] at h
  exact ⟨h.1, fun d hd => (mayD_iff d).1 (h.2 d hd)⟩
theorem textD_le {l : List Df} (h : ∀ d ∈ l, d.May) : (textD l).length ≤ 20000 * l.length := by
  induction l with
  | nil => simp [textD]
  | cons d r ih =>
    have h1 := ih fun x hx => h x (List.mem_cons_of_mem _ hx)
    have h2 := blockD_le (h d (List.mem_cons_self))
    simp only [textD, List.flatMap_cons, List.length_append, List.length_cons] at h1 ⊢
    omega
theorem textD_take {l : List Df} {i : Nat} (hi : i < l.length) : textD (l.take (i + 1)) = textD (l.take i) ++ blockD l[i] := by
  unfold textD
  rw [← List.take_append_getElem hi, List.flatMap_append]
  simp only [List.flatMap_cons, List.flatMap_nil, List.append_nil]
theorem textD_take_le {l : List Df} (h : rightD l = true) (i : Nat) : (textD (l.take i)).length ≤ 20000 * 64 := by
  obtain ⟨h1, h2⟩ := rightD_may h
  have := textD_le (l := l.take i) fun d hd => h2 d (List.mem_of_mem_take hd)
  rw [List.length_take] at this
  omega
theorem a15 (I : Has ldi env) {l : List Df} (hr : rightD l = true) : AV env 15 [.sl (dfs l)] = some (txt (textD l)) := by
  obtain ⟨hl64, hmay⟩ := rightD_may hr
  have hln := dfs_len l
  have k1 : (⟨#[100, 101, 102, 105, 110, 101, 32]⟩ : ByteArray) = ⟨[100, 101, 102, 105, 110, 101, 32].toArray⟩ := rfl
  have k2 : (⟨#[32, 123, 10]⟩ : ByteArray) = ⟨[32, 123, 10].toArray⟩ := rfl
  have k3 : (⟨#[9]⟩ : ByteArray) = ⟨[9].toArray⟩ := rfl
  have k4 : (⟨#[10]⟩ : ByteArray) = ⟨[10].toArray⟩ := rfl
  have k5 : (⟨#[125, 10]⟩ : ByteArray) = ⟨[125, 10].toArray⟩ := rfl
  refine AV_wp (I (15, d15) (by simp [ldi])) rfl ?_
  (repeat' first
    | refine w_seq ?_ | refine w_rg ?_ | refine wo_nil ?_ | refine g_skU ?_
    | ((first | apply s_plain | apply s_void | apply s_guard); · simp only [go_sem, Nat.reduceEqDiff, Nat.reduceAdd, Nat.reduceLeDiff, hln]; (first | done | rfl))
    | ((first | apply g_T | apply g_F); · intro hb; simp only [go_sem, Nat.reduceEqDiff, Nat.reduceAdd, Nat.reduceLeDiff, hln, hb]; (first | done | rfl))
    | ((first | apply g_gT | apply g_gF); · intro hb hc; simp only [go_sem, Nat.reduceEqDiff, Nat.reduceAdd, Nat.reduceLeDiff, hln, hb, hc]; (first | done | rfl))
    | refine g_skT ?_ | refine g_skF ?_
    | ((first | apply g_goT | apply g_goF); · simp only [go_sem, Nat.reduceEqDiff, Nat.reduceAdd, Nat.reduceLeDiff, hln]; (first | done | rfl))
    | fail
    )
  refine w_block (w_rangeF (tc := 11) (ti := 10) (tn := 9) (tk := 43) l.length (by omega) (fun i fr σ => fr 3 = txt (textD (l.take i))) ⟨by decide, rfl, rfl⟩ (fun i fr σ v h => ⟨by simp only [go_sem, Nat.reduceEqDiff, Nat.reduceAdd, Nat.reduceLeDiff, h], by simp only [go_sem, Nat.reduceEqDiff, Nat.reduceAdd, Nat.reduceLeDiff, h], by simp only [go_sem, Nat.reduceEqDiff, Nat.reduceAdd, Nat.reduceLeDiff, h]⟩) (by simp only [go_sem, Nat.reduceEqDiff, Nat.reduceAdd, Nat.reduceLeDiff]; rfl) (by simp only [go_sem, Nat.reduceEqDiff, Nat.reduceAdd, Nat.reduceLeDiff]; first | done | rfl) (by simp only [go_sem, Nat.reduceEqDiff, Nat.reduceAdd, Nat.reduceLeDiff, hln]; first | done | rfl) ?_ ?_)
  · rintro i fr1 σ1 hi h3 hti hfr
    have f0_8 := hfr 8 rfl; have f0_9 := hfr 9 rfl; try (simp only [go_sem, Nat.reduceEqDiff, Nat.reduceAdd, Nat.reduceLeDiff] at f0_8); try (simp only [go_sem, Nat.reduceEqDiff, Nat.reduceAdd, Nat.reduceLeDiff] at f0_9)
    have hqd := List.getElem?_eq_getElem hi
    have hx := dfs_at hqd
    have hm := hmay _ (List.getElem_mem hi)
    have e1 : (0 : Int) ≤ (i : Int) ∧ (i : Int) < (l.length : Int) := by omega
    have hacc := textD_take_le hr i
    have hnext := textD_take hi
    generalize hd : l[i] = d at hm hx hnext
    generalize textD (l.take i) = acc at h3 hacc hnext
    have hll := txts_len d.ks
    have hlv := txts_len d.vs
    have hty := wordD_le hm.ty
    have hnn := hm.n
    have hee := hm.e
    unfold df at hx
    have q1 : acc.length ≤ 9223372036854775800 := by omega
    have q2 : (acc ++ [100, 101, 102, 105, 110, 101, 32]).length + d.ty.length ≤ 9223372036854775807 := by simp only [List.length_append, List.length_cons, List.length_nil]; omega
    have q3 : (acc ++ [100, 101, 102, 105, 110, 101, 32] ++ d.ty).length ≤ 9223372036854775804 := by simp only [List.length_append, List.length_cons, List.length_nil]; omega
    refine w_block ?_
    (repeat' first
    | refine w_seq ?_ | refine w_rg ?_ | refine wo_nil ?_ | refine g_skU ?_
    | ((first | apply s_plain | apply s_void | apply s_guard); · simp only [go_sem, Nat.reduceEqDiff, Nat.reduceAdd, Nat.reduceLeDiff, f0_8, f0_9, hti, e1, hln, Int.toNat_natCast, hx, hll, h3, ba_data, ba_size, ba_toList, ba_extract, ba_append, List.toList_toArray, k1, k2, q1, q2, q3]; (first | done | rfl))
    | ((first | apply g_T | apply g_F); · intro hb; simp only [go_sem, Nat.reduceEqDiff, Nat.reduceAdd, Nat.reduceLeDiff, f0_8, f0_9, hti, e1, hln, Int.toNat_natCast, hx, hll, h3, ba_data, ba_size, ba_toList, ba_extract, ba_append, List.toList_toArray, k1, k2, q1, q2, q3, hb]; (first | done | rfl))
    | ((first | apply g_gT | apply g_gF); · intro hb hc; simp only [go_sem, Nat.reduceEqDiff, Nat.reduceAdd, Nat.reduceLeDiff, f0_8, f0_9, hti, e1, hln, Int.toNat_natCast, hx, hll, h3, ba_data, ba_size, ba_toList, ba_extract, ba_append, List.toList_toArray, k1, k2, q1, q2, q3, hb, hc]; (first | done | rfl))
    | refine g_skT ?_ | refine g_skF ?_
    | ((first | apply g_goT | apply g_goF); · simp only [go_sem, Nat.reduceEqDiff, Nat.reduceAdd, Nat.reduceLeDiff, f0_8, f0_9, hti, e1, hln, Int.toNat_natCast, hx, hll, h3, ba_data, ba_size, ba_toList, ba_extract, ba_append, List.toList_toArray, k1, k2, q1, q2, q3]; (first | done | rfl))
    | fail
    )
    refine w_block (w_rangeF (tc := 24) (ti := 23) (tn := 22) (tk := 40) d.ks.length (by omega) (fun j fr σ => fr 3 = txt (acc ++ headD d ++ rowsD d j) ∧ σ.m 2000005 (σ1.c 2000005) = some ⟨3, [df d], true, true⟩) ⟨by decide, rfl, rfl⟩ (fun i fr σ v h => ⟨⟨by simp only [go_sem, Nat.reduceEqDiff, Nat.reduceAdd, Nat.reduceLeDiff, h.1], h.2⟩, ⟨by simp only [go_sem, Nat.reduceEqDiff, Nat.reduceAdd, Nat.reduceLeDiff, h.1], h.2⟩, ⟨by simp only [go_sem, Nat.reduceEqDiff, Nat.reduceAdd, Nat.reduceLeDiff, h.1], h.2⟩⟩) ⟨by simp only [go_sem, Nat.reduceEqDiff, Nat.reduceAdd, Nat.reduceLeDiff, rowsD_zero, headD, List.append_nil, List.append_assoc], by simp only [go_sem, Nat.reduceEqDiff, Nat.reduceAdd, Nat.reduceLeDiff]; rfl⟩ (by simp only [go_sem, Nat.reduceEqDiff, Nat.reduceAdd, Nat.reduceLeDiff]; first | done | rfl) (by simp only [go_sem, Nat.reduceEqDiff, Nat.reduceAdd, Nat.reduceLeDiff, hll]; first | done | rfl) ?_ ?_)
    · rintro j fr2 σ2 hj ⟨g3, hm2⟩ gti hfr
      have e1_2 := hfr 2 rfl; have e1_5 := hfr 5 rfl; have e1_8 := hfr 8 rfl; have e1_9 := hfr 9 rfl; have e1_10 := hfr 10 rfl; have e1_11 := hfr 11 rfl; have e1_12 := hfr 12 rfl; have e1_13 := hfr 13 rfl; have e1_14 := hfr 14 rfl; have e1_15 := hfr 15 rfl; have e1_16 := hfr 16 rfl; have e1_17 := hfr 17 rfl; have e1_18 := hfr 18 rfl; have e1_19 := hfr 19 rfl; have e1_20 := hfr 20 rfl; have e1_21 := hfr 21 rfl; have e1_22 := hfr 22 rfl; try (simp only [go_sem, Nat.reduceEqDiff, Nat.reduceAdd, Nat.reduceLeDiff] at e1_2); try (simp only [go_sem, Nat.reduceEqDiff, Nat.reduceAdd, Nat.reduceLeDiff] at e1_5); try (simp only [go_sem, Nat.reduceEqDiff, Nat.reduceAdd, Nat.reduceLeDiff] at e1_8); try (simp only [go_sem, Nat.reduceEqDiff, Nat.reduceAdd, Nat.reduceLeDiff] at e1_9); try (simp only [go_sem, Nat.reduceEqDiff, Nat.reduceAdd, Nat.reduceLeDiff] at e1_10); try (simp only [go_sem, Nat.reduceEqDiff, Nat.reduceAdd, Nat.reduceLeDiff] at e1_11); try (simp only [go_sem, Nat.reduceEqDiff, Nat.reduceAdd, Nat.reduceLeDiff] at e1_12); try (simp only [go_sem, Nat.reduceEqDiff, Nat.reduceAdd, Nat.reduceLeDiff] at e1_13); try (simp only [go_sem, Nat.reduceEqDiff, Nat.reduceAdd, Nat.reduceLeDiff] at e1_14); try (simp only [go_sem, Nat.reduceEqDiff, Nat.reduceAdd, Nat.reduceLeDiff] at e1_15); try (simp only [go_sem, Nat.reduceEqDiff, Nat.reduceAdd, Nat.reduceLeDiff] at e1_16); try (simp only [go_sem, Nat.reduceEqDiff, Nat.reduceAdd, Nat.reduceLeDiff] at e1_17); try (simp only [go_sem, Nat.reduceEqDiff, Nat.reduceAdd, Nat.reduceLeDiff] at e1_18); try (simp only [go_sem, Nat.reduceEqDiff, Nat.reduceAdd, Nat.reduceLeDiff] at e1_19); try (simp only [go_sem, Nat.reduceEqDiff, Nat.reduceAdd, Nat.reduceLeDiff] at e1_20); try (simp only [go_sem, Nat.reduceEqDiff, Nat.reduceAdd, Nat.reduceLeDiff] at e1_21); try (simp only [go_sem, Nat.reduceEqDiff, Nat.reduceAdd, Nat.reduceLeDiff] at e1_22)
      have z5 : fr2 5 = .bx 2000005 (σ1.c 2000005) 3 0 0 := by rw [hfr 5 rfl]; simp only [go_sem, Nat.reduceEqDiff, Nat.reduceAdd, Nat.reduceLeDiff]
      have hjv : j < d.vs.length := by omega
      have hqk := List.getElem?_eq_getElem hj
      have hqv := List.getElem?_eq_getElem hjv
      have hxk := txts_at hqk
      have hxv := txts_at hqv
      have f1 : (0 : Int) ≤ (j : Int) ∧ (j : Int) < (d.ks.length : Int) := by omega
      have f2 : (0 : Int) ≤ (j : Int) ∧ (j : Int) < (d.vs.length : Int) := by omega
      have gk : d.ks.getD j [] = d.ks[j] := by rw [List.getD_eq_getElem?_getD, hqk]; rfl
      have gv : d.vs.getD j [] = d.vs[j] := by rw [List.getD_eq_getElem?_getD, hqv]; rfl
      have l1 := wordD_le (hm.ks j hj).1
      have l2 := valD_le (hm.val hj)
      have l3 := rowsD_le hm (i := j) (by omega)
      have hs := rowsD_succ d j
      unfold rowD at hs
      rw [gk] at l1
      rw [gv] at l2
      rw [gk, gv] at hs
      have hh : (headD d).length ≤ 100 := by simp only [headD, List.length_append, List.length_cons, List.length_nil]; omega
      have hb : (acc ++ headD d ++ rowsD d j).length ≤ 2000000 := by simp only [List.length_append]; omega
      have hst : txt (acc ++ headD d ++ rowsD d (j + 1)) = txt (acc ++ headD d ++ rowsD d j ++ [9] ++ d.ks[j] ++ [9] ++ d.vs[j] ++ [10]) := by rw [hs]; simp only [List.append_assoc]
      rw [hst]
      clear hst hs
      generalize acc ++ headD d ++ rowsD d j = acc2 at g3 hb
      have q1 : acc2.length ≤ 9223372036854775806 := by omega
      have q2 : (acc2 ++ [9]).length + d.ks[j].length ≤ 9223372036854775807 := by simp only [List.length_append, List.length_cons, List.length_nil]; omega
      have q3 : (acc2 ++ [9] ++ d.ks[j]).length ≤ 9223372036854775806 := by simp only [List.length_append, List.length_cons, List.length_nil]; omega
      have q4 : (acc2 ++ [9] ++ d.ks[j] ++ [9]).length + d.vs[j].length ≤ 9223372036854775807 := by simp only [List.length_append, List.length_cons, List.length_nil]; omega
      have q5 : (acc2 ++ [9] ++ d.ks[j] ++ [9] ++ d.vs[j]).length ≤ 9223372036854775806 := by simp only [List.length_append, List.length_cons, List.length_nil]; omega
      refine w_block ?_
      unfold df at hm2
      (repeat' first
    | refine w_seq ?_ | refine w_rg ?_ | refine wo_nil ?_ | refine g_skU ?_
    | ((first | apply s_plain | apply s_void | apply s_guard); · simp only [go_sem, Nat.reduceEqDiff, Nat.reduceAdd, Nat.reduceLeDiff, e1_2, e1_5, e1_8, e1_9, e1_10, e1_11, e1_12, e1_13, e1_14, e1_15, e1_16, e1_17, e1_18, e1_19, e1_20, e1_21, e1_22, z5, gti, f1, f2, hll, hlv, Int.toNat_natCast, hxk, hxv, hm2, g3, ba_data, ba_size, ba_toList, ba_extract, ba_append, List.toList_toArray, k3, k4, q1, q2, q3, q4, q5]; (first | done | rfl))
    | ((first | apply g_T | apply g_F); · intro hb; simp only [go_sem, Nat.reduceEqDiff, Nat.reduceAdd, Nat.reduceLeDiff, e1_2, e1_5, e1_8, e1_9, e1_10, e1_11, e1_12, e1_13, e1_14, e1_15, e1_16, e1_17, e1_18, e1_19, e1_20, e1_21, e1_22, z5, gti, f1, f2, hll, hlv, Int.toNat_natCast, hxk, hxv, hm2, g3, ba_data, ba_size, ba_toList, ba_extract, ba_append, List.toList_toArray, k3, k4, q1, q2, q3, q4, q5, hb]; (first | done | rfl))
    | ((first | apply g_gT | apply g_gF); · intro hb hc; simp only [go_sem, Nat.reduceEqDiff, Nat.reduceAdd, Nat.reduceLeDiff, e1_2, e1_5, e1_8, e1_9, e1_10, e1_11, e1_12, e1_13, e1_14, e1_15, e1_16, e1_17, e1_18, e1_19, e1_20, e1_21, e1_22, z5, gti, f1, f2, hll, hlv, Int.toNat_natCast, hxk, hxv, hm2, g3, ba_data, ba_size, ba_toList, ba_extract, ba_append, List.toList_toArray, k3, k4, q1, q2, q3, q4, q5, hb, hc]; (first | done | rfl))
    | refine g_skT ?_ | refine g_skF ?_
    | ((first | apply g_goT | apply g_goF); · simp only [go_sem, Nat.reduceEqDiff, Nat.reduceAdd, Nat.reduceLeDiff, e1_2, e1_5, e1_8, e1_9, e1_10, e1_11, e1_12, e1_13, e1_14, e1_15, e1_16, e1_17, e1_18, e1_19, e1_20, e1_21, e1_22, z5, gti, f1, f2, hll, hlv, Int.toNat_natCast, hxk, hxv, hm2, g3, ba_data, ba_size, ba_toList, ba_extract, ba_append, List.toList_toArray, k3, k4, q1, q2, q3, q4, q5]; (first | done | rfl))
    | fail
    )
      exact ⟨by simp only [go_sem, Nat.reduceEqDiff, Nat.reduceAdd, Nat.reduceLeDiff], by simp only [go_sem, Nat.reduceEqDiff, Nat.reduceAdd, Nat.reduceLeDiff, hm2, df]⟩
    · rintro fr2 σ2 ⟨g3, hm2⟩ hfr
      try simp only [if_true]
      have hl2 := rowsD_le hm (i := d.ks.length) (Nat.le_refl _)
      have q1 : (acc ++ headD d ++ rowsD d d.ks.length).length ≤ 9223372036854775805 := by
        have hh : (headD d).length ≤ 100 := by simp only [headD, List.length_append, List.length_cons, List.length_nil]; omega
        simp only [List.length_append, List.length_cons, List.length_nil]; omega
      (repeat' first
    | refine w_seq ?_ | refine w_rg ?_ | refine wo_nil ?_ | refine g_skU ?_
    | ((first | apply s_plain | apply s_void | apply s_guard); · simp only [go_sem, Nat.reduceEqDiff, Nat.reduceAdd, Nat.reduceLeDiff, g3, ba_data, ba_size, ba_toList, ba_extract, ba_append, List.toList_toArray, k5, q1]; (first | done | rfl))
    | ((first | apply g_T | apply g_F); · intro hb; simp only [go_sem, Nat.reduceEqDiff, Nat.reduceAdd, Nat.reduceLeDiff, g3, ba_data, ba_size, ba_toList, ba_extract, ba_append, List.toList_toArray, k5, q1, hb]; (first | done | rfl))
    | ((first | apply g_gT | apply g_gF); · intro hb hc; simp only [go_sem, Nat.reduceEqDiff, Nat.reduceAdd, Nat.reduceLeDiff, g3, ba_data, ba_size, ba_toList, ba_extract, ba_append, List.toList_toArray, k5, q1, hb, hc]; (first | done | rfl))
    | refine g_skT ?_ | refine g_skF ?_
    | ((first | apply g_goT | apply g_goF); · simp only [go_sem, Nat.reduceEqDiff, Nat.reduceAdd, Nat.reduceLeDiff, g3, ba_data, ba_size, ba_toList, ba_extract, ba_append, List.toList_toArray, k5, q1]; (first | done | rfl))
    | fail
    )
      have hb : acc ++ headD d ++ rowsD d d.ks.length ++ [125, 10] = textD (l.take (i + 1)) := by rw [hnext]; unfold blockD; simp only [List.append_assoc]
      simp only [go_sem, Nat.reduceEqDiff, Nat.reduceAdd, Nat.reduceLeDiff, hb]
  · rintro fr1 σ1 h3 hfr
    try simp only [if_true]
    rw [List.take_length] at h3
    (repeat' first
    | refine w_seq ?_ | refine w_rg ?_ | refine wo_nil ?_ | refine g_skU ?_
    | ((first | apply s_plain | apply s_void | apply s_guard); · simp only [go_sem, Nat.reduceEqDiff, Nat.reduceAdd, Nat.reduceLeDiff, h3]; (first | done | rfl))
    | ((first | apply g_T | apply g_F); · intro hb; simp only [go_sem, Nat.reduceEqDiff, Nat.reduceAdd, Nat.reduceLeDiff, h3, hb]; (first | done | rfl))
    | ((first | apply g_gT | apply g_gF); · intro hb hc; simp only [go_sem, Nat.reduceEqDiff, Nat.reduceAdd, Nat.reduceLeDiff, h3, hb, hc]; (first | done | rfl))
    | refine g_skT ?_ | refine g_skF ?_
    | ((first | apply g_goT | apply g_goF); · simp only [go_sem, Nat.reduceEqDiff, Nat.reduceAdd, Nat.reduceLeDiff, h3]; (first | done | rfl))
    | (refine w_condT ?_ ?_; · simp only [go_sem, Nat.reduceEqDiff, Nat.reduceAdd, Nat.reduceLeDiff, h3]; (first | done | rfl))
    | (refine w_condF ?_ ?_; · simp only [go_sem, Nat.reduceEqDiff, Nat.reduceAdd, Nat.reduceLeDiff, h3]; (first | done | rfl))
    | refine w_skip ?_ | refine w_exit ?_ | refine w_ret ?_
    | fail
    )
    exact ⟨by first | exact .inr rfl | exact .inr trivial | exact .inl rfl, by simp only [go_sem, Nat.reduceEqDiff, Nat.reduceAdd, Nat.reduceLeDiff, retOf, resOf]; first | done | rfl⟩
end
end Go.Proofs.YtdlfomiclkpibaaDoorPv
namespace Go.Proofs.YtdlfomiclkpibaaDoorPv
open Go
set_option linter.unusedSimpArgs false
set_option linter.unusedVariables false
set_option maxHeartbeats 4000000
attribute [local go_sem ↓] e_mv e_pick e_bin e_eqs e_beq e_un e_cvi e_str e_s2b e_b2s e_box e_build e_bsl e_ld e_st e_nck e_mkf e_slcS e_slcL e_fa e_fld e_ia e_iaa e_ix e_ixa e_ext e_lenS e_lenL e_mnmx e_app e_appb e_bbx e_msl e_clr e_call e_callv pa_t pa_c pa_f slcSP_str hiOf_some hiOf_none loOf_some loOf_none set_eq set_ne
attribute [local go_sem] pv pv1 simple frOf_0 frOf_1 frOf_2 frOf_3 frOf_4 frOf_5 ne_eq not_false_eq_true if_true Bool.false_eq_true if_false pbin punary Option.map_some Option.bind_some pick_and pick_or opt_true Bool.true_and Bool.and_self Bool.and_true Bool.true_or Bool.false_or Bool.not_true Bool.not_false callE pcall_eq List.map_cons List.map_nil List.append_nil List.nil_append List.cons_append mapM_cons' mapM_nil' dep_eq fz_sc fz_sl fz_em fz_fn fz_fp fz_agg fz_tu fz_bx fz_ob Nat.lt_irrefl Nat.zero_lt_one Nat.lt_add_one flat clL cl Bool.or_true okc_sc okc_em okc_sl okc_ob okc_bx okc_fp okc_fn okc_agg okc_ifc cells_agg cells_sc cells_sl cells_em cells_ob cells_fn cells_bx cells_fp List.length_cons List.length_nil Nat.zero_add and_self true_and and_true new_m new_c put_m put_c nil_m nil_c deref List.getElem?_cons_zero List.getElem?_cons_succ List.drop_zero List.drop_succ_cons List.take_succ_cons List.take_zero Nat.le_refl false_and and_false decide_true decide_false lenP_em lenP_nil lenP_sl lenP_ob Int.ofNat_zero
set_option maxRecDepth 8000
/-- (*strings.Builder).Len -/
def d25 : Def := (.code 1 [.tmp 2] (.seq (.rg false [⟨.some 2, .none, .mv (.c (.int .i64 0))⟩]) (.seq (.rg false [⟨.some 3, .none, .mv (.t 0)⟩, ⟨.some 4, .none, .nck (.t 3)⟩, ⟨.some 5, .none, .fa 1 (.t 4)⟩, ⟨.some 6, .none, .ld .none (.t 5)⟩, ⟨.some 7, .none, .lenL (.t 6)⟩, ⟨.some 2, .none, .mv (.t 7)⟩]) .ret)))
/-- transhipment/block.Print -/
def d8 : Def := (.code 1 [.tmp 2, .tmp 3] (.seq (.rg false [⟨.some 2, .none, .mv (.c (.string ⟨#[]⟩))⟩, ⟨.some 3, .none, .mv (.c (.int .i64 0))⟩]) (.seq (.seq (.rg false [⟨.some 9, .none, .mv (.t 0)⟩, ⟨.some 10, .none, .call 9 .pure [.t 9]⟩, ⟨.some 11, .none, .un .not (.t 10)⟩]) (.cond (.t 11) (.seq (.rg false [⟨.some 2, .none, .mv (.c (.string ⟨#[]⟩))⟩, ⟨.some 3, .none, .mv (.c (.int .i64 1))⟩]) .ret) .skip)) (.seq (.rg false [⟨.some 4, .none, .bbx⟩]) (.seq (.seq (.rg false [⟨.some 12, .none, .mv (.t 0)⟩, ⟨.some 13, .none, .lenL (.t 12)⟩, ⟨.some 14, .none, .mv (.c (.int .i64 0))⟩]) (.block 0 (.loop (.seq (.rg false [⟨.some 15, .none, .bin .lss (.t 14) (.t 13)⟩]) (.seq (.cond (.t 15) .skip (.exit 0)) (.seq (.block 1 (.seq (.rg false [⟨.some 16, .none, .ia 3 (.t 12) (.t 14)⟩, ⟨.some 17, .none, .ld (.some 3) (.t 16)⟩, ⟨.some 6, .none, .box (.c (.agg #[.string ⟨#[]⟩, .slice .none 0 0, .slice .none 0 0]))⟩, ⟨.none, .none, .st 3 (.t 6) (.t 17)⟩]) (.seq (.rg false [⟨.some 18, .none, .fa 0 (.t 6)⟩, ⟨.some 19, .none, .ld .none (.t 18)⟩, ⟨.some 20, .none, .bin .add (.c (.string ⟨#[100, 101, 102, 105, 110, 101, 32]⟩)) (.t 19)⟩, ⟨.some 21, .none, .bin .add (.t 20) (.c (.string ⟨#[32, 123]⟩))⟩, ⟨.some 22, .none, .bin .add (.t 21) (.c (.string ⟨#[10]⟩))⟩, ⟨.some 23, .none, .call 24 .opn [.t 4, .t 22]⟩]) (.seq (.seq (.rg false [⟨.some 24, .none, .fa 1 (.t 6)⟩, ⟨.some 25, .none, .ld .none (.t 24)⟩, ⟨.some 26, .none, .lenL (.t 25)⟩, ⟨.some 27, .none, .mv (.c (.int .i64 0))⟩]) (.block 2 (.loop (.seq (.rg false [⟨.some 28, .none, .bin .lss (.t 27) (.t 26)⟩]) (.seq (.cond (.t 28) .skip (.exit 2)) (.seq (.block 3 (.seq (.rg false [⟨.some 29, .none, .mv (.t 27)⟩, ⟨.some 30, .none, .ia 1 (.t 25) (.t 27)⟩, ⟨.some 31, .none, .ld .none (.t 30)⟩, ⟨.some 7, .none, .mv (.t 29)⟩, ⟨.some 8, .none, .mv (.t 31)⟩]) (.rg false [⟨.some 32, .none, .mv (.t 8)⟩, ⟨.some 33, .none, .bin .add (.c (.string ⟨#[9]⟩)) (.t 32)⟩, ⟨.some 34, .none, .bin .add (.t 33) (.c (.string ⟨#[9]⟩))⟩, ⟨.some 35, .none, .fa 2 (.t 6)⟩, ⟨.some 36, .none, .ld .none (.t 35)⟩, ⟨.some 37, .none, .mv (.t 7)⟩, ⟨.some 38, .none, .ia 1 (.t 36) (.t 37)⟩, ⟨.some 39, .none, .ld .none (.t 38)⟩, ⟨.some 40, .none, .bin .add (.t 34) (.t 39)⟩, ⟨.some 41, .none, .bin .add (.t 40) (.c (.string ⟨#[10]⟩))⟩, ⟨.some 42, .none, .call 24 .opn [.t 4, .t 41]⟩]))) (.rg false [⟨.some 43, .none, .bin .add (.t 27) (.c (.int .i64 1))⟩, ⟨.some 27, .none, .mv (.t 43)⟩]))))))) (.rg false [⟨.some 44, .none, .call 24 .opn [.t 4, .c (.string ⟨#[125, 10]⟩)]⟩]))))) (.rg false [⟨.some 45, .none, .bin .add (.t 14) (.c (.int .i64 1))⟩, ⟨.some 14, .none, .mv (.t 45)⟩]))))))) (.seq (.seq (.rg false [⟨.some 46, .none, .call 25 .opn [.t 4]⟩, ⟨.some 47, .none, .bin .gtr (.t 46) (.c (.int .i64 8192))⟩]) (.cond (.t 47) (.seq (.rg false [⟨.some 2, .none, .mv (.c (.string ⟨#[]⟩))⟩, ⟨.some 3, .none, .mv (.c (.int .i64 2))⟩]) .ret) .skip)) (.seq (.rg false [⟨.some 48, .none, .call 26 .opn [.t 4]⟩, ⟨.some 2, .none, .mv (.t 48)⟩, ⟨.some 3, .none, .mv (.c (.int .i64 0))⟩]) .ret)))))))
def lbl : List (Nat × Def) := [(25, d25)]
def ldj : List (Nat × Def) := [(8, d8)]
section
variable {env : Nat → Option Def} {fr : Fr} {σ σ' σ'' : St} {K : Fr → St → Prop} {Q : X → Fr → St → Prop} {p : PV} {bs : List UInt8}
theorem Fresh.newput (h : Fresh σ) (o : Nat) (y z : Obj) : Fresh ((σ.new o y).put o (σ.c o) (some z)) :=
  (h.new o y).put (x := y) (by simp only [new_m]; rw [if_pos ⟨trivial, trivial⟩]) _
/-- (*strings.Builder).Len. -/
theorem b_ln (N : Has lbl env) {g : Nat} {bs : List UInt8} (hb : Bld σ g bs) : EV env 25 [.bx bldAt g 2 0 0] σ = some (.sc (.int .i64 bs.length), σ) := by
  obtain ⟨a, p, hm, ha, hb⟩ := hb
  have hlen : lenP p = some bs.length := by
    rcases hb with ⟨rfl, rfl⟩ | ⟨g', wr, rfl, _, _⟩ <;> rfl
  obtain ⟨r, σ', he, hr⟩ := EV_wp' (f := 25) (as := [.bx bldAt g 2 0 0]) (R := fun r τ => r = .sc (.int .i64 bs.length) ∧ τ = σ) (σ := σ) (N (25, d25) (by simp [lbl])) rfl (by
    (repeat' first
    | refine w_seq ?_ | refine w_rg ?_ | refine wo_nil ?_ | refine g_skU ?_
    | ((first | apply s_plain | apply s_void | apply s_guard); · simp only [go_sem, Nat.reduceEqDiff, Nat.reduceAdd, Nat.reduceLeDiff, hm]; (first | done | rfl))
    | ((first | apply g_T | apply g_F); · intro hb; simp only [go_sem, Nat.reduceEqDiff, Nat.reduceAdd, Nat.reduceLeDiff, hm, hb]; (first | done | rfl))
    | ((first | apply g_gT | apply g_gF); · intro hb hc; simp only [go_sem, Nat.reduceEqDiff, Nat.reduceAdd, Nat.reduceLeDiff, hm, hb, hc]; (first | done | rfl))
    | refine g_skT ?_ | refine g_skF ?_
    | ((first | apply g_goT | apply g_goF); · simp only [go_sem, Nat.reduceEqDiff, Nat.reduceAdd, Nat.reduceLeDiff, hm]; (first | done | rfl))
    | fail
    )
    (repeat' first
    | refine w_seq ?_ | refine w_rg ?_ | refine wo_nil ?_ | refine g_skU ?_
    | ((first | apply s_plain | apply s_void | apply s_guard); · simp only [go_sem, Nat.reduceEqDiff, Nat.reduceAdd, Nat.reduceLeDiff, hlen]; (first | done | rfl))
    | ((first | apply g_T | apply g_F); · intro hb; simp only [go_sem, Nat.reduceEqDiff, Nat.reduceAdd, Nat.reduceLeDiff, hlen, hb]; (first | done | rfl))
    | ((first | apply g_gT | apply g_gF); · intro hb hc; simp only [go_sem, Nat.reduceEqDiff, Nat.reduceAdd, Nat.reduceLeDiff, hlen, hb, hc]; (first | done | rfl))
    | refine g_skT ?_ | refine g_skF ?_
    | ((first | apply g_goT | apply g_goF); · simp only [go_sem, Nat.reduceEqDiff, Nat.reduceAdd, Nat.reduceLeDiff, hlen]; (first | done | rfl))
    | (refine w_condT ?_ ?_; · simp only [go_sem, Nat.reduceEqDiff, Nat.reduceAdd, Nat.reduceLeDiff, hlen]; (first | done | rfl))
    | (refine w_condF ?_ ?_; · simp only [go_sem, Nat.reduceEqDiff, Nat.reduceAdd, Nat.reduceLeDiff, hlen]; (first | done | rfl))
    | refine w_skip ?_ | refine w_exit ?_ | refine w_ret ?_
    | fail
    )
    exact ⟨.inr rfl, _, by simp only [go_sem, Nat.reduceEqDiff, Nat.reduceAdd, Nat.reduceLeDiff, retOf, resOf], rfl, rfl⟩)
  rw [he, hr.1, hr.2]
theorem s_ln {d t : Nat} {ops : List POp} (N : Has lbl env) {g : Nat} {bs : List UInt8} (ht : fr t = .bx bldAt g 2 0 0) (hb : Bld σ g bs)
    (h2 : Wos env ops K (fr.set d (.sc (.int .i64 bs.length))) σ) : Wos env (⟨some d, none, .call 25 .opn [.t t]⟩ :: ops) K fr σ :=
  s_plain (v := .sc (.int .i64 bs.length)) (σ' := σ) (by simp only [evO, callE, List.map_cons, List.map_nil, pa_t, ht]; exact b_ln N hb) h2
/-- What Print answers. -/
def printD (l : List Df) : List UInt8 × Int := if rightD l then if (textD l).length > 8192 then ([], 2) else (textD l, 0) else ([], 1)
theorem a8 (A : Has law env) (D : Has lda env) (B : Has ldb env) (C : Has ldc env) (W : Has lbw env) (S : Has lbs env) (N : Has lbl env) (J : Has ldj env) {l : List Df} (hl : Sms l) :
    AV env 8 [.sl (dfs l)] = some (.tu [txt (printD l).1, .sc (.int .i64 (printD l).2)]) := by
  have h9 := a9 A D B C hl
  have hln := dfs_len l
  refine AV_wp (J (8, d8) (by simp [ldj])) rfl ?_
  cases hr : rightD l with
  | false =>
    have hp : printD l = ([], 1) := by unfold printD; rw [hr]; rfl
    rw [hr] at h9
    (repeat' first
    | refine w_seq ?_ | refine w_rg ?_ | refine wo_nil ?_ | refine g_skU ?_
    | ((first | apply s_plain | apply s_void | apply s_guard); · simp only [go_sem, Nat.reduceEqDiff, Nat.reduceAdd, Nat.reduceLeDiff, h9]; (first | done | rfl))
    | ((first | apply g_T | apply g_F); · intro hb; simp only [go_sem, Nat.reduceEqDiff, Nat.reduceAdd, Nat.reduceLeDiff, h9, hb]; (first | done | rfl))
    | ((first | apply g_gT | apply g_gF); · intro hb hc; simp only [go_sem, Nat.reduceEqDiff, Nat.reduceAdd, Nat.reduceLeDiff, h9, hb, hc]; (first | done | rfl))
    | refine g_skT ?_ | refine g_skF ?_
    | ((first | apply g_goT | apply g_goF); · simp only [go_sem, Nat.reduceEqDiff, Nat.reduceAdd, Nat.reduceLeDiff, h9]; (first | done | rfl))
    | (refine w_condT ?_ ?_; · simp only [go_sem, Nat.reduceEqDiff, Nat.reduceAdd, Nat.reduceLeDiff, h9]; (first | done | rfl))
    | (refine w_condF ?_ ?_; · simp only [go_sem, Nat.reduceEqDiff, Nat.reduceAdd, Nat.reduceLeDiff, h9]; (first | done | rfl))
    | refine w_skip ?_ | refine w_exit ?_ | refine w_ret ?_
    | fail
    )
    exact ⟨by first | exact .inr rfl | exact .inr trivial | exact .inl rfl, by simp only [go_sem, Nat.reduceEqDiff, Nat.reduceAdd, Nat.reduceLeDiff, retOf, resOf, hp]; first | done | rfl⟩
  | true =>
    obtain ⟨hl64, hmay⟩ := rightD_may hr
    rw [hr] at h9
    (repeat' first
    | refine w_seq ?_ | refine w_rg ?_ | refine wo_nil ?_ | refine g_skU ?_
    | ((first | apply s_plain | apply s_void | apply s_guard); · simp only [go_sem, Nat.reduceEqDiff, Nat.reduceAdd, Nat.reduceLeDiff, h9, bldAt]; (first | done | rfl))
    | ((first | apply g_T | apply g_F); · intro hb; simp only [go_sem, Nat.reduceEqDiff, Nat.reduceAdd, Nat.reduceLeDiff, h9, bldAt, hb]; (first | done | rfl))
    | ((first | apply g_gT | apply g_gF); · intro hb hc; simp only [go_sem, Nat.reduceEqDiff, Nat.reduceAdd, Nat.reduceLeDiff, h9, bldAt, hb, hc]; (first | done | rfl))
    | refine g_skT ?_ | refine g_skF ?_
    | ((first | apply g_goT | apply g_goF); · simp only [go_sem, Nat.reduceEqDiff, Nat.reduceAdd, Nat.reduceLeDiff, h9, bldAt]; (first | done | rfl))
    | (refine w_condT ?_ ?_; · simp only [go_sem, Nat.reduceEqDiff, Nat.reduceAdd, Nat.reduceLeDiff, h9, bldAt]; (first | done | rfl))
    | (refine w_condF ?_ ?_; · simp only [go_sem, Nat.reduceEqDiff, Nat.reduceAdd, Nat.reduceLeDiff, h9, bldAt]; (first | done | rfl))
    | refine w_skip ?_ | refine w_exit ?_ | refine w_ret ?_
    | fail
    )
    (repeat' first
    | refine w_seq ?_ | refine w_rg ?_ | refine wo_nil ?_ | refine g_skU ?_
    | ((first | apply s_plain | apply s_void | apply s_guard); · simp only [go_sem, Nat.reduceEqDiff, Nat.reduceAdd, Nat.reduceLeDiff, hln]; (first | done | rfl))
    | ((first | apply g_T | apply g_F); · intro hb; simp only [go_sem, Nat.reduceEqDiff, Nat.reduceAdd, Nat.reduceLeDiff, hln, hb]; (first | done | rfl))
    | ((first | apply g_gT | apply g_gF); · intro hb hc; simp only [go_sem, Nat.reduceEqDiff, Nat.reduceAdd, Nat.reduceLeDiff, hln, hb, hc]; (first | done | rfl))
    | refine g_skT ?_ | refine g_skF ?_
    | ((first | apply g_goT | apply g_goF); · simp only [go_sem, Nat.reduceEqDiff, Nat.reduceAdd, Nat.reduceLeDiff, hln]; (first | done | rfl))
    | fail
    )
    have k1 : (⟨#[100, 101, 102, 105, 110, 101, 32]⟩ : ByteArray) = ⟨[100, 101, 102, 105, 110, 101, 32].toArray⟩ := rfl
    have k2 : (⟨#[32, 123]⟩ : ByteArray) = ⟨[32, 123].toArray⟩ := rfl
    have k3 : (⟨#[9]⟩ : ByteArray) = ⟨[9].toArray⟩ := rfl
    have k4 : (⟨#[10]⟩ : ByteArray) = ⟨[10].toArray⟩ := rfl
    have k5 : (⟨#[125, 10]⟩ : ByteArray) = ⟨[125, 10].toArray⟩ := rfl
    refine w_block (w_rangeF (tc := 15) (ti := 14) (tn := 13) (tk := 45) l.length (by omega) (fun i fr σ => Bld σ 0 (textD (l.take i)) ∧ Fresh σ) ⟨by decide, rfl, rfl⟩ (fun _ _ _ _ h => ⟨h, h, h⟩) ⟨bld_new _, Fresh.nil.new _ _⟩ (by simp only [go_sem, Nat.reduceEqDiff, Nat.reduceAdd, Nat.reduceLeDiff]; first | done | rfl) (by simp only [go_sem, Nat.reduceEqDiff, Nat.reduceAdd, Nat.reduceLeDiff, hln]; first | done | rfl) ?_ ?_)
    · rintro i fr1 σ1 hi ⟨hb, hF⟩ hti hfr
      have f0_4 := hfr 4 rfl; have f0_12 := hfr 12 rfl; have f0_13 := hfr 13 rfl; try (simp only [go_sem, Nat.reduceEqDiff, Nat.reduceAdd, Nat.reduceLeDiff] at f0_4); try (simp only [go_sem, Nat.reduceEqDiff, Nat.reduceAdd, Nat.reduceLeDiff] at f0_12); try (simp only [go_sem, Nat.reduceEqDiff, Nat.reduceAdd, Nat.reduceLeDiff] at f0_13)
      have z4 : fr1 4 = .bx bldAt 0 2 0 0 := by rw [hfr 4 rfl]; simp only [go_sem, Nat.reduceEqDiff, Nat.reduceAdd, Nat.reduceLeDiff]; rfl
      have hqd := List.getElem?_eq_getElem hi
      have hx := dfs_at hqd
      have hm := hmay _ (List.getElem_mem hi)
      have e1 : (0 : Int) ≤ (i : Int) ∧ (i : Int) < (l.length : Int) := by omega
      have hacc := textD_take_le hr i
      have hnext := textD_take hi
      generalize hd : l[i] = d at hm hx hnext
      generalize textD (l.take i) = acc at hb hacc hnext
      have hll := txts_len d.ks
      have hlv := txts_len d.vs
      have hty := wordD_le hm.ty
      have hnn := hm.n
      have hee := hm.e
      unfold df at hx
      have q1 : 7 + d.ty.length ≤ 9223372036854775807 := by omega
      have q2 : d.ty.length ≤ 9223372036854775798 := by omega
      have q3 : (d.ty ++ [32, 123]).length ≤ 9223372036854775799 := by simp only [List.length_append, List.length_cons, List.length_nil]; omega
      have hh : (headD d).length ≤ 100 := by simp only [headD, List.length_append, List.length_cons, List.length_nil]; omega
      refine w_block ?_
      (repeat' first
    | refine w_seq ?_ | refine w_rg ?_ | refine wo_nil ?_ | refine g_skU ?_
    | ((first | apply s_plain | apply s_void | apply s_guard); · simp only [go_sem, Nat.reduceEqDiff, Nat.reduceAdd, Nat.reduceLeDiff, f0_4, f0_12, f0_13, hti, e1, hln, Int.toNat_natCast, hx, hll, ba_data, ba_size, ba_toList, ba_extract, ba_append, List.toList_toArray, k1, k2, k4, q1, q2, q3]; (first | done | rfl))
    | ((first | apply g_T | apply g_F); · intro hb; simp only [go_sem, Nat.reduceEqDiff, Nat.reduceAdd, Nat.reduceLeDiff, f0_4, f0_12, f0_13, hti, e1, hln, Int.toNat_natCast, hx, hll, ba_data, ba_size, ba_toList, ba_extract, ba_append, List.toList_toArray, k1, k2, k4, q1, q2, q3, hb]; (first | done | rfl))
    | ((first | apply g_gT | apply g_gF); · intro hb hc; simp only [go_sem, Nat.reduceEqDiff, Nat.reduceAdd, Nat.reduceLeDiff, f0_4, f0_12, f0_13, hti, e1, hln, Int.toNat_natCast, hx, hll, ba_data, ba_size, ba_toList, ba_extract, ba_append, List.toList_toArray, k1, k2, k4, q1, q2, q3, hb, hc]; (first | done | rfl))
    | refine g_skT ?_ | refine g_skF ?_
    | ((first | apply g_goT | apply g_goF); · simp only [go_sem, Nat.reduceEqDiff, Nat.reduceAdd, Nat.reduceLeDiff, f0_4, f0_12, f0_13, hti, e1, hln, Int.toNat_natCast, hx, hll, ba_data, ba_size, ba_toList, ba_extract, ba_append, List.toList_toArray, k1, k2, k4, q1, q2, q3]; (first | done | rfl))
    | fail
    )
      refine s_ws (d := 23) (t := 4) (x := .t 22) W (g := 0) (bs := acc) (s := ⟨([100, 101, 102, 105, 110, 101, 32] ++ d.ty ++ [32, 123] ++ [10]).toArray⟩) (by simp only [go_sem, Nat.reduceEqDiff, Nat.reduceAdd, Nat.reduceLeDiff, z4]) (by simp only [go_sem, Nat.reduceEqDiff, Nat.reduceAdd, Nat.reduceLeDiff]) ((hb.new hF _ _).put (o := 2000006) (by decide) (by decide) _) (hF.newput _ _ _) (by rw [ba_size]; simp only [List.length_append, List.length_cons, List.length_nil]; omega) ?_
      intro σ2 hb2 hk2
      have hm2 := hk2.m 2000006 (σ1.c 2000006) ⟨3, [df d], true, true⟩ (by decide) (by decide) (by simp only [go_sem, Nat.reduceEqDiff, Nat.reduceAdd, Nat.reduceLeDiff]; rfl)
      have hc0 : acc ++ ([100, 101, 102, 105, 110, 101, 32] ++ d.ty ++ [32, 123] ++ [10]) = acc ++ headD d := by unfold headD; simp only [List.append_assoc, List.cons_append, List.nil_append]
      rw [List.toList_toArray, hc0] at hb2
      have hF2 := hk2.f
      clear hk2
      unfold df at hm2
      (repeat' first
    | refine w_seq ?_ | refine w_rg ?_ | refine wo_nil ?_ | refine g_skU ?_
    | ((first | apply s_plain | apply s_void | apply s_guard); · simp only [go_sem, Nat.reduceEqDiff, Nat.reduceAdd, Nat.reduceLeDiff, hm2, hll]; (first | done | rfl))
    | ((first | apply g_T | apply g_F); · intro hb; simp only [go_sem, Nat.reduceEqDiff, Nat.reduceAdd, Nat.reduceLeDiff, hm2, hll, hb]; (first | done | rfl))
    | ((first | apply g_gT | apply g_gF); · intro hb hc; simp only [go_sem, Nat.reduceEqDiff, Nat.reduceAdd, Nat.reduceLeDiff, hm2, hll, hb, hc]; (first | done | rfl))
    | refine g_skT ?_ | refine g_skF ?_
    | ((first | apply g_goT | apply g_goF); · simp only [go_sem, Nat.reduceEqDiff, Nat.reduceAdd, Nat.reduceLeDiff, hm2, hll]; (first | done | rfl))
    | fail
    )
      have hB0 : acc ++ headD d = acc ++ headD d ++ rowsD d 0 := by rw [rowsD_zero, List.append_nil]
      rw [hB0] at hb2
      refine w_block (w_rangeF (tc := 28) (ti := 27) (tn := 26) (tk := 43) d.ks.length (by omega) (fun j fr σ => Bld σ 0 (acc ++ headD d ++ rowsD d j) ∧ Fresh σ ∧ σ.m 2000006 (σ1.c 2000006) = some ⟨3, [df d], true, true⟩) ⟨by decide, rfl, rfl⟩ (fun _ _ _ _ h => ⟨h, h, h⟩) ⟨hb2, hF2, hm2⟩ (by simp only [go_sem, Nat.reduceEqDiff, Nat.reduceAdd, Nat.reduceLeDiff]; first | done | rfl) (by simp only [go_sem, Nat.reduceEqDiff, Nat.reduceAdd, Nat.reduceLeDiff, hll]; first | done | rfl) ?_ ?_)
      · rintro j fr2 σ2 hj ⟨hb3, hF3, hm3⟩ gti hfr
        have e1_2 := hfr 2 rfl; have e1_3 := hfr 3 rfl; have e1_4 := hfr 4 rfl; have e1_6 := hfr 6 rfl; have e1_12 := hfr 12 rfl; have e1_13 := hfr 13 rfl; have e1_14 := hfr 14 rfl; have e1_15 := hfr 15 rfl; have e1_16 := hfr 16 rfl; have e1_17 := hfr 17 rfl; have e1_18 := hfr 18 rfl; have e1_19 := hfr 19 rfl; have e1_20 := hfr 20 rfl; have e1_21 := hfr 21 rfl; have e1_22 := hfr 22 rfl; have e1_24 := hfr 24 rfl; have e1_25 := hfr 25 rfl; have e1_26 := hfr 26 rfl; try (simp only [go_sem, Nat.reduceEqDiff, Nat.reduceAdd, Nat.reduceLeDiff] at e1_2); try (simp only [go_sem, Nat.reduceEqDiff, Nat.reduceAdd, Nat.reduceLeDiff] at e1_3); try (simp only [go_sem, Nat.reduceEqDiff, Nat.reduceAdd, Nat.reduceLeDiff] at e1_4); try (simp only [go_sem, Nat.reduceEqDiff, Nat.reduceAdd, Nat.reduceLeDiff] at e1_6); try (simp only [go_sem, Nat.reduceEqDiff, Nat.reduceAdd, Nat.reduceLeDiff] at e1_12); try (simp only [go_sem, Nat.reduceEqDiff, Nat.reduceAdd, Nat.reduceLeDiff] at e1_13); try (simp only [go_sem, Nat.reduceEqDiff, Nat.reduceAdd, Nat.reduceLeDiff] at e1_14); try (simp only [go_sem, Nat.reduceEqDiff, Nat.reduceAdd, Nat.reduceLeDiff] at e1_15); try (simp only [go_sem, Nat.reduceEqDiff, Nat.reduceAdd, Nat.reduceLeDiff] at e1_16); try (simp only [go_sem, Nat.reduceEqDiff, Nat.reduceAdd, Nat.reduceLeDiff] at e1_17); try (simp only [go_sem, Nat.reduceEqDiff, Nat.reduceAdd, Nat.reduceLeDiff] at e1_18); try (simp only [go_sem, Nat.reduceEqDiff, Nat.reduceAdd, Nat.reduceLeDiff] at e1_19); try (simp only [go_sem, Nat.reduceEqDiff, Nat.reduceAdd, Nat.reduceLeDiff] at e1_20); try (simp only [go_sem, Nat.reduceEqDiff, Nat.reduceAdd, Nat.reduceLeDiff] at e1_21); try (simp only [go_sem, Nat.reduceEqDiff, Nat.reduceAdd, Nat.reduceLeDiff] at e1_22); try (simp only [go_sem, Nat.reduceEqDiff, Nat.reduceAdd, Nat.reduceLeDiff] at e1_24); try (simp only [go_sem, Nat.reduceEqDiff, Nat.reduceAdd, Nat.reduceLeDiff] at e1_25); try (simp only [go_sem, Nat.reduceEqDiff, Nat.reduceAdd, Nat.reduceLeDiff] at e1_26)
        have z6 : fr2 6 = .bx 2000006 (σ1.c 2000006) 3 0 0 := by rw [hfr 6 rfl]; simp only [go_sem, Nat.reduceEqDiff, Nat.reduceAdd, Nat.reduceLeDiff]
        have z4' : fr2 4 = .bx bldAt 0 2 0 0 := by rw [hfr 4 rfl]; simp only [go_sem, Nat.reduceEqDiff, Nat.reduceAdd, Nat.reduceLeDiff, z4]
        have hjv : j < d.vs.length := by omega
        have hqk := List.getElem?_eq_getElem hj
        have hqv := List.getElem?_eq_getElem hjv
        have hxk := txts_at hqk
        have hxv := txts_at hqv
        have f1 : (0 : Int) ≤ (j : Int) ∧ (j : Int) < (d.ks.length : Int) := by omega
        have f2 : (0 : Int) ≤ (j : Int) ∧ (j : Int) < (d.vs.length : Int) := by omega
        have gk : d.ks.getD j [] = d.ks[j] := by rw [List.getD_eq_getElem?_getD, hqk]; rfl
        have gv : d.vs.getD j [] = d.vs[j] := by rw [List.getD_eq_getElem?_getD, hqv]; rfl
        have l1 := wordD_le (hm.ks j hj).1
        have l2 := valD_le (hm.val hj)
        have l3 := rowsD_le hm (i := j) (by omega)
        have hs := rowsD_succ d j
        unfold rowD at hs
        rw [gk] at l1
        rw [gv] at l2
        rw [gk, gv] at hs
        have hbl : (acc ++ headD d ++ rowsD d j).length ≤ 2000000 := by simp only [List.length_append]; omega
        have hst : acc ++ headD d ++ rowsD d (j + 1) = acc ++ headD d ++ rowsD d j ++ ([9] ++ d.ks[j] ++ [9] ++ d.vs[j] ++ [10]) := by rw [hs]; simp only [List.append_assoc]
        rw [hst]
        clear hst hs
        generalize acc ++ headD d ++ rowsD d j = acc2 at hb3 hbl
        have q1 : 1 + d.ks[j].length ≤ 9223372036854775807 := by omega
        have q2 : d.ks[j].length ≤ 9223372036854775805 := by omega
        have q3 : (d.ks[j] ++ [9]).length + 1 + d.vs[j].length ≤ 9223372036854775807 := by simp only [List.length_append, List.length_cons, List.length_nil]; omega
        have q4 : (d.ks[j] ++ [9] ++ d.vs[j]).length ≤ 9223372036854775805 := by simp only [List.length_append, List.length_cons, List.length_nil]; omega
        refine w_block ?_
        unfold df at hm3
        (repeat' first
    | refine w_seq ?_ | refine w_rg ?_ | refine wo_nil ?_ | refine g_skU ?_
    | ((first | apply s_plain | apply s_void | apply s_guard); · simp only [go_sem, Nat.reduceEqDiff, Nat.reduceAdd, Nat.reduceLeDiff, e1_2, e1_3, e1_4, e1_6, e1_12, e1_13, e1_14, e1_15, e1_16, e1_17, e1_18, e1_19, e1_20, e1_21, e1_22, e1_24, e1_25, e1_26, z6, gti, f1, f2, hll, hlv, Int.toNat_natCast, hxk, hxv, hm3, ba_data, ba_size, ba_toList, ba_extract, ba_append, List.toList_toArray, k3, k4, q1, q2, q3, q4]; (first | done | rfl))
    | ((first | apply g_T | apply g_F); · intro hb; simp only [go_sem, Nat.reduceEqDiff, Nat.reduceAdd, Nat.reduceLeDiff, e1_2, e1_3, e1_4, e1_6, e1_12, e1_13, e1_14, e1_15, e1_16, e1_17, e1_18, e1_19, e1_20, e1_21, e1_22, e1_24, e1_25, e1_26, z6, gti, f1, f2, hll, hlv, Int.toNat_natCast, hxk, hxv, hm3, ba_data, ba_size, ba_toList, ba_extract, ba_append, List.toList_toArray, k3, k4, q1, q2, q3, q4, hb]; (first | done | rfl))
    | ((first | apply g_gT | apply g_gF); · intro hb hc; simp only [go_sem, Nat.reduceEqDiff, Nat.reduceAdd, Nat.reduceLeDiff, e1_2, e1_3, e1_4, e1_6, e1_12, e1_13, e1_14, e1_15, e1_16, e1_17, e1_18, e1_19, e1_20, e1_21, e1_22, e1_24, e1_25, e1_26, z6, gti, f1, f2, hll, hlv, Int.toNat_natCast, hxk, hxv, hm3, ba_data, ba_size, ba_toList, ba_extract, ba_append, List.toList_toArray, k3, k4, q1, q2, q3, q4, hb, hc]; (first | done | rfl))
    | refine g_skT ?_ | refine g_skF ?_
    | ((first | apply g_goT | apply g_goF); · simp only [go_sem, Nat.reduceEqDiff, Nat.reduceAdd, Nat.reduceLeDiff, e1_2, e1_3, e1_4, e1_6, e1_12, e1_13, e1_14, e1_15, e1_16, e1_17, e1_18, e1_19, e1_20, e1_21, e1_22, e1_24, e1_25, e1_26, z6, gti, f1, f2, hll, hlv, Int.toNat_natCast, hxk, hxv, hm3, ba_data, ba_size, ba_toList, ba_extract, ba_append, List.toList_toArray, k3, k4, q1, q2, q3, q4]; (first | done | rfl))
    | fail
    )
        refine s_ws (d := 42) (t := 4) (x := .t 41) W (g := 0) (bs := acc2) (s := ⟨([9] ++ d.ks[j] ++ [9] ++ d.vs[j] ++ [10]).toArray⟩) (by simp only [go_sem, Nat.reduceEqDiff, Nat.reduceAdd, Nat.reduceLeDiff, z4']) (by simp only [go_sem, Nat.reduceEqDiff, Nat.reduceAdd, Nat.reduceLeDiff]) hb3 hF3 (by rw [ba_size]; simp only [List.length_append, List.length_cons, List.length_nil]; omega) ?_
        intro σ3 hb4 hk4
        have hm4 := hk4.m _ _ _ (by decide) (by decide) hm3
        rw [List.toList_toArray] at hb4
        (repeat' first
    | refine w_seq ?_ | refine w_rg ?_ | refine wo_nil ?_ | refine g_skU ?_
    | ((first | apply s_plain | apply s_void | apply s_guard); · simp only [go_sem, Nat.reduceEqDiff, Nat.reduceAdd, Nat.reduceLeDiff]; (first | done | rfl))
    | ((first | apply g_T | apply g_F); · intro hb; simp only [go_sem, Nat.reduceEqDiff, Nat.reduceAdd, Nat.reduceLeDiff, hb]; (first | done | rfl))
    | ((first | apply g_gT | apply g_gF); · intro hb hc; simp only [go_sem, Nat.reduceEqDiff, Nat.reduceAdd, Nat.reduceLeDiff, hb, hc]; (first | done | rfl))
    | refine g_skT ?_ | refine g_skF ?_
    | ((first | apply g_goT | apply g_goF); · simp only [go_sem, Nat.reduceEqDiff, Nat.reduceAdd, Nat.reduceLeDiff]; (first | done | rfl))
    | fail
    )
        exact ⟨hb4, hk4.f, hm4⟩
      · rintro fr2 σ2 ⟨hb3, hF3, hm3⟩ hfr
        try simp only [if_true]
        have z4' : fr2 4 = .bx bldAt 0 2 0 0 := by rw [hfr 4 rfl]; simp only [go_sem, Nat.reduceEqDiff, Nat.reduceAdd, Nat.reduceLeDiff, z4]
        have hl2 := rowsD_le hm (i := d.ks.length) (Nat.le_refl _)
        (repeat' first
    | refine w_seq ?_ | refine w_rg ?_ | refine wo_nil ?_ | refine g_skU ?_
    | ((first | apply s_plain | apply s_void | apply s_guard); · simp only [go_sem, Nat.reduceEqDiff, Nat.reduceAdd, Nat.reduceLeDiff]; (first | done | rfl))
    | ((first | apply g_T | apply g_F); · intro hb; simp only [go_sem, Nat.reduceEqDiff, Nat.reduceAdd, Nat.reduceLeDiff, hb]; (first | done | rfl))
    | ((first | apply g_gT | apply g_gF); · intro hb hc; simp only [go_sem, Nat.reduceEqDiff, Nat.reduceAdd, Nat.reduceLeDiff, hb, hc]; (first | done | rfl))
    | refine g_skT ?_ | refine g_skF ?_
    | ((first | apply g_goT | apply g_goF); · simp only [go_sem, Nat.reduceEqDiff, Nat.reduceAdd, Nat.reduceLeDiff]; (first | done | rfl))
    | fail
    )
        refine s_ws (d := 44) (t := 4) (x := .c (.string ⟨#[125, 10]⟩)) W (g := 0) (bs := acc ++ headD d ++ rowsD d d.ks.length) (s := ⟨#[125, 10]⟩) z4' rfl hb3 hF3 (by rw [k5, ba_size]; simp only [List.length_append, List.length_cons, List.length_nil]; omega) ?_
        intro σ3 hb4 hk4
        have hb : acc ++ headD d ++ rowsD d d.ks.length ++ [125, 10] = textD (l.take (i + 1)) := by rw [hnext]; unfold blockD; simp only [List.append_assoc]
        have hb5 : Bld σ3 0 (acc ++ headD d ++ rowsD d d.ks.length ++ [125, 10]) := hb4
        rw [hb] at hb5
        (repeat' first
    | refine w_seq ?_ | refine w_rg ?_ | refine wo_nil ?_ | refine g_skU ?_
    | ((first | apply s_plain | apply s_void | apply s_guard); · simp only [go_sem, Nat.reduceEqDiff, Nat.reduceAdd, Nat.reduceLeDiff]; (first | done | rfl))
    | ((first | apply g_T | apply g_F); · intro hb; simp only [go_sem, Nat.reduceEqDiff, Nat.reduceAdd, Nat.reduceLeDiff, hb]; (first | done | rfl))
    | ((first | apply g_gT | apply g_gF); · intro hb hc; simp only [go_sem, Nat.reduceEqDiff, Nat.reduceAdd, Nat.reduceLeDiff, hb, hc]; (first | done | rfl))
    | refine g_skT ?_ | refine g_skF ?_
    | ((first | apply g_goT | apply g_goF); · simp only [go_sem, Nat.reduceEqDiff, Nat.reduceAdd, Nat.reduceLeDiff]; (first | done | rfl))
    | fail
    )
        exact ⟨hb5, hk4.f⟩
    · rintro fr1 σ1 ⟨hb, hF⟩ hfr
      try simp only [if_true]
      rw [List.take_length] at hb
      have z4 : fr1 4 = .bx bldAt 0 2 0 0 := by rw [hfr 4 rfl]; simp only [go_sem, Nat.reduceEqDiff, Nat.reduceAdd, Nat.reduceLeDiff]; rfl
      have hle := textD_le hmay
      (repeat' first
    | refine w_seq ?_ | refine w_rg ?_ | refine wo_nil ?_ | refine g_skU ?_
    | ((first | apply s_plain | apply s_void | apply s_guard); · simp only [go_sem, Nat.reduceEqDiff, Nat.reduceAdd, Nat.reduceLeDiff]; (first | done | rfl))
    | ((first | apply g_T | apply g_F); · intro hb; simp only [go_sem, Nat.reduceEqDiff, Nat.reduceAdd, Nat.reduceLeDiff, hb]; (first | done | rfl))
    | ((first | apply g_gT | apply g_gF); · intro hb hc; simp only [go_sem, Nat.reduceEqDiff, Nat.reduceAdd, Nat.reduceLeDiff, hb, hc]; (first | done | rfl))
    | refine g_skT ?_ | refine g_skF ?_
    | ((first | apply g_goT | apply g_goF); · simp only [go_sem, Nat.reduceEqDiff, Nat.reduceAdd, Nat.reduceLeDiff]; (first | done | rfl))
    | fail
    )
      refine s_ln N z4 hb ?_
      by_cases hc : (textD l).length > 8192
      · have hd : decide (((textD l).length : Int) > 8192) = true := by simp; omega
        have hp : printD l = ([], 2) := by unfold printD; rw [hr, if_pos rfl, if_pos hc]
        (repeat' first
    | refine w_seq ?_ | refine w_rg ?_ | refine wo_nil ?_ | refine g_skU ?_
    | ((first | apply s_plain | apply s_void | apply s_guard); · simp only [go_sem, Nat.reduceEqDiff, Nat.reduceAdd, Nat.reduceLeDiff, hd]; (first | done | rfl))
    | ((first | apply g_T | apply g_F); · intro hb; simp only [go_sem, Nat.reduceEqDiff, Nat.reduceAdd, Nat.reduceLeDiff, hd, hb]; (first | done | rfl))
    | ((first | apply g_gT | apply g_gF); · intro hb hc; simp only [go_sem, Nat.reduceEqDiff, Nat.reduceAdd, Nat.reduceLeDiff, hd, hb, hc]; (first | done | rfl))
    | refine g_skT ?_ | refine g_skF ?_
    | ((first | apply g_goT | apply g_goF); · simp only [go_sem, Nat.reduceEqDiff, Nat.reduceAdd, Nat.reduceLeDiff, hd]; (first | done | rfl))
    | (refine w_condT ?_ ?_; · simp only [go_sem, Nat.reduceEqDiff, Nat.reduceAdd, Nat.reduceLeDiff, hd]; (first | done | rfl))
    | (refine w_condF ?_ ?_; · simp only [go_sem, Nat.reduceEqDiff, Nat.reduceAdd, Nat.reduceLeDiff, hd]; (first | done | rfl))
    | refine w_skip ?_ | refine w_exit ?_ | refine w_ret ?_
    | fail
    )
        exact ⟨by first | exact .inr rfl | exact .inr trivial | exact .inl rfl, by simp only [go_sem, Nat.reduceEqDiff, Nat.reduceAdd, Nat.reduceLeDiff, retOf, resOf, hp]; first | done | rfl⟩
      · have hd : decide (((textD l).length : Int) > 8192) = false := by simp; omega
        have hp : printD l = (textD l, 0) := by unfold printD; rw [hr, if_pos rfl, if_neg hc]
        (repeat' first
    | refine w_seq ?_ | refine w_rg ?_ | refine wo_nil ?_ | refine g_skU ?_
    | ((first | apply s_plain | apply s_void | apply s_guard); · simp only [go_sem, Nat.reduceEqDiff, Nat.reduceAdd, Nat.reduceLeDiff, hd]; (first | done | rfl))
    | ((first | apply g_T | apply g_F); · intro hb; simp only [go_sem, Nat.reduceEqDiff, Nat.reduceAdd, Nat.reduceLeDiff, hd, hb]; (first | done | rfl))
    | ((first | apply g_gT | apply g_gF); · intro hb hc; simp only [go_sem, Nat.reduceEqDiff, Nat.reduceAdd, Nat.reduceLeDiff, hd, hb, hc]; (first | done | rfl))
    | refine g_skT ?_ | refine g_skF ?_
    | ((first | apply g_goT | apply g_goF); · simp only [go_sem, Nat.reduceEqDiff, Nat.reduceAdd, Nat.reduceLeDiff, hd]; (first | done | rfl))
    | (refine w_condT ?_ ?_; · simp only [go_sem, Nat.reduceEqDiff, Nat.reduceAdd, Nat.reduceLeDiff, hd]; (first | done | rfl))
    | (refine w_condF ?_ ?_; · simp only [go_sem, Nat.reduceEqDiff, Nat.reduceAdd, Nat.reduceLeDiff, hd]; (first | done | rfl))
    | refine w_skip ?_ | refine w_exit ?_ | refine w_ret ?_
    | fail
    )
        refine s_st (d := 48) (t := 4) S (g := 0) (bs := textD l) (by simp only [go_sem, Nat.reduceEqDiff, Nat.reduceAdd, Nat.reduceLeDiff, z4]) hb hF (by omega) ?_
        intro σ2 hk
        (repeat' first
    | refine w_seq ?_ | refine w_rg ?_ | refine wo_nil ?_ | refine g_skU ?_
    | ((first | apply s_plain | apply s_void | apply s_guard); · simp only [go_sem, Nat.reduceEqDiff, Nat.reduceAdd, Nat.reduceLeDiff]; (first | done | rfl))
    | ((first | apply g_T | apply g_F); · intro hb; simp only [go_sem, Nat.reduceEqDiff, Nat.reduceAdd, Nat.reduceLeDiff, hb]; (first | done | rfl))
    | ((first | apply g_gT | apply g_gF); · intro hb hc; simp only [go_sem, Nat.reduceEqDiff, Nat.reduceAdd, Nat.reduceLeDiff, hb, hc]; (first | done | rfl))
    | refine g_skT ?_ | refine g_skF ?_
    | ((first | apply g_goT | apply g_goF); · simp only [go_sem, Nat.reduceEqDiff, Nat.reduceAdd, Nat.reduceLeDiff]; (first | done | rfl))
    | (refine w_condT ?_ ?_; · simp only [go_sem, Nat.reduceEqDiff, Nat.reduceAdd, Nat.reduceLeDiff]; (first | done | rfl))
    | (refine w_condF ?_ ?_; · simp only [go_sem, Nat.reduceEqDiff, Nat.reduceAdd, Nat.reduceLeDiff]; (first | done | rfl))
    | refine w_skip ?_ | refine w_exit ?_ | refine w_ret ?_
    | fail
    )
        exact ⟨by first | exact .inr rfl | exact .inr trivial | exact .inl rfl, by simp only [go_sem, Nat.reduceEqDiff, Nat.reduceAdd, Nat.reduceLeDiff, retOf, resOf, hp]; first | done | rfl⟩
end
end Go.Proofs.YtdlfomiclkpibaaDoorPv
namespace Go.Proofs.YtdlfomiclkpibaaDoorPv
open Go
set_option linter.unusedSimpArgs false
set_option linter.unusedVariables false
/-! ### a text cut at a byte -/
theorem pre1 (c b : UInt8) (l : List UInt8) : [c].isPrefixOf (b :: l) = (c == b) := by simp [List.isPrefixOf]
theorem idx1_no {c : UInt8} : ∀ {s : List UInt8}, c ∉ s → Lib.index s [c] = -1
  | [], _ => rfl
  | b :: l, h => by
    simp only [List.mem_cons, not_or] at h
    have ih := idx1_no h.2
    rw [Lib.index, pre1, ih]
    rw [if_neg (by simp [h.1])]
    rfl
theorem idx1_at {c : UInt8} : ∀ {a b : List UInt8}, c ∉ a → Lib.index (a ++ c :: b) [c] = a.length
  | [], b, _ => by
    rw [List.nil_append, Lib.index, pre1, if_pos (by simp)]; rfl
  | x :: a, b, h => by
    simp only [List.mem_cons, not_or] at h
    have ih := idx1_at (b := b) h.2
    rw [List.cons_append, Lib.index, pre1, ih, if_neg (by simp [h.1])]
    have : ((a.length : Int) == -1) = false := by simp
    rw [this]
    simp
theorem cut1_no {c : UInt8} {s : List UInt8} (h : c ∉ s) : Lib.cut s [c] = (s, [], false) := by
  unfold Lib.cut; rw [idx1_no h, if_neg (by omega)]
theorem cut1_at {c : UInt8} {a b : List UInt8} (h : c ∉ a) : Lib.cut (a ++ c :: b) [c] = (a, b, true) := by
  unfold Lib.cut; rw [idx1_at h, if_pos (by omega)]
  simp
theorem split1 (c : UInt8) (s : List UInt8) : c ∉ s ∨ ∃ a b, s = a ++ c :: b ∧ c ∉ a := by
  induction s with
  | nil => exact .inl (by simp)
  | cons x l ih =>
    by_cases hx : c = x
    · exact .inr ⟨[], l, by rw [hx]; rfl, by simp⟩
    · rcases ih with h | ⟨a, b, rfl, h⟩
      · exact .inl (by simp [hx, h])
      · exact .inr ⟨x :: a, b, rfl, by simp [hx, h]⟩
/-! ### lines -/
/-- The lines of a text, and what stands behind the last one. -/
def linesD : List UInt8 → List (List UInt8) × List UInt8
  | [] => ([], [])
  | c :: s => if c = 10 then ([] :: (linesD s).1, (linesD s).2) else match linesD s with
    | ([], r) => ([], c :: r)
    | (x :: l, r) => ((c :: x) :: l, r)
def unl (l : List (List UInt8)) : List UInt8 := l.flatMap fun x => x ++ [10]
theorem linesD_no : ∀ {s : List UInt8}, 10 ∉ s → linesD s = ([], s)
  | [], _ => rfl
  | c :: s, h => by
    simp only [List.mem_cons, not_or] at h
    rw [linesD, if_neg (fun e => h.1 e.symm), linesD_no h.2]
theorem linesD_at : ∀ {a b : List UInt8}, 10 ∉ a → linesD (a ++ 10 :: b) = (a :: (linesD b).1, (linesD b).2)
  | [], b, _ => by rw [List.nil_append, linesD, if_pos rfl]
  | x :: a, b, h => by
    simp only [List.mem_cons, not_or] at h
    rw [List.cons_append, linesD, if_neg (fun e => h.1 e.symm), linesD_at h.2]
theorem linesD_unl : ∀ (s : List UInt8), unl (linesD s).1 ++ (linesD s).2 = s
  | [] => rfl
  | c :: s => by
    have ih := linesD_unl s
    rw [linesD]
    by_cases hc : c = 10
    · rw [if_pos hc, hc]
      simp only [unl, List.flatMap_cons, List.nil_append, List.cons_append]
      simp only [unl] at ih
      rw [ih]
    · rw [if_neg hc]
      generalize linesD s = q at ih
      obtain ⟨l, r⟩ := q
      cases l with
      | nil => simp only [unl, List.flatMap_nil, List.nil_append] at ih ⊢; rw [ih]
      | cons x l => simp only [unl, List.flatMap_cons, List.cons_append, List.append_assoc] at ih ⊢; rw [ih]
theorem linesD_row : ∀ (s : List UInt8), ∀ r ∈ (linesD s).1, 10 ∉ r
  | [] => fun r h => by simp [linesD] at h
  | c :: s => by
    have ih := linesD_row s
    rw [linesD]
    by_cases hc : c = 10
    · rw [if_pos hc]
      intro r hr
      simp only [List.mem_cons] at hr
      rcases hr with rfl | hr
      · simp
      · exact ih r hr
    · rw [if_neg hc]
      generalize linesD s = q at ih
      obtain ⟨l, t⟩ := q
      cases l with
      | nil => intro r hr; simp at hr
      | cons x l =>
        intro r hr
        simp only [List.mem_cons] at hr
        rcases hr with rfl | hr
        · have := ih x (by simp)
          simp only [List.mem_cons, not_or]
          exact ⟨fun e => hc e.symm, this⟩
        · exact ih r (by simp [hr])
theorem linesD_of {l : List (List UInt8)} (h : ∀ r ∈ l, 10 ∉ r) (t : List UInt8) : linesD (unl l ++ t) = (l ++ (linesD t).1, (linesD t).2) := by
  induction l with
  | nil => rfl
  | cons x l ih =>
    have ih := ih fun r hr => h r (List.mem_cons_of_mem _ hr)
    have e : unl (x :: l) ++ t = x ++ 10 :: (unl l ++ t) := by simp [unl]
    rw [e, linesD_at (h x List.mem_cons_self), ih]
    rfl
theorem linesD_app {s : List UInt8} (h : (linesD s).2 = []) (t : List UInt8) : linesD (s ++ t) = ((linesD s).1 ++ (linesD t).1, (linesD t).2) := by
  have e := linesD_unl s
  rw [h, List.append_nil] at e
  have := linesD_of (linesD_row s) t
  rw [e] at this
  exact this
theorem linesD_rows {l : List (List UInt8)} (h : ∀ r ∈ l, 10 ∉ r) : linesD (unl l) = (l, []) := by
  have := linesD_of h []
  simpa [linesD] using this
theorem linesD_rest (s : List UInt8) : 10 ∉ (linesD s).2 := by
  induction s with
  | nil => simp [linesD]
  | cons c s ih =>
    rw [linesD]
    by_cases hc : c = 10
    · rw [if_pos hc]; exact ih
    · rw [if_neg hc]
      generalize linesD s = q at ih
      obtain ⟨l, t⟩ := q
      cases l with
      | nil => simp only [List.mem_cons, not_or]; exact ⟨fun e => hc e.symm, ih⟩
      | cons x l => exact ih
/-! ### what a line is read as -/
/-- What stands ahead of an end, and whether it does end so. -/
def cutSuf (s t : List UInt8) : List UInt8 := if t.isSuffixOf s then s.take (s.length - t.length) else s
def begP : List UInt8 := [100, 101, 102, 105, 110, 101, 32]
def begS : List UInt8 := [32, 123]
def begK (s : List UInt8) : List UInt8 := cutSuf (cutPre s begP) begS
def begOk (s : List UInt8) : Bool := begP.isPrefixOf s && begS.isSuffixOf (cutPre s begP) && wordD (begK s)
/-- The key and the value of a line. -/
def keyK (s : List UInt8) : List UInt8 := (Lib.cut (cutPre s [9]) [9]).1
def keyV (s : List UInt8) : List UInt8 := (Lib.cut (cutPre s [9]) [9]).2.1
def keyOk (s : List UInt8) : Bool := [9].isPrefixOf s && (Lib.cut (cutPre s [9]) [9]).2.2 && wordD (keyK s) && valD (keyV s)
def spB (c : UInt8) : Bool := c == 32 || c == 9
/-- Is a line left out? -/
def blankD (s : List UInt8) : Bool := match s.dropWhile spB with
  | [] => true
  | c :: _ => c == 35 || c == 59
/-- Blocks so far, and the one that is open. -/
structure Rs where
  all : List Df
  now : Option Df
def outD (r : Rs) (s : List UInt8) : Option Rs := if begOk s ∧ r.all.length < 64 then some ⟨r.all, some ⟨begK s, [], []⟩⟩ else none
def inD (r : Rs) (d : Df) (s : List UInt8) : Option Rs :=
  if s = [125] then some ⟨r.all ++ [d], none⟩
  else if keyOk s = true ∧ d.ks.contains (keyK s) = false ∧ d.ks.length ≠ 64 then some ⟨r.all, some ⟨d.ty, d.ks ++ [keyK s], d.vs ++ [keyV s]⟩⟩ else none
def stepD (r : Rs) (s : List UInt8) : Option Rs :=
  if blankD s then some r else match r.now with
    | none => outD r s
    | some d => inD r d s
/-- Lines are read: behind them, or which one is not as it must be. -/
def runD : Rs → List (List UInt8) → Nat → Nat ⊕ (Rs × Nat)
  | r, [], n => .inr (r, n)
  | r, s :: l, n => match stepD r s with
    | none => .inl n
    | some r' => runD r' l (n + 1)
def endD (t : List UInt8) : Nat ⊕ (Rs × Nat) → List Df × Int × Int
  | .inl n => ([], 250, n)
  | .inr (r, n) => if t = [] ∧ r.now = none then (r.all, 0, 0) else ([], 250, n)
def parseD (s : List UInt8) : List Df × Int × Int := if s.length > 8192 then ([], 2, 0) else endD (linesD s).2 (runD ⟨[], none⟩ (linesD s).1 1)
theorem runD_app (l m : List (List UInt8)) : ∀ (r : Rs) (n : Nat), runD r (l ++ m) n = match runD r l n with
    | .inl k => .inl k
    | .inr (r', n') => runD r' m n' := by
  induction l with
  | nil => intro r n; rfl
  | cons s l ih =>
    intro r n
    rw [List.cons_append, runD, runD]
    cases stepD r s with
    | none => rfl
    | some r' => exact ih r' (n + 1)
theorem runD_num (l : List (List UInt8)) : ∀ (r : Rs) (n k : Nat), runD r l (n + k) = match runD r l n with
    | .inl j => .inl (j + k)
    | .inr (r', j) => .inr (r', j + k) := by
  induction l with
  | nil => intro r n k; rfl
  | cons s l ih =>
    intro r n k
    rw [runD, runD]
    cases stepD r s with
    | none => rfl
    | some r' =>
      have := ih r' (n + 1) k
      rw [show n + 1 + k = n + k + 1 by omega] at this
      exact this
theorem runD_at (l : List (List UInt8)) : ∀ (r r' : Rs) (n j : Nat), runD r l n = .inr (r', j) → j = n + l.length := by
  induction l with
  | nil => intro r r' n j h; simp only [runD, Sum.inr.injEq, Prod.mk.injEq] at h; simp [h.2]
  | cons s l ih =>
    intro r r' n j h
    rw [runD] at h
    split at h
    · cases h
    · rename_i q _
      have := ih q r' (n + 1) j h
      simp; omega
theorem runD_bad (l : List (List UInt8)) : ∀ (r : Rs) (n j : Nat), runD r l n = .inl j → n ≤ j ∧ j < n + l.length := by
  induction l with
  | nil => intro r n j h; simp [runD] at h
  | cons s l ih =>
    intro r n j h
    rw [runD] at h
    split at h
    · simp only [Sum.inl.injEq] at h; simp; omega
    · rename_i q _
      have := ih q (n + 1) j h
      simp; omega
/-! ### what is read as blocks: they may be, and have that text -/
def May (r : Rs) : Prop := r.all.length ≤ 64 ∧ (∀ d ∈ r.all, d.May) ∧ match r.now with
  | none => True
  | some d => d.May ∧ r.all.length < 64
def textR (r : Rs) : List UInt8 := textD r.all ++ match r.now with
  | none => []
  | some d => headD d ++ rowsD d d.ks.length
theorem rowsD_more (d : Df) (k v : List UInt8) (he : d.ks.length = d.vs.length) : rowsD ⟨d.ty, d.ks ++ [k], d.vs ++ [v]⟩ (d.ks.length + 1) = rowsD d d.ks.length ++ ([9] ++ k ++ [9] ++ v ++ [10]) := by
  rw [rowsD_succ]
  congr 1
  · unfold rowsD
    rw [List.flatMap_def, List.flatMap_def]
    congr 1
    apply List.map_congr_left
    intro i hi
    rw [List.mem_range] at hi
    unfold rowD
    simp only
    rw [List.getD_eq_getElem?_getD, List.getD_eq_getElem?_getD, List.getD_eq_getElem?_getD, List.getD_eq_getElem?_getD, List.getElem?_append_left hi, List.getElem?_append_left (by omega)]
  · unfold rowD
    simp only
    rw [List.getD_eq_getElem?_getD, List.getD_eq_getElem?_getD, List.getElem?_append_right (Nat.le_refl _), he, List.getElem?_append_right (Nat.le_refl _)]
    simp
theorem pre_drop {s t : List UInt8} (h : t.isPrefixOf s = true) : s = t ++ s.drop t.length := by
  rw [List.isPrefixOf_iff_prefix] at h
  obtain ⟨r, rfl⟩ := h
  simp
theorem suf_take {s t : List UInt8} (h : t.isSuffixOf s = true) : s = s.take (s.length - t.length) ++ t := by
  rw [List.isSuffixOf_iff_suffix] at h
  obtain ⟨r, rfl⟩ := h
  simp
theorem begOk_eq {s : List UInt8} (h : begOk s = true) : s ++ [10] = headD ⟨begK s, [], []⟩ ∧ wordD (begK s) = true := by
  unfold begOk at h
  simp only [Bool.and_eq_true] at h
  obtain ⟨⟨h1, h2⟩, h3⟩ := h
  refine ⟨?_, h3⟩
  have e1 := pre_drop h1
  have e2 : cutPre s begP = s.drop begP.length := by unfold cutPre; rw [if_pos h1]
  have e3 : begK s = (s.drop begP.length).take ((s.drop begP.length).length - begS.length) := by
    unfold begK cutSuf
    rw [if_pos h2, e2]
  rw [e2] at h2
  have e4 := suf_take h2
  unfold headD
  rw [e3]
  simp only
  conv => lhs; rw [e1, e4]
  simp [begP, begS]
theorem keyOk_eq {s : List UInt8} (h : keyOk s = true) : s = [9] ++ keyK s ++ [9] ++ keyV s ∧ wordD (keyK s) = true ∧ valD (keyV s) = true := by
  unfold keyOk at h
  simp only [Bool.and_eq_true] at h
  obtain ⟨⟨⟨h1, h2⟩, h3⟩, h4⟩ := h
  refine ⟨?_, h3, h4⟩
  have e1 := pre_drop h1
  have e2 : cutPre s [9] = s.drop 1 := by unfold cutPre; rw [if_pos h1]; rfl
  unfold keyK keyV
  rw [e2] at h2 ⊢
  rcases split1 9 (s.drop 1) with hn | ⟨a, b, hab, hn⟩
  · rw [cut1_no hn] at h2; cases h2
  · rw [hab, cut1_at hn]
    simp only
    rw [e1]
    show [9] ++ s.drop 1 = _
    rw [hab]
    simp
theorem stepD_may {r r' : Rs} {s : List UInt8} (h : May r) (hs : stepD r s = some r') : May r' ∧ textR r' = textR r ++ (if blankD s then [] else s ++ [10]) := by
  unfold stepD at hs
  by_cases hb : blankD s = true
  · rw [if_pos hb] at hs ⊢
    simp only [Option.some.injEq] at hs
    subst hs
    exact ⟨h, by simp⟩
  · rw [if_neg hb] at hs ⊢
    obtain ⟨h1, h2, h3⟩ := h
    obtain ⟨all, now⟩ := r
    cases now with
    | none =>
      simp only [outD] at hs
      split at hs
      · rename_i hc
        simp only [Option.some.injEq] at hs
        subst hs
        obtain ⟨e1, e2⟩ := begOk_eq hc.1
        refine ⟨⟨h1, h2, ⟨⟨e2, by simp, rfl, fun i hi => by simp at hi, fun v hv => by simp at hv⟩, hc.2⟩⟩, ?_⟩
        simp only [textR, List.append_nil]
        rw [e1]
        simp [rowsD]
      · cases hs
    | some d =>
      obtain ⟨h4, h5⟩ := h3
      simp only [inD] at hs
      split at hs
      · rename_i hc
        simp only [Option.some.injEq] at hs
        subst hs
        simp only at h5
        refine ⟨⟨by simp; omega, ?_, trivial⟩, ?_⟩
        · intro x hx
          rcases List.mem_append.1 hx with hx | hx
          · exact h2 x hx
          · simp only [List.mem_singleton] at hx; subst hx; exact h4
        · simp only [textR, textD, List.flatMap_append, List.flatMap_cons, List.flatMap_nil, blockD, hc, List.append_nil, List.append_assoc, List.cons_append, List.nil_append]
      · split at hs
        · rename_i hc
          simp only [Option.some.injEq] at hs
          subst hs
          obtain ⟨e1, e2, e3⟩ := keyOk_eq hc.1
          have hlt : d.ks.length < 64 := Nat.lt_of_le_of_ne h4.n hc.2.2
          refine ⟨⟨h1, h2, ⟨⟨h4.ty, by simp; omega, by simp [h4.e], ?_, ?_⟩, h5⟩⟩, ?_⟩
          · intro i hi
            simp only [List.length_append, List.length_cons, List.length_nil] at hi
            by_cases hlt : i < d.ks.length
            · have := h4.ks i hlt
              simp only
              rw [List.getD_eq_getElem?_getD, List.getElem?_append_left hlt, ← List.getD_eq_getElem?_getD, List.take_append_of_le_length (by omega)]
              exact this
            · have hi' : i = d.ks.length := by omega
              subst hi'
              simp only
              rw [List.getD_eq_getElem?_getD, List.getElem?_append_right (Nat.le_refl _), List.take_append_of_le_length (by omega), List.take_length]
              simp only [Nat.sub_self, List.getElem?_cons_zero, Option.getD_some]
              exact ⟨e2, hc.2.1⟩
          · intro v hv
            rcases List.mem_append.1 hv with hv | hv
            · exact h4.vs v hv
            · simp only [List.mem_singleton] at hv; subst hv; exact e3
          · have hm := rowsD_more d (keyK s) (keyV s) h4.e
            simp only [textR, List.length_append, List.length_cons, List.length_nil, Nat.zero_add, headD]
            rw [hm]
            conv => rhs; rw [e1]
            simp [headD]
        · cases hs
theorem runD_may : ∀ (l : List (List UInt8)) (r r' : Rs) (n j : Nat), May r → runD r l n = .inr (r', j) → May r' ∧ textR r' = textR r ++ unl (l.filter fun s => !blankD s)
  | [], r, r', n, j, h, hr => by
    simp only [runD, Sum.inr.injEq, Prod.mk.injEq] at hr
    rw [← hr.1]
    exact ⟨h, by simp [unl]⟩
  | s :: l, r, r', n, j, h, hr => by
    rw [runD] at hr
    split at hr
    · cases hr
    · rename_i q hq
      obtain ⟨h1, h2⟩ := stepD_may h hq
      obtain ⟨h3, h4⟩ := runD_may l q r' (n + 1) j h1 hr
      refine ⟨h3, ?_⟩
      rw [h4, h2, List.filter_cons]
      cases hb : blankD s <;> simp [unl]
theorem may0 : May ⟨[], none⟩ := ⟨by simp, fun d h => by simp at h, trivial⟩
theorem may_right {l : List Df} (h : May ⟨l, none⟩) : rightD l = true := by
  unfold rightD
  simp only [Bool.and_eq_true, decide_eq_true_eq, List.all_eq_true]
  exact ⟨h.1, fun d hd => (mayD_iff d).2 (h.2.1 d hd)⟩
theorem parseD_ok {s : List UInt8} {l : List Df} {at_ : Int} (h : parseD s = (l, 0, at_)) : at_ = 0 ∧ s.length ≤ 8192 ∧ (linesD s).2 = [] ∧ rightD l = true ∧ textD l = unl ((linesD s).1.filter fun r => !blankD r) ∧ ∃ k, runD ⟨[], none⟩ (linesD s).1 1 = .inr (⟨l, none⟩, k) := by
  unfold parseD at h
  split at h
  · simp at h
  · rename_i hl
    cases hr : runD ⟨[], none⟩ (linesD s).1 1 with
    | inl n => rw [hr] at h; simp [endD] at h
    | inr q =>
      obtain ⟨r, n⟩ := q
      rw [hr] at h
      simp only [endD] at h
      split at h
      · rename_i hc
        simp only [Prod.mk.injEq] at h
        obtain ⟨m1, m2⟩ := runD_may _ _ _ _ _ may0 hr
        obtain ⟨all, now⟩ := r
        obtain ⟨c1, c2⟩ := hc
        simp only at c2 h
        subst c2
        obtain ⟨rfl, _, h0⟩ := h
        refine ⟨h0.symm, by omega, c1, may_right m1, ?_, n, rfl⟩
        simpa [textR, textD] using m2
      · simp at h
theorem parseD_err {s : List UInt8} (h : (parseD s).2.1 ≠ 0) : (parseD s).1 = [] ∧ ((parseD s).2.1 = 250 ∨ (parseD s).2.1 = 2 ∧ s.length > 8192) := by
  unfold parseD at h ⊢
  split
  · rename_i hl; exact ⟨rfl, .inr ⟨rfl, hl⟩⟩
  · rename_i hl
    rw [if_neg hl] at h
    cases hr : runD ⟨[], none⟩ (linesD s).1 1 with
    | inl n => exact ⟨rfl, .inl rfl⟩
    | inr q =>
      rw [hr] at h
      simp only [endD] at h ⊢
      split
      · rename_i hc; rw [if_pos hc] at h; simp at h
      · exact ⟨rfl, .inl rfl⟩
theorem inD_iff (r : Rs) (d : Df) (s : List UInt8) (h : s ≠ [125]) : inD r d s = if (!(keyOk s && !d.ks.contains (keyK s) && !decide (d.ks.length = 64))) = true then none else some ⟨r.all, some ⟨d.ty, d.ks ++ [keyK s], d.vs ++ [keyV s]⟩⟩ := by
  unfold inD
  rw [if_neg h]
  by_cases h1 : keyOk s = true <;> by_cases h2 : d.ks.contains (keyK s) = true <;> by_cases h3 : d.ks.length = 64 <;> simp [h1, h2, h3]
end Go.Proofs.YtdlfomiclkpibaaDoorPv
namespace Go.Proofs.YtdlfomiclkpibaaDoorPv
open Go
set_option linter.unusedSimpArgs false
set_option linter.unusedVariables false
set_option maxHeartbeats 4000000
attribute [local go_sem ↓] e_mv e_pick e_bin e_eqs e_beq e_un e_cvi e_str e_s2b e_b2s e_box e_build e_bsl e_ld e_st e_nck e_mkf e_slcS e_slcL e_fa e_fld e_ia e_iaa e_ix e_ixa e_ext e_lenS e_lenL e_mnmx e_app e_appb e_bbx e_msl e_clr e_call e_callv pa_t pa_c pa_f slcSP_str hiOf_some hiOf_none loOf_some loOf_none set_eq set_ne
attribute [local go_sem] pv pv1 simple frOf_0 frOf_1 frOf_2 frOf_3 frOf_4 frOf_5 ne_eq not_false_eq_true if_true Bool.false_eq_true if_false pbin punary Option.map_some Option.bind_some pick_and pick_or opt_true Bool.true_and Bool.and_self Bool.and_true Bool.true_or Bool.false_or Bool.not_true Bool.not_false callE pcall_eq List.map_cons List.map_nil List.append_nil List.nil_append List.cons_append mapM_cons' mapM_nil' dep_eq fz_sc fz_sl fz_em fz_fn fz_fp fz_agg fz_tu fz_bx fz_ob Nat.lt_irrefl Nat.zero_lt_one Nat.lt_add_one flat clL cl Bool.or_true okc_sc okc_em okc_sl okc_ob okc_bx okc_fp okc_fn okc_agg okc_ifc cells_agg cells_sc cells_sl cells_em cells_ob cells_fn cells_bx cells_fp List.length_cons List.length_nil Nat.zero_add and_self true_and and_true new_m new_c put_m put_c nil_m nil_c deref List.getElem?_cons_zero List.getElem?_cons_succ List.drop_zero List.drop_succ_cons List.take_succ_cons List.take_zero Nat.le_refl false_and and_false decide_true decide_false lenP_em lenP_nil lenP_sl lenP_ob Int.ofNat_zero
set_option maxRecDepth 8000
section
variable {env : Nat → Option Def} {fr : Fr} {σ σ' : St} {K : Fr → St → Prop} {Q : X → Fr → St → Prop}
/-- What has been gathered: nothing, or an object of one's own, made at one of some places. -/
def Gat (σ : St) (os : List Nat) (es : Nat) (w : Bool) (p : PV) (xs : List PV) : Prop := (p = .em ∧ xs = []) ∨ ∃ o g wr, o ∈ os ∧ p = .ob o g es 0 xs.length ∧ σ.m o g = some ⟨es, xs, true, wr⟩ ∧ g < σ.c o ∧ xs ≠ [] ∧ (w = true → wr = true)
theorem Gat.em {os : List Nat} {es : Nat} {w : Bool} : Gat σ os es w .em [] := .inl ⟨rfl, rfl⟩
theorem Gat.new {os : List Nat} {es : Nat} {w : Bool} {p : PV} {xs : List PV} (h : Gat σ os es w p xs) {d : Nat} (y : Obj) : Gat (σ.new d y) os es w p xs := by
  rcases h with h | ⟨o, g, wr, h0, h1, h2, h3, h4⟩
  · exact .inl h
  · refine .inr ⟨o, g, wr, h0, h1, ?_, ?_, h4⟩
    · simp only [new_m]; rw [if_neg (fun h => by obtain ⟨rfl, rfl⟩ := h; omega)]; exact h2
    · simp only [new_c]; split
      · rename_i h; subst h; omega
      · exact h3
theorem Gat.put {os : List Nat} {es : Nat} {w : Bool} {p : PV} {xs : List PV} (h : Gat σ os es w p xs) {d k : Nat} (hd : d ∉ os) (y : Option Obj) : Gat (σ.put d k y) os es w p xs := by
  rcases h with h | ⟨o, g, wr, h0, h1, h2, h3, h4⟩
  · exact .inl h
  · refine .inr ⟨o, g, wr, h0, h1, ?_, ?_, h4⟩
    · simp only [put_m]; rw [if_neg (fun (h : o = d ∧ g = k) => hd (h.1 ▸ h0))]; exact h2
    · simp only [put_c]; exact h3
theorem Gat.fz {os : List Nat} {es : Nat} {w : Bool} {p : PV} {xs : List PV} (h : Gat σ os es w p xs) (hx : xs.mapM (fz σ 11) = some xs) : fz σ 12 p = some (.sl xs) := by
  rcases h with ⟨rfl, rfl⟩ | ⟨o, g, wr, _, rfl, h2, _⟩
  · rfl
  · rw [fz_ob, h2]
    simp [hx]
theorem gat_app {E : Ev} {d es by_ : Nat} {os : List Nat} {w kw : Bool} {s' x : PA} {xs : List PV} {e : PV} (hg : Gat σ os es w (pa fr s') xs) (hd : d ∈ os) (hsrc : srcOf σ es (pa fr x) = some [e]) (hok : okc e = true) (hl : (cellsOf e).length = es) (hb : (xs.length + 1) * by_ ≤ 70368744177664) :
    ∃ p σ', evO E d fr σ (.app es by_ kw s' x) = some (p, σ') ∧ Gat σ' os es (w && kw) p (xs ++ [e]) := by
  have hall : ([e].all fun y => okc y && (cellsOf y).length == es) = true := by simp [hok, hl]
  rcases hg with ⟨h1, rfl⟩ | ⟨o, g, wr, h0, h1, h2, h3, h4, h5⟩
  · refine ⟨.ob d (σ.c d) es 0 1, σ.new d ⟨es, [e], true, true⟩, ?_, .inr ⟨d, σ.c d, true, hd, rfl, by simp [new_m], by simp [new_c], by simp, fun _ => rfl⟩⟩
    simp only [evO, hsrc, Option.bind_some, hall, if_true, h1]
    rw [if_pos (by simpa using hb)]
    rfl
  · refine ⟨.ob d (σ.c d) es 0 (xs.length + 1), (σ.put o g (if kw then none else some ⟨es, xs, false, false⟩)).new d ⟨es, xs ++ [e], true, wr && kw⟩, ?_, .inr ⟨d, σ.c d, wr && kw, hd, by simp, by simp [new_m, put_c], by simp [new_c, put_c], by simp, fun h => ?_⟩⟩
    · simp only [evO, hsrc, Option.bind_some, hall, if_true, h1, h2]
      simp
      simpa using hb
    · simp only [Bool.and_eq_true] at h ⊢
      exact ⟨h5 h.1, h.2⟩
theorem s_gat {d t es by_ : Nat} {os : List Nat} {w kw : Bool} {x : PA} {xs : List PV} {e : PV} {ops : List POp} (hg : Gat σ os es w (fr t) xs) (hd : d ∈ os) (hsrc : srcOf σ es (pa fr x) = some [e]) (hok : okc e = true) (hl : (cellsOf e).length = es) (hb : (xs.length + 1) * by_ ≤ 70368744177664)
    (h2 : ∀ p σ', Gat σ' os es (w && kw) p (xs ++ [e]) → Wos env ops K (fr.set d p) σ') : Wos env (⟨some d, none, .app es by_ kw (.t t) x⟩ :: ops) K fr σ := by
  obtain ⟨p, σ', h3, h4⟩ := gat_app (E := EV env) (fr := fr) (s' := .t t) (x := x) (kw := kw) hg hd hsrc hok hl hb
  exact s_plain h3 (h2 p σ' h4)
theorem call_pure {f : Nat} {args as : List PV} {r : PV} (h1 : args.mapM (fz σ dep) = some as) (h2 : AV env f as = some r) : ∃ σ', callE (EV env) f .pure args σ = some (r, σ') := by
  simp only [callE, pcall_eq, h1, Option.bind_some, h2, Bool.false_eq_true, if_false]
  split
  · exact ⟨_, rfl⟩
  · exact ⟨_, rfl⟩
/-- A call of which only the answer matters. -/
theorem s_call {d f : Nat} {args : List PA} {as : List PV} {r : PV} {ops : List POp} (h1 : (args.map (pa fr)).mapM (fz σ dep) = some as) (h2 : AV env f as = some r) (h : ∀ σ', Wos env ops K (fr.set d r) σ') :
    Wos env (⟨some d, none, .call f .pure args⟩ :: ops) K fr σ := by
  obtain ⟨σ', h3⟩ := call_pure h1 h2
  exact s_plain (v := r) (σ' := σ') h3 (h σ')
theorem Gat.mono {os os' : List Nat} {es : Nat} {w : Bool} {p : PV} {xs : List PV} (h : Gat σ os es w p xs) (ho : ∀ o ∈ os, o ∈ os') : Gat σ os' es false p xs := by
  rcases h with h | ⟨o, g, wr, h0, h1, h2, h3, h4, _⟩
  · exact .inl h
  · exact .inr ⟨o, g, wr, ho o h0, h1, h2, h3, h4, fun h => by cases h⟩
/-- What stays, but for what lies at some places. -/
structure Keeps (σ σ' : St) (os : List Nat) : Prop where
  c : ∀ o, σ.c o ≤ σ'.c o
  m : ∀ o g, o ∉ os → g < σ.c o → σ'.m o g = σ.m o g
theorem Gat.keep {os os2 : List Nat} {es : Nat} {w : Bool} {p : PV} {xs : List PV} (h : Gat σ os es w p xs) (hk : Keeps σ σ' os2) (hd : ∀ o ∈ os, o ∉ os2) : Gat σ' os es w p xs := by
  rcases h with h | ⟨o, g, wr, h0, h1, h2, h3, h4⟩
  · exact .inl h
  · exact .inr ⟨o, g, wr, h0, h1, by rw [hk.m o g (hd o h0) h3]; exact h2, Nat.lt_of_lt_of_le h3 (hk.c o), h4⟩
theorem gat_appL {E : Ev} {d es by_ : Nat} {os : List Nat} {w kw : Bool} {s' x : PA} {xs ys : List PV} (hg : Gat σ os es w (pa fr s') xs) (hsrc : srcOf σ es (pa fr x) = some ys) (hall : (ys.all fun y => okc y && (cellsOf y).length == es) = true) (hb : (xs.length + ys.length) * by_ ≤ 70368744177664) :
    ∃ p σ', evO E d fr σ (.app es by_ kw s' x) = some (p, σ') ∧ Gat σ' [d] es (w && kw) p (xs ++ ys) ∧ Keeps σ σ' os := by
  rcases hg with ⟨h1, rfl⟩ | ⟨o, g, wr, h0, h1, h2, h3, h4, h5⟩
  · cases ys with
    | nil =>
      refine ⟨.em, σ, ?_, .em, ⟨fun _ => Nat.le_refl _, fun _ _ _ _ => rfl⟩⟩
      simp only [evO, hsrc, Option.bind_some, hall, if_true, h1]
      simp
    | cons y r =>
      refine ⟨.ob d (σ.c d) es 0 (y :: r).length, σ.new d ⟨es, y :: r, true, true⟩, ?_, .inr ⟨d, σ.c d, true, by simp, by simp, by simp [new_m], by simp [new_c], by simp, fun _ => rfl⟩, ⟨fun o => ?_, fun o g _ hlt => ?_⟩⟩
      · simp only [evO, hsrc, Option.bind_some, hall, if_true, h1]
        rw [if_pos (by simpa using hb)]
        rfl
      · simp only [new_c]; split
        · rename_i h; subst h; omega
        · exact Nat.le_refl _
      · simp only [new_m]; rw [if_neg (fun h => by obtain ⟨rfl, rfl⟩ := h; omega)]
  · refine ⟨.ob d (σ.c d) es 0 (xs.length + ys.length), (σ.put o g (if kw then none else some ⟨es, xs, false, false⟩)).new d ⟨es, xs ++ ys, true, wr && kw⟩, ?_, .inr ⟨d, σ.c d, wr && kw, by simp, by simp, by simp [new_m, put_c], by simp [new_c, put_c], by simp [h4], fun h => ?_⟩, ⟨fun o' => ?_, fun o' g' ho hlt => ?_⟩⟩
    · simp only [evO, hsrc, Option.bind_some, hall, if_true, h1, h2]
      simp
      simpa using hb
    · simp only [Bool.and_eq_true] at h ⊢
      exact ⟨h5 h.1, h.2⟩
    · simp only [new_c, put_c]; split
      · rename_i h; subst h; omega
      · exact Nat.le_refl _
    · simp only [new_m, put_m, put_c]
      have n1 : ¬ (o' = d ∧ g' = σ.c d) := fun h => by obtain ⟨rfl, rfl⟩ := h; omega
      have n2 : ¬ (o' = o ∧ g' = g) := fun h => ho (h.1 ▸ h0)
      simp only [n1, n2, if_false]
theorem s_gatL {d t es by_ : Nat} {os : List Nat} {w kw : Bool} {x : PA} {xs ys : List PV} {ops : List POp} (hg : Gat σ os es w (fr t) xs) (hsrc : srcOf σ es (pa fr x) = some ys) (hall : (ys.all fun y => okc y && (cellsOf y).length == es) = true) (hb : (xs.length + ys.length) * by_ ≤ 70368744177664)
    (h2 : ∀ p σ', Gat σ' [d] es (w && kw) p (xs ++ ys) → Keeps σ σ' os → Wos env ops K (fr.set d p) σ') : Wos env (⟨some d, none, .app es by_ kw (.t t) x⟩ :: ops) K fr σ := by
  obtain ⟨p, σ', h3, h4, h5⟩ := gat_appL (E := EV env) (d := d) (fr := fr) (s' := .t t) (x := x) (kw := kw) hg hsrc hall hb
  exact s_plain h3 (h2 p σ' h4 h5)
theorem gat_slc {os : List Nat} {es h l : Nat} {w : Bool} {p : PV} {xs : List PV} {lo hi : Option PA} (hg : Gat σ os es w p xs) (hh : hiOf xs.length fr hi = some h) (hl : loOf h fr lo = some l) (hle : h ≤ xs.length) (hll : l ≤ h) :
    ∃ q, slcLP es fr p lo hi = some q ∧ elemsOf σ q = some ((xs.take h).drop l) := by
  rcases hg with ⟨rfl, rfl⟩ | ⟨o, g, wr, h0, rfl, h2, h3, h4, h5⟩
  · refine ⟨.em, ?_, by simp [elemsOf]⟩
    simp only [slcLP]
    rw [show hiOf 0 fr hi = some h from hh]
    simp [hl]
  · refine ⟨.ob o g es (0 + l) (h - l), ?_, ?_⟩
    · simp only [slcLP, if_true, hh, Option.bind_some, hl]
    · simp only [elemsOf, h2]
      rw [if_pos ⟨trivial, by omega⟩]
      rw [List.drop_take]
      simp
theorem gat_len {os : List Nat} {es : Nat} {w : Bool} {p : PV} {xs : List PV} {E : Ev} {d t : Nat} (hg : Gat σ os es w p xs) (ht : fr t = p) : evO E d fr σ (.lenL (.t t)) = some (.sc (.int .i64 xs.length), σ) := by
  rcases hg with ⟨rfl, rfl⟩ | ⟨o, g, wr, h0, rfl, h2, h3, h4, h5⟩
  · simp [evO, pa, ht]
  · simp [evO, pa, ht]
theorem s_slc {d t es h l : Nat} {os : List Nat} {w : Bool} {xs : List PV} {lo hi : Option PA} {ops : List POp} (hg : Gat σ os es w (fr t) xs) (hh : hiOf xs.length fr hi = some h) (hl : loOf h fr lo = some l) (hle : h ≤ xs.length) (hll : l ≤ h)
    (h2 : ∀ q, elemsOf σ q = some ((xs.take h).drop l) → Wos env ops K (fr.set d q) σ) : Wos env (⟨some d, none, .slcL es (.t t) lo hi⟩ :: ops) K fr σ := by
  obtain ⟨q, h3, h4⟩ := gat_slc hg hh hl hle hll
  exact s_plain (v := q) (σ' := σ) (by simp only [evO, pa, h3, Option.map_some]) (h2 q h4)
theorem bound_nat {n i : Nat} {k : IntKind} (h : i ≤ n) : bound n (.sc (.int k (i : Int))) = some i := by
  simp only [bound]
  rw [if_pos (by omega)]
  rfl
theorem src_elems {es : Nat} {q : PV} {ys : List PV} (h : elemsOf σ q = some ys) : srcOf σ es q = some ys := by
  cases q with
  | sc v => simp [elemsOf] at h
  | _ => exact h
theorem gat_elems {os : List Nat} {es : Nat} {w : Bool} {p : PV} {xs : List PV} (hg : Gat σ os es w p xs) : elemsOf σ p = some xs := by
  rcases hg with ⟨rfl, rfl⟩ | ⟨o, g, wr, h0, rfl, h2, h3, h4, h5⟩
  · rfl
  · simp [elemsOf, h2]
theorem Gat.one {d es : Nat} {w : Bool} {p : PV} {xs : List PV} {os : List Nat} (h : Gat σ [d] es w p xs) (hd : d ∈ os) : Gat σ os es false p xs := h.mono (by intro o ho; simp at ho; subst ho; exact hd)
theorem gat_fzd {os : List Nat} {es d : Nat} {w : Bool} {p : PV} {xs : List PV} (h : Gat σ os es w p xs) (hx : xs.mapM (fz σ d) = some xs) : fz σ (d + 1) p = some (.sl xs) := by
  rcases h with ⟨rfl, rfl⟩ | ⟨o, g, wr, _, rfl, h2, _⟩
  · rfl
  · rw [fz_ob, h2]
    simp [hx]
/-- A call whose answer is no part of memory: nothing else changes. -/
theorem s_callF {d f : Nat} {args : List PA} {as : List PV} {r : PV} {ops : List POp} (h1 : (args.map (pa fr)).mapM (fz σ dep) = some as) (h2 : AV env f as = some r) (hf : flat r = true) (h : Wos env ops K (fr.set d r) σ) :
    Wos env (⟨some d, none, .call f .pure args⟩ :: ops) K fr σ := by
  refine s_plain (v := r) (σ' := σ) ?_ h
  simp only [evO, callE, pcall_eq, h1, Option.bind_some, h2, hf, Bool.true_or, if_true]
theorem Gat.lenP {os : List Nat} {es : Nat} {w : Bool} {p : PV} {xs : List PV} (h : Gat σ os es w p xs) : lenP p = some xs.length := by
  rcases h with ⟨rfl, rfl⟩ | ⟨o, g, wr, _, rfl, _⟩ <;> rfl
def cutS (n : Nat) (s : ByteArray) : ByteArray := s.extract 0 (min s.size n)
theorem mn2 (a b : Int) : mnmx false [.sc (.int .i64 a), .sc (.int .i64 b)] = some (.sc (.int .i64 (min a b))) := by
  simp only [mnmx, List.foldlM_cons, List.foldlM_nil, mn1, if_true, Bool.false_eq_true, if_false]
  have : (if b < a then b else a) = min a b := by
    rw [Int.min_def]; split <;> split <;> omega
  rw [this]; rfl
theorem slcS_cut (fr : Fr) (t n : Nat) (s : ByteArray) (h : fr t = .sc (.int .i64 (min (s.size : Int) (n : Int)))) : slcSP fr (.sc (.string s)) none (some (.t t)) = some (.sc (.string (cutS n s))) := by
  have e : min (s.size : Int) (n : Int) = ((min s.size n : Nat) : Int) := by omega
  simp only [slcSP, hiOf, pa, h, e, bound, loOf, Option.bind_some]
  have e2 : (0 : Int) ≤ ((min s.size n : Nat) : Int) ∧ ((min s.size n : Nat) : Int) ≤ (s.size : Int) := by omega
  rw [if_pos e2]
  rfl
theorem slcL_cut (fr : Fr) (t n es : Nat) (xs : List PV) (hx : xs.all (fun x => (cellsOf x).length == es) = true) (h : fr t = .sc (.int .i64 (min (xs.length : Int) (n : Int)))) : slcLP es fr (.sl xs) none (some (.t t)) = some (.sl (xs.take (min xs.length n))) := by
  have e : min (xs.length : Int) (n : Int) = ((min xs.length n : Nat) : Int) := by omega
  simp only [slcLP, hx, if_true, hiOf, pa, h, e, bound, loOf, Option.bind_some]
  have e2 : (0 : Int) ≤ ((min xs.length n : Nat) : Int) ∧ ((min xs.length n : Nat) : Int) ≤ (xs.length : Int) := by omega
  rw [if_pos e2]
  simp
end
end Go.Proofs.YtdlfomiclkpibaaDoorPv
namespace Go.Proofs.YtdlfomiclkpibaaDoorPv
open Go
set_option linter.unusedSimpArgs false
set_option linter.unusedVariables false
set_option maxHeartbeats 4000000
attribute [local go_sem ↓] e_mv e_pick e_bin e_eqs e_beq e_un e_cvi e_str e_s2b e_b2s e_box e_build e_bsl e_ld e_st e_nck e_mkf e_slcS e_slcL e_fa e_fld e_ia e_iaa e_ix e_ixa e_ext e_lenS e_lenL e_mnmx e_app e_appb e_bbx e_msl e_clr e_call e_callv pa_t pa_c pa_f slcSP_str hiOf_some hiOf_none loOf_some loOf_none set_eq set_ne
attribute [local go_sem] pv pv1 simple frOf_0 frOf_1 frOf_2 frOf_3 frOf_4 frOf_5 ne_eq not_false_eq_true if_true Bool.false_eq_true if_false pbin punary Option.map_some Option.bind_some pick_and pick_or opt_true Bool.true_and Bool.and_self Bool.and_true Bool.true_or Bool.false_or Bool.not_true Bool.not_false callE pcall_eq List.map_cons List.map_nil List.append_nil List.nil_append List.cons_append mapM_cons' mapM_nil' dep_eq fz_sc fz_sl fz_em fz_fn fz_fp fz_agg fz_tu fz_bx fz_ob Nat.lt_irrefl Nat.zero_lt_one Nat.lt_add_one flat clL cl Bool.or_true okc_sc okc_em okc_sl okc_ob okc_bx okc_fp okc_fn okc_agg okc_ifc cells_agg cells_sc cells_sl cells_em cells_ob cells_fn cells_bx cells_fp List.length_cons List.length_nil Nat.zero_add and_self true_and and_true new_m new_c put_m put_c nil_m nil_c deref List.getElem?_cons_zero List.getElem?_cons_succ List.drop_zero List.drop_succ_cons List.take_succ_cons List.take_zero Nat.le_refl false_and and_false decide_true decide_false lenP_em lenP_nil lenP_sl lenP_ob Int.ofNat_zero
set_option maxRecDepth 8000
/-- transhipment/transhipmentref06.Blank -/
def d20 : Def := (.code 1 [.tmp 2] (.seq (.rg false [⟨.some 2, .none, .mv (.c (.bool false))⟩]) (.seq (.seq (.rg false [⟨.some 3, .none, .mv (.c (.int .i64 0))⟩]) (.block 0 (.loop (.seq (.seq (.rg false [⟨.some 4, .none, .mv (.t 3)⟩, ⟨.some 5, .none, .mv (.t 0)⟩, ⟨.some 6, .none, .lenS (.t 5)⟩, ⟨.some 7, .none, .bin .lss (.t 4) (.t 6)⟩]) (.cond (.t 7) .skip (.exit 0))) (.seq (.block 1 (.seq (.rg false [⟨.some 10, .none, .mv (.t 0)⟩, ⟨.some 11, .none, .mv (.t 3)⟩, ⟨.some 12, .none, .ix (.t 10) (.t 11)⟩, ⟨.some 13, .none, .bin .neq (.t 12) (.c (.int .u8 32))⟩, ⟨.some 14, .none, .mv (.t 13)⟩, ⟨.some 15, .some (14, true), .mv (.t 0)⟩, ⟨.some 16, .some (14, true), .mv (.t 3)⟩, ⟨.some 17, .some (14, true), .ix (.t 15) (.t 16)⟩, ⟨.some 18, .some (14, true), .bin .neq (.t 17) (.c (.int .u8 9))⟩, ⟨.some 19, .none, .pick (.t 14) (.t 18) (.c (.bool false))⟩]) (.cond (.t 19) (.seq (.rg false [⟨.some 20, .none, .mv (.t 0)⟩, ⟨.some 21, .none, .mv (.t 3)⟩, ⟨.some 22, .none, .ix (.t 20) (.t 21)⟩, ⟨.some 23, .none, .bin .eql (.t 22) (.c (.int .u8 35))⟩, ⟨.some 24, .none, .mv (.t 23)⟩, ⟨.some 25, .some (24, false), .mv (.t 0)⟩, ⟨.some 26, .some (24, false), .mv (.t 3)⟩, ⟨.some 27, .some (24, false), .ix (.t 25) (.t 26)⟩, ⟨.some 28, .some (24, false), .bin .eql (.t 27) (.c (.int .u8 59))⟩, ⟨.some 29, .none, .pick (.t 24) (.c (.bool true)) (.t 28)⟩, ⟨.some 2, .none, .mv (.t 29)⟩]) .ret) .skip))) (.rg false [⟨.some 8, .none, .mv (.t 3)⟩, ⟨.some 9, .none, .bin .add (.t 8) (.c (.int .i64 1))⟩, ⟨.some 3, .none, .mv (.t 9)⟩])))))) (.seq (.rg false [⟨.some 2, .none, .mv (.c (.bool true))⟩]) .ret))))
/-- transhipment/transhipmentref06.Begins -/
def d59 : Def := (.code 1 [.tmp 2] (.seq (.rg false [⟨.some 2, .none, .mv (.c (.string ⟨#[]⟩))⟩]) (.seq (.seq (.rg false [⟨.some 3, .none, .mv (.t 0)⟩, ⟨.some 4, .none, .lenS (.t 3)⟩, ⟨.some 5, .none, .bin .lss (.t 4) (.c (.int .i64 10))⟩, ⟨.some 6, .none, .mv (.t 5)⟩, ⟨.some 7, .some (6, false), .mv (.t 0)⟩, ⟨.some 8, .some (6, false), .slcS (.t 7) .none (.some (.c (.int .i64 7)))⟩, ⟨.some 9, .some (6, false), .bin .neq (.t 8) (.c (.string ⟨#[100, 101, 102, 105, 110, 101, 32]⟩))⟩, ⟨.some 10, .none, .pick (.t 6) (.c (.bool true)) (.t 9)⟩, ⟨.some 11, .none, .mv (.t 10)⟩, ⟨.some 12, .some (11, false), .mv (.t 0)⟩, ⟨.some 13, .some (11, false), .mv (.t 0)⟩, ⟨.some 14, .some (11, false), .lenS (.t 13)⟩, ⟨.some 15, .some (11, false), .bin .sub (.t 14) (.c (.int .i64 2))⟩, ⟨.some 16, .some (11, false), .slcS (.t 12) (.some (.t 15)) .none⟩, ⟨.some 17, .some (11, false), .bin .neq (.t 16) (.c (.string ⟨#[32, 123]⟩))⟩, ⟨.some 18, .none, .pick (.t 11) (.c (.bool true)) (.t 17)⟩, ⟨.some 19, .none, .mv (.t 18)⟩, ⟨.some 20, .some (19, false), .mv (.t 0)⟩, ⟨.some 21, .some (19, false), .mv (.t 0)⟩, ⟨.some 22, .some (19, false), .lenS (.t 21)⟩, ⟨.some 23, .some (19, false), .bin .sub (.t 22) (.c (.int .i64 2))⟩, ⟨.some 24, .some (19, false), .slcS (.t 20) (.some (.c (.int .i64 7))) (.some (.t 23))⟩, ⟨.some 25, .some (19, false), .call 30 .pure [.t 24]⟩, ⟨.some 26, .some (19, false), .un .not (.t 25)⟩, ⟨.some 27, .none, .pick (.t 19) (.c (.bool true)) (.t 26)⟩]) (.cond (.t 27) (.seq (.rg false [⟨.some 2, .none, .mv (.c (.string ⟨#[]⟩))⟩]) .ret) .skip)) (.seq (.rg false [⟨.some 28, .none, .mv (.t 0)⟩, ⟨.some 29, .none, .mv (.t 0)⟩, ⟨.some 30, .none, .lenS (.t 29)⟩, ⟨.some 31, .none, .bin .sub (.t 30) (.c (.int .i64 2))⟩, ⟨.some 32, .none, .slcS (.t 28) (.some (.c (.int .i64 7))) (.some (.t 31))⟩, ⟨.some 2, .none, .mv (.t 32)⟩]) .ret))))
/-- transhipment/transhipmentref06.Key -/
def d60 : Def := (.code 1 [.tmp 2] (.seq (.rg false [⟨.some 2, .none, .mv (.c (.slice .none 0 0))⟩]) (.seq (.seq (.rg false [⟨.some 3, .none, .mv (.c (.int .i64 1))⟩]) (.block 0 (.loop (.seq (.seq (.rg false [⟨.some 4, .none, .mv (.t 3)⟩, ⟨.some 5, .none, .mv (.t 0)⟩, ⟨.some 6, .none, .lenS (.t 5)⟩, ⟨.some 7, .none, .bin .lss (.t 4) (.t 6)⟩]) (.cond (.t 7) .skip (.exit 0))) (.seq (.block 1 (.seq (.rg false [⟨.some 10, .none, .mv (.t 0)⟩, ⟨.some 11, .none, .mv (.t 3)⟩, ⟨.some 12, .none, .ix (.t 10) (.t 11)⟩, ⟨.some 13, .none, .bin .eql (.t 12) (.c (.int .u8 9))⟩]) (.cond (.t 13) (.seq (.seq (.rg false [⟨.some 14, .none, .mv (.t 0)⟩, ⟨.some 15, .none, .ix (.t 14) (.c (.int .i64 0))⟩, ⟨.some 16, .none, .bin .neq (.t 15) (.c (.int .u8 9))⟩, ⟨.some 17, .none, .mv (.t 16)⟩, ⟨.some 18, .some (17, false), .mv (.t 0)⟩, ⟨.some 19, .some (17, false), .mv (.t 3)⟩, ⟨.some 20, .some (17, false), .slcS (.t 18) (.some (.c (.int .i64 1))) (.some (.t 19))⟩, ⟨.some 21, .some (17, false), .call 30 .pure [.t 20]⟩, ⟨.some 22, .some (17, false), .un .not (.t 21)⟩, ⟨.some 23, .none, .pick (.t 17) (.c (.bool true)) (.t 22)⟩, ⟨.some 24, .none, .mv (.t 23)⟩, ⟨.some 25, .some (24, false), .mv (.t 0)⟩, ⟨.some 26, .some (24, false), .mv (.t 3)⟩, ⟨.some 27, .some (24, false), .bin .add (.t 26) (.c (.int .i64 1))⟩, ⟨.some 28, .some (24, false), .slcS (.t 25) (.some (.t 27)) .none⟩, ⟨.some 29, .some (24, false), .call 32 .pure [.t 28]⟩, ⟨.some 30, .some (24, false), .un .not (.t 29)⟩, ⟨.some 31, .none, .pick (.t 24) (.c (.bool true)) (.t 30)⟩]) (.cond (.t 31) (.seq (.rg false [⟨.some 2, .none, .mv (.c (.slice .none 0 0))⟩]) .ret) .skip)) (.seq (.rg true [⟨.some 32, .none, .mv (.t 0)⟩, ⟨.some 33, .none, .mv (.t 3)⟩, ⟨.some 34, .none, .slcS (.t 32) (.some (.c (.int .i64 1))) (.some (.t 33))⟩, ⟨.some 35, .none, .mv (.t 0)⟩, ⟨.some 36, .none, .mv (.t 3)⟩, ⟨.some 37, .none, .bin .add (.t 36) (.c (.int .i64 1))⟩, ⟨.some 38, .none, .slcS (.t 35) (.some (.t 37)) .none⟩, ⟨.some 39, .none, .bsl 1 (.string ⟨#[]⟩) 2 [(0, .t 34), (1, .t 38)]⟩, ⟨.some 2, .none, .mv (.t 39)⟩]) .ret)) .skip))) (.rg false [⟨.some 8, .none, .mv (.t 3)⟩, ⟨.some 9, .none, .bin .add (.t 8) (.c (.int .i64 1))⟩, ⟨.some 3, .none, .mv (.t 9)⟩])))))) (.seq (.rg false [⟨.some 2, .none, .mv (.c (.slice .none 0 0))⟩]) .ret))))
def ldq : List (Nat × Def) := [(20, d20), (59, d59), (60, d60)]
section
variable {env : Nat → Option Def} {fr : Fr} {σ σ' σ'' : St} {K : Fr → St → Prop} {Q : X → Fr → St → Prop} {p : PV} {bs : List UInt8}
theorem dropW_hit {p : UInt8 → Bool} : ∀ {s : List UInt8} {i : Nat}, i < s.length → (s.take i).all p = true → p (byteD s i) = false → ∃ r, s.dropWhile p = byteD s i :: r
  | [], i, hi, _, _ => by simp at hi
  | c :: s, 0, _, _, h => by
    have e : byteD (c :: s) 0 = c := rfl
    rw [e] at h ⊢
    exact ⟨s, by rw [List.dropWhile_cons, h]; rfl⟩
  | c :: s, i + 1, hi, h1, h2 => by
    simp only [List.length_cons] at hi
    simp only [List.take_succ_cons, List.all_cons, Bool.and_eq_true] at h1
    have e : byteD (c :: s) (i + 1) = byteD s i := rfl
    rw [e] at h2 ⊢
    rw [List.dropWhile_cons, h1.1, if_pos rfl]
    exact dropW_hit (by omega) h1.2 h2
theorem blank_hit {s : List UInt8} {i : Nat} (hi : i < s.length) (h1 : (s.take i).all spB = true) (h2 : spB (byteD s i) = false) : blankD s = (byteD s i == 35 || byteD s i == 59) := by
  obtain ⟨r, hr⟩ := dropW_hit hi h1 h2
  unfold blankD
  rw [hr]
theorem blank_all {s : List UInt8} (h : s.all spB = true) : blankD s = true := by
  have : s.dropWhile spB = [] := by
    induction s with
    | nil => rfl
    | cons c r ih =>
      simp only [List.all_cons, Bool.and_eq_true] at h
      rw [List.dropWhile_cons, h.1, if_pos rfl]
      exact ih h.2
  unfold blankD
  rw [this]
theorem a20 (L : Has ldq env) {l : List UInt8} (hn : l.length ≤ 4000000000) : AV env 20 [txt l] = some (.sc (.bool (blankD l))) := by
  refine AV_wp (L (20, d20) (by simp [ldq])) rfl ?_
  (repeat' first
    | refine w_seq ?_ | refine w_rg ?_ | refine wo_nil ?_ | refine g_skU ?_
    | ((first | apply s_plain | apply s_void | apply s_guard); · simp only [go_sem, Nat.reduceEqDiff, Nat.reduceAdd, Nat.reduceLeDiff]; (first | done | rfl))
    | ((first | apply g_T | apply g_F); · intro hb; simp only [go_sem, Nat.reduceEqDiff, Nat.reduceAdd, Nat.reduceLeDiff, hb]; (first | done | rfl))
    | ((first | apply g_gT | apply g_gF); · intro hb hc; simp only [go_sem, Nat.reduceEqDiff, Nat.reduceAdd, Nat.reduceLeDiff, hb, hc]; (first | done | rfl))
    | refine g_skT ?_ | refine g_skF ?_
    | ((first | apply g_goT | apply g_goF); · simp only [go_sem, Nat.reduceEqDiff, Nat.reduceAdd, Nat.reduceLeDiff]; (first | done | rfl))
    | fail
    )
  refine w_block (w_bytesF (ti := 3) l spB (by simp only [go_sem, Nat.reduceEqDiff, Nat.reduceAdd, Nat.reduceLeDiff]) ?_ ?_)
  · intro i fr1 hi f1 hfr ha
    have f0_0 := hfr 0 rfl; try (simp only [go_sem, Nat.reduceEqDiff, Nat.reduceAdd, Nat.reduceLeDiff] at f0_0)
    have hd : decide ((i : Int) < (l.length : Int)) = true := by simp; omega
    have e1 : (0 : Int) ≤ (i : Int) := by omega
    have w1 : IntKind.i64.wrap ((i : Int) + 1) = ((i + 1 : Nat) : Int) := by rw [IntKind.wrap_i64]; omega
    have hq := byteD_q hi
    (repeat' first
    | refine w_seq ?_ | refine w_rg ?_ | refine wo_nil ?_ | refine g_skU ?_
    | ((first | apply s_plain | apply s_void | apply s_guard); · simp only [go_sem, Nat.reduceEqDiff, Nat.reduceAdd, Nat.reduceLeDiff, f0_0, f1, hd, ba_data, ba_size, ba_toList, ba_extract, ba_append, List.toList_toArray]; (first | done | rfl))
    | ((first | apply g_T | apply g_F); · intro hb; simp only [go_sem, Nat.reduceEqDiff, Nat.reduceAdd, Nat.reduceLeDiff, f0_0, f1, hd, ba_data, ba_size, ba_toList, ba_extract, ba_append, List.toList_toArray, hb]; (first | done | rfl))
    | ((first | apply g_gT | apply g_gF); · intro hb hc; simp only [go_sem, Nat.reduceEqDiff, Nat.reduceAdd, Nat.reduceLeDiff, f0_0, f1, hd, ba_data, ba_size, ba_toList, ba_extract, ba_append, List.toList_toArray, hb, hc]; (first | done | rfl))
    | refine g_skT ?_ | refine g_skF ?_
    | ((first | apply g_goT | apply g_goF); · simp only [go_sem, Nat.reduceEqDiff, Nat.reduceAdd, Nat.reduceLeDiff, f0_0, f1, hd, ba_data, ba_size, ba_toList, ba_extract, ba_append, List.toList_toArray]; (first | done | rfl))
    | (refine w_condT ?_ ?_; · simp only [go_sem, Nat.reduceEqDiff, Nat.reduceAdd, Nat.reduceLeDiff, f0_0, f1, hd, ba_data, ba_size, ba_toList, ba_extract, ba_append, List.toList_toArray]; (first | done | rfl))
    | (refine w_condF ?_ ?_; · simp only [go_sem, Nat.reduceEqDiff, Nat.reduceAdd, Nat.reduceLeDiff, f0_0, f1, hd, ba_data, ba_size, ba_toList, ba_extract, ba_append, List.toList_toArray]; (first | done | rfl))
    | refine w_skip ?_ | refine w_exit ?_ | refine w_ret ?_
    | fail
    )
    refine w_block ?_
    (repeat' first
    | refine w_seq ?_ | refine w_rg ?_ | refine wo_nil ?_ | refine g_skU ?_
    | ((first | apply s_plain | apply s_void | apply s_guard); · simp only [go_sem, Nat.reduceEqDiff, Nat.reduceAdd, Nat.reduceLeDiff, f0_0, f1, e1, Int.toNat_natCast, hq, ba_data, ba_size, ba_toList, ba_extract, ba_append, List.toList_toArray, u8_ne (byteD l i) 32 (z := 32) rfl, u8_ne (byteD l i) 9 (z := 9) rfl]; (first | done | rfl))
    | ((first | apply g_T | apply g_F); · intro hb; simp only [go_sem, Nat.reduceEqDiff, Nat.reduceAdd, Nat.reduceLeDiff, f0_0, f1, e1, Int.toNat_natCast, hq, ba_data, ba_size, ba_toList, ba_extract, ba_append, List.toList_toArray, u8_ne (byteD l i) 32 (z := 32) rfl, u8_ne (byteD l i) 9 (z := 9) rfl, hb]; (first | done | rfl))
    | ((first | apply g_gT | apply g_gF); · intro hb hc; simp only [go_sem, Nat.reduceEqDiff, Nat.reduceAdd, Nat.reduceLeDiff, f0_0, f1, e1, Int.toNat_natCast, hq, ba_data, ba_size, ba_toList, ba_extract, ba_append, List.toList_toArray, u8_ne (byteD l i) 32 (z := 32) rfl, u8_ne (byteD l i) 9 (z := 9) rfl, hb, hc]; (first | done | rfl))
    | refine g_skT ?_ | refine g_skF ?_
    | ((first | apply g_goT | apply g_goF); · simp only [go_sem, Nat.reduceEqDiff, Nat.reduceAdd, Nat.reduceLeDiff, f0_0, f1, e1, Int.toNat_natCast, hq, ba_data, ba_size, ba_toList, ba_extract, ba_append, List.toList_toArray, u8_ne (byteD l i) 32 (z := 32) rfl, u8_ne (byteD l i) 9 (z := 9) rfl]; (first | done | rfl))
    | fail
    )
    have hbad : (byteD l i != 32 && byteD l i != 9) = !spB (byteD l i) := by
      unfold spB bne
      simp
    cases hpi : spB (byteD l i) with
    | false =>
      rw [hpi] at hbad
      refine w_condT (by simp only [go_sem, Nat.reduceEqDiff, Nat.reduceAdd, Nat.reduceLeDiff]; exact congrArg (fun b => PV.sc (.bool b)) hbad) ?_
      (repeat' first
    | refine w_seq ?_ | refine w_rg ?_ | refine wo_nil ?_ | refine g_skU ?_
    | ((first | apply s_plain | apply s_void | apply s_guard); · simp only [go_sem, Nat.reduceEqDiff, Nat.reduceAdd, Nat.reduceLeDiff, f0_0, f1, e1, Int.toNat_natCast, hq, ba_data, ba_size, ba_toList, ba_extract, ba_append, List.toList_toArray, u8_beq (byteD l i) 35 (z := 35) rfl, u8_beq (byteD l i) 59 (z := 59) rfl]; (first | done | rfl))
    | ((first | apply g_T | apply g_F); · intro hb; simp only [go_sem, Nat.reduceEqDiff, Nat.reduceAdd, Nat.reduceLeDiff, f0_0, f1, e1, Int.toNat_natCast, hq, ba_data, ba_size, ba_toList, ba_extract, ba_append, List.toList_toArray, u8_beq (byteD l i) 35 (z := 35) rfl, u8_beq (byteD l i) 59 (z := 59) rfl, hb]; (first | done | rfl))
    | ((first | apply g_gT | apply g_gF); · intro hb hc; simp only [go_sem, Nat.reduceEqDiff, Nat.reduceAdd, Nat.reduceLeDiff, f0_0, f1, e1, Int.toNat_natCast, hq, ba_data, ba_size, ba_toList, ba_extract, ba_append, List.toList_toArray, u8_beq (byteD l i) 35 (z := 35) rfl, u8_beq (byteD l i) 59 (z := 59) rfl, hb, hc]; (first | done | rfl))
    | refine g_skT ?_ | refine g_skF ?_
    | ((first | apply g_goT | apply g_goF); · simp only [go_sem, Nat.reduceEqDiff, Nat.reduceAdd, Nat.reduceLeDiff, f0_0, f1, e1, Int.toNat_natCast, hq, ba_data, ba_size, ba_toList, ba_extract, ba_append, List.toList_toArray, u8_beq (byteD l i) 35 (z := 35) rfl, u8_beq (byteD l i) 59 (z := 59) rfl]; (first | done | rfl))
    | (refine w_condT ?_ ?_; · simp only [go_sem, Nat.reduceEqDiff, Nat.reduceAdd, Nat.reduceLeDiff, f0_0, f1, e1, Int.toNat_natCast, hq, ba_data, ba_size, ba_toList, ba_extract, ba_append, List.toList_toArray, u8_beq (byteD l i) 35 (z := 35) rfl, u8_beq (byteD l i) 59 (z := 59) rfl]; (first | done | rfl))
    | (refine w_condF ?_ ?_; · simp only [go_sem, Nat.reduceEqDiff, Nat.reduceAdd, Nat.reduceLeDiff, f0_0, f1, e1, Int.toNat_natCast, hq, ba_data, ba_size, ba_toList, ba_extract, ba_append, List.toList_toArray, u8_beq (byteD l i) 35 (z := 35) rfl, u8_beq (byteD l i) 59 (z := 59) rfl]; (first | done | rfl))
    | refine w_skip ?_ | refine w_exit ?_ | refine w_ret ?_
    | fail
    )
      exact ⟨by first | exact .inr rfl | exact .inr trivial | exact .inl rfl, by simp only [go_sem, Nat.reduceEqDiff, Nat.reduceAdd, Nat.reduceLeDiff, retOf, resOf, blank_hit hi ha hpi]; first | done | rfl⟩
    | true =>
      rw [hpi] at hbad
      refine w_condF (by simp only [go_sem, Nat.reduceEqDiff, Nat.reduceAdd, Nat.reduceLeDiff]; exact congrArg (fun b => PV.sc (.bool b)) hbad) ?_
      (repeat' first
    | refine w_seq ?_ | refine w_rg ?_ | refine wo_nil ?_ | refine g_skU ?_
    | ((first | apply s_plain | apply s_void | apply s_guard); · simp only [go_sem, Nat.reduceEqDiff, Nat.reduceAdd, Nat.reduceLeDiff, f1, w1]; (first | done | rfl))
    | ((first | apply g_T | apply g_F); · intro hb; simp only [go_sem, Nat.reduceEqDiff, Nat.reduceAdd, Nat.reduceLeDiff, f1, w1, hb]; (first | done | rfl))
    | ((first | apply g_gT | apply g_gF); · intro hb hc; simp only [go_sem, Nat.reduceEqDiff, Nat.reduceAdd, Nat.reduceLeDiff, f1, w1, hb, hc]; (first | done | rfl))
    | refine g_skT ?_ | refine g_skF ?_
    | ((first | apply g_goT | apply g_goF); · simp only [go_sem, Nat.reduceEqDiff, Nat.reduceAdd, Nat.reduceLeDiff, f1, w1]; (first | done | rfl))
    | (refine w_condT ?_ ?_; · simp only [go_sem, Nat.reduceEqDiff, Nat.reduceAdd, Nat.reduceLeDiff, f1, w1]; (first | done | rfl))
    | (refine w_condF ?_ ?_; · simp only [go_sem, Nat.reduceEqDiff, Nat.reduceAdd, Nat.reduceLeDiff, f1, w1]; (first | done | rfl))
    | refine w_skip ?_ | refine w_exit ?_ | refine w_ret ?_
    | fail
    )
      exact ⟨rfl, by simp only [go_sem, Nat.reduceEqDiff, Nat.reduceAdd, Nat.reduceLeDiff], rfl⟩
  · intro fr1 f1 hfr ha
    have f0_0 := hfr 0 rfl; try (simp only [go_sem, Nat.reduceEqDiff, Nat.reduceAdd, Nat.reduceLeDiff] at f0_0)
    have hd : decide ((l.length : Int) < (l.length : Int)) = false := by simp
    (repeat' first
    | refine w_seq ?_ | refine w_rg ?_ | refine wo_nil ?_ | refine g_skU ?_
    | ((first | apply s_plain | apply s_void | apply s_guard); · simp only [go_sem, Nat.reduceEqDiff, Nat.reduceAdd, Nat.reduceLeDiff, f0_0, f1, hd, ba_data, ba_size, ba_toList, ba_extract, ba_append, List.toList_toArray]; (first | done | rfl))
    | ((first | apply g_T | apply g_F); · intro hb; simp only [go_sem, Nat.reduceEqDiff, Nat.reduceAdd, Nat.reduceLeDiff, f0_0, f1, hd, ba_data, ba_size, ba_toList, ba_extract, ba_append, List.toList_toArray, hb]; (first | done | rfl))
    | ((first | apply g_gT | apply g_gF); · intro hb hc; simp only [go_sem, Nat.reduceEqDiff, Nat.reduceAdd, Nat.reduceLeDiff, f0_0, f1, hd, ba_data, ba_size, ba_toList, ba_extract, ba_append, List.toList_toArray, hb, hc]; (first | done | rfl))
    | refine g_skT ?_ | refine g_skF ?_
    | ((first | apply g_goT | apply g_goF); · simp only [go_sem, Nat.reduceEqDiff, Nat.reduceAdd, Nat.reduceLeDiff, f0_0, f1, hd, ba_data, ba_size, ba_toList, ba_extract, ba_append, List.toList_toArray]; (first | done | rfl))
    | (refine w_condT ?_ ?_; · simp only [go_sem, Nat.reduceEqDiff, Nat.reduceAdd, Nat.reduceLeDiff, f0_0, f1, hd, ba_data, ba_size, ba_toList, ba_extract, ba_append, List.toList_toArray]; (first | done | rfl))
    | (refine w_condF ?_ ?_; · simp only [go_sem, Nat.reduceEqDiff, Nat.reduceAdd, Nat.reduceLeDiff, f0_0, f1, hd, ba_data, ba_size, ba_toList, ba_extract, ba_append, List.toList_toArray]; (first | done | rfl))
    | refine w_skip ?_ | refine w_exit ?_ | refine w_ret ?_
    | fail
    )
    try simp only [if_true]
    (repeat' first
    | refine w_seq ?_ | refine w_rg ?_ | refine wo_nil ?_ | refine g_skU ?_
    | ((first | apply s_plain | apply s_void | apply s_guard); · simp only [go_sem, Nat.reduceEqDiff, Nat.reduceAdd, Nat.reduceLeDiff, f0_0, ba_data, ba_size, ba_toList, ba_extract, ba_append, List.toList_toArray]; (first | done | rfl))
    | ((first | apply g_T | apply g_F); · intro hb; simp only [go_sem, Nat.reduceEqDiff, Nat.reduceAdd, Nat.reduceLeDiff, f0_0, ba_data, ba_size, ba_toList, ba_extract, ba_append, List.toList_toArray, hb]; (first | done | rfl))
    | ((first | apply g_gT | apply g_gF); · intro hb hc; simp only [go_sem, Nat.reduceEqDiff, Nat.reduceAdd, Nat.reduceLeDiff, f0_0, ba_data, ba_size, ba_toList, ba_extract, ba_append, List.toList_toArray, hb, hc]; (first | done | rfl))
    | refine g_skT ?_ | refine g_skF ?_
    | ((first | apply g_goT | apply g_goF); · simp only [go_sem, Nat.reduceEqDiff, Nat.reduceAdd, Nat.reduceLeDiff, f0_0, ba_data, ba_size, ba_toList, ba_extract, ba_append, List.toList_toArray]; (first | done | rfl))
    | (refine w_condT ?_ ?_; · simp only [go_sem, Nat.reduceEqDiff, Nat.reduceAdd, Nat.reduceLeDiff, f0_0, ba_data, ba_size, ba_toList, ba_extract, ba_append, List.toList_toArray]; (first | done | rfl))
    | (refine w_condF ?_ ?_; · simp only [go_sem, Nat.reduceEqDiff, Nat.reduceAdd, Nat.reduceLeDiff, f0_0, ba_data, ba_size, ba_toList, ba_extract, ba_append, List.toList_toArray]; (first | done | rfl))
    | refine w_skip ?_ | refine w_exit ?_ | refine w_ret ?_
    | fail
    )
    exact ⟨by first | exact .inr rfl | exact .inr trivial | exact .inl rfl, by simp only [go_sem, Nat.reduceEqDiff, Nat.reduceAdd, Nat.reduceLeDiff, retOf, resOf, blank_all ha]; first | done | rfl⟩
theorem word_ne {l : List UInt8} (h : wordD l = true) : l ≠ [] := by
  rintro rfl
  cases h
theorem begOk_len {s : List UInt8} (h : begOk s = true) : 10 ≤ s.length := by
  obtain ⟨h1, h2⟩ := begOk_eq h
  have h3 := congrArg List.length h1
  have h4 := List.length_pos_iff.2 (word_ne h2)
  simp [headD] at h3
  omega
theorem beg_ref {s : List UInt8} (hl : 10 ≤ s.length) : begOk s = ((s.take 7 == [100, 101, 102, 105, 110, 101, 32]) && (s.drop (s.length - 2) == [32, 123]) && wordD ((s.take (s.length - 2)).drop 7)) ∧ (begOk s = true → begK s = (s.take (s.length - 2)).drop 7) := by
  have h1 : begP.isPrefixOf s = (s.take 7 == [100, 101, 102, 105, 110, 101, 32]) := by
    rw [Bool.eq_iff_iff, List.isPrefixOf_iff_prefix, List.prefix_iff_eq_take, beq_iff_eq]
    exact ⟨fun h => h.symm, fun h => h.symm⟩
  by_cases hp : begP.isPrefixOf s = true
  · have e2 : cutPre s begP = s.drop 7 := by unfold cutPre; rw [if_pos hp]; rfl
    have h2 : begS.isSuffixOf (s.drop 7) = (s.drop (s.length - 2) == [32, 123]) := by
      rw [Bool.eq_iff_iff, List.isSuffixOf_iff_suffix, List.suffix_iff_eq_drop, beq_iff_eq, List.length_drop, List.drop_drop]
      have : 7 + (s.length - 7 - begS.length) = s.length - 2 := by simp [begS]; omega
      rw [this]
      exact ⟨fun h => h.symm, fun h => h.symm⟩
    have h3 : begS.isSuffixOf (s.drop 7) = true → begK s = (s.take (s.length - 2)).drop 7 := by
      intro h
      unfold begK cutSuf
      rw [e2, if_pos h, List.length_drop, List.drop_take]
      congr 1
    unfold begOk
    rw [e2, ← h1, ← h2, hp]
    cases hs : begS.isSuffixOf (s.drop 7) with
    | false => simp
    | true =>
      rw [h3 hs]
      simp
  · have hp' : begP.isPrefixOf s = false := Bool.eq_false_iff.2 hp
    unfold begOk
    rw [← h1, hp']
    simp
theorem a59 (E : Has lle env) (L : Has ldq env) {s : List UInt8} (hn : s.length ≤ 4000000000) : AV env 59 [txt s] = some (txt (if begOk s then begK s else [])) := by
  refine AV_wp (L (59, d59) (by simp [ldq])) rfl ?_
  by_cases hl : s.length < 10
  · have hd : decide ((s.length : Int) < 10) = true := by simp; omega
    have hb : begOk s = false := by
      rw [Bool.eq_false_iff]
      intro h
      have := begOk_len h
      omega
    (repeat' first
    | refine w_seq ?_ | refine w_rg ?_ | refine wo_nil ?_ | refine g_skU ?_
    | ((first | apply s_plain | apply s_void | apply s_guard); · simp only [go_sem, Nat.reduceEqDiff, Nat.reduceAdd, Nat.reduceLeDiff, hd, ba_data, ba_size, ba_toList, ba_extract, ba_append, List.toList_toArray]; (first | done | rfl))
    | ((first | apply g_T | apply g_F); · intro hb; simp only [go_sem, Nat.reduceEqDiff, Nat.reduceAdd, Nat.reduceLeDiff, hd, ba_data, ba_size, ba_toList, ba_extract, ba_append, List.toList_toArray, hb]; (first | done | rfl))
    | ((first | apply g_gT | apply g_gF); · intro hb hc; simp only [go_sem, Nat.reduceEqDiff, Nat.reduceAdd, Nat.reduceLeDiff, hd, ba_data, ba_size, ba_toList, ba_extract, ba_append, List.toList_toArray, hb, hc]; (first | done | rfl))
    | refine g_skT ?_ | refine g_skF ?_
    | ((first | apply g_goT | apply g_goF); · simp only [go_sem, Nat.reduceEqDiff, Nat.reduceAdd, Nat.reduceLeDiff, hd, ba_data, ba_size, ba_toList, ba_extract, ba_append, List.toList_toArray]; (first | done | rfl))
    | (refine w_condT ?_ ?_; · simp only [go_sem, Nat.reduceEqDiff, Nat.reduceAdd, Nat.reduceLeDiff, hd, ba_data, ba_size, ba_toList, ba_extract, ba_append, List.toList_toArray]; (first | done | rfl))
    | (refine w_condF ?_ ?_; · simp only [go_sem, Nat.reduceEqDiff, Nat.reduceAdd, Nat.reduceLeDiff, hd, ba_data, ba_size, ba_toList, ba_extract, ba_append, List.toList_toArray]; (first | done | rfl))
    | refine w_skip ?_ | refine w_exit ?_ | refine w_ret ?_
    | fail
    )
    exact ⟨by first | exact .inr rfl | exact .inr trivial | exact .inl rfl, by simp only [go_sem, Nat.reduceEqDiff, Nat.reduceAdd, Nat.reduceLeDiff, retOf, resOf, hb]; first | done | rfl⟩
  · have hd : decide ((s.length : Int) < 10) = false := by simp; omega
    obtain ⟨h1, h2⟩ := beg_ref (s := s) (by omega)
    have h30 := a30t E (l := (s.take (s.length - 2)).drop 7) (by simp; omega)
    have w1 : IntKind.i64.wrap ((s.length : Int) - 2) = ((s.length - 2 : Nat) : Int) := by rw [IntKind.wrap_i64]; omega
    have b1 : bound s.length (.sc (.int .i64 ((s.length - 2 : Nat) : Int))) = some (s.length - 2) := bound_nat (by omega)
    have b2 : bound s.length (.sc (.int .i64 7)) = some 7 := bound_nat (i := 7) (by omega)
    have b3 : bound (s.length - 2) (.sc (.int .i64 7)) = some 7 := bound_nat (i := 7) (by omega)
    have ht : s.take s.length = s := List.take_length
    have e : (!(s.take 7 == [100, 101, 102, 105, 110, 101, 32]) || !(s.drop (s.length - 2) == [32, 123]) || !wordD ((s.take (s.length - 2)).drop 7)) = !begOk s := by
      rw [h1]; simp
    (repeat' first
    | refine w_seq ?_ | refine w_rg ?_ | refine wo_nil ?_ | refine g_skU ?_
    | ((first | apply s_plain | apply s_void | apply s_guard); · simp only [go_sem, Nat.reduceEqDiff, Nat.reduceAdd, Nat.reduceLeDiff, hd, ba_data, ba_size, ba_toList, ba_extract, ba_append, List.toList_toArray, b1, b2, b3, w1, ht, List.drop_zero, h30]; (first | done | rfl))
    | ((first | apply g_T | apply g_F); · intro hb; simp only [go_sem, Nat.reduceEqDiff, Nat.reduceAdd, Nat.reduceLeDiff, hd, ba_data, ba_size, ba_toList, ba_extract, ba_append, List.toList_toArray, b1, b2, b3, w1, ht, List.drop_zero, h30, hb]; (first | done | rfl))
    | ((first | apply g_gT | apply g_gF); · intro hb hc; simp only [go_sem, Nat.reduceEqDiff, Nat.reduceAdd, Nat.reduceLeDiff, hd, ba_data, ba_size, ba_toList, ba_extract, ba_append, List.toList_toArray, b1, b2, b3, w1, ht, List.drop_zero, h30, hb, hc]; (first | done | rfl))
    | refine g_skT ?_ | refine g_skF ?_
    | ((first | apply g_goT | apply g_goF); · simp only [go_sem, Nat.reduceEqDiff, Nat.reduceAdd, Nat.reduceLeDiff, hd, ba_data, ba_size, ba_toList, ba_extract, ba_append, List.toList_toArray, b1, b2, b3, w1, ht, List.drop_zero, h30]; (first | done | rfl))
    | fail
    )
    cases hb : begOk s with
    | true =>
      rw [hb] at e
      refine w_condF (by simp only [go_sem, Nat.reduceEqDiff, Nat.reduceAdd, Nat.reduceLeDiff]; exact congrArg (fun b => PV.sc (.bool b)) e) ?_
      (repeat' first
    | refine w_seq ?_ | refine w_rg ?_ | refine wo_nil ?_ | refine g_skU ?_
    | ((first | apply s_plain | apply s_void | apply s_guard); · simp only [go_sem, Nat.reduceEqDiff, Nat.reduceAdd, Nat.reduceLeDiff, ba_data, ba_size, ba_toList, ba_extract, ba_append, List.toList_toArray, b1, b2, b3, w1, ht]; (first | done | rfl))
    | ((first | apply g_T | apply g_F); · intro hb; simp only [go_sem, Nat.reduceEqDiff, Nat.reduceAdd, Nat.reduceLeDiff, ba_data, ba_size, ba_toList, ba_extract, ba_append, List.toList_toArray, b1, b2, b3, w1, ht, hb]; (first | done | rfl))
    | ((first | apply g_gT | apply g_gF); · intro hb hc; simp only [go_sem, Nat.reduceEqDiff, Nat.reduceAdd, Nat.reduceLeDiff, ba_data, ba_size, ba_toList, ba_extract, ba_append, List.toList_toArray, b1, b2, b3, w1, ht, hb, hc]; (first | done | rfl))
    | refine g_skT ?_ | refine g_skF ?_
    | ((first | apply g_goT | apply g_goF); · simp only [go_sem, Nat.reduceEqDiff, Nat.reduceAdd, Nat.reduceLeDiff, ba_data, ba_size, ba_toList, ba_extract, ba_append, List.toList_toArray, b1, b2, b3, w1, ht]; (first | done | rfl))
    | (refine w_condT ?_ ?_; · simp only [go_sem, Nat.reduceEqDiff, Nat.reduceAdd, Nat.reduceLeDiff, ba_data, ba_size, ba_toList, ba_extract, ba_append, List.toList_toArray, b1, b2, b3, w1, ht]; (first | done | rfl))
    | (refine w_condF ?_ ?_; · simp only [go_sem, Nat.reduceEqDiff, Nat.reduceAdd, Nat.reduceLeDiff, ba_data, ba_size, ba_toList, ba_extract, ba_append, List.toList_toArray, b1, b2, b3, w1, ht]; (first | done | rfl))
    | refine w_skip ?_ | refine w_exit ?_ | refine w_ret ?_
    | fail
    )
      exact ⟨by first | exact .inr rfl | exact .inr trivial | exact .inl rfl, by simp only [go_sem, Nat.reduceEqDiff, Nat.reduceAdd, Nat.reduceLeDiff, retOf, resOf, h2 hb]; first | done | rfl⟩
    | false =>
      rw [hb] at e
      refine w_condT (by simp only [go_sem, Nat.reduceEqDiff, Nat.reduceAdd, Nat.reduceLeDiff]; exact congrArg (fun b => PV.sc (.bool b)) e) ?_
      (repeat' first
    | refine w_seq ?_ | refine w_rg ?_ | refine wo_nil ?_ | refine g_skU ?_
    | ((first | apply s_plain | apply s_void | apply s_guard); · simp only [go_sem, Nat.reduceEqDiff, Nat.reduceAdd, Nat.reduceLeDiff, ba_data, ba_size, ba_toList, ba_extract, ba_append, List.toList_toArray]; (first | done | rfl))
    | ((first | apply g_T | apply g_F); · intro hb; simp only [go_sem, Nat.reduceEqDiff, Nat.reduceAdd, Nat.reduceLeDiff, ba_data, ba_size, ba_toList, ba_extract, ba_append, List.toList_toArray, hb]; (first | done | rfl))
    | ((first | apply g_gT | apply g_gF); · intro hb hc; simp only [go_sem, Nat.reduceEqDiff, Nat.reduceAdd, Nat.reduceLeDiff, ba_data, ba_size, ba_toList, ba_extract, ba_append, List.toList_toArray, hb, hc]; (first | done | rfl))
    | refine g_skT ?_ | refine g_skF ?_
    | ((first | apply g_goT | apply g_goF); · simp only [go_sem, Nat.reduceEqDiff, Nat.reduceAdd, Nat.reduceLeDiff, ba_data, ba_size, ba_toList, ba_extract, ba_append, List.toList_toArray]; (first | done | rfl))
    | (refine w_condT ?_ ?_; · simp only [go_sem, Nat.reduceEqDiff, Nat.reduceAdd, Nat.reduceLeDiff, ba_data, ba_size, ba_toList, ba_extract, ba_append, List.toList_toArray]; (first | done | rfl))
    | (refine w_condF ?_ ?_; · simp only [go_sem, Nat.reduceEqDiff, Nat.reduceAdd, Nat.reduceLeDiff, ba_data, ba_size, ba_toList, ba_extract, ba_append, List.toList_toArray]; (first | done | rfl))
    | refine w_skip ?_ | refine w_exit ?_ | refine w_ret ?_
    | fail
    )
      exact ⟨by first | exact .inr rfl | exact .inr trivial | exact .inl rfl, by simp only [go_sem, Nat.reduceEqDiff, Nat.reduceAdd, Nat.reduceLeDiff, retOf, resOf, Bool.false_eq_true]; first | done | rfl⟩
theorem key_hit {s : List UInt8} {i : Nat} (h1 : 1 ≤ i) (hi : i < s.length) (hno : (9 : UInt8) ∉ (s.take i).drop 1) (h9 : byteD s i = 9) :
    keyOk s = ((byteD s 0 == 9) && wordD ((s.take i).drop 1) && valD (s.drop (i + 1))) ∧ (keyOk s = true → keyK s = (s.take i).drop 1 ∧ keyV s = s.drop (i + 1)) := by
  have e0 : s = byteD s 0 :: s.drop 1 := by
    have := List.drop_eq_getElem_cons (show 0 < s.length by omega)
    rw [List.drop_zero] at this
    rw [byteD_at (by omega)]
    exact this
  have hp : [9].isPrefixOf s = (byteD s 0 == 9) := by
    conv => lhs; rw [e0, pre1]
    rw [Bool.eq_iff_iff, beq_iff_eq, beq_iff_eq]
    exact ⟨fun h => h.symm, fun h => h.symm⟩
  have e1 : s.drop 1 = (s.take i).drop 1 ++ 9 :: s.drop (i + 1) := by
    have h2 : s.drop i = 9 :: s.drop (i + 1) := by
      rw [← h9, byteD_at hi]
      exact List.drop_eq_getElem_cons hi
    rw [← h2]
    conv => lhs; rw [← List.take_append_drop i s]
    rw [List.drop_append_of_le_length (by rw [List.length_take]; omega)]
  cases hb : (byteD s 0 == 9) with
  | false =>
    unfold keyOk
    rw [hp, hb]
    simp
  | true =>
    have e2 : cutPre s [9] = s.drop 1 := by unfold cutPre; rw [hp, hb, if_pos rfl]; rfl
    have e3 : Lib.cut (cutPre s [9]) [9] = ((s.take i).drop 1, s.drop (i + 1), true) := by
      rw [e2, e1, cut1_at hno]
    have e4 : keyK s = (s.take i).drop 1 := by unfold keyK; rw [e3]
    have e5 : keyV s = s.drop (i + 1) := by unfold keyV; rw [e3]
    refine ⟨?_, fun _ => ⟨e4, e5⟩⟩
    unfold keyOk
    rw [hp, hb, e3, e4, e5]
    simp
theorem key_none {s : List UInt8} (h : (9 : UInt8) ∉ s.drop 1) : keyOk s = false := by
  rw [Bool.eq_false_iff]
  intro hk
  unfold keyOk at hk
  simp only [Bool.and_eq_true] at hk
  obtain ⟨⟨⟨h1, h2⟩, _⟩, _⟩ := hk
  have e2 : cutPre s [9] = s.drop 1 := by unfold cutPre; rw [h1, if_pos rfl]; rfl
  rw [e2, cut1_no h] at h2
  cases h2
theorem a60 (E : Has lle env) (F : Has ldf env) (L : Has ldq env) {s : List UInt8} (hn : s.length ≤ 4000000000) : AV env 60 [txt s] = some (.sl (if keyOk s then txts [keyK s, keyV s] else [])) := by
  refine AV_wp (L (60, d60) (by simp [ldq])) rfl ?_
  (repeat' first
    | refine w_seq ?_ | refine w_rg ?_ | refine wo_nil ?_ | refine g_skU ?_
    | ((first | apply s_plain | apply s_void | apply s_guard); · simp only [go_sem, Nat.reduceEqDiff, Nat.reduceAdd, Nat.reduceLeDiff]; (first | done | rfl))
    | ((first | apply g_T | apply g_F); · intro hb; simp only [go_sem, Nat.reduceEqDiff, Nat.reduceAdd, Nat.reduceLeDiff, hb]; (first | done | rfl))
    | ((first | apply g_gT | apply g_gF); · intro hb hc; simp only [go_sem, Nat.reduceEqDiff, Nat.reduceAdd, Nat.reduceLeDiff, hb, hc]; (first | done | rfl))
    | refine g_skT ?_ | refine g_skF ?_
    | ((first | apply g_goT | apply g_goF); · simp only [go_sem, Nat.reduceEqDiff, Nat.reduceAdd, Nat.reduceLeDiff]; (first | done | rfl))
    | fail
    )
  refine w_block (w_loopF (fun m fr σ => ∃ i : Nat, m = s.length - i ∧ 1 ≤ i ∧ fr 3 = .sc (.int .i64 i) ∧ (9 : UInt8) ∉ (s.take i).drop 1 ∧ σ = St.nil) ?_ (s.length - 1) ⟨1, rfl, Nat.le_refl _, by simp only [go_sem, Nat.reduceEqDiff, Nat.reduceAdd, Nat.reduceLeDiff]; rfl, ?_, rfl⟩)
  · rintro m fr1 σ1 ⟨i, rfl, hi, f3, hno, rfl⟩ hfr
    have f0_0 := hfr 0 rfl; try (simp only [go_sem, Nat.reduceEqDiff, Nat.reduceAdd, Nat.reduceLeDiff] at f0_0)
    by_cases hlt : i < s.length
    · have hd : decide ((i : Int) < (s.length : Int)) = true := by simp; omega
      have e1 : (0 : Int) ≤ (i : Int) := by omega
      have w1 : IntKind.i64.wrap ((i : Int) + 1) = ((i + 1 : Nat) : Int) := by rw [IntKind.wrap_i64]; omega
      have hq := byteD_q hlt
      have hq0 := byteD_q (show 0 < s.length by omega)
      have b1 : bound s.length (.sc (.int .i64 (i : Int))) = some i := bound_nat (by omega)
      have b2 : bound i (.sc (.int .i64 1)) = some 1 := bound_nat (i := 1) (by omega)
      have b3 : bound s.length (.sc (.int .i64 ((i + 1 : Nat) : Int))) = some (i + 1) := bound_nat (by omega)
      have ht : s.take s.length = s := List.take_length
      (repeat' first
    | refine w_seq ?_ | refine w_rg ?_ | refine wo_nil ?_ | refine g_skU ?_
    | ((first | apply s_plain | apply s_void | apply s_guard); · simp only [go_sem, Nat.reduceEqDiff, Nat.reduceAdd, Nat.reduceLeDiff, f0_0, f3, hd, ba_data, ba_size, ba_toList, ba_extract, ba_append, List.toList_toArray]; (first | done | rfl))
    | ((first | apply g_T | apply g_F); · intro hb; simp only [go_sem, Nat.reduceEqDiff, Nat.reduceAdd, Nat.reduceLeDiff, f0_0, f3, hd, ba_data, ba_size, ba_toList, ba_extract, ba_append, List.toList_toArray, hb]; (first | done | rfl))
    | ((first | apply g_gT | apply g_gF); · intro hb hc; simp only [go_sem, Nat.reduceEqDiff, Nat.reduceAdd, Nat.reduceLeDiff, f0_0, f3, hd, ba_data, ba_size, ba_toList, ba_extract, ba_append, List.toList_toArray, hb, hc]; (first | done | rfl))
    | refine g_skT ?_ | refine g_skF ?_
    | ((first | apply g_goT | apply g_goF); · simp only [go_sem, Nat.reduceEqDiff, Nat.reduceAdd, Nat.reduceLeDiff, f0_0, f3, hd, ba_data, ba_size, ba_toList, ba_extract, ba_append, List.toList_toArray]; (first | done | rfl))
    | (refine w_condT ?_ ?_; · simp only [go_sem, Nat.reduceEqDiff, Nat.reduceAdd, Nat.reduceLeDiff, f0_0, f3, hd, ba_data, ba_size, ba_toList, ba_extract, ba_append, List.toList_toArray]; (first | done | rfl))
    | (refine w_condF ?_ ?_; · simp only [go_sem, Nat.reduceEqDiff, Nat.reduceAdd, Nat.reduceLeDiff, f0_0, f3, hd, ba_data, ba_size, ba_toList, ba_extract, ba_append, List.toList_toArray]; (first | done | rfl))
    | refine w_skip ?_ | refine w_exit ?_ | refine w_ret ?_
    | fail
    )
      refine w_block ?_
      (repeat' first
    | refine w_seq ?_ | refine w_rg ?_ | refine wo_nil ?_ | refine g_skU ?_
    | ((first | apply s_plain | apply s_void | apply s_guard); · simp only [go_sem, Nat.reduceEqDiff, Nat.reduceAdd, Nat.reduceLeDiff, f0_0, f3, e1, Int.toNat_natCast, hq, ba_data, ba_size, ba_toList, ba_extract, ba_append, List.toList_toArray, u8_beq (byteD s i) 9 (z := 9) rfl]; (first | done | rfl))
    | ((first | apply g_T | apply g_F); · intro hb; simp only [go_sem, Nat.reduceEqDiff, Nat.reduceAdd, Nat.reduceLeDiff, f0_0, f3, e1, Int.toNat_natCast, hq, ba_data, ba_size, ba_toList, ba_extract, ba_append, List.toList_toArray, u8_beq (byteD s i) 9 (z := 9) rfl, hb]; (first | done | rfl))
    | ((first | apply g_gT | apply g_gF); · intro hb hc; simp only [go_sem, Nat.reduceEqDiff, Nat.reduceAdd, Nat.reduceLeDiff, f0_0, f3, e1, Int.toNat_natCast, hq, ba_data, ba_size, ba_toList, ba_extract, ba_append, List.toList_toArray, u8_beq (byteD s i) 9 (z := 9) rfl, hb, hc]; (first | done | rfl))
    | refine g_skT ?_ | refine g_skF ?_
    | ((first | apply g_goT | apply g_goF); · simp only [go_sem, Nat.reduceEqDiff, Nat.reduceAdd, Nat.reduceLeDiff, f0_0, f3, e1, Int.toNat_natCast, hq, ba_data, ba_size, ba_toList, ba_extract, ba_append, List.toList_toArray, u8_beq (byteD s i) 9 (z := 9) rfl]; (first | done | rfl))
    | fail
    )
      cases h9 : (byteD s i == 9) with
      | true =>
        obtain ⟨k1, k2⟩ := key_hit hi hlt hno (by simpa using h9)
        have h30 := a30t E (l := (s.take i).drop 1) (by simp; omega)
        have h32 := a32 F (l := s.drop (i + 1)) (by simp; omega)
        (repeat' first
    | refine w_seq ?_ | refine w_rg ?_ | refine wo_nil ?_ | refine g_skU ?_
    | ((first | apply s_plain | apply s_void | apply s_guard); · simp only [go_sem, Nat.reduceEqDiff, Nat.reduceAdd, Nat.reduceLeDiff]; (first | done | rfl))
    | ((first | apply g_T | apply g_F); · intro hb; simp only [go_sem, Nat.reduceEqDiff, Nat.reduceAdd, Nat.reduceLeDiff, hb]; (first | done | rfl))
    | ((first | apply g_gT | apply g_gF); · intro hb hc; simp only [go_sem, Nat.reduceEqDiff, Nat.reduceAdd, Nat.reduceLeDiff, hb, hc]; (first | done | rfl))
    | refine g_skT ?_ | refine g_skF ?_
    | ((first | apply g_goT | apply g_goF); · simp only [go_sem, Nat.reduceEqDiff, Nat.reduceAdd, Nat.reduceLeDiff]; (first | done | rfl))
    | (refine w_condT ?_ ?_; · simp only [go_sem, Nat.reduceEqDiff, Nat.reduceAdd, Nat.reduceLeDiff]; (first | done | rfl))
    | (refine w_condF ?_ ?_; · simp only [go_sem, Nat.reduceEqDiff, Nat.reduceAdd, Nat.reduceLeDiff]; (first | done | rfl))
    | refine w_skip ?_ | refine w_exit ?_ | refine w_ret ?_
    | fail
    )
        (repeat' first
    | refine w_seq ?_ | refine w_rg ?_ | refine wo_nil ?_ | refine g_skU ?_
    | ((first | apply s_plain | apply s_void | apply s_guard); · simp only [go_sem, Nat.reduceEqDiff, Nat.reduceAdd, Nat.reduceLeDiff, f0_0, f3, Int.toNat_zero, hq0, ba_data, ba_size, ba_toList, ba_extract, ba_append, List.toList_toArray, u8_ne (byteD s 0) 9 (z := 9) rfl, b1, b2, b3, w1, ht, h30, h32]; (first | done | rfl))
    | ((first | apply g_T | apply g_F); · intro hb; simp only [go_sem, Nat.reduceEqDiff, Nat.reduceAdd, Nat.reduceLeDiff, f0_0, f3, Int.toNat_zero, hq0, ba_data, ba_size, ba_toList, ba_extract, ba_append, List.toList_toArray, u8_ne (byteD s 0) 9 (z := 9) rfl, b1, b2, b3, w1, ht, h30, h32, hb]; (first | done | rfl))
    | ((first | apply g_gT | apply g_gF); · intro hb hc; simp only [go_sem, Nat.reduceEqDiff, Nat.reduceAdd, Nat.reduceLeDiff, f0_0, f3, Int.toNat_zero, hq0, ba_data, ba_size, ba_toList, ba_extract, ba_append, List.toList_toArray, u8_ne (byteD s 0) 9 (z := 9) rfl, b1, b2, b3, w1, ht, h30, h32, hb, hc]; (first | done | rfl))
    | refine g_skT ?_ | refine g_skF ?_
    | ((first | apply g_goT | apply g_goF); · simp only [go_sem, Nat.reduceEqDiff, Nat.reduceAdd, Nat.reduceLeDiff, f0_0, f3, Int.toNat_zero, hq0, ba_data, ba_size, ba_toList, ba_extract, ba_append, List.toList_toArray, u8_ne (byteD s 0) 9 (z := 9) rfl, b1, b2, b3, w1, ht, h30, h32]; (first | done | rfl))
    | fail
    )
        have e : (byteD s 0 != 9 || !wordD ((s.take i).drop 1) || !valD (s.drop (i + 1))) = !keyOk s := by
          rw [k1]; unfold bne; simp
        cases hk : keyOk s with
        | false =>
          rw [hk] at e
          refine w_condT (by simp only [go_sem, Nat.reduceEqDiff, Nat.reduceAdd, Nat.reduceLeDiff]; exact congrArg (fun b => PV.sc (.bool b)) e) ?_
          (repeat' first
    | refine w_seq ?_ | refine w_rg ?_ | refine wo_nil ?_ | refine g_skU ?_
    | ((first | apply s_plain | apply s_void | apply s_guard); · simp only [go_sem, Nat.reduceEqDiff, Nat.reduceAdd, Nat.reduceLeDiff]; (first | done | rfl))
    | ((first | apply g_T | apply g_F); · intro hb; simp only [go_sem, Nat.reduceEqDiff, Nat.reduceAdd, Nat.reduceLeDiff, hb]; (first | done | rfl))
    | ((first | apply g_gT | apply g_gF); · intro hb hc; simp only [go_sem, Nat.reduceEqDiff, Nat.reduceAdd, Nat.reduceLeDiff, hb, hc]; (first | done | rfl))
    | refine g_skT ?_ | refine g_skF ?_
    | ((first | apply g_goT | apply g_goF); · simp only [go_sem, Nat.reduceEqDiff, Nat.reduceAdd, Nat.reduceLeDiff]; (first | done | rfl))
    | (refine w_condT ?_ ?_; · simp only [go_sem, Nat.reduceEqDiff, Nat.reduceAdd, Nat.reduceLeDiff]; (first | done | rfl))
    | (refine w_condF ?_ ?_; · simp only [go_sem, Nat.reduceEqDiff, Nat.reduceAdd, Nat.reduceLeDiff]; (first | done | rfl))
    | refine w_skip ?_ | refine w_exit ?_ | refine w_ret ?_
    | fail
    )
          exact ⟨by first | exact .inr rfl | exact .inr trivial | exact .inl rfl, by simp only [go_sem, Nat.reduceEqDiff, Nat.reduceAdd, Nat.reduceLeDiff, retOf, resOf, Bool.false_eq_true]; first | done | rfl⟩
        | true =>
          rw [hk] at e
          refine w_condF (by simp only [go_sem, Nat.reduceEqDiff, Nat.reduceAdd, Nat.reduceLeDiff]; exact congrArg (fun b => PV.sc (.bool b)) e) ?_
          obtain ⟨k3, k4⟩ := k2 hk
          rw [k3, k4]
          (repeat' first
    | refine w_seq ?_ | refine w_rg ?_ | refine wo_nil ?_ | refine g_skU ?_
    | ((first | apply s_plain | apply s_void | apply s_guard); · simp only [go_sem, Nat.reduceEqDiff, Nat.reduceAdd, Nat.reduceLeDiff, f0_0, f3, ba_data, ba_size, ba_toList, ba_extract, ba_append, List.toList_toArray, b1, b2, b3, w1, ht, splice, fillP, fillE, List.modify_zero_cons, List.replicate_succ, List.replicate_zero, List.set_cons_zero, List.drop_zero]; (first | done | rfl))
    | ((first | apply g_T | apply g_F); · intro hb; simp only [go_sem, Nat.reduceEqDiff, Nat.reduceAdd, Nat.reduceLeDiff, f0_0, f3, ba_data, ba_size, ba_toList, ba_extract, ba_append, List.toList_toArray, b1, b2, b3, w1, ht, splice, fillP, fillE, List.modify_zero_cons, List.replicate_succ, List.replicate_zero, List.set_cons_zero, List.drop_zero, hb]; (first | done | rfl))
    | ((first | apply g_gT | apply g_gF); · intro hb hc; simp only [go_sem, Nat.reduceEqDiff, Nat.reduceAdd, Nat.reduceLeDiff, f0_0, f3, ba_data, ba_size, ba_toList, ba_extract, ba_append, List.toList_toArray, b1, b2, b3, w1, ht, splice, fillP, fillE, List.modify_zero_cons, List.replicate_succ, List.replicate_zero, List.set_cons_zero, List.drop_zero, hb, hc]; (first | done | rfl))
    | refine g_skT ?_ | refine g_skF ?_
    | ((first | apply g_goT | apply g_goF); · simp only [go_sem, Nat.reduceEqDiff, Nat.reduceAdd, Nat.reduceLeDiff, f0_0, f3, ba_data, ba_size, ba_toList, ba_extract, ba_append, List.toList_toArray, b1, b2, b3, w1, ht, splice, fillP, fillE, List.modify_zero_cons, List.replicate_succ, List.replicate_zero, List.set_cons_zero, List.drop_zero]; (first | done | rfl))
    | (refine w_condT ?_ ?_; · simp only [go_sem, Nat.reduceEqDiff, Nat.reduceAdd, Nat.reduceLeDiff, f0_0, f3, ba_data, ba_size, ba_toList, ba_extract, ba_append, List.toList_toArray, b1, b2, b3, w1, ht, splice, fillP, fillE, List.modify_zero_cons, List.replicate_succ, List.replicate_zero, List.set_cons_zero, List.drop_zero]; (first | done | rfl))
    | (refine w_condF ?_ ?_; · simp only [go_sem, Nat.reduceEqDiff, Nat.reduceAdd, Nat.reduceLeDiff, f0_0, f3, ba_data, ba_size, ba_toList, ba_extract, ba_append, List.toList_toArray, b1, b2, b3, w1, ht, splice, fillP, fillE, List.modify_zero_cons, List.replicate_succ, List.replicate_zero, List.set_cons_zero, List.drop_zero]; (first | done | rfl))
    | refine w_skip ?_ | refine w_exit ?_ | refine w_ret ?_
    | fail
    )
          exact ⟨by first | exact .inr rfl | exact .inr trivial | exact .inl rfl, by simp only [go_sem, Nat.reduceEqDiff, Nat.reduceAdd, Nat.reduceLeDiff, retOf, resOf, txts]; first | done | rfl⟩
      | false =>
        (repeat' first
    | refine w_seq ?_ | refine w_rg ?_ | refine wo_nil ?_ | refine g_skU ?_
    | ((first | apply s_plain | apply s_void | apply s_guard); · simp only [go_sem, Nat.reduceEqDiff, Nat.reduceAdd, Nat.reduceLeDiff, f3, w1]; (first | done | rfl))
    | ((first | apply g_T | apply g_F); · intro hb; simp only [go_sem, Nat.reduceEqDiff, Nat.reduceAdd, Nat.reduceLeDiff, f3, w1, hb]; (first | done | rfl))
    | ((first | apply g_gT | apply g_gF); · intro hb hc; simp only [go_sem, Nat.reduceEqDiff, Nat.reduceAdd, Nat.reduceLeDiff, f3, w1, hb, hc]; (first | done | rfl))
    | refine g_skT ?_ | refine g_skF ?_
    | ((first | apply g_goT | apply g_goF); · simp only [go_sem, Nat.reduceEqDiff, Nat.reduceAdd, Nat.reduceLeDiff, f3, w1]; (first | done | rfl))
    | (refine w_condT ?_ ?_; · simp only [go_sem, Nat.reduceEqDiff, Nat.reduceAdd, Nat.reduceLeDiff, f3, w1]; (first | done | rfl))
    | (refine w_condF ?_ ?_; · simp only [go_sem, Nat.reduceEqDiff, Nat.reduceAdd, Nat.reduceLeDiff, f3, w1]; (first | done | rfl))
    | refine w_skip ?_ | refine w_exit ?_ | refine w_ret ?_
    | fail
    )
        refine ⟨s.length - (i + 1), by omega, i + 1, rfl, by omega, by simp only [go_sem, Nat.reduceEqDiff, Nat.reduceAdd, Nat.reduceLeDiff], ?_, rfl⟩
        rw [List.take_add_one, hq, List.drop_append_of_le_length (by rw [List.length_take]; omega)]
        intro h
        rcases List.mem_append.1 h with h | h
        · exact hno h
        · simp at h
          simp [← h] at h9
    · have hd : decide ((i : Int) < (s.length : Int)) = false := by simp; omega
      have hk := key_none (s := s) (by rw [List.take_of_length_le (by omega)] at hno; exact hno)
      (repeat' first
    | refine w_seq ?_ | refine w_rg ?_ | refine wo_nil ?_ | refine g_skU ?_
    | ((first | apply s_plain | apply s_void | apply s_guard); · simp only [go_sem, Nat.reduceEqDiff, Nat.reduceAdd, Nat.reduceLeDiff, f0_0, f3, hd, ba_data, ba_size, ba_toList, ba_extract, ba_append, List.toList_toArray]; (first | done | rfl))
    | ((first | apply g_T | apply g_F); · intro hb; simp only [go_sem, Nat.reduceEqDiff, Nat.reduceAdd, Nat.reduceLeDiff, f0_0, f3, hd, ba_data, ba_size, ba_toList, ba_extract, ba_append, List.toList_toArray, hb]; (first | done | rfl))
    | ((first | apply g_gT | apply g_gF); · intro hb hc; simp only [go_sem, Nat.reduceEqDiff, Nat.reduceAdd, Nat.reduceLeDiff, f0_0, f3, hd, ba_data, ba_size, ba_toList, ba_extract, ba_append, List.toList_toArray, hb, hc]; (first | done | rfl))
    | refine g_skT ?_ | refine g_skF ?_
    | ((first | apply g_goT | apply g_goF); · simp only [go_sem, Nat.reduceEqDiff, Nat.reduceAdd, Nat.reduceLeDiff, f0_0, f3, hd, ba_data, ba_size, ba_toList, ba_extract, ba_append, List.toList_toArray]; (first | done | rfl))
    | (refine w_condT ?_ ?_; · simp only [go_sem, Nat.reduceEqDiff, Nat.reduceAdd, Nat.reduceLeDiff, f0_0, f3, hd, ba_data, ba_size, ba_toList, ba_extract, ba_append, List.toList_toArray]; (first | done | rfl))
    | (refine w_condF ?_ ?_; · simp only [go_sem, Nat.reduceEqDiff, Nat.reduceAdd, Nat.reduceLeDiff, f0_0, f3, hd, ba_data, ba_size, ba_toList, ba_extract, ba_append, List.toList_toArray]; (first | done | rfl))
    | refine w_skip ?_ | refine w_exit ?_ | refine w_ret ?_
    | fail
    )
      try simp only [if_true]
      (repeat' first
    | refine w_seq ?_ | refine w_rg ?_ | refine wo_nil ?_ | refine g_skU ?_
    | ((first | apply s_plain | apply s_void | apply s_guard); · simp only [go_sem, Nat.reduceEqDiff, Nat.reduceAdd, Nat.reduceLeDiff]; (first | done | rfl))
    | ((first | apply g_T | apply g_F); · intro hb; simp only [go_sem, Nat.reduceEqDiff, Nat.reduceAdd, Nat.reduceLeDiff, hb]; (first | done | rfl))
    | ((first | apply g_gT | apply g_gF); · intro hb hc; simp only [go_sem, Nat.reduceEqDiff, Nat.reduceAdd, Nat.reduceLeDiff, hb, hc]; (first | done | rfl))
    | refine g_skT ?_ | refine g_skF ?_
    | ((first | apply g_goT | apply g_goF); · simp only [go_sem, Nat.reduceEqDiff, Nat.reduceAdd, Nat.reduceLeDiff]; (first | done | rfl))
    | (refine w_condT ?_ ?_; · simp only [go_sem, Nat.reduceEqDiff, Nat.reduceAdd, Nat.reduceLeDiff]; (first | done | rfl))
    | (refine w_condF ?_ ?_; · simp only [go_sem, Nat.reduceEqDiff, Nat.reduceAdd, Nat.reduceLeDiff]; (first | done | rfl))
    | refine w_skip ?_ | refine w_exit ?_ | refine w_ret ?_
    | fail
    )
      exact ⟨by first | exact .inr rfl | exact .inr trivial | exact .inl rfl, by simp only [go_sem, Nat.reduceEqDiff, Nat.reduceAdd, Nat.reduceLeDiff, retOf, resOf, hk, Bool.false_eq_true, if_false]; first | done | rfl⟩
  · cases s <;> simp
end
end Go.Proofs.YtdlfomiclkpibaaDoorPv
namespace Go.Proofs.YtdlfomiclkpibaaDoorPv
open Go
set_option linter.unusedSimpArgs false
set_option linter.unusedVariables false
section
variable {env : Nat → Option Def} {fr : Fr} {σ σ' σ'' : St} {K : Fr → St → Prop} {Q : X → Fr → St → Prop} {p : PV} {P : Nat → Bool}
/-- Rows of some places hold what they held. -/
def SubP (P : Nat → Bool) (σ σ' : St) : Prop := ∀ o g x, P o = true → σ.m o g = some x → ∃ x', σ'.m o g = some x' ∧ x'.es = x.es ∧ x'.xs = x.xs
theorem SubP.refl (σ : St) : SubP P σ σ := fun _ _ x _ h => ⟨x, h, rfl, rfl⟩
theorem SubP.trans (h : SubP P σ σ') (h' : SubP P σ' σ'') : SubP P σ σ'' := fun o g x ho hx =>
  let ⟨y, h1, h2, h3⟩ := h o g x ho hx
  let ⟨z, h4, h5, h6⟩ := h' o g y ho h1
  ⟨z, h4, h5.trans h2, h6.trans h3⟩
theorem SubP.put (h : SubP P σ σ') {o g : Nat} (ho : P o = false) (y : Option Obj) : SubP P σ (σ'.put o g y) := fun o' g' x ho' hx => by
  obtain ⟨z, h1, h2⟩ := h o' g' x ho' hx
  refine ⟨z, ?_, h2⟩
  simp only [put_m]
  rw [if_neg (fun h => by rw [h.1, ho] at ho'; cases ho')]
  exact h1
theorem SubP.new (h : SubP P σ σ') (hF : Fresh σ') (s : Nat) (y : Obj) : SubP P σ (σ'.new s y) := fun o' g' x ho' hx => by
  obtain ⟨z, h1, h2⟩ := h o' g' x ho' hx
  refine ⟨z, ?_, h2⟩
  simp only [new_m]
  rw [if_neg]
  · exact h1
  · rintro ⟨rfl, rfl⟩
    rw [hF.none] at h1; cases h1
theorem SubP.same (h : SubP P σ σ') {o g : Nat} {x y : Obj} (hx : σ'.m o g = some x) (h1 : y.es = x.es) (h2 : y.xs = x.xs) : SubP P σ (σ'.put o g (some y)) := fun o' g' z ho' hz => by
  obtain ⟨u, q1, q2, q3⟩ := h o' g' z ho' hz
  simp only [put_m]
  by_cases hq : o' = o ∧ g' = g
  · obtain ⟨rfl, rfl⟩ := hq
    rw [hx] at q1
    simp only [Option.some.injEq] at q1
    subst q1
    exact ⟨y, by simp, h1.trans q2, h2.trans q3⟩
  · exact ⟨u, by rw [if_neg hq]; exact q1, q2, q3⟩
theorem SubP.of (h : ∀ o g, P o = true → σ'.m o g = σ.m o g) : SubP P σ σ' := fun o g x ho hx => ⟨x, by rw [h o g ho]; exact hx, rfl, rfl⟩
theorem SubS.subP (h : SubS σ σ') (hP : ∀ o, P o = true → o < 2000000) : SubP P σ σ' := fun o g x ho hx => h o g x (hP o ho) hx
/-- A value that lies in rows of some places, as it stands. -/
def rdP (P : Nat → Bool) (σ : St) : Nat → PV → Option PV
  | 0, _ => none
  | d + 1, p => match p with
    | .em => some (.sl [])
    | .ob o g es i n => if P o = true then match σ.m o g with
      | some x => if x.es = es ∧ i + n ≤ x.xs.length then (((x.xs.drop i).take n).mapM (rdP P σ d)).map .sl else none
      | none => none else none
    | .agg cs => (cs.mapM (rdP P σ d)).map .agg
    | .sc v => some (.sc v)
    | .sl xs => some (.sl xs)
    | _ => none
theorem rdP_fz : ∀ (d : Nat) (p q : PV), rdP P σ d p = some q → fz σ d p = some q
  | 0, p, q, h => by simp [rdP] at h
  | d + 1, p, q, h => by
    have ih := rdP_fz d
    cases p with
    | em => exact h
    | ob o g es i n =>
      simp only [rdP] at h
      split at h
      · cases hm : σ.m o g with
        | none => rw [hm] at h; cases h
        | some x =>
          rw [hm] at h
          simp only at h
          split at h
          · rename_i hq
            obtain ⟨l, hl, rfl⟩ := Option.map_eq_some_iff.1 h
            simp only [fz, hm]
            rw [if_pos hq, mapM_imp ih hl]; rfl
          · cases h
      · cases h
    | agg cs =>
      obtain ⟨l, hl, rfl⟩ := Option.map_eq_some_iff.1 h
      simp only [fz]
      rw [mapM_imp ih hl]; rfl
    | sc v => exact h
    | sl xs => exact h
    | _ => simp [rdP] at h
theorem rdP_sub (hs : SubP P σ σ') : ∀ (d : Nat) (p q : PV), rdP P σ d p = some q → rdP P σ' d p = some q
  | 0, p, q, h => by simp [rdP] at h
  | d + 1, p, q, h => by
    have ih := rdP_sub hs d
    cases p with
    | em => exact h
    | ob o g es i n =>
      simp only [rdP] at h ⊢
      split at h
      · rename_i ho
        rw [if_pos ho]
        cases hm : σ.m o g with
        | none => rw [hm] at h; cases h
        | some x =>
          rw [hm] at h
          simp only at h
          split at h
          · rename_i hq
            obtain ⟨l, hl, rfl⟩ := Option.map_eq_some_iff.1 h
            obtain ⟨x', h1, h2, h3⟩ := hs o g x ho hm
            simp only [h1, h2, h3]
            rw [if_pos hq, mapM_imp ih hl]; rfl
          · cases h
      · cases h
    | agg cs =>
      obtain ⟨l, hl, rfl⟩ := Option.map_eq_some_iff.1 h
      simp only [rdP]
      rw [mapM_imp ih hl]; rfl
    | sc v => exact h
    | sl xs => exact h
    | _ => simp [rdP] at h
theorem rdP_mono : ∀ (d : Nat) (p q : PV), rdP P σ d p = some q → rdP P σ (d + 1) p = some q
  | 0, p, q, h => by simp [rdP] at h
  | d + 1, p, q, h => by
    have ih := rdP_mono d
    cases p with
    | em => exact h
    | ob o g es i n =>
      simp only [rdP] at h
      rw [rdP]
      split at h
      · rename_i ho
        simp only [if_pos ho]
        cases hm : σ.m o g with
        | none => rw [hm] at h; cases h
        | some x =>
          rw [hm] at h
          simp only at h ⊢
          split at h
          · rename_i hq
            obtain ⟨l, hl, rfl⟩ := Option.map_eq_some_iff.1 h
            rw [if_pos hq, mapM_imp ih hl]; rfl
          · cases h
      · cases h
    | agg cs =>
      obtain ⟨l, hl, rfl⟩ := Option.map_eq_some_iff.1 h
      rw [rdP]
      rw [mapM_imp ih hl]; rfl
    | sc v => exact h
    | sl xs => exact h
    | _ => simp [rdP] at h
theorem rdP_more {P' : Nat → Bool} (hp : ∀ o, P o = true → P' o = true) : ∀ (d : Nat) (p q : PV), rdP P σ d p = some q → rdP P' σ d p = some q
  | 0, p, q, h => by simp [rdP] at h
  | d + 1, p, q, h => by
    have ih := rdP_more hp d
    cases p with
    | em => exact h
    | ob o g es i n =>
      simp only [rdP] at h ⊢
      split at h
      · rename_i ho
        rw [if_pos (hp o ho)]
        cases hm : σ.m o g with
        | none => rw [hm] at h; cases h
        | some x =>
          rw [hm] at h
          simp only at h ⊢
          split at h
          · rename_i hq
            obtain ⟨l, hl, rfl⟩ := Option.map_eq_some_iff.1 h
            rw [if_pos hq, mapM_imp ih hl]; rfl
          · cases h
      · cases h
    | agg cs =>
      obtain ⟨l, hl, rfl⟩ := Option.map_eq_some_iff.1 h
      simp only [rdP]
      rw [mapM_imp ih hl]; rfl
    | sc v => exact h
    | sl xs => exact h
    | _ => simp [rdP] at h
theorem rdP_le {d d' : Nat} (hd : d ≤ d') {p q : PV} (h : rdP P σ d p = some q) : rdP P σ d' p = some q := by
  induction hd with
  | refl => exact h
  | step _ ih => exact rdP_mono _ _ _ ih
theorem rdP_fz_le {d d' : Nat} (hd : d ≤ d') {p q : PV} (h : rdP P σ d p = some q) : fz σ d' p = some q := rdP_fz _ _ _ (rdP_le hd h)
theorem rdP_agg (d : Nat) (cs : List PV) : rdP P σ (d + 1) (.agg cs) = (cs.mapM (rdP P σ d)).map .agg := rfl
theorem rdP_sc (d : Nat) (v : Value) : rdP P σ (d + 1) (.sc v) = some (.sc v) := rfl
theorem gat_rdP {os : List Nat} {d : Nat} {es : Nat} {w : Bool} {xs ys : List PV} (h : Gat σ os es w p xs) (ho : ∀ o ∈ os, P o = true) (hx : xs.mapM (rdP P σ d) = some ys) : rdP P σ (d + 1) p = some (.sl ys) := by
  rcases h with ⟨rfl, rfl⟩ | ⟨o', g, wr, h0, rfl, h2, h3, h4⟩
  · simp only [List.mapM_nil] at hx
    cases hx
    rfl
  · simp only [rdP, h2]
    rw [if_pos (ho o' h0), if_pos ⟨trivial, by omega⟩, List.drop_zero, List.take_length, hx]
    rfl
/-- What is appended to what one gathered and may write: all else stays. -/
theorem gat_appK {E : Ev} {d es by_ : Nat} {s' x : PA} {xs : List PV} {e : PV} (hg : Gat σ [d] es true (pa fr s') xs) (hF : Fresh σ) (hsrc : srcOf σ es (pa fr x) = some [e]) (hok : okc e = true) (hl : (cellsOf e).length = es) (hb : (xs.length + 1) * by_ ≤ 70368744177664) :
    ∃ p σ', evO E d fr σ (.app es by_ true s' x) = some (p, σ') ∧ Gat σ' [d] es true p (xs ++ [e]) ∧ Fresh σ' ∧ (∀ o g, o ≠ d → σ'.m o g = σ.m o g) ∧ (∀ o, o ≠ d → σ'.c o = σ.c o) ∧ σ.c d ≤ σ'.c d := by
  have hall : ([e].all fun y => okc y && (cellsOf y).length == es) = true := by simp [hok, hl]
  rcases hg with ⟨h1, rfl⟩ | ⟨o, g, wr, h0, h1, h2, h3, h4, h5⟩
  · refine ⟨.ob d (σ.c d) es 0 1, σ.new d ⟨es, [e], true, true⟩, ?_, .inr ⟨d, σ.c d, true, by simp, rfl, by simp [new_m], by simp [new_c], by simp, fun _ => rfl⟩, hF.new _ _, fun o g ho => ?_, fun o ho => ?_, new_c_le _ _ _ _⟩
    · simp only [evO, hsrc, Option.bind_some, hall, if_true, h1]
      rw [if_pos (by simpa using hb)]
      rfl
    · simp only [new_m]; rw [if_neg (fun h => ho h.1)]
    · simp only [new_c]; rw [if_neg (fun h => ho h)]
  · simp only [List.mem_singleton] at h0
    subst h0
    obtain rfl := h5 rfl
    refine ⟨.ob o (σ.c o) es 0 (xs.length + 1), (σ.put o g none).new o ⟨es, xs ++ [e], true, true⟩, ?_, .inr ⟨o, σ.c o, true, by simp, by simp, by simp [new_m, put_c], by simp [new_c, put_c], by simp, fun _ => rfl⟩,
      (hF.put h2 _).new _ _, fun o' g' ho => ?_, fun o' ho => ?_, new_c_le (σ.put o g none) o ⟨es, xs ++ [e], true, true⟩ o⟩
    · simp only [evO, hsrc, Option.bind_some, hall, if_true, h1, h2]
      simp
      simpa using hb
    · simp only [new_m, put_m]; rw [if_neg (fun h => ho h.1), if_neg (fun h => ho h.1)]
    · simp only [new_c, put_c]; rw [if_neg (fun h => ho h)]
theorem s_gatK {d t es by_ : Nat} {x : PA} {xs : List PV} {e : PV} {ops : List POp} (hg : Gat σ [d] es true (fr t) xs) (hF : Fresh σ) (hsrc : srcOf σ es (pa fr x) = some [e]) (hok : okc e = true) (hl : (cellsOf e).length = es) (hb : (xs.length + 1) * by_ ≤ 70368744177664)
    (h2 : ∀ p σ', Gat σ' [d] es true p (xs ++ [e]) → Fresh σ' → (∀ o g, o ≠ d → σ'.m o g = σ.m o g) → (∀ o, o ≠ d → σ'.c o = σ.c o) → σ.c d ≤ σ'.c d → Wos env ops K (fr.set d p) σ') : Wos env (⟨some d, none, .app es by_ true (.t t) x⟩ :: ops) K fr σ := by
  obtain ⟨p, σ', h3, h4, h5, h6, h7, h8⟩ := gat_appK (E := EV env) (fr := fr) (s' := .t t) (x := x) hg hF hsrc hok hl hb
  exact s_plain h3 (h2 p σ' h4 h5 h6 h7 h8)
/-- What is appended to what one gathered: all else stays; all rows hold what they held. -/
theorem gat_app2 {E : Ev} {d es by_ : Nat} {s' x : PA} {xs : List PV} {e : PV} (hg : Gat σ [d] es false (pa fr s') xs) (hF : Fresh σ) (hsrc : srcOf σ es (pa fr x) = some [e]) (hok : okc e = true) (hl : (cellsOf e).length = es) (hb : (xs.length + 1) * by_ ≤ 70368744177664) :
    ∃ p σ', evO E d fr σ (.app es by_ false s' x) = some (p, σ') ∧ Gat σ' [d] es false p (xs ++ [e]) ∧ Fresh σ' ∧ (∀ P, SubP P σ σ') ∧ (∀ o g, o ≠ d → σ'.m o g = σ.m o g) ∧ (∀ o, o ≠ d → σ'.c o = σ.c o) ∧ σ.c d ≤ σ'.c d := by
  have hall : ([e].all fun y => okc y && (cellsOf y).length == es) = true := by simp [hok, hl]
  rcases hg with ⟨h1, rfl⟩ | ⟨o, g, wr, h0, h1, h2, h3, h4, h5⟩
  · refine ⟨.ob d (σ.c d) es 0 1, σ.new d ⟨es, [e], true, true⟩, ?_, .inr ⟨d, σ.c d, true, by simp, rfl, by simp [new_m], by simp [new_c], by simp, fun _ => rfl⟩, hF.new _ _, fun P => (SubP.refl σ).new hF _ _, fun o g ho => ?_, fun o ho => ?_, new_c_le _ _ _ _⟩
    · simp only [evO, hsrc, Option.bind_some, hall, if_true, h1]
      rw [if_pos (by simpa using hb)]
      rfl
    · simp only [new_m]; rw [if_neg (fun h => ho h.1)]
    · simp only [new_c]; rw [if_neg (fun h => ho h)]
  · simp only [List.mem_singleton] at h0
    subst h0
    refine ⟨.ob o (σ.c o) es 0 (xs.length + 1), (σ.put o g (some ⟨es, xs, false, false⟩)).new o ⟨es, xs ++ [e], true, false⟩, ?_, .inr ⟨o, σ.c o, false, by simp, by simp, by simp [new_m, put_c], by simp [new_c, put_c], by simp, fun h => by cases h⟩,
      (hF.put h2 _).new _ _, fun P => ((SubP.refl σ).same (y := ⟨es, xs, false, false⟩) h2 rfl rfl).new (hF.put h2 _) _ _, fun o' g' ho => ?_, fun o' ho => ?_, new_c_le (σ.put o g (some ⟨es, xs, false, false⟩)) o ⟨es, xs ++ [e], true, false⟩ o⟩
    · simp only [evO, hsrc, Option.bind_some, hall, if_true, h1, h2]
      simp
      simpa using hb
    · simp only [new_m, put_m]; rw [if_neg (fun h => ho h.1), if_neg (fun h => ho h.1)]
    · simp only [new_c, put_c]; rw [if_neg (fun h => ho h)]
theorem s_gat2 {d t es by_ : Nat} {x : PA} {xs : List PV} {e : PV} {ops : List POp} (hg : Gat σ [d] es false (fr t) xs) (hF : Fresh σ) (hsrc : srcOf σ es (pa fr x) = some [e]) (hok : okc e = true) (hl : (cellsOf e).length = es) (hb : (xs.length + 1) * by_ ≤ 70368744177664)
    (h2 : ∀ p σ', Gat σ' [d] es false p (xs ++ [e]) → Fresh σ' → (∀ P, SubP P σ σ') → (∀ o g, o ≠ d → σ'.m o g = σ.m o g) → (∀ o, o ≠ d → σ'.c o = σ.c o) → σ.c d ≤ σ'.c d → Wos env ops K (fr.set d p) σ') : Wos env (⟨some d, none, .app es by_ false (.t t) x⟩ :: ops) K fr σ := by
  obtain ⟨p, σ', h3, h4, h5, h6, h7, h8, h9⟩ := gat_app2 (E := EV env) (fr := fr) (s' := .t t) (x := x) hg hF hsrc hok hl hb
  exact s_plain h3 (h2 p σ' h4 h5 h6 h7 h8 h9)
/-- What was there at some places is there as it was. -/
structure Kp (P : Nat → Prop) (σ σ' : St) : Prop where
  f : Fresh σ'
  m : ∀ o g, P o → g < σ.c o → σ'.m o g = σ.m o g
  c : ∀ o, σ.c o ≤ σ'.c o
theorem Kp.refl {P : Nat → Prop} (hF : Fresh σ) : Kp P σ σ := ⟨hF, fun _ _ _ _ => rfl, fun _ => Nat.le_refl _⟩
theorem Kp.trans {P : Nat → Prop} (h : Kp P σ σ') (h' : Kp P σ' σ'') : Kp P σ σ'' :=
  ⟨h'.f, fun o g hp hg => by rw [h'.m o g hp (Nat.lt_of_lt_of_le hg (h.c o)), h.m o g hp hg], fun o => Nat.le_trans (h.c o) (h'.c o)⟩
theorem Kp.new {P : Nat → Prop} (h : Kp P σ σ') (o : Nat) (y : Obj) : Kp P σ (σ'.new o y) :=
  ⟨h.f.new _ _, fun o' g' hp hg => by
    simp only [new_m]; rw [if_neg (fun e => by obtain ⟨rfl, rfl⟩ := e; have := h.c o'; omega)]; exact h.m o' g' hp hg, fun o' => Nat.le_trans (h.c o') (new_c_le _ _ _ _)⟩
theorem Kp.put {P : Nat → Prop} (h : Kp P σ σ') {o g : Nat} {x : Obj} (hx : σ'.m o g = some x) (ho : ¬ P o ∨ σ.c o ≤ g) (y : Option Obj) : Kp P σ (σ'.put o g y) :=
  ⟨h.f.put hx y, fun o' g' hp hg => by
    simp only [put_m]; rw [if_neg (fun e => by obtain ⟨rfl, rfl⟩ := e; rcases ho with ho | ho; exact ho hp; omega)]; exact h.m o' g' hp hg, h.c⟩
theorem Kp.app {P : Nat → Prop} (h : Kp P σ σ') {d : Nat} (hF : Fresh σ'') (hm : ∀ o g, o ≠ d → σ''.m o g = σ'.m o g) (hc : ∀ o, o ≠ d → σ''.c o = σ'.c o) (hd : ¬ P d) (hcd : σ'.c d ≤ σ''.c d) : Kp P σ σ'' :=
  ⟨hF, fun o g hp hg => by rw [hm o g (fun e => hd (e ▸ hp))]; exact h.m o g hp hg, fun o => by
    by_cases e : o = d
    · rw [e]; exact Nat.le_trans (h.c d) hcd
    · rw [hc o e]; exact h.c o⟩
theorem Kp.mono {P P' : Nat → Prop} (h : Kp P σ σ') (hp : ∀ o, P' o → P o) : Kp P' σ σ' := ⟨h.f, fun o g h1 h2 => h.m o g (hp o h1) h2, h.c⟩
theorem Kp.subP {P : Nat → Prop} {B : Nat → Bool} (h : Kp P σ σ') (hF : Fresh σ) (hp : ∀ o, B o = true → P o) : SubP B σ σ' := fun o g x ho hx =>
  ⟨x, by rw [h.m o g (hp o ho) (hF o g (by rw [hx]; rfl))]; exact hx, rfl, rfl⟩
theorem Kp.gat {P : Nat → Prop} (h : Kp P σ σ') {o es : Nat} {w : Bool} {xs : List PV} (hp : P o) (hg : Gat σ [o] es w p xs) : Gat σ' [o] es w p xs := by
  rcases hg with h1 | ⟨o', g, wr, h0, h1, h2, h3, h4⟩
  · exact .inl h1
  · simp only [List.mem_singleton] at h0
    subst h0
    exact .inr ⟨o', g, wr, by simp, h1, by rw [h.m o' g hp h3]; exact h2, Nat.lt_of_lt_of_le h3 (h.c o'), h4⟩
theorem modify_last {α : Type} (ys : List α) (e : α) (f : α → α) : (ys ++ [e]).modify ys.length f = ys ++ [f e] := by
  induction ys with
  | nil => rfl
  | cons y r ih => simp [ih]
end
end Go.Proofs.YtdlfomiclkpibaaDoorPv
namespace Go.Proofs.YtdlfomiclkpibaaDoorPv
open Go
set_option linter.unusedSimpArgs false
set_option linter.unusedVariables false
set_option maxHeartbeats 4000000
attribute [local go_sem ↓] e_mv e_pick e_bin e_eqs e_beq e_un e_cvi e_str e_s2b e_b2s e_box e_build e_bsl e_ld e_st e_nck e_mkf e_slcS e_slcL e_fa e_fld e_ia e_iaa e_ix e_ixa e_ext e_lenS e_lenL e_mnmx e_app e_appb e_bbx e_msl e_clr e_call e_callv pa_t pa_c pa_f slcSP_str hiOf_some hiOf_none loOf_some loOf_none set_eq set_ne
attribute [local go_sem] pv pv1 simple frOf_0 frOf_1 frOf_2 frOf_3 frOf_4 frOf_5 ne_eq not_false_eq_true if_true Bool.false_eq_true if_false pbin punary Option.map_some Option.bind_some pick_and pick_or opt_true Bool.true_and Bool.and_self Bool.and_true Bool.true_or Bool.false_or Bool.not_true Bool.not_false callE pcall_eq List.map_cons List.map_nil List.append_nil List.nil_append List.cons_append mapM_cons' mapM_nil' dep_eq fz_sc fz_sl fz_em fz_fn fz_fp fz_agg fz_tu fz_bx fz_ob Nat.lt_irrefl Nat.zero_lt_one Nat.lt_add_one flat clL cl Bool.or_true okc_sc okc_em okc_sl okc_ob okc_bx okc_fp okc_fn okc_agg okc_ifc cells_agg cells_sc cells_sl cells_em cells_ob cells_fn cells_bx cells_fp List.length_cons List.length_nil Nat.zero_add and_self true_and and_true new_m new_c put_m put_c nil_m nil_c deref List.getElem?_cons_zero List.getElem?_cons_succ List.drop_zero List.drop_succ_cons List.take_succ_cons List.take_zero Nat.le_refl false_and and_false decide_true decide_false lenP_em lenP_nil lenP_sl lenP_ob Int.ofNat_zero
set_option maxRecDepth 8000
/-- transhipment/transhipmentlaw06.few -/
def d7 : Def := (.code 1 [.tmp 2] (.seq (.rg false [⟨.some 2, .none, .mv (.c (.slice .none 0 0))⟩]) (.seq (.rg false [⟨.some 3, .none, .mv (.c (.slice .none 0 0))⟩]) (.seq (.seq (.rg false [⟨.some 11, .none, .mv (.t 0)⟩, ⟨.some 12, .none, .mv (.t 0)⟩, ⟨.some 13, .none, .lenL (.t 12)⟩, ⟨.some 14, .none, .mnmx false [.t 13, .c (.int .i64 66)]⟩, ⟨.some 15, .none, .slcL 3 (.t 11) .none (.some (.t 14))⟩, ⟨.some 16, .none, .lenL (.t 15)⟩, ⟨.some 17, .none, .mv (.c (.int .i64 0))⟩]) (.block 0 (.loop (.seq (.rg false [⟨.some 18, .none, .bin .lss (.t 17) (.t 16)⟩]) (.seq (.cond (.t 18) .skip (.exit 0)) (.seq (.block 1 (.seq (.rg false [⟨.some 19, .none, .ia 3 (.t 15) (.t 17)⟩, ⟨.some 20, .none, .ld (.some 3) (.t 19)⟩, ⟨.some 5, .none, .box (.c (.agg #[.string ⟨#[]⟩, .slice .none 0 0, .slice .none 0 0]))⟩, ⟨.none, .none, .st 3 (.t 5) (.t 20)⟩]) (.seq (.rg false [⟨.some 21, .none, .fa 0 (.t 5)⟩, ⟨.some 22, .none, .ld .none (.t 21)⟩, ⟨.some 23, .none, .fa 0 (.t 5)⟩, ⟨.some 24, .none, .ld .none (.t 23)⟩, ⟨.some 25, .none, .lenS (.t 24)⟩, ⟨.some 26, .none, .mnmx false [.t 25, .c (.int .i64 70)]⟩, ⟨.some 27, .none, .slcS (.t 22) .none (.some (.t 26))⟩, ⟨.some 28, .none, .build (.agg #[.string ⟨#[]⟩, .slice .none 0 0, .slice .none 0 0]) [(0, (1, .t 27))]⟩, ⟨.some 6, .none, .box (.c (.agg #[.string ⟨#[]⟩, .slice .none 0 0, .slice .none 0 0]))⟩, ⟨.none, .none, .st 3 (.t 6) (.t 28)⟩]) (.seq (.seq (.rg false [⟨.some 29, .none, .fa 1 (.t 5)⟩, ⟨.some 30, .none, .ld .none (.t 29)⟩, ⟨.some 31, .none, .fa 1 (.t 5)⟩, ⟨.some 32, .none, .ld .none (.t 31)⟩, ⟨.some 33, .none, .lenL (.t 32)⟩, ⟨.some 34, .none, .mnmx false [.t 33, .c (.int .i64 66)]⟩, ⟨.some 35, .none, .slcL 1 (.t 30) .none (.some (.t 34))⟩, ⟨.some 36, .none, .lenL (.t 35)⟩, ⟨.some 37, .none, .mv (.c (.int .i64 0))⟩]) (.block 2 (.loop (.seq (.rg false [⟨.some 38, .none, .bin .lss (.t 37) (.t 36)⟩]) (.seq (.cond (.t 38) .skip (.exit 2)) (.seq (.block 3 (.seq (.rg false [⟨.some 39, .none, .ia 1 (.t 35) (.t 37)⟩, ⟨.some 40, .none, .ld .none (.t 39)⟩, ⟨.some 8, .none, .mv (.t 40)⟩]) (.rg true [⟨.some 41, .none, .fa 1 (.t 6)⟩, ⟨.some 42, .none, .ld .none (.t 41)⟩, ⟨.some 43, .none, .mv (.t 8)⟩, ⟨.some 44, .none, .mv (.t 8)⟩, ⟨.some 45, .none, .lenS (.t 44)⟩, ⟨.some 46, .none, .mnmx false [.t 45, .c (.int .i64 70)]⟩, ⟨.some 47, .none, .slcS (.t 43) .none (.some (.t 46))⟩, ⟨.some 48, .none, .bsl 1 (.string ⟨#[]⟩) 1 [(0, .t 47)]⟩, ⟨.some 49, .none, .app 1 16 false (.t 42) (.t 48)⟩, ⟨.some 50, .none, .fa 1 (.t 6)⟩, ⟨.none, .none, .st 1 (.t 50) (.t 49)⟩]))) (.rg false [⟨.some 51, .none, .bin .add (.t 37) (.c (.int .i64 1))⟩, ⟨.some 37, .none, .mv (.t 51)⟩]))))))) (.seq (.seq (.rg false [⟨.some 52, .none, .fa 2 (.t 5)⟩, ⟨.some 53, .none, .ld .none (.t 52)⟩, ⟨.some 54, .none, .fa 2 (.t 5)⟩, ⟨.some 55, .none, .ld .none (.t 54)⟩, ⟨.some 56, .none, .lenL (.t 55)⟩, ⟨.some 57, .none, .mnmx false [.t 56, .c (.int .i64 66)]⟩, ⟨.some 58, .none, .slcL 1 (.t 53) .none (.some (.t 57))⟩, ⟨.some 59, .none, .lenL (.t 58)⟩, ⟨.some 60, .none, .mv (.c (.int .i64 0))⟩]) (.block 4 (.loop (.seq (.rg false [⟨.some 61, .none, .bin .lss (.t 60) (.t 59)⟩]) (.seq (.cond (.t 61) .skip (.exit 4)) (.seq (.block 5 (.seq (.rg false [⟨.some 62, .none, .ia 1 (.t 58) (.t 60)⟩, ⟨.some 63, .none, .ld .none (.t 62)⟩, ⟨.some 10, .none, .mv (.t 63)⟩]) (.rg true [⟨.some 64, .none, .fa 2 (.t 6)⟩, ⟨.some 65, .none, .ld .none (.t 64)⟩, ⟨.some 66, .none, .mv (.t 10)⟩, ⟨.some 67, .none, .mv (.t 10)⟩, ⟨.some 68, .none, .lenS (.t 67)⟩, ⟨.some 69, .none, .mnmx false [.t 68, .c (.int .i64 205)]⟩, ⟨.some 70, .none, .slcS (.t 66) .none (.some (.t 69))⟩, ⟨.some 71, .none, .bsl 1 (.string ⟨#[]⟩) 1 [(0, .t 70)]⟩, ⟨.some 72, .none, .app 1 16 false (.t 65) (.t 71)⟩, ⟨.some 73, .none, .fa 2 (.t 6)⟩, ⟨.none, .none, .st 1 (.t 73) (.t 72)⟩]))) (.rg false [⟨.some 74, .none, .bin .add (.t 60) (.c (.int .i64 1))⟩, ⟨.some 60, .none, .mv (.t 74)⟩]))))))) (.rg false [⟨.some 75, .none, .mv (.t 3)⟩, ⟨.some 76, .none, .ld (.some 3) (.t 6)⟩, ⟨.some 77, .none, .bsl 3 (.agg #[.string ⟨#[]⟩, .slice .none 0 0, .slice .none 0 0]) 1 [(0, .t 76)]⟩, ⟨.some 78, .none, .app 3 64 false (.t 75) (.t 77)⟩, ⟨.some 3, .none, .mv (.t 78)⟩])))))) (.rg false [⟨.some 79, .none, .bin .add (.t 17) (.c (.int .i64 1))⟩, ⟨.some 17, .none, .mv (.t 79)⟩]))))))) (.seq (.rg false [⟨.some 80, .none, .mv (.t 3)⟩, ⟨.some 2, .none, .mv (.t 80)⟩]) .ret)))))
def ldk : List (Nat × Def) := [(7, d7)]
section
variable {env : Nat → Option Def} {fr : Fr} {σ σ' σ'' : St} {K : Fr → St → Prop} {Q : X → Fr → St → Prop} {p : PV} {bs : List UInt8}
/-- What is appended to what one gathered oneself: all else stays. -/
theorem gat_appS {E : Ev} {d es by_ : Nat} {s' x : PA} {xs : List PV} {e : PV} (hg : Gat σ [d] es false (pa fr s') xs) (hF : Fresh σ) (hsrc : srcOf σ es (pa fr x) = some [e]) (hok : okc e = true) (hl : (cellsOf e).length = es) (hb : (xs.length + 1) * by_ ≤ 70368744177664) :
    ∃ p σ', evO E d fr σ (.app es by_ false s' x) = some (p, σ') ∧ Gat σ' [d] es false p (xs ++ [e]) ∧ SubS σ σ' ∧ Fresh σ' ∧ (∀ o g, o ≠ d → σ'.m o g = σ.m o g) ∧ (∀ o, o ≠ d → σ'.c o = σ.c o) := by
  have hall : ([e].all fun y => okc y && (cellsOf y).length == es) = true := by simp [hok, hl]
  rcases hg with ⟨h1, rfl⟩ | ⟨o, g, wr, h0, h1, h2, h3, h4, h5⟩
  · refine ⟨.ob d (σ.c d) es 0 1, σ.new d ⟨es, [e], true, true⟩, ?_, .inr ⟨d, σ.c d, true, by simp, rfl, by simp [new_m], by simp [new_c], by simp, fun _ => rfl⟩, (SubS.refl σ).new hF _ _, hF.new _ _, fun o g ho => ?_, fun o ho => ?_⟩
    · simp only [evO, hsrc, Option.bind_some, hall, if_true, h1]
      rw [if_pos (by simpa using hb)]
      rfl
    · simp only [new_m]; rw [if_neg (fun h => ho h.1)]
    · simp only [new_c]; rw [if_neg (fun h => ho h)]
  · simp only [List.mem_singleton] at h0
    subst h0
    refine ⟨.ob o (σ.c o) es 0 (xs.length + 1), (σ.put o g (some ⟨es, xs, false, false⟩)).new o ⟨es, xs ++ [e], true, false⟩, ?_, .inr ⟨o, σ.c o, false, by simp, by simp, by simp [new_m, put_c], by simp [new_c, put_c], by simp, fun h => by cases h⟩,
      ((SubS.refl σ).same (y := ⟨es, xs, false, false⟩) h2 rfl rfl).new (hF.put h2 _) _ _, (hF.put h2 _).new _ _, fun o' g' ho => ?_, fun o' ho => ?_⟩
    · simp only [evO, hsrc, Option.bind_some, hall, if_true, h1, h2]
      simp
      simpa using hb
    · simp only [new_m, put_m]; rw [if_neg (fun h => ho h.1), if_neg (fun h => ho h.1)]
    · simp only [new_c, put_c]; rw [if_neg (fun h => ho h)]
theorem s_gatS {d t es by_ : Nat} {x : PA} {xs : List PV} {e : PV} {ops : List POp} (hg : Gat σ [d] es false (fr t) xs) (hF : Fresh σ) (hsrc : srcOf σ es (pa fr x) = some [e]) (hok : okc e = true) (hl : (cellsOf e).length = es) (hb : (xs.length + 1) * by_ ≤ 70368744177664)
    (h2 : ∀ p σ', Gat σ' [d] es false p (xs ++ [e]) → SubS σ σ' → Fresh σ' → (∀ o g, o ≠ d → σ'.m o g = σ.m o g) → (∀ o, o ≠ d → σ'.c o = σ.c o) → Wos env ops K (fr.set d p) σ') : Wos env (⟨some d, none, .app es by_ false (.t t) x⟩ :: ops) K fr σ := by
  obtain ⟨p, σ', h3, h4, h5, h6, h7, h8⟩ := gat_appS (E := EV env) (fr := fr) (s' := .t t) (x := x) hg hF hsrc hok hl hb
  exact s_plain h3 (h2 p σ' h4 h5 h6 h7 h8)
theorem Gat.ok {os : List Nat} {es : Nat} {w : Bool} {xs : List PV} (h : Gat σ os es w p xs) : cellsOf p = [p] ∧ okc p = true := by
  rcases h with ⟨rfl, _⟩ | ⟨o, g, wr, _, rfl, _⟩ <;> exact ⟨rfl, rfl⟩
theorem Gat.same {o : Nat} {es : Nat} {w : Bool} {xs : List PV} (h : Gat σ [o] es w p xs) (hm : ∀ g, g < σ.c o → σ'.m o g = σ.m o g) (hc : σ.c o ≤ σ'.c o) : Gat σ' [o] es w p xs := by
  rcases h with h | ⟨o', g, wr, h0, h1, h2, h3, h4⟩
  · exact .inl h
  · simp only [List.mem_singleton] at h0
    subst h0
    exact .inr ⟨o', g, wr, by simp, h1, by rw [hm g h3]; exact h2, Nat.lt_of_lt_of_le h3 hc, h4⟩
theorem gat_rd {o d : Nat} {es : Nat} {w : Bool} {xs ys : List PV} (h : Gat σ [o] es w p xs) (ho : o < 2000000) (hx : xs.mapM (rd σ d) = some ys) : rd σ (d + 1) p = some (.sl ys) := by
  rcases h with ⟨rfl, rfl⟩ | ⟨o', g, wr, h0, rfl, h2, h3, h4⟩
  · simp only [List.mapM_nil] at hx
    cases hx
    rfl
  · simp only [List.mem_singleton] at h0
    subst h0
    simp only [rd, h2]
    rw [if_pos ho, if_pos ⟨trivial, by omega⟩, List.drop_zero, List.take_length, hx]
    rfl
theorem txts_rd (σ : St) (d : Nat) (l : List (List UInt8)) : (txts l).mapM (rd σ (d + 1)) = some (txts l) := by
  induction l with
  | nil => rfl
  | cons m r ih =>
    show List.mapM (rd σ (d + 1)) (txt m :: txts r) = _
    rw [mapM_cons', ih]
    rfl
theorem mapM_snoc {α β : Type} {f : α → Option β} {xs : List α} {x : α} {ys : List β} {y : β} (h1 : xs.mapM f = some ys) (h2 : f x = some y) : (xs ++ [x]).mapM f = some (ys ++ [y]) := by
  rw [List.mapM_append, h1]
  simp [h2]
/-- The blocks that one gathered so far, nobody else's. -/
structure Fw (σ : St) (s : Nat) (p : PV) (l : List Df) : Prop where
  f : Fresh σ
  g : ∃ xs, Gat σ [s] 3 false p xs ∧ xs.length = l.length ∧ xs.mapM (rd σ 3) = some (dfs l)
theorem Fw.step {s : Nat} {l : List Df} (h : Fw σ s p l) (hs : SubS σ σ') (hF : Fresh σ') (hm : ∀ g, g < σ.c s → σ'.m s g = σ.m s g) (hc : σ.c s ≤ σ'.c s) : Fw σ' s p l := by
  obtain ⟨hf, xs, h1, h2, h3⟩ := h
  exact ⟨hF, xs, h1.same hm hc, h2, mapM_imp (rd_sub hs 3) h3⟩
theorem Fw.new {s : Nat} {l : List Df} (h : Fw σ s p l) (o : Nat) (y : Obj) : Fw (σ.new o y) s p l :=
  h.step ((SubS.refl σ).new h.f _ _) (h.f.new _ _) (fun g hg => by simp only [new_m]; rw [if_neg (fun h => by obtain ⟨rfl, rfl⟩ := h; omega)]) (new_c_le _ _ _ _)
theorem Fw.put {s : Nat} {l : List Df} (h : Fw σ s p l) {o g : Nat} {x : Obj} (ho : 2000000 ≤ o) (hs : s < 2000000) (hm : σ.m o g = some x) (y : Option Obj) : Fw (σ.put o g y) s p l :=
  h.step ((SubS.refl σ).box ho y) (h.f.put hm y) (fun g' _ => by simp only [put_m]; rw [if_neg (fun h => by omega)]) (Nat.le_refl _)
def cutB (n : Nat) (s : List UInt8) : List UInt8 := s.take n
def fewD (d : Df) : Df := ⟨d.ty.take 70, (d.ks.take 66).map (List.take 70), (d.vs.take 66).map (List.take 205)⟩
def fewB (l : List Df) : List Df := (l.take 66).map fewD
end
end Go.Proofs.YtdlfomiclkpibaaDoorPv
namespace Go.Proofs.YtdlfomiclkpibaaDoorPv
open Go
set_option linter.unusedSimpArgs false
set_option linter.unusedVariables false
set_option maxHeartbeats 4000000
attribute [local go_sem ↓] e_mv e_pick e_bin e_eqs e_beq e_un e_cvi e_str e_s2b e_b2s e_box e_build e_bsl e_ld e_st e_nck e_mkf e_slcS e_slcL e_fa e_fld e_ia e_iaa e_ix e_ixa e_ext e_lenS e_lenL e_mnmx e_app e_appb e_bbx e_msl e_clr e_call e_callv pa_t pa_c pa_f slcSP_str hiOf_some hiOf_none loOf_some loOf_none set_eq set_ne
attribute [local go_sem] pv pv1 simple frOf_0 frOf_1 frOf_2 frOf_3 frOf_4 frOf_5 ne_eq not_false_eq_true if_true Bool.false_eq_true if_false pbin punary Option.map_some Option.bind_some pick_and pick_or opt_true Bool.true_and Bool.and_self Bool.and_true Bool.true_or Bool.false_or Bool.not_true Bool.not_false callE pcall_eq List.map_cons List.map_nil List.append_nil List.nil_append List.cons_append mapM_cons' mapM_nil' dep_eq fz_sc fz_sl fz_em fz_fn fz_fp fz_agg fz_tu fz_bx fz_ob Nat.lt_irrefl Nat.zero_lt_one Nat.lt_add_one flat clL cl Bool.or_true okc_sc okc_em okc_sl okc_ob okc_bx okc_fp okc_fn okc_agg okc_ifc cells_agg cells_sc cells_sl cells_em cells_ob cells_fn cells_bx cells_fp List.length_cons List.length_nil Nat.zero_add and_self true_and and_true new_m new_c put_m put_c nil_m nil_c deref List.getElem?_cons_zero List.getElem?_cons_succ List.drop_zero List.drop_succ_cons List.take_succ_cons List.take_zero Nat.le_refl false_and and_false decide_true decide_false lenP_em lenP_nil lenP_sl lenP_ob Int.ofNat_zero
set_option maxRecDepth 8000
/-- transhipment/transhipmentref06.line -/
def d41 : Def := (.code 2 [.cell 4 (.some 3)] (.seq (.rg false [⟨.some 2, .none, .box (.t 0)⟩, ⟨.some 4, .none, .box (.c (.agg #[.slice .none 0 0, .bool false, .bool false]))⟩]) (.seq (.rg false [⟨.some 9, .none, .fa 0 (.t 2)⟩, ⟨.some 10, .none, .ld .none (.t 9)⟩, ⟨.some 11, .none, .lenL (.t 10)⟩, ⟨.some 12, .none, .bin .sub (.t 11) (.c (.int .i64 1))⟩, ⟨.some 5, .none, .mv (.t 12)⟩]) (.seq (.seq (.rg false [⟨.some 13, .none, .fa 1 (.t 2)⟩, ⟨.some 14, .none, .ld .none (.t 13)⟩, ⟨.some 15, .none, .un .not (.t 14)⟩]) (.cond (.t 15) (.seq (.rg false [⟨.some 16, .none, .mv (.t 1)⟩, ⟨.some 17, .none, .call 59 .pure [.t 16]⟩, ⟨.some 6, .none, .mv (.t 17)⟩]) (.seq (.rg false [⟨.some 18, .none, .mv (.t 6)⟩, ⟨.some 19, .none, .bin .neq (.t 18) (.c (.string ⟨#[]⟩))⟩, ⟨.some 20, .none, .mv (.t 19)⟩, ⟨.some 21, .some (20, true), .mv (.t 5)⟩, ⟨.some 22, .some (20, true), .bin .lss (.t 21) (.c (.int .i64 63))⟩, ⟨.some 23, .none, .pick (.t 20) (.t 22) (.c (.bool false))⟩, ⟨.some 24, .none, .fa 2 (.t 2)⟩, ⟨.none, .none, .st 1 (.t 24) (.t 23)⟩]) (.seq (.rg false [⟨.some 25, .none, .fa 1 (.t 2)⟩, ⟨.none, .none, .st 1 (.t 25) (.c (.bool true))⟩]) (.seq (.rg false [⟨.some 26, .none, .fa 0 (.t 2)⟩, ⟨.some 27, .none, .ld .none (.t 26)⟩, ⟨.some 28, .none, .mv (.t 6)⟩, ⟨.some 29, .none, .build (.agg #[.string ⟨#[]⟩, .slice .none 0 0, .slice .none 0 0]) [(0, (1, .t 28))]⟩, ⟨.some 30, .none, .bsl 3 (.agg #[.string ⟨#[]⟩, .slice .none 0 0, .slice .none 0 0]) 1 [(0, .t 29)]⟩, ⟨.some 31, .none, .app 3 64 true (.t 27) (.t 30)⟩, ⟨.some 32, .none, .fa 0 (.t 2)⟩, ⟨.none, .none, .st 1 (.t 32) (.t 31)⟩]) (.seq (.rg false [⟨.some 33, .none, .ld (.some 3) (.t 2)⟩, ⟨.none, .none, .st 3 (.t 4) (.t 33)⟩]) .ret))))) .skip)) (.seq (.seq (.rg false [⟨.some 34, .none, .mv (.t 1)⟩, ⟨.some 35, .none, .bin .eql (.t 34) (.c (.string ⟨#[125]⟩))⟩]) (.cond (.t 35) (.seq (.rg false [⟨.some 36, .none, .fa 1 (.t 2)⟩, ⟨.none, .none, .st 1 (.t 36) (.c (.bool false))⟩]) (.seq (.rg false [⟨.some 37, .none, .ld (.some 3) (.t 2)⟩, ⟨.none, .none, .st 3 (.t 4) (.t 37)⟩]) .ret)) .skip)) (.seq (.rg false [⟨.some 38, .none, .mv (.t 1)⟩, ⟨.some 39, .none, .call 60 .pure [.t 38]⟩, ⟨.some 7, .none, .mv (.t 39)⟩]) (.seq (.seq (.rg true [⟨.some 40, .none, .mv (.t 7)⟩, ⟨.some 41, .none, .lenL (.t 40)⟩, ⟨.some 42, .none, .bin .eql (.t 41) (.c (.int .i64 0))⟩, ⟨.some 43, .none, .mv (.t 42)⟩, ⟨.some 44, .some (43, false), .fa 0 (.t 2)⟩, ⟨.some 45, .some (43, false), .ld .none (.t 44)⟩, ⟨.some 46, .some (43, false), .mv (.t 5)⟩, ⟨.some 47, .some (43, false), .ia 3 (.t 45) (.t 46)⟩, ⟨.some 48, .some (43, false), .fa 1 (.t 47)⟩, ⟨.some 49, .some (43, false), .ld .none (.t 48)⟩, ⟨.some 50, .some (43, false), .mv (.t 7)⟩, ⟨.some 51, .some (43, false), .ia 1 (.t 50) (.c (.int .i64 0))⟩, ⟨.some 52, .some (43, false), .ld .none (.t 51)⟩, ⟨.some 53, .some (43, false), .call 31 .pure [.t 49, .t 52]⟩, ⟨.some 54, .none, .pick (.t 43) (.c (.bool true)) (.t 53)⟩, ⟨.some 55, .none, .mv (.t 54)⟩, ⟨.some 56, .some (55, false), .fa 0 (.t 2)⟩, ⟨.some 57, .some (55, false), .ld .none (.t 56)⟩, ⟨.some 58, .some (55, false), .mv (.t 5)⟩, ⟨.some 59, .some (55, false), .ia 3 (.t 57) (.t 58)⟩, ⟨.some 60, .some (55, false), .fa 1 (.t 59)⟩, ⟨.some 61, .some (55, false), .ld .none (.t 60)⟩, ⟨.some 62, .some (55, false), .lenL (.t 61)⟩, ⟨.some 63, .some (55, false), .bin .eql (.t 62) (.c (.int .i64 64))⟩, ⟨.some 64, .none, .pick (.t 55) (.c (.bool true)) (.t 63)⟩]) (.cond (.t 64) (.seq (.rg false [⟨.some 65, .none, .fa 2 (.t 2)⟩, ⟨.none, .none, .st 1 (.t 65) (.c (.bool false))⟩]) (.seq (.rg false [⟨.some 66, .none, .ld (.some 3) (.t 2)⟩, ⟨.none, .none, .st 3 (.t 4) (.t 66)⟩]) .ret)) .skip)) (.seq (.rg false [⟨.some 67, .none, .fa 0 (.t 2)⟩, ⟨.some 68, .none, .ld .none (.t 67)⟩, ⟨.some 69, .none, .mv (.t 5)⟩, ⟨.some 70, .none, .ia 3 (.t 68) (.t 69)⟩, ⟨.some 71, .none, .ld (.some 3) (.t 70)⟩, ⟨.some 8, .none, .box (.c (.agg #[.string ⟨#[]⟩, .slice .none 0 0, .slice .none 0 0]))⟩, ⟨.none, .none, .st 3 (.t 8) (.t 71)⟩]) (.seq (.rg true [⟨.some 72, .none, .fa 1 (.t 8)⟩, ⟨.some 73, .none, .ld .none (.t 72)⟩, ⟨.some 74, .none, .mv (.t 7)⟩, ⟨.some 75, .none, .ia 1 (.t 74) (.c (.int .i64 0))⟩, ⟨.some 76, .none, .ld .none (.t 75)⟩, ⟨.some 77, .none, .bsl 1 (.string ⟨#[]⟩) 1 [(0, .t 76)]⟩, ⟨.some 78, .none, .app 1 16 false (.t 73) (.t 77)⟩, ⟨.some 79, .none, .fa 1 (.t 8)⟩, ⟨.none, .none, .st 1 (.t 79) (.t 78)⟩]) (.seq (.rg true [⟨.some 80, .none, .fa 2 (.t 8)⟩, ⟨.some 81, .none, .ld .none (.t 80)⟩, ⟨.some 82, .none, .mv (.t 7)⟩, ⟨.some 83, .none, .ia 1 (.t 82) (.c (.int .i64 1))⟩, ⟨.some 84, .none, .ld .none (.t 83)⟩, ⟨.some 85, .none, .bsl 1 (.string ⟨#[]⟩) 1 [(0, .t 84)]⟩, ⟨.some 86, .none, .app 1 16 false (.t 81) (.t 85)⟩, ⟨.some 87, .none, .fa 2 (.t 8)⟩, ⟨.none, .none, .st 1 (.t 87) (.t 86)⟩]) (.seq (.rg false [⟨.some 88, .none, .fa 0 (.t 2)⟩, ⟨.some 89, .none, .ld .none (.t 88)⟩, ⟨.some 90, .none, .mv (.t 5)⟩, ⟨.some 91, .none, .ld (.some 3) (.t 8)⟩, ⟨.some 92, .none, .ia 3 (.t 89) (.t 90)⟩, ⟨.none, .none, .st 3 (.t 92) (.t 91)⟩]) (.seq (.rg false [⟨.some 93, .none, .ld (.some 3) (.t 2)⟩, ⟨.none, .none, .st 3 (.t 4) (.t 93)⟩]) .ret))))))))))))
def ldr : List (Nat × Def) := [(41, d41)]
section
variable {env : Nat → Option Def} {fr : Fr} {σ σ' σ'' : St} {K : Fr → St → Prop} {Q : X → Fr → St → Prop} {p : PV} {bs : List UInt8}
/-- Where keys and values lie. -/
def P41 (o : Nat) : Bool := o == 78 || o == 86
/-- Blocks so far, and the one that is open, last. -/
def Ls (σ : St) (p : PV) (r : Rs) : Prop := Fresh σ ∧ ∃ ys : List PV, ys.length = r.all.length ∧ ys.mapM (rdP P41 σ 3) = some (dfs r.all) ∧ match r.now with
  | none => Gat σ [31] 3 true p ys
  | some d => ∃ pk pv, Gat σ [31] 3 true p (ys ++ [.agg [txt d.ty, pk, pv]]) ∧ Gat σ [78] 1 false pk (txts d.ks) ∧ Gat σ [86] 1 false pv (txts d.vs)
theorem begK_ne (s : List UInt8) : (((if begOk s then begK s else []) : List UInt8) == []) = !begOk s := by
  cases h : begOk s with
  | false => rfl
  | true =>
    obtain ⟨_, h2⟩ := begOk_eq h
    have := word_ne h2
    simpa using this
theorem Ls.step {r : Rs} (h : Ls σ p r) (hF : Fresh σ') (hm : ∀ o g, (o = 31 ∨ o = 78 ∨ o = 86) → g < σ.c o → σ'.m o g = σ.m o g) (hc : ∀ o, σ.c o ≤ σ'.c o) : Ls σ' p r := by
  obtain ⟨h0, ys, h1, h2, h3⟩ := h
  have hlt : ∀ o g x, σ.m o g = some x → g < σ.c o := fun o g x hx => h0 o g (by rw [hx]; rfl)
  refine ⟨hF, ys, h1, mapM_imp (rdP_sub (fun o g x ho hx => ⟨x, ?_, rfl, rfl⟩) 3) h2, ?_⟩
  · rw [hm o g (by unfold P41 at ho; simp at ho; omega) (hlt o g x hx)]; exact hx
  · cases hn : r.now with
    | none => rw [hn] at h3; exact h3.same (fun g hg => hm _ _ (by simp) hg) (hc _)
    | some d =>
      rw [hn] at h3
      obtain ⟨pk, pv, g1, g2, g3⟩ := h3
      exact ⟨pk, pv, g1.same (fun g hg => hm _ _ (by simp) hg) (hc _), g2.same (fun g hg => hm _ _ (by simp) hg) (hc _), g3.same (fun g hg => hm _ _ (by simp) hg) (hc _)⟩
theorem Ls.new {r : Rs} (h : Ls σ p r) (o : Nat) (y : Obj) : Ls (σ.new o y) p r :=
  h.step (h.1.new _ _) (fun o' g' _ hg => by simp only [new_m]; rw [if_neg (fun h => by obtain ⟨rfl, rfl⟩ := h; omega)]) (fun o' => new_c_le _ _ _ _)
theorem Ls.put {r : Rs} (h : Ls σ p r) {o g : Nat} {x : Obj} (ho : 2000000 ≤ o) (hm : σ.m o g = some x) (y : Option Obj) : Ls (σ.put o g y) p r :=
  h.step (h.1.put hm y) (fun o' g' h' _ => by simp only [put_m]; rw [if_neg (fun h => by omega)]) (fun o' => Nat.le_refl _)
theorem Ls.lenP {r : Rs} (h : Ls σ p r) : lenP p = some (r.all.length + r.now.toList.length) := by
  obtain ⟨_, ys, h1, _, h3⟩ := h
  cases hn : r.now with
  | none => rw [hn] at h3; rw [h3.lenP, h1]; rfl
  | some d => rw [hn] at h3; obtain ⟨pk, pv, g1, _⟩ := h3; rw [g1.lenP]; simp [h1]
theorem Ls.ok {r : Rs} (h : Ls σ p r) : cellsOf p = [p] ∧ okc p = true := by
  obtain ⟨_, ys, _, _, h3⟩ := h
  cases hn : r.now with
  | none => rw [hn] at h3; exact h3.ok
  | some d => rw [hn] at h3; obtain ⟨pk, pv, g1, _⟩ := h3; exact g1.ok
/-- What a line makes of blocks. -/
structure Lr (σ : St) (q : PV) (x : Option Rs) : Prop where
  g : ∃ p o, q = .agg [p, .sc (.bool o), .sc (.bool x.isSome)] ∧ cellsOf p = [p] ∧ okc p = true ∧ ∀ r', x = some r' → o = r'.now.isSome ∧ Ls σ p r'
  f : Fresh σ
/-- What stays. -/
abbrev K41 (o : Nat) : Prop := 2000000 ≤ o ∨ P41 o = true
theorem a41n (E : Has lle env) (L : Has ldq env) (R : Has ldr env) {r : Rs} {s : List UInt8} (hr : Ls σ p r) (hn : r.now = none) (hall : r.all.length ≤ 64) (hs : s.length ≤ 8192) :
    ∃ q σ', EV env 41 [.agg [p, .sc (.bool false), .sc (.bool true)], txt s] σ = some (q, σ') ∧ Lr σ' q (outD r s) ∧ Kp K41 σ σ' := by
  have h59 := a59 E L (s := s) (by omega)
  have hlp := hr.lenP
  rw [hn] at hlp
  have hlp : lenP p = some r.all.length := hlp
  obtain ⟨ok1, ok2⟩ := hr.ok
  have w1 : IntKind.i64.wrap ((r.all.length : Int) - 1) = (r.all.length : Int) - 1 := by rw [IntKind.wrap_i64]; omega
  have hbk := begK_ne s
  generalize hk : (if begOk s then begK s else []) = k at h59 hbk
  have e : (begOk s && decide ((r.all.length : Int) - 1 < 63)) = (outD r s).isSome := by
    unfold outD
    by_cases h1 : begOk s = true <;> by_cases h2 : r.all.length < 64 <;> simp [h1, h2] <;> omega
  refine EV_wp' (σ := σ) (as := [.agg [p, .sc (.bool false), .sc (.bool true)], txt s]) (R := fun q τ => Lr τ q (outD r s) ∧ Kp K41 σ τ) (R (41, d41) (by simp [ldr])) rfl ?_
  (repeat' first
    | refine w_seq ?_ | refine w_rg ?_ | refine wo_nil ?_ | refine g_skU ?_
    | ((first | apply s_plain | apply s_void | apply s_guard); · simp only [go_sem, Nat.reduceEqDiff, Nat.reduceAdd, Nat.reduceLeDiff, ok1, ok2, hlp, h59, w1, splice, fillP, fillE, List.modify_zero_cons, List.replicate_succ, List.replicate_zero, List.set_cons_zero, List.drop_zero, ba_data, ba_size, ba_toList, ba_extract, ba_append, List.toList_toArray, ba_nil, hbk, Bool.not_not]; (first | done | rfl))
    | ((first | apply g_T | apply g_F); · intro hb; simp only [go_sem, Nat.reduceEqDiff, Nat.reduceAdd, Nat.reduceLeDiff, ok1, ok2, hlp, h59, w1, splice, fillP, fillE, List.modify_zero_cons, List.replicate_succ, List.replicate_zero, List.set_cons_zero, List.drop_zero, ba_data, ba_size, ba_toList, ba_extract, ba_append, List.toList_toArray, ba_nil, hbk, Bool.not_not, hb]; (first | done | rfl))
    | ((first | apply g_gT | apply g_gF); · intro hb hc; simp only [go_sem, Nat.reduceEqDiff, Nat.reduceAdd, Nat.reduceLeDiff, ok1, ok2, hlp, h59, w1, splice, fillP, fillE, List.modify_zero_cons, List.replicate_succ, List.replicate_zero, List.set_cons_zero, List.drop_zero, ba_data, ba_size, ba_toList, ba_extract, ba_append, List.toList_toArray, ba_nil, hbk, Bool.not_not, hb, hc]; (first | done | rfl))
    | refine g_skT ?_ | refine g_skF ?_
    | ((first | apply g_goT | apply g_goF); · simp only [go_sem, Nat.reduceEqDiff, Nat.reduceAdd, Nat.reduceLeDiff, ok1, ok2, hlp, h59, w1, splice, fillP, fillE, List.modify_zero_cons, List.replicate_succ, List.replicate_zero, List.set_cons_zero, List.drop_zero, ba_data, ba_size, ba_toList, ba_extract, ba_append, List.toList_toArray, ba_nil, hbk, Bool.not_not]; (first | done | rfl))
    | (refine w_condT ?_ ?_; · simp only [go_sem, Nat.reduceEqDiff, Nat.reduceAdd, Nat.reduceLeDiff, ok1, ok2, hlp, h59, w1, splice, fillP, fillE, List.modify_zero_cons, List.replicate_succ, List.replicate_zero, List.set_cons_zero, List.drop_zero, ba_data, ba_size, ba_toList, ba_extract, ba_append, List.toList_toArray, ba_nil, hbk, Bool.not_not]; (first | done | rfl))
    | (refine w_condF ?_ ?_; · simp only [go_sem, Nat.reduceEqDiff, Nat.reduceAdd, Nat.reduceLeDiff, ok1, ok2, hlp, h59, w1, splice, fillP, fillE, List.modify_zero_cons, List.replicate_succ, List.replicate_zero, List.set_cons_zero, List.drop_zero, ba_data, ba_size, ba_toList, ba_extract, ba_append, List.toList_toArray, ba_nil, hbk, Bool.not_not]; (first | done | rfl))
    | refine w_skip ?_ | refine w_exit ?_ | refine w_ret ?_
    | fail
    )
  obtain ⟨hf, ys, hyl, hyr, hg⟩ := hr
  rw [hn] at hg
  have k1 := (((Kp.refl (P := K41) hf).new 2000002 ⟨3, [.agg [p, .sc (.bool false), .sc (.bool true)]], true, true⟩).new 2000004 ⟨3, [.agg [.em, .sc (.bool false), .sc (.bool false)]], true, true⟩).put (o := 2000002) (g := σ.c 2000002) (x := ⟨3, [.agg [p, .sc (.bool false), .sc (.bool true)]], true, true⟩) (by simp only [go_sem, Nat.reduceEqDiff, Nat.reduceAdd, Nat.reduceLeDiff]) (.inr (Nat.le_refl _)) (some ⟨3, [.agg [p, .sc (.bool false), .sc (.bool (begOk s && decide ((r.all.length : Int) - 1 < 63)))]], true, true⟩)
  have k2 := (k1.put (o := 2000002) (g := σ.c 2000002) (x := ⟨3, [.agg [p, .sc (.bool false), .sc (.bool (begOk s && decide ((r.all.length : Int) - 1 < 63)))]], true, true⟩) (by simp only [go_sem, Nat.reduceEqDiff, Nat.reduceAdd, Nat.reduceLeDiff]) (.inr (Nat.le_refl _)) (some ⟨3, [.agg [p, .sc (.bool true), .sc (.bool (begOk s && decide ((r.all.length : Int) - 1 < 63)))]], true, true⟩)).new 30 ⟨3, [.agg [txt k, .em, .em]], true, true⟩
  refine s_gatK (d := 31) (t := 27) (x := .t 30) (xs := ys) (e := .agg [txt k, .em, .em]) ?_ k2.f (by simp only [go_sem, Nat.reduceEqDiff, Nat.reduceAdd, Nat.reduceLeDiff, srcOf, elemsOf, List.drop_zero]) rfl rfl (by omega) ?_
  · simp only [go_sem, Nat.reduceEqDiff, Nat.reduceAdd, Nat.reduceLeDiff]
    exact ((((hg.new _).new _).put (d := 2000002) (by decide) _).put (d := 2000002) (by decide) _).new _
  intro p2 σ2 hg2 hf2 hm2 hc2 hd2
  have k3 := k2.app hf2 hm2 hc2 (by decide) hd2
  have hm3 : σ2.m 2000002 (σ.c 2000002) = some ⟨3, [.agg [p, .sc (.bool true), .sc (.bool (begOk s && decide ((r.all.length : Int) - 1 < 63)))]], true, true⟩ := by rw [hm2 _ _ (by decide)]; simp only [go_sem, Nat.reduceEqDiff, Nat.reduceAdd, Nat.reduceLeDiff, splice, fillP, fillE, List.modify_zero_cons, List.replicate_succ, List.replicate_zero, List.set_cons_zero, List.drop_zero, List.set_cons_succ]
  have hm4 : σ2.m 2000004 (σ.c 2000004) = some ⟨3, [.agg [.em, .sc (.bool false), .sc (.bool false)]], true, true⟩ := by rw [hm2 _ _ (by decide)]; simp only [go_sem, Nat.reduceEqDiff, Nat.reduceAdd, Nat.reduceLeDiff, splice, fillP, fillE, List.modify_zero_cons, List.replicate_succ, List.replicate_zero, List.set_cons_zero, List.drop_zero]
  obtain ⟨ok3, ok4⟩ := hg2.ok
  (repeat' first
    | refine w_seq ?_ | refine w_rg ?_ | refine wo_nil ?_ | refine g_skU ?_
    | ((first | apply s_plain | apply s_void | apply s_guard); · simp only [go_sem, Nat.reduceEqDiff, Nat.reduceAdd, Nat.reduceLeDiff, hm3, hm4, splice, fillP, fillE, List.modify_zero_cons, List.replicate_succ, List.replicate_zero, List.set_cons_zero, List.drop_zero, ok3, ok4]; (first | done | rfl))
    | ((first | apply g_T | apply g_F); · intro hb; simp only [go_sem, Nat.reduceEqDiff, Nat.reduceAdd, Nat.reduceLeDiff, hm3, hm4, splice, fillP, fillE, List.modify_zero_cons, List.replicate_succ, List.replicate_zero, List.set_cons_zero, List.drop_zero, ok3, ok4, hb]; (first | done | rfl))
    | ((first | apply g_gT | apply g_gF); · intro hb hc; simp only [go_sem, Nat.reduceEqDiff, Nat.reduceAdd, Nat.reduceLeDiff, hm3, hm4, splice, fillP, fillE, List.modify_zero_cons, List.replicate_succ, List.replicate_zero, List.set_cons_zero, List.drop_zero, ok3, ok4, hb, hc]; (first | done | rfl))
    | refine g_skT ?_ | refine g_skF ?_
    | ((first | apply g_goT | apply g_goF); · simp only [go_sem, Nat.reduceEqDiff, Nat.reduceAdd, Nat.reduceLeDiff, hm3, hm4, splice, fillP, fillE, List.modify_zero_cons, List.replicate_succ, List.replicate_zero, List.set_cons_zero, List.drop_zero, ok3, ok4]; (first | done | rfl))
    | (refine w_condT ?_ ?_; · simp only [go_sem, Nat.reduceEqDiff, Nat.reduceAdd, Nat.reduceLeDiff, hm3, hm4, splice, fillP, fillE, List.modify_zero_cons, List.replicate_succ, List.replicate_zero, List.set_cons_zero, List.drop_zero, ok3, ok4]; (first | done | rfl))
    | (refine w_condF ?_ ?_; · simp only [go_sem, Nat.reduceEqDiff, Nat.reduceAdd, Nat.reduceLeDiff, hm3, hm4, splice, fillP, fillE, List.modify_zero_cons, List.replicate_succ, List.replicate_zero, List.set_cons_zero, List.drop_zero, ok3, ok4]; (first | done | rfl))
    | refine w_skip ?_ | refine w_exit ?_ | refine w_ret ?_
    | fail
    )
  have k4 := (k3.put (o := 2000002) (g := σ.c 2000002) hm3 (.inr (Nat.le_refl _)) (some ⟨3, [.agg [p2, .sc (.bool true), .sc (.bool (begOk s && decide ((r.all.length : Int) - 1 < 63)))]], true, true⟩)).put (o := 2000004) (g := σ.c 2000004) (x := ⟨3, [.agg [.em, .sc (.bool false), .sc (.bool false)]], true, true⟩) (by simp only [go_sem, Nat.reduceEqDiff, Nat.reduceAdd, Nat.reduceLeDiff, hm4]) (.inr (Nat.le_refl _)) (some ⟨3, [.agg [p2, .sc (.bool true), .sc (.bool (begOk s && decide ((r.all.length : Int) - 1 < 63)))]], true, true⟩)
  refine ⟨.inr rfl, _, (by simp only [go_sem, Nat.reduceEqDiff, Nat.reduceAdd, Nat.reduceLeDiff, retOf, resOf, hm4, splice, fillP, fillE, List.modify_zero_cons, List.replicate_succ, List.replicate_zero, List.set_cons_zero, List.drop_zero, ok3, ok4]; first | done | rfl), ⟨⟨p2, true, by rw [e], ok3, ok4, fun r' hr' => ?_⟩, k4.f⟩, k4⟩
  unfold outD at hr'
  split at hr'
  · rename_i hc
    simp only [Option.some.injEq] at hr'
    subst hr'
    rw [if_pos hc.1] at hk
    subst hk
    refine ⟨rfl, k4.f, ys, hyl, ?_, .em, .em, (hg2.put (by decide) _).put (by decide) _, .em, .em⟩
    exact mapM_imp (rdP_sub (k4.subP hf fun o ho => .inr ho) 3) hyr
  · cases hr'
theorem a41o (F : Has ldf env) (E : Has lle env) (L : Has ldq env) (R : Has ldr env) {r : Rs} {d : Df} {s : List UInt8} (hr : Ls σ p r) (hn : r.now = some d) (hall : r.all.length ≤ 64) (hkn : d.ks.length ≤ 64) (hvn : d.vs.length ≤ 64) (hs : s.length ≤ 8192) :
    ∃ q σ', EV env 41 [.agg [p, .sc (.bool true), .sc (.bool true)], txt s] σ = some (q, σ') ∧ Lr σ' q (inD r d s) ∧ Kp (2000000 ≤ ·) σ σ' := by
  have h60 := a60 E F L (s := s) (by omega)
  obtain ⟨hf, ys, hyl, hyr, hg⟩ := hr
  rw [hn] at hg
  obtain ⟨pk, pv, hg, hgk, hgv⟩ := hg
  obtain ⟨ok1, ok2⟩ := hg.ok
  obtain ⟨ok3, ok4⟩ := hgk.ok
  obtain ⟨ok5, ok6⟩ := hgv.ok
  obtain ⟨g, rfl, hm, hlt⟩ : ∃ g, p = .ob 31 g 3 0 (ys.length + 1) ∧ σ.m 31 g = some ⟨3, ys ++ [.agg [txt d.ty, pk, pv]], true, true⟩ ∧ g < σ.c 31 := by
    rcases hg with ⟨_, h⟩ | ⟨o, g, wr, h0, h1, h2, h3, h4, h5⟩
    · simp at h
    · simp only [List.mem_singleton] at h0
      subst h0
      obtain rfl := h5 rfl
      exact ⟨g, by rw [h1]; simp, h2, h3⟩
  have hget : (ys ++ [PV.agg [txt d.ty, pk, pv]])[ys.length]? = some (.agg [txt d.ty, pk, pv]) := by simp
  have w1 : IntKind.i64.wrap (((ys.length + 1 : Nat) : Int) - 1) = ((ys.length : Nat) : Int) := by rw [IntKind.wrap_i64]; omega
  have b1 : (0 : Int) ≤ ((ys.length : Nat) : Int) ∧ ((ys.length : Nat) : Int) < ((ys.length + 1 : Nat) : Int) := by omega
  refine EV_wp' (σ := σ) (as := [.agg [.ob 31 g 3 0 (ys.length + 1), .sc (.bool true), .sc (.bool true)], txt s]) (R := fun q τ => Lr τ q (inD r d s) ∧ Kp (2000000 ≤ ·) σ τ) (R (41, d41) (by simp [ldr])) rfl ?_
  have kA := ((Kp.refl (P := fun _ => True) hf).new 2000002 ⟨3, [.agg [.ob 31 g 3 0 (ys.length + 1), .sc (.bool true), .sc (.bool true)]], true, true⟩).new 2000004 ⟨3, [.agg [.em, .sc (.bool false), .sc (.bool false)]], true, true⟩
  by_cases hs1 : s = [125]
  · have hc : (s == [125]) = true := by simp [hs1]
    have hin : inD r d s = some ⟨r.all ++ [d], none⟩ := by unfold inD; rw [if_pos hs1]
    (repeat' first
    | refine w_seq ?_ | refine w_rg ?_ | refine wo_nil ?_ | refine g_skU ?_
    | ((first | apply s_plain | apply s_void | apply s_guard); · simp only [go_sem, Nat.reduceEqDiff, Nat.reduceAdd, Nat.reduceLeDiff, w1, hc, splice, fillP, fillE, List.modify_zero_cons, List.replicate_succ, List.replicate_zero, List.set_cons_zero, List.drop_zero, ba_data, ba_size, ba_toList, ba_extract, ba_append, List.toList_toArray]; (first | done | rfl))
    | ((first | apply g_T | apply g_F); · intro hb; simp only [go_sem, Nat.reduceEqDiff, Nat.reduceAdd, Nat.reduceLeDiff, w1, hc, splice, fillP, fillE, List.modify_zero_cons, List.replicate_succ, List.replicate_zero, List.set_cons_zero, List.drop_zero, ba_data, ba_size, ba_toList, ba_extract, ba_append, List.toList_toArray, hb]; (first | done | rfl))
    | ((first | apply g_gT | apply g_gF); · intro hb hc; simp only [go_sem, Nat.reduceEqDiff, Nat.reduceAdd, Nat.reduceLeDiff, w1, hc, splice, fillP, fillE, List.modify_zero_cons, List.replicate_succ, List.replicate_zero, List.set_cons_zero, List.drop_zero, ba_data, ba_size, ba_toList, ba_extract, ba_append, List.toList_toArray, hb, hc]; (first | done | rfl))
    | refine g_skT ?_ | refine g_skF ?_
    | ((first | apply g_goT | apply g_goF); · simp only [go_sem, Nat.reduceEqDiff, Nat.reduceAdd, Nat.reduceLeDiff, w1, hc, splice, fillP, fillE, List.modify_zero_cons, List.replicate_succ, List.replicate_zero, List.set_cons_zero, List.drop_zero, ba_data, ba_size, ba_toList, ba_extract, ba_append, List.toList_toArray]; (first | done | rfl))
    | (refine w_condT ?_ ?_; · simp only [go_sem, Nat.reduceEqDiff, Nat.reduceAdd, Nat.reduceLeDiff, w1, hc, splice, fillP, fillE, List.modify_zero_cons, List.replicate_succ, List.replicate_zero, List.set_cons_zero, List.drop_zero, ba_data, ba_size, ba_toList, ba_extract, ba_append, List.toList_toArray]; (first | done | rfl))
    | (refine w_condF ?_ ?_; · simp only [go_sem, Nat.reduceEqDiff, Nat.reduceAdd, Nat.reduceLeDiff, w1, hc, splice, fillP, fillE, List.modify_zero_cons, List.replicate_succ, List.replicate_zero, List.set_cons_zero, List.drop_zero, ba_data, ba_size, ba_toList, ba_extract, ba_append, List.toList_toArray]; (first | done | rfl))
    | refine w_skip ?_ | refine w_exit ?_ | refine w_ret ?_
    | fail
    )
    have kB := (kA.put (o := 2000002) (g := σ.c 2000002) (x := ⟨3, [.agg [.ob 31 g 3 0 (ys.length + 1), .sc (.bool true), .sc (.bool true)]], true, true⟩) (by simp only [go_sem, Nat.reduceEqDiff, Nat.reduceAdd, Nat.reduceLeDiff]) (.inr (Nat.le_refl _)) (some ⟨3, [.agg [.ob 31 g 3 0 (ys.length + 1), .sc (.bool false), .sc (.bool true)]], true, true⟩)).put (o := 2000004) (g := σ.c 2000004) (x := ⟨3, [.agg [.em, .sc (.bool false), .sc (.bool false)]], true, true⟩) (by simp only [go_sem, Nat.reduceEqDiff, Nat.reduceAdd, Nat.reduceLeDiff]) (.inr (Nat.le_refl _)) (some ⟨3, [.agg [.ob 31 g 3 0 (ys.length + 1), .sc (.bool false), .sc (.bool true)]], true, true⟩)
    refine ⟨.inr rfl, _, (by simp only [go_sem, Nat.reduceEqDiff, Nat.reduceAdd, Nat.reduceLeDiff, retOf, resOf, splice, fillP, fillE, List.modify_zero_cons, List.replicate_succ, List.replicate_zero, List.set_cons_zero, List.drop_zero]; first | done | rfl), ⟨⟨_, false, by rw [hin]; rfl, rfl, rfl, fun r' hr' => ?_⟩, kB.f⟩, kB.mono fun _ _ => trivial⟩
    rw [hin] at hr'
    simp only [Option.some.injEq] at hr'
    subst hr'
    refine ⟨rfl, kB.f, ys ++ [.agg [txt d.ty, pk, pv]], by simp [hyl], ?_, kB.gat trivial hg⟩
    have e2 : dfs (r.all ++ [d]) = dfs r.all ++ [df d] := by simp [dfs]
    rw [e2]
    have hsub := kB.subP (B := P41) hf fun _ _ => trivial
    refine mapM_snoc (mapM_imp (rdP_sub hsub 3) hyr) ?_
    have tr : ∀ l, (txts l).mapM (rdP P41 σ 1) = some (txts l) := fun l => by
      induction l with
      | nil => rfl
      | cons m r ih =>
        show List.mapM (rdP P41 σ 1) (txt m :: txts r) = _
        rw [mapM_cons', ih]; rfl
    have r1 := rdP_sub hsub 2 _ _ (gat_rdP (P := P41) hgk (by simp [P41]) (tr _))
    have r2 := rdP_sub hsub 2 _ _ (gat_rdP (P := P41) hgv (by simp [P41]) (tr _))
    rw [rdP_agg]
    simp only [mapM_cons', mapM_nil', r1, r2, rdP_sc, Option.bind_some, Option.map_some]
    rfl
  · have hc : (s == [125]) = false := by simpa using hs1
    have hin := inD_iff r d s hs1
    cases hk : keyOk s with
    | false =>
      rw [hk] at h60 hin
      have hin : inD r d s = none := by simpa using hin
      (repeat' first
    | refine w_seq ?_ | refine w_rg ?_ | refine wo_nil ?_ | refine g_skU ?_
    | ((first | apply s_plain | apply s_void | apply s_guard); · simp only [go_sem, Nat.reduceEqDiff, Nat.reduceAdd, Nat.reduceLeDiff, w1, hc, splice, fillP, fillE, List.modify_zero_cons, List.replicate_succ, List.replicate_zero, List.set_cons_zero, List.drop_zero, ba_data, ba_size, ba_toList, ba_extract, ba_append, List.toList_toArray, h60, Bool.false_eq_true, if_false]; (first | done | rfl))
    | ((first | apply g_T | apply g_F); · intro hb; simp only [go_sem, Nat.reduceEqDiff, Nat.reduceAdd, Nat.reduceLeDiff, w1, hc, splice, fillP, fillE, List.modify_zero_cons, List.replicate_succ, List.replicate_zero, List.set_cons_zero, List.drop_zero, ba_data, ba_size, ba_toList, ba_extract, ba_append, List.toList_toArray, h60, Bool.false_eq_true, if_false, hb]; (first | done | rfl))
    | ((first | apply g_gT | apply g_gF); · intro hb hc; simp only [go_sem, Nat.reduceEqDiff, Nat.reduceAdd, Nat.reduceLeDiff, w1, hc, splice, fillP, fillE, List.modify_zero_cons, List.replicate_succ, List.replicate_zero, List.set_cons_zero, List.drop_zero, ba_data, ba_size, ba_toList, ba_extract, ba_append, List.toList_toArray, h60, Bool.false_eq_true, if_false, hb, hc]; (first | done | rfl))
    | refine g_skT ?_ | refine g_skF ?_
    | ((first | apply g_goT | apply g_goF); · simp only [go_sem, Nat.reduceEqDiff, Nat.reduceAdd, Nat.reduceLeDiff, w1, hc, splice, fillP, fillE, List.modify_zero_cons, List.replicate_succ, List.replicate_zero, List.set_cons_zero, List.drop_zero, ba_data, ba_size, ba_toList, ba_extract, ba_append, List.toList_toArray, h60, Bool.false_eq_true, if_false]; (first | done | rfl))
    | (refine w_condT ?_ ?_; · simp only [go_sem, Nat.reduceEqDiff, Nat.reduceAdd, Nat.reduceLeDiff, w1, hc, splice, fillP, fillE, List.modify_zero_cons, List.replicate_succ, List.replicate_zero, List.set_cons_zero, List.drop_zero, ba_data, ba_size, ba_toList, ba_extract, ba_append, List.toList_toArray, h60, Bool.false_eq_true, if_false]; (first | done | rfl))
    | (refine w_condF ?_ ?_; · simp only [go_sem, Nat.reduceEqDiff, Nat.reduceAdd, Nat.reduceLeDiff, w1, hc, splice, fillP, fillE, List.modify_zero_cons, List.replicate_succ, List.replicate_zero, List.set_cons_zero, List.drop_zero, ba_data, ba_size, ba_toList, ba_extract, ba_append, List.toList_toArray, h60, Bool.false_eq_true, if_false]; (first | done | rfl))
    | refine w_skip ?_ | refine w_exit ?_ | refine w_ret ?_
    | fail
    )
      have kB := (kA.put (o := 2000002) (g := σ.c 2000002) (x := ⟨3, [.agg [.ob 31 g 3 0 (ys.length + 1), .sc (.bool true), .sc (.bool true)]], true, true⟩) (by simp only [go_sem, Nat.reduceEqDiff, Nat.reduceAdd, Nat.reduceLeDiff]) (.inr (Nat.le_refl _)) (some ⟨3, [.agg [.ob 31 g 3 0 (ys.length + 1), .sc (.bool true), .sc (.bool false)]], true, true⟩)).put (o := 2000004) (g := σ.c 2000004) (x := ⟨3, [.agg [.em, .sc (.bool false), .sc (.bool false)]], true, true⟩) (by simp only [go_sem, Nat.reduceEqDiff, Nat.reduceAdd, Nat.reduceLeDiff]) (.inr (Nat.le_refl _)) (some ⟨3, [.agg [.ob 31 g 3 0 (ys.length + 1), .sc (.bool true), .sc (.bool false)]], true, true⟩)
      refine ⟨.inr rfl, _, (by simp only [go_sem, Nat.reduceEqDiff, Nat.reduceAdd, Nat.reduceLeDiff, retOf, resOf, splice, fillP, fillE, List.modify_zero_cons, List.replicate_succ, List.replicate_zero, List.set_cons_zero, List.drop_zero, List.set_cons_succ]; first | done | rfl), ⟨⟨_, true, by rw [hin]; rfl, rfl, rfl, fun r' hr' => ?_⟩, kB.f⟩, kB.mono fun _ _ => trivial⟩
      rw [hin] at hr'; cases hr'
    | true =>
      rw [hk, if_pos rfl] at h60
      rw [hk] at hin
      generalize keyK s = kk at *
      generalize keyV s = vv at *
      have h31 := a31 F (l := d.ks) (by omega) kk
      have hfz : fz ((σ.new 2000002 ⟨3, [.agg [.ob 31 g 3 0 (ys.length + 1), .sc (.bool true), .sc (.bool true)]], true, true⟩).new 2000004 ⟨3, [.agg [.em, .sc (.bool false), .sc (.bool false)]], true, true⟩) 12 pk = some (.sl (txts d.ks)) := ((hgk.new _).new _).fz (txts_fz _ 10 _)
      have hlk := hgk.lenP
      rw [txts_len] at hlk
      have e2 : ((2 : Int) == 0) = false := rfl
      have t2 : txts [kk, vv] = [txt kk, txt vv] := rfl
      (repeat' first
    | refine w_seq ?_ | refine w_rg ?_ | refine wo_nil ?_ | refine g_skU ?_
    | ((first | apply s_plain | apply s_void | apply s_guard); · simp only [go_sem, Nat.reduceEqDiff, Nat.reduceAdd, Nat.reduceLeDiff, w1, hc, splice, fillP, fillE, List.modify_zero_cons, List.replicate_succ, List.replicate_zero, List.set_cons_zero, List.drop_zero, ba_data, ba_size, ba_toList, ba_extract, ba_append, List.toList_toArray, h60, t2, e2, hm, hget, b1, Int.toNat_natCast, Int.toNat_zero, ok3, ok4, h31, hfz, hlk]; (first | done | rfl))
    | ((first | apply g_T | apply g_F); · intro hb; simp only [go_sem, Nat.reduceEqDiff, Nat.reduceAdd, Nat.reduceLeDiff, w1, hc, splice, fillP, fillE, List.modify_zero_cons, List.replicate_succ, List.replicate_zero, List.set_cons_zero, List.drop_zero, ba_data, ba_size, ba_toList, ba_extract, ba_append, List.toList_toArray, h60, t2, e2, hm, hget, b1, Int.toNat_natCast, Int.toNat_zero, ok3, ok4, h31, hfz, hlk, hb]; (first | done | rfl))
    | ((first | apply g_gT | apply g_gF); · intro hb hc; simp only [go_sem, Nat.reduceEqDiff, Nat.reduceAdd, Nat.reduceLeDiff, w1, hc, splice, fillP, fillE, List.modify_zero_cons, List.replicate_succ, List.replicate_zero, List.set_cons_zero, List.drop_zero, ba_data, ba_size, ba_toList, ba_extract, ba_append, List.toList_toArray, h60, t2, e2, hm, hget, b1, Int.toNat_natCast, Int.toNat_zero, ok3, ok4, h31, hfz, hlk, hb, hc]; (first | done | rfl))
    | refine g_skT ?_ | refine g_skF ?_
    | ((first | apply g_goT | apply g_goF); · simp only [go_sem, Nat.reduceEqDiff, Nat.reduceAdd, Nat.reduceLeDiff, w1, hc, splice, fillP, fillE, List.modify_zero_cons, List.replicate_succ, List.replicate_zero, List.set_cons_zero, List.drop_zero, ba_data, ba_size, ba_toList, ba_extract, ba_append, List.toList_toArray, h60, t2, e2, hm, hget, b1, Int.toNat_natCast, Int.toNat_zero, ok3, ok4, h31, hfz, hlk]; (first | done | rfl))
    | (refine w_condT ?_ ?_; · simp only [go_sem, Nat.reduceEqDiff, Nat.reduceAdd, Nat.reduceLeDiff, w1, hc, splice, fillP, fillE, List.modify_zero_cons, List.replicate_succ, List.replicate_zero, List.set_cons_zero, List.drop_zero, ba_data, ba_size, ba_toList, ba_extract, ba_append, List.toList_toArray, h60, t2, e2, hm, hget, b1, Int.toNat_natCast, Int.toNat_zero, ok3, ok4, h31, hfz, hlk]; (first | done | rfl))
    | (refine w_condF ?_ ?_; · simp only [go_sem, Nat.reduceEqDiff, Nat.reduceAdd, Nat.reduceLeDiff, w1, hc, splice, fillP, fillE, List.modify_zero_cons, List.replicate_succ, List.replicate_zero, List.set_cons_zero, List.drop_zero, ba_data, ba_size, ba_toList, ba_extract, ba_append, List.toList_toArray, h60, t2, e2, hm, hget, b1, Int.toNat_natCast, Int.toNat_zero, ok3, ok4, h31, hfz, hlk]; (first | done | rfl))
    | refine w_skip ?_ | refine w_exit ?_ | refine w_ret ?_
    | fail
    )
      have e : (d.ks.contains kk || ((d.ks.length : Int) == 64)) = !(true && !d.ks.contains kk && !decide (d.ks.length = 64)) := by
        have : ((d.ks.length : Int) == 64) = decide (d.ks.length = 64) := by rw [Bool.eq_iff_iff]; simp; omega
        rw [this]
        simp
      refine w_condB (b := !(true && !d.ks.contains kk && !decide (d.ks.length = 64))) (by simp only [go_sem, Nat.reduceEqDiff, Nat.reduceAdd, Nat.reduceLeDiff]; exact congrArg (fun b => PV.sc (.bool b)) e) (fun hb => ?_) (fun hb => ?_)
      · rw [if_pos hb] at hin
        (repeat' first
    | refine w_seq ?_ | refine w_rg ?_ | refine wo_nil ?_ | refine g_skU ?_
    | ((first | apply s_plain | apply s_void | apply s_guard); · simp only [go_sem, Nat.reduceEqDiff, Nat.reduceAdd, Nat.reduceLeDiff, splice, fillP, fillE, List.modify_zero_cons, List.replicate_succ, List.replicate_zero, List.set_cons_zero, List.drop_zero, List.set_cons_succ]; (first | done | rfl))
    | ((first | apply g_T | apply g_F); · intro hb; simp only [go_sem, Nat.reduceEqDiff, Nat.reduceAdd, Nat.reduceLeDiff, splice, fillP, fillE, List.modify_zero_cons, List.replicate_succ, List.replicate_zero, List.set_cons_zero, List.drop_zero, List.set_cons_succ, hb]; (first | done | rfl))
    | ((first | apply g_gT | apply g_gF); · intro hb hc; simp only [go_sem, Nat.reduceEqDiff, Nat.reduceAdd, Nat.reduceLeDiff, splice, fillP, fillE, List.modify_zero_cons, List.replicate_succ, List.replicate_zero, List.set_cons_zero, List.drop_zero, List.set_cons_succ, hb, hc]; (first | done | rfl))
    | refine g_skT ?_ | refine g_skF ?_
    | ((first | apply g_goT | apply g_goF); · simp only [go_sem, Nat.reduceEqDiff, Nat.reduceAdd, Nat.reduceLeDiff, splice, fillP, fillE, List.modify_zero_cons, List.replicate_succ, List.replicate_zero, List.set_cons_zero, List.drop_zero, List.set_cons_succ]; (first | done | rfl))
    | (refine w_condT ?_ ?_; · simp only [go_sem, Nat.reduceEqDiff, Nat.reduceAdd, Nat.reduceLeDiff, splice, fillP, fillE, List.modify_zero_cons, List.replicate_succ, List.replicate_zero, List.set_cons_zero, List.drop_zero, List.set_cons_succ]; (first | done | rfl))
    | (refine w_condF ?_ ?_; · simp only [go_sem, Nat.reduceEqDiff, Nat.reduceAdd, Nat.reduceLeDiff, splice, fillP, fillE, List.modify_zero_cons, List.replicate_succ, List.replicate_zero, List.set_cons_zero, List.drop_zero, List.set_cons_succ]; (first | done | rfl))
    | refine w_skip ?_ | refine w_exit ?_ | refine w_ret ?_
    | fail
    )
        have kB := (kA.put (o := 2000002) (g := σ.c 2000002) (x := ⟨3, [.agg [.ob 31 g 3 0 (ys.length + 1), .sc (.bool true), .sc (.bool true)]], true, true⟩) (by simp only [go_sem, Nat.reduceEqDiff, Nat.reduceAdd, Nat.reduceLeDiff]) (.inr (Nat.le_refl _)) (some ⟨3, [.agg [.ob 31 g 3 0 (ys.length + 1), .sc (.bool true), .sc (.bool false)]], true, true⟩)).put (o := 2000004) (g := σ.c 2000004) (x := ⟨3, [.agg [.em, .sc (.bool false), .sc (.bool false)]], true, true⟩) (by simp only [go_sem, Nat.reduceEqDiff, Nat.reduceAdd, Nat.reduceLeDiff]) (.inr (Nat.le_refl _)) (some ⟨3, [.agg [.ob 31 g 3 0 (ys.length + 1), .sc (.bool true), .sc (.bool false)]], true, true⟩)
        refine ⟨.inr rfl, _, (by simp only [go_sem, Nat.reduceEqDiff, Nat.reduceAdd, Nat.reduceLeDiff, retOf, resOf, splice, fillP, fillE, List.modify_zero_cons, List.replicate_succ, List.replicate_zero, List.set_cons_zero, List.drop_zero, List.set_cons_succ]; first | done | rfl), ⟨⟨_, true, by rw [hin]; rfl, rfl, rfl, fun r' hr' => ?_⟩, kB.f⟩, kB.mono fun _ _ => trivial⟩
        rw [hin] at hr'; cases hr'
      · rw [if_neg (by rw [hb]; simp)] at hin
        have kC := ((kA.new 2000008 ⟨3, [.agg [txt [], .em, .em]], true, true⟩).put (o := 2000008) (g := σ.c 2000008) (x := ⟨3, [.agg [txt [], .em, .em]], true, true⟩) (by simp only [go_sem, Nat.reduceEqDiff, Nat.reduceAdd, Nat.reduceLeDiff]) (.inr (Nat.le_refl _)) (some ⟨3, [.agg [txt d.ty, pk, pv]], true, true⟩)).new 77 ⟨1, [txt kk], true, true⟩
        have sC := kC.subP (B := P41) hf fun _ _ => trivial
        (repeat' first
    | refine w_seq ?_ | refine w_rg ?_ | refine wo_nil ?_ | refine g_skU ?_
    | ((first | apply s_plain | apply s_void | apply s_guard); · simp only [go_sem, Nat.reduceEqDiff, Nat.reduceAdd, Nat.reduceLeDiff, w1, hc, splice, fillP, fillE, List.modify_zero_cons, List.replicate_succ, List.replicate_zero, List.set_cons_zero, List.drop_zero, ba_data, ba_size, ba_toList, ba_extract, ba_append, List.toList_toArray, t2, e2, hm, hget, b1, Int.toNat_natCast, Int.toNat_zero, ok3, ok4, ok5, ok6]; (first | done | rfl))
    | ((first | apply g_T | apply g_F); · intro hb; simp only [go_sem, Nat.reduceEqDiff, Nat.reduceAdd, Nat.reduceLeDiff, w1, hc, splice, fillP, fillE, List.modify_zero_cons, List.replicate_succ, List.replicate_zero, List.set_cons_zero, List.drop_zero, ba_data, ba_size, ba_toList, ba_extract, ba_append, List.toList_toArray, t2, e2, hm, hget, b1, Int.toNat_natCast, Int.toNat_zero, ok3, ok4, ok5, ok6, hb]; (first | done | rfl))
    | ((first | apply g_gT | apply g_gF); · intro hb hc; simp only [go_sem, Nat.reduceEqDiff, Nat.reduceAdd, Nat.reduceLeDiff, w1, hc, splice, fillP, fillE, List.modify_zero_cons, List.replicate_succ, List.replicate_zero, List.set_cons_zero, List.drop_zero, ba_data, ba_size, ba_toList, ba_extract, ba_append, List.toList_toArray, t2, e2, hm, hget, b1, Int.toNat_natCast, Int.toNat_zero, ok3, ok4, ok5, ok6, hb, hc]; (first | done | rfl))
    | refine g_skT ?_ | refine g_skF ?_
    | ((first | apply g_goT | apply g_goF); · simp only [go_sem, Nat.reduceEqDiff, Nat.reduceAdd, Nat.reduceLeDiff, w1, hc, splice, fillP, fillE, List.modify_zero_cons, List.replicate_succ, List.replicate_zero, List.set_cons_zero, List.drop_zero, ba_data, ba_size, ba_toList, ba_extract, ba_append, List.toList_toArray, t2, e2, hm, hget, b1, Int.toNat_natCast, Int.toNat_zero, ok3, ok4, ok5, ok6]; (first | done | rfl))
    | (refine w_condT ?_ ?_; · simp only [go_sem, Nat.reduceEqDiff, Nat.reduceAdd, Nat.reduceLeDiff, w1, hc, splice, fillP, fillE, List.modify_zero_cons, List.replicate_succ, List.replicate_zero, List.set_cons_zero, List.drop_zero, ba_data, ba_size, ba_toList, ba_extract, ba_append, List.toList_toArray, t2, e2, hm, hget, b1, Int.toNat_natCast, Int.toNat_zero, ok3, ok4, ok5, ok6]; (first | done | rfl))
    | (refine w_condF ?_ ?_; · simp only [go_sem, Nat.reduceEqDiff, Nat.reduceAdd, Nat.reduceLeDiff, w1, hc, splice, fillP, fillE, List.modify_zero_cons, List.replicate_succ, List.replicate_zero, List.set_cons_zero, List.drop_zero, ba_data, ba_size, ba_toList, ba_extract, ba_append, List.toList_toArray, t2, e2, hm, hget, b1, Int.toNat_natCast, Int.toNat_zero, ok3, ok4, ok5, ok6]; (first | done | rfl))
    | refine w_skip ?_ | refine w_exit ?_ | refine w_ret ?_
    | fail
    )
        refine s_gat2 (d := 78) (t := 73) (x := .t 77) (xs := txts d.ks) (e := txt kk) (by simp only [go_sem, Nat.reduceEqDiff, Nat.reduceAdd, Nat.reduceLeDiff]; exact kC.gat trivial hgk) kC.f (by simp only [go_sem, Nat.reduceEqDiff, Nat.reduceAdd, Nat.reduceLeDiff, srcOf, elemsOf, List.drop_zero]) rfl rfl (by rw [txts_len]; omega) ?_
        intro pk2 σ2 hk2 hf2 hs2 hm2 hc2 hd2
        have hm8 : σ2.m 2000008 (σ.c 2000008) = some ⟨3, [.agg [txt d.ty, pk, pv]], true, true⟩ := by rw [hm2 _ _ (by decide)]; simp only [go_sem, Nat.reduceEqDiff, Nat.reduceAdd, Nat.reduceLeDiff, splice, fillP, fillE, List.modify_zero_cons, List.replicate_succ, List.replicate_zero, List.set_cons_zero, List.drop_zero]
        have sub2 := sC.trans (hs2 P41)
        have kD := (kC.mono (P' := (2000000 ≤ ·)) fun _ _ => trivial).app hf2 hm2 hc2 (by decide) hd2
        have gv2 : Gat σ2 [86] 1 false pv (txts d.vs) := (kC.gat trivial hgv).same (fun g _ => hm2 _ _ (by decide)) (by rw [hc2 _ (by decide)]; exact Nat.le_refl _)
        obtain ⟨ok7, ok8⟩ := hk2.ok
        (repeat' first
    | refine w_seq ?_ | refine w_rg ?_ | refine wo_nil ?_ | refine g_skU ?_
    | ((first | apply s_plain | apply s_void | apply s_guard); · simp only [go_sem, Nat.reduceEqDiff, Nat.reduceAdd, Nat.reduceLeDiff, hm8, splice, fillP, fillE, List.modify_zero_cons, List.replicate_succ, List.replicate_zero, List.set_cons_zero, List.drop_zero, ba_data, ba_size, ba_toList, ba_extract, ba_append, List.toList_toArray, t2, Int.toNat_natCast, Int.toNat_zero, ok7, ok8]; (first | done | rfl))
    | ((first | apply g_T | apply g_F); · intro hb; simp only [go_sem, Nat.reduceEqDiff, Nat.reduceAdd, Nat.reduceLeDiff, hm8, splice, fillP, fillE, List.modify_zero_cons, List.replicate_succ, List.replicate_zero, List.set_cons_zero, List.drop_zero, ba_data, ba_size, ba_toList, ba_extract, ba_append, List.toList_toArray, t2, Int.toNat_natCast, Int.toNat_zero, ok7, ok8, hb]; (first | done | rfl))
    | ((first | apply g_gT | apply g_gF); · intro hb hc; simp only [go_sem, Nat.reduceEqDiff, Nat.reduceAdd, Nat.reduceLeDiff, hm8, splice, fillP, fillE, List.modify_zero_cons, List.replicate_succ, List.replicate_zero, List.set_cons_zero, List.drop_zero, ba_data, ba_size, ba_toList, ba_extract, ba_append, List.toList_toArray, t2, Int.toNat_natCast, Int.toNat_zero, ok7, ok8, hb, hc]; (first | done | rfl))
    | refine g_skT ?_ | refine g_skF ?_
    | ((first | apply g_goT | apply g_goF); · simp only [go_sem, Nat.reduceEqDiff, Nat.reduceAdd, Nat.reduceLeDiff, hm8, splice, fillP, fillE, List.modify_zero_cons, List.replicate_succ, List.replicate_zero, List.set_cons_zero, List.drop_zero, ba_data, ba_size, ba_toList, ba_extract, ba_append, List.toList_toArray, t2, Int.toNat_natCast, Int.toNat_zero, ok7, ok8]; (first | done | rfl))
    | (refine w_condT ?_ ?_; · simp only [go_sem, Nat.reduceEqDiff, Nat.reduceAdd, Nat.reduceLeDiff, hm8, splice, fillP, fillE, List.modify_zero_cons, List.replicate_succ, List.replicate_zero, List.set_cons_zero, List.drop_zero, ba_data, ba_size, ba_toList, ba_extract, ba_append, List.toList_toArray, t2, Int.toNat_natCast, Int.toNat_zero, ok7, ok8]; (first | done | rfl))
    | (refine w_condF ?_ ?_; · simp only [go_sem, Nat.reduceEqDiff, Nat.reduceAdd, Nat.reduceLeDiff, hm8, splice, fillP, fillE, List.modify_zero_cons, List.replicate_succ, List.replicate_zero, List.set_cons_zero, List.drop_zero, ba_data, ba_size, ba_toList, ba_extract, ba_append, List.toList_toArray, t2, Int.toNat_natCast, Int.toNat_zero, ok7, ok8]; (first | done | rfl))
    | refine w_skip ?_ | refine w_exit ?_ | refine w_ret ?_
    | fail
    )
        have kE := (kD.put (o := 2000008) (g := σ.c 2000008) hm8 (.inr (Nat.le_refl _)) (some ⟨3, [.agg [txt d.ty, pk2, pv]], true, true⟩)).new 85 ⟨1, [txt vv], true, true⟩
        refine s_gat2 (d := 86) (t := 81) (x := .t 85) (xs := txts d.vs) (e := txt vv) (by simp only [go_sem, Nat.reduceEqDiff, Nat.reduceAdd, Nat.reduceLeDiff]; exact (gv2.put (by decide) _).new _) kE.f (by simp only [go_sem, Nat.reduceEqDiff, Nat.reduceAdd, Nat.reduceLeDiff, srcOf, elemsOf, List.drop_zero]) rfl rfl (by rw [txts_len]; omega) ?_
        intro pv2 σ3 hv3 hf3 hs3 hm4 hc3 hd3
        have sub3 := (((sub2.put (o := 2000008) (g := σ.c 2000008) rfl (some ⟨3, [.agg [txt d.ty, pk2, pv]], true, true⟩)).new (hf2.put hm8 _) 85 ⟨1, [txt vv], true, true⟩)).trans (hs3 P41)
        have kF := kE.app hf3 hm4 hc3 (by decide) hd3
        have gk3 : Gat σ3 [78] 1 false pk2 (txts d.ks ++ [txt kk]) := ((hk2.put (d := 2000008) (k := σ.c 2000008) (by decide) (some ⟨3, [.agg [txt d.ty, pk2, pv]], true, true⟩)).new (d := 85) ⟨1, [txt vv], true, true⟩).same (fun g _ => hm4 _ _ (by decide)) (by rw [hc3 _ (by decide)]; exact Nat.le_refl _)
        obtain ⟨ok9, okA⟩ := hv3.ok
        have x8 : σ3.m 2000008 (σ.c 2000008) = some ⟨3, [.agg [txt d.ty, pk2, pv]], true, true⟩ := by rw [hm4 _ _ (by decide)]; simp only [go_sem, Nat.reduceEqDiff, Nat.reduceAdd, Nat.reduceLeDiff, splice, fillP, fillE, List.modify_zero_cons, List.replicate_succ, List.replicate_zero, List.set_cons_zero, List.drop_zero]
        have x2 : σ3.m 2000002 (σ.c 2000002) = some ⟨3, [.agg [.ob 31 g 3 0 (ys.length + 1), .sc (.bool true), .sc (.bool true)]], true, true⟩ := by
          rw [hm4 _ _ (by decide)]; simp only [go_sem, Nat.reduceEqDiff, Nat.reduceAdd, Nat.reduceLeDiff]; rw [hm2 _ _ (by decide)]; simp only [go_sem, Nat.reduceEqDiff, Nat.reduceAdd, Nat.reduceLeDiff]
        have x4 : σ3.m 2000004 (σ.c 2000004) = some ⟨3, [.agg [.em, .sc (.bool false), .sc (.bool false)]], true, true⟩ := by
          rw [hm4 _ _ (by decide)]; simp only [go_sem, Nat.reduceEqDiff, Nat.reduceAdd, Nat.reduceLeDiff]; rw [hm2 _ _ (by decide)]; simp only [go_sem, Nat.reduceEqDiff, Nat.reduceAdd, Nat.reduceLeDiff]
        have x31 : σ3.m 31 g = some ⟨3, ys ++ [.agg [txt d.ty, pk, pv]], true, true⟩ := by
          rw [hm4 _ _ (by decide)]; simp only [go_sem, Nat.reduceEqDiff, Nat.reduceAdd, Nat.reduceLeDiff]; rw [hm2 _ _ (by decide)]; simp only [go_sem, Nat.reduceEqDiff, Nat.reduceAdd, Nat.reduceLeDiff, hm]
        have hmod := modify_last ys (PV.agg [txt d.ty, pk, pv]) (fun _ => PV.agg [txt d.ty, pk2, pv2])
        have hlen : (ys ++ [PV.agg [txt d.ty, pk, pv]]).length = ys.length + 1 := by simp
        have b2 : ys.length < ys.length + 1 := by omega
        (repeat' first
    | refine w_seq ?_ | refine w_rg ?_ | refine wo_nil ?_ | refine g_skU ?_
    | ((first | apply s_plain | apply s_void | apply s_guard); · simp only [go_sem, Nat.reduceEqDiff, Nat.reduceAdd, Nat.reduceLeDiff, x8, x2, x4, x31, splice, fillP, fillE, List.modify_zero_cons, List.replicate_succ, List.replicate_zero, List.set_cons_zero, List.drop_zero, List.set_cons_succ, ok9, okA, b1, hmod, hlen, b2, Int.toNat_natCast]; (first | done | rfl))
    | ((first | apply g_T | apply g_F); · intro hb; simp only [go_sem, Nat.reduceEqDiff, Nat.reduceAdd, Nat.reduceLeDiff, x8, x2, x4, x31, splice, fillP, fillE, List.modify_zero_cons, List.replicate_succ, List.replicate_zero, List.set_cons_zero, List.drop_zero, List.set_cons_succ, ok9, okA, b1, hmod, hlen, b2, Int.toNat_natCast, hb]; (first | done | rfl))
    | ((first | apply g_gT | apply g_gF); · intro hb hc; simp only [go_sem, Nat.reduceEqDiff, Nat.reduceAdd, Nat.reduceLeDiff, x8, x2, x4, x31, splice, fillP, fillE, List.modify_zero_cons, List.replicate_succ, List.replicate_zero, List.set_cons_zero, List.drop_zero, List.set_cons_succ, ok9, okA, b1, hmod, hlen, b2, Int.toNat_natCast, hb, hc]; (first | done | rfl))
    | refine g_skT ?_ | refine g_skF ?_
    | ((first | apply g_goT | apply g_goF); · simp only [go_sem, Nat.reduceEqDiff, Nat.reduceAdd, Nat.reduceLeDiff, x8, x2, x4, x31, splice, fillP, fillE, List.modify_zero_cons, List.replicate_succ, List.replicate_zero, List.set_cons_zero, List.drop_zero, List.set_cons_succ, ok9, okA, b1, hmod, hlen, b2, Int.toNat_natCast]; (first | done | rfl))
    | (refine w_condT ?_ ?_; · simp only [go_sem, Nat.reduceEqDiff, Nat.reduceAdd, Nat.reduceLeDiff, x8, x2, x4, x31, splice, fillP, fillE, List.modify_zero_cons, List.replicate_succ, List.replicate_zero, List.set_cons_zero, List.drop_zero, List.set_cons_succ, ok9, okA, b1, hmod, hlen, b2, Int.toNat_natCast]; (first | done | rfl))
    | (refine w_condF ?_ ?_; · simp only [go_sem, Nat.reduceEqDiff, Nat.reduceAdd, Nat.reduceLeDiff, x8, x2, x4, x31, splice, fillP, fillE, List.modify_zero_cons, List.replicate_succ, List.replicate_zero, List.set_cons_zero, List.drop_zero, List.set_cons_succ, ok9, okA, b1, hmod, hlen, b2, Int.toNat_natCast]; (first | done | rfl))
    | refine w_skip ?_ | refine w_exit ?_ | refine w_ret ?_
    | fail
    )
        have kG := (((kF.put (o := 2000008) (g := σ.c 2000008) x8 (.inr (Nat.le_refl _)) (some ⟨3, [.agg [txt d.ty, pk2, pv2]], true, true⟩)).put (o := 31) (g := g) (x := ⟨3, ys ++ [.agg [txt d.ty, pk, pv]], true, true⟩) (by simp only [go_sem, Nat.reduceEqDiff, Nat.reduceAdd, Nat.reduceLeDiff, x31]) (.inl (by decide)) (some ⟨3, ys ++ [.agg [txt d.ty, pk2, pv2]], true, true⟩))).put (o := 2000004) (g := σ.c 2000004) (x := ⟨3, [.agg [.em, .sc (.bool false), .sc (.bool false)]], true, true⟩) (by simp only [go_sem, Nat.reduceEqDiff, Nat.reduceAdd, Nat.reduceLeDiff, x4]) (.inr (Nat.le_refl _)) (some ⟨3, [.agg [.ob 31 g 3 0 (ys.length + 1), .sc (.bool true), .sc (.bool true)]], true, true⟩)
        refine ⟨.inr rfl, _, (by simp only [go_sem, Nat.reduceEqDiff, Nat.reduceAdd, Nat.reduceLeDiff, retOf, resOf, x2, x4, splice, fillP, fillE, List.modify_zero_cons, List.replicate_succ, List.replicate_zero, List.set_cons_zero, List.drop_zero, List.set_cons_succ]; first | done | rfl), ⟨⟨_, true, by rw [hin]; rfl, rfl, rfl, fun r' hr' => ?_⟩, kG.f⟩, kG⟩
        rw [hin] at hr'
        simp only [Option.some.injEq] at hr'
        subst hr'
        refine ⟨rfl, kG.f, ys, hyl, ?_, pk2, pv2, ?_, ?_, ?_⟩
        · exact mapM_imp (rdP_sub (((sub3.put rfl _).put rfl _).put rfl _) 3) hyr
        · refine .inr ⟨31, g, true, by simp, by simp, by simp only [go_sem, Nat.reduceEqDiff, Nat.reduceAdd, Nat.reduceLeDiff], ?_, by simp, fun _ => rfl⟩
          have := kC.c 31
          simp only [put_c]
          rw [hc3 _ (by decide)]
          simp only [go_sem, Nat.reduceEqDiff, Nat.reduceAdd, Nat.reduceLeDiff]
          rw [hc2 _ (by decide)]
          exact Nat.lt_of_lt_of_le hlt this
        · have e1 : txts (d.ks ++ [kk]) = txts d.ks ++ [txt kk] := by simp [txts]
          rw [e1]
          exact ((gk3.put (by decide) _).put (by decide) _).put (by decide) _
        · have e1 : txts (d.vs ++ [vv]) = txts d.vs ++ [txt vv] := by simp [txts]
          rw [e1]
          exact ((hv3.put (by decide) _).put (by decide) _).put (by decide) _
end
end Go.Proofs.YtdlfomiclkpibaaDoorPv
