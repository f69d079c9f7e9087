/-
Own texts of the proof, merged: part 2.
-/
import Derived.Test.YtdlfomiclkpibaaDoorPkBlockPrintsA
import Derived.Test.YtdlfomiclkpibaaDoorPvL
import Derived.HandedShaped
namespace Go.Proofs.YtdlfomiclkpibaaDoorPv
open Go
set_option linter.unusedSimpArgs false
set_option linter.unusedVariables false
set_option maxHeartbeats 4000000
attribute [local go_sem ↓] e_mv e_pick e_bin e_eqs e_beq e_un e_cvi e_str e_s2b e_b2s e_box e_build e_bsl e_ld e_st e_nck e_mkf e_slcS e_slcL e_fa e_fld e_ia e_iaa e_ix e_ixa e_ext e_lenS e_lenL e_mnmx e_app e_appb e_bbx e_msl e_clr e_call e_callv pa_t pa_c pa_f slcSP_str hiOf_some hiOf_none loOf_some loOf_none set_eq set_ne
attribute [local go_sem] pv pv1 simple frOf_0 frOf_1 frOf_2 frOf_3 frOf_4 frOf_5 ne_eq not_false_eq_true if_true Bool.false_eq_true if_false pbin punary Option.map_some Option.bind_some pick_and pick_or opt_true Bool.true_and Bool.and_self Bool.and_true Bool.true_or Bool.false_or Bool.not_true Bool.not_false callE pcall_eq List.map_cons List.map_nil List.append_nil List.nil_append List.cons_append mapM_cons' mapM_nil' dep_eq fz_sc fz_sl fz_em fz_fn fz_fp fz_agg fz_tu fz_bx fz_ob Nat.lt_irrefl Nat.zero_lt_one Nat.lt_add_one flat clL cl Bool.or_true okc_sc okc_em okc_sl okc_ob okc_bx okc_fp okc_fn okc_agg okc_ifc cells_agg cells_sc cells_sl cells_em cells_ob cells_fn cells_bx cells_fp List.length_cons List.length_nil Nat.zero_add and_self true_and and_true new_m new_c put_m put_c nil_m nil_c deref List.getElem?_cons_zero List.getElem?_cons_succ List.drop_zero List.drop_succ_cons List.take_succ_cons List.take_zero Nat.le_refl false_and and_false decide_true decide_false lenP_em lenP_nil lenP_sl lenP_ob Int.ofNat_zero
set_option maxRecDepth 8000
/-- transhipment/transhipmentref06.Right -/
def d10 : Def := (.code 1 [.tmp 2] (.seq (.rg false [⟨.some 2, .none, .mv (.c (.bool false))⟩]) (.seq (.seq (.rg false [⟨.some 7, .none, .mv (.t 0)⟩, ⟨.some 8, .none, .lenL (.t 7)⟩, ⟨.some 9, .none, .mv (.c (.int .i64 0))⟩]) (.block 0 (.loop (.seq (.rg false [⟨.some 10, .none, .bin .lss (.t 9) (.t 8)⟩]) (.seq (.cond (.t 10) .skip (.exit 0)) (.seq (.block 1 (.seq (.rg false [⟨.some 11, .none, .ia 3 (.t 7) (.t 9)⟩, ⟨.some 12, .none, .ld (.some 3) (.t 11)⟩, ⟨.some 4, .none, .box (.c (.agg #[.string ⟨#[]⟩, .slice .none 0 0, .slice .none 0 0]))⟩, ⟨.none, .none, .st 3 (.t 4) (.t 12)⟩]) (.seq (.seq (.rg false [⟨.some 13, .none, .fa 0 (.t 4)⟩, ⟨.some 14, .none, .ld .none (.t 13)⟩, ⟨.some 15, .none, .call 30 .pure [.t 14]⟩, ⟨.some 16, .none, .un .not (.t 15)⟩, ⟨.some 17, .none, .mv (.t 16)⟩, ⟨.some 18, .some (17, false), .fa 1 (.t 4)⟩, ⟨.some 19, .some (17, false), .ld .none (.t 18)⟩, ⟨.some 20, .some (17, false), .lenL (.t 19)⟩, ⟨.some 21, .some (17, false), .bin .gtr (.t 20) (.c (.int .i64 64))⟩, ⟨.some 22, .none, .pick (.t 17) (.c (.bool true)) (.t 21)⟩, ⟨.some 23, .none, .mv (.t 22)⟩, ⟨.some 24, .some (23, false), .fa 1 (.t 4)⟩, ⟨.some 25, .some (23, false), .ld .none (.t 24)⟩, ⟨.some 26, .some (23, false), .lenL (.t 25)⟩, ⟨.some 27, .some (23, false), .fa 2 (.t 4)⟩, ⟨.some 28, .some (23, false), .ld .none (.t 27)⟩, ⟨.some 29, .some (23, false), .lenL (.t 28)⟩, ⟨.some 30, .some (23, false), .bin .neq (.t 26) (.t 29)⟩, ⟨.some 31, .none, .pick (.t 23) (.c (.bool true)) (.t 30)⟩]) (.cond (.t 31) (.seq (.rg false [⟨.some 2, .none, .mv (.c (.bool false))⟩]) .ret) .skip)) (.seq (.rg false [⟨.some 32, .none, .fa 1 (.t 4)⟩, ⟨.some 33, .none, .ld .none (.t 32)⟩, ⟨.some 34, .none, .lenL (.t 33)⟩, ⟨.some 35, .none, .mv (.c (.int .i64 0))⟩]) (.block 2 (.loop (.seq (.rg false [⟨.some 36, .none, .bin .lss (.t 35) (.t 34)⟩]) (.seq (.cond (.t 36) .skip (.exit 2)) (.seq (.block 3 (.seq (.rg false [⟨.some 37, .none, .mv (.t 35)⟩, ⟨.some 38, .none, .ia 1 (.t 33) (.t 35)⟩, ⟨.some 39, .none, .ld .none (.t 38)⟩, ⟨.some 5, .none, .mv (.t 37)⟩, ⟨.some 6, .none, .mv (.t 39)⟩]) (.seq (.rg false [⟨.some 40, .none, .mv (.t 6)⟩, ⟨.some 41, .none, .call 30 .pure [.t 40]⟩, ⟨.some 42, .none, .un .not (.t 41)⟩, ⟨.some 43, .none, .mv (.t 42)⟩, ⟨.some 44, .some (43, false), .fa 1 (.t 4)⟩, ⟨.some 45, .some (43, false), .ld .none (.t 44)⟩, ⟨.some 46, .some (43, false), .mv (.t 5)⟩, ⟨.some 47, .some (43, false), .slcL 1 (.t 45) .none (.some (.t 46))⟩, ⟨.some 48, .some (43, false), .mv (.t 6)⟩, ⟨.some 49, .some (43, false), .call 31 .pure [.t 47, .t 48]⟩, ⟨.some 50, .none, .pick (.t 43) (.c (.bool true)) (.t 49)⟩, ⟨.some 51, .none, .mv (.t 50)⟩, ⟨.some 52, .some (51, false), .fa 2 (.t 4)⟩, ⟨.some 53, .some (51, false), .ld .none (.t 52)⟩, ⟨.some 54, .some (51, false), .mv (.t 5)⟩, ⟨.some 55, .some (51, false), .ia 1 (.t 53) (.t 54)⟩, ⟨.some 56, .some (51, false), .ld .none (.t 55)⟩, ⟨.some 57, .some (51, false), .call 32 .pure [.t 56]⟩, ⟨.some 58, .some (51, false), .un .not (.t 57)⟩, ⟨.some 59, .none, .pick (.t 51) (.c (.bool true)) (.t 58)⟩]) (.cond (.t 59) (.seq (.rg false [⟨.some 2, .none, .mv (.c (.bool false))⟩]) .ret) .skip)))) (.rg false [⟨.some 60, .none, .bin .add (.t 35) (.c (.int .i64 1))⟩, ⟨.some 35, .none, .mv (.t 60)⟩])))))))))) (.rg false [⟨.some 61, .none, .bin .add (.t 9) (.c (.int .i64 1))⟩, ⟨.some 9, .none, .mv (.t 61)⟩]))))))) (.seq (.rg false [⟨.some 62, .none, .mv (.t 0)⟩, ⟨.some 63, .none, .lenL (.t 62)⟩, ⟨.some 64, .none, .bin .leq (.t 63) (.c (.int .i64 64))⟩, ⟨.some 2, .none, .mv (.t 64)⟩]) .ret))))
def ldh : List (Nat × Def) := [(10, d10)]
section
variable {env : Nat → Option Def} {fr : Fr} {σ σ' σ'' : St} {K : Fr → St → Prop} {Q : X → Fr → St → Prop} {p : PV} {bs : List UInt8}
def keyR (d : Df) (i : Nat) : Bool := wordD (d.ks.getD i []) && !(d.ks.take i).contains (d.ks.getD i []) && valD (d.vs.getD i [])
def mayR (d : Df) : Bool := wordD d.ty && decide (d.ks.length ≤ 64) && decide (d.ks.length = d.vs.length) && (List.range d.ks.length).all (keyR d)
theorem mayR_mayD (d : Df) : mayR d = mayD d := by
  unfold mayR mayD keysOk
  by_cases h : d.ks.length = d.vs.length
  · have hv : d.vs.all valD = (List.range d.ks.length).all fun i => valD (d.vs.getD i []) := by
      rw [Bool.eq_iff_iff, List.all_eq_true, List.all_eq_true]
      constructor
      · intro hh i hi
        have hi2 : i < d.vs.length := by rw [← h]; exact List.mem_range.1 hi
        rw [List.getD_eq_getElem?_getD, List.getElem?_eq_getElem hi2]
        exact hh _ (List.getElem_mem hi2)
      · intro hh v hv
        obtain ⟨i, hi, rfl⟩ := List.getElem_of_mem hv
        have := hh i (List.mem_range.2 (by omega))
        rwa [List.getD_eq_getElem?_getD, List.getElem?_eq_getElem hi] at this
    have ha : (List.range d.ks.length).all (keyR d) = ((List.range d.ks.length).all (fun i => wordD (d.ks.getD i []) && !(d.ks.take i).contains (d.ks.getD i [])) && d.vs.all valD) := by
      rw [hv, Bool.eq_iff_iff]
      simp only [keyR, List.all_eq_true, Bool.and_eq_true]
      exact ⟨fun hh => ⟨fun i hi => (hh i hi).1, fun i hi => (hh i hi).2⟩, fun hh i hi => ⟨hh.1 i hi, hh.2 i hi⟩⟩
    rw [ha]
    generalize (List.range d.ks.length).all (fun i => wordD (d.ks.getD i []) && !(d.ks.take i).contains (d.ks.getD i [])) = x1
    generalize wordD d.ty = x2
    generalize decide (d.ks.length ≤ 64) = x3
    generalize decide (d.ks.length = d.vs.length) = x4
    generalize d.vs.all valD = x5
    cases x1 <;> cases x2 <;> cases x3 <;> cases x4 <;> cases x5 <;> rfl
  · simp [h]
theorem a10 (L : Has lle env) (F : Has ldf env) (H : Has ldh env) {l : List Df} (hl : Sms l) : AV env 10 [.sl (dfs l)] = some (.sc (.bool (rightD l))) := by
  have hln := dfs_len l
  refine AV_wp (H (10, d10) (by simp [ldh])) rfl ?_
  (repeat' first
    | refine w_seq ?_ | refine w_rg ?_ | refine wo_nil ?_ | refine g_skU ?_
    | ((first | apply s_plain | apply s_void | apply s_guard); · simp only [go_sem, Nat.reduceEqDiff, Nat.reduceAdd, Nat.reduceLeDiff, hln]; (first | done | rfl))
    | ((first | apply g_T | apply g_F); · intro hb; simp only [go_sem, Nat.reduceEqDiff, Nat.reduceAdd, Nat.reduceLeDiff, hln, hb]; (first | done | rfl))
    | ((first | apply g_gT | apply g_gF); · intro hb hc; simp only [go_sem, Nat.reduceEqDiff, Nat.reduceAdd, Nat.reduceLeDiff, hln, hb, hc]; (first | done | rfl))
    | refine g_skT ?_ | refine g_skF ?_
    | ((first | apply g_goT | apply g_goF); · simp only [go_sem, Nat.reduceEqDiff, Nat.reduceAdd, Nat.reduceLeDiff, hln]; (first | done | rfl))
    )
  refine w_block (w_rangeF l.length (by have := hl.1; omega) (fun i fr σ => ∀ j, j < i → mayD (l.getD j ⟨[], [], []⟩) = true) ⟨by decide, rfl, rfl⟩ (fun _ _ _ _ h => ⟨h, h, h⟩) (fun j hj => by omega) (by simp only [go_sem, Nat.reduceEqDiff, Nat.reduceAdd, Nat.reduceLeDiff]; first | done | rfl) (by simp only [go_sem, Nat.reduceEqDiff, Nat.reduceAdd, Nat.reduceLeDiff, hln]; first | done | rfl) ?_ ?_)
  · rintro i fr1 σ1 hi h3 hti hfr
    have f0_7 := hfr 7 rfl; have f0_8 := hfr 8 rfl; try (simp only [go_sem, Nat.reduceEqDiff, Nat.reduceAdd, Nat.reduceLeDiff] at f0_7); try (simp only [go_sem, Nat.reduceEqDiff, Nat.reduceAdd, Nat.reduceLeDiff] at f0_8)
    have hqd := List.getElem?_eq_getElem hi
    have hx := dfs_at hqd
    have sm := hl.2 _ (List.getElem_mem hi)
    have e1 : (0 : Int) ≤ (i : Int) ∧ (i : Int) < (l.length : Int) := by omega
    have hgd : l.getD i ⟨[], [], []⟩ = l[i] := by rw [List.getD_eq_getElem?_getD, hqd]; rfl
    have hany : mayD l[i] = false → l.all mayD = false := fun h => by rw [List.all_eq_false]; exact ⟨l[i], List.getElem_mem hi, by simp [h]⟩
    rw [← hgd] at hany
    generalize hd : l[i] = d at sm hx hgd
    rw [hgd] at hany
    have hll := txts_len d.ks
    have hlv := txts_len d.vs
    have hty := a30t L sm.ty
    unfold df at hx
    refine w_block ?_
    (repeat' first
    | refine w_seq ?_ | refine w_rg ?_ | refine wo_nil ?_ | refine g_skU ?_
    | ((first | apply s_plain | apply s_void | apply s_guard); · simp only [go_sem, Nat.reduceEqDiff, Nat.reduceAdd, Nat.reduceLeDiff, f0_7, f0_8, hti, e1, hln, Int.toNat_natCast, hx, hll, hlv, hty]; (first | done | rfl))
    | ((first | apply g_T | apply g_F); · intro hb; simp only [go_sem, Nat.reduceEqDiff, Nat.reduceAdd, Nat.reduceLeDiff, f0_7, f0_8, hti, e1, hln, Int.toNat_natCast, hx, hll, hlv, hty, hb]; (first | done | rfl))
    | ((first | apply g_gT | apply g_gF); · intro hb hc; simp only [go_sem, Nat.reduceEqDiff, Nat.reduceAdd, Nat.reduceLeDiff, f0_7, f0_8, hti, e1, hln, Int.toNat_natCast, hx, hll, hlv, hty, hb, hc]; (first | done | rfl))
    | refine g_skT ?_ | refine g_skF ?_
    | ((first | apply g_goT | apply g_goF); · simp only [go_sem, Nat.reduceEqDiff, Nat.reduceAdd, Nat.reduceLeDiff, f0_7, f0_8, hti, e1, hln, Int.toNat_natCast, hx, hll, hlv, hty]; (first | done | rfl))
    )
    have hbad : (((!wordD d.ty) || decide ((d.ks.length : Int) > 64)) || ((d.ks.length : Int) != (d.vs.length : Int))) = !(wordD d.ty && decide (d.ks.length ≤ 64) && decide (d.ks.length = d.vs.length)) := by
      have q1 : decide ((d.ks.length : Int) > 64) = !decide (d.ks.length ≤ 64) := by rw [Bool.eq_iff_iff]; simp; omega
      have q2 : ((d.ks.length : Int) != (d.vs.length : Int)) = !decide (d.ks.length = d.vs.length) := by rw [Bool.eq_iff_iff]; simp [Int.natCast_inj]
      rw [q1, q2]
      cases wordD d.ty <;> cases decide (d.ks.length ≤ 64) <;> cases decide (d.ks.length = d.vs.length) <;> rfl
    cases hpi : (wordD d.ty && decide (d.ks.length ≤ 64) && decide (d.ks.length = d.vs.length)) with
    | false =>
      rw [hpi] at hbad
      (repeat' first
    | refine w_seq ?_ | refine w_rg ?_ | refine wo_nil ?_ | refine g_skU ?_
    | ((first | apply s_plain | apply s_void | apply s_guard); · simp only [go_sem, Nat.reduceEqDiff, Nat.reduceAdd, Nat.reduceLeDiff, hbad, Bool.not_false]; (first | done | rfl))
    | ((first | apply g_T | apply g_F); · intro hb; simp only [go_sem, Nat.reduceEqDiff, Nat.reduceAdd, Nat.reduceLeDiff, hbad, Bool.not_false, hb]; (first | done | rfl))
    | ((first | apply g_gT | apply g_gF); · intro hb hc; simp only [go_sem, Nat.reduceEqDiff, Nat.reduceAdd, Nat.reduceLeDiff, hbad, Bool.not_false, hb, hc]; (first | done | rfl))
    | refine g_skT ?_ | refine g_skF ?_
    | ((first | apply g_goT | apply g_goF); · simp only [go_sem, Nat.reduceEqDiff, Nat.reduceAdd, Nat.reduceLeDiff, hbad, Bool.not_false]; (first | done | rfl))
    | (refine w_condT ?_ ?_; · simp only [go_sem, Nat.reduceEqDiff, Nat.reduceAdd, Nat.reduceLeDiff, hbad, Bool.not_false]; (first | done | rfl))
    | (refine w_condF ?_ ?_; · simp only [go_sem, Nat.reduceEqDiff, Nat.reduceAdd, Nat.reduceLeDiff, hbad, Bool.not_false]; (first | done | rfl))
    | refine w_skip ?_ | refine w_exit ?_ | refine w_ret ?_
    )
      have hm : mayD d = false := by rw [← mayR_mayD]; unfold mayR; rw [hpi, Bool.false_and]
      exact ⟨by first | exact .inr rfl | exact .inr trivial | exact .inl rfl, by simp only [go_sem, Nat.reduceEqDiff, Nat.reduceAdd, Nat.reduceLeDiff, retOf, resOf, rightD, hany hm, Bool.and_false]; first | done | rfl⟩
    | true =>
      rw [hpi] at hbad
      (repeat' first
    | refine w_seq ?_ | refine w_rg ?_ | refine wo_nil ?_ | refine g_skU ?_
    | ((first | apply s_plain | apply s_void | apply s_guard); · simp only [go_sem, Nat.reduceEqDiff, Nat.reduceAdd, Nat.reduceLeDiff, hbad, Bool.not_true]; (first | done | rfl))
    | ((first | apply g_T | apply g_F); · intro hb; simp only [go_sem, Nat.reduceEqDiff, Nat.reduceAdd, Nat.reduceLeDiff, hbad, Bool.not_true, hb]; (first | done | rfl))
    | ((first | apply g_gT | apply g_gF); · intro hb hc; simp only [go_sem, Nat.reduceEqDiff, Nat.reduceAdd, Nat.reduceLeDiff, hbad, Bool.not_true, hb, hc]; (first | done | rfl))
    | refine g_skT ?_ | refine g_skF ?_
    | ((first | apply g_goT | apply g_goF); · simp only [go_sem, Nat.reduceEqDiff, Nat.reduceAdd, Nat.reduceLeDiff, hbad, Bool.not_true]; (first | done | rfl))
    | (refine w_condT ?_ ?_; · simp only [go_sem, Nat.reduceEqDiff, Nat.reduceAdd, Nat.reduceLeDiff, hbad, Bool.not_true]; (first | done | rfl))
    | (refine w_condF ?_ ?_; · simp only [go_sem, Nat.reduceEqDiff, Nat.reduceAdd, Nat.reduceLeDiff, hbad, Bool.not_true]; (first | done | rfl))
    | refine w_skip ?_ | refine w_exit ?_ | refine w_ret ?_
    )
      (repeat' first
    | refine w_seq ?_ | refine w_rg ?_ | refine wo_nil ?_ | refine g_skU ?_
    | ((first | apply s_plain | apply s_void | apply s_guard); · simp only [go_sem, Nat.reduceEqDiff, Nat.reduceAdd, Nat.reduceLeDiff, hll]; (first | done | rfl))
    | ((first | apply g_T | apply g_F); · intro hb; simp only [go_sem, Nat.reduceEqDiff, Nat.reduceAdd, Nat.reduceLeDiff, hll, hb]; (first | done | rfl))
    | ((first | apply g_gT | apply g_gF); · intro hb hc; simp only [go_sem, Nat.reduceEqDiff, Nat.reduceAdd, Nat.reduceLeDiff, hll, hb, hc]; (first | done | rfl))
    | refine g_skT ?_ | refine g_skF ?_
    | ((first | apply g_goT | apply g_goF); · simp only [go_sem, Nat.reduceEqDiff, Nat.reduceAdd, Nat.reduceLeDiff, hll]; (first | done | rfl))
    )
      have hle : d.ks.length ≤ 64 ∧ d.ks.length = d.vs.length := by
        simp only [Bool.and_eq_true, decide_eq_true_eq] at hpi
        exact ⟨hpi.1.2, hpi.2⟩
      refine w_block (w_rangeF d.ks.length (by omega) (fun i fr σ => (∀ j, j < i → keyR d j = true) ∧ σ.m 2000004 (σ1.c 2000004) = some ⟨3, [df d], true, true⟩) ⟨by decide, rfl, rfl⟩ (fun _ _ _ _ h => ⟨h, h, h⟩) ⟨fun j hj => by omega, by simp only [go_sem, Nat.reduceEqDiff, Nat.reduceAdd, Nat.reduceLeDiff]; rfl⟩ (by simp only [go_sem, Nat.reduceEqDiff, Nat.reduceAdd, Nat.reduceLeDiff]; first | done | rfl) (by simp only [go_sem, Nat.reduceEqDiff, Nat.reduceAdd, Nat.reduceLeDiff, hll]; first | done | rfl) ?_ ?_)
      · rintro j fr2 σ2 hj ⟨g3, hm⟩ gti hfr
        have e1_0 := hfr 0 rfl; have e1_4 := hfr 4 rfl; have e1_7 := hfr 7 rfl; have e1_8 := hfr 8 rfl; have e1_9 := hfr 9 rfl; have e1_10 := hfr 10 rfl; have e1_11 := hfr 11 rfl; have e1_12 := hfr 12 rfl; have e1_13 := hfr 13 rfl; have e1_14 := hfr 14 rfl; have e1_15 := hfr 15 rfl; have e1_16 := hfr 16 rfl; have e1_17 := hfr 17 rfl; have e1_18 := hfr 18 rfl; have e1_19 := hfr 19 rfl; have e1_20 := hfr 20 rfl; have e1_21 := hfr 21 rfl; have e1_22 := hfr 22 rfl; have e1_23 := hfr 23 rfl; have e1_24 := hfr 24 rfl; have e1_25 := hfr 25 rfl; have e1_26 := hfr 26 rfl; have e1_27 := hfr 27 rfl; have e1_28 := hfr 28 rfl; have e1_29 := hfr 29 rfl; have e1_30 := hfr 30 rfl; have e1_31 := hfr 31 rfl; have e1_32 := hfr 32 rfl; have e1_33 := hfr 33 rfl; have e1_34 := hfr 34 rfl; try (simp only [go_sem, Nat.reduceEqDiff, Nat.reduceAdd, Nat.reduceLeDiff] at e1_0); try (simp only [go_sem, Nat.reduceEqDiff, Nat.reduceAdd, Nat.reduceLeDiff] at e1_4); try (simp only [go_sem, Nat.reduceEqDiff, Nat.reduceAdd, Nat.reduceLeDiff] at e1_7); try (simp only [go_sem, Nat.reduceEqDiff, Nat.reduceAdd, Nat.reduceLeDiff] at e1_8); try (simp only [go_sem, Nat.reduceEqDiff, Nat.reduceAdd, Nat.reduceLeDiff] at e1_9); try (simp only [go_sem, Nat.reduceEqDiff, Nat.reduceAdd, Nat.reduceLeDiff] at e1_10); try (simp only [go_sem, Nat.reduceEqDiff, Nat.reduceAdd, Nat.reduceLeDiff] at e1_11); try (simp only [go_sem, Nat.reduceEqDiff, Nat.reduceAdd, Nat.reduceLeDiff] at e1_12); try (simp only [go_sem, Nat.reduceEqDiff, Nat.reduceAdd, Nat.reduceLeDiff] at e1_13); try (simp only [go_sem, Nat.reduceEqDiff, Nat.reduceAdd, Nat.reduceLeDiff] at e1_14); try (simp only [go_sem, Nat.reduceEqDiff, Nat.reduceAdd, Nat.reduceLeDiff] at e1_15); try (simp only [go_sem, Nat.reduceEqDiff, Nat.reduceAdd, Nat.reduceLeDiff] at e1_16); try (simp only [go_sem, Nat.reduceEqDiff, Nat.reduceAdd, Nat.reduceLeDiff] at e1_17); try (simp only [go_sem, Nat.reduceEqDiff, Nat.reduceAdd, Nat.reduceLeDiff] at e1_18); try (simp only [go_sem, Nat.reduceEqDiff, Nat.reduceAdd, Nat.reduceLeDiff] at e1_19); try (simp only [go_sem, Nat.reduceEqDiff, Nat.reduceAdd, Nat.reduceLeDiff] at e1_20); try (simp only [go_sem, Nat.reduceEqDiff, Nat.reduceAdd, Nat.reduceLeDiff] at e1_21); try (simp only [go_sem, Nat.reduceEqDiff, Nat.reduceAdd, Nat.reduceLeDiff] at e1_22); try (simp only [go_sem, Nat.reduceEqDiff, Nat.reduceAdd, Nat.reduceLeDiff] at e1_23); try (simp only [go_sem, Nat.reduceEqDiff, Nat.reduceAdd, Nat.reduceLeDiff] at e1_24); try (simp only [go_sem, Nat.reduceEqDiff, Nat.reduceAdd, Nat.reduceLeDiff] at e1_25); try (simp only [go_sem, Nat.reduceEqDiff, Nat.reduceAdd, Nat.reduceLeDiff] at e1_26); try (simp only [go_sem, Nat.reduceEqDiff, Nat.reduceAdd, Nat.reduceLeDiff] at e1_27); try (simp only [go_sem, Nat.reduceEqDiff, Nat.reduceAdd, Nat.reduceLeDiff] at e1_28); try (simp only [go_sem, Nat.reduceEqDiff, Nat.reduceAdd, Nat.reduceLeDiff] at e1_29); try (simp only [go_sem, Nat.reduceEqDiff, Nat.reduceAdd, Nat.reduceLeDiff] at e1_30); try (simp only [go_sem, Nat.reduceEqDiff, Nat.reduceAdd, Nat.reduceLeDiff] at e1_31); try (simp only [go_sem, Nat.reduceEqDiff, Nat.reduceAdd, Nat.reduceLeDiff] at e1_32); try (simp only [go_sem, Nat.reduceEqDiff, Nat.reduceAdd, Nat.reduceLeDiff] at e1_33); try (simp only [go_sem, Nat.reduceEqDiff, Nat.reduceAdd, Nat.reduceLeDiff] at e1_34)
        have z4 : fr2 4 = .bx 2000004 (σ1.c 2000004) 3 0 0 := by rw [hfr 4 rfl]; simp only [go_sem, Nat.reduceEqDiff, Nat.reduceAdd, Nat.reduceLeDiff]
        have hjv : j < d.vs.length := by omega
        have hqk := List.getElem?_eq_getElem hj
        have hqv := List.getElem?_eq_getElem hjv
        have hxk := txts_at hqk
        have hxv := txts_at hqv
        have f1 : (0 : Int) ≤ (j : Int) ∧ (j : Int) < (d.ks.length : Int) := by omega
        have f2 : (0 : Int) ≤ (j : Int) ∧ (j : Int) < (d.vs.length : Int) := by omega
        have b1 : (0 : Int) ≤ (j : Int) ∧ (j : Int) ≤ (d.ks.length : Int) := by omega
        have hw := a30t L (sm.ks.2 _ (List.getElem_mem hj))
        have hc := a31 F (l := d.ks.take j) (by rw [List.length_take]; omega) d.ks[j]
        have hv := a32 F (sm.vs.2 _ (List.getElem_mem hjv))
        have htk : (txts d.ks).take j = txts (d.ks.take j) := by simp [txts]
        have hall := txts_all d.ks
        have gk : d.ks.getD j [] = d.ks[j] := by rw [List.getD_eq_getElem?_getD, hqk]; rfl
        have gv : d.vs.getD j [] = d.vs[j] := by rw [List.getD_eq_getElem?_getD, hqv]; rfl
        refine w_block ?_
        unfold df at hm
        (repeat' first
    | refine w_seq ?_ | refine w_rg ?_ | refine wo_nil ?_ | refine g_skU ?_
    | ((first | apply s_plain | apply s_void | apply s_guard); · simp only [go_sem, Nat.reduceEqDiff, Nat.reduceAdd, Nat.reduceLeDiff, e1_0, e1_4, e1_7, e1_8, e1_9, e1_10, e1_11, e1_12, e1_13, e1_14, e1_15, e1_16, e1_17, e1_18, e1_19, e1_20, e1_21, e1_22, e1_23, e1_24, e1_25, e1_26, e1_27, e1_28, e1_29, e1_30, e1_31, e1_32, e1_33, e1_34, z4, gti, f1, hll, Int.toNat_natCast, hxk, hw, hm]; (first | done | rfl))
    | ((first | apply g_T | apply g_F); · intro hb; simp only [go_sem, Nat.reduceEqDiff, Nat.reduceAdd, Nat.reduceLeDiff, e1_0, e1_4, e1_7, e1_8, e1_9, e1_10, e1_11, e1_12, e1_13, e1_14, e1_15, e1_16, e1_17, e1_18, e1_19, e1_20, e1_21, e1_22, e1_23, e1_24, e1_25, e1_26, e1_27, e1_28, e1_29, e1_30, e1_31, e1_32, e1_33, e1_34, z4, gti, f1, hll, Int.toNat_natCast, hxk, hw, hm, hb]; (first | done | rfl))
    | ((first | apply g_gT | apply g_gF); · intro hb hc; simp only [go_sem, Nat.reduceEqDiff, Nat.reduceAdd, Nat.reduceLeDiff, e1_0, e1_4, e1_7, e1_8, e1_9, e1_10, e1_11, e1_12, e1_13, e1_14, e1_15, e1_16, e1_17, e1_18, e1_19, e1_20, e1_21, e1_22, e1_23, e1_24, e1_25, e1_26, e1_27, e1_28, e1_29, e1_30, e1_31, e1_32, e1_33, e1_34, z4, gti, f1, hll, Int.toNat_natCast, hxk, hw, hm, hb, hc]; (first | done | rfl))
    | refine g_skT ?_ | refine g_skF ?_
    | ((first | apply g_goT | apply g_goF); · simp only [go_sem, Nat.reduceEqDiff, Nat.reduceAdd, Nat.reduceLeDiff, e1_0, e1_4, e1_7, e1_8, e1_9, e1_10, e1_11, e1_12, e1_13, e1_14, e1_15, e1_16, e1_17, e1_18, e1_19, e1_20, e1_21, e1_22, e1_23, e1_24, e1_25, e1_26, e1_27, e1_28, e1_29, e1_30, e1_31, e1_32, e1_33, e1_34, z4, gti, f1, hll, Int.toNat_natCast, hxk, hw, hm]; (first | done | rfl))
    )
        refine g_F (v := .sl (txts (d.ks.take j))) (by
          intro hb
          simp only [go_sem, Nat.reduceEqDiff, Nat.reduceAdd, Nat.reduceLeDiff, hb, slcLP_sl, hall, hll, bound, b1, Int.toNat_natCast, htk, Bool.not_false]) ?_
        (repeat' first
    | refine w_seq ?_ | refine w_rg ?_ | refine wo_nil ?_ | refine g_skU ?_
    | ((first | apply s_plain | apply s_void | apply s_guard); · simp only [go_sem, Nat.reduceEqDiff, Nat.reduceAdd, Nat.reduceLeDiff, hc, z4, hm, f2, hlv, hxv, hv, Int.toNat_natCast]; (first | done | rfl))
    | ((first | apply g_T | apply g_F); · intro hb; simp only [go_sem, Nat.reduceEqDiff, Nat.reduceAdd, Nat.reduceLeDiff, hc, z4, hm, f2, hlv, hxv, hv, Int.toNat_natCast, hb]; (first | done | rfl))
    | ((first | apply g_gT | apply g_gF); · intro hb hc; simp only [go_sem, Nat.reduceEqDiff, Nat.reduceAdd, Nat.reduceLeDiff, hc, z4, hm, f2, hlv, hxv, hv, Int.toNat_natCast, hb, hc]; (first | done | rfl))
    | refine g_skT ?_ | refine g_skF ?_
    | ((first | apply g_goT | apply g_goF); · simp only [go_sem, Nat.reduceEqDiff, Nat.reduceAdd, Nat.reduceLeDiff, hc, z4, hm, f2, hlv, hxv, hv, Int.toNat_natCast]; (first | done | rfl))
    )
        have hk : (((!wordD d.ks[j]) || (d.ks.take j).contains d.ks[j]) || !valD d.vs[j]) = !keyR d j := by
          unfold keyR
          rw [gk, gv]
          cases wordD d.ks[j] <;> cases (d.ks.take j).contains d.ks[j] <;> cases valD d.vs[j] <;> rfl
        cases hkj : keyR d j with
        | false =>
          rw [hkj] at hk
          (repeat' first
    | refine w_seq ?_ | refine w_rg ?_ | refine wo_nil ?_ | refine g_skU ?_
    | ((first | apply s_plain | apply s_void | apply s_guard); · simp only [go_sem, Nat.reduceEqDiff, Nat.reduceAdd, Nat.reduceLeDiff, hk, Bool.not_false]; (first | done | rfl))
    | ((first | apply g_T | apply g_F); · intro hb; simp only [go_sem, Nat.reduceEqDiff, Nat.reduceAdd, Nat.reduceLeDiff, hk, Bool.not_false, hb]; (first | done | rfl))
    | ((first | apply g_gT | apply g_gF); · intro hb hc; simp only [go_sem, Nat.reduceEqDiff, Nat.reduceAdd, Nat.reduceLeDiff, hk, Bool.not_false, hb, hc]; (first | done | rfl))
    | refine g_skT ?_ | refine g_skF ?_
    | ((first | apply g_goT | apply g_goF); · simp only [go_sem, Nat.reduceEqDiff, Nat.reduceAdd, Nat.reduceLeDiff, hk, Bool.not_false]; (first | done | rfl))
    | (refine w_condT ?_ ?_; · simp only [go_sem, Nat.reduceEqDiff, Nat.reduceAdd, Nat.reduceLeDiff, hk, Bool.not_false]; (first | done | rfl))
    | (refine w_condF ?_ ?_; · simp only [go_sem, Nat.reduceEqDiff, Nat.reduceAdd, Nat.reduceLeDiff, hk, Bool.not_false]; (first | done | rfl))
    | refine w_skip ?_ | refine w_exit ?_ | refine w_ret ?_
    )
          have hm2 : mayD d = false := by rw [← mayR_mayD]; unfold mayR; rw [all_hit hj hkj, Bool.and_false]
          exact ⟨by first | exact .inr rfl | exact .inr trivial | exact .inl rfl, by simp only [go_sem, Nat.reduceEqDiff, Nat.reduceAdd, Nat.reduceLeDiff, retOf, resOf, rightD, hany hm2, Bool.and_false]; first | done | rfl⟩
        | true =>
          rw [hkj] at hk
          (repeat' first
    | refine w_seq ?_ | refine w_rg ?_ | refine wo_nil ?_ | refine g_skU ?_
    | ((first | apply s_plain | apply s_void | apply s_guard); · simp only [go_sem, Nat.reduceEqDiff, Nat.reduceAdd, Nat.reduceLeDiff, hk, Bool.not_true]; (first | done | rfl))
    | ((first | apply g_T | apply g_F); · intro hb; simp only [go_sem, Nat.reduceEqDiff, Nat.reduceAdd, Nat.reduceLeDiff, hk, Bool.not_true, hb]; (first | done | rfl))
    | ((first | apply g_gT | apply g_gF); · intro hb hc; simp only [go_sem, Nat.reduceEqDiff, Nat.reduceAdd, Nat.reduceLeDiff, hk, Bool.not_true, hb, hc]; (first | done | rfl))
    | refine g_skT ?_ | refine g_skF ?_
    | ((first | apply g_goT | apply g_goF); · simp only [go_sem, Nat.reduceEqDiff, Nat.reduceAdd, Nat.reduceLeDiff, hk, Bool.not_true]; (first | done | rfl))
    | (refine w_condT ?_ ?_; · simp only [go_sem, Nat.reduceEqDiff, Nat.reduceAdd, Nat.reduceLeDiff, hk, Bool.not_true]; (first | done | rfl))
    | (refine w_condF ?_ ?_; · simp only [go_sem, Nat.reduceEqDiff, Nat.reduceAdd, Nat.reduceLeDiff, hk, Bool.not_true]; (first | done | rfl))
    | refine w_skip ?_ | refine w_exit ?_ | refine w_ret ?_
    )
          refine ⟨fun k hk2 => ?_, by simp only [go_sem, Nat.reduceEqDiff, Nat.reduceAdd, Nat.reduceLeDiff, hm, df]⟩
          by_cases hkk : k = j
          · rw [hkk]; exact hkj
          · exact g3 k (by omega)
      · rintro fr2 σ2 ⟨g3, hm⟩ hfr
        try simp only [if_true]
        intro j hj
        by_cases hji : j = i
        · rw [hji, hgd, ← mayR_mayD]
          unfold mayR
          rw [hpi, all_all g3]; rfl
        · exact h3 j (by omega)
  · rintro fr1 σ1 h3 hfr
    have e0_0 := hfr 0 rfl; try (simp only [go_sem, Nat.reduceEqDiff, Nat.reduceAdd, Nat.reduceLeDiff] at e0_0)
    try simp only [if_true]
    (repeat' first
    | refine w_seq ?_ | refine w_rg ?_ | refine wo_nil ?_ | refine g_skU ?_
    | ((first | apply s_plain | apply s_void | apply s_guard); · simp only [go_sem, Nat.reduceEqDiff, Nat.reduceAdd, Nat.reduceLeDiff, e0_0, hln]; (first | done | rfl))
    | ((first | apply g_T | apply g_F); · intro hb; simp only [go_sem, Nat.reduceEqDiff, Nat.reduceAdd, Nat.reduceLeDiff, e0_0, hln, hb]; (first | done | rfl))
    | ((first | apply g_gT | apply g_gF); · intro hb hc; simp only [go_sem, Nat.reduceEqDiff, Nat.reduceAdd, Nat.reduceLeDiff, e0_0, hln, hb, hc]; (first | done | rfl))
    | refine g_skT ?_ | refine g_skF ?_
    | ((first | apply g_goT | apply g_goF); · simp only [go_sem, Nat.reduceEqDiff, Nat.reduceAdd, Nat.reduceLeDiff, e0_0, hln]; (first | done | rfl))
    | (refine w_condT ?_ ?_; · simp only [go_sem, Nat.reduceEqDiff, Nat.reduceAdd, Nat.reduceLeDiff, e0_0, hln]; (first | done | rfl))
    | (refine w_condF ?_ ?_; · simp only [go_sem, Nat.reduceEqDiff, Nat.reduceAdd, Nat.reduceLeDiff, e0_0, hln]; (first | done | rfl))
    | refine w_skip ?_ | refine w_exit ?_ | refine w_ret ?_
    )
    have ha : l.all mayD = true := by
      rw [List.all_eq_true]
      intro x hx
      obtain ⟨i, hi, rfl⟩ := List.getElem_of_mem hx
      have := h3 i hi
      rwa [List.getD_eq_getElem?_getD, List.getElem?_eq_getElem hi] at this
    have e : decide ((l.length : Int) ≤ 64) = rightD l := by
      unfold rightD
      rw [ha, Bool.and_true, Bool.eq_iff_iff]; simp; omega
    exact ⟨by first | exact .inr rfl | exact .inr trivial | exact .inl rfl, by simp only [go_sem, Nat.reduceEqDiff, Nat.reduceAdd, Nat.reduceLeDiff, retOf, resOf, e]; first | done | rfl⟩
end
end Go.Proofs.YtdlfomiclkpibaaDoorPv
namespace Go.Proofs.YtdlfomiclkpibaaDoorPv
open Go
set_option linter.unusedSimpArgs false
set_option linter.unusedVariables false
set_option maxHeartbeats 4000000
attribute [local go_sem ↓] e_mv e_pick e_bin e_eqs e_beq e_un e_cvi e_str e_s2b e_b2s e_box e_build e_bsl e_ld e_st e_nck e_mkf e_slcS e_slcL e_fa e_fld e_ia e_iaa e_ix e_ixa e_ext e_lenS e_lenL e_mnmx e_app e_appb e_bbx e_msl e_clr e_call e_callv pa_t pa_c pa_f slcSP_str hiOf_some hiOf_none loOf_some loOf_none set_eq set_ne
attribute [local go_sem] pv pv1 simple frOf_0 frOf_1 frOf_2 frOf_3 frOf_4 frOf_5 ne_eq not_false_eq_true if_true Bool.false_eq_true if_false pbin punary Option.map_some Option.bind_some pick_and pick_or opt_true Bool.true_and Bool.and_self Bool.and_true Bool.true_or Bool.false_or Bool.not_true Bool.not_false callE pcall_eq List.map_cons List.map_nil List.append_nil List.nil_append List.cons_append mapM_cons' mapM_nil' dep_eq fz_sc fz_sl fz_em fz_fn fz_fp fz_agg fz_tu fz_bx fz_ob Nat.lt_irrefl Nat.zero_lt_one Nat.lt_add_one flat clL cl Bool.or_true okc_sc okc_em okc_sl okc_ob okc_bx okc_fp okc_fn okc_agg okc_ifc cells_agg cells_sc cells_sl cells_em cells_ob cells_fn cells_bx cells_fp List.length_cons List.length_nil Nat.zero_add and_self true_and and_true new_m new_c put_m put_c nil_m nil_c deref List.getElem?_cons_zero List.getElem?_cons_succ List.drop_zero List.drop_succ_cons List.take_succ_cons List.take_zero Nat.le_refl false_and and_false decide_true decide_false lenP_em lenP_nil lenP_sl lenP_ob Int.ofNat_zero
set_option maxRecDepth 8000
/-- transhipment/transhipmentref06.Text -/
def d15 : Def := (.code 1 [.tmp 2] (.seq (.rg false [⟨.some 2, .none, .mv (.c (.string ⟨#[]⟩))⟩]) (.seq (.rg false [⟨.some 3, .none, .mv (.c (.string ⟨#[]⟩))⟩]) (.seq (.seq (.rg false [⟨.some 8, .none, .mv (.t 0)⟩, ⟨.some 9, .none, .lenL (.t 8)⟩, ⟨.some 10, .none, .mv (.c (.int .i64 0))⟩]) (.block 0 (.loop (.seq (.rg false [⟨.some 11, .none, .bin .lss (.t 10) (.t 9)⟩]) (.seq (.cond (.t 11) .skip (.exit 0)) (.seq (.block 1 (.seq (.rg false [⟨.some 12, .none, .ia 3 (.t 8) (.t 10)⟩, ⟨.some 13, .none, .ld (.some 3) (.t 12)⟩, ⟨.some 5, .none, .box (.c (.agg #[.string ⟨#[]⟩, .slice .none 0 0, .slice .none 0 0]))⟩, ⟨.none, .none, .st 3 (.t 5) (.t 13)⟩]) (.seq (.rg false [⟨.some 14, .none, .mv (.t 3)⟩, ⟨.some 15, .none, .bin .add (.t 14) (.c (.string ⟨#[100, 101, 102, 105, 110, 101, 32]⟩))⟩, ⟨.some 16, .none, .fa 0 (.t 5)⟩, ⟨.some 17, .none, .ld .none (.t 16)⟩, ⟨.some 18, .none, .bin .add (.t 15) (.t 17)⟩, ⟨.some 19, .none, .bin .add (.t 18) (.c (.string ⟨#[32, 123, 10]⟩))⟩, ⟨.some 3, .none, .mv (.t 19)⟩]) (.seq (.seq (.rg false [⟨.some 20, .none, .fa 1 (.t 5)⟩, ⟨.some 21, .none, .ld .none (.t 20)⟩, ⟨.some 22, .none, .lenL (.t 21)⟩, ⟨.some 23, .none, .mv (.c (.int .i64 0))⟩]) (.block 2 (.loop (.seq (.rg false [⟨.some 24, .none, .bin .lss (.t 23) (.t 22)⟩]) (.seq (.cond (.t 24) .skip (.exit 2)) (.seq (.block 3 (.seq (.rg false [⟨.some 25, .none, .mv (.t 23)⟩, ⟨.some 26, .none, .ia 1 (.t 21) (.t 23)⟩, ⟨.some 27, .none, .ld .none (.t 26)⟩, ⟨.some 6, .none, .mv (.t 25)⟩, ⟨.some 7, .none, .mv (.t 27)⟩]) (.rg false [⟨.some 28, .none, .mv (.t 3)⟩, ⟨.some 29, .none, .bin .add (.t 28) (.c (.string ⟨#[9]⟩))⟩, ⟨.some 30, .none, .mv (.t 7)⟩, ⟨.some 31, .none, .bin .add (.t 29) (.t 30)⟩, ⟨.some 32, .none, .bin .add (.t 31) (.c (.string ⟨#[9]⟩))⟩, ⟨.some 33, .none, .fa 2 (.t 5)⟩, ⟨.some 34, .none, .ld .none (.t 33)⟩, ⟨.some 35, .none, .mv (.t 6)⟩, ⟨.some 36, .none, .ia 1 (.t 34) (.t 35)⟩, ⟨.some 37, .none, .ld .none (.t 36)⟩, ⟨.some 38, .none, .bin .add (.t 32) (.t 37)⟩, ⟨.some 39, .none, .bin .add (.t 38) (.c (.string ⟨#[10]⟩))⟩, ⟨.some 3, .none, .mv (.t 39)⟩]))) (.rg false [⟨.some 40, .none, .bin .add (.t 23) (.c (.int .i64 1))⟩, ⟨.some 23, .none, .mv (.t 40)⟩]))))))) (.rg false [⟨.some 41, .none, .mv (.t 3)⟩, ⟨.some 42, .none, .bin .add (.t 41) (.c (.string ⟨#[125, 10]⟩))⟩, ⟨.some 3, .none, .mv (.t 42)⟩]))))) (.rg false [⟨.some 43, .none, .bin .add (.t 10) (.c (.int .i64 1))⟩, ⟨.some 10, .none, .mv (.t 43)⟩]))))))) (.seq (.rg false [⟨.some 44, .none, .mv (.t 3)⟩, ⟨.some 2, .none, .mv (.t 44)⟩]) .ret)))))
def ldi : List (Nat × Def) := [(15, d15)]
section
variable {env : Nat → Option Def} {fr : Fr} {σ σ' σ'' : St} {K : Fr → St → Prop} {Q : X → Fr → St → Prop} {p : PV} {bs : List UInt8}
/-- A key's line; the lines of the first keys; a block's text; the text of blocks. -/
def rowD (d : Df) (i : Nat) : List UInt8 := [9] ++ d.ks.getD i [] ++ [9] ++ d.vs.getD i [] ++ [10]
def rowsD (d : Df) (n : Nat) : List UInt8 := (List.range n).flatMap (rowD d)
def headD (d : Df) : List UInt8 := [100, 101, 102, 105, 110, 101, 32] ++ d.ty ++ [32, 123, 10]
def blockD (d : Df) : List UInt8 := headD d ++ rowsD d d.ks.length ++ [125, 10]
def textD (l : List Df) : List UInt8 := l.flatMap blockD
theorem rowsD_zero (d : Df) : rowsD d 0 = [] := rfl
theorem rowsD_succ (d : Df) (n : Nat) : rowsD d (n + 1) = rowsD d n ++ rowD d n := by
  unfold rowsD; rw [List.range_succ, List.flatMap_append]; simp
theorem wordD_le {l : List UInt8} (h : wordD l = true) : l.length ≤ 64 := by
  unfold wordD at h; simp only [Bool.and_eq_true, decide_eq_true_eq] at h; exact h.1.2
theorem valD_le {l : List UInt8} (h : valD l = true) : l.length ≤ 200 := by
  unfold valD at h; simp only [Bool.and_eq_true, decide_eq_true_eq] at h; exact h.1.1.2
structure Df.May (d : Df) : Prop where
  ty : wordD d.ty = true
  n : d.ks.length ≤ 64
  e : d.ks.length = d.vs.length
  ks : ∀ i, i < d.ks.length → wordD (d.ks.getD i []) = true ∧ (d.ks.take i).contains (d.ks.getD i []) = false
  vs : ∀ v ∈ d.vs, valD v = true
theorem mayD_iff (d : Df) : mayD d = true ↔ d.May := by
  unfold mayD keysOk
  simp only [Bool.and_eq_true, decide_eq_true_eq, List.all_eq_true, List.mem_range, Bool.not_eq_true']
  exact ⟨fun h => ⟨h.1.1.1.2, h.1.1.2, h.1.2, h.1.1.1.1, h.2⟩, fun h => ⟨⟨⟨⟨h.ks, h.ty⟩, h.n⟩, h.e⟩, h.vs⟩⟩
theorem Df.May.val {d : Df} (h : d.May) {i : Nat} (hi : i < d.ks.length) : valD (d.vs.getD i []) = true := by
  have hi2 : i < d.vs.length := by rw [← h.e]; exact hi
  rw [List.getD_eq_getElem?_getD, List.getElem?_eq_getElem hi2]
  exact h.vs _ (List.getElem_mem hi2)
theorem rowD_le {d : Df} (h : d.May) {i : Nat} (hi : i < d.ks.length) : (rowD d i).length ≤ 267 := by
  have h1 := wordD_le (h.ks i hi).1
  have h2 := valD_le (h.val hi)
  simp only [rowD, List.length_append, List.length_cons, List.length_nil]
  omega
theorem rowsD_le {d : Df} (h : d.May) {i : Nat} (hi : i ≤ d.ks.length) : (rowsD d i).length ≤ 267 * i := by
  induction i with
  | zero => simp [rowsD_zero]
  | succ n ih =>
    have h1 := ih (by omega)
    have h2 := rowD_le h (i := n) (by omega)
    rw [rowsD_succ, List.length_append]; omega
theorem blockD_le {d : Df} (h : d.May) : (blockD d).length ≤ 20000 := by
  have h1 := wordD_le h.ty
  have h2 := rowsD_le h (Nat.le_refl _)
  have h3 := h.n
  simp only [blockD, headD, List.length_append, List.length_cons, List.length_nil]
  omega
theorem rightD_may {l : List Df} (h : rightD l = true) : l.length ≤ 64 ∧ ∀ d ∈ l, d.May := by
  unfold rightD at h
  simp only [Bool.and_eq_true, decide_eq_true_eq, List.all_eq_true] at h
  exact ⟨h.1, fun d hd => (mayD_iff d).1 (h.2 d hd)⟩
theorem textD_le {l : List Df} (h : ∀ d ∈ l, d.May) : (textD l).length ≤ 20000 * l.length := by
  induction l with
  | nil => simp [textD]
  | cons d r ih =>
    have h1 := ih fun x hx => h x (List.mem_cons_of_mem _ hx)
    have h2 := blockD_le (h d (List.mem_cons_self))
    simp only [textD, List.flatMap_cons, List.length_append, List.length_cons] at h1 ⊢
    omega
theorem textD_take {l : List Df} {i : Nat} (hi : i < l.length) : textD (l.take (i + 1)) = textD (l.take i) ++ blockD l[i] := by
  unfold textD
  rw [← List.take_append_getElem hi, List.flatMap_append]
  simp only [List.flatMap_cons, List.flatMap_nil, List.append_nil]
theorem textD_take_le {l : List Df} (h : rightD l = true) (i : Nat) : (textD (l.take i)).length ≤ 20000 * 64 := by
  obtain ⟨h1, h2⟩ := rightD_may h
  have := textD_le (l := l.take i) fun d hd => h2 d (List.mem_of_mem_take hd)
  rw [List.length_take] at this
  omega
theorem a15 (I : Has ldi env) {l : List Df} (hr : rightD l = true) : AV env 15 [.sl (dfs l)] = some (txt (textD l)) := by
  obtain ⟨hl64, hmay⟩ := rightD_may hr
  have hln := dfs_len l
  have k1 : (⟨#[100, 101, 102, 105, 110, 101, 32]⟩ : ByteArray) = ⟨[100, 101, 102, 105, 110, 101, 32].toArray⟩ := rfl
  have k2 : (⟨#[32, 123, 10]⟩ : ByteArray) = ⟨[32, 123, 10].toArray⟩ := rfl
  have k3 : (⟨#[9]⟩ : ByteArray) = ⟨[9].toArray⟩ := rfl
  have k4 : (⟨#[10]⟩ : ByteArray) = ⟨[10].toArray⟩ := rfl
  have k5 : (⟨#[125, 10]⟩ : ByteArray) = ⟨[125, 10].toArray⟩ := rfl
  refine AV_wp (I (15, d15) (by simp [ldi])) rfl ?_
  (repeat' first
    | refine w_seq ?_ | refine w_rg ?_ | refine wo_nil ?_ | refine g_skU ?_
    | ((first | apply s_plain | apply s_void | apply s_guard); · simp only [go_sem, Nat.reduceEqDiff, Nat.reduceAdd, Nat.reduceLeDiff, hln]; (first | done | rfl))
    | ((first | apply g_T | apply g_F); · intro hb; simp only [go_sem, Nat.reduceEqDiff, Nat.reduceAdd, Nat.reduceLeDiff, hln, hb]; (first | done | rfl))
    | ((first | apply g_gT | apply g_gF); · intro hb hc; simp only [go_sem, Nat.reduceEqDiff, Nat.reduceAdd, Nat.reduceLeDiff, hln, hb, hc]; (first | done | rfl))
    | refine g_skT ?_ | refine g_skF ?_
    | ((first | apply g_goT | apply g_goF); · simp only [go_sem, Nat.reduceEqDiff, Nat.reduceAdd, Nat.reduceLeDiff, hln]; (first | done | rfl))
    )
  refine w_block (w_rangeF (tc := 11) (ti := 10) (tn := 9) (tk := 43) l.length (by omega) (fun i fr σ => fr 3 = txt (textD (l.take i))) ⟨by decide, rfl, rfl⟩ (fun i fr σ v h => ⟨by simp only [go_sem, Nat.reduceEqDiff, Nat.reduceAdd, Nat.reduceLeDiff, h], by simp only [go_sem, Nat.reduceEqDiff, Nat.reduceAdd, Nat.reduceLeDiff, h], by simp only [go_sem, Nat.reduceEqDiff, Nat.reduceAdd, Nat.reduceLeDiff, h]⟩) (by simp only [go_sem, Nat.reduceEqDiff, Nat.reduceAdd, Nat.reduceLeDiff]; rfl) (by simp only [go_sem, Nat.reduceEqDiff, Nat.reduceAdd, Nat.reduceLeDiff]; first | done | rfl) (by simp only [go_sem, Nat.reduceEqDiff, Nat.reduceAdd, Nat.reduceLeDiff, hln]; first | done | rfl) ?_ ?_)
  · rintro i fr1 σ1 hi h3 hti hfr
    have f0_8 := hfr 8 rfl; have f0_9 := hfr 9 rfl; try (simp only [go_sem, Nat.reduceEqDiff, Nat.reduceAdd, Nat.reduceLeDiff] at f0_8); try (simp only [go_sem, Nat.reduceEqDiff, Nat.reduceAdd, Nat.reduceLeDiff] at f0_9)
    have hqd := List.getElem?_eq_getElem hi
    have hx := dfs_at hqd
    have hm := hmay _ (List.getElem_mem hi)
    have e1 : (0 : Int) ≤ (i : Int) ∧ (i : Int) < (l.length : Int) := by omega
    have hacc := textD_take_le hr i
    have hnext := textD_take hi
    generalize hd : l[i] = d at hm hx hnext
    generalize textD (l.take i) = acc at h3 hacc hnext
    have hll := txts_len d.ks
    have hlv := txts_len d.vs
    have hty := wordD_le hm.ty
    have hnn := hm.n
    have hee := hm.e
    unfold df at hx
    have q1 : acc.length ≤ 9223372036854775800 := by omega
    have q2 : (acc ++ [100, 101, 102, 105, 110, 101, 32]).length + d.ty.length ≤ 9223372036854775807 := by simp only [List.length_append, List.length_cons, List.length_nil]; omega
    have q3 : (acc ++ [100, 101, 102, 105, 110, 101, 32] ++ d.ty).length ≤ 9223372036854775804 := by simp only [List.length_append, List.length_cons, List.length_nil]; omega
    refine w_block ?_
    (repeat' first
    | refine w_seq ?_ | refine w_rg ?_ | refine wo_nil ?_ | refine g_skU ?_
    | ((first | apply s_plain | apply s_void | apply s_guard); · simp only [go_sem, Nat.reduceEqDiff, Nat.reduceAdd, Nat.reduceLeDiff, f0_8, f0_9, hti, e1, hln, Int.toNat_natCast, hx, hll, h3, ba_data, ba_size, ba_toList, ba_extract, ba_append, List.toList_toArray, k1, k2, q1, q2, q3]; (first | done | rfl))
    | ((first | apply g_T | apply g_F); · intro hb; simp only [go_sem, Nat.reduceEqDiff, Nat.reduceAdd, Nat.reduceLeDiff, f0_8, f0_9, hti, e1, hln, Int.toNat_natCast, hx, hll, h3, ba_data, ba_size, ba_toList, ba_extract, ba_append, List.toList_toArray, k1, k2, q1, q2, q3, hb]; (first | done | rfl))
    | ((first | apply g_gT | apply g_gF); · intro hb hc; simp only [go_sem, Nat.reduceEqDiff, Nat.reduceAdd, Nat.reduceLeDiff, f0_8, f0_9, hti, e1, hln, Int.toNat_natCast, hx, hll, h3, ba_data, ba_size, ba_toList, ba_extract, ba_append, List.toList_toArray, k1, k2, q1, q2, q3, hb, hc]; (first | done | rfl))
    | refine g_skT ?_ | refine g_skF ?_
    | ((first | apply g_goT | apply g_goF); · simp only [go_sem, Nat.reduceEqDiff, Nat.reduceAdd, Nat.reduceLeDiff, f0_8, f0_9, hti, e1, hln, Int.toNat_natCast, hx, hll, h3, ba_data, ba_size, ba_toList, ba_extract, ba_append, List.toList_toArray, k1, k2, q1, q2, q3]; (first | done | rfl))
    )
    refine w_block (w_rangeF (tc := 24) (ti := 23) (tn := 22) (tk := 40) d.ks.length (by omega) (fun j fr σ => fr 3 = txt (acc ++ headD d ++ rowsD d j) ∧ σ.m 2000005 (σ1.c 2000005) = some ⟨3, [df d], true, true⟩) ⟨by decide, rfl, rfl⟩ (fun i fr σ v h => ⟨⟨by simp only [go_sem, Nat.reduceEqDiff, Nat.reduceAdd, Nat.reduceLeDiff, h.1], h.2⟩, ⟨by simp only [go_sem, Nat.reduceEqDiff, Nat.reduceAdd, Nat.reduceLeDiff, h.1], h.2⟩, ⟨by simp only [go_sem, Nat.reduceEqDiff, Nat.reduceAdd, Nat.reduceLeDiff, h.1], h.2⟩⟩) ⟨by simp only [go_sem, Nat.reduceEqDiff, Nat.reduceAdd, Nat.reduceLeDiff, rowsD_zero, headD, List.append_nil, List.append_assoc], by simp only [go_sem, Nat.reduceEqDiff, Nat.reduceAdd, Nat.reduceLeDiff]; rfl⟩ (by simp only [go_sem, Nat.reduceEqDiff, Nat.reduceAdd, Nat.reduceLeDiff]; first | done | rfl) (by simp only [go_sem, Nat.reduceEqDiff, Nat.reduceAdd, Nat.reduceLeDiff, hll]; first | done | rfl) ?_ ?_)
    · rintro j fr2 σ2 hj ⟨g3, hm2⟩ gti hfr
      have e1_2 := hfr 2 rfl; have e1_5 := hfr 5 rfl; have e1_8 := hfr 8 rfl; have e1_9 := hfr 9 rfl; have e1_10 := hfr 10 rfl; have e1_11 := hfr 11 rfl; have e1_12 := hfr 12 rfl; have e1_13 := hfr 13 rfl; have e1_14 := hfr 14 rfl; have e1_15 := hfr 15 rfl; have e1_16 := hfr 16 rfl; have e1_17 := hfr 17 rfl; have e1_18 := hfr 18 rfl; have e1_19 := hfr 19 rfl; have e1_20 := hfr 20 rfl; have e1_21 := hfr 21 rfl; have e1_22 := hfr 22 rfl; try (simp only [go_sem, Nat.reduceEqDiff, Nat.reduceAdd, Nat.reduceLeDiff] at e1_2); try (simp only [go_sem, Nat.reduceEqDiff, Nat.reduceAdd, Nat.reduceLeDiff] at e1_5); try (simp only [go_sem, Nat.reduceEqDiff, Nat.reduceAdd, Nat.reduceLeDiff] at e1_8); try (simp only [go_sem, Nat.reduceEqDiff, Nat.reduceAdd, Nat.reduceLeDiff] at e1_9); try (simp only [go_sem, Nat.reduceEqDiff, Nat.reduceAdd, Nat.reduceLeDiff] at e1_10); try (simp only [go_sem, Nat.reduceEqDiff, Nat.reduceAdd, Nat.reduceLeDiff] at e1_11); try (simp only [go_sem, Nat.reduceEqDiff, Nat.reduceAdd, Nat.reduceLeDiff] at e1_12); try (simp only [go_sem, Nat.reduceEqDiff, Nat.reduceAdd, Nat.reduceLeDiff] at e1_13); try (simp only [go_sem, Nat.reduceEqDiff, Nat.reduceAdd, Nat.reduceLeDiff] at e1_14); try (simp only [go_sem, Nat.reduceEqDiff, Nat.reduceAdd, Nat.reduceLeDiff] at e1_15); try (simp only [go_sem, Nat.reduceEqDiff, Nat.reduceAdd, Nat.reduceLeDiff] at e1_16); try (simp only [go_sem, Nat.reduceEqDiff, Nat.reduceAdd, Nat.reduceLeDiff] at e1_17); try (simp only [go_sem, Nat.reduceEqDiff, Nat.reduceAdd, Nat.reduceLeDiff] at e1_18); try (simp only [go_sem, Nat.reduceEqDiff, Nat.reduceAdd, Nat.reduceLeDiff] at e1_19); try (simp only [go_sem, Nat.reduceEqDiff, Nat.reduceAdd, Nat.reduceLeDiff] at e1_20); try (simp only [go_sem, Nat.reduceEqDiff, Nat.reduceAdd, Nat.reduceLeDiff] at e1_21); try (simp only [go_sem, Nat.reduceEqDiff, Nat.reduceAdd, Nat.reduceLeDiff] at e1_22)
      have z5 : fr2 5 = .bx 2000005 (σ1.c 2000005) 3 0 0 := by rw [hfr 5 rfl]; simp only [go_sem, Nat.reduceEqDiff, Nat.reduceAdd, Nat.reduceLeDiff]
      have hjv : j < d.vs.length := by omega
      have hqk := List.getElem?_eq_getElem hj
      have hqv := List.getElem?_eq_getElem hjv
      have hxk := txts_at hqk
      have hxv := txts_at hqv
      have f1 : (0 : Int) ≤ (j : Int) ∧ (j : Int) < (d.ks.length : Int) := by omega
      have f2 : (0 : Int) ≤ (j : Int) ∧ (j : Int) < (d.vs.length : Int) := by omega
      have gk : d.ks.getD j [] = d.ks[j] := by rw [List.getD_eq_getElem?_getD, hqk]; rfl
      have gv : d.vs.getD j [] = d.vs[j] := by rw [List.getD_eq_getElem?_getD, hqv]; rfl
      have l1 := wordD_le (hm.ks j hj).1
      have l2 := valD_le (hm.val hj)
      have l3 := rowsD_le hm (i := j) (by omega)
      have hs := rowsD_succ d j
      unfold rowD at hs
      rw [gk] at l1
      rw [gv] at l2
      rw [gk, gv] at hs
      have hh : (headD d).length ≤ 100 := by simp only [headD, List.length_append, List.length_cons, List.length_nil]; omega
      have hb : (acc ++ headD d ++ rowsD d j).length ≤ 2000000 := by simp only [List.length_append]; omega
      have hst : txt (acc ++ headD d ++ rowsD d (j + 1)) = txt (acc ++ headD d ++ rowsD d j ++ [9] ++ d.ks[j] ++ [9] ++ d.vs[j] ++ [10]) := by rw [hs]; simp only [List.append_assoc]
      rw [hst]
      clear hst hs
      generalize acc ++ headD d ++ rowsD d j = acc2 at g3 hb
      have q1 : acc2.length ≤ 9223372036854775806 := by omega
      have q2 : (acc2 ++ [9]).length + d.ks[j].length ≤ 9223372036854775807 := by simp only [List.length_append, List.length_cons, List.length_nil]; omega
      have q3 : (acc2 ++ [9] ++ d.ks[j]).length ≤ 9223372036854775806 := by simp only [List.length_append, List.length_cons, List.length_nil]; omega
      have q4 : (acc2 ++ [9] ++ d.ks[j] ++ [9]).length + d.vs[j].length ≤ 9223372036854775807 := by simp only [List.length_append, List.length_cons, List.length_nil]; omega
      have q5 : (acc2 ++ [9] ++ d.ks[j] ++ [9] ++ d.vs[j]).length ≤ 9223372036854775806 := by simp only [List.length_append, List.length_cons, List.length_nil]; omega
      refine w_block ?_
      unfold df at hm2
      (repeat' first
    | refine w_seq ?_ | refine w_rg ?_ | refine wo_nil ?_ | refine g_skU ?_
    | ((first | apply s_plain | apply s_void | apply s_guard); · simp only [go_sem, Nat.reduceEqDiff, Nat.reduceAdd, Nat.reduceLeDiff, e1_2, e1_5, e1_8, e1_9, e1_10, e1_11, e1_12, e1_13, e1_14, e1_15, e1_16, e1_17, e1_18, e1_19, e1_20, e1_21, e1_22, z5, gti, f1, f2, hll, hlv, Int.toNat_natCast, hxk, hxv, hm2, g3, ba_data, ba_size, ba_toList, ba_extract, ba_append, List.toList_toArray, k3, k4, q1, q2, q3, q4, q5]; (first | done | rfl))
    | ((first | apply g_T | apply g_F); · intro hb; simp only [go_sem, Nat.reduceEqDiff, Nat.reduceAdd, Nat.reduceLeDiff, e1_2, e1_5, e1_8, e1_9, e1_10, e1_11, e1_12, e1_13, e1_14, e1_15, e1_16, e1_17, e1_18, e1_19, e1_20, e1_21, e1_22, z5, gti, f1, f2, hll, hlv, Int.toNat_natCast, hxk, hxv, hm2, g3, ba_data, ba_size, ba_toList, ba_extract, ba_append, List.toList_toArray, k3, k4, q1, q2, q3, q4, q5, hb]; (first | done | rfl))
    | ((first | apply g_gT | apply g_gF); · intro hb hc; simp only [go_sem, Nat.reduceEqDiff, Nat.reduceAdd, Nat.reduceLeDiff, e1_2, e1_5, e1_8, e1_9, e1_10, e1_11, e1_12, e1_13, e1_14, e1_15, e1_16, e1_17, e1_18, e1_19, e1_20, e1_21, e1_22, z5, gti, f1, f2, hll, hlv, Int.toNat_natCast, hxk, hxv, hm2, g3, ba_data, ba_size, ba_toList, ba_extract, ba_append, List.toList_toArray, k3, k4, q1, q2, q3, q4, q5, hb, hc]; (first | done | rfl))
    | refine g_skT ?_ | refine g_skF ?_
    | ((first | apply g_goT | apply g_goF); · simp only [go_sem, Nat.reduceEqDiff, Nat.reduceAdd, Nat.reduceLeDiff, e1_2, e1_5, e1_8, e1_9, e1_10, e1_11, e1_12, e1_13, e1_14, e1_15, e1_16, e1_17, e1_18, e1_19, e1_20, e1_21, e1_22, z5, gti, f1, f2, hll, hlv, Int.toNat_natCast, hxk, hxv, hm2, g3, ba_data, ba_size, ba_toList, ba_extract, ba_append, List.toList_toArray, k3, k4, q1, q2, q3, q4, q5]; (first | done | rfl))
    )
      exact ⟨by simp only [go_sem, Nat.reduceEqDiff, Nat.reduceAdd, Nat.reduceLeDiff], by simp only [go_sem, Nat.reduceEqDiff, Nat.reduceAdd, Nat.reduceLeDiff, hm2, df]⟩
    · rintro fr2 σ2 ⟨g3, hm2⟩ hfr
      try simp only [if_true]
      have hl2 := rowsD_le hm (i := d.ks.length) (Nat.le_refl _)
      have q1 : (acc ++ headD d ++ rowsD d d.ks.length).length ≤ 9223372036854775805 := by
        have hh : (headD d).length ≤ 100 := by simp only [headD, List.length_append, List.length_cons, List.length_nil]; omega
        simp only [List.length_append, List.length_cons, List.length_nil]; omega
      (repeat' first
    | refine w_seq ?_ | refine w_rg ?_ | refine wo_nil ?_ | refine g_skU ?_
    | ((first | apply s_plain | apply s_void | apply s_guard); · simp only [go_sem, Nat.reduceEqDiff, Nat.reduceAdd, Nat.reduceLeDiff, g3, ba_data, ba_size, ba_toList, ba_extract, ba_append, List.toList_toArray, k5, q1]; (first | done | rfl))
    | ((first | apply g_T | apply g_F); · intro hb; simp only [go_sem, Nat.reduceEqDiff, Nat.reduceAdd, Nat.reduceLeDiff, g3, ba_data, ba_size, ba_toList, ba_extract, ba_append, List.toList_toArray, k5, q1, hb]; (first | done | rfl))
    | ((first | apply g_gT | apply g_gF); · intro hb hc; simp only [go_sem, Nat.reduceEqDiff, Nat.reduceAdd, Nat.reduceLeDiff, g3, ba_data, ba_size, ba_toList, ba_extract, ba_append, List.toList_toArray, k5, q1, hb, hc]; (first | done | rfl))
    | refine g_skT ?_ | refine g_skF ?_
    | ((first | apply g_goT | apply g_goF); · simp only [go_sem, Nat.reduceEqDiff, Nat.reduceAdd, Nat.reduceLeDiff, g3, ba_data, ba_size, ba_toList, ba_extract, ba_append, List.toList_toArray, k5, q1]; (first | done | rfl))
    )
      have hb : acc ++ headD d ++ rowsD d d.ks.length ++ [125, 10] = textD (l.take (i + 1)) := by rw [hnext]; unfold blockD; simp only [List.append_assoc]
      simp only [go_sem, Nat.reduceEqDiff, Nat.reduceAdd, Nat.reduceLeDiff, hb]
  · rintro fr1 σ1 h3 hfr
    try simp only [if_true]
    rw [List.take_length] at h3
    (repeat' first
    | refine w_seq ?_ | refine w_rg ?_ | refine wo_nil ?_ | refine g_skU ?_
    | ((first | apply s_plain | apply s_void | apply s_guard); · simp only [go_sem, Nat.reduceEqDiff, Nat.reduceAdd, Nat.reduceLeDiff, h3]; (first | done | rfl))
    | ((first | apply g_T | apply g_F); · intro hb; simp only [go_sem, Nat.reduceEqDiff, Nat.reduceAdd, Nat.reduceLeDiff, h3, hb]; (first | done | rfl))
    | ((first | apply g_gT | apply g_gF); · intro hb hc; simp only [go_sem, Nat.reduceEqDiff, Nat.reduceAdd, Nat.reduceLeDiff, h3, hb, hc]; (first | done | rfl))
    | refine g_skT ?_ | refine g_skF ?_
    | ((first | apply g_goT | apply g_goF); · simp only [go_sem, Nat.reduceEqDiff, Nat.reduceAdd, Nat.reduceLeDiff, h3]; (first | done | rfl))
    | (refine w_condT ?_ ?_; · simp only [go_sem, Nat.reduceEqDiff, Nat.reduceAdd, Nat.reduceLeDiff, h3]; (first | done | rfl))
    | (refine w_condF ?_ ?_; · simp only [go_sem, Nat.reduceEqDiff, Nat.reduceAdd, Nat.reduceLeDiff, h3]; (first | done | rfl))
    | refine w_skip ?_ | refine w_exit ?_ | refine w_ret ?_
    )
    exact ⟨by first | exact .inr rfl | exact .inr trivial | exact .inl rfl, by simp only [go_sem, Nat.reduceEqDiff, Nat.reduceAdd, Nat.reduceLeDiff, retOf, resOf]; first | done | rfl⟩
end
end Go.Proofs.YtdlfomiclkpibaaDoorPv
namespace Go.Proofs.YtdlfomiclkpibaaDoorPv
open Go
set_option linter.unusedSimpArgs false
set_option linter.unusedVariables false
set_option maxHeartbeats 4000000
attribute [local go_sem ↓] e_mv e_pick e_bin e_eqs e_beq e_un e_cvi e_str e_s2b e_b2s e_box e_build e_bsl e_ld e_st e_nck e_mkf e_slcS e_slcL e_fa e_fld e_ia e_iaa e_ix e_ixa e_ext e_lenS e_lenL e_mnmx e_app e_appb e_bbx e_msl e_clr e_call e_callv pa_t pa_c pa_f slcSP_str hiOf_some hiOf_none loOf_some loOf_none set_eq set_ne
attribute [local go_sem] pv pv1 simple frOf_0 frOf_1 frOf_2 frOf_3 frOf_4 frOf_5 ne_eq not_false_eq_true if_true Bool.false_eq_true if_false pbin punary Option.map_some Option.bind_some pick_and pick_or opt_true Bool.true_and Bool.and_self Bool.and_true Bool.true_or Bool.false_or Bool.not_true Bool.not_false callE pcall_eq List.map_cons List.map_nil List.append_nil List.nil_append List.cons_append mapM_cons' mapM_nil' dep_eq fz_sc fz_sl fz_em fz_fn fz_fp fz_agg fz_tu fz_bx fz_ob Nat.lt_irrefl Nat.zero_lt_one Nat.lt_add_one flat clL cl Bool.or_true okc_sc okc_em okc_sl okc_ob okc_bx okc_fp okc_fn okc_agg okc_ifc cells_agg cells_sc cells_sl cells_em cells_ob cells_fn cells_bx cells_fp List.length_cons List.length_nil Nat.zero_add and_self true_and and_true new_m new_c put_m put_c nil_m nil_c deref List.getElem?_cons_zero List.getElem?_cons_succ List.drop_zero List.drop_succ_cons List.take_succ_cons List.take_zero Nat.le_refl false_and and_false decide_true decide_false lenP_em lenP_nil lenP_sl lenP_ob Int.ofNat_zero
set_option maxRecDepth 8000
/-- (*strings.Builder).Len -/
def d25 : Def := (.code 1 [.tmp 2] (.seq (.rg false [⟨.some 2, .none, .mv (.c (.int .i64 0))⟩]) (.seq (.rg false [⟨.some 3, .none, .mv (.t 0)⟩, ⟨.some 4, .none, .nck (.t 3)⟩, ⟨.some 5, .none, .fa 1 (.t 4)⟩, ⟨.some 6, .none, .ld .none (.t 5)⟩, ⟨.some 7, .none, .lenL (.t 6)⟩, ⟨.some 2, .none, .mv (.t 7)⟩]) .ret)))
/-- transhipment/block.Print -/
def d8 : Def := (.code 1 [.tmp 2, .tmp 3] (.seq (.rg false [⟨.some 2, .none, .mv (.c (.string ⟨#[]⟩))⟩, ⟨.some 3, .none, .mv (.c (.int .i64 0))⟩]) (.seq (.seq (.rg false [⟨.some 9, .none, .mv (.t 0)⟩, ⟨.some 10, .none, .call 9 .pure [.t 9]⟩, ⟨.some 11, .none, .un .not (.t 10)⟩]) (.cond (.t 11) (.seq (.rg false [⟨.some 2, .none, .mv (.c (.string ⟨#[]⟩))⟩, ⟨.some 3, .none, .mv (.c (.int .i64 1))⟩]) .ret) .skip)) (.seq (.rg false [⟨.some 4, .none, .bbx⟩]) (.seq (.seq (.rg false [⟨.some 12, .none, .mv (.t 0)⟩, ⟨.some 13, .none, .lenL (.t 12)⟩, ⟨.some 14, .none, .mv (.c (.int .i64 0))⟩]) (.block 0 (.loop (.seq (.rg false [⟨.some 15, .none, .bin .lss (.t 14) (.t 13)⟩]) (.seq (.cond (.t 15) .skip (.exit 0)) (.seq (.block 1 (.seq (.rg false [⟨.some 16, .none, .ia 3 (.t 12) (.t 14)⟩, ⟨.some 17, .none, .ld (.some 3) (.t 16)⟩, ⟨.some 6, .none, .box (.c (.agg #[.string ⟨#[]⟩, .slice .none 0 0, .slice .none 0 0]))⟩, ⟨.none, .none, .st 3 (.t 6) (.t 17)⟩]) (.seq (.rg false [⟨.some 18, .none, .fa 0 (.t 6)⟩, ⟨.some 19, .none, .ld .none (.t 18)⟩, ⟨.some 20, .none, .bin .add (.c (.string ⟨#[100, 101, 102, 105, 110, 101, 32]⟩)) (.t 19)⟩, ⟨.some 21, .none, .bin .add (.t 20) (.c (.string ⟨#[32, 123]⟩))⟩, ⟨.some 22, .none, .bin .add (.t 21) (.c (.string ⟨#[10]⟩))⟩, ⟨.some 23, .none, .call 24 .opn [.t 4, .t 22]⟩]) (.seq (.seq (.rg false [⟨.some 24, .none, .fa 1 (.t 6)⟩, ⟨.some 25, .none, .ld .none (.t 24)⟩, ⟨.some 26, .none, .lenL (.t 25)⟩, ⟨.some 27, .none, .mv (.c (.int .i64 0))⟩]) (.block 2 (.loop (.seq (.rg false [⟨.some 28, .none, .bin .lss (.t 27) (.t 26)⟩]) (.seq (.cond (.t 28) .skip (.exit 2)) (.seq (.block 3 (.seq (.rg false [⟨.some 29, .none, .mv (.t 27)⟩, ⟨.some 30, .none, .ia 1 (.t 25) (.t 27)⟩, ⟨.some 31, .none, .ld .none (.t 30)⟩, ⟨.some 7, .none, .mv (.t 29)⟩, ⟨.some 8, .none, .mv (.t 31)⟩]) (.rg false [⟨.some 32, .none, .mv (.t 8)⟩, ⟨.some 33, .none, .bin .add (.c (.string ⟨#[9]⟩)) (.t 32)⟩, ⟨.some 34, .none, .bin .add (.t 33) (.c (.string ⟨#[9]⟩))⟩, ⟨.some 35, .none, .fa 2 (.t 6)⟩, ⟨.some 36, .none, .ld .none (.t 35)⟩, ⟨.some 37, .none, .mv (.t 7)⟩, ⟨.some 38, .none, .ia 1 (.t 36) (.t 37)⟩, ⟨.some 39, .none, .ld .none (.t 38)⟩, ⟨.some 40, .none, .bin .add (.t 34) (.t 39)⟩, ⟨.some 41, .none, .bin .add (.t 40) (.c (.string ⟨#[10]⟩))⟩, ⟨.some 42, .none, .call 24 .opn [.t 4, .t 41]⟩]))) (.rg false [⟨.some 43, .none, .bin .add (.t 27) (.c (.int .i64 1))⟩, ⟨.some 27, .none, .mv (.t 43)⟩]))))))) (.rg false [⟨.some 44, .none, .call 24 .opn [.t 4, .c (.string ⟨#[125, 10]⟩)]⟩]))))) (.rg false [⟨.some 45, .none, .bin .add (.t 14) (.c (.int .i64 1))⟩, ⟨.some 14, .none, .mv (.t 45)⟩]))))))) (.seq (.seq (.rg false [⟨.some 46, .none, .call 25 .opn [.t 4]⟩, ⟨.some 47, .none, .bin .gtr (.t 46) (.c (.int .i64 8192))⟩]) (.cond (.t 47) (.seq (.rg false [⟨.some 2, .none, .mv (.c (.string ⟨#[]⟩))⟩, ⟨.some 3, .none, .mv (.c (.int .i64 2))⟩]) .ret) .skip)) (.seq (.rg false [⟨.some 48, .none, .call 26 .opn [.t 4]⟩, ⟨.some 2, .none, .mv (.t 48)⟩, ⟨.some 3, .none, .mv (.c (.int .i64 0))⟩]) .ret)))))))
def lbl : List (Nat × Def) := [(25, d25)]
def ldj : List (Nat × Def) := [(8, d8)]
section
variable {env : Nat → Option Def} {fr : Fr} {σ σ' σ'' : St} {K : Fr → St → Prop} {Q : X → Fr → St → Prop} {p : PV} {bs : List UInt8}
theorem Fresh.newput (h : Fresh σ) (o : Nat) (y z : Obj) : Fresh ((σ.new o y).put o (σ.c o) (some z)) :=
  (h.new o y).put (x := y) (by simp only [new_m]; rw [if_pos ⟨trivial, trivial⟩]) _
/-- (*strings.Builder).Len. -/
theorem b_ln (N : Has lbl env) {g : Nat} {bs : List UInt8} (hb : Bld σ g bs) : EV env 25 [.bx bldAt g 2 0 0] σ = some (.sc (.int .i64 bs.length), σ) := by
  obtain ⟨a, p, hm, ha, hb⟩ := hb
  have hlen : lenP p = some bs.length := by
    rcases hb with ⟨rfl, rfl⟩ | ⟨g', wr, rfl, _, _⟩ <;> rfl
  obtain ⟨r, σ', he, hr⟩ := EV_wp' (f := 25) (as := [.bx bldAt g 2 0 0]) (R := fun r τ => r = .sc (.int .i64 bs.length) ∧ τ = σ) (σ := σ) (N (25, d25) (by simp [lbl])) rfl (by
    (repeat' first
    | refine w_seq ?_ | refine w_rg ?_ | refine wo_nil ?_ | refine g_skU ?_
    | ((first | apply s_plain | apply s_void | apply s_guard); · simp only [go_sem, Nat.reduceEqDiff, Nat.reduceAdd, Nat.reduceLeDiff, hm]; (first | done | rfl))
    | ((first | apply g_T | apply g_F); · intro hb; simp only [go_sem, Nat.reduceEqDiff, Nat.reduceAdd, Nat.reduceLeDiff, hm, hb]; (first | done | rfl))
    | ((first | apply g_gT | apply g_gF); · intro hb hc; simp only [go_sem, Nat.reduceEqDiff, Nat.reduceAdd, Nat.reduceLeDiff, hm, hb, hc]; (first | done | rfl))
    | refine g_skT ?_ | refine g_skF ?_
    | ((first | apply g_goT | apply g_goF); · simp only [go_sem, Nat.reduceEqDiff, Nat.reduceAdd, Nat.reduceLeDiff, hm]; (first | done | rfl))
    )
    (repeat' first
    | refine w_seq ?_ | refine w_rg ?_ | refine wo_nil ?_ | refine g_skU ?_
    | ((first | apply s_plain | apply s_void | apply s_guard); · simp only [go_sem, Nat.reduceEqDiff, Nat.reduceAdd, Nat.reduceLeDiff, hlen]; (first | done | rfl))
    | ((first | apply g_T | apply g_F); · intro hb; simp only [go_sem, Nat.reduceEqDiff, Nat.reduceAdd, Nat.reduceLeDiff, hlen, hb]; (first | done | rfl))
    | ((first | apply g_gT | apply g_gF); · intro hb hc; simp only [go_sem, Nat.reduceEqDiff, Nat.reduceAdd, Nat.reduceLeDiff, hlen, hb, hc]; (first | done | rfl))
    | refine g_skT ?_ | refine g_skF ?_
    | ((first | apply g_goT | apply g_goF); · simp only [go_sem, Nat.reduceEqDiff, Nat.reduceAdd, Nat.reduceLeDiff, hlen]; (first | done | rfl))
    | (refine w_condT ?_ ?_; · simp only [go_sem, Nat.reduceEqDiff, Nat.reduceAdd, Nat.reduceLeDiff, hlen]; (first | done | rfl))
    | (refine w_condF ?_ ?_; · simp only [go_sem, Nat.reduceEqDiff, Nat.reduceAdd, Nat.reduceLeDiff, hlen]; (first | done | rfl))
    | refine w_skip ?_ | refine w_exit ?_ | refine w_ret ?_
    )
    exact ⟨.inr rfl, _, by simp only [go_sem, Nat.reduceEqDiff, Nat.reduceAdd, Nat.reduceLeDiff, retOf, resOf], rfl, rfl⟩)
  rw [he, hr.1, hr.2]
theorem s_ln {d t : Nat} {ops : List POp} (N : Has lbl env) {g : Nat} {bs : List UInt8} (ht : fr t = .bx bldAt g 2 0 0) (hb : Bld σ g bs)
    (h2 : Wos env ops K (fr.set d (.sc (.int .i64 bs.length))) σ) : Wos env (⟨some d, none, .call 25 .opn [.t t]⟩ :: ops) K fr σ :=
  s_plain (v := .sc (.int .i64 bs.length)) (σ' := σ) (by simp only [evO, callE, List.map_cons, List.map_nil, pa_t, ht]; exact b_ln N hb) h2
/-- What Print answers. -/
def printD (l : List Df) : List UInt8 × Int := if rightD l then if (textD l).length > 8192 then ([], 2) else (textD l, 0) else ([], 1)
theorem a8 (A : Has law env) (D : Has lda env) (B : Has ldb env) (C : Has ldc env) (W : Has lbw env) (S : Has lbs env) (N : Has lbl env) (J : Has ldj env) {l : List Df} (hl : Sms l) :
    AV env 8 [.sl (dfs l)] = some (.tu [txt (printD l).1, .sc (.int .i64 (printD l).2)]) := by
  have h9 := a9 A D B C hl
  have hln := dfs_len l
  refine AV_wp (J (8, d8) (by simp [ldj])) rfl ?_
  cases hr : rightD l with
  | false =>
    have hp : printD l = ([], 1) := by unfold printD; rw [hr]; rfl
    rw [hr] at h9
    (repeat' first
    | refine w_seq ?_ | refine w_rg ?_ | refine wo_nil ?_ | refine g_skU ?_
    | ((first | apply s_plain | apply s_void | apply s_guard); · simp only [go_sem, Nat.reduceEqDiff, Nat.reduceAdd, Nat.reduceLeDiff, h9]; (first | done | rfl))
    | ((first | apply g_T | apply g_F); · intro hb; simp only [go_sem, Nat.reduceEqDiff, Nat.reduceAdd, Nat.reduceLeDiff, h9, hb]; (first | done | rfl))
    | ((first | apply g_gT | apply g_gF); · intro hb hc; simp only [go_sem, Nat.reduceEqDiff, Nat.reduceAdd, Nat.reduceLeDiff, h9, hb, hc]; (first | done | rfl))
    | refine g_skT ?_ | refine g_skF ?_
    | ((first | apply g_goT | apply g_goF); · simp only [go_sem, Nat.reduceEqDiff, Nat.reduceAdd, Nat.reduceLeDiff, h9]; (first | done | rfl))
    | (refine w_condT ?_ ?_; · simp only [go_sem, Nat.reduceEqDiff, Nat.reduceAdd, Nat.reduceLeDiff, h9]; (first | done | rfl))
    | (refine w_condF ?_ ?_; · simp only [go_sem, Nat.reduceEqDiff, Nat.reduceAdd, Nat.reduceLeDiff, h9]; (first | done | rfl))
    | refine w_skip ?_ | refine w_exit ?_ | refine w_ret ?_
    )
    exact ⟨by first | exact .inr rfl | exact .inr trivial | exact .inl rfl, by simp only [go_sem, Nat.reduceEqDiff, Nat.reduceAdd, Nat.reduceLeDiff, retOf, resOf, hp]; first | done | rfl⟩
  | true =>
    obtain ⟨hl64, hmay⟩ := rightD_may hr
    rw [hr] at h9
    (repeat' first
    | refine w_seq ?_ | refine w_rg ?_ | refine wo_nil ?_ | refine g_skU ?_
    | ((first | apply s_plain | apply s_void | apply s_guard); · simp only [go_sem, Nat.reduceEqDiff, Nat.reduceAdd, Nat.reduceLeDiff, h9, bldAt]; (first | done | rfl))
    | ((first | apply g_T | apply g_F); · intro hb; simp only [go_sem, Nat.reduceEqDiff, Nat.reduceAdd, Nat.reduceLeDiff, h9, bldAt, hb]; (first | done | rfl))
    | ((first | apply g_gT | apply g_gF); · intro hb hc; simp only [go_sem, Nat.reduceEqDiff, Nat.reduceAdd, Nat.reduceLeDiff, h9, bldAt, hb, hc]; (first | done | rfl))
    | refine g_skT ?_ | refine g_skF ?_
    | ((first | apply g_goT | apply g_goF); · simp only [go_sem, Nat.reduceEqDiff, Nat.reduceAdd, Nat.reduceLeDiff, h9, bldAt]; (first | done | rfl))
    | (refine w_condT ?_ ?_; · simp only [go_sem, Nat.reduceEqDiff, Nat.reduceAdd, Nat.reduceLeDiff, h9, bldAt]; (first | done | rfl))
    | (refine w_condF ?_ ?_; · simp only [go_sem, Nat.reduceEqDiff, Nat.reduceAdd, Nat.reduceLeDiff, h9, bldAt]; (first | done | rfl))
    | refine w_skip ?_ | refine w_exit ?_ | refine w_ret ?_
    )
    (repeat' first
    | refine w_seq ?_ | refine w_rg ?_ | refine wo_nil ?_ | refine g_skU ?_
    | ((first | apply s_plain | apply s_void | apply s_guard); · simp only [go_sem, Nat.reduceEqDiff, Nat.reduceAdd, Nat.reduceLeDiff, hln]; (first | done | rfl))
    | ((first | apply g_T | apply g_F); · intro hb; simp only [go_sem, Nat.reduceEqDiff, Nat.reduceAdd, Nat.reduceLeDiff, hln, hb]; (first | done | rfl))
    | ((first | apply g_gT | apply g_gF); · intro hb hc; simp only [go_sem, Nat.reduceEqDiff, Nat.reduceAdd, Nat.reduceLeDiff, hln, hb, hc]; (first | done | rfl))
    | refine g_skT ?_ | refine g_skF ?_
    | ((first | apply g_goT | apply g_goF); · simp only [go_sem, Nat.reduceEqDiff, Nat.reduceAdd, Nat.reduceLeDiff, hln]; (first | done | rfl))
    )
    have k1 : (⟨#[100, 101, 102, 105, 110, 101, 32]⟩ : ByteArray) = ⟨[100, 101, 102, 105, 110, 101, 32].toArray⟩ := rfl
    have k2 : (⟨#[32, 123]⟩ : ByteArray) = ⟨[32, 123].toArray⟩ := rfl
    have k3 : (⟨#[9]⟩ : ByteArray) = ⟨[9].toArray⟩ := rfl
    have k4 : (⟨#[10]⟩ : ByteArray) = ⟨[10].toArray⟩ := rfl
    have k5 : (⟨#[125, 10]⟩ : ByteArray) = ⟨[125, 10].toArray⟩ := rfl
    refine w_block (w_rangeF (tc := 15) (ti := 14) (tn := 13) (tk := 45) l.length (by omega) (fun i fr σ => Bld σ 0 (textD (l.take i)) ∧ Fresh σ) ⟨by decide, rfl, rfl⟩ (fun _ _ _ _ h => ⟨h, h, h⟩) ⟨bld_new _, Fresh.nil.new _ _⟩ (by simp only [go_sem, Nat.reduceEqDiff, Nat.reduceAdd, Nat.reduceLeDiff]; first | done | rfl) (by simp only [go_sem, Nat.reduceEqDiff, Nat.reduceAdd, Nat.reduceLeDiff, hln]; first | done | rfl) ?_ ?_)
    · rintro i fr1 σ1 hi ⟨hb, hF⟩ hti hfr
      have f0_4 := hfr 4 rfl; have f0_12 := hfr 12 rfl; have f0_13 := hfr 13 rfl; try (simp only [go_sem, Nat.reduceEqDiff, Nat.reduceAdd, Nat.reduceLeDiff] at f0_4); try (simp only [go_sem, Nat.reduceEqDiff, Nat.reduceAdd, Nat.reduceLeDiff] at f0_12); try (simp only [go_sem, Nat.reduceEqDiff, Nat.reduceAdd, Nat.reduceLeDiff] at f0_13)
      have z4 : fr1 4 = .bx bldAt 0 2 0 0 := by rw [hfr 4 rfl]; simp only [go_sem, Nat.reduceEqDiff, Nat.reduceAdd, Nat.reduceLeDiff]; rfl
      have hqd := List.getElem?_eq_getElem hi
      have hx := dfs_at hqd
      have hm := hmay _ (List.getElem_mem hi)
      have e1 : (0 : Int) ≤ (i : Int) ∧ (i : Int) < (l.length : Int) := by omega
      have hacc := textD_take_le hr i
      have hnext := textD_take hi
      generalize hd : l[i] = d at hm hx hnext
      generalize textD (l.take i) = acc at hb hacc hnext
      have hll := txts_len d.ks
      have hlv := txts_len d.vs
      have hty := wordD_le hm.ty
      have hnn := hm.n
      have hee := hm.e
      unfold df at hx
      have q1 : 7 + d.ty.length ≤ 9223372036854775807 := by omega
      have q2 : d.ty.length ≤ 9223372036854775798 := by omega
      have q3 : (d.ty ++ [32, 123]).length ≤ 9223372036854775799 := by simp only [List.length_append, List.length_cons, List.length_nil]; omega
      have hh : (headD d).length ≤ 100 := by simp only [headD, List.length_append, List.length_cons, List.length_nil]; omega
      refine w_block ?_
      (repeat' first
    | refine w_seq ?_ | refine w_rg ?_ | refine wo_nil ?_ | refine g_skU ?_
    | ((first | apply s_plain | apply s_void | apply s_guard); · simp only [go_sem, Nat.reduceEqDiff, Nat.reduceAdd, Nat.reduceLeDiff, f0_4, f0_12, f0_13, hti, e1, hln, Int.toNat_natCast, hx, hll, ba_data, ba_size, ba_toList, ba_extract, ba_append, List.toList_toArray, k1, k2, k4, q1, q2, q3]; (first | done | rfl))
    | ((first | apply g_T | apply g_F); · intro hb; simp only [go_sem, Nat.reduceEqDiff, Nat.reduceAdd, Nat.reduceLeDiff, f0_4, f0_12, f0_13, hti, e1, hln, Int.toNat_natCast, hx, hll, ba_data, ba_size, ba_toList, ba_extract, ba_append, List.toList_toArray, k1, k2, k4, q1, q2, q3, hb]; (first | done | rfl))
    | ((first | apply g_gT | apply g_gF); · intro hb hc; simp only [go_sem, Nat.reduceEqDiff, Nat.reduceAdd, Nat.reduceLeDiff, f0_4, f0_12, f0_13, hti, e1, hln, Int.toNat_natCast, hx, hll, ba_data, ba_size, ba_toList, ba_extract, ba_append, List.toList_toArray, k1, k2, k4, q1, q2, q3, hb, hc]; (first | done | rfl))
    | refine g_skT ?_ | refine g_skF ?_
    | ((first | apply g_goT | apply g_goF); · simp only [go_sem, Nat.reduceEqDiff, Nat.reduceAdd, Nat.reduceLeDiff, f0_4, f0_12, f0_13, hti, e1, hln, Int.toNat_natCast, hx, hll, ba_data, ba_size, ba_toList, ba_extract, ba_append, List.toList_toArray, k1, k2, k4, q1, q2, q3]; (first | done | rfl))
    )
      refine s_ws (d := 23) (t := 4) (x := .t 22) W (g := 0) (bs := acc) (s := ⟨([100, 101, 102, 105, 110, 101, 32] ++ d.ty ++ [32, 123] ++ [10]).toArray⟩) (by simp only [go_sem, Nat.reduceEqDiff, Nat.reduceAdd, Nat.reduceLeDiff, z4]) (by simp only [go_sem, Nat.reduceEqDiff, Nat.reduceAdd, Nat.reduceLeDiff]) ((hb.new hF _ _).put (o := 2000006) (by decide) (by decide) _) (hF.newput _ _ _) (by rw [ba_size]; simp only [List.length_append, List.length_cons, List.length_nil]; omega) ?_
      intro σ2 hb2 hk2
      have hm2 := hk2.m 2000006 (σ1.c 2000006) ⟨3, [df d], true, true⟩ (by decide) (by decide) (by simp only [go_sem, Nat.reduceEqDiff, Nat.reduceAdd, Nat.reduceLeDiff]; rfl)
      have hc0 : acc ++ ([100, 101, 102, 105, 110, 101, 32] ++ d.ty ++ [32, 123] ++ [10]) = acc ++ headD d := by unfold headD; simp only [List.append_assoc, List.cons_append, List.nil_append]
      rw [List.toList_toArray, hc0] at hb2
      have hF2 := hk2.f
      clear hk2
      unfold df at hm2
      (repeat' first
    | refine w_seq ?_ | refine w_rg ?_ | refine wo_nil ?_ | refine g_skU ?_
    | ((first | apply s_plain | apply s_void | apply s_guard); · simp only [go_sem, Nat.reduceEqDiff, Nat.reduceAdd, Nat.reduceLeDiff, hm2, hll]; (first | done | rfl))
    | ((first | apply g_T | apply g_F); · intro hb; simp only [go_sem, Nat.reduceEqDiff, Nat.reduceAdd, Nat.reduceLeDiff, hm2, hll, hb]; (first | done | rfl))
    | ((first | apply g_gT | apply g_gF); · intro hb hc; simp only [go_sem, Nat.reduceEqDiff, Nat.reduceAdd, Nat.reduceLeDiff, hm2, hll, hb, hc]; (first | done | rfl))
    | refine g_skT ?_ | refine g_skF ?_
    | ((first | apply g_goT | apply g_goF); · simp only [go_sem, Nat.reduceEqDiff, Nat.reduceAdd, Nat.reduceLeDiff, hm2, hll]; (first | done | rfl))
    )
      have hB0 : acc ++ headD d = acc ++ headD d ++ rowsD d 0 := by rw [rowsD_zero, List.append_nil]
      rw [hB0] at hb2
      refine w_block (w_rangeF (tc := 28) (ti := 27) (tn := 26) (tk := 43) d.ks.length (by omega) (fun j fr σ => Bld σ 0 (acc ++ headD d ++ rowsD d j) ∧ Fresh σ ∧ σ.m 2000006 (σ1.c 2000006) = some ⟨3, [df d], true, true⟩) ⟨by decide, rfl, rfl⟩ (fun _ _ _ _ h => ⟨h, h, h⟩) ⟨hb2, hF2, hm2⟩ (by simp only [go_sem, Nat.reduceEqDiff, Nat.reduceAdd, Nat.reduceLeDiff]; first | done | rfl) (by simp only [go_sem, Nat.reduceEqDiff, Nat.reduceAdd, Nat.reduceLeDiff, hll]; first | done | rfl) ?_ ?_)
      · rintro j fr2 σ2 hj ⟨hb3, hF3, hm3⟩ gti hfr
        have e1_2 := hfr 2 rfl; have e1_3 := hfr 3 rfl; have e1_4 := hfr 4 rfl; have e1_6 := hfr 6 rfl; have e1_12 := hfr 12 rfl; have e1_13 := hfr 13 rfl; have e1_14 := hfr 14 rfl; have e1_15 := hfr 15 rfl; have e1_16 := hfr 16 rfl; have e1_17 := hfr 17 rfl; have e1_18 := hfr 18 rfl; have e1_19 := hfr 19 rfl; have e1_20 := hfr 20 rfl; have e1_21 := hfr 21 rfl; have e1_22 := hfr 22 rfl; have e1_24 := hfr 24 rfl; have e1_25 := hfr 25 rfl; have e1_26 := hfr 26 rfl; try (simp only [go_sem, Nat.reduceEqDiff, Nat.reduceAdd, Nat.reduceLeDiff] at e1_2); try (simp only [go_sem, Nat.reduceEqDiff, Nat.reduceAdd, Nat.reduceLeDiff] at e1_3); try (simp only [go_sem, Nat.reduceEqDiff, Nat.reduceAdd, Nat.reduceLeDiff] at e1_4); try (simp only [go_sem, Nat.reduceEqDiff, Nat.reduceAdd, Nat.reduceLeDiff] at e1_6); try (simp only [go_sem, Nat.reduceEqDiff, Nat.reduceAdd, Nat.reduceLeDiff] at e1_12); try (simp only [go_sem, Nat.reduceEqDiff, Nat.reduceAdd, Nat.reduceLeDiff] at e1_13); try (simp only [go_sem, Nat.reduceEqDiff, Nat.reduceAdd, Nat.reduceLeDiff] at e1_14); try (simp only [go_sem, Nat.reduceEqDiff, Nat.reduceAdd, Nat.reduceLeDiff] at e1_15); try (simp only [go_sem, Nat.reduceEqDiff, Nat.reduceAdd, Nat.reduceLeDiff] at e1_16); try (simp only [go_sem, Nat.reduceEqDiff, Nat.reduceAdd, Nat.reduceLeDiff] at e1_17); try (simp only [go_sem, Nat.reduceEqDiff, Nat.reduceAdd, Nat.reduceLeDiff] at e1_18); try (simp only [go_sem, Nat.reduceEqDiff, Nat.reduceAdd, Nat.reduceLeDiff] at e1_19); try (simp only [go_sem, Nat.reduceEqDiff, Nat.reduceAdd, Nat.reduceLeDiff] at e1_20); try (simp only [go_sem, Nat.reduceEqDiff, Nat.reduceAdd, Nat.reduceLeDiff] at e1_21); try (simp only [go_sem, Nat.reduceEqDiff, Nat.reduceAdd, Nat.reduceLeDiff] at e1_22); try (simp only [go_sem, Nat.reduceEqDiff, Nat.reduceAdd, Nat.reduceLeDiff] at e1_24); try (simp only [go_sem, Nat.reduceEqDiff, Nat.reduceAdd, Nat.reduceLeDiff] at e1_25); try (simp only [go_sem, Nat.reduceEqDiff, Nat.reduceAdd, Nat.reduceLeDiff] at e1_26)
        have z6 : fr2 6 = .bx 2000006 (σ1.c 2000006) 3 0 0 := by rw [hfr 6 rfl]; simp only [go_sem, Nat.reduceEqDiff, Nat.reduceAdd, Nat.reduceLeDiff]
        have z4' : fr2 4 = .bx bldAt 0 2 0 0 := by rw [hfr 4 rfl]; simp only [go_sem, Nat.reduceEqDiff, Nat.reduceAdd, Nat.reduceLeDiff, z4]
        have hjv : j < d.vs.length := by omega
        have hqk := List.getElem?_eq_getElem hj
        have hqv := List.getElem?_eq_getElem hjv
        have hxk := txts_at hqk
        have hxv := txts_at hqv
        have f1 : (0 : Int) ≤ (j : Int) ∧ (j : Int) < (d.ks.length : Int) := by omega
        have f2 : (0 : Int) ≤ (j : Int) ∧ (j : Int) < (d.vs.length : Int) := by omega
        have gk : d.ks.getD j [] = d.ks[j] := by rw [List.getD_eq_getElem?_getD, hqk]; rfl
        have gv : d.vs.getD j [] = d.vs[j] := by rw [List.getD_eq_getElem?_getD, hqv]; rfl
        have l1 := wordD_le (hm.ks j hj).1
        have l2 := valD_le (hm.val hj)
        have l3 := rowsD_le hm (i := j) (by omega)
        have hs := rowsD_succ d j
        unfold rowD at hs
        rw [gk] at l1
        rw [gv] at l2
        rw [gk, gv] at hs
        have hbl : (acc ++ headD d ++ rowsD d j).length ≤ 2000000 := by simp only [List.length_append]; omega
        have hst : acc ++ headD d ++ rowsD d (j + 1) = acc ++ headD d ++ rowsD d j ++ ([9] ++ d.ks[j] ++ [9] ++ d.vs[j] ++ [10]) := by rw [hs]; simp only [List.append_assoc]
        rw [hst]
        clear hst hs
        generalize acc ++ headD d ++ rowsD d j = acc2 at hb3 hbl
        have q1 : 1 + d.ks[j].length ≤ 9223372036854775807 := by omega
        have q2 : d.ks[j].length ≤ 9223372036854775805 := by omega
        have q3 : (d.ks[j] ++ [9]).length + 1 + d.vs[j].length ≤ 9223372036854775807 := by simp only [List.length_append, List.length_cons, List.length_nil]; omega
        have q4 : (d.ks[j] ++ [9] ++ d.vs[j]).length ≤ 9223372036854775805 := by simp only [List.length_append, List.length_cons, List.length_nil]; omega
        refine w_block ?_
        unfold df at hm3
        (repeat' first
    | refine w_seq ?_ | refine w_rg ?_ | refine wo_nil ?_ | refine g_skU ?_
    | ((first | apply s_plain | apply s_void | apply s_guard); · simp only [go_sem, Nat.reduceEqDiff, Nat.reduceAdd, Nat.reduceLeDiff, e1_2, e1_3, e1_4, e1_6, e1_12, e1_13, e1_14, e1_15, e1_16, e1_17, e1_18, e1_19, e1_20, e1_21, e1_22, e1_24, e1_25, e1_26, z6, gti, f1, f2, hll, hlv, Int.toNat_natCast, hxk, hxv, hm3, ba_data, ba_size, ba_toList, ba_extract, ba_append, List.toList_toArray, k3, k4, q1, q2, q3, q4]; (first | done | rfl))
    | ((first | apply g_T | apply g_F); · intro hb; simp only [go_sem, Nat.reduceEqDiff, Nat.reduceAdd, Nat.reduceLeDiff, e1_2, e1_3, e1_4, e1_6, e1_12, e1_13, e1_14, e1_15, e1_16, e1_17, e1_18, e1_19, e1_20, e1_21, e1_22, e1_24, e1_25, e1_26, z6, gti, f1, f2, hll, hlv, Int.toNat_natCast, hxk, hxv, hm3, ba_data, ba_size, ba_toList, ba_extract, ba_append, List.toList_toArray, k3, k4, q1, q2, q3, q4, hb]; (first | done | rfl))
    | ((first | apply g_gT | apply g_gF); · intro hb hc; simp only [go_sem, Nat.reduceEqDiff, Nat.reduceAdd, Nat.reduceLeDiff, e1_2, e1_3, e1_4, e1_6, e1_12, e1_13, e1_14, e1_15, e1_16, e1_17, e1_18, e1_19, e1_20, e1_21, e1_22, e1_24, e1_25, e1_26, z6, gti, f1, f2, hll, hlv, Int.toNat_natCast, hxk, hxv, hm3, ba_data, ba_size, ba_toList, ba_extract, ba_append, List.toList_toArray, k3, k4, q1, q2, q3, q4, hb, hc]; (first | done | rfl))
    | refine g_skT ?_ | refine g_skF ?_
    | ((first | apply g_goT | apply g_goF); · simp only [go_sem, Nat.reduceEqDiff, Nat.reduceAdd, Nat.reduceLeDiff, e1_2, e1_3, e1_4, e1_6, e1_12, e1_13, e1_14, e1_15, e1_16, e1_17, e1_18, e1_19, e1_20, e1_21, e1_22, e1_24, e1_25, e1_26, z6, gti, f1, f2, hll, hlv, Int.toNat_natCast, hxk, hxv, hm3, ba_data, ba_size, ba_toList, ba_extract, ba_append, List.toList_toArray, k3, k4, q1, q2, q3, q4]; (first | done | rfl))
    )
        refine s_ws (d := 42) (t := 4) (x := .t 41) W (g := 0) (bs := acc2) (s := ⟨([9] ++ d.ks[j] ++ [9] ++ d.vs[j] ++ [10]).toArray⟩) (by simp only [go_sem, Nat.reduceEqDiff, Nat.reduceAdd, Nat.reduceLeDiff, z4']) (by simp only [go_sem, Nat.reduceEqDiff, Nat.reduceAdd, Nat.reduceLeDiff]) hb3 hF3 (by rw [ba_size]; simp only [List.length_append, List.length_cons, List.length_nil]; omega) ?_
        intro σ3 hb4 hk4
        have hm4 := hk4.m _ _ _ (by decide) (by decide) hm3
        rw [List.toList_toArray] at hb4
        (repeat' first
    | refine w_seq ?_ | refine w_rg ?_ | refine wo_nil ?_ | refine g_skU ?_
    | ((first | apply s_plain | apply s_void | apply s_guard); · simp only [go_sem, Nat.reduceEqDiff, Nat.reduceAdd, Nat.reduceLeDiff]; (first | done | rfl))
    | ((first | apply g_T | apply g_F); · intro hb; simp only [go_sem, Nat.reduceEqDiff, Nat.reduceAdd, Nat.reduceLeDiff, hb]; (first | done | rfl))
    | ((first | apply g_gT | apply g_gF); · intro hb hc; simp only [go_sem, Nat.reduceEqDiff, Nat.reduceAdd, Nat.reduceLeDiff, hb, hc]; (first | done | rfl))
    | refine g_skT ?_ | refine g_skF ?_
    | ((first | apply g_goT | apply g_goF); · simp only [go_sem, Nat.reduceEqDiff, Nat.reduceAdd, Nat.reduceLeDiff]; (first | done | rfl))
    )
        exact ⟨hb4, hk4.f, hm4⟩
      · rintro fr2 σ2 ⟨hb3, hF3, hm3⟩ hfr
        try simp only [if_true]
        have z4' : fr2 4 = .bx bldAt 0 2 0 0 := by rw [hfr 4 rfl]; simp only [go_sem, Nat.reduceEqDiff, Nat.reduceAdd, Nat.reduceLeDiff, z4]
        have hl2 := rowsD_le hm (i := d.ks.length) (Nat.le_refl _)
        (repeat' first
    | refine w_seq ?_ | refine w_rg ?_ | refine wo_nil ?_ | refine g_skU ?_
    | ((first | apply s_plain | apply s_void | apply s_guard); · simp only [go_sem, Nat.reduceEqDiff, Nat.reduceAdd, Nat.reduceLeDiff]; (first | done | rfl))
    | ((first | apply g_T | apply g_F); · intro hb; simp only [go_sem, Nat.reduceEqDiff, Nat.reduceAdd, Nat.reduceLeDiff, hb]; (first | done | rfl))
    | ((first | apply g_gT | apply g_gF); · intro hb hc; simp only [go_sem, Nat.reduceEqDiff, Nat.reduceAdd, Nat.reduceLeDiff, hb, hc]; (first | done | rfl))
    | refine g_skT ?_ | refine g_skF ?_
    | ((first | apply g_goT | apply g_goF); · simp only [go_sem, Nat.reduceEqDiff, Nat.reduceAdd, Nat.reduceLeDiff]; (first | done | rfl))
    )
        refine s_ws (d := 44) (t := 4) (x := .c (.string ⟨#[125, 10]⟩)) W (g := 0) (bs := acc ++ headD d ++ rowsD d d.ks.length) (s := ⟨#[125, 10]⟩) z4' rfl hb3 hF3 (by rw [k5, ba_size]; simp only [List.length_append, List.length_cons, List.length_nil]; omega) ?_
        intro σ3 hb4 hk4
        have hb : acc ++ headD d ++ rowsD d d.ks.length ++ [125, 10] = textD (l.take (i + 1)) := by rw [hnext]; unfold blockD; simp only [List.append_assoc]
        have hb5 : Bld σ3 0 (acc ++ headD d ++ rowsD d d.ks.length ++ [125, 10]) := hb4
        rw [hb] at hb5
        (repeat' first
    | refine w_seq ?_ | refine w_rg ?_ | refine wo_nil ?_ | refine g_skU ?_
    | ((first | apply s_plain | apply s_void | apply s_guard); · simp only [go_sem, Nat.reduceEqDiff, Nat.reduceAdd, Nat.reduceLeDiff]; (first | done | rfl))
    | ((first | apply g_T | apply g_F); · intro hb; simp only [go_sem, Nat.reduceEqDiff, Nat.reduceAdd, Nat.reduceLeDiff, hb]; (first | done | rfl))
    | ((first | apply g_gT | apply g_gF); · intro hb hc; simp only [go_sem, Nat.reduceEqDiff, Nat.reduceAdd, Nat.reduceLeDiff, hb, hc]; (first | done | rfl))
    | refine g_skT ?_ | refine g_skF ?_
    | ((first | apply g_goT | apply g_goF); · simp only [go_sem, Nat.reduceEqDiff, Nat.reduceAdd, Nat.reduceLeDiff]; (first | done | rfl))
    )
        exact ⟨hb5, hk4.f⟩
    · rintro fr1 σ1 ⟨hb, hF⟩ hfr
      try simp only [if_true]
      rw [List.take_length] at hb
      have z4 : fr1 4 = .bx bldAt 0 2 0 0 := by rw [hfr 4 rfl]; simp only [go_sem, Nat.reduceEqDiff, Nat.reduceAdd, Nat.reduceLeDiff]; rfl
      have hle := textD_le hmay
      (repeat' first
    | refine w_seq ?_ | refine w_rg ?_ | refine wo_nil ?_ | refine g_skU ?_
    | ((first | apply s_plain | apply s_void | apply s_guard); · simp only [go_sem, Nat.reduceEqDiff, Nat.reduceAdd, Nat.reduceLeDiff]; (first | done | rfl))
    | ((first | apply g_T | apply g_F); · intro hb; simp only [go_sem, Nat.reduceEqDiff, Nat.reduceAdd, Nat.reduceLeDiff, hb]; (first | done | rfl))
    | ((first | apply g_gT | apply g_gF); · intro hb hc; simp only [go_sem, Nat.reduceEqDiff, Nat.reduceAdd, Nat.reduceLeDiff, hb, hc]; (first | done | rfl))
    | refine g_skT ?_ | refine g_skF ?_
    | ((first | apply g_goT | apply g_goF); · simp only [go_sem, Nat.reduceEqDiff, Nat.reduceAdd, Nat.reduceLeDiff]; (first | done | rfl))
    )
      refine s_ln N z4 hb ?_
      by_cases hc : (textD l).length > 8192
      · have hd : decide (((textD l).length : Int) > 8192) = true := by simp; omega
        have hp : printD l = ([], 2) := by unfold printD; rw [hr, if_pos rfl, if_pos hc]
        (repeat' first
    | refine w_seq ?_ | refine w_rg ?_ | refine wo_nil ?_ | refine g_skU ?_
    | ((first | apply s_plain | apply s_void | apply s_guard); · simp only [go_sem, Nat.reduceEqDiff, Nat.reduceAdd, Nat.reduceLeDiff, hd]; (first | done | rfl))
    | ((first | apply g_T | apply g_F); · intro hb; simp only [go_sem, Nat.reduceEqDiff, Nat.reduceAdd, Nat.reduceLeDiff, hd, hb]; (first | done | rfl))
    | ((first | apply g_gT | apply g_gF); · intro hb hc; simp only [go_sem, Nat.reduceEqDiff, Nat.reduceAdd, Nat.reduceLeDiff, hd, hb, hc]; (first | done | rfl))
    | refine g_skT ?_ | refine g_skF ?_
    | ((first | apply g_goT | apply g_goF); · simp only [go_sem, Nat.reduceEqDiff, Nat.reduceAdd, Nat.reduceLeDiff, hd]; (first | done | rfl))
    | (refine w_condT ?_ ?_; · simp only [go_sem, Nat.reduceEqDiff, Nat.reduceAdd, Nat.reduceLeDiff, hd]; (first | done | rfl))
    | (refine w_condF ?_ ?_; · simp only [go_sem, Nat.reduceEqDiff, Nat.reduceAdd, Nat.reduceLeDiff, hd]; (first | done | rfl))
    | refine w_skip ?_ | refine w_exit ?_ | refine w_ret ?_
    )
        exact ⟨by first | exact .inr rfl | exact .inr trivial | exact .inl rfl, by simp only [go_sem, Nat.reduceEqDiff, Nat.reduceAdd, Nat.reduceLeDiff, retOf, resOf, hp]; first | done | rfl⟩
      · have hd : decide (((textD l).length : Int) > 8192) = false := by simp; omega
        have hp : printD l = (textD l, 0) := by unfold printD; rw [hr, if_pos rfl, if_neg hc]
        (repeat' first
    | refine w_seq ?_ | refine w_rg ?_ | refine wo_nil ?_ | refine g_skU ?_
    | ((first | apply s_plain | apply s_void | apply s_guard); · simp only [go_sem, Nat.reduceEqDiff, Nat.reduceAdd, Nat.reduceLeDiff, hd]; (first | done | rfl))
    | ((first | apply g_T | apply g_F); · intro hb; simp only [go_sem, Nat.reduceEqDiff, Nat.reduceAdd, Nat.reduceLeDiff, hd, hb]; (first | done | rfl))
    | ((first | apply g_gT | apply g_gF); · intro hb hc; simp only [go_sem, Nat.reduceEqDiff, Nat.reduceAdd, Nat.reduceLeDiff, hd, hb, hc]; (first | done | rfl))
    | refine g_skT ?_ | refine g_skF ?_
    | ((first | apply g_goT | apply g_goF); · simp only [go_sem, Nat.reduceEqDiff, Nat.reduceAdd, Nat.reduceLeDiff, hd]; (first | done | rfl))
    | (refine w_condT ?_ ?_; · simp only [go_sem, Nat.reduceEqDiff, Nat.reduceAdd, Nat.reduceLeDiff, hd]; (first | done | rfl))
    | (refine w_condF ?_ ?_; · simp only [go_sem, Nat.reduceEqDiff, Nat.reduceAdd, Nat.reduceLeDiff, hd]; (first | done | rfl))
    | refine w_skip ?_ | refine w_exit ?_ | refine w_ret ?_
    )
        refine s_st (d := 48) (t := 4) S (g := 0) (bs := textD l) (by simp only [go_sem, Nat.reduceEqDiff, Nat.reduceAdd, Nat.reduceLeDiff, z4]) hb hF (by omega) ?_
        intro σ2 hk
        (repeat' first
    | refine w_seq ?_ | refine w_rg ?_ | refine wo_nil ?_ | refine g_skU ?_
    | ((first | apply s_plain | apply s_void | apply s_guard); · simp only [go_sem, Nat.reduceEqDiff, Nat.reduceAdd, Nat.reduceLeDiff]; (first | done | rfl))
    | ((first | apply g_T | apply g_F); · intro hb; simp only [go_sem, Nat.reduceEqDiff, Nat.reduceAdd, Nat.reduceLeDiff, hb]; (first | done | rfl))
    | ((first | apply g_gT | apply g_gF); · intro hb hc; simp only [go_sem, Nat.reduceEqDiff, Nat.reduceAdd, Nat.reduceLeDiff, hb, hc]; (first | done | rfl))
    | refine g_skT ?_ | refine g_skF ?_
    | ((first | apply g_goT | apply g_goF); · simp only [go_sem, Nat.reduceEqDiff, Nat.reduceAdd, Nat.reduceLeDiff]; (first | done | rfl))
    | (refine w_condT ?_ ?_; · simp only [go_sem, Nat.reduceEqDiff, Nat.reduceAdd, Nat.reduceLeDiff]; (first | done | rfl))
    | (refine w_condF ?_ ?_; · simp only [go_sem, Nat.reduceEqDiff, Nat.reduceAdd, Nat.reduceLeDiff]; (first | done | rfl))
    | refine w_skip ?_ | refine w_exit ?_ | refine w_ret ?_
    )
        exact ⟨by first | exact .inr rfl | exact .inr trivial | exact .inl rfl, by simp only [go_sem, Nat.reduceEqDiff, Nat.reduceAdd, Nat.reduceLeDiff, retOf, resOf, hp]; first | done | rfl⟩
end
end Go.Proofs.YtdlfomiclkpibaaDoorPv
namespace Go.Proofs.YtdlfomiclkpibaaDoorPv
open Go
set_option linter.unusedSimpArgs false
set_option linter.unusedVariables false
set_option maxHeartbeats 4000000
attribute [local go_sem ↓] e_mv e_pick e_bin e_eqs e_beq e_un e_cvi e_str e_s2b e_b2s e_box e_build e_bsl e_ld e_st e_nck e_mkf e_slcS e_slcL e_fa e_fld e_ia e_iaa e_ix e_ixa e_ext e_lenS e_lenL e_mnmx e_app e_appb e_bbx e_msl e_clr e_call e_callv pa_t pa_c pa_f slcSP_str hiOf_some hiOf_none loOf_some loOf_none set_eq set_ne
attribute [local go_sem] pv pv1 simple frOf_0 frOf_1 frOf_2 frOf_3 frOf_4 frOf_5 ne_eq not_false_eq_true if_true Bool.false_eq_true if_false pbin punary Option.map_some Option.bind_some pick_and pick_or opt_true Bool.true_and Bool.and_self Bool.and_true Bool.true_or Bool.false_or Bool.not_true Bool.not_false callE pcall_eq List.map_cons List.map_nil List.append_nil List.nil_append List.cons_append mapM_cons' mapM_nil' dep_eq fz_sc fz_sl fz_em fz_fn fz_fp fz_agg fz_tu fz_bx fz_ob Nat.lt_irrefl Nat.zero_lt_one Nat.lt_add_one flat clL cl Bool.or_true okc_sc okc_em okc_sl okc_ob okc_bx okc_fp okc_fn okc_agg okc_ifc cells_agg cells_sc cells_sl cells_em cells_ob cells_fn cells_bx cells_fp List.length_cons List.length_nil Nat.zero_add and_self true_and and_true new_m new_c put_m put_c nil_m nil_c deref List.getElem?_cons_zero List.getElem?_cons_succ List.drop_zero List.drop_succ_cons List.take_succ_cons List.take_zero Nat.le_refl false_and and_false decide_true decide_false lenP_em lenP_nil lenP_sl lenP_ob Int.ofNat_zero
set_option maxRecDepth 8000
section
variable {env : Nat → Option Def} {fr : Fr} {σ σ' : St} {K : Fr → St → Prop} {Q : X → Fr → St → Prop}
/-- What has been gathered: nothing, or an object of one's own, made at one of some places. -/
def Gat (σ : St) (os : List Nat) (es : Nat) (w : Bool) (p : PV) (xs : List PV) : Prop := (p = .em ∧ xs = []) ∨ ∃ o g wr, o ∈ os ∧ p = .ob o g es 0 xs.length ∧ σ.m o g = some ⟨es, xs, true, wr⟩ ∧ g < σ.c o ∧ xs ≠ [] ∧ (w = true → wr = true)
theorem Gat.em {os : List Nat} {es : Nat} {w : Bool} : Gat σ os es w .em [] := .inl ⟨rfl, rfl⟩
theorem Gat.new {os : List Nat} {es : Nat} {w : Bool} {p : PV} {xs : List PV} (h : Gat σ os es w p xs) {d : Nat} (y : Obj) : Gat (σ.new d y) os es w p xs := by
  rcases h with h | ⟨o, g, wr, h0, h1, h2, h3, h4⟩
  · exact .inl h
  · refine .inr ⟨o, g, wr, h0, h1, ?_, ?_, h4⟩
    · simp only [new_m]; rw [if_neg (fun h => by obtain ⟨rfl, rfl⟩ := h; omega)]; exact h2
    · simp only [new_c]; split
      · rename_i h; subst h; omega
      · exact h3
theorem Gat.put {os : List Nat} {es : Nat} {w : Bool} {p : PV} {xs : List PV} (h : Gat σ os es w p xs) {d k : Nat} (hd : d ∉ os) (y : Option Obj) : Gat (σ.put d k y) os es w p xs := by
  rcases h with h | ⟨o, g, wr, h0, h1, h2, h3, h4⟩
  · exact .inl h
  · refine .inr ⟨o, g, wr, h0, h1, ?_, ?_, h4⟩
    · simp only [put_m]; rw [if_neg (fun (h : o = d ∧ g = k) => hd (h.1 ▸ h0))]; exact h2
    · simp only [put_c]; exact h3
theorem Gat.fz {os : List Nat} {es : Nat} {w : Bool} {p : PV} {xs : List PV} (h : Gat σ os es w p xs) (hx : xs.mapM (fz σ 11) = some xs) : fz σ 12 p = some (.sl xs) := by
  rcases h with ⟨rfl, rfl⟩ | ⟨o, g, wr, _, rfl, h2, _⟩
  · rfl
  · rw [fz_ob, h2]
    simp [hx]
theorem gat_app {E : Ev} {d es by_ : Nat} {os : List Nat} {w kw : Bool} {s' x : PA} {xs : List PV} {e : PV} (hg : Gat σ os es w (pa fr s') xs) (hd : d ∈ os) (hsrc : srcOf σ es (pa fr x) = some [e]) (hok : okc e = true) (hl : (cellsOf e).length = es) (hb : (xs.length + 1) * by_ ≤ 70368744177664) :
    ∃ p σ', evO E d fr σ (.app es by_ kw s' x) = some (p, σ') ∧ Gat σ' os es (w && kw) p (xs ++ [e]) := by
  have hall : ([e].all fun y => okc y && (cellsOf y).length == es) = true := by simp [hok, hl]
  rcases hg with ⟨h1, rfl⟩ | ⟨o, g, wr, h0, h1, h2, h3, h4, h5⟩
  · refine ⟨.ob d (σ.c d) es 0 1, σ.new d ⟨es, [e], true, true⟩, ?_, .inr ⟨d, σ.c d, true, hd, rfl, by simp [new_m], by simp [new_c], by simp, fun _ => rfl⟩⟩
    simp only [evO, hsrc, Option.bind_some, hall, if_true, h1]
    rw [if_pos (by simpa using hb)]
    rfl
  · refine ⟨.ob d (σ.c d) es 0 (xs.length + 1), (σ.put o g (if kw then none else some ⟨es, xs, false, false⟩)).new d ⟨es, xs ++ [e], true, wr && kw⟩, ?_, .inr ⟨d, σ.c d, wr && kw, hd, by simp, by simp [new_m, put_c], by simp [new_c, put_c], by simp, fun h => ?_⟩⟩
    · simp only [evO, hsrc, Option.bind_some, hall, if_true, h1, h2]
      simp
      simpa using hb
    · simp only [Bool.and_eq_true] at h ⊢
      exact ⟨h5 h.1, h.2⟩
theorem s_gat {d t es by_ : Nat} {os : List Nat} {w kw : Bool} {x : PA} {xs : List PV} {e : PV} {ops : List POp} (hg : Gat σ os es w (fr t) xs) (hd : d ∈ os) (hsrc : srcOf σ es (pa fr x) = some [e]) (hok : okc e = true) (hl : (cellsOf e).length = es) (hb : (xs.length + 1) * by_ ≤ 70368744177664)
    (h2 : ∀ p σ', Gat σ' os es (w && kw) p (xs ++ [e]) → Wos env ops K (fr.set d p) σ') : Wos env (⟨some d, none, .app es by_ kw (.t t) x⟩ :: ops) K fr σ := by
  obtain ⟨p, σ', h3, h4⟩ := gat_app (E := EV env) (fr := fr) (s' := .t t) (x := x) (kw := kw) hg hd hsrc hok hl hb
  exact s_plain h3 (h2 p σ' h4)
theorem call_pure {f : Nat} {args as : List PV} {r : PV} (h1 : args.mapM (fz σ dep) = some as) (h2 : AV env f as = some r) : ∃ σ', callE (EV env) f .pure args σ = some (r, σ') := by
  simp only [callE, pcall_eq, h1, Option.bind_some, h2, Bool.false_eq_true, if_false]
  split
  · exact ⟨_, rfl⟩
  · exact ⟨_, rfl⟩
/-- A call of which only the answer matters. -/
theorem s_call {d f : Nat} {args : List PA} {as : List PV} {r : PV} {ops : List POp} (h1 : (args.map (pa fr)).mapM (fz σ dep) = some as) (h2 : AV env f as = some r) (h : ∀ σ', Wos env ops K (fr.set d r) σ') :
    Wos env (⟨some d, none, .call f .pure args⟩ :: ops) K fr σ := by
  obtain ⟨σ', h3⟩ := call_pure h1 h2
  exact s_plain (v := r) (σ' := σ') h3 (h σ')
theorem Gat.mono {os os' : List Nat} {es : Nat} {w : Bool} {p : PV} {xs : List PV} (h : Gat σ os es w p xs) (ho : ∀ o ∈ os, o ∈ os') : Gat σ os' es false p xs := by
  rcases h with h | ⟨o, g, wr, h0, h1, h2, h3, h4, _⟩
  · exact .inl h
  · exact .inr ⟨o, g, wr, ho o h0, h1, h2, h3, h4, fun h => by cases h⟩
/-- What stays, but for what lies at some places. -/
structure Keeps (σ σ' : St) (os : List Nat) : Prop where
  c : ∀ o, σ.c o ≤ σ'.c o
  m : ∀ o g, o ∉ os → g < σ.c o → σ'.m o g = σ.m o g
theorem Gat.keep {os os2 : List Nat} {es : Nat} {w : Bool} {p : PV} {xs : List PV} (h : Gat σ os es w p xs) (hk : Keeps σ σ' os2) (hd : ∀ o ∈ os, o ∉ os2) : Gat σ' os es w p xs := by
  rcases h with h | ⟨o, g, wr, h0, h1, h2, h3, h4⟩
  · exact .inl h
  · exact .inr ⟨o, g, wr, h0, h1, by rw [hk.m o g (hd o h0) h3]; exact h2, Nat.lt_of_lt_of_le h3 (hk.c o), h4⟩
theorem gat_appL {E : Ev} {d es by_ : Nat} {os : List Nat} {w kw : Bool} {s' x : PA} {xs ys : List PV} (hg : Gat σ os es w (pa fr s') xs) (hsrc : srcOf σ es (pa fr x) = some ys) (hall : (ys.all fun y => okc y && (cellsOf y).length == es) = true) (hb : (xs.length + ys.length) * by_ ≤ 70368744177664) :
    ∃ p σ', evO E d fr σ (.app es by_ kw s' x) = some (p, σ') ∧ Gat σ' [d] es (w && kw) p (xs ++ ys) ∧ Keeps σ σ' os := by
  rcases hg with ⟨h1, rfl⟩ | ⟨o, g, wr, h0, h1, h2, h3, h4, h5⟩
  · cases ys with
    | nil =>
      refine ⟨.em, σ, ?_, .em, ⟨fun _ => Nat.le_refl _, fun _ _ _ _ => rfl⟩⟩
      simp only [evO, hsrc, Option.bind_some, hall, if_true, h1]
      simp
    | cons y r =>
      refine ⟨.ob d (σ.c d) es 0 (y :: r).length, σ.new d ⟨es, y :: r, true, true⟩, ?_, .inr ⟨d, σ.c d, true, by simp, by simp, by simp [new_m], by simp [new_c], by simp, fun _ => rfl⟩, ⟨fun o => ?_, fun o g _ hlt => ?_⟩⟩
      · simp only [evO, hsrc, Option.bind_some, hall, if_true, h1]
        rw [if_pos (by simpa using hb)]
        rfl
      · simp only [new_c]; split
        · rename_i h; subst h; omega
        · exact Nat.le_refl _
      · simp only [new_m]; rw [if_neg (fun h => by obtain ⟨rfl, rfl⟩ := h; omega)]
  · refine ⟨.ob d (σ.c d) es 0 (xs.length + ys.length), (σ.put o g (if kw then none else some ⟨es, xs, false, false⟩)).new d ⟨es, xs ++ ys, true, wr && kw⟩, ?_, .inr ⟨d, σ.c d, wr && kw, by simp, by simp, by simp [new_m, put_c], by simp [new_c, put_c], by simp [h4], fun h => ?_⟩, ⟨fun o' => ?_, fun o' g' ho hlt => ?_⟩⟩
    · simp only [evO, hsrc, Option.bind_some, hall, if_true, h1, h2]
      simp
      simpa using hb
    · simp only [Bool.and_eq_true] at h ⊢
      exact ⟨h5 h.1, h.2⟩
    · simp only [new_c, put_c]; split
      · rename_i h; subst h; omega
      · exact Nat.le_refl _
    · simp only [new_m, put_m, put_c]
      have n1 : ¬ (o' = d ∧ g' = σ.c d) := fun h => by obtain ⟨rfl, rfl⟩ := h; omega
      have n2 : ¬ (o' = o ∧ g' = g) := fun h => ho (h.1 ▸ h0)
      simp only [n1, n2, if_false]
theorem s_gatL {d t es by_ : Nat} {os : List Nat} {w kw : Bool} {x : PA} {xs ys : List PV} {ops : List POp} (hg : Gat σ os es w (fr t) xs) (hsrc : srcOf σ es (pa fr x) = some ys) (hall : (ys.all fun y => okc y && (cellsOf y).length == es) = true) (hb : (xs.length + ys.length) * by_ ≤ 70368744177664)
    (h2 : ∀ p σ', Gat σ' [d] es (w && kw) p (xs ++ ys) → Keeps σ σ' os → Wos env ops K (fr.set d p) σ') : Wos env (⟨some d, none, .app es by_ kw (.t t) x⟩ :: ops) K fr σ := by
  obtain ⟨p, σ', h3, h4, h5⟩ := gat_appL (E := EV env) (d := d) (fr := fr) (s' := .t t) (x := x) (kw := kw) hg hsrc hall hb
  exact s_plain h3 (h2 p σ' h4 h5)
theorem gat_slc {os : List Nat} {es h l : Nat} {w : Bool} {p : PV} {xs : List PV} {lo hi : Option PA} (hg : Gat σ os es w p xs) (hh : hiOf xs.length fr hi = some h) (hl : loOf h fr lo = some l) (hle : h ≤ xs.length) (hll : l ≤ h) :
    ∃ q, slcLP es fr p lo hi = some q ∧ elemsOf σ q = some ((xs.take h).drop l) := by
  rcases hg with ⟨rfl, rfl⟩ | ⟨o, g, wr, h0, rfl, h2, h3, h4, h5⟩
  · refine ⟨.em, ?_, by simp [elemsOf]⟩
    simp only [slcLP]
    rw [show hiOf 0 fr hi = some h from hh]
    simp [hl]
  · refine ⟨.ob o g es (0 + l) (h - l), ?_, ?_⟩
    · simp only [slcLP, if_true, hh, Option.bind_some, hl]
    · simp only [elemsOf, h2]
      rw [if_pos ⟨trivial, by omega⟩]
      rw [List.drop_take]
      simp
theorem gat_len {os : List Nat} {es : Nat} {w : Bool} {p : PV} {xs : List PV} {E : Ev} {d t : Nat} (hg : Gat σ os es w p xs) (ht : fr t = p) : evO E d fr σ (.lenL (.t t)) = some (.sc (.int .i64 xs.length), σ) := by
  rcases hg with ⟨rfl, rfl⟩ | ⟨o, g, wr, h0, rfl, h2, h3, h4, h5⟩
  · simp [evO, pa, ht]
  · simp [evO, pa, ht]
theorem s_slc {d t es h l : Nat} {os : List Nat} {w : Bool} {xs : List PV} {lo hi : Option PA} {ops : List POp} (hg : Gat σ os es w (fr t) xs) (hh : hiOf xs.length fr hi = some h) (hl : loOf h fr lo = some l) (hle : h ≤ xs.length) (hll : l ≤ h)
    (h2 : ∀ q, elemsOf σ q = some ((xs.take h).drop l) → Wos env ops K (fr.set d q) σ) : Wos env (⟨some d, none, .slcL es (.t t) lo hi⟩ :: ops) K fr σ := by
  obtain ⟨q, h3, h4⟩ := gat_slc hg hh hl hle hll
  exact s_plain (v := q) (σ' := σ) (by simp only [evO, pa, h3, Option.map_some]) (h2 q h4)
theorem bound_nat {n i : Nat} {k : IntKind} (h : i ≤ n) : bound n (.sc (.int k (i : Int))) = some i := by
  simp only [bound]
  rw [if_pos (by omega)]
  rfl
theorem src_elems {es : Nat} {q : PV} {ys : List PV} (h : elemsOf σ q = some ys) : srcOf σ es q = some ys := by
  cases q with
  | sc v => simp [elemsOf] at h
  | _ => exact h
theorem gat_elems {os : List Nat} {es : Nat} {w : Bool} {p : PV} {xs : List PV} (hg : Gat σ os es w p xs) : elemsOf σ p = some xs := by
  rcases hg with ⟨rfl, rfl⟩ | ⟨o, g, wr, h0, rfl, h2, h3, h4, h5⟩
  · rfl
  · simp [elemsOf, h2]
theorem Gat.one {d es : Nat} {w : Bool} {p : PV} {xs : List PV} {os : List Nat} (h : Gat σ [d] es w p xs) (hd : d ∈ os) : Gat σ os es false p xs := h.mono (by intro o ho; simp at ho; subst ho; exact hd)
theorem gat_fzd {os : List Nat} {es d : Nat} {w : Bool} {p : PV} {xs : List PV} (h : Gat σ os es w p xs) (hx : xs.mapM (fz σ d) = some xs) : fz σ (d + 1) p = some (.sl xs) := by
  rcases h with ⟨rfl, rfl⟩ | ⟨o, g, wr, _, rfl, h2, _⟩
  · rfl
  · rw [fz_ob, h2]
    simp [hx]
/-- A call whose answer is no part of memory: nothing else changes. -/
theorem s_callF {d f : Nat} {args : List PA} {as : List PV} {r : PV} {ops : List POp} (h1 : (args.map (pa fr)).mapM (fz σ dep) = some as) (h2 : AV env f as = some r) (hf : flat r = true) (h : Wos env ops K (fr.set d r) σ) :
    Wos env (⟨some d, none, .call f .pure args⟩ :: ops) K fr σ := by
  refine s_plain (v := r) (σ' := σ) ?_ h
  simp only [evO, callE, pcall_eq, h1, Option.bind_some, h2, hf, Bool.true_or, if_true]
theorem Gat.lenP {os : List Nat} {es : Nat} {w : Bool} {p : PV} {xs : List PV} (h : Gat σ os es w p xs) : lenP p = some xs.length := by
  rcases h with ⟨rfl, rfl⟩ | ⟨o, g, wr, _, rfl, _⟩ <;> rfl
def cutS (n : Nat) (s : ByteArray) : ByteArray := s.extract 0 (min s.size n)
theorem mn2 (a b : Int) : mnmx false [.sc (.int .i64 a), .sc (.int .i64 b)] = some (.sc (.int .i64 (min a b))) := by
  simp only [mnmx, List.foldlM_cons, List.foldlM_nil, mn1, if_true, Bool.false_eq_true, if_false]
  have : (if b < a then b else a) = min a b := by
    rw [Int.min_def]; split <;> split <;> omega
  rw [this]; rfl
theorem slcS_cut (fr : Fr) (t n : Nat) (s : ByteArray) (h : fr t = .sc (.int .i64 (min (s.size : Int) (n : Int)))) : slcSP fr (.sc (.string s)) none (some (.t t)) = some (.sc (.string (cutS n s))) := by
  have e : min (s.size : Int) (n : Int) = ((min s.size n : Nat) : Int) := by omega
  simp only [slcSP, hiOf, pa, h, e, bound, loOf, Option.bind_some]
  have e2 : (0 : Int) ≤ ((min s.size n : Nat) : Int) ∧ ((min s.size n : Nat) : Int) ≤ (s.size : Int) := by omega
  rw [if_pos e2]
  rfl
theorem slcL_cut (fr : Fr) (t n es : Nat) (xs : List PV) (hx : xs.all (fun x => (cellsOf x).length == es) = true) (h : fr t = .sc (.int .i64 (min (xs.length : Int) (n : Int)))) : slcLP es fr (.sl xs) none (some (.t t)) = some (.sl (xs.take (min xs.length n))) := by
  have e : min (xs.length : Int) (n : Int) = ((min xs.length n : Nat) : Int) := by omega
  simp only [slcLP, hx, if_true, hiOf, pa, h, e, bound, loOf, Option.bind_some]
  have e2 : (0 : Int) ≤ ((min xs.length n : Nat) : Int) ∧ ((min xs.length n : Nat) : Int) ≤ (xs.length : Int) := by omega
  rw [if_pos e2]
  simp
end
end Go.Proofs.YtdlfomiclkpibaaDoorPv
namespace Go.Proofs.YtdlfomiclkpibaaDoorPv
open Go
set_option linter.unusedSimpArgs false
set_option linter.unusedVariables false
set_option maxHeartbeats 4000000
attribute [local go_sem ↓] e_mv e_pick e_bin e_eqs e_beq e_un e_cvi e_str e_s2b e_b2s e_box e_build e_bsl e_ld e_st e_nck e_mkf e_slcS e_slcL e_fa e_fld e_ia e_iaa e_ix e_ixa e_ext e_lenS e_lenL e_mnmx e_app e_appb e_bbx e_msl e_clr e_call e_callv pa_t pa_c pa_f slcSP_str hiOf_some hiOf_none loOf_some loOf_none set_eq set_ne
attribute [local go_sem] pv pv1 simple frOf_0 frOf_1 frOf_2 frOf_3 frOf_4 frOf_5 ne_eq not_false_eq_true if_true Bool.false_eq_true if_false pbin punary Option.map_some Option.bind_some pick_and pick_or opt_true Bool.true_and Bool.and_self Bool.and_true Bool.true_or Bool.false_or Bool.not_true Bool.not_false callE pcall_eq List.map_cons List.map_nil List.append_nil List.nil_append List.cons_append mapM_cons' mapM_nil' dep_eq fz_sc fz_sl fz_em fz_fn fz_fp fz_agg fz_tu fz_bx fz_ob Nat.lt_irrefl Nat.zero_lt_one Nat.lt_add_one flat clL cl Bool.or_true okc_sc okc_em okc_sl okc_ob okc_bx okc_fp okc_fn okc_agg okc_ifc cells_agg cells_sc cells_sl cells_em cells_ob cells_fn cells_bx cells_fp List.length_cons List.length_nil Nat.zero_add and_self true_and and_true new_m new_c put_m put_c nil_m nil_c deref List.getElem?_cons_zero List.getElem?_cons_succ List.drop_zero List.drop_succ_cons List.take_succ_cons List.take_zero Nat.le_refl false_and and_false decide_true decide_false lenP_em lenP_nil lenP_sl lenP_ob Int.ofNat_zero
set_option maxRecDepth 8000
/-- transhipment/transhipmentlaw06.few -/
def d7 : Def := (.code 1 [.tmp 2] (.seq (.rg false [⟨.some 2, .none, .mv (.c (.slice .none 0 0))⟩]) (.seq (.rg false [⟨.some 3, .none, .mv (.c (.slice .none 0 0))⟩]) (.seq (.seq (.rg false [⟨.some 11, .none, .mv (.t 0)⟩, ⟨.some 12, .none, .mv (.t 0)⟩, ⟨.some 13, .none, .lenL (.t 12)⟩, ⟨.some 14, .none, .mnmx false [.t 13, .c (.int .i64 66)]⟩, ⟨.some 15, .none, .slcL 3 (.t 11) .none (.some (.t 14))⟩, ⟨.some 16, .none, .lenL (.t 15)⟩, ⟨.some 17, .none, .mv (.c (.int .i64 0))⟩]) (.block 0 (.loop (.seq (.rg false [⟨.some 18, .none, .bin .lss (.t 17) (.t 16)⟩]) (.seq (.cond (.t 18) .skip (.exit 0)) (.seq (.block 1 (.seq (.rg false [⟨.some 19, .none, .ia 3 (.t 15) (.t 17)⟩, ⟨.some 20, .none, .ld (.some 3) (.t 19)⟩, ⟨.some 5, .none, .box (.c (.agg #[.string ⟨#[]⟩, .slice .none 0 0, .slice .none 0 0]))⟩, ⟨.none, .none, .st 3 (.t 5) (.t 20)⟩]) (.seq (.rg false [⟨.some 21, .none, .fa 0 (.t 5)⟩, ⟨.some 22, .none, .ld .none (.t 21)⟩, ⟨.some 23, .none, .fa 0 (.t 5)⟩, ⟨.some 24, .none, .ld .none (.t 23)⟩, ⟨.some 25, .none, .lenS (.t 24)⟩, ⟨.some 26, .none, .mnmx false [.t 25, .c (.int .i64 70)]⟩, ⟨.some 27, .none, .slcS (.t 22) .none (.some (.t 26))⟩, ⟨.some 28, .none, .build (.agg #[.string ⟨#[]⟩, .slice .none 0 0, .slice .none 0 0]) [(0, (1, .t 27))]⟩, ⟨.some 6, .none, .box (.c (.agg #[.string ⟨#[]⟩, .slice .none 0 0, .slice .none 0 0]))⟩, ⟨.none, .none, .st 3 (.t 6) (.t 28)⟩]) (.seq (.seq (.rg false [⟨.some 29, .none, .fa 1 (.t 5)⟩, ⟨.some 30, .none, .ld .none (.t 29)⟩, ⟨.some 31, .none, .fa 1 (.t 5)⟩, ⟨.some 32, .none, .ld .none (.t 31)⟩, ⟨.some 33, .none, .lenL (.t 32)⟩, ⟨.some 34, .none, .mnmx false [.t 33, .c (.int .i64 66)]⟩, ⟨.some 35, .none, .slcL 1 (.t 30) .none (.some (.t 34))⟩, ⟨.some 36, .none, .lenL (.t 35)⟩, ⟨.some 37, .none, .mv (.c (.int .i64 0))⟩]) (.block 2 (.loop (.seq (.rg false [⟨.some 38, .none, .bin .lss (.t 37) (.t 36)⟩]) (.seq (.cond (.t 38) .skip (.exit 2)) (.seq (.block 3 (.seq (.rg false [⟨.some 39, .none, .ia 1 (.t 35) (.t 37)⟩, ⟨.some 40, .none, .ld .none (.t 39)⟩, ⟨.some 8, .none, .mv (.t 40)⟩]) (.rg true [⟨.some 41, .none, .fa 1 (.t 6)⟩, ⟨.some 42, .none, .ld .none (.t 41)⟩, ⟨.some 43, .none, .mv (.t 8)⟩, ⟨.some 44, .none, .mv (.t 8)⟩, ⟨.some 45, .none, .lenS (.t 44)⟩, ⟨.some 46, .none, .mnmx false [.t 45, .c (.int .i64 70)]⟩, ⟨.some 47, .none, .slcS (.t 43) .none (.some (.t 46))⟩, ⟨.some 48, .none, .bsl 1 (.string ⟨#[]⟩) 1 [(0, .t 47)]⟩, ⟨.some 49, .none, .app 1 16 false (.t 42) (.t 48)⟩, ⟨.some 50, .none, .fa 1 (.t 6)⟩, ⟨.none, .none, .st 1 (.t 50) (.t 49)⟩]))) (.rg false [⟨.some 51, .none, .bin .add (.t 37) (.c (.int .i64 1))⟩, ⟨.some 37, .none, .mv (.t 51)⟩]))))))) (.seq (.seq (.rg false [⟨.some 52, .none, .fa 2 (.t 5)⟩, ⟨.some 53, .none, .ld .none (.t 52)⟩, ⟨.some 54, .none, .fa 2 (.t 5)⟩, ⟨.some 55, .none, .ld .none (.t 54)⟩, ⟨.some 56, .none, .lenL (.t 55)⟩, ⟨.some 57, .none, .mnmx false [.t 56, .c (.int .i64 66)]⟩, ⟨.some 58, .none, .slcL 1 (.t 53) .none (.some (.t 57))⟩, ⟨.some 59, .none, .lenL (.t 58)⟩, ⟨.some 60, .none, .mv (.c (.int .i64 0))⟩]) (.block 4 (.loop (.seq (.rg false [⟨.some 61, .none, .bin .lss (.t 60) (.t 59)⟩]) (.seq (.cond (.t 61) .skip (.exit 4)) (.seq (.block 5 (.seq (.rg false [⟨.some 62, .none, .ia 1 (.t 58) (.t 60)⟩, ⟨.some 63, .none, .ld .none (.t 62)⟩, ⟨.some 10, .none, .mv (.t 63)⟩]) (.rg true [⟨.some 64, .none, .fa 2 (.t 6)⟩, ⟨.some 65, .none, .ld .none (.t 64)⟩, ⟨.some 66, .none, .mv (.t 10)⟩, ⟨.some 67, .none, .mv (.t 10)⟩, ⟨.some 68, .none, .lenS (.t 67)⟩, ⟨.some 69, .none, .mnmx false [.t 68, .c (.int .i64 205)]⟩, ⟨.some 70, .none, .slcS (.t 66) .none (.some (.t 69))⟩, ⟨.some 71, .none, .bsl 1 (.string ⟨#[]⟩) 1 [(0, .t 70)]⟩, ⟨.some 72, .none, .app 1 16 false (.t 65) (.t 71)⟩, ⟨.some 73, .none, .fa 2 (.t 6)⟩, ⟨.none, .none, .st 1 (.t 73) (.t 72)⟩]))) (.rg false [⟨.some 74, .none, .bin .add (.t 60) (.c (.int .i64 1))⟩, ⟨.some 60, .none, .mv (.t 74)⟩]))))))) (.rg false [⟨.some 75, .none, .mv (.t 3)⟩, ⟨.some 76, .none, .ld (.some 3) (.t 6)⟩, ⟨.some 77, .none, .bsl 3 (.agg #[.string ⟨#[]⟩, .slice .none 0 0, .slice .none 0 0]) 1 [(0, .t 76)]⟩, ⟨.some 78, .none, .app 3 64 false (.t 75) (.t 77)⟩, ⟨.some 3, .none, .mv (.t 78)⟩])))))) (.rg false [⟨.some 79, .none, .bin .add (.t 17) (.c (.int .i64 1))⟩, ⟨.some 17, .none, .mv (.t 79)⟩]))))))) (.seq (.rg false [⟨.some 80, .none, .mv (.t 3)⟩, ⟨.some 2, .none, .mv (.t 80)⟩]) .ret)))))
def ldk : List (Nat × Def) := [(7, d7)]
section
variable {env : Nat → Option Def} {fr : Fr} {σ σ' σ'' : St} {K : Fr → St → Prop} {Q : X → Fr → St → Prop} {p : PV} {bs : List UInt8}
/-- What is appended to what one gathered oneself: all else stays. -/
theorem gat_appS {E : Ev} {d es by_ : Nat} {s' x : PA} {xs : List PV} {e : PV} (hg : Gat σ [d] es false (pa fr s') xs) (hF : Fresh σ) (hsrc : srcOf σ es (pa fr x) = some [e]) (hok : okc e = true) (hl : (cellsOf e).length = es) (hb : (xs.length + 1) * by_ ≤ 70368744177664) :
    ∃ p σ', evO E d fr σ (.app es by_ false s' x) = some (p, σ') ∧ Gat σ' [d] es false p (xs ++ [e]) ∧ SubS σ σ' ∧ Fresh σ' ∧ (∀ o g, o ≠ d → σ'.m o g = σ.m o g) ∧ (∀ o, o ≠ d → σ'.c o = σ.c o) := by
  have hall : ([e].all fun y => okc y && (cellsOf y).length == es) = true := by simp [hok, hl]
  rcases hg with ⟨h1, rfl⟩ | ⟨o, g, wr, h0, h1, h2, h3, h4, h5⟩
  · refine ⟨.ob d (σ.c d) es 0 1, σ.new d ⟨es, [e], true, true⟩, ?_, .inr ⟨d, σ.c d, true, by simp, rfl, by simp [new_m], by simp [new_c], by simp, fun _ => rfl⟩, (SubS.refl σ).new hF _ _, hF.new _ _, fun o g ho => ?_, fun o ho => ?_⟩
    · simp only [evO, hsrc, Option.bind_some, hall, if_true, h1]
      rw [if_pos (by simpa using hb)]
      rfl
    · simp only [new_m]; rw [if_neg (fun h => ho h.1)]
    · simp only [new_c]; rw [if_neg (fun h => ho h)]
  · simp only [List.mem_singleton] at h0
    subst h0
    refine ⟨.ob o (σ.c o) es 0 (xs.length + 1), (σ.put o g (some ⟨es, xs, false, false⟩)).new o ⟨es, xs ++ [e], true, false⟩, ?_, .inr ⟨o, σ.c o, false, by simp, by simp, by simp [new_m, put_c], by simp [new_c, put_c], by simp, fun h => by cases h⟩,
      ((SubS.refl σ).same (y := ⟨es, xs, false, false⟩) h2 rfl rfl).new (hF.put h2 _) _ _, (hF.put h2 _).new _ _, fun o' g' ho => ?_, fun o' ho => ?_⟩
    · simp only [evO, hsrc, Option.bind_some, hall, if_true, h1, h2]
      simp
      simpa using hb
    · simp only [new_m, put_m]; rw [if_neg (fun h => ho h.1), if_neg (fun h => ho h.1)]
    · simp only [new_c, put_c]; rw [if_neg (fun h => ho h)]
theorem s_gatS {d t es by_ : Nat} {x : PA} {xs : List PV} {e : PV} {ops : List POp} (hg : Gat σ [d] es false (fr t) xs) (hF : Fresh σ) (hsrc : srcOf σ es (pa fr x) = some [e]) (hok : okc e = true) (hl : (cellsOf e).length = es) (hb : (xs.length + 1) * by_ ≤ 70368744177664)
    (h2 : ∀ p σ', Gat σ' [d] es false p (xs ++ [e]) → SubS σ σ' → Fresh σ' → (∀ o g, o ≠ d → σ'.m o g = σ.m o g) → (∀ o, o ≠ d → σ'.c o = σ.c o) → Wos env ops K (fr.set d p) σ') : Wos env (⟨some d, none, .app es by_ false (.t t) x⟩ :: ops) K fr σ := by
  obtain ⟨p, σ', h3, h4, h5, h6, h7, h8⟩ := gat_appS (E := EV env) (fr := fr) (s' := .t t) (x := x) hg hF hsrc hok hl hb
  exact s_plain h3 (h2 p σ' h4 h5 h6 h7 h8)
theorem Gat.ok {os : List Nat} {es : Nat} {w : Bool} {xs : List PV} (h : Gat σ os es w p xs) : cellsOf p = [p] ∧ okc p = true := by
  rcases h with ⟨rfl, _⟩ | ⟨o, g, wr, _, rfl, _⟩ <;> exact ⟨rfl, rfl⟩
theorem Gat.same {o : Nat} {es : Nat} {w : Bool} {xs : List PV} (h : Gat σ [o] es w p xs) (hm : ∀ g, g < σ.c o → σ'.m o g = σ.m o g) (hc : σ.c o ≤ σ'.c o) : Gat σ' [o] es w p xs := by
  rcases h with h | ⟨o', g, wr, h0, h1, h2, h3, h4⟩
  · exact .inl h
  · simp only [List.mem_singleton] at h0
    subst h0
    exact .inr ⟨o', g, wr, by simp, h1, by rw [hm g h3]; exact h2, Nat.lt_of_lt_of_le h3 hc, h4⟩
theorem gat_rd {o d : Nat} {es : Nat} {w : Bool} {xs ys : List PV} (h : Gat σ [o] es w p xs) (ho : o < 2000000) (hx : xs.mapM (rd σ d) = some ys) : rd σ (d + 1) p = some (.sl ys) := by
  rcases h with ⟨rfl, rfl⟩ | ⟨o', g, wr, h0, rfl, h2, h3, h4⟩
  · simp only [List.mapM_nil] at hx
    cases hx
    rfl
  · simp only [List.mem_singleton] at h0
    subst h0
    simp only [rd, h2]
    rw [if_pos ho, if_pos ⟨trivial, by omega⟩, List.drop_zero, List.take_length, hx]
    rfl
theorem txts_rd (σ : St) (d : Nat) (l : List (List UInt8)) : (txts l).mapM (rd σ (d + 1)) = some (txts l) := by
  induction l with
  | nil => rfl
  | cons m r ih =>
    show List.mapM (rd σ (d + 1)) (txt m :: txts r) = _
    rw [mapM_cons', ih]
    rfl
theorem mapM_snoc {α β : Type} {f : α → Option β} {xs : List α} {x : α} {ys : List β} {y : β} (h1 : xs.mapM f = some ys) (h2 : f x = some y) : (xs ++ [x]).mapM f = some (ys ++ [y]) := by
  rw [List.mapM_append, h1]
  simp [h2]
/-- The blocks that one gathered so far, nobody else's. -/
structure Fw (σ : St) (s : Nat) (p : PV) (l : List Df) : Prop where
  f : Fresh σ
  g : ∃ xs, Gat σ [s] 3 false p xs ∧ xs.length = l.length ∧ xs.mapM (rd σ 3) = some (dfs l)
theorem Fw.step {s : Nat} {l : List Df} (h : Fw σ s p l) (hs : SubS σ σ') (hF : Fresh σ') (hm : ∀ g, g < σ.c s → σ'.m s g = σ.m s g) (hc : σ.c s ≤ σ'.c s) : Fw σ' s p l := by
  obtain ⟨hf, xs, h1, h2, h3⟩ := h
  exact ⟨hF, xs, h1.same hm hc, h2, mapM_imp (rd_sub hs 3) h3⟩
theorem Fw.new {s : Nat} {l : List Df} (h : Fw σ s p l) (o : Nat) (y : Obj) : Fw (σ.new o y) s p l :=
  h.step ((SubS.refl σ).new h.f _ _) (h.f.new _ _) (fun g hg => by simp only [new_m]; rw [if_neg (fun h => by obtain ⟨rfl, rfl⟩ := h; omega)]) (new_c_le _ _ _ _)
theorem Fw.put {s : Nat} {l : List Df} (h : Fw σ s p l) {o g : Nat} {x : Obj} (ho : 2000000 ≤ o) (hs : s < 2000000) (hm : σ.m o g = some x) (y : Option Obj) : Fw (σ.put o g y) s p l :=
  h.step ((SubS.refl σ).box ho y) (h.f.put hm y) (fun g' _ => by simp only [put_m]; rw [if_neg (fun h => by omega)]) (Nat.le_refl _)
def cutB (n : Nat) (s : List UInt8) : List UInt8 := s.take n
def fewD (d : Df) : Df := ⟨d.ty.take 70, (d.ks.take 66).map (List.take 70), (d.vs.take 66).map (List.take 205)⟩
def fewB (l : List Df) : List Df := (l.take 66).map fewD
end
end Go.Proofs.YtdlfomiclkpibaaDoorPv
namespace Go.Proofs.YtdlfomiclkpibaaDoorPv
open Go
set_option linter.unusedSimpArgs false
set_option linter.unusedVariables false
set_option maxHeartbeats 4000000
attribute [local go_sem ↓] e_mv e_pick e_bin e_eqs e_beq e_un e_cvi e_str e_s2b e_b2s e_box e_build e_bsl e_ld e_st e_nck e_mkf e_slcS e_slcL e_fa e_fld e_ia e_iaa e_ix e_ixa e_ext e_lenS e_lenL e_mnmx e_app e_appb e_bbx e_msl e_clr e_call e_callv pa_t pa_c pa_f slcSP_str hiOf_some hiOf_none loOf_some loOf_none set_eq set_ne
attribute [local go_sem] pv pv1 simple frOf_0 frOf_1 frOf_2 frOf_3 frOf_4 frOf_5 ne_eq not_false_eq_true if_true Bool.false_eq_true if_false pbin punary Option.map_some Option.bind_some pick_and pick_or opt_true Bool.true_and Bool.and_self Bool.and_true Bool.true_or Bool.false_or Bool.not_true Bool.not_false callE pcall_eq List.map_cons List.map_nil List.append_nil List.nil_append List.cons_append mapM_cons' mapM_nil' dep_eq fz_sc fz_sl fz_em fz_fn fz_fp fz_agg fz_tu fz_bx fz_ob Nat.lt_irrefl Nat.zero_lt_one Nat.lt_add_one flat clL cl Bool.or_true okc_sc okc_em okc_sl okc_ob okc_bx okc_fp okc_fn okc_agg okc_ifc cells_agg cells_sc cells_sl cells_em cells_ob cells_fn cells_bx cells_fp List.length_cons List.length_nil Nat.zero_add and_self true_and and_true new_m new_c put_m put_c nil_m nil_c deref List.getElem?_cons_zero List.getElem?_cons_succ List.drop_zero List.drop_succ_cons List.take_succ_cons List.take_zero Nat.le_refl false_and and_false decide_true decide_false lenP_em lenP_nil lenP_sl lenP_ob Int.ofNat_zero
set_option maxRecDepth 8000
section
variable {env : Nat → Option Def} {fr : Fr} {σ σ' σ'' : St} {K : Fr → St → Prop} {Q : X → Fr → St → Prop} {p : PV} {bs : List UInt8}
theorem dfs_all (l : List Df) : (dfs l).all (fun x => (cellsOf x).length == 3) = true := by
  rw [List.all_eq_true]
  intro x hx
  simp only [dfs, List.mem_map] at hx
  obtain ⟨m, _, rfl⟩ := hx
  rfl
theorem dfs_cut (l : List Df) (n : Nat) : (dfs l).take (min l.length n) = dfs (l.take n) := by
  unfold dfs
  rw [← List.map_take]
  congr 1
  by_cases h : l.length ≤ n
  · rw [Nat.min_eq_left h, List.take_length, List.take_of_length_le h]
  · rw [Nat.min_eq_right (by omega)]
theorem txts_cut (l : List (List UInt8)) (n : Nat) : (txts l).take (min l.length n) = txts (l.take n) := by
  unfold txts
  rw [← List.map_take]
  congr 1
  by_cases h : l.length ≤ n
  · rw [Nat.min_eq_left h, List.take_length, List.take_of_length_le h]
  · rw [Nat.min_eq_right (by omega)]
theorem u8_cut (l : List UInt8) (n : Nat) : l.take (min l.length n) = l.take n := by
  by_cases h : l.length ≤ n
  · rw [Nat.min_eq_left h, List.take_length, List.take_of_length_le h]
  · rw [Nat.min_eq_right (by omega)]
theorem Fw.newput {s : Nat} {l : List Df} (h : Fw σ s p l) {o : Nat} (ho : 2000000 ≤ o) (hs : s < 2000000) (y z : Obj) : Fw ((σ.new o y).put o (σ.c o) (some z)) s p l :=
  (h.new o y).put ho hs (x := y) (by simp only [new_m]; rw [if_pos ⟨trivial, trivial⟩]) _
theorem a7 (H : Has ldk env) {l : List Df} (hl : l.length ≤ 9223372036854775807) : AV env 7 [.sl (dfs l)] = some (.sl (dfs (fewB l))) := by
  have hln := dfs_len l
  have b66 : ∀ (n : Nat) (k : IntKind), bound n (.sc (.int k (min (n : Int) 66))) = some (min n 66) := fun n k => bound_min rfl
  have b70 : ∀ (n : Nat) (k : IntKind), bound n (.sc (.int k (min (n : Int) 70))) = some (min n 70) := fun n k => bound_min rfl
  have b205 : ∀ (n : Nat) (k : IntKind), bound n (.sc (.int k (min (n : Int) 205))) = some (min n 205) := fun n k => bound_min rfl
  have hall := dfs_all l
  have hct := dfs_cut l 66
  refine AV_wp (H (7, d7) (by simp [ldk])) rfl ?_
  (repeat' first
    | refine w_seq ?_ | refine w_rg ?_ | refine wo_nil ?_ | refine g_skU ?_
    | ((first | apply s_plain | apply s_void | apply s_guard); · simp only [go_sem, Nat.reduceEqDiff, Nat.reduceAdd, Nat.reduceLeDiff, hln, mn2, slcLP_sl, hall, b66, hct, List.drop_zero]; (first | done | rfl))
    | ((first | apply g_T | apply g_F); · intro hb; simp only [go_sem, Nat.reduceEqDiff, Nat.reduceAdd, Nat.reduceLeDiff, hln, mn2, slcLP_sl, hall, b66, hct, List.drop_zero, hb]; (first | done | rfl))
    | ((first | apply g_gT | apply g_gF); · intro hb hc; simp only [go_sem, Nat.reduceEqDiff, Nat.reduceAdd, Nat.reduceLeDiff, hln, mn2, slcLP_sl, hall, b66, hct, List.drop_zero, hb, hc]; (first | done | rfl))
    | refine g_skT ?_ | refine g_skF ?_
    | ((first | apply g_goT | apply g_goF); · simp only [go_sem, Nat.reduceEqDiff, Nat.reduceAdd, Nat.reduceLeDiff, hln, mn2, slcLP_sl, hall, b66, hct, List.drop_zero]; (first | done | rfl))
    )
  have hL : (l.take 66).length ≤ 66 := by rw [List.length_take]; omega
  have hfb : fewB l = (l.take 66).map fewD := rfl
  rw [hfb]
  generalize l.take 66 = L at hL
  have hLn := dfs_len L
  refine w_block (w_rangeF (tc := 18) (ti := 17) (tn := 16) (tk := 79) L.length (by omega) (fun i fr σ => Fw σ 78 (fr 3) ((L.take i).map fewD)) ⟨by decide, rfl, rfl⟩ (fun i fr σ v h => ⟨by simp only [go_sem, Nat.reduceEqDiff, Nat.reduceAdd, Nat.reduceLeDiff]; exact h, by simp only [go_sem, Nat.reduceEqDiff, Nat.reduceAdd, Nat.reduceLeDiff]; exact h, by simp only [go_sem, Nat.reduceEqDiff, Nat.reduceAdd, Nat.reduceLeDiff]; exact h⟩) (by simp only [go_sem, Nat.reduceEqDiff, Nat.reduceAdd, Nat.reduceLeDiff]; exact ⟨Fresh.nil, [], .em, rfl, rfl⟩) (by simp only [go_sem, Nat.reduceEqDiff, Nat.reduceAdd, Nat.reduceLeDiff]; first | done | rfl) (by simp only [go_sem, Nat.reduceEqDiff, Nat.reduceAdd, Nat.reduceLeDiff, hLn]; first | done | rfl) ?_ ?_)
  · rintro i fr1 σ1 hi hw hti hfr
    have f0_15 := hfr 15 rfl; have f0_16 := hfr 16 rfl; try (simp only [go_sem, Nat.reduceEqDiff, Nat.reduceAdd, Nat.reduceLeDiff] at f0_15); try (simp only [go_sem, Nat.reduceEqDiff, Nat.reduceAdd, Nat.reduceLeDiff] at f0_16)
    have hqd := List.getElem?_eq_getElem hi
    have hx := dfs_at hqd
    have e1 : (0 : Int) ≤ (i : Int) ∧ (i : Int) < (L.length : Int) := by omega
    have hnext : (L.take (i + 1)).map fewD = (L.take i).map fewD ++ [fewD L[i]] := by rw [← List.take_append_getElem hi, List.map_append]; rfl
    generalize hd : L[i] = d at hx hnext
    have hll := txts_len d.ks
    have hlv := txts_len d.vs
    have ak := txts_all d.ks
    have av := txts_all d.vs
    have ck := txts_cut d.ks 66
    have cv := txts_cut d.vs 66
    have ct := u8_cut d.ty 70
    unfold df at hx
    refine w_block ?_
    (repeat' first
    | refine w_seq ?_ | refine w_rg ?_ | refine wo_nil ?_ | refine g_skU ?_
    | ((first | apply s_plain | apply s_void | apply s_guard); · simp only [go_sem, Nat.reduceEqDiff, Nat.reduceAdd, Nat.reduceLeDiff, f0_15, f0_16, hti, e1, hLn, Int.toNat_natCast, hx, hll, mn2, slcLP_sl, ak, b66, b70, ck, ct, List.drop_zero, ba_data, ba_size, ba_toList, ba_extract, ba_append, List.toList_toArray, splice, fillP, fillE, List.modify_zero_cons, List.replicate_succ, List.replicate_zero, List.set_cons_zero, List.drop_zero]; (first | done | rfl))
    | ((first | apply g_T | apply g_F); · intro hb; simp only [go_sem, Nat.reduceEqDiff, Nat.reduceAdd, Nat.reduceLeDiff, f0_15, f0_16, hti, e1, hLn, Int.toNat_natCast, hx, hll, mn2, slcLP_sl, ak, b66, b70, ck, ct, List.drop_zero, ba_data, ba_size, ba_toList, ba_extract, ba_append, List.toList_toArray, splice, fillP, fillE, List.modify_zero_cons, List.replicate_succ, List.replicate_zero, List.set_cons_zero, List.drop_zero, hb]; (first | done | rfl))
    | ((first | apply g_gT | apply g_gF); · intro hb hc; simp only [go_sem, Nat.reduceEqDiff, Nat.reduceAdd, Nat.reduceLeDiff, f0_15, f0_16, hti, e1, hLn, Int.toNat_natCast, hx, hll, mn2, slcLP_sl, ak, b66, b70, ck, ct, List.drop_zero, ba_data, ba_size, ba_toList, ba_extract, ba_append, List.toList_toArray, splice, fillP, fillE, List.modify_zero_cons, List.replicate_succ, List.replicate_zero, List.set_cons_zero, List.drop_zero, hb, hc]; (first | done | rfl))
    | refine g_skT ?_ | refine g_skF ?_
    | ((first | apply g_goT | apply g_goF); · simp only [go_sem, Nat.reduceEqDiff, Nat.reduceAdd, Nat.reduceLeDiff, f0_15, f0_16, hti, e1, hLn, Int.toNat_natCast, hx, hll, mn2, slcLP_sl, ak, b66, b70, ck, ct, List.drop_zero, ba_data, ba_size, ba_toList, ba_extract, ba_append, List.toList_toArray, splice, fillP, fillE, List.modify_zero_cons, List.replicate_succ, List.replicate_zero, List.set_cons_zero, List.drop_zero]; (first | done | rfl))
    )
    generalize hks : d.ks.take 66 = ks at ck
    have hkl : ks.length ≤ 66 := by rw [← hks, List.length_take]; omega
    have hkn := txts_len ks
    have hw0 := (hw.newput (o := 2000005) (by decide) (by decide) ⟨3, [.agg [.sc (.string ⟨#[]⟩), .em, .em]], true, true⟩ ⟨3, [df d], true, true⟩).newput (o := 2000006) (by decide) (by decide) ⟨3, [.agg [.sc (.string ⟨#[]⟩), .em, .em]], true, true⟩ ⟨3, [.agg [txt (d.ty.take 70), .em, .em]], true, true⟩
    refine w_block (w_rangeF (tc := 38) (ti := 37) (tn := 36) (tk := 51) ks.length (by omega) (fun j fr σ => Fw σ 78 (fr1 3) ((L.take i).map fewD) ∧ σ.m 2000005 (σ1.c 2000005) = some ⟨3, [df d], true, true⟩ ∧ ∃ pk, σ.m 2000006 (σ1.c 2000006) = some ⟨3, [.agg [txt (d.ty.take 70), pk, .em]], true, true⟩ ∧ Gat σ [49] 1 false pk (txts ((ks.take j).map (List.take 70)))) ⟨by decide, rfl, rfl⟩ (fun _ _ _ _ h => ⟨h, h, h⟩) ⟨hw0, by simp only [go_sem, Nat.reduceEqDiff, Nat.reduceAdd, Nat.reduceLeDiff]; rfl, .em, by simp only [go_sem, Nat.reduceEqDiff, Nat.reduceAdd, Nat.reduceLeDiff, splice, fillP, fillE, List.modify_zero_cons, List.replicate_succ, List.replicate_zero, List.set_cons_zero, List.drop_zero], .em⟩ (by simp only [go_sem, Nat.reduceEqDiff, Nat.reduceAdd, Nat.reduceLeDiff]; first | done | rfl) (by simp only [go_sem, Nat.reduceEqDiff, Nat.reduceAdd, Nat.reduceLeDiff, hkn]; first | done | rfl) ?_ ?_)
    · rintro j fr2 σ2 hj ⟨hw2, hm5, pk, hm6, hg⟩ gti hfr
      have e1_2 := hfr 2 rfl; have e1_3 := hfr 3 rfl; have e1_5 := hfr 5 rfl; have e1_6 := hfr 6 rfl; have e1_15 := hfr 15 rfl; have e1_16 := hfr 16 rfl; have e1_17 := hfr 17 rfl; have e1_18 := hfr 18 rfl; have e1_19 := hfr 19 rfl; have e1_20 := hfr 20 rfl; have e1_21 := hfr 21 rfl; have e1_22 := hfr 22 rfl; have e1_23 := hfr 23 rfl; have e1_24 := hfr 24 rfl; have e1_25 := hfr 25 rfl; have e1_26 := hfr 26 rfl; have e1_27 := hfr 27 rfl; have e1_28 := hfr 28 rfl; have e1_29 := hfr 29 rfl; have e1_30 := hfr 30 rfl; have e1_31 := hfr 31 rfl; have e1_32 := hfr 32 rfl; have e1_33 := hfr 33 rfl; have e1_34 := hfr 34 rfl; have e1_35 := hfr 35 rfl; have e1_36 := hfr 36 rfl; try (simp only [go_sem, Nat.reduceEqDiff, Nat.reduceAdd, Nat.reduceLeDiff] at e1_2); try (simp only [go_sem, Nat.reduceEqDiff, Nat.reduceAdd, Nat.reduceLeDiff] at e1_3); try (simp only [go_sem, Nat.reduceEqDiff, Nat.reduceAdd, Nat.reduceLeDiff] at e1_5); try (simp only [go_sem, Nat.reduceEqDiff, Nat.reduceAdd, Nat.reduceLeDiff] at e1_6); try (simp only [go_sem, Nat.reduceEqDiff, Nat.reduceAdd, Nat.reduceLeDiff] at e1_15); try (simp only [go_sem, Nat.reduceEqDiff, Nat.reduceAdd, Nat.reduceLeDiff] at e1_16); try (simp only [go_sem, Nat.reduceEqDiff, Nat.reduceAdd, Nat.reduceLeDiff] at e1_17); try (simp only [go_sem, Nat.reduceEqDiff, Nat.reduceAdd, Nat.reduceLeDiff] at e1_18); try (simp only [go_sem, Nat.reduceEqDiff, Nat.reduceAdd, Nat.reduceLeDiff] at e1_19); try (simp only [go_sem, Nat.reduceEqDiff, Nat.reduceAdd, Nat.reduceLeDiff] at e1_20); try (simp only [go_sem, Nat.reduceEqDiff, Nat.reduceAdd, Nat.reduceLeDiff] at e1_21); try (simp only [go_sem, Nat.reduceEqDiff, Nat.reduceAdd, Nat.reduceLeDiff] at e1_22); try (simp only [go_sem, Nat.reduceEqDiff, Nat.reduceAdd, Nat.reduceLeDiff] at e1_23); try (simp only [go_sem, Nat.reduceEqDiff, Nat.reduceAdd, Nat.reduceLeDiff] at e1_24); try (simp only [go_sem, Nat.reduceEqDiff, Nat.reduceAdd, Nat.reduceLeDiff] at e1_25); try (simp only [go_sem, Nat.reduceEqDiff, Nat.reduceAdd, Nat.reduceLeDiff] at e1_26); try (simp only [go_sem, Nat.reduceEqDiff, Nat.reduceAdd, Nat.reduceLeDiff] at e1_27); try (simp only [go_sem, Nat.reduceEqDiff, Nat.reduceAdd, Nat.reduceLeDiff] at e1_28); try (simp only [go_sem, Nat.reduceEqDiff, Nat.reduceAdd, Nat.reduceLeDiff] at e1_29); try (simp only [go_sem, Nat.reduceEqDiff, Nat.reduceAdd, Nat.reduceLeDiff] at e1_30); try (simp only [go_sem, Nat.reduceEqDiff, Nat.reduceAdd, Nat.reduceLeDiff] at e1_31); try (simp only [go_sem, Nat.reduceEqDiff, Nat.reduceAdd, Nat.reduceLeDiff] at e1_32); try (simp only [go_sem, Nat.reduceEqDiff, Nat.reduceAdd, Nat.reduceLeDiff] at e1_33); try (simp only [go_sem, Nat.reduceEqDiff, Nat.reduceAdd, Nat.reduceLeDiff] at e1_34); try (simp only [go_sem, Nat.reduceEqDiff, Nat.reduceAdd, Nat.reduceLeDiff] at e1_35); try (simp only [go_sem, Nat.reduceEqDiff, Nat.reduceAdd, Nat.reduceLeDiff] at e1_36)
      have z6 : fr2 6 = .bx 2000006 (σ1.c 2000006) 3 0 0 := by rw [hfr 6 rfl]; simp only [go_sem, Nat.reduceEqDiff, Nat.reduceAdd, Nat.reduceLeDiff]
      have hqk := List.getElem?_eq_getElem hj
      have hxk := txts_at hqk
      have f1 : (0 : Int) ≤ (j : Int) ∧ (j : Int) < (ks.length : Int) := by omega
      have ct2 := u8_cut ks[j] 70
      have hnx : (ks.take (j + 1)).map (List.take 70) = (ks.take j).map (List.take 70) ++ [ks[j].take 70] := by rw [← List.take_append_getElem hj, List.map_append]; rfl
      have hlj : ((ks.take j).map (List.take 70)).length = j := by rw [List.length_map, List.length_take]; omega
      refine w_block ?_
      (repeat' first
    | refine w_seq ?_ | refine w_rg ?_ | refine wo_nil ?_ | refine g_skU ?_
    | ((first | apply s_plain | apply s_void | apply s_guard); · simp only [go_sem, Nat.reduceEqDiff, Nat.reduceAdd, Nat.reduceLeDiff, e1_2, e1_3, e1_5, e1_6, e1_15, e1_16, e1_17, e1_18, e1_19, e1_20, e1_21, e1_22, e1_23, e1_24, e1_25, e1_26, e1_27, e1_28, e1_29, e1_30, e1_31, e1_32, e1_33, e1_34, e1_35, e1_36, z6, gti, f1, hkn, Int.toNat_natCast, hxk, hm6, mn2, b70, ct2, ba_data, ba_size, ba_toList, ba_extract, ba_append, List.toList_toArray, splice, fillP, fillE, List.modify_zero_cons, List.replicate_succ, List.replicate_zero, List.set_cons_zero, List.drop_zero]; (first | done | rfl))
    | ((first | apply g_T | apply g_F); · intro hb; simp only [go_sem, Nat.reduceEqDiff, Nat.reduceAdd, Nat.reduceLeDiff, e1_2, e1_3, e1_5, e1_6, e1_15, e1_16, e1_17, e1_18, e1_19, e1_20, e1_21, e1_22, e1_23, e1_24, e1_25, e1_26, e1_27, e1_28, e1_29, e1_30, e1_31, e1_32, e1_33, e1_34, e1_35, e1_36, z6, gti, f1, hkn, Int.toNat_natCast, hxk, hm6, mn2, b70, ct2, ba_data, ba_size, ba_toList, ba_extract, ba_append, List.toList_toArray, splice, fillP, fillE, List.modify_zero_cons, List.replicate_succ, List.replicate_zero, List.set_cons_zero, List.drop_zero, hb]; (first | done | rfl))
    | ((first | apply g_gT | apply g_gF); · intro hb hc; simp only [go_sem, Nat.reduceEqDiff, Nat.reduceAdd, Nat.reduceLeDiff, e1_2, e1_3, e1_5, e1_6, e1_15, e1_16, e1_17, e1_18, e1_19, e1_20, e1_21, e1_22, e1_23, e1_24, e1_25, e1_26, e1_27, e1_28, e1_29, e1_30, e1_31, e1_32, e1_33, e1_34, e1_35, e1_36, z6, gti, f1, hkn, Int.toNat_natCast, hxk, hm6, mn2, b70, ct2, ba_data, ba_size, ba_toList, ba_extract, ba_append, List.toList_toArray, splice, fillP, fillE, List.modify_zero_cons, List.replicate_succ, List.replicate_zero, List.set_cons_zero, List.drop_zero, hb, hc]; (first | done | rfl))
    | refine g_skT ?_ | refine g_skF ?_
    | ((first | apply g_goT | apply g_goF); · simp only [go_sem, Nat.reduceEqDiff, Nat.reduceAdd, Nat.reduceLeDiff, e1_2, e1_3, e1_5, e1_6, e1_15, e1_16, e1_17, e1_18, e1_19, e1_20, e1_21, e1_22, e1_23, e1_24, e1_25, e1_26, e1_27, e1_28, e1_29, e1_30, e1_31, e1_32, e1_33, e1_34, e1_35, e1_36, z6, gti, f1, hkn, Int.toNat_natCast, hxk, hm6, mn2, b70, ct2, ba_data, ba_size, ba_toList, ba_extract, ba_append, List.toList_toArray, splice, fillP, fillE, List.modify_zero_cons, List.replicate_succ, List.replicate_zero, List.set_cons_zero, List.drop_zero]; (first | done | rfl))
    )
      refine s_gatS (d := 49) (t := 42) (x := .t 48) (xs := txts ((ks.take j).map (List.take 70))) (e := txt (ks[j].take 70)) (by simp only [go_sem, Nat.reduceEqDiff, Nat.reduceAdd, Nat.reduceLeDiff]; exact hg.new _) (hw2.new _ _).f (by simp only [go_sem, Nat.reduceEqDiff, Nat.reduceAdd, Nat.reduceLeDiff, srcOf, elemsOf, List.drop_zero]) rfl rfl (by rw [txts_len, hlj]; omega) ?_
      intro p2 σ3 hg2 hs2 hf2 hm hc
      have hw3 := (hw2.new _ _).step hs2 hf2 (fun g _ => hm 78 g (by decide)) (by rw [hc 78 (by decide)]; exact Nat.le_refl _)
      have hm5' : σ3.m 2000005 (σ1.c 2000005) = some ⟨3, [df d], true, true⟩ := by rw [hm _ _ (by decide)]; simp only [go_sem, Nat.reduceEqDiff, Nat.reduceAdd, Nat.reduceLeDiff, hm5]
      have hm6' : σ3.m 2000006 (σ1.c 2000006) = some ⟨3, [.agg [txt (d.ty.take 70), pk, .em]], true, true⟩ := by rw [hm _ _ (by decide)]; simp only [go_sem, Nat.reduceEqDiff, Nat.reduceAdd, Nat.reduceLeDiff, hm6]
      obtain ⟨ok1, ok2⟩ := hg2.ok
      (repeat' first
    | refine w_seq ?_ | refine w_rg ?_ | refine wo_nil ?_ | refine g_skU ?_
    | ((first | apply s_plain | apply s_void | apply s_guard); · simp only [go_sem, Nat.reduceEqDiff, Nat.reduceAdd, Nat.reduceLeDiff, z6, hm6', ok1, ok2, splice, fillP, fillE, List.modify_zero_cons, List.replicate_succ, List.replicate_zero, List.set_cons_zero, List.drop_zero]; (first | done | rfl))
    | ((first | apply g_T | apply g_F); · intro hb; simp only [go_sem, Nat.reduceEqDiff, Nat.reduceAdd, Nat.reduceLeDiff, z6, hm6', ok1, ok2, splice, fillP, fillE, List.modify_zero_cons, List.replicate_succ, List.replicate_zero, List.set_cons_zero, List.drop_zero, hb]; (first | done | rfl))
    | ((first | apply g_gT | apply g_gF); · intro hb hc; simp only [go_sem, Nat.reduceEqDiff, Nat.reduceAdd, Nat.reduceLeDiff, z6, hm6', ok1, ok2, splice, fillP, fillE, List.modify_zero_cons, List.replicate_succ, List.replicate_zero, List.set_cons_zero, List.drop_zero, hb, hc]; (first | done | rfl))
    | refine g_skT ?_ | refine g_skF ?_
    | ((first | apply g_goT | apply g_goF); · simp only [go_sem, Nat.reduceEqDiff, Nat.reduceAdd, Nat.reduceLeDiff, z6, hm6', ok1, ok2, splice, fillP, fillE, List.modify_zero_cons, List.replicate_succ, List.replicate_zero, List.set_cons_zero, List.drop_zero]; (first | done | rfl))
    )
      refine ⟨hw3.put (by decide) (by decide) hm6' _, by simp only [go_sem, Nat.reduceEqDiff, Nat.reduceAdd, Nat.reduceLeDiff, hm5'], p2, by simp only [go_sem, Nat.reduceEqDiff, Nat.reduceAdd, Nat.reduceLeDiff, splice, fillP, fillE, List.modify_zero_cons, List.replicate_succ, List.replicate_zero, List.set_cons_zero, List.drop_zero], ?_⟩
      rw [hnx]
      have e2 : txts ((ks.take j).map (List.take 70) ++ [ks[j].take 70]) = txts ((ks.take j).map (List.take 70)) ++ [txt (ks[j].take 70)] := by simp [txts]
      rw [e2]
      exact hg2.put (by decide) _
    · rintro fr2 σ2 ⟨hw2, hm5, pk, hm6, hg⟩ hfr
      have e1_2 := hfr 2 rfl; have e1_3 := hfr 3 rfl; have e1_5 := hfr 5 rfl; have e1_6 := hfr 6 rfl; have e1_15 := hfr 15 rfl; have e1_16 := hfr 16 rfl; have e1_17 := hfr 17 rfl; have e1_18 := hfr 18 rfl; have e1_19 := hfr 19 rfl; have e1_20 := hfr 20 rfl; have e1_21 := hfr 21 rfl; have e1_22 := hfr 22 rfl; have e1_23 := hfr 23 rfl; have e1_24 := hfr 24 rfl; have e1_25 := hfr 25 rfl; have e1_26 := hfr 26 rfl; have e1_27 := hfr 27 rfl; have e1_28 := hfr 28 rfl; have e1_29 := hfr 29 rfl; have e1_30 := hfr 30 rfl; have e1_31 := hfr 31 rfl; have e1_32 := hfr 32 rfl; have e1_33 := hfr 33 rfl; have e1_34 := hfr 34 rfl; have e1_35 := hfr 35 rfl; have e1_36 := hfr 36 rfl; try (simp only [go_sem, Nat.reduceEqDiff, Nat.reduceAdd, Nat.reduceLeDiff] at e1_2); try (simp only [go_sem, Nat.reduceEqDiff, Nat.reduceAdd, Nat.reduceLeDiff] at e1_3); try (simp only [go_sem, Nat.reduceEqDiff, Nat.reduceAdd, Nat.reduceLeDiff] at e1_5); try (simp only [go_sem, Nat.reduceEqDiff, Nat.reduceAdd, Nat.reduceLeDiff] at e1_6); try (simp only [go_sem, Nat.reduceEqDiff, Nat.reduceAdd, Nat.reduceLeDiff] at e1_15); try (simp only [go_sem, Nat.reduceEqDiff, Nat.reduceAdd, Nat.reduceLeDiff] at e1_16); try (simp only [go_sem, Nat.reduceEqDiff, Nat.reduceAdd, Nat.reduceLeDiff] at e1_17); try (simp only [go_sem, Nat.reduceEqDiff, Nat.reduceAdd, Nat.reduceLeDiff] at e1_18); try (simp only [go_sem, Nat.reduceEqDiff, Nat.reduceAdd, Nat.reduceLeDiff] at e1_19); try (simp only [go_sem, Nat.reduceEqDiff, Nat.reduceAdd, Nat.reduceLeDiff] at e1_20); try (simp only [go_sem, Nat.reduceEqDiff, Nat.reduceAdd, Nat.reduceLeDiff] at e1_21); try (simp only [go_sem, Nat.reduceEqDiff, Nat.reduceAdd, Nat.reduceLeDiff] at e1_22); try (simp only [go_sem, Nat.reduceEqDiff, Nat.reduceAdd, Nat.reduceLeDiff] at e1_23); try (simp only [go_sem, Nat.reduceEqDiff, Nat.reduceAdd, Nat.reduceLeDiff] at e1_24); try (simp only [go_sem, Nat.reduceEqDiff, Nat.reduceAdd, Nat.reduceLeDiff] at e1_25); try (simp only [go_sem, Nat.reduceEqDiff, Nat.reduceAdd, Nat.reduceLeDiff] at e1_26); try (simp only [go_sem, Nat.reduceEqDiff, Nat.reduceAdd, Nat.reduceLeDiff] at e1_27); try (simp only [go_sem, Nat.reduceEqDiff, Nat.reduceAdd, Nat.reduceLeDiff] at e1_28); try (simp only [go_sem, Nat.reduceEqDiff, Nat.reduceAdd, Nat.reduceLeDiff] at e1_29); try (simp only [go_sem, Nat.reduceEqDiff, Nat.reduceAdd, Nat.reduceLeDiff] at e1_30); try (simp only [go_sem, Nat.reduceEqDiff, Nat.reduceAdd, Nat.reduceLeDiff] at e1_31); try (simp only [go_sem, Nat.reduceEqDiff, Nat.reduceAdd, Nat.reduceLeDiff] at e1_32); try (simp only [go_sem, Nat.reduceEqDiff, Nat.reduceAdd, Nat.reduceLeDiff] at e1_33); try (simp only [go_sem, Nat.reduceEqDiff, Nat.reduceAdd, Nat.reduceLeDiff] at e1_34); try (simp only [go_sem, Nat.reduceEqDiff, Nat.reduceAdd, Nat.reduceLeDiff] at e1_35); try (simp only [go_sem, Nat.reduceEqDiff, Nat.reduceAdd, Nat.reduceLeDiff] at e1_36)
      have z6 : fr2 6 = .bx 2000006 (σ1.c 2000006) 3 0 0 := by rw [hfr 6 rfl]; simp only [go_sem, Nat.reduceEqDiff, Nat.reduceAdd, Nat.reduceLeDiff]
      have z5 : fr2 5 = .bx 2000005 (σ1.c 2000005) 3 0 0 := by rw [hfr 5 rfl]; simp only [go_sem, Nat.reduceEqDiff, Nat.reduceAdd, Nat.reduceLeDiff]
      have z3 : fr2 3 = fr1 3 := by rw [hfr 3 rfl]; simp only [go_sem, Nat.reduceEqDiff, Nat.reduceAdd, Nat.reduceLeDiff]
      try simp only [if_true]
      rw [List.take_length] at hg
      have hrk := gat_rd hg (by decide) (txts_rd σ2 0 _)
      have hok := hg.ok
      clear hg
      unfold df at hm5
      (repeat' first
    | refine w_seq ?_ | refine w_rg ?_ | refine wo_nil ?_ | refine g_skU ?_
    | ((first | apply s_plain | apply s_void | apply s_guard); · simp only [go_sem, Nat.reduceEqDiff, Nat.reduceAdd, Nat.reduceLeDiff, e1_2, e1_3, e1_5, e1_6, e1_15, e1_16, e1_17, e1_18, e1_19, e1_20, e1_21, e1_22, e1_23, e1_24, e1_25, e1_26, e1_27, e1_28, e1_29, e1_30, e1_31, e1_32, e1_33, e1_34, e1_35, e1_36, z5, hm5, hlv, mn2, slcLP_sl, av, b66, cv, List.drop_zero, ba_data, ba_size, ba_toList, ba_extract, ba_append, List.toList_toArray, splice, fillP, fillE, List.modify_zero_cons, List.replicate_succ, List.replicate_zero, List.set_cons_zero, List.drop_zero]; (first | done | rfl))
    | ((first | apply g_T | apply g_F); · intro hb; simp only [go_sem, Nat.reduceEqDiff, Nat.reduceAdd, Nat.reduceLeDiff, e1_2, e1_3, e1_5, e1_6, e1_15, e1_16, e1_17, e1_18, e1_19, e1_20, e1_21, e1_22, e1_23, e1_24, e1_25, e1_26, e1_27, e1_28, e1_29, e1_30, e1_31, e1_32, e1_33, e1_34, e1_35, e1_36, z5, hm5, hlv, mn2, slcLP_sl, av, b66, cv, List.drop_zero, ba_data, ba_size, ba_toList, ba_extract, ba_append, List.toList_toArray, splice, fillP, fillE, List.modify_zero_cons, List.replicate_succ, List.replicate_zero, List.set_cons_zero, List.drop_zero, hb]; (first | done | rfl))
    | ((first | apply g_gT | apply g_gF); · intro hb hc; simp only [go_sem, Nat.reduceEqDiff, Nat.reduceAdd, Nat.reduceLeDiff, e1_2, e1_3, e1_5, e1_6, e1_15, e1_16, e1_17, e1_18, e1_19, e1_20, e1_21, e1_22, e1_23, e1_24, e1_25, e1_26, e1_27, e1_28, e1_29, e1_30, e1_31, e1_32, e1_33, e1_34, e1_35, e1_36, z5, hm5, hlv, mn2, slcLP_sl, av, b66, cv, List.drop_zero, ba_data, ba_size, ba_toList, ba_extract, ba_append, List.toList_toArray, splice, fillP, fillE, List.modify_zero_cons, List.replicate_succ, List.replicate_zero, List.set_cons_zero, List.drop_zero, hb, hc]; (first | done | rfl))
    | refine g_skT ?_ | refine g_skF ?_
    | ((first | apply g_goT | apply g_goF); · simp only [go_sem, Nat.reduceEqDiff, Nat.reduceAdd, Nat.reduceLeDiff, e1_2, e1_3, e1_5, e1_6, e1_15, e1_16, e1_17, e1_18, e1_19, e1_20, e1_21, e1_22, e1_23, e1_24, e1_25, e1_26, e1_27, e1_28, e1_29, e1_30, e1_31, e1_32, e1_33, e1_34, e1_35, e1_36, z5, hm5, hlv, mn2, slcLP_sl, av, b66, cv, List.drop_zero, ba_data, ba_size, ba_toList, ba_extract, ba_append, List.toList_toArray, splice, fillP, fillE, List.modify_zero_cons, List.replicate_succ, List.replicate_zero, List.set_cons_zero, List.drop_zero]; (first | done | rfl))
    )
      --
      generalize hvs : d.vs.take 66 = vs at cv
      have hvl : vs.length ≤ 66 := by rw [← hvs, List.length_take]; omega
      have hvn := txts_len vs
      generalize hKS : ks.map (List.take 70) = KS at hrk
      refine w_block (w_rangeF (tc := 61) (ti := 60) (tn := 59) (tk := 74) vs.length (by omega) (fun j fr σ => Fw σ 78 (fr1 3) ((L.take i).map fewD) ∧ rd σ 2 pk = some (.sl (txts KS)) ∧ ∃ pv, σ.m 2000006 (σ1.c 2000006) = some ⟨3, [.agg [txt (d.ty.take 70), pk, pv]], true, true⟩ ∧ Gat σ [72] 1 false pv (txts ((vs.take j).map (List.take 205)))) ⟨by decide, rfl, rfl⟩ (fun _ _ _ _ h => ⟨h, h, h⟩) ⟨hw2, hrk, .em, hm6, .em⟩ (by simp only [go_sem, Nat.reduceEqDiff, Nat.reduceAdd, Nat.reduceLeDiff]; first | done | rfl) (by simp only [go_sem, Nat.reduceEqDiff, Nat.reduceAdd, Nat.reduceLeDiff, hvn]; first | done | rfl) ?_ ?_)
      · rintro j fr3 σ3 hj ⟨hw3, hr3, pv, hm7, hg⟩ gti hfr
        have e2_2 := hfr 2 rfl; have e2_3 := hfr 3 rfl; have e2_5 := hfr 5 rfl; have e2_6 := hfr 6 rfl; have e2_8 := hfr 8 rfl; have e2_15 := hfr 15 rfl; have e2_16 := hfr 16 rfl; have e2_17 := hfr 17 rfl; have e2_18 := hfr 18 rfl; have e2_19 := hfr 19 rfl; have e2_20 := hfr 20 rfl; have e2_21 := hfr 21 rfl; have e2_22 := hfr 22 rfl; have e2_23 := hfr 23 rfl; have e2_24 := hfr 24 rfl; have e2_25 := hfr 25 rfl; have e2_26 := hfr 26 rfl; have e2_27 := hfr 27 rfl; have e2_28 := hfr 28 rfl; have e2_29 := hfr 29 rfl; have e2_30 := hfr 30 rfl; have e2_31 := hfr 31 rfl; have e2_32 := hfr 32 rfl; have e2_33 := hfr 33 rfl; have e2_34 := hfr 34 rfl; have e2_35 := hfr 35 rfl; have e2_36 := hfr 36 rfl; have e2_37 := hfr 37 rfl; have e2_38 := hfr 38 rfl; have e2_39 := hfr 39 rfl; have e2_40 := hfr 40 rfl; have e2_41 := hfr 41 rfl; have e2_42 := hfr 42 rfl; have e2_43 := hfr 43 rfl; have e2_44 := hfr 44 rfl; have e2_45 := hfr 45 rfl; have e2_46 := hfr 46 rfl; have e2_47 := hfr 47 rfl; have e2_48 := hfr 48 rfl; have e2_49 := hfr 49 rfl; have e2_50 := hfr 50 rfl; have e2_51 := hfr 51 rfl; have e2_52 := hfr 52 rfl; have e2_53 := hfr 53 rfl; have e2_54 := hfr 54 rfl; have e2_55 := hfr 55 rfl; have e2_56 := hfr 56 rfl; have e2_57 := hfr 57 rfl; have e2_58 := hfr 58 rfl; have e2_59 := hfr 59 rfl; try (simp only [go_sem, Nat.reduceEqDiff, Nat.reduceAdd, Nat.reduceLeDiff] at e2_2); try (simp only [go_sem, Nat.reduceEqDiff, Nat.reduceAdd, Nat.reduceLeDiff] at e2_3); try (simp only [go_sem, Nat.reduceEqDiff, Nat.reduceAdd, Nat.reduceLeDiff] at e2_5); try (simp only [go_sem, Nat.reduceEqDiff, Nat.reduceAdd, Nat.reduceLeDiff] at e2_6); try (simp only [go_sem, Nat.reduceEqDiff, Nat.reduceAdd, Nat.reduceLeDiff] at e2_8); try (simp only [go_sem, Nat.reduceEqDiff, Nat.reduceAdd, Nat.reduceLeDiff] at e2_15); try (simp only [go_sem, Nat.reduceEqDiff, Nat.reduceAdd, Nat.reduceLeDiff] at e2_16); try (simp only [go_sem, Nat.reduceEqDiff, Nat.reduceAdd, Nat.reduceLeDiff] at e2_17); try (simp only [go_sem, Nat.reduceEqDiff, Nat.reduceAdd, Nat.reduceLeDiff] at e2_18); try (simp only [go_sem, Nat.reduceEqDiff, Nat.reduceAdd, Nat.reduceLeDiff] at e2_19); try (simp only [go_sem, Nat.reduceEqDiff, Nat.reduceAdd, Nat.reduceLeDiff] at e2_20); try (simp only [go_sem, Nat.reduceEqDiff, Nat.reduceAdd, Nat.reduceLeDiff] at e2_21); try (simp only [go_sem, Nat.reduceEqDiff, Nat.reduceAdd, Nat.reduceLeDiff] at e2_22); try (simp only [go_sem, Nat.reduceEqDiff, Nat.reduceAdd, Nat.reduceLeDiff] at e2_23); try (simp only [go_sem, Nat.reduceEqDiff, Nat.reduceAdd, Nat.reduceLeDiff] at e2_24); try (simp only [go_sem, Nat.reduceEqDiff, Nat.reduceAdd, Nat.reduceLeDiff] at e2_25); try (simp only [go_sem, Nat.reduceEqDiff, Nat.reduceAdd, Nat.reduceLeDiff] at e2_26); try (simp only [go_sem, Nat.reduceEqDiff, Nat.reduceAdd, Nat.reduceLeDiff] at e2_27); try (simp only [go_sem, Nat.reduceEqDiff, Nat.reduceAdd, Nat.reduceLeDiff] at e2_28); try (simp only [go_sem, Nat.reduceEqDiff, Nat.reduceAdd, Nat.reduceLeDiff] at e2_29); try (simp only [go_sem, Nat.reduceEqDiff, Nat.reduceAdd, Nat.reduceLeDiff] at e2_30); try (simp only [go_sem, Nat.reduceEqDiff, Nat.reduceAdd, Nat.reduceLeDiff] at e2_31); try (simp only [go_sem, Nat.reduceEqDiff, Nat.reduceAdd, Nat.reduceLeDiff] at e2_32); try (simp only [go_sem, Nat.reduceEqDiff, Nat.reduceAdd, Nat.reduceLeDiff] at e2_33); try (simp only [go_sem, Nat.reduceEqDiff, Nat.reduceAdd, Nat.reduceLeDiff] at e2_34); try (simp only [go_sem, Nat.reduceEqDiff, Nat.reduceAdd, Nat.reduceLeDiff] at e2_35); try (simp only [go_sem, Nat.reduceEqDiff, Nat.reduceAdd, Nat.reduceLeDiff] at e2_36); try (simp only [go_sem, Nat.reduceEqDiff, Nat.reduceAdd, Nat.reduceLeDiff] at e2_37); try (simp only [go_sem, Nat.reduceEqDiff, Nat.reduceAdd, Nat.reduceLeDiff] at e2_38); try (simp only [go_sem, Nat.reduceEqDiff, Nat.reduceAdd, Nat.reduceLeDiff] at e2_39); try (simp only [go_sem, Nat.reduceEqDiff, Nat.reduceAdd, Nat.reduceLeDiff] at e2_40); try (simp only [go_sem, Nat.reduceEqDiff, Nat.reduceAdd, Nat.reduceLeDiff] at e2_41); try (simp only [go_sem, Nat.reduceEqDiff, Nat.reduceAdd, Nat.reduceLeDiff] at e2_42); try (simp only [go_sem, Nat.reduceEqDiff, Nat.reduceAdd, Nat.reduceLeDiff] at e2_43); try (simp only [go_sem, Nat.reduceEqDiff, Nat.reduceAdd, Nat.reduceLeDiff] at e2_44); try (simp only [go_sem, Nat.reduceEqDiff, Nat.reduceAdd, Nat.reduceLeDiff] at e2_45); try (simp only [go_sem, Nat.reduceEqDiff, Nat.reduceAdd, Nat.reduceLeDiff] at e2_46); try (simp only [go_sem, Nat.reduceEqDiff, Nat.reduceAdd, Nat.reduceLeDiff] at e2_47); try (simp only [go_sem, Nat.reduceEqDiff, Nat.reduceAdd, Nat.reduceLeDiff] at e2_48); try (simp only [go_sem, Nat.reduceEqDiff, Nat.reduceAdd, Nat.reduceLeDiff] at e2_49); try (simp only [go_sem, Nat.reduceEqDiff, Nat.reduceAdd, Nat.reduceLeDiff] at e2_50); try (simp only [go_sem, Nat.reduceEqDiff, Nat.reduceAdd, Nat.reduceLeDiff] at e2_51); try (simp only [go_sem, Nat.reduceEqDiff, Nat.reduceAdd, Nat.reduceLeDiff] at e2_52); try (simp only [go_sem, Nat.reduceEqDiff, Nat.reduceAdd, Nat.reduceLeDiff] at e2_53); try (simp only [go_sem, Nat.reduceEqDiff, Nat.reduceAdd, Nat.reduceLeDiff] at e2_54); try (simp only [go_sem, Nat.reduceEqDiff, Nat.reduceAdd, Nat.reduceLeDiff] at e2_55); try (simp only [go_sem, Nat.reduceEqDiff, Nat.reduceAdd, Nat.reduceLeDiff] at e2_56); try (simp only [go_sem, Nat.reduceEqDiff, Nat.reduceAdd, Nat.reduceLeDiff] at e2_57); try (simp only [go_sem, Nat.reduceEqDiff, Nat.reduceAdd, Nat.reduceLeDiff] at e2_58); try (simp only [go_sem, Nat.reduceEqDiff, Nat.reduceAdd, Nat.reduceLeDiff] at e2_59)
        have y6 : fr3 6 = .bx 2000006 (σ1.c 2000006) 3 0 0 := by rw [hfr 6 rfl]; simp only [go_sem, Nat.reduceEqDiff, Nat.reduceAdd, Nat.reduceLeDiff, z6]
        have hqk := List.getElem?_eq_getElem hj
        have hxk := txts_at hqk
        have f1 : (0 : Int) ≤ (j : Int) ∧ (j : Int) < (vs.length : Int) := by omega
        have ct2 := u8_cut vs[j] 205
        have hnx : (vs.take (j + 1)).map (List.take 205) = (vs.take j).map (List.take 205) ++ [vs[j].take 205] := by rw [← List.take_append_getElem hj, List.map_append]; rfl
        have hlj : ((vs.take j).map (List.take 205)).length = j := by rw [List.length_map, List.length_take]; omega
        refine w_block ?_
        (repeat' first
    | refine w_seq ?_ | refine w_rg ?_ | refine wo_nil ?_ | refine g_skU ?_
    | ((first | apply s_plain | apply s_void | apply s_guard); · simp only [go_sem, Nat.reduceEqDiff, Nat.reduceAdd, Nat.reduceLeDiff, e2_2, e2_3, e2_5, e2_6, e2_8, e2_15, e2_16, e2_17, e2_18, e2_19, e2_20, e2_21, e2_22, e2_23, e2_24, e2_25, e2_26, e2_27, e2_28, e2_29, e2_30, e2_31, e2_32, e2_33, e2_34, e2_35, e2_36, e2_37, e2_38, e2_39, e2_40, e2_41, e2_42, e2_43, e2_44, e2_45, e2_46, e2_47, e2_48, e2_49, e2_50, e2_51, e2_52, e2_53, e2_54, e2_55, e2_56, e2_57, e2_58, e2_59, y6, z6, gti, f1, hvn, Int.toNat_natCast, hxk, hm7, mn2, b205, ct2, ba_data, ba_size, ba_toList, ba_extract, ba_append, List.toList_toArray, splice, fillP, fillE, List.modify_zero_cons, List.replicate_succ, List.replicate_zero, List.set_cons_zero, List.drop_zero]; (first | done | rfl))
    | ((first | apply g_T | apply g_F); · intro hb; simp only [go_sem, Nat.reduceEqDiff, Nat.reduceAdd, Nat.reduceLeDiff, e2_2, e2_3, e2_5, e2_6, e2_8, e2_15, e2_16, e2_17, e2_18, e2_19, e2_20, e2_21, e2_22, e2_23, e2_24, e2_25, e2_26, e2_27, e2_28, e2_29, e2_30, e2_31, e2_32, e2_33, e2_34, e2_35, e2_36, e2_37, e2_38, e2_39, e2_40, e2_41, e2_42, e2_43, e2_44, e2_45, e2_46, e2_47, e2_48, e2_49, e2_50, e2_51, e2_52, e2_53, e2_54, e2_55, e2_56, e2_57, e2_58, e2_59, y6, z6, gti, f1, hvn, Int.toNat_natCast, hxk, hm7, mn2, b205, ct2, ba_data, ba_size, ba_toList, ba_extract, ba_append, List.toList_toArray, splice, fillP, fillE, List.modify_zero_cons, List.replicate_succ, List.replicate_zero, List.set_cons_zero, List.drop_zero, hb]; (first | done | rfl))
    | ((first | apply g_gT | apply g_gF); · intro hb hc; simp only [go_sem, Nat.reduceEqDiff, Nat.reduceAdd, Nat.reduceLeDiff, e2_2, e2_3, e2_5, e2_6, e2_8, e2_15, e2_16, e2_17, e2_18, e2_19, e2_20, e2_21, e2_22, e2_23, e2_24, e2_25, e2_26, e2_27, e2_28, e2_29, e2_30, e2_31, e2_32, e2_33, e2_34, e2_35, e2_36, e2_37, e2_38, e2_39, e2_40, e2_41, e2_42, e2_43, e2_44, e2_45, e2_46, e2_47, e2_48, e2_49, e2_50, e2_51, e2_52, e2_53, e2_54, e2_55, e2_56, e2_57, e2_58, e2_59, y6, z6, gti, f1, hvn, Int.toNat_natCast, hxk, hm7, mn2, b205, ct2, ba_data, ba_size, ba_toList, ba_extract, ba_append, List.toList_toArray, splice, fillP, fillE, List.modify_zero_cons, List.replicate_succ, List.replicate_zero, List.set_cons_zero, List.drop_zero, hb, hc]; (first | done | rfl))
    | refine g_skT ?_ | refine g_skF ?_
    | ((first | apply g_goT | apply g_goF); · simp only [go_sem, Nat.reduceEqDiff, Nat.reduceAdd, Nat.reduceLeDiff, e2_2, e2_3, e2_5, e2_6, e2_8, e2_15, e2_16, e2_17, e2_18, e2_19, e2_20, e2_21, e2_22, e2_23, e2_24, e2_25, e2_26, e2_27, e2_28, e2_29, e2_30, e2_31, e2_32, e2_33, e2_34, e2_35, e2_36, e2_37, e2_38, e2_39, e2_40, e2_41, e2_42, e2_43, e2_44, e2_45, e2_46, e2_47, e2_48, e2_49, e2_50, e2_51, e2_52, e2_53, e2_54, e2_55, e2_56, e2_57, e2_58, e2_59, y6, z6, gti, f1, hvn, Int.toNat_natCast, hxk, hm7, mn2, b205, ct2, ba_data, ba_size, ba_toList, ba_extract, ba_append, List.toList_toArray, splice, fillP, fillE, List.modify_zero_cons, List.replicate_succ, List.replicate_zero, List.set_cons_zero, List.drop_zero]; (first | done | rfl))
    )
        refine s_gatS (d := 72) (t := 65) (x := .t 71) (xs := txts ((vs.take j).map (List.take 205))) (e := txt (vs[j].take 205)) (by simp only [go_sem, Nat.reduceEqDiff, Nat.reduceAdd, Nat.reduceLeDiff]; exact hg.new _) (hw3.new _ _).f (by simp only [go_sem, Nat.reduceEqDiff, Nat.reduceAdd, Nat.reduceLeDiff, srcOf, elemsOf, List.drop_zero]) rfl rfl (by rw [txts_len, hlj]; omega) ?_
        intro p2 σ4 hg2 hs2 hf2 hm hc
        have hw4 := (hw3.new _ _).step hs2 hf2 (fun g _ => hm 78 g (by decide)) (by rw [hc 78 (by decide)]; exact Nat.le_refl _)
        have hr4 := rd_sub hs2 2 _ _ (rd_sub ((SubS.refl σ3).new hw3.f _ _) 2 _ _ hr3)
        have hm8 : σ4.m 2000006 (σ1.c 2000006) = some ⟨3, [.agg [txt (d.ty.take 70), pk, pv]], true, true⟩ := by rw [hm _ _ (by decide)]; simp only [go_sem, Nat.reduceEqDiff, Nat.reduceAdd, Nat.reduceLeDiff, hm7]
        obtain ⟨ok1, ok2⟩ := hg2.ok
        (repeat' first
    | refine w_seq ?_ | refine w_rg ?_ | refine wo_nil ?_ | refine g_skU ?_
    | ((first | apply s_plain | apply s_void | apply s_guard); · simp only [go_sem, Nat.reduceEqDiff, Nat.reduceAdd, Nat.reduceLeDiff, y6, hm8, ok1, ok2, splice, fillP, fillE, List.modify_zero_cons, List.replicate_succ, List.replicate_zero, List.set_cons_zero, List.drop_zero, List.set_cons_succ]; (first | done | rfl))
    | ((first | apply g_T | apply g_F); · intro hb; simp only [go_sem, Nat.reduceEqDiff, Nat.reduceAdd, Nat.reduceLeDiff, y6, hm8, ok1, ok2, splice, fillP, fillE, List.modify_zero_cons, List.replicate_succ, List.replicate_zero, List.set_cons_zero, List.drop_zero, List.set_cons_succ, hb]; (first | done | rfl))
    | ((first | apply g_gT | apply g_gF); · intro hb hc; simp only [go_sem, Nat.reduceEqDiff, Nat.reduceAdd, Nat.reduceLeDiff, y6, hm8, ok1, ok2, splice, fillP, fillE, List.modify_zero_cons, List.replicate_succ, List.replicate_zero, List.set_cons_zero, List.drop_zero, List.set_cons_succ, hb, hc]; (first | done | rfl))
    | refine g_skT ?_ | refine g_skF ?_
    | ((first | apply g_goT | apply g_goF); · simp only [go_sem, Nat.reduceEqDiff, Nat.reduceAdd, Nat.reduceLeDiff, y6, hm8, ok1, ok2, splice, fillP, fillE, List.modify_zero_cons, List.replicate_succ, List.replicate_zero, List.set_cons_zero, List.drop_zero, List.set_cons_succ]; (first | done | rfl))
    )
        refine ⟨hw4.put (by decide) (by decide) hm8 _, rd_sub ((SubS.refl σ4).box (by decide) _) 2 _ _ hr4, p2, by simp only [go_sem, Nat.reduceEqDiff, Nat.reduceAdd, Nat.reduceLeDiff, splice, fillP, fillE, List.modify_zero_cons, List.replicate_succ, List.replicate_zero, List.set_cons_zero, List.drop_zero], ?_⟩
        rw [hnx]
        have e2 : txts ((vs.take j).map (List.take 205) ++ [vs[j].take 205]) = txts ((vs.take j).map (List.take 205)) ++ [txt (vs[j].take 205)] := by simp [txts]
        rw [e2]
        exact hg2.put (by decide) _
      · rintro fr3 σ3 ⟨hw3, hr3, pv, hm7, hg⟩ hfr
        have y6 : fr3 6 = .bx 2000006 (σ1.c 2000006) 3 0 0 := by rw [hfr 6 rfl]; simp only [go_sem, Nat.reduceEqDiff, Nat.reduceAdd, Nat.reduceLeDiff, z6]
        have y3 : fr3 3 = fr1 3 := by rw [hfr 3 rfl]; simp only [go_sem, Nat.reduceEqDiff, Nat.reduceAdd, Nat.reduceLeDiff, z3]
        try simp only [if_true]
        rw [List.take_length] at hg
        have hrv := gat_rd hg (by decide) (txts_rd σ3 0 _)
        obtain ⟨ok1, ok2⟩ := hok
        obtain ⟨ok3, ok4⟩ := hg.ok
        (repeat' first
    | refine w_seq ?_ | refine w_rg ?_ | refine wo_nil ?_ | refine g_skU ?_
    | ((first | apply s_plain | apply s_void | apply s_guard); · simp only [go_sem, Nat.reduceEqDiff, Nat.reduceAdd, Nat.reduceLeDiff, y6, y3, hm7, splice, fillP, fillE, List.modify_zero_cons, List.replicate_succ, List.replicate_zero, List.set_cons_zero, List.drop_zero, ok2, ok4]; (first | done | rfl))
    | ((first | apply g_T | apply g_F); · intro hb; simp only [go_sem, Nat.reduceEqDiff, Nat.reduceAdd, Nat.reduceLeDiff, y6, y3, hm7, splice, fillP, fillE, List.modify_zero_cons, List.replicate_succ, List.replicate_zero, List.set_cons_zero, List.drop_zero, ok2, ok4, hb]; (first | done | rfl))
    | ((first | apply g_gT | apply g_gF); · intro hb hc; simp only [go_sem, Nat.reduceEqDiff, Nat.reduceAdd, Nat.reduceLeDiff, y6, y3, hm7, splice, fillP, fillE, List.modify_zero_cons, List.replicate_succ, List.replicate_zero, List.set_cons_zero, List.drop_zero, ok2, ok4, hb, hc]; (first | done | rfl))
    | refine g_skT ?_ | refine g_skF ?_
    | ((first | apply g_goT | apply g_goF); · simp only [go_sem, Nat.reduceEqDiff, Nat.reduceAdd, Nat.reduceLeDiff, y6, y3, hm7, splice, fillP, fillE, List.modify_zero_cons, List.replicate_succ, List.replicate_zero, List.set_cons_zero, List.drop_zero, ok2, ok4]; (first | done | rfl))
    )
        obtain ⟨hf, xs, hgx, hxl, hxr⟩ := hw3
        have hrun : ((L.take i).map fewD).length ≤ 66 := by rw [List.length_map, List.length_take]; omega
        refine s_gatS (d := 78) (t := 75) (x := .t 77) (xs := xs) (e := .agg [txt (d.ty.take 70), pk, pv]) (by simp only [go_sem, Nat.reduceEqDiff, Nat.reduceAdd, Nat.reduceLeDiff]; exact hgx.new _) (hf.new _ _) (by simp only [go_sem, Nat.reduceEqDiff, Nat.reduceAdd, Nat.reduceLeDiff, srcOf, elemsOf, List.drop_zero]) rfl rfl (by rw [hxl]; omega) ?_
        intro p2 σ4 hg2 hs2 hf2 hm hc
        have hss : SubS σ3 σ4 := ((SubS.refl σ3).new hf _ _).trans hs2
        (repeat' first
    | refine w_seq ?_ | refine w_rg ?_ | refine wo_nil ?_ | refine g_skU ?_
    | ((first | apply s_plain | apply s_void | apply s_guard); · simp only [go_sem, Nat.reduceEqDiff, Nat.reduceAdd, Nat.reduceLeDiff]; (first | done | rfl))
    | ((first | apply g_T | apply g_F); · intro hb; simp only [go_sem, Nat.reduceEqDiff, Nat.reduceAdd, Nat.reduceLeDiff, hb]; (first | done | rfl))
    | ((first | apply g_gT | apply g_gF); · intro hb hc; simp only [go_sem, Nat.reduceEqDiff, Nat.reduceAdd, Nat.reduceLeDiff, hb, hc]; (first | done | rfl))
    | refine g_skT ?_ | refine g_skF ?_
    | ((first | apply g_goT | apply g_goF); · simp only [go_sem, Nat.reduceEqDiff, Nat.reduceAdd, Nat.reduceLeDiff]; (first | done | rfl))
    )
        simp only [go_sem, Nat.reduceEqDiff, Nat.reduceAdd, Nat.reduceLeDiff]
        rw [hnext]
        refine ⟨hf2, xs ++ [.agg [txt (d.ty.take 70), pk, pv]], hg2, by simp only [List.length_append, List.length_cons, List.length_nil, hxl], ?_⟩
        have e2 : dfs ((L.take i).map fewD ++ [fewD d]) = dfs ((L.take i).map fewD) ++ [df (fewD d)] := by simp [dfs]
        rw [e2]
        refine mapM_snoc (mapM_imp (rd_sub hss 3) hxr) ?_
        have r1 := rd_sub hss 2 _ _ hr3
        have r2 := rd_sub hss 2 _ _ hrv
        have r3 : rd σ4 2 (txt (d.ty.take 70)) = some (txt (d.ty.take 70)) := rfl
        rw [rd_agg]
        simp only [mapM_cons', mapM_nil', r1, r2, r3, Option.bind_some, Option.map_some]
        unfold fewD df
        rw [← hKS, ← hks, ← hvs]
  · rintro fr1 σ1 hw hfr
    try simp only [if_true]
    rw [List.take_length] at hw
    obtain ⟨hf, xs, hgx, hxl, hxr⟩ := hw
    have h4 := gat_rd hgx (by decide) hxr
    have h5 : fz σ1 12 (fr1 3) = some (.sl (dfs (L.map fewD))) := rd_fz_le (by decide) h4
    (repeat' first
    | refine w_seq ?_ | refine w_rg ?_ | refine wo_nil ?_ | refine g_skU ?_
    | ((first | apply s_plain | apply s_void | apply s_guard); · simp only [go_sem, Nat.reduceEqDiff, Nat.reduceAdd, Nat.reduceLeDiff]; (first | done | rfl))
    | ((first | apply g_T | apply g_F); · intro hb; simp only [go_sem, Nat.reduceEqDiff, Nat.reduceAdd, Nat.reduceLeDiff, hb]; (first | done | rfl))
    | ((first | apply g_gT | apply g_gF); · intro hb hc; simp only [go_sem, Nat.reduceEqDiff, Nat.reduceAdd, Nat.reduceLeDiff, hb, hc]; (first | done | rfl))
    | refine g_skT ?_ | refine g_skF ?_
    | ((first | apply g_goT | apply g_goF); · simp only [go_sem, Nat.reduceEqDiff, Nat.reduceAdd, Nat.reduceLeDiff]; (first | done | rfl))
    | (refine w_condT ?_ ?_; · simp only [go_sem, Nat.reduceEqDiff, Nat.reduceAdd, Nat.reduceLeDiff]; (first | done | rfl))
    | (refine w_condF ?_ ?_; · simp only [go_sem, Nat.reduceEqDiff, Nat.reduceAdd, Nat.reduceLeDiff]; (first | done | rfl))
    | refine w_skip ?_ | refine w_exit ?_ | refine w_ret ?_
    )
    exact ⟨.inr rfl, by simp only [go_sem, Nat.reduceEqDiff, Nat.reduceAdd, Nat.reduceLeDiff, retOf, resOf, h5]⟩
end
end Go.Proofs.YtdlfomiclkpibaaDoorPv
namespace Go.Proofs.YtdlfomiclkpibaaDoorPv
open Go
set_option linter.unusedSimpArgs false
set_option linter.unusedVariables false
set_option maxHeartbeats 4000000
attribute [local go_sem ↓] e_mv e_pick e_bin e_eqs e_beq e_un e_cvi e_str e_s2b e_b2s e_box e_build e_bsl e_ld e_st e_nck e_mkf e_slcS e_slcL e_fa e_fld e_ia e_iaa e_ix e_ixa e_ext e_lenS e_lenL e_mnmx e_app e_appb e_bbx e_msl e_clr e_call e_callv pa_t pa_c pa_f slcSP_str hiOf_some hiOf_none loOf_some loOf_none set_eq set_ne
attribute [local go_sem] pv pv1 simple frOf_0 frOf_1 frOf_2 frOf_3 frOf_4 frOf_5 ne_eq not_false_eq_true if_true Bool.false_eq_true if_false pbin punary Option.map_some Option.bind_some pick_and pick_or opt_true Bool.true_and Bool.and_self Bool.and_true Bool.true_or Bool.false_or Bool.not_true Bool.not_false callE pcall_eq List.map_cons List.map_nil List.append_nil List.nil_append List.cons_append mapM_cons' mapM_nil' dep_eq fz_sc fz_sl fz_em fz_fn fz_fp fz_agg fz_tu fz_bx fz_ob Nat.lt_irrefl Nat.zero_lt_one Nat.lt_add_one flat clL cl Bool.or_true okc_sc okc_em okc_sl okc_ob okc_bx okc_fp okc_fn okc_agg okc_ifc cells_agg cells_sc cells_sl cells_em cells_ob cells_fn cells_bx cells_fp List.length_cons List.length_nil Nat.zero_add and_self true_and and_true new_m new_c put_m put_c nil_m nil_c deref List.getElem?_cons_zero List.getElem?_cons_succ List.drop_zero List.drop_succ_cons List.take_succ_cons List.take_zero Nat.le_refl false_and and_false decide_true decide_false lenP_em lenP_nil lenP_sl lenP_ob Int.ofNat_zero
set_option maxRecDepth 8000
/-- transhipment/transhipmentlaw06.BlockPrints -/
def d1 : Def := (.code 3 [.tmp 6] (.seq (.rg false [⟨.some 6, .none, .mv (.c (.bool false))⟩]) (.seq (.rg false [⟨.some 16, .none, .mv (.t 0)⟩, ⟨.some 17, .none, .call 7 .pure [.t 16]⟩, ⟨.some 18, .none, .mv (.t 1)⟩, ⟨.some 19, .none, .call 7 .pure [.t 18]⟩, ⟨.some 0, .none, .mv (.t 17)⟩, ⟨.some 1, .none, .mv (.t 19)⟩]) (.seq (.rg false [⟨.some 21, .none, .mv (.t 0)⟩, ⟨.some 22, .none, .call 8 .pure [.t 21]⟩, ⟨.some 20, .none, .mv (.t 22)⟩, ⟨.some 23, .none, .ext (.t 20) 0⟩, ⟨.some 24, .none, .ext (.t 20) 1⟩, ⟨.some 7, .none, .mv (.t 23)⟩, ⟨.some 8, .none, .mv (.t 24)⟩]) (.seq (.seq (.rg false [⟨.some 25, .none, .mv (.t 0)⟩, ⟨.some 26, .none, .call 9 .pure [.t 25]⟩, ⟨.some 27, .none, .mv (.t 0)⟩, ⟨.some 28, .none, .call 10 .pure [.t 27]⟩, ⟨.some 29, .none, .beq true (.t 26) (.t 28)⟩, ⟨.some 30, .none, .mv (.t 29)⟩, ⟨.some 31, .some (30, false), .mv (.t 0)⟩, ⟨.some 32, .some (30, false), .mv (.t 1)⟩, ⟨.some 33, .some (30, false), .call 11 .pure [.t 31, .t 32]⟩, ⟨.some 34, .some (30, false), .mv (.t 0)⟩, ⟨.some 35, .some (30, false), .mv (.t 1)⟩, ⟨.some 36, .some (30, false), .call 12 .pure [.t 34, .t 35]⟩, ⟨.some 37, .some (30, false), .beq true (.t 33) (.t 36)⟩, ⟨.some 38, .none, .pick (.t 30) (.c (.bool true)) (.t 37)⟩, ⟨.some 39, .none, .mv (.t 38)⟩, ⟨.some 40, .some (39, false), .mv (.t 0)⟩, ⟨.some 41, .some (39, false), .mv (.t 0)⟩, ⟨.some 42, .some (39, false), .call 11 .pure [.t 40, .t 41]⟩, ⟨.some 43, .some (39, false), .un .not (.t 42)⟩, ⟨.some 44, .none, .pick (.t 39) (.c (.bool true)) (.t 43)⟩, ⟨.some 45, .none, .mv (.t 44)⟩, ⟨.some 46, .some (45, false), .call 13 .pure []⟩, ⟨.some 47, .some (45, false), .un .not (.t 46)⟩, ⟨.some 48, .none, .pick (.t 45) (.c (.bool true)) (.t 47)⟩]) (.cond (.t 48) (.seq (.rg false [⟨.some 6, .none, .mv (.c (.bool false))⟩]) .ret) .skip)) (.seq (.seq (.rg false [⟨.some 49, .none, .mv (.t 0)⟩, ⟨.some 50, .none, .lenL (.t 49)⟩, ⟨.some 51, .none, .mv (.c (.int .i64 0))⟩]) (.block 0 (.loop (.seq (.rg false [⟨.some 52, .none, .bin .lss (.t 51) (.t 50)⟩]) (.seq (.cond (.t 52) .skip (.exit 0)) (.seq (.block 1 (.seq (.rg false [⟨.some 53, .none, .ia 3 (.t 49) (.t 51)⟩, ⟨.some 54, .none, .ld (.some 3) (.t 53)⟩, ⟨.some 10, .none, .box (.c (.agg #[.string ⟨#[]⟩, .slice .none 0 0, .slice .none 0 0]))⟩, ⟨.none, .none, .st 3 (.t 10) (.t 54)⟩]) (.seq (.rg false [⟨.some 56, .none, .ld (.some 3) (.t 10)⟩, ⟨.some 57, .none, .mv (.t 2)⟩, ⟨.some 58, .none, .call 14 .pure [.t 56, .t 57]⟩, ⟨.some 55, .none, .mv (.t 58)⟩, ⟨.some 59, .none, .ext (.t 55) 0⟩, ⟨.some 60, .none, .ext (.t 55) 1⟩, ⟨.some 11, .none, .mv (.t 59)⟩, ⟨.some 12, .none, .mv (.t 60)⟩]) (.seq (.rg false [⟨.some 13, .none, .mv (.c (.int .i64 (-1)))⟩]) (.seq (.seq (.rg false [⟨.some 61, .none, .fa 1 (.t 10)⟩, ⟨.some 62, .none, .ld .none (.t 61)⟩, ⟨.some 63, .none, .lenL (.t 62)⟩, ⟨.some 64, .none, .bin .sub (.t 63) (.c (.int .i64 1))⟩, ⟨.some 14, .none, .mv (.t 64)⟩]) (.block 2 (.loop (.seq (.seq (.rg false [⟨.some 65, .none, .mv (.t 14)⟩, ⟨.some 66, .none, .bin .geq (.t 65) (.c (.int .i64 0))⟩]) (.cond (.t 66) .skip (.exit 2))) (.seq (.block 3 (.seq (.rg false [⟨.some 69, .none, .fa 1 (.t 10)⟩, ⟨.some 70, .none, .ld .none (.t 69)⟩, ⟨.some 71, .none, .mv (.t 14)⟩, ⟨.some 72, .none, .ia 1 (.t 70) (.t 71)⟩, ⟨.some 73, .none, .ld .none (.t 72)⟩, ⟨.some 74, .none, .mv (.t 2)⟩, ⟨.some 75, .none, .bin .eql (.t 73) (.t 74)⟩]) (.cond (.t 75) (.rg false [⟨.some 76, .none, .mv (.t 14)⟩, ⟨.some 13, .none, .mv (.t 76)⟩]) .skip))) (.rg false [⟨.some 67, .none, .mv (.t 14)⟩, ⟨.some 68, .none, .bin .sub (.t 67) (.c (.int .i64 1))⟩, ⟨.some 14, .none, .mv (.t 68)⟩])))))) (.seq (.rg false [⟨.some 77, .none, .mv (.t 13)⟩, ⟨.some 78, .none, .bin .geq (.t 77) (.c (.int .i64 0))⟩, ⟨.some 79, .none, .mv (.t 78)⟩, ⟨.some 80, .some (79, true), .mv (.t 13)⟩, ⟨.some 81, .some (79, true), .fa 2 (.t 10)⟩, ⟨.some 82, .some (79, true), .ld .none (.t 81)⟩, ⟨.some 83, .some (79, true), .lenL (.t 82)⟩, ⟨.some 84, .some (79, true), .bin .lss (.t 80) (.t 83)⟩, ⟨.some 85, .none, .pick (.t 79) (.t 84) (.c (.bool false))⟩, ⟨.some 86, .none, .mv (.t 85)⟩, ⟨.some 87, .some (86, true), .mv (.t 12)⟩, ⟨.some 88, .some (86, true), .bin .neq (.t 87) (.c (.int .i64 0))⟩, ⟨.some 89, .some (86, true), .mv (.t 88)⟩, ⟨.some 90, .some (89, false), .mv (.t 11)⟩, ⟨.some 91, .some (89, false), .fa 2 (.t 10)⟩, ⟨.some 92, .some (89, false), .ld .none (.t 91)⟩, ⟨.some 93, .some (89, false), .mv (.t 13)⟩, ⟨.some 94, .some (89, false), .ia 1 (.t 92) (.t 93)⟩, ⟨.some 95, .some (89, false), .ld .none (.t 94)⟩, ⟨.some 96, .some (89, false), .bin .neq (.t 90) (.t 95)⟩, ⟨.some 97, .some (86, true), .pick (.t 89) (.c (.bool true)) (.t 96)⟩, ⟨.some 98, .none, .pick (.t 86) (.t 97) (.c (.bool false))⟩, ⟨.some 99, .none, .mv (.t 98)⟩, ⟨.some 100, .some (99, false), .mv (.t 13)⟩, ⟨.some 101, .some (99, false), .bin .lss (.t 100) (.c (.int .i64 0))⟩, ⟨.some 102, .some (99, false), .mv (.t 101)⟩, ⟨.some 103, .some (102, false), .mv (.t 13)⟩, ⟨.some 104, .some (102, false), .fa 2 (.t 10)⟩, ⟨.some 105, .some (102, false), .ld .none (.t 104)⟩, ⟨.some 106, .some (102, false), .lenL (.t 105)⟩, ⟨.some 107, .some (102, false), .bin .geq (.t 103) (.t 106)⟩, ⟨.some 108, .some (99, false), .pick (.t 102) (.c (.bool true)) (.t 107)⟩, ⟨.some 109, .some (99, false), .mv (.t 108)⟩, ⟨.some 110, .some (109, true), .mv (.t 12)⟩, ⟨.some 111, .some (109, true), .bin .neq (.t 110) (.c (.int .i64 9))⟩, ⟨.some 112, .some (109, true), .mv (.t 111)⟩, ⟨.some 113, .some (112, false), .mv (.t 11)⟩, ⟨.some 114, .some (112, false), .bin .neq (.t 113) (.c (.string ⟨#[]⟩))⟩, ⟨.some 115, .some (109, true), .pick (.t 112) (.c (.bool true)) (.t 114)⟩, ⟨.some 116, .some (99, false), .pick (.t 109) (.t 115) (.c (.bool false))⟩, ⟨.some 117, .none, .pick (.t 99) (.c (.bool true)) (.t 116)⟩]) (.cond (.t 117) (.seq (.rg false [⟨.some 6, .none, .mv (.c (.bool false))⟩]) .ret) .skip))))))) (.rg false [⟨.some 118, .none, .bin .add (.t 51) (.c (.int .i64 1))⟩, ⟨.some 51, .none, .mv (.t 118)⟩]))))))) (.seq (.seq (.rg false [⟨.some 119, .none, .mv (.t 0)⟩, ⟨.some 120, .none, .call 10 .pure [.t 119]⟩, ⟨.some 121, .none, .un .not (.t 120)⟩]) (.cond (.t 121) (.seq (.rg false [⟨.some 122, .none, .mv (.t 8)⟩, ⟨.some 123, .none, .bin .eql (.t 122) (.c (.int .i64 1))⟩, ⟨.some 124, .none, .mv (.t 123)⟩, ⟨.some 125, .some (124, true), .mv (.t 7)⟩, ⟨.some 126, .some (124, true), .bin .eql (.t 125) (.c (.string ⟨#[]⟩))⟩, ⟨.some 127, .none, .pick (.t 124) (.t 126) (.c (.bool false))⟩, ⟨.some 6, .none, .mv (.t 127)⟩]) .ret) .skip)) (.seq (.rg false [⟨.some 128, .none, .mv (.t 0)⟩, ⟨.some 129, .none, .call 15 .pure [.t 128]⟩, ⟨.some 15, .none, .mv (.t 129)⟩]) (.seq (.seq (.rg false [⟨.some 130, .none, .mv (.t 15)⟩, ⟨.some 131, .none, .lenS (.t 130)⟩, ⟨.some 132, .none, .bin .gtr (.t 131) (.c (.int .i64 8192))⟩]) (.cond (.t 132) (.seq (.rg false [⟨.some 133, .none, .mv (.t 8)⟩, ⟨.some 134, .none, .bin .eql (.t 133) (.c (.int .i64 2))⟩, ⟨.some 135, .none, .mv (.t 134)⟩, ⟨.some 136, .some (135, true), .mv (.t 7)⟩, ⟨.some 137, .some (135, true), .bin .eql (.t 136) (.c (.string ⟨#[]⟩))⟩, ⟨.some 138, .none, .pick (.t 135) (.t 137) (.c (.bool false))⟩, ⟨.some 6, .none, .mv (.t 138)⟩]) .ret) .skip)) (.seq (.rg false [⟨.some 139, .none, .mv (.t 8)⟩, ⟨.some 140, .none, .bin .eql (.t 139) (.c (.int .i64 0))⟩, ⟨.some 141, .none, .mv (.t 140)⟩, ⟨.some 142, .some (141, true), .mv (.t 7)⟩, ⟨.some 143, .some (141, true), .mv (.t 15)⟩, ⟨.some 144, .some (141, true), .bin .eql (.t 142) (.t 143)⟩, ⟨.some 145, .none, .pick (.t 141) (.t 144) (.c (.bool false))⟩, ⟨.some 6, .none, .mv (.t 145)⟩]) .ret))))))))))
def ldl : List (Nat × Def) := [(1, d1)]
section
variable {env : Nat → Option Def} {fr : Fr} {σ σ' σ'' : St} {K : Fr → St → Prop} {Q : X → Fr → St → Prop} {p : PV} {bs : List UInt8}
theorem fewD_sm (d : Df) : (fewD d).Sm := by
  refine ⟨?_, ⟨?_, ?_⟩, ⟨?_, ?_⟩⟩
  · show (d.ty.take 70).length ≤ _
    rw [List.length_take]; omega
  · show ((d.ks.take 66).map (List.take 70)).length ≤ _
    rw [List.length_map, List.length_take]; omega
  · intro k hk
    obtain ⟨x, _, rfl⟩ := List.mem_map.1 (show k ∈ (d.ks.take 66).map (List.take 70) from hk)
    show (x.take 70).length ≤ _
    rw [List.length_take]; omega
  · show ((d.vs.take 66).map (List.take 205)).length ≤ _
    rw [List.length_map, List.length_take]; omega
  · intro k hk
    obtain ⟨x, _, rfl⟩ := List.mem_map.1 (show k ∈ (d.vs.take 66).map (List.take 205) from hk)
    show (x.take 205).length ≤ _
    rw [List.length_take]; omega
theorem fewB_sms (l : List Df) : Sms (fewB l) := by
  refine ⟨?_, fun d hd => ?_⟩
  · unfold fewB; rw [List.length_map, List.length_take]; omega
  · obtain ⟨x, _, rfl⟩ := List.mem_map.1 (show d ∈ (l.take 66).map fewD from hd)
    exact fewD_sm x
/-- The first place of a key among those from i on, or -1. -/
def AtI (ks : List (List UInt8)) (k : List UInt8) (i : Nat) (a : Int) : Prop :=
  (a = -1 ∧ ∀ j, i ≤ j → j < ks.length → (ks[j]? == some k) = false) ∨ ∃ n : Nat, a = n ∧ i ≤ n ∧ n < ks.length ∧ (ks[n]? == some k) = true ∧ ∀ j, i ≤ j → j < n → (ks[j]? == some k) = false
theorem AtI.end_ (ks : List (List UInt8)) (k : List UInt8) : AtI ks k ks.length (-1) := .inl ⟨rfl, fun j h1 h2 => by omega⟩
theorem AtI.hit {ks : List (List UInt8)} {k : List UInt8} {i : Nat} (hi : i < ks.length) (h : (ks[i]? == some k) = true) : AtI ks k i i := .inr ⟨i, rfl, Nat.le_refl _, hi, h, fun j h1 h2 => by omega⟩
theorem AtI.miss {ks : List (List UInt8)} {k : List UInt8} {i : Nat} {a : Int} (h : (ks[i]? == some k) = false) (ha : AtI ks k (i + 1) a) : AtI ks k i a := by
  rcases ha with ⟨h1, h2⟩ | ⟨n, h1, h2, h3, h4, h5⟩
  · refine .inl ⟨h1, fun j h3 h4 => ?_⟩
    by_cases hj : j = i
    · rw [hj]; exact h
    · exact h2 j (by omega) h4
  · refine .inr ⟨n, h1, by omega, h3, h4, fun j h6 h7 => ?_⟩
    by_cases hj : j = i
    · rw [hj]; exact h
    · exact h5 j (by omega) h7
theorem AtI.idx {ks : List (List UInt8)} {k : List UInt8} {a : Int} (h : AtI ks k 0 a) : a = idxT ks k := by
  unfold idxT
  rcases h with ⟨h1, h2⟩ | ⟨n, h1, _, h3, h4, h5⟩
  · rw [h1, found_none (p := fun i => ks[i]? == some k) fun j hj => h2 j (Nat.zero_le _) hj]
  · rw [h1, found_hit (p := fun i => ks[i]? == some k) h3 (fun j hj => h5 j (Nat.zero_le _) hj) h4]
theorem a1 (A : Has law env) (Da : Has lda env) (B : Has ldb env) (C : Has ldc env) (Dd : Has ldd env) (De : Has lde env) (Le : Has lle env) (F : Has ldf env) (G : Has ldg env) (Hh : Has ldh env) (I : Has ldi env) (W : Has lbw env) (S : Has lbs env) (N : Has lbl env) (J : Has ldj env) (Kk : Has ldk env) (La : Has ldl env)
    (hal : AV env 13 [] = some (.sc (.bool true))) {l m : List Df} (hl : l.length ≤ 9223372036854775807) (hm : m.length ≤ 9223372036854775807) (key : List UInt8) : AV env 1 [.sl (dfs l), .sl (dfs m), txt key] = some (.sc (.bool true)) := by
  have g1 := a7 Kk hl
  have g2 := a7 Kk hm
  have s1 := fewB_sms l
  have s2 := fewB_sms m
  generalize fewB l = l at *
  generalize fewB m = m at *
  have h8 := a8 A Da B C W S N J s1
  have h9 := a9 A Da B C s1
  have h10 := a10 Le F Hh s1
  have h11 := a11 Dd (b := m) s1
  have h12 := a12 G (b := m) s1
  have h13 := a11 Dd (b := l) s1
  rw [decide_eq_true (rfl : l = l)] at h13
  have hln := dfs_len l
  refine AV_wp (La (1, d1) (by simp [ldl])) rfl ?_
  (repeat' first
    | refine w_seq ?_ | refine w_rg ?_ | refine wo_nil ?_ | refine g_skU ?_
    | ((first | apply s_plain | apply s_void | apply s_guard); · simp only [go_sem, Nat.reduceEqDiff, Nat.reduceAdd, Nat.reduceLeDiff, g1, g2, h8, h9, h10, h11, h12, h13, hal, bne_self_eq_false, beq_self_eq_true, Bool.or_self]; (first | done | rfl))
    | ((first | apply g_T | apply g_F); · intro hb; simp only [go_sem, Nat.reduceEqDiff, Nat.reduceAdd, Nat.reduceLeDiff, g1, g2, h8, h9, h10, h11, h12, h13, hal, bne_self_eq_false, beq_self_eq_true, Bool.or_self, hb]; (first | done | rfl))
    | ((first | apply g_gT | apply g_gF); · intro hb hc; simp only [go_sem, Nat.reduceEqDiff, Nat.reduceAdd, Nat.reduceLeDiff, g1, g2, h8, h9, h10, h11, h12, h13, hal, bne_self_eq_false, beq_self_eq_true, Bool.or_self, hb, hc]; (first | done | rfl))
    | refine g_skT ?_ | refine g_skF ?_
    | ((first | apply g_goT | apply g_goF); · simp only [go_sem, Nat.reduceEqDiff, Nat.reduceAdd, Nat.reduceLeDiff, g1, g2, h8, h9, h10, h11, h12, h13, hal, bne_self_eq_false, beq_self_eq_true, Bool.or_self]; (first | done | rfl))
    | (refine w_condT ?_ ?_; · simp only [go_sem, Nat.reduceEqDiff, Nat.reduceAdd, Nat.reduceLeDiff, g1, g2, h8, h9, h10, h11, h12, h13, hal, bne_self_eq_false, beq_self_eq_true, Bool.or_self]; (first | done | rfl))
    | (refine w_condF ?_ ?_; · simp only [go_sem, Nat.reduceEqDiff, Nat.reduceAdd, Nat.reduceLeDiff, g1, g2, h8, h9, h10, h11, h12, h13, hal, bne_self_eq_false, beq_self_eq_true, Bool.or_self]; (first | done | rfl))
    | refine w_skip ?_ | refine w_exit ?_ | refine w_ret ?_
    )
  (repeat' first
    | refine w_seq ?_ | refine w_rg ?_ | refine wo_nil ?_ | refine g_skU ?_
    | ((first | apply s_plain | apply s_void | apply s_guard); · simp only [go_sem, Nat.reduceEqDiff, Nat.reduceAdd, Nat.reduceLeDiff, hln]; (first | done | rfl))
    | ((first | apply g_T | apply g_F); · intro hb; simp only [go_sem, Nat.reduceEqDiff, Nat.reduceAdd, Nat.reduceLeDiff, hln, hb]; (first | done | rfl))
    | ((first | apply g_gT | apply g_gF); · intro hb hc; simp only [go_sem, Nat.reduceEqDiff, Nat.reduceAdd, Nat.reduceLeDiff, hln, hb, hc]; (first | done | rfl))
    | refine g_skT ?_ | refine g_skF ?_
    | ((first | apply g_goT | apply g_goF); · simp only [go_sem, Nat.reduceEqDiff, Nat.reduceAdd, Nat.reduceLeDiff, hln]; (first | done | rfl))
    )
  refine w_block (w_rangeF (tc := 52) (ti := 51) (tn := 50) (tk := 118) l.length (by have := s1.1; omega) (fun i fr σ => True) ⟨by decide, rfl, rfl⟩ (fun _ _ _ _ h => ⟨h, h, h⟩) trivial (by simp only [go_sem, Nat.reduceEqDiff, Nat.reduceAdd, Nat.reduceLeDiff]; first | done | rfl) (by simp only [go_sem, Nat.reduceEqDiff, Nat.reduceAdd, Nat.reduceLeDiff, hln]; first | done | rfl) ?_ ?_)
  · rintro i fr1 σ1 hi - hti hfr
    have f0_2 := hfr 2 rfl; have f0_49 := hfr 49 rfl; have f0_50 := hfr 50 rfl; try (simp only [go_sem, Nat.reduceEqDiff, Nat.reduceAdd, Nat.reduceLeDiff] at f0_2); try (simp only [go_sem, Nat.reduceEqDiff, Nat.reduceAdd, Nat.reduceLeDiff] at f0_49); try (simp only [go_sem, Nat.reduceEqDiff, Nat.reduceAdd, Nat.reduceLeDiff] at f0_50)
    have hqd := List.getElem?_eq_getElem hi
    have hx := dfs_at hqd
    have sm := s1.2 _ (List.getElem_mem hi)
    have e1 : (0 : Int) ≤ (i : Int) ∧ (i : Int) < (l.length : Int) := by omega
    generalize hd : l[i] = d at hx sm
    have h14 := a14 B De sm key
    have hll := txts_len d.ks
    have hlv := txts_len d.vs
    have hkn := sm.ks.1
    have hvn := sm.vs.1
    have w0 : IntKind.i64.wrap ((d.ks.length : Int) - 1) = (d.ks.length : Int) - 1 := by rw [IntKind.wrap_i64]; omega
    unfold df at hx h14
    refine w_block ?_
    (repeat' first
    | refine w_seq ?_ | refine w_rg ?_ | refine wo_nil ?_ | refine g_skU ?_
    | ((first | apply s_plain | apply s_void | apply s_guard); · simp only [go_sem, Nat.reduceEqDiff, Nat.reduceAdd, Nat.reduceLeDiff, f0_2, f0_49, f0_50, hti, e1, hln, Int.toNat_natCast, hx, h14, hll, w0, splice, fillP, fillE, List.modify_zero_cons, List.replicate_succ, List.replicate_zero, List.set_cons_zero, List.drop_zero]; (first | done | rfl))
    | ((first | apply g_T | apply g_F); · intro hb; simp only [go_sem, Nat.reduceEqDiff, Nat.reduceAdd, Nat.reduceLeDiff, f0_2, f0_49, f0_50, hti, e1, hln, Int.toNat_natCast, hx, h14, hll, w0, splice, fillP, fillE, List.modify_zero_cons, List.replicate_succ, List.replicate_zero, List.set_cons_zero, List.drop_zero, hb]; (first | done | rfl))
    | ((first | apply g_gT | apply g_gF); · intro hb hc; simp only [go_sem, Nat.reduceEqDiff, Nat.reduceAdd, Nat.reduceLeDiff, f0_2, f0_49, f0_50, hti, e1, hln, Int.toNat_natCast, hx, h14, hll, w0, splice, fillP, fillE, List.modify_zero_cons, List.replicate_succ, List.replicate_zero, List.set_cons_zero, List.drop_zero, hb, hc]; (first | done | rfl))
    | refine g_skT ?_ | refine g_skF ?_
    | ((first | apply g_goT | apply g_goF); · simp only [go_sem, Nat.reduceEqDiff, Nat.reduceAdd, Nat.reduceLeDiff, f0_2, f0_49, f0_50, hti, e1, hln, Int.toNat_natCast, hx, h14, hll, w0, splice, fillP, fillE, List.modify_zero_cons, List.replicate_succ, List.replicate_zero, List.set_cons_zero, List.drop_zero]; (first | done | rfl))
    )
    refine w_block (w_loopF (fun n fr σ => ∃ a : Int, n ≤ d.ks.length ∧ fr 14 = .sc (.int .i64 ((n : Int) - 1)) ∧ fr 13 = .sc (.int .i64 a) ∧ AtI d.ks key n a ∧ σ.m 2000010 (σ1.c 2000010) = some ⟨3, [df d], true, true⟩) ?_ d.ks.length ?_)
    · rintro n fr2 σ2 ⟨a, hn, f14, f13, hat, hm2⟩ hfr
      have e1_0 := hfr 0 rfl; have e1_2 := hfr 2 rfl; have e1_6 := hfr 6 rfl; have e1_7 := hfr 7 rfl; have e1_8 := hfr 8 rfl; have e1_10 := hfr 10 rfl; have e1_11 := hfr 11 rfl; have e1_12 := hfr 12 rfl; have e1_49 := hfr 49 rfl; have e1_50 := hfr 50 rfl; have e1_51 := hfr 51 rfl; have e1_52 := hfr 52 rfl; have e1_53 := hfr 53 rfl; have e1_54 := hfr 54 rfl; have e1_55 := hfr 55 rfl; have e1_56 := hfr 56 rfl; have e1_57 := hfr 57 rfl; have e1_58 := hfr 58 rfl; have e1_59 := hfr 59 rfl; have e1_60 := hfr 60 rfl; have e1_61 := hfr 61 rfl; have e1_62 := hfr 62 rfl; have e1_63 := hfr 63 rfl; have e1_64 := hfr 64 rfl; try (simp only [go_sem, Nat.reduceEqDiff, Nat.reduceAdd, Nat.reduceLeDiff] at e1_0); try (simp only [go_sem, Nat.reduceEqDiff, Nat.reduceAdd, Nat.reduceLeDiff] at e1_2); try (simp only [go_sem, Nat.reduceEqDiff, Nat.reduceAdd, Nat.reduceLeDiff] at e1_6); try (simp only [go_sem, Nat.reduceEqDiff, Nat.reduceAdd, Nat.reduceLeDiff] at e1_7); try (simp only [go_sem, Nat.reduceEqDiff, Nat.reduceAdd, Nat.reduceLeDiff] at e1_8); try (simp only [go_sem, Nat.reduceEqDiff, Nat.reduceAdd, Nat.reduceLeDiff] at e1_10); try (simp only [go_sem, Nat.reduceEqDiff, Nat.reduceAdd, Nat.reduceLeDiff] at e1_11); try (simp only [go_sem, Nat.reduceEqDiff, Nat.reduceAdd, Nat.reduceLeDiff] at e1_12); try (simp only [go_sem, Nat.reduceEqDiff, Nat.reduceAdd, Nat.reduceLeDiff] at e1_49); try (simp only [go_sem, Nat.reduceEqDiff, Nat.reduceAdd, Nat.reduceLeDiff] at e1_50); try (simp only [go_sem, Nat.reduceEqDiff, Nat.reduceAdd, Nat.reduceLeDiff] at e1_51); try (simp only [go_sem, Nat.reduceEqDiff, Nat.reduceAdd, Nat.reduceLeDiff] at e1_52); try (simp only [go_sem, Nat.reduceEqDiff, Nat.reduceAdd, Nat.reduceLeDiff] at e1_53); try (simp only [go_sem, Nat.reduceEqDiff, Nat.reduceAdd, Nat.reduceLeDiff] at e1_54); try (simp only [go_sem, Nat.reduceEqDiff, Nat.reduceAdd, Nat.reduceLeDiff] at e1_55); try (simp only [go_sem, Nat.reduceEqDiff, Nat.reduceAdd, Nat.reduceLeDiff] at e1_56); try (simp only [go_sem, Nat.reduceEqDiff, Nat.reduceAdd, Nat.reduceLeDiff] at e1_57); try (simp only [go_sem, Nat.reduceEqDiff, Nat.reduceAdd, Nat.reduceLeDiff] at e1_58); try (simp only [go_sem, Nat.reduceEqDiff, Nat.reduceAdd, Nat.reduceLeDiff] at e1_59); try (simp only [go_sem, Nat.reduceEqDiff, Nat.reduceAdd, Nat.reduceLeDiff] at e1_60); try (simp only [go_sem, Nat.reduceEqDiff, Nat.reduceAdd, Nat.reduceLeDiff] at e1_61); try (simp only [go_sem, Nat.reduceEqDiff, Nat.reduceAdd, Nat.reduceLeDiff] at e1_62); try (simp only [go_sem, Nat.reduceEqDiff, Nat.reduceAdd, Nat.reduceLeDiff] at e1_63); try (simp only [go_sem, Nat.reduceEqDiff, Nat.reduceAdd, Nat.reduceLeDiff] at e1_64)
      have z10 : fr2 10 = .bx 2000010 (σ1.c 2000010) 3 0 0 := by rw [hfr 10 rfl]; simp only [go_sem, Nat.reduceEqDiff, Nat.reduceAdd, Nat.reduceLeDiff]
      unfold df at hm2
      cases n with
      | zero =>
        have hg : decide (((0 : Nat) : Int) - 1 ≥ 0) = false := by decide
        (repeat' first
    | refine w_seq ?_ | refine w_rg ?_ | refine wo_nil ?_ | refine g_skU ?_
    | ((first | apply s_plain | apply s_void | apply s_guard); · simp only [go_sem, Nat.reduceEqDiff, Nat.reduceAdd, Nat.reduceLeDiff, e1_0, e1_2, e1_6, e1_7, e1_8, e1_10, e1_11, e1_12, e1_49, e1_50, e1_51, e1_52, e1_53, e1_54, e1_55, e1_56, e1_57, e1_58, e1_59, e1_60, e1_61, e1_62, e1_63, e1_64, f14, hg]; (first | done | rfl))
    | ((first | apply g_T | apply g_F); · intro hb; simp only [go_sem, Nat.reduceEqDiff, Nat.reduceAdd, Nat.reduceLeDiff, e1_0, e1_2, e1_6, e1_7, e1_8, e1_10, e1_11, e1_12, e1_49, e1_50, e1_51, e1_52, e1_53, e1_54, e1_55, e1_56, e1_57, e1_58, e1_59, e1_60, e1_61, e1_62, e1_63, e1_64, f14, hg, hb]; (first | done | rfl))
    | ((first | apply g_gT | apply g_gF); · intro hb hc; simp only [go_sem, Nat.reduceEqDiff, Nat.reduceAdd, Nat.reduceLeDiff, e1_0, e1_2, e1_6, e1_7, e1_8, e1_10, e1_11, e1_12, e1_49, e1_50, e1_51, e1_52, e1_53, e1_54, e1_55, e1_56, e1_57, e1_58, e1_59, e1_60, e1_61, e1_62, e1_63, e1_64, f14, hg, hb, hc]; (first | done | rfl))
    | refine g_skT ?_ | refine g_skF ?_
    | ((first | apply g_goT | apply g_goF); · simp only [go_sem, Nat.reduceEqDiff, Nat.reduceAdd, Nat.reduceLeDiff, e1_0, e1_2, e1_6, e1_7, e1_8, e1_10, e1_11, e1_12, e1_49, e1_50, e1_51, e1_52, e1_53, e1_54, e1_55, e1_56, e1_57, e1_58, e1_59, e1_60, e1_61, e1_62, e1_63, e1_64, f14, hg]; (first | done | rfl))
    | (refine w_condT ?_ ?_; · simp only [go_sem, Nat.reduceEqDiff, Nat.reduceAdd, Nat.reduceLeDiff, e1_0, e1_2, e1_6, e1_7, e1_8, e1_10, e1_11, e1_12, e1_49, e1_50, e1_51, e1_52, e1_53, e1_54, e1_55, e1_56, e1_57, e1_58, e1_59, e1_60, e1_61, e1_62, e1_63, e1_64, f14, hg]; (first | done | rfl))
    | (refine w_condF ?_ ?_; · simp only [go_sem, Nat.reduceEqDiff, Nat.reduceAdd, Nat.reduceLeDiff, e1_0, e1_2, e1_6, e1_7, e1_8, e1_10, e1_11, e1_12, e1_49, e1_50, e1_51, e1_52, e1_53, e1_54, e1_55, e1_56, e1_57, e1_58, e1_59, e1_60, e1_61, e1_62, e1_63, e1_64, f14, hg]; (first | done | rfl))
    | refine w_skip ?_ | refine w_exit ?_ | refine w_ret ?_
    )
        try simp only [if_true]
        have hai := hat.idx
        subst hai
        by_cases hc : idxT d.ks key < 0 ∨ idxT d.ks key ≥ d.vs.length
        · have hg : getD d key = ([], 9) := by unfold getD; rw [if_pos hc]
          by_cases hc1 : idxT d.ks key < 0
          · have c1 : decide (idxT d.ks key ≥ 0) = false := by simpa using hc1
            have c2 : decide (idxT d.ks key < 0) = true := by simpa using hc1
            (repeat' first
    | refine w_seq ?_ | refine w_rg ?_ | refine wo_nil ?_ | refine g_skU ?_
    | ((first | apply s_plain | apply s_void | apply s_guard); · simp only [go_sem, Nat.reduceEqDiff, Nat.reduceAdd, Nat.reduceLeDiff, e1_0, e1_2, e1_6, e1_7, e1_8, e1_10, e1_11, e1_12, e1_49, e1_50, e1_51, e1_52, e1_53, e1_54, e1_55, e1_56, e1_57, e1_58, e1_59, e1_60, e1_61, e1_62, e1_63, e1_64, f13, z10, hm2, hlv, c1, c2, hg, ba_data, ba_size, ba_toList, ba_extract, ba_append, List.toList_toArray, bne_self_eq_false, beq_self_eq_true]; (first | done | rfl))
    | ((first | apply g_T | apply g_F); · intro hb; simp only [go_sem, Nat.reduceEqDiff, Nat.reduceAdd, Nat.reduceLeDiff, e1_0, e1_2, e1_6, e1_7, e1_8, e1_10, e1_11, e1_12, e1_49, e1_50, e1_51, e1_52, e1_53, e1_54, e1_55, e1_56, e1_57, e1_58, e1_59, e1_60, e1_61, e1_62, e1_63, e1_64, f13, z10, hm2, hlv, c1, c2, hg, ba_data, ba_size, ba_toList, ba_extract, ba_append, List.toList_toArray, bne_self_eq_false, beq_self_eq_true, hb]; (first | done | rfl))
    | ((first | apply g_gT | apply g_gF); · intro hb hc; simp only [go_sem, Nat.reduceEqDiff, Nat.reduceAdd, Nat.reduceLeDiff, e1_0, e1_2, e1_6, e1_7, e1_8, e1_10, e1_11, e1_12, e1_49, e1_50, e1_51, e1_52, e1_53, e1_54, e1_55, e1_56, e1_57, e1_58, e1_59, e1_60, e1_61, e1_62, e1_63, e1_64, f13, z10, hm2, hlv, c1, c2, hg, ba_data, ba_size, ba_toList, ba_extract, ba_append, List.toList_toArray, bne_self_eq_false, beq_self_eq_true, hb, hc]; (first | done | rfl))
    | refine g_skT ?_ | refine g_skF ?_
    | ((first | apply g_goT | apply g_goF); · simp only [go_sem, Nat.reduceEqDiff, Nat.reduceAdd, Nat.reduceLeDiff, e1_0, e1_2, e1_6, e1_7, e1_8, e1_10, e1_11, e1_12, e1_49, e1_50, e1_51, e1_52, e1_53, e1_54, e1_55, e1_56, e1_57, e1_58, e1_59, e1_60, e1_61, e1_62, e1_63, e1_64, f13, z10, hm2, hlv, c1, c2, hg, ba_data, ba_size, ba_toList, ba_extract, ba_append, List.toList_toArray, bne_self_eq_false, beq_self_eq_true]; (first | done | rfl))
    | (refine w_condT ?_ ?_; · simp only [go_sem, Nat.reduceEqDiff, Nat.reduceAdd, Nat.reduceLeDiff, e1_0, e1_2, e1_6, e1_7, e1_8, e1_10, e1_11, e1_12, e1_49, e1_50, e1_51, e1_52, e1_53, e1_54, e1_55, e1_56, e1_57, e1_58, e1_59, e1_60, e1_61, e1_62, e1_63, e1_64, f13, z10, hm2, hlv, c1, c2, hg, ba_data, ba_size, ba_toList, ba_extract, ba_append, List.toList_toArray, bne_self_eq_false, beq_self_eq_true]; (first | done | rfl))
    | (refine w_condF ?_ ?_; · simp only [go_sem, Nat.reduceEqDiff, Nat.reduceAdd, Nat.reduceLeDiff, e1_0, e1_2, e1_6, e1_7, e1_8, e1_10, e1_11, e1_12, e1_49, e1_50, e1_51, e1_52, e1_53, e1_54, e1_55, e1_56, e1_57, e1_58, e1_59, e1_60, e1_61, e1_62, e1_63, e1_64, f13, z10, hm2, hlv, c1, c2, hg, ba_data, ba_size, ba_toList, ba_extract, ba_append, List.toList_toArray, bne_self_eq_false, beq_self_eq_true]; (first | done | rfl))
    | refine w_skip ?_ | refine w_exit ?_ | refine w_ret ?_
    )
            trivial
          · have hc2 : idxT d.ks key ≥ d.vs.length := by rcases hc with h | h; exact absurd h hc1; exact h
            have c1 : decide (idxT d.ks key ≥ 0) = true := by simp; omega
            have c2 : decide (idxT d.ks key < 0) = false := by simp; omega
            have c3 : decide (idxT d.ks key < (d.vs.length : Int)) = false := by simp; omega
            have c4 : decide (idxT d.ks key ≥ (d.vs.length : Int)) = true := by simp; omega
            (repeat' first
    | refine w_seq ?_ | refine w_rg ?_ | refine wo_nil ?_ | refine g_skU ?_
    | ((first | apply s_plain | apply s_void | apply s_guard); · simp only [go_sem, Nat.reduceEqDiff, Nat.reduceAdd, Nat.reduceLeDiff, e1_0, e1_2, e1_6, e1_7, e1_8, e1_10, e1_11, e1_12, e1_49, e1_50, e1_51, e1_52, e1_53, e1_54, e1_55, e1_56, e1_57, e1_58, e1_59, e1_60, e1_61, e1_62, e1_63, e1_64, f13, z10, hm2, hlv, c1, c2, c3, c4, hg, ba_data, ba_size, ba_toList, ba_extract, ba_append, List.toList_toArray, bne_self_eq_false, beq_self_eq_true]; (first | done | rfl))
    | ((first | apply g_T | apply g_F); · intro hb; simp only [go_sem, Nat.reduceEqDiff, Nat.reduceAdd, Nat.reduceLeDiff, e1_0, e1_2, e1_6, e1_7, e1_8, e1_10, e1_11, e1_12, e1_49, e1_50, e1_51, e1_52, e1_53, e1_54, e1_55, e1_56, e1_57, e1_58, e1_59, e1_60, e1_61, e1_62, e1_63, e1_64, f13, z10, hm2, hlv, c1, c2, c3, c4, hg, ba_data, ba_size, ba_toList, ba_extract, ba_append, List.toList_toArray, bne_self_eq_false, beq_self_eq_true, hb]; (first | done | rfl))
    | ((first | apply g_gT | apply g_gF); · intro hb hc; simp only [go_sem, Nat.reduceEqDiff, Nat.reduceAdd, Nat.reduceLeDiff, e1_0, e1_2, e1_6, e1_7, e1_8, e1_10, e1_11, e1_12, e1_49, e1_50, e1_51, e1_52, e1_53, e1_54, e1_55, e1_56, e1_57, e1_58, e1_59, e1_60, e1_61, e1_62, e1_63, e1_64, f13, z10, hm2, hlv, c1, c2, c3, c4, hg, ba_data, ba_size, ba_toList, ba_extract, ba_append, List.toList_toArray, bne_self_eq_false, beq_self_eq_true, hb, hc]; (first | done | rfl))
    | refine g_skT ?_ | refine g_skF ?_
    | ((first | apply g_goT | apply g_goF); · simp only [go_sem, Nat.reduceEqDiff, Nat.reduceAdd, Nat.reduceLeDiff, e1_0, e1_2, e1_6, e1_7, e1_8, e1_10, e1_11, e1_12, e1_49, e1_50, e1_51, e1_52, e1_53, e1_54, e1_55, e1_56, e1_57, e1_58, e1_59, e1_60, e1_61, e1_62, e1_63, e1_64, f13, z10, hm2, hlv, c1, c2, c3, c4, hg, ba_data, ba_size, ba_toList, ba_extract, ba_append, List.toList_toArray, bne_self_eq_false, beq_self_eq_true]; (first | done | rfl))
    | (refine w_condT ?_ ?_; · simp only [go_sem, Nat.reduceEqDiff, Nat.reduceAdd, Nat.reduceLeDiff, e1_0, e1_2, e1_6, e1_7, e1_8, e1_10, e1_11, e1_12, e1_49, e1_50, e1_51, e1_52, e1_53, e1_54, e1_55, e1_56, e1_57, e1_58, e1_59, e1_60, e1_61, e1_62, e1_63, e1_64, f13, z10, hm2, hlv, c1, c2, c3, c4, hg, ba_data, ba_size, ba_toList, ba_extract, ba_append, List.toList_toArray, bne_self_eq_false, beq_self_eq_true]; (first | done | rfl))
    | (refine w_condF ?_ ?_; · simp only [go_sem, Nat.reduceEqDiff, Nat.reduceAdd, Nat.reduceLeDiff, e1_0, e1_2, e1_6, e1_7, e1_8, e1_10, e1_11, e1_12, e1_49, e1_50, e1_51, e1_52, e1_53, e1_54, e1_55, e1_56, e1_57, e1_58, e1_59, e1_60, e1_61, e1_62, e1_63, e1_64, f13, z10, hm2, hlv, c1, c2, c3, c4, hg, ba_data, ba_size, ba_toList, ba_extract, ba_append, List.toList_toArray, bne_self_eq_false, beq_self_eq_true]; (first | done | rfl))
    | refine w_skip ?_ | refine w_exit ?_ | refine w_ret ?_
    )
            trivial
        · have hg : getD d key = (d.vs.getD (idxT d.ks key).toNat [], 0) := by unfold getD; rw [if_neg hc]
          have c1 : decide (idxT d.ks key ≥ 0) = true := by simp; omega
          have c2 : decide (idxT d.ks key < 0) = false := by simp; omega
          have c3 : decide (idxT d.ks key < (d.vs.length : Int)) = true := by simp; omega
          have c4 : decide (idxT d.ks key ≥ (d.vs.length : Int)) = false := by simp; omega
          have f1 : (0 : Int) ≤ idxT d.ks key ∧ idxT d.ks key < (d.vs.length : Int) := by omega
          have hi2 : (idxT d.ks key).toNat < d.vs.length := by omega
          have hq := List.getElem?_eq_getElem hi2
          have hxv := txts_at hq
          have hgv : d.vs.getD (idxT d.ks key).toNat [] = d.vs[(idxT d.ks key).toNat] := by rw [List.getD_eq_getElem?_getD, hq]; rfl
          (repeat' first
    | refine w_seq ?_ | refine w_rg ?_ | refine wo_nil ?_ | refine g_skU ?_
    | ((first | apply s_plain | apply s_void | apply s_guard); · simp only [go_sem, Nat.reduceEqDiff, Nat.reduceAdd, Nat.reduceLeDiff, e1_0, e1_2, e1_6, e1_7, e1_8, e1_10, e1_11, e1_12, e1_49, e1_50, e1_51, e1_52, e1_53, e1_54, e1_55, e1_56, e1_57, e1_58, e1_59, e1_60, e1_61, e1_62, e1_63, e1_64, f13, z10, hm2, hlv, c1, c2, c3, c4, hg, hgv, f1, hxv, ba_data, ba_size, ba_toList, ba_extract, ba_append, List.toList_toArray, bne_self_eq_false, beq_self_eq_true]; (first | done | rfl))
    | ((first | apply g_T | apply g_F); · intro hb; simp only [go_sem, Nat.reduceEqDiff, Nat.reduceAdd, Nat.reduceLeDiff, e1_0, e1_2, e1_6, e1_7, e1_8, e1_10, e1_11, e1_12, e1_49, e1_50, e1_51, e1_52, e1_53, e1_54, e1_55, e1_56, e1_57, e1_58, e1_59, e1_60, e1_61, e1_62, e1_63, e1_64, f13, z10, hm2, hlv, c1, c2, c3, c4, hg, hgv, f1, hxv, ba_data, ba_size, ba_toList, ba_extract, ba_append, List.toList_toArray, bne_self_eq_false, beq_self_eq_true, hb]; (first | done | rfl))
    | ((first | apply g_gT | apply g_gF); · intro hb hc; simp only [go_sem, Nat.reduceEqDiff, Nat.reduceAdd, Nat.reduceLeDiff, e1_0, e1_2, e1_6, e1_7, e1_8, e1_10, e1_11, e1_12, e1_49, e1_50, e1_51, e1_52, e1_53, e1_54, e1_55, e1_56, e1_57, e1_58, e1_59, e1_60, e1_61, e1_62, e1_63, e1_64, f13, z10, hm2, hlv, c1, c2, c3, c4, hg, hgv, f1, hxv, ba_data, ba_size, ba_toList, ba_extract, ba_append, List.toList_toArray, bne_self_eq_false, beq_self_eq_true, hb, hc]; (first | done | rfl))
    | refine g_skT ?_ | refine g_skF ?_
    | ((first | apply g_goT | apply g_goF); · simp only [go_sem, Nat.reduceEqDiff, Nat.reduceAdd, Nat.reduceLeDiff, e1_0, e1_2, e1_6, e1_7, e1_8, e1_10, e1_11, e1_12, e1_49, e1_50, e1_51, e1_52, e1_53, e1_54, e1_55, e1_56, e1_57, e1_58, e1_59, e1_60, e1_61, e1_62, e1_63, e1_64, f13, z10, hm2, hlv, c1, c2, c3, c4, hg, hgv, f1, hxv, ba_data, ba_size, ba_toList, ba_extract, ba_append, List.toList_toArray, bne_self_eq_false, beq_self_eq_true]; (first | done | rfl))
    | (refine w_condT ?_ ?_; · simp only [go_sem, Nat.reduceEqDiff, Nat.reduceAdd, Nat.reduceLeDiff, e1_0, e1_2, e1_6, e1_7, e1_8, e1_10, e1_11, e1_12, e1_49, e1_50, e1_51, e1_52, e1_53, e1_54, e1_55, e1_56, e1_57, e1_58, e1_59, e1_60, e1_61, e1_62, e1_63, e1_64, f13, z10, hm2, hlv, c1, c2, c3, c4, hg, hgv, f1, hxv, ba_data, ba_size, ba_toList, ba_extract, ba_append, List.toList_toArray, bne_self_eq_false, beq_self_eq_true]; (first | done | rfl))
    | (refine w_condF ?_ ?_; · simp only [go_sem, Nat.reduceEqDiff, Nat.reduceAdd, Nat.reduceLeDiff, e1_0, e1_2, e1_6, e1_7, e1_8, e1_10, e1_11, e1_12, e1_49, e1_50, e1_51, e1_52, e1_53, e1_54, e1_55, e1_56, e1_57, e1_58, e1_59, e1_60, e1_61, e1_62, e1_63, e1_64, f13, z10, hm2, hlv, c1, c2, c3, c4, hg, hgv, f1, hxv, ba_data, ba_size, ba_toList, ba_extract, ba_append, List.toList_toArray, bne_self_eq_false, beq_self_eq_true]; (first | done | rfl))
    | refine w_skip ?_ | refine w_exit ?_ | refine w_ret ?_
    )
          trivial
      | succ n =>
        have hg : decide (((n + 1 : Nat) : Int) - 1 ≥ 0) = true := by simp
        have hnn : ((n + 1 : Nat) : Int) - 1 = (n : Int) := by omega
        have hq := List.getElem?_eq_getElem (show n < d.ks.length by omega)
        have hxk := txts_at hq
        have f1 : (0 : Int) ≤ (n : Int) ∧ (n : Int) < (d.ks.length : Int) := by omega
        have w1 : IntKind.i64.wrap ((n : Int) - 1) = (n : Int) - 1 := by rw [IntKind.wrap_i64]; omega
        rw [hnn] at f14
        have hg : decide ((n : Int) ≥ 0) = true := by simp
        (repeat' first
    | refine w_seq ?_ | refine w_rg ?_ | refine wo_nil ?_ | refine g_skU ?_
    | ((first | apply s_plain | apply s_void | apply s_guard); · simp only [go_sem, Nat.reduceEqDiff, Nat.reduceAdd, Nat.reduceLeDiff, e1_0, e1_2, e1_6, e1_7, e1_8, e1_10, e1_11, e1_12, e1_49, e1_50, e1_51, e1_52, e1_53, e1_54, e1_55, e1_56, e1_57, e1_58, e1_59, e1_60, e1_61, e1_62, e1_63, e1_64, f14, hg]; (first | done | rfl))
    | ((first | apply g_T | apply g_F); · intro hb; simp only [go_sem, Nat.reduceEqDiff, Nat.reduceAdd, Nat.reduceLeDiff, e1_0, e1_2, e1_6, e1_7, e1_8, e1_10, e1_11, e1_12, e1_49, e1_50, e1_51, e1_52, e1_53, e1_54, e1_55, e1_56, e1_57, e1_58, e1_59, e1_60, e1_61, e1_62, e1_63, e1_64, f14, hg, hb]; (first | done | rfl))
    | ((first | apply g_gT | apply g_gF); · intro hb hc; simp only [go_sem, Nat.reduceEqDiff, Nat.reduceAdd, Nat.reduceLeDiff, e1_0, e1_2, e1_6, e1_7, e1_8, e1_10, e1_11, e1_12, e1_49, e1_50, e1_51, e1_52, e1_53, e1_54, e1_55, e1_56, e1_57, e1_58, e1_59, e1_60, e1_61, e1_62, e1_63, e1_64, f14, hg, hb, hc]; (first | done | rfl))
    | refine g_skT ?_ | refine g_skF ?_
    | ((first | apply g_goT | apply g_goF); · simp only [go_sem, Nat.reduceEqDiff, Nat.reduceAdd, Nat.reduceLeDiff, e1_0, e1_2, e1_6, e1_7, e1_8, e1_10, e1_11, e1_12, e1_49, e1_50, e1_51, e1_52, e1_53, e1_54, e1_55, e1_56, e1_57, e1_58, e1_59, e1_60, e1_61, e1_62, e1_63, e1_64, f14, hg]; (first | done | rfl))
    | (refine w_condT ?_ ?_; · simp only [go_sem, Nat.reduceEqDiff, Nat.reduceAdd, Nat.reduceLeDiff, e1_0, e1_2, e1_6, e1_7, e1_8, e1_10, e1_11, e1_12, e1_49, e1_50, e1_51, e1_52, e1_53, e1_54, e1_55, e1_56, e1_57, e1_58, e1_59, e1_60, e1_61, e1_62, e1_63, e1_64, f14, hg]; (first | done | rfl))
    | (refine w_condF ?_ ?_; · simp only [go_sem, Nat.reduceEqDiff, Nat.reduceAdd, Nat.reduceLeDiff, e1_0, e1_2, e1_6, e1_7, e1_8, e1_10, e1_11, e1_12, e1_49, e1_50, e1_51, e1_52, e1_53, e1_54, e1_55, e1_56, e1_57, e1_58, e1_59, e1_60, e1_61, e1_62, e1_63, e1_64, f14, hg]; (first | done | rfl))
    | refine w_skip ?_ | refine w_exit ?_ | refine w_ret ?_
    )
        refine w_block ?_
        (repeat' first
    | refine w_seq ?_ | refine w_rg ?_ | refine wo_nil ?_ | refine g_skU ?_
    | ((first | apply s_plain | apply s_void | apply s_guard); · simp only [go_sem, Nat.reduceEqDiff, Nat.reduceAdd, Nat.reduceLeDiff, e1_0, e1_2, e1_6, e1_7, e1_8, e1_10, e1_11, e1_12, e1_49, e1_50, e1_51, e1_52, e1_53, e1_54, e1_55, e1_56, e1_57, e1_58, e1_59, e1_60, e1_61, e1_62, e1_63, e1_64, f0_2, f0_49, f0_50, f14, z10, hm2, f1, hll, Int.toNat_natCast, hxk, ba_data, ba_size, ba_toList, ba_extract, ba_append, List.toList_toArray]; (first | done | rfl))
    | ((first | apply g_T | apply g_F); · intro hb; simp only [go_sem, Nat.reduceEqDiff, Nat.reduceAdd, Nat.reduceLeDiff, e1_0, e1_2, e1_6, e1_7, e1_8, e1_10, e1_11, e1_12, e1_49, e1_50, e1_51, e1_52, e1_53, e1_54, e1_55, e1_56, e1_57, e1_58, e1_59, e1_60, e1_61, e1_62, e1_63, e1_64, f0_2, f0_49, f0_50, f14, z10, hm2, f1, hll, Int.toNat_natCast, hxk, ba_data, ba_size, ba_toList, ba_extract, ba_append, List.toList_toArray, hb]; (first | done | rfl))
    | ((first | apply g_gT | apply g_gF); · intro hb hc; simp only [go_sem, Nat.reduceEqDiff, Nat.reduceAdd, Nat.reduceLeDiff, e1_0, e1_2, e1_6, e1_7, e1_8, e1_10, e1_11, e1_12, e1_49, e1_50, e1_51, e1_52, e1_53, e1_54, e1_55, e1_56, e1_57, e1_58, e1_59, e1_60, e1_61, e1_62, e1_63, e1_64, f0_2, f0_49, f0_50, f14, z10, hm2, f1, hll, Int.toNat_natCast, hxk, ba_data, ba_size, ba_toList, ba_extract, ba_append, List.toList_toArray, hb, hc]; (first | done | rfl))
    | refine g_skT ?_ | refine g_skF ?_
    | ((first | apply g_goT | apply g_goF); · simp only [go_sem, Nat.reduceEqDiff, Nat.reduceAdd, Nat.reduceLeDiff, e1_0, e1_2, e1_6, e1_7, e1_8, e1_10, e1_11, e1_12, e1_49, e1_50, e1_51, e1_52, e1_53, e1_54, e1_55, e1_56, e1_57, e1_58, e1_59, e1_60, e1_61, e1_62, e1_63, e1_64, f0_2, f0_49, f0_50, f14, z10, hm2, f1, hll, Int.toNat_natCast, hxk, ba_data, ba_size, ba_toList, ba_extract, ba_append, List.toList_toArray]; (first | done | rfl))
    )
        have hb : (d.ks[n] == key) = (d.ks[n]? == some key) := by rw [hq, Bool.eq_iff_iff, beq_iff_eq, beq_iff_eq, Option.some.injEq]
        cases hpi : (d.ks[n]? == some key) with
        | true =>
          rw [hpi] at hb
          (repeat' first
    | refine w_seq ?_ | refine w_rg ?_ | refine wo_nil ?_ | refine g_skU ?_
    | ((first | apply s_plain | apply s_void | apply s_guard); · simp only [go_sem, Nat.reduceEqDiff, Nat.reduceAdd, Nat.reduceLeDiff, hb, f14, w1]; (first | done | rfl))
    | ((first | apply g_T | apply g_F); · intro hb; simp only [go_sem, Nat.reduceEqDiff, Nat.reduceAdd, Nat.reduceLeDiff, hb, f14, w1, hb]; (first | done | rfl))
    | ((first | apply g_gT | apply g_gF); · intro hb hc; simp only [go_sem, Nat.reduceEqDiff, Nat.reduceAdd, Nat.reduceLeDiff, hb, f14, w1, hb, hc]; (first | done | rfl))
    | refine g_skT ?_ | refine g_skF ?_
    | ((first | apply g_goT | apply g_goF); · simp only [go_sem, Nat.reduceEqDiff, Nat.reduceAdd, Nat.reduceLeDiff, hb, f14, w1]; (first | done | rfl))
    | (refine w_condT ?_ ?_; · simp only [go_sem, Nat.reduceEqDiff, Nat.reduceAdd, Nat.reduceLeDiff, hb, f14, w1]; (first | done | rfl))
    | (refine w_condF ?_ ?_; · simp only [go_sem, Nat.reduceEqDiff, Nat.reduceAdd, Nat.reduceLeDiff, hb, f14, w1]; (first | done | rfl))
    | refine w_skip ?_ | refine w_exit ?_ | refine w_ret ?_
    )
          exact ⟨n, Nat.lt_succ_self _, n, by omega, by simp only [go_sem, Nat.reduceEqDiff, Nat.reduceAdd, Nat.reduceLeDiff], by simp only [go_sem, Nat.reduceEqDiff, Nat.reduceAdd, Nat.reduceLeDiff], AtI.hit (by omega) hpi, by simp only [go_sem, Nat.reduceEqDiff, Nat.reduceAdd, Nat.reduceLeDiff, hm2, df]⟩
        | false =>
          rw [hpi] at hb
          (repeat' first
    | refine w_seq ?_ | refine w_rg ?_ | refine wo_nil ?_ | refine g_skU ?_
    | ((first | apply s_plain | apply s_void | apply s_guard); · simp only [go_sem, Nat.reduceEqDiff, Nat.reduceAdd, Nat.reduceLeDiff, hb, f14, w1]; (first | done | rfl))
    | ((first | apply g_T | apply g_F); · intro hb; simp only [go_sem, Nat.reduceEqDiff, Nat.reduceAdd, Nat.reduceLeDiff, hb, f14, w1, hb]; (first | done | rfl))
    | ((first | apply g_gT | apply g_gF); · intro hb hc; simp only [go_sem, Nat.reduceEqDiff, Nat.reduceAdd, Nat.reduceLeDiff, hb, f14, w1, hb, hc]; (first | done | rfl))
    | refine g_skT ?_ | refine g_skF ?_
    | ((first | apply g_goT | apply g_goF); · simp only [go_sem, Nat.reduceEqDiff, Nat.reduceAdd, Nat.reduceLeDiff, hb, f14, w1]; (first | done | rfl))
    | (refine w_condT ?_ ?_; · simp only [go_sem, Nat.reduceEqDiff, Nat.reduceAdd, Nat.reduceLeDiff, hb, f14, w1]; (first | done | rfl))
    | (refine w_condF ?_ ?_; · simp only [go_sem, Nat.reduceEqDiff, Nat.reduceAdd, Nat.reduceLeDiff, hb, f14, w1]; (first | done | rfl))
    | refine w_skip ?_ | refine w_exit ?_ | refine w_ret ?_
    )
          exact ⟨n, Nat.lt_succ_self _, a, by omega, by simp only [go_sem, Nat.reduceEqDiff, Nat.reduceAdd, Nat.reduceLeDiff], by simp only [go_sem, Nat.reduceEqDiff, Nat.reduceAdd, Nat.reduceLeDiff, f13], AtI.miss hpi hat, by simp only [go_sem, Nat.reduceEqDiff, Nat.reduceAdd, Nat.reduceLeDiff, hm2, df]⟩
    · exact ⟨-1, Nat.le_refl _, by simp only [go_sem, Nat.reduceEqDiff, Nat.reduceAdd, Nat.reduceLeDiff], by simp only [go_sem, Nat.reduceEqDiff, Nat.reduceAdd, Nat.reduceLeDiff], AtI.end_ _ _, by simp only [go_sem, Nat.reduceEqDiff, Nat.reduceAdd, Nat.reduceLeDiff]; rfl⟩
  · rintro fr1 σ1 - hfr
    have e0_0 := hfr 0 rfl; have e0_7 := hfr 7 rfl; have e0_8 := hfr 8 rfl; try (simp only [go_sem, Nat.reduceEqDiff, Nat.reduceAdd, Nat.reduceLeDiff] at e0_0); try (simp only [go_sem, Nat.reduceEqDiff, Nat.reduceAdd, Nat.reduceLeDiff] at e0_7); try (simp only [go_sem, Nat.reduceEqDiff, Nat.reduceAdd, Nat.reduceLeDiff] at e0_8)
    try simp only [if_true]
    cases hr : rightD l with
    | false =>
      have hp : printD l = ([], 1) := by unfold printD; rw [hr]; rfl
      rw [hr] at h10
      (repeat' first
    | refine w_seq ?_ | refine w_rg ?_ | refine wo_nil ?_ | refine g_skU ?_
    | ((first | apply s_plain | apply s_void | apply s_guard); · simp only [go_sem, Nat.reduceEqDiff, Nat.reduceAdd, Nat.reduceLeDiff, e0_0, e0_7, e0_8, h10, hp, ba_data, ba_size, ba_toList, ba_extract, ba_append, List.toList_toArray, beq_self_eq_true]; (first | done | rfl))
    | ((first | apply g_T | apply g_F); · intro hb; simp only [go_sem, Nat.reduceEqDiff, Nat.reduceAdd, Nat.reduceLeDiff, e0_0, e0_7, e0_8, h10, hp, ba_data, ba_size, ba_toList, ba_extract, ba_append, List.toList_toArray, beq_self_eq_true, hb]; (first | done | rfl))
    | ((first | apply g_gT | apply g_gF); · intro hb hc; simp only [go_sem, Nat.reduceEqDiff, Nat.reduceAdd, Nat.reduceLeDiff, e0_0, e0_7, e0_8, h10, hp, ba_data, ba_size, ba_toList, ba_extract, ba_append, List.toList_toArray, beq_self_eq_true, hb, hc]; (first | done | rfl))
    | refine g_skT ?_ | refine g_skF ?_
    | ((first | apply g_goT | apply g_goF); · simp only [go_sem, Nat.reduceEqDiff, Nat.reduceAdd, Nat.reduceLeDiff, e0_0, e0_7, e0_8, h10, hp, ba_data, ba_size, ba_toList, ba_extract, ba_append, List.toList_toArray, beq_self_eq_true]; (first | done | rfl))
    | (refine w_condT ?_ ?_; · simp only [go_sem, Nat.reduceEqDiff, Nat.reduceAdd, Nat.reduceLeDiff, e0_0, e0_7, e0_8, h10, hp, ba_data, ba_size, ba_toList, ba_extract, ba_append, List.toList_toArray, beq_self_eq_true]; (first | done | rfl))
    | (refine w_condF ?_ ?_; · simp only [go_sem, Nat.reduceEqDiff, Nat.reduceAdd, Nat.reduceLeDiff, e0_0, e0_7, e0_8, h10, hp, ba_data, ba_size, ba_toList, ba_extract, ba_append, List.toList_toArray, beq_self_eq_true]; (first | done | rfl))
    | refine w_skip ?_ | refine w_exit ?_ | refine w_ret ?_
    )
      exact ⟨by first | exact .inr rfl | exact .inr trivial | exact .inl rfl, by simp only [go_sem, Nat.reduceEqDiff, Nat.reduceAdd, Nat.reduceLeDiff, retOf, resOf]; first | done | rfl⟩
    | true =>
      rw [hr] at h10
      have h15 := a15 I hr
      by_cases hc : (textD l).length > 8192
      · have hd : decide (((textD l).length : Int) > 8192) = true := by simp; omega
        have hp : printD l = ([], 2) := by unfold printD; rw [hr, if_pos rfl, if_pos hc]
        (repeat' first
    | refine w_seq ?_ | refine w_rg ?_ | refine wo_nil ?_ | refine g_skU ?_
    | ((first | apply s_plain | apply s_void | apply s_guard); · simp only [go_sem, Nat.reduceEqDiff, Nat.reduceAdd, Nat.reduceLeDiff, e0_0, e0_7, e0_8, h10, h15, hd, hp, ba_data, ba_size, ba_toList, ba_extract, ba_append, List.toList_toArray, beq_self_eq_true]; (first | done | rfl))
    | ((first | apply g_T | apply g_F); · intro hb; simp only [go_sem, Nat.reduceEqDiff, Nat.reduceAdd, Nat.reduceLeDiff, e0_0, e0_7, e0_8, h10, h15, hd, hp, ba_data, ba_size, ba_toList, ba_extract, ba_append, List.toList_toArray, beq_self_eq_true, hb]; (first | done | rfl))
    | ((first | apply g_gT | apply g_gF); · intro hb hc; simp only [go_sem, Nat.reduceEqDiff, Nat.reduceAdd, Nat.reduceLeDiff, e0_0, e0_7, e0_8, h10, h15, hd, hp, ba_data, ba_size, ba_toList, ba_extract, ba_append, List.toList_toArray, beq_self_eq_true, hb, hc]; (first | done | rfl))
    | refine g_skT ?_ | refine g_skF ?_
    | ((first | apply g_goT | apply g_goF); · simp only [go_sem, Nat.reduceEqDiff, Nat.reduceAdd, Nat.reduceLeDiff, e0_0, e0_7, e0_8, h10, h15, hd, hp, ba_data, ba_size, ba_toList, ba_extract, ba_append, List.toList_toArray, beq_self_eq_true]; (first | done | rfl))
    | (refine w_condT ?_ ?_; · simp only [go_sem, Nat.reduceEqDiff, Nat.reduceAdd, Nat.reduceLeDiff, e0_0, e0_7, e0_8, h10, h15, hd, hp, ba_data, ba_size, ba_toList, ba_extract, ba_append, List.toList_toArray, beq_self_eq_true]; (first | done | rfl))
    | (refine w_condF ?_ ?_; · simp only [go_sem, Nat.reduceEqDiff, Nat.reduceAdd, Nat.reduceLeDiff, e0_0, e0_7, e0_8, h10, h15, hd, hp, ba_data, ba_size, ba_toList, ba_extract, ba_append, List.toList_toArray, beq_self_eq_true]; (first | done | rfl))
    | refine w_skip ?_ | refine w_exit ?_ | refine w_ret ?_
    )
        exact ⟨by first | exact .inr rfl | exact .inr trivial | exact .inl rfl, by simp only [go_sem, Nat.reduceEqDiff, Nat.reduceAdd, Nat.reduceLeDiff, retOf, resOf]; first | done | rfl⟩
      · have hd : decide (((textD l).length : Int) > 8192) = false := by simp; omega
        have hp : printD l = (textD l, 0) := by unfold printD; rw [hr, if_pos rfl, if_neg hc]
        (repeat' first
    | refine w_seq ?_ | refine w_rg ?_ | refine wo_nil ?_ | refine g_skU ?_
    | ((first | apply s_plain | apply s_void | apply s_guard); · simp only [go_sem, Nat.reduceEqDiff, Nat.reduceAdd, Nat.reduceLeDiff, e0_0, e0_7, e0_8, h10, h15, hd, hp, ba_data, ba_size, ba_toList, ba_extract, ba_append, List.toList_toArray, beq_self_eq_true]; (first | done | rfl))
    | ((first | apply g_T | apply g_F); · intro hb; simp only [go_sem, Nat.reduceEqDiff, Nat.reduceAdd, Nat.reduceLeDiff, e0_0, e0_7, e0_8, h10, h15, hd, hp, ba_data, ba_size, ba_toList, ba_extract, ba_append, List.toList_toArray, beq_self_eq_true, hb]; (first | done | rfl))
    | ((first | apply g_gT | apply g_gF); · intro hb hc; simp only [go_sem, Nat.reduceEqDiff, Nat.reduceAdd, Nat.reduceLeDiff, e0_0, e0_7, e0_8, h10, h15, hd, hp, ba_data, ba_size, ba_toList, ba_extract, ba_append, List.toList_toArray, beq_self_eq_true, hb, hc]; (first | done | rfl))
    | refine g_skT ?_ | refine g_skF ?_
    | ((first | apply g_goT | apply g_goF); · simp only [go_sem, Nat.reduceEqDiff, Nat.reduceAdd, Nat.reduceLeDiff, e0_0, e0_7, e0_8, h10, h15, hd, hp, ba_data, ba_size, ba_toList, ba_extract, ba_append, List.toList_toArray, beq_self_eq_true]; (first | done | rfl))
    | (refine w_condT ?_ ?_; · simp only [go_sem, Nat.reduceEqDiff, Nat.reduceAdd, Nat.reduceLeDiff, e0_0, e0_7, e0_8, h10, h15, hd, hp, ba_data, ba_size, ba_toList, ba_extract, ba_append, List.toList_toArray, beq_self_eq_true]; (first | done | rfl))
    | (refine w_condF ?_ ?_; · simp only [go_sem, Nat.reduceEqDiff, Nat.reduceAdd, Nat.reduceLeDiff, e0_0, e0_7, e0_8, h10, h15, hd, hp, ba_data, ba_size, ba_toList, ba_extract, ba_append, List.toList_toArray, beq_self_eq_true]; (first | done | rfl))
    | refine w_skip ?_ | refine w_exit ?_ | refine w_ret ?_
    )
        exact ⟨by first | exact .inr rfl | exact .inr trivial | exact .inl rfl, by simp only [go_sem, Nat.reduceEqDiff, Nat.reduceAdd, Nat.reduceLeDiff, retOf, resOf]; first | done | rfl⟩
end
end Go.Proofs.YtdlfomiclkpibaaDoorPv
namespace Go.Proofs.YtdlfomiclkpibaaDoorPv
open Go
section
variable {P : Program}
def fieldsOf (P : Program) (t : TypeId) : List (Nat × TypeId) := match P.underlying t with
  | some (.struct fs) => fs.toList.map fun f => (f.offset, f.type)
  | _ => []
theorem Is.fields {t : TypeId} {ps : List PV} (h : Is P t ps) (ha : isAgg P t = true) : ps.length = P.cellsOf t ∧ ∀ q ∈ fieldsOf P t, Is P q.2 ((ps.drop q.1).take (P.cellsOf q.2)) := by
  unfold isAgg at ha
  split at ha
  · rename_i fs hu
    obtain ⟨h1, h2⟩ := h.st' hu
    refine ⟨h1, fun q hq => ?_⟩
    simp only [fieldsOf, hu, List.mem_map] at hq
    obtain ⟨f, hf, rfl⟩ := hq
    obtain ⟨i, hi⟩ := List.getElem?_of_mem hf
    exact h2 i f (by simpa using hi)
  · cases ha
theorem str_of {t : TypeId} {p : PV} (h : Is P t [p]) (hk : (match P.underlying t with | some .string => true | _ => false) = true) : ∃ s : ByteArray, p = .sc (.string s) ∧ s.size ≤ reachBytes := by
  split at hk
  · rename_i hu
    obtain ⟨s, hs, h2⟩ := h.str' hu
    simp only [List.cons.injEq, and_true] at hs
    exact ⟨s, hs, h2⟩
  · cases hk
/-- The wrap of a row that lists variables, the world's shape kept. -/
theorem returns_and_shaped {H : Type} {enc : TypeId × Value → H} {a : Assume} {C : Checked} {os : Os} {f : FuncId} {fn : Func} {s : ChangeSpec} {conds : List PathCond} {apart fresh handsOn again : Bool} {Z : World → Array Value → Prop}
    (_hZ : ∀ (w w' : World) (args : Array Value), w.heap = w'.heap → Z w args → Z w' args)
    (own : ownKnob C.prog.godebug = none) (started : os.Started) (noInit : C.prog.inits.idxOf? f = none) (hfn : C.prog.funcs[f]? = some fn)
    (witness : ∃ (w : World) (tape : Tape) (i : Input), w.os = os ∧ (w.forCall tape i).Shaped C.prog ∧ i.vars = [] ∧ Input.okWide C.prog (w.forCall tape i) .any w.heap.size f i ∧
      ((s.pre enc C.prog fn conds apart (w.forCall tape i).memory i.args ∧ Z (w.forCall tape i).memory i.args) ∧ sizedMet enc C.prog fn (OpenSpec.ofChange s) apart (w.forCall tape i).memory i.args) ∧ a.holds C.prog (lone (Frame.enter C.prog f i.args .normal) [] (w.forCall tape i)))
    (contract : ∀ (W : World) (base : Nat) (args : Array Value) (ds gs : List (DataW H)) (before : List MemPlace),
      (∀ (j : Nat) t v, fn.params[j]? = some t → args[j]? = some v → Value.okWide C.prog W .any base t v) →
      DataW.Whole enc C.prog fn.params.toList s.vars apart W args.toList ds gs before →
      conds.all (PathCond.test C.prog ⟨fn.params.toList, ds, s.plain.varTypes C.prog, gs⟩) = true →
      (DataW.weightsEach C.prog (fn.params.toList ++ s.plain.varTypes C.prog) (ds ++ gs)).all (· ≤ reachBytes) = true → W.ShapedOpen C.prog →
      Calls C.prog f args W fun e W' => ∃ v, e = .returned v ∧ s.post enc C.prog fn apart fresh handsOn again W args v W') :
    ReturnsInHanded a C os f .any (fun w args => (s.pre enc C.prog fn conds apart w args ∧ Z w args) ∧ sizedMet enc C.prog fn (OpenSpec.ofChange s) apart w args) (s.post enc C.prog fn apart fresh handsOn again) := by
  refine returnsInHanded_of_calls own started noInit witness ?_
  intro w tape i _ hsh _ hok hpre _
  obtain ⟨_, _, _, fn', hfn', _, _, _, _, hval⟩ := hok
  have e : fn' = fn := Option.some.inj (hfn'.symm.trans hfn)
  subst e
  obtain ⟨⟨⟨ds, gs, before, hw, hc⟩, _⟩, hz⟩ := hpre
  have hw' := DataW.Whole.of_heap (w' := w.forCall tape i) (by rfl) hw
  refine (contract (w.forCall tape i) w.heap.size i.args ds gs before hval hw' hc (hz.weights hw) hsh).mono fun e W' ⟨v, he, hp⟩ => ?_
  subst he
  exact ChangeSpec.post_blind hp
end
end Go.Proofs.YtdlfomiclkpibaaDoorPv
