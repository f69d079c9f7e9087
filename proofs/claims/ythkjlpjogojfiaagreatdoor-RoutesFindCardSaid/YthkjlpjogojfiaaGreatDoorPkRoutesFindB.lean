/-
Own texts of the proof, merged: part 2.
-/
import Derived.Test.YthkjlpjogojfiaaGreatDoorPkRoutesFindA
import Derived.Test.YthkjlpjogojfiaaGreatDoorPvPc
namespace Go.Proofs.YthkjlpjogojfiaaGreatDoorPv
open Go
set_option linter.unusedSimpArgs false
set_option linter.unusedVariables false
set_option maxHeartbeats 4000000
set_option maxRecDepth 8000
section
attribute [local go_sem ↓] e_mv e_pick e_bin e_eqs e_beq e_un e_cvi e_str e_s2b e_b2s e_box e_build e_bsl e_ld e_st e_nck e_mkf e_slcS e_slcL e_fa e_fld e_ia e_iaa e_ix e_ixa e_ext e_lenS e_lenL e_mnmx e_app e_appb e_bbx e_msl e_clr e_call e_callv e_icall e_slcA e_mkm e_mput e_mget e_mlen e_mdel pa_t pa_c pa_f slcSP_str hiOf_some hiOf_none loOf_some loOf_none set_eq set_ne
attribute [local go_sem] pv pv1 simple frOf_0 frOf_1 frOf_2 frOf_3 frOf_4 frOf_5 ne_eq not_false_eq_true if_true Bool.false_eq_true if_false pbin punary Option.map_some Option.bind_some pick_and pick_or opt_true Bool.true_and Bool.and_self Bool.and_true Bool.true_or Bool.false_or Bool.not_true Bool.not_false callE pcall_eq List.map_cons List.map_nil List.append_nil List.nil_append List.cons_append mapM_cons' mapM_nil' dep_eq fz_sc fz_sl fz_em fz_fn fz_fp fz_agg fz_tu fz_bx fz_ob Nat.lt_irrefl Nat.zero_lt_one Nat.lt_add_one flat clL cl Bool.or_true okc_sc okc_em okc_sl okc_ob okc_bx okc_fp okc_fn okc_agg okc_ifc cells_agg cells_sc cells_sl cells_em cells_ob cells_fn cells_bx cells_fp List.length_cons List.length_nil Nat.zero_add and_self true_and and_true new_m new_c put_m put_c nil_m nil_c nil_mm new_mm put_mm newM_m newM_c newM_mm putM_m putM_c putM_mm mkeyV_1 mkeyV_2 mapAt_eq deref List.getElem?_cons_zero List.getElem?_cons_succ List.drop_zero List.drop_succ_cons List.take_succ_cons List.take_zero Nat.le_refl false_and and_false decide_true decide_false lenP_em lenP_nil lenP_sl lenP_ob Int.ofNat_zero
def d213 : Def := (.code 1 [.cell 2 (.some 2), .tmp 3, .tmp 4] (.seq (.rg false [⟨.some 2, .none, .box (.c (.agg #[.string ⟨#[]⟩, .string ⟨#[]⟩]))⟩, ⟨.some 3, .none, .mv (.c (.string ⟨#[]⟩))⟩, ⟨.some 4, .none, .mv (.c (.bool false))⟩]) (.seq (.rg false [⟨.some 12, .none, .mv (.t 0)⟩, ⟨.some 13, .none, .call 39 .pure [.t 12, .c (.string ⟨#[61, 34]⟩)]⟩, ⟨.some 11, .none, .mv (.t 13)⟩, ⟨.some 14, .none, .ext (.t 11) 0⟩, ⟨.some 15, .none, .ext (.t 11) 1⟩, ⟨.some 16, .none, .ext (.t 11) 2⟩, ⟨.some 5, .none, .mv (.t 14)⟩, ⟨.some 6, .none, .mv (.t 15)⟩, ⟨.some 7, .none, .mv (.t 16)⟩]) (.seq (.seq (.rg false [⟨.some 17, .none, .mv (.t 7)⟩, ⟨.some 18, .none, .un .not (.t 17)⟩]) (.cond (.t 18) (.seq (.rg false [⟨.some 19, .none, .build (.agg #[.string ⟨#[]⟩, .string ⟨#[]⟩]) []⟩, ⟨.none, .none, .st 2 (.t 2) (.t 19)⟩, ⟨.some 3, .none, .mv (.c (.string ⟨#[]⟩))⟩, ⟨.some 4, .none, .mv (.c (.bool false))⟩]) .ret) .skip)) (.seq (.rg false [⟨.some 8, .none, .bbx⟩]) (.seq (.seq (.rg false [⟨.some 9, .none, .mv (.c (.int .i64 0))⟩]) (.block 0 (.loop (.seq (.seq (.rg false [⟨.some 20, .none, .mv (.t 9)⟩, ⟨.some 21, .none, .mv (.t 6)⟩, ⟨.some 22, .none, .lenS (.t 21)⟩, ⟨.some 23, .none, .bin .lss (.t 20) (.t 22)⟩]) (.cond (.t 23) .skip (.exit 0))) (.seq (.block 1 (.seq (.rg false [⟨.some 26, .none, .mv (.t 6)⟩, ⟨.some 27, .none, .mv (.t 9)⟩, ⟨.some 28, .none, .ix (.t 26) (.t 27)⟩, ⟨.some 10, .none, .mv (.t 28)⟩]) (.block 2 (.seq (.rg false [⟨.some 32, .none, .mv (.t 10)⟩, ⟨.some 33, .none, .bin .eql (.t 32) (.c (.int .u8 34))⟩, ⟨.some 31, .none, .mv (.t 33)⟩]) (.cond (.t 31) (.seq (.rg true [⟨.some 34, .none, .mv (.t 5)⟩, ⟨.some 37, .none, .mv (.t 6)⟩, ⟨.some 38, .none, .mv (.t 9)⟩, ⟨.some 39, .none, .bin .add (.t 38) (.c (.int .i64 1))⟩, ⟨.some 40, .none, .slcS (.t 37) (.some (.t 39)) .none⟩, ⟨.some 35, .none, .call 26 .opn [.t 8]⟩, ⟨.some 36, .none, .build (.agg #[.string ⟨#[]⟩, .string ⟨#[]⟩]) [(0, (1, .t 34)), (1, (1, .t 35))]⟩, ⟨.none, .none, .st 2 (.t 2) (.t 36)⟩, ⟨.some 3, .none, .mv (.t 40)⟩, ⟨.some 4, .none, .mv (.c (.bool true))⟩]) .ret) (.seq (.rg false [⟨.some 42, .none, .mv (.t 10)⟩, ⟨.some 43, .none, .bin .eql (.t 42) (.c (.int .u8 92))⟩, ⟨.some 44, .none, .mv (.t 43)⟩, ⟨.some 45, .some (44, true), .mv (.t 9)⟩, ⟨.some 46, .some (44, true), .bin .add (.t 45) (.c (.int .i64 1))⟩, ⟨.some 47, .some (44, true), .mv (.t 6)⟩, ⟨.some 48, .some (44, true), .lenS (.t 47)⟩, ⟨.some 49, .some (44, true), .bin .lss (.t 46) (.t 48)⟩, ⟨.some 50, .none, .pick (.t 44) (.t 49) (.c (.bool false))⟩, ⟨.some 41, .none, .mv (.t 50)⟩]) (.cond (.t 41) (.seq (.rg false [⟨.some 51, .none, .mv (.t 9)⟩, ⟨.some 52, .none, .bin .add (.t 51) (.c (.int .i64 1))⟩, ⟨.some 9, .none, .mv (.t 52)⟩]) (.rg false [⟨.some 53, .none, .mv (.t 6)⟩, ⟨.some 54, .none, .mv (.t 9)⟩, ⟨.some 55, .none, .ix (.t 53) (.t 54)⟩, ⟨.some 56, .none, .call 217 .opn [.t 8, .t 55]⟩])) (.rg false [⟨.some 29, .none, .mv (.t 10)⟩, ⟨.some 30, .none, .call 217 .opn [.t 8, .t 29]⟩])))))))) (.rg false [⟨.some 24, .none, .mv (.t 9)⟩, ⟨.some 25, .none, .bin .add (.t 24) (.c (.int .i64 1))⟩, ⟨.some 9, .none, .mv (.t 25)⟩])))))) (.seq (.rg false [⟨.some 57, .none, .build (.agg #[.string ⟨#[]⟩, .string ⟨#[]⟩]) []⟩, ⟨.none, .none, .st 2 (.t 2) (.t 57)⟩, ⟨.some 3, .none, .mv (.c (.string ⟨#[]⟩))⟩, ⟨.some 4, .none, .mv (.c (.bool false))⟩]) .ret)))))))
def lcc : List (Nat × Def) := [(213, d213)]
def scan : List UInt8 → List UInt8 → Option (List UInt8 × List UInt8)
  | [], _ => none
  | [c], acc => if c = 34 then some (acc, []) else none
  | c :: d :: r, acc => if c = 34 then some (acc, d :: r) else if c = 92 then scan r (acc ++ [d]) else scan (d :: r) (acc ++ [c])
def oneL (s : List UInt8) : Option (List UInt8 × List UInt8 × List UInt8) :=
  if (Lib.cut s [61, 34]).2.2 then (scan (Lib.cut s [61, 34]).2.1 []).map fun q => ((Lib.cut s [61, 34]).1, q.1, q.2) else none
section
variable {env : Nat → Option Def} {fr : Fr} {σ σ' σ'' : St} {K : Fr → St → Prop} {Q : X → Fr → St → Prop} {p : PV} {bs : List UInt8}
theorem scan_nil {r acc : List UInt8} {i : Nat} (h : r.length ≤ i) : scan (r.drop i) acc = none := by
  rw [List.drop_eq_nil_of_le h]; rfl
theorem scan_end {r acc : List UInt8} {i : Nat} (h : i < r.length) (hc : r[i] = 34) : scan (r.drop i) acc = some (acc, r.drop (i + 1)) := by
  rw [drop_at h, hc]
  by_cases h2 : i + 1 < r.length
  · rw [drop_at h2]; rfl
  · rw [List.drop_eq_nil_of_le (by omega)]; rfl
theorem scan_esc {r acc : List UInt8} {i : Nat} (h : i + 1 < r.length) (hc : r[i] = 92) : scan (r.drop i) acc = scan (r.drop (i + 2)) (acc ++ [r[i + 1]]) := by
  rw [drop_at (by omega), hc, drop_at h]; rfl
theorem scan_last {r acc : List UInt8} {i : Nat} (h : i < r.length) (h2 : ¬ i + 1 < r.length) (hc : r[i] ≠ 34) : scan (r.drop i) acc = none := by
  rw [drop_at h, List.drop_eq_nil_of_le (by omega)]
  simp [scan, hc]
theorem scan_step {r acc : List UInt8} {i : Nat} (h : i < r.length) (hc : r[i] ≠ 34) (hd : r[i] ≠ 92) : scan (r.drop i) acc = scan (r.drop (i + 1)) (acc ++ [r[i]]) := by
  rw [drop_at h]
  by_cases h2 : i + 1 < r.length
  · rw [drop_at h2]; simp [scan, hc, hd]
  · rw [List.drop_eq_nil_of_le (by omega)]; simp [scan, hc]
theorem cut_le (s t : List UInt8) : (Lib.cut s t).1.length ≤ s.length ∧ (Lib.cut s t).2.1.length ≤ s.length := by
  unfold Lib.cut
  split
  · simp; omega
  · simp
def oneA (s : List UInt8) : PV := match oneL s with
  | some (n, v, r) => .tu [.agg [txt n, txt v], txt r, .sc (.bool true)]
  | none => .tu [.agg [txt [], txt []], txt [], .sc (.bool false)]
theorem a213 (C : Has lca env) (B : Has lbb env) (S : Has lbs env) (T : Has lcc env) {s : List UInt8} (hs : s.length ≤ 4000000000) : AV env 213 [txt s] = some (oneA s) := by
  have hcut := a39 C (s := s) (t := [61, 34]) (by omega) (by simp)
  obtain ⟨hl1, hl2⟩ := cut_le s [61, 34]
  have ho : oneL s = if (Lib.cut s [61, 34]).2.2 then (scan (Lib.cut s [61, 34]).2.1 []).map fun q => ((Lib.cut s [61, 34]).1, q.1, q.2) else none := rfl
  generalize Lib.cut s [61, 34] = c at *
  obtain ⟨n, rest, is⟩ := c
  simp only at hcut ho hl1 hl2
  have ho' : oneA s = match oneL s with
    | some (n, v, r) => .tu [.agg [txt n, txt v], txt r, .sc (.bool true)]
    | none => .tu [.agg [txt [], txt []], txt [], .sc (.bool false)] := rfl
  refine AV_wp (T (213, d213) (by simp [lcc])) rfl ?_
  (repeat' first
    | refine w_seq ?_ | refine w_rg ?_ | refine wo_nil ?_ | refine g_skU ?_ | refine g_skT ?_ | refine g_skF ?_
    | ((first | apply s_plain | apply s_void | apply s_guard | apply g_goT | apply g_goF); · simp only [go_sem, Nat.reduceEqDiff, Nat.reduceAdd, Nat.reduceLeDiff, hcut]; (first | done | rfl))
    | ((first | apply g_T | apply g_F | apply g_gT | apply g_gF); · intro q1_; (first | intro q2_ | have q2_ := q1_); simp only [go_sem, Nat.reduceEqDiff, Nat.reduceAdd, Nat.reduceLeDiff, hcut, q1_, q2_]; (first | done | rfl))
    | fail
    )
  cases is with
  | false =>
    rw [if_neg (by decide)] at ho
    rw [ho] at ho'
    (repeat' first
    | refine w_seq ?_ | refine w_rg ?_ | refine wo_nil ?_ | refine g_skU ?_ | refine g_skT ?_ | refine g_skF ?_
    | ((first | apply s_plain | apply s_void | apply s_guard | apply g_goT | apply g_goF); · simp only [go_sem, Nat.reduceEqDiff, Nat.reduceAdd, Nat.reduceLeDiff, splice, List.modify_zero_cons, fillP, fillE]; (first | done | rfl))
    | ((first | apply g_T | apply g_F | apply g_gT | apply g_gF); · intro q1_; (first | intro q2_ | have q2_ := q1_); simp only [go_sem, Nat.reduceEqDiff, Nat.reduceAdd, Nat.reduceLeDiff, splice, List.modify_zero_cons, fillP, fillE, q1_, q2_]; (first | done | rfl))
    | (apply w_condX; · simp only [go_sem, Nat.reduceEqDiff, Nat.reduceAdd, Nat.reduceLeDiff, splice, List.modify_zero_cons, fillP, fillE]; (first | done | rfl)); (first | refine wcd_T ?_ | refine wcd_F ?_)
    | refine w_skip ?_ | refine w_exit ?_ | refine w_ret ?_
    | fail
    )
    exact ⟨by first | exact .inr rfl | exact .inr trivial | exact .inl rfl, by simp only [go_sem, Nat.reduceEqDiff, Nat.reduceAdd, Nat.reduceLeDiff, retOf, resOf, ho', List.modify_zero_cons]; first | done | rfl⟩
  | true =>
    rw [if_pos rfl] at ho
    (repeat' first
    | refine w_seq ?_ | refine w_rg ?_ | refine wo_nil ?_ | refine g_skU ?_ | refine g_skT ?_ | refine g_skF ?_
    | ((first | apply s_plain | apply s_void | apply s_guard | apply g_goT | apply g_goF); · simp only [go_sem, Nat.reduceEqDiff, Nat.reduceAdd, Nat.reduceLeDiff, bldAt]; (first | done | rfl))
    | ((first | apply g_T | apply g_F | apply g_gT | apply g_gF); · intro q1_; (first | intro q2_ | have q2_ := q1_); simp only [go_sem, Nat.reduceEqDiff, Nat.reduceAdd, Nat.reduceLeDiff, bldAt, q1_, q2_]; (first | done | rfl))
    | (apply w_condX; · simp only [go_sem, Nat.reduceEqDiff, Nat.reduceAdd, Nat.reduceLeDiff, bldAt]; (first | done | rfl)); (first | refine wcd_T ?_ | refine wcd_F ?_)
    | refine w_skip ?_ | refine w_exit ?_ | refine w_ret ?_
    | fail
    )
    have hF0 : Fresh (St.nil.new 2000002 ⟨2, [.agg [txt [], txt []]], true, true⟩) := Fresh.nil.new _ _
    refine w_block (w_loopF (fun m fr σ => ∃ i acc, m = rest.length - i ∧ i ≤ rest.length ∧ fr 9 = .sc (.int .i64 i) ∧ Bld σ 0 acc ∧ Fresh σ ∧ acc.length ≤ i ∧ scan rest [] = scan (rest.drop i) acc ∧ σ.m 2000002 0 = some ⟨2, [.agg [txt [], txt []]], true, true⟩) ?_ (rest.length - 0) ?_)
    · rintro m fr1 σ1 ⟨i, acc, rfl, hi, f9, hb, hF, hal, hsc, hm⟩ hfr
      have f0_2 := hfr 2 rfl; have f0_5 := hfr 5 rfl; have f0_6 := hfr 6 rfl; have f0_8 := hfr 8 rfl; try (simp only [go_sem, Nat.reduceEqDiff, Nat.reduceAdd, Nat.reduceLeDiff] at f0_2); try (simp only [go_sem, Nat.reduceEqDiff, Nat.reduceAdd, Nat.reduceLeDiff] at f0_5); try (simp only [go_sem, Nat.reduceEqDiff, Nat.reduceAdd, Nat.reduceLeDiff] at f0_6); try (simp only [go_sem, Nat.reduceEqDiff, Nat.reduceAdd, Nat.reduceLeDiff] at f0_8)
      (repeat' first
    | refine w_seq ?_ | refine w_rg ?_ | refine wo_nil ?_ | refine g_skU ?_ | refine g_skT ?_ | refine g_skF ?_
    | ((first | apply s_plain | apply s_void | apply s_guard | apply g_goT | apply g_goF); · simp only [go_sem, Nat.reduceEqDiff, Nat.reduceAdd, Nat.reduceLeDiff, f0_2, f0_5, f0_6, f0_8, f9, ba_data, ba_size, ba_toList, ba_extract, ba_append, List.toList_toArray]; (first | done | rfl))
    | ((first | apply g_T | apply g_F | apply g_gT | apply g_gF); · intro q1_; (first | intro q2_ | have q2_ := q1_); simp only [go_sem, Nat.reduceEqDiff, Nat.reduceAdd, Nat.reduceLeDiff, f0_2, f0_5, f0_6, f0_8, f9, ba_data, ba_size, ba_toList, ba_extract, ba_append, List.toList_toArray, q1_, q2_]; (first | done | rfl))
    | fail
    )
      by_cases hlt : i < rest.length
      · have hlt' : decide ((i : Int) < (rest.length : Int)) = true := by simpa using hlt
        have hg := List.getElem?_eq_getElem hlt
        have hi0 : (0 : Int) ≤ (i : Int) := by omega
        have w1 : IntKind.i64.wrap ((i : Int) + 1) = ((i + 1 : Nat) : Int) := by rw [IntKind.wrap_i64]; omega
        rw [hlt']
        (repeat' first
    | refine w_seq ?_ | refine w_rg ?_ | refine wo_nil ?_ | refine g_skU ?_ | refine g_skT ?_ | refine g_skF ?_
    | ((first | apply s_plain | apply s_void | apply s_guard | apply g_goT | apply g_goF); · simp only [go_sem, Nat.reduceEqDiff, Nat.reduceAdd, Nat.reduceLeDiff]; (first | done | rfl))
    | ((first | apply g_T | apply g_F | apply g_gT | apply g_gF); · intro q1_; (first | intro q2_ | have q2_ := q1_); simp only [go_sem, Nat.reduceEqDiff, Nat.reduceAdd, Nat.reduceLeDiff, q1_, q2_]; (first | done | rfl))
    | (apply w_condX; · simp only [go_sem, Nat.reduceEqDiff, Nat.reduceAdd, Nat.reduceLeDiff]; (first | done | rfl)); (first | refine wcd_T ?_ | refine wcd_F ?_)
    | refine w_skip ?_ | refine w_exit ?_ | refine w_ret ?_
    | fail
    )
        refine w_block ?_
        (repeat' first
    | refine w_seq ?_ | refine w_rg ?_ | refine wo_nil ?_ | refine g_skU ?_ | refine g_skT ?_ | refine g_skF ?_
    | ((first | apply s_plain | apply s_void | apply s_guard | apply g_goT | apply g_goF); · simp only [go_sem, Nat.reduceEqDiff, Nat.reduceAdd, Nat.reduceLeDiff, f0_2, f0_5, f0_6, f0_8, f9, ba_data, ba_size, ba_toList, ba_extract, ba_append, List.toList_toArray, hi0, Int.toNat_natCast, hg]; (first | done | rfl))
    | ((first | apply g_T | apply g_F | apply g_gT | apply g_gF); · intro q1_; (first | intro q2_ | have q2_ := q1_); simp only [go_sem, Nat.reduceEqDiff, Nat.reduceAdd, Nat.reduceLeDiff, f0_2, f0_5, f0_6, f0_8, f9, ba_data, ba_size, ba_toList, ba_extract, ba_append, List.toList_toArray, hi0, Int.toNat_natCast, hg, q1_, q2_]; (first | done | rfl))
    | fail
    )
        refine w_block ?_
        (repeat' first
    | refine w_seq ?_ | refine w_rg ?_ | refine wo_nil ?_ | refine g_skU ?_ | refine g_skT ?_ | refine g_skF ?_
    | ((first | apply s_plain | apply s_void | apply s_guard | apply g_goT | apply g_goF); · simp only [go_sem, Nat.reduceEqDiff, Nat.reduceAdd, Nat.reduceLeDiff, f0_2, f0_5, f0_6, f0_8]; (first | done | rfl))
    | ((first | apply g_T | apply g_F | apply g_gT | apply g_gF); · intro q1_; (first | intro q2_ | have q2_ := q1_); simp only [go_sem, Nat.reduceEqDiff, Nat.reduceAdd, Nat.reduceLeDiff, f0_2, f0_5, f0_6, f0_8, q1_, q2_]; (first | done | rfl))
    | fail
    )
        refine w_condB (b := decide (rest[i] = 34)) (by simp only [go_sem, Nat.reduceEqDiff, Nat.reduceAdd, Nat.reduceLeDiff]; rw [← u8_eq]; rfl) (fun hc => ?_) (fun hc => ?_)
        · have hc : rest[i] = 34 := by simpa using hc
          rw [hsc, scan_end hlt hc] at ho
          have b1 : (0 : Int) ≤ ((i + 1 : Nat) : Int) ∧ ((i + 1 : Nat) : Int) ≤ (rest.length : Int) := by omega
          have hd : (rest.take rest.length).drop (i + 1) = rest.drop (i + 1) := by rw [List.take_of_length_le (Nat.le_refl _)]
          (repeat' first
    | refine w_seq ?_ | refine w_rg ?_ | refine wo_nil ?_ | refine g_skU ?_ | refine g_skT ?_ | refine g_skF ?_
    | ((first | apply s_plain | apply s_void | apply s_guard | apply g_goT | apply g_goF); · simp only [go_sem, Nat.reduceEqDiff, Nat.reduceAdd, Nat.reduceLeDiff, f0_2, f0_5, f0_6, f0_8, f9, w1, ba_data, ba_size, ba_toList, ba_extract, ba_append, List.toList_toArray, bound, b1, Int.toNat_natCast]; (first | done | rfl))
    | ((first | apply g_T | apply g_F | apply g_gT | apply g_gF); · intro q1_; (first | intro q2_ | have q2_ := q1_); simp only [go_sem, Nat.reduceEqDiff, Nat.reduceAdd, Nat.reduceLeDiff, f0_2, f0_5, f0_6, f0_8, f9, w1, ba_data, ba_size, ba_toList, ba_extract, ba_append, List.toList_toArray, bound, b1, Int.toNat_natCast, q1_, q2_]; (first | done | rfl))
    | fail
    )
          refine s_st S (g := 0) (bs := acc) (by simp only [go_sem, Nat.reduceEqDiff, Nat.reduceAdd, Nat.reduceLeDiff, f0_2, f0_5, f0_6, f0_8]; rfl) hb hF (by omega) ?_
          intro σ2 hk
          have hm2 := hk.m _ _ _ (by decide) (by decide) hm
          (repeat' first
    | refine w_seq ?_ | refine w_rg ?_ | refine wo_nil ?_ | refine g_skU ?_ | refine g_skT ?_ | refine g_skF ?_
    | ((first | apply s_plain | apply s_void | apply s_guard | apply g_goT | apply g_goF); · simp only [go_sem, Nat.reduceEqDiff, Nat.reduceAdd, Nat.reduceLeDiff, f0_2, f0_5, f0_6, f0_8, hm2, splice, fillP, fillE, List.modify_zero_cons]; (first | done | rfl))
    | ((first | apply g_T | apply g_F | apply g_gT | apply g_gF); · intro q1_; (first | intro q2_ | have q2_ := q1_); simp only [go_sem, Nat.reduceEqDiff, Nat.reduceAdd, Nat.reduceLeDiff, f0_2, f0_5, f0_6, f0_8, hm2, splice, fillP, fillE, List.modify_zero_cons, q1_, q2_]; (first | done | rfl))
    | (apply w_condX; · simp only [go_sem, Nat.reduceEqDiff, Nat.reduceAdd, Nat.reduceLeDiff, f0_2, f0_5, f0_6, f0_8, hm2, splice, fillP, fillE, List.modify_zero_cons]; (first | done | rfl)); (first | refine wcd_T ?_ | refine wcd_F ?_)
    | refine w_skip ?_ | refine w_exit ?_ | refine w_ret ?_
    | fail
    )
          simp only [Option.map_some] at ho
          rw [ho] at ho'
          exact ⟨by first | exact .inr rfl | exact .inr trivial | exact .inl rfl, by simp only [go_sem, Nat.reduceEqDiff, Nat.reduceAdd, Nat.reduceLeDiff, retOf, resOf, ho', f0_2, f0_5, f0_6, f0_8, List.modify_zero_cons, hd]; first | done | rfl⟩
        · have hc : rest[i] ≠ 34 := by simpa using hc
          (repeat' first
    | refine w_seq ?_ | refine w_rg ?_ | refine wo_nil ?_ | refine g_skU ?_ | refine g_skT ?_ | refine g_skF ?_
    | ((first | apply s_plain | apply s_void | apply s_guard | apply g_goT | apply g_goF); · simp only [go_sem, Nat.reduceEqDiff, Nat.reduceAdd, Nat.reduceLeDiff, f0_2, f0_5, f0_6, f0_8, f9, w1, ba_data, ba_size, ba_toList, ba_extract, ba_append, List.toList_toArray]; (first | done | rfl))
    | ((first | apply g_T | apply g_F | apply g_gT | apply g_gF); · intro q1_; (first | intro q2_ | have q2_ := q1_); simp only [go_sem, Nat.reduceEqDiff, Nat.reduceAdd, Nat.reduceLeDiff, f0_2, f0_5, f0_6, f0_8, f9, w1, ba_data, ba_size, ba_toList, ba_extract, ba_append, List.toList_toArray, q1_, q2_]; (first | done | rfl))
    | fail
    )
          refine w_condB (b := decide (rest[i] = 92) && decide (((i + 1 : Nat) : Int) < (rest.length : Int))) (by simp only [go_sem, Nat.reduceEqDiff, Nat.reduceAdd, Nat.reduceLeDiff]; rw [← u8_eq]; rfl) (fun hd => ?_) (fun hd => ?_)
          · simp only [Bool.and_eq_true, decide_eq_true_eq] at hd
            have hlt2 : i + 1 < rest.length := by omega
            have hg2 := List.getElem?_eq_getElem hlt2
            have hi2 : (0 : Int) ≤ ((i + 1 : Nat) : Int) := by omega
            have w2 : IntKind.i64.wrap (((i + 1 : Nat) : Int) + 1) = ((i + 2 : Nat) : Int) := by rw [IntKind.wrap_i64]; omega
            rw [scan_esc hlt2 hd.1] at hsc
            (repeat' first
    | refine w_seq ?_ | refine w_rg ?_ | refine wo_nil ?_ | refine g_skU ?_ | refine g_skT ?_ | refine g_skF ?_
    | ((first | apply s_plain | apply s_void | apply s_guard | apply g_goT | apply g_goF); · simp only [go_sem, Nat.reduceEqDiff, Nat.reduceAdd, Nat.reduceLeDiff, f0_2, f0_5, f0_6, f0_8, f9, w1, ba_data, ba_size, ba_toList, ba_extract, ba_append, List.toList_toArray, hi2, Int.toNat_natCast, hg2]; (first | done | rfl))
    | ((first | apply g_T | apply g_F | apply g_gT | apply g_gF); · intro q1_; (first | intro q2_ | have q2_ := q1_); simp only [go_sem, Nat.reduceEqDiff, Nat.reduceAdd, Nat.reduceLeDiff, f0_2, f0_5, f0_6, f0_8, f9, w1, ba_data, ba_size, ba_toList, ba_extract, ba_append, List.toList_toArray, hi2, Int.toNat_natCast, hg2, q1_, q2_]; (first | done | rfl))
    | fail
    )
            refine s_wb B (g := 0) (bs := acc) (c := rest[i + 1]) (by simp only [go_sem, Nat.reduceEqDiff, Nat.reduceAdd, Nat.reduceLeDiff, f0_2, f0_5, f0_6, f0_8]; rfl) (by simp only [go_sem, Nat.reduceEqDiff, Nat.reduceAdd, Nat.reduceLeDiff]) hb hF (by omega) ?_
            intro σ2 hb2 hk
            have hm2 := hk.m _ _ _ (by decide) (by decide) hm
            (repeat' first
    | refine w_seq ?_ | refine w_rg ?_ | refine wo_nil ?_ | refine g_skU ?_ | refine g_skT ?_ | refine g_skF ?_
    | ((first | apply s_plain | apply s_void | apply s_guard | apply g_goT | apply g_goF); · simp only [go_sem, Nat.reduceEqDiff, Nat.reduceAdd, Nat.reduceLeDiff, w2]; (first | done | rfl))
    | ((first | apply g_T | apply g_F | apply g_gT | apply g_gF); · intro q1_; (first | intro q2_ | have q2_ := q1_); simp only [go_sem, Nat.reduceEqDiff, Nat.reduceAdd, Nat.reduceLeDiff, w2, q1_, q2_]; (first | done | rfl))
    | fail
    )
            exact ⟨_, by omega, i + 2, acc ++ [rest[i + 1]], rfl, by omega, by simp only [go_sem, Nat.reduceEqDiff, Nat.reduceAdd, Nat.reduceLeDiff], hb2, hk.f, by simp; omega, hsc, hm2⟩
          · (repeat' first
    | refine w_seq ?_ | refine w_rg ?_ | refine wo_nil ?_ | refine g_skU ?_ | refine g_skT ?_ | refine g_skF ?_
    | ((first | apply s_plain | apply s_void | apply s_guard | apply g_goT | apply g_goF); · simp only [go_sem, Nat.reduceEqDiff, Nat.reduceAdd, Nat.reduceLeDiff, f0_2, f0_5, f0_6, f0_8]; (first | done | rfl))
    | ((first | apply g_T | apply g_F | apply g_gT | apply g_gF); · intro q1_; (first | intro q2_ | have q2_ := q1_); simp only [go_sem, Nat.reduceEqDiff, Nat.reduceAdd, Nat.reduceLeDiff, f0_2, f0_5, f0_6, f0_8, q1_, q2_]; (first | done | rfl))
    | fail
    )
            refine s_wb B (g := 0) (bs := acc) (c := rest[i]) (by simp only [go_sem, Nat.reduceEqDiff, Nat.reduceAdd, Nat.reduceLeDiff, f0_2, f0_5, f0_6, f0_8]; rfl) (by simp only [go_sem, Nat.reduceEqDiff, Nat.reduceAdd, Nat.reduceLeDiff]) hb hF (by omega) ?_
            intro σ2 hb2 hk
            have hm2 := hk.m _ _ _ (by decide) (by decide) hm
            (repeat' first
    | refine w_seq ?_ | refine w_rg ?_ | refine wo_nil ?_ | refine g_skU ?_ | refine g_skT ?_ | refine g_skF ?_
    | ((first | apply s_plain | apply s_void | apply s_guard | apply g_goT | apply g_goF); · simp only [go_sem, Nat.reduceEqDiff, Nat.reduceAdd, Nat.reduceLeDiff, f9, w1]; (first | done | rfl))
    | ((first | apply g_T | apply g_F | apply g_gT | apply g_gF); · intro q1_; (first | intro q2_ | have q2_ := q1_); simp only [go_sem, Nat.reduceEqDiff, Nat.reduceAdd, Nat.reduceLeDiff, f9, w1, q1_, q2_]; (first | done | rfl))
    | fail
    )
            have hs2 : scan rest [] = scan (rest.drop (i + 1)) (acc ++ [rest[i]]) := by
              by_cases h92 : rest[i] = 92
              · have hn : ¬ i + 1 < rest.length := by
                  intro h
                  rw [Bool.and_eq_false_iff] at hd
                  rcases hd with hd | hd
                  · simp [h92] at hd
                  · simp only [decide_eq_false_iff_not] at hd; omega
                rw [hsc, scan_last hlt hn hc, scan_nil (by omega)]
              · rw [hsc, scan_step hlt hc h92]
            exact ⟨_, by omega, i + 1, acc ++ [rest[i]], rfl, by omega, by simp only [go_sem, Nat.reduceEqDiff, Nat.reduceAdd, Nat.reduceLeDiff], hb2, hk.f, by simp; omega, hs2, hm2⟩
      · have hlt' : decide ((i : Int) < (rest.length : Int)) = false := by simpa using (show ¬ ((i : Int) < (rest.length : Int)) by omega)
        rw [hlt']
        rw [hsc, scan_nil (by omega)] at ho
        simp only [Option.map_none] at ho
        rw [ho] at ho'
        (repeat' first
    | refine w_seq ?_ | refine w_rg ?_ | refine wo_nil ?_ | refine g_skU ?_ | refine g_skT ?_ | refine g_skF ?_
    | ((first | apply s_plain | apply s_void | apply s_guard | apply g_goT | apply g_goF); · simp only [go_sem, Nat.reduceEqDiff, Nat.reduceAdd, Nat.reduceLeDiff]; (first | done | rfl))
    | ((first | apply g_T | apply g_F | apply g_gT | apply g_gF); · intro q1_; (first | intro q2_ | have q2_ := q1_); simp only [go_sem, Nat.reduceEqDiff, Nat.reduceAdd, Nat.reduceLeDiff, q1_, q2_]; (first | done | rfl))
    | (apply w_condX; · simp only [go_sem, Nat.reduceEqDiff, Nat.reduceAdd, Nat.reduceLeDiff]; (first | done | rfl)); (first | refine wcd_T ?_ | refine wcd_F ?_)
    | refine w_skip ?_ | refine w_exit ?_ | refine w_ret ?_
    | fail
    )
        try simp only [if_true]
        (repeat' first
    | refine w_seq ?_ | refine w_rg ?_ | refine wo_nil ?_ | refine g_skU ?_ | refine g_skT ?_ | refine g_skF ?_
    | ((first | apply s_plain | apply s_void | apply s_guard | apply g_goT | apply g_goF); · simp only [go_sem, Nat.reduceEqDiff, Nat.reduceAdd, Nat.reduceLeDiff, f0_2, f0_5, f0_6, f0_8, hm, splice, fillP, fillE, List.modify_zero_cons]; (first | done | rfl))
    | ((first | apply g_T | apply g_F | apply g_gT | apply g_gF); · intro q1_; (first | intro q2_ | have q2_ := q1_); simp only [go_sem, Nat.reduceEqDiff, Nat.reduceAdd, Nat.reduceLeDiff, f0_2, f0_5, f0_6, f0_8, hm, splice, fillP, fillE, List.modify_zero_cons, q1_, q2_]; (first | done | rfl))
    | (apply w_condX; · simp only [go_sem, Nat.reduceEqDiff, Nat.reduceAdd, Nat.reduceLeDiff, f0_2, f0_5, f0_6, f0_8, hm, splice, fillP, fillE, List.modify_zero_cons]; (first | done | rfl)); (first | refine wcd_T ?_ | refine wcd_F ?_)
    | refine w_skip ?_ | refine w_exit ?_ | refine w_ret ?_
    | fail
    )
        exact ⟨by first | exact .inr rfl | exact .inr trivial | exact .inl rfl, by simp only [go_sem, Nat.reduceEqDiff, Nat.reduceAdd, Nat.reduceLeDiff, retOf, resOf, ho', f0_2, f0_5, f0_6, f0_8, List.modify_zero_cons]; first | done | rfl⟩
    · exact ⟨0, [], rfl, Nat.zero_le _, by simp only [go_sem, Nat.reduceEqDiff, Nat.reduceAdd, Nat.reduceLeDiff]; (first | done | rfl), bld_new _, hF0.new _ _, Nat.le_refl _, by rw [List.drop_zero], by simp only [go_sem, Nat.reduceEqDiff, Nat.reduceAdd, Nat.reduceLeDiff, bldAt]⟩
end

section
def mkLab (n v : List UInt8) : Lab := (⟨n.toArray⟩, ⟨v.toArray⟩)
def pl : Nat → List UInt8 → List Lab → Option (List Lab)
  | 0, _, out => some out
  | k + 1, rest, out => if rest = [125] then some out else if out ≠ [] ∧ [44].isPrefixOf rest = false then none else
      (oneL (if out = [] then rest else cutPre rest [44])).bind fun q => pl k q.2.2 (out ++ [mkLab q.1 q.2.1])
end

end
section
def itoaS (n : Int) : ByteArray := ⟨(Lib.itoa n).toArray⟩
structure RightR (r : Rule) : Prop where
  how : 1 ≤ r.how ∧ r.how ≤ 5
  limit : -1099511627776 ≤ r.limit ∧ r.limit ≤ 1099511627776
  for_ : -1099511627776 ≤ r.for_ ∧ r.for_ ≤ 1099511627776
  keep : -1099511627776 ≤ r.keep ∧ r.keep ≤ 1099511627776
  tries : -1099511627776 ≤ r.tries ∧ r.tries ≤ 1099511627776
  labels : rightL r.labels = true

end
section
attribute [local go_sem ↓] e_mv e_pick e_bin e_eqs e_beq e_un e_cvi e_str e_s2b e_b2s e_box e_build e_bsl e_ld e_st e_nck e_mkf e_slcS e_slcL e_fa e_fld e_ia e_iaa e_ix e_ixa e_ext e_lenS e_lenL e_mnmx e_app e_appb e_bbx e_msl e_clr e_call e_callv e_icall e_slcA e_mkm e_mput e_mget e_mlen e_mdel pa_t pa_c pa_f slcSP_str hiOf_some hiOf_none loOf_some loOf_none set_eq set_ne
attribute [local go_sem] pv pv1 simple frOf_0 frOf_1 frOf_2 frOf_3 frOf_4 frOf_5 ne_eq not_false_eq_true if_true Bool.false_eq_true if_false pbin punary Option.map_some Option.bind_some pick_and pick_or opt_true Bool.true_and Bool.and_self Bool.and_true Bool.true_or Bool.false_or Bool.not_true Bool.not_false callE pcall_eq List.map_cons List.map_nil List.append_nil List.nil_append List.cons_append mapM_cons' mapM_nil' dep_eq fz_sc fz_sl fz_em fz_fn fz_fp fz_agg fz_tu fz_bx fz_ob Nat.lt_irrefl Nat.zero_lt_one Nat.lt_add_one flat clL cl Bool.or_true okc_sc okc_em okc_sl okc_ob okc_bx okc_fp okc_fn okc_agg okc_ifc cells_agg cells_sc cells_sl cells_em cells_ob cells_fn cells_bx cells_fp List.length_cons List.length_nil Nat.zero_add and_self true_and and_true new_m new_c put_m put_c nil_m nil_c nil_mm new_mm put_mm newM_m newM_c newM_mm putM_m putM_c putM_mm mkeyV_1 mkeyV_2 mapAt_eq deref List.getElem?_cons_zero List.getElem?_cons_succ List.drop_zero List.drop_succ_cons List.take_succ_cons List.take_zero Nat.le_refl false_and and_false decide_true decide_false lenP_em lenP_nil lenP_sl lenP_ob Int.ofNat_zero
def d35 : Def := (.code 2 [.tmp 4] (.seq (.rg false [⟨.some 4, .none, .mv (.c (.bool false))⟩]) (.seq (.seq (.rg false [⟨.some 6, .none, .mv (.t 0)⟩, ⟨.some 7, .none, .lenL (.t 6)⟩, ⟨.some 8, .none, .mv (.t 1)⟩, ⟨.some 9, .none, .lenL (.t 8)⟩, ⟨.some 10, .none, .bin .neq (.t 7) (.t 9)⟩]) (.cond (.t 10) (.seq (.rg false [⟨.some 4, .none, .mv (.c (.bool false))⟩]) .ret) .skip)) (.seq (.seq (.rg false [⟨.some 11, .none, .mv (.t 0)⟩, ⟨.some 12, .none, .lenL (.t 11)⟩, ⟨.some 13, .none, .mv (.c (.int .i64 0))⟩]) (.block 0 (.loop (.seq (.rg false [⟨.some 14, .none, .bin .lss (.t 13) (.t 12)⟩]) (.seq (.cond (.t 14) .skip (.exit 0)) (.seq (.block 1 (.seq (.rg false [⟨.some 15, .none, .mv (.t 13)⟩, ⟨.some 5, .none, .mv (.t 15)⟩]) (.seq (.rg true [⟨.some 16, .none, .mv (.t 0)⟩, ⟨.some 17, .none, .mv (.t 5)⟩, ⟨.some 18, .none, .ia 1 (.t 16) (.t 17)⟩, ⟨.some 19, .none, .ld .none (.t 18)⟩, ⟨.some 20, .none, .mv (.t 1)⟩, ⟨.some 21, .none, .mv (.t 5)⟩, ⟨.some 22, .none, .ia 1 (.t 20) (.t 21)⟩, ⟨.some 23, .none, .ld .none (.t 22)⟩, ⟨.some 24, .none, .bin .neq (.t 19) (.t 23)⟩]) (.cond (.t 24) (.seq (.rg false [⟨.some 4, .none, .mv (.c (.bool false))⟩]) .ret) .skip)))) (.rg false [⟨.some 25, .none, .bin .add (.t 13) (.c (.int .i64 1))⟩, ⟨.some 13, .none, .mv (.t 25)⟩]))))))) (.seq (.rg false [⟨.some 4, .none, .mv (.c (.bool true))⟩]) .ret)))))
def d36 : Def := (.code 2 [.tmp 4] (.seq (.rg false [⟨.some 4, .none, .mv (.c (.bool false))⟩]) (.seq (.seq (.rg false [⟨.some 6, .none, .mv (.t 0)⟩, ⟨.some 7, .none, .lenL (.t 6)⟩, ⟨.some 8, .none, .mv (.t 1)⟩, ⟨.some 9, .none, .lenL (.t 8)⟩, ⟨.some 10, .none, .bin .neq (.t 7) (.t 9)⟩]) (.cond (.t 10) (.seq (.rg false [⟨.some 4, .none, .mv (.c (.bool false))⟩]) .ret) .skip)) (.seq (.seq (.rg false [⟨.some 11, .none, .mv (.t 0)⟩, ⟨.some 12, .none, .lenL (.t 11)⟩, ⟨.some 13, .none, .mv (.c (.int .i64 0))⟩]) (.block 0 (.loop (.seq (.rg false [⟨.some 14, .none, .bin .lss (.t 13) (.t 12)⟩]) (.seq (.cond (.t 14) .skip (.exit 0)) (.seq (.block 1 (.seq (.rg false [⟨.some 15, .none, .mv (.t 13)⟩, ⟨.some 5, .none, .mv (.t 15)⟩]) (.seq (.rg true [⟨.some 16, .none, .mv (.t 0)⟩, ⟨.some 17, .none, .mv (.t 5)⟩, ⟨.some 18, .none, .ia 1 (.t 16) (.t 17)⟩, ⟨.some 19, .none, .ld .none (.t 18)⟩, ⟨.some 20, .none, .mv (.t 1)⟩, ⟨.some 21, .none, .mv (.t 5)⟩, ⟨.some 22, .none, .ia 1 (.t 20) (.t 21)⟩, ⟨.some 23, .none, .ld .none (.t 22)⟩, ⟨.some 24, .none, .bin .neq (.t 19) (.t 23)⟩]) (.cond (.t 24) (.seq (.rg false [⟨.some 4, .none, .mv (.c (.bool false))⟩]) .ret) .skip)))) (.rg false [⟨.some 25, .none, .bin .add (.t 13) (.c (.int .i64 1))⟩, ⟨.some 13, .none, .mv (.t 25)⟩]))))))) (.seq (.rg false [⟨.some 4, .none, .mv (.c (.bool true))⟩]) .ret)))))
def lha : List (Nat × Def) := [(203, .prim (pureF itoaF))]
def lhd : List (Nat × Def) := [(36, d36)]
def lhe : List (Nat × Def) := [(35, d35)]
section
variable {env : Nat → Option Def} {fr : Fr} {σ : St} {K : Fr → St → Prop} {Q : X → Fr → St → Prop}
theorem a203 (A : Has lha env) {n : Int} (h1 : -9223372036854775808 ≤ n) (h2 : n ≤ 9223372036854775807) : AV env 203 [.sc (.int .i64 n)] = some (.sc (.string (itoaS n))) := by
  have h := A (203, .prim (pureF itoaF)) (by simp [lha])
  refine AV_of (σ := St.nil) (r := .sc (.string (itoaS n))) ?_ rfl
  rw [EV_prim h]
  simp only [pureF, mapM_cons', mapM_nil', scOf, Option.bind_some, itoaF, if_pos (And.intro h1 h2), Option.map_some]
  rfl
end

section
variable {env : Nat → Option Def} {fr : Fr} {σ σ' σ'' : St} {K : Fr → St → Prop} {Q : X → Fr → St → Prop} {p : PV} {bs : List UInt8}
theorem ba_inj {a b : ByteArray} (h : a.toList = b.toList) : a = b := by
  rw [ByteArray.toList_eq, ByteArray.toList_eq] at h
  exact ByteArray.ext (Array.toList_inj.1 h)
theorem ba_beq (a b : ByteArray) : (a.toList == b.toList) = decide (a = b) := by
  rw [Bool.eq_iff_iff, beq_iff_eq, decide_eq_true_iff]
  exact ⟨ba_inj, fun h => by rw [h]⟩
theorem a36 (D : Has lhd env) {a b : List ByteArray} (hn : a.length ≤ 9223372036854775807) : AV env 36 [.sl (strs a), .sl (strs b)] = some (.sc (.bool (decide (a = b)))) := by
  refine AV_wp (D (36, d36) (by simp [lhd])) rfl ?_
  have hla := strs_len a
  have hlb := strs_len b
  (repeat' first
    | refine w_seq ?_ | refine w_rg ?_ | refine wo_nil ?_ | refine g_skU ?_ | refine g_skT ?_ | refine g_skF ?_
    | ((first | apply s_plain | apply s_void | apply s_guard | apply g_goT | apply g_goF); · simp only [go_sem, Nat.reduceEqDiff, Nat.reduceAdd, Nat.reduceLeDiff, hla, hlb]; (first | done | rfl))
    | ((first | apply g_T | apply g_F | apply g_gT | apply g_gF); · intro q1_; (first | intro q2_ | have q2_ := q1_); simp only [go_sem, Nat.reduceEqDiff, Nat.reduceAdd, Nat.reduceLeDiff, hla, hlb, q1_, q2_]; (first | done | rfl))
    | fail
    )
  by_cases hl : a.length = b.length
  · have hc : ((a.length : Int) != (b.length : Int)) = false := by rw [hl]; simp
    (repeat' first
    | refine w_seq ?_ | refine w_rg ?_ | refine wo_nil ?_ | refine g_skU ?_ | refine g_skT ?_ | refine g_skF ?_
    | ((first | apply s_plain | apply s_void | apply s_guard | apply g_goT | apply g_goF); · simp only [go_sem, Nat.reduceEqDiff, Nat.reduceAdd, Nat.reduceLeDiff, hc]; (first | done | rfl))
    | ((first | apply g_T | apply g_F | apply g_gT | apply g_gF); · intro q1_; (first | intro q2_ | have q2_ := q1_); simp only [go_sem, Nat.reduceEqDiff, Nat.reduceAdd, Nat.reduceLeDiff, hc, q1_, q2_]; (first | done | rfl))
    | (apply w_condX; · simp only [go_sem, Nat.reduceEqDiff, Nat.reduceAdd, Nat.reduceLeDiff, hc]; (first | done | rfl)); (first | refine wcd_T ?_ | refine wcd_F ?_)
    | refine w_skip ?_ | refine w_exit ?_ | refine w_ret ?_
    | fail
    )
    (repeat' first
    | refine w_seq ?_ | refine w_rg ?_ | refine wo_nil ?_ | refine g_skU ?_ | refine g_skT ?_ | refine g_skF ?_
    | ((first | apply s_plain | apply s_void | apply s_guard | apply g_goT | apply g_goF); · simp only [go_sem, Nat.reduceEqDiff, Nat.reduceAdd, Nat.reduceLeDiff, hla]; (first | done | rfl))
    | ((first | apply g_T | apply g_F | apply g_gT | apply g_gF); · intro q1_; (first | intro q2_ | have q2_ := q1_); simp only [go_sem, Nat.reduceEqDiff, Nat.reduceAdd, Nat.reduceLeDiff, hla, q1_, q2_]; (first | done | rfl))
    | fail
    )
    refine w_block (w_rangeF a.length hn (fun i fr σ => ∀ j, j < i → a[j]? = b[j]?) ⟨by decide, rfl, rfl⟩ (fun _ _ _ _ h => ⟨h, h, h⟩) (fun j hj => by omega) (by simp only [go_sem, Nat.reduceEqDiff, Nat.reduceAdd, Nat.reduceLeDiff]; first | done | rfl) (by simp only [go_sem, Nat.reduceEqDiff, Nat.reduceAdd, Nat.reduceLeDiff, hla]; first | done | rfl) ?_ ?_)
    · rintro i fr1 σ1 hi h3 hti hfr
      have f0_0 := hfr 0 rfl; have f0_1 := hfr 1 rfl; have f0_12 := hfr 12 rfl; try (simp only [go_sem, Nat.reduceEqDiff, Nat.reduceAdd, Nat.reduceLeDiff] at f0_0); try (simp only [go_sem, Nat.reduceEqDiff, Nat.reduceAdd, Nat.reduceLeDiff] at f0_1); try (simp only [go_sem, Nat.reduceEqDiff, Nat.reduceAdd, Nat.reduceLeDiff] at f0_12)
      have hi2 : i < b.length := by omega
      have qa := List.getElem?_eq_getElem hi
      have qb := List.getElem?_eq_getElem hi2
      have hx := strs_at qa
      have hy := strs_at qb
      have e1 : (0 : Int) ≤ (i : Int) ∧ (i : Int) < (a.length : Int) := by omega
      have e2 : (0 : Int) ≤ (i : Int) ∧ (i : Int) < (b.length : Int) := by omega
      refine w_block ?_
      (repeat' first
    | refine w_seq ?_ | refine w_rg ?_ | refine wo_nil ?_ | refine g_skU ?_ | refine g_skT ?_ | refine g_skF ?_
    | ((first | apply s_plain | apply s_void | apply s_guard | apply g_goT | apply g_goF); · simp only [go_sem, Nat.reduceEqDiff, Nat.reduceAdd, Nat.reduceLeDiff, f0_0, f0_1, f0_12, hti, e1, e2, hla, hlb, Int.toNat_natCast, hx, hy, ba_beq]; (first | done | rfl))
    | ((first | apply g_T | apply g_F | apply g_gT | apply g_gF); · intro q1_; (first | intro q2_ | have q2_ := q1_); simp only [go_sem, Nat.reduceEqDiff, Nat.reduceAdd, Nat.reduceLeDiff, f0_0, f0_1, f0_12, hti, e1, e2, hla, hlb, Int.toNat_natCast, hx, hy, ba_beq, q1_, q2_]; (first | done | rfl))
    | fail
    )
      by_cases he : a[i] = b[i]
      · have hb : (!(decide (a[i] = b[i]))) = false := by simp [he]
        (repeat' first
    | refine w_seq ?_ | refine w_rg ?_ | refine wo_nil ?_ | refine g_skU ?_ | refine g_skT ?_ | refine g_skF ?_
    | ((first | apply s_plain | apply s_void | apply s_guard | apply g_goT | apply g_goF); · simp only [go_sem, Nat.reduceEqDiff, Nat.reduceAdd, Nat.reduceLeDiff, hb]; (first | done | rfl))
    | ((first | apply g_T | apply g_F | apply g_gT | apply g_gF); · intro q1_; (first | intro q2_ | have q2_ := q1_); simp only [go_sem, Nat.reduceEqDiff, Nat.reduceAdd, Nat.reduceLeDiff, hb, q1_, q2_]; (first | done | rfl))
    | (apply w_condX; · simp only [go_sem, Nat.reduceEqDiff, Nat.reduceAdd, Nat.reduceLeDiff, hb]; (first | done | rfl)); (first | refine wcd_T ?_ | refine wcd_F ?_)
    | refine w_skip ?_ | refine w_exit ?_ | refine w_ret ?_
    | fail
    )
        intro j hj
        by_cases hji : j = i
        · rw [hji, qa, qb, he]
        · exact h3 j (by omega)
      · have hb : (!(decide (a[i] = b[i]))) = true := by simp [he]
        have hne : a ≠ b := fun h => he (by subst h; rfl)
        (repeat' first
    | refine w_seq ?_ | refine w_rg ?_ | refine wo_nil ?_ | refine g_skU ?_ | refine g_skT ?_ | refine g_skF ?_
    | ((first | apply s_plain | apply s_void | apply s_guard | apply g_goT | apply g_goF); · simp only [go_sem, Nat.reduceEqDiff, Nat.reduceAdd, Nat.reduceLeDiff, hb]; (first | done | rfl))
    | ((first | apply g_T | apply g_F | apply g_gT | apply g_gF); · intro q1_; (first | intro q2_ | have q2_ := q1_); simp only [go_sem, Nat.reduceEqDiff, Nat.reduceAdd, Nat.reduceLeDiff, hb, q1_, q2_]; (first | done | rfl))
    | (apply w_condX; · simp only [go_sem, Nat.reduceEqDiff, Nat.reduceAdd, Nat.reduceLeDiff, hb]; (first | done | rfl)); (first | refine wcd_T ?_ | refine wcd_F ?_)
    | refine w_skip ?_ | refine w_exit ?_ | refine w_ret ?_
    | fail
    )
        exact ⟨by first | exact .inr rfl | exact .inr trivial | exact .inl rfl, by simp only [go_sem, Nat.reduceEqDiff, Nat.reduceAdd, Nat.reduceLeDiff, retOf, resOf, decide_eq_false hne]; first | done | rfl⟩
    · rintro fr1 σ1 h3 hfr
      try simp only [if_true]
      have heq : a = b := List.ext_getElem? fun i => by
        by_cases hi : i < a.length
        · exact h3 i hi
        · rw [List.getElem?_eq_none (by omega), List.getElem?_eq_none (by omega)]
      (repeat' first
    | refine w_seq ?_ | refine w_rg ?_ | refine wo_nil ?_ | refine g_skU ?_ | refine g_skT ?_ | refine g_skF ?_
    | ((first | apply s_plain | apply s_void | apply s_guard | apply g_goT | apply g_goF); · simp only [go_sem, Nat.reduceEqDiff, Nat.reduceAdd, Nat.reduceLeDiff]; (first | done | rfl))
    | ((first | apply g_T | apply g_F | apply g_gT | apply g_gF); · intro q1_; (first | intro q2_ | have q2_ := q1_); simp only [go_sem, Nat.reduceEqDiff, Nat.reduceAdd, Nat.reduceLeDiff, q1_, q2_]; (first | done | rfl))
    | (apply w_condX; · simp only [go_sem, Nat.reduceEqDiff, Nat.reduceAdd, Nat.reduceLeDiff]; (first | done | rfl)); (first | refine wcd_T ?_ | refine wcd_F ?_)
    | refine w_skip ?_ | refine w_exit ?_ | refine w_ret ?_
    | fail
    )
      exact ⟨by first | exact .inr rfl | exact .inr trivial | exact .inl rfl, by simp only [go_sem, Nat.reduceEqDiff, Nat.reduceAdd, Nat.reduceLeDiff, retOf, resOf, decide_eq_true heq]; first | done | rfl⟩
  · have hc : ((a.length : Int) != (b.length : Int)) = true := by simp; omega
    have hne : a ≠ b := fun h => hl (by rw [h])
    (repeat' first
    | refine w_seq ?_ | refine w_rg ?_ | refine wo_nil ?_ | refine g_skU ?_ | refine g_skT ?_ | refine g_skF ?_
    | ((first | apply s_plain | apply s_void | apply s_guard | apply g_goT | apply g_goF); · simp only [go_sem, Nat.reduceEqDiff, Nat.reduceAdd, Nat.reduceLeDiff, hc]; (first | done | rfl))
    | ((first | apply g_T | apply g_F | apply g_gT | apply g_gF); · intro q1_; (first | intro q2_ | have q2_ := q1_); simp only [go_sem, Nat.reduceEqDiff, Nat.reduceAdd, Nat.reduceLeDiff, hc, q1_, q2_]; (first | done | rfl))
    | (apply w_condX; · simp only [go_sem, Nat.reduceEqDiff, Nat.reduceAdd, Nat.reduceLeDiff, hc]; (first | done | rfl)); (first | refine wcd_T ?_ | refine wcd_F ?_)
    | refine w_skip ?_ | refine w_exit ?_ | refine w_ret ?_
    | fail
    )
    exact ⟨by first | exact .inr rfl | exact .inr trivial | exact .inl rfl, by simp only [go_sem, Nat.reduceEqDiff, Nat.reduceAdd, Nat.reduceLeDiff, retOf, resOf, decide_eq_false hne]; first | done | rfl⟩
theorem a35 (D : Has lhe env) {a b : List ByteArray} (hn : a.length ≤ 9223372036854775807) : AV env 35 [.sl (strs a), .sl (strs b)] = some (.sc (.bool (decide (a = b)))) := by
  refine AV_wp (D (35, d35) (by simp [lhe])) rfl ?_
  have hla := strs_len a
  have hlb := strs_len b
  (repeat' first
    | refine w_seq ?_ | refine w_rg ?_ | refine wo_nil ?_ | refine g_skU ?_ | refine g_skT ?_ | refine g_skF ?_
    | ((first | apply s_plain | apply s_void | apply s_guard | apply g_goT | apply g_goF); · simp only [go_sem, Nat.reduceEqDiff, Nat.reduceAdd, Nat.reduceLeDiff, hla, hlb]; (first | done | rfl))
    | ((first | apply g_T | apply g_F | apply g_gT | apply g_gF); · intro q1_; (first | intro q2_ | have q2_ := q1_); simp only [go_sem, Nat.reduceEqDiff, Nat.reduceAdd, Nat.reduceLeDiff, hla, hlb, q1_, q2_]; (first | done | rfl))
    | fail
    )
  by_cases hl : a.length = b.length
  · have hc : ((a.length : Int) != (b.length : Int)) = false := by rw [hl]; simp
    (repeat' first
    | refine w_seq ?_ | refine w_rg ?_ | refine wo_nil ?_ | refine g_skU ?_ | refine g_skT ?_ | refine g_skF ?_
    | ((first | apply s_plain | apply s_void | apply s_guard | apply g_goT | apply g_goF); · simp only [go_sem, Nat.reduceEqDiff, Nat.reduceAdd, Nat.reduceLeDiff, hc]; (first | done | rfl))
    | ((first | apply g_T | apply g_F | apply g_gT | apply g_gF); · intro q1_; (first | intro q2_ | have q2_ := q1_); simp only [go_sem, Nat.reduceEqDiff, Nat.reduceAdd, Nat.reduceLeDiff, hc, q1_, q2_]; (first | done | rfl))
    | (apply w_condX; · simp only [go_sem, Nat.reduceEqDiff, Nat.reduceAdd, Nat.reduceLeDiff, hc]; (first | done | rfl)); (first | refine wcd_T ?_ | refine wcd_F ?_)
    | refine w_skip ?_ | refine w_exit ?_ | refine w_ret ?_
    | fail
    )
    (repeat' first
    | refine w_seq ?_ | refine w_rg ?_ | refine wo_nil ?_ | refine g_skU ?_ | refine g_skT ?_ | refine g_skF ?_
    | ((first | apply s_plain | apply s_void | apply s_guard | apply g_goT | apply g_goF); · simp only [go_sem, Nat.reduceEqDiff, Nat.reduceAdd, Nat.reduceLeDiff, hla]; (first | done | rfl))
    | ((first | apply g_T | apply g_F | apply g_gT | apply g_gF); · intro q1_; (first | intro q2_ | have q2_ := q1_); simp only [go_sem, Nat.reduceEqDiff, Nat.reduceAdd, Nat.reduceLeDiff, hla, q1_, q2_]; (first | done | rfl))
    | fail
    )
    refine w_block (w_rangeF a.length hn (fun i fr σ => ∀ j, j < i → a[j]? = b[j]?) ⟨by decide, rfl, rfl⟩ (fun _ _ _ _ h => ⟨h, h, h⟩) (fun j hj => by omega) (by simp only [go_sem, Nat.reduceEqDiff, Nat.reduceAdd, Nat.reduceLeDiff]; first | done | rfl) (by simp only [go_sem, Nat.reduceEqDiff, Nat.reduceAdd, Nat.reduceLeDiff, hla]; first | done | rfl) ?_ ?_)
    · rintro i fr1 σ1 hi h3 hti hfr
      have f0_0 := hfr 0 rfl; have f0_1 := hfr 1 rfl; have f0_12 := hfr 12 rfl; try (simp only [go_sem, Nat.reduceEqDiff, Nat.reduceAdd, Nat.reduceLeDiff] at f0_0); try (simp only [go_sem, Nat.reduceEqDiff, Nat.reduceAdd, Nat.reduceLeDiff] at f0_1); try (simp only [go_sem, Nat.reduceEqDiff, Nat.reduceAdd, Nat.reduceLeDiff] at f0_12)
      have hi2 : i < b.length := by omega
      have qa := List.getElem?_eq_getElem hi
      have qb := List.getElem?_eq_getElem hi2
      have hx := strs_at qa
      have hy := strs_at qb
      have e1 : (0 : Int) ≤ (i : Int) ∧ (i : Int) < (a.length : Int) := by omega
      have e2 : (0 : Int) ≤ (i : Int) ∧ (i : Int) < (b.length : Int) := by omega
      refine w_block ?_
      (repeat' first
    | refine w_seq ?_ | refine w_rg ?_ | refine wo_nil ?_ | refine g_skU ?_ | refine g_skT ?_ | refine g_skF ?_
    | ((first | apply s_plain | apply s_void | apply s_guard | apply g_goT | apply g_goF); · simp only [go_sem, Nat.reduceEqDiff, Nat.reduceAdd, Nat.reduceLeDiff, f0_0, f0_1, f0_12, hti, e1, e2, hla, hlb, Int.toNat_natCast, hx, hy, ba_beq]; (first | done | rfl))
    | ((first | apply g_T | apply g_F | apply g_gT | apply g_gF); · intro q1_; (first | intro q2_ | have q2_ := q1_); simp only [go_sem, Nat.reduceEqDiff, Nat.reduceAdd, Nat.reduceLeDiff, f0_0, f0_1, f0_12, hti, e1, e2, hla, hlb, Int.toNat_natCast, hx, hy, ba_beq, q1_, q2_]; (first | done | rfl))
    | fail
    )
      by_cases he : a[i] = b[i]
      · have hb : (!(decide (a[i] = b[i]))) = false := by simp [he]
        (repeat' first
    | refine w_seq ?_ | refine w_rg ?_ | refine wo_nil ?_ | refine g_skU ?_ | refine g_skT ?_ | refine g_skF ?_
    | ((first | apply s_plain | apply s_void | apply s_guard | apply g_goT | apply g_goF); · simp only [go_sem, Nat.reduceEqDiff, Nat.reduceAdd, Nat.reduceLeDiff, hb]; (first | done | rfl))
    | ((first | apply g_T | apply g_F | apply g_gT | apply g_gF); · intro q1_; (first | intro q2_ | have q2_ := q1_); simp only [go_sem, Nat.reduceEqDiff, Nat.reduceAdd, Nat.reduceLeDiff, hb, q1_, q2_]; (first | done | rfl))
    | (apply w_condX; · simp only [go_sem, Nat.reduceEqDiff, Nat.reduceAdd, Nat.reduceLeDiff, hb]; (first | done | rfl)); (first | refine wcd_T ?_ | refine wcd_F ?_)
    | refine w_skip ?_ | refine w_exit ?_ | refine w_ret ?_
    | fail
    )
        intro j hj
        by_cases hji : j = i
        · rw [hji, qa, qb, he]
        · exact h3 j (by omega)
      · have hb : (!(decide (a[i] = b[i]))) = true := by simp [he]
        have hne : a ≠ b := fun h => he (by subst h; rfl)
        (repeat' first
    | refine w_seq ?_ | refine w_rg ?_ | refine wo_nil ?_ | refine g_skU ?_ | refine g_skT ?_ | refine g_skF ?_
    | ((first | apply s_plain | apply s_void | apply s_guard | apply g_goT | apply g_goF); · simp only [go_sem, Nat.reduceEqDiff, Nat.reduceAdd, Nat.reduceLeDiff, hb]; (first | done | rfl))
    | ((first | apply g_T | apply g_F | apply g_gT | apply g_gF); · intro q1_; (first | intro q2_ | have q2_ := q1_); simp only [go_sem, Nat.reduceEqDiff, Nat.reduceAdd, Nat.reduceLeDiff, hb, q1_, q2_]; (first | done | rfl))
    | (apply w_condX; · simp only [go_sem, Nat.reduceEqDiff, Nat.reduceAdd, Nat.reduceLeDiff, hb]; (first | done | rfl)); (first | refine wcd_T ?_ | refine wcd_F ?_)
    | refine w_skip ?_ | refine w_exit ?_ | refine w_ret ?_
    | fail
    )
        exact ⟨by first | exact .inr rfl | exact .inr trivial | exact .inl rfl, by simp only [go_sem, Nat.reduceEqDiff, Nat.reduceAdd, Nat.reduceLeDiff, retOf, resOf, decide_eq_false hne]; first | done | rfl⟩
    · rintro fr1 σ1 h3 hfr
      try simp only [if_true]
      have heq : a = b := List.ext_getElem? fun i => by
        by_cases hi : i < a.length
        · exact h3 i hi
        · rw [List.getElem?_eq_none (by omega), List.getElem?_eq_none (by omega)]
      (repeat' first
    | refine w_seq ?_ | refine w_rg ?_ | refine wo_nil ?_ | refine g_skU ?_ | refine g_skT ?_ | refine g_skF ?_
    | ((first | apply s_plain | apply s_void | apply s_guard | apply g_goT | apply g_goF); · simp only [go_sem, Nat.reduceEqDiff, Nat.reduceAdd, Nat.reduceLeDiff]; (first | done | rfl))
    | ((first | apply g_T | apply g_F | apply g_gT | apply g_gF); · intro q1_; (first | intro q2_ | have q2_ := q1_); simp only [go_sem, Nat.reduceEqDiff, Nat.reduceAdd, Nat.reduceLeDiff, q1_, q2_]; (first | done | rfl))
    | (apply w_condX; · simp only [go_sem, Nat.reduceEqDiff, Nat.reduceAdd, Nat.reduceLeDiff]; (first | done | rfl)); (first | refine wcd_T ?_ | refine wcd_F ?_)
    | refine w_skip ?_ | refine w_exit ?_ | refine w_ret ?_
    | fail
    )
      exact ⟨by first | exact .inr rfl | exact .inr trivial | exact .inl rfl, by simp only [go_sem, Nat.reduceEqDiff, Nat.reduceAdd, Nat.reduceLeDiff, retOf, resOf, decide_eq_true heq]; first | done | rfl⟩
  · have hc : ((a.length : Int) != (b.length : Int)) = true := by simp; omega
    have hne : a ≠ b := fun h => hl (by rw [h])
    (repeat' first
    | refine w_seq ?_ | refine w_rg ?_ | refine wo_nil ?_ | refine g_skU ?_ | refine g_skT ?_ | refine g_skF ?_
    | ((first | apply s_plain | apply s_void | apply s_guard | apply g_goT | apply g_goF); · simp only [go_sem, Nat.reduceEqDiff, Nat.reduceAdd, Nat.reduceLeDiff, hc]; (first | done | rfl))
    | ((first | apply g_T | apply g_F | apply g_gT | apply g_gF); · intro q1_; (first | intro q2_ | have q2_ := q1_); simp only [go_sem, Nat.reduceEqDiff, Nat.reduceAdd, Nat.reduceLeDiff, hc, q1_, q2_]; (first | done | rfl))
    | (apply w_condX; · simp only [go_sem, Nat.reduceEqDiff, Nat.reduceAdd, Nat.reduceLeDiff, hc]; (first | done | rfl)); (first | refine wcd_T ?_ | refine wcd_F ?_)
    | refine w_skip ?_ | refine w_exit ?_ | refine w_ret ?_
    | fail
    )
    exact ⟨by first | exact .inr rfl | exact .inr trivial | exact .inl rfl, by simp only [go_sem, Nat.reduceEqDiff, Nat.reduceAdd, Nat.reduceLeDiff, retOf, resOf, decide_eq_false hne]; first | done | rfl⟩
end

end
section
structure Mt where
  n : ByteArray
  how : Int
  ws : List ByteArray
  deriving DecidableEq
def mt (m : Mt) : PV := .agg [.sc (.string m.n), .sc (.int .i64 m.how), .sl (strs m.ws)]
def mts (l : List Mt) : List PV := l.map mt
structure Rh where
  recv : ByteArray
  ms : List Mt
  bys : List ByteArray
  wait : Int
  every : Int
  rep : Int
  mute : List ByteArray
  on : Bool
  deriving DecidableEq
inductive Rt where
  | mk (h : Rh) (ks : List Rt)
def Rt.h : Rt → Rh
  | .mk h _ => h
def Rt.ks : Rt → List Rt
  | .mk _ ks => ks
def rhd (h : Rh) (k : PV) : PV := .agg [.sc (.string h.recv), .sl (mts h.ms), .sl (strs h.bys), .sc (.int .i64 h.wait), .sc (.int .i64 h.every), .sc (.int .i64 h.rep), .sl (strs h.mute), .sc (.bool h.on), k]
mutual
def rt : Rt → PV
  | .mk h ks => rhd h (.sl (rts ks))
def rts : List Rt → List PV
  | [] => []
  | r :: l => rt r :: rts l
end
theorem rts_map : ∀ l : List Rt, rts l = l.map rt
  | [] => rfl
  | r :: l => by rw [rts, rts_map l]; rfl
theorem rt_eq (r : Rt) : rt r = rhd r.h (.sl (rts r.ks)) := by cases r; rw [rt]; rfl
theorem rts_len (l : List Rt) : (rts l).length = l.length := by rw [rts_map, List.length_map]
theorem rts_at {l : List Rt} {i : Nat} {r : Rt} (h : l[i]? = some r) : (rts l)[i]? = some (rt r) := by rw [rts_map, List.getElem?_map, h]; rfl
theorem mts_len (l : List Mt) : (mts l).length = l.length := by simp [mts]
theorem mts_at {l : List Mt} {i : Nat} {m : Mt} (h : l[i]? = some m) : (mts l)[i]? = some (mt m) := by simp [mts, h]
theorem Rt.induct {p : Rt → Prop} (h : ∀ hd ks, (∀ k ∈ ks, p k) → p (.mk hd ks)) : ∀ r, p r
  | .mk hd ks => h hd ks fun k hk => Rt.induct h k
termination_by r => SizeOf.sizeOf r
decreasing_by
  have := List.sizeOf_lt_of_mem hk
  simp only [Rt.mk.sizeOf_spec]
  omega
/-! what is held in memory -/
structure Mt.Held (m : Mt) : Prop where
  n : Small m.n
  ws : m.ws.length ≤ 9223372036854775807
  wss : ∀ w ∈ m.ws, Small w
structure Rh.Held (h : Rh) : Prop where
  recv : Small h.recv
  ms : h.ms.length ≤ 9223372036854775807
  mss : ∀ m ∈ h.ms, m.Held
  bys : h.bys.length ≤ 9223372036854775807
  byss : ∀ w ∈ h.bys, Small w
  mute : h.mute.length ≤ 9223372036854775807
  mutes : ∀ w ∈ h.mute, Small w
inductive Rt.Held : Rt → Prop
  | mk (h : Rh) (ks : List Rt) : h.Held → ks.length ≤ 9223372036854775807 → (∀ k ∈ ks, Rt.Held k) → Rt.Held (.mk h ks)
/-! counting -/
mutual
def cntR : Rt → Nat
  | .mk _ ks => 1 + cntL ks
def cntL : List Rt → Nat
  | [] => 0
  | k :: l => cntR k + cntL l
end
theorem cntR_mk (h : Rh) (ks : List Rt) : cntR (.mk h ks) = 1 + cntL ks := by rw [cntR]
theorem cntL_append : ∀ (a b : List Rt), cntL (a ++ b) = cntL a + cntL b
  | [], b => by simp [cntL]
  | k :: a, b => by rw [List.cons_append, cntL, cntL, cntL_append a b]; omega
theorem cntL_one (k : Rt) : cntL [k] = cntR k := by simp [cntL]
theorem cntL_take {l : List Rt} {i : Nat} (h : i < l.length) : cntL (l.take (i + 1)) = cntL (l.take i) + cntR l[i] := by
  rw [List.take_succ_eq_append_getElem h, cntL_append, cntL_one]
/-! what is the same -/
mutual
def likeT : Rt → Rt → Bool
  | .mk h ks, .mk h' ks' => decide (h = h') && likeLs ks ks'
def likeLs : List Rt → List Rt → Bool
  | [], [] => true
  | a :: l, b :: m => likeT a b && likeLs l m
  | _, _ => false
end
theorem likeT_refl : ∀ r : Rt, likeT r r = true := by
  refine Rt.induct fun h ks ih => ?_
  rw [likeT, decide_eq_true rfl, Bool.true_and]
  clear h
  induction ks with
  | nil => rw [likeLs]
  | cons k l ih2 =>
    rw [likeLs, ih k (by simp), ih2 fun x hx => ih x (by simp [hx])]
    rfl
theorem likeLs_len : ∀ (l m : List Rt), l.length ≠ m.length → likeLs l m = false
  | [], [], h => absurd rfl h
  | [], _ :: _, _ => by rw [likeLs] <;> simp
  | _ :: _, [], _ => by rw [likeLs] <;> simp
  | a :: l, b :: m, h => by rw [likeLs, likeLs_len l m (by simpa using h), Bool.and_false]
theorem likeLs_get : ∀ (l m : List Rt), l.length = m.length → (likeLs l m = true ↔ ∀ i (h1 : i < l.length) (h2 : i < m.length), likeT l[i] m[i] = true)
  | [], [], _ => by simp [likeLs]
  | [], _ :: _, h => by simp at h
  | _ :: _, [], h => by simp at h
  | a :: l, b :: m, h => by
    rw [likeLs, Bool.and_eq_true, likeLs_get l m (by simpa using h)]
    constructor
    · rintro ⟨h1, h2⟩ i hi hj
      cases i with
      | zero => exact h1
      | succ i => exact h2 i (by simpa using hi) (by simpa using hj)
    · intro h
      exact ⟨h 0 (by simp) (by simp), fun i hi hj => h (i + 1) (by simpa using hi) (by simpa using hj)⟩
/-! which may be -/
def plainI (c : Int) : Bool := (decide (c ≥ 97) && decide (c ≤ 122)) || (decide (c ≥ 65) && decide (c ≤ 90)) || (decide (c ≥ 48) && decide (c ≤ 57)) || decide (Lib.indexByte [95, 45, 46, 47, 58] c.toNat.toUInt8 ≥ 0)
def oddM (c : Int) : Bool := !plainI c
def wordM (s : ByteArray) : Bool := decide ((s.size : Int) ≤ 64) && !hasB oddM s
def badW (ok : ByteArray → Bool) (l : List ByteArray) (i : Nat) : Bool := !ok (nthS l i) || (decide ((i : Int) > 0) && !lessB (nthS l (i - 1)) (nthS l i))
def riseB (ok : ByteArray → Bool) (l : List ByteArray) : Bool := (List.range l.length).all fun i => !badW ok l i
theorem rise_hit {ok : ByteArray → Bool} {l : List ByteArray} {i : Nat} (hi : i < l.length) (h : badW ok l i = true) : riseB ok l = false := by
  unfold riseB
  rw [List.all_eq_false]
  exact ⟨i, by simpa using hi, by simp [h]⟩
theorem rise_all {ok : ByteArray → Bool} {l : List ByteArray} (h : ∀ j, j < l.length → badW ok l j = false) : riseB ok l = true := by
  unfold riseB
  rw [List.all_eq_true]
  intro i hi
  rw [h i (by simpa using hi)]
  rfl
def mostM (how : Int) : Nat := if how > 2 then 8 else 1
def rightM (m : Mt) : Bool := riseB wordM m.ws && (decide (1 ≤ m.how) && decide (m.how ≤ 4)) && nameB m.n && decide (1 ≤ m.ws.length) && decide (m.ws.length ≤ mostM m.how)
def inT (n least : Int) : Bool := decide (n ≥ least) && decide (n ≤ 1099511627776)
def headR (h : Rh) (k : Nat) : Bool := !(!wordB h.recv || decide ((h.ms.length : Int) > 8) || !h.ms.all rightM || decide ((k : Int) > 16)) && (riseB nameB h.bys && decide ((h.bys.length : Int) ≤ 8)) && (riseB wordB h.mute && decide ((h.mute.length : Int) ≤ 8)) && ([h.wait].all fun n => inT n 0) && ([h.every, h.rep].all fun n => inT n 1)
def mayR : Nat → Rt → Bool
  | 0, _ => false
  | d + 1, r => headR r.h r.ks.length && r.ks.all (mayR d)
/-! where labels lead -/
def memB (l : List ByteArray) (s : ByteArray) : Bool := l.any fun x => decide (s = x)
def holdsM (l : List Lab) (m : Mt) : Bool := !(memB m.ws (getB l m.n) == (m.how == 2 || m.how == 4))
def holdsA (l : List Lab) (ms : List Mt) : Bool := ms.all (holdsM l)
def stepP (p : ByteArray) (i : Nat) : ByteArray := p ++ ⟨#[46]⟩ ++ itoaS (i : Int)
mutual
def findR (l : List Lab) : Rt → ByteArray → List (ByteArray × Rh)
  | .mk h ks, p => if ks.any (fun k => holdsA l k.h.ms) then findL l ks p 0 else [(p, h)]
def findL (l : List Lab) : List Rt → ByteArray → Nat → List (ByteArray × Rh)
  | [], _, _ => []
  | k :: r, p, i => if holdsA l k.h.ms then findR l k (stepP p i) ++ (if k.h.on then findL l r p (i + 1) else []) else findL l r p (i + 1)
end
/-! all of them -/
mutual
def allR : Rt → List Rt
  | .mk h ks => .mk h ks :: allL ks
def allL : List Rt → List Rt
  | [] => []
  | k :: l => allR k ++ allL l
end

end
section
attribute [local go_sem ↓] e_mv e_pick e_bin e_eqs e_beq e_un e_cvi e_str e_s2b e_b2s e_box e_build e_bsl e_ld e_st e_nck e_mkf e_slcS e_slcL e_fa e_fld e_ia e_iaa e_ix e_ixa e_ext e_lenS e_lenL e_mnmx e_app e_appb e_bbx e_msl e_clr e_call e_callv e_icall e_slcA e_mkm e_mput e_mget e_mlen e_mdel pa_t pa_c pa_f slcSP_str hiOf_some hiOf_none loOf_some loOf_none set_eq set_ne
attribute [local go_sem] pv pv1 simple frOf_0 frOf_1 frOf_2 frOf_3 frOf_4 frOf_5 ne_eq not_false_eq_true if_true Bool.false_eq_true if_false pbin punary Option.map_some Option.bind_some pick_and pick_or opt_true Bool.true_and Bool.and_self Bool.and_true Bool.true_or Bool.false_or Bool.not_true Bool.not_false callE pcall_eq List.map_cons List.map_nil List.append_nil List.nil_append List.cons_append mapM_cons' mapM_nil' dep_eq fz_sc fz_sl fz_em fz_fn fz_fp fz_agg fz_tu fz_bx fz_ob Nat.lt_irrefl Nat.zero_lt_one Nat.lt_add_one flat clL cl Bool.or_true okc_sc okc_em okc_sl okc_ob okc_bx okc_fp okc_fn okc_agg okc_ifc cells_agg cells_sc cells_sl cells_em cells_ob cells_fn cells_bx cells_fp List.length_cons List.length_nil Nat.zero_add and_self true_and and_true new_m new_c put_m put_c nil_m nil_c nil_mm new_mm put_mm newM_m newM_c newM_mm putM_m putM_c putM_mm mkeyV_1 mkeyV_2 mapAt_eq deref List.getElem?_cons_zero List.getElem?_cons_succ List.drop_zero List.drop_succ_cons List.take_succ_cons List.take_zero Nat.le_refl false_and and_false decide_true decide_false lenP_em lenP_nil lenP_sl lenP_ob Int.ofNat_zero splice fillP fillE List.modify_zero_cons List.replicate_succ List.replicate_zero List.set_cons_zero List.drop_zero ba_data ba_size ba_toList ba_extract ba_append List.toList_toArray
def d307 : Def := (.code 2 [.tmp 4] (.seq (.rg false [⟨.some 4, .none, .mv (.c (.bool false))⟩]) (.seq (.rg false [⟨.some 5, .none, .mv (.t 0)⟩, ⟨.some 6, .none, .mv (.t 1)⟩, ⟨.some 7, .none, .call 322 .pure [.t 5, .t 6]⟩, ⟨.some 8, .none, .bin .geq (.t 7) (.c (.int .i64 0))⟩, ⟨.some 4, .none, .mv (.t 8)⟩]) .ret)))
def d322 : Def := (.code 2 [.tmp 4] (.seq (.rg false [⟨.some 4, .none, .mv (.c (.int .i64 0))⟩]) (.seq (.seq (.rg false [⟨.some 6, .none, .mv (.t 0)⟩, ⟨.some 7, .none, .lenL (.t 6)⟩, ⟨.some 8, .none, .mv (.c (.int .i64 0))⟩]) (.block 0 (.loop (.seq (.rg false [⟨.some 9, .none, .bin .lss (.t 8) (.t 7)⟩]) (.seq (.cond (.t 9) .skip (.exit 0)) (.seq (.block 1 (.seq (.rg false [⟨.some 10, .none, .mv (.t 8)⟩, ⟨.some 5, .none, .mv (.t 10)⟩]) (.seq (.rg false [⟨.some 11, .none, .mv (.t 1)⟩, ⟨.some 12, .none, .mv (.t 0)⟩, ⟨.some 13, .none, .mv (.t 5)⟩, ⟨.some 14, .none, .ia 3 (.t 12) (.t 13)⟩, ⟨.some 15, .none, .ld (.some 3) (.t 14)⟩, ⟨.some 16, .none, .callv (.t 11) .pure [.t 15]⟩]) (.cond (.t 16) (.seq (.rg false [⟨.some 17, .none, .mv (.t 5)⟩, ⟨.some 4, .none, .mv (.t 17)⟩]) .ret) .skip)))) (.rg false [⟨.some 18, .none, .bin .add (.t 8) (.c (.int .i64 1))⟩, ⟨.some 8, .none, .mv (.t 18)⟩]))))))) (.seq (.rg false [⟨.some 4, .none, .mv (.c (.int .i64 (-1)))⟩]) .ret))))
def d318 : Def := (.code 2 [.tmp 4] (.seq (.rg false [⟨.some 4, .none, .mv (.c (.bool false))⟩]) (.seq (.rg false [⟨.some 5, .none, .mv (.t 0)⟩, ⟨.some 6, .none, .mv (.t 1)⟩, ⟨.some 7, .none, .call 326 .pure [.t 5, .t 6]⟩, ⟨.some 8, .none, .bin .geq (.t 7) (.c (.int .i64 0))⟩, ⟨.some 4, .none, .mv (.t 8)⟩]) .ret)))
def d326 : Def := (.code 2 [.tmp 4] (.seq (.rg false [⟨.some 4, .none, .mv (.c (.int .i64 0))⟩]) (.seq (.seq (.rg false [⟨.some 6, .none, .mv (.t 0)⟩, ⟨.some 7, .none, .lenL (.t 6)⟩, ⟨.some 8, .none, .mv (.c (.int .i64 0))⟩]) (.block 0 (.loop (.seq (.rg false [⟨.some 9, .none, .bin .lss (.t 8) (.t 7)⟩]) (.seq (.cond (.t 9) .skip (.exit 0)) (.seq (.block 1 (.seq (.rg false [⟨.some 10, .none, .mv (.t 8)⟩, ⟨.some 5, .none, .mv (.t 10)⟩]) (.seq (.rg false [⟨.some 11, .none, .mv (.t 1)⟩, ⟨.some 12, .none, .mv (.t 0)⟩, ⟨.some 13, .none, .mv (.t 5)⟩, ⟨.some 14, .none, .ia 9 (.t 12) (.t 13)⟩, ⟨.some 15, .none, .ld (.some 9) (.t 14)⟩, ⟨.some 16, .none, .callv (.t 11) .pure [.t 15]⟩]) (.cond (.t 16) (.seq (.rg false [⟨.some 17, .none, .mv (.t 5)⟩, ⟨.some 4, .none, .mv (.t 17)⟩]) .ret) .skip)))) (.rg false [⟨.some 18, .none, .bin .add (.t 8) (.c (.int .i64 1))⟩, ⟨.some 8, .none, .mv (.t 18)⟩]))))))) (.seq (.rg false [⟨.some 4, .none, .mv (.c (.int .i64 (-1)))⟩]) .ret))))
def d324 : Def := (.code 2 [.tmp 4] (.seq (.rg false [⟨.some 4, .none, .mv (.c (.bool false))⟩]) (.seq (.rg false [⟨.some 5, .none, .mv (.t 0)⟩, ⟨.some 6, .none, .mv (.t 1)⟩, ⟨.some 7, .none, .call 329 .pure [.t 5, .t 6]⟩, ⟨.some 8, .none, .bin .geq (.t 7) (.c (.int .i64 0))⟩, ⟨.some 4, .none, .mv (.t 8)⟩]) .ret)))
def d329 : Def := (.code 2 [.tmp 4] (.seq (.rg false [⟨.some 4, .none, .mv (.c (.int .i64 0))⟩]) (.seq (.seq (.rg false [⟨.some 6, .none, .mv (.t 0)⟩, ⟨.some 7, .none, .lenL (.t 6)⟩, ⟨.some 8, .none, .mv (.c (.int .i64 0))⟩]) (.block 0 (.loop (.seq (.rg false [⟨.some 9, .none, .bin .lss (.t 8) (.t 7)⟩]) (.seq (.cond (.t 9) .skip (.exit 0)) (.seq (.block 1 (.seq (.rg false [⟨.some 10, .none, .mv (.t 8)⟩, ⟨.some 5, .none, .mv (.t 10)⟩]) (.seq (.rg false [⟨.some 11, .none, .mv (.t 1)⟩, ⟨.some 12, .none, .mv (.t 0)⟩, ⟨.some 13, .none, .mv (.t 5)⟩, ⟨.some 14, .none, .ia 1 (.t 12) (.t 13)⟩, ⟨.some 15, .none, .ld .none (.t 14)⟩, ⟨.some 16, .none, .callv (.t 11) .pure [.t 15]⟩]) (.cond (.t 16) (.seq (.rg false [⟨.some 17, .none, .mv (.t 5)⟩, ⟨.some 4, .none, .mv (.t 17)⟩]) .ret) .skip)))) (.rg false [⟨.some 18, .none, .bin .add (.t 8) (.c (.int .i64 1))⟩, ⟨.some 8, .none, .mv (.t 18)⟩]))))))) (.seq (.rg false [⟨.some 4, .none, .mv (.c (.int .i64 (-1)))⟩]) .ret))))
def d325 : Def := (.code 2 [.tmp 3] (.seq (.rg false [⟨.some 3, .none, .mv (.c (.bool false))⟩]) (.seq (.rg false [⟨.some 4, .none, .mv (.t 0)⟩, ⟨.some 5, .none, .ld .none (.t 1)⟩, ⟨.some 6, .none, .bin .lss (.t 4) (.t 5)⟩, ⟨.some 7, .none, .mv (.t 6)⟩, ⟨.some 8, .some (7, false), .mv (.t 0)⟩, ⟨.some 9, .some (7, false), .bin .gtr (.t 8) (.c (.int .i64 1099511627776))⟩, ⟨.some 10, .none, .pick (.t 7) (.c (.bool true)) (.t 9)⟩, ⟨.some 3, .none, .mv (.t 10)⟩]) .ret)))
def d317 : Def := (.code 2 [.tmp 4] (.seq (.rg false [⟨.some 2, .none, .box (.t 0)⟩, ⟨.some 4, .none, .mv (.c (.bool false))⟩]) (.seq (.rg false [⟨.some 5, .none, .mv (.t 1)⟩, ⟨.some 6, .none, .mkf 325 [] [.t 2]⟩, ⟨.some 7, .none, .call 324 .pure [.t 5, .t 6]⟩, ⟨.some 8, .none, .un .not (.t 7)⟩, ⟨.some 4, .none, .mv (.t 8)⟩]) .ret)))
def d315 : Def := (.code 2 [.tmp 4] (.seq (.rg false [⟨.some 4, .none, .mv (.c (.bool false))⟩]) (.seq (.seq (.rg false [⟨.some 7, .none, .mv (.t 0)⟩, ⟨.some 8, .none, .lenL (.t 7)⟩, ⟨.some 9, .none, .mv (.c (.int .i64 0))⟩]) (.block 0 (.loop (.seq (.rg false [⟨.some 10, .none, .bin .lss (.t 9) (.t 8)⟩]) (.seq (.cond (.t 10) .skip (.exit 0)) (.seq (.block 1 (.seq (.rg false [⟨.some 11, .none, .mv (.t 9)⟩, ⟨.some 12, .none, .ia 1 (.t 7) (.t 9)⟩, ⟨.some 13, .none, .ld .none (.t 12)⟩, ⟨.some 5, .none, .mv (.t 11)⟩, ⟨.some 6, .none, .mv (.t 13)⟩]) (.seq (.rg false [⟨.some 14, .none, .mv (.t 1)⟩, ⟨.some 15, .none, .mv (.t 6)⟩, ⟨.some 16, .none, .callv (.t 14) .pure [.t 15]⟩, ⟨.some 17, .none, .un .not (.t 16)⟩, ⟨.some 18, .none, .mv (.t 17)⟩, ⟨.some 19, .some (18, false), .mv (.t 5)⟩, ⟨.some 20, .some (18, false), .bin .gtr (.t 19) (.c (.int .i64 0))⟩, ⟨.some 21, .some (18, false), .mv (.t 20)⟩, ⟨.some 22, .some (21, true), .mv (.t 0)⟩, ⟨.some 23, .some (21, true), .mv (.t 5)⟩, ⟨.some 24, .some (21, true), .bin .sub (.t 23) (.c (.int .i64 1))⟩, ⟨.some 25, .some (21, true), .ia 1 (.t 22) (.t 24)⟩, ⟨.some 26, .some (21, true), .ld .none (.t 25)⟩, ⟨.some 27, .some (21, true), .mv (.t 6)⟩, ⟨.some 28, .some (21, true), .bin .geq (.t 26) (.t 27)⟩, ⟨.some 29, .some (18, false), .pick (.t 21) (.t 28) (.c (.bool false))⟩, ⟨.some 30, .none, .pick (.t 18) (.c (.bool true)) (.t 29)⟩]) (.cond (.t 30) (.seq (.rg false [⟨.some 4, .none, .mv (.c (.bool false))⟩]) .ret) .skip)))) (.rg false [⟨.some 31, .none, .bin .add (.t 9) (.c (.int .i64 1))⟩, ⟨.some 9, .none, .mv (.t 31)⟩]))))))) (.seq (.rg false [⟨.some 32, .none, .mv (.t 0)⟩, ⟨.some 33, .none, .lenL (.t 32)⟩, ⟨.some 34, .none, .bin .leq (.t 33) (.c (.int .i64 8))⟩, ⟨.some 4, .none, .mv (.t 34)⟩]) .ret))))
def d314 : Def := (.code 1 [.tmp 2] (.seq (.rg false [⟨.some 2, .none, .mv (.c (.bool false))⟩]) (.seq (.rg false [⟨.some 3, .none, .mv (.t 0)⟩, ⟨.some 4, .none, .build (.agg #[.string ⟨#[]⟩, .slice .none 0 0, .slice .none 0 0]) [(0, (1, .t 3))]⟩, ⟨.some 5, .none, .bsl 3 (.agg #[.string ⟨#[]⟩, .slice .none 0 0, .slice .none 0 0]) 1 [(0, .t 4)]⟩, ⟨.some 6, .none, .call 9 .pure [.t 5]⟩, ⟨.some 2, .none, .mv (.t 6)⟩]) .ret)))
def d316 : Def := (.code 1 [.tmp 2] (.seq (.rg false [⟨.some 2, .none, .mv (.c (.bool false))⟩]) (.seq (.rg false [⟨.some 3, .none, .mv (.t 0)⟩, ⟨.some 4, .none, .build (.agg #[.string ⟨#[]⟩, .string ⟨#[]⟩]) [(0, (1, .t 3)), (1, (1, .c (.string ⟨#[120]⟩)))]⟩, ⟨.some 5, .none, .bsl 2 (.agg #[.string ⟨#[]⟩, .string ⟨#[]⟩]) 1 [(0, .t 4)]⟩, ⟨.some 6, .none, .call 113 .pure [.t 5]⟩, ⟨.some 2, .none, .mv (.t 6)⟩]) .ret)))
def d313 : Def := (.code 1 [.tmp 2] (.seq (.rg false [⟨.some 1, .none, .box (.t 0)⟩, ⟨.some 2, .none, .mv (.c (.bool false))⟩]) (.seq (.rg false [⟨.some 3, .none, .ld (.some 3) (.t 1)⟩, ⟨.some 4, .none, .call 306 .pure [.t 3]⟩, ⟨.some 5, .none, .un .not (.t 4)⟩, ⟨.some 2, .none, .mv (.t 5)⟩]) .ret)))
def d319 : Def := (.code 2 [.tmp 3] (.seq (.rg false [⟨.some 2, .none, .box (.t 0)⟩, ⟨.some 3, .none, .mv (.c (.bool false))⟩]) (.seq (.rg false [⟨.some 4, .none, .ld (.some 9) (.t 2)⟩, ⟨.some 5, .none, .ld .none (.t 1)⟩, ⟨.some 6, .none, .bin .sub (.t 5) (.c (.int .i64 1))⟩, ⟨.some 7, .none, .call 304 .pure [.t 4, .t 6]⟩, ⟨.some 8, .none, .un .not (.t 7)⟩, ⟨.some 3, .none, .mv (.t 8)⟩]) .ret)))
def d304 : Def := (.code 2 [.tmp 4] (.seq (.rg false [⟨.some 2, .none, .box (.t 0)⟩, ⟨.some 3, .none, .box (.t 1)⟩, ⟨.some 4, .none, .mv (.c (.bool false))⟩]) (.seq (.rg false [⟨.some 5, .none, .mv (.f 313)⟩]) (.seq (.seq (.rg false [⟨.some 6, .none, .ld .none (.t 3)⟩, ⟨.some 7, .none, .bin .eql (.t 6) (.c (.int .i64 0))⟩, ⟨.some 8, .none, .mv (.t 7)⟩, ⟨.some 9, .some (8, false), .fa 0 (.t 2)⟩, ⟨.some 10, .some (8, false), .ld .none (.t 9)⟩, ⟨.some 11, .some (8, false), .call 314 .pure [.t 10]⟩, ⟨.some 12, .some (8, false), .un .not (.t 11)⟩, ⟨.some 13, .none, .pick (.t 8) (.c (.bool true)) (.t 12)⟩, ⟨.some 14, .none, .mv (.t 13)⟩, ⟨.some 15, .some (14, false), .fa 1 (.t 2)⟩, ⟨.some 16, .some (14, false), .ld .none (.t 15)⟩, ⟨.some 17, .some (14, false), .lenL (.t 16)⟩, ⟨.some 18, .some (14, false), .bin .gtr (.t 17) (.c (.int .i64 8))⟩, ⟨.some 19, .none, .pick (.t 14) (.c (.bool true)) (.t 18)⟩, ⟨.some 20, .none, .mv (.t 19)⟩, ⟨.some 21, .some (20, false), .fa 1 (.t 2)⟩, ⟨.some 22, .some (20, false), .ld .none (.t 21)⟩, ⟨.some 23, .some (20, false), .mv (.t 5)⟩, ⟨.some 24, .some (20, false), .call 307 .pure [.t 22, .t 23]⟩, ⟨.some 25, .none, .pick (.t 20) (.c (.bool true)) (.t 24)⟩, ⟨.some 26, .none, .mv (.t 25)⟩, ⟨.some 27, .some (26, false), .fa 8 (.t 2)⟩, ⟨.some 28, .some (26, false), .ld .none (.t 27)⟩, ⟨.some 29, .some (26, false), .lenL (.t 28)⟩, ⟨.some 30, .some (26, false), .bin .gtr (.t 29) (.c (.int .i64 16))⟩, ⟨.some 31, .none, .pick (.t 26) (.c (.bool true)) (.t 30)⟩]) (.cond (.t 31) (.seq (.rg false [⟨.some 4, .none, .mv (.c (.bool false))⟩]) .ret) .skip)) (.seq (.seq (.rg false [⟨.some 32, .none, .fa 2 (.t 2)⟩, ⟨.some 33, .none, .ld .none (.t 32)⟩, ⟨.some 34, .none, .call 315 .pure [.t 33, .f 316]⟩, ⟨.some 35, .none, .un .not (.t 34)⟩, ⟨.some 36, .none, .mv (.t 35)⟩, ⟨.some 37, .some (36, false), .fa 6 (.t 2)⟩, ⟨.some 38, .some (36, false), .ld .none (.t 37)⟩, ⟨.some 39, .some (36, false), .call 315 .pure [.t 38, .f 314]⟩, ⟨.some 40, .some (36, false), .un .not (.t 39)⟩, ⟨.some 41, .none, .pick (.t 36) (.c (.bool true)) (.t 40)⟩, ⟨.some 42, .none, .mv (.t 41)⟩, ⟨.some 43, .some (42, false), .fa 3 (.t 2)⟩, ⟨.some 44, .some (42, false), .ld .none (.t 43)⟩, ⟨.some 45, .some (42, false), .bsl 1 (.int .i64 0) 1 [(0, .t 44)]⟩, ⟨.some 46, .some (42, false), .call 317 .pure [.c (.int .i64 0), .t 45]⟩, ⟨.some 47, .some (42, false), .un .not (.t 46)⟩, ⟨.some 48, .none, .pick (.t 42) (.c (.bool true)) (.t 47)⟩, ⟨.some 49, .none, .mv (.t 48)⟩, ⟨.some 50, .some (49, false), .fa 4 (.t 2)⟩, ⟨.some 51, .some (49, false), .ld .none (.t 50)⟩, ⟨.some 52, .some (49, false), .fa 5 (.t 2)⟩, ⟨.some 53, .some (49, false), .ld .none (.t 52)⟩, ⟨.some 54, .some (49, false), .bsl 1 (.int .i64 0) 2 [(0, .t 51), (1, .t 53)]⟩, ⟨.some 55, .some (49, false), .call 317 .pure [.c (.int .i64 1), .t 54]⟩, ⟨.some 56, .some (49, false), .un .not (.t 55)⟩, ⟨.some 57, .none, .pick (.t 49) (.c (.bool true)) (.t 56)⟩]) (.cond (.t 57) (.seq (.rg false [⟨.some 4, .none, .mv (.c (.bool false))⟩]) .ret) .skip)) (.seq (.rg false [⟨.some 58, .none, .fa 8 (.t 2)⟩, ⟨.some 59, .none, .ld .none (.t 58)⟩, ⟨.some 60, .none, .mkf 319 [] [.t 3]⟩, ⟨.some 61, .none, .call 318 .pure [.t 59, .t 60]⟩, ⟨.some 62, .none, .un .not (.t 61)⟩, ⟨.some 4, .none, .mv (.t 62)⟩]) .ret))))))
def d298 : Def := (.code 1 [.tmp 2] (.seq (.rg false [⟨.some 1, .none, .box (.t 0)⟩, ⟨.some 2, .none, .mv (.c (.bool false))⟩]) (.seq (.rg false [⟨.some 3, .none, .ld (.some 9) (.t 1)⟩, ⟨.some 4, .none, .call 304 .pure [.t 3, .c (.int .i64 4)]⟩, ⟨.some 2, .none, .mv (.t 4)⟩]) .ret)))
def d320 : Def := (.code 1 [.tmp 2] (.seq (.rg false [⟨.some 2, .none, .mv (.c (.bool false))⟩]) (.seq (.rg false [⟨.some 3, .none, .mv (.t 0)⟩, ⟨.some 4, .none, .lenS (.t 3)⟩, ⟨.some 5, .none, .bin .leq (.t 4) (.c (.int .i64 64))⟩, ⟨.some 6, .none, .mv (.t 5)⟩, ⟨.some 7, .some (6, true), .mv (.t 0)⟩, ⟨.some 8, .some (6, true), .s2b (.t 7)⟩, ⟨.some 9, .some (6, true), .call 67 .pure [.t 8, .f 327]⟩, ⟨.some 10, .some (6, true), .un .not (.t 9)⟩, ⟨.some 11, .none, .pick (.t 6) (.t 10) (.c (.bool false))⟩, ⟨.some 2, .none, .mv (.t 11)⟩]) .ret)))
def d327 : Def := (.code 1 [.tmp 2] (.seq (.rg false [⟨.some 2, .none, .mv (.c (.bool false))⟩]) (.seq (.rg false [⟨.some 3, .none, .mv (.t 0)⟩, ⟨.some 4, .none, .call 328 .pure [.t 3]⟩, ⟨.some 5, .none, .un .not (.t 4)⟩, ⟨.some 2, .none, .mv (.t 5)⟩]) .ret)))
def d328 : Def := (.code 1 [.tmp 2] (.seq (.rg false [⟨.some 2, .none, .mv (.c (.bool false))⟩]) (.seq (.rg false [⟨.some 3, .none, .mv (.t 0)⟩, ⟨.some 4, .none, .bin .geq (.t 3) (.c (.int .u8 97))⟩, ⟨.some 5, .none, .mv (.t 4)⟩, ⟨.some 6, .some (5, true), .mv (.t 0)⟩, ⟨.some 7, .some (5, true), .bin .leq (.t 6) (.c (.int .u8 122))⟩, ⟨.some 8, .none, .pick (.t 5) (.t 7) (.c (.bool false))⟩, ⟨.some 9, .none, .mv (.t 8)⟩, ⟨.some 10, .some (9, false), .mv (.t 0)⟩, ⟨.some 11, .some (9, false), .bin .geq (.t 10) (.c (.int .u8 65))⟩, ⟨.some 12, .some (9, false), .mv (.t 11)⟩, ⟨.some 13, .some (12, true), .mv (.t 0)⟩, ⟨.some 14, .some (12, true), .bin .leq (.t 13) (.c (.int .u8 90))⟩, ⟨.some 15, .some (9, false), .pick (.t 12) (.t 14) (.c (.bool false))⟩, ⟨.some 16, .none, .pick (.t 9) (.c (.bool true)) (.t 15)⟩, ⟨.some 17, .none, .mv (.t 16)⟩, ⟨.some 18, .some (17, false), .mv (.t 0)⟩, ⟨.some 19, .some (17, false), .bin .geq (.t 18) (.c (.int .u8 48))⟩, ⟨.some 20, .some (17, false), .mv (.t 19)⟩, ⟨.some 21, .some (20, true), .mv (.t 0)⟩, ⟨.some 22, .some (20, true), .bin .leq (.t 21) (.c (.int .u8 57))⟩, ⟨.some 23, .some (17, false), .pick (.t 20) (.t 22) (.c (.bool false))⟩, ⟨.some 24, .none, .pick (.t 17) (.c (.bool true)) (.t 23)⟩, ⟨.some 25, .none, .mv (.t 24)⟩, ⟨.some 26, .some (25, false), .mv (.t 0)⟩, ⟨.some 27, .some (25, false), .call 98 .pure [.c (.string ⟨#[95, 45, 46, 47, 58]⟩), .t 26]⟩, ⟨.some 28, .some (25, false), .bin .geq (.t 27) (.c (.int .i64 0))⟩, ⟨.some 29, .none, .pick (.t 25) (.c (.bool true)) (.t 28)⟩, ⟨.some 2, .none, .mv (.t 29)⟩]) .ret)))
def d321 : Def := (.code 0 [.tmp 0] (.seq (.rg false [⟨.some 0, .none, .mv (.c (.map .none))⟩]) (.seq (.rg false [⟨.some 1, .none, .mkm⟩, ⟨.none, .none, .mput 1 (.t 1) (.c (.int .i64 1)) (.c (.string ⟨#[61]⟩))⟩, ⟨.none, .none, .mput 1 (.t 1) (.c (.int .i64 2)) (.c (.string ⟨#[33, 61]⟩))⟩, ⟨.none, .none, .mput 1 (.t 1) (.c (.int .i64 3)) (.c (.string ⟨#[61, 126]⟩))⟩, ⟨.none, .none, .mput 1 (.t 1) (.c (.int .i64 4)) (.c (.string ⟨#[33, 126]⟩))⟩, ⟨.some 2, .none, .mv (.t 1)⟩, ⟨.some 0, .none, .mv (.t 2)⟩]) .ret)))
def d306 : Def := (.code 1 [.tmp 2] (.seq (.rg false [⟨.some 1, .none, .box (.t 0)⟩, ⟨.some 2, .none, .mv (.c (.bool false))⟩]) (.seq (.rg false [⟨.some 3, .none, .mv (.c (.int .i64 1))⟩]) (.seq (.seq (.rg false [⟨.some 8, .none, .fa 1 (.t 1)⟩, ⟨.some 9, .none, .ld .none (.t 8)⟩, ⟨.some 10, .none, .bin .gtr (.t 9) (.c (.int .i64 2))⟩]) (.cond (.t 10) (.rg false [⟨.some 3, .none, .mv (.c (.int .i64 8))⟩]) .skip)) (.seq (.seq (.rg false [⟨.some 11, .none, .fa 2 (.t 1)⟩, ⟨.some 12, .none, .ld .none (.t 11)⟩, ⟨.some 13, .none, .lenL (.t 12)⟩, ⟨.some 14, .none, .mv (.c (.int .i64 0))⟩]) (.block 0 (.loop (.seq (.rg false [⟨.some 15, .none, .bin .lss (.t 14) (.t 13)⟩]) (.seq (.cond (.t 15) .skip (.exit 0)) (.seq (.block 1 (.seq (.rg false [⟨.some 16, .none, .mv (.t 14)⟩, ⟨.some 17, .none, .ia 1 (.t 12) (.t 14)⟩, ⟨.some 18, .none, .ld .none (.t 17)⟩, ⟨.some 4, .none, .mv (.t 16)⟩, ⟨.some 5, .none, .mv (.t 18)⟩]) (.seq (.rg false [⟨.some 19, .none, .mv (.t 5)⟩, ⟨.some 20, .none, .call 320 .pure [.t 19]⟩, ⟨.some 21, .none, .un .not (.t 20)⟩, ⟨.some 22, .none, .mv (.t 21)⟩, ⟨.some 23, .some (22, false), .mv (.t 4)⟩, ⟨.some 24, .some (22, false), .bin .gtr (.t 23) (.c (.int .i64 0))⟩, ⟨.some 25, .some (22, false), .mv (.t 24)⟩, ⟨.some 26, .some (25, true), .fa 2 (.t 1)⟩, ⟨.some 27, .some (25, true), .ld .none (.t 26)⟩, ⟨.some 28, .some (25, true), .mv (.t 4)⟩, ⟨.some 29, .some (25, true), .bin .sub (.t 28) (.c (.int .i64 1))⟩, ⟨.some 30, .some (25, true), .ia 1 (.t 27) (.t 29)⟩, ⟨.some 31, .some (25, true), .ld .none (.t 30)⟩, ⟨.some 32, .some (25, true), .mv (.t 5)⟩, ⟨.some 33, .some (25, true), .bin .geq (.t 31) (.t 32)⟩, ⟨.some 34, .some (22, false), .pick (.t 25) (.t 33) (.c (.bool false))⟩, ⟨.some 35, .none, .pick (.t 22) (.c (.bool true)) (.t 34)⟩]) (.cond (.t 35) (.seq (.rg false [⟨.some 2, .none, .mv (.c (.bool false))⟩]) .ret) .skip)))) (.rg false [⟨.some 36, .none, .bin .add (.t 14) (.c (.int .i64 1))⟩, ⟨.some 14, .none, .mv (.t 36)⟩]))))))) (.seq (.rg2 [⟨.some 39, .none, .fa 1 (.t 1)⟩, ⟨.some 40, .none, .ld .none (.t 39)⟩, ⟨.some 38, .none, .call 321 .opn []⟩, ⟨.some 41, .none, .mget 1 (.string ⟨#[]⟩) true (.t 38) (.t 40)⟩, ⟨.some 37, .none, .mv (.t 41)⟩, ⟨.some 42, .none, .ext (.t 37) 0⟩, ⟨.some 43, .none, .ext (.t 37) 1⟩, ⟨.some 6, .none, .mv (.t 42)⟩, ⟨.some 7, .none, .mv (.t 43)⟩] [⟨.some 39, .none, .fa 1 (.t 1)⟩, ⟨.some 38, .none, .call 321 .opn []⟩, ⟨.some 40, .none, .ld .none (.t 39)⟩, ⟨.some 41, .none, .mget 1 (.string ⟨#[]⟩) true (.t 38) (.t 40)⟩, ⟨.some 37, .none, .mv (.t 41)⟩, ⟨.some 42, .none, .ext (.t 37) 0⟩, ⟨.some 43, .none, .ext (.t 37) 1⟩, ⟨.some 6, .none, .mv (.t 42)⟩, ⟨.some 7, .none, .mv (.t 43)⟩]) (.seq (.rg false [⟨.some 44, .none, .mv (.t 7)⟩, ⟨.some 45, .none, .mv (.t 44)⟩, ⟨.some 46, .some (45, true), .fa 0 (.t 1)⟩, ⟨.some 47, .some (45, true), .ld .none (.t 46)⟩, ⟨.some 48, .some (45, true), .build (.agg #[.string ⟨#[]⟩, .string ⟨#[]⟩]) [(0, (1, .t 47)), (1, (1, .c (.string ⟨#[120]⟩)))]⟩, ⟨.some 49, .some (45, true), .bsl 2 (.agg #[.string ⟨#[]⟩, .string ⟨#[]⟩]) 1 [(0, .t 48)]⟩, ⟨.some 50, .some (45, true), .call 113 .pure [.t 49]⟩, ⟨.some 51, .none, .pick (.t 45) (.t 50) (.c (.bool false))⟩, ⟨.some 52, .none, .mv (.t 51)⟩, ⟨.some 53, .some (52, true), .fa 2 (.t 1)⟩, ⟨.some 54, .some (52, true), .ld .none (.t 53)⟩, ⟨.some 55, .some (52, true), .lenL (.t 54)⟩, ⟨.some 56, .some (52, true), .bin .geq (.t 55) (.c (.int .i64 1))⟩, ⟨.some 57, .none, .pick (.t 52) (.t 56) (.c (.bool false))⟩, ⟨.some 58, .none, .mv (.t 57)⟩, ⟨.some 59, .some (58, true), .fa 2 (.t 1)⟩, ⟨.some 60, .some (58, true), .ld .none (.t 59)⟩, ⟨.some 61, .some (58, true), .lenL (.t 60)⟩, ⟨.some 62, .some (58, true), .mv (.t 3)⟩, ⟨.some 63, .some (58, true), .bin .leq (.t 61) (.t 62)⟩, ⟨.some 64, .none, .pick (.t 58) (.t 63) (.c (.bool false))⟩, ⟨.some 2, .none, .mv (.t 64)⟩]) .ret)))))))
def d305 : Def := (.code 1 [.tmp 2] (.seq (.rg false [⟨.some 1, .none, .box (.t 0)⟩, ⟨.some 2, .none, .mv (.c (.bool false))⟩]) (.seq (.rg false [⟨.some 3, .none, .ld (.some 3) (.t 1)⟩, ⟨.some 4, .none, .call 306 .pure [.t 3]⟩, ⟨.some 5, .none, .un .not (.t 4)⟩, ⟨.some 2, .none, .mv (.t 5)⟩]) .ret)))
def d308 : Def := (.code 2 [.tmp 3] (.seq (.rg false [⟨.some 2, .none, .box (.t 0)⟩, ⟨.some 3, .none, .mv (.c (.bool false))⟩]) (.seq (.rg true [⟨.some 5, .none, .fa 2 (.t 2)⟩, ⟨.some 6, .none, .ld .none (.t 5)⟩, ⟨.some 7, .none, .ld .none (.t 1)⟩, ⟨.some 8, .none, .fa 0 (.t 2)⟩, ⟨.some 9, .none, .ld .none (.t 8)⟩, ⟨.some 10, .none, .call 114 .strict [.t 7, .t 9]⟩, ⟨.some 11, .none, .call 50 .strict [.t 6, .t 10]⟩, ⟨.some 4, .none, .mv (.t 11)⟩]) (.seq (.rg false [⟨.some 12, .none, .mv (.t 4)⟩, ⟨.some 13, .none, .fa 1 (.t 2)⟩, ⟨.some 14, .none, .ld .none (.t 13)⟩, ⟨.some 15, .none, .bin .eql (.t 14) (.c (.int .i64 2))⟩, ⟨.some 16, .none, .mv (.t 15)⟩, ⟨.some 17, .some (16, false), .fa 1 (.t 2)⟩, ⟨.some 18, .some (16, false), .ld .none (.t 17)⟩, ⟨.some 19, .some (16, false), .bin .eql (.t 18) (.c (.int .i64 4))⟩, ⟨.some 20, .none, .pick (.t 16) (.c (.bool true)) (.t 19)⟩, ⟨.some 21, .none, .beq false (.t 12) (.t 20)⟩, ⟨.some 3, .none, .mv (.t 21)⟩]) .ret))))
def d299 : Def := (.code 2 [.tmp 4, .tmp 5] (.seq (.rg false [⟨.some 2, .none, .box (.t 0)⟩, ⟨.some 4, .none, .mv (.c (.bool false))⟩, ⟨.some 5, .none, .mv (.c (.int .i64 0))⟩]) (.seq (.rg false [⟨.some 6, .none, .mv (.f 305)⟩]) (.seq (.seq (.rg false [⟨.some 8, .none, .ld .none (.t 2)⟩, ⟨.some 9, .none, .call 113 .pure [.t 8]⟩, ⟨.some 10, .none, .un .not (.t 9)⟩, ⟨.some 11, .none, .mv (.t 10)⟩, ⟨.some 12, .some (11, false), .mv (.t 1)⟩, ⟨.some 13, .some (11, false), .mv (.t 6)⟩, ⟨.some 14, .some (11, false), .call 307 .pure [.t 12, .t 13]⟩, ⟨.some 15, .none, .pick (.t 11) (.c (.bool true)) (.t 14)⟩]) (.cond (.t 15) (.seq (.rg false [⟨.some 4, .none, .mv (.c (.bool false))⟩, ⟨.some 5, .none, .mv (.c (.int .i64 1))⟩]) .ret) .skip)) (.seq (.rg false [⟨.some 16, .none, .mkf 308 [] [.t 2]⟩, ⟨.some 7, .none, .mv (.t 16)⟩]) (.seq (.rg false [⟨.some 17, .none, .mv (.t 1)⟩, ⟨.some 18, .none, .mv (.t 7)⟩, ⟨.some 19, .none, .call 307 .pure [.t 17, .t 18]⟩, ⟨.some 20, .none, .un .not (.t 19)⟩, ⟨.some 4, .none, .mv (.t 20)⟩, ⟨.some 5, .none, .mv (.c (.int .i64 0))⟩]) .ret))))))
def lka : List (Nat × Def) := [(98, .prim (pureF ixbF)), (328, d328), (327, d327), (320, d320), (321, d321), (306, d306), (305, d305), (308, d308), (299, d299), (307, d307), (322, d322)]
def lkb : List (Nat × Def) := [(318, d318), (326, d326), (324, d324), (329, d329), (325, d325), (317, d317), (315, d315), (314, d314), (316, d316), (313, d313), (319, d319), (304, d304), (298, d298)]
structure Mm4 (env : Nat → Option Def) : Prop where
  w : Has law env
  f : Has lf0 env
  l : Has la0 env
  c : Has lc env
  x : Has lx0 env
  a : Has lka env
def dIF (es : Nat) : Def := (.code 2 [.tmp 4] (.seq (.rg false [⟨.some 4, .none, .mv (.c (.int .i64 0))⟩]) (.seq (.seq (.rg false [⟨.some 6, .none, .mv (.t 0)⟩, ⟨.some 7, .none, .lenL (.t 6)⟩, ⟨.some 8, .none, .mv (.c (.int .i64 0))⟩]) (.block 0 (.loop (.seq (.rg false [⟨.some 9, .none, .bin .lss (.t 8) (.t 7)⟩]) (.seq (.cond (.t 9) .skip (.exit 0)) (.seq (.block 1 (.seq (.rg false [⟨.some 10, .none, .mv (.t 8)⟩, ⟨.some 5, .none, .mv (.t 10)⟩]) (.seq (.rg false [⟨.some 11, .none, .mv (.t 1)⟩, ⟨.some 12, .none, .mv (.t 0)⟩, ⟨.some 13, .none, .mv (.t 5)⟩, ⟨.some 14, .none, .ia es (.t 12) (.t 13)⟩, ⟨.some 15, .none, .ld (.some es) (.t 14)⟩, ⟨.some 16, .none, .callv (.t 11) .pure [.t 15]⟩]) (.cond (.t 16) (.seq (.rg false [⟨.some 17, .none, .mv (.t 5)⟩, ⟨.some 4, .none, .mv (.t 17)⟩]) .ret) .skip)))) (.rg false [⟨.some 18, .none, .bin .add (.t 8) (.c (.int .i64 1))⟩, ⟨.some 8, .none, .mv (.t 18)⟩]))))))) (.seq (.rg false [⟨.some 4, .none, .mv (.c (.int .i64 (-1)))⟩]) .ret))))
theorem dIF_3 : d322 = dIF 3 := rfl
theorem dIF_9 : d326 = dIF 9 := rfl
section
variable {env : Nat → Option Def} {fr : Fr} {σ σ' σ'' : St} {K : Fr → St → Prop} {Q : X → Fr → St → Prop} {p : PV} {bs : List UInt8}
theorem idxS {k0 es : Nat} (hk0 : env k0 = some (dIF es)) {xs : List PV} {k : Nat} {a b : List PV} {p : Nat → Bool} (hn : xs.length ≤ 9223372036854775807) (h1 : ∀ (i : Nat) e, xs[i]? = some e → ∃ cs, e = .agg cs ∧ cs.length = es)
    (hz : ∀ (i : Nat) e, xs[i]? = some e → ∀ σ, (a ++ [e] ++ b).mapM (fz σ 12) = some (a ++ [e] ++ b)) (hp : ∀ (i : Nat) e, xs[i]? = some e → AV env k (a ++ [e] ++ b) = some (.sc (.bool (p i)))) :
    AV env k0 [.sl xs, .fn k a b] = some (.sc (.int .i64 (found p xs.length))) := by
  refine AV_wp hk0 rfl ?_
  (repeat' first
    | refine w_seq ?_ | refine w_rg ?_ | refine wo_nil ?_ | refine g_skU ?_ | refine g_skT ?_ | refine g_skF ?_
    | ((first | apply s_plain | apply s_void | apply s_guard | apply g_goT | apply g_goF); · simp only [go_sem, Nat.reduceEqDiff, Nat.reduceAdd, Nat.reduceLeDiff]; (first | done | rfl))
    | ((first | apply g_T | apply g_F | apply g_gT | apply g_gF); · intro q1_; (first | intro q2_ | have q2_ := q1_); simp only [go_sem, Nat.reduceEqDiff, Nat.reduceAdd, Nat.reduceLeDiff, q1_, q2_]; (first | done | rfl))
    | fail
    )
  refine w_block (w_range xs.length hn (fun i fr σ => fr 0 = .sl xs ∧ fr 1 = .fn k a b ∧ ∀ j, j < i → p j = false) (by decide) ?_ ?_ ?_ _ _ ?_ ?_ ?_)
  · rintro i fr σ v ⟨h0, h1, h2⟩
    refine ⟨⟨?_, ?_, h2⟩, ⟨?_, ?_, h2⟩, ⟨?_, ?_, h2⟩⟩ <;> simp only [go_sem, Nat.reduceEqDiff, Nat.reduceAdd, Nat.reduceLeDiff, h0, h1]
  · rintro i fr σ hi ⟨h0, h2, h3⟩ hti htn
    have hx := List.getElem?_eq_getElem hi
    obtain ⟨cs, hc, hcl⟩ := h1 i _ hx
    have hz' := hz i _ hx
    have hp' := hp i _ hx
    rw [hc] at hx hz' hp'
    have e1 : (0 : Int) ≤ (i : Int) ∧ (i : Int) < (xs.length : Int) := by omega
    have htk : cs.take es = cs := List.take_of_length_le (by omega)
    refine w_block ?_
    simp only [List.append_assoc, List.cons_append, List.nil_append] at hz' hp'
    (repeat' first
    | refine w_seq ?_ | refine w_rg ?_ | refine wo_nil ?_ | refine g_skU ?_ | refine g_skT ?_ | refine g_skF ?_
    | ((first | apply s_plain | apply s_void | apply s_guard | apply g_goT | apply g_goF); · simp only [go_sem, Nat.reduceEqDiff, Nat.reduceAdd, Nat.reduceLeDiff, h0, h2, hti, e1, Int.toNat_natCast, hx, List.append_assoc, hz', hp', hcl, htk]; (first | done | rfl))
    | ((first | apply g_T | apply g_F | apply g_gT | apply g_gF); · intro q1_; (first | intro q2_ | have q2_ := q1_); simp only [go_sem, Nat.reduceEqDiff, Nat.reduceAdd, Nat.reduceLeDiff, h0, h2, hti, e1, Int.toNat_natCast, hx, List.append_assoc, hz', hp', hcl, htk, q1_, q2_]; (first | done | rfl))
    | fail
    )
    cases hpi : p i with
    | true =>
      (repeat' first
    | refine w_seq ?_ | refine w_rg ?_ | refine wo_nil ?_ | refine g_skU ?_ | refine g_skT ?_ | refine g_skF ?_
    | ((first | apply s_plain | apply s_void | apply s_guard | apply g_goT | apply g_goF); · simp only [go_sem, Nat.reduceEqDiff, Nat.reduceAdd, Nat.reduceLeDiff]; (first | done | rfl))
    | ((first | apply g_T | apply g_F | apply g_gT | apply g_gF); · intro q1_; (first | intro q2_ | have q2_ := q1_); simp only [go_sem, Nat.reduceEqDiff, Nat.reduceAdd, Nat.reduceLeDiff, q1_, q2_]; (first | done | rfl))
    | (apply w_condX; · simp only [go_sem, Nat.reduceEqDiff, Nat.reduceAdd, Nat.reduceLeDiff]; (first | done | rfl)); (first | refine wcd_T ?_ | refine wcd_F ?_)
    | refine w_skip ?_ | refine w_exit ?_ | refine w_ret ?_
    | fail
    )
      exact ⟨.inr rfl, by simp only [go_sem, Nat.reduceEqDiff, Nat.reduceAdd, Nat.reduceLeDiff, retOf, resOf, found_hit hi h3 hpi]⟩
    | false =>
      (repeat' first
    | refine w_seq ?_ | refine w_rg ?_ | refine wo_nil ?_ | refine g_skU ?_ | refine g_skT ?_ | refine g_skF ?_
    | ((first | apply s_plain | apply s_void | apply s_guard | apply g_goT | apply g_goF); · simp only [go_sem, Nat.reduceEqDiff, Nat.reduceAdd, Nat.reduceLeDiff]; (first | done | rfl))
    | ((first | apply g_T | apply g_F | apply g_gT | apply g_gF); · intro q1_; (first | intro q2_ | have q2_ := q1_); simp only [go_sem, Nat.reduceEqDiff, Nat.reduceAdd, Nat.reduceLeDiff, q1_, q2_]; (first | done | rfl))
    | (apply w_condX; · simp only [go_sem, Nat.reduceEqDiff, Nat.reduceAdd, Nat.reduceLeDiff]; (first | done | rfl)); (first | refine wcd_T ?_ | refine wcd_F ?_)
    | refine w_skip ?_ | refine w_exit ?_ | refine w_ret ?_
    | fail
    )
      refine ⟨⟨?_, ?_, fun j hj => ?_⟩, ?_, ?_⟩
      · simp only [go_sem, Nat.reduceEqDiff, Nat.reduceAdd, Nat.reduceLeDiff, h0]
      · simp only [go_sem, Nat.reduceEqDiff, Nat.reduceAdd, Nat.reduceLeDiff, h2]
      · by_cases hji : j = i
        · rw [hji]; exact hpi
        · exact h3 j (by omega)
      · simp only [go_sem, Nat.reduceEqDiff, Nat.reduceAdd, Nat.reduceLeDiff, hti]
      · simp only [go_sem, Nat.reduceEqDiff, Nat.reduceAdd, Nat.reduceLeDiff, htn]
  · rintro fr σ ⟨h0, h2, h3⟩
    try simp only [if_true]
    (repeat' first
    | refine w_seq ?_ | refine w_rg ?_ | refine wo_nil ?_ | refine g_skU ?_ | refine g_skT ?_ | refine g_skF ?_
    | ((first | apply s_plain | apply s_void | apply s_guard | apply g_goT | apply g_goF); · simp only [go_sem, Nat.reduceEqDiff, Nat.reduceAdd, Nat.reduceLeDiff]; (first | done | rfl))
    | ((first | apply g_T | apply g_F | apply g_gT | apply g_gF); · intro q1_; (first | intro q2_ | have q2_ := q1_); simp only [go_sem, Nat.reduceEqDiff, Nat.reduceAdd, Nat.reduceLeDiff, q1_, q2_]; (first | done | rfl))
    | (apply w_condX; · simp only [go_sem, Nat.reduceEqDiff, Nat.reduceAdd, Nat.reduceLeDiff]; (first | done | rfl)); (first | refine wcd_T ?_ | refine wcd_F ?_)
    | refine w_skip ?_ | refine w_exit ?_ | refine w_ret ?_
    | fail
    )
    exact ⟨.inr rfl, by simp only [go_sem, Nat.reduceEqDiff, Nat.reduceAdd, Nat.reduceLeDiff, retOf, resOf, found_none h3]⟩
  · refine ⟨?_, ?_, fun j hj => by omega⟩ <;> simp only [go_sem, Nat.reduceEqDiff, Nat.reduceAdd, Nat.reduceLeDiff]
  · simp only [go_sem, Nat.reduceEqDiff, Nat.reduceAdd, Nat.reduceLeDiff]
  · simp only [go_sem, Nat.reduceEqDiff, Nat.reduceAdd, Nat.reduceLeDiff]
/-! words of matchers -/
theorem a98 (A : Has lka env) (s : ByteArray) (c : Int) : AV env 98 [.sc (.string s), .sc (.int .u8 c)] = some (.sc (.int .i64 (Lib.indexByte s.data.toList c.toNat.toUInt8))) := by
  have h := A (98, .prim (pureF ixbF)) (by simp [lka])
  refine AV_of (σ := St.nil) (r := .sc (.int .i64 (Lib.indexByte s.data.toList c.toNat.toUInt8))) ?_ rfl
  rw [EV_prim h]
  rfl
theorem a328 (A : Has lka env) (c : Int) : AV env 328 [.sc (.int .u8 c)] = some (.sc (.bool (plainI c))) := by
  have h := a98 A ⟨#[95, 45, 46, 47, 58]⟩ c
  refine AV_wp (A (328, d328) (by simp [lka])) rfl ?_
  (repeat' first
    | refine w_seq ?_ | refine w_rg ?_ | refine wo_nil ?_ | refine g_skU ?_ | refine g_skT ?_ | refine g_skF ?_
    | ((first | apply s_plain | apply s_void | apply s_guard | apply g_goT | apply g_goF); · simp only [go_sem, Nat.reduceEqDiff, Nat.reduceAdd, Nat.reduceLeDiff, h]; (first | done | rfl))
    | ((first | apply g_T | apply g_F | apply g_gT | apply g_gF); · intro q1_; (first | intro q2_ | have q2_ := q1_); simp only [go_sem, Nat.reduceEqDiff, Nat.reduceAdd, Nat.reduceLeDiff, h, q1_, q2_]; (first | done | rfl))
    | (apply w_condX; · simp only [go_sem, Nat.reduceEqDiff, Nat.reduceAdd, Nat.reduceLeDiff, h]; (first | done | rfl)); (first | refine wcd_T ?_ | refine wcd_F ?_)
    | refine w_skip ?_ | refine w_exit ?_ | refine w_ret ?_
    | fail
    )
  exact ⟨.inr rfl, by simp only [go_sem, Nat.reduceEqDiff, Nat.reduceAdd, Nat.reduceLeDiff, retOf, resOf]; rfl⟩
theorem a327 (A : Has lka env) (c : Int) : AV env 327 [.sc (.int .u8 c)] = some (.sc (.bool (oddM c))) := by
  have h := a328 A c
  refine AV_wp (A (327, d327) (by simp [lka])) rfl ?_
  (repeat' first
    | refine w_seq ?_ | refine w_rg ?_ | refine wo_nil ?_ | refine g_skU ?_ | refine g_skT ?_ | refine g_skF ?_
    | ((first | apply s_plain | apply s_void | apply s_guard | apply g_goT | apply g_goF); · simp only [go_sem, Nat.reduceEqDiff, Nat.reduceAdd, Nat.reduceLeDiff, h]; (first | done | rfl))
    | ((first | apply g_T | apply g_F | apply g_gT | apply g_gF); · intro q1_; (first | intro q2_ | have q2_ := q1_); simp only [go_sem, Nat.reduceEqDiff, Nat.reduceAdd, Nat.reduceLeDiff, h, q1_, q2_]; (first | done | rfl))
    | (apply w_condX; · simp only [go_sem, Nat.reduceEqDiff, Nat.reduceAdd, Nat.reduceLeDiff, h]; (first | done | rfl)); (first | refine wcd_T ?_ | refine wcd_F ?_)
    | refine w_skip ?_ | refine w_exit ?_ | refine w_ret ?_
    | fail
    )
  exact ⟨.inr rfl, by simp only [go_sem, Nat.reduceEqDiff, Nat.reduceAdd, Nat.reduceLeDiff, retOf, resOf]; rfl⟩
theorem a320 (W : Has law env) (A : Has lka env) {s : ByteArray} (hs : Small s) : AV env 320 [.sc (.string s)] = some (.sc (.bool (wordM s))) := by
  have h1 := a67b (law_lax W) (k := 327) hs (a327 A)
  refine AV_wp (A (320, d320) (by simp [lka])) rfl ?_
  (repeat' first
    | refine w_seq ?_ | refine w_rg ?_ | refine wo_nil ?_ | refine g_skU ?_ | refine g_skT ?_ | refine g_skF ?_
    | ((first | apply s_plain | apply s_void | apply s_guard | apply g_goT | apply g_goF); · simp only [go_sem, Nat.reduceEqDiff, Nat.reduceAdd, Nat.reduceLeDiff, h1]; (first | done | rfl))
    | ((first | apply g_T | apply g_F | apply g_gT | apply g_gF); · intro q1_; (first | intro q2_ | have q2_ := q1_); simp only [go_sem, Nat.reduceEqDiff, Nat.reduceAdd, Nat.reduceLeDiff, h1, q1_, q2_]; (first | done | rfl))
    | (apply w_condX; · simp only [go_sem, Nat.reduceEqDiff, Nat.reduceAdd, Nat.reduceLeDiff, h1]; (first | done | rfl)); (first | refine wcd_T ?_ | refine wcd_F ?_)
    | refine w_skip ?_ | refine w_exit ?_ | refine w_ret ?_
    | fail
    )
  exact ⟨.inr rfl, by simp only [go_sem, Nat.reduceEqDiff, Nat.reduceAdd, Nat.reduceLeDiff, retOf, resOf]; rfl⟩
def signsL : List (Value × PV) := [(.int .i64 1, .sc (.string ⟨#[61]⟩)), (.int .i64 2, .sc (.string ⟨#[33, 61]⟩)), (.int .i64 3, .sc (.string ⟨#[61, 126]⟩)), (.int .i64 4, .sc (.string ⟨#[33, 126]⟩))]
theorem a321 (A : Has lka env) : ∃ σ', EV env 321 [] σ = some (.mp 4000001 (σ.c 4000001), σ') ∧ σ'.m = σ.m ∧ σ'.mm 4000001 (σ.c 4000001) = some signsL := by
  obtain ⟨r, σ', h, rfl, h1, h2⟩ := EV_wp' (σ := σ) (R := fun r τ => r = .mp 4000001 (σ.c 4000001) ∧ τ.m = σ.m ∧ τ.mm 4000001 (σ.c 4000001) = some signsL) (as := []) (A (321, d321) (by simp [lka])) rfl (by
    (repeat' first
    | refine w_seq ?_ | refine w_rg ?_ | refine wo_nil ?_ | refine g_skU ?_ | refine g_skT ?_ | refine g_skF ?_
    | ((first | apply s_plain | apply s_void | apply s_guard | apply g_goT | apply g_goF); · simp only [go_sem, Nat.reduceEqDiff, Nat.reduceAdd, Nat.reduceLeDiff, mset, same1, decide_false, decide_true]; (first | done | rfl))
    | ((first | apply g_T | apply g_F | apply g_gT | apply g_gF); · intro q1_; (first | intro q2_ | have q2_ := q1_); simp only [go_sem, Nat.reduceEqDiff, Nat.reduceAdd, Nat.reduceLeDiff, mset, same1, decide_false, decide_true, q1_, q2_]; (first | done | rfl))
    | (apply w_condX; · simp only [go_sem, Nat.reduceEqDiff, Nat.reduceAdd, Nat.reduceLeDiff, mset, same1, decide_false, decide_true]; (first | done | rfl)); (first | refine wcd_T ?_ | refine wcd_F ?_)
    | refine w_skip ?_ | refine w_exit ?_ | refine w_ret ?_
    | fail
    )
    refine ⟨.inr rfl, _, by simp only [go_sem, Nat.reduceEqDiff, Nat.reduceAdd, Nat.reduceLeDiff, retOf, resOf], rfl, rfl, ?_⟩
    simp only [go_sem, Nat.reduceEqDiff, Nat.reduceAdd, Nat.reduceLeDiff]
    rfl)
  exact ⟨σ', h, h1, h2⟩
end

section
variable {env : Nat → Option Def} {fr : Fr} {σ σ' σ'' : St} {K : Fr → St → Prop} {Q : X → Fr → St → Prop} {p : PV} {bs : List UInt8}
theorem a113n (L : Has la0 env) (C : Has lc env) {n : ByteArray} (hn : Small n) : AV env 113 [.sl [.agg [.sc (.string n), .sc (.string ⟨#[120]⟩)]]] = some (.sc (.bool (nameB n))) := by
  have h := a113 L C (l := [(n, ⟨#[120]⟩)]) (by simp) (by intro m hm; simp only [List.mem_singleton] at hm; subst hm; exact ⟨hn, by show (1 : Nat) ≤ _; decide⟩)
  have hv : valueB ⟨#[120]⟩ = true := by decide +kernel
  have e : rightL [(n, ⟨#[120]⟩)] = nameB n := by
    have h0 : badL [(n, ⟨#[120]⟩)] 0 = !nameB n := by unfold badL; simp [nth, mayB, hv]
    unfold rightL
    cases hb : nameB n with
    | true =>
      rw [hb] at h0
      rw [found_none (n := [(n, (⟨#[120]⟩ : ByteArray))].length) (p := badL [(n, ⟨#[120]⟩)]) (fun j hj => by
        have : j = 0 := by simpa using hj
        subst this; exact h0)]
      rfl
    | false =>
      rw [hb] at h0
      rw [found_hit (n := [(n, (⟨#[120]⟩ : ByteArray))].length) (p := badL [(n, ⟨#[120]⟩)]) (i := 0) (by simp) (fun j hj => by omega) h0]
      rfl
  rw [e] at h
  exact h
theorem sign_find (how : Int) : ∃ r, mfind (.int .i64 how) signsL = some r ∧ r.isSome = (decide (1 ≤ how) && decide (how ≤ 4)) := by
  unfold signsL
  by_cases h1 : how = 1
  · subst h1; exact ⟨some (.sc (.string ⟨#[61]⟩)), by simp [mfind, same1], by decide⟩
  by_cases h2 : how = 2
  · subst h2; exact ⟨some (.sc (.string ⟨#[33, 61]⟩)), by simp [mfind, same1], by decide⟩
  by_cases h3 : how = 3
  · subst h3; exact ⟨some (.sc (.string ⟨#[61, 126]⟩)), by simp [mfind, same1], by decide⟩
  by_cases h4 : how = 4
  · subst h4; exact ⟨some (.sc (.string ⟨#[33, 126]⟩)), by simp [mfind, same1], by decide⟩
  · refine ⟨none, by simp [mfind, same1, h1, h2, h3, h4], ?_⟩
    have : (decide (1 ≤ how) && decide (how ≤ 4)) = false := by
      rw [Bool.and_eq_false_iff, decide_eq_false_iff_not, decide_eq_false_iff_not]; omega
    rw [this]; rfl
theorem a306 (H : Mm4 env) {m : Mt} (hm : m.Held) : AV env 306 [mt m] = some (.sc (.bool (rightM m))) := by
  obtain ⟨n, how, ws⟩ := m
  obtain ⟨hn, hw, hws⟩ := hm
  simp only at hn hw hws
  have hll := strs_len ws
  have h113 := a113n H.l H.c hn
  have hmt : mt ⟨n, how, ws⟩ = .agg [.sc (.string n), .sc (.int .i64 how), .sl (strs ws)] := rfl
  have hmost : ∀ (fr : Fr), fr 1 = .bx 2000001 0 3 0 0 → fr 3 = .sc (.int .i64 (mostM how : Int)) → True := fun _ _ _ => trivial
  rw [hmt]
  refine AV_wp (H.a (306, d306) (by simp [lka])) rfl ?_
  (repeat' first
    | refine w_seq ?_ | refine w_rg ?_ | refine wo_nil ?_ | refine g_skU ?_ | refine g_skT ?_ | refine g_skF ?_
    | ((first | apply s_plain | apply s_void | apply s_guard | apply g_goT | apply g_goF); · simp only [go_sem, Nat.reduceEqDiff, Nat.reduceAdd, Nat.reduceLeDiff]; (first | done | rfl))
    | ((first | apply g_T | apply g_F | apply g_gT | apply g_gF); · intro q1_; (first | intro q2_ | have q2_ := q1_); simp only [go_sem, Nat.reduceEqDiff, Nat.reduceAdd, Nat.reduceLeDiff, q1_, q2_]; (first | done | rfl))
    | fail
    )
  refine w_mid (fun fr σ => (fr 1 = .bx 2000001 0 3 0 0 ∧ fr 3 = .sc (.int .i64 (mostM how : Int))) ∧ σ.m 2000001 0 = some ⟨3, [.agg [.sc (.string n), .sc (.int .i64 how), .sl (strs ws)]], true, true⟩) ?_ ?_
  · (repeat' first
    | refine w_seq ?_ | refine w_rg ?_ | refine wo_nil ?_ | refine g_skU ?_ | refine g_skT ?_ | refine g_skF ?_
    | ((first | apply s_plain | apply s_void | apply s_guard | apply g_goT | apply g_goF); · simp only [go_sem, Nat.reduceEqDiff, Nat.reduceAdd, Nat.reduceLeDiff]; (first | done | rfl))
    | ((first | apply g_T | apply g_F | apply g_gT | apply g_gF); · intro q1_; (first | intro q2_ | have q2_ := q1_); simp only [go_sem, Nat.reduceEqDiff, Nat.reduceAdd, Nat.reduceLeDiff, q1_, q2_]; (first | done | rfl))
    | fail
    )
    refine w_condB (by simp only [go_sem, Nat.reduceEqDiff, Nat.reduceAdd, Nat.reduceLeDiff]; first | done | rfl) (fun hc => ?_) (fun hc => ?_)
    · (repeat' first
    | refine w_seq ?_ | refine w_rg ?_ | refine wo_nil ?_ | refine g_skU ?_ | refine g_skT ?_ | refine g_skF ?_
    | ((first | apply s_plain | apply s_void | apply s_guard | apply g_goT | apply g_goF); · simp only [go_sem, Nat.reduceEqDiff, Nat.reduceAdd, Nat.reduceLeDiff]; (first | done | rfl))
    | ((first | apply g_T | apply g_F | apply g_gT | apply g_gF); · intro q1_; (first | intro q2_ | have q2_ := q1_); simp only [go_sem, Nat.reduceEqDiff, Nat.reduceAdd, Nat.reduceLeDiff, q1_, q2_]; (first | done | rfl))
    | (apply w_condX; · simp only [go_sem, Nat.reduceEqDiff, Nat.reduceAdd, Nat.reduceLeDiff]; (first | done | rfl)); (first | refine wcd_T ?_ | refine wcd_F ?_)
    | refine w_skip ?_ | refine w_exit ?_ | refine w_ret ?_
    | fail
    )
      exact ⟨rfl, ⟨by simp only [go_sem, Nat.reduceEqDiff, Nat.reduceAdd, Nat.reduceLeDiff], by simp only [go_sem, Nat.reduceEqDiff, Nat.reduceAdd, Nat.reduceLeDiff]; unfold mostM; rw [if_pos (by simpa using hc)]; rfl⟩, by simp only [go_sem, Nat.reduceEqDiff, Nat.reduceAdd, Nat.reduceLeDiff]⟩
    · (repeat' first
    | refine w_seq ?_ | refine w_rg ?_ | refine wo_nil ?_ | refine g_skU ?_ | refine g_skT ?_ | refine g_skF ?_
    | ((first | apply s_plain | apply s_void | apply s_guard | apply g_goT | apply g_goF); · simp only [go_sem, Nat.reduceEqDiff, Nat.reduceAdd, Nat.reduceLeDiff]; (first | done | rfl))
    | ((first | apply g_T | apply g_F | apply g_gT | apply g_gF); · intro q1_; (first | intro q2_ | have q2_ := q1_); simp only [go_sem, Nat.reduceEqDiff, Nat.reduceAdd, Nat.reduceLeDiff, q1_, q2_]; (first | done | rfl))
    | (apply w_condX; · simp only [go_sem, Nat.reduceEqDiff, Nat.reduceAdd, Nat.reduceLeDiff]; (first | done | rfl)); (first | refine wcd_T ?_ | refine wcd_F ?_)
    | refine w_skip ?_ | refine w_exit ?_ | refine w_ret ?_
    | fail
    )
      exact ⟨rfl, ⟨by simp only [go_sem, Nat.reduceEqDiff, Nat.reduceAdd, Nat.reduceLeDiff], by simp only [go_sem, Nat.reduceEqDiff, Nat.reduceAdd, Nat.reduceLeDiff]; unfold mostM; rw [if_neg (by simpa using hc)]; rfl⟩, by simp only [go_sem, Nat.reduceEqDiff, Nat.reduceAdd, Nat.reduceLeDiff]⟩
  rintro fr1 σ1 ⟨⟨g1, g3⟩, hm1⟩
  try simp only []
  (repeat' first
    | refine w_seq ?_ | refine w_rg ?_ | refine wo_nil ?_ | refine g_skU ?_ | refine g_skT ?_ | refine g_skF ?_
    | ((first | apply s_plain | apply s_void | apply s_guard | apply g_goT | apply g_goF); · simp only [go_sem, Nat.reduceEqDiff, Nat.reduceAdd, Nat.reduceLeDiff, g1, hm1, hll]; (first | done | rfl))
    | ((first | apply g_T | apply g_F | apply g_gT | apply g_gF); · intro q1_; (first | intro q2_ | have q2_ := q1_); simp only [go_sem, Nat.reduceEqDiff, Nat.reduceAdd, Nat.reduceLeDiff, g1, hm1, hll, q1_, q2_]; (first | done | rfl))
    | (apply w_condX; · simp only [go_sem, Nat.reduceEqDiff, Nat.reduceAdd, Nat.reduceLeDiff, g1, hm1, hll]; (first | done | rfl)); (first | refine wcd_T ?_ | refine wcd_F ?_)
    | refine w_skip ?_ | refine w_exit ?_ | refine w_ret ?_
    | fail
    )
  refine w_block (w_rangeF ws.length hw (fun i fr σ => σ1 = σ ∧ ∀ j, j < i → badW wordM ws j = false) ⟨by decide, rfl, rfl⟩ (fun _ _ _ _ h => ⟨h, h, h⟩) ⟨rfl, fun j hj => by omega⟩ (by simp only [go_sem, Nat.reduceEqDiff, Nat.reduceAdd, Nat.reduceLeDiff]; first | done | rfl) (by simp only [go_sem, Nat.reduceEqDiff, Nat.reduceAdd, Nat.reduceLeDiff, hll]; first | done | rfl) ?_ ?_)
  · rintro i fr2 _ hi ⟨rfl, h3⟩ hti hfr
    have f0_1 := hfr 1 rfl; have f0_12 := hfr 12 rfl; have f0_13 := hfr 13 rfl; try (simp only [go_sem, Nat.reduceEqDiff, Nat.reduceAdd, Nat.reduceLeDiff, g1] at f0_1); try (simp only [go_sem, Nat.reduceEqDiff, Nat.reduceAdd, Nat.reduceLeDiff, g1] at f0_12); try (simp only [go_sem, Nat.reduceEqDiff, Nat.reduceAdd, Nat.reduceLeDiff, g1] at f0_13)
    have hx := List.getElem?_eq_getElem hi
    have hy := strs_at hx
    have hni := nthS_eq hi
    have e1 : (0 : Int) ≤ (i : Int) ∧ (i : Int) < (ws.length : Int) := by omega
    have hwd := a320 H.w H.a (hws _ (List.getElem_mem hi))
    refine w_block ?_
    (repeat' first
    | refine w_seq ?_ | refine w_rg ?_ | refine wo_nil ?_ | refine g_skU ?_ | refine g_skT ?_ | refine g_skF ?_
    | ((first | apply s_plain | apply s_void | apply s_guard | apply g_goT | apply g_goF); · simp only [go_sem, Nat.reduceEqDiff, Nat.reduceAdd, Nat.reduceLeDiff, f0_1, f0_12, f0_13, hti, e1, hll, Int.toNat_natCast, hy, hwd, hm1]; (first | done | rfl))
    | ((first | apply g_T | apply g_F | apply g_gT | apply g_gF); · intro q1_; (first | intro q2_ | have q2_ := q1_); simp only [go_sem, Nat.reduceEqDiff, Nat.reduceAdd, Nat.reduceLeDiff, f0_1, f0_12, f0_13, hti, e1, hll, Int.toNat_natCast, hy, hwd, hm1, q1_, q2_]; (first | done | rfl))
    | fail
    )
    have hx' : ws[i - 1]? = some (nthS ws (i - 1)) := by
      have : i - 1 < ws.length := by omega
      unfold nthS; rw [List.getElem?_eq_getElem this]; rfl
    have hy' := strs_at hx'
    refine g_gT (v := .fp (strs ws) (i - 1) 0) (by
      intro hb hc
      have hpos : 0 < i := by simpa using hc
      have e2 : IntKind.i64.wrap ((i : Int) - 1) = ((i - 1 : Nat) : Int) := by rw [IntKind.wrap_i64]; omega
      have e3 : (0 : Int) ≤ ((i - 1 : Nat) : Int) ∧ ((i - 1 : Nat) : Int) < (ws.length : Int) := by omega
      simp only [go_sem, Nat.reduceEqDiff, Nat.reduceAdd, Nat.reduceLeDiff, f0_1, f0_12, f0_13, hb, hc, e2, e3, hll, Int.toNat_natCast, hy', hm1]) ?_
    (repeat' first
    | refine w_seq ?_ | refine w_rg ?_ | refine wo_nil ?_ | refine g_skU ?_ | refine g_skT ?_ | refine g_skF ?_
    | ((first | apply s_plain | apply s_void | apply s_guard | apply g_goT | apply g_goF); · simp only [go_sem, Nat.reduceEqDiff, Nat.reduceAdd, Nat.reduceLeDiff, f0_1, f0_12, f0_13, hy', hm1]; (first | done | rfl))
    | ((first | apply g_T | apply g_F | apply g_gT | apply g_gF); · intro q1_; (first | intro q2_ | have q2_ := q1_); simp only [go_sem, Nat.reduceEqDiff, Nat.reduceAdd, Nat.reduceLeDiff, f0_1, f0_12, f0_13, hy', hm1, q1_, q2_]; (first | done | rfl))
    | fail
    )
    have hbad : badW wordM ws i = (!wordM ws[i] || (decide ((i : Int) > 0) && !Op.bytesLess (nthS ws (i - 1)).toList ws[i].toList)) := by unfold badW lessB; rw [hni]
    cases hpi : badW wordM ws i with
    | true =>
      refine w_condT (by simp only [go_sem, Nat.reduceEqDiff, Nat.reduceAdd, Nat.reduceLeDiff]; rw [hbad] at hpi; exact congrArg (fun b => PV.sc (.bool b)) hpi) ?_
      (repeat' first
    | refine w_seq ?_ | refine w_rg ?_ | refine wo_nil ?_ | refine g_skU ?_ | refine g_skT ?_ | refine g_skF ?_
    | ((first | apply s_plain | apply s_void | apply s_guard | apply g_goT | apply g_goF); · simp only [go_sem, Nat.reduceEqDiff, Nat.reduceAdd, Nat.reduceLeDiff]; (first | done | rfl))
    | ((first | apply g_T | apply g_F | apply g_gT | apply g_gF); · intro q1_; (first | intro q2_ | have q2_ := q1_); simp only [go_sem, Nat.reduceEqDiff, Nat.reduceAdd, Nat.reduceLeDiff, q1_, q2_]; (first | done | rfl))
    | (apply w_condX; · simp only [go_sem, Nat.reduceEqDiff, Nat.reduceAdd, Nat.reduceLeDiff]; (first | done | rfl)); (first | refine wcd_T ?_ | refine wcd_F ?_)
    | refine w_skip ?_ | refine w_exit ?_ | refine w_ret ?_
    | fail
    )
      have hr : rightM ⟨n, how, ws⟩ = false := by unfold rightM; rw [rise_hit hi hpi]; rfl
      exact ⟨by first | exact .inr rfl | exact .inr trivial | exact .inl rfl, by simp only [go_sem, Nat.reduceEqDiff, Nat.reduceAdd, Nat.reduceLeDiff, retOf, resOf, hr]; first | done | rfl⟩
    | false =>
      refine w_condF (by simp only [go_sem, Nat.reduceEqDiff, Nat.reduceAdd, Nat.reduceLeDiff]; rw [hbad] at hpi; exact congrArg (fun b => PV.sc (.bool b)) hpi) ?_
      (repeat' first
    | refine w_seq ?_ | refine w_rg ?_ | refine wo_nil ?_ | refine g_skU ?_ | refine g_skT ?_ | refine g_skF ?_
    | ((first | apply s_plain | apply s_void | apply s_guard | apply g_goT | apply g_goF); · simp only [go_sem, Nat.reduceEqDiff, Nat.reduceAdd, Nat.reduceLeDiff]; (first | done | rfl))
    | ((first | apply g_T | apply g_F | apply g_gT | apply g_gF); · intro q1_; (first | intro q2_ | have q2_ := q1_); simp only [go_sem, Nat.reduceEqDiff, Nat.reduceAdd, Nat.reduceLeDiff, q1_, q2_]; (first | done | rfl))
    | (apply w_condX; · simp only [go_sem, Nat.reduceEqDiff, Nat.reduceAdd, Nat.reduceLeDiff]; (first | done | rfl)); (first | refine wcd_T ?_ | refine wcd_F ?_)
    | refine w_skip ?_ | refine w_exit ?_ | refine w_ret ?_
    | fail
    )
      refine ⟨rfl, fun j hj => ?_⟩
      by_cases hji : j = i
      · rw [hji]; exact hpi
      · exact h3 j (by omega)
  · rintro fr2 _ ⟨rfl, h3⟩ hfr
    have e0_1 := hfr 1 rfl; have e0_3 := hfr 3 rfl; try (simp only [go_sem, Nat.reduceEqDiff, Nat.reduceAdd, Nat.reduceLeDiff, g1, g3] at e0_1); try (simp only [go_sem, Nat.reduceEqDiff, Nat.reduceAdd, Nat.reduceLeDiff, g1, g3] at e0_3)
    try simp only [if_true]
    obtain ⟨r, hr1, hr2⟩ := sign_find how
    obtain ⟨τ, hτ, hτm, hτM⟩ := a321 H.a (σ := σ1)
    have hmτ : τ.m 2000001 0 = some ⟨3, [.agg [.sc (.string n), .sc (.int .i64 how), .sl (strs ws)]], true, true⟩ := by rw [hτm]; exact hm1
    have hrise := rise_all (ok := wordM) h3
    (repeat' first
    | refine w_seq ?_ | refine w_rg ?_ | refine wo_nil ?_ | refine g_skU ?_ | refine g_skT ?_ | refine g_skF ?_
    | ((first | apply s_plain | apply s_void | apply s_guard | apply g_goT | apply g_goF); · simp only [go_sem, Nat.reduceEqDiff, Nat.reduceAdd, Nat.reduceLeDiff]; (first | done | rfl))
    | ((first | apply g_T | apply g_F | apply g_gT | apply g_gF); · intro q1_; (first | intro q2_ | have q2_ := q1_); simp only [go_sem, Nat.reduceEqDiff, Nat.reduceAdd, Nat.reduceLeDiff, q1_, q2_]; (first | done | rfl))
    | (apply w_condX; · simp only [go_sem, Nat.reduceEqDiff, Nat.reduceAdd, Nat.reduceLeDiff]; (first | done | rfl)); (first | refine wcd_T ?_ | refine wcd_F ?_)
    | refine w_skip ?_ | refine w_exit ?_ | refine w_ret ?_
    | fail
    )
    apply w_rg2
    · (repeat' first
    | refine w_seq ?_ | refine w_rg ?_ | refine wo_nil ?_ | refine g_skU ?_ | refine g_skT ?_ | refine g_skF ?_
    | ((first | apply s_plain | apply s_void | apply s_guard | apply g_goT | apply g_goF); · simp only [go_sem, Nat.reduceEqDiff, Nat.reduceAdd, Nat.reduceLeDiff, e0_1, e0_3, g1, g3, hm1, hτ, hmτ, hτM, hr1, hr2]; (first | done | rfl))
    | ((first | apply g_T | apply g_F | apply g_gT | apply g_gF); · intro q1_; (first | intro q2_ | have q2_ := q1_); simp only [go_sem, Nat.reduceEqDiff, Nat.reduceAdd, Nat.reduceLeDiff, e0_1, e0_3, g1, g3, hm1, hτ, hmτ, hτM, hr1, hr2, q1_, q2_]; (first | done | rfl))
    | fail
    )
      exact ⟨rfl, rfl⟩
    · (repeat' first
    | refine w_seq ?_ | refine w_rg ?_ | refine wo_nil ?_ | refine g_skU ?_ | refine g_skT ?_ | refine g_skF ?_
    | ((first | apply s_plain | apply s_void | apply s_guard | apply g_goT | apply g_goF); · simp only [go_sem, Nat.reduceEqDiff, Nat.reduceAdd, Nat.reduceLeDiff, e0_1, e0_3, g1, g3, hm1, hτ, hmτ, hτM, hr1, hr2]; (first | done | rfl))
    | ((first | apply g_T | apply g_F | apply g_gT | apply g_gF); · intro q1_; (first | intro q2_ | have q2_ := q1_); simp only [go_sem, Nat.reduceEqDiff, Nat.reduceAdd, Nat.reduceLeDiff, e0_1, e0_3, g1, g3, hm1, hτ, hmτ, hτM, hr1, hr2, q1_, q2_]; (first | done | rfl))
    | fail
    )
      refine ⟨?_, rfl⟩
      rw [set_swap _ (show (38 : Nat) ≠ 40 by decide)]
    · cases hb : (decide (1 ≤ how) && decide (how ≤ 4)) with
      | true =>
        (repeat' first
    | refine w_seq ?_ | refine w_rg ?_ | refine wo_nil ?_ | refine g_skU ?_ | refine g_skT ?_ | refine g_skF ?_
    | ((first | apply s_plain | apply s_void | apply s_guard | apply g_goT | apply g_goF); · simp only [go_sem, Nat.reduceEqDiff, Nat.reduceAdd, Nat.reduceLeDiff, e0_1, e0_3, g1, g3, hmτ, h113, hll, hb]; (first | done | rfl))
    | ((first | apply g_T | apply g_F | apply g_gT | apply g_gF); · intro q1_; (first | intro q2_ | have q2_ := q1_); simp only [go_sem, Nat.reduceEqDiff, Nat.reduceAdd, Nat.reduceLeDiff, e0_1, e0_3, g1, g3, hmτ, h113, hll, hb, q1_, q2_]; (first | done | rfl))
    | (apply w_condX; · simp only [go_sem, Nat.reduceEqDiff, Nat.reduceAdd, Nat.reduceLeDiff, e0_1, e0_3, g1, g3, hmτ, h113, hll, hb]; (first | done | rfl)); (first | refine wcd_T ?_ | refine wcd_F ?_)
    | refine w_skip ?_ | refine w_exit ?_ | refine w_ret ?_
    | fail
    )
        have hr : rightM ⟨n, how, ws⟩ = (nameB n && decide ((ws.length : Int) ≥ 1) && decide ((ws.length : Int) ≤ (mostM how : Int))) := by
          unfold rightM
          rw [hrise, hb]
          simp only [Bool.true_and]
          congr 1
          · congr 1
            rw [decide_eq_decide]; omega
          · rw [decide_eq_decide]; omega
        exact ⟨by first | exact .inr rfl | exact .inr trivial | exact .inl rfl, by simp only [go_sem, Nat.reduceEqDiff, Nat.reduceAdd, Nat.reduceLeDiff, retOf, resOf, hr]; first | done | rfl⟩
      | false =>
        (repeat' first
    | refine w_seq ?_ | refine w_rg ?_ | refine wo_nil ?_ | refine g_skU ?_ | refine g_skT ?_ | refine g_skF ?_
    | ((first | apply s_plain | apply s_void | apply s_guard | apply g_goT | apply g_goF); · simp only [go_sem, Nat.reduceEqDiff, Nat.reduceAdd, Nat.reduceLeDiff, e0_1, e0_3, g1, g3, hmτ, h113, hll, hb]; (first | done | rfl))
    | ((first | apply g_T | apply g_F | apply g_gT | apply g_gF); · intro q1_; (first | intro q2_ | have q2_ := q1_); simp only [go_sem, Nat.reduceEqDiff, Nat.reduceAdd, Nat.reduceLeDiff, e0_1, e0_3, g1, g3, hmτ, h113, hll, hb, q1_, q2_]; (first | done | rfl))
    | (apply w_condX; · simp only [go_sem, Nat.reduceEqDiff, Nat.reduceAdd, Nat.reduceLeDiff, e0_1, e0_3, g1, g3, hmτ, h113, hll, hb]; (first | done | rfl)); (first | refine wcd_T ?_ | refine wcd_F ?_)
    | refine w_skip ?_ | refine w_exit ?_ | refine w_ret ?_
    | fail
    )
        have hr : rightM ⟨n, how, ws⟩ = false := by unfold rightM; rw [hrise, hb]; rfl
        exact ⟨by first | exact .inr rfl | exact .inr trivial | exact .inl rfl, by simp only [go_sem, Nat.reduceEqDiff, Nat.reduceAdd, Nat.reduceLeDiff, retOf, resOf, hr]; first | done | rfl⟩
theorem a305 (H : Mm4 env) {m : Mt} (hm : m.Held) : AV env 305 [mt m] = some (.sc (.bool (!rightM m))) := by
  have h := a306 H hm
  refine AV_wp (H.a (305, d305) (by simp [lka])) rfl ?_
  unfold mt at h ⊢
  (repeat' first
    | refine w_seq ?_ | refine w_rg ?_ | refine wo_nil ?_ | refine g_skU ?_ | refine g_skT ?_ | refine g_skF ?_
    | ((first | apply s_plain | apply s_void | apply s_guard | apply g_goT | apply g_goF); · simp only [go_sem, Nat.reduceEqDiff, Nat.reduceAdd, Nat.reduceLeDiff, h]; (first | done | rfl))
    | ((first | apply g_T | apply g_F | apply g_gT | apply g_gF); · intro q1_; (first | intro q2_ | have q2_ := q1_); simp only [go_sem, Nat.reduceEqDiff, Nat.reduceAdd, Nat.reduceLeDiff, h, q1_, q2_]; (first | done | rfl))
    | (apply w_condX; · simp only [go_sem, Nat.reduceEqDiff, Nat.reduceAdd, Nat.reduceLeDiff, h]; (first | done | rfl)); (first | refine wcd_T ?_ | refine wcd_F ?_)
    | refine w_skip ?_ | refine w_exit ?_ | refine w_ret ?_
    | fail
    )
  exact ⟨.inr rfl, by simp only [go_sem, Nat.reduceEqDiff, Nat.reduceAdd, Nat.reduceLeDiff, retOf, resOf]⟩
theorem found_not {α : Type} (l : List α) (ok : α → Bool) (p : Nat → Bool) (hp : ∀ (i : Nat) x, l[i]? = some x → p i = !ok x) : decide (found p l.length ≥ 0) = !l.all ok := by
  cases h : l.all ok with
  | true =>
    rw [found_none (fun j hj => by
      have hx := List.getElem?_eq_getElem hj
      rw [hp j _ hx, List.all_eq_true.1 h _ (List.getElem_mem hj)]; rfl)]
    rfl
  | false =>
    obtain ⟨x, hx, hb⟩ := List.all_eq_false.1 h
    obtain ⟨i, hi⟩ := List.getElem?_of_mem hx
    have hlt := (List.getElem?_eq_some_iff.1 hi).1
    have : found p l.length ≥ 0 := by
      rcases Int.lt_or_le (found p l.length) 0 with hneg | hpos
      · exfalso
        have hall : ∀ j, j < l.length → p j = false := by
          intro j hj
          unfold found at hneg
          cases hf : (List.range l.length).find? p with
          | none =>
            rw [List.find?_range_eq_none] at hf
            simpa using hf j hj
          | some k => rw [hf] at hneg; simp at hneg; omega
        have h2 := hall i hlt
        rw [hp i x hi] at h2
        simp at h2
        rw [h2] at hb
        exact hb rfl
      · exact hpos
    rw [decide_eq_true this]; rfl
theorem a307 (H : Mm4 env) {l : List Mt} {k : Nat} {b : List PV} (ok : Mt → Bool) (hn : l.length ≤ 9223372036854775807) (hz : ∀ σ, b.mapM (fz σ 11) = some b) (hz' : ∀ σ, b.mapM (fz σ 12) = some b)
    (hp : ∀ m ∈ l, AV env k (mt m :: b) = some (.sc (.bool (!ok m)))) : AV env 307 [.sl (mts l), .fn k [] b] = some (.sc (.bool (!l.all ok))) := by
  have hll := mts_len l
  have h322 : AV env 322 [.sl (mts l), .fn k [] b] = some (.sc (.int .i64 (found (fun i => !ok (l.getD i ⟨⟨#[]⟩, 0, []⟩)) l.length))) := by
    rw [← hll]
    refine idxS (es := 3) (k := k) (a := []) (b := b) (p := fun i => !ok (l.getD i ⟨⟨#[]⟩, 0, []⟩)) (by rw [← dIF_3]; exact H.a (322, d322) (by simp [lka])) (by rw [hll]; exact hn) (fun i e h => ?_) (fun i e h σ => ?_) (fun i e h => ?_)
    · unfold mts at h
      rw [List.getElem?_map] at h
      obtain ⟨m, _, rfl⟩ := Option.map_eq_some_iff.1 h
      exact ⟨_, rfl, rfl⟩
    · unfold mts at h
      rw [List.getElem?_map] at h
      obtain ⟨m, _, rfl⟩ := Option.map_eq_some_iff.1 h
      rw [List.nil_append, List.singleton_append, mapM_cons', hz' σ]
      rfl
    · unfold mts at h
      rw [List.getElem?_map] at h
      obtain ⟨m, hm, rfl⟩ := Option.map_eq_some_iff.1 h
      have hg : l.getD i ⟨⟨#[]⟩, 0, []⟩ = m := by rw [List.getD_eq_getElem?_getD, hm]; rfl
      simp only [hg]
      exact hp m (List.mem_of_getElem? hm)
  have hf := found_not l ok (fun i => !ok (l.getD i ⟨⟨#[]⟩, 0, []⟩)) (fun i x hx => by rw [List.getD_eq_getElem?_getD, hx]; rfl)
  refine AV_wp (H.a (307, d307) (by simp [lka])) rfl ?_
  (repeat' first
    | refine w_seq ?_ | refine w_rg ?_ | refine wo_nil ?_ | refine g_skU ?_ | refine g_skT ?_ | refine g_skF ?_
    | ((first | apply s_plain | apply s_void | apply s_guard | apply g_goT | apply g_goF); · simp only [go_sem, Nat.reduceEqDiff, Nat.reduceAdd, Nat.reduceLeDiff, h322, hz]; (first | done | rfl))
    | ((first | apply g_T | apply g_F | apply g_gT | apply g_gF); · intro q1_; (first | intro q2_ | have q2_ := q1_); simp only [go_sem, Nat.reduceEqDiff, Nat.reduceAdd, Nat.reduceLeDiff, h322, hz, q1_, q2_]; (first | done | rfl))
    | (apply w_condX; · simp only [go_sem, Nat.reduceEqDiff, Nat.reduceAdd, Nat.reduceLeDiff, h322, hz]; (first | done | rfl)); (first | refine wcd_T ?_ | refine wcd_F ?_)
    | refine w_skip ?_ | refine w_exit ?_ | refine w_ret ?_
    | fail
    )
  exact ⟨.inr rfl, by simp only [go_sem, Nat.reduceEqDiff, Nat.reduceAdd, Nat.reduceLeDiff, retOf, resOf, hf]⟩
theorem hasN_eq (l : List ByteArray) (s : ByteArray) : hasN l s = memB l s := by
  unfold hasN
  have := found_not l (fun x => !decide (s = x)) (isS l s) (fun i x hx => by
    unfold isS nthS
    rw [hx, Option.getD_some, ba_beq, Bool.not_not])
  rw [this]
  unfold memB
  rw [List.not_all_eq_any_not]
  congr 1
  funext y
  exact Bool.not_not _
theorem a308 (H : Mm4 env) {m : Mt} {l : List Lab} (hm : m.Held) (hl : l.length ≤ 9223372036854775807) : AV env 308 [mt m, .fp [.sl (labs l)] 0 0] = some (.sc (.bool (!holdsM l m))) := by
  have h1 := a114 H.c (l := l) (n := m.n) hl
  have h2 := a50 H.x (l := m.ws) hm.ws (getB l m.n)
  rw [hasN_eq] at h2
  refine AV_wp (H.a (308, d308) (by simp [lka])) rfl ?_
  unfold mt
  (repeat' first
    | refine w_seq ?_ | refine w_rg ?_ | refine wo_nil ?_ | refine g_skU ?_ | refine g_skT ?_ | refine g_skF ?_
    | ((first | apply s_plain | apply s_void | apply s_guard | apply g_goT | apply g_goF); · simp only [go_sem, Nat.reduceEqDiff, Nat.reduceAdd, Nat.reduceLeDiff, h1, h2]; (first | done | rfl))
    | ((first | apply g_T | apply g_F | apply g_gT | apply g_gF); · intro q1_; (first | intro q2_ | have q2_ := q1_); simp only [go_sem, Nat.reduceEqDiff, Nat.reduceAdd, Nat.reduceLeDiff, h1, h2, q1_, q2_]; (first | done | rfl))
    | (apply w_condX; · simp only [go_sem, Nat.reduceEqDiff, Nat.reduceAdd, Nat.reduceLeDiff, h1, h2]; (first | done | rfl)); (first | refine wcd_T ?_ | refine wcd_F ?_)
    | refine w_skip ?_ | refine w_exit ?_ | refine w_ret ?_
    | fail
    )
  have e : (!holdsM l m) = (memB m.ws (getB l m.n) == (m.how == 2 || m.how == 4)) := by unfold holdsM; rw [Bool.not_not]
  exact ⟨by first | exact .inr rfl | exact .inr trivial | exact .inl rfl, by simp only [go_sem, Nat.reduceEqDiff, Nat.reduceAdd, Nat.reduceLeDiff, retOf, resOf, e, Bool.bne_false]; first | done | rfl⟩
theorem a299 (H : Mm4 env) {ms : List Mt} {l : List Lab} (hms : ms.length ≤ 9223372036854775807) (hm : ∀ m ∈ ms, m.Held) (hl : l.length ≤ 9223372036854775807) (hs : Smalls l) :
    AV env 299 [.sl (labs l), .sl (mts ms)] = some (if rightL l && ms.all rightM then .tu [.sc (.bool (holdsA l ms)), .sc (.int .i64 0)] else .tu [.sc (.bool false), .sc (.int .i64 1)]) := by
  have h1 := a113 H.l H.c hl hs
  have h2 := a307 H (l := ms) (k := 305) (b := []) rightM hms (fun _ => rfl) (fun _ => rfl) (fun m h => a305 H (hm m h))
  have h3 := a307 H (l := ms) (k := 308) (b := [.fp [.sl (labs l)] 0 0]) (holdsM l) hms (fun _ => rfl) (fun _ => rfl) (fun m h => a308 H (hm m h) hl)
  refine AV_wp (H.a (299, d299) (by simp [lka])) rfl ?_
  (repeat' first
    | refine w_seq ?_ | refine w_rg ?_ | refine wo_nil ?_ | refine g_skU ?_ | refine g_skT ?_ | refine g_skF ?_
    | ((first | apply s_plain | apply s_void | apply s_guard | apply g_goT | apply g_goF); · simp only [go_sem, Nat.reduceEqDiff, Nat.reduceAdd, Nat.reduceLeDiff, h1, h2]; (first | done | rfl))
    | ((first | apply g_T | apply g_F | apply g_gT | apply g_gF); · intro q1_; (first | intro q2_ | have q2_ := q1_); simp only [go_sem, Nat.reduceEqDiff, Nat.reduceAdd, Nat.reduceLeDiff, h1, h2, q1_, q2_]; (first | done | rfl))
    | fail
    )
  cases hr : rightL l with
  | false =>
    (repeat' first
    | refine w_seq ?_ | refine w_rg ?_ | refine wo_nil ?_ | refine g_skU ?_ | refine g_skT ?_ | refine g_skF ?_
    | ((first | apply s_plain | apply s_void | apply s_guard | apply g_goT | apply g_goF); · simp only [go_sem, Nat.reduceEqDiff, Nat.reduceAdd, Nat.reduceLeDiff, hr]; (first | done | rfl))
    | ((first | apply g_T | apply g_F | apply g_gT | apply g_gF); · intro q1_; (first | intro q2_ | have q2_ := q1_); simp only [go_sem, Nat.reduceEqDiff, Nat.reduceAdd, Nat.reduceLeDiff, hr, q1_, q2_]; (first | done | rfl))
    | (apply w_condX; · simp only [go_sem, Nat.reduceEqDiff, Nat.reduceAdd, Nat.reduceLeDiff, hr]; (first | done | rfl)); (first | refine wcd_T ?_ | refine wcd_F ?_)
    | refine w_skip ?_ | refine w_exit ?_ | refine w_ret ?_
    | fail
    )
    exact ⟨.inr rfl, by simp only [go_sem, Nat.reduceEqDiff, Nat.reduceAdd, Nat.reduceLeDiff, retOf, resOf, Bool.false_and]⟩
  | true =>
    cases hm2 : ms.all rightM with
    | false =>
      (repeat' first
    | refine w_seq ?_ | refine w_rg ?_ | refine wo_nil ?_ | refine g_skU ?_ | refine g_skT ?_ | refine g_skF ?_
    | ((first | apply s_plain | apply s_void | apply s_guard | apply g_goT | apply g_goF); · simp only [go_sem, Nat.reduceEqDiff, Nat.reduceAdd, Nat.reduceLeDiff, hr, hm2]; (first | done | rfl))
    | ((first | apply g_T | apply g_F | apply g_gT | apply g_gF); · intro q1_; (first | intro q2_ | have q2_ := q1_); simp only [go_sem, Nat.reduceEqDiff, Nat.reduceAdd, Nat.reduceLeDiff, hr, hm2, q1_, q2_]; (first | done | rfl))
    | (apply w_condX; · simp only [go_sem, Nat.reduceEqDiff, Nat.reduceAdd, Nat.reduceLeDiff, hr, hm2]; (first | done | rfl)); (first | refine wcd_T ?_ | refine wcd_F ?_)
    | refine w_skip ?_ | refine w_exit ?_ | refine w_ret ?_
    | fail
    )
      exact ⟨.inr rfl, by simp only [go_sem, Nat.reduceEqDiff, Nat.reduceAdd, Nat.reduceLeDiff, retOf, resOf, Bool.and_false]⟩
    | true =>
      (repeat' first
    | refine w_seq ?_ | refine w_rg ?_ | refine wo_nil ?_ | refine g_skU ?_ | refine g_skT ?_ | refine g_skF ?_
    | ((first | apply s_plain | apply s_void | apply s_guard | apply g_goT | apply g_goF); · simp only [go_sem, Nat.reduceEqDiff, Nat.reduceAdd, Nat.reduceLeDiff, hr, hm2, h3]; (first | done | rfl))
    | ((first | apply g_T | apply g_F | apply g_gT | apply g_gF); · intro q1_; (first | intro q2_ | have q2_ := q1_); simp only [go_sem, Nat.reduceEqDiff, Nat.reduceAdd, Nat.reduceLeDiff, hr, hm2, h3, q1_, q2_]; (first | done | rfl))
    | (apply w_condX; · simp only [go_sem, Nat.reduceEqDiff, Nat.reduceAdd, Nat.reduceLeDiff, hr, hm2, h3]; (first | done | rfl)); (first | refine wcd_T ?_ | refine wcd_F ?_)
    | refine w_skip ?_ | refine w_exit ?_ | refine w_ret ?_
    | fail
    )
      exact ⟨.inr rfl, by simp only [go_sem, Nat.reduceEqDiff, Nat.reduceAdd, Nat.reduceLeDiff, retOf, resOf, holdsA, Bool.not_not]⟩
end

def intsR (l : List Int) : List PV := l.map fun n => .sc (.int .i64 n)
section
variable {env : Nat → Option Def} {fr : Fr} {σ σ' σ'' : St} {K : Fr → St → Prop} {Q : X → Fr → St → Prop} {p : PV} {bs : List UInt8}
theorem a325 (B : Has lkb env) (n least : Int) : AV env 325 [.sc (.int .i64 n), .fp [.sc (.int .i64 least)] 0 0] = some (.sc (.bool (!inT n least))) := by
  refine AV_wp (B (325, d325) (by simp [lkb])) rfl ?_
  (repeat' first
    | refine w_seq ?_ | refine w_rg ?_ | refine wo_nil ?_ | refine g_skU ?_ | refine g_skT ?_ | refine g_skF ?_
    | ((first | apply s_plain | apply s_void | apply s_guard | apply g_goT | apply g_goF); · simp only [go_sem, Nat.reduceEqDiff, Nat.reduceAdd, Nat.reduceLeDiff]; (first | done | rfl))
    | ((first | apply g_T | apply g_F | apply g_gT | apply g_gF); · intro q1_; (first | intro q2_ | have q2_ := q1_); simp only [go_sem, Nat.reduceEqDiff, Nat.reduceAdd, Nat.reduceLeDiff, q1_, q2_]; (first | done | rfl))
    | (apply w_condX; · simp only [go_sem, Nat.reduceEqDiff, Nat.reduceAdd, Nat.reduceLeDiff]; (first | done | rfl)); (first | refine wcd_T ?_ | refine wcd_F ?_)
    | refine w_skip ?_ | refine w_exit ?_ | refine w_ret ?_
    | fail
    )
  have e : (!inT n least) = (decide (n < least) || decide (n > 1099511627776)) := by
    unfold inT
    rw [Bool.not_and, ← decide_not, ← decide_not]
    congr 1
    · rw [decide_eq_decide]; omega
    · rw [decide_eq_decide]; omega
  exact ⟨by first | exact .inr rfl | exact .inr trivial | exact .inl rfl, by simp only [go_sem, Nat.reduceEqDiff, Nat.reduceAdd, Nat.reduceLeDiff, retOf, resOf, e]; first | done | rfl⟩
theorem d329_eq : d329 = d85 := rfl
theorem a317 (B : Has lkb env) {l : List Int} (hn : l.length ≤ 9223372036854775807) (least : Int) : AV env 317 [.sc (.int .i64 least), .sl (intsR l)] = some (.sc (.bool (l.all fun n => inT n least))) := by
  have hll : (intsR l).length = l.length := by simp [intsR]
  have h329 : AV env 329 [.sl (intsR l), .fn 325 [] [.fp [.sc (.int .i64 least)] 0 0]] = some (.sc (.int .i64 (found (fun i => !inT (l.getD i 0) least) l.length))) := by
    rw [← hll]
    refine a85g (k := 325) (a := []) (b := [.fp [.sc (.int .i64 least)] 0 0]) (p := fun i => !inT (l.getD i 0) least) (by rw [← d329_eq]; exact B (329, d329) (by simp [lkb])) (by rw [hll]; exact hn) (fun i e h => ?_) (fun i e h σ => ?_) (fun i e h => ?_)
    · unfold intsR at h
      rw [List.getElem?_map] at h
      obtain ⟨m, _, rfl⟩ := Option.map_eq_some_iff.1 h
      rfl
    · unfold intsR at h
      rw [List.getElem?_map] at h
      obtain ⟨m, _, rfl⟩ := Option.map_eq_some_iff.1 h
      rfl
    · unfold intsR at h
      rw [List.getElem?_map] at h
      obtain ⟨m, hm, rfl⟩ := Option.map_eq_some_iff.1 h
      have hg : l.getD i 0 = m := by rw [List.getD_eq_getElem?_getD, hm]; rfl
      simp only [hg]
      exact a325 B m least
  have hf := found_not l (fun n => inT n least) (fun i => !inT (l.getD i 0) least) (fun i x hx => by rw [List.getD_eq_getElem?_getD, hx]; rfl)
  have h324 : AV env 324 [.sl (intsR l), .fn 325 [] [.fp [.sc (.int .i64 least)] 0 0]] = some (.sc (.bool (!l.all fun n => inT n least))) := by
    refine AV_wp (B (324, d324) (by simp [lkb])) rfl ?_
    (repeat' first
    | refine w_seq ?_ | refine w_rg ?_ | refine wo_nil ?_ | refine g_skU ?_ | refine g_skT ?_ | refine g_skF ?_
    | ((first | apply s_plain | apply s_void | apply s_guard | apply g_goT | apply g_goF); · simp only [go_sem, Nat.reduceEqDiff, Nat.reduceAdd, Nat.reduceLeDiff, h329]; (first | done | rfl))
    | ((first | apply g_T | apply g_F | apply g_gT | apply g_gF); · intro q1_; (first | intro q2_ | have q2_ := q1_); simp only [go_sem, Nat.reduceEqDiff, Nat.reduceAdd, Nat.reduceLeDiff, h329, q1_, q2_]; (first | done | rfl))
    | (apply w_condX; · simp only [go_sem, Nat.reduceEqDiff, Nat.reduceAdd, Nat.reduceLeDiff, h329]; (first | done | rfl)); (first | refine wcd_T ?_ | refine wcd_F ?_)
    | refine w_skip ?_ | refine w_exit ?_ | refine w_ret ?_
    | fail
    )
    exact ⟨.inr rfl, by simp only [go_sem, Nat.reduceEqDiff, Nat.reduceAdd, Nat.reduceLeDiff, retOf, resOf, hf]⟩
  refine AV_wp (B (317, d317) (by simp [lkb])) rfl ?_
  (repeat' first
    | refine w_seq ?_ | refine w_rg ?_ | refine wo_nil ?_ | refine g_skU ?_ | refine g_skT ?_ | refine g_skF ?_
    | ((first | apply s_plain | apply s_void | apply s_guard | apply g_goT | apply g_goF); · simp only [go_sem, Nat.reduceEqDiff, Nat.reduceAdd, Nat.reduceLeDiff, h324]; (first | done | rfl))
    | ((first | apply g_T | apply g_F | apply g_gT | apply g_gF); · intro q1_; (first | intro q2_ | have q2_ := q1_); simp only [go_sem, Nat.reduceEqDiff, Nat.reduceAdd, Nat.reduceLeDiff, h324, q1_, q2_]; (first | done | rfl))
    | (apply w_condX; · simp only [go_sem, Nat.reduceEqDiff, Nat.reduceAdd, Nat.reduceLeDiff, h324]; (first | done | rfl)); (first | refine wcd_T ?_ | refine wcd_F ?_)
    | refine w_skip ?_ | refine w_exit ?_ | refine w_ret ?_
    | fail
    )
  exact ⟨.inr rfl, by simp only [go_sem, Nat.reduceEqDiff, Nat.reduceAdd, Nat.reduceLeDiff, retOf, resOf, Bool.not_not]⟩
theorem a314 (H : Mm4 env) (B : Has lkb env) {s : ByteArray} (hs : Small s) : AV env 314 [.sc (.string s)] = some (.sc (.bool (wordB s))) := by
  have h9 := a9e H.w H.f hs
  unfold bare at h9
  refine AV_wp (B (314, d314) (by simp [lkb])) rfl ?_
  (repeat' first
    | refine w_seq ?_ | refine w_rg ?_ | refine wo_nil ?_ | refine g_skU ?_ | refine g_skT ?_ | refine g_skF ?_
    | ((first | apply s_plain | apply s_void | apply s_guard | apply g_goT | apply g_goF); · simp only [go_sem, Nat.reduceEqDiff, Nat.reduceAdd, Nat.reduceLeDiff, h9]; (first | done | rfl))
    | ((first | apply g_T | apply g_F | apply g_gT | apply g_gF); · intro q1_; (first | intro q2_ | have q2_ := q1_); simp only [go_sem, Nat.reduceEqDiff, Nat.reduceAdd, Nat.reduceLeDiff, h9, q1_, q2_]; (first | done | rfl))
    | (apply w_condX; · simp only [go_sem, Nat.reduceEqDiff, Nat.reduceAdd, Nat.reduceLeDiff, h9]; (first | done | rfl)); (first | refine wcd_T ?_ | refine wcd_F ?_)
    | refine w_skip ?_ | refine w_exit ?_ | refine w_ret ?_
    | fail
    )
  exact ⟨.inr rfl, by simp only [go_sem, Nat.reduceEqDiff, Nat.reduceAdd, Nat.reduceLeDiff, retOf, resOf]⟩
theorem a316 (H : Mm4 env) (B : Has lkb env) {s : ByteArray} (hs : Small s) : AV env 316 [.sc (.string s)] = some (.sc (.bool (nameB s))) := by
  have h9 := a113n H.l H.c hs
  refine AV_wp (B (316, d316) (by simp [lkb])) rfl ?_
  (repeat' first
    | refine w_seq ?_ | refine w_rg ?_ | refine wo_nil ?_ | refine g_skU ?_ | refine g_skT ?_ | refine g_skF ?_
    | ((first | apply s_plain | apply s_void | apply s_guard | apply g_goT | apply g_goF); · simp only [go_sem, Nat.reduceEqDiff, Nat.reduceAdd, Nat.reduceLeDiff, h9]; (first | done | rfl))
    | ((first | apply g_T | apply g_F | apply g_gT | apply g_gF); · intro q1_; (first | intro q2_ | have q2_ := q1_); simp only [go_sem, Nat.reduceEqDiff, Nat.reduceAdd, Nat.reduceLeDiff, h9, q1_, q2_]; (first | done | rfl))
    | (apply w_condX; · simp only [go_sem, Nat.reduceEqDiff, Nat.reduceAdd, Nat.reduceLeDiff, h9]; (first | done | rfl)); (first | refine wcd_T ?_ | refine wcd_F ?_)
    | refine w_skip ?_ | refine w_exit ?_ | refine w_ret ?_
    | fail
    )
  exact ⟨.inr rfl, by simp only [go_sem, Nat.reduceEqDiff, Nat.reduceAdd, Nat.reduceLeDiff, retOf, resOf]⟩
theorem a315 (B : Has lkb env) {l : List ByteArray} {k : Nat} (ok : ByteArray → Bool) (hn : l.length ≤ 9223372036854775807) (hp : ∀ s ∈ l, AV env k [.sc (.string s)] = some (.sc (.bool (ok s)))) :
    AV env 315 [.sl (strs l), .fn k [] []] = some (.sc (.bool (riseB ok l && decide ((l.length : Int) ≤ 8)))) := by
  have hll := strs_len l
  refine AV_wp (B (315, d315) (by simp [lkb])) rfl ?_
  (repeat' first
    | refine w_seq ?_ | refine w_rg ?_ | refine wo_nil ?_ | refine g_skU ?_ | refine g_skT ?_ | refine g_skF ?_
    | ((first | apply s_plain | apply s_void | apply s_guard | apply g_goT | apply g_goF); · simp only [go_sem, Nat.reduceEqDiff, Nat.reduceAdd, Nat.reduceLeDiff, hll]; (first | done | rfl))
    | ((first | apply g_T | apply g_F | apply g_gT | apply g_gF); · intro q1_; (first | intro q2_ | have q2_ := q1_); simp only [go_sem, Nat.reduceEqDiff, Nat.reduceAdd, Nat.reduceLeDiff, hll, q1_, q2_]; (first | done | rfl))
    | fail
    )
  refine w_block (w_rangeF l.length hn (fun i fr σ => ∀ j, j < i → badW ok l j = false) ⟨by decide, rfl, rfl⟩ (fun _ _ _ _ h => ⟨h, h, h⟩) (fun j hj => by omega) (by simp only [go_sem, Nat.reduceEqDiff, Nat.reduceAdd, Nat.reduceLeDiff]; first | done | rfl) (by simp only [go_sem, Nat.reduceEqDiff, Nat.reduceAdd, Nat.reduceLeDiff, hll]; first | done | rfl) ?_ ?_)
  · rintro i fr2 σ2 hi h3 hti hfr
    have f0_0 := hfr 0 rfl; have f0_1 := hfr 1 rfl; have f0_7 := hfr 7 rfl; have f0_8 := hfr 8 rfl; try (simp only [go_sem, Nat.reduceEqDiff, Nat.reduceAdd, Nat.reduceLeDiff] at f0_0); try (simp only [go_sem, Nat.reduceEqDiff, Nat.reduceAdd, Nat.reduceLeDiff] at f0_1); try (simp only [go_sem, Nat.reduceEqDiff, Nat.reduceAdd, Nat.reduceLeDiff] at f0_7); try (simp only [go_sem, Nat.reduceEqDiff, Nat.reduceAdd, Nat.reduceLeDiff] at f0_8)
    have hx := List.getElem?_eq_getElem hi
    have hy := strs_at hx
    have hni := nthS_eq hi
    have e1 : (0 : Int) ≤ (i : Int) ∧ (i : Int) < (l.length : Int) := by omega
    have hwd := hp _ (List.getElem_mem hi)
    refine w_block ?_
    (repeat' first
    | refine w_seq ?_ | refine w_rg ?_ | refine wo_nil ?_ | refine g_skU ?_ | refine g_skT ?_ | refine g_skF ?_
    | ((first | apply s_plain | apply s_void | apply s_guard | apply g_goT | apply g_goF); · simp only [go_sem, Nat.reduceEqDiff, Nat.reduceAdd, Nat.reduceLeDiff, f0_0, f0_1, f0_7, f0_8, hti, e1, hll, Int.toNat_natCast, hy, hwd]; (first | done | rfl))
    | ((first | apply g_T | apply g_F | apply g_gT | apply g_gF); · intro q1_; (first | intro q2_ | have q2_ := q1_); simp only [go_sem, Nat.reduceEqDiff, Nat.reduceAdd, Nat.reduceLeDiff, f0_0, f0_1, f0_7, f0_8, hti, e1, hll, Int.toNat_natCast, hy, hwd, q1_, q2_]; (first | done | rfl))
    | fail
    )
    have hx' : l[i - 1]? = some (nthS l (i - 1)) := by
      have : i - 1 < l.length := by omega
      unfold nthS; rw [List.getElem?_eq_getElem this]; rfl
    have hy' := strs_at hx'
    refine g_gT (v := .fp (strs l) (i - 1) 0) (by
      intro hb hc
      have hpos : 0 < i := by simpa using hc
      have e2 : IntKind.i64.wrap ((i : Int) - 1) = ((i - 1 : Nat) : Int) := by rw [IntKind.wrap_i64]; omega
      have e3 : (0 : Int) ≤ ((i - 1 : Nat) : Int) ∧ ((i - 1 : Nat) : Int) < (l.length : Int) := by omega
      simp only [go_sem, Nat.reduceEqDiff, Nat.reduceAdd, Nat.reduceLeDiff, f0_0, f0_1, f0_7, f0_8, hb, hc, e2, e3, hll, Int.toNat_natCast, hy']) ?_
    (repeat' first
    | refine w_seq ?_ | refine w_rg ?_ | refine wo_nil ?_ | refine g_skU ?_ | refine g_skT ?_ | refine g_skF ?_
    | ((first | apply s_plain | apply s_void | apply s_guard | apply g_goT | apply g_goF); · simp only [go_sem, Nat.reduceEqDiff, Nat.reduceAdd, Nat.reduceLeDiff, f0_0, f0_1, f0_7, f0_8, hy']; (first | done | rfl))
    | ((first | apply g_T | apply g_F | apply g_gT | apply g_gF); · intro q1_; (first | intro q2_ | have q2_ := q1_); simp only [go_sem, Nat.reduceEqDiff, Nat.reduceAdd, Nat.reduceLeDiff, f0_0, f0_1, f0_7, f0_8, hy', q1_, q2_]; (first | done | rfl))
    | fail
    )
    have hbad : badW ok l i = (!ok l[i] || (decide ((i : Int) > 0) && !Op.bytesLess (nthS l (i - 1)).toList l[i].toList)) := by unfold badW lessB; rw [hni]
    cases hpi : badW ok l i with
    | true =>
      refine w_condT (by simp only [go_sem, Nat.reduceEqDiff, Nat.reduceAdd, Nat.reduceLeDiff]; rw [hbad] at hpi; exact congrArg (fun b => PV.sc (.bool b)) hpi) ?_
      (repeat' first
    | refine w_seq ?_ | refine w_rg ?_ | refine wo_nil ?_ | refine g_skU ?_ | refine g_skT ?_ | refine g_skF ?_
    | ((first | apply s_plain | apply s_void | apply s_guard | apply g_goT | apply g_goF); · simp only [go_sem, Nat.reduceEqDiff, Nat.reduceAdd, Nat.reduceLeDiff]; (first | done | rfl))
    | ((first | apply g_T | apply g_F | apply g_gT | apply g_gF); · intro q1_; (first | intro q2_ | have q2_ := q1_); simp only [go_sem, Nat.reduceEqDiff, Nat.reduceAdd, Nat.reduceLeDiff, q1_, q2_]; (first | done | rfl))
    | (apply w_condX; · simp only [go_sem, Nat.reduceEqDiff, Nat.reduceAdd, Nat.reduceLeDiff]; (first | done | rfl)); (first | refine wcd_T ?_ | refine wcd_F ?_)
    | refine w_skip ?_ | refine w_exit ?_ | refine w_ret ?_
    | fail
    )
      exact ⟨by first | exact .inr rfl | exact .inr trivial | exact .inl rfl, by simp only [go_sem, Nat.reduceEqDiff, Nat.reduceAdd, Nat.reduceLeDiff, retOf, resOf, rise_hit hi hpi, Bool.false_and]; first | done | rfl⟩
    | false =>
      refine w_condF (by simp only [go_sem, Nat.reduceEqDiff, Nat.reduceAdd, Nat.reduceLeDiff]; rw [hbad] at hpi; exact congrArg (fun b => PV.sc (.bool b)) hpi) ?_
      (repeat' first
    | refine w_seq ?_ | refine w_rg ?_ | refine wo_nil ?_ | refine g_skU ?_ | refine g_skT ?_ | refine g_skF ?_
    | ((first | apply s_plain | apply s_void | apply s_guard | apply g_goT | apply g_goF); · simp only [go_sem, Nat.reduceEqDiff, Nat.reduceAdd, Nat.reduceLeDiff]; (first | done | rfl))
    | ((first | apply g_T | apply g_F | apply g_gT | apply g_gF); · intro q1_; (first | intro q2_ | have q2_ := q1_); simp only [go_sem, Nat.reduceEqDiff, Nat.reduceAdd, Nat.reduceLeDiff, q1_, q2_]; (first | done | rfl))
    | (apply w_condX; · simp only [go_sem, Nat.reduceEqDiff, Nat.reduceAdd, Nat.reduceLeDiff]; (first | done | rfl)); (first | refine wcd_T ?_ | refine wcd_F ?_)
    | refine w_skip ?_ | refine w_exit ?_ | refine w_ret ?_
    | fail
    )
      intro j hj
      by_cases hji : j = i
      · rw [hji]; exact hpi
      · exact h3 j (by omega)
  · rintro fr2 σ2 h3 hfr
    have e0_0 := hfr 0 rfl; try (simp only [go_sem, Nat.reduceEqDiff, Nat.reduceAdd, Nat.reduceLeDiff] at e0_0)
    try simp only [if_true]
    (repeat' first
    | refine w_seq ?_ | refine w_rg ?_ | refine wo_nil ?_ | refine g_skU ?_ | refine g_skT ?_ | refine g_skF ?_
    | ((first | apply s_plain | apply s_void | apply s_guard | apply g_goT | apply g_goF); · simp only [go_sem, Nat.reduceEqDiff, Nat.reduceAdd, Nat.reduceLeDiff, e0_0, hll]; (first | done | rfl))
    | ((first | apply g_T | apply g_F | apply g_gT | apply g_gF); · intro q1_; (first | intro q2_ | have q2_ := q1_); simp only [go_sem, Nat.reduceEqDiff, Nat.reduceAdd, Nat.reduceLeDiff, e0_0, hll, q1_, q2_]; (first | done | rfl))
    | (apply w_condX; · simp only [go_sem, Nat.reduceEqDiff, Nat.reduceAdd, Nat.reduceLeDiff, e0_0, hll]; (first | done | rfl)); (first | refine wcd_T ?_ | refine wcd_F ?_)
    | refine w_skip ?_ | refine w_exit ?_ | refine w_ret ?_
    | fail
    )
    exact ⟨by first | exact .inr rfl | exact .inr trivial | exact .inl rfl, by simp only [go_sem, Nat.reduceEqDiff, Nat.reduceAdd, Nat.reduceLeDiff, retOf, resOf, rise_all (ok := ok) h3]; first | done | rfl⟩
theorem a313 (H : Mm4 env) (B : Has lkb env) {m : Mt} (hm : m.Held) : AV env 313 [mt m] = some (.sc (.bool (!rightM m))) := by
  have h := a306 H hm
  refine AV_wp (B (313, d313) (by simp [lkb])) rfl ?_
  unfold mt at h ⊢
  (repeat' first
    | refine w_seq ?_ | refine w_rg ?_ | refine wo_nil ?_ | refine g_skU ?_ | refine g_skT ?_ | refine g_skF ?_
    | ((first | apply s_plain | apply s_void | apply s_guard | apply g_goT | apply g_goF); · simp only [go_sem, Nat.reduceEqDiff, Nat.reduceAdd, Nat.reduceLeDiff, h]; (first | done | rfl))
    | ((first | apply g_T | apply g_F | apply g_gT | apply g_gF); · intro q1_; (first | intro q2_ | have q2_ := q1_); simp only [go_sem, Nat.reduceEqDiff, Nat.reduceAdd, Nat.reduceLeDiff, h, q1_, q2_]; (first | done | rfl))
    | (apply w_condX; · simp only [go_sem, Nat.reduceEqDiff, Nat.reduceAdd, Nat.reduceLeDiff, h]; (first | done | rfl)); (first | refine wcd_T ?_ | refine wcd_F ?_)
    | refine w_skip ?_ | refine w_exit ?_ | refine w_ret ?_
    | fail
    )
  exact ⟨.inr rfl, by simp only [go_sem, Nat.reduceEqDiff, Nat.reduceAdd, Nat.reduceLeDiff, retOf, resOf]⟩
theorem a318 (B : Has lkb env) {l : List Rt} {k : Nat} {b : List PV} (ok : Rt → Bool) (hn : l.length ≤ 9223372036854775807) (hz : ∀ σ, b.mapM (fz σ 11) = some b) (hz' : ∀ σ, b.mapM (fz σ 12) = some b)
    (hp : ∀ m ∈ l, AV env k (rt m :: b) = some (.sc (.bool (!ok m)))) : AV env 318 [.sl (rts l), .fn k [] b] = some (.sc (.bool (!l.all ok))) := by
  have hll := rts_len l
  have h326 : AV env 326 [.sl (rts l), .fn k [] b] = some (.sc (.int .i64 (found (fun i => match l[i]? with | some m => !ok m | none => false) l.length))) := by
    rw [← hll]
    refine idxS (es := 9) (k := k) (a := []) (b := b) (p := fun i => match l[i]? with | some m => !ok m | none => false) (by rw [← dIF_9]; exact B (326, d326) (by simp [lkb])) (by rw [hll]; exact hn) (fun i e h => ?_) (fun i e h σ => ?_) (fun i e h => ?_)
    · rw [rts_map, List.getElem?_map] at h
      obtain ⟨m, _, rfl⟩ := Option.map_eq_some_iff.1 h
      exact ⟨_, rt_eq m, rfl⟩
    · rw [rts_map, List.getElem?_map] at h
      obtain ⟨m, _, rfl⟩ := Option.map_eq_some_iff.1 h
      rw [List.nil_append, List.singleton_append, mapM_cons', hz' σ, rt_eq m]
      rfl
    · rw [rts_map, List.getElem?_map] at h
      obtain ⟨m, hm, rfl⟩ := Option.map_eq_some_iff.1 h
      simp only [hm]
      exact hp m (List.mem_of_getElem? hm)
  have hf := found_not l ok (fun i => match l[i]? with | some m => !ok m | none => false) (fun i x hx => by simp only [hx])
  refine AV_wp (B (318, d318) (by simp [lkb])) rfl ?_
  (repeat' first
    | refine w_seq ?_ | refine w_rg ?_ | refine wo_nil ?_ | refine g_skU ?_ | refine g_skT ?_ | refine g_skF ?_
    | ((first | apply s_plain | apply s_void | apply s_guard | apply g_goT | apply g_goF); · simp only [go_sem, Nat.reduceEqDiff, Nat.reduceAdd, Nat.reduceLeDiff, h326, hz]; (first | done | rfl))
    | ((first | apply g_T | apply g_F | apply g_gT | apply g_gF); · intro q1_; (first | intro q2_ | have q2_ := q1_); simp only [go_sem, Nat.reduceEqDiff, Nat.reduceAdd, Nat.reduceLeDiff, h326, hz, q1_, q2_]; (first | done | rfl))
    | (apply w_condX; · simp only [go_sem, Nat.reduceEqDiff, Nat.reduceAdd, Nat.reduceLeDiff, h326, hz]; (first | done | rfl)); (first | refine wcd_T ?_ | refine wcd_F ?_)
    | refine w_skip ?_ | refine w_exit ?_ | refine w_ret ?_
    | fail
    )
  exact ⟨.inr rfl, by simp only [go_sem, Nat.reduceEqDiff, Nat.reduceAdd, Nat.reduceLeDiff, retOf, resOf, hf]⟩
theorem a319 (B : Has lkb env) {d : Nat} (hd : d < 1000) {r : Rt} (h : AV env 304 [rt r, .sc (.int .i64 (d : Int))] = some (.sc (.bool (mayR d r)))) : AV env 319 [rt r, .fp [.sc (.int .i64 ((d + 1 : Nat) : Int))] 0 0] = some (.sc (.bool (!mayR d r))) := by
  have e2 : IntKind.i64.wrap (((d + 1 : Nat) : Int) - 1) = (d : Int) := by rw [IntKind.wrap_i64]; omega
  refine AV_wp (B (319, d319) (by simp [lkb])) rfl ?_
  rw [rt_eq] at h ⊢
  unfold rhd at h ⊢
  (repeat' first
    | refine w_seq ?_ | refine w_rg ?_ | refine wo_nil ?_ | refine g_skU ?_ | refine g_skT ?_ | refine g_skF ?_
    | ((first | apply s_plain | apply s_void | apply s_guard | apply g_goT | apply g_goF); · simp only [go_sem, Nat.reduceEqDiff, Nat.reduceAdd, Nat.reduceLeDiff, e2, h]; (first | done | rfl))
    | ((first | apply g_T | apply g_F | apply g_gT | apply g_gF); · intro q1_; (first | intro q2_ | have q2_ := q1_); simp only [go_sem, Nat.reduceEqDiff, Nat.reduceAdd, Nat.reduceLeDiff, e2, h, q1_, q2_]; (first | done | rfl))
    | (apply w_condX; · simp only [go_sem, Nat.reduceEqDiff, Nat.reduceAdd, Nat.reduceLeDiff, e2, h]; (first | done | rfl)); (first | refine wcd_T ?_ | refine wcd_F ?_)
    | refine w_skip ?_ | refine w_exit ?_ | refine w_ret ?_
    | fail
    )
  exact ⟨.inr rfl, by simp only [go_sem, Nat.reduceEqDiff, Nat.reduceAdd, Nat.reduceLeDiff, retOf, resOf]⟩
theorem a304 (H : Mm4 env) (B : Has lkb env) : ∀ (d : Nat), d < 1000 → ∀ r : Rt, r.Held → AV env 304 [rt r, .sc (.int .i64 (d : Int))] = some (.sc (.bool (mayR d r)))
  | 0, _, r, hr => by
    refine AV_wp (B (304, d304) (by simp [lkb])) rfl ?_
    rw [rt_eq]
    unfold rhd
    have e0 : (((0 : Nat) : Int) == 0) = true := rfl
    (repeat' first
    | refine w_seq ?_ | refine w_rg ?_ | refine wo_nil ?_ | refine g_skU ?_ | refine g_skT ?_ | refine g_skF ?_
    | ((first | apply s_plain | apply s_void | apply s_guard | apply g_goT | apply g_goF); · simp only [go_sem, Nat.reduceEqDiff, Nat.reduceAdd, Nat.reduceLeDiff, e0]; (first | done | rfl))
    | ((first | apply g_T | apply g_F | apply g_gT | apply g_gF); · intro q1_; (first | intro q2_ | have q2_ := q1_); simp only [go_sem, Nat.reduceEqDiff, Nat.reduceAdd, Nat.reduceLeDiff, e0, q1_, q2_]; (first | done | rfl))
    | (apply w_condX; · simp only [go_sem, Nat.reduceEqDiff, Nat.reduceAdd, Nat.reduceLeDiff, e0]; (first | done | rfl)); (first | refine wcd_T ?_ | refine wcd_F ?_)
    | refine w_skip ?_ | refine w_exit ?_ | refine w_ret ?_
    | fail
    )
    exact ⟨by first | exact .inr rfl | exact .inr trivial | exact .inl rfl, by simp only [go_sem, Nat.reduceEqDiff, Nat.reduceAdd, Nat.reduceLeDiff, retOf, resOf, mayR]; first | done | rfl⟩
  | d + 1, hd, r, hr => by
    have ih := fun k hk => a319 B (d := d) (by omega) (a304 H B d (by omega) k hk)
    obtain ⟨h, ks, hh, hkl, hkh⟩ := hr
    have h318 := a318 B (l := ks) (k := 319) (b := [.fp [.sc (.int .i64 ((d + 1 : Nat) : Int))] 0 0]) (mayR d) hkl (fun _ => rfl) (fun _ => rfl) (fun k hk => ih k (hkh k hk))
    have h307 := a307 H (l := h.ms) (k := 313) (b := []) rightM hh.ms (fun _ => rfl) (fun _ => rfl) (fun m hm => a313 H B (hh.mss m hm))
    have h314 := a314 H B hh.recv
    have h315a := a315 B (l := h.bys) (k := 316) nameB hh.bys (fun s hs => a316 H B (hh.byss s hs))
    have h315b := a315 B (l := h.mute) (k := 314) wordB hh.mute (fun s hs => a314 H B (hh.mutes s hs))
    have h317a := a317 B (l := [h.wait]) (by simp) 0
    have h317b := a317 B (l := [h.every, h.rep]) (by simp) 1
    have hml := mts_len h.ms
    have hkl' := rts_len ks
    have hmay : mayR (d + 1) (.mk h ks) = (headR h ks.length && ks.all (mayR d)) := rfl
    have e0 : (((d + 1 : Nat) : Int) == 0) = false := by rw [beq_eq_false_iff_ne]; omega
    simp only [intsR, List.map_cons, List.map_nil] at h317a h317b
    refine AV_wp (B (304, d304) (by simp [lkb])) rfl ?_
    rw [rt]
    unfold rhd
    (repeat' first
    | refine w_seq ?_ | refine w_rg ?_ | refine wo_nil ?_ | refine g_skU ?_ | refine g_skT ?_ | refine g_skF ?_
    | ((first | apply s_plain | apply s_void | apply s_guard | apply g_goT | apply g_goF); · simp only [go_sem, Nat.reduceEqDiff, Nat.reduceAdd, Nat.reduceLeDiff, e0, h314, h307, hml, hkl']; (first | done | rfl))
    | ((first | apply g_T | apply g_F | apply g_gT | apply g_gF); · intro q1_; (first | intro q2_ | have q2_ := q1_); simp only [go_sem, Nat.reduceEqDiff, Nat.reduceAdd, Nat.reduceLeDiff, e0, h314, h307, hml, hkl', q1_, q2_]; (first | done | rfl))
    | fail
    )
    refine w_condB (by simp only [go_sem, Nat.reduceEqDiff, Nat.reduceAdd, Nat.reduceLeDiff]; first | done | rfl) (fun hc => ?_) (fun hc => ?_)
    · have hf : mayR (d + 1) (.mk h ks) = false := by rw [hmay]; unfold headR; rw [hc]; rfl
      (repeat' first
    | refine w_seq ?_ | refine w_rg ?_ | refine wo_nil ?_ | refine g_skU ?_ | refine g_skT ?_ | refine g_skF ?_
    | ((first | apply s_plain | apply s_void | apply s_guard | apply g_goT | apply g_goF); · simp only [go_sem, Nat.reduceEqDiff, Nat.reduceAdd, Nat.reduceLeDiff]; (first | done | rfl))
    | ((first | apply g_T | apply g_F | apply g_gT | apply g_gF); · intro q1_; (first | intro q2_ | have q2_ := q1_); simp only [go_sem, Nat.reduceEqDiff, Nat.reduceAdd, Nat.reduceLeDiff, q1_, q2_]; (first | done | rfl))
    | (apply w_condX; · simp only [go_sem, Nat.reduceEqDiff, Nat.reduceAdd, Nat.reduceLeDiff]; (first | done | rfl)); (first | refine wcd_T ?_ | refine wcd_F ?_)
    | refine w_skip ?_ | refine w_exit ?_ | refine w_ret ?_
    | fail
    )
      exact ⟨by first | exact .inr rfl | exact .inr trivial | exact .inl rfl, by simp only [go_sem, Nat.reduceEqDiff, Nat.reduceAdd, Nat.reduceLeDiff, retOf, resOf, hf]; first | done | rfl⟩
    · (repeat' first
    | refine w_seq ?_ | refine w_rg ?_ | refine wo_nil ?_ | refine g_skU ?_ | refine g_skT ?_ | refine g_skF ?_
    | ((first | apply s_plain | apply s_void | apply s_guard | apply g_goT | apply g_goF); · simp only [go_sem, Nat.reduceEqDiff, Nat.reduceAdd, Nat.reduceLeDiff]; (first | done | rfl))
    | ((first | apply g_T | apply g_F | apply g_gT | apply g_gF); · intro q1_; (first | intro q2_ | have q2_ := q1_); simp only [go_sem, Nat.reduceEqDiff, Nat.reduceAdd, Nat.reduceLeDiff, q1_, q2_]; (first | done | rfl))
    | (apply w_condX; · simp only [go_sem, Nat.reduceEqDiff, Nat.reduceAdd, Nat.reduceLeDiff]; (first | done | rfl)); (first | refine wcd_T ?_ | refine wcd_F ?_)
    | refine w_skip ?_ | refine w_exit ?_ | refine w_ret ?_
    | fail
    )
      try simp only []
      have hhd : headR h ks.length = ((riseB nameB h.bys && decide ((h.bys.length : Int) ≤ 8)) && (riseB wordB h.mute && decide ((h.mute.length : Int) ≤ 8)) && ([h.wait].all fun n => inT n 0) && ([h.every, h.rep].all fun n => inT n 1)) := by
        unfold headR
        rw [hc]
        rfl
      rw [hhd] at hmay
      cases h1 : (riseB nameB h.bys && decide ((h.bys.length : Int) ≤ 8)) with
      | false =>
        rw [h1] at h315a hmay
        have hf : mayR (d + 1) (.mk h ks) = false := hmay
        (repeat' first
    | refine w_seq ?_ | refine w_rg ?_ | refine wo_nil ?_ | refine g_skU ?_ | refine g_skT ?_ | refine g_skF ?_
    | ((first | apply s_plain | apply s_void | apply s_guard | apply g_goT | apply g_goF); · simp only [go_sem, Nat.reduceEqDiff, Nat.reduceAdd, Nat.reduceLeDiff, h315a]; (first | done | rfl))
    | ((first | apply g_T | apply g_F | apply g_gT | apply g_gF); · intro q1_; (first | intro q2_ | have q2_ := q1_); simp only [go_sem, Nat.reduceEqDiff, Nat.reduceAdd, Nat.reduceLeDiff, h315a, q1_, q2_]; (first | done | rfl))
    | (apply w_condX; · simp only [go_sem, Nat.reduceEqDiff, Nat.reduceAdd, Nat.reduceLeDiff, h315a]; (first | done | rfl)); (first | refine wcd_T ?_ | refine wcd_F ?_)
    | refine w_skip ?_ | refine w_exit ?_ | refine w_ret ?_
    | fail
    )
        exact ⟨by first | exact .inr rfl | exact .inr trivial | exact .inl rfl, by simp only [go_sem, Nat.reduceEqDiff, Nat.reduceAdd, Nat.reduceLeDiff, retOf, resOf, hf]; first | done | rfl⟩
      | true =>
        rw [h1] at h315a hmay
        cases h2 : (riseB wordB h.mute && decide ((h.mute.length : Int) ≤ 8)) with
        | false =>
          rw [h2] at h315b hmay
          have hf : mayR (d + 1) (.mk h ks) = false := hmay
          (repeat' first
    | refine w_seq ?_ | refine w_rg ?_ | refine wo_nil ?_ | refine g_skU ?_ | refine g_skT ?_ | refine g_skF ?_
    | ((first | apply s_plain | apply s_void | apply s_guard | apply g_goT | apply g_goF); · simp only [go_sem, Nat.reduceEqDiff, Nat.reduceAdd, Nat.reduceLeDiff, h315a, h315b]; (first | done | rfl))
    | ((first | apply g_T | apply g_F | apply g_gT | apply g_gF); · intro q1_; (first | intro q2_ | have q2_ := q1_); simp only [go_sem, Nat.reduceEqDiff, Nat.reduceAdd, Nat.reduceLeDiff, h315a, h315b, q1_, q2_]; (first | done | rfl))
    | (apply w_condX; · simp only [go_sem, Nat.reduceEqDiff, Nat.reduceAdd, Nat.reduceLeDiff, h315a, h315b]; (first | done | rfl)); (first | refine wcd_T ?_ | refine wcd_F ?_)
    | refine w_skip ?_ | refine w_exit ?_ | refine w_ret ?_
    | fail
    )
          exact ⟨by first | exact .inr rfl | exact .inr trivial | exact .inl rfl, by simp only [go_sem, Nat.reduceEqDiff, Nat.reduceAdd, Nat.reduceLeDiff, retOf, resOf, hf]; first | done | rfl⟩
        | true =>
          rw [h2] at h315b hmay
          cases h3 : ([h.wait].all fun n => inT n 0) with
          | false =>
            rw [h3] at h317a hmay
            have hf : mayR (d + 1) (.mk h ks) = false := hmay
            (repeat' first
    | refine w_seq ?_ | refine w_rg ?_ | refine wo_nil ?_ | refine g_skU ?_ | refine g_skT ?_ | refine g_skF ?_
    | ((first | apply s_plain | apply s_void | apply s_guard | apply g_goT | apply g_goF); · simp only [go_sem, Nat.reduceEqDiff, Nat.reduceAdd, Nat.reduceLeDiff, h315a, h315b, h317a]; (first | done | rfl))
    | ((first | apply g_T | apply g_F | apply g_gT | apply g_gF); · intro q1_; (first | intro q2_ | have q2_ := q1_); simp only [go_sem, Nat.reduceEqDiff, Nat.reduceAdd, Nat.reduceLeDiff, h315a, h315b, h317a, q1_, q2_]; (first | done | rfl))
    | (apply w_condX; · simp only [go_sem, Nat.reduceEqDiff, Nat.reduceAdd, Nat.reduceLeDiff, h315a, h315b, h317a]; (first | done | rfl)); (first | refine wcd_T ?_ | refine wcd_F ?_)
    | refine w_skip ?_ | refine w_exit ?_ | refine w_ret ?_
    | fail
    )
            exact ⟨by first | exact .inr rfl | exact .inr trivial | exact .inl rfl, by simp only [go_sem, Nat.reduceEqDiff, Nat.reduceAdd, Nat.reduceLeDiff, retOf, resOf, hf]; first | done | rfl⟩
          | true =>
            rw [h3] at h317a hmay
            cases h4 : ([h.every, h.rep].all fun n => inT n 1) with
            | false =>
              rw [h4] at h317b hmay
              have hf : mayR (d + 1) (.mk h ks) = false := hmay
              (repeat' first
    | refine w_seq ?_ | refine w_rg ?_ | refine wo_nil ?_ | refine g_skU ?_ | refine g_skT ?_ | refine g_skF ?_
    | ((first | apply s_plain | apply s_void | apply s_guard | apply g_goT | apply g_goF); · simp only [go_sem, Nat.reduceEqDiff, Nat.reduceAdd, Nat.reduceLeDiff, h315a, h315b, h317a, h317b, List.set_cons_succ]; (first | done | rfl))
    | ((first | apply g_T | apply g_F | apply g_gT | apply g_gF); · intro q1_; (first | intro q2_ | have q2_ := q1_); simp only [go_sem, Nat.reduceEqDiff, Nat.reduceAdd, Nat.reduceLeDiff, h315a, h315b, h317a, h317b, List.set_cons_succ, q1_, q2_]; (first | done | rfl))
    | (apply w_condX; · simp only [go_sem, Nat.reduceEqDiff, Nat.reduceAdd, Nat.reduceLeDiff, h315a, h315b, h317a, h317b, List.set_cons_succ]; (first | done | rfl)); (first | refine wcd_T ?_ | refine wcd_F ?_)
    | refine w_skip ?_ | refine w_exit ?_ | refine w_ret ?_
    | fail
    )
              exact ⟨by first | exact .inr rfl | exact .inr trivial | exact .inl rfl, by simp only [go_sem, Nat.reduceEqDiff, Nat.reduceAdd, Nat.reduceLeDiff, retOf, resOf, hf]; first | done | rfl⟩
            | true =>
              rw [h4] at h317b hmay
              have hf : mayR (d + 1) (.mk h ks) = ks.all (mayR d) := hmay
              (repeat' first
    | refine w_seq ?_ | refine w_rg ?_ | refine wo_nil ?_ | refine g_skU ?_ | refine g_skT ?_ | refine g_skF ?_
    | ((first | apply s_plain | apply s_void | apply s_guard | apply g_goT | apply g_goF); · simp only [go_sem, Nat.reduceEqDiff, Nat.reduceAdd, Nat.reduceLeDiff, h315a, h315b, h317a, h317b, h318, List.set_cons_succ]; (first | done | rfl))
    | ((first | apply g_T | apply g_F | apply g_gT | apply g_gF); · intro q1_; (first | intro q2_ | have q2_ := q1_); simp only [go_sem, Nat.reduceEqDiff, Nat.reduceAdd, Nat.reduceLeDiff, h315a, h315b, h317a, h317b, h318, List.set_cons_succ, q1_, q2_]; (first | done | rfl))
    | (apply w_condX; · simp only [go_sem, Nat.reduceEqDiff, Nat.reduceAdd, Nat.reduceLeDiff, h315a, h315b, h317a, h317b, h318, List.set_cons_succ]; (first | done | rfl)); (first | refine wcd_T ?_ | refine wcd_F ?_)
    | refine w_skip ?_ | refine w_exit ?_ | refine w_ret ?_
    | fail
    )
              exact ⟨by first | exact .inr rfl | exact .inr trivial | exact .inl rfl, by simp only [go_sem, Nat.reduceEqDiff, Nat.reduceAdd, Nat.reduceLeDiff, retOf, resOf, hf, Bool.not_not]; first | done | rfl⟩
theorem a298 (H : Mm4 env) (B : Has lkb env) {r : Rt} (hr : r.Held) : AV env 298 [rt r] = some (.sc (.bool (mayR 4 r))) := by
  have h : AV env 304 [rt r, .sc (.int .i64 4)] = some (.sc (.bool (mayR 4 r))) := a304 H B 4 (by omega) r hr
  refine AV_wp (B (298, d298) (by simp [lkb])) rfl ?_
  rw [rt_eq] at h ⊢
  unfold rhd at h ⊢
  (repeat' first
    | refine w_seq ?_ | refine w_rg ?_ | refine wo_nil ?_ | refine g_skU ?_ | refine g_skT ?_ | refine g_skF ?_
    | ((first | apply s_plain | apply s_void | apply s_guard | apply g_goT | apply g_goF); · simp only [go_sem, Nat.reduceEqDiff, Nat.reduceAdd, Nat.reduceLeDiff, h]; (first | done | rfl))
    | ((first | apply g_T | apply g_F | apply g_gT | apply g_gF); · intro q1_; (first | intro q2_ | have q2_ := q1_); simp only [go_sem, Nat.reduceEqDiff, Nat.reduceAdd, Nat.reduceLeDiff, h, q1_, q2_]; (first | done | rfl))
    | (apply w_condX; · simp only [go_sem, Nat.reduceEqDiff, Nat.reduceAdd, Nat.reduceLeDiff, h]; (first | done | rfl)); (first | refine wcd_T ?_ | refine wcd_F ?_)
    | refine w_skip ?_ | refine w_exit ?_ | refine w_ret ?_
    | fail
    )
  exact ⟨by first | exact .inr rfl | exact .inr trivial | exact .inl rfl, by simp only [go_sem, Nat.reduceEqDiff, Nat.reduceAdd, Nat.reduceLeDiff, retOf, resOf]; first | done | rfl⟩
end

end
section
section
variable {env : Nat → Option Def} {fr : Fr} {σ σ' σ'' : St} {K : Fr → St → Prop} {Q : X → Fr → St → Prop} {p : PV} {P : Nat → Bool}
def SubP (P : Nat → Bool) (σ σ' : St) : Prop := ∀ o g x, P o = true → σ.m o g = some x → ∃ x', σ'.m o g = some x' ∧ x'.es = x.es ∧ x'.xs = x.xs
theorem SubP.refl (σ : St) : SubP P σ σ := fun _ _ x _ h => ⟨x, h, rfl, rfl⟩
theorem SubP.trans (h : SubP P σ σ') (h' : SubP P σ' σ'') : SubP P σ σ'' := fun o g x ho hx =>
  let ⟨y, h1, h2, h3⟩ := h o g x ho hx
  let ⟨z, h4, h5, h6⟩ := h' o g y ho h1
  ⟨z, h4, h5.trans h2, h6.trans h3⟩
theorem SubP.put (h : SubP P σ σ') {o g : Nat} (ho : P o = false) (y : Option Obj) : SubP P σ (σ'.put o g y) := fun o' g' x ho' hx => by
  obtain ⟨z, h1, h2⟩ := h o' g' x ho' hx
  refine ⟨z, ?_, h2⟩
  simp only [put_m]
  rw [if_neg (fun h => by rw [h.1, ho] at ho'; cases ho')]
  exact h1
theorem SubP.new (h : SubP P σ σ') (hF : Fresh σ') (s : Nat) (y : Obj) : SubP P σ (σ'.new s y) := fun o' g' x ho' hx => by
  obtain ⟨z, h1, h2⟩ := h o' g' x ho' hx
  refine ⟨z, ?_, h2⟩
  simp only [new_m]
  rw [if_neg]
  · exact h1
  · rintro ⟨rfl, rfl⟩
    rw [hF.none] at h1; cases h1
theorem SubP.same (h : SubP P σ σ') {o g : Nat} {x y : Obj} (hx : σ'.m o g = some x) (h1 : y.es = x.es) (h2 : y.xs = x.xs) : SubP P σ (σ'.put o g (some y)) := fun o' g' z ho' hz => by
  obtain ⟨u, q1, q2, q3⟩ := h o' g' z ho' hz
  simp only [put_m]
  by_cases hq : o' = o ∧ g' = g
  · obtain ⟨rfl, rfl⟩ := hq
    rw [hx] at q1
    simp only [Option.some.injEq] at q1
    subst q1
    exact ⟨y, by simp, h1.trans q2, h2.trans q3⟩
  · exact ⟨u, by rw [if_neg hq]; exact q1, q2, q3⟩
theorem SubP.of (h : ∀ o g, P o = true → σ'.m o g = σ.m o g) : SubP P σ σ' := fun o g x ho hx => ⟨x, by rw [h o g ho]; exact hx, rfl, rfl⟩
theorem gat_app2 {E : Ev} {d es by_ : Nat} {s' x : PA} {xs : List PV} {e : PV} (hg : Gat σ [d] es false (pa fr s') xs) (hF : Fresh σ) (hsrc : srcOf σ es (pa fr x) = some [e]) (hok : okc e = true) (hl : (cellsOf e).length = es) (hb : (xs.length + 1) * by_ ≤ 70368744177664) :
    ∃ p σ', evO E d fr σ (.app es by_ false s' x) = some (p, σ') ∧ Gat σ' [d] es false p (xs ++ [e]) ∧ Fresh σ' ∧ (∀ P, SubP P σ σ') ∧ (∀ o g, o ≠ d → σ'.m o g = σ.m o g) ∧ (∀ o, o ≠ d → σ'.c o = σ.c o) ∧ σ.c d ≤ σ'.c d := by
  have hall : ([e].all fun y => okc y && (cellsOf y).length == es) = true := by simp [hok, hl]
  rcases hg with ⟨h1, rfl⟩ | ⟨o, g, wr, h0, h1, h2, h3, h4, h5⟩
  · refine ⟨.ob d (σ.c d) es 0 1, σ.new d ⟨es, [e], true, true⟩, ?_, .inr ⟨d, σ.c d, true, by simp, rfl, by simp [new_m], by simp [new_c], by simp, fun _ => rfl⟩, hF.new _ _, fun P => (SubP.refl σ).new hF _ _, fun o g ho => ?_, fun o ho => ?_, new_c_le _ _ _ _⟩
    · simp only [evO, hsrc, Option.bind_some, hall, if_true, h1]
      rw [if_pos (by simpa using hb)]
      rfl
    · simp only [new_m]; rw [if_neg (fun h => ho h.1)]
    · simp only [new_c]; rw [if_neg (fun h => ho h)]
  · simp only [List.mem_singleton] at h0
    subst h0
    refine ⟨.ob o (σ.c o) es 0 (xs.length + 1), (σ.put o g (some ⟨es, xs, false, false⟩)).new o ⟨es, xs ++ [e], true, false⟩, ?_, .inr ⟨o, σ.c o, false, by simp, by simp, by simp [new_m, put_c], by simp [new_c, put_c], by simp, fun h => by cases h⟩,
      (hF.put h2 _).new _ _, fun P => ((SubP.refl σ).same (y := ⟨es, xs, false, false⟩) h2 rfl rfl).new (hF.put h2 _) _ _, fun o' g' ho => ?_, fun o' ho => ?_, new_c_le (σ.put o g (some ⟨es, xs, false, false⟩)) o ⟨es, xs ++ [e], true, false⟩ o⟩
    · simp only [evO, hsrc, Option.bind_some, hall, if_true, h1, h2]
      simp
      simpa using hb
    · simp only [new_m, put_m]; rw [if_neg (fun h => ho h.1), if_neg (fun h => ho h.1)]
    · simp only [new_c, put_c]; rw [if_neg (fun h => ho h)]
theorem s_gat2 {d t es by_ : Nat} {x : PA} {xs : List PV} {e : PV} {ops : List POp} (hg : Gat σ [d] es false (fr t) xs) (hF : Fresh σ) (hsrc : srcOf σ es (pa fr x) = some [e]) (hok : okc e = true) (hl : (cellsOf e).length = es) (hb : (xs.length + 1) * by_ ≤ 70368744177664)
    (h2 : ∀ p σ', Gat σ' [d] es false p (xs ++ [e]) → Fresh σ' → (∀ P, SubP P σ σ') → (∀ o g, o ≠ d → σ'.m o g = σ.m o g) → (∀ o, o ≠ d → σ'.c o = σ.c o) → σ.c d ≤ σ'.c d → Wos env ops K (fr.set d p) σ') : Wos env (⟨some d, none, .app es by_ false (.t t) x⟩ :: ops) K fr σ := by
  obtain ⟨p, σ', h3, h4, h5, h6, h7, h8, h9⟩ := gat_app2 (E := EV env) (fr := fr) (s' := .t t) (x := x) hg hF hsrc hok hl hb
  exact s_plain h3 (h2 p σ' h4 h5 h6 h7 h8 h9)
structure Kp (P : Nat → Prop) (σ σ' : St) : Prop where
  f : Fresh σ'
  m : ∀ o g, P o → g < σ.c o → σ'.m o g = σ.m o g
  c : ∀ o, σ.c o ≤ σ'.c o
theorem Kp.refl {P : Nat → Prop} (hF : Fresh σ) : Kp P σ σ := ⟨hF, fun _ _ _ _ => rfl, fun _ => Nat.le_refl _⟩
theorem Kp.trans {P : Nat → Prop} (h : Kp P σ σ') (h' : Kp P σ' σ'') : Kp P σ σ'' :=
  ⟨h'.f, fun o g hp hg => by rw [h'.m o g hp (Nat.lt_of_lt_of_le hg (h.c o)), h.m o g hp hg], fun o => Nat.le_trans (h.c o) (h'.c o)⟩
theorem Kp.new {P : Nat → Prop} (h : Kp P σ σ') (o : Nat) (y : Obj) : Kp P σ (σ'.new o y) :=
  ⟨h.f.new _ _, fun o' g' hp hg => by
    simp only [new_m]; rw [if_neg (fun e => by obtain ⟨rfl, rfl⟩ := e; have := h.c o'; omega)]; exact h.m o' g' hp hg, fun o' => Nat.le_trans (h.c o') (new_c_le _ _ _ _)⟩
theorem Kp.put {P : Nat → Prop} (h : Kp P σ σ') {o g : Nat} {x : Obj} (hx : σ'.m o g = some x) (ho : ¬ P o ∨ σ.c o ≤ g) (y : Option Obj) : Kp P σ (σ'.put o g y) :=
  ⟨h.f.put hx y, fun o' g' hp hg => by
    simp only [put_m]; rw [if_neg (fun e => by obtain ⟨rfl, rfl⟩ := e; rcases ho with ho | ho; exact ho hp; omega)]; exact h.m o' g' hp hg, h.c⟩
theorem Kp.app {P : Nat → Prop} (h : Kp P σ σ') {d : Nat} (hF : Fresh σ'') (hm : ∀ o g, o ≠ d → σ''.m o g = σ'.m o g) (hc : ∀ o, o ≠ d → σ''.c o = σ'.c o) (hd : ¬ P d) (hcd : σ'.c d ≤ σ''.c d) : Kp P σ σ'' :=
  ⟨hF, fun o g hp hg => by rw [hm o g (fun e => hd (e ▸ hp))]; exact h.m o g hp hg, fun o => by
    by_cases e : o = d
    · rw [e]; exact Nat.le_trans (h.c d) hcd
    · rw [hc o e]; exact h.c o⟩
theorem Kp.mono {P P' : Nat → Prop} (h : Kp P σ σ') (hp : ∀ o, P' o → P o) : Kp P' σ σ' := ⟨h.f, fun o g h1 h2 => h.m o g (hp o h1) h2, h.c⟩
end

end
section
attribute [local go_sem ↓] e_mv e_pick e_bin e_eqs e_beq e_un e_cvi e_str e_s2b e_b2s e_box e_build e_bsl e_ld e_st e_nck e_mkf e_slcS e_slcL e_fa e_fld e_ia e_iaa e_ix e_ixa e_ext e_lenS e_lenL e_mnmx e_app e_appb e_bbx e_msl e_clr e_call e_callv e_icall e_slcA e_mkm e_mput e_mget e_mlen e_mdel pa_t pa_c pa_f slcSP_str hiOf_some hiOf_none loOf_some loOf_none set_eq set_ne
attribute [local go_sem] pv pv1 simple frOf_0 frOf_1 frOf_2 frOf_3 frOf_4 frOf_5 ne_eq not_false_eq_true if_true Bool.false_eq_true if_false pbin punary Option.map_some Option.bind_some pick_and pick_or opt_true Bool.true_and Bool.and_self Bool.and_true Bool.true_or Bool.false_or Bool.not_true Bool.not_false callE pcall_eq List.map_cons List.map_nil List.append_nil List.nil_append List.cons_append mapM_cons' mapM_nil' dep_eq fz_sc fz_sl fz_em fz_fn fz_fp fz_agg fz_tu fz_bx fz_ob Nat.lt_irrefl Nat.zero_lt_one Nat.lt_add_one flat clL cl Bool.or_true okc_sc okc_em okc_sl okc_ob okc_bx okc_fp okc_fn okc_agg okc_ifc cells_agg cells_sc cells_sl cells_em cells_ob cells_fn cells_bx cells_fp List.length_cons List.length_nil Nat.zero_add and_self true_and and_true new_m new_c put_m put_c nil_m nil_c nil_mm new_mm put_mm newM_m newM_c newM_mm putM_m putM_c putM_mm mkeyV_1 mkeyV_2 mapAt_eq deref List.getElem?_cons_zero List.getElem?_cons_succ List.drop_zero List.drop_succ_cons List.take_succ_cons List.take_zero Nat.le_refl false_and and_false decide_true decide_false lenP_em lenP_nil lenP_sl lenP_ob Int.ofNat_zero splice fillP fillE List.modify_zero_cons List.replicate_succ List.replicate_zero List.set_cons_zero List.drop_zero ba_data ba_size ba_toList ba_extract ba_append List.toList_toArray
def d303 : Def := (.code 5 [] (.seq (.rg false [⟨.some 5, .none, .box (.t 0)⟩]) (.seq (.rg false [⟨.some 7, .none, .mv (.c (.bool false))⟩]) (.seq (.seq (.rg false [⟨.some 12, .none, .fa 8 (.t 5)⟩, ⟨.some 13, .none, .ld .none (.t 12)⟩, ⟨.some 14, .none, .lenL (.t 13)⟩, ⟨.some 15, .none, .mv (.c (.int .i64 0))⟩]) (.block 0 (.loop (.seq (.rg false [⟨.some 16, .none, .bin .lss (.t 15) (.t 14)⟩]) (.seq (.cond (.t 16) .skip (.exit 0)) (.seq (.block 1 (.seq (.rg false [⟨.some 17, .none, .mv (.t 15)⟩, ⟨.some 18, .none, .ia 9 (.t 13) (.t 15)⟩, ⟨.some 19, .none, .ld (.some 9) (.t 18)⟩, ⟨.some 9, .none, .box (.c (.agg #[.string ⟨#[]⟩, .slice .none 0 0, .slice .none 0 0, .int .i64 0, .int .i64 0, .int .i64 0, .slice .none 0 0, .bool false, .slice .none 0 0]))⟩, ⟨.some 8, .none, .mv (.t 17)⟩, ⟨.none, .none, .st 9 (.t 9) (.t 19)⟩]) (.seq (.seq (.rg false [⟨.some 21, .none, .ld .none (.t 2)⟩, ⟨.some 22, .none, .fa 1 (.t 9)⟩, ⟨.some 23, .none, .ld .none (.t 22)⟩, ⟨.some 24, .none, .call 299 .pure [.t 21, .t 23]⟩, ⟨.some 20, .none, .mv (.t 24)⟩, ⟨.some 25, .none, .ext (.t 20) 0⟩, ⟨.some 26, .none, .ext (.t 20) 1⟩, ⟨.some 10, .none, .mv (.t 25)⟩, ⟨.some 11, .none, .mv (.t 26)⟩]) (.seq (.rg false [⟨.some 27, .none, .mv (.t 10)⟩, ⟨.some 28, .none, .un .not (.t 27)⟩]) (.cond (.t 28) (.exit 1) .skip))) (.seq (.rg false [⟨.some 7, .none, .mv (.c (.bool true))⟩]) (.seq (.rg true [⟨.some 29, .none, .ld .none (.t 3)⟩, ⟨.some 30, .none, .ld (.some 9) (.t 9)⟩, ⟨.some 31, .none, .mv (.t 1)⟩, ⟨.some 32, .none, .bin .add (.t 31) (.c (.string ⟨#[46]⟩))⟩, ⟨.some 33, .none, .mv (.t 8)⟩, ⟨.some 34, .none, .call 203 .strict [.t 33]⟩, ⟨.some 35, .none, .bin .add (.t 32) (.t 34)⟩, ⟨.some 36, .none, .callv (.t 29) .opn [.t 30, .t 35]⟩]) (.seq (.rg false [⟨.some 37, .none, .fa 7 (.t 9)⟩, ⟨.some 38, .none, .ld .none (.t 37)⟩, ⟨.some 39, .none, .un .not (.t 38)⟩]) (.cond (.t 39) (.exit 0) .skip))))))) (.rg false [⟨.some 40, .none, .bin .add (.t 15) (.c (.int .i64 1))⟩, ⟨.some 15, .none, .mv (.t 40)⟩]))))))) (.seq (.rg false [⟨.some 41, .none, .mv (.t 7)⟩, ⟨.some 42, .none, .un .not (.t 41)⟩]) (.cond (.t 42) (.seq (.rg false [⟨.some 43, .none, .fa 8 (.t 5)⟩, ⟨.none, .none, .st 1 (.t 43) (.c (.slice .none 0 0))⟩]) (.rg false [⟨.some 44, .none, .ld .none (.t 4)⟩, ⟨.some 45, .none, .mv (.t 1)⟩, ⟨.some 46, .none, .ld (.some 9) (.t 5)⟩, ⟨.some 47, .none, .build (.agg #[.string ⟨#[]⟩, .string ⟨#[]⟩, .slice .none 0 0, .slice .none 0 0, .int .i64 0, .int .i64 0, .int .i64 0, .slice .none 0 0, .bool false, .slice .none 0 0]) [(0, (1, .t 45)), (1, (9, .t 46))]⟩, ⟨.some 48, .none, .bsl 10 (.agg #[.string ⟨#[]⟩, .string ⟨#[]⟩, .slice .none 0 0, .slice .none 0 0, .int .i64 0, .int .i64 0, .int .i64 0, .slice .none 0 0, .bool false, .slice .none 0 0]) 1 [(0, .t 47)]⟩, ⟨.some 49, .none, .app 10 160 false (.t 44) (.t 48)⟩, ⟨.none, .none, .st 1 (.t 4) (.t 49)⟩])) .skip))))))
def d296 : Def := (.code 2 [.tmp 4, .tmp 5] (.seq (.rg false [⟨.some 2, .none, .box (.t 0)⟩, ⟨.some 3, .none, .box (.t 1)⟩, ⟨.some 4, .none, .mv (.c (.slice .none 0 0))⟩, ⟨.some 5, .none, .mv (.c (.int .i64 0))⟩]) (.seq (.seq (.rg false [⟨.some 8, .none, .ld (.some 9) (.t 2)⟩, ⟨.some 9, .none, .call 298 .pure [.t 8]⟩, ⟨.some 10, .none, .un .not (.t 9)⟩, ⟨.some 11, .none, .mv (.t 10)⟩, ⟨.some 12, .some (11, false), .ld .none (.t 3)⟩, ⟨.some 13, .some (11, false), .call 113 .pure [.t 12]⟩, ⟨.some 14, .some (11, false), .un .not (.t 13)⟩, ⟨.some 15, .none, .pick (.t 11) (.c (.bool true)) (.t 14)⟩]) (.cond (.t 15) (.seq (.rg false [⟨.some 4, .none, .mv (.c (.slice .none 0 0))⟩, ⟨.some 5, .none, .mv (.c (.int .i64 1))⟩]) .ret) .skip)) (.seq (.rg false [⟨.some 6, .none, .box (.c (.slice .none 0 0))⟩]) (.seq (.rg false [⟨.some 7, .none, .box (.c .nilFunc)⟩]) (.seq (.rg false [⟨.some 16, .none, .mkf 303 [] [.t 3, .t 7, .t 6]⟩, ⟨.none, .none, .st 1 (.t 7) (.t 16)⟩]) (.seq (.rg false [⟨.some 17, .none, .ld .none (.t 7)⟩, ⟨.some 18, .none, .ld (.some 9) (.t 2)⟩, ⟨.some 19, .none, .callv (.t 17) .opn [.t 18, .c (.string ⟨#[]⟩)]⟩]) (.seq (.rg false [⟨.some 20, .none, .ld .none (.t 6)⟩, ⟨.some 4, .none, .mv (.t 20)⟩, ⟨.some 5, .none, .mv (.c (.int .i64 0))⟩]) .ret))))))))
def lkc : List (Nat × Def) := [(303, d303), (296, d296)]
theorem findL_nil (l : List Lab) (p : ByteArray) (i : Nat) : findL l [] p i = [] := by rw [findL]
theorem findL_cons (l : List Lab) (k : Rt) (r : List Rt) (p : ByteArray) (i : Nat) : findL l (k :: r) p i = if holdsA l k.h.ms then findR l k (stepP p i) ++ (if k.h.on then findL l r p (i + 1) else []) else findL l r p (i + 1) := by rw [findL]
theorem findR_mk (l : List Lab) (h : Rh) (ks : List Rt) (p : ByteArray) : findR l (.mk h ks) p = if ks.any (fun k => holdsA l k.h.ms) then findL l ks p 0 else [(p, h)] := by rw [findR]
theorem findL_none (l : List Lab) : ∀ (ks : List Rt) (p : ByteArray) (i : Nat), ks.any (fun k => holdsA l k.h.ms) = false → findL l ks p i = []
  | [], p, i, _ => findL_nil l p i
  | k :: r, p, i, h => by
    rw [List.any_cons, Bool.or_eq_false_iff] at h
    rw [findL_cons, h.1]
    simp only [Bool.false_eq_true, if_false]
    exact findL_none l r p (i + 1) h.2
theorem cntL_take_le (ks : List Rt) (i : Nat) : cntL (ks.take i) ≤ cntL ks := by
  have := cntL_append (ks.take i) (ks.drop i)
  rw [List.take_append_drop] at this
  omega
theorem Rt.Held.hd {r : Rt} (h : r.Held) : r.h.Held := by
  obtain ⟨a, ks, h1, _, _⟩ := h
  exact h1
theorem mayR_ms {d : Nat} {r : Rt} (h : mayR d r = true) : r.h.ms.all rightM = true := by
  cases d with
  | zero => simp [mayR] at h
  | succ d =>
    have h2 : headR r.h r.ks.length = true := by
      have : mayR (d + 1) r = (headR r.h r.ks.length && r.ks.all (mayR d)) := rfl
      rw [this, Bool.and_eq_true] at h
      exact h.1
    unfold headR at h2
    simp only [Bool.and_eq_true, Bool.not_eq_true', Bool.or_eq_false_iff, Bool.not_eq_false'] at h2
    exact h2.1.1.1.1.1.2
theorem findR_len (l : List Lab) : ∀ (r : Rt) (p : ByteArray), (findR l r p).length ≤ cntR r := by
  refine Rt.induct fun h ks ih p => ?_
  rw [cntR_mk, findR]
  have : ∀ (ks : List Rt) (i : Nat), (∀ k ∈ ks, ∀ p, (findR l k p).length ≤ cntR k) → (findL l ks p i).length ≤ cntL ks := by
    intro ks
    induction ks with
    | nil => intro i _; rw [findL]; simp
    | cons k r ih2 =>
      intro i hi
      have h1 := hi k (by simp) (stepP p i)
      have h2 := ih2 (i + 1) fun x hx => hi x (by simp [hx])
      rw [findL, cntL]
      split
      · rw [List.length_append]
        split
        · omega
        · simp; omega
      · omega
  have := this ks 0 ih
  split
  · omega
  · simp
def tgV (q : ByteArray × Rh) : PV := .agg (.sc (.string q.1) :: cellsOf (rhd q.2 .em))
def tgs (l : List (ByteArray × Rh)) : List PV := l.map tgV
theorem tgs_len (l : List (ByteArray × Rh)) : (tgs l).length = l.length := by simp [tgs]
structure LeadP (l : List Lab) (xs : List (ByteArray × Rh)) (σ : St) : Prop where
  fr : Fresh σ
  l : σ.m 2000003 0 = some ⟨1, [.sl (labs l)], true, true⟩
  f : σ.m 2000007 0 = some ⟨1, [.fn 303 [] [.bx 2000003 0 1 0 0, .bx 2000007 0 1 0 0, .bx 2000006 0 1 0 0]], true, true⟩
  o : ∃ p, σ.m 2000006 0 = some ⟨1, [p], true, true⟩ ∧ Gat σ [49] 10 false p (tgs xs)
abbrev LeadK (o : Nat) : Prop := o ≠ 49 ∧ o ≠ 2000006
theorem itoa16 {i : Nat} (h : i < 16) : (itoaS (i : Int)).size ≤ 2 := by
  have : ∀ j ∈ List.range 16, (itoaS (j : Int)).size ≤ 2 := by decide +kernel
  exact this i (by simpa using h)
theorem stepP_size (p : ByteArray) {i : Nat} (h : i < 16) : (stepP p i).size ≤ p.size + 3 := by
  have := itoa16 h
  unfold stepP
  rw [ByteArray.size_append, ByteArray.size_append]
  have : (⟨#[46]⟩ : ByteArray).size = 1 := rfl
  omega
section
variable {env : Nat → Option Def} {fr : Fr} {σ σ' σ'' : St} {K : Fr → St → Prop} {Q : X → Fr → St → Prop} {p : PV} {bs : List UInt8}
theorem Gat.ok {os : List Nat} {es : Nat} {w : Bool} {p : PV} {xs : List PV} (h : Gat σ os es w p xs) : cellsOf p = [p] ∧ okc p = true := by
  rcases h with ⟨rfl, _⟩ | ⟨o, g, wr, _, rfl, _⟩
  · exact ⟨rfl, rfl⟩
  · exact ⟨rfl, rfl⟩
theorem s_some {d : Nat} {op : PO} {ops : List POp} (P : St → Prop) (hP : P σ) (h1 : ∀ σ, P σ → ∃ v σ', evO (EV env) d fr σ op = some (v, σ') ∧ Wos env ops K (fr.set d v) σ') : Wos env (⟨some d, none, op⟩ :: ops) K fr σ := by
  obtain ⟨v, σ', h2, h3⟩ := h1 σ hP
  exact s_plain h2 h3
theorem lead_new {l : List Lab} {xs : List (ByteArray × Rh)} (h : LeadP l xs σ) {d : Nat} (y : Obj) (hd : d ≠ 2000003 ∧ d ≠ 2000006 ∧ d ≠ 2000007 ∧ d ≠ 49) : LeadP l xs (σ.new d y) := by
  obtain ⟨h1, h2, h3, q, h4, h5⟩ := h
  refine ⟨h1.new _ _, ?_, ?_, q, ?_, h5.new y⟩
  · rw [new_m, if_neg (by omega)]; exact h2
  · rw [new_m, if_neg (by omega)]; exact h3
  · rw [new_m, if_neg (by omega)]; exact h4
theorem lead_put {l : List Lab} {xs : List (ByteArray × Rh)} (h : LeadP l xs σ) {d g : Nat} {x : Obj} (hx : σ.m d g = some x) (y : Option Obj) (hd : d ≠ 2000003 ∧ d ≠ 2000006 ∧ d ≠ 2000007 ∧ d ≠ 49) : LeadP l xs (σ.put d g y) := by
  obtain ⟨h1, h2, h3, q, h4, h5⟩ := h
  refine ⟨h1.put hx y, ?_, ?_, q, ?_, h5.put (by simp; omega) y⟩
  · rw [put_m, if_neg (by omega)]; exact h2
  · rw [put_m, if_neg (by omega)]; exact h3
  · rw [put_m, if_neg (by omega)]; exact h4
theorem a303 (H : Mm4 env) (A : Has lha env) (F : Has lkc env) {l : List Lab} (hr : rightL l = true) (hln : l.length ≤ 9223372036854775807) (hls : Smalls l) : ∀ (d : Nat), d < 100 → ∀ r : Rt, r.Held → mayR d r = true → ∀ (p : ByteArray) (σ : St) (xs : List (ByteArray × Rh)),
    p.size + 3 * d ≤ 1000 → xs.length + cntR r ≤ 1000000 → LeadP l xs σ →
    ∃ σ', EV env 303 [rt r, .sc (.string p), .bx 2000003 0 1 0 0, .bx 2000007 0 1 0 0, .bx 2000006 0 1 0 0] σ = some (.tu [], σ') ∧ LeadP l (xs ++ findR l r p) σ' ∧ Kp LeadK σ σ'
  | 0, _, r, _, hm, _, _, _, _, _, _ => by simp [mayR] at hm
  | d + 1, hd, r, hrh, hm, p, σ0, xs, hps, hcn, hP => by
    obtain ⟨h, ks, hh, hkl, hkh⟩ := hrh
    have hmk : headR h ks.length = true ∧ ks.all (mayR d) = true := by
      have : mayR (d + 1) (.mk h ks) = (headR h ks.length && ks.all (mayR d)) := rfl
      rw [this, Bool.and_eq_true] at hm
      exact hm
    obtain ⟨hhd, hka⟩ := hmk
    have hk16 : ks.length ≤ 16 := by
      unfold headR at hhd
      simp only [Bool.and_eq_true, Bool.not_eq_true', Bool.or_eq_false_iff, decide_eq_false_iff_not] at hhd
      omega
    have hkl' := rts_len ks
    obtain ⟨r0, σ', hE, hr0, hP', hK⟩ := EV_wp' (σ := σ0) (R := fun r0 τ => r0 = .tu [] ∧ LeadP l (xs ++ findR l (.mk h ks) p) τ ∧ Kp LeadK σ0 τ) (F (303, d303) (by simp [lkc])) (as := [rt (.mk h ks), .sc (.string p), .bx 2000003 0 1 0 0, .bx 2000007 0 1 0 0, .bx 2000006 0 1 0 0]) rfl (by
      rw [rt]
      unfold rhd
      (repeat' first
    | refine w_seq ?_ | refine w_rg ?_ | refine wo_nil ?_ | refine g_skU ?_ | refine g_skT ?_ | refine g_skF ?_
    | ((first | apply s_plain | apply s_void | apply s_guard | apply g_goT | apply g_goF); · simp only [go_sem, Nat.reduceEqDiff, Nat.reduceAdd, Nat.reduceLeDiff, hkl']; (first | done | rfl))
    | ((first | apply g_T | apply g_F | apply g_gT | apply g_gF); · intro q1_; (first | intro q2_ | have q2_ := q1_); simp only [go_sem, Nat.reduceEqDiff, Nat.reduceAdd, Nat.reduceLeDiff, hkl', q1_, q2_]; (first | done | rfl))
    | fail
    )
      refine w_cutB (fun fr σ => fr 1 = .sc (.string p) ∧ fr 4 = .bx 2000006 0 1 0 0 ∧ fr 5 = .bx 2000005 (σ0.c 2000005) 9 0 0 ∧ fr 7 = .sc (.bool (ks.any fun k => holdsA l k.h.ms)) ∧ LeadP l (xs ++ findL l ks p 0) σ ∧ Kp LeadK σ0 σ ∧
        σ.m 2000005 (σ0.c 2000005) = some ⟨9, [rhd h (.sl (rts ks))], true, true⟩) ?_ ?_
      · refine w_rangeF ks.length hkl (fun i fr σ => fr 7 = .sc (.bool ((ks.take i).any fun k => holdsA l k.h.ms)) ∧ (∃ acc, (findL l ks p 0 = acc ++ findL l (ks.drop i) p i ∧ acc.length ≤ cntL (ks.take i)) ∧ LeadP l (xs ++ acc) σ) ∧ Kp LeadK σ0 σ ∧
            σ.m 2000005 (σ0.c 2000005) = some ⟨9, [rhd h (.sl (rts ks))], true, true⟩) ⟨by decide, rfl, rfl⟩ ?_ ?_ (by simp only [go_sem, Nat.reduceEqDiff, Nat.reduceAdd, Nat.reduceLeDiff]; first | done | rfl) (by simp only [go_sem, Nat.reduceEqDiff, Nat.reduceAdd, Nat.reduceLeDiff, hkl']; first | done | rfl) ?_ ?_
        · rintro i fr1 σ1 v ⟨h7, h2⟩
          refine ⟨⟨?_, h2⟩, ⟨?_, h2⟩, ⟨?_, h2⟩⟩ <;> simp only [go_sem, Nat.reduceEqDiff, Nat.reduceAdd, Nat.reduceLeDiff, h7]
        · refine ⟨by simp only [go_sem, Nat.reduceEqDiff, Nat.reduceAdd, Nat.reduceLeDiff, List.any_nil], ⟨[], ⟨by simp, by simp⟩, by rw [List.append_nil]; exact lead_new hP _ (by decide)⟩, (Kp.refl hP.fr).new _ _, by simp only [go_sem, Nat.reduceEqDiff, Nat.reduceAdd, Nat.reduceLeDiff, rhd]⟩
        · rintro i fr1 σ1 hi ⟨h7, ⟨acc, ⟨hacc, hal⟩, hL⟩, hK, hX⟩ hti hfr
          have f0_1 := hfr 1 rfl; have f0_2 := hfr 2 rfl; have f0_3 := hfr 3 rfl; have f0_13 := hfr 13 rfl; have f0_14 := hfr 14 rfl; try (simp only [go_sem, Nat.reduceEqDiff, Nat.reduceAdd, Nat.reduceLeDiff] at f0_1); try (simp only [go_sem, Nat.reduceEqDiff, Nat.reduceAdd, Nat.reduceLeDiff] at f0_2); try (simp only [go_sem, Nat.reduceEqDiff, Nat.reduceAdd, Nat.reduceLeDiff] at f0_3); try (simp only [go_sem, Nat.reduceEqDiff, Nat.reduceAdd, Nat.reduceLeDiff] at f0_13); try (simp only [go_sem, Nat.reduceEqDiff, Nat.reduceAdd, Nat.reduceLeDiff] at f0_14)
          have hx := List.getElem?_eq_getElem hi
          have hy := rts_at hx
          rw [rt_eq] at hy
          have e1 : (0 : Int) ≤ (i : Int) ∧ (i : Int) < (ks.length : Int) := by omega
          have hkm : mayR d ks[i] = true := List.all_eq_true.1 hka _ (List.getElem_mem hi)
          have hkd := hkh _ (List.getElem_mem hi)
          have hdrop : ks.drop i = ks[i] :: ks.drop (i + 1) := List.drop_eq_getElem_cons hi
          have htake : (ks.take (i + 1)).any (fun k => holdsA l k.h.ms) = ((ks.take i).any (fun k => holdsA l k.h.ms) || holdsA l ks[i].h.ms) := by
            rw [List.take_succ_eq_append_getElem hi, List.any_append, List.any_cons, List.any_nil, Bool.or_false]
          have hany : holdsA l ks[i].h.ms = true → ks.any (fun k => holdsA l k.h.ms) = true := fun hh => List.any_eq_true.2 ⟨_, List.getElem_mem hi, hh⟩
          have hcnt0 := cntL_take hi
          have hcnt1 := cntL_take_le ks (i + 1)
          rw [cntR_mk] at hcn
          rw [hdrop, findL_cons] at hacc
          generalize ks[i] = k at hx hy hkm hkd hdrop htake hany hcnt0 hacc
          have h299 : AV env 299 [.sl (labs l), .sl (mts k.h.ms)] = some (.tu [.sc (.bool (holdsA l k.h.ms)), .sc (.int .i64 0)]) := by
            have := a299 H (ms := k.h.ms) (l := l) hkd.hd.ms hkd.hd.mss hln hls
            rw [hr, mayR_ms hkm] at this
            exact this
          have hkn := findR_len l k (stepP p i)
          have ho := hL.l
          unfold rhd at hy
          refine w_block ?_
          (repeat' first
    | refine w_seq ?_ | refine w_rg ?_ | refine wo_nil ?_ | refine g_skU ?_ | refine g_skT ?_ | refine g_skF ?_
    | ((first | apply s_plain | apply s_void | apply s_guard | apply g_goT | apply g_goF); · simp only [go_sem, Nat.reduceEqDiff, Nat.reduceAdd, Nat.reduceLeDiff, f0_1, f0_2, f0_3, f0_13, f0_14, hti, e1, hkl', Int.toNat_natCast, hy, ho, h299, List.set_cons_succ]; (first | done | rfl))
    | ((first | apply g_T | apply g_F | apply g_gT | apply g_gF); · intro q1_; (first | intro q2_ | have q2_ := q1_); simp only [go_sem, Nat.reduceEqDiff, Nat.reduceAdd, Nat.reduceLeDiff, f0_1, f0_2, f0_3, f0_13, f0_14, hti, e1, hkl', Int.toNat_natCast, hy, ho, h299, List.set_cons_succ, q1_, q2_]; (first | done | rfl))
    | fail
    )
          have hL1 : LeadP l (xs ++ acc) ((σ1.new 2000009 ⟨9, [.agg [.sc (.string ⟨#[]⟩), .em, .em, .sc (.int .i64 0), .sc (.int .i64 0), .sc (.int .i64 0), .em, .sc (.bool false), .em]], true, true⟩).put 2000009 (σ1.c 2000009) (some ⟨9, [rhd k.h (.sl (rts k.ks))], true, true⟩)) := lead_put (lead_new hL _ (by decide)) (by simp only [go_sem, Nat.reduceEqDiff, Nat.reduceAdd, Nat.reduceLeDiff]; rfl) _ (by decide)
          have hK1 : Kp LeadK σ0 ((σ1.new 2000009 ⟨9, [.agg [.sc (.string ⟨#[]⟩), .em, .em, .sc (.int .i64 0), .sc (.int .i64 0), .sc (.int .i64 0), .em, .sc (.bool false), .em]], true, true⟩).put 2000009 (σ1.c 2000009) (some ⟨9, [rhd k.h (.sl (rts k.ks))], true, true⟩)) := (hK.new _ _).put (x := ⟨9, [.agg [.sc (.string ⟨#[]⟩), .em, .em, .sc (.int .i64 0), .sc (.int .i64 0), .sc (.int .i64 0), .em, .sc (.bool false), .em]], true, true⟩) (by simp only [go_sem, Nat.reduceEqDiff, Nat.reduceAdd, Nat.reduceLeDiff]) (.inr (hK.c _)) _
          have hX1 : ((σ1.new 2000009 ⟨9, [.agg [.sc (.string ⟨#[]⟩), .em, .em, .sc (.int .i64 0), .sc (.int .i64 0), .sc (.int .i64 0), .em, .sc (.bool false), .em]], true, true⟩).put 2000009 (σ1.c 2000009) (some ⟨9, [rhd k.h (.sl (rts k.ks))], true, true⟩)).m 2000005 (σ0.c 2000005) = some ⟨9, [rhd h (.sl (rts ks))], true, true⟩ := by simp only [go_sem, Nat.reduceEqDiff, Nat.reduceAdd, Nat.reduceLeDiff, hX]
          have hB1 : ((σ1.new 2000009 ⟨9, [.agg [.sc (.string ⟨#[]⟩), .em, .em, .sc (.int .i64 0), .sc (.int .i64 0), .sc (.int .i64 0), .em, .sc (.bool false), .em]], true, true⟩).put 2000009 (σ1.c 2000009) (some ⟨9, [rhd k.h (.sl (rts k.ks))], true, true⟩)).m 2000009 (σ1.c 2000009) = some ⟨9, [rhd k.h (.sl (rts k.ks))], true, true⟩ := by simp only [go_sem, Nat.reduceEqDiff, Nat.reduceAdd, Nat.reduceLeDiff]
          unfold rhd at hL1 hK1 hX1 hB1
          generalize ((σ1.new 2000009 ⟨9, [.agg [.sc (.string ⟨#[]⟩), .em, .em, .sc (.int .i64 0), .sc (.int .i64 0), .sc (.int .i64 0), .em, .sc (.bool false), .em]], true, true⟩).put 2000009 (σ1.c 2000009) _) = σ2 at hL1 hK1 hX1 hB1 ⊢
          refine w_condB (by simp only [go_sem, Nat.reduceEqDiff, Nat.reduceAdd, Nat.reduceLeDiff]; first | done | rfl) (fun hc => ?_) (fun hc => ?_)
          · have hb : holdsA l k.h.ms = false := by simpa using hc
            rw [hb] at htake hacc
            simp only [Bool.false_eq_true, if_false, Bool.or_false] at hacc htake
            (repeat' first
    | refine w_seq ?_ | refine w_rg ?_ | refine wo_nil ?_ | refine g_skU ?_ | refine g_skT ?_ | refine g_skF ?_
    | ((first | apply s_plain | apply s_void | apply s_guard | apply g_goT | apply g_goF); · simp only [go_sem, Nat.reduceEqDiff, Nat.reduceAdd, Nat.reduceLeDiff]; (first | done | rfl))
    | ((first | apply g_T | apply g_F | apply g_gT | apply g_gF); · intro q1_; (first | intro q2_ | have q2_ := q1_); simp only [go_sem, Nat.reduceEqDiff, Nat.reduceAdd, Nat.reduceLeDiff, q1_, q2_]; (first | done | rfl))
    | (apply w_condX; · simp only [go_sem, Nat.reduceEqDiff, Nat.reduceAdd, Nat.reduceLeDiff]; (first | done | rfl)); (first | refine wcd_T ?_ | refine wcd_F ?_)
    | refine w_skip ?_ | refine w_exit ?_ | refine w_ret ?_
    | fail
    )
            try simp only [if_true]
            refine ⟨?_, ⟨acc, ⟨hacc, by omega⟩, hL1⟩, hK1, hX1⟩
            simp only [go_sem, Nat.reduceEqDiff, Nat.reduceAdd, Nat.reduceLeDiff, h7, htake]
          · have hb : holdsA l k.h.ms = true := by simpa using hc
            rw [hb] at htake hacc
            simp only [if_true, Bool.or_true] at hacc htake
            have hi16 : i < 16 := by omega
            have hsz := stepP_size p hi16
            have h203 := a203 A (n := (i : Int)) (by omega) (by omega)
            have hit := itoa16 hi16
            obtain ⟨τ, hτ, hLτ, hKτ⟩ := a303 H A F hr hln hls d (by omega) k hkd hkm (stepP p i) σ2 (xs ++ acc) (by omega) (by rw [List.length_append]; omega) hL1
            rw [rt_eq] at hτ
            unfold rhd stepP at hτ
            have hs1 : p.size + 1 ≤ 9223372036854775807 := by omega
            have hs2 : (p ++ (⟨#[46]⟩ : ByteArray)).size + (itoaS (i : Int)).size ≤ 9223372036854775807 := by
              rw [ByteArray.size_append]
              have : (⟨#[46]⟩ : ByteArray).size = 1 := rfl
              omega
            have hf2 := hL1.f
            have hgc : σ1.c 2000009 < σ2.c 2000009 := hL1.fr 2000009 _ (by rw [hB1]; rfl)
            have hg5 : σ0.c 2000005 < σ2.c 2000005 := hL1.fr 2000005 _ (by rw [hX1]; rfl)
            have hBτ := hKτ.m 2000009 (σ1.c 2000009) (by decide) hgc
            rw [hB1] at hBτ
            have hXτ := hKτ.m 2000005 (σ0.c 2000005) (by decide) hg5
            rw [hX1] at hXτ
            (repeat' first
    | refine w_seq ?_ | refine w_rg ?_ | refine wo_nil ?_ | refine g_skU ?_ | refine g_skT ?_ | refine g_skF ?_
    | ((first | apply s_plain | apply s_void | apply s_guard | apply g_goT | apply g_goF); · simp only [go_sem, Nat.reduceEqDiff, Nat.reduceAdd, Nat.reduceLeDiff, f0_1, f0_2, f0_3, f0_13, f0_14, hB1, hf2, h203, hs1, hs2, hτ, hBτ]; (first | done | rfl))
    | ((first | apply g_T | apply g_F | apply g_gT | apply g_gF); · intro q1_; (first | intro q2_ | have q2_ := q1_); simp only [go_sem, Nat.reduceEqDiff, Nat.reduceAdd, Nat.reduceLeDiff, f0_1, f0_2, f0_3, f0_13, f0_14, hB1, hf2, h203, hs1, hs2, hτ, hBτ, q1_, q2_]; (first | done | rfl))
    | (apply w_condX; · simp only [go_sem, Nat.reduceEqDiff, Nat.reduceAdd, Nat.reduceLeDiff, f0_1, f0_2, f0_3, f0_13, f0_14, hB1, hf2, h203, hs1, hs2, hτ, hBτ]; (first | done | rfl)); (first | refine wcd_T ?_ | refine wcd_F ?_)
    | refine w_skip ?_ | refine w_exit ?_ | refine w_ret ?_
    | fail
    )
            cases hon : k.h.on with
            | true =>
              rw [hon] at hacc
              simp only [if_true] at hacc
              (repeat' first
    | refine w_seq ?_ | refine w_rg ?_ | refine wo_nil ?_ | refine g_skU ?_ | refine g_skT ?_ | refine g_skF ?_
    | ((first | apply s_plain | apply s_void | apply s_guard | apply g_goT | apply g_goF); · simp only [go_sem, Nat.reduceEqDiff, Nat.reduceAdd, Nat.reduceLeDiff, hon]; (first | done | rfl))
    | ((first | apply g_T | apply g_F | apply g_gT | apply g_gF); · intro q1_; (first | intro q2_ | have q2_ := q1_); simp only [go_sem, Nat.reduceEqDiff, Nat.reduceAdd, Nat.reduceLeDiff, hon, q1_, q2_]; (first | done | rfl))
    | (apply w_condX; · simp only [go_sem, Nat.reduceEqDiff, Nat.reduceAdd, Nat.reduceLeDiff, hon]; (first | done | rfl)); (first | refine wcd_T ?_ | refine wcd_F ?_)
    | refine w_skip ?_ | refine w_exit ?_ | refine w_ret ?_
    | fail
    )
              try simp only [if_true]
              refine ⟨?_, ⟨acc ++ findR l k (stepP p i), ⟨by rw [hacc, List.append_assoc], by rw [List.length_append]; omega⟩, by rw [← List.append_assoc]; exact hLτ⟩, hK1.trans hKτ, hXτ⟩
              simp only [go_sem, Nat.reduceEqDiff, Nat.reduceAdd, Nat.reduceLeDiff, htake]
            | false =>
              rw [hon] at hacc
              simp only [Bool.false_eq_true, if_false, List.append_nil] at hacc
              (repeat' first
    | refine w_seq ?_ | refine w_rg ?_ | refine wo_nil ?_ | refine g_skU ?_ | refine g_skT ?_ | refine g_skF ?_
    | ((first | apply s_plain | apply s_void | apply s_guard | apply g_goT | apply g_goF); · simp only [go_sem, Nat.reduceEqDiff, Nat.reduceAdd, Nat.reduceLeDiff, hon]; (first | done | rfl))
    | ((first | apply g_T | apply g_F | apply g_gT | apply g_gF); · intro q1_; (first | intro q2_ | have q2_ := q1_); simp only [go_sem, Nat.reduceEqDiff, Nat.reduceAdd, Nat.reduceLeDiff, hon, q1_, q2_]; (first | done | rfl))
    | (apply w_condX; · simp only [go_sem, Nat.reduceEqDiff, Nat.reduceAdd, Nat.reduceLeDiff, hon]; (first | done | rfl)); (first | refine wcd_T ?_ | refine wcd_F ?_)
    | refine w_skip ?_ | refine w_exit ?_ | refine w_ret ?_
    | fail
    )
              try simp only [if_true]
              refine ⟨by simp only [go_sem, Nat.reduceEqDiff, Nat.reduceAdd, Nat.reduceLeDiff, f0_1, f0_2, f0_3, f0_13, f0_14], by simp only [go_sem, Nat.reduceEqDiff, Nat.reduceAdd, Nat.reduceLeDiff]; exact (hfr 4 rfl).trans (by simp only [go_sem, Nat.reduceEqDiff, Nat.reduceAdd, Nat.reduceLeDiff]), by simp only [go_sem, Nat.reduceEqDiff, Nat.reduceAdd, Nat.reduceLeDiff]; exact (hfr 5 rfl).trans (by simp only [go_sem, Nat.reduceEqDiff, Nat.reduceAdd, Nat.reduceLeDiff]), by simp only [go_sem, Nat.reduceEqDiff, Nat.reduceAdd, Nat.reduceLeDiff, hany hb], by rw [hacc, ← List.append_assoc]; exact hLτ, hK1.trans hKτ, hXτ⟩
        · rintro fr1 σ1 ⟨h7, ⟨acc, ⟨hacc, hal⟩, hL⟩, hK, hX⟩ hfr
          have e0_1 := hfr 1 rfl; have e0_4 := hfr 4 rfl; have e0_5 := hfr 5 rfl; try (simp only [go_sem, Nat.reduceEqDiff, Nat.reduceAdd, Nat.reduceLeDiff] at e0_1); try (simp only [go_sem, Nat.reduceEqDiff, Nat.reduceAdd, Nat.reduceLeDiff] at e0_4); try (simp only [go_sem, Nat.reduceEqDiff, Nat.reduceAdd, Nat.reduceLeDiff] at e0_5)
          try simp only [if_true]
          rw [List.drop_length, findL_nil, List.append_nil] at hacc
          rw [List.take_length] at h7
          rw [← hacc] at hL
          exact ⟨by simp only [e0_1, e0_4, e0_5], by simp only [e0_1, e0_4, e0_5], by simp only [e0_1, e0_4, e0_5], h7, hL, hK, hX⟩
      · rintro fr1 σ1 ⟨g1, g4, g5, g7, hL, hK, hX⟩
        try simp only [if_true]
        obtain ⟨q, ho, hg⟩ := hL.o
        unfold rhd at hX
        cases ha : ks.any (fun k => holdsA l k.h.ms) with
        | true =>
          rw [ha] at g7
          have hfR : findR l (.mk h ks) p = findL l ks p 0 := by rw [findR_mk, if_pos ha]
          rw [hfR]
          (repeat' first
    | refine w_seq ?_ | refine w_rg ?_ | refine wo_nil ?_ | refine g_skU ?_ | refine g_skT ?_ | refine g_skF ?_
    | ((first | apply s_plain | apply s_void | apply s_guard | apply g_goT | apply g_goF); · simp only [go_sem, Nat.reduceEqDiff, Nat.reduceAdd, Nat.reduceLeDiff, g7]; (first | done | rfl))
    | ((first | apply g_T | apply g_F | apply g_gT | apply g_gF); · intro q1_; (first | intro q2_ | have q2_ := q1_); simp only [go_sem, Nat.reduceEqDiff, Nat.reduceAdd, Nat.reduceLeDiff, g7, q1_, q2_]; (first | done | rfl))
    | (apply w_condX; · simp only [go_sem, Nat.reduceEqDiff, Nat.reduceAdd, Nat.reduceLeDiff, g7]; (first | done | rfl)); (first | refine wcd_T ?_ | refine wcd_F ?_)
    | refine w_skip ?_ | refine w_exit ?_ | refine w_ret ?_
    | fail
    )
          exact ⟨.inl rfl, .tu [], rfl, rfl, hL, hK⟩
        | false =>
          rw [ha] at g7
          have hfR : findR l (.mk h ks) p = [(p, h)] := by rw [findR_mk, ha]; rfl
          have hfL : findL l ks p 0 = [] := findL_none l ks p 0 ha
          rw [hfL, List.append_nil] at hL hg
          rw [hfR]
          (repeat' first
    | refine w_seq ?_ | refine w_rg ?_ | refine wo_nil ?_ | refine g_skU ?_ | refine g_skT ?_ | refine g_skF ?_
    | ((first | apply s_plain | apply s_void | apply s_guard | apply g_goT | apply g_goF); · simp only [go_sem, Nat.reduceEqDiff, Nat.reduceAdd, Nat.reduceLeDiff, g7, g5, g4, g1, hX, ho, List.set_cons_succ]; (first | done | rfl))
    | ((first | apply g_T | apply g_F | apply g_gT | apply g_gF); · intro q1_; (first | intro q2_ | have q2_ := q1_); simp only [go_sem, Nat.reduceEqDiff, Nat.reduceAdd, Nat.reduceLeDiff, g7, g5, g4, g1, hX, ho, List.set_cons_succ, q1_, q2_]; (first | done | rfl))
    | (apply w_condX; · simp only [go_sem, Nat.reduceEqDiff, Nat.reduceAdd, Nat.reduceLeDiff, g7, g5, g4, g1, hX, ho, List.set_cons_succ]; (first | done | rfl)); (first | refine wcd_T ?_ | refine wcd_F ?_)
    | refine w_skip ?_ | refine w_exit ?_ | refine w_ret ?_
    | fail
    )
          have hL2 := lead_put hL hX (some ⟨9, [.agg [.sc (.string h.recv), .sl (mts h.ms), .sl (strs h.bys), .sc (.int .i64 h.wait), .sc (.int .i64 h.every), .sc (.int .i64 h.rep), .sl (strs h.mute), .sc (.bool h.on), .em]], true, true⟩) (by decide)
          have hK2 := hK.put hX (.inr (Nat.le_refl _)) (some ⟨9, [.agg [.sc (.string h.recv), .sl (mts h.ms), .sl (strs h.bys), .sc (.int .i64 h.wait), .sc (.int .i64 h.every), .sc (.int .i64 h.rep), .sl (strs h.mute), .sc (.bool h.on), .em]], true, true⟩)
          have hX2 : (σ1.put 2000005 (σ0.c 2000005) (some ⟨9, [.agg [.sc (.string h.recv), .sl (mts h.ms), .sl (strs h.bys), .sc (.int .i64 h.wait), .sc (.int .i64 h.every), .sc (.int .i64 h.rep), .sl (strs h.mute), .sc (.bool h.on), .em]], true, true⟩)).m 2000005 (σ0.c 2000005) = some ⟨9, [.agg [.sc (.string h.recv), .sl (mts h.ms), .sl (strs h.bys), .sc (.int .i64 h.wait), .sc (.int .i64 h.every), .sc (.int .i64 h.rep), .sl (strs h.mute), .sc (.bool h.on), .em]], true, true⟩ := by simp only [go_sem, Nat.reduceEqDiff, Nat.reduceAdd, Nat.reduceLeDiff]
          clear ho hg
          generalize σ1.put 2000005 (σ0.c 2000005) _ = σ2 at hL2 hK2 hX2 ⊢
          obtain ⟨q, ho, hg⟩ := hL2.o
          obtain ⟨cq, okq⟩ := hg.ok
          (repeat' first
    | refine w_seq ?_ | refine w_rg ?_ | refine wo_nil ?_ | refine g_skU ?_ | refine g_skT ?_ | refine g_skF ?_
    | ((first | apply s_plain | apply s_void | apply s_guard | apply g_goT | apply g_goF); · simp only [go_sem, Nat.reduceEqDiff, Nat.reduceAdd, Nat.reduceLeDiff, g5, g4, g1, hX2, ho, cq, List.set_cons_succ]; (first | done | rfl))
    | ((first | apply g_T | apply g_F | apply g_gT | apply g_gF); · intro q1_; (first | intro q2_ | have q2_ := q1_); simp only [go_sem, Nat.reduceEqDiff, Nat.reduceAdd, Nat.reduceLeDiff, g5, g4, g1, hX2, ho, cq, List.set_cons_succ, q1_, q2_]; (first | done | rfl))
    | fail
    )
          refine s_gat2 (d := 49) (t := 44) (x := .t 48) (xs := tgs xs) (e := tgV (p, h)) (by simp only [go_sem, Nat.reduceEqDiff, Nat.reduceAdd, Nat.reduceLeDiff]; exact hg.new _) (hL2.fr.new _ _) (by simp only [go_sem, Nat.reduceEqDiff, Nat.reduceAdd, Nat.reduceLeDiff, srcOf, elemsOf, List.set_cons_succ, tgV, rhd]) rfl rfl (by rw [tgs_len]; rw [cntR_mk] at hcn; omega) ?_
          intro p2 σ3 hg2 hF2 _ hm2 hc2 hd2
          have n6 : σ3.m 2000006 0 = some ⟨1, [q], true, true⟩ := by rw [hm2 _ _ (by decide)]; simp only [go_sem, Nat.reduceEqDiff, Nat.reduceAdd, Nat.reduceLeDiff, ho]
          obtain ⟨cq2, okq2⟩ := hg2.ok
          (repeat' first
    | refine w_seq ?_ | refine w_rg ?_ | refine wo_nil ?_ | refine g_skU ?_ | refine g_skT ?_ | refine g_skF ?_
    | ((first | apply s_plain | apply s_void | apply s_guard | apply g_goT | apply g_goF); · simp only [go_sem, Nat.reduceEqDiff, Nat.reduceAdd, Nat.reduceLeDiff, g4, n6, cq2, okq2, List.set_cons_succ]; (first | done | rfl))
    | ((first | apply g_T | apply g_F | apply g_gT | apply g_gF); · intro q1_; (first | intro q2_ | have q2_ := q1_); simp only [go_sem, Nat.reduceEqDiff, Nat.reduceAdd, Nat.reduceLeDiff, g4, n6, cq2, okq2, List.set_cons_succ, q1_, q2_]; (first | done | rfl))
    | fail
    )
          refine ⟨.inl rfl, .tu [], rfl, rfl, ⟨hF2.put n6 _, ?_, ?_, p2, by simp only [go_sem, Nat.reduceEqDiff, Nat.reduceAdd, Nat.reduceLeDiff], ?_⟩, ?_⟩
          · rw [put_m, if_neg (by decide), hm2 _ _ (by decide), new_m, if_neg (by omega)]; exact hL2.l
          · rw [put_m, if_neg (by decide), hm2 _ _ (by decide), new_m, if_neg (by omega)]; exact hL2.f
          · have : tgs (xs ++ [(p, h)]) = tgs xs ++ [tgV (p, h)] := by simp [tgs]
            rw [this]
            exact hg2.put (by decide) _
          · exact (((hK2.new 48 _).app (d := 49) hF2 hm2 hc2 (by decide) hd2).put n6 (.inl (by decide)) _))
    exact ⟨σ', by rw [hE, hr0], hP', hK⟩
def tgF (q : ByteArray × Rh) : PV := .agg (.sc (.string q.1) :: cellsOf (rhd q.2 (.sl [])))
def tgFs (l : List (ByteArray × Rh)) : List PV := l.map tgF
theorem tgFs_len (l : List (ByteArray × Rh)) : (tgFs l).length = l.length := by simp [tgFs]
theorem tgFs_at {l : List (ByteArray × Rh)} {i : Nat} {q : ByteArray × Rh} (h : l[i]? = some q) : (tgFs l)[i]? = some (tgF q) := by simp [tgFs, h]
theorem tgs_fz (σ : St) (d : Nat) (l : List (ByteArray × Rh)) : (tgs l).mapM (fz σ (d + 2)) = some (tgFs l) := by
  induction l with
  | nil => rfl
  | cons m r ih =>
    show List.mapM (fz σ (d + 2)) (tgV m :: tgs r) = _
    rw [mapM_cons', ih]
    rfl
theorem gat_fz2 {os : List Nat} {es d : Nat} {w : Bool} {p : PV} {xs ys : List PV} (h : Gat σ os es w p xs) (hx : xs.mapM (fz σ d) = some ys) : fz σ (d + 1) p = some (.sl ys) := by
  rcases h with ⟨rfl, rfl⟩ | ⟨o, g, wr, _, rfl, h2, _⟩
  · rw [mapM_nil'] at hx
    simp only [Option.some.injEq] at hx
    subst hx
    rfl
  · rw [fz_ob, h2]
    simp only
    rw [if_pos ⟨trivial, by omega⟩, List.drop_zero, List.take_length, hx]
    rfl
theorem a296 (H : Mm4 env) (B : Has lkb env) (A : Has lha env) (F : Has lkc env) {r : Rt} {l : List Lab} (hrh : r.Held) (hc : cntR r ≤ 1000000) (hln : l.length ≤ 9223372036854775807) (hls : Smalls l) :
    AV env 296 [rt r, .sl (labs l)] = some (if mayR 4 r && rightL l then .tu [.sl (tgFs (findR l r ⟨#[]⟩)), .sc (.int .i64 0)] else .tu [.sl [], .sc (.int .i64 1)]) := by
  have h298 := a298 H B hrh
  have h113 := a113 H.l H.c hln hls
  refine AV_wp (F (296, d296) (by simp [lkc])) rfl ?_
  rw [rt_eq] at h298
  rw [rt_eq r]
  unfold rhd at h298 ⊢
  cases hm : mayR 4 r with
  | false =>
    rw [hm] at h298
    (repeat' first
    | refine w_seq ?_ | refine w_rg ?_ | refine wo_nil ?_ | refine g_skU ?_ | refine g_skT ?_ | refine g_skF ?_
    | ((first | apply s_plain | apply s_void | apply s_guard | apply g_goT | apply g_goF); · simp only [go_sem, Nat.reduceEqDiff, Nat.reduceAdd, Nat.reduceLeDiff, h298]; (first | done | rfl))
    | ((first | apply g_T | apply g_F | apply g_gT | apply g_gF); · intro q1_; (first | intro q2_ | have q2_ := q1_); simp only [go_sem, Nat.reduceEqDiff, Nat.reduceAdd, Nat.reduceLeDiff, h298, q1_, q2_]; (first | done | rfl))
    | (apply w_condX; · simp only [go_sem, Nat.reduceEqDiff, Nat.reduceAdd, Nat.reduceLeDiff, h298]; (first | done | rfl)); (first | refine wcd_T ?_ | refine wcd_F ?_)
    | refine w_skip ?_ | refine w_exit ?_ | refine w_ret ?_
    | fail
    )
    exact ⟨by first | exact .inr rfl | exact .inr trivial | exact .inl rfl, by simp only [go_sem, Nat.reduceEqDiff, Nat.reduceAdd, Nat.reduceLeDiff, retOf, resOf, Bool.false_and]; first | done | rfl⟩
  | true =>
    rw [hm] at h298
    cases hr : rightL l with
    | false =>
      rw [hr] at h113
      (repeat' first
    | refine w_seq ?_ | refine w_rg ?_ | refine wo_nil ?_ | refine g_skU ?_ | refine g_skT ?_ | refine g_skF ?_
    | ((first | apply s_plain | apply s_void | apply s_guard | apply g_goT | apply g_goF); · simp only [go_sem, Nat.reduceEqDiff, Nat.reduceAdd, Nat.reduceLeDiff, h298, h113]; (first | done | rfl))
    | ((first | apply g_T | apply g_F | apply g_gT | apply g_gF); · intro q1_; (first | intro q2_ | have q2_ := q1_); simp only [go_sem, Nat.reduceEqDiff, Nat.reduceAdd, Nat.reduceLeDiff, h298, h113, q1_, q2_]; (first | done | rfl))
    | (apply w_condX; · simp only [go_sem, Nat.reduceEqDiff, Nat.reduceAdd, Nat.reduceLeDiff, h298, h113]; (first | done | rfl)); (first | refine wcd_T ?_ | refine wcd_F ?_)
    | refine w_skip ?_ | refine w_exit ?_ | refine w_ret ?_
    | fail
    )
      exact ⟨by first | exact .inr rfl | exact .inr trivial | exact .inl rfl, by simp only [go_sem, Nat.reduceEqDiff, Nat.reduceAdd, Nat.reduceLeDiff, retOf, resOf, Bool.and_false]; first | done | rfl⟩
    | true =>
      rw [hr] at h113
      (repeat' first
    | refine w_seq ?_ | refine w_rg ?_ | refine wo_nil ?_ | refine g_skU ?_ | refine g_skT ?_ | refine g_skF ?_
    | ((first | apply s_plain | apply s_void | apply s_guard | apply g_goT | apply g_goF); · simp only [go_sem, Nat.reduceEqDiff, Nat.reduceAdd, Nat.reduceLeDiff, h298, h113, List.set_cons_succ]; (first | done | rfl))
    | ((first | apply g_T | apply g_F | apply g_gT | apply g_gF); · intro q1_; (first | intro q2_ | have q2_ := q1_); simp only [go_sem, Nat.reduceEqDiff, Nat.reduceAdd, Nat.reduceLeDiff, h298, h113, List.set_cons_succ, q1_, q2_]; (first | done | rfl))
    | (apply w_condX; · simp only [go_sem, Nat.reduceEqDiff, Nat.reduceAdd, Nat.reduceLeDiff, h298, h113, List.set_cons_succ]; (first | done | rfl)); (first | refine wcd_T ?_ | refine wcd_F ?_)
    | refine w_skip ?_ | refine w_exit ?_ | refine w_ret ?_
    | fail
    )
      refine s_some (LeadP l []) ⟨?_, by simp only [go_sem, Nat.reduceEqDiff, Nat.reduceAdd, Nat.reduceLeDiff, List.set_cons_succ], by simp only [go_sem, Nat.reduceEqDiff, Nat.reduceAdd, Nat.reduceLeDiff, List.set_cons_succ], .em, by simp only [go_sem, Nat.reduceEqDiff, Nat.reduceAdd, Nat.reduceLeDiff, List.set_cons_succ], .em⟩ ?_
      · exact Fresh.put (((((Fresh.nil.new _ _).new _ _).new _ _).new _ _)) (x := ⟨1, [.sc .nilFunc], true, true⟩) (by simp only [go_sem, Nat.reduceEqDiff, Nat.reduceAdd, Nat.reduceLeDiff]) _
      intro σ1 hL
      obtain ⟨τ, hτ, hLτ, hKτ⟩ := a303 H A F hr hln hls 4 (by omega) r hrh hm ⟨#[]⟩ σ1 [] (by show (0 : Nat) + 12 ≤ 1000; omega) (by simpa using hc) hL
      rw [rt_eq] at hτ
      unfold rhd at hτ
      refine ⟨.tu [], τ, by simp only [go_sem, Nat.reduceEqDiff, Nat.reduceAdd, Nat.reduceLeDiff, hτ], ?_⟩
      obtain ⟨q, ho, hg⟩ := hLτ.o
      obtain ⟨cq, okq⟩ := hg.ok
      rw [List.nil_append] at hg
      have hz := gat_fz2 hg (tgs_fz τ 8 _)
      (repeat' first
    | refine w_seq ?_ | refine w_rg ?_ | refine wo_nil ?_ | refine g_skU ?_ | refine g_skT ?_ | refine g_skF ?_
    | ((first | apply s_plain | apply s_void | apply s_guard | apply g_goT | apply g_goF); · simp only [go_sem, Nat.reduceEqDiff, Nat.reduceAdd, Nat.reduceLeDiff, ho, cq]; (first | done | rfl))
    | ((first | apply g_T | apply g_F | apply g_gT | apply g_gF); · intro q1_; (first | intro q2_ | have q2_ := q1_); simp only [go_sem, Nat.reduceEqDiff, Nat.reduceAdd, Nat.reduceLeDiff, ho, cq, q1_, q2_]; (first | done | rfl))
    | (apply w_condX; · simp only [go_sem, Nat.reduceEqDiff, Nat.reduceAdd, Nat.reduceLeDiff, ho, cq]; (first | done | rfl)); (first | refine wcd_T ?_ | refine wcd_F ?_)
    | refine w_skip ?_ | refine w_exit ?_ | refine w_ret ?_
    | fail
    )
      exact ⟨by first | exact .inr rfl | exact .inr trivial | exact .inl rfl, by simp only [go_sem, Nat.reduceEqDiff, Nat.reduceAdd, Nat.reduceLeDiff, retOf, resOf, hz]; first | done | rfl⟩
end

end
section
attribute [local go_sem ↓] e_mv e_pick e_bin e_eqs e_beq e_un e_cvi e_str e_s2b e_b2s e_box e_build e_bsl e_ld e_st e_nck e_mkf e_slcS e_slcL e_fa e_fld e_ia e_iaa e_ix e_ixa e_ext e_lenS e_lenL e_mnmx e_app e_appb e_bbx e_msl e_clr e_call e_callv e_icall e_slcA e_mkm e_mput e_mget e_mlen e_mdel pa_t pa_c pa_f slcSP_str hiOf_some hiOf_none loOf_some loOf_none set_eq set_ne
attribute [local go_sem] pv pv1 simple frOf_0 frOf_1 frOf_2 frOf_3 frOf_4 frOf_5 ne_eq not_false_eq_true if_true Bool.false_eq_true if_false pbin punary Option.map_some Option.bind_some pick_and pick_or opt_true Bool.true_and Bool.and_self Bool.and_true Bool.true_or Bool.false_or Bool.not_true Bool.not_false callE pcall_eq List.map_cons List.map_nil List.append_nil List.nil_append List.cons_append mapM_cons' mapM_nil' dep_eq fz_sc fz_sl fz_em fz_fn fz_fp fz_agg fz_tu fz_bx fz_ob Nat.lt_irrefl Nat.zero_lt_one Nat.lt_add_one flat clL cl Bool.or_true okc_sc okc_em okc_sl okc_ob okc_bx okc_fp okc_fn okc_agg okc_ifc cells_agg cells_sc cells_sl cells_em cells_ob cells_fn cells_bx cells_fp List.length_cons List.length_nil Nat.zero_add and_self true_and and_true new_m new_c put_m put_c nil_m nil_c nil_mm new_mm put_mm newM_m newM_c newM_mm putM_m putM_c putM_mm mkeyV_1 mkeyV_2 mapAt_eq deref List.getElem?_cons_zero List.getElem?_cons_succ List.drop_zero List.drop_succ_cons List.take_succ_cons List.take_zero Nat.le_refl false_and and_false decide_true decide_false lenP_em lenP_nil lenP_sl lenP_ob Int.ofNat_zero
section
variable {env : Nat → Option Def} {fr : Fr} {σ : St} {K : Fr → St → Prop} {Q : X → Fr → St → Prop}
structure At102 (r : Rule) (v : Int) (i : Int) (h : Int) (a b : List PV) (fr : Fr) (σ : St) : Prop where
  f1 : fr 1 = .sc (.int .i64 v)
  f2 : fr 2 = .bx 2000002 0 8 0 0
  f5 : fr 5 = .bx 2000005 0 6 0 0
  f6 : fr 6 = .bx 2000006 0 6 0 0
  f7 : fr 7 = .sc (.int .i64 i)
  m2 : σ.m 2000002 0 = some ⟨8, [rule { r with how := h }], true, true⟩
  m5 : σ.m 2000005 0 = some ⟨6, [.agg a], true, true⟩
  m6 : σ.m 2000006 0 = some ⟨6, [.agg b], true, true⟩
end

end
section
attribute [local go_sem ↓] e_mv e_pick e_bin e_eqs e_beq e_un e_cvi e_str e_s2b e_b2s e_box e_build e_bsl e_ld e_st e_nck e_mkf e_slcS e_slcL e_fa e_fld e_ia e_iaa e_ix e_ixa e_ext e_lenS e_lenL e_mnmx e_app e_appb e_bbx e_msl e_clr e_call e_callv e_icall e_slcA e_mkm e_mput e_mget e_mlen e_mdel pa_t pa_c pa_f slcSP_str hiOf_some hiOf_none loOf_some loOf_none set_eq set_ne
attribute [local go_sem] pv pv1 simple frOf_0 frOf_1 frOf_2 frOf_3 frOf_4 frOf_5 ne_eq not_false_eq_true if_true Bool.false_eq_true if_false pbin punary Option.map_some Option.bind_some pick_and pick_or opt_true Bool.true_and Bool.and_self Bool.and_true Bool.true_or Bool.false_or Bool.not_true Bool.not_false callE pcall_eq List.map_cons List.map_nil List.append_nil List.nil_append List.cons_append mapM_cons' mapM_nil' dep_eq fz_sc fz_sl fz_em fz_fn fz_fp fz_agg fz_tu fz_bx fz_ob Nat.lt_irrefl Nat.zero_lt_one Nat.lt_add_one flat clL cl Bool.or_true okc_sc okc_em okc_sl okc_ob okc_bx okc_fp okc_fn okc_agg okc_ifc cells_agg cells_sc cells_sl cells_em cells_ob cells_fn cells_bx cells_fp List.length_cons List.length_nil Nat.zero_add and_self true_and and_true new_m new_c put_m put_c nil_m nil_c nil_mm new_mm put_mm newM_m newM_c newM_mm putM_m putM_c putM_mm mkeyV_1 mkeyV_2 mapAt_eq deref List.getElem?_cons_zero List.getElem?_cons_succ List.drop_zero List.drop_succ_cons List.take_succ_cons List.take_zero Nat.le_refl false_and and_false decide_true decide_false lenP_em lenP_nil lenP_sl lenP_ob Int.ofNat_zero splice fillP fillE List.modify_zero_cons List.replicate_succ List.replicate_zero List.set_cons_zero List.drop_zero ba_data ba_size ba_toList ba_extract ba_append List.toList_toArray
def d293 : Def := (.code 1 [.tmp 2] (.seq (.rg false [⟨.some 2, .none, .mv (.c (.slice .none 0 0))⟩]) (.seq (.rg false [⟨.some 3, .none, .mv (.c (.slice .none 0 0))⟩]) (.seq (.seq (.rg false [⟨.some 6, .none, .mv (.t 0)⟩, ⟨.some 7, .none, .mv (.t 0)⟩, ⟨.some 8, .none, .lenL (.t 7)⟩, ⟨.some 9, .none, .mnmx false [.t 8, .c (.int .i64 10)]⟩, ⟨.some 10, .none, .slcL 2 (.t 6) .none (.some (.t 9))⟩, ⟨.some 11, .none, .lenL (.t 10)⟩, ⟨.some 12, .none, .mv (.c (.int .i64 0))⟩]) (.block 0 (.loop (.seq (.rg false [⟨.some 13, .none, .bin .lss (.t 12) (.t 11)⟩]) (.seq (.cond (.t 13) .skip (.exit 0)) (.seq (.block 1 (.seq (.rg false [⟨.some 14, .none, .ia 2 (.t 10) (.t 12)⟩, ⟨.some 15, .none, .ld (.some 2) (.t 14)⟩, ⟨.some 5, .none, .box (.c (.agg #[.string ⟨#[]⟩, .string ⟨#[]⟩]))⟩, ⟨.none, .none, .st 2 (.t 5) (.t 15)⟩]) (.rg true [⟨.some 16, .none, .mv (.t 3)⟩, ⟨.some 17, .none, .fa 0 (.t 5)⟩, ⟨.some 18, .none, .ld .none (.t 17)⟩, ⟨.some 19, .none, .fa 0 (.t 5)⟩, ⟨.some 20, .none, .ld .none (.t 19)⟩, ⟨.some 21, .none, .lenS (.t 20)⟩, ⟨.some 22, .none, .mnmx false [.t 21, .c (.int .i64 70)]⟩, ⟨.some 23, .none, .slcS (.t 18) .none (.some (.t 22))⟩, ⟨.some 24, .none, .fa 1 (.t 5)⟩, ⟨.some 25, .none, .ld .none (.t 24)⟩, ⟨.some 26, .none, .fa 1 (.t 5)⟩, ⟨.some 27, .none, .ld .none (.t 26)⟩, ⟨.some 28, .none, .lenS (.t 27)⟩, ⟨.some 29, .none, .mnmx false [.t 28, .c (.int .i64 70)]⟩, ⟨.some 30, .none, .slcS (.t 25) .none (.some (.t 29))⟩, ⟨.some 31, .none, .build (.agg #[.string ⟨#[]⟩, .string ⟨#[]⟩]) [(0, (1, .t 23)), (1, (1, .t 30))]⟩, ⟨.some 32, .none, .bsl 2 (.agg #[.string ⟨#[]⟩, .string ⟨#[]⟩]) 1 [(0, .t 31)]⟩, ⟨.some 33, .none, .app 2 32 false (.t 16) (.t 32)⟩, ⟨.some 3, .none, .mv (.t 33)⟩]))) (.rg false [⟨.some 34, .none, .bin .add (.t 12) (.c (.int .i64 1))⟩, ⟨.some 12, .none, .mv (.t 34)⟩]))))))) (.seq (.rg false [⟨.some 35, .none, .mv (.t 3)⟩, ⟨.some 2, .none, .mv (.t 35)⟩]) .ret)))))
def d294 : Def := (.code 2 [.tmp 4] (.seq (.rg false [⟨.some 2, .none, .box (.t 0)⟩, ⟨.some 4, .none, .mv (.c (.int .i64 0))⟩]) (.seq (.rg false [⟨.some 5, .none, .mv (.c (.int .i64 1))⟩]) (.seq (.seq (.rg false [⟨.some 8, .none, .fa 8 (.t 2)⟩, ⟨.some 9, .none, .ld .none (.t 8)⟩, ⟨.some 10, .none, .lenL (.t 9)⟩, ⟨.some 11, .none, .mv (.c (.int .i64 0))⟩]) (.block 0 (.loop (.seq (.rg false [⟨.some 12, .none, .bin .lss (.t 11) (.t 10)⟩]) (.seq (.cond (.t 12) .skip (.exit 0)) (.seq (.block 1 (.seq (.rg false [⟨.some 13, .none, .ia 9 (.t 9) (.t 11)⟩, ⟨.some 14, .none, .ld (.some 9) (.t 13)⟩, ⟨.some 7, .none, .box (.c (.agg #[.string ⟨#[]⟩, .slice .none 0 0, .slice .none 0 0, .int .i64 0, .int .i64 0, .int .i64 0, .slice .none 0 0, .bool false, .slice .none 0 0]))⟩, ⟨.none, .none, .st 9 (.t 7) (.t 14)⟩]) (.seq (.seq (.rg false [⟨.some 15, .none, .mv (.t 5)⟩, ⟨.some 16, .none, .mv (.t 1)⟩, ⟨.some 17, .none, .bin .gtr (.t 15) (.t 16)⟩]) (.cond (.t 17) (.exit 0) .skip)) (.rg false [⟨.some 18, .none, .mv (.t 5)⟩, ⟨.some 19, .none, .ld (.some 9) (.t 7)⟩, ⟨.some 20, .none, .mv (.t 1)⟩, ⟨.some 21, .none, .mv (.t 5)⟩, ⟨.some 22, .none, .bin .sub (.t 20) (.t 21)⟩, ⟨.some 23, .none, .call 294 .pure [.t 19, .t 22]⟩, ⟨.some 24, .none, .bin .add (.t 18) (.t 23)⟩, ⟨.some 5, .none, .mv (.t 24)⟩])))) (.rg false [⟨.some 25, .none, .bin .add (.t 11) (.c (.int .i64 1))⟩, ⟨.some 11, .none, .mv (.t 25)⟩]))))))) (.seq (.rg false [⟨.some 26, .none, .mv (.t 5)⟩, ⟨.some 4, .none, .mv (.t 26)⟩]) .ret)))))
def d297 : Def := (.code 1 [.tmp 2] (.seq (.rg false [⟨.some 1, .none, .box (.t 0)⟩, ⟨.some 2, .none, .mv (.c (.slice .none 0 0))⟩]) (.seq (.rg false [⟨.some 6, .none, .ld (.some 9) (.t 1)⟩, ⟨.some 7, .none, .bsl 9 (.agg #[.string ⟨#[]⟩, .slice .none 0 0, .slice .none 0 0, .int .i64 0, .int .i64 0, .int .i64 0, .slice .none 0 0, .bool false, .slice .none 0 0]) 1 [(0, .t 6)]⟩, ⟨.some 3, .none, .mv (.t 7)⟩]) (.seq (.seq (.rg false [⟨.some 8, .none, .fa 8 (.t 1)⟩, ⟨.some 9, .none, .ld .none (.t 8)⟩, ⟨.some 10, .none, .lenL (.t 9)⟩, ⟨.some 11, .none, .mv (.c (.int .i64 0))⟩]) (.block 0 (.loop (.seq (.rg false [⟨.some 12, .none, .bin .lss (.t 11) (.t 10)⟩]) (.seq (.cond (.t 12) .skip (.exit 0)) (.seq (.block 1 (.seq (.rg false [⟨.some 13, .none, .ia 9 (.t 9) (.t 11)⟩, ⟨.some 14, .none, .ld (.some 9) (.t 13)⟩, ⟨.some 5, .none, .box (.c (.agg #[.string ⟨#[]⟩, .slice .none 0 0, .slice .none 0 0, .int .i64 0, .int .i64 0, .int .i64 0, .slice .none 0 0, .bool false, .slice .none 0 0]))⟩, ⟨.none, .none, .st 9 (.t 5) (.t 14)⟩]) (.rg false [⟨.some 15, .none, .mv (.t 3)⟩, ⟨.some 16, .none, .ld (.some 9) (.t 5)⟩, ⟨.some 17, .none, .call 297 .pure [.t 16]⟩, ⟨.some 18, .none, .app 9 144 false (.t 15) (.t 17)⟩, ⟨.some 3, .none, .mv (.t 18)⟩]))) (.rg false [⟨.some 19, .none, .bin .add (.t 11) (.c (.int .i64 1))⟩, ⟨.some 11, .none, .mv (.t 19)⟩]))))))) (.seq (.rg false [⟨.some 20, .none, .mv (.t 3)⟩, ⟨.some 2, .none, .mv (.t 20)⟩]) .ret)))))
def d309 : Def := (.code 2 [.tmp 4] (.seq (.rg false [⟨.some 2, .none, .box (.t 0)⟩, ⟨.some 3, .none, .box (.t 1)⟩, ⟨.some 4, .none, .mv (.c (.bool false))⟩]) (.seq (.rg false [⟨.some 5, .none, .fa 0 (.t 2)⟩, ⟨.some 6, .none, .ld .none (.t 5)⟩, ⟨.some 7, .none, .fa 0 (.t 3)⟩, ⟨.some 8, .none, .ld .none (.t 7)⟩, ⟨.some 9, .none, .bin .eql (.t 6) (.t 8)⟩, ⟨.some 10, .none, .mv (.t 9)⟩, ⟨.some 11, .some (10, true), .fa 1 (.t 2)⟩, ⟨.some 12, .some (10, true), .ld .none (.t 11)⟩, ⟨.some 13, .some (10, true), .fa 1 (.t 3)⟩, ⟨.some 14, .some (10, true), .ld .none (.t 13)⟩, ⟨.some 15, .some (10, true), .bin .eql (.t 12) (.t 14)⟩, ⟨.some 16, .none, .pick (.t 10) (.t 15) (.c (.bool false))⟩, ⟨.some 17, .none, .mv (.t 16)⟩, ⟨.some 18, .some (17, true), .fa 2 (.t 2)⟩, ⟨.some 19, .some (17, true), .ld .none (.t 18)⟩, ⟨.some 20, .some (17, true), .fa 2 (.t 3)⟩, ⟨.some 21, .some (17, true), .ld .none (.t 20)⟩, ⟨.some 22, .some (17, true), .call 36 .pure [.t 19, .t 21]⟩, ⟨.some 23, .none, .pick (.t 17) (.t 22) (.c (.bool false))⟩, ⟨.some 4, .none, .mv (.t 23)⟩]) .ret)))
def d300 : Def := (.code 2 [.tmp 4] (.seq (.rg false [⟨.some 2, .none, .box (.t 0)⟩, ⟨.some 3, .none, .box (.t 1)⟩, ⟨.some 4, .none, .mv (.c (.bool false))⟩]) (.seq (.seq (.rg false [⟨.some 7, .none, .fa 0 (.t 2)⟩, ⟨.some 8, .none, .ld .none (.t 7)⟩, ⟨.some 9, .none, .fa 0 (.t 3)⟩, ⟨.some 10, .none, .ld .none (.t 9)⟩, ⟨.some 11, .none, .bin .neq (.t 8) (.t 10)⟩, ⟨.some 12, .none, .mv (.t 11)⟩, ⟨.some 13, .some (12, false), .fa 3 (.t 2)⟩, ⟨.some 14, .some (12, false), .ld .none (.t 13)⟩, ⟨.some 15, .some (12, false), .fa 3 (.t 3)⟩, ⟨.some 16, .some (12, false), .ld .none (.t 15)⟩, ⟨.some 17, .some (12, false), .bin .neq (.t 14) (.t 16)⟩, ⟨.some 18, .none, .pick (.t 12) (.c (.bool true)) (.t 17)⟩, ⟨.some 19, .none, .mv (.t 18)⟩, ⟨.some 20, .some (19, false), .fa 4 (.t 2)⟩, ⟨.some 21, .some (19, false), .ld .none (.t 20)⟩, ⟨.some 22, .some (19, false), .fa 4 (.t 3)⟩, ⟨.some 23, .some (19, false), .ld .none (.t 22)⟩, ⟨.some 24, .some (19, false), .bin .neq (.t 21) (.t 23)⟩, ⟨.some 25, .none, .pick (.t 19) (.c (.bool true)) (.t 24)⟩, ⟨.some 26, .none, .mv (.t 25)⟩, ⟨.some 27, .some (26, false), .fa 5 (.t 2)⟩, ⟨.some 28, .some (26, false), .ld .none (.t 27)⟩, ⟨.some 29, .some (26, false), .fa 5 (.t 3)⟩, ⟨.some 30, .some (26, false), .ld .none (.t 29)⟩, ⟨.some 31, .some (26, false), .bin .neq (.t 28) (.t 30)⟩, ⟨.some 32, .none, .pick (.t 26) (.c (.bool true)) (.t 31)⟩, ⟨.some 33, .none, .mv (.t 32)⟩, ⟨.some 34, .some (33, false), .fa 7 (.t 2)⟩, ⟨.some 35, .some (33, false), .ld .none (.t 34)⟩, ⟨.some 36, .some (33, false), .fa 7 (.t 3)⟩, ⟨.some 37, .some (33, false), .ld .none (.t 36)⟩, ⟨.some 38, .some (33, false), .beq true (.t 35) (.t 37)⟩, ⟨.some 39, .none, .pick (.t 33) (.c (.bool true)) (.t 38)⟩, ⟨.some 40, .none, .mv (.t 39)⟩, ⟨.some 41, .some (40, false), .fa 1 (.t 2)⟩, ⟨.some 42, .some (40, false), .ld .none (.t 41)⟩, ⟨.some 43, .some (40, false), .lenL (.t 42)⟩, ⟨.some 44, .some (40, false), .fa 1 (.t 3)⟩, ⟨.some 45, .some (40, false), .ld .none (.t 44)⟩, ⟨.some 46, .some (40, false), .lenL (.t 45)⟩, ⟨.some 47, .some (40, false), .bin .neq (.t 43) (.t 46)⟩, ⟨.some 48, .none, .pick (.t 40) (.c (.bool true)) (.t 47)⟩, ⟨.some 49, .none, .mv (.t 48)⟩, ⟨.some 50, .some (49, false), .fa 8 (.t 2)⟩, ⟨.some 51, .some (49, false), .ld .none (.t 50)⟩, ⟨.some 52, .some (49, false), .lenL (.t 51)⟩, ⟨.some 53, .some (49, false), .fa 8 (.t 3)⟩, ⟨.some 54, .some (49, false), .ld .none (.t 53)⟩, ⟨.some 55, .some (49, false), .lenL (.t 54)⟩, ⟨.some 56, .some (49, false), .bin .neq (.t 52) (.t 55)⟩, ⟨.some 57, .none, .pick (.t 49) (.c (.bool true)) (.t 56)⟩]) (.cond (.t 57) (.seq (.rg false [⟨.some 4, .none, .mv (.c (.bool false))⟩]) .ret) .skip)) (.seq (.seq (.rg false [⟨.some 58, .none, .fa 1 (.t 2)⟩, ⟨.some 59, .none, .ld .none (.t 58)⟩, ⟨.some 60, .none, .lenL (.t 59)⟩, ⟨.some 61, .none, .mv (.c (.int .i64 0))⟩]) (.block 0 (.loop (.seq (.rg false [⟨.some 62, .none, .bin .lss (.t 61) (.t 60)⟩]) (.seq (.cond (.t 62) .skip (.exit 0)) (.seq (.block 1 (.seq (.rg false [⟨.some 63, .none, .mv (.t 61)⟩, ⟨.some 5, .none, .mv (.t 63)⟩]) (.seq (.rg true [⟨.some 64, .none, .fa 1 (.t 2)⟩, ⟨.some 65, .none, .ld .none (.t 64)⟩, ⟨.some 66, .none, .mv (.t 5)⟩, ⟨.some 67, .none, .ia 3 (.t 65) (.t 66)⟩, ⟨.some 68, .none, .ld (.some 3) (.t 67)⟩, ⟨.some 69, .none, .fa 1 (.t 3)⟩, ⟨.some 70, .none, .ld .none (.t 69)⟩, ⟨.some 71, .none, .mv (.t 5)⟩, ⟨.some 72, .none, .ia 3 (.t 70) (.t 71)⟩, ⟨.some 73, .none, .ld (.some 3) (.t 72)⟩, ⟨.some 74, .none, .call 309 .strict [.t 68, .t 73]⟩, ⟨.some 75, .none, .un .not (.t 74)⟩]) (.cond (.t 75) (.seq (.rg false [⟨.some 4, .none, .mv (.c (.bool false))⟩]) .ret) .skip)))) (.rg false [⟨.some 76, .none, .bin .add (.t 61) (.c (.int .i64 1))⟩, ⟨.some 61, .none, .mv (.t 76)⟩]))))))) (.seq (.seq (.rg false [⟨.some 77, .none, .fa 8 (.t 2)⟩, ⟨.some 78, .none, .ld .none (.t 77)⟩, ⟨.some 79, .none, .lenL (.t 78)⟩, ⟨.some 80, .none, .mv (.c (.int .i64 0))⟩]) (.block 2 (.loop (.seq (.rg false [⟨.some 81, .none, .bin .lss (.t 80) (.t 79)⟩]) (.seq (.cond (.t 81) .skip (.exit 2)) (.seq (.block 3 (.seq (.rg false [⟨.some 82, .none, .mv (.t 80)⟩, ⟨.some 6, .none, .mv (.t 82)⟩]) (.seq (.rg true [⟨.some 83, .none, .fa 8 (.t 2)⟩, ⟨.some 84, .none, .ld .none (.t 83)⟩, ⟨.some 85, .none, .mv (.t 6)⟩, ⟨.some 86, .none, .ia 9 (.t 84) (.t 85)⟩, ⟨.some 87, .none, .ld (.some 9) (.t 86)⟩, ⟨.some 88, .none, .fa 8 (.t 3)⟩, ⟨.some 89, .none, .ld .none (.t 88)⟩, ⟨.some 90, .none, .mv (.t 6)⟩, ⟨.some 91, .none, .ia 9 (.t 89) (.t 90)⟩, ⟨.some 92, .none, .ld (.some 9) (.t 91)⟩, ⟨.some 93, .none, .call 300 .strict [.t 87, .t 92]⟩, ⟨.some 94, .none, .un .not (.t 93)⟩]) (.cond (.t 94) (.seq (.rg false [⟨.some 4, .none, .mv (.c (.bool false))⟩]) .ret) .skip)))) (.rg false [⟨.some 95, .none, .bin .add (.t 80) (.c (.int .i64 1))⟩, ⟨.some 80, .none, .mv (.t 95)⟩]))))))) (.seq (.rg false [⟨.some 96, .none, .fa 2 (.t 2)⟩, ⟨.some 97, .none, .ld .none (.t 96)⟩, ⟨.some 98, .none, .fa 2 (.t 3)⟩, ⟨.some 99, .none, .ld .none (.t 98)⟩, ⟨.some 100, .none, .call 36 .pure [.t 97, .t 99]⟩, ⟨.some 101, .none, .mv (.t 100)⟩, ⟨.some 102, .some (101, true), .fa 6 (.t 2)⟩, ⟨.some 103, .some (101, true), .ld .none (.t 102)⟩, ⟨.some 104, .some (101, true), .fa 6 (.t 3)⟩, ⟨.some 105, .some (101, true), .ld .none (.t 104)⟩, ⟨.some 106, .some (101, true), .call 36 .pure [.t 103, .t 105]⟩, ⟨.some 107, .none, .pick (.t 101) (.t 106) (.c (.bool false))⟩, ⟨.some 4, .none, .mv (.t 107)⟩]) .ret))))))
def lkd : List (Nat × Def) := [(293, d293), (294, d294)]
def lke : List (Nat × Def) := [(297, d297)]
def lkf : List (Nat × Def) := [(309, d309), (300, d300)]
theorem d293_eq : d293 = d108 := rfl
mutual
theorem allR_len : ∀ r : Rt, (allR r).length = cntR r
  | .mk h ks => by rw [allR, cntR, List.length_cons, allL_len ks]; omega
theorem allL_len : ∀ l : List Rt, (allL l).length = cntL l
  | [] => by rw [allL, cntL]; rfl
  | k :: l => by rw [allL, cntL, List.length_append, allR_len k, allL_len l]
end
theorem allL_append : ∀ a b : List Rt, allL (a ++ b) = allL a ++ allL b
  | [], b => by rw [allL]; rfl
  | k :: a, b => by rw [List.cons_append, allL, allL, allL_append a b, List.append_assoc]
theorem allL_take {l : List Rt} {i : Nat} (h : i < l.length) : allL (l.take (i + 1)) = allL (l.take i) ++ allR l[i] := by
  rw [List.take_succ_eq_append_getElem h, allL_append]
  congr 1
  rw [allL, allL, List.append_nil]
section
variable {env : Nat → Option Def} {fr : Fr} {σ σ' σ'' : St} {K : Fr → St → Prop} {Q : X → Fr → St → Prop} {p : PV} {bs : List UInt8}
theorem a293 (D : Has lkd env) {l : List Lab} (hn : l.length ≤ 9223372036854775807) : AV env 293 [.sl (labs l)] = some (.sl (labs (fewL l))) := few_g (by rw [← d293_eq]; exact D (293, d293) (by simp [lkd])) hn
theorem a294 (D : Has lkd env) : ∀ (r : Rt), r.Held → ∀ m : Nat, m ≤ 1000000 → AV env 294 [rt r, .sc (.int .i64 (m : Int))] = some (.sc (.int .i64 ((min (cntR r) (m + 1) : Nat) : Int))) := by
  refine Rt.induct fun h ks ih => ?_
  intro hr m hm
  obtain ⟨_, _, hh, hkl, hkh⟩ := hr
  have hkl' := rts_len ks
  refine AV_wp (D (294, d294) (by simp [lkd])) rfl ?_
  rw [rt]
  unfold rhd
  (repeat' first
    | refine w_seq ?_ | refine w_rg ?_ | refine wo_nil ?_ | refine g_skU ?_ | refine g_skT ?_ | refine g_skF ?_
    | ((first | apply s_plain | apply s_void | apply s_guard | apply g_goT | apply g_goF); · simp only [go_sem, Nat.reduceEqDiff, Nat.reduceAdd, Nat.reduceLeDiff, hkl']; (first | done | rfl))
    | ((first | apply g_T | apply g_F | apply g_gT | apply g_gF); · intro q1_; (first | intro q2_ | have q2_ := q1_); simp only [go_sem, Nat.reduceEqDiff, Nat.reduceAdd, Nat.reduceLeDiff, hkl', q1_, q2_]; (first | done | rfl))
    | fail
    )
  refine w_cutB (fun fr σ => fr 5 = .sc (.int .i64 ((min (cntR (.mk h ks)) (m + 1) : Nat) : Int))) ?_ ?_
  · refine w_rangeF ks.length hkl (fun i fr σ => fr 5 = .sc (.int .i64 ((min (1 + cntL (ks.take i)) (m + 1) : Nat) : Int))) ⟨by decide, rfl, rfl⟩ ?_ ?_ (by simp only [go_sem, Nat.reduceEqDiff, Nat.reduceAdd, Nat.reduceLeDiff]; first | done | rfl) (by simp only [go_sem, Nat.reduceEqDiff, Nat.reduceAdd, Nat.reduceLeDiff, hkl']; first | done | rfl) ?_ ?_
    · rintro i fr1 σ1 v h5
      refine ⟨?_, ?_, ?_⟩ <;> simp only [go_sem, Nat.reduceEqDiff, Nat.reduceAdd, Nat.reduceLeDiff, h5]
    · have : min (1 + cntL (ks.take 0)) (m + 1) = 1 := by rw [List.take_zero, cntL]; omega
      rw [this]
      simp only [go_sem, Nat.reduceEqDiff, Nat.reduceAdd, Nat.reduceLeDiff]
      rfl
    · rintro i fr1 σ1 hi h5 hti hfr
      have f0_1 := hfr 1 rfl; have f0_9 := hfr 9 rfl; have f0_10 := hfr 10 rfl; try (simp only [go_sem, Nat.reduceEqDiff, Nat.reduceAdd, Nat.reduceLeDiff] at f0_1); try (simp only [go_sem, Nat.reduceEqDiff, Nat.reduceAdd, Nat.reduceLeDiff] at f0_9); try (simp only [go_sem, Nat.reduceEqDiff, Nat.reduceAdd, Nat.reduceLeDiff] at f0_10)
      have hx := List.getElem?_eq_getElem hi
      have hy := rts_at hx
      rw [rt_eq] at hy
      have e1 : (0 : Int) ≤ (i : Int) ∧ (i : Int) < (ks.length : Int) := by omega
      have hcnt0 := cntL_take hi
      have hcnt1 := cntL_take_le ks (i + 1)
      have hrec := ih _ (List.getElem_mem hi) (hkh _ (List.getElem_mem hi))
      generalize ks[i] = k at hx hy hcnt0 hrec
      unfold rhd at hy
      refine w_block ?_
      (repeat' first
    | refine w_seq ?_ | refine w_rg ?_ | refine wo_nil ?_ | refine g_skU ?_ | refine g_skT ?_ | refine g_skF ?_
    | ((first | apply s_plain | apply s_void | apply s_guard | apply g_goT | apply g_goF); · simp only [go_sem, Nat.reduceEqDiff, Nat.reduceAdd, Nat.reduceLeDiff, f0_1, f0_9, f0_10, hti, e1, hkl', Int.toNat_natCast, hy, h5, List.set_cons_succ]; (first | done | rfl))
    | ((first | apply g_T | apply g_F | apply g_gT | apply g_gF); · intro q1_; (first | intro q2_ | have q2_ := q1_); simp only [go_sem, Nat.reduceEqDiff, Nat.reduceAdd, Nat.reduceLeDiff, f0_1, f0_9, f0_10, hti, e1, hkl', Int.toNat_natCast, hy, h5, List.set_cons_succ, q1_, q2_]; (first | done | rfl))
    | fail
    )
      refine w_condB (by simp only [go_sem, Nat.reduceEqDiff, Nat.reduceAdd, Nat.reduceLeDiff]; first | done | rfl) (fun hc => ?_) (fun hc => ?_)
      · have hc' : m + 1 ≤ 1 + cntL (ks.take i) := by
          rw [decide_eq_true_eq] at hc
          omega
        (repeat' first
    | refine w_seq ?_ | refine w_rg ?_ | refine wo_nil ?_ | refine g_skU ?_ | refine g_skT ?_ | refine g_skF ?_
    | ((first | apply s_plain | apply s_void | apply s_guard | apply g_goT | apply g_goF); · simp only [go_sem, Nat.reduceEqDiff, Nat.reduceAdd, Nat.reduceLeDiff]; (first | done | rfl))
    | ((first | apply g_T | apply g_F | apply g_gT | apply g_gF); · intro q1_; (first | intro q2_ | have q2_ := q1_); simp only [go_sem, Nat.reduceEqDiff, Nat.reduceAdd, Nat.reduceLeDiff, q1_, q2_]; (first | done | rfl))
    | (apply w_condX; · simp only [go_sem, Nat.reduceEqDiff, Nat.reduceAdd, Nat.reduceLeDiff]; (first | done | rfl)); (first | refine wcd_T ?_ | refine wcd_F ?_)
    | refine w_skip ?_ | refine w_exit ?_ | refine w_ret ?_
    | fail
    )
        try simp only [if_true]
        simp only [go_sem, Nat.reduceEqDiff, Nat.reduceAdd, Nat.reduceLeDiff, h5]
        rw [cntR_mk, show min (1 + cntL (ks.take i)) (m + 1) = min (1 + cntL ks) (m + 1) by have := cntL_take_le ks i; omega]
      · have hc' : 1 + cntL (ks.take i) ≤ m := by
          rw [decide_eq_false_iff_not] at hc
          omega
        have e2 : min (1 + cntL (ks.take i)) (m + 1) = 1 + cntL (ks.take i) := by omega
        rw [e2] at h5
        have hrec := hrec (m - (1 + cntL (ks.take i))) (by omega)
        have e3 : IntKind.i64.wrap ((m : Int) - ((1 + cntL (ks.take i) : Nat) : Int)) = ((m - (1 + cntL (ks.take i)) : Nat) : Int) := by rw [IntKind.wrap_i64]; omega
        have e4 : IntKind.i64.wrap (((1 + cntL (ks.take i) : Nat) : Int) + ((min (cntR k) (m - (1 + cntL (ks.take i)) + 1) : Nat) : Int)) = ((min (1 + cntL (ks.take (i + 1))) (m + 1) : Nat) : Int) := by rw [IntKind.wrap_i64]; omega
        rw [rt_eq] at hrec
        unfold rhd at hrec
        (repeat' first
    | refine w_seq ?_ | refine w_rg ?_ | refine wo_nil ?_ | refine g_skU ?_ | refine g_skT ?_ | refine g_skF ?_
    | ((first | apply s_plain | apply s_void | apply s_guard | apply g_goT | apply g_goF); · simp only [go_sem, Nat.reduceEqDiff, Nat.reduceAdd, Nat.reduceLeDiff, f0_1, f0_9, f0_10, h5, e3, hrec, e4, List.set_cons_succ]; (first | done | rfl))
    | ((first | apply g_T | apply g_F | apply g_gT | apply g_gF); · intro q1_; (first | intro q2_ | have q2_ := q1_); simp only [go_sem, Nat.reduceEqDiff, Nat.reduceAdd, Nat.reduceLeDiff, f0_1, f0_9, f0_10, h5, e3, hrec, e4, List.set_cons_succ, q1_, q2_]; (first | done | rfl))
    | (apply w_condX; · simp only [go_sem, Nat.reduceEqDiff, Nat.reduceAdd, Nat.reduceLeDiff, f0_1, f0_9, f0_10, h5, e3, hrec, e4, List.set_cons_succ]; (first | done | rfl)); (first | refine wcd_T ?_ | refine wcd_F ?_)
    | refine w_skip ?_ | refine w_exit ?_ | refine w_ret ?_
    | fail
    )
        try simp only [if_true]
        simp only [go_sem, Nat.reduceEqDiff, Nat.reduceAdd, Nat.reduceLeDiff]
    · rintro fr1 σ1 h5 hfr
      have e0_4 := hfr 4 rfl; try (simp only [go_sem, Nat.reduceEqDiff, Nat.reduceAdd, Nat.reduceLeDiff] at e0_4)
      try simp only [if_true]
      rw [List.take_length] at h5
      rw [cntR_mk]
      exact h5
  · rintro fr1 σ1 h5
    (repeat' first
    | refine w_seq ?_ | refine w_rg ?_ | refine wo_nil ?_ | refine g_skU ?_ | refine g_skT ?_ | refine g_skF ?_
    | ((first | apply s_plain | apply s_void | apply s_guard | apply g_goT | apply g_goF); · simp only [go_sem, Nat.reduceEqDiff, Nat.reduceAdd, Nat.reduceLeDiff, h5]; (first | done | rfl))
    | ((first | apply g_T | apply g_F | apply g_gT | apply g_gF); · intro q1_; (first | intro q2_ | have q2_ := q1_); simp only [go_sem, Nat.reduceEqDiff, Nat.reduceAdd, Nat.reduceLeDiff, h5, q1_, q2_]; (first | done | rfl))
    | (apply w_condX; · simp only [go_sem, Nat.reduceEqDiff, Nat.reduceAdd, Nat.reduceLeDiff, h5]; (first | done | rfl)); (first | refine wcd_T ?_ | refine wcd_F ?_)
    | refine w_skip ?_ | refine w_exit ?_ | refine w_ret ?_
    | fail
    )
    exact ⟨by first | exact .inr rfl | exact .inr trivial | exact .inl rfl, by simp only [go_sem, Nat.reduceEqDiff, Nat.reduceAdd, Nat.reduceLeDiff, retOf, resOf]; first | done | rfl⟩
theorem rts_fz (σ : St) (d : Nat) (l : List Rt) : (rts l).mapM (fz σ (d + 2)) = some (rts l) := by
  induction l with
  | nil => rfl
  | cons m r ih =>
    rw [rts, mapM_cons', ih, rt_eq]
    rfl
theorem rts_all (l : List Rt) : ((rts l).all fun y => okc y && (cellsOf y).length == 9) = true := by
  rw [rts_map, List.all_eq_true]
  intro y hy
  obtain ⟨r, _, rfl⟩ := List.mem_map.1 hy
  rw [rt_eq]
  rfl
theorem rts_append (a b : List Rt) : rts (a ++ b) = rts a ++ rts b := by rw [rts_map, rts_map, rts_map, List.map_append]
theorem a297 (D : Has lke env) : ∀ (r : Rt), r.Held → cntR r ≤ 1000000 → AV env 297 [rt r] = some (.sl (rts (allR r))) := by
  refine Rt.induct fun h ks ih => ?_
  intro hr hc
  obtain ⟨_, _, hh, hkl, hkh⟩ := hr
  have hkl' := rts_len ks
  rw [cntR_mk] at hc
  refine AV_wp (D (297, d297) (by simp [lke])) rfl ?_
  have hrt : rt (.mk h ks) = rhd h (.sl (rts ks)) := rt_eq _
  have hall1 : rts [Rt.mk h ks] = [rhd h (.sl (rts ks))] := by rw [rts, rts, hrt]
  rw [hrt]
  unfold rhd at hall1 ⊢
  (repeat' first
    | refine w_seq ?_ | refine w_rg ?_ | refine wo_nil ?_ | refine g_skU ?_ | refine g_skT ?_ | refine g_skF ?_
    | ((first | apply s_plain | apply s_void | apply s_guard | apply g_goT | apply g_goF); · simp only [go_sem, Nat.reduceEqDiff, Nat.reduceAdd, Nat.reduceLeDiff, hkl', List.set_cons_succ]; (first | done | rfl))
    | ((first | apply g_T | apply g_F | apply g_gT | apply g_gF); · intro q1_; (first | intro q2_ | have q2_ := q1_); simp only [go_sem, Nat.reduceEqDiff, Nat.reduceAdd, Nat.reduceLeDiff, hkl', List.set_cons_succ, q1_, q2_]; (first | done | rfl))
    | fail
    )
  refine w_block (w_rangeF ks.length hkl (fun i fr σ => Gat σ [7, 18] 9 false (fr 3) (rts (.mk h ks :: allL (ks.take i)))) ⟨by decide, rfl, rfl⟩ ?_ ?_ (by simp only [go_sem, Nat.reduceEqDiff, Nat.reduceAdd, Nat.reduceLeDiff]; first | done | rfl) (by simp only [go_sem, Nat.reduceEqDiff, Nat.reduceAdd, Nat.reduceLeDiff, hkl']; first | done | rfl) ?_ ?_)
  · rintro i fr1 σ1 v h5
    refine ⟨?_, ?_, ?_⟩ <;> simp only [go_sem, Nat.reduceEqDiff, Nat.reduceAdd, Nat.reduceLeDiff] <;> exact h5
  · simp only [go_sem, Nat.reduceEqDiff, Nat.reduceAdd, Nat.reduceLeDiff]
    rw [show allL [] = [] by rw [allL], hall1]
    exact .inr ⟨7, 0, true, by simp, rfl, by simp only [go_sem, Nat.reduceEqDiff, Nat.reduceAdd, Nat.reduceLeDiff], by simp only [go_sem, Nat.reduceEqDiff, Nat.reduceAdd, Nat.reduceLeDiff], by simp, fun e => by cases e⟩
  · rintro i fr1 σ1 hi h5 hti hfr
    have f0_9 := hfr 9 rfl; have f0_10 := hfr 10 rfl; try (simp only [go_sem, Nat.reduceEqDiff, Nat.reduceAdd, Nat.reduceLeDiff] at f0_9); try (simp only [go_sem, Nat.reduceEqDiff, Nat.reduceAdd, Nat.reduceLeDiff] at f0_10)
    have hx := List.getElem?_eq_getElem hi
    have hy := rts_at hx
    rw [rt_eq] at hy
    have e1 : (0 : Int) ≤ (i : Int) ∧ (i : Int) < (ks.length : Int) := by omega
    have hcnt0 := cntL_take hi
    have hcnt1 := cntL_take_le ks (i + 1)
    have hrec := ih _ (List.getElem_mem hi) (hkh _ (List.getElem_mem hi)) (by omega)
    have hal := allL_take hi
    rw [hal]
    generalize ks[i] = k at hx hy hcnt0 hrec
    have hlen1 := allL_len (ks.take i)
    have hlen2 := allR_len k
    rw [rt_eq] at hrec
    unfold rhd at hy hrec
    refine w_block ?_
    (repeat' first
    | refine w_seq ?_ | refine w_rg ?_ | refine wo_nil ?_ | refine g_skU ?_ | refine g_skT ?_ | refine g_skF ?_
    | ((first | apply s_plain | apply s_void | apply s_guard | apply g_goT | apply g_goF); · simp only [go_sem, Nat.reduceEqDiff, Nat.reduceAdd, Nat.reduceLeDiff, f0_9, f0_10, hti, e1, hkl', Int.toNat_natCast, hy, hrec, List.set_cons_succ]; (first | done | rfl))
    | ((first | apply g_T | apply g_F | apply g_gT | apply g_gF); · intro q1_; (first | intro q2_ | have q2_ := q1_); simp only [go_sem, Nat.reduceEqDiff, Nat.reduceAdd, Nat.reduceLeDiff, f0_9, f0_10, hti, e1, hkl', Int.toNat_natCast, hy, hrec, List.set_cons_succ, q1_, q2_]; (first | done | rfl))
    | fail
    )
    refine s_gatL (d := 18) (t := 15) (x := .t 17) (os := [7, 18]) (xs := rts (.mk h ks :: allL (ks.take i))) (ys := rts (allR k)) (by simp only [go_sem, Nat.reduceEqDiff, Nat.reduceAdd, Nat.reduceLeDiff]; exact (h5.new _).put (by decide) _) (by simp only [go_sem, Nat.reduceEqDiff, Nat.reduceAdd, Nat.reduceLeDiff, srcOf, elemsOf]) (rts_all _) (by rw [rts_len, rts_len, List.length_cons]; omega) ?_
    intro p2 σ2 hg2 hk2
    (repeat' first
    | refine w_seq ?_ | refine w_rg ?_ | refine wo_nil ?_ | refine g_skU ?_ | refine g_skT ?_ | refine g_skF ?_
    | ((first | apply s_plain | apply s_void | apply s_guard | apply g_goT | apply g_goF); · simp only [go_sem, Nat.reduceEqDiff, Nat.reduceAdd, Nat.reduceLeDiff]; (first | done | rfl))
    | ((first | apply g_T | apply g_F | apply g_gT | apply g_gF); · intro q1_; (first | intro q2_ | have q2_ := q1_); simp only [go_sem, Nat.reduceEqDiff, Nat.reduceAdd, Nat.reduceLeDiff, q1_, q2_]; (first | done | rfl))
    | fail
    )
    simp only [go_sem, Nat.reduceEqDiff, Nat.reduceAdd, Nat.reduceLeDiff]
    rw [← List.cons_append, rts_append]
    exact hg2.mono (by simp)
  · rintro fr1 σ1 h5 hfr
    have e0_2 := hfr 2 rfl; try (simp only [go_sem, Nat.reduceEqDiff, Nat.reduceAdd, Nat.reduceLeDiff] at e0_2)
    try simp only [if_true]
    rw [List.take_length] at h5
    have hz := gat_fzd h5 (rts_fz σ1 9 _)
    have hal : allR (.mk h ks) = .mk h ks :: allL ks := by rw [allR]
    rw [← hal] at hz
    (repeat' first
    | refine w_seq ?_ | refine w_rg ?_ | refine wo_nil ?_ | refine g_skU ?_ | refine g_skT ?_ | refine g_skF ?_
    | ((first | apply s_plain | apply s_void | apply s_guard | apply g_goT | apply g_goF); · simp only [go_sem, Nat.reduceEqDiff, Nat.reduceAdd, Nat.reduceLeDiff]; (first | done | rfl))
    | ((first | apply g_T | apply g_F | apply g_gT | apply g_gF); · intro q1_; (first | intro q2_ | have q2_ := q1_); simp only [go_sem, Nat.reduceEqDiff, Nat.reduceAdd, Nat.reduceLeDiff, q1_, q2_]; (first | done | rfl))
    | (apply w_condX; · simp only [go_sem, Nat.reduceEqDiff, Nat.reduceAdd, Nat.reduceLeDiff]; (first | done | rfl)); (first | refine wcd_T ?_ | refine wcd_F ?_)
    | refine w_skip ?_ | refine w_exit ?_ | refine w_ret ?_
    | fail
    )
    exact ⟨by first | exact .inr rfl | exact .inr trivial | exact .inl rfl, by simp only [go_sem, Nat.reduceEqDiff, Nat.reduceAdd, Nat.reduceLeDiff, retOf, resOf, hz]; first | done | rfl⟩
end

section
variable {env : Nat → Option Def} {fr : Fr} {σ σ' σ'' : St} {K : Fr → St → Prop} {Q : X → Fr → St → Prop} {p : PV} {bs : List UInt8}
theorem a309 (D : Has lhd env) (F : Has lkf env) {a b : Mt} (hn : a.ws.length ≤ 9223372036854775807) : AV env 309 [mt a, mt b] = some (.sc (.bool (decide (a = b)))) := by
  have h36 := a36 D (a := a.ws) (b := b.ws) hn
  refine AV_wp (F (309, d309) (by simp [lkf])) rfl ?_
  unfold mt
  (repeat' first
    | refine w_seq ?_ | refine w_rg ?_ | refine wo_nil ?_ | refine g_skU ?_ | refine g_skT ?_ | refine g_skF ?_
    | ((first | apply s_plain | apply s_void | apply s_guard | apply g_goT | apply g_goF); · simp only [go_sem, Nat.reduceEqDiff, Nat.reduceAdd, Nat.reduceLeDiff, h36, ba_beq]; (first | done | rfl))
    | ((first | apply g_T | apply g_F | apply g_gT | apply g_gF); · intro q1_; (first | intro q2_ | have q2_ := q1_); simp only [go_sem, Nat.reduceEqDiff, Nat.reduceAdd, Nat.reduceLeDiff, h36, ba_beq, q1_, q2_]; (first | done | rfl))
    | (apply w_condX; · simp only [go_sem, Nat.reduceEqDiff, Nat.reduceAdd, Nat.reduceLeDiff, h36, ba_beq]; (first | done | rfl)); (first | refine wcd_T ?_ | refine wcd_F ?_)
    | refine w_skip ?_ | refine w_exit ?_ | refine w_ret ?_
    | fail
    )
  have e : decide (a = b) = ((decide (a.n = b.n) && (a.how == b.how)) && decide (a.ws = b.ws)) := by
    obtain ⟨n, how, ws⟩ := a
    obtain ⟨n', how', ws'⟩ := b
    rw [Bool.eq_iff_iff]
    simp only [decide_eq_true_eq, Bool.and_eq_true, beq_iff_eq, Mt.mk.injEq]
    exact ⟨fun ⟨x, y, z⟩ => ⟨⟨x, y⟩, z⟩, fun ⟨⟨x, y⟩, z⟩ => ⟨x, y, z⟩⟩
  exact ⟨by first | exact .inr rfl | exact .inr trivial | exact .inl rfl, by simp only [go_sem, Nat.reduceEqDiff, Nat.reduceAdd, Nat.reduceLeDiff, retOf, resOf, e]; first | done | rfl⟩
theorem likeT_mk (h h' : Rh) (ks ks' : List Rt) : likeT (.mk h ks) (.mk h' ks') = (decide (h = h') && likeLs ks ks') := by rw [likeT]
theorem a300 (D : Has lhd env) (F : Has lkf env) : ∀ (a : Rt), a.Held → ∀ b : Rt, AV env 300 [rt a, rt b] = some (.sc (.bool (likeT a b))) := by
  refine Rt.induct fun h ks ih => ?_
  intro hr b
  obtain ⟨_, _, hh, hkl, hkh⟩ := hr
  obtain ⟨h', ks'⟩ := b
  rw [likeT_mk]
  have hk1 := rts_len ks
  have hk2 := rts_len ks'
  have hm1 := mts_len h.ms
  have hm2 := mts_len h'.ms
  have h36a := a36 D (a := h.bys) (b := h'.bys) hh.bys
  have h36b := a36 D (a := h.mute) (b := h'.mute) hh.mute
  refine AV_wp (F (300, d300) (by simp [lkf])) rfl ?_
  rw [rt, rt]
  unfold rhd
  (repeat' first
    | refine w_seq ?_ | refine w_rg ?_ | refine wo_nil ?_ | refine g_skU ?_ | refine g_skT ?_ | refine g_skF ?_
    | ((first | apply s_plain | apply s_void | apply s_guard | apply g_goT | apply g_goF); · simp only [go_sem, Nat.reduceEqDiff, Nat.reduceAdd, Nat.reduceLeDiff, hk1, hk2, hm1, hm2]; (first | done | rfl))
    | ((first | apply g_T | apply g_F | apply g_gT | apply g_gF); · intro q1_; (first | intro q2_ | have q2_ := q1_); simp only [go_sem, Nat.reduceEqDiff, Nat.reduceAdd, Nat.reduceLeDiff, hk1, hk2, hm1, hm2, q1_, q2_]; (first | done | rfl))
    | fail
    )
  refine w_condB (by simp only [go_sem, Nat.reduceEqDiff, Nat.reduceAdd, Nat.reduceLeDiff]; first | done | rfl) (fun hc => ?_) (fun hc => ?_)
  · have hf : (decide (h = h') && likeLs ks ks') = false := by
      cases he : (decide (h = h') && likeLs ks ks') with
      | false => rfl
      | true =>
        rw [Bool.and_eq_true, decide_eq_true_eq] at he
        obtain ⟨rfl, he⟩ := he
        have hl : ks.length = ks'.length := Decidable.byContradiction fun hne => by rw [likeLs_len _ _ hne] at he; cases he
        rw [hl] at hc
        simp at hc
    rw [hf]
    (repeat' first
    | refine w_seq ?_ | refine w_rg ?_ | refine wo_nil ?_ | refine g_skU ?_ | refine g_skT ?_ | refine g_skF ?_
    | ((first | apply s_plain | apply s_void | apply s_guard | apply g_goT | apply g_goF); · simp only [go_sem, Nat.reduceEqDiff, Nat.reduceAdd, Nat.reduceLeDiff]; (first | done | rfl))
    | ((first | apply g_T | apply g_F | apply g_gT | apply g_gF); · intro q1_; (first | intro q2_ | have q2_ := q1_); simp only [go_sem, Nat.reduceEqDiff, Nat.reduceAdd, Nat.reduceLeDiff, q1_, q2_]; (first | done | rfl))
    | (apply w_condX; · simp only [go_sem, Nat.reduceEqDiff, Nat.reduceAdd, Nat.reduceLeDiff]; (first | done | rfl)); (first | refine wcd_T ?_ | refine wcd_F ?_)
    | refine w_skip ?_ | refine w_exit ?_ | refine w_ret ?_
    | fail
    )
    exact ⟨by first | exact .inr rfl | exact .inr trivial | exact .inl rfl, by simp only [go_sem, Nat.reduceEqDiff, Nat.reduceAdd, Nat.reduceLeDiff, retOf, resOf]; first | done | rfl⟩
  · simp [ba_beq] at hc
    obtain ⟨⟨⟨⟨⟨⟨c1, c2⟩, c3⟩, c4⟩, c5⟩, c6⟩, c7⟩ := hc
    have c6' : h.ms.length = h'.ms.length := by omega
    have c7' : ks.length = ks'.length := by omega
    have hh0 : decide (h = h') = (decide (h.ms = h'.ms) && (decide (h.bys = h'.bys) && decide (h.mute = h'.mute))) := by
      obtain ⟨r1, m1, b1, w1, e1, p1, u1, o1⟩ := h
      obtain ⟨r2, m2, b2, w2, e2, p2, u2, o2⟩ := h'
      simp only at c1 c2 c3 c4 c5
      rw [Bool.eq_iff_iff]
      simp only [decide_eq_true_eq, Bool.and_eq_true, Rh.mk.injEq, c1, c2, c3, c4, c5, true_and, and_true]
    rw [hh0]
    (repeat' first
    | refine w_seq ?_ | refine w_rg ?_ | refine wo_nil ?_ | refine g_skU ?_ | refine g_skT ?_ | refine g_skF ?_
    | ((first | apply s_plain | apply s_void | apply s_guard | apply g_goT | apply g_goF); · simp only [go_sem, Nat.reduceEqDiff, Nat.reduceAdd, Nat.reduceLeDiff, hm1]; (first | done | rfl))
    | ((first | apply g_T | apply g_F | apply g_gT | apply g_gF); · intro q1_; (first | intro q2_ | have q2_ := q1_); simp only [go_sem, Nat.reduceEqDiff, Nat.reduceAdd, Nat.reduceLeDiff, hm1, q1_, q2_]; (first | done | rfl))
    | (apply w_condX; · simp only [go_sem, Nat.reduceEqDiff, Nat.reduceAdd, Nat.reduceLeDiff, hm1]; (first | done | rfl)); (first | refine wcd_T ?_ | refine wcd_F ?_)
    | refine w_skip ?_ | refine w_exit ?_ | refine w_ret ?_
    | fail
    )
    refine w_block (w_rangeF h.ms.length hh.ms (fun i fr σ => (σ.m 2000002 0 = some ⟨9, [rhd h (.sl (rts ks))], true, true⟩ ∧ σ.m 2000003 0 = some ⟨9, [rhd h' (.sl (rts ks'))], true, true⟩) ∧ ∀ j, j < i → h.ms[j]? = h'.ms[j]?) ⟨by decide, rfl, rfl⟩ (fun _ _ _ _ h => ⟨h, h, h⟩) ⟨⟨by simp only [go_sem, Nat.reduceEqDiff, Nat.reduceAdd, Nat.reduceLeDiff, rhd], by simp only [go_sem, Nat.reduceEqDiff, Nat.reduceAdd, Nat.reduceLeDiff, rhd]⟩, fun j hj => by omega⟩ (by simp only [go_sem, Nat.reduceEqDiff, Nat.reduceAdd, Nat.reduceLeDiff]; first | done | rfl) (by simp only [go_sem, Nat.reduceEqDiff, Nat.reduceAdd, Nat.reduceLeDiff, hm1]; first | done | rfl) ?_ ?_)
    · rintro i fr1 σ1 hi ⟨⟨x2, x3⟩, h3⟩ hti hfr
      have f0_2 := hfr 2 rfl; have f0_3 := hfr 3 rfl; have f0_60 := hfr 60 rfl; try (simp only [go_sem, Nat.reduceEqDiff, Nat.reduceAdd, Nat.reduceLeDiff] at f0_2); try (simp only [go_sem, Nat.reduceEqDiff, Nat.reduceAdd, Nat.reduceLeDiff] at f0_3); try (simp only [go_sem, Nat.reduceEqDiff, Nat.reduceAdd, Nat.reduceLeDiff] at f0_60)
      have hi2 : i < h'.ms.length := by omega
      have qa := List.getElem?_eq_getElem hi
      have qb := List.getElem?_eq_getElem hi2
      have hx := mts_at qa
      have hy := mts_at qb
      have e1 : (0 : Int) ≤ (i : Int) ∧ (i : Int) < (h.ms.length : Int) := by omega
      have e2 : (0 : Int) ≤ (i : Int) ∧ (i : Int) < (h'.ms.length : Int) := by omega
      have hmh := hh.mss _ (List.getElem_mem hi)
      have h309 := a309 D F (a := h.ms[i]) (b := h'.ms[i]) hmh.ws
      unfold mt at hx hy h309
      unfold rhd at x2 x3
      refine w_block ?_
      (repeat' first
    | refine w_seq ?_ | refine w_rg ?_ | refine wo_nil ?_ | refine g_skU ?_ | refine g_skT ?_ | refine g_skF ?_
    | ((first | apply s_plain | apply s_void | apply s_guard | apply g_goT | apply g_goF); · simp only [go_sem, Nat.reduceEqDiff, Nat.reduceAdd, Nat.reduceLeDiff, f0_2, f0_3, f0_60, hti, e1, e2, hm1, hm2, Int.toNat_natCast, hx, hy, x2, x3, h309]; (first | done | rfl))
    | ((first | apply g_T | apply g_F | apply g_gT | apply g_gF); · intro q1_; (first | intro q2_ | have q2_ := q1_); simp only [go_sem, Nat.reduceEqDiff, Nat.reduceAdd, Nat.reduceLeDiff, f0_2, f0_3, f0_60, hti, e1, e2, hm1, hm2, Int.toNat_natCast, hx, hy, x2, x3, h309, q1_, q2_]; (first | done | rfl))
    | fail
    )
      by_cases he : h.ms[i] = h'.ms[i]
      · have hb : decide (h.ms[i] = h'.ms[i]) = true := decide_eq_true he
        (repeat' first
    | refine w_seq ?_ | refine w_rg ?_ | refine wo_nil ?_ | refine g_skU ?_ | refine g_skT ?_ | refine g_skF ?_
    | ((first | apply s_plain | apply s_void | apply s_guard | apply g_goT | apply g_goF); · simp only [go_sem, Nat.reduceEqDiff, Nat.reduceAdd, Nat.reduceLeDiff, hb]; (first | done | rfl))
    | ((first | apply g_T | apply g_F | apply g_gT | apply g_gF); · intro q1_; (first | intro q2_ | have q2_ := q1_); simp only [go_sem, Nat.reduceEqDiff, Nat.reduceAdd, Nat.reduceLeDiff, hb, q1_, q2_]; (first | done | rfl))
    | (apply w_condX; · simp only [go_sem, Nat.reduceEqDiff, Nat.reduceAdd, Nat.reduceLeDiff, hb]; (first | done | rfl)); (first | refine wcd_T ?_ | refine wcd_F ?_)
    | refine w_skip ?_ | refine w_exit ?_ | refine w_ret ?_
    | fail
    )
        refine ⟨⟨by unfold rhd; exact x2, by unfold rhd; exact x3⟩, fun j hj => ?_⟩
        by_cases hji : j = i
        · rw [hji, qa, qb, he]
        · exact h3 j (by omega)
      · have hb : decide (h.ms[i] = h'.ms[i]) = false := decide_eq_false he
        have hne : decide (h.ms = h'.ms) = false := decide_eq_false fun hh => he (by simp [hh])
        rw [hne]
        (repeat' first
    | refine w_seq ?_ | refine w_rg ?_ | refine wo_nil ?_ | refine g_skU ?_ | refine g_skT ?_ | refine g_skF ?_
    | ((first | apply s_plain | apply s_void | apply s_guard | apply g_goT | apply g_goF); · simp only [go_sem, Nat.reduceEqDiff, Nat.reduceAdd, Nat.reduceLeDiff, hb]; (first | done | rfl))
    | ((first | apply g_T | apply g_F | apply g_gT | apply g_gF); · intro q1_; (first | intro q2_ | have q2_ := q1_); simp only [go_sem, Nat.reduceEqDiff, Nat.reduceAdd, Nat.reduceLeDiff, hb, q1_, q2_]; (first | done | rfl))
    | (apply w_condX; · simp only [go_sem, Nat.reduceEqDiff, Nat.reduceAdd, Nat.reduceLeDiff, hb]; (first | done | rfl)); (first | refine wcd_T ?_ | refine wcd_F ?_)
    | refine w_skip ?_ | refine w_exit ?_ | refine w_ret ?_
    | fail
    )
        exact ⟨by first | exact .inr rfl | exact .inr trivial | exact .inl rfl, by simp only [go_sem, Nat.reduceEqDiff, Nat.reduceAdd, Nat.reduceLeDiff, retOf, resOf, Bool.false_and]; first | done | rfl⟩
    · rintro fr1 σ1 ⟨⟨x2, x3⟩, h3⟩ hfr
      have e0_2 := hfr 2 rfl; have e0_3 := hfr 3 rfl; try (simp only [go_sem, Nat.reduceEqDiff, Nat.reduceAdd, Nat.reduceLeDiff] at e0_2); try (simp only [go_sem, Nat.reduceEqDiff, Nat.reduceAdd, Nat.reduceLeDiff] at e0_3)
      try simp only [if_true]
      have heq : h.ms = h'.ms := List.ext_getElem? fun i => by
        by_cases hi : i < h.ms.length
        · exact h3 i hi
        · rw [List.getElem?_eq_none (by omega), List.getElem?_eq_none (by omega)]
      rw [decide_eq_true heq, Bool.true_and]
      unfold rhd at x2
      (repeat' first
    | refine w_seq ?_ | refine w_rg ?_ | refine wo_nil ?_ | refine g_skU ?_ | refine g_skT ?_ | refine g_skF ?_
    | ((first | apply s_plain | apply s_void | apply s_guard | apply g_goT | apply g_goF); · simp only [go_sem, Nat.reduceEqDiff, Nat.reduceAdd, Nat.reduceLeDiff, e0_2, e0_3, x2, hk1]; (first | done | rfl))
    | ((first | apply g_T | apply g_F | apply g_gT | apply g_gF); · intro q1_; (first | intro q2_ | have q2_ := q1_); simp only [go_sem, Nat.reduceEqDiff, Nat.reduceAdd, Nat.reduceLeDiff, e0_2, e0_3, x2, hk1, q1_, q2_]; (first | done | rfl))
    | (apply w_condX; · simp only [go_sem, Nat.reduceEqDiff, Nat.reduceAdd, Nat.reduceLeDiff, e0_2, e0_3, x2, hk1]; (first | done | rfl)); (first | refine wcd_T ?_ | refine wcd_F ?_)
    | refine w_skip ?_ | refine w_exit ?_ | refine w_ret ?_
    | fail
    )
      refine w_block (w_rangeF ks.length hkl (fun i fr σ => (σ.m 2000002 0 = some ⟨9, [rhd h (.sl (rts ks))], true, true⟩ ∧ σ.m 2000003 0 = some ⟨9, [rhd h' (.sl (rts ks'))], true, true⟩) ∧ ∀ j (q1 : j < ks.length) (q2 : j < ks'.length), j < i → likeT ks[j] ks'[j] = true) ⟨by decide, rfl, rfl⟩ (fun _ _ _ _ h => ⟨h, h, h⟩) ⟨⟨by unfold rhd; exact x2, x3⟩, fun j _ _ hj => by omega⟩ (by simp only [go_sem, Nat.reduceEqDiff, Nat.reduceAdd, Nat.reduceLeDiff]; first | done | rfl) (by simp only [go_sem, Nat.reduceEqDiff, Nat.reduceAdd, Nat.reduceLeDiff, hk1]; first | done | rfl) ?_ ?_)
      · rintro i fr2 σ2 hi ⟨⟨x2, x3⟩, h4⟩ hti hfr
        have f1_2 := hfr 2 rfl; have f1_3 := hfr 3 rfl; have f1_79 := hfr 79 rfl; try (simp only [go_sem, Nat.reduceEqDiff, Nat.reduceAdd, Nat.reduceLeDiff, e0_2, e0_3] at f1_2); try (simp only [go_sem, Nat.reduceEqDiff, Nat.reduceAdd, Nat.reduceLeDiff, e0_2, e0_3] at f1_3); try (simp only [go_sem, Nat.reduceEqDiff, Nat.reduceAdd, Nat.reduceLeDiff, e0_2, e0_3] at f1_79)
        have hi2 : i < ks'.length := by omega
        have qa := List.getElem?_eq_getElem hi
        have qb := List.getElem?_eq_getElem hi2
        have hx := rts_at qa
        have hy := rts_at qb
        have e1 : (0 : Int) ≤ (i : Int) ∧ (i : Int) < (ks.length : Int) := by omega
        have e2 : (0 : Int) ≤ (i : Int) ∧ (i : Int) < (ks'.length : Int) := by omega
        have hrec := ih _ (List.getElem_mem hi) (hkh _ (List.getElem_mem hi)) ks'[i]
        rw [rt_eq] at hx hy
        rw [rt_eq, rt_eq] at hrec
        unfold rhd at hx hy hrec x2 x3
        refine w_block ?_
        (repeat' first
    | refine w_seq ?_ | refine w_rg ?_ | refine wo_nil ?_ | refine g_skU ?_ | refine g_skT ?_ | refine g_skF ?_
    | ((first | apply s_plain | apply s_void | apply s_guard | apply g_goT | apply g_goF); · simp only [go_sem, Nat.reduceEqDiff, Nat.reduceAdd, Nat.reduceLeDiff, f1_2, f1_3, f1_79, hti, e1, e2, hk1, hk2, Int.toNat_natCast, hx, hy, x2, x3, hrec]; (first | done | rfl))
    | ((first | apply g_T | apply g_F | apply g_gT | apply g_gF); · intro q1_; (first | intro q2_ | have q2_ := q1_); simp only [go_sem, Nat.reduceEqDiff, Nat.reduceAdd, Nat.reduceLeDiff, f1_2, f1_3, f1_79, hti, e1, e2, hk1, hk2, Int.toNat_natCast, hx, hy, x2, x3, hrec, q1_, q2_]; (first | done | rfl))
    | fail
    )
        cases hb : likeT ks[i] ks'[i] with
        | true =>
          (repeat' first
    | refine w_seq ?_ | refine w_rg ?_ | refine wo_nil ?_ | refine g_skU ?_ | refine g_skT ?_ | refine g_skF ?_
    | ((first | apply s_plain | apply s_void | apply s_guard | apply g_goT | apply g_goF); · simp only [go_sem, Nat.reduceEqDiff, Nat.reduceAdd, Nat.reduceLeDiff, hb]; (first | done | rfl))
    | ((first | apply g_T | apply g_F | apply g_gT | apply g_gF); · intro q1_; (first | intro q2_ | have q2_ := q1_); simp only [go_sem, Nat.reduceEqDiff, Nat.reduceAdd, Nat.reduceLeDiff, hb, q1_, q2_]; (first | done | rfl))
    | (apply w_condX; · simp only [go_sem, Nat.reduceEqDiff, Nat.reduceAdd, Nat.reduceLeDiff, hb]; (first | done | rfl)); (first | refine wcd_T ?_ | refine wcd_F ?_)
    | refine w_skip ?_ | refine w_exit ?_ | refine w_ret ?_
    | fail
    )
          refine ⟨⟨by unfold rhd; exact x2, by unfold rhd; exact x3⟩, fun j q1 q2 hj => ?_⟩
          by_cases hji : j = i
          · subst hji; exact hb
          · exact h4 j q1 q2 (by omega)
        | false =>
          have hne : likeLs ks ks' = false := by
            cases hL : likeLs ks ks' with
            | false => rfl
            | true => rw [(likeLs_get _ _ c7').1 hL i hi hi2] at hb; cases hb
          rw [hne]
          (repeat' first
    | refine w_seq ?_ | refine w_rg ?_ | refine wo_nil ?_ | refine g_skU ?_ | refine g_skT ?_ | refine g_skF ?_
    | ((first | apply s_plain | apply s_void | apply s_guard | apply g_goT | apply g_goF); · simp only [go_sem, Nat.reduceEqDiff, Nat.reduceAdd, Nat.reduceLeDiff, hb]; (first | done | rfl))
    | ((first | apply g_T | apply g_F | apply g_gT | apply g_gF); · intro q1_; (first | intro q2_ | have q2_ := q1_); simp only [go_sem, Nat.reduceEqDiff, Nat.reduceAdd, Nat.reduceLeDiff, hb, q1_, q2_]; (first | done | rfl))
    | (apply w_condX; · simp only [go_sem, Nat.reduceEqDiff, Nat.reduceAdd, Nat.reduceLeDiff, hb]; (first | done | rfl)); (first | refine wcd_T ?_ | refine wcd_F ?_)
    | refine w_skip ?_ | refine w_exit ?_ | refine w_ret ?_
    | fail
    )
          exact ⟨by first | exact .inr rfl | exact .inr trivial | exact .inl rfl, by simp only [go_sem, Nat.reduceEqDiff, Nat.reduceAdd, Nat.reduceLeDiff, retOf, resOf, Bool.and_false]; first | done | rfl⟩
      · rintro fr2 σ2 ⟨⟨x2, x3⟩, h4⟩ hfr
        have e1_2 := hfr 2 rfl; have e1_3 := hfr 3 rfl; try (simp only [go_sem, Nat.reduceEqDiff, Nat.reduceAdd, Nat.reduceLeDiff, e0_2, e0_3] at e1_2); try (simp only [go_sem, Nat.reduceEqDiff, Nat.reduceAdd, Nat.reduceLeDiff, e0_2, e0_3] at e1_3)
        try simp only [if_true]
        have hL : likeLs ks ks' = true := (likeLs_get _ _ c7').2 fun i q1 q2 => h4 i q1 q2 q1
        rw [hL]
        unfold rhd at x2 x3
        (repeat' first
    | refine w_seq ?_ | refine w_rg ?_ | refine wo_nil ?_ | refine g_skU ?_ | refine g_skT ?_ | refine g_skF ?_
    | ((first | apply s_plain | apply s_void | apply s_guard | apply g_goT | apply g_goF); · simp only [go_sem, Nat.reduceEqDiff, Nat.reduceAdd, Nat.reduceLeDiff, e1_2, e1_3, x2, x3, h36a, h36b]; (first | done | rfl))
    | ((first | apply g_T | apply g_F | apply g_gT | apply g_gF); · intro q1_; (first | intro q2_ | have q2_ := q1_); simp only [go_sem, Nat.reduceEqDiff, Nat.reduceAdd, Nat.reduceLeDiff, e1_2, e1_3, x2, x3, h36a, h36b, q1_, q2_]; (first | done | rfl))
    | (apply w_condX; · simp only [go_sem, Nat.reduceEqDiff, Nat.reduceAdd, Nat.reduceLeDiff, e1_2, e1_3, x2, x3, h36a, h36b]; (first | done | rfl)); (first | refine wcd_T ?_ | refine wcd_F ?_)
    | refine w_skip ?_ | refine w_exit ?_ | refine w_ret ?_
    | fail
    )
        exact ⟨by first | exact .inr rfl | exact .inr trivial | exact .inl rfl, by simp only [go_sem, Nat.reduceEqDiff, Nat.reduceAdd, Nat.reduceLeDiff, retOf, resOf, Bool.and_true]; first | done | rfl⟩
end

end
end Go.Proofs.YthkjlpjogojfiaaGreatDoorPv
