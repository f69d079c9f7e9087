/-
The law RulesFire.
-/
import Derived.Test.YtckcgppnppiccaaGreatDoorPvSs
namespace Go.Proofs.YtckcgppnppiccaaGreatDoorPv
open Go
set_option linter.unusedSimpArgs false
set_option linter.unusedVariables false
set_option maxHeartbeats 4000000
attribute [local go_sem ↓] e_mv e_pick e_bin e_eqs e_beq e_un e_cvi e_str e_s2b e_b2s e_box e_build e_bsl e_ld e_st e_nck e_mkf e_slcS e_slcL e_fa e_fld e_ia e_iaa e_ix e_ixa e_ext e_lenS e_lenL e_mnmx e_app e_msl e_call e_callv pa_t pa_c pa_f slcSP_str hiOf_some hiOf_none loOf_some loOf_none set_eq set_ne
attribute [local go_sem] pv pv1 simple frOf_0 frOf_1 frOf_2 frOf_3 frOf_4 frOf_5 ne_eq not_false_eq_true if_true Bool.false_eq_true if_false pbin punary Option.map_some Option.bind_some pick_and pick_or opt_true Bool.true_and Bool.and_self Bool.and_true Bool.true_or Bool.false_or Bool.not_true Bool.not_false callE pcall_eq List.map_cons List.map_nil List.append_nil List.nil_append List.cons_append mapM_cons' mapM_nil' dep_eq fz_sc fz_sl fz_em fz_fn fz_fp fz_agg fz_bx fz_ob Nat.lt_irrefl Nat.zero_lt_one Nat.lt_add_one flat clL cl Bool.or_true okc cells_agg cells_sc cells_sl cells_em cells_ob cells_fn cells_bx cells_fp List.length_cons List.length_nil Nat.zero_add and_self true_and and_true new_m new_c put_m put_c nil_m nil_c deref List.getElem?_cons_zero List.getElem?_cons_succ List.drop_zero List.drop_succ_cons List.take_succ_cons List.take_zero Nat.le_refl false_and and_false
set_option maxRecDepth 8000

/-- transhipment/transhipmentlaw08.RulesFire -/
def d183 : Def := (.code 4 [.tmp 8] (.seq (.rg false [⟨.some 4, .none, .box (.t 0)⟩, ⟨.some 5, .none, .box (.t 1)⟩, ⟨.some 8, .none, .mv (.c (.bool false))⟩]) (.seq (.rg true [⟨.some 13, .none, .ld (.some 8) (.t 4)⟩, ⟨.some 14, .none, .call 104 .strict [.t 13]⟩, ⟨.some 15, .none, .ld (.some 8) (.t 5)⟩, ⟨.some 16, .none, .call 104 .strict [.t 15]⟩, ⟨.some 17, .none, .mv (.t 3)⟩, ⟨.some 18, .none, .call 108 .strict [.t 17]⟩, ⟨.none, .none, .st 8 (.t 4) (.t 14)⟩, ⟨.none, .none, .st 8 (.t 5) (.t 16)⟩, ⟨.some 3, .none, .mv (.t 18)⟩]) (.seq (.rg false [⟨.some 20, .none, .ld (.some 8) (.t 4)⟩, ⟨.some 21, .none, .mv (.t 3)⟩, ⟨.some 22, .none, .call 109 .pure [.t 20, .t 21]⟩, ⟨.some 19, .none, .mv (.t 22)⟩, ⟨.some 23, .none, .ext (.t 19) 0⟩, ⟨.some 24, .none, .ext (.t 19) 1⟩, ⟨.some 9, .none, .mv (.t 23)⟩, ⟨.some 10, .none, .mv (.t 24)⟩]) (.seq (.seq (.rg true [⟨.some 25, .none, .ld (.some 8) (.t 4)⟩, ⟨.some 26, .none, .call 105 .strict [.t 25]⟩, ⟨.some 27, .none, .ld (.some 8) (.t 4)⟩, ⟨.some 28, .none, .call 187 .strict [.t 27]⟩, ⟨.some 29, .none, .beq true (.t 26) (.t 28)⟩, ⟨.some 30, .none, .mv (.t 29)⟩, ⟨.some 31, .some (30, false), .ld (.some 8) (.t 4)⟩, ⟨.some 32, .some (30, false), .ld (.some 8) (.t 5)⟩, ⟨.some 33, .some (30, false), .call 188 .strict [.t 31, .t 32]⟩, ⟨.some 34, .some (30, false), .ld (.some 8) (.t 4)⟩, ⟨.some 35, .some (30, false), .ld (.some 8) (.t 5)⟩, ⟨.some 36, .some (30, false), .call 189 .strict [.t 34, .t 35]⟩, ⟨.some 37, .some (30, false), .beq true (.t 33) (.t 36)⟩, ⟨.some 38, .none, .pick (.t 30) (.c (.bool true)) (.t 37)⟩, ⟨.some 39, .none, .mv (.t 38)⟩, ⟨.some 40, .some (39, false), .ld (.some 8) (.t 4)⟩, ⟨.some 41, .some (39, false), .ld (.some 8) (.t 4)⟩, ⟨.some 42, .some (39, false), .call 188 .strict [.t 40, .t 41]⟩, ⟨.some 43, .some (39, false), .un .not (.t 42)⟩, ⟨.some 44, .none, .pick (.t 39) (.c (.bool true)) (.t 43)⟩, ⟨.some 45, .none, .mv (.t 44)⟩, ⟨.some 46, .some (45, false), .ld (.some 8) (.t 4)⟩, ⟨.some 47, .some (45, false), .mv (.t 2)⟩, ⟨.some 48, .some (45, false), .call 107 .strict [.t 46, .t 47]⟩, ⟨.some 49, .some (45, false), .ld (.some 8) (.t 4)⟩, ⟨.some 50, .some (45, false), .call 187 .strict [.t 49]⟩, ⟨.some 51, .some (45, false), .mv (.t 50)⟩, ⟨.some 52, .some (51, true), .ld (.some 8) (.t 4)⟩, ⟨.some 53, .some (51, true), .mv (.t 2)⟩, ⟨.some 54, .some (51, true), .call 190 .strict [.t 52, .t 53]⟩, ⟨.some 55, .some (45, false), .pick (.t 51) (.t 54) (.c (.bool false))⟩, ⟨.some 56, .some (45, false), .beq true (.t 48) (.t 55)⟩, ⟨.some 57, .none, .pick (.t 45) (.c (.bool true)) (.t 56)⟩, ⟨.some 58, .none, .mv (.t 57)⟩, ⟨.some 59, .some (58, false), .call 106 .strict []⟩, ⟨.some 60, .some (58, false), .un .not (.t 59)⟩, ⟨.some 61, .none, .pick (.t 58) (.c (.bool true)) (.t 60)⟩]) (.cond (.t 61) (.seq (.rg false [⟨.some 8, .none, .mv (.c (.bool false))⟩]) .ret) .skip)) (.seq (.seq (.rg false [⟨.some 62, .none, .ld (.some 8) (.t 4)⟩, ⟨.some 63, .none, .call 187 .pure [.t 62]⟩, ⟨.some 64, .none, .un .not (.t 63)⟩, ⟨.some 65, .none, .mv (.t 64)⟩, ⟨.some 66, .some (65, false), .mv (.t 3)⟩, ⟨.some 67, .some (65, false), .call 110 .pure [.t 66]⟩, ⟨.some 68, .some (65, false), .un .not (.t 67)⟩, ⟨.some 69, .none, .pick (.t 65) (.c (.bool true)) (.t 68)⟩]) (.cond (.t 69) (.seq (.rg false [⟨.some 70, .none, .mv (.t 10)⟩, ⟨.some 71, .none, .bin .eql (.t 70) (.c (.int .i64 1))⟩, ⟨.some 72, .none, .mv (.t 71)⟩, ⟨.some 73, .some (72, true), .mv (.t 9)⟩, ⟨.some 74, .some (72, true), .lenL (.t 73)⟩, ⟨.some 75, .some (72, true), .bin .eql (.t 74) (.c (.int .i64 0))⟩, ⟨.some 76, .none, .pick (.t 72) (.t 75) (.c (.bool false))⟩, ⟨.some 8, .none, .mv (.t 76)⟩]) .ret) .skip)) (.seq (.rg false [⟨.some 77, .none, .mv (.t 3)⟩, ⟨.some 78, .none, .fa 7 (.t 4)⟩, ⟨.some 79, .none, .ld .none (.t 78)⟩, ⟨.some 80, .none, .call 191 .pure [.t 77, .t 79]⟩, ⟨.some 11, .none, .mv (.t 80)⟩]) (.seq (.rg false [⟨.some 81, .none, .mv (.t 11)⟩, ⟨.some 82, .none, .fa 0 (.t 4)⟩, ⟨.some 83, .none, .ld .none (.t 82)⟩, ⟨.some 84, .none, .build (.agg #[.string ⟨#[]⟩, .string ⟨#[]⟩]) [(0, (1, .c (.string ⟨#[97, 108, 101, 114, 116]⟩))), (1, (1, .t 83))]⟩, ⟨.some 85, .none, .bsl 2 (.agg #[.string ⟨#[]⟩, .string ⟨#[]⟩]) 1 [(0, .t 84)]⟩, ⟨.some 86, .none, .call 191 .pure [.t 81, .t 85]⟩, ⟨.some 12, .none, .mv (.t 86)⟩]) (.seq (.seq (.rg false [⟨.some 87, .none, .mv (.t 11)⟩, ⟨.some 88, .none, .lenL (.t 87)⟩, ⟨.some 89, .none, .bin .gtr (.t 88) (.c (.int .i64 8))⟩, ⟨.some 90, .none, .mv (.t 89)⟩, ⟨.some 91, .some (90, false), .mv (.t 12)⟩, ⟨.some 92, .some (90, false), .lenL (.t 91)⟩, ⟨.some 93, .some (90, false), .bin .gtr (.t 92) (.c (.int .i64 8))⟩, ⟨.some 94, .none, .pick (.t 90) (.c (.bool true)) (.t 93)⟩]) (.cond (.t 94) (.seq (.rg false [⟨.some 95, .none, .mv (.t 10)⟩, ⟨.some 96, .none, .bin .eql (.t 95) (.c (.int .i64 2))⟩, ⟨.some 97, .none, .mv (.t 96)⟩, ⟨.some 98, .some (97, true), .mv (.t 9)⟩, ⟨.some 99, .some (97, true), .lenL (.t 98)⟩, ⟨.some 100, .some (97, true), .bin .eql (.t 99) (.c (.int .i64 0))⟩, ⟨.some 101, .none, .pick (.t 97) (.t 100) (.c (.bool false))⟩, ⟨.some 8, .none, .mv (.t 101)⟩]) .ret) .skip)) (.seq (.rg false [⟨.some 102, .none, .mv (.t 10)⟩, ⟨.some 103, .none, .bin .eql (.t 102) (.c (.int .i64 0))⟩, ⟨.some 104, .none, .mv (.t 103)⟩, ⟨.some 105, .some (104, true), .mv (.t 9)⟩, ⟨.some 106, .some (104, true), .mv (.t 12)⟩, ⟨.some 107, .some (104, true), .call 192 .pure [.t 105, .t 106]⟩, ⟨.some 108, .none, .pick (.t 104) (.t 107) (.c (.bool false))⟩, ⟨.some 8, .none, .mv (.t 108)⟩]) .ret))))))))))

def lt : List (Nat × Def) := [(183, d183)]

section
variable {env : Nat → Option Def} {fr : Fr} {σ σ' : St} {K : Fr → St → Prop} {Q : X → Fr → St → Prop}

theorem word_value {s : ByteArray} (h : wordB s = true) : valueB s = true := by
  unfold wordB hasB at h
  unfold valueB filled hasB
  simp only [Bool.and_eq_true, Bool.not_eq_true', decide_eq_false_iff_not] at h ⊢
  refine ⟨h.1, ?_⟩
  have hn := found_no h.2
  rw [found_none (p := fun i => oddV (byteAt s i)) fun j hj => ?_]
  · decide
  · have := hn j hj
    unfold oddW at this
    unfold oddV
    simp only [Bool.and_eq_false_iff, Bool.or_eq_false_iff, decide_eq_false_iff_not, bne_eq_false_iff_eq] at this ⊢
    omega

theorem alert_right {n : ByteArray} (h : wordB n = true) : rightL [(alertT, n)] = true := by
  refine right_iff.2 ⟨fun m hm => ?_, List.pairwise_singleton _ _, by simp⟩
  simp at hm
  subst hm
  unfold mayB
  rw [word_value h]
  have : nameB alertT = true := by decide +kernel
  simp [this]

theorem rightR_parts {r : Rule} (h : rightR r = true) : wordB r.name = true ∧ 1 ≤ r.how ∧ r.how ≤ 5 ∧ rightL r.labels = true := by
  unfold rightR at h
  simp only [Bool.and_eq_true, decide_eq_true_eq] at h
  exact ⟨h.1.1.1.1.1.1.1.1.1, h.1.1.1.1.1.1.1.2, h.1.1.1.1.1.1.2, h.1.2⟩

theorem a183 (H : Has la env) (G : Has lc env) (F : Has lf env) (I : Has lg env) (J : Has li env) (L : Has ll env) (M : Has lm env) (N : Has ln env) (O : Has lo env) (P : Has lp env) (V : Has lq env) (R : Has lr env) (T : Has lt env) (B : Bits env)
    (hal : AV env 106 [] = some (.sc (.bool true))) {a b : Rule} {l : List Lab} (ha : a.labels.length ≤ 9223372036854775807) (hb : b.labels.length ≤ 9223372036854775807) (hl : l.length ≤ 9223372036854775807) (v : Int) :
    AV env 183 [rule a, rule b, .sc (.int .i64 v), .sl (labs l)] = some (.sc (.bool true)) := by
  have h104 := a104 J ha
  have h104' := a104 J hb
  have h108 := a108 J hl
  have hq := cutR_fits a
  have hp := cutR_fits b
  have hk : (fewL l).length ≤ 9223372036854775807 := by rw [fewL_len]; omega
  have hs := fewL_smalls l
  generalize cutR a = q at h104 hq
  generalize cutR b = p at h104' hp
  generalize fewL l = k at h108 hk hs
  have h109 := a109 H G F I O P V B hq hk hs
  have h105 := a105 H G F I hq
  have h187 := a187 H L M hq
  have h188 := a188 N (a := q) (b := p) hq.l
  have h189 := a189 N (a := q) (b := p) hq.l
  have h188' := a188 N (a := q) (b := q) hq.l
  rw [likeR_refl] at h188'
  have h107 := a107 H G F I hq v
  have h110 := a110 H L M hk hs
  have hkl := labs_len k
  refine AV_wp (T (183, d183) (by simp [lt])) rfl ?_
  unfold rule at h104 h104' h109 h105 h187 h188 h189 h188' h107 ⊢
  (repeat' first
    | refine w_seq ?_
    | refine w_rg ?_
    | refine wo_nil ?_
    | refine s_plain (by simp only [go_sem, Nat.reduceEqDiff, Nat.reduceAdd, Nat.reduceLeDiff, h104, h104', h108, h109, List.drop_zero, List.modify_zero_cons]; first | done | rfl) ?_
    | refine s_void (by simp only [go_sem, Nat.reduceEqDiff, Nat.reduceAdd, Nat.reduceLeDiff, h104, h104', h108, h109, List.drop_zero, List.modify_zero_cons]; first | done | rfl) ?_
    | refine s_guard (by simp only [go_sem, Nat.reduceEqDiff, Nat.reduceAdd, Nat.reduceLeDiff, h104, h104', h108, h109, List.drop_zero, List.modify_zero_cons]; first | done | rfl) ?_
    | refine g_skU ?_
    | refine g_T (by intro hb; simp only [go_sem, Nat.reduceEqDiff, Nat.reduceAdd, Nat.reduceLeDiff, h104, h104', h108, h109, List.drop_zero, List.modify_zero_cons, hb]; first | done | rfl) ?_
    | refine g_F (by intro hb; simp only [go_sem, Nat.reduceEqDiff, Nat.reduceAdd, Nat.reduceLeDiff, h104, h104', h108, h109, List.drop_zero, List.modify_zero_cons, hb]; first | done | rfl) ?_
    | refine g_gT (by intro hb hc; simp only [go_sem, Nat.reduceEqDiff, Nat.reduceAdd, Nat.reduceLeDiff, h104, h104', h108, h109, List.drop_zero, List.modify_zero_cons, hb, hc]; first | done | rfl) ?_
    | refine g_gF (by intro hb hc; simp only [go_sem, Nat.reduceEqDiff, Nat.reduceAdd, Nat.reduceLeDiff, h104, h104', h108, h109, List.drop_zero, List.modify_zero_cons, hb, hc]; first | done | rfl) ?_
    | refine g_skT ?_
    | refine g_skF ?_
    | refine g_goT (by simp only [go_sem, Nat.reduceEqDiff, Nat.reduceAdd, Nat.reduceLeDiff, h104, h104', h108, h109, List.drop_zero, List.modify_zero_cons]; first | done | rfl) ?_
    | refine g_goF (by simp only [go_sem, Nat.reduceEqDiff, Nat.reduceAdd, Nat.reduceLeDiff, h104, h104', h108, h109, List.drop_zero, List.modify_zero_cons]; first | done | rfl) ?_
    )
  cases hr : rightR q with
  | false =>
    rw [hr] at h105 h187 h107
    simp only [Bool.false_and] at h107
    have hlr : labelsR q k = ([], 1) := by unfold labelsR; rw [hr]; rfl
    rw [hlr]
    (repeat' first
    | refine w_seq ?_
    | refine w_rg ?_
    | refine wo_nil ?_
    | refine s_plain (by simp only [go_sem, Nat.reduceEqDiff, Nat.reduceAdd, Nat.reduceLeDiff, h105, h187, h188, h189, h188', h107, hal, List.drop_zero]; first | done | rfl) ?_
    | refine s_void (by simp only [go_sem, Nat.reduceEqDiff, Nat.reduceAdd, Nat.reduceLeDiff, h105, h187, h188, h189, h188', h107, hal, List.drop_zero]; first | done | rfl) ?_
    | refine s_guard (by simp only [go_sem, Nat.reduceEqDiff, Nat.reduceAdd, Nat.reduceLeDiff, h105, h187, h188, h189, h188', h107, hal, List.drop_zero]; first | done | rfl) ?_
    | refine g_skU ?_
    | refine g_T (by intro hb; simp only [go_sem, Nat.reduceEqDiff, Nat.reduceAdd, Nat.reduceLeDiff, h105, h187, h188, h189, h188', h107, hal, List.drop_zero, hb]; first | done | rfl) ?_
    | refine g_F (by intro hb; simp only [go_sem, Nat.reduceEqDiff, Nat.reduceAdd, Nat.reduceLeDiff, h105, h187, h188, h189, h188', h107, hal, List.drop_zero, hb]; first | done | rfl) ?_
    | refine g_gT (by intro hb hc; simp only [go_sem, Nat.reduceEqDiff, Nat.reduceAdd, Nat.reduceLeDiff, h105, h187, h188, h189, h188', h107, hal, List.drop_zero, hb, hc]; first | done | rfl) ?_
    | refine g_gF (by intro hb hc; simp only [go_sem, Nat.reduceEqDiff, Nat.reduceAdd, Nat.reduceLeDiff, h105, h187, h188, h189, h188', h107, hal, List.drop_zero, hb, hc]; first | done | rfl) ?_
    | refine g_skT ?_
    | refine g_skF ?_
    | refine g_goT (by simp only [go_sem, Nat.reduceEqDiff, Nat.reduceAdd, Nat.reduceLeDiff, h105, h187, h188, h189, h188', h107, hal, List.drop_zero]; first | done | rfl) ?_
    | refine g_goF (by simp only [go_sem, Nat.reduceEqDiff, Nat.reduceAdd, Nat.reduceLeDiff, h105, h187, h188, h189, h188', h107, hal, List.drop_zero]; first | done | rfl) ?_
    )
    refine g_gT (v := .sc (.bool false)) (by intro hb hc; cases hc) ?_
    (repeat' first
    | refine w_seq ?_
    | refine w_rg ?_
    | refine wo_nil ?_
    | refine s_plain (by simp only [go_sem, Nat.reduceEqDiff, Nat.reduceAdd, Nat.reduceLeDiff, h105, h187, h188, h189, h188', h107, hal, List.drop_zero]; first | done | rfl) ?_
    | refine s_void (by simp only [go_sem, Nat.reduceEqDiff, Nat.reduceAdd, Nat.reduceLeDiff, h105, h187, h188, h189, h188', h107, hal, List.drop_zero]; first | done | rfl) ?_
    | refine s_guard (by simp only [go_sem, Nat.reduceEqDiff, Nat.reduceAdd, Nat.reduceLeDiff, h105, h187, h188, h189, h188', h107, hal, List.drop_zero]; first | done | rfl) ?_
    | refine g_skU ?_
    | refine g_T (by intro hb; simp only [go_sem, Nat.reduceEqDiff, Nat.reduceAdd, Nat.reduceLeDiff, h105, h187, h188, h189, h188', h107, hal, List.drop_zero, hb]; first | done | rfl) ?_
    | refine g_F (by intro hb; simp only [go_sem, Nat.reduceEqDiff, Nat.reduceAdd, Nat.reduceLeDiff, h105, h187, h188, h189, h188', h107, hal, List.drop_zero, hb]; first | done | rfl) ?_
    | refine g_gT (by intro hb hc; simp only [go_sem, Nat.reduceEqDiff, Nat.reduceAdd, Nat.reduceLeDiff, h105, h187, h188, h189, h188', h107, hal, List.drop_zero, hb, hc]; first | done | rfl) ?_
    | refine g_gF (by intro hb hc; simp only [go_sem, Nat.reduceEqDiff, Nat.reduceAdd, Nat.reduceLeDiff, h105, h187, h188, h189, h188', h107, hal, List.drop_zero, hb, hc]; first | done | rfl) ?_
    | refine g_skT ?_
    | refine g_skF ?_
    | refine g_goT (by simp only [go_sem, Nat.reduceEqDiff, Nat.reduceAdd, Nat.reduceLeDiff, h105, h187, h188, h189, h188', h107, hal, List.drop_zero]; first | done | rfl) ?_
    | refine g_goF (by simp only [go_sem, Nat.reduceEqDiff, Nat.reduceAdd, Nat.reduceLeDiff, h105, h187, h188, h189, h188', h107, hal, List.drop_zero]; first | done | rfl) ?_
    )
    refine w_condF (by simp only [go_sem, Nat.reduceEqDiff, Nat.reduceAdd, Nat.reduceLeDiff]; generalize likeR q p = z; cases z; rfl; rfl) ?_
    (repeat' first
    | refine w_seq ?_
    | refine w_rg ?_
    | refine wo_nil ?_
    | refine s_plain (by simp only [go_sem, Nat.reduceEqDiff, Nat.reduceAdd, Nat.reduceLeDiff]; first | done | rfl) ?_
    | refine s_void (by simp only [go_sem, Nat.reduceEqDiff, Nat.reduceAdd, Nat.reduceLeDiff]; first | done | rfl) ?_
    | refine s_guard (by simp only [go_sem, Nat.reduceEqDiff, Nat.reduceAdd, Nat.reduceLeDiff]; first | done | rfl) ?_
    | refine g_skU ?_
    | refine g_T (by intro hb; simp only [go_sem, Nat.reduceEqDiff, Nat.reduceAdd, Nat.reduceLeDiff, hb]; first | done | rfl) ?_
    | refine g_F (by intro hb; simp only [go_sem, Nat.reduceEqDiff, Nat.reduceAdd, Nat.reduceLeDiff, hb]; first | done | rfl) ?_
    | refine g_gT (by intro hb hc; simp only [go_sem, Nat.reduceEqDiff, Nat.reduceAdd, Nat.reduceLeDiff, hb, hc]; first | done | rfl) ?_
    | refine g_gF (by intro hb hc; simp only [go_sem, Nat.reduceEqDiff, Nat.reduceAdd, Nat.reduceLeDiff, hb, hc]; first | done | rfl) ?_
    | refine g_skT ?_
    | refine g_skF ?_
    | refine g_goT (by simp only [go_sem, Nat.reduceEqDiff, Nat.reduceAdd, Nat.reduceLeDiff]; first | done | rfl) ?_
    | refine g_goF (by simp only [go_sem, Nat.reduceEqDiff, Nat.reduceAdd, Nat.reduceLeDiff]; first | done | rfl) ?_
    | refine w_condT (by simp only [go_sem, Nat.reduceEqDiff, Nat.reduceAdd, Nat.reduceLeDiff]; first | done | rfl) ?_
    | refine w_condF (by simp only [go_sem, Nat.reduceEqDiff, Nat.reduceAdd, Nat.reduceLeDiff]; first | done | rfl) ?_
    | refine w_skip ?_
    | refine w_exit ?_
    | refine w_ret ?_
    )
    (repeat' first
    | refine w_seq ?_
    | refine w_rg ?_
    | refine wo_nil ?_
    | refine s_plain (by simp only [go_sem, Nat.reduceEqDiff, Nat.reduceAdd, Nat.reduceLeDiff, h187, h110, List.drop_zero]; first | done | rfl) ?_
    | refine s_void (by simp only [go_sem, Nat.reduceEqDiff, Nat.reduceAdd, Nat.reduceLeDiff, h187, h110, List.drop_zero]; first | done | rfl) ?_
    | refine s_guard (by simp only [go_sem, Nat.reduceEqDiff, Nat.reduceAdd, Nat.reduceLeDiff, h187, h110, List.drop_zero]; first | done | rfl) ?_
    | refine g_skU ?_
    | refine g_T (by intro hb; simp only [go_sem, Nat.reduceEqDiff, Nat.reduceAdd, Nat.reduceLeDiff, h187, h110, List.drop_zero, hb]; first | done | rfl) ?_
    | refine g_F (by intro hb; simp only [go_sem, Nat.reduceEqDiff, Nat.reduceAdd, Nat.reduceLeDiff, h187, h110, List.drop_zero, hb]; first | done | rfl) ?_
    | refine g_gT (by intro hb hc; simp only [go_sem, Nat.reduceEqDiff, Nat.reduceAdd, Nat.reduceLeDiff, h187, h110, List.drop_zero, hb, hc]; first | done | rfl) ?_
    | refine g_gF (by intro hb hc; simp only [go_sem, Nat.reduceEqDiff, Nat.reduceAdd, Nat.reduceLeDiff, h187, h110, List.drop_zero, hb, hc]; first | done | rfl) ?_
    | refine g_skT ?_
    | refine g_skF ?_
    | refine g_goT (by simp only [go_sem, Nat.reduceEqDiff, Nat.reduceAdd, Nat.reduceLeDiff, h187, h110, List.drop_zero]; first | done | rfl) ?_
    | refine g_goF (by simp only [go_sem, Nat.reduceEqDiff, Nat.reduceAdd, Nat.reduceLeDiff, h187, h110, List.drop_zero]; first | done | rfl) ?_
    )
    refine w_condT (by simp only [go_sem, Nat.reduceEqDiff, Nat.reduceAdd, Nat.reduceLeDiff]; first | done | rfl) ?_
    (repeat' first
    | refine w_seq ?_
    | refine w_rg ?_
    | refine wo_nil ?_
    | refine s_plain (by simp only [go_sem, Nat.reduceEqDiff, Nat.reduceAdd, Nat.reduceLeDiff]; first | done | rfl) ?_
    | refine s_void (by simp only [go_sem, Nat.reduceEqDiff, Nat.reduceAdd, Nat.reduceLeDiff]; first | done | rfl) ?_
    | refine s_guard (by simp only [go_sem, Nat.reduceEqDiff, Nat.reduceAdd, Nat.reduceLeDiff]; first | done | rfl) ?_
    | refine g_skU ?_
    | refine g_T (by intro hb; simp only [go_sem, Nat.reduceEqDiff, Nat.reduceAdd, Nat.reduceLeDiff, hb]; first | done | rfl) ?_
    | refine g_F (by intro hb; simp only [go_sem, Nat.reduceEqDiff, Nat.reduceAdd, Nat.reduceLeDiff, hb]; first | done | rfl) ?_
    | refine g_gT (by intro hb hc; simp only [go_sem, Nat.reduceEqDiff, Nat.reduceAdd, Nat.reduceLeDiff, hb, hc]; first | done | rfl) ?_
    | refine g_gF (by intro hb hc; simp only [go_sem, Nat.reduceEqDiff, Nat.reduceAdd, Nat.reduceLeDiff, hb, hc]; first | done | rfl) ?_
    | refine g_skT ?_
    | refine g_skF ?_
    | refine g_goT (by simp only [go_sem, Nat.reduceEqDiff, Nat.reduceAdd, Nat.reduceLeDiff]; first | done | rfl) ?_
    | refine g_goF (by simp only [go_sem, Nat.reduceEqDiff, Nat.reduceAdd, Nat.reduceLeDiff]; first | done | rfl) ?_
    | refine w_condT (by simp only [go_sem, Nat.reduceEqDiff, Nat.reduceAdd, Nat.reduceLeDiff]; first | done | rfl) ?_
    | refine w_condF (by simp only [go_sem, Nat.reduceEqDiff, Nat.reduceAdd, Nat.reduceLeDiff]; first | done | rfl) ?_
    | refine w_skip ?_
    | refine w_exit ?_
    | refine w_ret ?_
    )
    exact ⟨.inr rfl, by simp only [go_sem, Nat.reduceEqDiff, Nat.reduceAdd, Nat.reduceLeDiff, retOf, resOf]; first | done | rfl⟩
  | true =>
    rw [hr] at h105 h187 h107
    simp only [Bool.true_and] at h107
    obtain ⟨w1, w2, w3, w4⟩ := rightR_parts hr
    have h190 := a190 M (r := q) v w2 w3
    unfold rule at h190
    (repeat' first
    | refine w_seq ?_
    | refine w_rg ?_
    | refine wo_nil ?_
    | refine s_plain (by simp only [go_sem, Nat.reduceEqDiff, Nat.reduceAdd, Nat.reduceLeDiff, h105, h187, h188, h189, h188', h107, h190, hal, List.drop_zero]; first | done | rfl) ?_
    | refine s_void (by simp only [go_sem, Nat.reduceEqDiff, Nat.reduceAdd, Nat.reduceLeDiff, h105, h187, h188, h189, h188', h107, h190, hal, List.drop_zero]; first | done | rfl) ?_
    | refine s_guard (by simp only [go_sem, Nat.reduceEqDiff, Nat.reduceAdd, Nat.reduceLeDiff, h105, h187, h188, h189, h188', h107, h190, hal, List.drop_zero]; first | done | rfl) ?_
    | refine g_skU ?_
    | refine g_T (by intro hb; simp only [go_sem, Nat.reduceEqDiff, Nat.reduceAdd, Nat.reduceLeDiff, h105, h187, h188, h189, h188', h107, h190, hal, List.drop_zero, hb]; first | done | rfl) ?_
    | refine g_F (by intro hb; simp only [go_sem, Nat.reduceEqDiff, Nat.reduceAdd, Nat.reduceLeDiff, h105, h187, h188, h189, h188', h107, h190, hal, List.drop_zero, hb]; first | done | rfl) ?_
    | refine g_gT (by intro hb hc; simp only [go_sem, Nat.reduceEqDiff, Nat.reduceAdd, Nat.reduceLeDiff, h105, h187, h188, h189, h188', h107, h190, hal, List.drop_zero, hb, hc]; first | done | rfl) ?_
    | refine g_gF (by intro hb hc; simp only [go_sem, Nat.reduceEqDiff, Nat.reduceAdd, Nat.reduceLeDiff, h105, h187, h188, h189, h188', h107, h190, hal, List.drop_zero, hb, hc]; first | done | rfl) ?_
    | refine g_skT ?_
    | refine g_skF ?_
    | refine g_goT (by simp only [go_sem, Nat.reduceEqDiff, Nat.reduceAdd, Nat.reduceLeDiff, h105, h187, h188, h189, h188', h107, h190, hal, List.drop_zero]; first | done | rfl) ?_
    | refine g_goF (by simp only [go_sem, Nat.reduceEqDiff, Nat.reduceAdd, Nat.reduceLeDiff, h105, h187, h188, h189, h188', h107, h190, hal, List.drop_zero]; first | done | rfl) ?_
    )
    refine w_condF (by simp only [go_sem, Nat.reduceEqDiff, Nat.reduceAdd, Nat.reduceLeDiff]; generalize likeR q p = z; generalize firesB q.how v q.limit = f; cases z; cases f; rfl; rfl; cases f; rfl; rfl) ?_
    (repeat' first
    | refine w_seq ?_
    | refine w_rg ?_
    | refine wo_nil ?_
    | refine s_plain (by simp only [go_sem, Nat.reduceEqDiff, Nat.reduceAdd, Nat.reduceLeDiff]; first | done | rfl) ?_
    | refine s_void (by simp only [go_sem, Nat.reduceEqDiff, Nat.reduceAdd, Nat.reduceLeDiff]; first | done | rfl) ?_
    | refine s_guard (by simp only [go_sem, Nat.reduceEqDiff, Nat.reduceAdd, Nat.reduceLeDiff]; first | done | rfl) ?_
    | refine g_skU ?_
    | refine g_T (by intro hb; simp only [go_sem, Nat.reduceEqDiff, Nat.reduceAdd, Nat.reduceLeDiff, hb]; first | done | rfl) ?_
    | refine g_F (by intro hb; simp only [go_sem, Nat.reduceEqDiff, Nat.reduceAdd, Nat.reduceLeDiff, hb]; first | done | rfl) ?_
    | refine g_gT (by intro hb hc; simp only [go_sem, Nat.reduceEqDiff, Nat.reduceAdd, Nat.reduceLeDiff, hb, hc]; first | done | rfl) ?_
    | refine g_gF (by intro hb hc; simp only [go_sem, Nat.reduceEqDiff, Nat.reduceAdd, Nat.reduceLeDiff, hb, hc]; first | done | rfl) ?_
    | refine g_skT ?_
    | refine g_skF ?_
    | refine g_goT (by simp only [go_sem, Nat.reduceEqDiff, Nat.reduceAdd, Nat.reduceLeDiff]; first | done | rfl) ?_
    | refine g_goF (by simp only [go_sem, Nat.reduceEqDiff, Nat.reduceAdd, Nat.reduceLeDiff]; first | done | rfl) ?_
    | refine w_condT (by simp only [go_sem, Nat.reduceEqDiff, Nat.reduceAdd, Nat.reduceLeDiff]; first | done | rfl) ?_
    | refine w_condF (by simp only [go_sem, Nat.reduceEqDiff, Nat.reduceAdd, Nat.reduceLeDiff]; first | done | rfl) ?_
    | refine w_skip ?_
    | refine w_exit ?_
    | refine w_ret ?_
    )
    (repeat' first
    | refine w_seq ?_
    | refine w_rg ?_
    | refine wo_nil ?_
    | refine s_plain (by simp only [go_sem, Nat.reduceEqDiff, Nat.reduceAdd, Nat.reduceLeDiff, h187, h110, List.drop_zero]; first | done | rfl) ?_
    | refine s_void (by simp only [go_sem, Nat.reduceEqDiff, Nat.reduceAdd, Nat.reduceLeDiff, h187, h110, List.drop_zero]; first | done | rfl) ?_
    | refine s_guard (by simp only [go_sem, Nat.reduceEqDiff, Nat.reduceAdd, Nat.reduceLeDiff, h187, h110, List.drop_zero]; first | done | rfl) ?_
    | refine g_skU ?_
    | refine g_T (by intro hb; simp only [go_sem, Nat.reduceEqDiff, Nat.reduceAdd, Nat.reduceLeDiff, h187, h110, List.drop_zero, hb]; first | done | rfl) ?_
    | refine g_F (by intro hb; simp only [go_sem, Nat.reduceEqDiff, Nat.reduceAdd, Nat.reduceLeDiff, h187, h110, List.drop_zero, hb]; first | done | rfl) ?_
    | refine g_gT (by intro hb hc; simp only [go_sem, Nat.reduceEqDiff, Nat.reduceAdd, Nat.reduceLeDiff, h187, h110, List.drop_zero, hb, hc]; first | done | rfl) ?_
    | refine g_gF (by intro hb hc; simp only [go_sem, Nat.reduceEqDiff, Nat.reduceAdd, Nat.reduceLeDiff, h187, h110, List.drop_zero, hb, hc]; first | done | rfl) ?_
    | refine g_skT ?_
    | refine g_skF ?_
    | refine g_goT (by simp only [go_sem, Nat.reduceEqDiff, Nat.reduceAdd, Nat.reduceLeDiff, h187, h110, List.drop_zero]; first | done | rfl) ?_
    | refine g_goF (by simp only [go_sem, Nat.reduceEqDiff, Nat.reduceAdd, Nat.reduceLeDiff, h187, h110, List.drop_zero]; first | done | rfl) ?_
    )
    cases hrk : rightL k with
    | false =>
      refine w_condT (by simp only [go_sem, Nat.reduceEqDiff, Nat.reduceAdd, Nat.reduceLeDiff, hrk]; first | done | rfl) ?_
      have hlr : labelsR q k = ([], 1) := by
        have hw : withL k q.labels = ([], 1) := by unfold withL; rw [hrk]; rfl
        unfold labelsR
        rw [hr, hw]
        rfl
      rw [hlr]
      (repeat' first
    | refine w_seq ?_
    | refine w_rg ?_
    | refine wo_nil ?_
    | refine s_plain (by simp only [go_sem, Nat.reduceEqDiff, Nat.reduceAdd, Nat.reduceLeDiff]; first | done | rfl) ?_
    | refine s_void (by simp only [go_sem, Nat.reduceEqDiff, Nat.reduceAdd, Nat.reduceLeDiff]; first | done | rfl) ?_
    | refine s_guard (by simp only [go_sem, Nat.reduceEqDiff, Nat.reduceAdd, Nat.reduceLeDiff]; first | done | rfl) ?_
    | refine g_skU ?_
    | refine g_T (by intro hb; simp only [go_sem, Nat.reduceEqDiff, Nat.reduceAdd, Nat.reduceLeDiff, hb]; first | done | rfl) ?_
    | refine g_F (by intro hb; simp only [go_sem, Nat.reduceEqDiff, Nat.reduceAdd, Nat.reduceLeDiff, hb]; first | done | rfl) ?_
    | refine g_gT (by intro hb hc; simp only [go_sem, Nat.reduceEqDiff, Nat.reduceAdd, Nat.reduceLeDiff, hb, hc]; first | done | rfl) ?_
    | refine g_gF (by intro hb hc; simp only [go_sem, Nat.reduceEqDiff, Nat.reduceAdd, Nat.reduceLeDiff, hb, hc]; first | done | rfl) ?_
    | refine g_skT ?_
    | refine g_skF ?_
    | refine g_goT (by simp only [go_sem, Nat.reduceEqDiff, Nat.reduceAdd, Nat.reduceLeDiff]; first | done | rfl) ?_
    | refine g_goF (by simp only [go_sem, Nat.reduceEqDiff, Nat.reduceAdd, Nat.reduceLeDiff]; first | done | rfl) ?_
    | refine w_condT (by simp only [go_sem, Nat.reduceEqDiff, Nat.reduceAdd, Nat.reduceLeDiff]; first | done | rfl) ?_
    | refine w_condF (by simp only [go_sem, Nat.reduceEqDiff, Nat.reduceAdd, Nat.reduceLeDiff]; first | done | rfl) ?_
    | refine w_skip ?_
    | refine w_exit ?_
    | refine w_ret ?_
    )
      exact ⟨.inr rfl, by simp only [go_sem, Nat.reduceEqDiff, Nat.reduceAdd, Nat.reduceLeDiff, retOf, resOf]; first | done | rfl⟩
    | true =>
      refine w_condF (by simp only [go_sem, Nat.reduceEqDiff, Nat.reduceAdd, Nat.reduceLeDiff, hrk]; first | done | rfl) ?_
      (repeat' first
    | refine w_seq ?_
    | refine w_rg ?_
    | refine wo_nil ?_
    | refine s_plain (by simp only [go_sem, Nat.reduceEqDiff, Nat.reduceAdd, Nat.reduceLeDiff]; first | done | rfl) ?_
    | refine s_void (by simp only [go_sem, Nat.reduceEqDiff, Nat.reduceAdd, Nat.reduceLeDiff]; first | done | rfl) ?_
    | refine s_guard (by simp only [go_sem, Nat.reduceEqDiff, Nat.reduceAdd, Nat.reduceLeDiff]; first | done | rfl) ?_
    | refine g_skU ?_
    | refine g_T (by intro hb; simp only [go_sem, Nat.reduceEqDiff, Nat.reduceAdd, Nat.reduceLeDiff, hb]; first | done | rfl) ?_
    | refine g_F (by intro hb; simp only [go_sem, Nat.reduceEqDiff, Nat.reduceAdd, Nat.reduceLeDiff, hb]; first | done | rfl) ?_
    | refine g_gT (by intro hb hc; simp only [go_sem, Nat.reduceEqDiff, Nat.reduceAdd, Nat.reduceLeDiff, hb, hc]; first | done | rfl) ?_
    | refine g_gF (by intro hb hc; simp only [go_sem, Nat.reduceEqDiff, Nat.reduceAdd, Nat.reduceLeDiff, hb, hc]; first | done | rfl) ?_
    | refine g_skT ?_
    | refine g_skF ?_
    | refine g_goT (by simp only [go_sem, Nat.reduceEqDiff, Nat.reduceAdd, Nat.reduceLeDiff]; first | done | rfl) ?_
    | refine g_goF (by simp only [go_sem, Nat.reduceEqDiff, Nat.reduceAdd, Nat.reduceLeDiff]; first | done | rfl) ?_
    | refine w_condT (by simp only [go_sem, Nat.reduceEqDiff, Nat.reduceAdd, Nat.reduceLeDiff]; first | done | rfl) ?_
    | refine w_condF (by simp only [go_sem, Nat.reduceEqDiff, Nat.reduceAdd, Nat.reduceLeDiff]; first | done | rfl) ?_
    | refine w_skip ?_
    | refine w_exit ?_
    | refine w_ret ?_
    )
      have kk := right_len hrk
      have kq := right_len w4
      have h191 := a191 L R (l := k) (over := q.labels) (by omega) hs (by omega) hq.s
      have hol := overL_len k q.labels
      have hfs : Smalls (sortedL (overL k q.labels)) := sorted_smalls (overL_smalls hs hq.s)
      have hsm : Smalls [(alertT, q.name)] := by
        intro m hm
        simp at hm
        subst hm
        exact ⟨show Small alertT by unfold Small; decide, hq.n⟩
      have hfl : (sortedL (overL k q.labels)).length = (overL k q.labels).length := sortedL_len _
      have h191' := a191 L R (l := sortedL (overL k q.labels)) (over := [(alertT, q.name)]) (by omega) hfs (by simp) hsm
      have hone : labs [(alertT, q.name)] = [.agg [.sc (.string ⟨#[97, 108, 101, 114, 116]⟩), .sc (.string q.name)]] := rfl
      rw [hone] at h191'
      have hll1 : ((labs (sortedL (overL k q.labels))).length : Int) = ((overL k q.labels).length : Int) := by rw [labs_len, hfl]
      have hll2 : ((labs (sortedL (overL (sortedL (overL k q.labels)) [(alertT, q.name)]))).length : Int) = ((overL (sortedL (overL k q.labels)) [(alertT, q.name)]).length : Int) := by rw [labs_len, sortedL_len]
      (repeat' first
    | refine w_seq ?_
    | refine w_rg ?_
    | refine wo_nil ?_
    | refine s_plain (by simp only [go_sem, Nat.reduceEqDiff, Nat.reduceAdd, Nat.reduceLeDiff, h191, h191', fillE, fillP, splice, List.replicate_succ, List.replicate_zero, List.set_cons_zero, List.take_succ_cons, List.drop_succ_cons, List.drop_zero]; first | done | rfl) ?_
    | refine s_void (by simp only [go_sem, Nat.reduceEqDiff, Nat.reduceAdd, Nat.reduceLeDiff, h191, h191', fillE, fillP, splice, List.replicate_succ, List.replicate_zero, List.set_cons_zero, List.take_succ_cons, List.drop_succ_cons, List.drop_zero]; first | done | rfl) ?_
    | refine s_guard (by simp only [go_sem, Nat.reduceEqDiff, Nat.reduceAdd, Nat.reduceLeDiff, h191, h191', fillE, fillP, splice, List.replicate_succ, List.replicate_zero, List.set_cons_zero, List.take_succ_cons, List.drop_succ_cons, List.drop_zero]; first | done | rfl) ?_
    | refine g_skU ?_
    | refine g_T (by intro hb; simp only [go_sem, Nat.reduceEqDiff, Nat.reduceAdd, Nat.reduceLeDiff, h191, h191', fillE, fillP, splice, List.replicate_succ, List.replicate_zero, List.set_cons_zero, List.take_succ_cons, List.drop_succ_cons, List.drop_zero, hb]; first | done | rfl) ?_
    | refine g_F (by intro hb; simp only [go_sem, Nat.reduceEqDiff, Nat.reduceAdd, Nat.reduceLeDiff, h191, h191', fillE, fillP, splice, List.replicate_succ, List.replicate_zero, List.set_cons_zero, List.take_succ_cons, List.drop_succ_cons, List.drop_zero, hb]; first | done | rfl) ?_
    | refine g_gT (by intro hb hc; simp only [go_sem, Nat.reduceEqDiff, Nat.reduceAdd, Nat.reduceLeDiff, h191, h191', fillE, fillP, splice, List.replicate_succ, List.replicate_zero, List.set_cons_zero, List.take_succ_cons, List.drop_succ_cons, List.drop_zero, hb, hc]; first | done | rfl) ?_
    | refine g_gF (by intro hb hc; simp only [go_sem, Nat.reduceEqDiff, Nat.reduceAdd, Nat.reduceLeDiff, h191, h191', fillE, fillP, splice, List.replicate_succ, List.replicate_zero, List.set_cons_zero, List.take_succ_cons, List.drop_succ_cons, List.drop_zero, hb, hc]; first | done | rfl) ?_
    | refine g_skT ?_
    | refine g_skF ?_
    | refine g_goT (by simp only [go_sem, Nat.reduceEqDiff, Nat.reduceAdd, Nat.reduceLeDiff, h191, h191', fillE, fillP, splice, List.replicate_succ, List.replicate_zero, List.set_cons_zero, List.take_succ_cons, List.drop_succ_cons, List.drop_zero]; first | done | rfl) ?_
    | refine g_goF (by simp only [go_sem, Nat.reduceEqDiff, Nat.reduceAdd, Nat.reduceLeDiff, h191, h191', fillE, fillP, splice, List.replicate_succ, List.replicate_zero, List.set_cons_zero, List.take_succ_cons, List.drop_succ_cons, List.drop_zero]; first | done | rfl) ?_
    )
      refine s_call (as := [.sl (labs (sortedL (overL k q.labels))), .sl [.agg [.sc (.string ⟨#[97, 108, 101, 114, 116]⟩), .sc (.string q.name)]]]) (by simp only [go_sem, Nat.reduceEqDiff, Nat.reduceAdd, Nat.reduceLeDiff, Nat.reduceAdd, List.drop_zero, List.take_succ_cons, List.take_zero]) h191' ?_
      intro σ'
      (repeat' first
    | refine w_seq ?_
    | refine w_rg ?_
    | refine wo_nil ?_
    | refine s_plain (by simp only [go_sem, Nat.reduceEqDiff, Nat.reduceAdd, Nat.reduceLeDiff, hll1, hll2]; first | done | rfl) ?_
    | refine s_void (by simp only [go_sem, Nat.reduceEqDiff, Nat.reduceAdd, Nat.reduceLeDiff, hll1, hll2]; first | done | rfl) ?_
    | refine s_guard (by simp only [go_sem, Nat.reduceEqDiff, Nat.reduceAdd, Nat.reduceLeDiff, hll1, hll2]; first | done | rfl) ?_
    | refine g_skU ?_
    | refine g_T (by intro hb; simp only [go_sem, Nat.reduceEqDiff, Nat.reduceAdd, Nat.reduceLeDiff, hll1, hll2, hb]; first | done | rfl) ?_
    | refine g_F (by intro hb; simp only [go_sem, Nat.reduceEqDiff, Nat.reduceAdd, Nat.reduceLeDiff, hll1, hll2, hb]; first | done | rfl) ?_
    | refine g_gT (by intro hb hc; simp only [go_sem, Nat.reduceEqDiff, Nat.reduceAdd, Nat.reduceLeDiff, hll1, hll2, hb, hc]; first | done | rfl) ?_
    | refine g_gF (by intro hb hc; simp only [go_sem, Nat.reduceEqDiff, Nat.reduceAdd, Nat.reduceLeDiff, hll1, hll2, hb, hc]; first | done | rfl) ?_
    | refine g_skT ?_
    | refine g_skF ?_
    | refine g_goT (by simp only [go_sem, Nat.reduceEqDiff, Nat.reduceAdd, Nat.reduceLeDiff, hll1, hll2]; first | done | rfl) ?_
    | refine g_goF (by simp only [go_sem, Nat.reduceEqDiff, Nat.reduceAdd, Nat.reduceLeDiff, hll1, hll2]; first | done | rfl) ?_
    )
      have hlr : labelsR q k = if (overL k q.labels).length > 8 then ([], 2) else if (overL (sortedL (overL k q.labels)) [(alertT, q.name)]).length > 8 then ([], 2) else (sortedL (overL (sortedL (overL k q.labels)) [(alertT, q.name)]), 0) := by
        unfold labelsR
        rw [hr, withL_right hrk w4]
        by_cases h8 : (overL k q.labels).length > 8
        · rw [if_pos h8, if_pos h8]; rfl
        · have hfr : rightL (sortedL (overL k q.labels)) = true := sorted_right (over_may hrk w4) (over_apart hrk w4) (by omega)
          rw [if_neg h8, if_neg h8, withL_right hfr (alert_right w1)]
          rfl
      by_cases h8 : (overL k q.labels).length > 8
      · have hd : decide (((overL k q.labels).length : Int) > 8) = true := decide_eq_true (by omega)
        rw [if_pos h8] at hlr
        rw [hlr, hd]
        refine w_condT (by simp only [go_sem, Nat.reduceEqDiff, Nat.reduceAdd, Nat.reduceLeDiff]; first | done | rfl) ?_
        (repeat' first
    | refine w_seq ?_
    | refine w_rg ?_
    | refine wo_nil ?_
    | refine s_plain (by simp only [go_sem, Nat.reduceEqDiff, Nat.reduceAdd, Nat.reduceLeDiff]; first | done | rfl) ?_
    | refine s_void (by simp only [go_sem, Nat.reduceEqDiff, Nat.reduceAdd, Nat.reduceLeDiff]; first | done | rfl) ?_
    | refine s_guard (by simp only [go_sem, Nat.reduceEqDiff, Nat.reduceAdd, Nat.reduceLeDiff]; first | done | rfl) ?_
    | refine g_skU ?_
    | refine g_T (by intro hb; simp only [go_sem, Nat.reduceEqDiff, Nat.reduceAdd, Nat.reduceLeDiff, hb]; first | done | rfl) ?_
    | refine g_F (by intro hb; simp only [go_sem, Nat.reduceEqDiff, Nat.reduceAdd, Nat.reduceLeDiff, hb]; first | done | rfl) ?_
    | refine g_gT (by intro hb hc; simp only [go_sem, Nat.reduceEqDiff, Nat.reduceAdd, Nat.reduceLeDiff, hb, hc]; first | done | rfl) ?_
    | refine g_gF (by intro hb hc; simp only [go_sem, Nat.reduceEqDiff, Nat.reduceAdd, Nat.reduceLeDiff, hb, hc]; first | done | rfl) ?_
    | refine g_skT ?_
    | refine g_skF ?_
    | refine g_goT (by simp only [go_sem, Nat.reduceEqDiff, Nat.reduceAdd, Nat.reduceLeDiff]; first | done | rfl) ?_
    | refine g_goF (by simp only [go_sem, Nat.reduceEqDiff, Nat.reduceAdd, Nat.reduceLeDiff]; first | done | rfl) ?_
    | refine w_condT (by simp only [go_sem, Nat.reduceEqDiff, Nat.reduceAdd, Nat.reduceLeDiff]; first | done | rfl) ?_
    | refine w_condF (by simp only [go_sem, Nat.reduceEqDiff, Nat.reduceAdd, Nat.reduceLeDiff]; first | done | rfl) ?_
    | refine w_skip ?_
    | refine w_exit ?_
    | refine w_ret ?_
    )
        exact ⟨.inr rfl, by simp only [go_sem, Nat.reduceEqDiff, Nat.reduceAdd, Nat.reduceLeDiff, retOf, resOf]; first | done | rfl⟩
      · have hd : decide (((overL k q.labels).length : Int) > 8) = false := decide_eq_false (by omega)
        rw [if_neg h8] at hlr
        by_cases h9 : (overL (sortedL (overL k q.labels)) [(alertT, q.name)]).length > 8
        · have hd' : decide (((overL (sortedL (overL k q.labels)) [(alertT, q.name)]).length : Int) > 8) = true := decide_eq_true (by omega)
          rw [if_pos h9] at hlr
          rw [hlr, hd, hd']
          refine w_condT (by simp only [go_sem, Nat.reduceEqDiff, Nat.reduceAdd, Nat.reduceLeDiff]; first | done | rfl) ?_
          (repeat' first
    | refine w_seq ?_
    | refine w_rg ?_
    | refine wo_nil ?_
    | refine s_plain (by simp only [go_sem, Nat.reduceEqDiff, Nat.reduceAdd, Nat.reduceLeDiff]; first | done | rfl) ?_
    | refine s_void (by simp only [go_sem, Nat.reduceEqDiff, Nat.reduceAdd, Nat.reduceLeDiff]; first | done | rfl) ?_
    | refine s_guard (by simp only [go_sem, Nat.reduceEqDiff, Nat.reduceAdd, Nat.reduceLeDiff]; first | done | rfl) ?_
    | refine g_skU ?_
    | refine g_T (by intro hb; simp only [go_sem, Nat.reduceEqDiff, Nat.reduceAdd, Nat.reduceLeDiff, hb]; first | done | rfl) ?_
    | refine g_F (by intro hb; simp only [go_sem, Nat.reduceEqDiff, Nat.reduceAdd, Nat.reduceLeDiff, hb]; first | done | rfl) ?_
    | refine g_gT (by intro hb hc; simp only [go_sem, Nat.reduceEqDiff, Nat.reduceAdd, Nat.reduceLeDiff, hb, hc]; first | done | rfl) ?_
    | refine g_gF (by intro hb hc; simp only [go_sem, Nat.reduceEqDiff, Nat.reduceAdd, Nat.reduceLeDiff, hb, hc]; first | done | rfl) ?_
    | refine g_skT ?_
    | refine g_skF ?_
    | refine g_goT (by simp only [go_sem, Nat.reduceEqDiff, Nat.reduceAdd, Nat.reduceLeDiff]; first | done | rfl) ?_
    | refine g_goF (by simp only [go_sem, Nat.reduceEqDiff, Nat.reduceAdd, Nat.reduceLeDiff]; first | done | rfl) ?_
    | refine w_condT (by simp only [go_sem, Nat.reduceEqDiff, Nat.reduceAdd, Nat.reduceLeDiff]; first | done | rfl) ?_
    | refine w_condF (by simp only [go_sem, Nat.reduceEqDiff, Nat.reduceAdd, Nat.reduceLeDiff]; first | done | rfl) ?_
    | refine w_skip ?_
    | refine w_exit ?_
    | refine w_ret ?_
    )
          exact ⟨.inr rfl, by simp only [go_sem, Nat.reduceEqDiff, Nat.reduceAdd, Nat.reduceLeDiff, retOf, resOf]; first | done | rfl⟩
        · have hd' : decide (((overL (sortedL (overL k q.labels)) [(alertT, q.name)]).length : Int) > 8) = false := decide_eq_false (by omega)
          rw [if_neg h9] at hlr
          have h192 := a192 N (a := sortedL (overL (sortedL (overL k q.labels)) [(alertT, q.name)])) (b := sortedL (overL (sortedL (overL k q.labels)) [(alertT, q.name)])) (by rw [sortedL_len]; omega)
          have hsame : sameL (sortedL (overL (sortedL (overL k q.labels)) [(alertT, q.name)])) (sortedL (overL (sortedL (overL k q.labels)) [(alertT, q.name)])) = true := by unfold sameL; exact decide_eq_true rfl
          rw [hsame] at h192
          rw [hlr, hd, hd']
          refine w_condF (by simp only [go_sem, Nat.reduceEqDiff, Nat.reduceAdd, Nat.reduceLeDiff]; first | done | rfl) ?_
          (repeat' first
    | refine w_seq ?_
    | refine w_rg ?_
    | refine wo_nil ?_
    | refine s_plain (by simp only [go_sem, Nat.reduceEqDiff, Nat.reduceAdd, Nat.reduceLeDiff, h192]; first | done | rfl) ?_
    | refine s_void (by simp only [go_sem, Nat.reduceEqDiff, Nat.reduceAdd, Nat.reduceLeDiff, h192]; first | done | rfl) ?_
    | refine s_guard (by simp only [go_sem, Nat.reduceEqDiff, Nat.reduceAdd, Nat.reduceLeDiff, h192]; first | done | rfl) ?_
    | refine g_skU ?_
    | refine g_T (by intro hb; simp only [go_sem, Nat.reduceEqDiff, Nat.reduceAdd, Nat.reduceLeDiff, h192, hb]; first | done | rfl) ?_
    | refine g_F (by intro hb; simp only [go_sem, Nat.reduceEqDiff, Nat.reduceAdd, Nat.reduceLeDiff, h192, hb]; first | done | rfl) ?_
    | refine g_gT (by intro hb hc; simp only [go_sem, Nat.reduceEqDiff, Nat.reduceAdd, Nat.reduceLeDiff, h192, hb, hc]; first | done | rfl) ?_
    | refine g_gF (by intro hb hc; simp only [go_sem, Nat.reduceEqDiff, Nat.reduceAdd, Nat.reduceLeDiff, h192, hb, hc]; first | done | rfl) ?_
    | refine g_skT ?_
    | refine g_skF ?_
    | refine g_goT (by simp only [go_sem, Nat.reduceEqDiff, Nat.reduceAdd, Nat.reduceLeDiff, h192]; first | done | rfl) ?_
    | refine g_goF (by simp only [go_sem, Nat.reduceEqDiff, Nat.reduceAdd, Nat.reduceLeDiff, h192]; first | done | rfl) ?_
    | refine w_condT (by simp only [go_sem, Nat.reduceEqDiff, Nat.reduceAdd, Nat.reduceLeDiff, h192]; first | done | rfl) ?_
    | refine w_condF (by simp only [go_sem, Nat.reduceEqDiff, Nat.reduceAdd, Nat.reduceLeDiff, h192]; first | done | rfl) ?_
    | refine w_skip ?_
    | refine w_exit ?_
    | refine w_ret ?_
    )
          exact ⟨.inr rfl, by simp only [go_sem, Nat.reduceEqDiff, Nat.reduceAdd, Nat.reduceLeDiff, retOf, resOf]; first | done | rfl⟩

end
end Go.Proofs.YtckcgppnppiccaaGreatDoorPv
