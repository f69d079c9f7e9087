/-
The law RulesOppose.
-/
import Derived.Test.YtckcgppnppiccaaDoorPvSj
namespace Go.Proofs.YtckcgppnppiccaaDoorPv
open Go
set_option linter.unusedSimpArgs false
set_option linter.unusedVariables false
set_option maxHeartbeats 4000000
attribute [local go_sem ↓] e_mv e_pick e_bin e_eqs e_beq e_un e_cvi e_str e_s2b e_b2s e_box e_build e_bsl e_ld e_st e_nck e_mkf e_slcS e_slcL e_fa e_fld e_ia e_iaa e_ix e_ixa e_ext e_lenS e_lenL e_mnmx e_app e_msl e_call e_callv pa_t pa_c pa_f slcSP_str hiOf_some hiOf_none loOf_some loOf_none set_eq set_ne
attribute [local go_sem] pv pv1 simple frOf_0 frOf_1 frOf_2 ne_eq not_false_eq_true if_true Bool.false_eq_true if_false pbin punary Option.map_some Option.bind_some pick_and pick_or opt_true Bool.true_and Bool.and_self Bool.and_true Bool.true_or Bool.false_or Bool.not_true Bool.not_false callE pcall_eq List.map_cons List.map_nil List.append_nil List.nil_append List.cons_append mapM_cons' mapM_nil' dep_eq fz_sc fz_sl fz_em fz_fn fz_fp fz_agg fz_bx fz_ob Nat.lt_irrefl Nat.zero_lt_one Nat.lt_add_one flat clL cl Bool.or_true okc cells_agg cells_sc cells_sl cells_em cells_ob cells_fn cells_bx cells_fp List.length_cons List.length_nil Nat.zero_add and_self true_and and_true new_m new_c put_m put_c nil_m nil_c deref List.getElem?_cons_zero List.getElem?_cons_succ List.drop_zero List.drop_succ_cons List.take_succ_cons List.take_zero Nat.le_refl
set_option maxRecDepth 8000

/-- transhipment/transhipmentlaw08.RulesOppose -/
def d102 : Def := (.code 2 [.tmp 4] (.seq (.rg false [⟨.some 2, .none, .box (.t 0)⟩, ⟨.some 4, .none, .mv (.c (.bool false))⟩]) (.seq (.rg false [⟨.some 8, .none, .ld (.some 8) (.t 2)⟩, ⟨.some 9, .none, .call 104 .pure [.t 8]⟩, ⟨.none, .none, .st 8 (.t 2) (.t 9)⟩]) (.seq (.seq (.rg false [⟨.some 10, .none, .ld (.some 8) (.t 2)⟩, ⟨.some 11, .none, .call 105 .pure [.t 10]⟩, ⟨.some 12, .none, .un .not (.t 11)⟩]) (.cond (.t 12) (.seq (.rg false [⟨.some 13, .none, .call 106 .pure []⟩, ⟨.some 14, .none, .mv (.t 13)⟩, ⟨.some 15, .some (14, true), .ld (.some 8) (.t 2)⟩, ⟨.some 16, .some (14, true), .mv (.t 1)⟩, ⟨.some 17, .some (14, true), .call 107 .pure [.t 15, .t 16]⟩, ⟨.some 18, .some (14, true), .un .not (.t 17)⟩, ⟨.some 19, .none, .pick (.t 14) (.t 18) (.c (.bool false))⟩, ⟨.some 4, .none, .mv (.t 19)⟩]) .ret) .skip)) (.seq (.rg false [⟨.some 5, .none, .box (.c (.agg #[.bool false, .bool false, .bool false, .bool false, .bool false, .bool false]))⟩, ⟨.some 6, .none, .box (.c (.agg #[.bool false, .bool false, .bool false, .bool false, .bool false, .bool false]))⟩]) (.seq (.seq (.rg false [⟨.some 7, .none, .mv (.c (.int .i64 1))⟩]) (.block 0 (.loop (.seq (.seq (.rg false [⟨.some 20, .none, .mv (.t 7)⟩, ⟨.some 21, .none, .bin .lss (.t 20) (.c (.int .i64 6))⟩]) (.cond (.t 21) .skip (.exit 0))) (.seq (.block 1 (.seq (.rg false [⟨.some 24, .none, .mv (.t 7)⟩, ⟨.some 25, .none, .fa 2 (.t 2)⟩, ⟨.none, .none, .st 1 (.t 25) (.t 24)⟩]) (.rg true [⟨.some 26, .none, .mv (.t 7)⟩, ⟨.some 27, .none, .mv (.t 7)⟩, ⟨.some 28, .none, .ld (.some 8) (.t 2)⟩, ⟨.some 29, .none, .mv (.t 1)⟩, ⟨.some 30, .none, .call 107 .strict [.t 28, .t 29]⟩, ⟨.some 31, .none, .ld (.some 8) (.t 2)⟩, ⟨.some 32, .none, .fa 3 (.t 2)⟩, ⟨.some 33, .none, .ld .none (.t 32)⟩, ⟨.some 34, .none, .call 107 .strict [.t 31, .t 33]⟩, ⟨.some 35, .none, .iaa 1 6 (.t 5) (.t 26)⟩, ⟨.none, .none, .st 1 (.t 35) (.t 30)⟩, ⟨.some 36, .none, .iaa 1 6 (.t 6) (.t 27)⟩, ⟨.none, .none, .st 1 (.t 36) (.t 34)⟩]))) (.rg false [⟨.some 22, .none, .mv (.t 7)⟩, ⟨.some 23, .none, .bin .add (.t 22) (.c (.int .i64 1))⟩, ⟨.some 7, .none, .mv (.t 23)⟩])))))) (.seq (.rg false [⟨.some 37, .none, .call 106 .pure []⟩, ⟨.some 38, .none, .mv (.t 37)⟩, ⟨.some 39, .some (38, true), .iaa 1 6 (.t 5) (.c (.int .i64 1))⟩, ⟨.some 40, .some (38, true), .ld .none (.t 39)⟩, ⟨.some 41, .some (38, true), .iaa 1 6 (.t 5) (.c (.int .i64 4))⟩, ⟨.some 42, .some (38, true), .ld .none (.t 41)⟩, ⟨.some 43, .some (38, true), .beq true (.t 40) (.t 42)⟩, ⟨.some 44, .none, .pick (.t 38) (.t 43) (.c (.bool false))⟩, ⟨.some 45, .none, .mv (.t 44)⟩, ⟨.some 46, .some (45, true), .iaa 1 6 (.t 5) (.c (.int .i64 2))⟩, ⟨.some 47, .some (45, true), .ld .none (.t 46)⟩, ⟨.some 48, .some (45, true), .iaa 1 6 (.t 5) (.c (.int .i64 3))⟩, ⟨.some 49, .some (45, true), .ld .none (.t 48)⟩, ⟨.some 50, .some (45, true), .beq true (.t 47) (.t 49)⟩, ⟨.some 51, .none, .pick (.t 45) (.t 50) (.c (.bool false))⟩, ⟨.some 52, .none, .mv (.t 51)⟩, ⟨.some 53, .some (52, true), .iaa 1 6 (.t 5) (.c (.int .i64 5))⟩, ⟨.some 54, .some (52, true), .ld .none (.t 53)⟩, ⟨.some 55, .some (52, true), .iaa 1 6 (.t 5) (.c (.int .i64 2))⟩, ⟨.some 56, .some (52, true), .ld .none (.t 55)⟩, ⟨.some 57, .some (52, true), .mv (.t 56)⟩, ⟨.some 58, .some (57, true), .iaa 1 6 (.t 5) (.c (.int .i64 4))⟩, ⟨.some 59, .some (57, true), .ld .none (.t 58)⟩, ⟨.some 60, .some (52, true), .pick (.t 57) (.t 59) (.c (.bool false))⟩, ⟨.some 61, .some (52, true), .beq false (.t 54) (.t 60)⟩, ⟨.some 62, .none, .pick (.t 52) (.t 61) (.c (.bool false))⟩, ⟨.some 63, .none, .mv (.t 62)⟩, ⟨.some 64, .some (63, true), .ld (.some 6) (.t 6)⟩, ⟨.some 65, .some (63, true), .build (.agg #[.bool false, .bool false, .bool false, .bool false, .bool false, .bool false]) [(2, (1, .c (.bool true))), (4, (1, .c (.bool true))), (5, (1, .c (.bool true)))]⟩, ⟨.some 66, .some (63, true), .eqs false [0, 0, 0, 0, 0, 0] (.t 64) (.t 65)⟩, ⟨.some 67, .none, .pick (.t 63) (.t 66) (.c (.bool false))⟩, ⟨.some 4, .none, .mv (.t 67)⟩]) .ret)))))))

def lk : List (Nat × Def) := [(102, d102)]

section
variable {env : Nat → Option Def} {fr : Fr} {σ : St} {K : Fr → St → Prop} {Q : X → Fr → St → Prop}

theorem w_loop_step {b : PC} (h : Wp env b (fun x fr' σ' => match x with | .normal => Wp env (.loop b) Q fr' σ' | x => Q x fr' σ') fr σ) : Wp env (.loop b) Q fr σ := by
  obtain ⟨x, f, s, h1, h2⟩ := h
  cases x with
  | normal =>
    obtain ⟨x, f', s', h3, h4⟩ := h2
    exact ⟨x, f', s', by rw [EC_loop, h1]; exact h3, h4⟩
  | exit id => exact ⟨.exit id, f, s, by rw [EC_loop, h1]; rfl, h2⟩
  | ret => exact ⟨.ret, f, s, by rw [EC_loop, h1]; rfl, h2⟩

theorem cutS_small (s : ByteArray) : Small (cutS 70 s) := by
  unfold Small cutS
  rw [ByteArray.size_extract]
  omega

theorem fewL_smalls (l : List Lab) : Smalls (fewL l) := by
  intro m hm
  simp only [fewL, List.mem_map] at hm
  obtain ⟨x, _, rfl⟩ := hm
  exact ⟨cutS_small _, cutS_small _⟩

theorem cutR_fits (r : Rule) : (cutR r).Fits := ⟨cutS_small _, cutS_small _, by simp only [cutR, fewL_len]; omega, fewL_smalls _⟩

theorem how_fits {r : Rule} (h : r.Fits) (i : Int) : ({ r with how := i } : Rule).Fits := ⟨h.n, h.m, h.l, h.s⟩

theorem how_right {r : Rule} (h : rightR r = true) {i : Int} (h1 : 1 ≤ i) (h5 : i ≤ 5) : rightR { r with how := i } = true := by
  unfold rightR restR at h ⊢
  simp only [Bool.and_eq_true, decide_eq_true_eq] at h ⊢
  obtain ⟨⟨⟨⟨⟨⟨⟨⟨⟨a1, a2⟩, a3⟩, a4⟩, a5⟩, a6⟩, a7⟩, a8⟩, a9⟩, a10⟩ := h
  exact ⟨⟨⟨⟨⟨⟨⟨⟨⟨a1, a2⟩, h1⟩, h5⟩, a5⟩, a6⟩, a7⟩, a8⟩, a9⟩, a10⟩

/-- What stands while the law's loop goes on. -/
structure At102 (r : Rule) (v : Int) (i : Int) (h : Int) (a b : List PV) (fr : Fr) (σ : St) : Prop where
  f1 : fr 1 = .sc (.int .i64 v)
  f2 : fr 2 = .bx 2 0 8 0 0
  f5 : fr 5 = .bx 5 0 6 0 0
  f6 : fr 6 = .bx 6 0 6 0 0
  f7 : fr 7 = .sc (.int .i64 i)
  m2 : σ.m 2 0 = some ⟨8, [rule { r with how := h }], true, true⟩
  m5 : σ.m 5 0 = some ⟨6, [.agg a], true, true⟩
  m6 : σ.m 6 0 = some ⟨6, [.agg b], true, true⟩

theorem w_gen {pc : PC} {J : Fr → St → Prop} (h : J fr σ) (h2 : ∀ fr σ, J fr σ → Wp env pc Q fr σ) : Wp env pc Q fr σ := h2 _ _ h

theorem a102 (H : Has la env) (G : Has lc env) (F : Has lf env) (I : Has lg env) (J : Has li env) (L : Has lk env) (hal : AV env 106 [] = some (.sc (.bool true))) {r : Rule} (hr : r.labels.length ≤ 9223372036854775807) (v : Int) :
    AV env 102 [rule r, .sc (.int .i64 v)] = some (.sc (.bool true)) := by
  have h104 := a104 J hr
  have hf := cutR_fits r
  generalize hq : cutR r = q at h104 hf
  have h105 := a105 H G F I hf
  have h107 := fun i w => a107 H G F I (how_fits hf i) w
  have h107' := a107 H G F I hf v
  refine AV_wp (L (102, d102) (by simp [lk])) rfl ?_
  unfold rule at h104 h105 h107 h107' ⊢
  simp only at h107
  cases hb : rightR q with
  | false =>
    rw [hb] at h105 h107'
    simp only [Bool.false_and] at h107'
    (repeat' first
    | refine w_seq ?_
    | refine w_rg ?_
    | refine wo_nil ?_
    | refine s_plain (by simp only [go_sem, Nat.reduceEqDiff, Nat.reduceAdd, Nat.reduceLeDiff, h104, h105, hal, h107', List.drop_zero, List.modify_zero_cons]; first | done | rfl) ?_
    | refine s_void (by simp only [go_sem, Nat.reduceEqDiff, Nat.reduceAdd, Nat.reduceLeDiff, h104, h105, hal, h107', List.drop_zero, List.modify_zero_cons]; first | done | rfl) ?_
    | refine s_guard (by simp only [go_sem, Nat.reduceEqDiff, Nat.reduceAdd, Nat.reduceLeDiff, h104, h105, hal, h107', List.drop_zero, List.modify_zero_cons]; first | done | rfl) ?_
    | refine g_skU ?_
    | refine g_T (by intro hb; simp only [go_sem, Nat.reduceEqDiff, Nat.reduceAdd, Nat.reduceLeDiff, h104, h105, hal, h107', List.drop_zero, List.modify_zero_cons, hb]; first | done | rfl) ?_
    | refine g_F (by intro hb; simp only [go_sem, Nat.reduceEqDiff, Nat.reduceAdd, Nat.reduceLeDiff, h104, h105, hal, h107', List.drop_zero, List.modify_zero_cons, hb]; first | done | rfl) ?_
    | refine g_gT (by intro hb hc; simp only [go_sem, Nat.reduceEqDiff, Nat.reduceAdd, Nat.reduceLeDiff, h104, h105, hal, h107', List.drop_zero, List.modify_zero_cons, hb, hc]; first | done | rfl) ?_
    | refine g_gF (by intro hb hc; simp only [go_sem, Nat.reduceEqDiff, Nat.reduceAdd, Nat.reduceLeDiff, h104, h105, hal, h107', List.drop_zero, List.modify_zero_cons, hb, hc]; first | done | rfl) ?_
    | refine g_skT ?_
    | refine g_skF ?_
    | refine g_goT (by simp only [go_sem, Nat.reduceEqDiff, Nat.reduceAdd, Nat.reduceLeDiff, h104, h105, hal, h107', List.drop_zero, List.modify_zero_cons]; first | done | rfl) ?_
    | refine g_goF (by simp only [go_sem, Nat.reduceEqDiff, Nat.reduceAdd, Nat.reduceLeDiff, h104, h105, hal, h107', List.drop_zero, List.modify_zero_cons]; first | done | rfl) ?_
    | refine w_condT (by simp only [go_sem, Nat.reduceEqDiff, Nat.reduceAdd, Nat.reduceLeDiff, h104, h105, hal, h107', List.drop_zero, List.modify_zero_cons]; first | done | rfl) ?_
    | refine w_condF (by simp only [go_sem, Nat.reduceEqDiff, Nat.reduceAdd, Nat.reduceLeDiff, h104, h105, hal, h107', List.drop_zero, List.modify_zero_cons]; first | done | rfl) ?_
    | refine w_skip ?_
    | refine w_exit ?_
    | refine w_ret ?_
    )
    exact ⟨.inr rfl, by simp only [go_sem, Nat.reduceEqDiff, Nat.reduceAdd, Nat.reduceLeDiff, retOf, resOf]; first | done | rfl⟩
  | true =>
    rw [hb] at h105
    (repeat' first
    | refine w_seq ?_
    | refine w_rg ?_
    | refine wo_nil ?_
    | refine s_plain (by simp only [go_sem, Nat.reduceEqDiff, Nat.reduceAdd, Nat.reduceLeDiff, h104, h105, hal, List.drop_zero, List.modify_zero_cons]; first | done | rfl) ?_
    | refine s_void (by simp only [go_sem, Nat.reduceEqDiff, Nat.reduceAdd, Nat.reduceLeDiff, h104, h105, hal, List.drop_zero, List.modify_zero_cons]; first | done | rfl) ?_
    | refine s_guard (by simp only [go_sem, Nat.reduceEqDiff, Nat.reduceAdd, Nat.reduceLeDiff, h104, h105, hal, List.drop_zero, List.modify_zero_cons]; first | done | rfl) ?_
    | refine g_skU ?_
    | refine g_T (by intro hb; simp only [go_sem, Nat.reduceEqDiff, Nat.reduceAdd, Nat.reduceLeDiff, h104, h105, hal, List.drop_zero, List.modify_zero_cons, hb]; first | done | rfl) ?_
    | refine g_F (by intro hb; simp only [go_sem, Nat.reduceEqDiff, Nat.reduceAdd, Nat.reduceLeDiff, h104, h105, hal, List.drop_zero, List.modify_zero_cons, hb]; first | done | rfl) ?_
    | refine g_gT (by intro hb hc; simp only [go_sem, Nat.reduceEqDiff, Nat.reduceAdd, Nat.reduceLeDiff, h104, h105, hal, List.drop_zero, List.modify_zero_cons, hb, hc]; first | done | rfl) ?_
    | refine g_gF (by intro hb hc; simp only [go_sem, Nat.reduceEqDiff, Nat.reduceAdd, Nat.reduceLeDiff, h104, h105, hal, List.drop_zero, List.modify_zero_cons, hb, hc]; first | done | rfl) ?_
    | refine g_skT ?_
    | refine g_skF ?_
    | refine g_goT (by simp only [go_sem, Nat.reduceEqDiff, Nat.reduceAdd, Nat.reduceLeDiff, h104, h105, hal, List.drop_zero, List.modify_zero_cons]; first | done | rfl) ?_
    | refine g_goF (by simp only [go_sem, Nat.reduceEqDiff, Nat.reduceAdd, Nat.reduceLeDiff, h104, h105, hal, List.drop_zero, List.modify_zero_cons]; first | done | rfl) ?_
    | refine w_condT (by simp only [go_sem, Nat.reduceEqDiff, Nat.reduceAdd, Nat.reduceLeDiff, h104, h105, hal, List.drop_zero, List.modify_zero_cons]; first | done | rfl) ?_
    | refine w_condF (by simp only [go_sem, Nat.reduceEqDiff, Nat.reduceAdd, Nat.reduceLeDiff, h104, h105, hal, List.drop_zero, List.modify_zero_cons]; first | done | rfl) ?_
    | refine w_skip ?_
    | refine w_exit ?_
    | refine w_ret ?_
    )
    refine w_block ?_
    have hw : ∀ i : Int, 1 ≤ i → i ≤ 5 → ∀ w, AV env 107 [.agg [.sc (.string q.name), .sc (.string q.metric), .sc (.int .i64 i), .sc (.int .i64 q.limit), .sc (.int .i64 q.for_), .sc (.int .i64 q.keep), .sc (.int .i64 q.tries), .sl (labs q.labels)], .sc (.int .i64 w)] = some (.sc (.bool (firesB i w q.limit))) := by
      intro i h1 h5 w
      rw [h107 i w, how_right hb h1 h5, Bool.true_and]
    have w1 := hw 1 (by decide) (by decide)
    have w2 := hw 2 (by decide) (by decide)
    have w3 := hw 3 (by decide) (by decide)
    have w4 := hw 4 (by decide) (by decide)
    have w5 := hw 5 (by decide) (by decide)
    refine w_gen (J := At102 q v 1 q.how [.sc (.bool false), .sc (.bool false), .sc (.bool false), .sc (.bool false), .sc (.bool false), .sc (.bool false)] [.sc (.bool false), .sc (.bool false), .sc (.bool false), .sc (.bool false), .sc (.bool false), .sc (.bool false)])
      ⟨by simp only [go_sem, Nat.reduceEqDiff, Nat.reduceAdd, Nat.reduceLeDiff], by simp only [go_sem, Nat.reduceEqDiff, Nat.reduceAdd, Nat.reduceLeDiff], by simp only [go_sem, Nat.reduceEqDiff, Nat.reduceAdd, Nat.reduceLeDiff], by simp only [go_sem, Nat.reduceEqDiff, Nat.reduceAdd, Nat.reduceLeDiff], by simp only [go_sem, Nat.reduceEqDiff, Nat.reduceAdd, Nat.reduceLeDiff], by simp only [go_sem, Nat.reduceEqDiff, Nat.reduceAdd, Nat.reduceLeDiff, rule], by simp only [go_sem, Nat.reduceEqDiff, Nat.reduceAdd, Nat.reduceLeDiff], by simp only [go_sem, Nat.reduceEqDiff, Nat.reduceAdd, Nat.reduceLeDiff]⟩ ?_
    rintro fr σ ⟨f1, f2, f5, f6, f7, m2, m5, m6⟩
    unfold rule at m2
    refine w_loop_step ?_
    (repeat' first
    | refine w_seq ?_
    | refine w_rg ?_
    | refine wo_nil ?_
    | refine s_plain (by simp only [go_sem, Nat.reduceEqDiff, Nat.reduceAdd, Nat.reduceLeDiff, f1, f2, f5, f6, f7, m2, m5, m6, w1, List.drop_zero, List.modify_zero_cons, splice, List.take_succ_cons, List.drop_succ_cons]; first | done | rfl) ?_
    | refine s_void (by simp only [go_sem, Nat.reduceEqDiff, Nat.reduceAdd, Nat.reduceLeDiff, f1, f2, f5, f6, f7, m2, m5, m6, w1, List.drop_zero, List.modify_zero_cons, splice, List.take_succ_cons, List.drop_succ_cons]; first | done | rfl) ?_
    | refine s_guard (by simp only [go_sem, Nat.reduceEqDiff, Nat.reduceAdd, Nat.reduceLeDiff, f1, f2, f5, f6, f7, m2, m5, m6, w1, List.drop_zero, List.modify_zero_cons, splice, List.take_succ_cons, List.drop_succ_cons]; first | done | rfl) ?_
    | refine g_skU ?_
    | refine g_T (by intro hb; simp only [go_sem, Nat.reduceEqDiff, Nat.reduceAdd, Nat.reduceLeDiff, f1, f2, f5, f6, f7, m2, m5, m6, w1, List.drop_zero, List.modify_zero_cons, splice, List.take_succ_cons, List.drop_succ_cons, hb]; first | done | rfl) ?_
    | refine g_F (by intro hb; simp only [go_sem, Nat.reduceEqDiff, Nat.reduceAdd, Nat.reduceLeDiff, f1, f2, f5, f6, f7, m2, m5, m6, w1, List.drop_zero, List.modify_zero_cons, splice, List.take_succ_cons, List.drop_succ_cons, hb]; first | done | rfl) ?_
    | refine g_gT (by intro hb hc; simp only [go_sem, Nat.reduceEqDiff, Nat.reduceAdd, Nat.reduceLeDiff, f1, f2, f5, f6, f7, m2, m5, m6, w1, List.drop_zero, List.modify_zero_cons, splice, List.take_succ_cons, List.drop_succ_cons, hb, hc]; first | done | rfl) ?_
    | refine g_gF (by intro hb hc; simp only [go_sem, Nat.reduceEqDiff, Nat.reduceAdd, Nat.reduceLeDiff, f1, f2, f5, f6, f7, m2, m5, m6, w1, List.drop_zero, List.modify_zero_cons, splice, List.take_succ_cons, List.drop_succ_cons, hb, hc]; first | done | rfl) ?_
    | refine g_skT ?_
    | refine g_skF ?_
    | refine g_goT (by simp only [go_sem, Nat.reduceEqDiff, Nat.reduceAdd, Nat.reduceLeDiff, f1, f2, f5, f6, f7, m2, m5, m6, w1, List.drop_zero, List.modify_zero_cons, splice, List.take_succ_cons, List.drop_succ_cons]; first | done | rfl) ?_
    | refine g_goF (by simp only [go_sem, Nat.reduceEqDiff, Nat.reduceAdd, Nat.reduceLeDiff, f1, f2, f5, f6, f7, m2, m5, m6, w1, List.drop_zero, List.modify_zero_cons, splice, List.take_succ_cons, List.drop_succ_cons]; first | done | rfl) ?_
    | refine w_condT (by simp only [go_sem, Nat.reduceEqDiff, Nat.reduceAdd, Nat.reduceLeDiff, f1, f2, f5, f6, f7, m2, m5, m6, w1, List.drop_zero, List.modify_zero_cons, splice, List.take_succ_cons, List.drop_succ_cons]; first | done | rfl) ?_
    | refine w_condF (by simp only [go_sem, Nat.reduceEqDiff, Nat.reduceAdd, Nat.reduceLeDiff, f1, f2, f5, f6, f7, m2, m5, m6, w1, List.drop_zero, List.modify_zero_cons, splice, List.take_succ_cons, List.drop_succ_cons]; first | done | rfl) ?_
    | refine w_skip ?_
    | refine w_exit ?_
    | refine w_ret ?_
    )
    refine w_block ?_
    (repeat' first
    | refine w_seq ?_
    | refine w_rg ?_
    | refine wo_nil ?_
    | refine s_plain (by simp only [go_sem, Nat.reduceEqDiff, Nat.reduceAdd, Nat.reduceLeDiff, f1, f2, f5, f6, f7, m2, m5, m6, w1, List.drop_zero, List.modify_zero_cons, splice, List.take_succ_cons, List.drop_succ_cons]; first | done | rfl) ?_
    | refine s_void (by simp only [go_sem, Nat.reduceEqDiff, Nat.reduceAdd, Nat.reduceLeDiff, f1, f2, f5, f6, f7, m2, m5, m6, w1, List.drop_zero, List.modify_zero_cons, splice, List.take_succ_cons, List.drop_succ_cons]; first | done | rfl) ?_
    | refine s_guard (by simp only [go_sem, Nat.reduceEqDiff, Nat.reduceAdd, Nat.reduceLeDiff, f1, f2, f5, f6, f7, m2, m5, m6, w1, List.drop_zero, List.modify_zero_cons, splice, List.take_succ_cons, List.drop_succ_cons]; first | done | rfl) ?_
    | refine g_skU ?_
    | refine g_T (by intro hb; simp only [go_sem, Nat.reduceEqDiff, Nat.reduceAdd, Nat.reduceLeDiff, f1, f2, f5, f6, f7, m2, m5, m6, w1, List.drop_zero, List.modify_zero_cons, splice, List.take_succ_cons, List.drop_succ_cons, hb]; first | done | rfl) ?_
    | refine g_F (by intro hb; simp only [go_sem, Nat.reduceEqDiff, Nat.reduceAdd, Nat.reduceLeDiff, f1, f2, f5, f6, f7, m2, m5, m6, w1, List.drop_zero, List.modify_zero_cons, splice, List.take_succ_cons, List.drop_succ_cons, hb]; first | done | rfl) ?_
    | refine g_gT (by intro hb hc; simp only [go_sem, Nat.reduceEqDiff, Nat.reduceAdd, Nat.reduceLeDiff, f1, f2, f5, f6, f7, m2, m5, m6, w1, List.drop_zero, List.modify_zero_cons, splice, List.take_succ_cons, List.drop_succ_cons, hb, hc]; first | done | rfl) ?_
    | refine g_gF (by intro hb hc; simp only [go_sem, Nat.reduceEqDiff, Nat.reduceAdd, Nat.reduceLeDiff, f1, f2, f5, f6, f7, m2, m5, m6, w1, List.drop_zero, List.modify_zero_cons, splice, List.take_succ_cons, List.drop_succ_cons, hb, hc]; first | done | rfl) ?_
    | refine g_skT ?_
    | refine g_skF ?_
    | refine g_goT (by simp only [go_sem, Nat.reduceEqDiff, Nat.reduceAdd, Nat.reduceLeDiff, f1, f2, f5, f6, f7, m2, m5, m6, w1, List.drop_zero, List.modify_zero_cons, splice, List.take_succ_cons, List.drop_succ_cons]; first | done | rfl) ?_
    | refine g_goF (by simp only [go_sem, Nat.reduceEqDiff, Nat.reduceAdd, Nat.reduceLeDiff, f1, f2, f5, f6, f7, m2, m5, m6, w1, List.drop_zero, List.modify_zero_cons, splice, List.take_succ_cons, List.drop_succ_cons]; first | done | rfl) ?_
    | refine w_condT (by simp only [go_sem, Nat.reduceEqDiff, Nat.reduceAdd, Nat.reduceLeDiff, f1, f2, f5, f6, f7, m2, m5, m6, w1, List.drop_zero, List.modify_zero_cons, splice, List.take_succ_cons, List.drop_succ_cons]; first | done | rfl) ?_
    | refine w_condF (by simp only [go_sem, Nat.reduceEqDiff, Nat.reduceAdd, Nat.reduceLeDiff, f1, f2, f5, f6, f7, m2, m5, m6, w1, List.drop_zero, List.modify_zero_cons, splice, List.take_succ_cons, List.drop_succ_cons]; first | done | rfl) ?_
    | refine w_skip ?_
    | refine w_exit ?_
    | refine w_ret ?_
    )
    refine w_gen (J := At102 q v 2 1 [.sc (.bool false), .sc (.bool (firesB 1 v q.limit)), .sc (.bool false), .sc (.bool false), .sc (.bool false), .sc (.bool false)] [.sc (.bool false), .sc (.bool (firesB 1 q.limit q.limit)), .sc (.bool false), .sc (.bool false), .sc (.bool false), .sc (.bool false)])
      ⟨by simp only [go_sem, Nat.reduceEqDiff, Nat.reduceAdd, Nat.reduceLeDiff, f1], by simp only [go_sem, Nat.reduceEqDiff, Nat.reduceAdd, Nat.reduceLeDiff, f2], by simp only [go_sem, Nat.reduceEqDiff, Nat.reduceAdd, Nat.reduceLeDiff, f5], by simp only [go_sem, Nat.reduceEqDiff, Nat.reduceAdd, Nat.reduceLeDiff, f6], by simp only [go_sem, Nat.reduceEqDiff, Nat.reduceAdd, Nat.reduceLeDiff]; first | done | rfl, by simp only [go_sem, Nat.reduceEqDiff, Nat.reduceAdd, Nat.reduceLeDiff, rule, m2, m5, m6]; first | done | rfl, by simp only [go_sem, Nat.reduceEqDiff, Nat.reduceAdd, Nat.reduceLeDiff, m2, m5, m6]; first | done | rfl, by simp only [go_sem, Nat.reduceEqDiff, Nat.reduceAdd, Nat.reduceLeDiff, m2, m5, m6]; first | done | rfl⟩ ?_
    clear f1 f2 f5 f6 f7 m2 m5 m6 fr σ
    rintro fr σ ⟨f1, f2, f5, f6, f7, m2, m5, m6⟩
    unfold rule at m2
    refine w_loop_step ?_
    (repeat' first
    | refine w_seq ?_
    | refine w_rg ?_
    | refine wo_nil ?_
    | refine s_plain (by simp only [go_sem, Nat.reduceEqDiff, Nat.reduceAdd, Nat.reduceLeDiff, f1, f2, f5, f6, f7, m2, m5, m6, w2, List.drop_zero, List.modify_zero_cons, splice, List.take_succ_cons, List.drop_succ_cons]; first | done | rfl) ?_
    | refine s_void (by simp only [go_sem, Nat.reduceEqDiff, Nat.reduceAdd, Nat.reduceLeDiff, f1, f2, f5, f6, f7, m2, m5, m6, w2, List.drop_zero, List.modify_zero_cons, splice, List.take_succ_cons, List.drop_succ_cons]; first | done | rfl) ?_
    | refine s_guard (by simp only [go_sem, Nat.reduceEqDiff, Nat.reduceAdd, Nat.reduceLeDiff, f1, f2, f5, f6, f7, m2, m5, m6, w2, List.drop_zero, List.modify_zero_cons, splice, List.take_succ_cons, List.drop_succ_cons]; first | done | rfl) ?_
    | refine g_skU ?_
    | refine g_T (by intro hb; simp only [go_sem, Nat.reduceEqDiff, Nat.reduceAdd, Nat.reduceLeDiff, f1, f2, f5, f6, f7, m2, m5, m6, w2, List.drop_zero, List.modify_zero_cons, splice, List.take_succ_cons, List.drop_succ_cons, hb]; first | done | rfl) ?_
    | refine g_F (by intro hb; simp only [go_sem, Nat.reduceEqDiff, Nat.reduceAdd, Nat.reduceLeDiff, f1, f2, f5, f6, f7, m2, m5, m6, w2, List.drop_zero, List.modify_zero_cons, splice, List.take_succ_cons, List.drop_succ_cons, hb]; first | done | rfl) ?_
    | refine g_gT (by intro hb hc; simp only [go_sem, Nat.reduceEqDiff, Nat.reduceAdd, Nat.reduceLeDiff, f1, f2, f5, f6, f7, m2, m5, m6, w2, List.drop_zero, List.modify_zero_cons, splice, List.take_succ_cons, List.drop_succ_cons, hb, hc]; first | done | rfl) ?_
    | refine g_gF (by intro hb hc; simp only [go_sem, Nat.reduceEqDiff, Nat.reduceAdd, Nat.reduceLeDiff, f1, f2, f5, f6, f7, m2, m5, m6, w2, List.drop_zero, List.modify_zero_cons, splice, List.take_succ_cons, List.drop_succ_cons, hb, hc]; first | done | rfl) ?_
    | refine g_skT ?_
    | refine g_skF ?_
    | refine g_goT (by simp only [go_sem, Nat.reduceEqDiff, Nat.reduceAdd, Nat.reduceLeDiff, f1, f2, f5, f6, f7, m2, m5, m6, w2, List.drop_zero, List.modify_zero_cons, splice, List.take_succ_cons, List.drop_succ_cons]; first | done | rfl) ?_
    | refine g_goF (by simp only [go_sem, Nat.reduceEqDiff, Nat.reduceAdd, Nat.reduceLeDiff, f1, f2, f5, f6, f7, m2, m5, m6, w2, List.drop_zero, List.modify_zero_cons, splice, List.take_succ_cons, List.drop_succ_cons]; first | done | rfl) ?_
    | refine w_condT (by simp only [go_sem, Nat.reduceEqDiff, Nat.reduceAdd, Nat.reduceLeDiff, f1, f2, f5, f6, f7, m2, m5, m6, w2, List.drop_zero, List.modify_zero_cons, splice, List.take_succ_cons, List.drop_succ_cons]; first | done | rfl) ?_
    | refine w_condF (by simp only [go_sem, Nat.reduceEqDiff, Nat.reduceAdd, Nat.reduceLeDiff, f1, f2, f5, f6, f7, m2, m5, m6, w2, List.drop_zero, List.modify_zero_cons, splice, List.take_succ_cons, List.drop_succ_cons]; first | done | rfl) ?_
    | refine w_skip ?_
    | refine w_exit ?_
    | refine w_ret ?_
    )
    refine w_block ?_
    (repeat' first
    | refine w_seq ?_
    | refine w_rg ?_
    | refine wo_nil ?_
    | refine s_plain (by simp only [go_sem, Nat.reduceEqDiff, Nat.reduceAdd, Nat.reduceLeDiff, f1, f2, f5, f6, f7, m2, m5, m6, w2, List.drop_zero, List.modify_zero_cons, splice, List.take_succ_cons, List.drop_succ_cons]; first | done | rfl) ?_
    | refine s_void (by simp only [go_sem, Nat.reduceEqDiff, Nat.reduceAdd, Nat.reduceLeDiff, f1, f2, f5, f6, f7, m2, m5, m6, w2, List.drop_zero, List.modify_zero_cons, splice, List.take_succ_cons, List.drop_succ_cons]; first | done | rfl) ?_
    | refine s_guard (by simp only [go_sem, Nat.reduceEqDiff, Nat.reduceAdd, Nat.reduceLeDiff, f1, f2, f5, f6, f7, m2, m5, m6, w2, List.drop_zero, List.modify_zero_cons, splice, List.take_succ_cons, List.drop_succ_cons]; first | done | rfl) ?_
    | refine g_skU ?_
    | refine g_T (by intro hb; simp only [go_sem, Nat.reduceEqDiff, Nat.reduceAdd, Nat.reduceLeDiff, f1, f2, f5, f6, f7, m2, m5, m6, w2, List.drop_zero, List.modify_zero_cons, splice, List.take_succ_cons, List.drop_succ_cons, hb]; first | done | rfl) ?_
    | refine g_F (by intro hb; simp only [go_sem, Nat.reduceEqDiff, Nat.reduceAdd, Nat.reduceLeDiff, f1, f2, f5, f6, f7, m2, m5, m6, w2, List.drop_zero, List.modify_zero_cons, splice, List.take_succ_cons, List.drop_succ_cons, hb]; first | done | rfl) ?_
    | refine g_gT (by intro hb hc; simp only [go_sem, Nat.reduceEqDiff, Nat.reduceAdd, Nat.reduceLeDiff, f1, f2, f5, f6, f7, m2, m5, m6, w2, List.drop_zero, List.modify_zero_cons, splice, List.take_succ_cons, List.drop_succ_cons, hb, hc]; first | done | rfl) ?_
    | refine g_gF (by intro hb hc; simp only [go_sem, Nat.reduceEqDiff, Nat.reduceAdd, Nat.reduceLeDiff, f1, f2, f5, f6, f7, m2, m5, m6, w2, List.drop_zero, List.modify_zero_cons, splice, List.take_succ_cons, List.drop_succ_cons, hb, hc]; first | done | rfl) ?_
    | refine g_skT ?_
    | refine g_skF ?_
    | refine g_goT (by simp only [go_sem, Nat.reduceEqDiff, Nat.reduceAdd, Nat.reduceLeDiff, f1, f2, f5, f6, f7, m2, m5, m6, w2, List.drop_zero, List.modify_zero_cons, splice, List.take_succ_cons, List.drop_succ_cons]; first | done | rfl) ?_
    | refine g_goF (by simp only [go_sem, Nat.reduceEqDiff, Nat.reduceAdd, Nat.reduceLeDiff, f1, f2, f5, f6, f7, m2, m5, m6, w2, List.drop_zero, List.modify_zero_cons, splice, List.take_succ_cons, List.drop_succ_cons]; first | done | rfl) ?_
    | refine w_condT (by simp only [go_sem, Nat.reduceEqDiff, Nat.reduceAdd, Nat.reduceLeDiff, f1, f2, f5, f6, f7, m2, m5, m6, w2, List.drop_zero, List.modify_zero_cons, splice, List.take_succ_cons, List.drop_succ_cons]; first | done | rfl) ?_
    | refine w_condF (by simp only [go_sem, Nat.reduceEqDiff, Nat.reduceAdd, Nat.reduceLeDiff, f1, f2, f5, f6, f7, m2, m5, m6, w2, List.drop_zero, List.modify_zero_cons, splice, List.take_succ_cons, List.drop_succ_cons]; first | done | rfl) ?_
    | refine w_skip ?_
    | refine w_exit ?_
    | refine w_ret ?_
    )
    refine w_gen (J := At102 q v 3 2 [.sc (.bool false), .sc (.bool (firesB 1 v q.limit)), .sc (.bool (firesB 2 v q.limit)), .sc (.bool false), .sc (.bool false), .sc (.bool false)] [.sc (.bool false), .sc (.bool (firesB 1 q.limit q.limit)), .sc (.bool (firesB 2 q.limit q.limit)), .sc (.bool false), .sc (.bool false), .sc (.bool false)])
      ⟨by simp only [go_sem, Nat.reduceEqDiff, Nat.reduceAdd, Nat.reduceLeDiff, f1], by simp only [go_sem, Nat.reduceEqDiff, Nat.reduceAdd, Nat.reduceLeDiff, f2], by simp only [go_sem, Nat.reduceEqDiff, Nat.reduceAdd, Nat.reduceLeDiff, f5], by simp only [go_sem, Nat.reduceEqDiff, Nat.reduceAdd, Nat.reduceLeDiff, f6], by simp only [go_sem, Nat.reduceEqDiff, Nat.reduceAdd, Nat.reduceLeDiff]; first | done | rfl, by simp only [go_sem, Nat.reduceEqDiff, Nat.reduceAdd, Nat.reduceLeDiff, rule, m2, m5, m6]; first | done | rfl, by simp only [go_sem, Nat.reduceEqDiff, Nat.reduceAdd, Nat.reduceLeDiff, m2, m5, m6]; first | done | rfl, by simp only [go_sem, Nat.reduceEqDiff, Nat.reduceAdd, Nat.reduceLeDiff, m2, m5, m6]; first | done | rfl⟩ ?_
    clear f1 f2 f5 f6 f7 m2 m5 m6 fr σ
    rintro fr σ ⟨f1, f2, f5, f6, f7, m2, m5, m6⟩
    unfold rule at m2
    refine w_loop_step ?_
    (repeat' first
    | refine w_seq ?_
    | refine w_rg ?_
    | refine wo_nil ?_
    | refine s_plain (by simp only [go_sem, Nat.reduceEqDiff, Nat.reduceAdd, Nat.reduceLeDiff, f1, f2, f5, f6, f7, m2, m5, m6, w3, List.drop_zero, List.modify_zero_cons, splice, List.take_succ_cons, List.drop_succ_cons]; first | done | rfl) ?_
    | refine s_void (by simp only [go_sem, Nat.reduceEqDiff, Nat.reduceAdd, Nat.reduceLeDiff, f1, f2, f5, f6, f7, m2, m5, m6, w3, List.drop_zero, List.modify_zero_cons, splice, List.take_succ_cons, List.drop_succ_cons]; first | done | rfl) ?_
    | refine s_guard (by simp only [go_sem, Nat.reduceEqDiff, Nat.reduceAdd, Nat.reduceLeDiff, f1, f2, f5, f6, f7, m2, m5, m6, w3, List.drop_zero, List.modify_zero_cons, splice, List.take_succ_cons, List.drop_succ_cons]; first | done | rfl) ?_
    | refine g_skU ?_
    | refine g_T (by intro hb; simp only [go_sem, Nat.reduceEqDiff, Nat.reduceAdd, Nat.reduceLeDiff, f1, f2, f5, f6, f7, m2, m5, m6, w3, List.drop_zero, List.modify_zero_cons, splice, List.take_succ_cons, List.drop_succ_cons, hb]; first | done | rfl) ?_
    | refine g_F (by intro hb; simp only [go_sem, Nat.reduceEqDiff, Nat.reduceAdd, Nat.reduceLeDiff, f1, f2, f5, f6, f7, m2, m5, m6, w3, List.drop_zero, List.modify_zero_cons, splice, List.take_succ_cons, List.drop_succ_cons, hb]; first | done | rfl) ?_
    | refine g_gT (by intro hb hc; simp only [go_sem, Nat.reduceEqDiff, Nat.reduceAdd, Nat.reduceLeDiff, f1, f2, f5, f6, f7, m2, m5, m6, w3, List.drop_zero, List.modify_zero_cons, splice, List.take_succ_cons, List.drop_succ_cons, hb, hc]; first | done | rfl) ?_
    | refine g_gF (by intro hb hc; simp only [go_sem, Nat.reduceEqDiff, Nat.reduceAdd, Nat.reduceLeDiff, f1, f2, f5, f6, f7, m2, m5, m6, w3, List.drop_zero, List.modify_zero_cons, splice, List.take_succ_cons, List.drop_succ_cons, hb, hc]; first | done | rfl) ?_
    | refine g_skT ?_
    | refine g_skF ?_
    | refine g_goT (by simp only [go_sem, Nat.reduceEqDiff, Nat.reduceAdd, Nat.reduceLeDiff, f1, f2, f5, f6, f7, m2, m5, m6, w3, List.drop_zero, List.modify_zero_cons, splice, List.take_succ_cons, List.drop_succ_cons]; first | done | rfl) ?_
    | refine g_goF (by simp only [go_sem, Nat.reduceEqDiff, Nat.reduceAdd, Nat.reduceLeDiff, f1, f2, f5, f6, f7, m2, m5, m6, w3, List.drop_zero, List.modify_zero_cons, splice, List.take_succ_cons, List.drop_succ_cons]; first | done | rfl) ?_
    | refine w_condT (by simp only [go_sem, Nat.reduceEqDiff, Nat.reduceAdd, Nat.reduceLeDiff, f1, f2, f5, f6, f7, m2, m5, m6, w3, List.drop_zero, List.modify_zero_cons, splice, List.take_succ_cons, List.drop_succ_cons]; first | done | rfl) ?_
    | refine w_condF (by simp only [go_sem, Nat.reduceEqDiff, Nat.reduceAdd, Nat.reduceLeDiff, f1, f2, f5, f6, f7, m2, m5, m6, w3, List.drop_zero, List.modify_zero_cons, splice, List.take_succ_cons, List.drop_succ_cons]; first | done | rfl) ?_
    | refine w_skip ?_
    | refine w_exit ?_
    | refine w_ret ?_
    )
    refine w_block ?_
    (repeat' first
    | refine w_seq ?_
    | refine w_rg ?_
    | refine wo_nil ?_
    | refine s_plain (by simp only [go_sem, Nat.reduceEqDiff, Nat.reduceAdd, Nat.reduceLeDiff, f1, f2, f5, f6, f7, m2, m5, m6, w3, List.drop_zero, List.modify_zero_cons, splice, List.take_succ_cons, List.drop_succ_cons]; first | done | rfl) ?_
    | refine s_void (by simp only [go_sem, Nat.reduceEqDiff, Nat.reduceAdd, Nat.reduceLeDiff, f1, f2, f5, f6, f7, m2, m5, m6, w3, List.drop_zero, List.modify_zero_cons, splice, List.take_succ_cons, List.drop_succ_cons]; first | done | rfl) ?_
    | refine s_guard (by simp only [go_sem, Nat.reduceEqDiff, Nat.reduceAdd, Nat.reduceLeDiff, f1, f2, f5, f6, f7, m2, m5, m6, w3, List.drop_zero, List.modify_zero_cons, splice, List.take_succ_cons, List.drop_succ_cons]; first | done | rfl) ?_
    | refine g_skU ?_
    | refine g_T (by intro hb; simp only [go_sem, Nat.reduceEqDiff, Nat.reduceAdd, Nat.reduceLeDiff, f1, f2, f5, f6, f7, m2, m5, m6, w3, List.drop_zero, List.modify_zero_cons, splice, List.take_succ_cons, List.drop_succ_cons, hb]; first | done | rfl) ?_
    | refine g_F (by intro hb; simp only [go_sem, Nat.reduceEqDiff, Nat.reduceAdd, Nat.reduceLeDiff, f1, f2, f5, f6, f7, m2, m5, m6, w3, List.drop_zero, List.modify_zero_cons, splice, List.take_succ_cons, List.drop_succ_cons, hb]; first | done | rfl) ?_
    | refine g_gT (by intro hb hc; simp only [go_sem, Nat.reduceEqDiff, Nat.reduceAdd, Nat.reduceLeDiff, f1, f2, f5, f6, f7, m2, m5, m6, w3, List.drop_zero, List.modify_zero_cons, splice, List.take_succ_cons, List.drop_succ_cons, hb, hc]; first | done | rfl) ?_
    | refine g_gF (by intro hb hc; simp only [go_sem, Nat.reduceEqDiff, Nat.reduceAdd, Nat.reduceLeDiff, f1, f2, f5, f6, f7, m2, m5, m6, w3, List.drop_zero, List.modify_zero_cons, splice, List.take_succ_cons, List.drop_succ_cons, hb, hc]; first | done | rfl) ?_
    | refine g_skT ?_
    | refine g_skF ?_
    | refine g_goT (by simp only [go_sem, Nat.reduceEqDiff, Nat.reduceAdd, Nat.reduceLeDiff, f1, f2, f5, f6, f7, m2, m5, m6, w3, List.drop_zero, List.modify_zero_cons, splice, List.take_succ_cons, List.drop_succ_cons]; first | done | rfl) ?_
    | refine g_goF (by simp only [go_sem, Nat.reduceEqDiff, Nat.reduceAdd, Nat.reduceLeDiff, f1, f2, f5, f6, f7, m2, m5, m6, w3, List.drop_zero, List.modify_zero_cons, splice, List.take_succ_cons, List.drop_succ_cons]; first | done | rfl) ?_
    | refine w_condT (by simp only [go_sem, Nat.reduceEqDiff, Nat.reduceAdd, Nat.reduceLeDiff, f1, f2, f5, f6, f7, m2, m5, m6, w3, List.drop_zero, List.modify_zero_cons, splice, List.take_succ_cons, List.drop_succ_cons]; first | done | rfl) ?_
    | refine w_condF (by simp only [go_sem, Nat.reduceEqDiff, Nat.reduceAdd, Nat.reduceLeDiff, f1, f2, f5, f6, f7, m2, m5, m6, w3, List.drop_zero, List.modify_zero_cons, splice, List.take_succ_cons, List.drop_succ_cons]; first | done | rfl) ?_
    | refine w_skip ?_
    | refine w_exit ?_
    | refine w_ret ?_
    )
    refine w_gen (J := At102 q v 4 3 [.sc (.bool false), .sc (.bool (firesB 1 v q.limit)), .sc (.bool (firesB 2 v q.limit)), .sc (.bool (firesB 3 v q.limit)), .sc (.bool false), .sc (.bool false)] [.sc (.bool false), .sc (.bool (firesB 1 q.limit q.limit)), .sc (.bool (firesB 2 q.limit q.limit)), .sc (.bool (firesB 3 q.limit q.limit)), .sc (.bool false), .sc (.bool false)])
      ⟨by simp only [go_sem, Nat.reduceEqDiff, Nat.reduceAdd, Nat.reduceLeDiff, f1], by simp only [go_sem, Nat.reduceEqDiff, Nat.reduceAdd, Nat.reduceLeDiff, f2], by simp only [go_sem, Nat.reduceEqDiff, Nat.reduceAdd, Nat.reduceLeDiff, f5], by simp only [go_sem, Nat.reduceEqDiff, Nat.reduceAdd, Nat.reduceLeDiff, f6], by simp only [go_sem, Nat.reduceEqDiff, Nat.reduceAdd, Nat.reduceLeDiff]; first | done | rfl, by simp only [go_sem, Nat.reduceEqDiff, Nat.reduceAdd, Nat.reduceLeDiff, rule, m2, m5, m6]; first | done | rfl, by simp only [go_sem, Nat.reduceEqDiff, Nat.reduceAdd, Nat.reduceLeDiff, m2, m5, m6]; first | done | rfl, by simp only [go_sem, Nat.reduceEqDiff, Nat.reduceAdd, Nat.reduceLeDiff, m2, m5, m6]; first | done | rfl⟩ ?_
    clear f1 f2 f5 f6 f7 m2 m5 m6 fr σ
    rintro fr σ ⟨f1, f2, f5, f6, f7, m2, m5, m6⟩
    unfold rule at m2
    refine w_loop_step ?_
    (repeat' first
    | refine w_seq ?_
    | refine w_rg ?_
    | refine wo_nil ?_
    | refine s_plain (by simp only [go_sem, Nat.reduceEqDiff, Nat.reduceAdd, Nat.reduceLeDiff, f1, f2, f5, f6, f7, m2, m5, m6, w4, List.drop_zero, List.modify_zero_cons, splice, List.take_succ_cons, List.drop_succ_cons]; first | done | rfl) ?_
    | refine s_void (by simp only [go_sem, Nat.reduceEqDiff, Nat.reduceAdd, Nat.reduceLeDiff, f1, f2, f5, f6, f7, m2, m5, m6, w4, List.drop_zero, List.modify_zero_cons, splice, List.take_succ_cons, List.drop_succ_cons]; first | done | rfl) ?_
    | refine s_guard (by simp only [go_sem, Nat.reduceEqDiff, Nat.reduceAdd, Nat.reduceLeDiff, f1, f2, f5, f6, f7, m2, m5, m6, w4, List.drop_zero, List.modify_zero_cons, splice, List.take_succ_cons, List.drop_succ_cons]; first | done | rfl) ?_
    | refine g_skU ?_
    | refine g_T (by intro hb; simp only [go_sem, Nat.reduceEqDiff, Nat.reduceAdd, Nat.reduceLeDiff, f1, f2, f5, f6, f7, m2, m5, m6, w4, List.drop_zero, List.modify_zero_cons, splice, List.take_succ_cons, List.drop_succ_cons, hb]; first | done | rfl) ?_
    | refine g_F (by intro hb; simp only [go_sem, Nat.reduceEqDiff, Nat.reduceAdd, Nat.reduceLeDiff, f1, f2, f5, f6, f7, m2, m5, m6, w4, List.drop_zero, List.modify_zero_cons, splice, List.take_succ_cons, List.drop_succ_cons, hb]; first | done | rfl) ?_
    | refine g_gT (by intro hb hc; simp only [go_sem, Nat.reduceEqDiff, Nat.reduceAdd, Nat.reduceLeDiff, f1, f2, f5, f6, f7, m2, m5, m6, w4, List.drop_zero, List.modify_zero_cons, splice, List.take_succ_cons, List.drop_succ_cons, hb, hc]; first | done | rfl) ?_
    | refine g_gF (by intro hb hc; simp only [go_sem, Nat.reduceEqDiff, Nat.reduceAdd, Nat.reduceLeDiff, f1, f2, f5, f6, f7, m2, m5, m6, w4, List.drop_zero, List.modify_zero_cons, splice, List.take_succ_cons, List.drop_succ_cons, hb, hc]; first | done | rfl) ?_
    | refine g_skT ?_
    | refine g_skF ?_
    | refine g_goT (by simp only [go_sem, Nat.reduceEqDiff, Nat.reduceAdd, Nat.reduceLeDiff, f1, f2, f5, f6, f7, m2, m5, m6, w4, List.drop_zero, List.modify_zero_cons, splice, List.take_succ_cons, List.drop_succ_cons]; first | done | rfl) ?_
    | refine g_goF (by simp only [go_sem, Nat.reduceEqDiff, Nat.reduceAdd, Nat.reduceLeDiff, f1, f2, f5, f6, f7, m2, m5, m6, w4, List.drop_zero, List.modify_zero_cons, splice, List.take_succ_cons, List.drop_succ_cons]; first | done | rfl) ?_
    | refine w_condT (by simp only [go_sem, Nat.reduceEqDiff, Nat.reduceAdd, Nat.reduceLeDiff, f1, f2, f5, f6, f7, m2, m5, m6, w4, List.drop_zero, List.modify_zero_cons, splice, List.take_succ_cons, List.drop_succ_cons]; first | done | rfl) ?_
    | refine w_condF (by simp only [go_sem, Nat.reduceEqDiff, Nat.reduceAdd, Nat.reduceLeDiff, f1, f2, f5, f6, f7, m2, m5, m6, w4, List.drop_zero, List.modify_zero_cons, splice, List.take_succ_cons, List.drop_succ_cons]; first | done | rfl) ?_
    | refine w_skip ?_
    | refine w_exit ?_
    | refine w_ret ?_
    )
    refine w_block ?_
    (repeat' first
    | refine w_seq ?_
    | refine w_rg ?_
    | refine wo_nil ?_
    | refine s_plain (by simp only [go_sem, Nat.reduceEqDiff, Nat.reduceAdd, Nat.reduceLeDiff, f1, f2, f5, f6, f7, m2, m5, m6, w4, List.drop_zero, List.modify_zero_cons, splice, List.take_succ_cons, List.drop_succ_cons]; first | done | rfl) ?_
    | refine s_void (by simp only [go_sem, Nat.reduceEqDiff, Nat.reduceAdd, Nat.reduceLeDiff, f1, f2, f5, f6, f7, m2, m5, m6, w4, List.drop_zero, List.modify_zero_cons, splice, List.take_succ_cons, List.drop_succ_cons]; first | done | rfl) ?_
    | refine s_guard (by simp only [go_sem, Nat.reduceEqDiff, Nat.reduceAdd, Nat.reduceLeDiff, f1, f2, f5, f6, f7, m2, m5, m6, w4, List.drop_zero, List.modify_zero_cons, splice, List.take_succ_cons, List.drop_succ_cons]; first | done | rfl) ?_
    | refine g_skU ?_
    | refine g_T (by intro hb; simp only [go_sem, Nat.reduceEqDiff, Nat.reduceAdd, Nat.reduceLeDiff, f1, f2, f5, f6, f7, m2, m5, m6, w4, List.drop_zero, List.modify_zero_cons, splice, List.take_succ_cons, List.drop_succ_cons, hb]; first | done | rfl) ?_
    | refine g_F (by intro hb; simp only [go_sem, Nat.reduceEqDiff, Nat.reduceAdd, Nat.reduceLeDiff, f1, f2, f5, f6, f7, m2, m5, m6, w4, List.drop_zero, List.modify_zero_cons, splice, List.take_succ_cons, List.drop_succ_cons, hb]; first | done | rfl) ?_
    | refine g_gT (by intro hb hc; simp only [go_sem, Nat.reduceEqDiff, Nat.reduceAdd, Nat.reduceLeDiff, f1, f2, f5, f6, f7, m2, m5, m6, w4, List.drop_zero, List.modify_zero_cons, splice, List.take_succ_cons, List.drop_succ_cons, hb, hc]; first | done | rfl) ?_
    | refine g_gF (by intro hb hc; simp only [go_sem, Nat.reduceEqDiff, Nat.reduceAdd, Nat.reduceLeDiff, f1, f2, f5, f6, f7, m2, m5, m6, w4, List.drop_zero, List.modify_zero_cons, splice, List.take_succ_cons, List.drop_succ_cons, hb, hc]; first | done | rfl) ?_
    | refine g_skT ?_
    | refine g_skF ?_
    | refine g_goT (by simp only [go_sem, Nat.reduceEqDiff, Nat.reduceAdd, Nat.reduceLeDiff, f1, f2, f5, f6, f7, m2, m5, m6, w4, List.drop_zero, List.modify_zero_cons, splice, List.take_succ_cons, List.drop_succ_cons]; first | done | rfl) ?_
    | refine g_goF (by simp only [go_sem, Nat.reduceEqDiff, Nat.reduceAdd, Nat.reduceLeDiff, f1, f2, f5, f6, f7, m2, m5, m6, w4, List.drop_zero, List.modify_zero_cons, splice, List.take_succ_cons, List.drop_succ_cons]; first | done | rfl) ?_
    | refine w_condT (by simp only [go_sem, Nat.reduceEqDiff, Nat.reduceAdd, Nat.reduceLeDiff, f1, f2, f5, f6, f7, m2, m5, m6, w4, List.drop_zero, List.modify_zero_cons, splice, List.take_succ_cons, List.drop_succ_cons]; first | done | rfl) ?_
    | refine w_condF (by simp only [go_sem, Nat.reduceEqDiff, Nat.reduceAdd, Nat.reduceLeDiff, f1, f2, f5, f6, f7, m2, m5, m6, w4, List.drop_zero, List.modify_zero_cons, splice, List.take_succ_cons, List.drop_succ_cons]; first | done | rfl) ?_
    | refine w_skip ?_
    | refine w_exit ?_
    | refine w_ret ?_
    )
    refine w_gen (J := At102 q v 5 4 [.sc (.bool false), .sc (.bool (firesB 1 v q.limit)), .sc (.bool (firesB 2 v q.limit)), .sc (.bool (firesB 3 v q.limit)), .sc (.bool (firesB 4 v q.limit)), .sc (.bool false)] [.sc (.bool false), .sc (.bool (firesB 1 q.limit q.limit)), .sc (.bool (firesB 2 q.limit q.limit)), .sc (.bool (firesB 3 q.limit q.limit)), .sc (.bool (firesB 4 q.limit q.limit)), .sc (.bool false)])
      ⟨by simp only [go_sem, Nat.reduceEqDiff, Nat.reduceAdd, Nat.reduceLeDiff, f1], by simp only [go_sem, Nat.reduceEqDiff, Nat.reduceAdd, Nat.reduceLeDiff, f2], by simp only [go_sem, Nat.reduceEqDiff, Nat.reduceAdd, Nat.reduceLeDiff, f5], by simp only [go_sem, Nat.reduceEqDiff, Nat.reduceAdd, Nat.reduceLeDiff, f6], by simp only [go_sem, Nat.reduceEqDiff, Nat.reduceAdd, Nat.reduceLeDiff]; first | done | rfl, by simp only [go_sem, Nat.reduceEqDiff, Nat.reduceAdd, Nat.reduceLeDiff, rule, m2, m5, m6]; first | done | rfl, by simp only [go_sem, Nat.reduceEqDiff, Nat.reduceAdd, Nat.reduceLeDiff, m2, m5, m6]; first | done | rfl, by simp only [go_sem, Nat.reduceEqDiff, Nat.reduceAdd, Nat.reduceLeDiff, m2, m5, m6]; first | done | rfl⟩ ?_
    clear f1 f2 f5 f6 f7 m2 m5 m6 fr σ
    rintro fr σ ⟨f1, f2, f5, f6, f7, m2, m5, m6⟩
    unfold rule at m2
    refine w_loop_step ?_
    (repeat' first
    | refine w_seq ?_
    | refine w_rg ?_
    | refine wo_nil ?_
    | refine s_plain (by simp only [go_sem, Nat.reduceEqDiff, Nat.reduceAdd, Nat.reduceLeDiff, f1, f2, f5, f6, f7, m2, m5, m6, w5, List.drop_zero, List.modify_zero_cons, splice, List.take_succ_cons, List.drop_succ_cons]; first | done | rfl) ?_
    | refine s_void (by simp only [go_sem, Nat.reduceEqDiff, Nat.reduceAdd, Nat.reduceLeDiff, f1, f2, f5, f6, f7, m2, m5, m6, w5, List.drop_zero, List.modify_zero_cons, splice, List.take_succ_cons, List.drop_succ_cons]; first | done | rfl) ?_
    | refine s_guard (by simp only [go_sem, Nat.reduceEqDiff, Nat.reduceAdd, Nat.reduceLeDiff, f1, f2, f5, f6, f7, m2, m5, m6, w5, List.drop_zero, List.modify_zero_cons, splice, List.take_succ_cons, List.drop_succ_cons]; first | done | rfl) ?_
    | refine g_skU ?_
    | refine g_T (by intro hb; simp only [go_sem, Nat.reduceEqDiff, Nat.reduceAdd, Nat.reduceLeDiff, f1, f2, f5, f6, f7, m2, m5, m6, w5, List.drop_zero, List.modify_zero_cons, splice, List.take_succ_cons, List.drop_succ_cons, hb]; first | done | rfl) ?_
    | refine g_F (by intro hb; simp only [go_sem, Nat.reduceEqDiff, Nat.reduceAdd, Nat.reduceLeDiff, f1, f2, f5, f6, f7, m2, m5, m6, w5, List.drop_zero, List.modify_zero_cons, splice, List.take_succ_cons, List.drop_succ_cons, hb]; first | done | rfl) ?_
    | refine g_gT (by intro hb hc; simp only [go_sem, Nat.reduceEqDiff, Nat.reduceAdd, Nat.reduceLeDiff, f1, f2, f5, f6, f7, m2, m5, m6, w5, List.drop_zero, List.modify_zero_cons, splice, List.take_succ_cons, List.drop_succ_cons, hb, hc]; first | done | rfl) ?_
    | refine g_gF (by intro hb hc; simp only [go_sem, Nat.reduceEqDiff, Nat.reduceAdd, Nat.reduceLeDiff, f1, f2, f5, f6, f7, m2, m5, m6, w5, List.drop_zero, List.modify_zero_cons, splice, List.take_succ_cons, List.drop_succ_cons, hb, hc]; first | done | rfl) ?_
    | refine g_skT ?_
    | refine g_skF ?_
    | refine g_goT (by simp only [go_sem, Nat.reduceEqDiff, Nat.reduceAdd, Nat.reduceLeDiff, f1, f2, f5, f6, f7, m2, m5, m6, w5, List.drop_zero, List.modify_zero_cons, splice, List.take_succ_cons, List.drop_succ_cons]; first | done | rfl) ?_
    | refine g_goF (by simp only [go_sem, Nat.reduceEqDiff, Nat.reduceAdd, Nat.reduceLeDiff, f1, f2, f5, f6, f7, m2, m5, m6, w5, List.drop_zero, List.modify_zero_cons, splice, List.take_succ_cons, List.drop_succ_cons]; first | done | rfl) ?_
    | refine w_condT (by simp only [go_sem, Nat.reduceEqDiff, Nat.reduceAdd, Nat.reduceLeDiff, f1, f2, f5, f6, f7, m2, m5, m6, w5, List.drop_zero, List.modify_zero_cons, splice, List.take_succ_cons, List.drop_succ_cons]; first | done | rfl) ?_
    | refine w_condF (by simp only [go_sem, Nat.reduceEqDiff, Nat.reduceAdd, Nat.reduceLeDiff, f1, f2, f5, f6, f7, m2, m5, m6, w5, List.drop_zero, List.modify_zero_cons, splice, List.take_succ_cons, List.drop_succ_cons]; first | done | rfl) ?_
    | refine w_skip ?_
    | refine w_exit ?_
    | refine w_ret ?_
    )
    refine w_block ?_
    (repeat' first
    | refine w_seq ?_
    | refine w_rg ?_
    | refine wo_nil ?_
    | refine s_plain (by simp only [go_sem, Nat.reduceEqDiff, Nat.reduceAdd, Nat.reduceLeDiff, f1, f2, f5, f6, f7, m2, m5, m6, w5, List.drop_zero, List.modify_zero_cons, splice, List.take_succ_cons, List.drop_succ_cons]; first | done | rfl) ?_
    | refine s_void (by simp only [go_sem, Nat.reduceEqDiff, Nat.reduceAdd, Nat.reduceLeDiff, f1, f2, f5, f6, f7, m2, m5, m6, w5, List.drop_zero, List.modify_zero_cons, splice, List.take_succ_cons, List.drop_succ_cons]; first | done | rfl) ?_
    | refine s_guard (by simp only [go_sem, Nat.reduceEqDiff, Nat.reduceAdd, Nat.reduceLeDiff, f1, f2, f5, f6, f7, m2, m5, m6, w5, List.drop_zero, List.modify_zero_cons, splice, List.take_succ_cons, List.drop_succ_cons]; first | done | rfl) ?_
    | refine g_skU ?_
    | refine g_T (by intro hb; simp only [go_sem, Nat.reduceEqDiff, Nat.reduceAdd, Nat.reduceLeDiff, f1, f2, f5, f6, f7, m2, m5, m6, w5, List.drop_zero, List.modify_zero_cons, splice, List.take_succ_cons, List.drop_succ_cons, hb]; first | done | rfl) ?_
    | refine g_F (by intro hb; simp only [go_sem, Nat.reduceEqDiff, Nat.reduceAdd, Nat.reduceLeDiff, f1, f2, f5, f6, f7, m2, m5, m6, w5, List.drop_zero, List.modify_zero_cons, splice, List.take_succ_cons, List.drop_succ_cons, hb]; first | done | rfl) ?_
    | refine g_gT (by intro hb hc; simp only [go_sem, Nat.reduceEqDiff, Nat.reduceAdd, Nat.reduceLeDiff, f1, f2, f5, f6, f7, m2, m5, m6, w5, List.drop_zero, List.modify_zero_cons, splice, List.take_succ_cons, List.drop_succ_cons, hb, hc]; first | done | rfl) ?_
    | refine g_gF (by intro hb hc; simp only [go_sem, Nat.reduceEqDiff, Nat.reduceAdd, Nat.reduceLeDiff, f1, f2, f5, f6, f7, m2, m5, m6, w5, List.drop_zero, List.modify_zero_cons, splice, List.take_succ_cons, List.drop_succ_cons, hb, hc]; first | done | rfl) ?_
    | refine g_skT ?_
    | refine g_skF ?_
    | refine g_goT (by simp only [go_sem, Nat.reduceEqDiff, Nat.reduceAdd, Nat.reduceLeDiff, f1, f2, f5, f6, f7, m2, m5, m6, w5, List.drop_zero, List.modify_zero_cons, splice, List.take_succ_cons, List.drop_succ_cons]; first | done | rfl) ?_
    | refine g_goF (by simp only [go_sem, Nat.reduceEqDiff, Nat.reduceAdd, Nat.reduceLeDiff, f1, f2, f5, f6, f7, m2, m5, m6, w5, List.drop_zero, List.modify_zero_cons, splice, List.take_succ_cons, List.drop_succ_cons]; first | done | rfl) ?_
    | refine w_condT (by simp only [go_sem, Nat.reduceEqDiff, Nat.reduceAdd, Nat.reduceLeDiff, f1, f2, f5, f6, f7, m2, m5, m6, w5, List.drop_zero, List.modify_zero_cons, splice, List.take_succ_cons, List.drop_succ_cons]; first | done | rfl) ?_
    | refine w_condF (by simp only [go_sem, Nat.reduceEqDiff, Nat.reduceAdd, Nat.reduceLeDiff, f1, f2, f5, f6, f7, m2, m5, m6, w5, List.drop_zero, List.modify_zero_cons, splice, List.take_succ_cons, List.drop_succ_cons]; first | done | rfl) ?_
    | refine w_skip ?_
    | refine w_exit ?_
    | refine w_ret ?_
    )
    refine w_gen (J := At102 q v 6 5 [.sc (.bool false), .sc (.bool (firesB 1 v q.limit)), .sc (.bool (firesB 2 v q.limit)), .sc (.bool (firesB 3 v q.limit)), .sc (.bool (firesB 4 v q.limit)), .sc (.bool (firesB 5 v q.limit))] [.sc (.bool false), .sc (.bool (firesB 1 q.limit q.limit)), .sc (.bool (firesB 2 q.limit q.limit)), .sc (.bool (firesB 3 q.limit q.limit)), .sc (.bool (firesB 4 q.limit q.limit)), .sc (.bool (firesB 5 q.limit q.limit))])
      ⟨by simp only [go_sem, Nat.reduceEqDiff, Nat.reduceAdd, Nat.reduceLeDiff, f1], by simp only [go_sem, Nat.reduceEqDiff, Nat.reduceAdd, Nat.reduceLeDiff, f2], by simp only [go_sem, Nat.reduceEqDiff, Nat.reduceAdd, Nat.reduceLeDiff, f5], by simp only [go_sem, Nat.reduceEqDiff, Nat.reduceAdd, Nat.reduceLeDiff, f6], by simp only [go_sem, Nat.reduceEqDiff, Nat.reduceAdd, Nat.reduceLeDiff]; first | done | rfl, by simp only [go_sem, Nat.reduceEqDiff, Nat.reduceAdd, Nat.reduceLeDiff, rule, m2, m5, m6]; first | done | rfl, by simp only [go_sem, Nat.reduceEqDiff, Nat.reduceAdd, Nat.reduceLeDiff, m2, m5, m6]; first | done | rfl, by simp only [go_sem, Nat.reduceEqDiff, Nat.reduceAdd, Nat.reduceLeDiff, m2, m5, m6]; first | done | rfl⟩ ?_
    clear f1 f2 f5 f6 f7 m2 m5 m6 fr σ
    rintro fr σ ⟨f1, f2, f5, f6, f7, m2, m5, m6⟩
    unfold rule at m2
    have d1 : firesB 1 q.limit q.limit = false := by simp [firesB]
    have d2 : firesB 2 q.limit q.limit = true := by simp [firesB]
    have d3 : firesB 3 q.limit q.limit = false := by simp [firesB]
    have d4 : firesB 4 q.limit q.limit = true := by simp [firesB]
    have d5 : firesB 5 q.limit q.limit = true := by simp [firesB]
    rcases Int.lt_trichotomy v q.limit with hlt | hlt | hlt
    · have c1 : firesB 1 v q.limit = false := by simp [firesB]; omega
      have c2 : firesB 2 v q.limit = false := by simp [firesB]; omega
      have c3 : firesB 3 v q.limit = true := by simp [firesB]; omega
      have c4 : firesB 4 v q.limit = true := by simp [firesB]; omega
      have c5 : firesB 5 v q.limit = false := by simp [firesB]; omega
      refine w_loop_step ?_
      (repeat' first
    | refine w_seq ?_
    | refine w_rg ?_
    | refine wo_nil ?_
    | refine s_plain (by simp only [go_sem, Nat.reduceEqDiff, Nat.reduceAdd, Nat.reduceLeDiff, f1, f2, f5, f6, f7, m2, m5, m6, hal, c1, c2, c3, c4, c5, d1, d2, d3, d4, d5, eqL, eq1, fillP, List.drop_zero, List.modify_zero_cons, splice, List.take_succ_cons, List.drop_succ_cons]; first | done | rfl) ?_
    | refine s_void (by simp only [go_sem, Nat.reduceEqDiff, Nat.reduceAdd, Nat.reduceLeDiff, f1, f2, f5, f6, f7, m2, m5, m6, hal, c1, c2, c3, c4, c5, d1, d2, d3, d4, d5, eqL, eq1, fillP, List.drop_zero, List.modify_zero_cons, splice, List.take_succ_cons, List.drop_succ_cons]; first | done | rfl) ?_
    | refine s_guard (by simp only [go_sem, Nat.reduceEqDiff, Nat.reduceAdd, Nat.reduceLeDiff, f1, f2, f5, f6, f7, m2, m5, m6, hal, c1, c2, c3, c4, c5, d1, d2, d3, d4, d5, eqL, eq1, fillP, List.drop_zero, List.modify_zero_cons, splice, List.take_succ_cons, List.drop_succ_cons]; first | done | rfl) ?_
    | refine g_skU ?_
    | refine g_T (by intro hb; simp only [go_sem, Nat.reduceEqDiff, Nat.reduceAdd, Nat.reduceLeDiff, f1, f2, f5, f6, f7, m2, m5, m6, hal, c1, c2, c3, c4, c5, d1, d2, d3, d4, d5, eqL, eq1, fillP, List.drop_zero, List.modify_zero_cons, splice, List.take_succ_cons, List.drop_succ_cons, hb]; first | done | rfl) ?_
    | refine g_F (by intro hb; simp only [go_sem, Nat.reduceEqDiff, Nat.reduceAdd, Nat.reduceLeDiff, f1, f2, f5, f6, f7, m2, m5, m6, hal, c1, c2, c3, c4, c5, d1, d2, d3, d4, d5, eqL, eq1, fillP, List.drop_zero, List.modify_zero_cons, splice, List.take_succ_cons, List.drop_succ_cons, hb]; first | done | rfl) ?_
    | refine g_gT (by intro hb hc; simp only [go_sem, Nat.reduceEqDiff, Nat.reduceAdd, Nat.reduceLeDiff, f1, f2, f5, f6, f7, m2, m5, m6, hal, c1, c2, c3, c4, c5, d1, d2, d3, d4, d5, eqL, eq1, fillP, List.drop_zero, List.modify_zero_cons, splice, List.take_succ_cons, List.drop_succ_cons, hb, hc]; first | done | rfl) ?_
    | refine g_gF (by intro hb hc; simp only [go_sem, Nat.reduceEqDiff, Nat.reduceAdd, Nat.reduceLeDiff, f1, f2, f5, f6, f7, m2, m5, m6, hal, c1, c2, c3, c4, c5, d1, d2, d3, d4, d5, eqL, eq1, fillP, List.drop_zero, List.modify_zero_cons, splice, List.take_succ_cons, List.drop_succ_cons, hb, hc]; first | done | rfl) ?_
    | refine g_skT ?_
    | refine g_skF ?_
    | refine g_goT (by simp only [go_sem, Nat.reduceEqDiff, Nat.reduceAdd, Nat.reduceLeDiff, f1, f2, f5, f6, f7, m2, m5, m6, hal, c1, c2, c3, c4, c5, d1, d2, d3, d4, d5, eqL, eq1, fillP, List.drop_zero, List.modify_zero_cons, splice, List.take_succ_cons, List.drop_succ_cons]; first | done | rfl) ?_
    | refine g_goF (by simp only [go_sem, Nat.reduceEqDiff, Nat.reduceAdd, Nat.reduceLeDiff, f1, f2, f5, f6, f7, m2, m5, m6, hal, c1, c2, c3, c4, c5, d1, d2, d3, d4, d5, eqL, eq1, fillP, List.drop_zero, List.modify_zero_cons, splice, List.take_succ_cons, List.drop_succ_cons]; first | done | rfl) ?_
    | refine w_condT (by simp only [go_sem, Nat.reduceEqDiff, Nat.reduceAdd, Nat.reduceLeDiff, f1, f2, f5, f6, f7, m2, m5, m6, hal, c1, c2, c3, c4, c5, d1, d2, d3, d4, d5, eqL, eq1, fillP, List.drop_zero, List.modify_zero_cons, splice, List.take_succ_cons, List.drop_succ_cons]; first | done | rfl) ?_
    | refine w_condF (by simp only [go_sem, Nat.reduceEqDiff, Nat.reduceAdd, Nat.reduceLeDiff, f1, f2, f5, f6, f7, m2, m5, m6, hal, c1, c2, c3, c4, c5, d1, d2, d3, d4, d5, eqL, eq1, fillP, List.drop_zero, List.modify_zero_cons, splice, List.take_succ_cons, List.drop_succ_cons]; first | done | rfl) ?_
    | refine w_skip ?_
    | refine w_exit ?_
    | refine w_ret ?_
    )
      exact ⟨.inr rfl, by simp only [go_sem, Nat.reduceEqDiff, Nat.reduceAdd, Nat.reduceLeDiff, retOf, resOf]; first | done | rfl⟩
    · have c1 : firesB 1 v q.limit = false := by simp [firesB]; omega
      have c2 : firesB 2 v q.limit = true := by simp [firesB]; omega
      have c3 : firesB 3 v q.limit = false := by simp [firesB]; omega
      have c4 : firesB 4 v q.limit = true := by simp [firesB]; omega
      have c5 : firesB 5 v q.limit = true := by simp [firesB]; omega
      refine w_loop_step ?_
      (repeat' first
    | refine w_seq ?_
    | refine w_rg ?_
    | refine wo_nil ?_
    | refine s_plain (by simp only [go_sem, Nat.reduceEqDiff, Nat.reduceAdd, Nat.reduceLeDiff, f1, f2, f5, f6, f7, m2, m5, m6, hal, c1, c2, c3, c4, c5, d1, d2, d3, d4, d5, eqL, eq1, fillP, List.drop_zero, List.modify_zero_cons, splice, List.take_succ_cons, List.drop_succ_cons]; first | done | rfl) ?_
    | refine s_void (by simp only [go_sem, Nat.reduceEqDiff, Nat.reduceAdd, Nat.reduceLeDiff, f1, f2, f5, f6, f7, m2, m5, m6, hal, c1, c2, c3, c4, c5, d1, d2, d3, d4, d5, eqL, eq1, fillP, List.drop_zero, List.modify_zero_cons, splice, List.take_succ_cons, List.drop_succ_cons]; first | done | rfl) ?_
    | refine s_guard (by simp only [go_sem, Nat.reduceEqDiff, Nat.reduceAdd, Nat.reduceLeDiff, f1, f2, f5, f6, f7, m2, m5, m6, hal, c1, c2, c3, c4, c5, d1, d2, d3, d4, d5, eqL, eq1, fillP, List.drop_zero, List.modify_zero_cons, splice, List.take_succ_cons, List.drop_succ_cons]; first | done | rfl) ?_
    | refine g_skU ?_
    | refine g_T (by intro hb; simp only [go_sem, Nat.reduceEqDiff, Nat.reduceAdd, Nat.reduceLeDiff, f1, f2, f5, f6, f7, m2, m5, m6, hal, c1, c2, c3, c4, c5, d1, d2, d3, d4, d5, eqL, eq1, fillP, List.drop_zero, List.modify_zero_cons, splice, List.take_succ_cons, List.drop_succ_cons, hb]; first | done | rfl) ?_
    | refine g_F (by intro hb; simp only [go_sem, Nat.reduceEqDiff, Nat.reduceAdd, Nat.reduceLeDiff, f1, f2, f5, f6, f7, m2, m5, m6, hal, c1, c2, c3, c4, c5, d1, d2, d3, d4, d5, eqL, eq1, fillP, List.drop_zero, List.modify_zero_cons, splice, List.take_succ_cons, List.drop_succ_cons, hb]; first | done | rfl) ?_
    | refine g_gT (by intro hb hc; simp only [go_sem, Nat.reduceEqDiff, Nat.reduceAdd, Nat.reduceLeDiff, f1, f2, f5, f6, f7, m2, m5, m6, hal, c1, c2, c3, c4, c5, d1, d2, d3, d4, d5, eqL, eq1, fillP, List.drop_zero, List.modify_zero_cons, splice, List.take_succ_cons, List.drop_succ_cons, hb, hc]; first | done | rfl) ?_
    | refine g_gF (by intro hb hc; simp only [go_sem, Nat.reduceEqDiff, Nat.reduceAdd, Nat.reduceLeDiff, f1, f2, f5, f6, f7, m2, m5, m6, hal, c1, c2, c3, c4, c5, d1, d2, d3, d4, d5, eqL, eq1, fillP, List.drop_zero, List.modify_zero_cons, splice, List.take_succ_cons, List.drop_succ_cons, hb, hc]; first | done | rfl) ?_
    | refine g_skT ?_
    | refine g_skF ?_
    | refine g_goT (by simp only [go_sem, Nat.reduceEqDiff, Nat.reduceAdd, Nat.reduceLeDiff, f1, f2, f5, f6, f7, m2, m5, m6, hal, c1, c2, c3, c4, c5, d1, d2, d3, d4, d5, eqL, eq1, fillP, List.drop_zero, List.modify_zero_cons, splice, List.take_succ_cons, List.drop_succ_cons]; first | done | rfl) ?_
    | refine g_goF (by simp only [go_sem, Nat.reduceEqDiff, Nat.reduceAdd, Nat.reduceLeDiff, f1, f2, f5, f6, f7, m2, m5, m6, hal, c1, c2, c3, c4, c5, d1, d2, d3, d4, d5, eqL, eq1, fillP, List.drop_zero, List.modify_zero_cons, splice, List.take_succ_cons, List.drop_succ_cons]; first | done | rfl) ?_
    | refine w_condT (by simp only [go_sem, Nat.reduceEqDiff, Nat.reduceAdd, Nat.reduceLeDiff, f1, f2, f5, f6, f7, m2, m5, m6, hal, c1, c2, c3, c4, c5, d1, d2, d3, d4, d5, eqL, eq1, fillP, List.drop_zero, List.modify_zero_cons, splice, List.take_succ_cons, List.drop_succ_cons]; first | done | rfl) ?_
    | refine w_condF (by simp only [go_sem, Nat.reduceEqDiff, Nat.reduceAdd, Nat.reduceLeDiff, f1, f2, f5, f6, f7, m2, m5, m6, hal, c1, c2, c3, c4, c5, d1, d2, d3, d4, d5, eqL, eq1, fillP, List.drop_zero, List.modify_zero_cons, splice, List.take_succ_cons, List.drop_succ_cons]; first | done | rfl) ?_
    | refine w_skip ?_
    | refine w_exit ?_
    | refine w_ret ?_
    )
      exact ⟨.inr rfl, by simp only [go_sem, Nat.reduceEqDiff, Nat.reduceAdd, Nat.reduceLeDiff, retOf, resOf]; first | done | rfl⟩
    · have c1 : firesB 1 v q.limit = true := by simp [firesB]; omega
      have c2 : firesB 2 v q.limit = true := by simp [firesB]; omega
      have c3 : firesB 3 v q.limit = false := by simp [firesB]; omega
      have c4 : firesB 4 v q.limit = false := by simp [firesB]; omega
      have c5 : firesB 5 v q.limit = false := by simp [firesB]; omega
      refine w_loop_step ?_
      (repeat' first
    | refine w_seq ?_
    | refine w_rg ?_
    | refine wo_nil ?_
    | refine s_plain (by simp only [go_sem, Nat.reduceEqDiff, Nat.reduceAdd, Nat.reduceLeDiff, f1, f2, f5, f6, f7, m2, m5, m6, hal, c1, c2, c3, c4, c5, d1, d2, d3, d4, d5, eqL, eq1, fillP, List.drop_zero, List.modify_zero_cons, splice, List.take_succ_cons, List.drop_succ_cons]; first | done | rfl) ?_
    | refine s_void (by simp only [go_sem, Nat.reduceEqDiff, Nat.reduceAdd, Nat.reduceLeDiff, f1, f2, f5, f6, f7, m2, m5, m6, hal, c1, c2, c3, c4, c5, d1, d2, d3, d4, d5, eqL, eq1, fillP, List.drop_zero, List.modify_zero_cons, splice, List.take_succ_cons, List.drop_succ_cons]; first | done | rfl) ?_
    | refine s_guard (by simp only [go_sem, Nat.reduceEqDiff, Nat.reduceAdd, Nat.reduceLeDiff, f1, f2, f5, f6, f7, m2, m5, m6, hal, c1, c2, c3, c4, c5, d1, d2, d3, d4, d5, eqL, eq1, fillP, List.drop_zero, List.modify_zero_cons, splice, List.take_succ_cons, List.drop_succ_cons]; first | done | rfl) ?_
    | refine g_skU ?_
    | refine g_T (by intro hb; simp only [go_sem, Nat.reduceEqDiff, Nat.reduceAdd, Nat.reduceLeDiff, f1, f2, f5, f6, f7, m2, m5, m6, hal, c1, c2, c3, c4, c5, d1, d2, d3, d4, d5, eqL, eq1, fillP, List.drop_zero, List.modify_zero_cons, splice, List.take_succ_cons, List.drop_succ_cons, hb]; first | done | rfl) ?_
    | refine g_F (by intro hb; simp only [go_sem, Nat.reduceEqDiff, Nat.reduceAdd, Nat.reduceLeDiff, f1, f2, f5, f6, f7, m2, m5, m6, hal, c1, c2, c3, c4, c5, d1, d2, d3, d4, d5, eqL, eq1, fillP, List.drop_zero, List.modify_zero_cons, splice, List.take_succ_cons, List.drop_succ_cons, hb]; first | done | rfl) ?_
    | refine g_gT (by intro hb hc; simp only [go_sem, Nat.reduceEqDiff, Nat.reduceAdd, Nat.reduceLeDiff, f1, f2, f5, f6, f7, m2, m5, m6, hal, c1, c2, c3, c4, c5, d1, d2, d3, d4, d5, eqL, eq1, fillP, List.drop_zero, List.modify_zero_cons, splice, List.take_succ_cons, List.drop_succ_cons, hb, hc]; first | done | rfl) ?_
    | refine g_gF (by intro hb hc; simp only [go_sem, Nat.reduceEqDiff, Nat.reduceAdd, Nat.reduceLeDiff, f1, f2, f5, f6, f7, m2, m5, m6, hal, c1, c2, c3, c4, c5, d1, d2, d3, d4, d5, eqL, eq1, fillP, List.drop_zero, List.modify_zero_cons, splice, List.take_succ_cons, List.drop_succ_cons, hb, hc]; first | done | rfl) ?_
    | refine g_skT ?_
    | refine g_skF ?_
    | refine g_goT (by simp only [go_sem, Nat.reduceEqDiff, Nat.reduceAdd, Nat.reduceLeDiff, f1, f2, f5, f6, f7, m2, m5, m6, hal, c1, c2, c3, c4, c5, d1, d2, d3, d4, d5, eqL, eq1, fillP, List.drop_zero, List.modify_zero_cons, splice, List.take_succ_cons, List.drop_succ_cons]; first | done | rfl) ?_
    | refine g_goF (by simp only [go_sem, Nat.reduceEqDiff, Nat.reduceAdd, Nat.reduceLeDiff, f1, f2, f5, f6, f7, m2, m5, m6, hal, c1, c2, c3, c4, c5, d1, d2, d3, d4, d5, eqL, eq1, fillP, List.drop_zero, List.modify_zero_cons, splice, List.take_succ_cons, List.drop_succ_cons]; first | done | rfl) ?_
    | refine w_condT (by simp only [go_sem, Nat.reduceEqDiff, Nat.reduceAdd, Nat.reduceLeDiff, f1, f2, f5, f6, f7, m2, m5, m6, hal, c1, c2, c3, c4, c5, d1, d2, d3, d4, d5, eqL, eq1, fillP, List.drop_zero, List.modify_zero_cons, splice, List.take_succ_cons, List.drop_succ_cons]; first | done | rfl) ?_
    | refine w_condF (by simp only [go_sem, Nat.reduceEqDiff, Nat.reduceAdd, Nat.reduceLeDiff, f1, f2, f5, f6, f7, m2, m5, m6, hal, c1, c2, c3, c4, c5, d1, d2, d3, d4, d5, eqL, eq1, fillP, List.drop_zero, List.modify_zero_cons, splice, List.take_succ_cons, List.drop_succ_cons]; first | done | rfl) ?_
    | refine w_skip ?_
    | refine w_exit ?_
    | refine w_ret ?_
    )
      exact ⟨.inr rfl, by simp only [go_sem, Nat.reduceEqDiff, Nat.reduceAdd, Nat.reduceLeDiff, retOf, resOf]; first | done | rfl⟩

end
end Go.Proofs.YtckcgppnppiccaaDoorPv
