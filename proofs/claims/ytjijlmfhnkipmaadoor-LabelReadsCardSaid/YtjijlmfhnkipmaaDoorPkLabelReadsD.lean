/-
Own texts of the proof, merged: part 4.
-/
import Derived.Test.YtjijlmfhnkipmaaDoorPkLabelReadsC
namespace Go.Proofs.YtjijlmfhnkipmaaDoorPv
open Go
set_option linter.unusedSimpArgs false
set_option linter.unusedVariables false
set_option maxHeartbeats 4000000
attribute [local go_sem ↓] e_mv e_pick e_bin e_eqs e_beq e_un e_cvi e_str e_s2b e_b2s e_box e_build e_bsl e_ld e_st e_nck e_mkf e_slcS e_slcL e_fa e_fld e_ia e_iaa e_ix e_ixa e_ext e_lenS e_lenL e_mnmx e_app e_appb e_bbx e_msl e_clr e_call e_callv pa_t pa_c pa_f slcSP_str hiOf_some hiOf_none loOf_some loOf_none set_eq set_ne
attribute [local go_sem] pv pv1 simple frOf_0 frOf_1 frOf_2 frOf_3 frOf_4 frOf_5 ne_eq not_false_eq_true if_true Bool.false_eq_true if_false pbin punary Option.map_some Option.bind_some pick_and pick_or opt_true Bool.true_and Bool.and_self Bool.and_true Bool.true_or Bool.false_or Bool.not_true Bool.not_false callE pcall_eq List.map_cons List.map_nil List.append_nil List.nil_append List.cons_append mapM_cons' mapM_nil' dep_eq fz_sc fz_sl fz_em fz_fn fz_fp fz_agg fz_tu fz_bx fz_ob Nat.lt_irrefl Nat.zero_lt_one Nat.lt_add_one flat clL cl Bool.or_true okc_sc okc_em okc_sl okc_ob okc_bx okc_fp okc_fn okc_agg okc_ifc cells_agg cells_sc cells_sl cells_em cells_ob cells_fn cells_bx cells_fp List.length_cons List.length_nil Nat.zero_add and_self true_and and_true new_m new_c put_m put_c nil_m nil_c deref List.getElem?_cons_zero List.getElem?_cons_succ List.drop_zero List.drop_succ_cons List.take_succ_cons List.take_zero Nat.le_refl false_and and_false decide_true decide_false lenP_em lenP_nil lenP_sl lenP_ob Int.ofNat_zero
set_option maxRecDepth 8000
/-- transhipment/transhipmentref03.one -/
def d214 : Def := (.code 2 [.cell 4 (.some 3)] (.seq (.rg false [⟨.some 4, .none, .box (.c (.agg #[.string ⟨#[]⟩, .string ⟨#[]⟩, .int .i64 0]))⟩]) (.seq (.rg false [⟨.some 8, .none, .mv (.t 1)⟩, ⟨.some 5, .none, .mv (.t 8)⟩]) (.seq (.block 0 (.loop (.seq (.seq (.rg false [⟨.some 9, .none, .mv (.t 1)⟩, ⟨.some 10, .none, .mv (.t 0)⟩, ⟨.some 11, .none, .lenS (.t 10)⟩, ⟨.some 12, .none, .bin .lss (.t 9) (.t 11)⟩, ⟨.some 13, .none, .mv (.t 12)⟩, ⟨.some 14, .some (13, true), .mv (.t 0)⟩, ⟨.some 15, .some (13, true), .mv (.t 1)⟩, ⟨.some 16, .some (13, true), .ix (.t 14) (.t 15)⟩, ⟨.some 17, .some (13, true), .bin .neq (.t 16) (.c (.int .u8 61))⟩, ⟨.some 18, .none, .pick (.t 13) (.t 17) (.c (.bool false))⟩]) (.cond (.t 18) .skip (.exit 0))) (.block 1 (.rg false [⟨.some 19, .none, .mv (.t 1)⟩, ⟨.some 20, .none, .bin .add (.t 19) (.c (.int .i64 1))⟩, ⟨.some 1, .none, .mv (.t 20)⟩]))))) (.seq (.seq (.rg false [⟨.some 21, .none, .mv (.t 1)⟩, ⟨.some 22, .none, .bin .add (.t 21) (.c (.int .i64 1))⟩, ⟨.some 23, .none, .mv (.t 0)⟩, ⟨.some 24, .none, .lenS (.t 23)⟩, ⟨.some 25, .none, .bin .geq (.t 22) (.t 24)⟩, ⟨.some 26, .none, .mv (.t 25)⟩, ⟨.some 27, .some (26, false), .mv (.t 0)⟩, ⟨.some 28, .some (26, false), .mv (.t 1)⟩, ⟨.some 29, .some (26, false), .bin .add (.t 28) (.c (.int .i64 1))⟩, ⟨.some 30, .some (26, false), .ix (.t 27) (.t 29)⟩, ⟨.some 31, .some (26, false), .bin .neq (.t 30) (.c (.int .u8 34))⟩, ⟨.some 32, .none, .pick (.t 26) (.c (.bool true)) (.t 31)⟩]) (.cond (.t 32) (.seq (.rg false [⟨.some 33, .none, .build (.agg #[.string ⟨#[]⟩, .string ⟨#[]⟩, .int .i64 0]) [(2, (1, .c (.int .i64 (-1))))]⟩, ⟨.none, .none, .st 3 (.t 4) (.t 33)⟩]) .ret) .skip)) (.seq (.rg false [⟨.some 34, .none, .mv (.t 0)⟩, ⟨.some 35, .none, .mv (.t 5)⟩, ⟨.some 36, .none, .mv (.t 1)⟩, ⟨.some 37, .none, .slcS (.t 34) (.some (.t 35)) (.some (.t 36))⟩, ⟨.some 38, .none, .build (.agg #[.string ⟨#[]⟩, .string ⟨#[]⟩]) [(0, (1, .t 37))]⟩, ⟨.some 6, .none, .box (.c (.agg #[.string ⟨#[]⟩, .string ⟨#[]⟩]))⟩, ⟨.none, .none, .st 2 (.t 6) (.t 38)⟩]) (.seq (.rg false [⟨.some 39, .none, .mv (.c (.slice .none 0 0))⟩, ⟨.some 7, .none, .mv (.t 39)⟩]) (.seq (.rg false [⟨.some 40, .none, .mv (.t 1)⟩, ⟨.some 41, .none, .bin .add (.t 40) (.c (.int .i64 2))⟩, ⟨.some 1, .none, .mv (.t 41)⟩]) (.seq (.block 2 (.loop (.seq (.seq (.rg false [⟨.some 42, .none, .mv (.t 1)⟩, ⟨.some 43, .none, .mv (.t 0)⟩, ⟨.some 44, .none, .lenS (.t 43)⟩, ⟨.some 45, .none, .bin .lss (.t 42) (.t 44)⟩, ⟨.some 46, .none, .mv (.t 45)⟩, ⟨.some 47, .some (46, true), .mv (.t 0)⟩, ⟨.some 48, .some (46, true), .mv (.t 1)⟩, ⟨.some 49, .some (46, true), .ix (.t 47) (.t 48)⟩, ⟨.some 50, .some (46, true), .bin .neq (.t 49) (.c (.int .u8 34))⟩, ⟨.some 51, .none, .pick (.t 46) (.t 50) (.c (.bool false))⟩]) (.cond (.t 51) .skip (.exit 2))) (.block 3 (.seq (.seq (.rg false [⟨.some 52, .none, .mv (.t 0)⟩, ⟨.some 53, .none, .mv (.t 1)⟩, ⟨.some 54, .none, .ix (.t 52) (.t 53)⟩, ⟨.some 55, .none, .bin .eql (.t 54) (.c (.int .u8 92))⟩]) (.cond (.t 55) (.rg false [⟨.some 56, .none, .mv (.t 1)⟩, ⟨.some 57, .none, .bin .add (.t 56) (.c (.int .i64 1))⟩, ⟨.some 1, .none, .mv (.t 57)⟩]) .skip)) (.seq (.seq (.rg false [⟨.some 58, .none, .mv (.t 1)⟩, ⟨.some 59, .none, .mv (.t 0)⟩, ⟨.some 60, .none, .lenS (.t 59)⟩, ⟨.some 61, .none, .bin .lss (.t 58) (.t 60)⟩]) (.cond (.t 61) (.rg false [⟨.some 62, .none, .mv (.t 7)⟩, ⟨.some 63, .none, .mv (.t 0)⟩, ⟨.some 64, .none, .mv (.t 1)⟩, ⟨.some 65, .none, .ix (.t 63) (.t 64)⟩, ⟨.some 66, .none, .bsl 1 (.int .u8 0) 1 [(0, .t 65)]⟩, ⟨.some 67, .none, .app 1 1 false (.t 62) (.t 66)⟩, ⟨.some 7, .none, .mv (.t 67)⟩]) .skip)) (.rg false [⟨.some 68, .none, .mv (.t 1)⟩, ⟨.some 69, .none, .bin .add (.t 68) (.c (.int .i64 1))⟩, ⟨.some 1, .none, .mv (.t 69)⟩]))))))) (.seq (.seq (.rg false [⟨.some 70, .none, .mv (.t 1)⟩, ⟨.some 71, .none, .mv (.t 0)⟩, ⟨.some 72, .none, .lenS (.t 71)⟩, ⟨.some 73, .none, .bin .geq (.t 70) (.t 72)⟩]) (.cond (.t 73) (.seq (.rg false [⟨.some 74, .none, .build (.agg #[.string ⟨#[]⟩, .string ⟨#[]⟩, .int .i64 0]) [(2, (1, .c (.int .i64 (-1))))]⟩, ⟨.none, .none, .st 3 (.t 4) (.t 74)⟩]) .ret) .skip)) (.seq (.rg false [⟨.some 75, .none, .mv (.t 7)⟩, ⟨.some 76, .none, .b2s (.t 75)⟩, ⟨.some 77, .none, .fa 1 (.t 6)⟩, ⟨.none, .none, .st 1 (.t 77) (.t 76)⟩]) (.seq (.rg false [⟨.some 78, .none, .ld (.some 2) (.t 6)⟩, ⟨.some 79, .none, .mv (.t 1)⟩, ⟨.some 80, .none, .bin .add (.t 79) (.c (.int .i64 1))⟩, ⟨.some 81, .none, .build (.agg #[.string ⟨#[]⟩, .string ⟨#[]⟩, .int .i64 0]) [(0, (2, .t 78)), (2, (1, .t 80))]⟩, ⟨.none, .none, .st 3 (.t 4) (.t 81)⟩]) .ret))))))))))))
def lce : List (Nat × Def) := [(214, d214)]
section
variable {env : Nat → Option Def} {fr : Fr} {σ σ' σ'' : St} {K : Fr → St → Prop} {Q : X → Fr → St → Prop} {p : PV} {bs : List UInt8}
def eqAt (l : List UInt8) : Nat := (l.takeWhile (fun b => b != 61)).length
/-- A label, read off, as the document says. -/
def oneR (l : List UInt8) : Option (List UInt8 × List UInt8 × List UInt8) := match l.drop (eqAt l) with
  | 61 :: 34 :: r => (scan r []).map fun q => (l.take (eqAt l), q.1, q.2)
  | _ => none
theorem eqAt_step {s : List UInt8} {i : Nat} (h : i < s.length) (hc : s[i] ≠ 61) : eqAt (s.drop i) = eqAt (s.drop (i + 1)) + 1 := by
  rw [drop_at h]
  unfold eqAt
  rw [List.takeWhile_cons, if_pos (by simpa using hc)]
  rfl
theorem eqAt_zero {s : List UInt8} {i : Nat} (h : ∀ (hi : i < s.length), s[i] = 61) : eqAt (s.drop i) = 0 := by
  by_cases hi : i < s.length
  · rw [drop_at hi]
    unfold eqAt
    rw [List.takeWhile_cons, if_neg (by simp [h hi])]
    rfl
  · rw [List.drop_eq_nil_of_le (by omega)]; rfl
def byteD (s : List UInt8) (i : Nat) : UInt8 := s[i]?.getD 0
theorem byteD_at {s : List UInt8} {i : Nat} (h : i < s.length) : byteD s i = s[i] := by unfold byteD; rw [List.getElem?_eq_getElem h]; rfl
theorem byteD_q {s : List UInt8} {i : Nat} (h : i < s.length) : s[i]? = some (byteD s i) := by rw [List.getElem?_eq_getElem h, byteD_at h]
theorem u8_beq (x c : UInt8) {z : Int} (hz : (c.toNat : Int) = z) : ((x.toNat : Int) == z) = (x == c) := by
  rw [Bool.eq_iff_iff, beq_iff_eq, beq_iff_eq, ← hz, Int.natCast_inj, UInt8.toNat_inj]
theorem u8_ne (x c : UInt8) {z : Int} (hz : (c.toNat : Int) = z) : ((x.toNat : Int) != z) = (x != c) := by
  unfold bne; rw [u8_beq x c hz]
def oneB (s : List UInt8) (a : Nat) : PV := match oneR (s.drop a) with
  | some (n, v, r) => .agg [txt n, txt v, .sc (.int .i64 (s.length - r.length : Nat))]
  | none => .agg [txt [], txt [], .sc (.int .i64 (-1))]
theorem a214 (E : Has lce env) {s : List UInt8} {a : Nat} (hs : s.length ≤ 4000000000) (ha : a ≤ s.length) : AV env 214 [txt s, .sc (.int .i64 a)] = some (oneB s a) := by
  refine AV_wp (E (214, d214) (by simp [lce])) rfl ?_
  (repeat' first
    | refine w_seq ?_ | refine w_rg ?_ | refine wo_nil ?_ | refine g_skU ?_
    | ((first | apply s_plain | apply s_void | apply s_guard); · simp only [go_sem, Nat.reduceEqDiff, Nat.reduceAdd, Nat.reduceLeDiff]; (first | done | rfl))
    | ((first | apply g_T | apply g_F); · intro hb; simp only [go_sem, Nat.reduceEqDiff, Nat.reduceAdd, Nat.reduceLeDiff, hb]; (first | done | rfl))
    | ((first | apply g_gT | apply g_gF); · intro hb hc; simp only [go_sem, Nat.reduceEqDiff, Nat.reduceAdd, Nat.reduceLeDiff, hb, hc]; (first | done | rfl))
    | refine g_skT ?_ | refine g_skF ?_
    | ((first | apply g_goT | apply g_goF); · simp only [go_sem, Nat.reduceEqDiff, Nat.reduceAdd, Nat.reduceLeDiff]; (first | done | rfl))
    )
  refine w_block (w_loopF (fun m fr σ => ∃ i : Nat, m = s.length - i ∧ a ≤ i ∧ i ≤ s.length ∧ fr 1 = .sc (.int .i64 i) ∧ eqAt (s.drop a) = (i - a) + eqAt (s.drop i) ∧ σ = St.nil.new 2000004 ⟨3, [.agg [txt [], txt [], .sc (.int .i64 0)]], true, true⟩) ?_ (s.length - a) ?_)
  · rintro m fr1 σ1 ⟨i, rfl, hai, hi, f1, hq, rfl⟩ hfr
    have f0_0 := hfr 0 rfl; try (simp only [go_sem, Nat.reduceEqDiff, Nat.reduceAdd, Nat.reduceLeDiff] at f0_0)
    have z5 : fr1 5 = .sc (.int .i64 a) := by rw [hfr 5 rfl]; simp only [go_sem, Nat.reduceEqDiff, Nat.reduceAdd, Nat.reduceLeDiff]
    have z4 : fr1 4 = .bx 2000004 0 3 0 0 := by rw [hfr 4 rfl]; simp only [go_sem, Nat.reduceEqDiff, Nat.reduceAdd, Nat.reduceLeDiff]
    (repeat' first
    | refine w_seq ?_ | refine w_rg ?_ | refine wo_nil ?_ | refine g_skU ?_
    | ((first | apply s_plain | apply s_void | apply s_guard); · simp only [go_sem, Nat.reduceEqDiff, Nat.reduceAdd, Nat.reduceLeDiff, f0_0, f1, ba_data, ba_size, ba_toList, ba_extract, ba_append, List.toList_toArray]; (first | done | rfl))
    | ((first | apply g_T | apply g_F); · intro hb; simp only [go_sem, Nat.reduceEqDiff, Nat.reduceAdd, Nat.reduceLeDiff, f0_0, f1, ba_data, ba_size, ba_toList, ba_extract, ba_append, List.toList_toArray, hb]; (first | done | rfl))
    | ((first | apply g_gT | apply g_gF); · intro hb hc; simp only [go_sem, Nat.reduceEqDiff, Nat.reduceAdd, Nat.reduceLeDiff, f0_0, f1, ba_data, ba_size, ba_toList, ba_extract, ba_append, List.toList_toArray, hb, hc]; (first | done | rfl))
    | refine g_skT ?_ | refine g_skF ?_
    | ((first | apply g_goT | apply g_goF); · simp only [go_sem, Nat.reduceEqDiff, Nat.reduceAdd, Nat.reduceLeDiff, f0_0, f1, ba_data, ba_size, ba_toList, ba_extract, ba_append, List.toList_toArray]; (first | done | rfl))
    )
    refine g_T (v := .sc (.int .u8 (byteD s i).toNat)) (by
      intro hb
      have hlt : i < s.length := by simpa using hb
      have hi0 : (0 : Int) ≤ (i : Int) := by omega
      simp only [go_sem, Nat.reduceEqDiff, Nat.reduceAdd, Nat.reduceLeDiff, f0_0, f1, hb, ba_data, ba_size, ba_toList, ba_extract, ba_append, List.toList_toArray, hi0, Int.toNat_natCast, byteD_q hlt]) ?_
    (repeat' first
    | refine w_seq ?_ | refine w_rg ?_ | refine wo_nil ?_ | refine g_skU ?_
    | ((first | apply s_plain | apply s_void | apply s_guard); · simp only [go_sem, Nat.reduceEqDiff, Nat.reduceAdd, Nat.reduceLeDiff]; (first | done | rfl))
    | ((first | apply g_T | apply g_F); · intro hb; simp only [go_sem, Nat.reduceEqDiff, Nat.reduceAdd, Nat.reduceLeDiff, hb]; (first | done | rfl))
    | ((first | apply g_gT | apply g_gF); · intro hb hc; simp only [go_sem, Nat.reduceEqDiff, Nat.reduceAdd, Nat.reduceLeDiff, hb, hc]; (first | done | rfl))
    | refine g_skT ?_ | refine g_skF ?_
    | ((first | apply g_goT | apply g_goF); · simp only [go_sem, Nat.reduceEqDiff, Nat.reduceAdd, Nat.reduceLeDiff]; (first | done | rfl))
    )
    refine w_condB (b := decide ((i : Int) < (s.length : Int)) && (byteD s i != 61)) (by simp only [go_sem, Nat.reduceEqDiff, Nat.reduceAdd, Nat.reduceLeDiff]; rw [u8_ne _ 61 (z := 61) rfl]) (fun hc => ?_) (fun hc => ?_)
    · simp only [Bool.and_eq_true, decide_eq_true_eq, bne_iff_ne] at hc
      have hlt : i < s.length := by omega
      rw [byteD_at hlt] at hc
      have w1 : IntKind.i64.wrap ((i : Int) + 1) = ((i + 1 : Nat) : Int) := by rw [IntKind.wrap_i64]; omega
      refine w_skip ?_
      refine w_block ?_
      (repeat' first
    | refine w_seq ?_ | refine w_rg ?_ | refine wo_nil ?_ | refine g_skU ?_
    | ((first | apply s_plain | apply s_void | apply s_guard); · simp only [go_sem, Nat.reduceEqDiff, Nat.reduceAdd, Nat.reduceLeDiff, f1, w1]; (first | done | rfl))
    | ((first | apply g_T | apply g_F); · intro hb; simp only [go_sem, Nat.reduceEqDiff, Nat.reduceAdd, Nat.reduceLeDiff, f1, w1, hb]; (first | done | rfl))
    | ((first | apply g_gT | apply g_gF); · intro hb hc; simp only [go_sem, Nat.reduceEqDiff, Nat.reduceAdd, Nat.reduceLeDiff, f1, w1, hb, hc]; (first | done | rfl))
    | refine g_skT ?_ | refine g_skF ?_
    | ((first | apply g_goT | apply g_goF); · simp only [go_sem, Nat.reduceEqDiff, Nat.reduceAdd, Nat.reduceLeDiff, f1, w1]; (first | done | rfl))
    )
      refine ⟨s.length - (i + 1), by omega, i + 1, rfl, by omega, hlt, by simp only [go_sem, Nat.reduceEqDiff, Nat.reduceAdd, Nat.reduceLeDiff], ?_, rfl⟩
      rw [hq, eqAt_step hlt hc.2]; omega
    · have hz : eqAt (s.drop i) = 0 := eqAt_zero fun hi' => by
        simp only [Bool.and_eq_false_iff, decide_eq_false_iff_not, bne_eq_false_iff_eq] at hc
        rcases hc with hc | hc
        · omega
        · rw [← byteD_at hi']; exact hc
      rw [hz, Nat.add_zero] at hq
      refine w_exit ?_
      try simp only [if_true]
      have hi0 : (0 : Int) ≤ ((i + 1 : Nat) : Int) := by omega
      have w1 : IntKind.i64.wrap ((i : Int) + 1) = ((i + 1 : Nat) : Int) := by rw [IntKind.wrap_i64]; omega
      have w2 : IntKind.i64.wrap ((i : Int) + 2) = ((i + 2 : Nat) : Int) := by rw [IntKind.wrap_i64]; omega
      (repeat' first
    | refine w_seq ?_ | refine w_rg ?_ | refine wo_nil ?_ | refine g_skU ?_
    | ((first | apply s_plain | apply s_void | apply s_guard); · simp only [go_sem, Nat.reduceEqDiff, Nat.reduceAdd, Nat.reduceLeDiff, f0_0, f1, w1, ba_data, ba_size, ba_toList, ba_extract, ba_append, List.toList_toArray]; (first | done | rfl))
    | ((first | apply g_T | apply g_F); · intro hb; simp only [go_sem, Nat.reduceEqDiff, Nat.reduceAdd, Nat.reduceLeDiff, f0_0, f1, w1, ba_data, ba_size, ba_toList, ba_extract, ba_append, List.toList_toArray, hb]; (first | done | rfl))
    | ((first | apply g_gT | apply g_gF); · intro hb hc; simp only [go_sem, Nat.reduceEqDiff, Nat.reduceAdd, Nat.reduceLeDiff, f0_0, f1, w1, ba_data, ba_size, ba_toList, ba_extract, ba_append, List.toList_toArray, hb, hc]; (first | done | rfl))
    | refine g_skT ?_ | refine g_skF ?_
    | ((first | apply g_goT | apply g_goF); · simp only [go_sem, Nat.reduceEqDiff, Nat.reduceAdd, Nat.reduceLeDiff, f0_0, f1, w1, ba_data, ba_size, ba_toList, ba_extract, ba_append, List.toList_toArray]; (first | done | rfl))
    )
      refine g_F (v := .sc (.int .u8 (byteD s (i + 1)).toNat)) (by
        intro hb
        have hlt : i + 1 < s.length := by
          have : ¬ (((i + 1 : Nat) : Int) ≥ (s.length : Int)) := by simpa using hb
          omega
        simp only [go_sem, Nat.reduceEqDiff, Nat.reduceAdd, Nat.reduceLeDiff, f0_0, f1, w1, hb, ba_data, ba_size, ba_toList, ba_extract, ba_append, List.toList_toArray, hi0, Int.toNat_natCast, byteD_q hlt]) ?_
      (repeat' first
    | refine w_seq ?_ | refine w_rg ?_ | refine wo_nil ?_ | refine g_skU ?_
    | ((first | apply s_plain | apply s_void | apply s_guard); · simp only [go_sem, Nat.reduceEqDiff, Nat.reduceAdd, Nat.reduceLeDiff]; (first | done | rfl))
    | ((first | apply g_T | apply g_F); · intro hb; simp only [go_sem, Nat.reduceEqDiff, Nat.reduceAdd, Nat.reduceLeDiff, hb]; (first | done | rfl))
    | ((first | apply g_gT | apply g_gF); · intro hb hc; simp only [go_sem, Nat.reduceEqDiff, Nat.reduceAdd, Nat.reduceLeDiff, hb, hc]; (first | done | rfl))
    | refine g_skT ?_ | refine g_skF ?_
    | ((first | apply g_goT | apply g_goF); · simp only [go_sem, Nat.reduceEqDiff, Nat.reduceAdd, Nat.reduceLeDiff]; (first | done | rfl))
    )
      have hdr : (s.drop a).drop (i - a) = s.drop i := by rw [List.drop_drop]; congr 1; omega
      refine w_condB (b := decide (((i + 1 : Nat) : Int) ≥ (s.length : Int)) || (byteD s (i + 1) != 34)) (by simp only [go_sem, Nat.reduceEqDiff, Nat.reduceAdd, Nat.reduceLeDiff]; rw [u8_ne _ 34 (z := 34) rfl]) (fun hc => ?_) (fun hc => ?_)
      · have hb : oneB s a = .agg [txt [], txt [], .sc (.int .i64 (-1))] := by
          unfold oneB oneR
          rw [hq, hdr]
          split
          · rename_i n v r hm
            exfalso
            split at hm
            · rename_i r2 h2
              by_cases h1 : i + 1 < s.length
              · rw [drop_at (by omega), drop_at h1] at h2
                simp only [List.cons.injEq] at h2
                rw [byteD_at h1, h2.2.1] at hc
                simp only [bne_self_eq_false, Bool.or_false, decide_eq_true_eq] at hc
                omega
              · have := congrArg List.length h2
                simp at this
                omega
            · cases hm
          · rfl
        (repeat' first
    | refine w_seq ?_ | refine w_rg ?_ | refine wo_nil ?_ | refine g_skU ?_
    | ((first | apply s_plain | apply s_void | apply s_guard); · simp only [go_sem, Nat.reduceEqDiff, Nat.reduceAdd, Nat.reduceLeDiff, z4, splice, fillP, fillE, List.modify_zero_cons, List.replicate_succ, List.replicate_zero, List.set_cons_zero, List.drop_zero]; (first | done | rfl))
    | ((first | apply g_T | apply g_F); · intro hb; simp only [go_sem, Nat.reduceEqDiff, Nat.reduceAdd, Nat.reduceLeDiff, z4, splice, fillP, fillE, List.modify_zero_cons, List.replicate_succ, List.replicate_zero, List.set_cons_zero, List.drop_zero, hb]; (first | done | rfl))
    | ((first | apply g_gT | apply g_gF); · intro hb hc; simp only [go_sem, Nat.reduceEqDiff, Nat.reduceAdd, Nat.reduceLeDiff, z4, splice, fillP, fillE, List.modify_zero_cons, List.replicate_succ, List.replicate_zero, List.set_cons_zero, List.drop_zero, hb, hc]; (first | done | rfl))
    | refine g_skT ?_ | refine g_skF ?_
    | ((first | apply g_goT | apply g_goF); · simp only [go_sem, Nat.reduceEqDiff, Nat.reduceAdd, Nat.reduceLeDiff, z4, splice, fillP, fillE, List.modify_zero_cons, List.replicate_succ, List.replicate_zero, List.set_cons_zero, List.drop_zero]; (first | done | rfl))
    | (refine w_condT ?_ ?_; · simp only [go_sem, Nat.reduceEqDiff, Nat.reduceAdd, Nat.reduceLeDiff, z4, splice, fillP, fillE, List.modify_zero_cons, List.replicate_succ, List.replicate_zero, List.set_cons_zero, List.drop_zero]; (first | done | rfl))
    | (refine w_condF ?_ ?_; · simp only [go_sem, Nat.reduceEqDiff, Nat.reduceAdd, Nat.reduceLeDiff, z4, splice, fillP, fillE, List.modify_zero_cons, List.replicate_succ, List.replicate_zero, List.set_cons_zero, List.drop_zero]; (first | done | rfl))
    | refine w_skip ?_ | refine w_exit ?_ | refine w_ret ?_
    )
        exact ⟨by first | exact .inr rfl | exact .inl rfl, by simp only [go_sem, Nat.reduceEqDiff, Nat.reduceAdd, Nat.reduceLeDiff, retOf, resOf, hb, List.modify_zero_cons, z4]; first | done | rfl⟩
      · simp only [Bool.or_eq_false_iff, decide_eq_false_iff_not, bne_eq_false_iff_eq] at hc
        have hlt : i + 1 < s.length := by omega
        rw [byteD_at hlt] at hc
        have h61 : s[i] = 61 := by
          have := eqAt_step (s := s) (i := i) (by omega)
          by_cases h : s[i]'(by omega) = 61
          · exact h
          · have := this h; omega
        have hone : oneR (s.drop a) = (scan (s.drop (i + 2)) []).map fun q => ((s.drop a).take (i - a), q.1, q.2) := by
          unfold oneR
          rw [hq, hdr, drop_at (show i < s.length by omega), drop_at hlt, h61, hc.2]
          rfl
        have b1 : (0 : Int) ≤ (a : Int) ∧ (a : Int) ≤ (i : Int) := by omega
        have b2 : (0 : Int) ≤ (i : Int) ∧ (i : Int) ≤ (s.length : Int) := by omega
        (repeat' first
    | refine w_seq ?_ | refine w_rg ?_ | refine wo_nil ?_ | refine g_skU ?_
    | ((first | apply s_plain | apply s_void | apply s_guard); · simp only [go_sem, Nat.reduceEqDiff, Nat.reduceAdd, Nat.reduceLeDiff, f0_0, z5, f1, w2, ba_data, ba_size, ba_toList, ba_extract, ba_append, List.toList_toArray, bound, b1, b2, Int.toNat_natCast, splice, fillP, fillE, List.modify_zero_cons, List.replicate_succ, List.replicate_zero, List.set_cons_zero, List.drop_zero]; (first | done | rfl))
    | ((first | apply g_T | apply g_F); · intro hb; simp only [go_sem, Nat.reduceEqDiff, Nat.reduceAdd, Nat.reduceLeDiff, f0_0, z5, f1, w2, ba_data, ba_size, ba_toList, ba_extract, ba_append, List.toList_toArray, bound, b1, b2, Int.toNat_natCast, splice, fillP, fillE, List.modify_zero_cons, List.replicate_succ, List.replicate_zero, List.set_cons_zero, List.drop_zero, hb]; (first | done | rfl))
    | ((first | apply g_gT | apply g_gF); · intro hb hc; simp only [go_sem, Nat.reduceEqDiff, Nat.reduceAdd, Nat.reduceLeDiff, f0_0, z5, f1, w2, ba_data, ba_size, ba_toList, ba_extract, ba_append, List.toList_toArray, bound, b1, b2, Int.toNat_natCast, splice, fillP, fillE, List.modify_zero_cons, List.replicate_succ, List.replicate_zero, List.set_cons_zero, List.drop_zero, hb, hc]; (first | done | rfl))
    | refine g_skT ?_ | refine g_skF ?_
    | ((first | apply g_goT | apply g_goF); · simp only [go_sem, Nat.reduceEqDiff, Nat.reduceAdd, Nat.reduceLeDiff, f0_0, z5, f1, w2, ba_data, ba_size, ba_toList, ba_extract, ba_append, List.toList_toArray, bound, b1, b2, Int.toNat_natCast, splice, fillP, fillE, List.modify_zero_cons, List.replicate_succ, List.replicate_zero, List.set_cons_zero, List.drop_zero]; (first | done | rfl))
    | (refine w_condT ?_ ?_; · simp only [go_sem, Nat.reduceEqDiff, Nat.reduceAdd, Nat.reduceLeDiff, f0_0, z5, f1, w2, ba_data, ba_size, ba_toList, ba_extract, ba_append, List.toList_toArray, bound, b1, b2, Int.toNat_natCast, splice, fillP, fillE, List.modify_zero_cons, List.replicate_succ, List.replicate_zero, List.set_cons_zero, List.drop_zero]; (first | done | rfl))
    | (refine w_condF ?_ ?_; · simp only [go_sem, Nat.reduceEqDiff, Nat.reduceAdd, Nat.reduceLeDiff, f0_0, z5, f1, w2, ba_data, ba_size, ba_toList, ba_extract, ba_append, List.toList_toArray, bound, b1, b2, Int.toNat_natCast, splice, fillP, fillE, List.modify_zero_cons, List.replicate_succ, List.replicate_zero, List.set_cons_zero, List.drop_zero]; (first | done | rfl))
    | refine w_skip ?_ | refine w_exit ?_ | refine w_ret ?_
    )
        have hn : (s.take i).drop a = (s.drop a).take (i - a) := by rw [List.drop_take]
        rw [hn]
        generalize (s.drop a).take (i - a) = n at *
        refine w_block (w_loopF (fun m fr σ => ∃ (j : Nat) (acc : List UInt8), m = s.length + 1 - j ∧ j ≤ s.length + 1 ∧ fr 1 = .sc (.int .i64 j) ∧ Gat σ [67] 1 false (fr 7) (bp acc) ∧ acc.length ≤ j ∧ scan (s.drop (i + 2)) [] = scan (s.drop j) acc ∧
          σ.m 2000004 0 = some ⟨3, [.agg [txt [], txt [], .sc (.int .i64 0)]], true, true⟩ ∧ σ.m 2000006 0 = some ⟨2, [.agg [txt n, txt []]], true, true⟩ ∧ 0 < σ.c 2000004 ∧ 0 < σ.c 2000006) ?_ (s.length + 1 - (i + 2)) ?_)
        · rintro m fr2 σ2 ⟨j, acc, rfl, hj, g1, hg, hal, hsc, hm4, hm6, hc4, hc6⟩ hfr
          have f1_0 := hfr 0 rfl; try (simp only [go_sem, Nat.reduceEqDiff, Nat.reduceAdd, Nat.reduceLeDiff, f0_0] at f1_0)
          have y4 : fr2 4 = .bx 2000004 0 3 0 0 := by rw [hfr 4 rfl]; simp only [go_sem, Nat.reduceEqDiff, Nat.reduceAdd, Nat.reduceLeDiff, z4]
          have y6 : fr2 6 = .bx 2000006 0 2 0 0 := by rw [hfr 6 rfl]; simp only [go_sem, Nat.reduceEqDiff, Nat.reduceAdd, Nat.reduceLeDiff]
          (repeat' first
    | refine w_seq ?_ | refine w_rg ?_ | refine wo_nil ?_ | refine g_skU ?_
    | ((first | apply s_plain | apply s_void | apply s_guard); · simp only [go_sem, Nat.reduceEqDiff, Nat.reduceAdd, Nat.reduceLeDiff, f1_0, g1, ba_data, ba_size, ba_toList, ba_extract, ba_append, List.toList_toArray]; (first | done | rfl))
    | ((first | apply g_T | apply g_F); · intro hb; simp only [go_sem, Nat.reduceEqDiff, Nat.reduceAdd, Nat.reduceLeDiff, f1_0, g1, ba_data, ba_size, ba_toList, ba_extract, ba_append, List.toList_toArray, hb]; (first | done | rfl))
    | ((first | apply g_gT | apply g_gF); · intro hb hc; simp only [go_sem, Nat.reduceEqDiff, Nat.reduceAdd, Nat.reduceLeDiff, f1_0, g1, ba_data, ba_size, ba_toList, ba_extract, ba_append, List.toList_toArray, hb, hc]; (first | done | rfl))
    | refine g_skT ?_ | refine g_skF ?_
    | ((first | apply g_goT | apply g_goF); · simp only [go_sem, Nat.reduceEqDiff, Nat.reduceAdd, Nat.reduceLeDiff, f1_0, g1, ba_data, ba_size, ba_toList, ba_extract, ba_append, List.toList_toArray]; (first | done | rfl))
    )
          refine g_T (v := .sc (.int .u8 (byteD s j).toNat)) (by
            intro hb
            have hlt : j < s.length := by simpa using hb
            have hi0 : (0 : Int) ≤ (j : Int) := by omega
            simp only [go_sem, Nat.reduceEqDiff, Nat.reduceAdd, Nat.reduceLeDiff, f1_0, g1, hb, ba_data, ba_size, ba_toList, ba_extract, ba_append, List.toList_toArray, hi0, Int.toNat_natCast, byteD_q hlt]) ?_
          (repeat' first
    | refine w_seq ?_ | refine w_rg ?_ | refine wo_nil ?_ | refine g_skU ?_
    | ((first | apply s_plain | apply s_void | apply s_guard); · simp only [go_sem, Nat.reduceEqDiff, Nat.reduceAdd, Nat.reduceLeDiff]; (first | done | rfl))
    | ((first | apply g_T | apply g_F); · intro hb; simp only [go_sem, Nat.reduceEqDiff, Nat.reduceAdd, Nat.reduceLeDiff, hb]; (first | done | rfl))
    | ((first | apply g_gT | apply g_gF); · intro hb hc; simp only [go_sem, Nat.reduceEqDiff, Nat.reduceAdd, Nat.reduceLeDiff, hb, hc]; (first | done | rfl))
    | refine g_skT ?_ | refine g_skF ?_
    | ((first | apply g_goT | apply g_goF); · simp only [go_sem, Nat.reduceEqDiff, Nat.reduceAdd, Nat.reduceLeDiff]; (first | done | rfl))
    )
          refine w_condB (b := decide ((j : Int) < (s.length : Int)) && (byteD s j != 34)) (by simp only [go_sem, Nat.reduceEqDiff, Nat.reduceAdd, Nat.reduceLeDiff]; rw [u8_ne _ 34 (z := 34) rfl]) (fun hd => ?_) (fun hd => ?_)
          · simp only [Bool.and_eq_true, decide_eq_true_eq, bne_iff_ne] at hd
            have hjl : j < s.length := by omega
            rw [byteD_at hjl] at hd
            have hj0 : (0 : Int) ≤ (j : Int) := by omega
            have v1 : IntKind.i64.wrap ((j : Int) + 1) = ((j + 1 : Nat) : Int) := by rw [IntKind.wrap_i64]; omega
            refine w_skip ?_
            refine w_block ?_
            refine w_seq ?_
            refine Wp.mono (Q := fun x fr τ => x = .normal ∧ fr 0 = txt s ∧ fr 1 = .sc (.int .i64 ((if s[j] = 92 then j + 1 else j : Nat) : Int)) ∧ fr 7 = fr2 7 ∧ τ = σ2) ?_ ?_
            · (repeat' first
    | refine w_seq ?_ | refine w_rg ?_ | refine wo_nil ?_ | refine g_skU ?_
    | ((first | apply s_plain | apply s_void | apply s_guard); · simp only [go_sem, Nat.reduceEqDiff, Nat.reduceAdd, Nat.reduceLeDiff, f1_0, g1, ba_data, ba_size, ba_toList, ba_extract, ba_append, List.toList_toArray, hj0, Int.toNat_natCast, byteD_q hjl]; (first | done | rfl))
    | ((first | apply g_T | apply g_F); · intro hb; simp only [go_sem, Nat.reduceEqDiff, Nat.reduceAdd, Nat.reduceLeDiff, f1_0, g1, ba_data, ba_size, ba_toList, ba_extract, ba_append, List.toList_toArray, hj0, Int.toNat_natCast, byteD_q hjl, hb]; (first | done | rfl))
    | ((first | apply g_gT | apply g_gF); · intro hb hc; simp only [go_sem, Nat.reduceEqDiff, Nat.reduceAdd, Nat.reduceLeDiff, f1_0, g1, ba_data, ba_size, ba_toList, ba_extract, ba_append, List.toList_toArray, hj0, Int.toNat_natCast, byteD_q hjl, hb, hc]; (first | done | rfl))
    | refine g_skT ?_ | refine g_skF ?_
    | ((first | apply g_goT | apply g_goF); · simp only [go_sem, Nat.reduceEqDiff, Nat.reduceAdd, Nat.reduceLeDiff, f1_0, g1, ba_data, ba_size, ba_toList, ba_extract, ba_append, List.toList_toArray, hj0, Int.toNat_natCast, byteD_q hjl]; (first | done | rfl))
    )
              refine w_condB (b := s[j] == 92) (by simp only [go_sem, Nat.reduceEqDiff, Nat.reduceAdd, Nat.reduceLeDiff]; rw [u8_beq _ 92 (z := 92) rfl, byteD_at hjl]) (fun he => ?_) (fun he => ?_)
              · have he : s[j] = 92 := by simpa using he
                (repeat' first
    | refine w_seq ?_ | refine w_rg ?_ | refine wo_nil ?_ | refine g_skU ?_
    | ((first | apply s_plain | apply s_void | apply s_guard); · simp only [go_sem, Nat.reduceEqDiff, Nat.reduceAdd, Nat.reduceLeDiff, g1, v1]; (first | done | rfl))
    | ((first | apply g_T | apply g_F); · intro hb; simp only [go_sem, Nat.reduceEqDiff, Nat.reduceAdd, Nat.reduceLeDiff, g1, v1, hb]; (first | done | rfl))
    | ((first | apply g_gT | apply g_gF); · intro hb hc; simp only [go_sem, Nat.reduceEqDiff, Nat.reduceAdd, Nat.reduceLeDiff, g1, v1, hb, hc]; (first | done | rfl))
    | refine g_skT ?_ | refine g_skF ?_
    | ((first | apply g_goT | apply g_goF); · simp only [go_sem, Nat.reduceEqDiff, Nat.reduceAdd, Nat.reduceLeDiff, g1, v1]; (first | done | rfl))
    )
                exact ⟨rfl, by simp only [go_sem, Nat.reduceEqDiff, Nat.reduceAdd, Nat.reduceLeDiff, f1_0], by simp only [go_sem, Nat.reduceEqDiff, Nat.reduceAdd, Nat.reduceLeDiff, he], by simp only [go_sem, Nat.reduceEqDiff, Nat.reduceAdd, Nat.reduceLeDiff], rfl⟩
              · have he : ¬ s[j] = 92 := by simpa using he
                (repeat' first
    | refine w_seq ?_ | refine w_rg ?_ | refine wo_nil ?_ | refine g_skU ?_
    | ((first | apply s_plain | apply s_void | apply s_guard); · simp only [go_sem, Nat.reduceEqDiff, Nat.reduceAdd, Nat.reduceLeDiff]; (first | done | rfl))
    | ((first | apply g_T | apply g_F); · intro hb; simp only [go_sem, Nat.reduceEqDiff, Nat.reduceAdd, Nat.reduceLeDiff, hb]; (first | done | rfl))
    | ((first | apply g_gT | apply g_gF); · intro hb hc; simp only [go_sem, Nat.reduceEqDiff, Nat.reduceAdd, Nat.reduceLeDiff, hb, hc]; (first | done | rfl))
    | refine g_skT ?_ | refine g_skF ?_
    | ((first | apply g_goT | apply g_goF); · simp only [go_sem, Nat.reduceEqDiff, Nat.reduceAdd, Nat.reduceLeDiff]; (first | done | rfl))
    | (refine w_condT ?_ ?_; · simp only [go_sem, Nat.reduceEqDiff, Nat.reduceAdd, Nat.reduceLeDiff]; (first | done | rfl))
    | (refine w_condF ?_ ?_; · simp only [go_sem, Nat.reduceEqDiff, Nat.reduceAdd, Nat.reduceLeDiff]; (first | done | rfl))
    | refine w_skip ?_ | refine w_exit ?_ | refine w_ret ?_
    )
                exact ⟨rfl, by simp only [go_sem, Nat.reduceEqDiff, Nat.reduceAdd, Nat.reduceLeDiff, f1_0], by simp only [go_sem, Nat.reduceEqDiff, Nat.reduceAdd, Nat.reduceLeDiff, g1, he], by simp only [go_sem, Nat.reduceEqDiff, Nat.reduceAdd, Nat.reduceLeDiff], rfl⟩
            · rintro x fr3 τ ⟨rfl, k0, k1, k7, rfl⟩
              rw [← k7] at hg
              generalize hjj : (if s[j] = 92 then j + 1 else j : Nat) = jj at k1
              have hjj2 : j ≤ jj ∧ jj ≤ s.length := by rw [← hjj]; split <;> omega
              have v2 : IntKind.i64.wrap ((jj : Int) + 1) = ((jj + 1 : Nat) : Int) := by rw [IntKind.wrap_i64]; omega
              (repeat' first
    | refine w_seq ?_ | refine w_rg ?_ | refine wo_nil ?_ | refine g_skU ?_
    | ((first | apply s_plain | apply s_void | apply s_guard); · simp only [go_sem, Nat.reduceEqDiff, Nat.reduceAdd, Nat.reduceLeDiff, k0, k1, ba_data, ba_size, ba_toList, ba_extract, ba_append, List.toList_toArray]; (first | done | rfl))
    | ((first | apply g_T | apply g_F); · intro hb; simp only [go_sem, Nat.reduceEqDiff, Nat.reduceAdd, Nat.reduceLeDiff, k0, k1, ba_data, ba_size, ba_toList, ba_extract, ba_append, List.toList_toArray, hb]; (first | done | rfl))
    | ((first | apply g_gT | apply g_gF); · intro hb hc; simp only [go_sem, Nat.reduceEqDiff, Nat.reduceAdd, Nat.reduceLeDiff, k0, k1, ba_data, ba_size, ba_toList, ba_extract, ba_append, List.toList_toArray, hb, hc]; (first | done | rfl))
    | refine g_skT ?_ | refine g_skF ?_
    | ((first | apply g_goT | apply g_goF); · simp only [go_sem, Nat.reduceEqDiff, Nat.reduceAdd, Nat.reduceLeDiff, k0, k1, ba_data, ba_size, ba_toList, ba_extract, ba_append, List.toList_toArray]; (first | done | rfl))
    )
              refine w_condB (b := decide ((jj : Int) < (s.length : Int))) (by simp only [go_sem, Nat.reduceEqDiff, Nat.reduceAdd, Nat.reduceLeDiff]; first | done | rfl) (fun he => ?_) (fun he => ?_)
              · have hjl2 : jj < s.length := by simpa using he
                have hjj0 : (0 : Int) ≤ (jj : Int) := by omega
                (repeat' first
    | refine w_seq ?_ | refine w_rg ?_ | refine wo_nil ?_ | refine g_skU ?_
    | ((first | apply s_plain | apply s_void | apply s_guard); · simp only [go_sem, Nat.reduceEqDiff, Nat.reduceAdd, Nat.reduceLeDiff, k0, k1, ba_data, ba_size, ba_toList, ba_extract, ba_append, List.toList_toArray, hjj0, Int.toNat_natCast, byteD_q hjl2, splice, fillP, fillE, List.modify_zero_cons, List.replicate_succ, List.replicate_zero, List.set_cons_zero, List.drop_zero]; (first | done | rfl))
    | ((first | apply g_T | apply g_F); · intro hb; simp only [go_sem, Nat.reduceEqDiff, Nat.reduceAdd, Nat.reduceLeDiff, k0, k1, ba_data, ba_size, ba_toList, ba_extract, ba_append, List.toList_toArray, hjj0, Int.toNat_natCast, byteD_q hjl2, splice, fillP, fillE, List.modify_zero_cons, List.replicate_succ, List.replicate_zero, List.set_cons_zero, List.drop_zero, hb]; (first | done | rfl))
    | ((first | apply g_gT | apply g_gF); · intro hb hc; simp only [go_sem, Nat.reduceEqDiff, Nat.reduceAdd, Nat.reduceLeDiff, k0, k1, ba_data, ba_size, ba_toList, ba_extract, ba_append, List.toList_toArray, hjj0, Int.toNat_natCast, byteD_q hjl2, splice, fillP, fillE, List.modify_zero_cons, List.replicate_succ, List.replicate_zero, List.set_cons_zero, List.drop_zero, hb, hc]; (first | done | rfl))
    | refine g_skT ?_ | refine g_skF ?_
    | ((first | apply g_goT | apply g_goF); · simp only [go_sem, Nat.reduceEqDiff, Nat.reduceAdd, Nat.reduceLeDiff, k0, k1, ba_data, ba_size, ba_toList, ba_extract, ba_append, List.toList_toArray, hjj0, Int.toNat_natCast, byteD_q hjl2, splice, fillP, fillE, List.modify_zero_cons, List.replicate_succ, List.replicate_zero, List.set_cons_zero, List.drop_zero]; (first | done | rfl))
    )
                refine s_gatL (os := [67]) (w := false) (xs := bp acc) (ys := bp [s[jj]]) (by simp only [go_sem, Nat.reduceEqDiff, Nat.reduceAdd, Nat.reduceLeDiff]; exact hg.new _) (by simp only [go_sem, Nat.reduceEqDiff, Nat.reduceAdd, Nat.reduceLeDiff, srcOf, elemsOf, List.drop_zero, byteD_at hjl2]; (first | done | rfl)) rfl (by simp [bp]; omega) ?_
                intro p3 σ3 hg3 kp
                rw [Bool.false_and, ← bp_app] at hg3
                (repeat' first
    | refine w_seq ?_ | refine w_rg ?_ | refine wo_nil ?_ | refine g_skU ?_
    | ((first | apply s_plain | apply s_void | apply s_guard); · simp only [go_sem, Nat.reduceEqDiff, Nat.reduceAdd, Nat.reduceLeDiff, k1, v2]; (first | done | rfl))
    | ((first | apply g_T | apply g_F); · intro hb; simp only [go_sem, Nat.reduceEqDiff, Nat.reduceAdd, Nat.reduceLeDiff, k1, v2, hb]; (first | done | rfl))
    | ((first | apply g_gT | apply g_gF); · intro hb hc; simp only [go_sem, Nat.reduceEqDiff, Nat.reduceAdd, Nat.reduceLeDiff, k1, v2, hb, hc]; (first | done | rfl))
    | refine g_skT ?_ | refine g_skF ?_
    | ((first | apply g_goT | apply g_goF); · simp only [go_sem, Nat.reduceEqDiff, Nat.reduceAdd, Nat.reduceLeDiff, k1, v2]; (first | done | rfl))
    )
                refine ⟨_, ?_, jj + 1, acc ++ [s[jj]], rfl, by omega, by simp only [go_sem, Nat.reduceEqDiff, Nat.reduceAdd, Nat.reduceLeDiff], by simp only [go_sem, Nat.reduceEqDiff, Nat.reduceAdd, Nat.reduceLeDiff]; exact hg3, by simp; omega, ?_, by rw [kp.m _ _ (by decide) (by simp only [go_sem, Nat.reduceEqDiff, Nat.reduceAdd, Nat.reduceLeDiff]; exact hc4)]; simp only [go_sem, Nat.reduceEqDiff, Nat.reduceAdd, Nat.reduceLeDiff, hm4], by rw [kp.m _ _ (by decide) (by simp only [go_sem, Nat.reduceEqDiff, Nat.reduceAdd, Nat.reduceLeDiff]; exact hc6)]; simp only [go_sem, Nat.reduceEqDiff, Nat.reduceAdd, Nat.reduceLeDiff, hm6], Nat.lt_of_lt_of_le (by simp only [go_sem, Nat.reduceEqDiff, Nat.reduceAdd, Nat.reduceLeDiff]; exact hc4) (kp.c _), Nat.lt_of_lt_of_le (by simp only [go_sem, Nat.reduceEqDiff, Nat.reduceAdd, Nat.reduceLeDiff]; exact hc6) (kp.c _)⟩
                · omega
                · rw [hsc]
                  by_cases h92 : s[j] = 92
                  · rw [if_pos h92] at hjj
                    subst hjj
                    exact scan_esc hjl2 h92
                  · rw [if_neg h92] at hjj
                    subst hjj
                    exact scan_step hjl hd.2 h92
              · have he : ¬ jj < s.length := by simpa using he
                (repeat' first
    | refine w_seq ?_ | refine w_rg ?_ | refine wo_nil ?_ | refine g_skU ?_
    | ((first | apply s_plain | apply s_void | apply s_guard); · simp only [go_sem, Nat.reduceEqDiff, Nat.reduceAdd, Nat.reduceLeDiff, k1, v2]; (first | done | rfl))
    | ((first | apply g_T | apply g_F); · intro hb; simp only [go_sem, Nat.reduceEqDiff, Nat.reduceAdd, Nat.reduceLeDiff, k1, v2, hb]; (first | done | rfl))
    | ((first | apply g_gT | apply g_gF); · intro hb hc; simp only [go_sem, Nat.reduceEqDiff, Nat.reduceAdd, Nat.reduceLeDiff, k1, v2, hb, hc]; (first | done | rfl))
    | refine g_skT ?_ | refine g_skF ?_
    | ((first | apply g_goT | apply g_goF); · simp only [go_sem, Nat.reduceEqDiff, Nat.reduceAdd, Nat.reduceLeDiff, k1, v2]; (first | done | rfl))
    | (refine w_condT ?_ ?_; · simp only [go_sem, Nat.reduceEqDiff, Nat.reduceAdd, Nat.reduceLeDiff, k1, v2]; (first | done | rfl))
    | (refine w_condF ?_ ?_; · simp only [go_sem, Nat.reduceEqDiff, Nat.reduceAdd, Nat.reduceLeDiff, k1, v2]; (first | done | rfl))
    | refine w_skip ?_ | refine w_exit ?_ | refine w_ret ?_
    )
                refine ⟨_, ?_, jj + 1, acc, rfl, by omega, by simp only [go_sem, Nat.reduceEqDiff, Nat.reduceAdd, Nat.reduceLeDiff], by simp only [go_sem, Nat.reduceEqDiff, Nat.reduceAdd, Nat.reduceLeDiff]; exact hg, by omega, ?_, hm4, hm6, hc4, hc6⟩
                · omega
                · rw [hsc]
                  have h92 : s[j] = 92 := by
                    by_cases h : s[j] = 92
                    · exact h
                    · rw [if_neg h] at hjj; omega
                  rw [scan_last hjl (by rw [if_pos h92] at hjj; omega) hd.2, scan_nil (by omega)]
          · refine w_exit ?_
            try simp only [if_true]
            (repeat' first
    | refine w_seq ?_ | refine w_rg ?_ | refine wo_nil ?_ | refine g_skU ?_
    | ((first | apply s_plain | apply s_void | apply s_guard); · simp only [go_sem, Nat.reduceEqDiff, Nat.reduceAdd, Nat.reduceLeDiff, f1_0, g1, ba_data, ba_size, ba_toList, ba_extract, ba_append, List.toList_toArray]; (first | done | rfl))
    | ((first | apply g_T | apply g_F); · intro hb; simp only [go_sem, Nat.reduceEqDiff, Nat.reduceAdd, Nat.reduceLeDiff, f1_0, g1, ba_data, ba_size, ba_toList, ba_extract, ba_append, List.toList_toArray, hb]; (first | done | rfl))
    | ((first | apply g_gT | apply g_gF); · intro hb hc; simp only [go_sem, Nat.reduceEqDiff, Nat.reduceAdd, Nat.reduceLeDiff, f1_0, g1, ba_data, ba_size, ba_toList, ba_extract, ba_append, List.toList_toArray, hb, hc]; (first | done | rfl))
    | refine g_skT ?_ | refine g_skF ?_
    | ((first | apply g_goT | apply g_goF); · simp only [go_sem, Nat.reduceEqDiff, Nat.reduceAdd, Nat.reduceLeDiff, f1_0, g1, ba_data, ba_size, ba_toList, ba_extract, ba_append, List.toList_toArray]; (first | done | rfl))
    )
            refine w_condB (b := decide ((j : Int) ≥ (s.length : Int))) (by simp only [go_sem, Nat.reduceEqDiff, Nat.reduceAdd, Nat.reduceLeDiff]; first | done | rfl) (fun he => ?_) (fun he => ?_)
            · have he : s.length ≤ j := by simpa using he
              have hb : oneB s a = .agg [txt [], txt [], .sc (.int .i64 (-1))] := by
                unfold oneB
                rw [hone, hsc, scan_nil he]; rfl
              (repeat' first
    | refine w_seq ?_ | refine w_rg ?_ | refine wo_nil ?_ | refine g_skU ?_
    | ((first | apply s_plain | apply s_void | apply s_guard); · simp only [go_sem, Nat.reduceEqDiff, Nat.reduceAdd, Nat.reduceLeDiff, y4, hm4, splice, fillP, fillE, List.modify_zero_cons, List.replicate_succ, List.replicate_zero, List.set_cons_zero, List.drop_zero]; (first | done | rfl))
    | ((first | apply g_T | apply g_F); · intro hb; simp only [go_sem, Nat.reduceEqDiff, Nat.reduceAdd, Nat.reduceLeDiff, y4, hm4, splice, fillP, fillE, List.modify_zero_cons, List.replicate_succ, List.replicate_zero, List.set_cons_zero, List.drop_zero, hb]; (first | done | rfl))
    | ((first | apply g_gT | apply g_gF); · intro hb hc; simp only [go_sem, Nat.reduceEqDiff, Nat.reduceAdd, Nat.reduceLeDiff, y4, hm4, splice, fillP, fillE, List.modify_zero_cons, List.replicate_succ, List.replicate_zero, List.set_cons_zero, List.drop_zero, hb, hc]; (first | done | rfl))
    | refine g_skT ?_ | refine g_skF ?_
    | ((first | apply g_goT | apply g_goF); · simp only [go_sem, Nat.reduceEqDiff, Nat.reduceAdd, Nat.reduceLeDiff, y4, hm4, splice, fillP, fillE, List.modify_zero_cons, List.replicate_succ, List.replicate_zero, List.set_cons_zero, List.drop_zero]; (first | done | rfl))
    | (refine w_condT ?_ ?_; · simp only [go_sem, Nat.reduceEqDiff, Nat.reduceAdd, Nat.reduceLeDiff, y4, hm4, splice, fillP, fillE, List.modify_zero_cons, List.replicate_succ, List.replicate_zero, List.set_cons_zero, List.drop_zero]; (first | done | rfl))
    | (refine w_condF ?_ ?_; · simp only [go_sem, Nat.reduceEqDiff, Nat.reduceAdd, Nat.reduceLeDiff, y4, hm4, splice, fillP, fillE, List.modify_zero_cons, List.replicate_succ, List.replicate_zero, List.set_cons_zero, List.drop_zero]; (first | done | rfl))
    | refine w_skip ?_ | refine w_exit ?_ | refine w_ret ?_
    )
              exact ⟨by first | exact .inr rfl | exact .inl rfl, by simp only [go_sem, Nat.reduceEqDiff, Nat.reduceAdd, Nat.reduceLeDiff, retOf, resOf, hb, List.modify_zero_cons, y4]; first | done | rfl⟩
            · have he : j < s.length := by simpa using he
              have h34 : s[j] = 34 := by
                simp only [Bool.and_eq_false_iff, decide_eq_false_iff_not, bne_eq_false_iff_eq] at hd
                rcases hd with hd | hd
                · omega
                · rw [← byteD_at he]; exact hd
              have v1 : IntKind.i64.wrap ((j : Int) + 1) = ((j + 1 : Nat) : Int) := by rw [IntKind.wrap_i64]; omega
              have hb : oneB s a = .agg [txt n, txt acc, .sc (.int .i64 ((j + 1 : Nat) : Int))] := by
                unfold oneB
                rw [hone, hsc, scan_end he h34]
                simp only [Option.map_some, List.length_drop]
                rw [show s.length - (s.length - (j + 1)) = j + 1 by omega]
              (repeat' first
    | refine w_seq ?_ | refine w_rg ?_ | refine wo_nil ?_ | refine g_skU ?_
    | ((first | apply s_plain | apply s_void | apply s_guard); · simp only [go_sem, Nat.reduceEqDiff, Nat.reduceAdd, Nat.reduceLeDiff]; (first | done | rfl))
    | ((first | apply g_T | apply g_F); · intro hb; simp only [go_sem, Nat.reduceEqDiff, Nat.reduceAdd, Nat.reduceLeDiff, hb]; (first | done | rfl))
    | ((first | apply g_gT | apply g_gF); · intro hb hc; simp only [go_sem, Nat.reduceEqDiff, Nat.reduceAdd, Nat.reduceLeDiff, hb, hc]; (first | done | rfl))
    | refine g_skT ?_ | refine g_skF ?_
    | ((first | apply g_goT | apply g_goF); · simp only [go_sem, Nat.reduceEqDiff, Nat.reduceAdd, Nat.reduceLeDiff]; (first | done | rfl))
    | (refine w_condT ?_ ?_; · simp only [go_sem, Nat.reduceEqDiff, Nat.reduceAdd, Nat.reduceLeDiff]; (first | done | rfl))
    | (refine w_condF ?_ ?_; · simp only [go_sem, Nat.reduceEqDiff, Nat.reduceAdd, Nat.reduceLeDiff]; (first | done | rfl))
    | refine w_skip ?_ | refine w_exit ?_ | refine w_ret ?_
    )
              refine s_plain (v := txt acc) (σ' := σ2) (by simp only [go_sem, Nat.reduceEqDiff, Nat.reduceAdd, Nat.reduceLeDiff, gat_elems hg, bp_back]) ?_
              (repeat' first
    | refine w_seq ?_ | refine w_rg ?_ | refine wo_nil ?_ | refine g_skU ?_
    | ((first | apply s_plain | apply s_void | apply s_guard); · simp only [go_sem, Nat.reduceEqDiff, Nat.reduceAdd, Nat.reduceLeDiff, y4, y6, g1, v1, hm4, hm6, splice, fillP, fillE, List.modify_zero_cons, List.replicate_succ, List.replicate_zero, List.set_cons_zero, List.drop_zero]; (first | done | rfl))
    | ((first | apply g_T | apply g_F); · intro hb; simp only [go_sem, Nat.reduceEqDiff, Nat.reduceAdd, Nat.reduceLeDiff, y4, y6, g1, v1, hm4, hm6, splice, fillP, fillE, List.modify_zero_cons, List.replicate_succ, List.replicate_zero, List.set_cons_zero, List.drop_zero, hb]; (first | done | rfl))
    | ((first | apply g_gT | apply g_gF); · intro hb hc; simp only [go_sem, Nat.reduceEqDiff, Nat.reduceAdd, Nat.reduceLeDiff, y4, y6, g1, v1, hm4, hm6, splice, fillP, fillE, List.modify_zero_cons, List.replicate_succ, List.replicate_zero, List.set_cons_zero, List.drop_zero, hb, hc]; (first | done | rfl))
    | refine g_skT ?_ | refine g_skF ?_
    | ((first | apply g_goT | apply g_goF); · simp only [go_sem, Nat.reduceEqDiff, Nat.reduceAdd, Nat.reduceLeDiff, y4, y6, g1, v1, hm4, hm6, splice, fillP, fillE, List.modify_zero_cons, List.replicate_succ, List.replicate_zero, List.set_cons_zero, List.drop_zero]; (first | done | rfl))
    | (refine w_condT ?_ ?_; · simp only [go_sem, Nat.reduceEqDiff, Nat.reduceAdd, Nat.reduceLeDiff, y4, y6, g1, v1, hm4, hm6, splice, fillP, fillE, List.modify_zero_cons, List.replicate_succ, List.replicate_zero, List.set_cons_zero, List.drop_zero]; (first | done | rfl))
    | (refine w_condF ?_ ?_; · simp only [go_sem, Nat.reduceEqDiff, Nat.reduceAdd, Nat.reduceLeDiff, y4, y6, g1, v1, hm4, hm6, splice, fillP, fillE, List.modify_zero_cons, List.replicate_succ, List.replicate_zero, List.set_cons_zero, List.drop_zero]; (first | done | rfl))
    | refine w_skip ?_ | refine w_exit ?_ | refine w_ret ?_
    )
              exact ⟨by first | exact .inr rfl | exact .inl rfl, by simp only [go_sem, Nat.reduceEqDiff, Nat.reduceAdd, Nat.reduceLeDiff, retOf, resOf, hb, List.modify_zero_cons, y4]; first | done | rfl⟩
        · exact ⟨i + 2, [], rfl, by omega, by simp only [go_sem, Nat.reduceEqDiff, Nat.reduceAdd, Nat.reduceLeDiff], by simp only [go_sem, Nat.reduceEqDiff, Nat.reduceAdd, Nat.reduceLeDiff]; exact .em, by simp, rfl, by simp only [go_sem, Nat.reduceEqDiff, Nat.reduceAdd, Nat.reduceLeDiff, List.modify_zero_cons], by simp only [go_sem, Nat.reduceEqDiff, Nat.reduceAdd, Nat.reduceLeDiff, List.modify_zero_cons], by simp only [go_sem, Nat.reduceEqDiff, Nat.reduceAdd, Nat.reduceLeDiff], by simp only [go_sem, Nat.reduceEqDiff, Nat.reduceAdd, Nat.reduceLeDiff]⟩
  · exact ⟨a, rfl, Nat.le_refl _, ha, by simp only [go_sem, Nat.reduceEqDiff, Nat.reduceAdd, Nat.reduceLeDiff], by omega, by simp only [go_sem, Nat.reduceEqDiff, Nat.reduceAdd, Nat.reduceLeDiff]⟩
end
end Go.Proofs.YtjijlmfhnkipmaaDoorPv
namespace Go.Proofs.YtjijlmfhnkipmaaDoorPv
open Go
set_option linter.unusedSimpArgs false
set_option linter.unusedVariables false
set_option maxHeartbeats 4000000
attribute [local go_sem ↓] e_mv e_pick e_bin e_eqs e_beq e_un e_cvi e_str e_s2b e_b2s e_box e_build e_bsl e_ld e_st e_nck e_mkf e_slcS e_slcL e_fa e_fld e_ia e_iaa e_ix e_ixa e_ext e_lenS e_lenL e_mnmx e_app e_appb e_bbx e_msl e_clr e_call e_callv pa_t pa_c pa_f slcSP_str hiOf_some hiOf_none loOf_some loOf_none set_eq set_ne
attribute [local go_sem] pv pv1 simple frOf_0 frOf_1 frOf_2 frOf_3 frOf_4 frOf_5 ne_eq not_false_eq_true if_true Bool.false_eq_true if_false pbin punary Option.map_some Option.bind_some pick_and pick_or opt_true Bool.true_and Bool.and_self Bool.and_true Bool.true_or Bool.false_or Bool.not_true Bool.not_false callE pcall_eq List.map_cons List.map_nil List.append_nil List.nil_append List.cons_append mapM_cons' mapM_nil' dep_eq fz_sc fz_sl fz_em fz_fn fz_fp fz_agg fz_tu fz_bx fz_ob Nat.lt_irrefl Nat.zero_lt_one Nat.lt_add_one flat clL cl Bool.or_true okc_sc okc_em okc_sl okc_ob okc_bx okc_fp okc_fn okc_agg okc_ifc cells_agg cells_sc cells_sl cells_em cells_ob cells_fn cells_bx cells_fp List.length_cons List.length_nil Nat.zero_add and_self true_and and_true new_m new_c put_m put_c nil_m nil_c deref List.getElem?_cons_zero List.getElem?_cons_succ List.drop_zero List.drop_succ_cons List.take_succ_cons List.take_zero Nat.le_refl false_and and_false decide_true decide_false lenP_em lenP_nil lenP_sl lenP_ob Int.ofNat_zero
set_option maxRecDepth 8000
/-- transhipment/transhipmentref03.Parse -/
def d208 : Def := (.code 1 [.tmp 2, .tmp 3] (.seq (.rg false [⟨.some 2, .none, .mv (.c (.slice .none 0 0))⟩, ⟨.some 3, .none, .mv (.c (.bool false))⟩]) (.seq (.rg false [⟨.some 8, .none, .mv (.c (.slice .none 0 0))⟩, ⟨.some 4, .none, .mv (.t 8)⟩]) (.seq (.seq (.rg false [⟨.some 9, .none, .mv (.t 0)⟩, ⟨.some 10, .none, .bin .eql (.t 9) (.c (.string ⟨#[123, 125]⟩))⟩]) (.cond (.t 10) (.seq (.rg false [⟨.some 11, .none, .mv (.t 4)⟩, ⟨.some 2, .none, .mv (.t 11)⟩, ⟨.some 3, .none, .mv (.c (.bool true))⟩]) .ret) .skip)) (.seq (.rg false [⟨.some 5, .none, .mv (.c (.int .i64 0))⟩]) (.seq (.block 0 (.loop (.seq (.seq (.rg false [⟨.some 12, .none, .mv (.t 5)⟩, ⟨.some 13, .none, .mv (.t 0)⟩, ⟨.some 14, .none, .lenS (.t 13)⟩, ⟨.some 15, .none, .bin .lss (.t 12) (.t 14)⟩, ⟨.some 16, .none, .mv (.t 15)⟩, ⟨.some 17, .some (16, true), .mv (.t 4)⟩, ⟨.some 18, .some (16, true), .lenL (.t 17)⟩, ⟨.some 19, .some (16, true), .bin .lss (.t 18) (.c (.int .i64 9))⟩, ⟨.some 20, .none, .pick (.t 16) (.t 19) (.c (.bool false))⟩]) (.cond (.t 20) .skip (.exit 0))) (.block 1 (.seq (.rg false [⟨.some 6, .none, .mv (.c (.int .u8 44))⟩]) (.seq (.seq (.rg false [⟨.some 21, .none, .mv (.t 5)⟩, ⟨.some 22, .none, .bin .eql (.t 21) (.c (.int .i64 0))⟩]) (.cond (.t 22) (.rg false [⟨.some 6, .none, .mv (.c (.int .u8 123))⟩]) .skip)) (.seq (.seq (.rg false [⟨.some 23, .none, .mv (.t 0)⟩, ⟨.some 24, .none, .mv (.t 5)⟩, ⟨.some 25, .none, .ix (.t 23) (.t 24)⟩, ⟨.some 26, .none, .mv (.t 6)⟩, ⟨.some 27, .none, .bin .neq (.t 25) (.t 26)⟩]) (.cond (.t 27) (.exit 0) .skip)) (.seq (.rg false [⟨.some 28, .none, .mv (.t 0)⟩, ⟨.some 29, .none, .mv (.t 5)⟩, ⟨.some 30, .none, .bin .add (.t 29) (.c (.int .i64 1))⟩, ⟨.some 31, .none, .call 214 .pure [.t 28, .t 30]⟩, ⟨.some 7, .none, .box (.c (.agg #[.string ⟨#[]⟩, .string ⟨#[]⟩, .int .i64 0]))⟩, ⟨.none, .none, .st 3 (.t 7) (.t 31)⟩]) (.seq (.seq (.rg false [⟨.some 32, .none, .fa 2 (.t 7)⟩, ⟨.some 33, .none, .ld .none (.t 32)⟩, ⟨.some 34, .none, .bin .lss (.t 33) (.c (.int .i64 0))⟩]) (.cond (.t 34) (.seq (.rg false [⟨.some 2, .none, .mv (.c (.slice .none 0 0))⟩, ⟨.some 3, .none, .mv (.c (.bool false))⟩]) .ret) .skip)) (.seq (.rg false [⟨.some 35, .none, .mv (.t 4)⟩, ⟨.some 36, .none, .fa 0 (.t 7)⟩, ⟨.some 37, .none, .ld (.some 2) (.t 36)⟩, ⟨.some 38, .none, .bsl 2 (.agg #[.string ⟨#[]⟩, .string ⟨#[]⟩]) 1 [(0, .t 37)]⟩, ⟨.some 39, .none, .app 2 32 false (.t 35) (.t 38)⟩, ⟨.some 4, .none, .mv (.t 39)⟩]) (.rg false [⟨.some 40, .none, .fa 2 (.t 7)⟩, ⟨.some 41, .none, .ld .none (.t 40)⟩, ⟨.some 5, .none, .mv (.t 41)⟩]))))))))))) (.seq (.seq (.rg false [⟨.some 42, .none, .mv (.t 5)⟩, ⟨.some 43, .none, .mv (.t 0)⟩, ⟨.some 44, .none, .lenS (.t 43)⟩, ⟨.some 45, .none, .bin .sub (.t 44) (.c (.int .i64 1))⟩, ⟨.some 46, .none, .bin .neq (.t 42) (.t 45)⟩, ⟨.some 47, .none, .mv (.t 46)⟩, ⟨.some 48, .some (47, false), .mv (.t 0)⟩, ⟨.some 49, .some (47, false), .mv (.t 5)⟩, ⟨.some 50, .some (47, false), .ix (.t 48) (.t 49)⟩, ⟨.some 51, .some (47, false), .bin .neq (.t 50) (.c (.int .u8 125))⟩, ⟨.some 52, .none, .pick (.t 47) (.c (.bool true)) (.t 51)⟩, ⟨.some 53, .none, .mv (.t 52)⟩, ⟨.some 54, .some (53, false), .mv (.t 4)⟩, ⟨.some 55, .some (53, false), .call 110 .pure [.t 54]⟩, ⟨.some 56, .some (53, false), .un .not (.t 55)⟩, ⟨.some 57, .none, .pick (.t 53) (.c (.bool true)) (.t 56)⟩, ⟨.some 58, .none, .mv (.t 57)⟩, ⟨.some 59, .some (58, false), .mv (.t 4)⟩, ⟨.some 60, .some (58, false), .call 211 .pure [.t 59]⟩, ⟨.some 61, .some (58, false), .mv (.t 0)⟩, ⟨.some 62, .some (58, false), .bin .neq (.t 60) (.t 61)⟩, ⟨.some 63, .none, .pick (.t 58) (.c (.bool true)) (.t 62)⟩]) (.cond (.t 63) (.seq (.rg false [⟨.some 2, .none, .mv (.c (.slice .none 0 0))⟩, ⟨.some 3, .none, .mv (.c (.bool false))⟩]) .ret) .skip)) (.seq (.rg false [⟨.some 64, .none, .mv (.t 4)⟩, ⟨.some 2, .none, .mv (.t 64)⟩, ⟨.some 3, .none, .mv (.c (.bool true))⟩]) .ret))))))))
def lcf : List (Nat × Def) := [(208, d208)]
section
variable {env : Nat → Option Def} {fr : Fr} {σ σ' σ'' : St} {K : Fr → St → Prop} {Q : X → Fr → St → Prop} {p : PV} {bs : List UInt8}
/-- Labels, read off as the document says; none: one could not be. -/
def plR : Nat → Bool → List UInt8 → List Lab → Option (List UInt8 × List Lab)
  | 0, _, rest, out => some (rest, out)
  | _ + 1, _, [], out => some ([], out)
  | k + 1, b, c :: r, out => if c ≠ (if b then 123 else 44) then some (c :: r, out) else (oneR r).bind fun q => plR k false q.2.2 (out ++ [mkLab q.1 q.2.1])
def parseR (s : List UInt8) : List Lab × Bool := if s = [123, 125] then ([], true) else match plR 9 true s [] with
  | some (rest, out) => if rest = [125] ∧ rightL out = true ∧ (textS out).data.toList = s then (out, true) else ([], false)
  | none => ([], false)
theorem scan_suffix : ∀ (k : Nat) (s acc v r : List UInt8), s.length ≤ k → scan s acc = some (v, r) → ∃ u, u ++ r = s
  | _, [], acc, v, r, _, h => by simp [scan] at h
  | _, [c], acc, v, r, _, h => by
    simp only [scan] at h
    split at h
    · simp only [Option.some.injEq, Prod.mk.injEq] at h
      obtain ⟨rfl, rfl⟩ := h
      exact ⟨[c], rfl⟩
    · cases h
  | 0, c :: d :: s, acc, v, r, hk, h => by simp at hk
  | k + 1, c :: d :: s, acc, v, r, hk, h => by
    simp only [scan] at h
    simp only [List.length_cons] at hk
    split at h
    · simp only [Option.some.injEq, Prod.mk.injEq] at h
      obtain ⟨rfl, rfl⟩ := h
      exact ⟨[c], rfl⟩
    · split at h
      · obtain ⟨u, hu⟩ := scan_suffix k s _ v r (by omega) h
        exact ⟨c :: d :: u, by simp [hu]⟩
      · obtain ⟨u, hu⟩ := scan_suffix k (d :: s) _ v r (by simp; omega) h
        exact ⟨c :: u, by simp [hu]⟩
theorem oneR_le {s n v r : List UInt8} (h : oneR s = some (n, v, r)) : n.length ≤ s.length ∧ v.length ≤ s.length ∧ r.length ≤ s.length ∧ r = s.drop (s.length - r.length) := by
  unfold oneR at h
  split at h
  · rename_i t ht
    obtain ⟨q, hq, h⟩ := Option.map_eq_some_iff.1 h
    simp only [Prod.mk.injEq] at h
    obtain ⟨rfl, rfl, rfl⟩ := h
    have h1 := scan_le _ _ _ q.1 q.2 (Nat.le_refl _) hq
    have h2 := congrArg List.length ht
    simp at h1 h2
    have h3 := scan_suffix _ _ _ _ _ (Nat.le_refl _) hq
    have h4 : t = s.drop (eqAt s + 2) := by rw [← List.drop_drop, ht]; rfl
    refine ⟨by simp; omega, by omega, by omega, ?_⟩
    obtain ⟨u, hu⟩ := h3
    have hl := congrArg List.length hu
    rw [h4, List.length_append, List.length_drop] at hl
    have : q.2 = (s.drop (eqAt s + 2)).drop u.length := by rw [← h4, ← hu]; simp
    rw [List.drop_drop] at this
    conv => lhs; rw [this]
    congr 1
    omega
  · cases h
theorem oneR_mark {n v t : List UInt8} (h : NoEq n) : oneR (n ++ 61 :: 34 :: (esc v ++ 34 :: t)) = some (n, v, t) := by
  have he : eqAt (n ++ 61 :: 34 :: (esc v ++ 34 :: t)) = n.length := by
    unfold eqAt
    rw [List.takeWhile_append_of_pos (by simpa [NoEq] using h)]
    simp
  unfold oneR
  rw [he]
  simp only [List.drop_left, List.take_left', List.drop_append]
  simp [scan_esc']
theorem plR_tail : ∀ (k : Nat) (l out : List Lab), (∀ m ∈ l, NoEq m.1.data.toList) → l.length < k → plR k false (tailB l) out = some ([125], out ++ l)
  | 0, l, out, _, hk => by omega
  | k + 1, [], out, _, _ => by simp [plR, tailB]
  | k + 1, m :: r, out, h, hk => by
    have hm := h m (by simp)
    simp only [tailB, plR]
    rw [if_neg (by decide), oneR_mark hm, Option.bind_some, mk_eta, plR_tail k r (out ++ [m]) (fun x hx => h x (by simp [hx])) (by simp at hk; omega)]
    simp
theorem parseR_text {l : List Lab} (h : rightL l = true) : parseR (textS l).data.toList = (l, true) := by
  have hne := right_noEq h
  obtain ⟨_, _, h8⟩ := right_iff.1 h
  cases l with
  | nil => rfl
  | cons m r =>
    have ht : (textS (m :: r)).data.toList = 123 :: (m.1.data.toList ++ 61 :: 34 :: (esc m.2.data.toList ++ 34 :: tailB r)) := by rw [text_bytes]; rfl
    have hp : plR 9 true (textS (m :: r)).data.toList [] = some ([125], m :: r) := by
      rw [ht, plR, if_neg (by decide), oneR_mark (hne m (by simp)), Option.bind_some, mk_eta]
      exact plR_tail 8 r [m] (fun x hx => hne x (by simp [hx])) (by simp at h8; omega)
    unfold parseR
    rw [if_neg, hp]
    · simp only
      rw [if_pos ⟨trivial, h, trivial⟩]
    · rw [ht]
      intro e
      have := congrArg List.length e
      simp at this
      omega
theorem parseR_ok {s : List UInt8} {l : List Lab} (h : parseR s = (l, true)) : rightL l = true ∧ (textS l).data.toList = s := by
  unfold parseR at h
  split at h
  · rename_i e
    simp only [Prod.mk.injEq, and_true] at h
    subst h; subst e
    exact ⟨rfl, rfl⟩
  · split at h
    · split at h
      · rename_i hq
        simp only [Prod.mk.injEq, and_true] at h
        subst h
        exact hq.2
      · simp at h
    · simp at h
theorem parse_same (s : List UInt8) : (parseR s).2 = ((parseS s).2 == 0) ∧ ((parseS s).2 = 0 → (parseS s).1 = (parseR s).1) := by
  by_cases h : (parseS s).2 = 0
  · have e : parseS s = ((parseS s).1, 0) := by rw [← h]
    obtain ⟨h1, h2⟩ := parse_ok e
    have := parseR_text h1
    rw [h2] at this
    rw [this, h]
    exact ⟨rfl, fun _ => rfl⟩
  · refine ⟨?_, fun e => absurd e h⟩
    cases hr : (parseR s).2 with
    | false => simp [h]
    | true =>
      exfalso
      have e : parseR s = ((parseR s).1, true) := by rw [← hr]
      obtain ⟨h1, h2⟩ := parseR_ok e
      have := parse_text h1
      rw [h2] at this
      rw [this] at h
      exact h rfl
theorem last_is {s : List UInt8} {i : Nat} (hi : i ≤ s.length) : decide (s.drop i = [125]) = (!((i : Int) != (s.length : Int) - 1) && !(byteD s i != 125)) := by
  rw [Bool.eq_iff_iff]
  simp only [decide_eq_true_eq, Bool.and_eq_true, Bool.not_eq_true', bne_eq_false_iff_eq]
  constructor
  · intro h
    have hl := congrArg List.length h
    simp at hl
    have hlt : i < s.length := by omega
    rw [drop_at hlt] at h
    rw [byteD_at hlt]
    exact ⟨by omega, (List.cons.inj h).1⟩
  · rintro ⟨h1, h2⟩
    have hlt : i < s.length := by omega
    rw [byteD_at hlt] at h2
    rw [drop_at hlt, h2, List.drop_eq_nil_of_le (by omega)]
theorem ab_size {l : List Lab} (h : rightL l = true) : ∀ m ∈ l, m.1.size ≤ 64 ∧ m.2.size ≤ 64 := fun m hm => may_size ((right_iff.1 h).1 m hm)
theorem a208 (L : Has ll0 env) (M : Has lm0 env) (U : Has lu env) (E : Has lce env) (F : Has lcf env) {s : List UInt8} (hs : s.length ≤ 1000000) :
    AV env 208 [txt s] = some (.tu [.sl (labs (parseR s).1), .sc (.bool (parseR s).2)]) := by
  refine AV_wp (F (208, d208) (by simp [lcf])) rfl ?_
  (repeat' first
    | refine w_seq ?_ | refine w_rg ?_ | refine wo_nil ?_ | refine g_skU ?_
    | ((first | apply s_plain | apply s_void | apply s_guard); · simp only [go_sem, Nat.reduceEqDiff, Nat.reduceAdd, Nat.reduceLeDiff, ba_data, ba_size, ba_toList, ba_extract, ba_append, List.toList_toArray]; (first | done | rfl))
    | ((first | apply g_T | apply g_F); · intro hb; simp only [go_sem, Nat.reduceEqDiff, Nat.reduceAdd, Nat.reduceLeDiff, ba_data, ba_size, ba_toList, ba_extract, ba_append, List.toList_toArray, hb]; (first | done | rfl))
    | ((first | apply g_gT | apply g_gF); · intro hb hc; simp only [go_sem, Nat.reduceEqDiff, Nat.reduceAdd, Nat.reduceLeDiff, ba_data, ba_size, ba_toList, ba_extract, ba_append, List.toList_toArray, hb, hc]; (first | done | rfl))
    | refine g_skT ?_ | refine g_skF ?_
    | ((first | apply g_goT | apply g_goF); · simp only [go_sem, Nat.reduceEqDiff, Nat.reduceAdd, Nat.reduceLeDiff, ba_data, ba_size, ba_toList, ba_extract, ba_append, List.toList_toArray]; (first | done | rfl))
    )
  refine w_condB (b := s == [123, 125]) (by simp only [go_sem, Nat.reduceEqDiff, Nat.reduceAdd, Nat.reduceLeDiff]; first | done | rfl) (fun hc => ?_) (fun hc => ?_)
  · have hb : parseR s = ([], true) := by unfold parseR; rw [if_pos (by simpa using hc)]
    (repeat' first
    | refine w_seq ?_ | refine w_rg ?_ | refine wo_nil ?_ | refine g_skU ?_
    | ((first | apply s_plain | apply s_void | apply s_guard); · simp only [go_sem, Nat.reduceEqDiff, Nat.reduceAdd, Nat.reduceLeDiff]; (first | done | rfl))
    | ((first | apply g_T | apply g_F); · intro hb; simp only [go_sem, Nat.reduceEqDiff, Nat.reduceAdd, Nat.reduceLeDiff, hb]; (first | done | rfl))
    | ((first | apply g_gT | apply g_gF); · intro hb hc; simp only [go_sem, Nat.reduceEqDiff, Nat.reduceAdd, Nat.reduceLeDiff, hb, hc]; (first | done | rfl))
    | refine g_skT ?_ | refine g_skF ?_
    | ((first | apply g_goT | apply g_goF); · simp only [go_sem, Nat.reduceEqDiff, Nat.reduceAdd, Nat.reduceLeDiff]; (first | done | rfl))
    | (refine w_condT ?_ ?_; · simp only [go_sem, Nat.reduceEqDiff, Nat.reduceAdd, Nat.reduceLeDiff]; (first | done | rfl))
    | (refine w_condF ?_ ?_; · simp only [go_sem, Nat.reduceEqDiff, Nat.reduceAdd, Nat.reduceLeDiff]; (first | done | rfl))
    | refine w_skip ?_ | refine w_exit ?_ | refine w_ret ?_
    )
    exact ⟨by first | exact .inr rfl | exact .inl rfl, by simp only [go_sem, Nat.reduceEqDiff, Nat.reduceAdd, Nat.reduceLeDiff, retOf, resOf, hb, labs]; first | done | rfl⟩
  · have hpr : parseR s = match plR 9 true s [] with
        | some (rest, out) => if rest = [125] ∧ rightL out = true ∧ (textS out).data.toList = s then (out, true) else ([], false)
        | none => ([], false) := by unfold parseR; rw [if_neg (by simpa using hc)]
    (repeat' first
    | refine w_seq ?_ | refine w_rg ?_ | refine wo_nil ?_ | refine g_skU ?_
    | ((first | apply s_plain | apply s_void | apply s_guard); · simp only [go_sem, Nat.reduceEqDiff, Nat.reduceAdd, Nat.reduceLeDiff]; (first | done | rfl))
    | ((first | apply g_T | apply g_F); · intro hb; simp only [go_sem, Nat.reduceEqDiff, Nat.reduceAdd, Nat.reduceLeDiff, hb]; (first | done | rfl))
    | ((first | apply g_gT | apply g_gF); · intro hb hc; simp only [go_sem, Nat.reduceEqDiff, Nat.reduceAdd, Nat.reduceLeDiff, hb, hc]; (first | done | rfl))
    | refine g_skT ?_ | refine g_skF ?_
    | ((first | apply g_goT | apply g_goF); · simp only [go_sem, Nat.reduceEqDiff, Nat.reduceAdd, Nat.reduceLeDiff]; (first | done | rfl))
    | (refine w_condT ?_ ?_; · simp only [go_sem, Nat.reduceEqDiff, Nat.reduceAdd, Nat.reduceLeDiff]; (first | done | rfl))
    | (refine w_condF ?_ ?_; · simp only [go_sem, Nat.reduceEqDiff, Nat.reduceAdd, Nat.reduceLeDiff]; (first | done | rfl))
    | refine w_skip ?_ | refine w_exit ?_ | refine w_ret ?_
    )
    refine Wp.mono (Q := fun x fr τ => match x with
      | .normal => ∃ (i : Nat) (out : List Lab), fr 0 = txt s ∧ fr 5 = .sc (.int .i64 i) ∧ Gat τ [39] 2 false (fr 4) (labs out) ∧ i ≤ s.length ∧ (∀ m ∈ out, m.1.size ≤ s.length ∧ m.2.size ≤ s.length) ∧ out.length ≤ 9 ∧ plR 9 true s [] = some (s.drop i, out)
      | .ret => (retOf fr τ [.tmp 2, .tmp 3]).bind (fz τ dep) = some (.tu [.sl (labs (parseR s).1), .sc (.bool (parseR s).2)])
      | .exit _ => False) ?_ ?_
    refine w_block (w_loopF (fun m fr σ => ∃ (i : Nat) (out : List Lab), m + out.length = 9 ∧ i ≤ s.length ∧ fr 5 = .sc (.int .i64 i) ∧ Gat σ [39] 2 false (fr 4) (labs out) ∧ (out = [] ↔ i = 0) ∧ (∀ m ∈ out, m.1.size ≤ s.length ∧ m.2.size ≤ s.length) ∧
      plR 9 true s [] = plR m (decide (i = 0)) (s.drop i) out) ?_ 9 ?_)
    · rintro m fr1 σ1 ⟨i, out, hk, hi, f5, hg, hz, hsm, hpl⟩ hfr
      have f0_0 := hfr 0 rfl; try (simp only [go_sem, Nat.reduceEqDiff, Nat.reduceAdd, Nat.reduceLeDiff] at f0_0)
      have z0 : fr1 0 = txt s := by rw [hfr 0 rfl]; simp only [go_sem, Nat.reduceEqDiff, Nat.reduceAdd, Nat.reduceLeDiff]
      have hlp := hg.lenP
      rw [labs_len] at hlp
      generalize hp : fr1 4 = p at hg hlp
      (repeat' first
    | refine w_seq ?_ | refine w_rg ?_ | refine wo_nil ?_ | refine g_skU ?_
    | ((first | apply s_plain | apply s_void | apply s_guard); · simp only [go_sem, Nat.reduceEqDiff, Nat.reduceAdd, Nat.reduceLeDiff, f0_0, f5, hp, hlp, ba_data, ba_size, ba_toList, ba_extract, ba_append, List.toList_toArray]; (first | done | rfl))
    | ((first | apply g_T | apply g_F); · intro hb; simp only [go_sem, Nat.reduceEqDiff, Nat.reduceAdd, Nat.reduceLeDiff, f0_0, f5, hp, hlp, ba_data, ba_size, ba_toList, ba_extract, ba_append, List.toList_toArray, hb]; (first | done | rfl))
    | ((first | apply g_gT | apply g_gF); · intro hb hc; simp only [go_sem, Nat.reduceEqDiff, Nat.reduceAdd, Nat.reduceLeDiff, f0_0, f5, hp, hlp, ba_data, ba_size, ba_toList, ba_extract, ba_append, List.toList_toArray, hb, hc]; (first | done | rfl))
    | refine g_skT ?_ | refine g_skF ?_
    | ((first | apply g_goT | apply g_goF); · simp only [go_sem, Nat.reduceEqDiff, Nat.reduceAdd, Nat.reduceLeDiff, f0_0, f5, hp, hlp, ba_data, ba_size, ba_toList, ba_extract, ba_append, List.toList_toArray]; (first | done | rfl))
    )
      refine w_condB (b := decide ((i : Int) < (s.length : Int)) && decide ((out.length : Int) < 9)) (by simp only [go_sem, Nat.reduceEqDiff, Nat.reduceAdd, Nat.reduceLeDiff]; first | done | rfl) (fun hc => ?_) (fun hc => ?_)
      · simp only [Bool.and_eq_true, decide_eq_true_eq] at hc
        have hlt : i < s.length := by omega
        have hi0 : (0 : Int) ≤ (i : Int) := by omega
        obtain ⟨m', rfl⟩ : ∃ m', m = m' + 1 := ⟨m - 1, by omega⟩
        have w1 : IntKind.i64.wrap ((i : Int) + 1) = ((i + 1 : Nat) : Int) := by rw [IntKind.wrap_i64]; omega
        have hpl1 := hpl.trans (show plR (m' + 1) (decide (i = 0)) (s.drop i) out = if s[i] ≠ (if decide (i = 0) then 123 else 44) then some (s.drop i, out) else (oneR (s.drop (i + 1))).bind fun q => plR m' false q.2.2 (out ++ [mkLab q.1 q.2.1]) by rw [drop_at hlt, plR])
        refine w_skip ?_
        refine w_block ?_
        refine w_seq (w_rg (s_plain (by simp only [go_sem, Nat.reduceEqDiff, Nat.reduceAdd, Nat.reduceLeDiff]; first | done | rfl) (wo_nil ?_)))
        refine w_seq ?_
        refine Wp.mono (Q := fun x fr τ => x = .normal ∧ fr 0 = txt s ∧ fr 5 = .sc (.int .i64 i) ∧ fr 4 = p ∧ fr 6 = .sc (.int .u8 (if decide (i = 0) = true then (123 : UInt8) else 44).toNat) ∧ τ = σ1) ?_ ?_
        · (repeat' first
    | refine w_seq ?_ | refine w_rg ?_ | refine wo_nil ?_ | refine g_skU ?_
    | ((first | apply s_plain | apply s_void | apply s_guard); · simp only [go_sem, Nat.reduceEqDiff, Nat.reduceAdd, Nat.reduceLeDiff, f5]; (first | done | rfl))
    | ((first | apply g_T | apply g_F); · intro hb; simp only [go_sem, Nat.reduceEqDiff, Nat.reduceAdd, Nat.reduceLeDiff, f5, hb]; (first | done | rfl))
    | ((first | apply g_gT | apply g_gF); · intro hb hc; simp only [go_sem, Nat.reduceEqDiff, Nat.reduceAdd, Nat.reduceLeDiff, f5, hb, hc]; (first | done | rfl))
    | refine g_skT ?_ | refine g_skF ?_
    | ((first | apply g_goT | apply g_goF); · simp only [go_sem, Nat.reduceEqDiff, Nat.reduceAdd, Nat.reduceLeDiff, f5]; (first | done | rfl))
    )
          refine w_condB (b := decide (i = 0)) (by simp only [go_sem, Nat.reduceEqDiff, Nat.reduceAdd, Nat.reduceLeDiff]; congr 2; rw [Bool.eq_iff_iff]; simp) (fun he => ?_) (fun he => ?_)
          · (repeat' first
    | refine w_seq ?_ | refine w_rg ?_ | refine wo_nil ?_ | refine g_skU ?_
    | ((first | apply s_plain | apply s_void | apply s_guard); · simp only [go_sem, Nat.reduceEqDiff, Nat.reduceAdd, Nat.reduceLeDiff]; (first | done | rfl))
    | ((first | apply g_T | apply g_F); · intro hb; simp only [go_sem, Nat.reduceEqDiff, Nat.reduceAdd, Nat.reduceLeDiff, hb]; (first | done | rfl))
    | ((first | apply g_gT | apply g_gF); · intro hb hc; simp only [go_sem, Nat.reduceEqDiff, Nat.reduceAdd, Nat.reduceLeDiff, hb, hc]; (first | done | rfl))
    | refine g_skT ?_ | refine g_skF ?_
    | ((first | apply g_goT | apply g_goF); · simp only [go_sem, Nat.reduceEqDiff, Nat.reduceAdd, Nat.reduceLeDiff]; (first | done | rfl))
    | (refine w_condT ?_ ?_; · simp only [go_sem, Nat.reduceEqDiff, Nat.reduceAdd, Nat.reduceLeDiff]; (first | done | rfl))
    | (refine w_condF ?_ ?_; · simp only [go_sem, Nat.reduceEqDiff, Nat.reduceAdd, Nat.reduceLeDiff]; (first | done | rfl))
    | refine w_skip ?_ | refine w_exit ?_ | refine w_ret ?_
    )
            refine ⟨rfl, by simp only [go_sem, Nat.reduceEqDiff, Nat.reduceAdd, Nat.reduceLeDiff, z0], by simp only [go_sem, Nat.reduceEqDiff, Nat.reduceAdd, Nat.reduceLeDiff, f5], by simp only [go_sem, Nat.reduceEqDiff, Nat.reduceAdd, Nat.reduceLeDiff, hp], by simp only [go_sem, Nat.reduceEqDiff, Nat.reduceAdd, Nat.reduceLeDiff, he]; rfl, rfl⟩
          · (repeat' first
    | refine w_seq ?_ | refine w_rg ?_ | refine wo_nil ?_ | refine g_skU ?_
    | ((first | apply s_plain | apply s_void | apply s_guard); · simp only [go_sem, Nat.reduceEqDiff, Nat.reduceAdd, Nat.reduceLeDiff]; (first | done | rfl))
    | ((first | apply g_T | apply g_F); · intro hb; simp only [go_sem, Nat.reduceEqDiff, Nat.reduceAdd, Nat.reduceLeDiff, hb]; (first | done | rfl))
    | ((first | apply g_gT | apply g_gF); · intro hb hc; simp only [go_sem, Nat.reduceEqDiff, Nat.reduceAdd, Nat.reduceLeDiff, hb, hc]; (first | done | rfl))
    | refine g_skT ?_ | refine g_skF ?_
    | ((first | apply g_goT | apply g_goF); · simp only [go_sem, Nat.reduceEqDiff, Nat.reduceAdd, Nat.reduceLeDiff]; (first | done | rfl))
    | (refine w_condT ?_ ?_; · simp only [go_sem, Nat.reduceEqDiff, Nat.reduceAdd, Nat.reduceLeDiff]; (first | done | rfl))
    | (refine w_condF ?_ ?_; · simp only [go_sem, Nat.reduceEqDiff, Nat.reduceAdd, Nat.reduceLeDiff]; (first | done | rfl))
    | refine w_skip ?_ | refine w_exit ?_ | refine w_ret ?_
    )
            refine ⟨rfl, by simp only [go_sem, Nat.reduceEqDiff, Nat.reduceAdd, Nat.reduceLeDiff, z0], by simp only [go_sem, Nat.reduceEqDiff, Nat.reduceAdd, Nat.reduceLeDiff, f5], by simp only [go_sem, Nat.reduceEqDiff, Nat.reduceAdd, Nat.reduceLeDiff, hp], by simp only [go_sem, Nat.reduceEqDiff, Nat.reduceAdd, Nat.reduceLeDiff, he]; rfl, rfl⟩
        · rintro x fr2 τ ⟨rfl, k0, k5, k4, k6, rfl⟩
          generalize (if decide (i = 0) = true then (123 : UInt8) else 44) = sg at *
          (repeat' first
    | refine w_seq ?_ | refine w_rg ?_ | refine wo_nil ?_ | refine g_skU ?_
    | ((first | apply s_plain | apply s_void | apply s_guard); · simp only [go_sem, Nat.reduceEqDiff, Nat.reduceAdd, Nat.reduceLeDiff, k0, k5, k6, ba_data, ba_size, ba_toList, ba_extract, ba_append, List.toList_toArray, hi0, Int.toNat_natCast, byteD_q hlt]; (first | done | rfl))
    | ((first | apply g_T | apply g_F); · intro hb; simp only [go_sem, Nat.reduceEqDiff, Nat.reduceAdd, Nat.reduceLeDiff, k0, k5, k6, ba_data, ba_size, ba_toList, ba_extract, ba_append, List.toList_toArray, hi0, Int.toNat_natCast, byteD_q hlt, hb]; (first | done | rfl))
    | ((first | apply g_gT | apply g_gF); · intro hb hc; simp only [go_sem, Nat.reduceEqDiff, Nat.reduceAdd, Nat.reduceLeDiff, k0, k5, k6, ba_data, ba_size, ba_toList, ba_extract, ba_append, List.toList_toArray, hi0, Int.toNat_natCast, byteD_q hlt, hb, hc]; (first | done | rfl))
    | refine g_skT ?_ | refine g_skF ?_
    | ((first | apply g_goT | apply g_goF); · simp only [go_sem, Nat.reduceEqDiff, Nat.reduceAdd, Nat.reduceLeDiff, k0, k5, k6, ba_data, ba_size, ba_toList, ba_extract, ba_append, List.toList_toArray, hi0, Int.toNat_natCast, byteD_q hlt]; (first | done | rfl))
    )
          refine w_condB (b := s[i] != sg) (by simp only [go_sem, Nat.reduceEqDiff, Nat.reduceAdd, Nat.reduceLeDiff]; rw [u8_ne _ sg rfl, byteD_at hlt]) (fun he => ?_) (fun he => ?_)
          · have he : s[i] ≠ sg := by simpa using he
            rw [if_pos he] at hpl1
            (repeat' first
    | refine w_seq ?_ | refine w_rg ?_ | refine wo_nil ?_ | refine g_skU ?_
    | ((first | apply s_plain | apply s_void | apply s_guard); · simp only [go_sem, Nat.reduceEqDiff, Nat.reduceAdd, Nat.reduceLeDiff]; (first | done | rfl))
    | ((first | apply g_T | apply g_F); · intro hb; simp only [go_sem, Nat.reduceEqDiff, Nat.reduceAdd, Nat.reduceLeDiff, hb]; (first | done | rfl))
    | ((first | apply g_gT | apply g_gF); · intro hb hc; simp only [go_sem, Nat.reduceEqDiff, Nat.reduceAdd, Nat.reduceLeDiff, hb, hc]; (first | done | rfl))
    | refine g_skT ?_ | refine g_skF ?_
    | ((first | apply g_goT | apply g_goF); · simp only [go_sem, Nat.reduceEqDiff, Nat.reduceAdd, Nat.reduceLeDiff]; (first | done | rfl))
    | (refine w_condT ?_ ?_; · simp only [go_sem, Nat.reduceEqDiff, Nat.reduceAdd, Nat.reduceLeDiff]; (first | done | rfl))
    | (refine w_condF ?_ ?_; · simp only [go_sem, Nat.reduceEqDiff, Nat.reduceAdd, Nat.reduceLeDiff]; (first | done | rfl))
    | refine w_skip ?_ | refine w_exit ?_ | refine w_ret ?_
    )
            try simp only [if_true]
            exact ⟨i, out, by simp only [go_sem, Nat.reduceEqDiff, Nat.reduceAdd, Nat.reduceLeDiff, k0], by simp only [go_sem, Nat.reduceEqDiff, Nat.reduceAdd, Nat.reduceLeDiff, k5], by simp only [go_sem, Nat.reduceEqDiff, Nat.reduceAdd, Nat.reduceLeDiff, k4]; exact hg, hi, hsm, by omega, hpl1⟩
          · have he : s[i] = sg := by simpa using he
            rw [if_neg (by simpa using he)] at hpl1
            have h214 := a214 E (s := s) (a := i + 1) (by omega) (by omega)
            cases hone : oneR (s.drop (i + 1)) with
            | none =>
              rw [hone] at hpl1
              have hb : parseR s = ([], false) := by rw [hpr, hpl1]; rfl
              rw [show oneB s (i + 1) = .agg [txt [], txt [], .sc (.int .i64 (-1))] by unfold oneB; rw [hone]] at h214
              (repeat' first
    | refine w_seq ?_ | refine w_rg ?_ | refine wo_nil ?_ | refine g_skU ?_
    | ((first | apply s_plain | apply s_void | apply s_guard); · simp only [go_sem, Nat.reduceEqDiff, Nat.reduceAdd, Nat.reduceLeDiff, k0, k5, w1, h214, splice, fillP, fillE, List.modify_zero_cons, List.replicate_succ, List.replicate_zero, List.set_cons_zero, List.drop_zero]; (first | done | rfl))
    | ((first | apply g_T | apply g_F); · intro hb; simp only [go_sem, Nat.reduceEqDiff, Nat.reduceAdd, Nat.reduceLeDiff, k0, k5, w1, h214, splice, fillP, fillE, List.modify_zero_cons, List.replicate_succ, List.replicate_zero, List.set_cons_zero, List.drop_zero, hb]; (first | done | rfl))
    | ((first | apply g_gT | apply g_gF); · intro hb hc; simp only [go_sem, Nat.reduceEqDiff, Nat.reduceAdd, Nat.reduceLeDiff, k0, k5, w1, h214, splice, fillP, fillE, List.modify_zero_cons, List.replicate_succ, List.replicate_zero, List.set_cons_zero, List.drop_zero, hb, hc]; (first | done | rfl))
    | refine g_skT ?_ | refine g_skF ?_
    | ((first | apply g_goT | apply g_goF); · simp only [go_sem, Nat.reduceEqDiff, Nat.reduceAdd, Nat.reduceLeDiff, k0, k5, w1, h214, splice, fillP, fillE, List.modify_zero_cons, List.replicate_succ, List.replicate_zero, List.set_cons_zero, List.drop_zero]; (first | done | rfl))
    | (refine w_condT ?_ ?_; · simp only [go_sem, Nat.reduceEqDiff, Nat.reduceAdd, Nat.reduceLeDiff, k0, k5, w1, h214, splice, fillP, fillE, List.modify_zero_cons, List.replicate_succ, List.replicate_zero, List.set_cons_zero, List.drop_zero]; (first | done | rfl))
    | (refine w_condF ?_ ?_; · simp only [go_sem, Nat.reduceEqDiff, Nat.reduceAdd, Nat.reduceLeDiff, k0, k5, w1, h214, splice, fillP, fillE, List.modify_zero_cons, List.replicate_succ, List.replicate_zero, List.set_cons_zero, List.drop_zero]; (first | done | rfl))
    | refine w_skip ?_ | refine w_exit ?_ | refine w_ret ?_
    )
              simp only [go_sem, Nat.reduceEqDiff, Nat.reduceAdd, Nat.reduceLeDiff, retOf, resOf, hb, labs]
              first | done | rfl
            | some q =>
              obtain ⟨n, v, r⟩ := q
              obtain ⟨z1, z2, z3, z4⟩ := oneR_le hone
              simp only [List.length_drop] at z1 z2 z3
              rw [hone] at hpl1
              rw [show oneB s (i + 1) = .agg [txt n, txt v, .sc (.int .i64 (s.length - r.length : Nat))] by unfold oneB; rw [hone]] at h214
              have hneg : decide (((s.length - r.length : Nat) : Int) < 0) = false := decide_eq_false (by omega)
              have hr : r = s.drop (s.length - r.length) := by
                rw [z4, List.drop_drop]
                congr 1
                simp only [List.length_drop]
                omega
              (repeat' first
    | refine w_seq ?_ | refine w_rg ?_ | refine wo_nil ?_ | refine g_skU ?_
    | ((first | apply s_plain | apply s_void | apply s_guard); · simp only [go_sem, Nat.reduceEqDiff, Nat.reduceAdd, Nat.reduceLeDiff, k0, k4, k5, w1, h214, hneg, splice, fillP, fillE, List.modify_zero_cons, List.replicate_succ, List.replicate_zero, List.set_cons_zero, List.drop_zero]; (first | done | rfl))
    | ((first | apply g_T | apply g_F); · intro hb; simp only [go_sem, Nat.reduceEqDiff, Nat.reduceAdd, Nat.reduceLeDiff, k0, k4, k5, w1, h214, hneg, splice, fillP, fillE, List.modify_zero_cons, List.replicate_succ, List.replicate_zero, List.set_cons_zero, List.drop_zero, hb]; (first | done | rfl))
    | ((first | apply g_gT | apply g_gF); · intro hb hc; simp only [go_sem, Nat.reduceEqDiff, Nat.reduceAdd, Nat.reduceLeDiff, k0, k4, k5, w1, h214, hneg, splice, fillP, fillE, List.modify_zero_cons, List.replicate_succ, List.replicate_zero, List.set_cons_zero, List.drop_zero, hb, hc]; (first | done | rfl))
    | refine g_skT ?_ | refine g_skF ?_
    | ((first | apply g_goT | apply g_goF); · simp only [go_sem, Nat.reduceEqDiff, Nat.reduceAdd, Nat.reduceLeDiff, k0, k4, k5, w1, h214, hneg, splice, fillP, fillE, List.modify_zero_cons, List.replicate_succ, List.replicate_zero, List.set_cons_zero, List.drop_zero]; (first | done | rfl))
    | (refine w_condT ?_ ?_; · simp only [go_sem, Nat.reduceEqDiff, Nat.reduceAdd, Nat.reduceLeDiff, k0, k4, k5, w1, h214, hneg, splice, fillP, fillE, List.modify_zero_cons, List.replicate_succ, List.replicate_zero, List.set_cons_zero, List.drop_zero]; (first | done | rfl))
    | (refine w_condF ?_ ?_; · simp only [go_sem, Nat.reduceEqDiff, Nat.reduceAdd, Nat.reduceLeDiff, k0, k4, k5, w1, h214, hneg, splice, fillP, fillE, List.modify_zero_cons, List.replicate_succ, List.replicate_zero, List.set_cons_zero, List.drop_zero]; (first | done | rfl))
    | refine w_skip ?_ | refine w_exit ?_ | refine w_ret ?_
    )
              refine s_gatL (os := [39]) (w := false) (xs := labs out) (ys := [.agg [txt n, txt v]]) (by simp only [go_sem, Nat.reduceEqDiff, Nat.reduceAdd, Nat.reduceLeDiff]; exact ((hg.new _).put (d := 2000007) (by decide) _).new _) (by simp only [go_sem, Nat.reduceEqDiff, Nat.reduceAdd, Nat.reduceLeDiff, srcOf, elemsOf, List.drop_zero]) rfl (by rw [labs_len]; simp only [List.length_cons, List.length_nil]; omega) ?_
              intro p2 σ2 hg2 kp
              have hm7 := kp.m 2000007 (τ.c 2000007) (by decide) (by simp only [go_sem, Nat.reduceEqDiff, Nat.reduceAdd, Nat.reduceLeDiff]; try omega)
              simp only [go_sem, Nat.reduceEqDiff, Nat.reduceAdd, Nat.reduceLeDiff] at hm7
              have e : labs (out ++ [mkLab n v]) = labs out ++ [.agg [txt n, txt v]] := by simp [labs, lab_mk]
              rw [Bool.false_and, ← e] at hg2
              (repeat' first
    | refine w_seq ?_ | refine w_rg ?_ | refine wo_nil ?_ | refine g_skU ?_
    | ((first | apply s_plain | apply s_void | apply s_guard); · simp only [go_sem, Nat.reduceEqDiff, Nat.reduceAdd, Nat.reduceLeDiff, hm7, splice, fillP, fillE, List.modify_zero_cons, List.replicate_succ, List.replicate_zero, List.set_cons_zero, List.drop_zero]; (first | done | rfl))
    | ((first | apply g_T | apply g_F); · intro hb; simp only [go_sem, Nat.reduceEqDiff, Nat.reduceAdd, Nat.reduceLeDiff, hm7, splice, fillP, fillE, List.modify_zero_cons, List.replicate_succ, List.replicate_zero, List.set_cons_zero, List.drop_zero, hb]; (first | done | rfl))
    | ((first | apply g_gT | apply g_gF); · intro hb hc; simp only [go_sem, Nat.reduceEqDiff, Nat.reduceAdd, Nat.reduceLeDiff, hm7, splice, fillP, fillE, List.modify_zero_cons, List.replicate_succ, List.replicate_zero, List.set_cons_zero, List.drop_zero, hb, hc]; (first | done | rfl))
    | refine g_skT ?_ | refine g_skF ?_
    | ((first | apply g_goT | apply g_goF); · simp only [go_sem, Nat.reduceEqDiff, Nat.reduceAdd, Nat.reduceLeDiff, hm7, splice, fillP, fillE, List.modify_zero_cons, List.replicate_succ, List.replicate_zero, List.set_cons_zero, List.drop_zero]; (first | done | rfl))
    )
              refine ⟨m', by omega, s.length - r.length, out ++ [mkLab n v], by rw [List.length_append]; simp only [List.length_cons, List.length_nil]; omega, by omega, by simp only [go_sem, Nat.reduceEqDiff, Nat.reduceAdd, Nat.reduceLeDiff], by simp only [go_sem, Nat.reduceEqDiff, Nat.reduceAdd, Nat.reduceLeDiff]; exact hg2, ⟨fun h => by simp at h, fun h => by omega⟩, ?_, ?_⟩
              · intro m hm
                rcases List.mem_append.1 hm with h | h
                · exact hsm m h
                · simp only [List.mem_singleton] at h
                  subst h
                  refine ⟨?_, ?_⟩ <;> simp [mkLab, ByteArray.size] <;> omega
              · rw [hpl1, ← hr, decide_eq_false (by omega)]
                rfl
      · refine w_exit ?_
        try simp only [if_true]
        refine ⟨i, out, by simp only [go_sem, Nat.reduceEqDiff, Nat.reduceAdd, Nat.reduceLeDiff, z0], by simp only [go_sem, Nat.reduceEqDiff, Nat.reduceAdd, Nat.reduceLeDiff, f5], by simp only [go_sem, Nat.reduceEqDiff, Nat.reduceAdd, Nat.reduceLeDiff, hp]; exact hg, hi, hsm, by omega, ?_⟩
        rw [hpl]
        simp only [Bool.and_eq_false_iff, decide_eq_false_iff_not] at hc
        cases m with
        | zero => rfl
        | succ m =>
          have : s.drop i = [] := List.drop_eq_nil_of_le (by omega)
          rw [this]; rfl
    · exact ⟨0, [], rfl, Nat.zero_le _, by simp only [go_sem, Nat.reduceEqDiff, Nat.reduceAdd, Nat.reduceLeDiff]; (first | done | rfl), by simp only [go_sem, Nat.reduceEqDiff, Nat.reduceAdd, Nat.reduceLeDiff]; exact .em, by simp, fun m hm => by simp at hm, rfl⟩
    · rintro x fr2 τ hq
      cases x with
      | exit id => exact hq.elim
      | ret => exact ⟨.inr rfl, hq⟩
      | normal =>
        obtain ⟨i, out, k0, k5, hg, hi, hsm, ho9, hpl⟩ := hq
        have hsm' : Smalls out := fun m hm => by
          have := hsm m hm
          unfold Small
          omega
        have h110 := a110 L M (l := out) (by omega) hsm'
        generalize hp : fr2 4 = p at hg
        have hfz := gat_fzd hg (labs_fzd τ 9 out)
        have w1 : IntKind.i64.wrap ((s.length : Int) - 1) = (s.length : Int) - 1 := by rw [IntKind.wrap_i64]; omega
        have hi0 : (0 : Int) ≤ (i : Int) := by omega
        (repeat' first
    | refine w_seq ?_ | refine w_rg ?_ | refine wo_nil ?_ | refine g_skU ?_
    | ((first | apply s_plain | apply s_void | apply s_guard); · simp only [go_sem, Nat.reduceEqDiff, Nat.reduceAdd, Nat.reduceLeDiff, k0, k5, w1, ba_data, ba_size, ba_toList, ba_extract, ba_append, List.toList_toArray]; (first | done | rfl))
    | ((first | apply g_T | apply g_F); · intro hb; simp only [go_sem, Nat.reduceEqDiff, Nat.reduceAdd, Nat.reduceLeDiff, k0, k5, w1, ba_data, ba_size, ba_toList, ba_extract, ba_append, List.toList_toArray, hb]; (first | done | rfl))
    | ((first | apply g_gT | apply g_gF); · intro hb hc; simp only [go_sem, Nat.reduceEqDiff, Nat.reduceAdd, Nat.reduceLeDiff, k0, k5, w1, ba_data, ba_size, ba_toList, ba_extract, ba_append, List.toList_toArray, hb, hc]; (first | done | rfl))
    | refine g_skT ?_ | refine g_skF ?_
    | ((first | apply g_goT | apply g_goF); · simp only [go_sem, Nat.reduceEqDiff, Nat.reduceAdd, Nat.reduceLeDiff, k0, k5, w1, ba_data, ba_size, ba_toList, ba_extract, ba_append, List.toList_toArray]; (first | done | rfl))
    )
        refine g_F (v := .sc (.int .u8 (byteD s i).toNat)) (by
          intro hb
          have hlt : i < s.length := by
            have : ((i : Int) != (s.length : Int) - 1) = false := hb
            simp only [bne_eq_false_iff_eq] at this
            omega
          simp only [go_sem, Nat.reduceEqDiff, Nat.reduceAdd, Nat.reduceLeDiff, k0, k5, hb, ba_data, ba_size, ba_toList, ba_extract, ba_append, List.toList_toArray, hi0, Int.toNat_natCast, byteD_q hlt]) ?_
        (repeat' first
    | refine w_seq ?_ | refine w_rg ?_ | refine wo_nil ?_ | refine g_skU ?_
    | ((first | apply s_plain | apply s_void | apply s_guard); · simp only [go_sem, Nat.reduceEqDiff, Nat.reduceAdd, Nat.reduceLeDiff, hp, hfz, h110, ba_data, ba_size, ba_toList, ba_extract, ba_append, List.toList_toArray]; (first | done | rfl))
    | ((first | apply g_T | apply g_F); · intro hb; simp only [go_sem, Nat.reduceEqDiff, Nat.reduceAdd, Nat.reduceLeDiff, hp, hfz, h110, ba_data, ba_size, ba_toList, ba_extract, ba_append, List.toList_toArray, hb]; (first | done | rfl))
    | ((first | apply g_gT | apply g_gF); · intro hb hc; simp only [go_sem, Nat.reduceEqDiff, Nat.reduceAdd, Nat.reduceLeDiff, hp, hfz, h110, ba_data, ba_size, ba_toList, ba_extract, ba_append, List.toList_toArray, hb, hc]; (first | done | rfl))
    | refine g_skT ?_ | refine g_skF ?_
    | ((first | apply g_goT | apply g_goF); · simp only [go_sem, Nat.reduceEqDiff, Nat.reduceAdd, Nat.reduceLeDiff, hp, hfz, h110, ba_data, ba_size, ba_toList, ba_extract, ba_append, List.toList_toArray]; (first | done | rfl))
    )
        refine g_F (v := .sc (.string (textS out))) (by
          intro hb
          have hb2 := hb
          simp only [Bool.or_eq_false_iff, Bool.not_eq_false'] at hb2
          have h211 := a211 U (l := out) (ab_size hb2.2) (right_iff.1 hb2.2).2.2
          simp only [go_sem, Nat.reduceEqDiff, Nat.reduceAdd, Nat.reduceLeDiff, hp, hb, hfz, h211, Bool.not_false]) ?_
        (repeat' first
    | refine w_seq ?_ | refine w_rg ?_ | refine wo_nil ?_ | refine g_skU ?_
    | ((first | apply s_plain | apply s_void | apply s_guard); · simp only [go_sem, Nat.reduceEqDiff, Nat.reduceAdd, Nat.reduceLeDiff, k0, ba_data, ba_size, ba_toList, ba_extract, ba_append, List.toList_toArray]; (first | done | rfl))
    | ((first | apply g_T | apply g_F); · intro hb; simp only [go_sem, Nat.reduceEqDiff, Nat.reduceAdd, Nat.reduceLeDiff, k0, ba_data, ba_size, ba_toList, ba_extract, ba_append, List.toList_toArray, hb]; (first | done | rfl))
    | ((first | apply g_gT | apply g_gF); · intro hb hc; simp only [go_sem, Nat.reduceEqDiff, Nat.reduceAdd, Nat.reduceLeDiff, k0, ba_data, ba_size, ba_toList, ba_extract, ba_append, List.toList_toArray, hb, hc]; (first | done | rfl))
    | refine g_skT ?_ | refine g_skF ?_
    | ((first | apply g_goT | apply g_goF); · simp only [go_sem, Nat.reduceEqDiff, Nat.reduceAdd, Nat.reduceLeDiff, k0, ba_data, ba_size, ba_toList, ba_extract, ba_append, List.toList_toArray]; (first | done | rfl))
    )
        refine w_condB (b := !(decide (s.drop i = [125]) && rightL out && decide ((textS out).data.toList = s))) (by simp only [go_sem, Nat.reduceEqDiff, Nat.reduceAdd, Nat.reduceLeDiff]; rw [last_is hi, u8_ne _ 125 (z := 125) rfl, ByteArray.toList_eq]; cases ((i : Int) != (s.length : Int) - 1) <;> cases (byteD s i != 125) <;> cases rightL out <;> simp <;> (rw [Bool.eq_iff_iff]; simp)) (fun hd => ?_) (fun hd => ?_)
        · have hb : parseR s = ([], false) := by
            rw [hpr, hpl]
            simp only
            rw [if_neg]
            rintro ⟨h1, h2, h3⟩
            simp [h1, h2, h3] at hd
          (repeat' first
    | refine w_seq ?_ | refine w_rg ?_ | refine wo_nil ?_ | refine g_skU ?_
    | ((first | apply s_plain | apply s_void | apply s_guard); · simp only [go_sem, Nat.reduceEqDiff, Nat.reduceAdd, Nat.reduceLeDiff]; (first | done | rfl))
    | ((first | apply g_T | apply g_F); · intro hb; simp only [go_sem, Nat.reduceEqDiff, Nat.reduceAdd, Nat.reduceLeDiff, hb]; (first | done | rfl))
    | ((first | apply g_gT | apply g_gF); · intro hb hc; simp only [go_sem, Nat.reduceEqDiff, Nat.reduceAdd, Nat.reduceLeDiff, hb, hc]; (first | done | rfl))
    | refine g_skT ?_ | refine g_skF ?_
    | ((first | apply g_goT | apply g_goF); · simp only [go_sem, Nat.reduceEqDiff, Nat.reduceAdd, Nat.reduceLeDiff]; (first | done | rfl))
    | (refine w_condT ?_ ?_; · simp only [go_sem, Nat.reduceEqDiff, Nat.reduceAdd, Nat.reduceLeDiff]; (first | done | rfl))
    | (refine w_condF ?_ ?_; · simp only [go_sem, Nat.reduceEqDiff, Nat.reduceAdd, Nat.reduceLeDiff]; (first | done | rfl))
    | refine w_skip ?_ | refine w_exit ?_ | refine w_ret ?_
    )
          exact ⟨by first | exact .inr rfl | exact .inl rfl, by simp only [go_sem, Nat.reduceEqDiff, Nat.reduceAdd, Nat.reduceLeDiff, retOf, resOf, hb, labs]; first | done | rfl⟩
        · simp only [Bool.not_eq_false', Bool.and_eq_true, decide_eq_true_eq] at hd
          have hb : parseR s = (out, true) := by
            rw [hpr, hpl]
            simp only
            rw [if_pos ⟨hd.1.1, hd.1.2, hd.2⟩]
          (repeat' first
    | refine w_seq ?_ | refine w_rg ?_ | refine wo_nil ?_ | refine g_skU ?_
    | ((first | apply s_plain | apply s_void | apply s_guard); · simp only [go_sem, Nat.reduceEqDiff, Nat.reduceAdd, Nat.reduceLeDiff, hp]; (first | done | rfl))
    | ((first | apply g_T | apply g_F); · intro hb; simp only [go_sem, Nat.reduceEqDiff, Nat.reduceAdd, Nat.reduceLeDiff, hp, hb]; (first | done | rfl))
    | ((first | apply g_gT | apply g_gF); · intro hb hc; simp only [go_sem, Nat.reduceEqDiff, Nat.reduceAdd, Nat.reduceLeDiff, hp, hb, hc]; (first | done | rfl))
    | refine g_skT ?_ | refine g_skF ?_
    | ((first | apply g_goT | apply g_goF); · simp only [go_sem, Nat.reduceEqDiff, Nat.reduceAdd, Nat.reduceLeDiff, hp]; (first | done | rfl))
    | (refine w_condT ?_ ?_; · simp only [go_sem, Nat.reduceEqDiff, Nat.reduceAdd, Nat.reduceLeDiff, hp]; (first | done | rfl))
    | (refine w_condF ?_ ?_; · simp only [go_sem, Nat.reduceEqDiff, Nat.reduceAdd, Nat.reduceLeDiff, hp]; (first | done | rfl))
    | refine w_skip ?_ | refine w_exit ?_ | refine w_ret ?_
    )
          exact ⟨by first | exact .inr rfl | exact .inl rfl, by simp only [go_sem, Nat.reduceEqDiff, Nat.reduceAdd, Nat.reduceLeDiff, retOf, resOf, hb, gat_fzd hg (labs_fzd τ 8 out)]; first | done | rfl⟩
end
end Go.Proofs.YtjijlmfhnkipmaaDoorPv
namespace Go.Proofs.YtjijlmfhnkipmaaDoorPv
open Go
set_option linter.unusedSimpArgs false
set_option linter.unusedVariables false
set_option maxHeartbeats 4000000
attribute [local go_sem ↓] e_mv e_pick e_bin e_eqs e_beq e_un e_cvi e_str e_s2b e_b2s e_box e_build e_bsl e_ld e_st e_nck e_mkf e_slcS e_slcL e_fa e_fld e_ia e_iaa e_ix e_ixa e_ext e_lenS e_lenL e_mnmx e_app e_appb e_bbx e_msl e_clr e_call e_callv pa_t pa_c pa_f slcSP_str hiOf_some hiOf_none loOf_some loOf_none set_eq set_ne
attribute [local go_sem] pv pv1 simple frOf_0 frOf_1 frOf_2 frOf_3 frOf_4 frOf_5 ne_eq not_false_eq_true if_true Bool.false_eq_true if_false pbin punary Option.map_some Option.bind_some pick_and pick_or opt_true Bool.true_and Bool.and_self Bool.and_true Bool.true_or Bool.false_or Bool.not_true Bool.not_false callE pcall_eq List.map_cons List.map_nil List.append_nil List.nil_append List.cons_append mapM_cons' mapM_nil' dep_eq fz_sc fz_sl fz_em fz_fn fz_fp fz_agg fz_tu fz_bx fz_ob Nat.lt_irrefl Nat.zero_lt_one Nat.lt_add_one flat clL cl Bool.or_true okc_sc okc_em okc_sl okc_ob okc_bx okc_fp okc_fn okc_agg okc_ifc cells_agg cells_sc cells_sl cells_em cells_ob cells_fn cells_bx cells_fp List.length_cons List.length_nil Nat.zero_add and_self true_and and_true new_m new_c put_m put_c nil_m nil_c deref List.getElem?_cons_zero List.getElem?_cons_succ List.drop_zero List.drop_succ_cons List.take_succ_cons List.take_zero Nat.le_refl false_and and_false decide_true decide_false lenP_em lenP_nil lenP_sl lenP_ob Int.ofNat_zero
set_option maxRecDepth 8000
/-- transhipment/transhipmentlaw03.LabelReads -/
def d233 : Def := (.code 1 [.tmp 2] (.seq (.rg false [⟨.some 2, .none, .mv (.c (.bool false))⟩]) (.seq (.rg false [⟨.some 7, .none, .mv (.t 0)⟩, ⟨.some 8, .none, .mv (.t 0)⟩, ⟨.some 9, .none, .lenS (.t 8)⟩, ⟨.some 10, .none, .mnmx false [.t 9, .c (.int .i64 1500)]⟩, ⟨.some 11, .none, .slcS (.t 7) .none (.some (.t 10))⟩, ⟨.some 0, .none, .mv (.t 11)⟩]) (.seq (.rg false [⟨.some 13, .none, .mv (.t 0)⟩, ⟨.some 14, .none, .call 204 .pure [.t 13]⟩, ⟨.some 12, .none, .mv (.t 14)⟩, ⟨.some 15, .none, .ext (.t 12) 0⟩, ⟨.some 16, .none, .ext (.t 12) 1⟩, ⟨.some 3, .none, .mv (.t 15)⟩, ⟨.some 4, .none, .mv (.t 16)⟩]) (.seq (.rg false [⟨.some 18, .none, .mv (.t 0)⟩, ⟨.some 19, .none, .call 208 .pure [.t 18]⟩, ⟨.some 17, .none, .mv (.t 19)⟩, ⟨.some 20, .none, .ext (.t 17) 0⟩, ⟨.some 21, .none, .ext (.t 17) 1⟩, ⟨.some 5, .none, .mv (.t 20)⟩, ⟨.some 6, .none, .mv (.t 21)⟩]) (.seq (.seq (.rg false [⟨.some 22, .none, .mv (.t 6)⟩, ⟨.some 23, .none, .un .not (.t 22)⟩]) (.cond (.t 23) (.seq (.rg false [⟨.some 24, .none, .call 240 .pure []⟩, ⟨.some 25, .none, .mv (.t 24)⟩, ⟨.some 26, .some (25, true), .mv (.t 4)⟩, ⟨.some 27, .some (25, true), .bin .eql (.t 26) (.c (.int .i64 6))⟩, ⟨.some 28, .none, .pick (.t 25) (.t 27) (.c (.bool false))⟩, ⟨.some 29, .none, .mv (.t 28)⟩, ⟨.some 30, .some (29, true), .mv (.t 3)⟩, ⟨.some 31, .some (29, true), .lenL (.t 30)⟩, ⟨.some 32, .some (29, true), .bin .eql (.t 31) (.c (.int .i64 0))⟩, ⟨.some 33, .none, .pick (.t 29) (.t 32) (.c (.bool false))⟩, ⟨.some 2, .none, .mv (.t 33)⟩]) .ret) .skip)) (.seq (.rg false [⟨.some 34, .none, .call 240 .pure []⟩, ⟨.some 35, .none, .mv (.t 34)⟩, ⟨.some 36, .some (35, true), .mv (.t 4)⟩, ⟨.some 37, .some (35, true), .bin .eql (.t 36) (.c (.int .i64 0))⟩, ⟨.some 38, .none, .pick (.t 35) (.t 37) (.c (.bool false))⟩, ⟨.some 39, .none, .mv (.t 38)⟩, ⟨.some 40, .some (39, true), .mv (.t 3)⟩, ⟨.some 41, .some (39, true), .mv (.t 5)⟩, ⟨.some 42, .some (39, true), .call 192 .pure [.t 40, .t 41]⟩, ⟨.some 43, .none, .pick (.t 39) (.t 42) (.c (.bool false))⟩, ⟨.some 2, .none, .mv (.t 43)⟩]) .ret)))))))
/-- transhipment/transhipmentlaw03.LabelBack -/
def d234 : Def := (.code 3 [.tmp 6] (.seq (.rg false [⟨.some 6, .none, .mv (.c (.bool false))⟩]) (.seq (.rg true [⟨.some 17, .none, .mv (.t 0)⟩, ⟨.some 18, .none, .call 241 .strict [.t 17]⟩, ⟨.some 19, .none, .mv (.t 1)⟩, ⟨.some 20, .none, .call 241 .strict [.t 19]⟩, ⟨.some 21, .none, .mv (.t 2)⟩, ⟨.some 22, .none, .mv (.t 2)⟩, ⟨.some 23, .none, .lenS (.t 22)⟩, ⟨.some 24, .none, .mnmx false [.t 23, .c (.int .i64 1500)]⟩, ⟨.some 25, .none, .slcS (.t 21) .none (.some (.t 24))⟩, ⟨.some 0, .none, .mv (.t 18)⟩, ⟨.some 1, .none, .mv (.t 20)⟩, ⟨.some 2, .none, .mv (.t 25)⟩]) (.seq (.rg false [⟨.some 27, .none, .mv (.t 0)⟩, ⟨.some 28, .none, .call 202 .pure [.t 27]⟩, ⟨.some 26, .none, .mv (.t 28)⟩, ⟨.some 29, .none, .ext (.t 26) 0⟩, ⟨.some 30, .none, .ext (.t 26) 1⟩, ⟨.some 7, .none, .mv (.t 29)⟩, ⟨.some 8, .none, .mv (.t 30)⟩]) (.seq (.rg false [⟨.some 32, .none, .mv (.t 1)⟩, ⟨.some 33, .none, .call 202 .pure [.t 32]⟩, ⟨.some 31, .none, .mv (.t 33)⟩, ⟨.some 34, .none, .ext (.t 31) 0⟩, ⟨.some 35, .none, .ext (.t 31) 1⟩, ⟨.some 9, .none, .mv (.t 34)⟩, ⟨.some 10, .none, .mv (.t 35)⟩]) (.seq (.seq (.rg false [⟨.some 36, .none, .mv (.t 8)⟩, ⟨.some 37, .none, .bin .eql (.t 36) (.c (.int .i64 0))⟩]) (.cond (.t 37) (.seq (.rg false [⟨.some 39, .none, .mv (.t 7)⟩, ⟨.some 40, .none, .call 204 .pure [.t 39]⟩, ⟨.some 38, .none, .mv (.t 40)⟩, ⟨.some 41, .none, .ext (.t 38) 0⟩, ⟨.some 42, .none, .ext (.t 38) 1⟩, ⟨.some 11, .none, .mv (.t 41)⟩, ⟨.some 12, .none, .mv (.t 42)⟩]) (.seq (.rg false [⟨.some 43, .none, .mv (.t 12)⟩, ⟨.some 44, .none, .bin .neq (.t 43) (.c (.int .i64 0))⟩, ⟨.some 45, .none, .mv (.t 44)⟩, ⟨.some 46, .some (45, false), .mv (.t 11)⟩, ⟨.some 47, .some (45, false), .mv (.t 0)⟩, ⟨.some 48, .some (45, false), .call 192 .pure [.t 46, .t 47]⟩, ⟨.some 49, .some (45, false), .un .not (.t 48)⟩, ⟨.some 50, .none, .pick (.t 45) (.c (.bool true)) (.t 49)⟩, ⟨.some 51, .none, .mv (.t 50)⟩, ⟨.some 52, .some (51, false), .mv (.t 10)⟩, ⟨.some 53, .some (51, false), .bin .eql (.t 52) (.c (.int .i64 0))⟩, ⟨.some 54, .some (51, false), .mv (.t 53)⟩, ⟨.some 55, .some (54, true), .mv (.t 7)⟩, ⟨.some 56, .some (54, true), .mv (.t 9)⟩, ⟨.some 57, .some (54, true), .bin .eql (.t 55) (.t 56)⟩, ⟨.some 58, .some (54, true), .mv (.t 0)⟩, ⟨.some 59, .some (54, true), .mv (.t 1)⟩, ⟨.some 60, .some (54, true), .call 192 .pure [.t 58, .t 59]⟩, ⟨.some 61, .some (54, true), .beq true (.t 57) (.t 60)⟩, ⟨.some 62, .some (51, false), .pick (.t 54) (.t 61) (.c (.bool false))⟩, ⟨.some 63, .none, .pick (.t 51) (.c (.bool true)) (.t 62)⟩]) (.cond (.t 63) (.seq (.rg false [⟨.some 6, .none, .mv (.c (.bool false))⟩]) .ret) .skip))) .skip)) (.seq (.rg false [⟨.some 65, .none, .mv (.t 2)⟩, ⟨.some 66, .none, .call 204 .pure [.t 65]⟩, ⟨.some 64, .none, .mv (.t 66)⟩, ⟨.some 67, .none, .ext (.t 64) 0⟩, ⟨.some 68, .none, .ext (.t 64) 1⟩, ⟨.some 13, .none, .mv (.t 67)⟩, ⟨.some 14, .none, .mv (.t 68)⟩]) (.seq (.seq (.rg false [⟨.some 69, .none, .mv (.t 14)⟩, ⟨.some 70, .none, .bin .neq (.t 69) (.c (.int .i64 0))⟩]) (.cond (.t 70) (.seq (.rg false [⟨.some 71, .none, .call 240 .pure []⟩, ⟨.some 72, .none, .mv (.t 71)⟩, ⟨.some 73, .some (72, true), .mv (.t 13)⟩, ⟨.some 74, .some (72, true), .lenL (.t 73)⟩, ⟨.some 75, .some (72, true), .bin .eql (.t 74) (.c (.int .i64 0))⟩, ⟨.some 76, .none, .pick (.t 72) (.t 75) (.c (.bool false))⟩, ⟨.some 6, .none, .mv (.t 76)⟩]) .ret) .skip)) (.seq (.rg false [⟨.some 78, .none, .mv (.t 13)⟩, ⟨.some 79, .none, .call 202 .pure [.t 78]⟩, ⟨.some 77, .none, .mv (.t 79)⟩, ⟨.some 80, .none, .ext (.t 77) 0⟩, ⟨.some 81, .none, .ext (.t 77) 1⟩, ⟨.some 15, .none, .mv (.t 80)⟩, ⟨.some 16, .none, .mv (.t 81)⟩]) (.seq (.rg false [⟨.some 82, .none, .call 240 .pure []⟩, ⟨.some 83, .none, .mv (.t 82)⟩, ⟨.some 84, .some (83, true), .mv (.t 16)⟩, ⟨.some 85, .some (83, true), .bin .eql (.t 84) (.c (.int .i64 0))⟩, ⟨.some 86, .none, .pick (.t 83) (.t 85) (.c (.bool false))⟩, ⟨.some 87, .none, .mv (.t 86)⟩, ⟨.some 88, .some (87, true), .mv (.t 15)⟩, ⟨.some 89, .some (87, true), .mv (.t 2)⟩, ⟨.some 90, .some (87, true), .bin .eql (.t 88) (.t 89)⟩, ⟨.some 91, .none, .pick (.t 87) (.t 90) (.c (.bool false))⟩, ⟨.some 92, .none, .mv (.t 91)⟩, ⟨.some 93, .some (92, true), .mv (.t 13)⟩, ⟨.some 94, .some (92, true), .call 113 .pure [.t 93]⟩, ⟨.some 95, .none, .pick (.t 92) (.t 94) (.c (.bool false))⟩, ⟨.some 6, .none, .mv (.t 95)⟩]) .ret))))))))))
def lcg : List (Nat × Def) := [(233, d233)]
def lch : List (Nat × Def) := [(234, d234)]
section
variable {env : Nat → Option Def} {fr : Fr} {σ σ' σ'' : St} {K : Fr → St → Prop} {Q : X → Fr → St → Prop} {p : PV} {bs : List UInt8}
theorem cut1500 (l : List UInt8) : (l.take (min l.length 1500)).length ≤ 1500 := by rw [List.length_take]; omega
theorem parseS_len {s : List UInt8} : (parseS s).1.length ≤ 8 := by
  by_cases h : (parseS s).2 = 0
  · have e : parseS s = ((parseS s).1, 0) := by rw [← h]
    exact (right_iff.1 (parse_ok e).1).2.2
  · rw [parse_bad h]; exact Nat.zero_le _
theorem a233 (H : Has la0 env) (G : Has lc env) (L : Has ll0 env) (M : Has lm0 env) (N : Has ln0 env) (P : Has lp env) (U : Has lu env) (C : Has lca env) (D : Has lcb env) (B : Has lbb env) (S : Has lbs env) (T : Has lcc env) (V : Has lcd env) (E : Has lce env) (F : Has lcf env) (R : Has lcg env)
    (hal : AV env 240 [] = some (.sc (.bool true))) (x : ByteArray) : AV env 233 [.sc (.string x)] = some (.sc (.bool true)) := by
  rw [← txt_eta x]
  generalize x.data.toList = l
  have hs := cut1500 l
  have b15 : bound l.length (.sc (.int .i64 (min (l.length : Int) 1500))) = some (min l.length 1500) := bound_min rfl
  have h204 := a204 H G P U C D B S T V (s := l.take (min l.length 1500)) (by omega)
  have h208 := a208 L M U E F (s := l.take (min l.length 1500)) (by omega)
  have hsame := parse_same (l.take (min l.length 1500))
  have hlen := @parseS_len (l.take (min l.length 1500))
  generalize hsq : l.take (min l.length 1500) = s at *
  refine AV_wp (R (233, d233) (by simp [lcg])) rfl ?_
  by_cases h : (parseS s).2 = 0
  · have hz : (parseR s).2 = true := by rw [hsame.1, h]; rfl
    have h192 := a192 N (a := (parseS s).1) (b := (parseR s).1) (by omega)
    rw [show sameL (parseS s).1 (parseR s).1 = true by unfold sameL; exact decide_eq_true (hsame.2 h)] at h192
    rw [hz] at h208
    rw [h] at h204
    (repeat' first
    | refine w_seq ?_ | refine w_rg ?_ | refine wo_nil ?_ | refine g_skU ?_
    | ((first | apply s_plain | apply s_void | apply s_guard); · simp only [go_sem, Nat.reduceEqDiff, Nat.reduceAdd, Nat.reduceLeDiff, mn2, b15, ba_data, ba_size, ba_toList, ba_extract, ba_append, List.toList_toArray, List.drop_zero, hsq, h204, h208]; (first | done | rfl))
    | ((first | apply g_T | apply g_F); · intro hb; simp only [go_sem, Nat.reduceEqDiff, Nat.reduceAdd, Nat.reduceLeDiff, mn2, b15, ba_data, ba_size, ba_toList, ba_extract, ba_append, List.toList_toArray, List.drop_zero, hsq, h204, h208, hb]; (first | done | rfl))
    | ((first | apply g_gT | apply g_gF); · intro hb hc; simp only [go_sem, Nat.reduceEqDiff, Nat.reduceAdd, Nat.reduceLeDiff, mn2, b15, ba_data, ba_size, ba_toList, ba_extract, ba_append, List.toList_toArray, List.drop_zero, hsq, h204, h208, hb, hc]; (first | done | rfl))
    | refine g_skT ?_ | refine g_skF ?_
    | ((first | apply g_goT | apply g_goF); · simp only [go_sem, Nat.reduceEqDiff, Nat.reduceAdd, Nat.reduceLeDiff, mn2, b15, ba_data, ba_size, ba_toList, ba_extract, ba_append, List.toList_toArray, List.drop_zero, hsq, h204, h208]; (first | done | rfl))
    | (refine w_condT ?_ ?_; · simp only [go_sem, Nat.reduceEqDiff, Nat.reduceAdd, Nat.reduceLeDiff, mn2, b15, ba_data, ba_size, ba_toList, ba_extract, ba_append, List.toList_toArray, List.drop_zero, hsq, h204, h208]; (first | done | rfl))
    | (refine w_condF ?_ ?_; · simp only [go_sem, Nat.reduceEqDiff, Nat.reduceAdd, Nat.reduceLeDiff, mn2, b15, ba_data, ba_size, ba_toList, ba_extract, ba_append, List.toList_toArray, List.drop_zero, hsq, h204, h208]; (first | done | rfl))
    | refine w_skip ?_ | refine w_exit ?_ | refine w_ret ?_
    )
    (repeat' first
    | refine w_seq ?_ | refine w_rg ?_ | refine wo_nil ?_ | refine g_skU ?_
    | ((first | apply s_plain | apply s_void | apply s_guard); · simp only [go_sem, Nat.reduceEqDiff, Nat.reduceAdd, Nat.reduceLeDiff, hal, h192]; (first | done | rfl))
    | ((first | apply g_T | apply g_F); · intro hb; simp only [go_sem, Nat.reduceEqDiff, Nat.reduceAdd, Nat.reduceLeDiff, hal, h192, hb]; (first | done | rfl))
    | ((first | apply g_gT | apply g_gF); · intro hb hc; simp only [go_sem, Nat.reduceEqDiff, Nat.reduceAdd, Nat.reduceLeDiff, hal, h192, hb, hc]; (first | done | rfl))
    | refine g_skT ?_ | refine g_skF ?_
    | ((first | apply g_goT | apply g_goF); · simp only [go_sem, Nat.reduceEqDiff, Nat.reduceAdd, Nat.reduceLeDiff, hal, h192]; (first | done | rfl))
    | (refine w_condT ?_ ?_; · simp only [go_sem, Nat.reduceEqDiff, Nat.reduceAdd, Nat.reduceLeDiff, hal, h192]; (first | done | rfl))
    | (refine w_condF ?_ ?_; · simp only [go_sem, Nat.reduceEqDiff, Nat.reduceAdd, Nat.reduceLeDiff, hal, h192]; (first | done | rfl))
    | refine w_skip ?_ | refine w_exit ?_ | refine w_ret ?_
    )
    exact ⟨by first | exact .inr rfl | exact .inl rfl, by simp only [go_sem, Nat.reduceEqDiff, Nat.reduceAdd, Nat.reduceLeDiff, retOf, resOf]; first | done | rfl⟩
  · have hz : (parseR s).2 = false := by rw [hsame.1]; simpa using h
    rw [hz] at h208
    rw [parse_bad h] at h204
    (repeat' first
    | refine w_seq ?_ | refine w_rg ?_ | refine wo_nil ?_ | refine g_skU ?_
    | ((first | apply s_plain | apply s_void | apply s_guard); · simp only [go_sem, Nat.reduceEqDiff, Nat.reduceAdd, Nat.reduceLeDiff, mn2, b15, ba_data, ba_size, ba_toList, ba_extract, ba_append, List.toList_toArray, List.drop_zero, hsq, h204, h208]; (first | done | rfl))
    | ((first | apply g_T | apply g_F); · intro hb; simp only [go_sem, Nat.reduceEqDiff, Nat.reduceAdd, Nat.reduceLeDiff, mn2, b15, ba_data, ba_size, ba_toList, ba_extract, ba_append, List.toList_toArray, List.drop_zero, hsq, h204, h208, hb]; (first | done | rfl))
    | ((first | apply g_gT | apply g_gF); · intro hb hc; simp only [go_sem, Nat.reduceEqDiff, Nat.reduceAdd, Nat.reduceLeDiff, mn2, b15, ba_data, ba_size, ba_toList, ba_extract, ba_append, List.toList_toArray, List.drop_zero, hsq, h204, h208, hb, hc]; (first | done | rfl))
    | refine g_skT ?_ | refine g_skF ?_
    | ((first | apply g_goT | apply g_goF); · simp only [go_sem, Nat.reduceEqDiff, Nat.reduceAdd, Nat.reduceLeDiff, mn2, b15, ba_data, ba_size, ba_toList, ba_extract, ba_append, List.toList_toArray, List.drop_zero, hsq, h204, h208]; (first | done | rfl))
    | (refine w_condT ?_ ?_; · simp only [go_sem, Nat.reduceEqDiff, Nat.reduceAdd, Nat.reduceLeDiff, mn2, b15, ba_data, ba_size, ba_toList, ba_extract, ba_append, List.toList_toArray, List.drop_zero, hsq, h204, h208]; (first | done | rfl))
    | (refine w_condF ?_ ?_; · simp only [go_sem, Nat.reduceEqDiff, Nat.reduceAdd, Nat.reduceLeDiff, mn2, b15, ba_data, ba_size, ba_toList, ba_extract, ba_append, List.toList_toArray, List.drop_zero, hsq, h204, h208]; (first | done | rfl))
    | refine w_skip ?_ | refine w_exit ?_ | refine w_ret ?_
    )
    (repeat' first
    | refine w_seq ?_ | refine w_rg ?_ | refine wo_nil ?_ | refine g_skU ?_
    | ((first | apply s_plain | apply s_void | apply s_guard); · simp only [go_sem, Nat.reduceEqDiff, Nat.reduceAdd, Nat.reduceLeDiff, hal, labs]; (first | done | rfl))
    | ((first | apply g_T | apply g_F); · intro hb; simp only [go_sem, Nat.reduceEqDiff, Nat.reduceAdd, Nat.reduceLeDiff, hal, labs, hb]; (first | done | rfl))
    | ((first | apply g_gT | apply g_gF); · intro hb hc; simp only [go_sem, Nat.reduceEqDiff, Nat.reduceAdd, Nat.reduceLeDiff, hal, labs, hb, hc]; (first | done | rfl))
    | refine g_skT ?_ | refine g_skF ?_
    | ((first | apply g_goT | apply g_goF); · simp only [go_sem, Nat.reduceEqDiff, Nat.reduceAdd, Nat.reduceLeDiff, hal, labs]; (first | done | rfl))
    | (refine w_condT ?_ ?_; · simp only [go_sem, Nat.reduceEqDiff, Nat.reduceAdd, Nat.reduceLeDiff, hal, labs]; (first | done | rfl))
    | (refine w_condF ?_ ?_; · simp only [go_sem, Nat.reduceEqDiff, Nat.reduceAdd, Nat.reduceLeDiff, hal, labs]; (first | done | rfl))
    | refine w_skip ?_ | refine w_exit ?_ | refine w_ret ?_
    )
    exact ⟨by first | exact .inr rfl | exact .inl rfl, by simp only [go_sem, Nat.reduceEqDiff, Nat.reduceAdd, Nat.reduceLeDiff, retOf, resOf]; first | done | rfl⟩
theorem text_len {l : List Lab} (h : rightL l = true) : (textS l).data.toList.length ≤ 2000 := by
  have h8 := (right_iff.1 h).2.2
  have hp := preT_len (ab_size h) h8 l.length
  have e : (textS l).data.toList = preT l l.length ++ [125] := by
    unfold textS bodyS preT
    simp [ByteArray.data_append]
  rw [e, List.length_append]
  simp only [List.length_cons, List.length_nil]
  omega
theorem text_inj {a b : List Lab} (ha : rightL a = true) (hb : rightL b = true) (h : (textS a).data.toList = (textS b).data.toList) : a = b := by
  have h1 := parse_text ha
  have h2 := parse_text hb
  rw [h, h2] at h1
  exact ((Prod.mk.inj h1).1).symm
theorem a234 (H : Has la0 env) (G : Has lc env) (N : Has ln0 env) (P : Has lp env) (U : Has lu env) (W : Has lw env) (C : Has lca env) (D : Has lcb env) (B : Has lbb env) (S : Has lbs env) (T : Has lcc env) (V : Has lcd env) (R : Has lch env)
    (hal : AV env 240 [] = some (.sc (.bool true))) {l m : List Lab} (hl : l.length ≤ 9223372036854775807) (hm : m.length ≤ 9223372036854775807) (x : ByteArray) : AV env 234 [.sl (labs l), .sl (labs m), .sc (.string x)] = some (.sc (.bool true)) := by
  have g1 := few_g (W (241, d108) (by simp [lw])) hl
  have g2 := few_g (W (241, d108) (by simp [lw])) hm
  have k1 : (fewL l).length ≤ 10 := by rw [fewL_len]; omega
  have k2 : (fewL m).length ≤ 10 := by rw [fewL_len]; omega
  have s1 := fewL_smalls l
  have s2 := fewL_smalls m
  generalize fewL l = a at g1 k1 s1
  generalize fewL m = b at g2 k2 s2
  rw [← txt_eta x]
  generalize x.data.toList = q
  have hs := cut1500 q
  have b15 : bound q.length (.sc (.int .i64 (min (q.length : Int) 1500))) = some (min q.length 1500) := bound_min rfl
  have h204 := a204 H G P U C D B S T V (s := q.take (min q.length 1500)) (by omega)
  have hlen := @parseS_len (q.take (min q.length 1500))
  generalize hsq : q.take (min q.length 1500) = s at *
  have ha := a202 H G P U (l := a) (by omega) s1
  have hb := a202 H G P U (l := b) (by omega) s2
  refine AV_wp (R (234, d234) (by simp [lch])) rfl ?_
  (repeat' first
    | refine w_seq ?_ | refine w_rg ?_ | refine wo_nil ?_ | refine g_skU ?_
    | ((first | apply s_plain | apply s_void | apply s_guard); · simp only [go_sem, Nat.reduceEqDiff, Nat.reduceAdd, Nat.reduceLeDiff, mn2, b15, ba_data, ba_size, ba_toList, ba_extract, ba_append, List.toList_toArray, List.drop_zero, hsq, g1, g2, ha, hb]; (first | done | rfl))
    | ((first | apply g_T | apply g_F); · intro hb; simp only [go_sem, Nat.reduceEqDiff, Nat.reduceAdd, Nat.reduceLeDiff, mn2, b15, ba_data, ba_size, ba_toList, ba_extract, ba_append, List.toList_toArray, List.drop_zero, hsq, g1, g2, ha, hb, hb]; (first | done | rfl))
    | ((first | apply g_gT | apply g_gF); · intro hb hc; simp only [go_sem, Nat.reduceEqDiff, Nat.reduceAdd, Nat.reduceLeDiff, mn2, b15, ba_data, ba_size, ba_toList, ba_extract, ba_append, List.toList_toArray, List.drop_zero, hsq, g1, g2, ha, hb, hb, hc]; (first | done | rfl))
    | refine g_skT ?_ | refine g_skF ?_
    | ((first | apply g_goT | apply g_goF); · simp only [go_sem, Nat.reduceEqDiff, Nat.reduceAdd, Nat.reduceLeDiff, mn2, b15, ba_data, ba_size, ba_toList, ba_extract, ba_append, List.toList_toArray, List.drop_zero, hsq, g1, g2, ha, hb]; (first | done | rfl))
    )
  refine Wp.mono (Q := fun x fr τ => x = .normal ∧ fr 2 = txt s ∧ τ = St.nil) ?_ ?_
  · cases ra : rightL a with
    | false =>
      rw [ra] at ha
      (repeat' first
    | refine w_seq ?_ | refine w_rg ?_ | refine wo_nil ?_ | refine g_skU ?_
    | ((first | apply s_plain | apply s_void | apply s_guard); · simp only [go_sem, Nat.reduceEqDiff, Nat.reduceAdd, Nat.reduceLeDiff, ra]; (first | done | rfl))
    | ((first | apply g_T | apply g_F); · intro hb; simp only [go_sem, Nat.reduceEqDiff, Nat.reduceAdd, Nat.reduceLeDiff, ra, hb]; (first | done | rfl))
    | ((first | apply g_gT | apply g_gF); · intro hb hc; simp only [go_sem, Nat.reduceEqDiff, Nat.reduceAdd, Nat.reduceLeDiff, ra, hb, hc]; (first | done | rfl))
    | refine g_skT ?_ | refine g_skF ?_
    | ((first | apply g_goT | apply g_goF); · simp only [go_sem, Nat.reduceEqDiff, Nat.reduceAdd, Nat.reduceLeDiff, ra]; (first | done | rfl))
    | (refine w_condT ?_ ?_; · simp only [go_sem, Nat.reduceEqDiff, Nat.reduceAdd, Nat.reduceLeDiff, ra]; (first | done | rfl))
    | (refine w_condF ?_ ?_; · simp only [go_sem, Nat.reduceEqDiff, Nat.reduceAdd, Nat.reduceLeDiff, ra]; (first | done | rfl))
    | refine w_skip ?_ | refine w_exit ?_ | refine w_ret ?_
    )
      exact ⟨rfl, by simp only [go_sem, Nat.reduceEqDiff, Nat.reduceAdd, Nat.reduceLeDiff], rfl⟩
    | true =>
      have hpa := a204 H G P U C D B S T V (s := (textS a).data.toList) (by have := text_len ra; omega)
      rw [parse_text ra, txt_eta] at hpa
      have hsa := a192 N (a := a) (b := a) (by omega)
      rw [show sameL a a = true by unfold sameL; exact decide_eq_true rfl] at hsa
      have hsb := a192 N (a := a) (b := b) (by omega)
      (repeat' first
    | refine w_seq ?_ | refine w_rg ?_ | refine wo_nil ?_ | refine g_skU ?_
    | ((first | apply s_plain | apply s_void | apply s_guard); · simp only [go_sem, Nat.reduceEqDiff, Nat.reduceAdd, Nat.reduceLeDiff, ra]; (first | done | rfl))
    | ((first | apply g_T | apply g_F); · intro hb; simp only [go_sem, Nat.reduceEqDiff, Nat.reduceAdd, Nat.reduceLeDiff, ra, hb]; (first | done | rfl))
    | ((first | apply g_gT | apply g_gF); · intro hb hc; simp only [go_sem, Nat.reduceEqDiff, Nat.reduceAdd, Nat.reduceLeDiff, ra, hb, hc]; (first | done | rfl))
    | refine g_skT ?_ | refine g_skF ?_
    | ((first | apply g_goT | apply g_goF); · simp only [go_sem, Nat.reduceEqDiff, Nat.reduceAdd, Nat.reduceLeDiff, ra]; (first | done | rfl))
    | (refine w_condT ?_ ?_; · simp only [go_sem, Nat.reduceEqDiff, Nat.reduceAdd, Nat.reduceLeDiff, ra]; (first | done | rfl))
    | (refine w_condF ?_ ?_; · simp only [go_sem, Nat.reduceEqDiff, Nat.reduceAdd, Nat.reduceLeDiff, ra]; (first | done | rfl))
    | refine w_skip ?_ | refine w_exit ?_ | refine w_ret ?_
    )
      (repeat' first
    | refine w_seq ?_ | refine w_rg ?_ | refine wo_nil ?_ | refine g_skU ?_
    | ((first | apply s_plain | apply s_void | apply s_guard); · simp only [go_sem, Nat.reduceEqDiff, Nat.reduceAdd, Nat.reduceLeDiff, hpa, hsa]; (first | done | rfl))
    | ((first | apply g_T | apply g_F); · intro hb; simp only [go_sem, Nat.reduceEqDiff, Nat.reduceAdd, Nat.reduceLeDiff, hpa, hsa, hb]; (first | done | rfl))
    | ((first | apply g_gT | apply g_gF); · intro hb hc; simp only [go_sem, Nat.reduceEqDiff, Nat.reduceAdd, Nat.reduceLeDiff, hpa, hsa, hb, hc]; (first | done | rfl))
    | refine g_skT ?_ | refine g_skF ?_
    | ((first | apply g_goT | apply g_goF); · simp only [go_sem, Nat.reduceEqDiff, Nat.reduceAdd, Nat.reduceLeDiff, hpa, hsa]; (first | done | rfl))
    )
      cases rb : rightL b with
      | false =>
        (repeat' first
    | refine w_seq ?_ | refine w_rg ?_ | refine wo_nil ?_ | refine g_skU ?_
    | ((first | apply s_plain | apply s_void | apply s_guard); · simp only [go_sem, Nat.reduceEqDiff, Nat.reduceAdd, Nat.reduceLeDiff, rb]; (first | done | rfl))
    | ((first | apply g_T | apply g_F); · intro hb; simp only [go_sem, Nat.reduceEqDiff, Nat.reduceAdd, Nat.reduceLeDiff, rb, hb]; (first | done | rfl))
    | ((first | apply g_gT | apply g_gF); · intro hb hc; simp only [go_sem, Nat.reduceEqDiff, Nat.reduceAdd, Nat.reduceLeDiff, rb, hb, hc]; (first | done | rfl))
    | refine g_skT ?_ | refine g_skF ?_
    | ((first | apply g_goT | apply g_goF); · simp only [go_sem, Nat.reduceEqDiff, Nat.reduceAdd, Nat.reduceLeDiff, rb]; (first | done | rfl))
    | (refine w_condT ?_ ?_; · simp only [go_sem, Nat.reduceEqDiff, Nat.reduceAdd, Nat.reduceLeDiff, rb]; (first | done | rfl))
    | (refine w_condF ?_ ?_; · simp only [go_sem, Nat.reduceEqDiff, Nat.reduceAdd, Nat.reduceLeDiff, rb]; (first | done | rfl))
    | refine w_skip ?_ | refine w_exit ?_ | refine w_ret ?_
    )
        exact ⟨rfl, by simp only [go_sem, Nat.reduceEqDiff, Nat.reduceAdd, Nat.reduceLeDiff], rfl⟩
      | true =>
        have hab : ((textS a).toList == (textS b).toList) = sameL a b := by
          unfold sameL
          rw [Bool.eq_iff_iff]
          simp only [beq_iff_eq, decide_eq_true_eq, ByteArray.toList_eq]
          exact ⟨text_inj ra rb, fun h => by rw [h]⟩
        (repeat' first
    | refine w_seq ?_ | refine w_rg ?_ | refine wo_nil ?_ | refine g_skU ?_
    | ((first | apply s_plain | apply s_void | apply s_guard); · simp only [go_sem, Nat.reduceEqDiff, Nat.reduceAdd, Nat.reduceLeDiff, rb, hsb, hab, eq_self, beq_self_eq_true, bne_self_eq_false, Bool.or_false]; (first | done | rfl))
    | ((first | apply g_T | apply g_F); · intro hb; simp only [go_sem, Nat.reduceEqDiff, Nat.reduceAdd, Nat.reduceLeDiff, rb, hsb, hab, eq_self, beq_self_eq_true, bne_self_eq_false, Bool.or_false, hb]; (first | done | rfl))
    | ((first | apply g_gT | apply g_gF); · intro hb hc; simp only [go_sem, Nat.reduceEqDiff, Nat.reduceAdd, Nat.reduceLeDiff, rb, hsb, hab, eq_self, beq_self_eq_true, bne_self_eq_false, Bool.or_false, hb, hc]; (first | done | rfl))
    | refine g_skT ?_ | refine g_skF ?_
    | ((first | apply g_goT | apply g_goF); · simp only [go_sem, Nat.reduceEqDiff, Nat.reduceAdd, Nat.reduceLeDiff, rb, hsb, hab, eq_self, beq_self_eq_true, bne_self_eq_false, Bool.or_false]; (first | done | rfl))
    | (refine w_condT ?_ ?_; · simp only [go_sem, Nat.reduceEqDiff, Nat.reduceAdd, Nat.reduceLeDiff, rb, hsb, hab, eq_self, beq_self_eq_true, bne_self_eq_false, Bool.or_false]; (first | done | rfl))
    | (refine w_condF ?_ ?_; · simp only [go_sem, Nat.reduceEqDiff, Nat.reduceAdd, Nat.reduceLeDiff, rb, hsb, hab, eq_self, beq_self_eq_true, bne_self_eq_false, Bool.or_false]; (first | done | rfl))
    | refine w_skip ?_ | refine w_exit ?_ | refine w_ret ?_
    )
        exact ⟨rfl, by simp only [go_sem, Nat.reduceEqDiff, Nat.reduceAdd, Nat.reduceLeDiff], rfl⟩
  · rintro y fr τ ⟨rfl, f2, rfl⟩
    by_cases h : (parseS s).2 = 0
    · have e : parseS s = ((parseS s).1, 0) := by rw [← h]
      obtain ⟨h1, h2⟩ := parse_ok e
      have hx := a202 H G P U (l := (parseS s).1) (by omega) (right_smalls h1)
      rw [h1, if_pos rfl, if_pos rfl] at hx
      have hr := a113 H G (l := (parseS s).1) (by omega) (right_smalls h1)
      rw [h1] at hr
      rw [h] at h204
      have ht : ((textS (parseS s).1).toList == s) = true := by rw [ByteArray.toList_eq, h2]; simp
      (repeat' first
    | refine w_seq ?_ | refine w_rg ?_ | refine wo_nil ?_ | refine g_skU ?_
    | ((first | apply s_plain | apply s_void | apply s_guard); · simp only [go_sem, Nat.reduceEqDiff, Nat.reduceAdd, Nat.reduceLeDiff, f2, h204]; (first | done | rfl))
    | ((first | apply g_T | apply g_F); · intro hb; simp only [go_sem, Nat.reduceEqDiff, Nat.reduceAdd, Nat.reduceLeDiff, f2, h204, hb]; (first | done | rfl))
    | ((first | apply g_gT | apply g_gF); · intro hb hc; simp only [go_sem, Nat.reduceEqDiff, Nat.reduceAdd, Nat.reduceLeDiff, f2, h204, hb, hc]; (first | done | rfl))
    | refine g_skT ?_ | refine g_skF ?_
    | ((first | apply g_goT | apply g_goF); · simp only [go_sem, Nat.reduceEqDiff, Nat.reduceAdd, Nat.reduceLeDiff, f2, h204]; (first | done | rfl))
    | (refine w_condT ?_ ?_; · simp only [go_sem, Nat.reduceEqDiff, Nat.reduceAdd, Nat.reduceLeDiff, f2, h204]; (first | done | rfl))
    | (refine w_condF ?_ ?_; · simp only [go_sem, Nat.reduceEqDiff, Nat.reduceAdd, Nat.reduceLeDiff, f2, h204]; (first | done | rfl))
    | refine w_skip ?_ | refine w_exit ?_ | refine w_ret ?_
    )
      (repeat' first
    | refine w_seq ?_ | refine w_rg ?_ | refine wo_nil ?_ | refine g_skU ?_
    | ((first | apply s_plain | apply s_void | apply s_guard); · simp only [go_sem, Nat.reduceEqDiff, Nat.reduceAdd, Nat.reduceLeDiff, f2, h204, hx, hal, hr, ba_data, ba_size, ba_toList, ba_extract, ba_append, List.toList_toArray, ht]; (first | done | rfl))
    | ((first | apply g_T | apply g_F); · intro hb; simp only [go_sem, Nat.reduceEqDiff, Nat.reduceAdd, Nat.reduceLeDiff, f2, h204, hx, hal, hr, ba_data, ba_size, ba_toList, ba_extract, ba_append, List.toList_toArray, ht, hb]; (first | done | rfl))
    | ((first | apply g_gT | apply g_gF); · intro hb hc; simp only [go_sem, Nat.reduceEqDiff, Nat.reduceAdd, Nat.reduceLeDiff, f2, h204, hx, hal, hr, ba_data, ba_size, ba_toList, ba_extract, ba_append, List.toList_toArray, ht, hb, hc]; (first | done | rfl))
    | refine g_skT ?_ | refine g_skF ?_
    | ((first | apply g_goT | apply g_goF); · simp only [go_sem, Nat.reduceEqDiff, Nat.reduceAdd, Nat.reduceLeDiff, f2, h204, hx, hal, hr, ba_data, ba_size, ba_toList, ba_extract, ba_append, List.toList_toArray, ht]; (first | done | rfl))
    | (refine w_condT ?_ ?_; · simp only [go_sem, Nat.reduceEqDiff, Nat.reduceAdd, Nat.reduceLeDiff, f2, h204, hx, hal, hr, ba_data, ba_size, ba_toList, ba_extract, ba_append, List.toList_toArray, ht]; (first | done | rfl))
    | (refine w_condF ?_ ?_; · simp only [go_sem, Nat.reduceEqDiff, Nat.reduceAdd, Nat.reduceLeDiff, f2, h204, hx, hal, hr, ba_data, ba_size, ba_toList, ba_extract, ba_append, List.toList_toArray, ht]; (first | done | rfl))
    | refine w_skip ?_ | refine w_exit ?_ | refine w_ret ?_
    )
      exact ⟨by first | exact .inr rfl | exact .inl rfl, by simp only [go_sem, Nat.reduceEqDiff, Nat.reduceAdd, Nat.reduceLeDiff, retOf, resOf]; first | done | rfl⟩
    · rw [parse_bad h] at h204
      (repeat' first
    | refine w_seq ?_ | refine w_rg ?_ | refine wo_nil ?_ | refine g_skU ?_
    | ((first | apply s_plain | apply s_void | apply s_guard); · simp only [go_sem, Nat.reduceEqDiff, Nat.reduceAdd, Nat.reduceLeDiff, f2, h204, hal, labs]; (first | done | rfl))
    | ((first | apply g_T | apply g_F); · intro hb; simp only [go_sem, Nat.reduceEqDiff, Nat.reduceAdd, Nat.reduceLeDiff, f2, h204, hal, labs, hb]; (first | done | rfl))
    | ((first | apply g_gT | apply g_gF); · intro hb hc; simp only [go_sem, Nat.reduceEqDiff, Nat.reduceAdd, Nat.reduceLeDiff, f2, h204, hal, labs, hb, hc]; (first | done | rfl))
    | refine g_skT ?_ | refine g_skF ?_
    | ((first | apply g_goT | apply g_goF); · simp only [go_sem, Nat.reduceEqDiff, Nat.reduceAdd, Nat.reduceLeDiff, f2, h204, hal, labs]; (first | done | rfl))
    | (refine w_condT ?_ ?_; · simp only [go_sem, Nat.reduceEqDiff, Nat.reduceAdd, Nat.reduceLeDiff, f2, h204, hal, labs]; (first | done | rfl))
    | (refine w_condF ?_ ?_; · simp only [go_sem, Nat.reduceEqDiff, Nat.reduceAdd, Nat.reduceLeDiff, f2, h204, hal, labs]; (first | done | rfl))
    | refine w_skip ?_ | refine w_exit ?_ | refine w_ret ?_
    )
      exact ⟨by first | exact .inr rfl | exact .inl rfl, by simp only [go_sem, Nat.reduceEqDiff, Nat.reduceAdd, Nat.reduceLeDiff, retOf, resOf]; first | done | rfl⟩
end
end Go.Proofs.YtjijlmfhnkipmaaDoorPv
