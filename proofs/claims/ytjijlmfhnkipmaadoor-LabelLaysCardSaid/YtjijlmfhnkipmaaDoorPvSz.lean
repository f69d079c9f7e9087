/-
The laws LabelLays, LabelOver.
-/
import Derived.Test.YtjijlmfhnkipmaaDoorPvSy
import Derived.Test.YtjijlmfhnkipmaaDoorPvSs
namespace Go.Proofs.YtjijlmfhnkipmaaDoorPv
open Go
set_option linter.unusedSimpArgs false
set_option linter.unusedVariables false
set_option maxHeartbeats 4000000
attribute [local go_sem ↓] e_mv e_pick e_bin e_eqs e_beq e_un e_cvi e_str e_s2b e_b2s e_box e_build e_bsl e_ld e_st e_nck e_mkf e_slcS e_slcL e_fa e_fld e_ia e_iaa e_ix e_ixa e_ext e_lenS e_lenL e_mnmx e_app e_msl e_clr e_call e_callv pa_t pa_c pa_f slcSP_str hiOf_some hiOf_none loOf_some loOf_none set_eq set_ne
attribute [local go_sem] pv pv1 simple frOf_0 frOf_1 frOf_2 frOf_3 frOf_4 frOf_5 ne_eq not_false_eq_true if_true Bool.false_eq_true if_false pbin punary Option.map_some Option.bind_some pick_and pick_or opt_true Bool.true_and Bool.and_self Bool.and_true Bool.true_or Bool.false_or Bool.not_true Bool.not_false callE pcall_eq List.map_cons List.map_nil List.append_nil List.nil_append List.cons_append mapM_cons' mapM_nil' dep_eq fz_sc fz_sl fz_em fz_fn fz_fp fz_agg fz_bx fz_ob Nat.lt_irrefl Nat.zero_lt_one Nat.lt_add_one flat clL cl Bool.or_true okc cells_agg cells_sc cells_sl cells_em cells_ob cells_fn cells_bx cells_fp List.length_cons List.length_nil Nat.zero_add and_self true_and and_true new_m new_c put_m put_c nil_m nil_c deref List.getElem?_cons_zero List.getElem?_cons_succ List.drop_zero List.drop_succ_cons List.take_succ_cons List.take_zero Nat.le_refl false_and and_false
set_option maxRecDepth 8000

/-- transhipment/transhipmentlaw03.LabelLays -/
def d236 : Def := (.code 3 [.tmp 6] (.seq (.rg false [⟨.some 6, .none, .mv (.c (.bool false))⟩]) (.seq (.rg false [⟨.some 12, .none, .mv (.t 0)⟩, ⟨.some 13, .none, .call 241 .pure [.t 12]⟩, ⟨.some 14, .none, .mv (.t 1)⟩, ⟨.some 15, .none, .call 241 .pure [.t 14]⟩, ⟨.some 16, .none, .mv (.t 2)⟩, ⟨.some 17, .none, .call 243 .pure [.t 16]⟩, ⟨.some 0, .none, .mv (.t 13)⟩, ⟨.some 1, .none, .mv (.t 15)⟩, ⟨.some 2, .none, .mv (.t 17)⟩]) (.seq (.rg false [⟨.some 19, .none, .mv (.t 0)⟩, ⟨.some 20, .none, .mv (.t 1)⟩, ⟨.some 21, .none, .call 116 .pure [.t 19, .t 20]⟩, ⟨.some 18, .none, .mv (.t 21)⟩, ⟨.some 22, .none, .ext (.t 18) 0⟩, ⟨.some 23, .none, .ext (.t 18) 1⟩, ⟨.some 7, .none, .mv (.t 22)⟩, ⟨.some 8, .none, .mv (.t 23)⟩]) (.seq (.rg false [⟨.some 25, .none, .mv (.t 0)⟩, ⟨.some 26, .none, .mv (.t 2)⟩, ⟨.some 27, .none, .call 244 .pure [.t 25, .t 26]⟩, ⟨.some 24, .none, .mv (.t 27)⟩, ⟨.some 28, .none, .ext (.t 24) 0⟩, ⟨.some 29, .none, .ext (.t 24) 1⟩, ⟨.some 9, .none, .mv (.t 28)⟩, ⟨.some 10, .none, .mv (.t 29)⟩]) (.seq (.seq (.rg false [⟨.some 30, .none, .call 240 .pure []⟩, ⟨.some 31, .none, .un .not (.t 30)⟩]) (.cond (.t 31) (.seq (.rg false [⟨.some 6, .none, .mv (.c (.bool false))⟩]) .ret) .skip)) (.seq (.seq (.rg false [⟨.some 32, .none, .mv (.t 0)⟩, ⟨.some 33, .none, .call 110 .pure [.t 32]⟩, ⟨.some 34, .none, .un .not (.t 33)⟩]) (.cond (.t 34) (.seq (.rg false [⟨.some 35, .none, .mv (.t 8)⟩, ⟨.some 36, .none, .bin .eql (.t 35) (.c (.int .i64 1))⟩, ⟨.some 37, .none, .mv (.t 36)⟩, ⟨.some 38, .some (37, true), .mv (.t 10)⟩, ⟨.some 39, .some (37, true), .bin .eql (.t 38) (.c (.int .i64 1))⟩, ⟨.some 40, .none, .pick (.t 37) (.t 39) (.c (.bool false))⟩, ⟨.some 41, .none, .mv (.t 40)⟩, ⟨.some 42, .some (41, true), .mv (.t 7)⟩, ⟨.some 43, .some (41, true), .lenL (.t 42)⟩, ⟨.some 44, .some (41, true), .mv (.t 9)⟩, ⟨.some 45, .some (41, true), .lenL (.t 44)⟩, ⟨.some 46, .some (41, true), .bin .add (.t 43) (.t 45)⟩, ⟨.some 47, .some (41, true), .bin .eql (.t 46) (.c (.int .i64 0))⟩, ⟨.some 48, .none, .pick (.t 41) (.t 47) (.c (.bool false))⟩, ⟨.some 6, .none, .mv (.t 48)⟩]) .ret) .skip)) (.seq (.seq (.rg false [⟨.some 49, .none, .mv (.t 10)⟩, ⟨.some 50, .none, .bin .neq (.t 49) (.c (.int .i64 0))⟩, ⟨.some 51, .none, .mv (.t 50)⟩, ⟨.some 52, .some (51, false), .mv (.t 9)⟩, ⟨.some 53, .some (51, false), .mv (.t 0)⟩, ⟨.some 54, .some (51, false), .mv (.t 2)⟩, ⟨.some 55, .some (51, false), .call 245 .pure [.t 53, .t 54]⟩, ⟨.some 56, .some (51, false), .call 192 .pure [.t 52, .t 55]⟩, ⟨.some 57, .some (51, false), .un .not (.t 56)⟩, ⟨.some 58, .none, .pick (.t 51) (.c (.bool true)) (.t 57)⟩]) (.cond (.t 58) (.seq (.rg false [⟨.some 6, .none, .mv (.c (.bool false))⟩]) .ret) .skip)) (.seq (.seq (.rg false [⟨.some 59, .none, .mv (.t 1)⟩, ⟨.some 60, .none, .call 110 .pure [.t 59]⟩, ⟨.some 61, .none, .un .not (.t 60)⟩]) (.cond (.t 61) (.seq (.rg false [⟨.some 62, .none, .mv (.t 8)⟩, ⟨.some 63, .none, .bin .eql (.t 62) (.c (.int .i64 1))⟩, ⟨.some 64, .none, .mv (.t 63)⟩, ⟨.some 65, .some (64, true), .mv (.t 7)⟩, ⟨.some 66, .some (64, true), .lenL (.t 65)⟩, ⟨.some 67, .some (64, true), .bin .eql (.t 66) (.c (.int .i64 0))⟩, ⟨.some 68, .none, .pick (.t 64) (.t 67) (.c (.bool false))⟩, ⟨.some 6, .none, .mv (.t 68)⟩]) .ret) .skip)) (.seq (.rg false [⟨.some 69, .none, .mv (.t 0)⟩, ⟨.some 70, .none, .mv (.t 1)⟩, ⟨.some 71, .none, .call 191 .pure [.t 69, .t 70]⟩, ⟨.some 11, .none, .mv (.t 71)⟩]) (.seq (.seq (.rg false [⟨.some 72, .none, .mv (.t 11)⟩, ⟨.some 73, .none, .lenL (.t 72)⟩, ⟨.some 74, .none, .bin .gtr (.t 73) (.c (.int .i64 8))⟩]) (.cond (.t 74) (.seq (.rg false [⟨.some 75, .none, .mv (.t 8)⟩, ⟨.some 76, .none, .bin .eql (.t 75) (.c (.int .i64 2))⟩, ⟨.some 77, .none, .mv (.t 76)⟩, ⟨.some 78, .some (77, true), .mv (.t 7)⟩, ⟨.some 79, .some (77, true), .lenL (.t 78)⟩, ⟨.some 80, .some (77, true), .bin .eql (.t 79) (.c (.int .i64 0))⟩, ⟨.some 81, .none, .pick (.t 77) (.t 80) (.c (.bool false))⟩, ⟨.some 6, .none, .mv (.t 81)⟩]) .ret) .skip)) (.seq (.rg false [⟨.some 82, .none, .mv (.t 8)⟩, ⟨.some 83, .none, .bin .eql (.t 82) (.c (.int .i64 0))⟩, ⟨.some 84, .none, .mv (.t 83)⟩, ⟨.some 85, .some (84, true), .mv (.t 7)⟩, ⟨.some 86, .some (84, true), .mv (.t 11)⟩, ⟨.some 87, .some (84, true), .call 192 .pure [.t 85, .t 86]⟩, ⟨.some 88, .none, .pick (.t 84) (.t 87) (.c (.bool false))⟩, ⟨.some 6, .none, .mv (.t 88)⟩]) .ret))))))))))))

def lz : List (Nat × Def) := [(236, d236)]

section
variable {env : Nat → Option Def} {fr : Fr} {σ σ' : St} {K : Fr → St → Prop} {Q : X → Fr → St → Prop}

theorem a245 (X : Has lx env) {l : List Lab} {ns : List ByteArray} (hn : l.length ≤ 1000) (hs : ns.length ≤ 9223372036854775807) : AV env 245 [.sl (labs l), .sl (strs ns)] = some (.sl (labs (keepL l ns))) := by
  have hll := labs_len l
  have hsl := strs_len ns
  refine AV_wp (X (245, d245) (by simp [lx])) rfl ?_
  (repeat' first
    | refine w_seq ?_
    | refine w_rg ?_
    | refine wo_nil ?_
    | refine s_plain (by simp only [go_sem, Nat.reduceEqDiff, Nat.reduceAdd, Nat.reduceLeDiff, hll]; first | done | rfl) ?_
    | refine s_void (by simp only [go_sem, Nat.reduceEqDiff, Nat.reduceAdd, Nat.reduceLeDiff, hll]; first | done | rfl) ?_
    | refine s_guard (by simp only [go_sem, Nat.reduceEqDiff, Nat.reduceAdd, Nat.reduceLeDiff, hll]; first | done | rfl) ?_
    | refine g_skU ?_
    | refine g_T (by intro hb; simp only [go_sem, Nat.reduceEqDiff, Nat.reduceAdd, Nat.reduceLeDiff, hll, hb]; first | done | rfl) ?_
    | refine g_F (by intro hb; simp only [go_sem, Nat.reduceEqDiff, Nat.reduceAdd, Nat.reduceLeDiff, hll, hb]; first | done | rfl) ?_
    | refine g_gT (by intro hb hc; simp only [go_sem, Nat.reduceEqDiff, Nat.reduceAdd, Nat.reduceLeDiff, hll, hb, hc]; first | done | rfl) ?_
    | refine g_gF (by intro hb hc; simp only [go_sem, Nat.reduceEqDiff, Nat.reduceAdd, Nat.reduceLeDiff, hll, hb, hc]; first | done | rfl) ?_
    | refine g_skT ?_
    | refine g_skF ?_
    | refine g_goT (by simp only [go_sem, Nat.reduceEqDiff, Nat.reduceAdd, Nat.reduceLeDiff, hll]; first | done | rfl) ?_
    | refine g_goF (by simp only [go_sem, Nat.reduceEqDiff, Nat.reduceAdd, Nat.reduceLeDiff, hll]; first | done | rfl) ?_
    )
  refine w_block (w_range l.length (by omega) (fun i fr σ => fr 1 = .sl (strs ns) ∧ fr 12 = .sl (labs l) ∧ Gat σ [36] 2 false (fr 5) (labs (keepL (l.take i) ns))) (by decide) ?_ ?_ ?_ _ _ ?_ ?_ ?_)
  · rintro i fr σ v ⟨h0, h1, h2⟩
    refine ⟨⟨?_, ?_, ?_⟩, ⟨?_, ?_, ?_⟩, ⟨?_, ?_, ?_⟩⟩ <;> simp only [go_sem, Nat.reduceEqDiff, Nat.reduceAdd, Nat.reduceLeDiff, h0, h1, h2]
  · rintro i fr σ hi ⟨f1, f12, hg⟩ hti htn
    have hy := labs_at (List.getElem?_eq_getElem hi)
    have e1 : (0 : Int) ≤ (i : Int) ∧ (i : Int) < (l.length : Int) := by omega
    refine w_block ?_
    simp only [lab] at hy
    (repeat' first
    | refine w_seq ?_
    | refine w_rg ?_
    | refine wo_nil ?_
    | refine s_plain (by simp only [go_sem, Nat.reduceEqDiff, Nat.reduceAdd, Nat.reduceLeDiff, f1, f12, hti, e1, hll, hsl, Int.toNat_natCast, hy, List.modify_zero_cons]; first | done | rfl) ?_
    | refine s_void (by simp only [go_sem, Nat.reduceEqDiff, Nat.reduceAdd, Nat.reduceLeDiff, f1, f12, hti, e1, hll, hsl, Int.toNat_natCast, hy, List.modify_zero_cons]; first | done | rfl) ?_
    | refine s_guard (by simp only [go_sem, Nat.reduceEqDiff, Nat.reduceAdd, Nat.reduceLeDiff, f1, f12, hti, e1, hll, hsl, Int.toNat_natCast, hy, List.modify_zero_cons]; first | done | rfl) ?_
    | refine g_skU ?_
    | refine g_T (by intro hb; simp only [go_sem, Nat.reduceEqDiff, Nat.reduceAdd, Nat.reduceLeDiff, f1, f12, hti, e1, hll, hsl, Int.toNat_natCast, hy, List.modify_zero_cons, hb]; first | done | rfl) ?_
    | refine g_F (by intro hb; simp only [go_sem, Nat.reduceEqDiff, Nat.reduceAdd, Nat.reduceLeDiff, f1, f12, hti, e1, hll, hsl, Int.toNat_natCast, hy, List.modify_zero_cons, hb]; first | done | rfl) ?_
    | refine g_gT (by intro hb hc; simp only [go_sem, Nat.reduceEqDiff, Nat.reduceAdd, Nat.reduceLeDiff, f1, f12, hti, e1, hll, hsl, Int.toNat_natCast, hy, List.modify_zero_cons, hb, hc]; first | done | rfl) ?_
    | refine g_gF (by intro hb hc; simp only [go_sem, Nat.reduceEqDiff, Nat.reduceAdd, Nat.reduceLeDiff, f1, f12, hti, e1, hll, hsl, Int.toNat_natCast, hy, List.modify_zero_cons, hb, hc]; first | done | rfl) ?_
    | refine g_skT ?_
    | refine g_skF ?_
    | refine g_goT (by simp only [go_sem, Nat.reduceEqDiff, Nat.reduceAdd, Nat.reduceLeDiff, f1, f12, hti, e1, hll, hsl, Int.toNat_natCast, hy, List.modify_zero_cons]; first | done | rfl) ?_
    | refine g_goF (by simp only [go_sem, Nat.reduceEqDiff, Nat.reduceAdd, Nat.reduceLeDiff, f1, f12, hti, e1, hll, hsl, Int.toNat_natCast, hy, List.modify_zero_cons]; first | done | rfl) ?_
    )
    have hg1 := (hg.new ⟨2, [.agg [.sc (.string ⟨#[]⟩), .sc (.string ⟨#[]⟩)]], true, true⟩ (d := 7)).put (d := 7) (k := σ.c 7) (by decide) (some ⟨2, [.agg [.sc (.string l[i].1), .sc (.string l[i].2)]], true, true⟩)
    have hm1 : ((σ.new 7 ⟨2, [.agg [.sc (.string ⟨#[]⟩), .sc (.string ⟨#[]⟩)]], true, true⟩).put 7 (σ.c 7) (some ⟨2, [.agg [.sc (.string l[i].1), .sc (.string l[i].2)]], true, true⟩)).m 7 (σ.c 7) = some ⟨2, [.agg [.sc (.string l[i].1), .sc (.string l[i].2)]], true, true⟩ := by simp [put_m]
    generalize ((σ.new 7 ⟨2, [.agg [.sc (.string ⟨#[]⟩), .sc (.string ⟨#[]⟩)]], true, true⟩).put 7 (σ.c 7) (some ⟨2, [.agg [.sc (.string l[i].1), .sc (.string l[i].2)]], true, true⟩)) = τ at hg1 hm1 ⊢
    generalize σ.c 7 = gb at hm1 ⊢
    refine w_block (w_range ns.length hs (fun j fr σ => fr 1 = .sl (strs ns) ∧ fr 12 = .sl (labs l) ∧ fr 13 = .sc (.int .i64 l.length) ∧ fr 14 = .sc (.int .i64 i) ∧ fr 18 = .sl (strs ns) ∧ fr 7 = .bx 7 gb 2 0 0 ∧ fr 8 = .sc (.bool (anyN ns l[i].1 j)) ∧ Gat σ [36] 2 false (fr 5) (labs (keepL (l.take i) ns)) ∧ σ = τ) (by decide) ?_ ?_ ?_ _ _ ?_ ?_ ?_)
    · rintro j fr σ v ⟨h1, h2, h3, h4, h5, h6, h7, h8, h9⟩
      refine ⟨⟨?_, ?_, ?_, ?_, ?_, ?_, ?_, ?_, h9⟩, ⟨?_, ?_, ?_, ?_, ?_, ?_, ?_, ?_, h9⟩, ⟨?_, ?_, ?_, ?_, ?_, ?_, ?_, ?_, h9⟩⟩ <;> simp only [go_sem, Nat.reduceEqDiff, Nat.reduceAdd, Nat.reduceLeDiff, h1, h2, h3, h4, h5, h6, h7, h8]
    · rintro j fr σ hj ⟨h1, h2, h3, h4, h5, h6, h7, h8, rfl⟩ htj htm
      have hx := strs_at (List.getElem?_eq_getElem hj)
      have e2 : (0 : Int) ≤ (j : Int) ∧ (j : Int) < (ns.length : Int) := by omega
      have hany := anyN_succ (s := l[i].1) hj
      refine w_block ?_
      (repeat' first
    | refine w_seq ?_
    | refine w_rg ?_
    | refine wo_nil ?_
    | refine s_plain (by simp only [go_sem, Nat.reduceEqDiff, Nat.reduceAdd, Nat.reduceLeDiff, h5, htj, e2, hsl, Int.toNat_natCast, hx, h6, h7, hm1]; first | done | rfl) ?_
    | refine s_void (by simp only [go_sem, Nat.reduceEqDiff, Nat.reduceAdd, Nat.reduceLeDiff, h5, htj, e2, hsl, Int.toNat_natCast, hx, h6, h7, hm1]; first | done | rfl) ?_
    | refine s_guard (by simp only [go_sem, Nat.reduceEqDiff, Nat.reduceAdd, Nat.reduceLeDiff, h5, htj, e2, hsl, Int.toNat_natCast, hx, h6, h7, hm1]; first | done | rfl) ?_
    | refine g_skU ?_
    | refine g_T (by intro hb; simp only [go_sem, Nat.reduceEqDiff, Nat.reduceAdd, Nat.reduceLeDiff, h5, htj, e2, hsl, Int.toNat_natCast, hx, h6, h7, hm1, hb]; first | done | rfl) ?_
    | refine g_F (by intro hb; simp only [go_sem, Nat.reduceEqDiff, Nat.reduceAdd, Nat.reduceLeDiff, h5, htj, e2, hsl, Int.toNat_natCast, hx, h6, h7, hm1, hb]; first | done | rfl) ?_
    | refine g_gT (by intro hb hc; simp only [go_sem, Nat.reduceEqDiff, Nat.reduceAdd, Nat.reduceLeDiff, h5, htj, e2, hsl, Int.toNat_natCast, hx, h6, h7, hm1, hb, hc]; first | done | rfl) ?_
    | refine g_gF (by intro hb hc; simp only [go_sem, Nat.reduceEqDiff, Nat.reduceAdd, Nat.reduceLeDiff, h5, htj, e2, hsl, Int.toNat_natCast, hx, h6, h7, hm1, hb, hc]; first | done | rfl) ?_
    | refine g_skT ?_
    | refine g_skF ?_
    | refine g_goT (by simp only [go_sem, Nat.reduceEqDiff, Nat.reduceAdd, Nat.reduceLeDiff, h5, htj, e2, hsl, Int.toNat_natCast, hx, h6, h7, hm1]; first | done | rfl) ?_
    | refine g_goF (by simp only [go_sem, Nat.reduceEqDiff, Nat.reduceAdd, Nat.reduceLeDiff, h5, htj, e2, hsl, Int.toNat_natCast, hx, h6, h7, hm1]; first | done | rfl) ?_
    )
      refine ⟨⟨?_, ?_, ?_, ?_, ?_, ?_, ?_, ?_, rfl⟩, ?_, ?_⟩
      · simp only [go_sem, Nat.reduceEqDiff, Nat.reduceAdd, Nat.reduceLeDiff, h1]
      · simp only [go_sem, Nat.reduceEqDiff, Nat.reduceAdd, Nat.reduceLeDiff, h2]
      · simp only [go_sem, Nat.reduceEqDiff, Nat.reduceAdd, Nat.reduceLeDiff, h3]
      · simp only [go_sem, Nat.reduceEqDiff, Nat.reduceAdd, Nat.reduceLeDiff, h4]
      · simp only [go_sem, Nat.reduceEqDiff, Nat.reduceAdd, Nat.reduceLeDiff, h5]
      · simp only [go_sem, Nat.reduceEqDiff, Nat.reduceAdd, Nat.reduceLeDiff, h6]
      · simp only [go_sem, Nat.reduceEqDiff, Nat.reduceAdd, Nat.reduceLeDiff, hany]
      · simp only [go_sem, Nat.reduceEqDiff, Nat.reduceAdd, Nat.reduceLeDiff, h8]
      · simp only [go_sem, Nat.reduceEqDiff, Nat.reduceAdd, Nat.reduceLeDiff, htj]
      · simp only [go_sem, Nat.reduceEqDiff, Nat.reduceAdd, Nat.reduceLeDiff, htm]
    · rintro fr σ ⟨h1, h2, h3, h4, h5, h6, h7, h8, rfl⟩
      try simp only [if_true]
      rw [anyN_all] at h7
      have hks := keepL_succ (ns := ns) hi
      (repeat' first
    | refine w_seq ?_
    | refine w_rg ?_
    | refine wo_nil ?_
    | refine s_plain (by simp only [go_sem, Nat.reduceEqDiff, Nat.reduceAdd, Nat.reduceLeDiff, h7]; first | done | rfl) ?_
    | refine s_void (by simp only [go_sem, Nat.reduceEqDiff, Nat.reduceAdd, Nat.reduceLeDiff, h7]; first | done | rfl) ?_
    | refine s_guard (by simp only [go_sem, Nat.reduceEqDiff, Nat.reduceAdd, Nat.reduceLeDiff, h7]; first | done | rfl) ?_
    | refine g_skU ?_
    | refine g_T (by intro hb; simp only [go_sem, Nat.reduceEqDiff, Nat.reduceAdd, Nat.reduceLeDiff, h7, hb]; first | done | rfl) ?_
    | refine g_F (by intro hb; simp only [go_sem, Nat.reduceEqDiff, Nat.reduceAdd, Nat.reduceLeDiff, h7, hb]; first | done | rfl) ?_
    | refine g_gT (by intro hb hc; simp only [go_sem, Nat.reduceEqDiff, Nat.reduceAdd, Nat.reduceLeDiff, h7, hb, hc]; first | done | rfl) ?_
    | refine g_gF (by intro hb hc; simp only [go_sem, Nat.reduceEqDiff, Nat.reduceAdd, Nat.reduceLeDiff, h7, hb, hc]; first | done | rfl) ?_
    | refine g_skT ?_
    | refine g_skF ?_
    | refine g_goT (by simp only [go_sem, Nat.reduceEqDiff, Nat.reduceAdd, Nat.reduceLeDiff, h7]; first | done | rfl) ?_
    | refine g_goF (by simp only [go_sem, Nat.reduceEqDiff, Nat.reduceAdd, Nat.reduceLeDiff, h7]; first | done | rfl) ?_
    )
      cases hk : hasN ns l[i].1 with
      | false =>
        rw [hk, if_neg (by decide), List.append_nil] at hks
        (repeat' first
    | refine w_seq ?_
    | refine w_rg ?_
    | refine wo_nil ?_
    | refine s_plain (by simp only [go_sem, Nat.reduceEqDiff, Nat.reduceAdd, Nat.reduceLeDiff]; first | done | rfl) ?_
    | refine s_void (by simp only [go_sem, Nat.reduceEqDiff, Nat.reduceAdd, Nat.reduceLeDiff]; first | done | rfl) ?_
    | refine s_guard (by simp only [go_sem, Nat.reduceEqDiff, Nat.reduceAdd, Nat.reduceLeDiff]; first | done | rfl) ?_
    | refine g_skU ?_
    | refine g_T (by intro hb; simp only [go_sem, Nat.reduceEqDiff, Nat.reduceAdd, Nat.reduceLeDiff, hb]; first | done | rfl) ?_
    | refine g_F (by intro hb; simp only [go_sem, Nat.reduceEqDiff, Nat.reduceAdd, Nat.reduceLeDiff, hb]; first | done | rfl) ?_
    | refine g_gT (by intro hb hc; simp only [go_sem, Nat.reduceEqDiff, Nat.reduceAdd, Nat.reduceLeDiff, hb, hc]; first | done | rfl) ?_
    | refine g_gF (by intro hb hc; simp only [go_sem, Nat.reduceEqDiff, Nat.reduceAdd, Nat.reduceLeDiff, hb, hc]; first | done | rfl) ?_
    | refine g_skT ?_
    | refine g_skF ?_
    | refine g_goT (by simp only [go_sem, Nat.reduceEqDiff, Nat.reduceAdd, Nat.reduceLeDiff]; first | done | rfl) ?_
    | refine g_goF (by simp only [go_sem, Nat.reduceEqDiff, Nat.reduceAdd, Nat.reduceLeDiff]; first | done | rfl) ?_
    | refine w_condT (by simp only [go_sem, Nat.reduceEqDiff, Nat.reduceAdd, Nat.reduceLeDiff]; first | done | rfl) ?_
    | refine w_condF (by simp only [go_sem, Nat.reduceEqDiff, Nat.reduceAdd, Nat.reduceLeDiff]; first | done | rfl) ?_
    | refine w_skip ?_
    | refine w_exit ?_
    | refine w_ret ?_
    )
        refine ⟨⟨?_, ?_, ?_⟩, ?_, ?_⟩
        · simp only [go_sem, Nat.reduceEqDiff, Nat.reduceAdd, Nat.reduceLeDiff, h1]
        · simp only [go_sem, Nat.reduceEqDiff, Nat.reduceAdd, Nat.reduceLeDiff, h2]
        · simp only [go_sem, Nat.reduceEqDiff, Nat.reduceAdd, Nat.reduceLeDiff]; rw [hks]; exact h8
        · simp only [go_sem, Nat.reduceEqDiff, Nat.reduceAdd, Nat.reduceLeDiff, h4]
        · simp only [go_sem, Nat.reduceEqDiff, Nat.reduceAdd, Nat.reduceLeDiff, h3]
      | true =>
        rw [hk, if_pos rfl] at hks
        (repeat' first
    | refine w_seq ?_
    | refine w_rg ?_
    | refine wo_nil ?_
    | refine s_plain (by simp only [go_sem, Nat.reduceEqDiff, Nat.reduceAdd, Nat.reduceLeDiff]; first | done | rfl) ?_
    | refine s_void (by simp only [go_sem, Nat.reduceEqDiff, Nat.reduceAdd, Nat.reduceLeDiff]; first | done | rfl) ?_
    | refine s_guard (by simp only [go_sem, Nat.reduceEqDiff, Nat.reduceAdd, Nat.reduceLeDiff]; first | done | rfl) ?_
    | refine g_skU ?_
    | refine g_T (by intro hb; simp only [go_sem, Nat.reduceEqDiff, Nat.reduceAdd, Nat.reduceLeDiff, hb]; first | done | rfl) ?_
    | refine g_F (by intro hb; simp only [go_sem, Nat.reduceEqDiff, Nat.reduceAdd, Nat.reduceLeDiff, hb]; first | done | rfl) ?_
    | refine g_gT (by intro hb hc; simp only [go_sem, Nat.reduceEqDiff, Nat.reduceAdd, Nat.reduceLeDiff, hb, hc]; first | done | rfl) ?_
    | refine g_gF (by intro hb hc; simp only [go_sem, Nat.reduceEqDiff, Nat.reduceAdd, Nat.reduceLeDiff, hb, hc]; first | done | rfl) ?_
    | refine g_skT ?_
    | refine g_skF ?_
    | refine g_goT (by simp only [go_sem, Nat.reduceEqDiff, Nat.reduceAdd, Nat.reduceLeDiff]; first | done | rfl) ?_
    | refine g_goF (by simp only [go_sem, Nat.reduceEqDiff, Nat.reduceAdd, Nat.reduceLeDiff]; first | done | rfl) ?_
    | refine w_condT (by simp only [go_sem, Nat.reduceEqDiff, Nat.reduceAdd, Nat.reduceLeDiff]; first | done | rfl) ?_
    | refine w_condF (by simp only [go_sem, Nat.reduceEqDiff, Nat.reduceAdd, Nat.reduceLeDiff]; first | done | rfl) ?_
    | refine w_skip ?_
    | refine w_exit ?_
    | refine w_ret ?_
    )
        (repeat' first
    | refine w_seq ?_
    | refine w_rg ?_
    | refine wo_nil ?_
    | refine s_plain (by simp only [go_sem, Nat.reduceEqDiff, Nat.reduceAdd, Nat.reduceLeDiff, h6, hm1, fillE, List.replicate_succ, List.replicate_zero, List.set_cons_zero]; first | done | rfl) ?_
    | refine s_void (by simp only [go_sem, Nat.reduceEqDiff, Nat.reduceAdd, Nat.reduceLeDiff, h6, hm1, fillE, List.replicate_succ, List.replicate_zero, List.set_cons_zero]; first | done | rfl) ?_
    | refine s_guard (by simp only [go_sem, Nat.reduceEqDiff, Nat.reduceAdd, Nat.reduceLeDiff, h6, hm1, fillE, List.replicate_succ, List.replicate_zero, List.set_cons_zero]; first | done | rfl) ?_
    | refine g_skU ?_
    | refine g_T (by intro hb; simp only [go_sem, Nat.reduceEqDiff, Nat.reduceAdd, Nat.reduceLeDiff, h6, hm1, fillE, List.replicate_succ, List.replicate_zero, List.set_cons_zero, hb]; first | done | rfl) ?_
    | refine g_F (by intro hb; simp only [go_sem, Nat.reduceEqDiff, Nat.reduceAdd, Nat.reduceLeDiff, h6, hm1, fillE, List.replicate_succ, List.replicate_zero, List.set_cons_zero, hb]; first | done | rfl) ?_
    | refine g_gT (by intro hb hc; simp only [go_sem, Nat.reduceEqDiff, Nat.reduceAdd, Nat.reduceLeDiff, h6, hm1, fillE, List.replicate_succ, List.replicate_zero, List.set_cons_zero, hb, hc]; first | done | rfl) ?_
    | refine g_gF (by intro hb hc; simp only [go_sem, Nat.reduceEqDiff, Nat.reduceAdd, Nat.reduceLeDiff, h6, hm1, fillE, List.replicate_succ, List.replicate_zero, List.set_cons_zero, hb, hc]; first | done | rfl) ?_
    | refine g_skT ?_
    | refine g_skF ?_
    | refine g_goT (by simp only [go_sem, Nat.reduceEqDiff, Nat.reduceAdd, Nat.reduceLeDiff, h6, hm1, fillE, List.replicate_succ, List.replicate_zero, List.set_cons_zero]; first | done | rfl) ?_
    | refine g_goF (by simp only [go_sem, Nat.reduceEqDiff, Nat.reduceAdd, Nat.reduceLeDiff, h6, hm1, fillE, List.replicate_succ, List.replicate_zero, List.set_cons_zero]; first | done | rfl) ?_
    )
        have hlen : (labs (keepL (l.take i) ns)).length ≤ 1000 := by
          have := keepL_len (l.take i) ns
          rw [List.length_take] at this
          rw [labs_len]; omega
        refine s_gat (os := [36]) (w := false) (xs := labs (keepL (l.take i) ns)) (e := .agg [.sc (.string l[i].1), .sc (.string l[i].2)]) (by simp only [go_sem, Nat.reduceEqDiff, Nat.reduceAdd, Nat.reduceLeDiff]; exact h8.new _) (by decide) (by simp only [go_sem, Nat.reduceEqDiff, Nat.reduceAdd, Nat.reduceLeDiff, srcOf, elemsOf, List.drop_zero]) rfl rfl (by omega) ?_
        intro p σ' hg2
        simp only [Bool.false_and] at hg2
        (repeat' first
    | refine w_seq ?_
    | refine w_rg ?_
    | refine wo_nil ?_
    | refine s_plain (by simp only [go_sem, Nat.reduceEqDiff, Nat.reduceAdd, Nat.reduceLeDiff]; first | done | rfl) ?_
    | refine s_void (by simp only [go_sem, Nat.reduceEqDiff, Nat.reduceAdd, Nat.reduceLeDiff]; first | done | rfl) ?_
    | refine s_guard (by simp only [go_sem, Nat.reduceEqDiff, Nat.reduceAdd, Nat.reduceLeDiff]; first | done | rfl) ?_
    | refine g_skU ?_
    | refine g_T (by intro hb; simp only [go_sem, Nat.reduceEqDiff, Nat.reduceAdd, Nat.reduceLeDiff, hb]; first | done | rfl) ?_
    | refine g_F (by intro hb; simp only [go_sem, Nat.reduceEqDiff, Nat.reduceAdd, Nat.reduceLeDiff, hb]; first | done | rfl) ?_
    | refine g_gT (by intro hb hc; simp only [go_sem, Nat.reduceEqDiff, Nat.reduceAdd, Nat.reduceLeDiff, hb, hc]; first | done | rfl) ?_
    | refine g_gF (by intro hb hc; simp only [go_sem, Nat.reduceEqDiff, Nat.reduceAdd, Nat.reduceLeDiff, hb, hc]; first | done | rfl) ?_
    | refine g_skT ?_
    | refine g_skF ?_
    | refine g_goT (by simp only [go_sem, Nat.reduceEqDiff, Nat.reduceAdd, Nat.reduceLeDiff]; first | done | rfl) ?_
    | refine g_goF (by simp only [go_sem, Nat.reduceEqDiff, Nat.reduceAdd, Nat.reduceLeDiff]; first | done | rfl) ?_
    | refine w_condT (by simp only [go_sem, Nat.reduceEqDiff, Nat.reduceAdd, Nat.reduceLeDiff]; first | done | rfl) ?_
    | refine w_condF (by simp only [go_sem, Nat.reduceEqDiff, Nat.reduceAdd, Nat.reduceLeDiff]; first | done | rfl) ?_
    | refine w_skip ?_
    | refine w_exit ?_
    | refine w_ret ?_
    )
        refine ⟨⟨?_, ?_, ?_⟩, ?_, ?_⟩
        · simp only [go_sem, Nat.reduceEqDiff, Nat.reduceAdd, Nat.reduceLeDiff, h1]
        · simp only [go_sem, Nat.reduceEqDiff, Nat.reduceAdd, Nat.reduceLeDiff, h2]
        · simp only [go_sem, Nat.reduceEqDiff, Nat.reduceAdd, Nat.reduceLeDiff]; rw [hks]; simpa [labs, lab] using hg2
        · simp only [go_sem, Nat.reduceEqDiff, Nat.reduceAdd, Nat.reduceLeDiff, h4]
        · simp only [go_sem, Nat.reduceEqDiff, Nat.reduceAdd, Nat.reduceLeDiff, h3]
    · refine ⟨?_, ?_, ?_, ?_, ?_, ?_, ?_, ?_, rfl⟩
      · simp only [go_sem, Nat.reduceEqDiff, Nat.reduceAdd, Nat.reduceLeDiff, f1]
      · simp only [go_sem, Nat.reduceEqDiff, Nat.reduceAdd, Nat.reduceLeDiff, f12]
      · simp only [go_sem, Nat.reduceEqDiff, Nat.reduceAdd, Nat.reduceLeDiff, htn]
      · simp only [go_sem, Nat.reduceEqDiff, Nat.reduceAdd, Nat.reduceLeDiff, hti]
      · simp only [go_sem, Nat.reduceEqDiff, Nat.reduceAdd, Nat.reduceLeDiff, f1]
      · simp only [go_sem, Nat.reduceEqDiff, Nat.reduceAdd, Nat.reduceLeDiff]
      · simp only [go_sem, Nat.reduceEqDiff, Nat.reduceAdd, Nat.reduceLeDiff]; rfl
      · simp only [go_sem, Nat.reduceEqDiff, Nat.reduceAdd, Nat.reduceLeDiff]; exact hg1
    · simp only [go_sem, Nat.reduceEqDiff, Nat.reduceAdd, Nat.reduceLeDiff]
    · simp only [go_sem, Nat.reduceEqDiff, Nat.reduceAdd, Nat.reduceLeDiff, f1, hsl]
  · rintro fr σ ⟨f1, f12, hg⟩
    try simp only [if_true]
    rw [List.take_of_length_le (Nat.le_refl _)] at hg
    have hfz := hg.fz (labs_fz σ _)
    (repeat' first
    | refine w_seq ?_
    | refine w_rg ?_
    | refine wo_nil ?_
    | refine s_plain (by simp only [go_sem, Nat.reduceEqDiff, Nat.reduceAdd, Nat.reduceLeDiff]; first | done | rfl) ?_
    | refine s_void (by simp only [go_sem, Nat.reduceEqDiff, Nat.reduceAdd, Nat.reduceLeDiff]; first | done | rfl) ?_
    | refine s_guard (by simp only [go_sem, Nat.reduceEqDiff, Nat.reduceAdd, Nat.reduceLeDiff]; first | done | rfl) ?_
    | refine g_skU ?_
    | refine g_T (by intro hb; simp only [go_sem, Nat.reduceEqDiff, Nat.reduceAdd, Nat.reduceLeDiff, hb]; first | done | rfl) ?_
    | refine g_F (by intro hb; simp only [go_sem, Nat.reduceEqDiff, Nat.reduceAdd, Nat.reduceLeDiff, hb]; first | done | rfl) ?_
    | refine g_gT (by intro hb hc; simp only [go_sem, Nat.reduceEqDiff, Nat.reduceAdd, Nat.reduceLeDiff, hb, hc]; first | done | rfl) ?_
    | refine g_gF (by intro hb hc; simp only [go_sem, Nat.reduceEqDiff, Nat.reduceAdd, Nat.reduceLeDiff, hb, hc]; first | done | rfl) ?_
    | refine g_skT ?_
    | refine g_skF ?_
    | refine g_goT (by simp only [go_sem, Nat.reduceEqDiff, Nat.reduceAdd, Nat.reduceLeDiff]; first | done | rfl) ?_
    | refine g_goF (by simp only [go_sem, Nat.reduceEqDiff, Nat.reduceAdd, Nat.reduceLeDiff]; first | done | rfl) ?_
    | refine w_condT (by simp only [go_sem, Nat.reduceEqDiff, Nat.reduceAdd, Nat.reduceLeDiff]; first | done | rfl) ?_
    | refine w_condF (by simp only [go_sem, Nat.reduceEqDiff, Nat.reduceAdd, Nat.reduceLeDiff]; first | done | rfl) ?_
    | refine w_skip ?_
    | refine w_exit ?_
    | refine w_ret ?_
    )
    exact ⟨.inr rfl, by simp only [go_sem, Nat.reduceEqDiff, Nat.reduceAdd, Nat.reduceLeDiff, retOf, resOf, hfz]⟩
  · exact ⟨by simp only [go_sem, Nat.reduceEqDiff, Nat.reduceAdd, Nat.reduceLeDiff], by simp only [go_sem, Nat.reduceEqDiff, Nat.reduceAdd, Nat.reduceLeDiff], by simp only [go_sem, Nat.reduceEqDiff, Nat.reduceAdd, Nat.reduceLeDiff]; exact .em⟩
  · simp only [go_sem, Nat.reduceEqDiff, Nat.reduceAdd, Nat.reduceLeDiff]
  · simp only [go_sem, Nat.reduceEqDiff, Nat.reduceAdd, Nat.reduceLeDiff, hll]

theorem same_self (a : List Lab) : sameL a a = true := by unfold sameL; exact decide_eq_true rfl

theorem a236 (H : Has la0 env) (G : Has lc env) (L : Has ll0 env) (M : Has lm0 env) (N : Has ln0 env) (O : Has lo env) (P : Has lp env) (V : Has lq0 env) (R : Has lr env) (W : Has lw env) (X : Has lx env) (Y : Has ly env) (Z : Has lz env) (B : Bits env)
    (hal : AV env 240 [] = some (.sc (.bool true))) {l over : List Lab} {ns : List ByteArray} (hl : l.length ≤ 9223372036854775807) (ho : over.length ≤ 9223372036854775807) (hs : ns.length ≤ 9223372036854775807) :
    AV env 236 [.sl (labs l), .sl (labs over), .sl (strs ns)] = some (.sc (.bool true)) := by
  have g1 := few_g (W (241, d108) (by simp [lw])) hl
  have g2 := few_g (W (241, d108) (by simp [lw])) ho
  have g3 := a243 X hs
  have k1 : (fewL l).length ≤ 10 := by rw [fewL_len]; omega
  have k2 : (fewL over).length ≤ 10 := by rw [fewL_len]; omega
  have k3 : (cutN ns).length ≤ 10 := by rw [cutN_len]; omega
  have s1 := fewL_smalls l
  have s2 := fewL_smalls over
  generalize fewL l = a at g1 k1 s1
  generalize fewL over = b at g2 k2 s2
  generalize cutN ns = n at g3 k3
  have h116 := a116 H G O P V B (l := a) (over := b) (by omega) s1 (by omega) s2
  have h244 := a244 H G V X Y (l := a) (by omega) s1 (ns := n) (by omega)
  have h110 := a110 L M (l := a) (by omega) s1
  have h110b := a110 L M (l := b) (by omega) s2
  have h245 := a245 X (l := a) (ns := n) (by omega) (by omega)
  have h191 := a191 L R (l := a) (over := b) (by omega) s1 (by omega) s2
  refine AV_wp (Z (236, d236) (by simp [lz])) rfl ?_
  cases hr1 : rightL a with
  | false =>
    have e1 : withL a b = ([], 1) := by unfold withL; rw [hr1]; rfl
    have e2 : keptL a n = ([], 1) := by unfold keptL; rw [hr1]; rfl
    rw [e1] at h116
    rw [e2] at h244
    rw [hr1] at h110
    (repeat' first
    | refine w_seq ?_
    | refine w_rg ?_
    | refine wo_nil ?_
    | refine s_plain (by simp only [go_sem, Nat.reduceEqDiff, Nat.reduceAdd, Nat.reduceLeDiff, g1, g2, g3, h116, h244, h110, hal]; first | done | rfl) ?_
    | refine s_void (by simp only [go_sem, Nat.reduceEqDiff, Nat.reduceAdd, Nat.reduceLeDiff, g1, g2, g3, h116, h244, h110, hal]; first | done | rfl) ?_
    | refine s_guard (by simp only [go_sem, Nat.reduceEqDiff, Nat.reduceAdd, Nat.reduceLeDiff, g1, g2, g3, h116, h244, h110, hal]; first | done | rfl) ?_
    | refine g_skU ?_
    | refine g_T (by intro hb; simp only [go_sem, Nat.reduceEqDiff, Nat.reduceAdd, Nat.reduceLeDiff, g1, g2, g3, h116, h244, h110, hal, hb]; first | done | rfl) ?_
    | refine g_F (by intro hb; simp only [go_sem, Nat.reduceEqDiff, Nat.reduceAdd, Nat.reduceLeDiff, g1, g2, g3, h116, h244, h110, hal, hb]; first | done | rfl) ?_
    | refine g_gT (by intro hb hc; simp only [go_sem, Nat.reduceEqDiff, Nat.reduceAdd, Nat.reduceLeDiff, g1, g2, g3, h116, h244, h110, hal, hb, hc]; first | done | rfl) ?_
    | refine g_gF (by intro hb hc; simp only [go_sem, Nat.reduceEqDiff, Nat.reduceAdd, Nat.reduceLeDiff, g1, g2, g3, h116, h244, h110, hal, hb, hc]; first | done | rfl) ?_
    | refine g_skT ?_
    | refine g_skF ?_
    | refine g_goT (by simp only [go_sem, Nat.reduceEqDiff, Nat.reduceAdd, Nat.reduceLeDiff, g1, g2, g3, h116, h244, h110, hal]; first | done | rfl) ?_
    | refine g_goF (by simp only [go_sem, Nat.reduceEqDiff, Nat.reduceAdd, Nat.reduceLeDiff, g1, g2, g3, h116, h244, h110, hal]; first | done | rfl) ?_
    | refine w_condT (by simp only [go_sem, Nat.reduceEqDiff, Nat.reduceAdd, Nat.reduceLeDiff, g1, g2, g3, h116, h244, h110, hal]; first | done | rfl) ?_
    | refine w_condF (by simp only [go_sem, Nat.reduceEqDiff, Nat.reduceAdd, Nat.reduceLeDiff, g1, g2, g3, h116, h244, h110, hal]; first | done | rfl) ?_
    | refine w_skip ?_
    | refine w_exit ?_
    | refine w_ret ?_
    )
    exact ⟨.inr rfl, by simp only [go_sem, Nat.reduceEqDiff, Nat.reduceAdd, Nat.reduceLeDiff, retOf, resOf]; rfl⟩
  | true =>
    have e2 : keptL a n = (keepL a n, 0) := by unfold keptL; rw [hr1]; rfl
    have h192 := a192 N (a := keepL a n) (b := keepL a n) (by have := keepL_len a n; omega)
    rw [same_self] at h192
    rw [e2] at h244
    rw [hr1] at h110
    cases hr2 : rightL b with
    | false =>
      have e1 : withL a b = ([], 1) := by unfold withL; rw [hr1, hr2]; rfl
      rw [e1] at h116
      rw [hr2] at h110b
      (repeat' first
    | refine w_seq ?_
    | refine w_rg ?_
    | refine wo_nil ?_
    | refine s_plain (by simp only [go_sem, Nat.reduceEqDiff, Nat.reduceAdd, Nat.reduceLeDiff, g1, g2, g3, h116, h244, h110, h110b, hal, h245, h192]; first | done | rfl) ?_
    | refine s_void (by simp only [go_sem, Nat.reduceEqDiff, Nat.reduceAdd, Nat.reduceLeDiff, g1, g2, g3, h116, h244, h110, h110b, hal, h245, h192]; first | done | rfl) ?_
    | refine s_guard (by simp only [go_sem, Nat.reduceEqDiff, Nat.reduceAdd, Nat.reduceLeDiff, g1, g2, g3, h116, h244, h110, h110b, hal, h245, h192]; first | done | rfl) ?_
    | refine g_skU ?_
    | refine g_T (by intro hb; simp only [go_sem, Nat.reduceEqDiff, Nat.reduceAdd, Nat.reduceLeDiff, g1, g2, g3, h116, h244, h110, h110b, hal, h245, h192, hb]; first | done | rfl) ?_
    | refine g_F (by intro hb; simp only [go_sem, Nat.reduceEqDiff, Nat.reduceAdd, Nat.reduceLeDiff, g1, g2, g3, h116, h244, h110, h110b, hal, h245, h192, hb]; first | done | rfl) ?_
    | refine g_gT (by intro hb hc; simp only [go_sem, Nat.reduceEqDiff, Nat.reduceAdd, Nat.reduceLeDiff, g1, g2, g3, h116, h244, h110, h110b, hal, h245, h192, hb, hc]; first | done | rfl) ?_
    | refine g_gF (by intro hb hc; simp only [go_sem, Nat.reduceEqDiff, Nat.reduceAdd, Nat.reduceLeDiff, g1, g2, g3, h116, h244, h110, h110b, hal, h245, h192, hb, hc]; first | done | rfl) ?_
    | refine g_skT ?_
    | refine g_skF ?_
    | refine g_goT (by simp only [go_sem, Nat.reduceEqDiff, Nat.reduceAdd, Nat.reduceLeDiff, g1, g2, g3, h116, h244, h110, h110b, hal, h245, h192]; first | done | rfl) ?_
    | refine g_goF (by simp only [go_sem, Nat.reduceEqDiff, Nat.reduceAdd, Nat.reduceLeDiff, g1, g2, g3, h116, h244, h110, h110b, hal, h245, h192]; first | done | rfl) ?_
    | refine w_condT (by simp only [go_sem, Nat.reduceEqDiff, Nat.reduceAdd, Nat.reduceLeDiff, g1, g2, g3, h116, h244, h110, h110b, hal, h245, h192]; first | done | rfl) ?_
    | refine w_condF (by simp only [go_sem, Nat.reduceEqDiff, Nat.reduceAdd, Nat.reduceLeDiff, g1, g2, g3, h116, h244, h110, h110b, hal, h245, h192]; first | done | rfl) ?_
    | refine w_skip ?_
    | refine w_exit ?_
    | refine w_ret ?_
    )
      exact ⟨.inr rfl, by simp only [go_sem, Nat.reduceEqDiff, Nat.reduceAdd, Nat.reduceLeDiff, retOf, resOf]; rfl⟩
    | true =>
      rw [hr2] at h110b
      have e1 := withL_right hr1 hr2
      by_cases h8 : (overL a b).length > 8
      · rw [if_pos h8] at e1
        rw [e1] at h116
        have hd : decide ((((sortedL (overL a b)).length : Nat) : Int) > 8) = true := by rw [sortedL_len]; exact decide_eq_true (by omega)
        have hlb := labs_len (sortedL (overL a b))
        (repeat' first
    | refine w_seq ?_
    | refine w_rg ?_
    | refine wo_nil ?_
    | refine s_plain (by simp only [go_sem, Nat.reduceEqDiff, Nat.reduceAdd, Nat.reduceLeDiff, g1, g2, g3, h116, h244, h110, h110b, hal, h245, h192, h191, hd, hlb]; first | done | rfl) ?_
    | refine s_void (by simp only [go_sem, Nat.reduceEqDiff, Nat.reduceAdd, Nat.reduceLeDiff, g1, g2, g3, h116, h244, h110, h110b, hal, h245, h192, h191, hd, hlb]; first | done | rfl) ?_
    | refine s_guard (by simp only [go_sem, Nat.reduceEqDiff, Nat.reduceAdd, Nat.reduceLeDiff, g1, g2, g3, h116, h244, h110, h110b, hal, h245, h192, h191, hd, hlb]; first | done | rfl) ?_
    | refine g_skU ?_
    | refine g_T (by intro hb; simp only [go_sem, Nat.reduceEqDiff, Nat.reduceAdd, Nat.reduceLeDiff, g1, g2, g3, h116, h244, h110, h110b, hal, h245, h192, h191, hd, hlb, hb]; first | done | rfl) ?_
    | refine g_F (by intro hb; simp only [go_sem, Nat.reduceEqDiff, Nat.reduceAdd, Nat.reduceLeDiff, g1, g2, g3, h116, h244, h110, h110b, hal, h245, h192, h191, hd, hlb, hb]; first | done | rfl) ?_
    | refine g_gT (by intro hb hc; simp only [go_sem, Nat.reduceEqDiff, Nat.reduceAdd, Nat.reduceLeDiff, g1, g2, g3, h116, h244, h110, h110b, hal, h245, h192, h191, hd, hlb, hb, hc]; first | done | rfl) ?_
    | refine g_gF (by intro hb hc; simp only [go_sem, Nat.reduceEqDiff, Nat.reduceAdd, Nat.reduceLeDiff, g1, g2, g3, h116, h244, h110, h110b, hal, h245, h192, h191, hd, hlb, hb, hc]; first | done | rfl) ?_
    | refine g_skT ?_
    | refine g_skF ?_
    | refine g_goT (by simp only [go_sem, Nat.reduceEqDiff, Nat.reduceAdd, Nat.reduceLeDiff, g1, g2, g3, h116, h244, h110, h110b, hal, h245, h192, h191, hd, hlb]; first | done | rfl) ?_
    | refine g_goF (by simp only [go_sem, Nat.reduceEqDiff, Nat.reduceAdd, Nat.reduceLeDiff, g1, g2, g3, h116, h244, h110, h110b, hal, h245, h192, h191, hd, hlb]; first | done | rfl) ?_
    | refine w_condT (by simp only [go_sem, Nat.reduceEqDiff, Nat.reduceAdd, Nat.reduceLeDiff, g1, g2, g3, h116, h244, h110, h110b, hal, h245, h192, h191, hd, hlb]; first | done | rfl) ?_
    | refine w_condF (by simp only [go_sem, Nat.reduceEqDiff, Nat.reduceAdd, Nat.reduceLeDiff, g1, g2, g3, h116, h244, h110, h110b, hal, h245, h192, h191, hd, hlb]; first | done | rfl) ?_
    | refine w_skip ?_
    | refine w_exit ?_
    | refine w_ret ?_
    )
        exact ⟨.inr rfl, by simp only [go_sem, Nat.reduceEqDiff, Nat.reduceAdd, Nat.reduceLeDiff, retOf, resOf]; rfl⟩
      · rw [if_neg h8] at e1
        rw [e1] at h116
        have hd : decide ((((sortedL (overL a b)).length : Nat) : Int) > 8) = false := by rw [sortedL_len]; exact decide_eq_false (by omega)
        have hlb := labs_len (sortedL (overL a b))
        have h192' := a192 N (a := sortedL (overL a b)) (b := sortedL (overL a b)) (by rw [sortedL_len]; have := overL_len a b; omega)
        rw [same_self] at h192'
        (repeat' first
    | refine w_seq ?_
    | refine w_rg ?_
    | refine wo_nil ?_
    | refine s_plain (by simp only [go_sem, Nat.reduceEqDiff, Nat.reduceAdd, Nat.reduceLeDiff, g1, g2, g3, h116, h244, h110, h110b, hal, h245, h192, h191, hd, hlb, h192']; first | done | rfl) ?_
    | refine s_void (by simp only [go_sem, Nat.reduceEqDiff, Nat.reduceAdd, Nat.reduceLeDiff, g1, g2, g3, h116, h244, h110, h110b, hal, h245, h192, h191, hd, hlb, h192']; first | done | rfl) ?_
    | refine s_guard (by simp only [go_sem, Nat.reduceEqDiff, Nat.reduceAdd, Nat.reduceLeDiff, g1, g2, g3, h116, h244, h110, h110b, hal, h245, h192, h191, hd, hlb, h192']; first | done | rfl) ?_
    | refine g_skU ?_
    | refine g_T (by intro hb; simp only [go_sem, Nat.reduceEqDiff, Nat.reduceAdd, Nat.reduceLeDiff, g1, g2, g3, h116, h244, h110, h110b, hal, h245, h192, h191, hd, hlb, h192', hb]; first | done | rfl) ?_
    | refine g_F (by intro hb; simp only [go_sem, Nat.reduceEqDiff, Nat.reduceAdd, Nat.reduceLeDiff, g1, g2, g3, h116, h244, h110, h110b, hal, h245, h192, h191, hd, hlb, h192', hb]; first | done | rfl) ?_
    | refine g_gT (by intro hb hc; simp only [go_sem, Nat.reduceEqDiff, Nat.reduceAdd, Nat.reduceLeDiff, g1, g2, g3, h116, h244, h110, h110b, hal, h245, h192, h191, hd, hlb, h192', hb, hc]; first | done | rfl) ?_
    | refine g_gF (by intro hb hc; simp only [go_sem, Nat.reduceEqDiff, Nat.reduceAdd, Nat.reduceLeDiff, g1, g2, g3, h116, h244, h110, h110b, hal, h245, h192, h191, hd, hlb, h192', hb, hc]; first | done | rfl) ?_
    | refine g_skT ?_
    | refine g_skF ?_
    | refine g_goT (by simp only [go_sem, Nat.reduceEqDiff, Nat.reduceAdd, Nat.reduceLeDiff, g1, g2, g3, h116, h244, h110, h110b, hal, h245, h192, h191, hd, hlb, h192']; first | done | rfl) ?_
    | refine g_goF (by simp only [go_sem, Nat.reduceEqDiff, Nat.reduceAdd, Nat.reduceLeDiff, g1, g2, g3, h116, h244, h110, h110b, hal, h245, h192, h191, hd, hlb, h192']; first | done | rfl) ?_
    | refine w_condT (by simp only [go_sem, Nat.reduceEqDiff, Nat.reduceAdd, Nat.reduceLeDiff, g1, g2, g3, h116, h244, h110, h110b, hal, h245, h192, h191, hd, hlb, h192']; first | done | rfl) ?_
    | refine w_condF (by simp only [go_sem, Nat.reduceEqDiff, Nat.reduceAdd, Nat.reduceLeDiff, g1, g2, g3, h116, h244, h110, h110b, hal, h245, h192, h191, hd, hlb, h192']; first | done | rfl) ?_
    | refine w_skip ?_
    | refine w_exit ?_
    | refine w_ret ?_
    )
        exact ⟨.inr rfl, by simp only [go_sem, Nat.reduceEqDiff, Nat.reduceAdd, Nat.reduceLeDiff, retOf, resOf]; rfl⟩

end
end Go.Proofs.YtjijlmfhnkipmaaDoorPv
